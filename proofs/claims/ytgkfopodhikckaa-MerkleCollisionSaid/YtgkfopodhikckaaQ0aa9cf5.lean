/- Collision of merkle. Condition: at most 10^9 nodes. -/
import Derived.Test.YtgkfopodhikckaaQbdae684
import Derived.Deep.Strs
set_option linter.unusedSimpArgs false
set_option linter.unusedVariables false
/- Elements of an array that lies in a variable; the law MerkleNodes. Condition: at most 300 bytes. -/
namespace Go.Proofs.Ytgkfopodhikckaa
open Go.RowKit
attribute [local irreducible] wpQuiet wpList
section
variable {P : Program} {w0 w : World} {S : List Nat} {bs bs' : List (Nat × Obj)} {rows : List Row} {ops : Array Oper} {rest : List Oper} {a : Act} {Q : Exit → Act → World → Prop} {C : World → Prop} {K : Act → Prop} {ρ : Operand → Value} {dst : Option Tmp} {ty : TypeId} {pos : String} {after : Array Edge} {guard : Option (Nat × Bool)}
theorem ex_indexE {t e : TypeId} {n sz : Nat} {x i : Operand} {g j m : Nat} {q : Int} {k : IntKind} (ht : P.underlying t = some (.array n e)) (he : (P.info? e).map (·.size) = some sz) (h0 : 0 < sz) (hx : ρ x = .pointer (some ⟨g, j, none⟩))
    (hi : ρ i = .int k q) (hq : q = (m : Int)) (hm : m < n) (w : World) :
    (execOp ρ { dst := dst, op := .indexAddr t x i, type := ty, pos := pos, after := after, guard := guard }).run P w = .ok (.value (.pointer (some ⟨g, j + m * sz, none⟩))) w := by
  subst hq
  have hadd : (⟨g, j, none⟩ : Addr).add (m * sz) = ⟨g, j + m * sz, none⟩ := by unfold Addr.add; split <;> simp_all
  have hc : (0 : Int) ≤ (m : Int) ∧ (m : Int) < n := by omega
  simp only [execOp, hx, hi, Instr.indexAt, asIntOf, Sem.run_bind, Sem.run_pure, Result.andThen_ok, run_underlying ht, Instr.sureAddr, run_sizeOf he, hc, and_self, if_true, Int.toNat_natCast, hadd]
theorem wpQ_indexE {t e : TypeId} {n sz : Nat} {x i : Operand} {g j m : Nat} {q : Int} {k : IntKind} (ht : P.underlying t = some (.array n e)) (he : (P.info? e).map (·.size) = some sz) (h0 : 0 < sz) (hx : a.eval x = .pointer (some ⟨g, j, none⟩)) (hi : a.eval i = .int k q) (hq : q = (m : Int)) (hm : m < n)
    (hg : Region.wanted { dst := dst, op := .indexAddr t x i, type := ty, pos := pos, after := after, guard := guard } (yielded ops a.tmps) = true)
    (h : wpQuiet P ops C K rest (a.put dst (.pointer (some ⟨g, j + m * sz, none⟩)))) : wpQuiet P ops C K ({ dst := dst, op := .indexAddr t x i, type := ty, pos := pos, after := after, guard := guard } :: rest) a :=
  wpQuiet_ex hg (fun w _ => ex_indexE (ρ := a.eval) ht he h0 hx hi hq hm w) h
theorem wpL_indexE {t e : TypeId} {n sz : Nat} {x i : Operand} {g j m : Nat} {q : Int} {k : IntKind} (ht : P.underlying t = some (.array n e)) (he : (P.info? e).map (·.size) = some sz) (h0 : 0 < sz) (hx : a.eval x = .pointer (some ⟨g, j, none⟩)) (hi : a.eval i = .int k q) (hq : q = (m : Int)) (hm : m < n)
    (hg : Region.wanted { dst := dst, op := .indexAddr t x i, type := ty, pos := pos, after := after, guard := guard } (yielded ops a.tmps) = true)
    (h : wpList P ops Q rest (a.put dst (.pointer (some ⟨g, j + m * sz, none⟩))) w) : wpList P ops Q ({ dst := dst, op := .indexAddr t x i, type := ty, pos := pos, after := after, guard := guard } :: rest) a w :=
  wpList_ex hg (ex_indexE (ρ := a.eval) ht he h0 hx hi hq hm w) h
end
/-- Two nodes as cells. -/
def pairCs (x y : Nd) : List Value := x.cells ++ y.cells
theorem pair_fst (x y : Nd) : ((pairCs x y).drop 0).take 16 = x.cells := by
  rw [List.drop_zero, pairCs, List.take_left' (Arr.len x)]
theorem pair_snd (x y : Nd) : ((pairCs x y).drop 16).take 16 = y.cells := by
  rw [pairCs, List.drop_left' (Arr.len x)]; exact List.take_of_length_le (by rw [Arr.len]; omega)
/-- A claim's cells. -/
def claimCs (i : Int) (x : Nd) (v : Value) : List Value := .int .i64 i :: (x.cells ++ [v])
end Go.Proofs.Ytgkfopodhikckaa

/- From the walks of the merkle laws to their rows: lists of nodes, pairs of nodes, claims. No condition. -/
namespace Go.Proofs.Ytgkfopodhikckaa
open Go.ChangeShapes Go.WideShapes Go.ChangeAt Go.RowKit
theorem cells41 : Try.prog.cellsOf 41 = 16 := by kernel_rfl
theorem cells79 : Try.prog.cellsOf 79 = 18 := by kernel_rfl
theorem cells30 : Try.prog.cellsOf 30 = 1 := by kernel_rfl
theorem cells3 : Try.prog.cellsOf 3 = 1 := by kernel_rfl
section
variable {H : Type} {enc : TypeId × Value → H} {W : World} {base : Nat}
theorem open_arrsC {P : Program} {ts t e : TypeId} {n : Nat} {fuel : Nat} {cs : List Value} {x : DataW H × List MemPlace} (hs : P.underlying ts = some (.slice t)) (ht : P.underlying t = some (.array n e)) (he : P.underlying e = some (.int .u8)) (hn : 0 < n)
    (hc : P.cellsOf t = n) (hc1 : P.cellsOf e = 1) (h : DataW.trod enc P W base (fun _ => true) true fuel ts cs = some x) :
    ∃ (v : Value) (l : List (Arr n)), cs = [v] ∧ Sl W v n l.length (flat l) := by
  rcases Deep.open_slice hs h with ⟨hcs, _⟩ | ⟨a, len', cap', m, fu, D, Pl, hcs, _, hle, _, hm, rfl, hx⟩
  · exact ⟨_, [], hcs, Sl.nil W n⟩
  · obtain ⟨l, hl, _⟩ := open_arrs hs ht he hn hc hc1 (v := .slice (some a) len' cap') ⟨_, _, _, rfl⟩ (by rw [hcs] at h; exact h)
    obtain ⟨_, _, e, _⟩ := hl.shape
    exact ⟨_, l, hcs, hl⟩
set_option maxRecDepth 100000 in
/-- An argument of type Claim. -/
theorem open_claim {v : Value} {d : DataW H} {p : List MemPlace} (hval : Value.okWide Try.prog W .any base 79 v)
    (h : DataW.Trod enc Try.prog W 0 (fun _ => true) true 79 v d p) : ∃ (i : Int) (x : Nd) (u : Value) (l : List Nd), (Lit.int .i64 i).wf = true ∧ Arrs W u l ∧ v = .agg (claimCs i x u).toArray := by
  obtain ⟨fuel, hf⟩ := h
  simp only [Value.okWide, Try.underlying79] at hval
  obtain ⟨cs, rfl, _⟩ := hval
  simp only [Value.cells] at hf
  obtain ⟨y0, y1, y2, n, _, hlen, h0, h1, h2⟩ := Deep.trod_struct3 Try.underlying79 hf
  rw [cells79] at hlen
  obtain ⟨i, hi, _, hw⟩ := DataW.trod_int Try.underlying3 h0
  obtain ⟨x, hx⟩ := open_bytes Try.underlying41 Try.underlying5 cells41 cells5 h1
  obtain ⟨u, l, hu, hl⟩ := open_arrsC Try.underlying30 Try.underlying41 Try.underlying5 (by omega) cells41 cells5 h2
  refine ⟨i, x, u, l, hw, hl, ?_⟩
  have e : cs.toList = claimCs i x u := by
    have a0 : (cs.toList.drop 0).take (Try.prog.cellsOf 3) = [.int .i64 i] := hi
    have a1 : (cs.toList.drop 1).take (Try.prog.cellsOf 41) = x.cells := hx
    have a2 : (cs.toList.drop 17).take (Try.prog.cellsOf 30) = [u] := hu
    rw [cells3, List.drop_zero] at a0
    rw [cells41] at a1
    rw [cells30] at a2
    generalize cs.toList = L at *
    have e1 : L = L.take 1 ++ ((L.drop 1).take 16 ++ (L.drop 17).take 1) := by
      conv => lhs; rw [← List.take_append_drop 1 L, ← List.take_append_drop 16 (L.drop 1), List.drop_drop]
      rw [List.take_of_length_le (l := L.drop 17) (by rw [List.length_drop]; omega)]
    rw [e1, a0, a1, a2]
    rfl
  rw [← e, Array.toArray_toList]
end
end Go.Proofs.Ytgkfopodhikckaa

/- Arrays of nodes; Pairs of the reference. Condition: at most 10^9 nodes. -/
namespace Go.Proofs.Ytgkfopodhikckaa
open Go.RowKit
attribute [local irreducible] wpQuiet wpList
section
variable {P : Program}
/-- A literal of an array of arrays. -/
theorem run_buildA {t e : TypeId} {n sz : Nat} {z : Value} (ht : P.underlying t = some (.array n e)) (hs : (P.info? e).map (·.size) = some sz) (hz : (P.info? t).map (·.zero) = some (some z)) (hzl : z.cells.size = n * sz)
    (vs : List Value) (hv : ∀ v ∈ vs, v.cells.size = sz) (hn : vs.length = n) (w : World) :
    (Instr.build t ((vs.zipIdx 0).map fun p => (p.2, p.1)).toArray).run P w = .ok (.agg (vs.flatMap (·.cells.toList)).toArray) w := by
  have hf := fill_parts vs hv [] z.cells.toList 0 (by simp) (by simp [hzl, hn])
  simp only [List.nil_append, Array.toArray_toList] at hf
  simp only [Instr.build, Sem.run_bind, run_zeroValue hz, run_underlying ht, run_sizeOf hs, Result.andThen_ok, hf, Sem.run_pure]
end
/-- Two nodes as one array. -/
def jn (x y : Nd) : Arr 32 := ⟨x.1 ++ y.1, by rw [List.length_append, x.2, y.2]⟩
theorem jn_cells (x y : Nd) : (jn x y).cells = pairCs x y := by simp [jn, Arr.cells, pairCs]
theorem jn_fst (x y : Nd) : ((jn x y).cells.drop 0).take 16 = x.cells := by rw [jn_cells]; exact pair_fst x y
theorem jn_snd (x y : Nd) : ((jn x y).cells.drop 16).take 16 = y.cells := by rw [jn_cells]; exact pair_snd x y
theorem run_pair {P : Program} {t e : TypeId} {z : Value} (ht : P.underlying t = some (.array 2 e)) (hs : (P.info? e).map (·.size) = some 16) (hz : (P.info? t).map (·.zero) = some (some z)) (hzl : z.cells.size = 32) (x y : Nd) (w : World) :
    (Instr.build t #[(0, x.val), (1, y.val)]).run P w = .ok (jn x y).val w := by
  have h := run_buildA (P := P) ht hs hz (by rw [hzl]) [x.val, y.val] (by intro v hv; simp only [List.mem_cons, List.not_mem_nil, or_false] at hv; rcases hv with rfl | rfl <;> exact arr_size _) rfl w
  have e : ([x.val, y.val].flatMap (·.cells.toList)) = (jn x y).cells := by
    rw [jn_cells]; simp [Arr.val, Value.cells, pairCs]
  rw [e] at h
  exact h
theorem BP73 (x y : Nd) (w : World) : (Instr.build 73 #[(0, x.val), (1, y.val)]).run Try.prog w = .ok (jn x y).val w := run_pair Try.underlying73 kS41 kZ73 (by simp [Value.cells, Arr.len]) x y w
theorem ex_build {P : Program} {ρ : Operand → Value} {dst : Option Tmp} {ty : TypeId} {pos : String} {after : Array Edge} {guard : Option (Nat × Bool)} {t : TypeId} {parts : Array (Nat × Operand)} {v : Value} {w : World} (hb : (Instr.build t (parts.toList.map fun p => (p.1, ρ p.2)).toArray).run P w = .ok v w) :
    (execOp ρ { dst := dst, op := .build t parts, type := ty, pos := pos, after := after, guard := guard }).run P w = .ok (.value v) w := by
  simp only [execOp, Sem.run_bind]
  rw [show (parts.map fun x => match x with | (i, y) => (i, ρ y)) = (parts.toList.map fun p => (p.1, ρ p.2)).toArray by rw [← Array.toList_map, Array.toArray_toList], hb]
  rfl
section
variable {P : Program} {w0 w : World} {S : List Nat} {bs : List (Nat × Obj)} {rows : List Row} {ops : Array Oper} {rest : List Oper} {a : Act} {Q : Exit → Act → World → Prop} {K : Act → Prop} {dst : Option Tmp} {ty : TypeId} {pos : String} {after : Array Edge} {guard : Option (Nat × Bool)}
/-- An array of bytes that is a part of a variable. -/
theorem wpL_loadPA {t : TypeId} {n : Nat} (hA : AggT P t n) (hH : Holds w0 S bs rows w) {v : Arr n} {x : Operand} {g j : Nat} {cs : List Value} {e : TypeId}
    (hx : a.eval x = .pointer (some ⟨g, j, none⟩)) (ho : Own bs g (objC cs e)) (hv : (cs.drop j).take n = v.cells)
    (hg : Region.wanted { dst := dst, op := .load t x, type := ty, pos := pos, after := after, guard := guard } (yielded ops a.tmps) = true)
    (h : wpList P ops Q rest (a.put dst v.val) w) : wpList P ops Q ({ dst := dst, op := .load t x, type := ty, pos := pos, after := after, guard := guard } :: rest) a w :=
  wpL_loadPart hA hH hx ho hv (Arr.len v) hg h
theorem wpQ_loadPA {t : TypeId} {n : Nat} (hA : AggT P t n) {v : Arr n} {x : Operand} {g j : Nat} {cs : List Value} {e : TypeId}
    (hx : a.eval x = .pointer (some ⟨g, j, none⟩)) (ho : Own bs g (objC cs e)) (hv : (cs.drop j).take n = v.cells)
    (hg : Region.wanted { dst := dst, op := .load t x, type := ty, pos := pos, after := after, guard := guard } (yielded ops a.tmps) = true)
    (h : wpQuiet P ops (fun w' => Holds w0 S bs rows w') K rest (a.put dst v.val)) : wpQuiet P ops (fun w' => Holds w0 S bs rows w') K ({ dst := dst, op := .load t x, type := ty, pos := pos, after := after, guard := guard } :: rest) a :=
  wpQ_loadPart hA hx ho hv (Arr.len v) hg h
end
/-- The pairs on the way. -/
def pairA (i : Nat) (x : Nd) (p : List Nd) (j : Nat) : Arr 32 := jn (pairC i j (curAt i x p j) (p.getD j Nd0)).1 (pairC i j (curAt i x p j) (p.getD j Nd0)).2
def pairL (i : Nat) (x : Nd) (p : List Nd) (k : Nat) : List (Arr 32) := (List.range k).map (pairA i x p)
theorem pairL_len (i : Nat) (x : Nd) (p : List Nd) (k : Nat) : (pairL i x p k).length = k := by simp [pairL]
theorem pairL_succ (i : Nat) (x : Nd) (p : List Nd) (k : Nat) : pairL i x p (k + 1) = pairL i x p k ++ [pairA i x p k] := by simp [pairL, List.range_succ]
def pairsV (x : Nd) (i : Int) (p : List Nd) : List (Arr 32) := if fromC i p.length = 0 then pairL i.toNat x p p.length else []
def RetPr (w : World) (ps : List (Arr 32)) (r : Nd) (c : Int) (e : Ending) (w' : World) : Prop :=
  ∃ ao cap, e = .returned (.tuple #[.slice ao ps.length cap, r.val, .int .i64 c]) ∧ w'.ownsRow w.heap.size 73 32 (.slice ao ps.length cap) ps.length (flat ps) ∧ Below w.heap.size w w'
theorem RetPr.no {w w' : World} {ps : List (Arr 32)} {r d : Nd} {b c : Int} (hp : ps = []) (hr : r = d) (h : b = c) (hb : Below w.heap.size w w') : RetPr w ps d c (.returned (.tuple #[.slice none 0 0, r.val, .int .i64 b])) w' := by
  subst hp hr h
  exact ⟨none, 0, rfl, World.ownsRow_nil _ _ _ _, hb⟩
def PairRel (w : World) (i : Nat) (x : Nd) (p : List Nd) (g3 g7 g10 : Nat) (v kv : Value) (wr : World) : Prop :=
  ∃ (k : Nat) (c : Nd) (r : List (Arr 32)) (ao : Option Addr) (cap : Nat), k ≤ p.length ∧ kv = .int .i64 k ∧ c = curAt i x p k ∧ r = pairL i x p k ∧ v = .slice ao r.length cap ∧
    Holds w [] [(g10, objC c.cells 41), (g7, objC Nd0.cells 41), (g3, objC x.cells 41)] [rowA 73 ao cap r] wr
section
variable {P : Program} {w0 w : World} {S : List Nat} {bs : List (Nat × Obj)} {rows : (Nat → Bool) → (Nat → Value) → List Row} {ia is_ sl : Nat} {e : TypeId} {zs vs : List Value} {l : Nat → Bool} {a : Act} {ty : TypeId} {pos : String} {after : Array Edge} {guard : Option (Nat × Bool)}
/-- A region's one new variable: laid by operation ia into slot sl, written by operation is_. -/
def AJ (w0 : World) (S : List Nat) (bs : List (Nat × Obj)) (rows : (Nat → Bool) → (Nat → Value) → List Row) (ia is_ sl : Nat) (e : TypeId) (zs vs : List Value) (l : Nat → Bool) (s : Nat → Value) (w : World) : Prop :=
  Holds w0 S (optB (l ia) (blkF (s sl), selO (l is_) (objC zs e) (objC vs e)) bs) (rows l s) w
theorem aj_alloc (hz : (P.info? e).map (·.zero) = some (some (.agg zs.toArray))) (hJ : AJ w0 S bs rows ia is_ sl e zs vs l (slF a) w) (hi : l ia = false) (h2 : l is_ = false) (hne : is_ ≠ ia) (hr : ∀ v, rows (upd l ia) (updS (slF a) sl v) = rows l (slF a)) :
    OpOK P { dst := some sl, op := .alloc e, type := ty, pos := pos, after := after, guard := guard } a w (fun v w' => AJ w0 S bs rows ia is_ sl e zs vs (upd l ia) (updS (slF a) sl v) w' ∧ isPtr v) := by
  unfold AJ at hJ
  rw [hi, optB_f] at hJ
  refine ok_alloc hz hJ (fun g w' h' => ?_)
  refine ⟨?_, ⟨g, rfl⟩⟩
  unfold AJ
  rw [hr, show upd l ia ia = true by simp [upd], show upd l ia is_ = false by simp [upd, hne, h2], show updS (slF a) sl (.pointer (some ⟨g, 0, none⟩)) sl = .pointer (some ⟨g, 0, none⟩) by simp [updS], optB_t]
  exact h'
theorem aj_store {t : TypeId} {n : Nat} {y : Operand} (hS : (P.info? t).map (·.size) = some n) (hzl : zs.length = n) (hvl : vs.length = n) (h1 : ∀ u ∈ vs, u.oneCell' = true) (hJ : AJ w0 S bs rows ia is_ sl e zs vs l (slF a) w) (la : l ia = true) (hi : l is_ = false) (hne : ia ≠ is_)
    (e1 : isPtr (a.eval (.tmp sl))) (e2 : a.eval y = .agg vs.toArray) (hr : rows (upd l is_) (slF a) = rows l (slF a)) :
    OpOK P { dst := none, op := .store t (.tmp sl) y, type := ty, pos := pos, after := after, guard := guard } a w (fun v w' => AJ w0 S bs rows ia is_ sl e zs vs (upd l is_) (slF a) w' ∧ True) := by
  obtain ⟨g, hg⟩ := e1
  have hs : slF a sl = .pointer (some ⟨g, 0, none⟩) := hg
  unfold AJ at hJ
  rw [la, hi, hs, optB_t] at hJ
  refine ok_store (vs := vs) (cs := zs) (e := e) hg e2 hS hJ .here hvl h1 hzl fun w' h' => ⟨?_, trivial⟩
  unfold AJ
  rw [hr, show upd l is_ ia = true by simp [upd, hne, la], show upd l is_ is_ = true by simp [upd], hs, optB_t]
  exact h'
end
set_option maxRecDepth 100000 in
set_option maxHeartbeats 8000000 in
theorem pairs_any (w : World) (v : Value) (x : Nd) (i : Int) (p : List Nd) (hp : Arrs w v p) (hn : p.length ≤ 1000000000) : Calls Try.prog 55 #[x.val, .int .i64 i, v] w (RetPr w (pairsV x i p) (fromV x i p) (fromC i p.length)) := by
  obtain ⟨ao, cap, rfl, _⟩ := hp.shape
  have HP := hid hp
  clear hp
  have HH := hid (Holds.init w)
  by_cases h10 : 10 < p.length
  · have e1 : fromC i p.length = 9 := by unfold fromC; rw [if_pos h10]
    have e2 : fromV x i p = Nd0 := by unfold fromV; rw [e1]; rfl
    have e3 : pairsV x i p = [] := by unfold pairsV; rw [e1]; rfl
    rw [e1, e2, e3]
    clear e1 e2 e3
    go_enter Try.func55, Try.ntmps55
    go_wp2_with (first
      | ((first
          | ((with_reducible apply wpL_skip); rfl; skip)
          | ((with_reducible apply wpList_build (parts := #[]) (v := Nd0.val)); (exact BZ41); rfl)
          | ((with_reducible apply wpL_storeC (t := 41) (vs := Nd0.cells)); rfl; rfl; (exact kS41); (exact HH.out); (exact .here); (exact Arr.len _); (exact cells_one _); (exact Arr.len _); rfl; (intro w_ hq_; clear HH; have HH := hid hq_; clear hq_))
          | ((with_reducible apply wpL_nilCheck); rfl; rfl)
          | ((with_reducible apply wpL_loadArr (t := 41) kA41 HH.out); rfl; (first | exact .here | exact .there .here | exact .there (.there .here) | exact .there (.there (.there .here)) | exact .there (.there (.there (.there .here))) | exact .there (.there (.there (.there (.there .here)))) | exact .there (.there (.there (.there (.there (.there .here))))) | exact .there (.there (.there (.there (.there (.there (.there .here))))))); rfl)
          | ((with_reducible apply wpL_loadC (t := 41) kA41 HH.out); rfl; (first | exact .here | exact .there .here | exact .there (.there .here) | exact .there (.there (.there .here)) | exact .there (.there (.there (.there .here))) | exact .there (.there (.there (.there (.there .here)))) | exact .there (.there (.there (.there (.there (.there .here))))) | exact .there (.there (.there (.there (.there (.there (.there .here))))))); (first | rfl | exact Arr.len _ | (simp; done)); rfl)
          | ((with_reducible apply wpL_loadC (t := 73) kA73 HH.out); rfl; (first | exact .here | exact .there .here | exact .there (.there .here) | exact .there (.there (.there .here)) | exact .there (.there (.there (.there .here))) | exact .there (.there (.there (.there (.there .here)))) | exact .there (.there (.there (.there (.there (.there .here))))) | exact .there (.there (.there (.there (.there (.there (.there .here))))))); (first | rfl | exact Arr.len _ | (simp; done)); rfl)
          | ((with_reducible apply wpL_len (t := 30) Try.underlying30); rfl; rfl)
          | ((with_reducible apply wpL_len (t := 98) Try.underlying98); rfl; rfl)
          | ((with_reducible apply wpL_boxArr (dst := some 3)); rfl; (exact HH.out); rfl; (intro g3_ w_ hq_; (try simp only [List.set_cons_zero, List.set_cons_succ] at hq_); clear HH; have HH := hid hq_; clear hq_))
          | ((with_reducible apply wpL_allocC (dst := some 7) kZ41 HH.out); rfl; (intro g7_ w_ hq_; (try simp only [List.set_cons_zero, List.set_cons_succ] at hq_); clear HH; have HH := hid hq_; clear hq_))
          | ((with_reducible apply wpL_allocC (dst := some 10) kZ41 HH.out); rfl; (intro g10_ w_ hq_; (try simp only [List.set_cons_zero, List.set_cons_succ] at hq_); clear HH; have HH := hid hq_; clear hq_))
          | ((with_reducible apply wpL_allocC (dst := some 12) kZ73 HH.out); rfl; (intro g12_ w_ hq_; (try simp only [List.set_cons_zero, List.set_cons_succ] at hq_); clear HH; have HH := hid hq_; clear hq_))
          | ((with_reducible apply wpL_storeArr (t := 41) kS41 HH.out); rfl; rfl; (first | exact .here | exact .there .here | exact .there (.there .here) | exact .there (.there (.there .here)) | exact .there (.there (.there (.there .here))) | exact .there (.there (.there (.there (.there .here)))) | exact .there (.there (.there (.there (.there (.there .here))))) | exact .there (.there (.there (.there (.there (.there (.there .here))))))); (first | rfl | exact Arr.len _ | (simp; done)); rfl; (intro w_ hq_; (try simp only [List.set_cons_zero, List.set_cons_succ] at hq_); clear HH; have HH := hid hq_; clear hq_))
          | ((with_reducible apply wpL_storeC (t := 41)); rfl; rfl; (exact kS41); (exact HH.out); (first | exact .here | exact .there .here | exact .there (.there .here) | exact .there (.there (.there .here)) | exact .there (.there (.there (.there .here))) | exact .there (.there (.there (.there (.there .here)))) | exact .there (.there (.there (.there (.there (.there .here))))) | exact .there (.there (.there (.there (.there (.there (.there .here))))))); (first | rfl | exact Arr.len _ | (simp; done)); (first | rfl | (intro u_ hu_; simp only [List.mem_cons, List.not_mem_nil, or_false] at hu_; rcases hu_ with rfl | hu_; rfl) | exact byt_cell1 _ | exact cells_one _ | exact wrd_one _ | exact flat_cell1 _); (first | rfl | exact Arr.len _ | (simp; done)); rfl; (intro w_ hq_; (try simp only [List.set_cons_zero, List.set_cons_succ] at hq_); clear HH; have HH := hid hq_; clear hq_))
          | ((with_reducible apply wpL_storeC (t := 73)); rfl; rfl; (exact kS73); (exact HH.out); (first | exact .here | exact .there .here | exact .there (.there .here) | exact .there (.there (.there .here)) | exact .there (.there (.there (.there .here))) | exact .there (.there (.there (.there (.there .here)))) | exact .there (.there (.there (.there (.there (.there .here))))) | exact .there (.there (.there (.there (.there (.there (.there .here))))))); (first | rfl | exact Arr.len _ | (simp; done)); (first | rfl | (intro u_ hu_; simp only [List.mem_cons, List.not_mem_nil, or_false] at hu_; rcases hu_ with rfl | hu_; rfl) | exact byt_cell1 _ | exact cells_one _ | exact wrd_one _ | exact flat_cell1 _); (first | rfl | exact Arr.len _ | (simp; done)); rfl; (intro w_ hq_; (try simp only [List.set_cons_zero, List.set_cons_succ] at hq_); clear HH; have HH := hid hq_; clear hq_))
          | ((with_reducible apply wpL_move); rfl; rfl)
          | ((with_reducible apply wpL_assign); rfl; rfl)
          | ((with_reducible apply wpL_pick); rfl; rfl; rfl)
          | ((with_reducible apply wpL_not); rfl; rfl)
          | ((with_reducible apply wpL_cmp (b := true)); rfl; rfl; rfl; (first | rfl | assumption | (simp only [cmpB, decide_eq_true_eq, decide_eq_false_iff_not, beq_iff_eq, bne_iff_ne, ne_eq, beq_eq_false_iff_ne, bne_eq_false_iff_eq, gt_iff_lt, ge_iff_le]; omega) | (simp; omega)); rfl)
          | ((with_reducible apply wpL_cmp (b := false)); rfl; rfl; rfl; (first | rfl | assumption | (simp only [cmpB, decide_eq_true_eq, decide_eq_false_iff_not, beq_iff_eq, bne_iff_ne, ne_eq, beq_eq_false_iff_ne, bne_eq_false_iff_eq, gt_iff_lt, ge_iff_le]; omega) | (simp; omega)); rfl)
          | ((with_reducible apply wpL_cmp); rfl; rfl; rfl; rfl; rfl)
          | ((with_reducible apply wpL_arith); rfl; rfl; rfl; (exact IntWalk.i64_in _ (by (try simp only [arithI]); omega)); rfl)); (try simp only [arithI, Act.put, Act.eval, List.setIfInBounds_toArray, List.set_cons_succ, List.set_cons_zero, Array.getD_eq_getD_getElem?, List.getElem?_toArray, List.getElem?_cons_succ, List.getElem?_cons_zero, Option.getD_some])))
    refine bodyPost_ret (res3 rfl (by rfl) (resC kA41 HH.out (by rfl) .here (Arr.len _)) (by rfl)) rfl ?_
    exact RetPr.no rfl rfl rfl HH.out.dropBlk.dropBlk.below
  · by_cases h0 : i < 0
    · have e1 : fromC i p.length = 8 := by unfold fromC; rw [if_neg h10, if_pos (.inl h0)]
      have e2 : fromV x i p = Nd0 := by unfold fromV; rw [e1]; rfl
      have e3 : pairsV x i p = [] := by unfold pairsV; rw [e1]; rfl
      rw [e1, e2, e3]
      clear e1 e2 e3
      go_enter Try.func55, Try.ntmps55
      go_wp2_with (first
        | ((first
            | ((with_reducible apply wpL_skip); rfl; skip)
            | ((with_reducible apply wpList_build (parts := #[]) (v := Nd0.val)); (exact BZ41); rfl)
            | ((with_reducible apply wpL_storeC (t := 41) (vs := Nd0.cells)); rfl; rfl; (exact kS41); (exact HH.out); (exact .here); (exact Arr.len _); (exact cells_one _); (exact Arr.len _); rfl; (intro w_ hq_; clear HH; have HH := hid hq_; clear hq_))
            | ((with_reducible apply wpL_nilCheck); rfl; rfl)
            | ((with_reducible apply wpL_loadArr (t := 41) kA41 HH.out); rfl; (first | exact .here | exact .there .here | exact .there (.there .here) | exact .there (.there (.there .here)) | exact .there (.there (.there (.there .here))) | exact .there (.there (.there (.there (.there .here)))) | exact .there (.there (.there (.there (.there (.there .here))))) | exact .there (.there (.there (.there (.there (.there (.there .here))))))); rfl)
            | ((with_reducible apply wpL_loadC (t := 41) kA41 HH.out); rfl; (first | exact .here | exact .there .here | exact .there (.there .here) | exact .there (.there (.there .here)) | exact .there (.there (.there (.there .here))) | exact .there (.there (.there (.there (.there .here)))) | exact .there (.there (.there (.there (.there (.there .here))))) | exact .there (.there (.there (.there (.there (.there (.there .here))))))); (first | rfl | exact Arr.len _ | (simp; done)); rfl)
            | ((with_reducible apply wpL_loadC (t := 73) kA73 HH.out); rfl; (first | exact .here | exact .there .here | exact .there (.there .here) | exact .there (.there (.there .here)) | exact .there (.there (.there (.there .here))) | exact .there (.there (.there (.there (.there .here)))) | exact .there (.there (.there (.there (.there (.there .here))))) | exact .there (.there (.there (.there (.there (.there (.there .here))))))); (first | rfl | exact Arr.len _ | (simp; done)); rfl)
            | ((with_reducible apply wpL_len (t := 30) Try.underlying30); rfl; rfl)
            | ((with_reducible apply wpL_len (t := 98) Try.underlying98); rfl; rfl)
            | ((with_reducible apply wpL_boxArr (dst := some 3)); rfl; (exact HH.out); rfl; (intro g3_ w_ hq_; (try simp only [List.set_cons_zero, List.set_cons_succ] at hq_); clear HH; have HH := hid hq_; clear hq_))
            | ((with_reducible apply wpL_allocC (dst := some 7) kZ41 HH.out); rfl; (intro g7_ w_ hq_; (try simp only [List.set_cons_zero, List.set_cons_succ] at hq_); clear HH; have HH := hid hq_; clear hq_))
            | ((with_reducible apply wpL_allocC (dst := some 10) kZ41 HH.out); rfl; (intro g10_ w_ hq_; (try simp only [List.set_cons_zero, List.set_cons_succ] at hq_); clear HH; have HH := hid hq_; clear hq_))
            | ((with_reducible apply wpL_allocC (dst := some 12) kZ73 HH.out); rfl; (intro g12_ w_ hq_; (try simp only [List.set_cons_zero, List.set_cons_succ] at hq_); clear HH; have HH := hid hq_; clear hq_))
            | ((with_reducible apply wpL_storeArr (t := 41) kS41 HH.out); rfl; rfl; (first | exact .here | exact .there .here | exact .there (.there .here) | exact .there (.there (.there .here)) | exact .there (.there (.there (.there .here))) | exact .there (.there (.there (.there (.there .here)))) | exact .there (.there (.there (.there (.there (.there .here))))) | exact .there (.there (.there (.there (.there (.there (.there .here))))))); (first | rfl | exact Arr.len _ | (simp; done)); rfl; (intro w_ hq_; (try simp only [List.set_cons_zero, List.set_cons_succ] at hq_); clear HH; have HH := hid hq_; clear hq_))
            | ((with_reducible apply wpL_storeC (t := 41)); rfl; rfl; (exact kS41); (exact HH.out); (first | exact .here | exact .there .here | exact .there (.there .here) | exact .there (.there (.there .here)) | exact .there (.there (.there (.there .here))) | exact .there (.there (.there (.there (.there .here)))) | exact .there (.there (.there (.there (.there (.there .here))))) | exact .there (.there (.there (.there (.there (.there (.there .here))))))); (first | rfl | exact Arr.len _ | (simp; done)); (first | rfl | (intro u_ hu_; simp only [List.mem_cons, List.not_mem_nil, or_false] at hu_; rcases hu_ with rfl | hu_; rfl) | exact byt_cell1 _ | exact cells_one _ | exact wrd_one _ | exact flat_cell1 _); (first | rfl | exact Arr.len _ | (simp; done)); rfl; (intro w_ hq_; (try simp only [List.set_cons_zero, List.set_cons_succ] at hq_); clear HH; have HH := hid hq_; clear hq_))
            | ((with_reducible apply wpL_storeC (t := 73)); rfl; rfl; (exact kS73); (exact HH.out); (first | exact .here | exact .there .here | exact .there (.there .here) | exact .there (.there (.there .here)) | exact .there (.there (.there (.there .here))) | exact .there (.there (.there (.there (.there .here)))) | exact .there (.there (.there (.there (.there (.there .here))))) | exact .there (.there (.there (.there (.there (.there (.there .here))))))); (first | rfl | exact Arr.len _ | (simp; done)); (first | rfl | (intro u_ hu_; simp only [List.mem_cons, List.not_mem_nil, or_false] at hu_; rcases hu_ with rfl | hu_; rfl) | exact byt_cell1 _ | exact cells_one _ | exact wrd_one _ | exact flat_cell1 _); (first | rfl | exact Arr.len _ | (simp; done)); rfl; (intro w_ hq_; (try simp only [List.set_cons_zero, List.set_cons_succ] at hq_); clear HH; have HH := hid hq_; clear hq_))
            | ((with_reducible apply wpL_move); rfl; rfl)
            | ((with_reducible apply wpL_assign); rfl; rfl)
            | ((with_reducible apply wpL_pick); rfl; rfl; rfl)
            | ((with_reducible apply wpL_not); rfl; rfl)
            | ((with_reducible apply wpL_cmp (b := true)); rfl; rfl; rfl; (first | rfl | assumption | (simp only [cmpB, decide_eq_true_eq, decide_eq_false_iff_not, beq_iff_eq, bne_iff_ne, ne_eq, beq_eq_false_iff_ne, bne_eq_false_iff_eq, gt_iff_lt, ge_iff_le]; omega) | (simp; omega)); rfl)
            | ((with_reducible apply wpL_cmp (b := false)); rfl; rfl; rfl; (first | rfl | assumption | (simp only [cmpB, decide_eq_true_eq, decide_eq_false_iff_not, beq_iff_eq, bne_iff_ne, ne_eq, beq_eq_false_iff_ne, bne_eq_false_iff_eq, gt_iff_lt, ge_iff_le]; omega) | (simp; omega)); rfl)
            | ((with_reducible apply wpL_cmp); rfl; rfl; rfl; rfl; rfl)
            | ((with_reducible apply wpL_arith); rfl; rfl; rfl; (exact IntWalk.i64_in _ (by (try simp only [arithI]); omega)); rfl)); (try simp only [arithI, Act.put, Act.eval, List.setIfInBounds_toArray, List.set_cons_succ, List.set_cons_zero, Array.getD_eq_getD_getElem?, List.getElem?_toArray, List.getElem?_cons_succ, List.getElem?_cons_zero, Option.getD_some])))
      refine bodyPost_ret (res3 rfl (by rfl) (resC kA41 HH.out (by rfl) .here (Arr.len _)) (by rfl)) rfl ?_
      exact RetPr.no rfl rfl rfl HH.out.dropBlk.dropBlk.below
    · obtain ⟨j, rfl⟩ : ∃ j : Nat, i = j := ⟨i.toNat, by omega⟩
      obtain ⟨q0, hq⟩ : ∃ q0, 2 ^ p.length = q0 := ⟨_, rfl⟩
      have hq10 : q0 ≤ 1024 := by rw [← hq]; exact Nat.le_trans (Nat.pow_le_pow_right (by decide) (show p.length ≤ 10 by omega)) (by decide)
      have HQ0 := hid (show 1 * 2 ^ p.length = q0 by rw [Nat.one_mul, hq])
      have HW := hid (show IntKind.i64.wrap ((q0 : Nat) : Int) = (q0 : Int) from IntWalk.i64_in _ (by omega))
      by_cases hj : q0 ≤ j
      · have e1 : fromC (j : Int) p.length = 8 := by unfold fromC; rw [if_neg h10, if_pos (.inr (by rw [hq]; omega))]
        have e2 : fromV x (j : Int) p = Nd0 := by unfold fromV; rw [e1]; rfl
        have e3 : pairsV x (j : Int) p = [] := by unfold pairsV; rw [e1]; rfl
        rw [e1, e2, e3]
        clear e1 e2 e3 hq
        go_enter Try.func55, Try.ntmps55
        go_wp2_with (first
          | ((first
              | ((with_reducible apply wpL_skip); rfl; skip)
              | ((with_reducible apply wpL_shlP (m := 1) (k := p.length) (r := q0)); rfl; rfl; rfl; rfl; (exact (by omega)); (exact HQ0.out); (exact HW.out); rfl)
              | ((with_reducible apply wpList_build (parts := #[]) (v := Nd0.val)); (exact BZ41); rfl)
              | ((with_reducible apply wpL_storeC (t := 41) (vs := Nd0.cells)); rfl; rfl; (exact kS41); (exact HH.out); (exact .here); (exact Arr.len _); (exact cells_one _); (exact Arr.len _); rfl; (intro w_ hq_; clear HH; have HH := hid hq_; clear hq_))
              | ((with_reducible apply wpL_nilCheck); rfl; rfl)
              | ((with_reducible apply wpL_loadArr (t := 41) kA41 HH.out); rfl; (first | exact .here | exact .there .here | exact .there (.there .here) | exact .there (.there (.there .here)) | exact .there (.there (.there (.there .here))) | exact .there (.there (.there (.there (.there .here)))) | exact .there (.there (.there (.there (.there (.there .here))))) | exact .there (.there (.there (.there (.there (.there (.there .here))))))); rfl)
              | ((with_reducible apply wpL_loadC (t := 41) kA41 HH.out); rfl; (first | exact .here | exact .there .here | exact .there (.there .here) | exact .there (.there (.there .here)) | exact .there (.there (.there (.there .here))) | exact .there (.there (.there (.there (.there .here)))) | exact .there (.there (.there (.there (.there (.there .here))))) | exact .there (.there (.there (.there (.there (.there (.there .here))))))); (first | rfl | exact Arr.len _ | (simp; done)); rfl)
              | ((with_reducible apply wpL_loadC (t := 73) kA73 HH.out); rfl; (first | exact .here | exact .there .here | exact .there (.there .here) | exact .there (.there (.there .here)) | exact .there (.there (.there (.there .here))) | exact .there (.there (.there (.there (.there .here)))) | exact .there (.there (.there (.there (.there (.there .here))))) | exact .there (.there (.there (.there (.there (.there (.there .here))))))); (first | rfl | exact Arr.len _ | (simp; done)); rfl)
              | ((with_reducible apply wpL_len (t := 30) Try.underlying30); rfl; rfl)
              | ((with_reducible apply wpL_len (t := 98) Try.underlying98); rfl; rfl)
              | ((with_reducible apply wpL_boxArr (dst := some 3)); rfl; (exact HH.out); rfl; (intro g3_ w_ hq_; (try simp only [List.set_cons_zero, List.set_cons_succ] at hq_); clear HH; have HH := hid hq_; clear hq_))
              | ((with_reducible apply wpL_allocC (dst := some 7) kZ41 HH.out); rfl; (intro g7_ w_ hq_; (try simp only [List.set_cons_zero, List.set_cons_succ] at hq_); clear HH; have HH := hid hq_; clear hq_))
              | ((with_reducible apply wpL_allocC (dst := some 10) kZ41 HH.out); rfl; (intro g10_ w_ hq_; (try simp only [List.set_cons_zero, List.set_cons_succ] at hq_); clear HH; have HH := hid hq_; clear hq_))
              | ((with_reducible apply wpL_allocC (dst := some 12) kZ73 HH.out); rfl; (intro g12_ w_ hq_; (try simp only [List.set_cons_zero, List.set_cons_succ] at hq_); clear HH; have HH := hid hq_; clear hq_))
              | ((with_reducible apply wpL_storeArr (t := 41) kS41 HH.out); rfl; rfl; (first | exact .here | exact .there .here | exact .there (.there .here) | exact .there (.there (.there .here)) | exact .there (.there (.there (.there .here))) | exact .there (.there (.there (.there (.there .here)))) | exact .there (.there (.there (.there (.there (.there .here))))) | exact .there (.there (.there (.there (.there (.there (.there .here))))))); (first | rfl | exact Arr.len _ | (simp; done)); rfl; (intro w_ hq_; (try simp only [List.set_cons_zero, List.set_cons_succ] at hq_); clear HH; have HH := hid hq_; clear hq_))
              | ((with_reducible apply wpL_storeC (t := 41)); rfl; rfl; (exact kS41); (exact HH.out); (first | exact .here | exact .there .here | exact .there (.there .here) | exact .there (.there (.there .here)) | exact .there (.there (.there (.there .here))) | exact .there (.there (.there (.there (.there .here)))) | exact .there (.there (.there (.there (.there (.there .here))))) | exact .there (.there (.there (.there (.there (.there (.there .here))))))); (first | rfl | exact Arr.len _ | (simp; done)); (first | rfl | (intro u_ hu_; simp only [List.mem_cons, List.not_mem_nil, or_false] at hu_; rcases hu_ with rfl | hu_; rfl) | exact byt_cell1 _ | exact cells_one _ | exact wrd_one _ | exact flat_cell1 _); (first | rfl | exact Arr.len _ | (simp; done)); rfl; (intro w_ hq_; (try simp only [List.set_cons_zero, List.set_cons_succ] at hq_); clear HH; have HH := hid hq_; clear hq_))
              | ((with_reducible apply wpL_storeC (t := 73)); rfl; rfl; (exact kS73); (exact HH.out); (first | exact .here | exact .there .here | exact .there (.there .here) | exact .there (.there (.there .here)) | exact .there (.there (.there (.there .here))) | exact .there (.there (.there (.there (.there .here)))) | exact .there (.there (.there (.there (.there (.there .here))))) | exact .there (.there (.there (.there (.there (.there (.there .here))))))); (first | rfl | exact Arr.len _ | (simp; done)); (first | rfl | (intro u_ hu_; simp only [List.mem_cons, List.not_mem_nil, or_false] at hu_; rcases hu_ with rfl | hu_; rfl) | exact byt_cell1 _ | exact cells_one _ | exact wrd_one _ | exact flat_cell1 _); (first | rfl | exact Arr.len _ | (simp; done)); rfl; (intro w_ hq_; (try simp only [List.set_cons_zero, List.set_cons_succ] at hq_); clear HH; have HH := hid hq_; clear hq_))
              | ((with_reducible apply wpL_move); rfl; rfl)
              | ((with_reducible apply wpL_assign); rfl; rfl)
              | ((with_reducible apply wpL_pick); rfl; rfl; rfl)
              | ((with_reducible apply wpL_not); rfl; rfl)
              | ((with_reducible apply wpL_cmp (b := true)); rfl; rfl; rfl; (first | rfl | assumption | (simp only [cmpB, decide_eq_true_eq, decide_eq_false_iff_not, beq_iff_eq, bne_iff_ne, ne_eq, beq_eq_false_iff_ne, bne_eq_false_iff_eq, gt_iff_lt, ge_iff_le]; omega) | (simp; omega)); rfl)
              | ((with_reducible apply wpL_cmp (b := false)); rfl; rfl; rfl; (first | rfl | assumption | (simp only [cmpB, decide_eq_true_eq, decide_eq_false_iff_not, beq_iff_eq, bne_iff_ne, ne_eq, beq_eq_false_iff_ne, bne_eq_false_iff_eq, gt_iff_lt, ge_iff_le]; omega) | (simp; omega)); rfl)
              | ((with_reducible apply wpL_cmp); rfl; rfl; rfl; rfl; rfl)
              | ((with_reducible apply wpL_arith); rfl; rfl; rfl; (exact IntWalk.i64_in _ (by (try simp only [arithI]); omega)); rfl)); (try simp only [arithI, Act.put, Act.eval, List.setIfInBounds_toArray, List.set_cons_succ, List.set_cons_zero, Array.getD_eq_getD_getElem?, List.getElem?_toArray, List.getElem?_cons_succ, List.getElem?_cons_zero, Option.getD_some])))
        refine bodyPost_ret (res3 rfl (by rfl) (resC kA41 HH.out (by rfl) .here (Arr.len _)) (by rfl)) rfl ?_
        exact RetPr.no rfl rfl rfl HH.out.dropBlk.dropBlk.below
      · have e1 : fromC (j : Int) p.length = 0 := by unfold fromC; rw [if_neg h10, if_neg (by rw [hq]; omega)]
        obtain ⟨d, hd⟩ : ∃ d, curAt j x p p.length = d := ⟨_, rfl⟩
        have e2 : fromV x (j : Int) p = d := by unfold fromV; rw [if_pos e1]; exact hd
        obtain ⟨ps, hps⟩ : ∃ ps, pairL j x p p.length = ps := ⟨_, rfl⟩
        have e3 : pairsV x (j : Int) p = ps := by unfold pairsV; rw [if_pos e1]; exact hps
        have HD := hid hd
        have HPS := hid hps
        rw [e1, e2, e3]
        clear e1 e2 e3 hq hd hps
        obtain ⟨i, rfl⟩ : ∃ i, i = j := ⟨_, rfl⟩
        go_enter Try.func55, Try.ntmps55
        go_wp2_with (first
          | ((first
              | ((with_reducible apply wpL_skip); rfl; skip)
              | ((with_reducible apply wpL_shlP (m := 1) (k := p.length) (r := q0)); rfl; rfl; rfl; rfl; (exact (by omega)); (exact HQ0.out); (exact HW.out); rfl)
              | ((with_reducible apply wpL_nilCheck); rfl; rfl)
              | ((with_reducible apply wpL_loadArr (t := 41) kA41 HH.out); rfl; (first | exact .here | exact .there .here | exact .there (.there .here) | exact .there (.there (.there .here)) | exact .there (.there (.there (.there .here))) | exact .there (.there (.there (.there (.there .here)))) | exact .there (.there (.there (.there (.there (.there .here))))) | exact .there (.there (.there (.there (.there (.there (.there .here))))))); rfl)
              | ((with_reducible apply wpL_loadC (t := 41) kA41 HH.out); rfl; (first | exact .here | exact .there .here | exact .there (.there .here) | exact .there (.there (.there .here)) | exact .there (.there (.there (.there .here))) | exact .there (.there (.there (.there (.there .here)))) | exact .there (.there (.there (.there (.there (.there .here))))) | exact .there (.there (.there (.there (.there (.there (.there .here))))))); (first | rfl | exact Arr.len _ | (simp; done)); rfl)
              | ((with_reducible apply wpL_loadC (t := 73) kA73 HH.out); rfl; (first | exact .here | exact .there .here | exact .there (.there .here) | exact .there (.there (.there .here)) | exact .there (.there (.there (.there .here))) | exact .there (.there (.there (.there (.there .here)))) | exact .there (.there (.there (.there (.there (.there .here))))) | exact .there (.there (.there (.there (.there (.there (.there .here))))))); (first | rfl | exact Arr.len _ | (simp; done)); rfl)
              | ((with_reducible apply wpL_len (t := 30) Try.underlying30); rfl; rfl)
              | ((with_reducible apply wpL_len (t := 98) Try.underlying98); rfl; rfl)
              | ((with_reducible apply wpL_boxArr (dst := some 3)); rfl; (exact HH.out); rfl; (intro g3_ w_ hq_; (try simp only [List.set_cons_zero, List.set_cons_succ] at hq_); clear HH; have HH := hid hq_; clear hq_))
              | ((with_reducible apply wpL_allocC (dst := some 7) kZ41 HH.out); rfl; (intro g7_ w_ hq_; (try simp only [List.set_cons_zero, List.set_cons_succ] at hq_); clear HH; have HH := hid hq_; clear hq_))
              | ((with_reducible apply wpL_allocC (dst := some 10) kZ41 HH.out); rfl; (intro g10_ w_ hq_; (try simp only [List.set_cons_zero, List.set_cons_succ] at hq_); clear HH; have HH := hid hq_; clear hq_))
              | ((with_reducible apply wpL_allocC (dst := some 12) kZ73 HH.out); rfl; (intro g12_ w_ hq_; (try simp only [List.set_cons_zero, List.set_cons_succ] at hq_); clear HH; have HH := hid hq_; clear hq_))
              | ((with_reducible apply wpL_storeArr (t := 41) kS41 HH.out); rfl; rfl; (first | exact .here | exact .there .here | exact .there (.there .here) | exact .there (.there (.there .here)) | exact .there (.there (.there (.there .here))) | exact .there (.there (.there (.there (.there .here)))) | exact .there (.there (.there (.there (.there (.there .here))))) | exact .there (.there (.there (.there (.there (.there (.there .here))))))); (first | rfl | exact Arr.len _ | (simp; done)); rfl; (intro w_ hq_; (try simp only [List.set_cons_zero, List.set_cons_succ] at hq_); clear HH; have HH := hid hq_; clear hq_))
              | ((with_reducible apply wpL_storeC (t := 41)); rfl; rfl; (exact kS41); (exact HH.out); (first | exact .here | exact .there .here | exact .there (.there .here) | exact .there (.there (.there .here)) | exact .there (.there (.there (.there .here))) | exact .there (.there (.there (.there (.there .here)))) | exact .there (.there (.there (.there (.there (.there .here))))) | exact .there (.there (.there (.there (.there (.there (.there .here))))))); (first | rfl | exact Arr.len _ | (simp; done)); (first | rfl | (intro u_ hu_; simp only [List.mem_cons, List.not_mem_nil, or_false] at hu_; rcases hu_ with rfl | hu_; rfl) | exact byt_cell1 _ | exact cells_one _ | exact wrd_one _ | exact flat_cell1 _); (first | rfl | exact Arr.len _ | (simp; done)); rfl; (intro w_ hq_; (try simp only [List.set_cons_zero, List.set_cons_succ] at hq_); clear HH; have HH := hid hq_; clear hq_))
              | ((with_reducible apply wpL_storeC (t := 73)); rfl; rfl; (exact kS73); (exact HH.out); (first | exact .here | exact .there .here | exact .there (.there .here) | exact .there (.there (.there .here)) | exact .there (.there (.there (.there .here))) | exact .there (.there (.there (.there (.there .here)))) | exact .there (.there (.there (.there (.there (.there .here))))) | exact .there (.there (.there (.there (.there (.there (.there .here))))))); (first | rfl | exact Arr.len _ | (simp; done)); (first | rfl | (intro u_ hu_; simp only [List.mem_cons, List.not_mem_nil, or_false] at hu_; rcases hu_ with rfl | hu_; rfl) | exact byt_cell1 _ | exact cells_one _ | exact wrd_one _ | exact flat_cell1 _); (first | rfl | exact Arr.len _ | (simp; done)); rfl; (intro w_ hq_; (try simp only [List.set_cons_zero, List.set_cons_succ] at hq_); clear HH; have HH := hid hq_; clear hq_))
              | ((with_reducible apply wpL_move); rfl; rfl)
              | ((with_reducible apply wpL_assign); rfl; rfl)
              | ((with_reducible apply wpL_pick); rfl; rfl; rfl)
              | ((with_reducible apply wpL_not); rfl; rfl)
              | ((with_reducible apply wpL_cmp (b := true)); rfl; rfl; rfl; (first | rfl | assumption | (simp only [cmpB, decide_eq_true_eq, decide_eq_false_iff_not, beq_iff_eq, bne_iff_ne, ne_eq, beq_eq_false_iff_ne, bne_eq_false_iff_eq, gt_iff_lt, ge_iff_le]; omega) | (simp; omega)); rfl)
              | ((with_reducible apply wpL_cmp (b := false)); rfl; rfl; rfl; (first | rfl | assumption | (simp only [cmpB, decide_eq_true_eq, decide_eq_false_iff_not, beq_iff_eq, bne_iff_ne, ne_eq, beq_eq_false_iff_ne, bne_eq_false_iff_eq, gt_iff_lt, ge_iff_le]; omega) | (simp; omega)); rfl)
              | ((with_reducible apply wpL_cmp); rfl; rfl; rfl; rfl; rfl)
              | ((with_reducible apply wpL_arith); rfl; rfl; rfl; (exact IntWalk.i64_in _ (by (try simp only [arithI]); omega)); rfl)); (try simp only [arithI, Act.put, Act.eval, List.setIfInBounds_toArray, List.set_cons_succ, List.set_cons_zero, Array.getD_eq_getD_getElem?, List.getElem?_toArray, List.getElem?_cons_succ, List.getElem?_cons_zero, Option.getD_some])))
        go_loopw [9, 11] (PairRel w i x p g3_ g7_ g10_) (fun _ kv _ => p.length - (intOf kv).toNat)
        case atStart => exact ⟨0, x, [], none, 0, Nat.zero_le _, rfl, rfl, rfl, rfl, HH.out.addNil 73 32⟩
        case round =>
          obtain ⟨k, c, r, ao1, cap1, hk, rfl, hck, hrk, rfl, hr⟩ := hrel
          clear HH
          have HH := hid hr
          have HCK := hid hck
          have HRK := hid hrk
          have hrl : r.length = k := by rw [hrk, pairL_len]
          clear hr hck hrk
          by_cases hlt : k < p.length
          · obtain ⟨s, hs⟩ : ∃ s, p.getD k Nd0 = s := ⟨_, rfl⟩
            obtain ⟨ad, cap', e⟩ := HP.out.some (by omega)
            cases e
            have HAR := hid (fun w1 (h1 : ∃ bs, Holds w [] bs [rowA 73 ao1 cap1 r] w1) => get_as (show Arrs w1 (.slice (some ad) p.length cap) p from h1.choose_spec.sl HP.out) hlt (show p[k] = s by rw [← hs]; simp [hlt]))
            have hst := curAt_succ i x p k
            have hst2 := pairL_succ i x p k
            unfold pairA at hst2
            rw [← HCK.out, hs] at hst
            rw [← HRK.out, ← HCK.out, hs] at hst2
            clear hs
            obtain ⟨q, hq1⟩ : ∃ q, i / 2 ^ k = q := ⟨_, rfl⟩
            have hq10' : q ≤ 1024 := by rw [← hq1]; exact Nat.le_trans (Nat.div_le_self _ _) (by omega)
            have HQ1 := hid hq1
            clear hq1
            go_wp2_with (first
              | ((first
                  | ((with_reducible apply wpL_skip); rfl; skip)
                  | ((with_reducible apply wpL_nilCheck); rfl; rfl)
                  | ((with_reducible apply wpL_loadArr (t := 41) kA41 HH.out); rfl; (first | exact .here | exact .there .here | exact .there (.there .here) | exact .there (.there (.there .here)) | exact .there (.there (.there (.there .here))) | exact .there (.there (.there (.there (.there .here)))) | exact .there (.there (.there (.there (.there (.there .here))))) | exact .there (.there (.there (.there (.there (.there (.there .here))))))); rfl)
                  | ((with_reducible apply wpL_loadC (t := 41) kA41 HH.out); rfl; (first | exact .here | exact .there .here | exact .there (.there .here) | exact .there (.there (.there .here)) | exact .there (.there (.there (.there .here))) | exact .there (.there (.there (.there (.there .here)))) | exact .there (.there (.there (.there (.there (.there .here))))) | exact .there (.there (.there (.there (.there (.there (.there .here))))))); (first | rfl | exact Arr.len _ | (simp; done)); rfl)
                  | ((with_reducible apply wpL_loadC (t := 73) kA73 HH.out); rfl; (first | exact .here | exact .there .here | exact .there (.there .here) | exact .there (.there (.there .here)) | exact .there (.there (.there (.there .here))) | exact .there (.there (.there (.there (.there .here)))) | exact .there (.there (.there (.there (.there (.there .here))))) | exact .there (.there (.there (.there (.there (.there (.there .here))))))); (first | rfl | exact Arr.len _ | (simp; done)); rfl)
                  | ((with_reducible apply wpL_len (t := 30) Try.underlying30); rfl; rfl)
                  | ((with_reducible apply wpL_len (t := 98) Try.underlying98); rfl; rfl)
                  | ((with_reducible apply wpL_boxArr (dst := some 3)); rfl; (exact HH.out); rfl; (intro g3_ w_ hq_; (try simp only [List.set_cons_zero, List.set_cons_succ] at hq_); clear HH; have HH := hid hq_; clear hq_))
                  | ((with_reducible apply wpL_allocC (dst := some 7) kZ41 HH.out); rfl; (intro g7_ w_ hq_; (try simp only [List.set_cons_zero, List.set_cons_succ] at hq_); clear HH; have HH := hid hq_; clear hq_))
                  | ((with_reducible apply wpL_allocC (dst := some 10) kZ41 HH.out); rfl; (intro g10_ w_ hq_; (try simp only [List.set_cons_zero, List.set_cons_succ] at hq_); clear HH; have HH := hid hq_; clear hq_))
                  | ((with_reducible apply wpL_allocC (dst := some 12) kZ73 HH.out); rfl; (intro g12_ w_ hq_; (try simp only [List.set_cons_zero, List.set_cons_succ] at hq_); clear HH; have HH := hid hq_; clear hq_))
                  | ((with_reducible apply wpL_storeArr (t := 41) kS41 HH.out); rfl; rfl; (first | exact .here | exact .there .here | exact .there (.there .here) | exact .there (.there (.there .here)) | exact .there (.there (.there (.there .here))) | exact .there (.there (.there (.there (.there .here)))) | exact .there (.there (.there (.there (.there (.there .here))))) | exact .there (.there (.there (.there (.there (.there (.there .here))))))); (first | rfl | exact Arr.len _ | (simp; done)); rfl; (intro w_ hq_; (try simp only [List.set_cons_zero, List.set_cons_succ] at hq_); clear HH; have HH := hid hq_; clear hq_))
                  | ((with_reducible apply wpL_storeC (t := 41)); rfl; rfl; (exact kS41); (exact HH.out); (first | exact .here | exact .there .here | exact .there (.there .here) | exact .there (.there (.there .here)) | exact .there (.there (.there (.there .here))) | exact .there (.there (.there (.there (.there .here)))) | exact .there (.there (.there (.there (.there (.there .here))))) | exact .there (.there (.there (.there (.there (.there (.there .here))))))); (first | rfl | exact Arr.len _ | (simp; done)); (first | rfl | (intro u_ hu_; simp only [List.mem_cons, List.not_mem_nil, or_false] at hu_; rcases hu_ with rfl | hu_; rfl) | exact byt_cell1 _ | exact cells_one _ | exact wrd_one _ | exact flat_cell1 _); (first | rfl | exact Arr.len _ | (simp; done)); rfl; (intro w_ hq_; (try simp only [List.set_cons_zero, List.set_cons_succ] at hq_); clear HH; have HH := hid hq_; clear hq_))
                  | ((with_reducible apply wpL_storeC (t := 73)); rfl; rfl; (exact kS73); (exact HH.out); (first | exact .here | exact .there .here | exact .there (.there .here) | exact .there (.there (.there .here)) | exact .there (.there (.there (.there .here))) | exact .there (.there (.there (.there (.there .here)))) | exact .there (.there (.there (.there (.there (.there .here))))) | exact .there (.there (.there (.there (.there (.there (.there .here))))))); (first | rfl | exact Arr.len _ | (simp; done)); (first | rfl | (intro u_ hu_; simp only [List.mem_cons, List.not_mem_nil, or_false] at hu_; rcases hu_ with rfl | hu_; rfl) | exact byt_cell1 _ | exact cells_one _ | exact wrd_one _ | exact flat_cell1 _); (first | rfl | exact Arr.len _ | (simp; done)); rfl; (intro w_ hq_; (try simp only [List.set_cons_zero, List.set_cons_succ] at hq_); clear HH; have HH := hid hq_; clear hq_))
                  | ((with_reducible apply wpL_move); rfl; rfl)
                  | ((with_reducible apply wpL_assign); rfl; rfl)
                  | ((with_reducible apply wpL_pick); rfl; rfl; rfl)
                  | ((with_reducible apply wpL_not); rfl; rfl)
                  | ((with_reducible apply wpL_cmp (b := true)); rfl; rfl; rfl; (first | rfl | assumption | (simp only [cmpB, decide_eq_true_eq, decide_eq_false_iff_not, beq_iff_eq, bne_iff_ne, ne_eq, beq_eq_false_iff_ne, bne_eq_false_iff_eq, gt_iff_lt, ge_iff_le]; omega) | (simp; omega)); rfl)
                  | ((with_reducible apply wpL_cmp (b := false)); rfl; rfl; rfl; (first | rfl | assumption | (simp only [cmpB, decide_eq_true_eq, decide_eq_false_iff_not, beq_iff_eq, bne_iff_ne, ne_eq, beq_eq_false_iff_ne, bne_eq_false_iff_eq, gt_iff_lt, ge_iff_le]; omega) | (simp; omega)); rfl)
                  | ((with_reducible apply wpL_cmp); rfl; rfl; rfl; rfl; rfl)
                  | ((with_reducible apply wpL_arith); rfl; rfl; rfl; (exact IntWalk.i64_in _ (by (try simp only [arithI]); omega)); rfl)); (try simp only [arithI, Act.put, Act.eval, List.setIfInBounds_toArray, List.set_cons_succ, List.set_cons_zero, Array.getD_eq_getD_getElem?, List.getElem?_toArray, List.getElem?_cons_succ, List.getElem?_cons_zero, Option.getD_some])))
            refine wp_region_F [(fun u_ => u_ = c.val), (fun u_ => u_ = (.slice (some ad) p.length cap)), (fun u_ => u_ = (.int .i64 k)), (fun u_ => u_ = (.pointer (some (ad.add (k * 16))))), (fun u_ => u_ = s.val), (fun u_ => u_ = (jn c s).val), (isPtr), (fun _ => True)] (AJ w [] [(g10_, objC c.cells 41), (g7_, objC Nd0.cells 41), (g3_, objC x.cells 41)] (fun _ _ => [rowA 73 ao1 cap1 r]) 6 7 12 73 (Arr.zero 32).cells (jn c s).cells) (by kernel_rfl) (by kernel_rfl) rfl (HH.out.drew) ?_ ?_
            · refine eachD_cons ?_ (eachD_cons ?_ (eachD_cons ?_ (eachD_cons ?_ (eachD_cons ?_ (eachD_cons ?_ (eachD_cons ?_ (eachD_cons ?_ (eachD_nil))))))))
              · intro li_ a_ w1 hc hi hJ hF hS
                have e10 : a_.eval (.tmp 10) = (.pointer (some ⟨g10_, 0, none⟩)) := (hF.2.2 10 (notDst_of (by kernel_rfl))).trans rfl
                refine wantD (by rfl) ?_
                exact ok_load kA41 hJ e10 (Own.opt .here) (Arr.len _) ⟨hJ, rfl⟩
              · intro li_ a_ w1 hc hi hJ hF hS
                have e2 : a_.eval (.tmp 2) = (.slice (some ad) p.length cap) := (hF.2.2 2 (notDst_of (by kernel_rfl))).trans rfl
                refine wantD (by rfl) ?_
                exact opF_val rfl (ex_move rfl w1) hJ e2
              · intro li_ a_ w1 hc hi hJ hF hS
                have e11 : a_.eval (.tmp 11) = (.int .i64 k) := (hF.2.2 11 (notDst_of (by kernel_rfl))).trans rfl
                refine wantD (by rfl) ?_
                exact opF_val rfl (ex_move rfl w1) hJ e11
              · intro li_ a_ w1 hc hi hJ hF hS
                have l1 : li_ 1 = true := (hS ⟨1, .data⟩ (by simp) rfl).1
                have l2 : li_ 2 = true := (hS ⟨2, .data⟩ (by simp) rfl).1
                have e35 : a_.eval (.tmp 35) = (.slice (some ad) p.length cap) := (hS ⟨1, .data⟩ (by simp) rfl).2 _ rfl
                have e36 : a_.eval (.tmp 36) = (.int .i64 k) := (hS ⟨2, .data⟩ (by simp) rfl).2 _ rfl
                refine wantD (by rfl) ?_
                exact opF_val rfl (ex_index kE30 (j := k) e35 e36 rfl hlt w1) hJ rfl
              · intro li_ a_ w1 hc hi hJ hF hS
                have l3 : li_ 3 = true := (hS ⟨3, .data⟩ (by simp) rfl).1
                have e37 : a_.eval (.tmp 37) = (.pointer (some (ad.add (k * 16)))) := (hS ⟨3, .data⟩ (by simp) rfl).2 _ rfl
                refine wantD (by rfl) ?_
                exact opF_val rfl (ex_load_agg (t := 41) (sz := 16) e37 Try.underlying41 rfl kS41 (Arr.len s) (HAR.out _ ⟨_, hJ⟩)) hJ rfl
              · intro li_ a_ w1 hc hi hJ hF hS
                have l0 : li_ 0 = true := (hS ⟨0, .data⟩ (by simp) rfl).1
                have l4 : li_ 4 = true := (hS ⟨4, .data⟩ (by simp) rfl).1
                have e34 : a_.eval (.tmp 34) = c.val := (hS ⟨0, .data⟩ (by simp) rfl).2 _ rfl
                have e38 : a_.eval (.tmp 38) = s.val := (hS ⟨4, .data⟩ (by simp) rfl).2 _ rfl
                refine wantD (by rfl) ?_
                exact opF_val rfl (ex_build (by show (Instr.build 73 #[(0, a_.eval (.tmp 34)), (1, a_.eval (.tmp 38))]).run Try.prog w1 = _; rw [e34, e38]; exact BP73 c s w1)) hJ rfl
              · intro li_ a_ w1 hc hi hJ hF hS
                refine wantD (by rfl) ?_
                exact aj_alloc kZ73 hJ hi (hc.off (j := 7) (by kernel_rfl) hi) (by decide) (fun _ => rfl)
              · intro li_ a_ w1 hc hi hJ hF hS
                have l6 : li_ 6 = true := (hS ⟨6, .data⟩ (by simp) rfl).1
                have l5 : li_ 5 = true := (hS ⟨5, .data⟩ (by simp) rfl).1
                have l0 : li_ 0 = true := (hS ⟨0, .phase⟩ (by simp) rfl).1
                have l1 : li_ 1 = true := (hS ⟨1, .phase⟩ (by simp) rfl).1
                have l2 : li_ 2 = true := (hS ⟨2, .phase⟩ (by simp) rfl).1
                have l3 : li_ 3 = true := (hS ⟨3, .phase⟩ (by simp) rfl).1
                have l4 : li_ 4 = true := (hS ⟨4, .phase⟩ (by simp) rfl).1
                have e12 : (isPtr) (a_.eval (.tmp 12)) := (hS ⟨6, .data⟩ (by simp) rfl).2 _ rfl
                have e39 : a_.eval (.tmp 39) = (jn c s).val := (hS ⟨5, .data⟩ (by simp) rfl).2 _ rfl
                refine wantD (by rfl) ?_
                exact aj_store kS73 (Arr.len _) (Arr.len _) (cells_one _) hJ l6 hi (by decide) e12 e39 rfl
            intro v0_ h0_ v1_ h1_ v2_ h2_ v3_ h3_ v4_ h4_ v5_ h5_ v6_ h6_ v7_ h7_
            intro wq hq_
            have q_ : v0_ = c.val := h0_; clear h0_; subst q_
            have q_ : v1_ = (.slice (some ad) p.length cap) := h1_; clear h1_; subst q_
            have q_ : v2_ = (.int .i64 k) := h2_; clear h2_; subst q_
            have q_ : v3_ = (.pointer (some (ad.add (k * 16)))) := h3_; clear h3_; subst q_
            have q_ : v4_ = s.val := h4_; clear h4_; subst q_
            have q_ : v5_ = (jn c s).val := h5_; clear h5_; subst q_
            obtain ⟨g12_, rfl⟩ := h6_
            clear h7_
            have HQ := hid hq_; clear hq_
            simp only [putsD, Act.put, List.setIfInBounds_toArray, List.set_cons_succ, List.set_cons_zero]
            have hq2_ : Holds w [] [(g12_, objC (jn c s).cells 73), (g10_, objC c.cells 41), (g7_, objC Nd0.cells 41), (g3_, objC x.cells 41)] [rowA 73 ao1 cap1 r] wq := HQ.out
            clear HH HQ
            have HH := hid hq2_
            clear hq2_
            by_cases hbit : (i / 2 ^ k) % 2 = 1
            · have hpair : pairC i k c s = (s, c) := by unfold pairC; rw [if_pos hbit]
              rw [hpair] at hst hst2
              obtain ⟨c2, hc2⟩ : ∃ c2, joinN ((k : Int) + 1) s c = c2 := ⟨_, rfl⟩
              obtain ⟨r2, hr2⟩ : ∃ r2, r ++ [jn s c] = r2 := ⟨_, rfl⟩
              have HC2 := hid hc2
              have HR2 := hid hr2
              have HST := hid (show c2 = curAt i x p (k + 1) by rw [hst]; exact hc2.symm)
              have HST2 := hid (show r2 = pairL i x p (k + 1) by rw [hst2]; exact hr2.symm)
              have HMOD := hid (show q % 2 = 1 by rw [← HQ1.out]; exact hbit)
              clear hpair hst hst2 hc2 hr2 hbit
              go_wp2_with (first
                | ((first
                    | ((with_reducible apply wpL_skip); rfl; skip)
                    | ((with_reducible apply wpL_shrI (m := i) (k := k) (r := q)); rfl; rfl; rfl; rfl; (exact (by omega)); (exact HQ1.out); rfl)
                    | ((with_reducible apply wpL_remN (m := q) (n := 2)); rfl; rfl; rfl; rfl; (exact (by omega)); (exact (by omega)); (exact (by omega)); rfl; rw [HMOD.out])
                    | ((with_reducible apply wpL_nilCheck); rfl; rfl)
                    | ((with_reducible apply wpL_loadArr (t := 41) kA41 HH.out); rfl; (first | exact .here | exact .there .here | exact .there (.there .here) | exact .there (.there (.there .here)) | exact .there (.there (.there (.there .here))) | exact .there (.there (.there (.there (.there .here)))) | exact .there (.there (.there (.there (.there (.there .here))))) | exact .there (.there (.there (.there (.there (.there (.there .here))))))); rfl)
                    | ((with_reducible apply wpL_loadC (t := 41) kA41 HH.out); rfl; (first | exact .here | exact .there .here | exact .there (.there .here) | exact .there (.there (.there .here)) | exact .there (.there (.there (.there .here))) | exact .there (.there (.there (.there (.there .here)))) | exact .there (.there (.there (.there (.there (.there .here))))) | exact .there (.there (.there (.there (.there (.there (.there .here))))))); (first | rfl | exact Arr.len _ | (simp; done)); rfl)
                    | ((with_reducible apply wpL_loadC (t := 73) kA73 HH.out); rfl; (first | exact .here | exact .there .here | exact .there (.there .here) | exact .there (.there (.there .here)) | exact .there (.there (.there (.there .here))) | exact .there (.there (.there (.there (.there .here)))) | exact .there (.there (.there (.there (.there (.there .here))))) | exact .there (.there (.there (.there (.there (.there (.there .here))))))); (first | rfl | exact Arr.len _ | (simp; done)); rfl)
                    | ((with_reducible apply wpL_len (t := 30) Try.underlying30); rfl; rfl)
                    | ((with_reducible apply wpL_len (t := 98) Try.underlying98); rfl; rfl)
                    | ((with_reducible apply wpL_boxArr (dst := some 3)); rfl; (exact HH.out); rfl; (intro g3_ w_ hq_; (try simp only [List.set_cons_zero, List.set_cons_succ] at hq_); clear HH; have HH := hid hq_; clear hq_))
                    | ((with_reducible apply wpL_allocC (dst := some 7) kZ41 HH.out); rfl; (intro g7_ w_ hq_; (try simp only [List.set_cons_zero, List.set_cons_succ] at hq_); clear HH; have HH := hid hq_; clear hq_))
                    | ((with_reducible apply wpL_allocC (dst := some 10) kZ41 HH.out); rfl; (intro g10_ w_ hq_; (try simp only [List.set_cons_zero, List.set_cons_succ] at hq_); clear HH; have HH := hid hq_; clear hq_))
                    | ((with_reducible apply wpL_allocC (dst := some 12) kZ73 HH.out); rfl; (intro g12_ w_ hq_; (try simp only [List.set_cons_zero, List.set_cons_succ] at hq_); clear HH; have HH := hid hq_; clear hq_))
                    | ((with_reducible apply wpL_storeArr (t := 41) kS41 HH.out); rfl; rfl; (first | exact .here | exact .there .here | exact .there (.there .here) | exact .there (.there (.there .here)) | exact .there (.there (.there (.there .here))) | exact .there (.there (.there (.there (.there .here)))) | exact .there (.there (.there (.there (.there (.there .here))))) | exact .there (.there (.there (.there (.there (.there (.there .here))))))); (first | rfl | exact Arr.len _ | (simp; done)); rfl; (intro w_ hq_; (try simp only [List.set_cons_zero, List.set_cons_succ] at hq_); clear HH; have HH := hid hq_; clear hq_))
                    | ((with_reducible apply wpL_storeC (t := 41)); rfl; rfl; (exact kS41); (exact HH.out); (first | exact .here | exact .there .here | exact .there (.there .here) | exact .there (.there (.there .here)) | exact .there (.there (.there (.there .here))) | exact .there (.there (.there (.there (.there .here)))) | exact .there (.there (.there (.there (.there (.there .here))))) | exact .there (.there (.there (.there (.there (.there (.there .here))))))); (first | rfl | exact Arr.len _ | (simp; done)); (first | rfl | (intro u_ hu_; simp only [List.mem_cons, List.not_mem_nil, or_false] at hu_; rcases hu_ with rfl | hu_; rfl) | exact byt_cell1 _ | exact cells_one _ | exact wrd_one _ | exact flat_cell1 _); (first | rfl | exact Arr.len _ | (simp; done)); rfl; (intro w_ hq_; (try simp only [List.set_cons_zero, List.set_cons_succ] at hq_); clear HH; have HH := hid hq_; clear hq_))
                    | ((with_reducible apply wpL_storeC (t := 73)); rfl; rfl; (exact kS73); (exact HH.out); (first | exact .here | exact .there .here | exact .there (.there .here) | exact .there (.there (.there .here)) | exact .there (.there (.there (.there .here))) | exact .there (.there (.there (.there (.there .here)))) | exact .there (.there (.there (.there (.there (.there .here))))) | exact .there (.there (.there (.there (.there (.there (.there .here))))))); (first | rfl | exact Arr.len _ | (simp; done)); (first | rfl | (intro u_ hu_; simp only [List.mem_cons, List.not_mem_nil, or_false] at hu_; rcases hu_ with rfl | hu_; rfl) | exact byt_cell1 _ | exact cells_one _ | exact wrd_one _ | exact flat_cell1 _); (first | rfl | exact Arr.len _ | (simp; done)); rfl; (intro w_ hq_; (try simp only [List.set_cons_zero, List.set_cons_succ] at hq_); clear HH; have HH := hid hq_; clear hq_))
                    | ((with_reducible apply wpL_move); rfl; rfl)
                    | ((with_reducible apply wpL_assign); rfl; rfl)
                    | ((with_reducible apply wpL_pick); rfl; rfl; rfl)
                    | ((with_reducible apply wpL_not); rfl; rfl)
                    | ((with_reducible apply wpL_cmp (b := true)); rfl; rfl; rfl; (first | rfl | assumption | (simp only [cmpB, decide_eq_true_eq, decide_eq_false_iff_not, beq_iff_eq, bne_iff_ne, ne_eq, beq_eq_false_iff_ne, bne_eq_false_iff_eq, gt_iff_lt, ge_iff_le]; omega) | (simp; omega)); rfl)
                    | ((with_reducible apply wpL_cmp (b := false)); rfl; rfl; rfl; (first | rfl | assumption | (simp only [cmpB, decide_eq_true_eq, decide_eq_false_iff_not, beq_iff_eq, bne_iff_ne, ne_eq, beq_eq_false_iff_ne, bne_eq_false_iff_eq, gt_iff_lt, ge_iff_le]; omega) | (simp; omega)); rfl)
                    | ((with_reducible apply wpL_cmp); rfl; rfl; rfl; rfl; rfl)
                    | ((with_reducible apply wpL_arith); rfl; rfl; rfl; (exact IntWalk.i64_in _ (by (try simp only [arithI]); omega)); rfl)); (try simp only [arithI, Act.put, Act.eval, List.setIfInBounds_toArray, List.set_cons_succ, List.set_cons_zero, Array.getD_eq_getD_getElem?, List.getElem?_toArray, List.getElem?_cons_succ, List.getElem?_cons_zero, Option.getD_some])))
              refine wp_region_tailQ 6 (by kernel_rfl) (by kernel_rfl) (by kernel_rfl) HH.out ?_
              simp only [List.take_succ_cons, List.take_zero, List.drop_succ_cons, List.drop_zero]
              repeat ((first
                | ((with_reducible apply wpQ_skip); rfl; skip)
                | ((with_reducible apply wpQ_index (dst := some 47) kE30 (j := k)); rfl; rfl; rfl; (exact hlt); rfl)
                | ((with_reducible apply wpQ_loadEl (dst := some 48) (v := s) kA41 (fun wq hwq => HAR.out wq ⟨_, hwq⟩)); rfl; rfl)
                | ((with_reducible apply wpQ_build (dst := some 50) (v := (jn s c).val)); (exact BP73 s c); rfl)
                | ((with_reducible apply wpQ_nilCheck); rfl; rfl)
                | ((with_reducible apply wpQ_loadArr (t := 41) kA41); rfl; (first | exact .here | exact .there .here | exact .there (.there .here) | exact .there (.there (.there .here)) | exact .there (.there (.there (.there .here))) | exact .there (.there (.there (.there (.there .here)))) | exact .there (.there (.there (.there (.there (.there .here))))) | exact .there (.there (.there (.there (.there (.there (.there .here))))))); rfl)
                | ((with_reducible apply wpQ_loadC (t := 41) kA41); rfl; (first | exact .here | exact .there .here | exact .there (.there .here) | exact .there (.there (.there .here)) | exact .there (.there (.there (.there .here))) | exact .there (.there (.there (.there (.there .here)))) | exact .there (.there (.there (.there (.there (.there .here))))) | exact .there (.there (.there (.there (.there (.there (.there .here))))))); (first | rfl | exact Arr.len _ | (simp; done)); rfl)
                | ((with_reducible apply wpQ_loadC (t := 73) kA73); rfl; (first | exact .here | exact .there .here | exact .there (.there .here) | exact .there (.there (.there .here)) | exact .there (.there (.there (.there .here))) | exact .there (.there (.there (.there (.there .here)))) | exact .there (.there (.there (.there (.there (.there .here))))) | exact .there (.there (.there (.there (.there (.there (.there .here))))))); (first | rfl | exact Arr.len _ | (simp; done)); rfl)
                | ((with_reducible apply wpQ_len (t := 30) Try.underlying30); rfl; rfl)
                | ((with_reducible apply wpQ_len (t := 98) Try.underlying98); rfl; rfl)
                | ((with_reducible apply wpQ_move); rfl; rfl)
                | ((with_reducible apply wpQ_assign); rfl; rfl)
                | ((with_reducible apply wpQ_pick); rfl; rfl; rfl)
                | ((with_reducible apply wpQ_not); rfl; rfl)
                | ((with_reducible apply wpQ_cmp (b := true)); rfl; rfl; rfl; (first | rfl | assumption | (simp only [cmpB, decide_eq_true_eq, decide_eq_false_iff_not, beq_iff_eq, bne_iff_ne, ne_eq, beq_eq_false_iff_ne, bne_eq_false_iff_eq, gt_iff_lt, ge_iff_le]; omega) | (simp; omega)); rfl)
                | ((with_reducible apply wpQ_cmp (b := false)); rfl; rfl; rfl; (first | rfl | assumption | (simp only [cmpB, decide_eq_true_eq, decide_eq_false_iff_not, beq_iff_eq, bne_iff_ne, ne_eq, beq_eq_false_iff_ne, bne_eq_false_iff_eq, gt_iff_lt, ge_iff_le]; omega) | (simp; omega)); rfl)
                | ((with_reducible apply wpQ_cmp); rfl; rfl; rfl; rfl; rfl)
                | ((with_reducible apply wpQ_arith); rfl; rfl; rfl; (exact IntWalk.i64_in _ (by (try simp only [arithI]); omega)); rfl)); (try simp only [if_true, if_false, Bool.false_eq_true, arithI, Act.put, Act.eval, List.setIfInBounds_toArray, List.set_cons_succ, List.set_cons_zero, Array.getD_eq_getD_getElem?, List.getElem?_toArray, List.getElem?_cons_succ, List.getElem?_cons_zero, Option.getD_some]))
              refine wpQuiet_nil ?_
              intro wq hq_
              have HQ := hid hq_
              clear hq_
              clear HH
              have HH := HQ
              clear HQ
              go_wp2_with (first
                | ((first
                    | ((with_reducible apply wpL_skip); rfl; skip)
                    | ((with_reducible apply wpL_shrI (m := i) (k := k) (r := q)); rfl; rfl; rfl; rfl; (exact (by omega)); (exact HQ1.out); rfl)
                    | ((with_reducible apply wpL_remN (m := q) (n := 2)); rfl; rfl; rfl; rfl; (exact (by omega)); (exact (by omega)); (exact (by omega)); rfl; rw [HMOD.out])
                    | ((with_reducible apply wpL_loadArr (dst := some 52) (t := 73) (v := jn s c) kA73 HH.out); rfl; (exact .here); rfl)
                    | ((with_reducible apply wpL_buildA (dst := some 53) kE98 (jn s c) (by decide)); rfl; (exact HH.out); rfl; (intro gb_ w_ hq_; clear HH; have HH := hid hq_; clear hq_))
                    | ((with_reducible apply wpL_appendA (dst := some 54) (l := r) (l2 := [jn s c]) (r := r2) kE98 HH.out.swap HH.out.sl0 HR2.out); rfl; rfl; (exact (by simp; omega)); rfl; rfl; rfl; (intro ao4 cap4 w_ hq_; clear HH; have HH := hid hq_.dropSnd; clear hq_))
                    | ((with_reducible apply wpL_indexE (dst := some 57) (m := 0) Try.underlying73 kS41 (by decide)); rfl; rfl; rfl; (exact (by decide)); rfl)
                    | ((with_reducible apply wpL_indexE (dst := some 59) (m := 1) Try.underlying73 kS41 (by decide)); rfl; rfl; rfl; (exact (by decide)); rfl)
                    | ((with_reducible apply wpL_loadPA (dst := some 58) (t := 41) (v := s) kA41 HH.out); rfl; (exact .here); (exact jn_fst s c); rfl)
                    | ((with_reducible apply wpL_loadPA (dst := some 60) (t := 41) (v := c) kA41 HH.out); rfl; (exact .here); (exact jn_snd s c); rfl)
                    | (go_at_call 47; (with_reducible refine (joinR_any _ ((k : Int) + 1) s c).mono ?_); rw [HC2.out]; rintro e_ w2_ ⟨rfl, hb_⟩; (have hq_ := HH.out.grow hb_); clear HH; have HH := hid hq_; clear hq_ hb_)
                    | ((with_reducible apply wpL_nilCheck); rfl; rfl)
                    | ((with_reducible apply wpL_loadArr (t := 41) kA41 HH.out); rfl; (first | exact .here | exact .there .here | exact .there (.there .here) | exact .there (.there (.there .here)) | exact .there (.there (.there (.there .here))) | exact .there (.there (.there (.there (.there .here)))) | exact .there (.there (.there (.there (.there (.there .here))))) | exact .there (.there (.there (.there (.there (.there (.there .here))))))); rfl)
                    | ((with_reducible apply wpL_loadC (t := 41) kA41 HH.out); rfl; (first | exact .here | exact .there .here | exact .there (.there .here) | exact .there (.there (.there .here)) | exact .there (.there (.there (.there .here))) | exact .there (.there (.there (.there (.there .here)))) | exact .there (.there (.there (.there (.there (.there .here))))) | exact .there (.there (.there (.there (.there (.there (.there .here))))))); (first | rfl | exact Arr.len _ | (simp; done)); rfl)
                    | ((with_reducible apply wpL_loadC (t := 73) kA73 HH.out); rfl; (first | exact .here | exact .there .here | exact .there (.there .here) | exact .there (.there (.there .here)) | exact .there (.there (.there (.there .here))) | exact .there (.there (.there (.there (.there .here)))) | exact .there (.there (.there (.there (.there (.there .here))))) | exact .there (.there (.there (.there (.there (.there (.there .here))))))); (first | rfl | exact Arr.len _ | (simp; done)); rfl)
                    | ((with_reducible apply wpL_len (t := 30) Try.underlying30); rfl; rfl)
                    | ((with_reducible apply wpL_len (t := 98) Try.underlying98); rfl; rfl)
                    | ((with_reducible apply wpL_boxArr (dst := some 3)); rfl; (exact HH.out); rfl; (intro g3_ w_ hq_; (try simp only [List.set_cons_zero, List.set_cons_succ] at hq_); clear HH; have HH := hid hq_; clear hq_))
                    | ((with_reducible apply wpL_allocC (dst := some 7) kZ41 HH.out); rfl; (intro g7_ w_ hq_; (try simp only [List.set_cons_zero, List.set_cons_succ] at hq_); clear HH; have HH := hid hq_; clear hq_))
                    | ((with_reducible apply wpL_allocC (dst := some 10) kZ41 HH.out); rfl; (intro g10_ w_ hq_; (try simp only [List.set_cons_zero, List.set_cons_succ] at hq_); clear HH; have HH := hid hq_; clear hq_))
                    | ((with_reducible apply wpL_allocC (dst := some 12) kZ73 HH.out); rfl; (intro g12_ w_ hq_; (try simp only [List.set_cons_zero, List.set_cons_succ] at hq_); clear HH; have HH := hid hq_; clear hq_))
                    | ((with_reducible apply wpL_storeArr (t := 41) kS41 HH.out); rfl; rfl; (first | exact .here | exact .there .here | exact .there (.there .here) | exact .there (.there (.there .here)) | exact .there (.there (.there (.there .here))) | exact .there (.there (.there (.there (.there .here)))) | exact .there (.there (.there (.there (.there (.there .here))))) | exact .there (.there (.there (.there (.there (.there (.there .here))))))); (first | rfl | exact Arr.len _ | (simp; done)); rfl; (intro w_ hq_; (try simp only [List.set_cons_zero, List.set_cons_succ] at hq_); clear HH; have HH := hid hq_; clear hq_))
                    | ((with_reducible apply wpL_storeC (t := 41)); rfl; rfl; (exact kS41); (exact HH.out); (first | exact .here | exact .there .here | exact .there (.there .here) | exact .there (.there (.there .here)) | exact .there (.there (.there (.there .here))) | exact .there (.there (.there (.there (.there .here)))) | exact .there (.there (.there (.there (.there (.there .here))))) | exact .there (.there (.there (.there (.there (.there (.there .here))))))); (first | rfl | exact Arr.len _ | (simp; done)); (first | rfl | (intro u_ hu_; simp only [List.mem_cons, List.not_mem_nil, or_false] at hu_; rcases hu_ with rfl | hu_; rfl) | exact byt_cell1 _ | exact cells_one _ | exact wrd_one _ | exact flat_cell1 _); (first | rfl | exact Arr.len _ | (simp; done)); rfl; (intro w_ hq_; (try simp only [List.set_cons_zero, List.set_cons_succ] at hq_); clear HH; have HH := hid hq_; clear hq_))
                    | ((with_reducible apply wpL_storeC (t := 73)); rfl; rfl; (exact kS73); (exact HH.out); (first | exact .here | exact .there .here | exact .there (.there .here) | exact .there (.there (.there .here)) | exact .there (.there (.there (.there .here))) | exact .there (.there (.there (.there (.there .here)))) | exact .there (.there (.there (.there (.there (.there .here))))) | exact .there (.there (.there (.there (.there (.there (.there .here))))))); (first | rfl | exact Arr.len _ | (simp; done)); (first | rfl | (intro u_ hu_; simp only [List.mem_cons, List.not_mem_nil, or_false] at hu_; rcases hu_ with rfl | hu_; rfl) | exact byt_cell1 _ | exact cells_one _ | exact wrd_one _ | exact flat_cell1 _); (first | rfl | exact Arr.len _ | (simp; done)); rfl; (intro w_ hq_; (try simp only [List.set_cons_zero, List.set_cons_succ] at hq_); clear HH; have HH := hid hq_; clear hq_))
                    | ((with_reducible apply wpL_move); rfl; rfl)
                    | ((with_reducible apply wpL_assign); rfl; rfl)
                    | ((with_reducible apply wpL_pick); rfl; rfl; rfl)
                    | ((with_reducible apply wpL_not); rfl; rfl)
                    | ((with_reducible apply wpL_cmp (b := true)); rfl; rfl; rfl; (first | rfl | assumption | (simp only [cmpB, decide_eq_true_eq, decide_eq_false_iff_not, beq_iff_eq, bne_iff_ne, ne_eq, beq_eq_false_iff_ne, bne_eq_false_iff_eq, gt_iff_lt, ge_iff_le]; omega) | (simp; omega)); rfl)
                    | ((with_reducible apply wpL_cmp (b := false)); rfl; rfl; rfl; (first | rfl | assumption | (simp only [cmpB, decide_eq_true_eq, decide_eq_false_iff_not, beq_iff_eq, bne_iff_ne, ne_eq, beq_eq_false_iff_ne, bne_eq_false_iff_eq, gt_iff_lt, ge_iff_le]; omega) | (simp; omega)); rfl)
                    | ((with_reducible apply wpL_cmp); rfl; rfl; rfl; rfl; rfl)
                    | ((with_reducible apply wpL_arith); rfl; rfl; rfl; (exact IntWalk.i64_in _ (by (try simp only [arithI]); omega)); rfl)); (try simp only [arithI, Act.put, Act.eval, List.setIfInBounds_toArray, List.set_cons_succ, List.set_cons_zero, Array.getD_eq_getD_getElem?, List.getElem?_toArray, List.getElem?_cons_succ, List.getElem?_cons_zero, Option.getD_some])))
              go_roundw
              case rel => exact ⟨k + 1, c2, r2, _, _, by omega, by go_num, HST.out, HST2.out, rfl, HH.out.dropBlk⟩
              case measure => simp [intOf]; omega
            · have hpair : pairC i k c s = (c, s) := by unfold pairC; rw [if_neg hbit]
              rw [hpair] at hst hst2
              obtain ⟨c2, hc2⟩ : ∃ c2, joinN ((k : Int) + 1) c s = c2 := ⟨_, rfl⟩
              obtain ⟨r2, hr2⟩ : ∃ r2, r ++ [jn c s] = r2 := ⟨_, rfl⟩
              have HC2 := hid hc2
              have HR2 := hid hr2
              have HST := hid (show c2 = curAt i x p (k + 1) by rw [hst]; exact hc2.symm)
              have HST2 := hid (show r2 = pairL i x p (k + 1) by rw [hst2]; exact hr2.symm)
              have HMOD := hid (show q % 2 = 0 by rw [← HQ1.out]; omega)
              clear hpair hst hst2 hc2 hr2 hbit
              go_wp2_with (first
                | ((first
                    | ((with_reducible apply wpL_skip); rfl; skip)
                    | ((with_reducible apply wpL_shrI (m := i) (k := k) (r := q)); rfl; rfl; rfl; rfl; (exact (by omega)); (exact HQ1.out); rfl)
                    | ((with_reducible apply wpL_remN (m := q) (n := 2)); rfl; rfl; rfl; rfl; (exact (by omega)); (exact (by omega)); (exact (by omega)); rfl; rw [HMOD.out])
                    | ((with_reducible apply wpL_loadArr (dst := some 52) (t := 73) (v := jn c s) kA73 HH.out); rfl; (exact .here); rfl)
                    | ((with_reducible apply wpL_buildA (dst := some 53) kE98 (jn c s) (by decide)); rfl; (exact HH.out); rfl; (intro gb_ w_ hq_; clear HH; have HH := hid hq_; clear hq_))
                    | ((with_reducible apply wpL_appendA (dst := some 54) (l := r) (l2 := [jn c s]) (r := r2) kE98 HH.out.swap HH.out.sl0 HR2.out); rfl; rfl; (exact (by simp; omega)); rfl; rfl; rfl; (intro ao4 cap4 w_ hq_; clear HH; have HH := hid hq_.dropSnd; clear hq_))
                    | ((with_reducible apply wpL_indexE (dst := some 57) (m := 0) Try.underlying73 kS41 (by decide)); rfl; rfl; rfl; (exact (by decide)); rfl)
                    | ((with_reducible apply wpL_indexE (dst := some 59) (m := 1) Try.underlying73 kS41 (by decide)); rfl; rfl; rfl; (exact (by decide)); rfl)
                    | ((with_reducible apply wpL_loadPA (dst := some 58) (t := 41) (v := c) kA41 HH.out); rfl; (exact .here); (exact jn_fst c s); rfl)
                    | ((with_reducible apply wpL_loadPA (dst := some 60) (t := 41) (v := s) kA41 HH.out); rfl; (exact .here); (exact jn_snd c s); rfl)
                    | (go_at_call 47; (with_reducible refine (joinR_any _ ((k : Int) + 1) c s).mono ?_); rw [HC2.out]; rintro e_ w2_ ⟨rfl, hb_⟩; (have hq_ := HH.out.grow hb_); clear HH; have HH := hid hq_; clear hq_ hb_)
                    | ((with_reducible apply wpL_nilCheck); rfl; rfl)
                    | ((with_reducible apply wpL_loadArr (t := 41) kA41 HH.out); rfl; (first | exact .here | exact .there .here | exact .there (.there .here) | exact .there (.there (.there .here)) | exact .there (.there (.there (.there .here))) | exact .there (.there (.there (.there (.there .here)))) | exact .there (.there (.there (.there (.there (.there .here))))) | exact .there (.there (.there (.there (.there (.there (.there .here))))))); rfl)
                    | ((with_reducible apply wpL_loadC (t := 41) kA41 HH.out); rfl; (first | exact .here | exact .there .here | exact .there (.there .here) | exact .there (.there (.there .here)) | exact .there (.there (.there (.there .here))) | exact .there (.there (.there (.there (.there .here)))) | exact .there (.there (.there (.there (.there (.there .here))))) | exact .there (.there (.there (.there (.there (.there (.there .here))))))); (first | rfl | exact Arr.len _ | (simp; done)); rfl)
                    | ((with_reducible apply wpL_loadC (t := 73) kA73 HH.out); rfl; (first | exact .here | exact .there .here | exact .there (.there .here) | exact .there (.there (.there .here)) | exact .there (.there (.there (.there .here))) | exact .there (.there (.there (.there (.there .here)))) | exact .there (.there (.there (.there (.there (.there .here))))) | exact .there (.there (.there (.there (.there (.there (.there .here))))))); (first | rfl | exact Arr.len _ | (simp; done)); rfl)
                    | ((with_reducible apply wpL_len (t := 30) Try.underlying30); rfl; rfl)
                    | ((with_reducible apply wpL_len (t := 98) Try.underlying98); rfl; rfl)
                    | ((with_reducible apply wpL_boxArr (dst := some 3)); rfl; (exact HH.out); rfl; (intro g3_ w_ hq_; (try simp only [List.set_cons_zero, List.set_cons_succ] at hq_); clear HH; have HH := hid hq_; clear hq_))
                    | ((with_reducible apply wpL_allocC (dst := some 7) kZ41 HH.out); rfl; (intro g7_ w_ hq_; (try simp only [List.set_cons_zero, List.set_cons_succ] at hq_); clear HH; have HH := hid hq_; clear hq_))
                    | ((with_reducible apply wpL_allocC (dst := some 10) kZ41 HH.out); rfl; (intro g10_ w_ hq_; (try simp only [List.set_cons_zero, List.set_cons_succ] at hq_); clear HH; have HH := hid hq_; clear hq_))
                    | ((with_reducible apply wpL_allocC (dst := some 12) kZ73 HH.out); rfl; (intro g12_ w_ hq_; (try simp only [List.set_cons_zero, List.set_cons_succ] at hq_); clear HH; have HH := hid hq_; clear hq_))
                    | ((with_reducible apply wpL_storeArr (t := 41) kS41 HH.out); rfl; rfl; (first | exact .here | exact .there .here | exact .there (.there .here) | exact .there (.there (.there .here)) | exact .there (.there (.there (.there .here))) | exact .there (.there (.there (.there (.there .here)))) | exact .there (.there (.there (.there (.there (.there .here))))) | exact .there (.there (.there (.there (.there (.there (.there .here))))))); (first | rfl | exact Arr.len _ | (simp; done)); rfl; (intro w_ hq_; (try simp only [List.set_cons_zero, List.set_cons_succ] at hq_); clear HH; have HH := hid hq_; clear hq_))
                    | ((with_reducible apply wpL_storeC (t := 41)); rfl; rfl; (exact kS41); (exact HH.out); (first | exact .here | exact .there .here | exact .there (.there .here) | exact .there (.there (.there .here)) | exact .there (.there (.there (.there .here))) | exact .there (.there (.there (.there (.there .here)))) | exact .there (.there (.there (.there (.there (.there .here))))) | exact .there (.there (.there (.there (.there (.there (.there .here))))))); (first | rfl | exact Arr.len _ | (simp; done)); (first | rfl | (intro u_ hu_; simp only [List.mem_cons, List.not_mem_nil, or_false] at hu_; rcases hu_ with rfl | hu_; rfl) | exact byt_cell1 _ | exact cells_one _ | exact wrd_one _ | exact flat_cell1 _); (first | rfl | exact Arr.len _ | (simp; done)); rfl; (intro w_ hq_; (try simp only [List.set_cons_zero, List.set_cons_succ] at hq_); clear HH; have HH := hid hq_; clear hq_))
                    | ((with_reducible apply wpL_storeC (t := 73)); rfl; rfl; (exact kS73); (exact HH.out); (first | exact .here | exact .there .here | exact .there (.there .here) | exact .there (.there (.there .here)) | exact .there (.there (.there (.there .here))) | exact .there (.there (.there (.there (.there .here)))) | exact .there (.there (.there (.there (.there (.there .here))))) | exact .there (.there (.there (.there (.there (.there (.there .here))))))); (first | rfl | exact Arr.len _ | (simp; done)); (first | rfl | (intro u_ hu_; simp only [List.mem_cons, List.not_mem_nil, or_false] at hu_; rcases hu_ with rfl | hu_; rfl) | exact byt_cell1 _ | exact cells_one _ | exact wrd_one _ | exact flat_cell1 _); (first | rfl | exact Arr.len _ | (simp; done)); rfl; (intro w_ hq_; (try simp only [List.set_cons_zero, List.set_cons_succ] at hq_); clear HH; have HH := hid hq_; clear hq_))
                    | ((with_reducible apply wpL_move); rfl; rfl)
                    | ((with_reducible apply wpL_assign); rfl; rfl)
                    | ((with_reducible apply wpL_pick); rfl; rfl; rfl)
                    | ((with_reducible apply wpL_not); rfl; rfl)
                    | ((with_reducible apply wpL_cmp (b := true)); rfl; rfl; rfl; (first | rfl | assumption | (simp only [cmpB, decide_eq_true_eq, decide_eq_false_iff_not, beq_iff_eq, bne_iff_ne, ne_eq, beq_eq_false_iff_ne, bne_eq_false_iff_eq, gt_iff_lt, ge_iff_le]; omega) | (simp; omega)); rfl)
                    | ((with_reducible apply wpL_cmp (b := false)); rfl; rfl; rfl; (first | rfl | assumption | (simp only [cmpB, decide_eq_true_eq, decide_eq_false_iff_not, beq_iff_eq, bne_iff_ne, ne_eq, beq_eq_false_iff_ne, bne_eq_false_iff_eq, gt_iff_lt, ge_iff_le]; omega) | (simp; omega)); rfl)
                    | ((with_reducible apply wpL_cmp); rfl; rfl; rfl; rfl; rfl)
                    | ((with_reducible apply wpL_arith); rfl; rfl; rfl; (exact IntWalk.i64_in _ (by (try simp only [arithI]); omega)); rfl)); (try simp only [arithI, Act.put, Act.eval, List.setIfInBounds_toArray, List.set_cons_succ, List.set_cons_zero, Array.getD_eq_getD_getElem?, List.getElem?_toArray, List.getElem?_cons_succ, List.getElem?_cons_zero, Option.getD_some])))
              go_roundw
              case rel => exact ⟨k + 1, c2, r2, _, _, by omega, by go_num, HST.out, HST2.out, rfl, HH.out.dropBlk⟩
              case measure => simp [intOf]; omega
          · obtain rfl : k = p.length := by omega
            have HCD := hid (HCK.out.trans HD.out)
            have HRP := hid (HRK.out.trans HPS.out)
            go_wp2_with (first
              | ((first
                  | ((with_reducible apply wpL_skip); rfl; skip)
                  | ((with_reducible apply wpL_nilCheck); rfl; rfl)
                  | ((with_reducible apply wpL_loadArr (t := 41) kA41 HH.out); rfl; (first | exact .here | exact .there .here | exact .there (.there .here) | exact .there (.there (.there .here)) | exact .there (.there (.there (.there .here))) | exact .there (.there (.there (.there (.there .here)))) | exact .there (.there (.there (.there (.there (.there .here))))) | exact .there (.there (.there (.there (.there (.there (.there .here))))))); rfl)
                  | ((with_reducible apply wpL_loadC (t := 41) kA41 HH.out); rfl; (first | exact .here | exact .there .here | exact .there (.there .here) | exact .there (.there (.there .here)) | exact .there (.there (.there (.there .here))) | exact .there (.there (.there (.there (.there .here)))) | exact .there (.there (.there (.there (.there (.there .here))))) | exact .there (.there (.there (.there (.there (.there (.there .here))))))); (first | rfl | exact Arr.len _ | (simp; done)); rfl)
                  | ((with_reducible apply wpL_loadC (t := 73) kA73 HH.out); rfl; (first | exact .here | exact .there .here | exact .there (.there .here) | exact .there (.there (.there .here)) | exact .there (.there (.there (.there .here))) | exact .there (.there (.there (.there (.there .here)))) | exact .there (.there (.there (.there (.there (.there .here))))) | exact .there (.there (.there (.there (.there (.there (.there .here))))))); (first | rfl | exact Arr.len _ | (simp; done)); rfl)
                  | ((with_reducible apply wpL_len (t := 30) Try.underlying30); rfl; rfl)
                  | ((with_reducible apply wpL_len (t := 98) Try.underlying98); rfl; rfl)
                  | ((with_reducible apply wpL_boxArr (dst := some 3)); rfl; (exact HH.out); rfl; (intro g3_ w_ hq_; (try simp only [List.set_cons_zero, List.set_cons_succ] at hq_); clear HH; have HH := hid hq_; clear hq_))
                  | ((with_reducible apply wpL_allocC (dst := some 7) kZ41 HH.out); rfl; (intro g7_ w_ hq_; (try simp only [List.set_cons_zero, List.set_cons_succ] at hq_); clear HH; have HH := hid hq_; clear hq_))
                  | ((with_reducible apply wpL_allocC (dst := some 10) kZ41 HH.out); rfl; (intro g10_ w_ hq_; (try simp only [List.set_cons_zero, List.set_cons_succ] at hq_); clear HH; have HH := hid hq_; clear hq_))
                  | ((with_reducible apply wpL_allocC (dst := some 12) kZ73 HH.out); rfl; (intro g12_ w_ hq_; (try simp only [List.set_cons_zero, List.set_cons_succ] at hq_); clear HH; have HH := hid hq_; clear hq_))
                  | ((with_reducible apply wpL_storeArr (t := 41) kS41 HH.out); rfl; rfl; (first | exact .here | exact .there .here | exact .there (.there .here) | exact .there (.there (.there .here)) | exact .there (.there (.there (.there .here))) | exact .there (.there (.there (.there (.there .here)))) | exact .there (.there (.there (.there (.there (.there .here))))) | exact .there (.there (.there (.there (.there (.there (.there .here))))))); (first | rfl | exact Arr.len _ | (simp; done)); rfl; (intro w_ hq_; (try simp only [List.set_cons_zero, List.set_cons_succ] at hq_); clear HH; have HH := hid hq_; clear hq_))
                  | ((with_reducible apply wpL_storeC (t := 41)); rfl; rfl; (exact kS41); (exact HH.out); (first | exact .here | exact .there .here | exact .there (.there .here) | exact .there (.there (.there .here)) | exact .there (.there (.there (.there .here))) | exact .there (.there (.there (.there (.there .here)))) | exact .there (.there (.there (.there (.there (.there .here))))) | exact .there (.there (.there (.there (.there (.there (.there .here))))))); (first | rfl | exact Arr.len _ | (simp; done)); (first | rfl | (intro u_ hu_; simp only [List.mem_cons, List.not_mem_nil, or_false] at hu_; rcases hu_ with rfl | hu_; rfl) | exact byt_cell1 _ | exact cells_one _ | exact wrd_one _ | exact flat_cell1 _); (first | rfl | exact Arr.len _ | (simp; done)); rfl; (intro w_ hq_; (try simp only [List.set_cons_zero, List.set_cons_succ] at hq_); clear HH; have HH := hid hq_; clear hq_))
                  | ((with_reducible apply wpL_storeC (t := 73)); rfl; rfl; (exact kS73); (exact HH.out); (first | exact .here | exact .there .here | exact .there (.there .here) | exact .there (.there (.there .here)) | exact .there (.there (.there (.there .here))) | exact .there (.there (.there (.there (.there .here)))) | exact .there (.there (.there (.there (.there (.there .here))))) | exact .there (.there (.there (.there (.there (.there (.there .here))))))); (first | rfl | exact Arr.len _ | (simp; done)); (first | rfl | (intro u_ hu_; simp only [List.mem_cons, List.not_mem_nil, or_false] at hu_; rcases hu_ with rfl | hu_; rfl) | exact byt_cell1 _ | exact cells_one _ | exact wrd_one _ | exact flat_cell1 _); (first | rfl | exact Arr.len _ | (simp; done)); rfl; (intro w_ hq_; (try simp only [List.set_cons_zero, List.set_cons_succ] at hq_); clear HH; have HH := hid hq_; clear hq_))
                  | ((with_reducible apply wpL_move); rfl; rfl)
                  | ((with_reducible apply wpL_assign); rfl; rfl)
                  | ((with_reducible apply wpL_pick); rfl; rfl; rfl)
                  | ((with_reducible apply wpL_not); rfl; rfl)
                  | ((with_reducible apply wpL_cmp (b := true)); rfl; rfl; rfl; (first | rfl | assumption | (simp only [cmpB, decide_eq_true_eq, decide_eq_false_iff_not, beq_iff_eq, bne_iff_ne, ne_eq, beq_eq_false_iff_ne, bne_eq_false_iff_eq, gt_iff_lt, ge_iff_le]; omega) | (simp; omega)); rfl)
                  | ((with_reducible apply wpL_cmp (b := false)); rfl; rfl; rfl; (first | rfl | assumption | (simp only [cmpB, decide_eq_true_eq, decide_eq_false_iff_not, beq_iff_eq, bne_iff_ne, ne_eq, beq_eq_false_iff_ne, bne_eq_false_iff_eq, gt_iff_lt, ge_iff_le]; omega) | (simp; omega)); rfl)
                  | ((with_reducible apply wpL_cmp); rfl; rfl; rfl; rfl; rfl)
                  | ((with_reducible apply wpL_arith); rfl; rfl; rfl; (exact IntWalk.i64_in _ (by (try simp only [arithI]); omega)); rfl)); (try simp only [arithI, Act.put, Act.eval, List.setIfInBounds_toArray, List.set_cons_succ, List.set_cons_zero, Array.getD_eq_getD_getElem?, List.getElem?_toArray, List.getElem?_cons_succ, List.getElem?_cons_zero, Option.getD_some])))
            refine wp_region_tailQ 3 (by kernel_rfl) (by kernel_rfl) (by kernel_rfl) HH.out ?_
            simp only [List.take_succ_cons, List.take_zero, List.drop_succ_cons, List.drop_zero]
            repeat ((first
              | ((with_reducible apply wpQ_skip); rfl; skip)
              | ((with_reducible apply wpQ_nilCheck); rfl; rfl)
              | ((with_reducible apply wpQ_loadArr (t := 41) kA41); rfl; (first | exact .here | exact .there .here | exact .there (.there .here) | exact .there (.there (.there .here)) | exact .there (.there (.there (.there .here))) | exact .there (.there (.there (.there (.there .here)))) | exact .there (.there (.there (.there (.there (.there .here))))) | exact .there (.there (.there (.there (.there (.there (.there .here))))))); rfl)
              | ((with_reducible apply wpQ_loadC (t := 41) kA41); rfl; (first | exact .here | exact .there .here | exact .there (.there .here) | exact .there (.there (.there .here)) | exact .there (.there (.there (.there .here))) | exact .there (.there (.there (.there (.there .here)))) | exact .there (.there (.there (.there (.there (.there .here))))) | exact .there (.there (.there (.there (.there (.there (.there .here))))))); (first | rfl | exact Arr.len _ | (simp; done)); rfl)
              | ((with_reducible apply wpQ_loadC (t := 73) kA73); rfl; (first | exact .here | exact .there .here | exact .there (.there .here) | exact .there (.there (.there .here)) | exact .there (.there (.there (.there .here))) | exact .there (.there (.there (.there (.there .here)))) | exact .there (.there (.there (.there (.there (.there .here))))) | exact .there (.there (.there (.there (.there (.there (.there .here))))))); (first | rfl | exact Arr.len _ | (simp; done)); rfl)
              | ((with_reducible apply wpQ_len (t := 30) Try.underlying30); rfl; rfl)
              | ((with_reducible apply wpQ_len (t := 98) Try.underlying98); rfl; rfl)
              | ((with_reducible apply wpQ_move); rfl; rfl)
              | ((with_reducible apply wpQ_assign); rfl; rfl)
              | ((with_reducible apply wpQ_pick); rfl; rfl; rfl)
              | ((with_reducible apply wpQ_not); rfl; rfl)
              | ((with_reducible apply wpQ_cmp (b := true)); rfl; rfl; rfl; (first | rfl | assumption | (simp only [cmpB, decide_eq_true_eq, decide_eq_false_iff_not, beq_iff_eq, bne_iff_ne, ne_eq, beq_eq_false_iff_ne, bne_eq_false_iff_eq, gt_iff_lt, ge_iff_le]; omega) | (simp; omega)); rfl)
              | ((with_reducible apply wpQ_cmp (b := false)); rfl; rfl; rfl; (first | rfl | assumption | (simp only [cmpB, decide_eq_true_eq, decide_eq_false_iff_not, beq_iff_eq, bne_iff_ne, ne_eq, beq_eq_false_iff_ne, bne_eq_false_iff_eq, gt_iff_lt, ge_iff_le]; omega) | (simp; omega)); rfl)
              | ((with_reducible apply wpQ_cmp); rfl; rfl; rfl; rfl; rfl)
              | ((with_reducible apply wpQ_arith); rfl; rfl; rfl; (exact IntWalk.i64_in _ (by (try simp only [arithI]); omega)); rfl)); (try simp only [if_true, if_false, Bool.false_eq_true, arithI, Act.put, Act.eval, List.setIfInBounds_toArray, List.set_cons_succ, List.set_cons_zero, Array.getD_eq_getD_getElem?, List.getElem?_toArray, List.getElem?_cons_succ, List.getElem?_cons_zero, Option.getD_some]))
            refine wpQuiet_nil ?_
            intro wq hq_
            have HQ := hid hq_
            clear hq_
            clear HH
            have HH := HQ
            clear HQ
            go_wp2_with (first
              | ((first
                  | ((with_reducible apply wpL_skip); rfl; skip)
                  | ((with_reducible apply wpL_nilCheck); rfl; rfl)
                  | ((with_reducible apply wpL_loadArr (t := 41) kA41 HH.out); rfl; (first | exact .here | exact .there .here | exact .there (.there .here) | exact .there (.there (.there .here)) | exact .there (.there (.there (.there .here))) | exact .there (.there (.there (.there (.there .here)))) | exact .there (.there (.there (.there (.there (.there .here))))) | exact .there (.there (.there (.there (.there (.there (.there .here))))))); rfl)
                  | ((with_reducible apply wpL_loadC (t := 41) kA41 HH.out); rfl; (first | exact .here | exact .there .here | exact .there (.there .here) | exact .there (.there (.there .here)) | exact .there (.there (.there (.there .here))) | exact .there (.there (.there (.there (.there .here)))) | exact .there (.there (.there (.there (.there (.there .here))))) | exact .there (.there (.there (.there (.there (.there (.there .here))))))); (first | rfl | exact Arr.len _ | (simp; done)); rfl)
                  | ((with_reducible apply wpL_loadC (t := 73) kA73 HH.out); rfl; (first | exact .here | exact .there .here | exact .there (.there .here) | exact .there (.there (.there .here)) | exact .there (.there (.there (.there .here))) | exact .there (.there (.there (.there (.there .here)))) | exact .there (.there (.there (.there (.there (.there .here))))) | exact .there (.there (.there (.there (.there (.there (.there .here))))))); (first | rfl | exact Arr.len _ | (simp; done)); rfl)
                  | ((with_reducible apply wpL_len (t := 30) Try.underlying30); rfl; rfl)
                  | ((with_reducible apply wpL_len (t := 98) Try.underlying98); rfl; rfl)
                  | ((with_reducible apply wpL_boxArr (dst := some 3)); rfl; (exact HH.out); rfl; (intro g3_ w_ hq_; (try simp only [List.set_cons_zero, List.set_cons_succ] at hq_); clear HH; have HH := hid hq_; clear hq_))
                  | ((with_reducible apply wpL_allocC (dst := some 7) kZ41 HH.out); rfl; (intro g7_ w_ hq_; (try simp only [List.set_cons_zero, List.set_cons_succ] at hq_); clear HH; have HH := hid hq_; clear hq_))
                  | ((with_reducible apply wpL_allocC (dst := some 10) kZ41 HH.out); rfl; (intro g10_ w_ hq_; (try simp only [List.set_cons_zero, List.set_cons_succ] at hq_); clear HH; have HH := hid hq_; clear hq_))
                  | ((with_reducible apply wpL_allocC (dst := some 12) kZ73 HH.out); rfl; (intro g12_ w_ hq_; (try simp only [List.set_cons_zero, List.set_cons_succ] at hq_); clear HH; have HH := hid hq_; clear hq_))
                  | ((with_reducible apply wpL_storeArr (t := 41) kS41 HH.out); rfl; rfl; (first | exact .here | exact .there .here | exact .there (.there .here) | exact .there (.there (.there .here)) | exact .there (.there (.there (.there .here))) | exact .there (.there (.there (.there (.there .here)))) | exact .there (.there (.there (.there (.there (.there .here))))) | exact .there (.there (.there (.there (.there (.there (.there .here))))))); (first | rfl | exact Arr.len _ | (simp; done)); rfl; (intro w_ hq_; (try simp only [List.set_cons_zero, List.set_cons_succ] at hq_); clear HH; have HH := hid hq_; clear hq_))
                  | ((with_reducible apply wpL_storeC (t := 41)); rfl; rfl; (exact kS41); (exact HH.out); (first | exact .here | exact .there .here | exact .there (.there .here) | exact .there (.there (.there .here)) | exact .there (.there (.there (.there .here))) | exact .there (.there (.there (.there (.there .here)))) | exact .there (.there (.there (.there (.there (.there .here))))) | exact .there (.there (.there (.there (.there (.there (.there .here))))))); (first | rfl | exact Arr.len _ | (simp; done)); (first | rfl | (intro u_ hu_; simp only [List.mem_cons, List.not_mem_nil, or_false] at hu_; rcases hu_ with rfl | hu_; rfl) | exact byt_cell1 _ | exact cells_one _ | exact wrd_one _ | exact flat_cell1 _); (first | rfl | exact Arr.len _ | (simp; done)); rfl; (intro w_ hq_; (try simp only [List.set_cons_zero, List.set_cons_succ] at hq_); clear HH; have HH := hid hq_; clear hq_))
                  | ((with_reducible apply wpL_storeC (t := 73)); rfl; rfl; (exact kS73); (exact HH.out); (first | exact .here | exact .there .here | exact .there (.there .here) | exact .there (.there (.there .here)) | exact .there (.there (.there (.there .here))) | exact .there (.there (.there (.there (.there .here)))) | exact .there (.there (.there (.there (.there (.there .here))))) | exact .there (.there (.there (.there (.there (.there (.there .here))))))); (first | rfl | exact Arr.len _ | (simp; done)); (first | rfl | (intro u_ hu_; simp only [List.mem_cons, List.not_mem_nil, or_false] at hu_; rcases hu_ with rfl | hu_; rfl) | exact byt_cell1 _ | exact cells_one _ | exact wrd_one _ | exact flat_cell1 _); (first | rfl | exact Arr.len _ | (simp; done)); rfl; (intro w_ hq_; (try simp only [List.set_cons_zero, List.set_cons_succ] at hq_); clear HH; have HH := hid hq_; clear hq_))
                  | ((with_reducible apply wpL_move); rfl; rfl)
                  | ((with_reducible apply wpL_assign); rfl; rfl)
                  | ((with_reducible apply wpL_pick); rfl; rfl; rfl)
                  | ((with_reducible apply wpL_not); rfl; rfl)
                  | ((with_reducible apply wpL_cmp (b := true)); rfl; rfl; rfl; (first | rfl | assumption | (simp only [cmpB, decide_eq_true_eq, decide_eq_false_iff_not, beq_iff_eq, bne_iff_ne, ne_eq, beq_eq_false_iff_ne, bne_eq_false_iff_eq, gt_iff_lt, ge_iff_le]; omega) | (simp; omega)); rfl)
                  | ((with_reducible apply wpL_cmp (b := false)); rfl; rfl; rfl; (first | rfl | assumption | (simp only [cmpB, decide_eq_true_eq, decide_eq_false_iff_not, beq_iff_eq, bne_iff_ne, ne_eq, beq_eq_false_iff_ne, bne_eq_false_iff_eq, gt_iff_lt, ge_iff_le]; omega) | (simp; omega)); rfl)
                  | ((with_reducible apply wpL_cmp); rfl; rfl; rfl; rfl; rfl)
                  | ((with_reducible apply wpL_arith); rfl; rfl; rfl; (exact IntWalk.i64_in _ (by (try simp only [arithI]); omega)); rfl)); (try simp only [arithI, Act.put, Act.eval, List.setIfInBounds_toArray, List.set_cons_succ, List.set_cons_zero, Array.getD_eq_getD_getElem?, List.getElem?_toArray, List.getElem?_cons_succ, List.getElem?_cons_zero, Option.getD_some])))
            refine bodyPost_ret (res3 rfl (by rfl) (resC kA41 HH.out (by rfl) (.there .here) (Arr.len _)) (by rfl)) rfl ?_
            rw [← HCD.out, ← HRP.out]
            exact ⟨ao1, cap1, rfl, HH.out.own0, HH.out.dropBlk.dropBlk.dropBlk.below⟩
end Go.Proofs.Ytgkfopodhikckaa

/- Every leaf is verified by its path, plainly. Condition: at most ten levels. -/
namespace Go.Proofs.Ytgkfopodhikckaa
open Go.RowKit
end Go.Proofs.Ytgkfopodhikckaa

/- The law MerkleVerify. Condition: at most 64 leaves, a path of at most 20 nodes. -/
namespace Go.Proofs.Ytgkfopodhikckaa
open Go.RowKit
attribute [local irreducible] wpQuiet wpList
section
variable {P : Program} {w0 w : World} {S : List Nat} {bs : List (Nat × Obj)} {ρ : Operand → Value} {dst : Option Tmp} {ty : TypeId} {pos : String} {after : Array Edge} {guard : Option (Nat × Bool)}
theorem ex_extract {x : Operand} {vs : Array Value} {i : Nat} {v : Value} (hx : ρ x = .tuple vs) (hv : vs[i]? = some v) (w : World) :
    (execOp ρ { dst := dst, op := .extract x i, type := ty, pos := pos, after := after, guard := guard }).run P w = .ok (.value v) w := by
  simp [execOp, hx, hv, Instr.extract]
theorem ex_eqBool {t yt : TypeId} {b c r : Bool} {x y : Operand} (ht : P.underlying t = some .bool) (hx : ρ x = .bool b) (hy : ρ y = .bool c) (hr : (b == c) = r) (w : World) :
    (execOp ρ { dst := dst, op := .binOp .eql t x y yt, type := ty, pos := pos, after := after, guard := guard }).run P w = .ok (.value (.bool r)) w := by
  subst hr
  have he : ∀ u v w, (eqGuard .eql t x y (.bool u) (.bool v)).run P w = .ok () w := fun _ _ _ => by simp [eqGuard]
  simp only [execOp, hx, hy, Sem.run_bind, he, Result.andThen_ok, run_eql_bool w t b c ht, Sem.run_pure]
/-- A row that a call in the region makes. -/
def optR (b : Bool) (r : Row) (l : List Row) : List Row := match b with | true => r :: l | false => l
def rowsO (ir sr : Nat) (e : TypeId) (sz n : Nat) (xs : List Value) (base : List Row) : (Nat → Bool) → (Nat → Value) → List Row := fun l s => optR (l ir) ⟨s sr, e, sz, n, xs⟩ base
variable {rows : (Nat → Bool) → (Nat → Value) → List Row} {ia is_ sl : Nat} {e : TypeId} {zs vs : List Value} {l : Nat → Bool} {s : Nat → Value}
theorem AJ.grow {w' : World} (hJ : AJ w0 S bs rows ia is_ sl e zs vs l s w) (hb : Below w.heap.size w w') : AJ w0 S bs rows ia is_ sl e zs vs l s w' := Holds.grow hJ hb
theorem AJ.addRow {w' : World} {ir sr : Nat} {E : TypeId} {sz n : Nat} {xs : List Value} {base : List Row} {v : Value} (hJ : AJ w0 S bs (rowsO ir sr E sz n xs base) ia is_ sl e zs vs l s w) (hi : l ir = false) (h1 : ia ≠ ir) (h2 : is_ ≠ ir) (h3 : sl ≠ sr)
    (hb : Below w.heap.size w w') (hr : w'.ownsRow w.heap.size E sz v n xs) : AJ w0 S bs (rowsO ir sr E sz n xs base) ia is_ sl e zs vs (upd l ir) (updS s sr v) w' := by
  unfold AJ rowsO at *
  rw [hi] at hJ
  have h := Holds.addRow (show Holds w0 S _ base w from hJ) hb hr
  rw [show upd l ir ia = l ia by simp [upd, h1], show upd l ir is_ = l is_ by simp [upd, h2], show upd l ir ir = true by simp [upd], show updS s sr v sl = s sl by simp [updS, h3], show updS s sr v sr = v by simp [updS]]
  exact h
theorem opF_call {f : FuncId} (hf : Body P f) {a : Act} {d : Tmp} {xs : Array Operand} {ats : Array TypeId} {args : Array Value} {J : (Nat → Value) → World → Prop} {A : Value → Prop} (ha : (xs.toList.map a.eval).toArray = args)
    (hc : Calls P f args w fun e w' => ∃ v, e = .returned v ∧ J (updS (slF a) d v) w' ∧ A v) :
    OpOK P { dst := some d, op := .call { callee := .value (.func f), args := xs, argTypes := ats }, type := ty, pos := pos, after := after, guard := guard } a w (fun v w' => J (stepS { dst := some d, op := .call { callee := .value (.func f), args := xs, argTypes := ats }, type := ty, pos := pos, after := after, guard := guard } (slF a) v) w' ∧ A (slotD { dst := some d, op := .call { callee := .value (.func f), args := xs, argTypes := ats }, type := ty, pos := pos, after := after, guard := guard } v)) := by
  unfold OpOK
  rw [ex_call hf (args := args) (by rw [← ha, ← Array.toList_map, Array.toArray_toList]) w]
  exact hc
end
theorem claim_leaf (i : Int) (x : Nd) (v : Value) : ((claimCs i x v).drop (0 + 1)).take 16 = x.cells := by
  rw [Nat.zero_add, claimCs, List.drop_succ_cons, List.drop_zero, List.take_left' (Arr.len x)]
theorem claim_path (i : Int) (x : Nd) (v : Value) : (claimCs i x v)[0 + 17]? = some v := by
  rw [Nat.zero_add, claimCs, List.getElem?_cons_succ, List.getElem?_append_right (by rw [Arr.len]; exact Nat.le_refl _), Arr.len]; rfl
end Go.Proofs.Ytgkfopodhikckaa

/- A Builder of the call's own: NewBuilder, Add, Len, Pending, Root. Condition: fewer than 1024 leaves for Add. -/
namespace Go.Proofs.Ytgkfopodhikckaa
open Go.RowKit
attribute [local irreducible] wpQuiet wpList
theorem Own.mid (pre : List (Nat × Obj)) (g : Nat) (o : Obj) (post : List (Nat × Obj)) : Own (pre ++ (g, o) :: post) g o := by
  induction pre with
  | nil => exact .here
  | cons p l ih => exact .there ih
theorem Turn.mid (pre : List (Nat × Obj)) (g : Nat) (o o' : Obj) (post : List (Nat × Obj)) : Turn (pre ++ (g, o) :: post) g o o' (pre ++ (g, o') :: post) := by
  induction pre with
  | nil => exact .here
  | cons p l ih => exact .there ih
theorem flat_set {n : Nat} (l : List (Arr n)) (y : Arr n) : ∀ k, k < l.length → flat (l.set k y) = (flat l).take (k * n) ++ y.cells ++ (flat l).drop (k * n + n) := by
  intro k hk
  rw [List.set_eq_take_append_cons_drop, if_pos hk, flat_append, flat_cons, flat_take, show k * n + n = (k + 1) * n by rw [Nat.add_mul, Nat.one_mul], flat_drop, List.append_assoc]
end Go.Proofs.Ytgkfopodhikckaa

/- Two arrays of nodes held against each other; the visits of Collision. No condition. -/
namespace Go.Proofs.Ytgkfopodhikckaa
open Go.RowKit
attribute [local irreducible] wpQuiet wpList
section
variable {P : Program} {w0 w : World} {S : List Nat} {bs bs' : List (Nat × Obj)} {rows : List Row} {ops : Array Oper} {rest : List Oper} {a : Act} {Q : Exit → Act → World → Prop} {C : World → Prop} {K : Act → Prop} {ρ : Operand → Value} {dst : Option Tmp} {ty : TypeId} {pos : String} {after : Array Edge} {guard : Option (Nat × Bool)}
theorem part_agg {e : TypeId} {c : Array Value} {off n u : Nat} (he : P.underlying e = some (.array n u)) {sz : Nat} (hs : (P.info? e).map (·.size) = some sz) (w : World) : (part e c off).run P w = .ok (.agg (c.extract off (off + sz))) w := by
  simp [part, isAgg, run_underlying he, run_sizeOf hs]
theorem jn_split (p : Arr 32) : ∃ x y : Nd, p = jn x y := ⟨⟨p.1.take 16, by simp [p.2]⟩, ⟨p.1.drop 16, by simp [p.2]⟩, Subtype.ext (List.take_append_drop 16 p.1).symm⟩
theorem jn_ext1 (x y : Nd) : (jn x y).cells.toArray.extract 0 16 = x.cells.toArray := by
  have h := jn_fst x y
  rw [List.drop_zero] at h
  simp [h]
theorem jn_ext2 (x y : Nd) : (jn x y).cells.toArray.extract 16 32 = y.cells.toArray := by
  have h := jn_snd x y
  simp [h]
theorem jn_eq (x y x' y' : Nd) : (jn x y == jn x' y') = (x == x' && y == y') := by
  rw [Bool.eq_iff_iff, Bool.and_eq_true, beq_iff_eq, beq_iff_eq, beq_iff_eq]
  constructor
  · intro h
    have h1 : x.1 ++ y.1 = x'.1 ++ y'.1 := congrArg Subtype.val h
    have h2 := List.append_inj h1 (by rw [x.2, x'.2])
    exact ⟨Subtype.ext h2.1, Subtype.ext h2.2⟩
  · rintro ⟨rfl, rfl⟩; rfl
theorem run_equalIn_two {t e u : TypeId} {k : IntKind} (ht : P.underlying t = some (.array 2 e)) (he : P.underlying e = some (.array 16 u)) (hu : P.underlying u = some (.int k)) (hs : (P.info? e).map (·.size) = some 16) (hs1 : (P.info? u).map (·.size) = some 1) (d : Nat) (p q : Arr 32) (w : World) :
    (Op.equalIn (d + 1 + 1 + 1) t p.val q.val).run P w = .ok (p == q) w := by
  obtain ⟨x, y, rfl⟩ := jn_split p
  obtain ⟨x', y', rfl⟩ := jn_split q
  have h2 : ∀ w, (sizeOf e).run P w = .ok 16 w := run_sizeOf hs
  have hp : ∀ (c : Array Value) off w, (part e c off).run P w = .ok (.agg (c.extract off (off + 16))) w := fun c off w => part_agg he hs w
  have hx := run_equalIn_arr (P := P) he hu hs1 d x x'
  have hy := run_equalIn_arr (P := P) he hu hs1 d y y'
  unfold Arr.val at hx hy
  rw [Op.equalIn]
  simp only [Arr.val, Sem.run_bind, run_underlying ht, Result.andThen_ok, h2, Std.Legacy.Range.forIn_eq_forIn_range', Std.Legacy.Range.size, Nat.sub_zero, Nat.add_sub_cancel, Nat.div_one]
  simp only [List.range'_succ, List.range'_zero, List.forIn_cons, List.forIn_nil, Sem.run_bind, hp, Result.andThen_ok, Nat.zero_mul, Nat.zero_add, Nat.one_mul, jn_ext1, jn_ext2, hx, hy, Sem.run_ite, Result.andThen_ite, Sem.run_pure, Nat.reduceAdd]
  rw [jn_eq]
  cases (x == x') <;> cases (y == y') <;> simp
theorem ex_neq_two {t e u yt : TypeId} {k : IntKind} {x y : Operand} {p q : Arr 32} {b : Bool} (ht : P.underlying t = some (.array 2 e)) (he : P.underlying e = some (.array 16 u)) (hu : P.underlying u = some (.int k)) (hs : (P.info? e).map (·.size) = some 16) (hs1 : (P.info? u).map (·.size) = some 1)
    (hgt : P.eqGuardType P.depth t = false) (hx : ρ x = p.val) (hy : ρ y = q.val) (hb : (!(p == q)) = b) (w : World) :
    (execOp ρ { dst := dst, op := .binOp .neq t x y yt, type := ty, pos := pos, after := after, guard := guard }).run P w = .ok (.value (.bool b)) w := by
  subst hb
  have hr := run_equalIn_two (P := P) ht he hu hs hs1 9997 p q w
  have hg := run_eqGuard_agg (P := P) w .neq t x y p.cells.toArray q.cells.toArray hgt
  have hb := run_neq_struct (P := P) w t p.cells.toArray q.cells.toArray
  unfold Arr.val at *
  simp only [execOp, hx, hy, Sem.run_bind, hg, Result.andThen_ok, hb, hr, Sem.run_pure]
end
theorem neq80 {ρ : Operand → Value} {dst : Option Tmp} {ty yt : TypeId} {pos : String} {after : Array Edge} {guard : Option (Nat × Bool)} {x y : Operand} {p q : Arr 32} {b : Bool} (hx : ρ x = p.val) (hy : ρ y = q.val) (hb : (!(p == q)) = b) (w : World) :
    (execOp ρ { dst := dst, op := .binOp .neq 80 x y yt, type := ty, pos := pos, after := after, guard := guard }).run Try.prog w = .ok (.value (.bool b)) w :=
  ex_neq_two Try.underlying80 Try.underlying34 Try.underlying5 kS34 kS5 (by kernel_rfl) hx hy hb w
theorem neq73 {ρ : Operand → Value} {dst : Option Tmp} {ty yt : TypeId} {pos : String} {after : Array Edge} {guard : Option (Nat × Bool)} {x y : Operand} {p q : Arr 32} {b : Bool} (hx : ρ x = p.val) (hy : ρ y = q.val) (hb : (!(p == q)) = b) (w : World) :
    (execOp ρ { dst := dst, op := .binOp .neq 73 x y yt, type := ty, pos := pos, after := after, guard := guard }).run Try.prog w = .ok (.value (.bool b)) w :=
  ex_neq_two Try.underlying73 Try.underlying41 Try.underlying5 kS41 kS5 (by kernel_rfl) hx hy hb w
section
variable {w0 w : World} {S : List Nat} {ops : Array Oper} {rest : List Oper} {a : Act} {C : World → Prop} {K : Act → Prop} {dst : Option Tmp} {ty yt : TypeId} {pos : String} {after : Array Edge} {guard : Option (Nat × Bool)} {x y : Operand} {p q : Arr 32} {b : Bool}
theorem wpQ_neq80 (hx : a.eval x = p.val) (hy : a.eval y = q.val) (hb : (!(p == q)) = b)
    (hg : Region.wanted { dst := dst, op := .binOp .neq 80 x y yt, type := ty, pos := pos, after := after, guard := guard } (yielded ops a.tmps) = true)
    (h : wpQuiet Try.prog ops C K rest (a.put dst (.bool b))) : wpQuiet Try.prog ops C K ({ dst := dst, op := .binOp .neq 80 x y yt, type := ty, pos := pos, after := after, guard := guard } :: rest) a :=
  wpQuiet_ex hg (fun w _ => neq80 (ρ := a.eval) hx hy hb w) h
theorem wpQ_neq73 (hx : a.eval x = p.val) (hy : a.eval y = q.val) (hb : (!(p == q)) = b)
    (hg : Region.wanted { dst := dst, op := .binOp .neq 73 x y yt, type := ty, pos := pos, after := after, guard := guard } (yielded ops a.tmps) = true)
    (h : wpQuiet Try.prog ops C K rest (a.put dst (.bool b))) : wpQuiet Try.prog ops C K ({ dst := dst, op := .binOp .neq 73 x y yt, type := ty, pos := pos, after := after, guard := guard } :: rest) a :=
  wpQuiet_ex hg (fun w _ => neq73 (ρ := a.eval) hx hy hb w) h
end
theorem BP80 (x y : Nd) (w : World) : (Instr.build 80 #[(0, x.val), (1, y.val)]).run Try.prog w = .ok (jn x y).val w :=
  run_pair Try.underlying80 kS34 (z := (Arr.zero 32).val) (by kernel_rfl) (by simp [Arr.val, Value.cells, Arr.len]) x y w
abbrev psO (ps : List (Arr 32)) : Obj := objC (flat ps) 131
theorem ps_get {ps : List (Arr 32)} {k : Nat} {d : Arr 32} (h : ps.length = 11) (hk : k < 11) (hd : ps.getD k (Arr.zero 32) = d) : ((flat ps).drop (0 + k * 32)).take 32 = d.cells := by
  rw [Nat.zero_add, flat_drop]
  have hk' : k < ps.length := by omega
  have e : ps[k] = d := by rw [← hd]; simp [hk']
  rw [List.drop_eq_getElem_cons hk', flat_cons, e, List.take_left' (Arr.len d)]
theorem ps_set {ps : List (Arr 32)} {k : Nat} {d : Arr 32} (h : ps.length = 11) (hk : k < 11) : objC ((flat ps).take (0 + k * 32) ++ d.cells ++ (flat ps).drop (0 + k * 32 + 32)) 131 = psO (ps.set k d) := by
  congr 1
  rw [Nat.zero_add, flat_set _ _ _ (by omega)]
set_option maxRecDepth 100000 in
set_option maxHeartbeats 4000000 in
theorem c1_any (w0 w : World) (S : List Nat) (pre post : List (Nat × Obj)) (rows : List Row) (gp k : Nat) (ps : List (Arr 32)) (x y : Nd) (hlen : ps.length = 11) (hk : k < 11) (hH : Holds w0 S (pre ++ (gp, psO ps) :: post) rows w) :
    Calls Try.prog 74 #[.int .i64 (k : Int), x.val, y.val, .pointer (some ⟨gp, 0, none⟩)] w (fun e w' => e = .returned (.tuple #[]) ∧ Holds w0 S (pre ++ (gp, psO (ps.set k (jn x y))) :: post) rows w') := by
  have HH := hid hH
  have HSET := hid (ps_set (d := jn x y) hlen hk)
  have HCL := hid (show 0 + k * 32 + 32 ≤ (flat ps).length by rw [flat_len, hlen]; omega)
  clear hH
  go_enter Try.func74, Try.ntmps74
  go_wp2_with (first
    | ((first
        | ((with_reducible apply wpL_skip); rfl; skip)
        | ((with_reducible apply wpList_build (parts := #[(0, .tmp 8), (1, .tmp 9)]) (v := (jn x y).val)); (exact BP80 x y); rfl)
        | ((with_reducible apply wpL_indexE (m := k) Try.underlying131 kS80 (by decide)); rfl; rfl; rfl; (exact (by omega)); rfl)
        | ((with_reducible apply wpL_storePart (t := 80) (x := .tmp 11) (v := (jn x y).val) (vs := (jn x y).cells) (cs := flat ps) (e := 131)); rfl; rfl; rfl; (exact kS80); (exact HH.out); (exact .there (.there (by rw [HSET.out]; exact Turn.mid _ _ _ _ _))); (exact Arr.len _); (exact cells_one _); (exact HCL.out); rfl; (intro w_ hq_; clear HH; have HH := hid hq_; clear hq_))
        | ((with_reducible apply wpL_nilCheck); rfl; rfl)
        | ((with_reducible apply wpL_loadArr (t := 34) kA34 HH.out); rfl; (first | exact .here | exact .there .here | exact .there (.there .here) | exact .there (.there (.there .here)) | exact .there (.there (.there (.there .here))) | exact .there (.there (.there (.there (.there .here)))) | exact .there (.there (.there (.there (.there (.there .here))))) | exact .there (.there (.there (.there (.there (.there (.there .here))))))); rfl)
        | ((with_reducible apply wpL_loadC (t := 34) kA34 HH.out); rfl; (first | exact .here | exact .there .here | exact .there (.there .here) | exact .there (.there (.there .here)) | exact .there (.there (.there (.there .here))) | exact .there (.there (.there (.there (.there .here)))) | exact .there (.there (.there (.there (.there (.there .here))))) | exact .there (.there (.there (.there (.there (.there (.there .here))))))); (first | rfl | exact Arr.len _ | (simp; done)); rfl)
        | ((with_reducible apply wpL_boxArr (dst := some 5)); rfl; (exact HH.out); rfl; (intro g5_ w_ hq_; (try simp only [List.set_cons_zero, List.set_cons_succ] at hq_); clear HH; have HH := hid hq_; clear hq_))
        | ((with_reducible apply wpL_boxArr (dst := some 6)); rfl; (exact HH.out); rfl; (intro g6_ w_ hq_; (try simp only [List.set_cons_zero, List.set_cons_succ] at hq_); clear HH; have HH := hid hq_; clear hq_))
        | ((with_reducible apply wpL_storeC (t := 80)); rfl; rfl; (exact kS80); (exact HH.out); (first | exact .here | exact .there .here | exact .there (.there .here) | exact .there (.there (.there .here)) | exact .there (.there (.there (.there .here))) | exact .there (.there (.there (.there (.there .here)))) | exact .there (.there (.there (.there (.there (.there .here))))) | exact .there (.there (.there (.there (.there (.there (.there .here))))))); (first | rfl | exact Arr.len _ | (simp; done)); (first | rfl | (intro u_ hu_; simp only [List.mem_cons, List.not_mem_nil, or_false] at hu_; rcases hu_ with rfl | hu_; rfl) | exact byt_cell1 _ | exact cells_one _ | exact wrd_one _ | exact flat_cell1 _); (first | rfl | exact Arr.len _ | (simp; done)); rfl; (intro w_ hq_; (try simp only [List.set_cons_zero, List.set_cons_succ] at hq_); clear HH; have HH := hid hq_; clear hq_))
        | ((with_reducible apply wpL_move); rfl; rfl)
        | ((with_reducible apply wpL_assign); rfl; rfl)
        | ((with_reducible apply wpL_pick); rfl; rfl; rfl)
        | ((with_reducible apply wpL_not); rfl; rfl)
        | ((with_reducible apply wpL_cmp (b := true)); rfl; rfl; rfl; (first | rfl | assumption | (simp only [cmpB, decide_eq_true_eq, decide_eq_false_iff_not, beq_iff_eq, bne_iff_ne, ne_eq, beq_eq_false_iff_ne, bne_eq_false_iff_eq, gt_iff_lt, ge_iff_le]; omega) | (simp; omega)); rfl)
        | ((with_reducible apply wpL_cmp (b := false)); rfl; rfl; rfl; (first | rfl | assumption | (simp only [cmpB, decide_eq_true_eq, decide_eq_false_iff_not, beq_iff_eq, bne_iff_ne, ne_eq, beq_eq_false_iff_ne, bne_eq_false_iff_eq, gt_iff_lt, ge_iff_le]; omega) | (simp; omega)); rfl)
        | ((with_reducible apply wpL_cmp); rfl; rfl; rfl; rfl; rfl)
        | ((with_reducible apply wpL_arith); rfl; rfl; rfl; (exact IntWalk.i64_in _ (by (try simp only [arithI]); omega)); rfl)); (try simp only [arithI, Act.put, Act.eval, List.setIfInBounds_toArray, List.set_cons_succ, List.set_cons_zero, Array.getD_eq_getD_getElem?, List.getElem?_toArray, List.getElem?_cons_succ, List.getElem?_cons_zero, Option.getD_some])))
  exact ⟨rfl, _, res0 rfl, rfl, HH.out.dropBlk.dropBlk⟩
/-- A Two's cells. -/
abbrev twoCs (lev : Int) (a b : Arr 32) : List Value := .int .i64 lev :: (a.cells ++ b.cells)
theorem two_len (lev : Int) (a b : Arr 32) : (twoCs lev a b).length = 65 := by simp [Arr.len]
theorem two_a (lev : Int) (a b : Arr 32) : ((twoCs lev a b).drop (0 + 1)).take 32 = a.cells := by
  rw [Nat.zero_add, List.drop_succ_cons, List.drop_zero, List.take_left' (Arr.len a)]
theorem two_b (lev : Int) (a b : Arr 32) : ((twoCs lev a b).drop (0 + 33)).take 32 = b.cells := by
  rw [Nat.zero_add, List.drop_succ_cons, List.drop_left' (Arr.len a)]; exact List.take_of_length_le (by rw [Arr.len]; omega)
end Go.Proofs.Ytgkfopodhikckaa

/- Collision of merkle. Condition: at most 10^9 nodes. -/
namespace Go.Proofs.Ytgkfopodhikckaa
open Go.RowKit
attribute [local irreducible] wpQuiet wpList
section
variable {P : Program} {w0 w : World} {S : List Nat} {bs bs' PRE POST : List (Nat × Obj)} {rows : List Row} {ops : Array Oper} {rest : List Oper} {a : Act} {Q : Exit → Act → World → Prop} {ρ : Operand → Value} {dst : Option Tmp} {ty : TypeId} {pos : String} {after : Array Edge} {guard : Option (Nat × Bool)} {R : Value → World → Prop}
theorem ok_storeP {t : TypeId} {x y : Operand} {g j : Nat} {vs cs : List Value} {sz : Nat} {v : Value} {e : TypeId}
    (hx : a.eval x = .pointer (some ⟨g, j, none⟩)) (hy : a.eval y = v) (hvs : v.cells.toList = vs) (hi : (P.info? t).map (·.size) = some sz)
    (hH : Holds w0 S bs rows w) (ht : Turn bs g (objC cs e) (objC (cs.take j ++ vs ++ cs.drop (j + sz)) e) bs') (hv : vs.length = sz) (h1 : ∀ u ∈ vs, u.oneCell' = true) (hc : j + sz ≤ cs.length)
    (h : ∀ w', Holds w0 S bs' rows w' → R undef w') :
    OpOK P { dst := dst, op := .store t x y, type := ty, pos := pos, after := after, guard := guard } a w R := by
  subst hvs
  have hblk : w.heap[g]? = some (.cells cs.toArray e (0, 0)) := hH.at ht.own
  have hs := run_storeCells_at P g j e v.cells.toList 0 cs.toArray w hblk (by simp at hv ⊢; omega) h1
  simp only [Nat.add_zero, hv] at hs
  have hvz : v.cells.size = sz := by simpa using hv
  have hr : (execOp a.eval { dst := dst, op := .store t x y, type := ty, pos := pos, after := after, guard := guard }).run P w = .ok .skip (w.setRow g (cs.take j ++ v.cells.toList ++ cs.drop (j + sz)).toArray) := by
    simp only [execOp, hx, hy, Instr.storeAt, Instr.sureAddr, storeVar, Sem.run_bind, Sem.run_pure, Result.andThen_ok, run_sizeOf hi, hvz, ne_eq, not_true_eq_false, if_false, hs]
  unfold OpOK
  rw [hr]
  exact h _ (hH.turn ht (setRow_heap w g cs.toArray _ e (0, 0) hblk) rfl rfl rfl (by simp) fun k _ hk => setRow_other w g k _ hk)
/-- Some writes into one variable, one after the other. -/
def StJ (w0 : World) (S : List Nat) (PRE POST : List (Nat × Obj)) (rows : List Row) (go : Nat) (st : (Nat → Bool) → Obj) (l : Nat → Bool) (_ : Nat → Value) (w : World) : Prop := Holds w0 S (PRE ++ (go, st l) :: POST) rows w
theorem stJ_store {st : (Nat → Bool) → Obj} {l : Nat → Bool} {i go : Nat} {t : TypeId} {x y : Operand} {j : Nat} {vs cs cs2 : List Value} {sz : Nat} {v : Value} {e : TypeId} (hJ : StJ w0 S PRE POST rows go st l (slF a) w) (h0 : st l = objC cs e) (h1 : st (upd l i) = objC cs2 e)
    (hcs : cs.take j ++ vs ++ cs.drop (j + sz) = cs2) (hx : a.eval x = .pointer (some ⟨go, j, none⟩)) (hy : a.eval y = v) (hvs : v.cells.toList = vs) (hi : (P.info? t).map (·.size) = some sz) (hv : vs.length = sz) (ho : ∀ u ∈ vs, u.oneCell' = true) (hc : j + sz ≤ cs.length) :
    OpOK P { dst := none, op := .store t x y, type := ty, pos := pos, after := after, guard := guard } a w (fun v w' => StJ w0 S PRE POST rows go st (upd l i) (slF a) w' ∧ True) := by
  unfold StJ at *
  rw [h0] at hJ
  refine ok_storeP hx hy hvs hi hJ (Turn.mid _ _ _ _ _) hv ho hc fun w' h' => ⟨?_, trivial⟩
  rw [h1, ← hcs]
  exact h'
theorem wpL_makeFunc {f : FuncId} {cap : Array Operand} {vs : Array Value} (hv : cap.map a.eval = vs)
    (hg : Region.wanted { dst := dst, op := .makeFunc (.func f) #[] cap, type := ty, pos := pos, after := after, guard := guard } (yielded ops a.tmps) = true)
    (h : wpList P ops Q rest (a.put dst (.func (.func f) #[] vs)) w) : wpList P ops Q ({ dst := dst, op := .makeFunc (.func f) #[] cap, type := ty, pos := pos, after := after, guard := guard } :: rest) a w :=
  wpList_ex hg (by simp [execOp, Instr.makeFunc, hv]) h
end
abbrev zP : Arr 32 := Arr.zero 32
abbrev twoO (lev : Int) (a b : Arr 32) : Obj := objC (twoCs lev a b) 82
theorem two_st0 (l0 : Int) (a b : Arr 32) (lev : Int) : (twoCs l0 a b).take (0 + 0) ++ [.int .i64 lev] ++ (twoCs l0 a b).drop (0 + 0 + 1) = twoCs lev a b := by simp
theorem two_st1 (l0 : Int) (a b d : Arr 32) : (twoCs l0 a b).take (0 + 1) ++ d.cells ++ (twoCs l0 a b).drop (0 + 1 + 32) = twoCs l0 d b := by
  rw [Nat.zero_add, List.take_succ_cons, List.take_zero, show 1 + 32 = 32 + 1 by rfl, List.drop_succ_cons, List.drop_left' (Arr.len a)]; rfl
theorem two_st2 (l0 : Int) (a b d : Arr 32) : (twoCs l0 a b).take (0 + 33) ++ d.cells ++ (twoCs l0 a b).drop (0 + 33 + 32) = twoCs l0 a d := by
  rw [List.drop_eq_nil_of_le (by rw [two_len]; decide), Nat.zero_add, List.take_succ_cons, List.take_left' (Arr.len a), List.append_nil]; rfl
theorem two_stA (l0 : Int) (a b : Arr 32) : (twoCs l0 a b).take 0 ++ twoCs 0 zP zP ++ (twoCs l0 a b).drop (0 + 65) = twoCs 0 zP zP := by
  rw [List.drop_eq_nil_of_le (by rw [two_len]; decide), List.take_zero, List.nil_append, List.append_nil]
theorem two_one (lev : Int) (a b : Arr 32) : ∀ u ∈ twoCs lev a b, u.oneCell' = true := by
  intro u hu
  rcases List.mem_cons.1 hu with rfl | hu
  · rfl
  · rcases List.mem_append.1 hu with hu | hu <;> exact cells_one _ u hu
/-- What the second visit leaves. -/
def outN (ps : List (Arr 32)) (lev : Nat) (p : Arr 32) (o : Int × Arr 32 × Arr 32) : Int × Arr 32 × Arr 32 := if p = ps.getD lev zP then o else ((lev : Int), ps.getD lev zP, p)
def st75 (l0 : Int) (a0 b0 : Arr 32) (lev : Int) (d p : Arr 32) (l : Nat → Bool) : Obj := selO (l 5) (twoO l0 a0 b0) (selO (l 7) (twoO 0 zP zP) (selO (l 9) (twoO lev zP zP) (selO (l 11) (twoO lev d zP) (twoO lev d p))))
set_option maxRecDepth 100000 in
set_option maxHeartbeats 8000000 in
theorem c2_any (w0 w : World) (S : List Nat) (pre post : List (Nat × Obj)) (rows : List Row) (gp go lev : Nat) (ps : List (Arr 32)) (x y : Nd) (o : Int × Arr 32 × Arr 32) (hlen : ps.length = 11) (hk : lev < 11)
    (hH : Holds w0 S (pre ++ (go, twoO o.1 o.2.1 o.2.2) :: (gp, psO ps) :: post) rows w) :
    Calls Try.prog 75 #[.int .i64 (lev : Int), x.val, y.val, .pointer (some ⟨gp, 0, none⟩), .pointer (some ⟨go, 0, none⟩)] w (fun e w' => e = .returned (.tuple #[]) ∧
      Holds w0 S (pre ++ (go, twoO (outN ps lev (jn x y) o).1 (outN ps lev (jn x y) o).2.1 (outN ps lev (jn x y) o).2.2) :: (gp, psO ps) :: post) rows w') := by
  obtain ⟨lz, a0, b0⟩ := o
  have HH := hid hH
  clear hH
  obtain ⟨p, hp⟩ : ∃ p, jn x y = p := ⟨_, rfl⟩
  obtain ⟨d, hd⟩ : ∃ d, ps.getD lev zP = d := ⟨_, rfl⟩
  have HB := hid (BP80 x y)
  have HGET := hid (ps_get hlen hk hd)
  have HD := hid hd
  rw [hp] at HB
  rw [hp]
  have HOG := hid (show ∀ o1, Own (pre ++ (go, o1) :: (gp, psO ps) :: post) gp (psO ps) from fun o1 => by
    have := Own.mid (pre ++ [(go, o1)]) gp (psO ps) post
    rwa [List.append_assoc] at this)
  clear hp hd
  by_cases hpd : p = d
  · have HNE := hid (show (!(p == d)) = false by rw [hpd]; simp)
    have HOUT := hid (show outN ps lev p (lz, a0, b0) = (lz, a0, b0) by unfold outN; rw [HD.out, if_pos hpd])
    clear hpd
    go_enter Try.func75, Try.ntmps75
    go_wp2_with (first
      | ((first
          | ((with_reducible apply wpL_skip); rfl; skip)
          | ((with_reducible apply wpList_build (parts := #[(0, .tmp 9), (1, .tmp 10)]) (v := p.val)); (exact HB.out); rfl)
          | ((with_reducible apply wpL_allocC (dst := some 8) (zs := zP.cells) (show (Try.prog.info? 80).map (·.zero) = some (some (.agg zP.cells.toArray)) by kernel_rfl) HH.out); rfl; (intro g8_ w_ hq_; clear HH; have HH := hid hq_; clear hq_))
          | ((with_reducible apply wpL_storeC (t := 80) (vs := p.cells)); rfl; rfl; (exact kS80); (exact HH.out); (exact .here); (exact Arr.len _); (exact cells_one _); (exact Arr.len _); rfl; (intro w_ hq_; clear HH; have HH := hid hq_; clear hq_))
          | ((with_reducible apply wpL_nilCheck); rfl; rfl)
          | ((with_reducible apply wpL_fieldAddr); (first | exact kF82_0 | exact kF82_1 | exact kF82_2); rfl; rfl)
          | ((with_reducible apply wpL_loadArr (t := 34) kA34 HH.out); rfl; (first | exact .here | exact .there .here | exact .there (.there .here) | exact .there (.there (.there .here)) | exact .there (.there (.there (.there .here))) | exact .there (.there (.there (.there (.there .here)))) | exact .there (.there (.there (.there (.there (.there .here))))) | exact .there (.there (.there (.there (.there (.there (.there .here))))))); rfl)
          | ((with_reducible apply wpL_loadC (t := 34) kA34 HH.out); rfl; (first | exact .here | exact .there .here | exact .there (.there .here) | exact .there (.there (.there .here)) | exact .there (.there (.there (.there .here))) | exact .there (.there (.there (.there (.there .here)))) | exact .there (.there (.there (.there (.there (.there .here))))) | exact .there (.there (.there (.there (.there (.there (.there .here))))))); (first | rfl | exact Arr.len _ | (simp; done)); rfl)
          | ((with_reducible apply wpL_loadC (t := 80) kA80 HH.out); rfl; (first | exact .here | exact .there .here | exact .there (.there .here) | exact .there (.there (.there .here)) | exact .there (.there (.there (.there .here))) | exact .there (.there (.there (.there (.there .here)))) | exact .there (.there (.there (.there (.there (.there .here))))) | exact .there (.there (.there (.there (.there (.there (.there .here))))))); (first | rfl | exact Arr.len _ | (simp; done)); rfl)
          | ((with_reducible apply wpL_boxArr (dst := some 6)); rfl; (exact HH.out); rfl; (intro g6_ w_ hq_; (try simp only [List.set_cons_zero, List.set_cons_succ] at hq_); clear HH; have HH := hid hq_; clear hq_))
          | ((with_reducible apply wpL_boxArr (dst := some 7)); rfl; (exact HH.out); rfl; (intro g7_ w_ hq_; (try simp only [List.set_cons_zero, List.set_cons_succ] at hq_); clear HH; have HH := hid hq_; clear hq_))
          | ((with_reducible apply wpL_allocC (dst := some 8) kZ80 HH.out); rfl; (intro g8_ w_ hq_; (try simp only [List.set_cons_zero, List.set_cons_succ] at hq_); clear HH; have HH := hid hq_; clear hq_))
          | ((with_reducible apply wpL_store1 (t := 3)); rfl; rfl; rfl; (exact kS3); (exact HH.out); (first | exact .here | exact .there .here | exact .there (.there .here) | exact .there (.there (.there .here)) | exact .there (.there (.there (.there .here))) | exact .there (.there (.there (.there (.there .here)))) | exact .there (.there (.there (.there (.there (.there .here))))) | exact .there (.there (.there (.there (.there (.there (.there .here))))))); rfl; (first | exact Nat.le_of_ble_eq_true rfl | (simp; done) | omega); rfl; (intro w_ hq_; (try simp only [List.set_cons_zero, List.set_cons_succ] at hq_); clear HH; have HH := hid hq_; clear hq_))
          | ((with_reducible apply wpL_storeC (t := 80)); rfl; rfl; (exact kS80); (exact HH.out); (first | exact .here | exact .there .here | exact .there (.there .here) | exact .there (.there (.there .here)) | exact .there (.there (.there (.there .here))) | exact .there (.there (.there (.there (.there .here)))) | exact .there (.there (.there (.there (.there (.there .here))))) | exact .there (.there (.there (.there (.there (.there (.there .here))))))); (first | rfl | exact Arr.len _ | (simp; done)); (first | rfl | (intro u_ hu_; simp only [List.mem_cons, List.not_mem_nil, or_false] at hu_; rcases hu_ with rfl | hu_; rfl) | exact byt_cell1 _ | exact cells_one _ | exact wrd_one _ | exact flat_cell1 _); (first | rfl | exact Arr.len _ | (simp; done)); rfl; (intro w_ hq_; (try simp only [List.set_cons_zero, List.set_cons_succ] at hq_); clear HH; have HH := hid hq_; clear hq_))
          | ((with_reducible apply wpL_storeC (t := 82)); rfl; rfl; (exact kS82); (exact HH.out); (first | exact .here | exact .there .here | exact .there (.there .here) | exact .there (.there (.there .here)) | exact .there (.there (.there (.there .here))) | exact .there (.there (.there (.there (.there .here)))) | exact .there (.there (.there (.there (.there (.there .here))))) | exact .there (.there (.there (.there (.there (.there (.there .here))))))); (first | rfl | exact Arr.len _ | (simp; done)); (first | rfl | (intro u_ hu_; simp only [List.mem_cons, List.not_mem_nil, or_false] at hu_; rcases hu_ with rfl | hu_; rfl) | exact byt_cell1 _ | exact cells_one _ | exact wrd_one _ | exact flat_cell1 _); (first | rfl | exact Arr.len _ | (simp; done)); rfl; (intro w_ hq_; (try simp only [List.set_cons_zero, List.set_cons_succ] at hq_); clear HH; have HH := hid hq_; clear hq_))
          | ((with_reducible apply wpL_move); rfl; rfl)
          | ((with_reducible apply wpL_assign); rfl; rfl)
          | ((with_reducible apply wpL_pick); rfl; rfl; rfl)
          | ((with_reducible apply wpL_not); rfl; rfl)
          | ((with_reducible apply wpL_cmp (b := true)); rfl; rfl; rfl; (first | rfl | assumption | (simp only [cmpB, decide_eq_true_eq, decide_eq_false_iff_not, beq_iff_eq, bne_iff_ne, ne_eq, beq_eq_false_iff_ne, bne_eq_false_iff_eq, gt_iff_lt, ge_iff_le]; omega) | (simp; omega)); rfl)
          | ((with_reducible apply wpL_cmp (b := false)); rfl; rfl; rfl; (first | rfl | assumption | (simp only [cmpB, decide_eq_true_eq, decide_eq_false_iff_not, beq_iff_eq, bne_iff_ne, ne_eq, beq_eq_false_iff_ne, bne_eq_false_iff_eq, gt_iff_lt, ge_iff_le]; omega) | (simp; omega)); rfl)
          | ((with_reducible apply wpL_cmp); rfl; rfl; rfl; rfl; rfl)
          | ((with_reducible apply wpL_arith); rfl; rfl; rfl; (exact IntWalk.i64_in _ (by (try simp only [arithI]); omega)); rfl)); (try simp only [arithI, Act.put, Act.eval, List.setIfInBounds_toArray, List.set_cons_succ, List.set_cons_zero, Array.getD_eq_getD_getElem?, List.getElem?_toArray, List.getElem?_cons_succ, List.getElem?_cons_zero, Option.getD_some])))
    refine wp_region_holds (by kernel_rfl) (by kernel_rfl) HH.out ?_
    repeat ((first
      | ((with_reducible apply wpQ_skip); rfl; skip)
      | ((with_reducible apply wpQ_indexE (m := lev) Try.underlying131 kS80 (by decide)); rfl; rfl; rfl; (exact hk); rfl)
      | ((with_reducible apply wpQ_loadPA (dst := some 15) (t := 80) (v := d) kA80); rfl; (exact .there (.there (.there (HOG.out _)))); (exact HGET.out); rfl)
      | ((with_reducible apply wpQ_neq80 (p := p) (q := d) (b := false)); rfl; rfl; (exact HNE.out); rfl)
      | ((with_reducible apply wpQ_nilCheck); rfl; rfl)
      | ((with_reducible apply wpQ_fieldAddr); (first | exact kF82_0 | exact kF82_1 | exact kF82_2); rfl; rfl)
      | ((with_reducible apply wpQ_loadArr (t := 34) kA34); rfl; (first | exact .here | exact .there .here | exact .there (.there .here) | exact .there (.there (.there .here)) | exact .there (.there (.there (.there .here))) | exact .there (.there (.there (.there (.there .here)))) | exact .there (.there (.there (.there (.there (.there .here))))) | exact .there (.there (.there (.there (.there (.there (.there .here))))))); rfl)
      | ((with_reducible apply wpQ_loadC (t := 34) kA34); rfl; (first | exact .here | exact .there .here | exact .there (.there .here) | exact .there (.there (.there .here)) | exact .there (.there (.there (.there .here))) | exact .there (.there (.there (.there (.there .here)))) | exact .there (.there (.there (.there (.there (.there .here))))) | exact .there (.there (.there (.there (.there (.there (.there .here))))))); (first | rfl | exact Arr.len _ | (simp; done)); rfl)
      | ((with_reducible apply wpQ_loadC (t := 80) kA80); rfl; (first | exact .here | exact .there .here | exact .there (.there .here) | exact .there (.there (.there .here)) | exact .there (.there (.there (.there .here))) | exact .there (.there (.there (.there (.there .here)))) | exact .there (.there (.there (.there (.there (.there .here))))) | exact .there (.there (.there (.there (.there (.there (.there .here))))))); (first | rfl | exact Arr.len _ | (simp; done)); rfl)
      | ((with_reducible apply wpQ_move); rfl; rfl)
      | ((with_reducible apply wpQ_assign); rfl; rfl)
      | ((with_reducible apply wpQ_pick); rfl; rfl; rfl)
      | ((with_reducible apply wpQ_not); rfl; rfl)
      | ((with_reducible apply wpQ_cmp (b := true)); rfl; rfl; rfl; (first | rfl | assumption | (simp only [cmpB, decide_eq_true_eq, decide_eq_false_iff_not, beq_iff_eq, bne_iff_ne, ne_eq, beq_eq_false_iff_ne, bne_eq_false_iff_eq, gt_iff_lt, ge_iff_le]; omega) | (simp; omega)); rfl)
      | ((with_reducible apply wpQ_cmp (b := false)); rfl; rfl; rfl; (first | rfl | assumption | (simp only [cmpB, decide_eq_true_eq, decide_eq_false_iff_not, beq_iff_eq, bne_iff_ne, ne_eq, beq_eq_false_iff_ne, bne_eq_false_iff_eq, gt_iff_lt, ge_iff_le]; omega) | (simp; omega)); rfl)
      | ((with_reducible apply wpQ_cmp); rfl; rfl; rfl; rfl; rfl)
      | ((with_reducible apply wpQ_arith); rfl; rfl; rfl; (exact IntWalk.i64_in _ (by (try simp only [arithI]); omega)); rfl)); (try simp only [if_true, if_false, Bool.false_eq_true, arithI, Act.put, Act.eval, List.setIfInBounds_toArray, List.set_cons_succ, List.set_cons_zero, Array.getD_eq_getD_getElem?, List.getElem?_toArray, List.getElem?_cons_succ, List.getElem?_cons_zero, Option.getD_some]))
    refine wpQuiet_nil ?_
    intro wq hq_
    have HQ := hid hq_
    clear hq_
    clear HH
    have HH := HQ
    clear HQ
    go_wp2_with (first
      | ((first
          | ((with_reducible apply wpL_skip); rfl; skip)
          | ((with_reducible apply wpL_nilCheck); rfl; rfl)
          | ((with_reducible apply wpL_fieldAddr); (first | exact kF82_0 | exact kF82_1 | exact kF82_2); rfl; rfl)
          | ((with_reducible apply wpL_loadArr (t := 34) kA34 HH.out); rfl; (first | exact .here | exact .there .here | exact .there (.there .here) | exact .there (.there (.there .here)) | exact .there (.there (.there (.there .here))) | exact .there (.there (.there (.there (.there .here)))) | exact .there (.there (.there (.there (.there (.there .here))))) | exact .there (.there (.there (.there (.there (.there (.there .here))))))); rfl)
          | ((with_reducible apply wpL_loadC (t := 34) kA34 HH.out); rfl; (first | exact .here | exact .there .here | exact .there (.there .here) | exact .there (.there (.there .here)) | exact .there (.there (.there (.there .here))) | exact .there (.there (.there (.there (.there .here)))) | exact .there (.there (.there (.there (.there (.there .here))))) | exact .there (.there (.there (.there (.there (.there (.there .here))))))); (first | rfl | exact Arr.len _ | (simp; done)); rfl)
          | ((with_reducible apply wpL_loadC (t := 80) kA80 HH.out); rfl; (first | exact .here | exact .there .here | exact .there (.there .here) | exact .there (.there (.there .here)) | exact .there (.there (.there (.there .here))) | exact .there (.there (.there (.there (.there .here)))) | exact .there (.there (.there (.there (.there (.there .here))))) | exact .there (.there (.there (.there (.there (.there (.there .here))))))); (first | rfl | exact Arr.len _ | (simp; done)); rfl)
          | ((with_reducible apply wpL_boxArr (dst := some 6)); rfl; (exact HH.out); rfl; (intro g6_ w_ hq_; (try simp only [List.set_cons_zero, List.set_cons_succ] at hq_); clear HH; have HH := hid hq_; clear hq_))
          | ((with_reducible apply wpL_boxArr (dst := some 7)); rfl; (exact HH.out); rfl; (intro g7_ w_ hq_; (try simp only [List.set_cons_zero, List.set_cons_succ] at hq_); clear HH; have HH := hid hq_; clear hq_))
          | ((with_reducible apply wpL_allocC (dst := some 8) kZ80 HH.out); rfl; (intro g8_ w_ hq_; (try simp only [List.set_cons_zero, List.set_cons_succ] at hq_); clear HH; have HH := hid hq_; clear hq_))
          | ((with_reducible apply wpL_store1 (t := 3)); rfl; rfl; rfl; (exact kS3); (exact HH.out); (first | exact .here | exact .there .here | exact .there (.there .here) | exact .there (.there (.there .here)) | exact .there (.there (.there (.there .here))) | exact .there (.there (.there (.there (.there .here)))) | exact .there (.there (.there (.there (.there (.there .here))))) | exact .there (.there (.there (.there (.there (.there (.there .here))))))); rfl; (first | exact Nat.le_of_ble_eq_true rfl | (simp; done) | omega); rfl; (intro w_ hq_; (try simp only [List.set_cons_zero, List.set_cons_succ] at hq_); clear HH; have HH := hid hq_; clear hq_))
          | ((with_reducible apply wpL_storeC (t := 80)); rfl; rfl; (exact kS80); (exact HH.out); (first | exact .here | exact .there .here | exact .there (.there .here) | exact .there (.there (.there .here)) | exact .there (.there (.there (.there .here))) | exact .there (.there (.there (.there (.there .here)))) | exact .there (.there (.there (.there (.there (.there .here))))) | exact .there (.there (.there (.there (.there (.there (.there .here))))))); (first | rfl | exact Arr.len _ | (simp; done)); (first | rfl | (intro u_ hu_; simp only [List.mem_cons, List.not_mem_nil, or_false] at hu_; rcases hu_ with rfl | hu_; rfl) | exact byt_cell1 _ | exact cells_one _ | exact wrd_one _ | exact flat_cell1 _); (first | rfl | exact Arr.len _ | (simp; done)); rfl; (intro w_ hq_; (try simp only [List.set_cons_zero, List.set_cons_succ] at hq_); clear HH; have HH := hid hq_; clear hq_))
          | ((with_reducible apply wpL_storeC (t := 82)); rfl; rfl; (exact kS82); (exact HH.out); (first | exact .here | exact .there .here | exact .there (.there .here) | exact .there (.there (.there .here)) | exact .there (.there (.there (.there .here))) | exact .there (.there (.there (.there (.there .here)))) | exact .there (.there (.there (.there (.there (.there .here))))) | exact .there (.there (.there (.there (.there (.there (.there .here))))))); (first | rfl | exact Arr.len _ | (simp; done)); (first | rfl | (intro u_ hu_; simp only [List.mem_cons, List.not_mem_nil, or_false] at hu_; rcases hu_ with rfl | hu_; rfl) | exact byt_cell1 _ | exact cells_one _ | exact wrd_one _ | exact flat_cell1 _); (first | rfl | exact Arr.len _ | (simp; done)); rfl; (intro w_ hq_; (try simp only [List.set_cons_zero, List.set_cons_succ] at hq_); clear HH; have HH := hid hq_; clear hq_))
          | ((with_reducible apply wpL_move); rfl; rfl)
          | ((with_reducible apply wpL_assign); rfl; rfl)
          | ((with_reducible apply wpL_pick); rfl; rfl; rfl)
          | ((with_reducible apply wpL_not); rfl; rfl)
          | ((with_reducible apply wpL_cmp (b := true)); rfl; rfl; rfl; (first | rfl | assumption | (simp only [cmpB, decide_eq_true_eq, decide_eq_false_iff_not, beq_iff_eq, bne_iff_ne, ne_eq, beq_eq_false_iff_ne, bne_eq_false_iff_eq, gt_iff_lt, ge_iff_le]; omega) | (simp; omega)); rfl)
          | ((with_reducible apply wpL_cmp (b := false)); rfl; rfl; rfl; (first | rfl | assumption | (simp only [cmpB, decide_eq_true_eq, decide_eq_false_iff_not, beq_iff_eq, bne_iff_ne, ne_eq, beq_eq_false_iff_ne, bne_eq_false_iff_eq, gt_iff_lt, ge_iff_le]; omega) | (simp; omega)); rfl)
          | ((with_reducible apply wpL_cmp); rfl; rfl; rfl; rfl; rfl)
          | ((with_reducible apply wpL_arith); rfl; rfl; rfl; (exact IntWalk.i64_in _ (by (try simp only [arithI]); omega)); rfl)); (try simp only [arithI, Act.put, Act.eval, List.setIfInBounds_toArray, List.set_cons_succ, List.set_cons_zero, Array.getD_eq_getD_getElem?, List.getElem?_toArray, List.getElem?_cons_succ, List.getElem?_cons_zero, Option.getD_some])))
    refine ⟨rfl, _, res0 rfl, rfl, ?_⟩
    rw [HOUT.out]
    exact HH.out.dropBlk.dropBlk.dropBlk
  · have HNE := hid (show (!(p == d)) = true by rw [Bool.not_eq_true', beq_eq_false_iff_ne]; exact hpd)
    have HOUT := hid (show outN ps lev p (lz, a0, b0) = ((lev : Int), d, p) by unfold outN; rw [HD.out, if_neg hpd])
    clear hpd
    go_enter Try.func75, Try.ntmps75
    go_wp2_with (first
      | ((first
          | ((with_reducible apply wpL_skip); rfl; skip)
          | ((with_reducible apply wpList_build (parts := #[(0, .tmp 9), (1, .tmp 10)]) (v := p.val)); (exact HB.out); rfl)
          | ((with_reducible apply wpL_allocC (dst := some 8) (zs := zP.cells) (show (Try.prog.info? 80).map (·.zero) = some (some (.agg zP.cells.toArray)) by kernel_rfl) HH.out); rfl; (intro g8_ w_ hq_; clear HH; have HH := hid hq_; clear hq_))
          | ((with_reducible apply wpL_storeC (t := 80) (vs := p.cells)); rfl; rfl; (exact kS80); (exact HH.out); (exact .here); (exact Arr.len _); (exact cells_one _); (exact Arr.len _); rfl; (intro w_ hq_; clear HH; have HH := hid hq_; clear hq_))
          | ((with_reducible apply wpL_nilCheck); rfl; rfl)
          | ((with_reducible apply wpL_fieldAddr); (first | exact kF82_0 | exact kF82_1 | exact kF82_2); rfl; rfl)
          | ((with_reducible apply wpL_loadArr (t := 34) kA34 HH.out); rfl; (first | exact .here | exact .there .here | exact .there (.there .here) | exact .there (.there (.there .here)) | exact .there (.there (.there (.there .here))) | exact .there (.there (.there (.there (.there .here)))) | exact .there (.there (.there (.there (.there (.there .here))))) | exact .there (.there (.there (.there (.there (.there (.there .here))))))); rfl)
          | ((with_reducible apply wpL_loadC (t := 34) kA34 HH.out); rfl; (first | exact .here | exact .there .here | exact .there (.there .here) | exact .there (.there (.there .here)) | exact .there (.there (.there (.there .here))) | exact .there (.there (.there (.there (.there .here)))) | exact .there (.there (.there (.there (.there (.there .here))))) | exact .there (.there (.there (.there (.there (.there (.there .here))))))); (first | rfl | exact Arr.len _ | (simp; done)); rfl)
          | ((with_reducible apply wpL_loadC (t := 80) kA80 HH.out); rfl; (first | exact .here | exact .there .here | exact .there (.there .here) | exact .there (.there (.there .here)) | exact .there (.there (.there (.there .here))) | exact .there (.there (.there (.there (.there .here)))) | exact .there (.there (.there (.there (.there (.there .here))))) | exact .there (.there (.there (.there (.there (.there (.there .here))))))); (first | rfl | exact Arr.len _ | (simp; done)); rfl)
          | ((with_reducible apply wpL_boxArr (dst := some 6)); rfl; (exact HH.out); rfl; (intro g6_ w_ hq_; (try simp only [List.set_cons_zero, List.set_cons_succ] at hq_); clear HH; have HH := hid hq_; clear hq_))
          | ((with_reducible apply wpL_boxArr (dst := some 7)); rfl; (exact HH.out); rfl; (intro g7_ w_ hq_; (try simp only [List.set_cons_zero, List.set_cons_succ] at hq_); clear HH; have HH := hid hq_; clear hq_))
          | ((with_reducible apply wpL_allocC (dst := some 8) kZ80 HH.out); rfl; (intro g8_ w_ hq_; (try simp only [List.set_cons_zero, List.set_cons_succ] at hq_); clear HH; have HH := hid hq_; clear hq_))
          | ((with_reducible apply wpL_store1 (t := 3)); rfl; rfl; rfl; (exact kS3); (exact HH.out); (first | exact .here | exact .there .here | exact .there (.there .here) | exact .there (.there (.there .here)) | exact .there (.there (.there (.there .here))) | exact .there (.there (.there (.there (.there .here)))) | exact .there (.there (.there (.there (.there (.there .here))))) | exact .there (.there (.there (.there (.there (.there (.there .here))))))); rfl; (first | exact Nat.le_of_ble_eq_true rfl | (simp; done) | omega); rfl; (intro w_ hq_; (try simp only [List.set_cons_zero, List.set_cons_succ] at hq_); clear HH; have HH := hid hq_; clear hq_))
          | ((with_reducible apply wpL_storeC (t := 80)); rfl; rfl; (exact kS80); (exact HH.out); (first | exact .here | exact .there .here | exact .there (.there .here) | exact .there (.there (.there .here)) | exact .there (.there (.there (.there .here))) | exact .there (.there (.there (.there (.there .here)))) | exact .there (.there (.there (.there (.there (.there .here))))) | exact .there (.there (.there (.there (.there (.there (.there .here))))))); (first | rfl | exact Arr.len _ | (simp; done)); (first | rfl | (intro u_ hu_; simp only [List.mem_cons, List.not_mem_nil, or_false] at hu_; rcases hu_ with rfl | hu_; rfl) | exact byt_cell1 _ | exact cells_one _ | exact wrd_one _ | exact flat_cell1 _); (first | rfl | exact Arr.len _ | (simp; done)); rfl; (intro w_ hq_; (try simp only [List.set_cons_zero, List.set_cons_succ] at hq_); clear HH; have HH := hid hq_; clear hq_))
          | ((with_reducible apply wpL_storeC (t := 82)); rfl; rfl; (exact kS82); (exact HH.out); (first | exact .here | exact .there .here | exact .there (.there .here) | exact .there (.there (.there .here)) | exact .there (.there (.there (.there .here))) | exact .there (.there (.there (.there (.there .here)))) | exact .there (.there (.there (.there (.there (.there .here))))) | exact .there (.there (.there (.there (.there (.there (.there .here))))))); (first | rfl | exact Arr.len _ | (simp; done)); (first | rfl | (intro u_ hu_; simp only [List.mem_cons, List.not_mem_nil, or_false] at hu_; rcases hu_ with rfl | hu_; rfl) | exact byt_cell1 _ | exact cells_one _ | exact wrd_one _ | exact flat_cell1 _); (first | rfl | exact Arr.len _ | (simp; done)); rfl; (intro w_ hq_; (try simp only [List.set_cons_zero, List.set_cons_succ] at hq_); clear HH; have HH := hid hq_; clear hq_))
          | ((with_reducible apply wpL_move); rfl; rfl)
          | ((with_reducible apply wpL_assign); rfl; rfl)
          | ((with_reducible apply wpL_pick); rfl; rfl; rfl)
          | ((with_reducible apply wpL_not); rfl; rfl)
          | ((with_reducible apply wpL_cmp (b := true)); rfl; rfl; rfl; (first | rfl | assumption | (simp only [cmpB, decide_eq_true_eq, decide_eq_false_iff_not, beq_iff_eq, bne_iff_ne, ne_eq, beq_eq_false_iff_ne, bne_eq_false_iff_eq, gt_iff_lt, ge_iff_le]; omega) | (simp; omega)); rfl)
          | ((with_reducible apply wpL_cmp (b := false)); rfl; rfl; rfl; (first | rfl | assumption | (simp only [cmpB, decide_eq_true_eq, decide_eq_false_iff_not, beq_iff_eq, bne_iff_ne, ne_eq, beq_eq_false_iff_ne, bne_eq_false_iff_eq, gt_iff_lt, ge_iff_le]; omega) | (simp; omega)); rfl)
          | ((with_reducible apply wpL_cmp); rfl; rfl; rfl; rfl; rfl)
          | ((with_reducible apply wpL_arith); rfl; rfl; rfl; (exact IntWalk.i64_in _ (by (try simp only [arithI]); omega)); rfl)); (try simp only [arithI, Act.put, Act.eval, List.setIfInBounds_toArray, List.set_cons_succ, List.set_cons_zero, Array.getD_eq_getD_getElem?, List.getElem?_toArray, List.getElem?_cons_succ, List.getElem?_cons_zero, Option.getD_some])))
    refine wp_region_holds (by kernel_rfl) (by kernel_rfl) HH.out ?_
    repeat ((first
      | ((with_reducible apply wpQ_skip); rfl; skip)
      | ((with_reducible apply wpQ_indexE (m := lev) Try.underlying131 kS80 (by decide)); rfl; rfl; rfl; (exact hk); rfl)
      | ((with_reducible apply wpQ_loadPA (dst := some 15) (t := 80) (v := d) kA80); rfl; (exact .there (.there (.there (HOG.out _)))); (exact HGET.out); rfl)
      | ((with_reducible apply wpQ_neq80 (p := p) (q := d) (b := true)); rfl; rfl; (exact HNE.out); rfl)
      | ((with_reducible apply wpQ_nilCheck); rfl; rfl)
      | ((with_reducible apply wpQ_fieldAddr); (first | exact kF82_0 | exact kF82_1 | exact kF82_2); rfl; rfl)
      | ((with_reducible apply wpQ_loadArr (t := 34) kA34); rfl; (first | exact .here | exact .there .here | exact .there (.there .here) | exact .there (.there (.there .here)) | exact .there (.there (.there (.there .here))) | exact .there (.there (.there (.there (.there .here)))) | exact .there (.there (.there (.there (.there (.there .here))))) | exact .there (.there (.there (.there (.there (.there (.there .here))))))); rfl)
      | ((with_reducible apply wpQ_loadC (t := 34) kA34); rfl; (first | exact .here | exact .there .here | exact .there (.there .here) | exact .there (.there (.there .here)) | exact .there (.there (.there (.there .here))) | exact .there (.there (.there (.there (.there .here)))) | exact .there (.there (.there (.there (.there (.there .here))))) | exact .there (.there (.there (.there (.there (.there (.there .here))))))); (first | rfl | exact Arr.len _ | (simp; done)); rfl)
      | ((with_reducible apply wpQ_loadC (t := 80) kA80); rfl; (first | exact .here | exact .there .here | exact .there (.there .here) | exact .there (.there (.there .here)) | exact .there (.there (.there (.there .here))) | exact .there (.there (.there (.there (.there .here)))) | exact .there (.there (.there (.there (.there (.there .here))))) | exact .there (.there (.there (.there (.there (.there (.there .here))))))); (first | rfl | exact Arr.len _ | (simp; done)); rfl)
      | ((with_reducible apply wpQ_move); rfl; rfl)
      | ((with_reducible apply wpQ_assign); rfl; rfl)
      | ((with_reducible apply wpQ_pick); rfl; rfl; rfl)
      | ((with_reducible apply wpQ_not); rfl; rfl)
      | ((with_reducible apply wpQ_cmp (b := true)); rfl; rfl; rfl; (first | rfl | assumption | (simp only [cmpB, decide_eq_true_eq, decide_eq_false_iff_not, beq_iff_eq, bne_iff_ne, ne_eq, beq_eq_false_iff_ne, bne_eq_false_iff_eq, gt_iff_lt, ge_iff_le]; omega) | (simp; omega)); rfl)
      | ((with_reducible apply wpQ_cmp (b := false)); rfl; rfl; rfl; (first | rfl | assumption | (simp only [cmpB, decide_eq_true_eq, decide_eq_false_iff_not, beq_iff_eq, bne_iff_ne, ne_eq, beq_eq_false_iff_ne, bne_eq_false_iff_eq, gt_iff_lt, ge_iff_le]; omega) | (simp; omega)); rfl)
      | ((with_reducible apply wpQ_cmp); rfl; rfl; rfl; rfl; rfl)
      | ((with_reducible apply wpQ_arith); rfl; rfl; rfl; (exact IntWalk.i64_in _ (by (try simp only [arithI]); omega)); rfl)); (try simp only [if_true, if_false, Bool.false_eq_true, arithI, Act.put, Act.eval, List.setIfInBounds_toArray, List.set_cons_succ, List.set_cons_zero, Array.getD_eq_getD_getElem?, List.getElem?_toArray, List.getElem?_cons_succ, List.getElem?_cons_zero, Option.getD_some]))
    refine wpQuiet_nil ?_
    intro wq hq_
    have HQ := hid hq_
    clear hq_
    clear HH
    have HH := HQ
    clear HQ
    go_wp2_with (first
      | ((first
          | ((with_reducible apply wpL_skip); rfl; skip)
          | ((with_reducible apply wpL_nilCheck); rfl; rfl)
          | ((with_reducible apply wpL_fieldAddr); (first | exact kF82_0 | exact kF82_1 | exact kF82_2); rfl; rfl)
          | ((with_reducible apply wpL_loadArr (t := 34) kA34 HH.out); rfl; (first | exact .here | exact .there .here | exact .there (.there .here) | exact .there (.there (.there .here)) | exact .there (.there (.there (.there .here))) | exact .there (.there (.there (.there (.there .here)))) | exact .there (.there (.there (.there (.there (.there .here))))) | exact .there (.there (.there (.there (.there (.there (.there .here))))))); rfl)
          | ((with_reducible apply wpL_loadC (t := 34) kA34 HH.out); rfl; (first | exact .here | exact .there .here | exact .there (.there .here) | exact .there (.there (.there .here)) | exact .there (.there (.there (.there .here))) | exact .there (.there (.there (.there (.there .here)))) | exact .there (.there (.there (.there (.there (.there .here))))) | exact .there (.there (.there (.there (.there (.there (.there .here))))))); (first | rfl | exact Arr.len _ | (simp; done)); rfl)
          | ((with_reducible apply wpL_loadC (t := 80) kA80 HH.out); rfl; (first | exact .here | exact .there .here | exact .there (.there .here) | exact .there (.there (.there .here)) | exact .there (.there (.there (.there .here))) | exact .there (.there (.there (.there (.there .here)))) | exact .there (.there (.there (.there (.there (.there .here))))) | exact .there (.there (.there (.there (.there (.there (.there .here))))))); (first | rfl | exact Arr.len _ | (simp; done)); rfl)
          | ((with_reducible apply wpL_boxArr (dst := some 6)); rfl; (exact HH.out); rfl; (intro g6_ w_ hq_; (try simp only [List.set_cons_zero, List.set_cons_succ] at hq_); clear HH; have HH := hid hq_; clear hq_))
          | ((with_reducible apply wpL_boxArr (dst := some 7)); rfl; (exact HH.out); rfl; (intro g7_ w_ hq_; (try simp only [List.set_cons_zero, List.set_cons_succ] at hq_); clear HH; have HH := hid hq_; clear hq_))
          | ((with_reducible apply wpL_allocC (dst := some 8) kZ80 HH.out); rfl; (intro g8_ w_ hq_; (try simp only [List.set_cons_zero, List.set_cons_succ] at hq_); clear HH; have HH := hid hq_; clear hq_))
          | ((with_reducible apply wpL_store1 (t := 3)); rfl; rfl; rfl; (exact kS3); (exact HH.out); (first | exact .here | exact .there .here | exact .there (.there .here) | exact .there (.there (.there .here)) | exact .there (.there (.there (.there .here))) | exact .there (.there (.there (.there (.there .here)))) | exact .there (.there (.there (.there (.there (.there .here))))) | exact .there (.there (.there (.there (.there (.there (.there .here))))))); rfl; (first | exact Nat.le_of_ble_eq_true rfl | (simp; done) | omega); rfl; (intro w_ hq_; (try simp only [List.set_cons_zero, List.set_cons_succ] at hq_); clear HH; have HH := hid hq_; clear hq_))
          | ((with_reducible apply wpL_storeC (t := 80)); rfl; rfl; (exact kS80); (exact HH.out); (first | exact .here | exact .there .here | exact .there (.there .here) | exact .there (.there (.there .here)) | exact .there (.there (.there (.there .here))) | exact .there (.there (.there (.there (.there .here)))) | exact .there (.there (.there (.there (.there (.there .here))))) | exact .there (.there (.there (.there (.there (.there (.there .here))))))); (first | rfl | exact Arr.len _ | (simp; done)); (first | rfl | (intro u_ hu_; simp only [List.mem_cons, List.not_mem_nil, or_false] at hu_; rcases hu_ with rfl | hu_; rfl) | exact byt_cell1 _ | exact cells_one _ | exact wrd_one _ | exact flat_cell1 _); (first | rfl | exact Arr.len _ | (simp; done)); rfl; (intro w_ hq_; (try simp only [List.set_cons_zero, List.set_cons_succ] at hq_); clear HH; have HH := hid hq_; clear hq_))
          | ((with_reducible apply wpL_storeC (t := 82)); rfl; rfl; (exact kS82); (exact HH.out); (first | exact .here | exact .there .here | exact .there (.there .here) | exact .there (.there (.there .here)) | exact .there (.there (.there (.there .here))) | exact .there (.there (.there (.there (.there .here)))) | exact .there (.there (.there (.there (.there (.there .here))))) | exact .there (.there (.there (.there (.there (.there (.there .here))))))); (first | rfl | exact Arr.len _ | (simp; done)); (first | rfl | (intro u_ hu_; simp only [List.mem_cons, List.not_mem_nil, or_false] at hu_; rcases hu_ with rfl | hu_; rfl) | exact byt_cell1 _ | exact cells_one _ | exact wrd_one _ | exact flat_cell1 _); (first | rfl | exact Arr.len _ | (simp; done)); rfl; (intro w_ hq_; (try simp only [List.set_cons_zero, List.set_cons_succ] at hq_); clear HH; have HH := hid hq_; clear hq_))
          | ((with_reducible apply wpL_move); rfl; rfl)
          | ((with_reducible apply wpL_assign); rfl; rfl)
          | ((with_reducible apply wpL_pick); rfl; rfl; rfl)
          | ((with_reducible apply wpL_not); rfl; rfl)
          | ((with_reducible apply wpL_cmp (b := true)); rfl; rfl; rfl; (first | rfl | assumption | (simp only [cmpB, decide_eq_true_eq, decide_eq_false_iff_not, beq_iff_eq, bne_iff_ne, ne_eq, beq_eq_false_iff_ne, bne_eq_false_iff_eq, gt_iff_lt, ge_iff_le]; omega) | (simp; omega)); rfl)
          | ((with_reducible apply wpL_cmp (b := false)); rfl; rfl; rfl; (first | rfl | assumption | (simp only [cmpB, decide_eq_true_eq, decide_eq_false_iff_not, beq_iff_eq, bne_iff_ne, ne_eq, beq_eq_false_iff_ne, bne_eq_false_iff_eq, gt_iff_lt, ge_iff_le]; omega) | (simp; omega)); rfl)
          | ((with_reducible apply wpL_cmp); rfl; rfl; rfl; rfl; rfl)
          | ((with_reducible apply wpL_arith); rfl; rfl; rfl; (exact IntWalk.i64_in _ (by (try simp only [arithI]); omega)); rfl)); (try simp only [arithI, Act.put, Act.eval, List.setIfInBounds_toArray, List.set_cons_succ, List.set_cons_zero, Array.getD_eq_getD_getElem?, List.getElem?_toArray, List.getElem?_cons_succ, List.getElem?_cons_zero, Option.getD_some])))
    refine wp_region_F [(fun u_ => u_ = (.int .i64 (lev : Int))), (fun u_ => u_ = (.int .i64 (lev : Int))), (fun u_ => u_ = (.pointer (some ⟨gp, 0 + lev * 32, none⟩))), (fun u_ => u_ = d.val), (fun u_ => u_ = p.val), (fun _ => True), (fun u_ => u_ = (.pointer (some ⟨go, 0 + 0, none⟩))), (fun _ => True), (fun u_ => u_ = (.pointer (some ⟨go, 0 + 1, none⟩))), (fun _ => True), (fun u_ => u_ = (.pointer (some ⟨go, 0 + 33, none⟩))), (fun _ => True)] (StJ w0 S ((g8_, objC p.cells 80) :: (g7_, objC y.cells 34) :: (g6_, objC x.cells 34) :: pre) ((gp, psO ps) :: post) rows go (st75 lz a0 b0 lev d p)) (by kernel_rfl) (by kernel_rfl) rfl (HH.out.drew) ?_ ?_
    · refine eachD_cons ?_ (eachD_cons ?_ (eachD_cons ?_ (eachD_cons ?_ (eachD_cons ?_ (eachD_cons ?_ (eachD_cons ?_ (eachD_cons ?_ (eachD_cons ?_ (eachD_cons ?_ (eachD_cons ?_ (eachD_cons ?_ (eachD_nil))))))))))))
      · intro li_ a_ w1 hc hi hJ hF hS
        have e0 : a_.eval (.tmp 0) = (.int .i64 (lev : Int)) := (hF.2.2 0 (notDst_of (by kernel_rfl))).trans rfl
        refine wantD (by rfl) ?_
        exact opF_val rfl (ex_move rfl w1) hJ e0
      · intro li_ a_ w1 hc hi hJ hF hS
        have e0 : a_.eval (.tmp 0) = (.int .i64 (lev : Int)) := (hF.2.2 0 (notDst_of (by kernel_rfl))).trans rfl
        refine wantD (by rfl) ?_
        exact opF_val rfl (ex_move rfl w1) hJ e0
      · intro li_ a_ w1 hc hi hJ hF hS
        have l1 : li_ 1 = true := (hS ⟨1, .data⟩ (by simp) rfl).1
        have e3 : a_.eval (.tmp 3) = (.pointer (some ⟨gp, 0, none⟩)) := (hF.2.2 3 (notDst_of (by kernel_rfl))).trans rfl
        have e18 : a_.eval (.tmp 18) = (.int .i64 (lev : Int)) := (hS ⟨1, .data⟩ (by simp) rfl).2 _ rfl
        refine wantD (by rfl) ?_
        exact opF_val rfl (ex_indexE (m := lev) Try.underlying131 kS80 (by decide) e3 e18 rfl hk w1) hJ rfl
      · intro li_ a_ w1 hc hi hJ hF hS
        have l2 : li_ 2 = true := (hS ⟨2, .data⟩ (by simp) rfl).1
        have e19 : a_.eval (.tmp 19) = (.pointer (some ⟨gp, 0 + lev * 32, none⟩)) := (hS ⟨2, .data⟩ (by simp) rfl).2 _ rfl
        refine wantD (by rfl) ?_
        exact opF_val rfl (ex_loadPart (cs := flat ps) (e := 131) kA80 hJ e19 (.there (.there (.there (HOG.out _)))) HGET.out (Arr.len _)) hJ rfl
      · intro li_ a_ w1 hc hi hJ hF hS
        have e8 : a_.eval (.tmp 8) = (.pointer (some ⟨g8_, 0, none⟩)) := (hF.2.2 8 (notDst_of (by kernel_rfl))).trans rfl
        refine wantD (by rfl) ?_
        exact opF_val rfl (ex_loadPart (cs := p.cells) (e := 80) kA80 hJ e8 .here (by rw [List.drop_zero]; exact List.take_of_length_le (by rw [Arr.len]; exact Nat.le_refl _)) (Arr.len _)) hJ rfl
      · intro li_ a_ w1 hc hi hJ hF hS
        have e4 : a_.eval (.tmp 4) = (.pointer (some ⟨go, 0, none⟩)) := (hF.2.2 4 (notDst_of (by kernel_rfl))).trans rfl
        refine wantD (by rfl) ?_
        exact stJ_store (i := 5) hJ (show st75 lz a0 b0 lev d p li_ = twoO lz a0 b0 by unfold st75; rw [hi]; rfl) (show st75 lz a0 b0 lev d p (upd li_ 5) = twoO 0 zP zP by show selO true _ (selO (li_ 7) _ _) = _; rw [hc.off (i := 5) (j := 7) (by kernel_rfl) hi]; rfl) (two_stA _ _ _) e4 rfl (by rfl) kS82 (two_len _ _ _) (two_one _ _ _) (by rw [two_len]; decide)
      · intro li_ a_ w1 hc hi hJ hF hS
        have l0 : li_ 0 = true := (hS ⟨0, .phase⟩ (by simp) rfl).1
        have l5 : li_ 5 = true := (hS ⟨5, .phase⟩ (by simp) rfl).1
        have e4 : a_.eval (.tmp 4) = (.pointer (some ⟨go, 0, none⟩)) := (hF.2.2 4 (notDst_of (by kernel_rfl))).trans rfl
        refine wantD (by rfl) ?_
        exact opF_val rfl (ex_fieldAddr kF82_0 e4 w1) hJ rfl
      · intro li_ a_ w1 hc hi hJ hF hS
        have l6 : li_ 6 = true := (hS ⟨6, .data⟩ (by simp) rfl).1
        have l0 : li_ 0 = true := (hS ⟨0, .data⟩ (by simp) rfl).1
        have l5 : li_ 5 = true := (hS ⟨5, .chain⟩ (by simp) rfl).1
        have e22 : a_.eval (.tmp 22) = (.pointer (some ⟨go, 0 + 0, none⟩)) := (hS ⟨6, .data⟩ (by simp) rfl).2 _ rfl
        have e17 : a_.eval (.tmp 17) = (.int .i64 (lev : Int)) := (hS ⟨0, .data⟩ (by simp) rfl).2 _ rfl
        refine wantD (by rfl) ?_
        exact stJ_store (i := 7) hJ (show st75 lz a0 b0 lev d p li_ = twoO 0 zP zP by unfold st75; rw [l5, hi]; rfl) (show st75 lz a0 b0 lev d p (upd li_ 7) = twoO lev zP zP by show selO (li_ 5) _ (selO true _ (selO (li_ 9) _ _)) = _; rw [l5, hc.off (i := 7) (j := 9) (by kernel_rfl) hi]; rfl) (two_st0 _ _ _ _) e22 e17 rfl kS3 rfl (by intro u hu; rw [List.mem_singleton] at hu; subst hu; rfl) (by rw [two_len]; decide)
      · intro li_ a_ w1 hc hi hJ hF hS
        have l0 : li_ 0 = true := (hS ⟨0, .phase⟩ (by simp) rfl).1
        have l1 : li_ 1 = true := (hS ⟨1, .phase⟩ (by simp) rfl).1
        have l2 : li_ 2 = true := (hS ⟨2, .phase⟩ (by simp) rfl).1
        have l3 : li_ 3 = true := (hS ⟨3, .phase⟩ (by simp) rfl).1
        have l5 : li_ 5 = true := (hS ⟨5, .phase⟩ (by simp) rfl).1
        have l6 : li_ 6 = true := (hS ⟨6, .phase⟩ (by simp) rfl).1
        have l7 : li_ 7 = true := (hS ⟨7, .phase⟩ (by simp) rfl).1
        have e4 : a_.eval (.tmp 4) = (.pointer (some ⟨go, 0, none⟩)) := (hF.2.2 4 (notDst_of (by kernel_rfl))).trans rfl
        refine wantD (by rfl) ?_
        exact opF_val rfl (ex_fieldAddr kF82_1 e4 w1) hJ rfl
      · intro li_ a_ w1 hc hi hJ hF hS
        have l8 : li_ 8 = true := (hS ⟨8, .data⟩ (by simp) rfl).1
        have l3 : li_ 3 = true := (hS ⟨3, .data⟩ (by simp) rfl).1
        have l7 : li_ 7 = true := (hS ⟨7, .chain⟩ (by simp) rfl).1
        have l0 : li_ 0 = true := (hS ⟨0, .phase⟩ (by simp) rfl).1
        have l1 : li_ 1 = true := (hS ⟨1, .phase⟩ (by simp) rfl).1
        have l2 : li_ 2 = true := (hS ⟨2, .phase⟩ (by simp) rfl).1
        have l5 : li_ 5 = true := (hS ⟨5, .phase⟩ (by simp) rfl).1
        have l6 : li_ 6 = true := (hS ⟨6, .phase⟩ (by simp) rfl).1
        have e23 : a_.eval (.tmp 23) = (.pointer (some ⟨go, 0 + 1, none⟩)) := (hS ⟨8, .data⟩ (by simp) rfl).2 _ rfl
        have e20 : a_.eval (.tmp 20) = d.val := (hS ⟨3, .data⟩ (by simp) rfl).2 _ rfl
        refine wantD (by rfl) ?_
        exact stJ_store (i := 9) hJ (show st75 lz a0 b0 lev d p li_ = twoO lev zP zP by unfold st75; rw [l5, l7, hi]; rfl) (show st75 lz a0 b0 lev d p (upd li_ 9) = twoO lev d zP by show selO (li_ 5) _ (selO (li_ 7) _ (selO true _ (selO (li_ 11) _ _))) = _; rw [l5, l7, hc.off (i := 9) (j := 11) (by kernel_rfl) hi]; rfl) (two_st1 _ _ _ _) e23 e20 rfl kS80 (Arr.len _) (cells_one _) (by rw [two_len]; decide)
      · intro li_ a_ w1 hc hi hJ hF hS
        have l0 : li_ 0 = true := (hS ⟨0, .phase⟩ (by simp) rfl).1
        have l1 : li_ 1 = true := (hS ⟨1, .phase⟩ (by simp) rfl).1
        have l2 : li_ 2 = true := (hS ⟨2, .phase⟩ (by simp) rfl).1
        have l3 : li_ 3 = true := (hS ⟨3, .phase⟩ (by simp) rfl).1
        have l4 : li_ 4 = true := (hS ⟨4, .phase⟩ (by simp) rfl).1
        have l5 : li_ 5 = true := (hS ⟨5, .phase⟩ (by simp) rfl).1
        have l6 : li_ 6 = true := (hS ⟨6, .phase⟩ (by simp) rfl).1
        have l7 : li_ 7 = true := (hS ⟨7, .phase⟩ (by simp) rfl).1
        have l8 : li_ 8 = true := (hS ⟨8, .phase⟩ (by simp) rfl).1
        have l9 : li_ 9 = true := (hS ⟨9, .phase⟩ (by simp) rfl).1
        have e4 : a_.eval (.tmp 4) = (.pointer (some ⟨go, 0, none⟩)) := (hF.2.2 4 (notDst_of (by kernel_rfl))).trans rfl
        refine wantD (by rfl) ?_
        exact opF_val rfl (ex_fieldAddr kF82_2 e4 w1) hJ rfl
      · intro li_ a_ w1 hc hi hJ hF hS
        have l10 : li_ 10 = true := (hS ⟨10, .data⟩ (by simp) rfl).1
        have l4 : li_ 4 = true := (hS ⟨4, .data⟩ (by simp) rfl).1
        have l9 : li_ 9 = true := (hS ⟨9, .chain⟩ (by simp) rfl).1
        have l0 : li_ 0 = true := (hS ⟨0, .phase⟩ (by simp) rfl).1
        have l1 : li_ 1 = true := (hS ⟨1, .phase⟩ (by simp) rfl).1
        have l2 : li_ 2 = true := (hS ⟨2, .phase⟩ (by simp) rfl).1
        have l3 : li_ 3 = true := (hS ⟨3, .phase⟩ (by simp) rfl).1
        have l5 : li_ 5 = true := (hS ⟨5, .phase⟩ (by simp) rfl).1
        have l6 : li_ 6 = true := (hS ⟨6, .phase⟩ (by simp) rfl).1
        have l7 : li_ 7 = true := (hS ⟨7, .phase⟩ (by simp) rfl).1
        have l8 : li_ 8 = true := (hS ⟨8, .phase⟩ (by simp) rfl).1
        have e24 : a_.eval (.tmp 24) = (.pointer (some ⟨go, 0 + 33, none⟩)) := (hS ⟨10, .data⟩ (by simp) rfl).2 _ rfl
        have e21 : a_.eval (.tmp 21) = p.val := (hS ⟨4, .data⟩ (by simp) rfl).2 _ rfl
        refine wantD (by rfl) ?_
        exact stJ_store (i := 11) hJ (show st75 lz a0 b0 lev d p li_ = twoO lev d zP by unfold st75; rw [l5, l7, l9, hi]; rfl) (show st75 lz a0 b0 lev d p (upd li_ 11) = twoO lev d p by show selO (li_ 5) _ (selO (li_ 7) _ (selO (li_ 9) _ (selO true _ _))) = _; rw [l5, l7, l9]; rfl) (two_st2 _ _ _ _) e24 e21 rfl kS80 (Arr.len _) (cells_one _) (by rw [two_len]; decide)
    intro v0_ h0_ v1_ h1_ v2_ h2_ v3_ h3_ v4_ h4_ v5_ h5_ v6_ h6_ v7_ h7_ v8_ h8_ v9_ h9_ v10_ h10_ v11_ h11_
    intro wq hq_
    have q_ : v0_ = (.int .i64 (lev : Int)) := h0_; clear h0_; subst q_
    have q_ : v1_ = (.int .i64 (lev : Int)) := h1_; clear h1_; subst q_
    have q_ : v2_ = (.pointer (some ⟨gp, 0 + lev * 32, none⟩)) := h2_; clear h2_; subst q_
    have q_ : v3_ = d.val := h3_; clear h3_; subst q_
    have q_ : v4_ = p.val := h4_; clear h4_; subst q_
    clear h5_
    have q_ : v6_ = (.pointer (some ⟨go, 0 + 0, none⟩)) := h6_; clear h6_; subst q_
    clear h7_
    have q_ : v8_ = (.pointer (some ⟨go, 0 + 1, none⟩)) := h8_; clear h8_; subst q_
    clear h9_
    have q_ : v10_ = (.pointer (some ⟨go, 0 + 33, none⟩)) := h10_; clear h10_; subst q_
    clear h11_
    have HQ := hid hq_; clear hq_
    simp only [putsD, Act.put, List.setIfInBounds_toArray, List.set_cons_succ, List.set_cons_zero]
    have hq2_ : Holds w0 S ((g8_, objC p.cells 80) :: (g7_, objC y.cells 34) :: (g6_, objC x.cells 34) :: (pre ++ (go, twoO lev d p) :: (gp, psO ps) :: post)) rows wq := HQ.out
    clear HH HQ
    have HH := hid hq2_
    clear hq2_
    go_wp2_with (first
      | ((first
          | ((with_reducible apply wpL_skip); rfl; skip)
          | ((with_reducible apply wpL_nilCheck); rfl; rfl)
          | ((with_reducible apply wpL_fieldAddr); (first | exact kF82_0 | exact kF82_1 | exact kF82_2); rfl; rfl)
          | ((with_reducible apply wpL_loadArr (t := 34) kA34 HH.out); rfl; (first | exact .here | exact .there .here | exact .there (.there .here) | exact .there (.there (.there .here)) | exact .there (.there (.there (.there .here))) | exact .there (.there (.there (.there (.there .here)))) | exact .there (.there (.there (.there (.there (.there .here))))) | exact .there (.there (.there (.there (.there (.there (.there .here))))))); rfl)
          | ((with_reducible apply wpL_loadC (t := 34) kA34 HH.out); rfl; (first | exact .here | exact .there .here | exact .there (.there .here) | exact .there (.there (.there .here)) | exact .there (.there (.there (.there .here))) | exact .there (.there (.there (.there (.there .here)))) | exact .there (.there (.there (.there (.there (.there .here))))) | exact .there (.there (.there (.there (.there (.there (.there .here))))))); (first | rfl | exact Arr.len _ | (simp; done)); rfl)
          | ((with_reducible apply wpL_loadC (t := 80) kA80 HH.out); rfl; (first | exact .here | exact .there .here | exact .there (.there .here) | exact .there (.there (.there .here)) | exact .there (.there (.there (.there .here))) | exact .there (.there (.there (.there (.there .here)))) | exact .there (.there (.there (.there (.there (.there .here))))) | exact .there (.there (.there (.there (.there (.there (.there .here))))))); (first | rfl | exact Arr.len _ | (simp; done)); rfl)
          | ((with_reducible apply wpL_boxArr (dst := some 6)); rfl; (exact HH.out); rfl; (intro g6_ w_ hq_; (try simp only [List.set_cons_zero, List.set_cons_succ] at hq_); clear HH; have HH := hid hq_; clear hq_))
          | ((with_reducible apply wpL_boxArr (dst := some 7)); rfl; (exact HH.out); rfl; (intro g7_ w_ hq_; (try simp only [List.set_cons_zero, List.set_cons_succ] at hq_); clear HH; have HH := hid hq_; clear hq_))
          | ((with_reducible apply wpL_allocC (dst := some 8) kZ80 HH.out); rfl; (intro g8_ w_ hq_; (try simp only [List.set_cons_zero, List.set_cons_succ] at hq_); clear HH; have HH := hid hq_; clear hq_))
          | ((with_reducible apply wpL_store1 (t := 3)); rfl; rfl; rfl; (exact kS3); (exact HH.out); (first | exact .here | exact .there .here | exact .there (.there .here) | exact .there (.there (.there .here)) | exact .there (.there (.there (.there .here))) | exact .there (.there (.there (.there (.there .here)))) | exact .there (.there (.there (.there (.there (.there .here))))) | exact .there (.there (.there (.there (.there (.there (.there .here))))))); rfl; (first | exact Nat.le_of_ble_eq_true rfl | (simp; done) | omega); rfl; (intro w_ hq_; (try simp only [List.set_cons_zero, List.set_cons_succ] at hq_); clear HH; have HH := hid hq_; clear hq_))
          | ((with_reducible apply wpL_storeC (t := 80)); rfl; rfl; (exact kS80); (exact HH.out); (first | exact .here | exact .there .here | exact .there (.there .here) | exact .there (.there (.there .here)) | exact .there (.there (.there (.there .here))) | exact .there (.there (.there (.there (.there .here)))) | exact .there (.there (.there (.there (.there (.there .here))))) | exact .there (.there (.there (.there (.there (.there (.there .here))))))); (first | rfl | exact Arr.len _ | (simp; done)); (first | rfl | (intro u_ hu_; simp only [List.mem_cons, List.not_mem_nil, or_false] at hu_; rcases hu_ with rfl | hu_; rfl) | exact byt_cell1 _ | exact cells_one _ | exact wrd_one _ | exact flat_cell1 _); (first | rfl | exact Arr.len _ | (simp; done)); rfl; (intro w_ hq_; (try simp only [List.set_cons_zero, List.set_cons_succ] at hq_); clear HH; have HH := hid hq_; clear hq_))
          | ((with_reducible apply wpL_storeC (t := 82)); rfl; rfl; (exact kS82); (exact HH.out); (first | exact .here | exact .there .here | exact .there (.there .here) | exact .there (.there (.there .here)) | exact .there (.there (.there (.there .here))) | exact .there (.there (.there (.there (.there .here)))) | exact .there (.there (.there (.there (.there (.there .here))))) | exact .there (.there (.there (.there (.there (.there (.there .here))))))); (first | rfl | exact Arr.len _ | (simp; done)); (first | rfl | (intro u_ hu_; simp only [List.mem_cons, List.not_mem_nil, or_false] at hu_; rcases hu_ with rfl | hu_; rfl) | exact byt_cell1 _ | exact cells_one _ | exact wrd_one _ | exact flat_cell1 _); (first | rfl | exact Arr.len _ | (simp; done)); rfl; (intro w_ hq_; (try simp only [List.set_cons_zero, List.set_cons_succ] at hq_); clear HH; have HH := hid hq_; clear hq_))
          | ((with_reducible apply wpL_move); rfl; rfl)
          | ((with_reducible apply wpL_assign); rfl; rfl)
          | ((with_reducible apply wpL_pick); rfl; rfl; rfl)
          | ((with_reducible apply wpL_not); rfl; rfl)
          | ((with_reducible apply wpL_cmp (b := true)); rfl; rfl; rfl; (first | rfl | assumption | (simp only [cmpB, decide_eq_true_eq, decide_eq_false_iff_not, beq_iff_eq, bne_iff_ne, ne_eq, beq_eq_false_iff_ne, bne_eq_false_iff_eq, gt_iff_lt, ge_iff_le]; omega) | (simp; omega)); rfl)
          | ((with_reducible apply wpL_cmp (b := false)); rfl; rfl; rfl; (first | rfl | assumption | (simp only [cmpB, decide_eq_true_eq, decide_eq_false_iff_not, beq_iff_eq, bne_iff_ne, ne_eq, beq_eq_false_iff_ne, bne_eq_false_iff_eq, gt_iff_lt, ge_iff_le]; omega) | (simp; omega)); rfl)
          | ((with_reducible apply wpL_cmp); rfl; rfl; rfl; rfl; rfl)
          | ((with_reducible apply wpL_arith); rfl; rfl; rfl; (exact IntWalk.i64_in _ (by (try simp only [arithI]); omega)); rfl)); (try simp only [arithI, Act.put, Act.eval, List.setIfInBounds_toArray, List.set_cons_succ, List.set_cons_zero, Array.getD_eq_getD_getElem?, List.getElem?_toArray, List.getElem?_cons_succ, List.getElem?_cons_zero, Option.getD_some])))
    refine ⟨rfl, _, res0 rfl, rfl, ?_⟩
    rw [HOUT.out]
    exact HH.out.dropBlk.dropBlk.dropBlk
end Go.Proofs.Ytgkfopodhikckaa

namespace Go.Proofs.Ytgkfopodhikckaa
open Go.RowKit
attribute [local irreducible] wpQuiet wpList
set_option maxRecDepth 100000 in
theorem kZ82b : (Try.prog.info? 82).map (·.zero) = some (some (.agg (twoCs 0 zP zP).toArray)) := by kernel_rfl
set_option maxRecDepth 100000 in
theorem kZ131b : (Try.prog.info? 131).map (·.zero) = some (some (.agg (flat (List.replicate 11 zP)).toArray)) := by kernel_rfl
set_option maxRecDepth 100000 in
theorem BZ82 (w : World) : (Instr.build 82 #[]).run Try.prog w = .ok (.agg (twoCs 0 zP zP).toArray) w := by kernel_rfl
theorem two_stB (l0 l1 : Int) (a b A B : Arr 32) : (twoCs l0 a b).take 0 ++ twoCs l1 A B ++ (twoCs l0 a b).drop (0 + 65) = twoCs l1 A B := by
  rw [List.drop_eq_nil_of_le (by rw [two_len]; decide), List.take_zero, List.nil_append, List.append_nil]
/-- The pairs that the first climb notes. -/
def psAt (i : Nat) (x : Nd) (p : List Nd) : Nat → List (Arr 32)
  | 0 => List.replicate 11 zP
  | k + 1 => (psAt i x p k).set (k + 1) (pairA i x p k)
theorem psAt_len (i : Nat) (x : Nd) (p : List Nd) : ∀ k, (psAt i x p k).length = 11
  | 0 => by simp [psAt]
  | k + 1 => by rw [psAt, List.length_set, psAt_len i x p k]
theorem psAt_get (i : Nat) (x : Nd) (p : List Nd) (j : Nat) : ∀ k, j < k → k ≤ 10 → (psAt i x p k).getD (j + 1) zP = pairA i x p j
  | 0, h, _ => by omega
  | k + 1, h, hk => by
    rw [psAt, List.getD_eq_getElem?_getD]
    by_cases e : j = k
    · subst e
      rw [List.getElem?_set_self (by rw [psAt_len]; omega)]; rfl
    · rw [List.getElem?_set_ne (by omega), ← List.getD_eq_getElem?_getD]
      exact psAt_get i x p j k (by omega) (by omega)
/-- The highest place below k at which two lists of pairs differ. -/
def topD (f g : Nat → Arr 32) : Nat → Int × Arr 32 × Arr 32
  | 0 => (0, zP, zP)
  | k + 1 => if g k = f k then topD f g k else (((k + 1 : Nat) : Int), f k, g k)
theorem topD_step {i : Nat} {a b : Nd} {pa pb : List Nd} {n k : Nat} (hk : k < n) (hn : n ≤ 10) :
    outN (psAt i a pa n) (k + 1) (pairA i b pb k) (topD (pairA i a pa) (pairA i b pb) k) = topD (pairA i a pa) (pairA i b pb) (k + 1) := by
  unfold outN
  rw [psAt_get i a pa k n hk hn]
  rfl
theorem topD_step' {i : Nat} {a b : Nd} {pa pb : List Nd} {n k : Nat} (hk : k < n) (hn : n ≤ 10) :
    outN (psAt i a pa n) (k + 1) (jn (pairC i k (curAt i b pb k) (pb.getD k Nd0)).1 (pairC i k (curAt i b pb k) (pb.getD k Nd0)).2) (topD (pairA i a pa) (pairA i b pb) k) = topD (pairA i a pa) (pairA i b pb) (k + 1) := topD_step hk hn
def collOK (i : Int) (a : Nd) (pa : List Nd) (b : Nd) (pb : List Nd) : Prop := fromC i pa.length = 0 ∧ fromC i pb.length = 0 ∧ pa.length = pb.length ∧ fromV a i pa = fromV b i pb
instance (i : Int) (a : Nd) (pa : List Nd) (b : Nd) (pb : List Nd) : Decidable (collOK i a pa b pb) := by unfold collOK; infer_instance
def collV (i : Int) (a : Nd) (pa : List Nd) (b : Nd) (pb : List Nd) : Int × Arr 32 × Arr 32 := if collOK i a pa b pb then topD (pairA i.toNat a pa) (pairA i.toNat b pb) pa.length else (0, zP, zP)
def RetC (w : World) (o : Int × Arr 32 × Arr 32) (e : Ending) (w' : World) : Prop := e = .returned (.tuple #[.agg (twoCs o.1 o.2.1 o.2.2).toArray, .bool (decide (0 < o.1))]) ∧ Below w.heap.size w w'
theorem fromC_zero {i : Int} {n : Nat} (h : fromC i n = 0) : n ≤ 10 ∧ 0 ≤ i ∧ i < ((2 ^ n : Nat) : Int) := by
  unfold fromC at h
  split at h
  · cases h
  · split at h
    · cases h
    · rename_i h1 h2
      exact ⟨by omega, by omega, by omega⟩
set_option maxRecDepth 100000 in
set_option maxHeartbeats 8000000 in
theorem coll_any (w : World) (va vb : Value) (i : Int) (a b : Nd) (pa pb : List Nd) (ha : Arrs w va pa) (hb : Arrs w vb pb) (hna : pa.length ≤ 1000000000) (hnb : pb.length ≤ 1000000000) :
    Calls Try.prog 48 #[.int .i64 i, a.val, va, b.val, vb] w (RetC w (collV i a pa b pb)) := by
  obtain ⟨ua, ca, rfl, _⟩ := ha.shape
  obtain ⟨ub, cb, rfl, _⟩ := hb.shape
  have HPA := hid ha
  have HPB := hid hb
  clear ha hb
  have HH := hid (Holds.init w)
  obtain ⟨ea, hea⟩ : ∃ ea, fromC i pa.length = ea := ⟨_, rfl⟩
  obtain ⟨eb, heb⟩ : ∃ eb, fromC i pb.length = eb := ⟨_, rfl⟩
  obtain ⟨ra, hra⟩ : ∃ ra, fromV a i pa = ra := ⟨_, rfl⟩
  obtain ⟨rb, hrb⟩ : ∃ rb, fromV b i pb = rb := ⟨_, rfl⟩
  have HEA := hid hea
  have HEB := hid heb
  have HRA := hid hra
  have HRB := hid hrb
  by_cases h1 : ea = 0
  · subst h1
    by_cases h2 : eb = 0
    · subst h2
      by_cases h3 : pa.length = pb.length
      · by_cases h4 : ra = rb
        · subst h4
          have hok : collOK i a pa b pb := ⟨hea, heb, h3, hra.trans hrb.symm⟩
          obtain ⟨h10, hi0, hi2⟩ := fromC_zero hea
          obtain ⟨j, rfl⟩ : ∃ j : Nat, i = j := ⟨i.toNat, by omega⟩
          have hp10 : 2 ^ pa.length ≤ 2 ^ 10 := Nat.pow_le_pow_right (by decide) h10
          have hj : j ≤ 1024 := by omega
          obtain ⟨⟨lv, A, B⟩, ho⟩ : ∃ o, topD (pairA j a pa) (pairA j b pb) pa.length = o := ⟨_, rfl⟩
          have hv : collV (j : Int) a pa b pb = (lv, A, B) := by unfold collV; rw [if_pos hok]; exact ho
          rw [hv]
          have HO := hid ho
          have HLEN := hid h3
          have HNE := hid (arrNe ra)
          have hlen : ((pa.length : Int) != (pb.length : Int)) = false := by simp [h3]
          have hpb10 : pb.length ≤ 10 := by omega
          clear hv hok hea heb hra hrb ho hi0 hi2 hp10 h3
          go_enter Try.func48, Try.ntmps48
          go_wp2_with (first
            | ((first
                | ((with_reducible apply wpL_skip); rfl; skip)
                | ((with_reducible apply wpL_allocC (dst := some 10) (zs := twoCs 0 zP zP) kZ82b HH.out); rfl; (intro g10_ w_ hq_; clear HH; have HH := hid hq_; clear hq_))
                | (go_at_call 54; (have hcall_ := hid (from_any _ (.slice ua pa.length ca) a (j:Int) pa (HH.out.sl HPA.out) hna)); (with_reducible refine hcall_.out.mono ?_); clear hcall_; rw [HRA.out, HEA.out]; rintro e_ w2_ ⟨rfl, hb_⟩; (have hq_ := HH.out.grow hb_); clear HH; have HH := hid hq_; clear hq_ hb_)
                | (go_at_call 54; (have hcall_ := hid (from_any _ (.slice ub pb.length cb) b (j:Int) pb (HH.out.sl HPB.out) hnb)); (with_reducible refine hcall_.out.mono ?_); clear hcall_; rw [HRB.out, HEB.out]; rintro e_ w2_ ⟨rfl, hb_⟩; (have hq_ := HH.out.grow hb_); clear HH; have HH := hid hq_; clear hq_ hb_)
                | ((with_reducible apply wpL_neqA (b := false) (p := ra) (q := ra) kR34); rfl; rfl; (exact HNE.out); rfl)
                | ((with_reducible apply wpL_allocC (dst := some 16) (zs := flat (List.replicate 11 zP)) kZ131b HH.out); rfl; (intro g16_ w_ hq_; clear HH; have HH := hid hq_; clear hq_))
                | ((with_reducible apply wpL_allocC (dst := some 17) (zs := twoCs 0 zP zP) kZ82b HH.out); rfl; (intro g17_ w_ hq_; clear HH; have HH := hid hq_; clear hq_))
                | ((with_reducible apply wpL_makeFunc (dst := some 54) (vs := #[.pointer (some ⟨g16_, 0, none⟩)])); rfl; rfl)
                | ((with_reducible apply wpL_makeFunc (dst := some 59) (vs := #[.pointer (some ⟨g16_, 0, none⟩), .pointer (some ⟨g17_, 0, none⟩)])); rfl; rfl)
                | (go_at_call 73; (have hcall_ := hid (climb_any w _ [] (fun k => (g16_, psO (psAt j a pa k)) :: [(g14_, objC ra.cells 34), (g12_, objC ra.cells 34), (g10_, twoO 0 zP zP), (g8_, objC b.cells 34), (g6_, objC a.cells 34)]) [] 74 #[.pointer (some ⟨g16_, 0, none⟩)] kB74 (.slice ua pa.length ca) a pa j (fun bs w1 h1 => h1.sl HPA.out) h10 hj HH.out (fun k hk ex w1 h1 => (c1_any w w1 [] ex _ [] g16_ (k + 1) (psAt j a pa k) _ _ (psAt_len _ _ _ _) (by omega) h1)))); (with_reducible refine hcall_.out.mono ?_); clear hcall_; rintro e_ w2_ ⟨rfl, hq_⟩; clear HH; have HH := hid hq_; clear hq_)
                | (go_at_call 73; (have hcall_ := hid (climb_any w _ [] (fun k => (g17_, twoO (topD (pairA j a pa) (pairA j b pb) k).1 (topD (pairA j a pa) (pairA j b pb) k).2.1 (topD (pairA j a pa) (pairA j b pb) k).2.2) :: (g16_, psO (psAt j a pa pa.length)) :: [(g14_, objC ra.cells 34), (g12_, objC ra.cells 34), (g10_, twoO 0 zP zP), (g8_, objC b.cells 34), (g6_, objC a.cells 34)]) [] 75 #[.pointer (some ⟨g16_, 0, none⟩), .pointer (some ⟨g17_, 0, none⟩)] kB75 (.slice ub pb.length cb) b pb j (fun bs w1 h1 => h1.sl HPB.out) hpb10 hj HH.out (fun k hk ex w1 h1 => (c2_any w w1 [] ex _ [] g16_ g17_ (k + 1) (psAt j a pa pa.length) _ _ (topD (pairA j a pa) (pairA j b pb) k) (psAt_len _ _ _ _) (by omega) h1).mono fun e w2 hq => ⟨hq.1, by have h2 := hq.2; rw [topD_step' (by have := HLEN.out; omega) h10] at h2; exact h2⟩))); (with_reducible refine hcall_.out.mono ?_); clear hcall_; rw [← HLEN.out, HO.out]; rintro e_ w2_ ⟨rfl, hq_⟩; clear HH; have HH := hid hq_; clear hq_)
                | ((with_reducible apply wpL_nilCheck); rfl; rfl)
                | ((with_reducible apply wpL_fieldAddr); (first | exact kF82_0); rfl; rfl)
                | ((with_reducible apply wpL_load1 (t := 3) kO3 HH.out); rfl; (first | exact .here | exact .there .here | exact .there (.there .here) | exact .there (.there (.there .here)) | exact .there (.there (.there (.there .here))) | exact .there (.there (.there (.there (.there .here)))) | exact .there (.there (.there (.there (.there (.there .here))))) | exact .there (.there (.there (.there (.there (.there (.there .here))))))); rfl; rfl)
                | ((with_reducible apply wpL_loadArr (t := 34) kA34 HH.out); rfl; (first | exact .here | exact .there .here | exact .there (.there .here) | exact .there (.there (.there .here)) | exact .there (.there (.there (.there .here))) | exact .there (.there (.there (.there (.there .here)))) | exact .there (.there (.there (.there (.there (.there .here))))) | exact .there (.there (.there (.there (.there (.there (.there .here))))))); rfl)
                | ((with_reducible apply wpL_loadC (t := 34) kA34 HH.out); rfl; (first | exact .here | exact .there .here | exact .there (.there .here) | exact .there (.there (.there .here)) | exact .there (.there (.there (.there .here))) | exact .there (.there (.there (.there (.there .here)))) | exact .there (.there (.there (.there (.there (.there .here))))) | exact .there (.there (.there (.there (.there (.there (.there .here))))))); (first | rfl | exact Arr.len _ | (simp; done)); rfl)
                | ((with_reducible apply wpL_loadC (t := 82) kA82 HH.out); rfl; (first | exact .here | exact .there .here | exact .there (.there .here) | exact .there (.there (.there .here)) | exact .there (.there (.there (.there .here))) | exact .there (.there (.there (.there (.there .here)))) | exact .there (.there (.there (.there (.there (.there .here))))) | exact .there (.there (.there (.there (.there (.there (.there .here))))))); (first | rfl | exact Arr.len _ | (simp; done)); rfl)
                | ((with_reducible apply wpL_len (t := 46) Try.underlying46); rfl; rfl)
                | ((with_reducible apply wpL_boxArr (dst := some 6)); rfl; (exact HH.out); rfl; (intro g6_ w_ hq_; (try simp only [List.set_cons_zero, List.set_cons_succ] at hq_); clear HH; have HH := hid hq_; clear hq_))
                | ((with_reducible apply wpL_boxArr (dst := some 8)); rfl; (exact HH.out); rfl; (intro g8_ w_ hq_; (try simp only [List.set_cons_zero, List.set_cons_succ] at hq_); clear HH; have HH := hid hq_; clear hq_))
                | ((with_reducible apply wpL_allocC (dst := some 10) kZ82 HH.out); rfl; (intro g10_ w_ hq_; (try simp only [List.set_cons_zero, List.set_cons_succ] at hq_); clear HH; have HH := hid hq_; clear hq_))
                | ((with_reducible apply wpL_allocC (dst := some 12) kZ34 HH.out); rfl; (intro g12_ w_ hq_; (try simp only [List.set_cons_zero, List.set_cons_succ] at hq_); clear HH; have HH := hid hq_; clear hq_))
                | ((with_reducible apply wpL_allocC (dst := some 14) kZ34 HH.out); rfl; (intro g14_ w_ hq_; (try simp only [List.set_cons_zero, List.set_cons_succ] at hq_); clear HH; have HH := hid hq_; clear hq_))
                | ((with_reducible apply wpL_allocC (dst := some 16) kZ131 HH.out); rfl; (intro g16_ w_ hq_; (try simp only [List.set_cons_zero, List.set_cons_succ] at hq_); clear HH; have HH := hid hq_; clear hq_))
                | ((with_reducible apply wpL_allocC (dst := some 17) kZ82 HH.out); rfl; (intro g17_ w_ hq_; (try simp only [List.set_cons_zero, List.set_cons_succ] at hq_); clear HH; have HH := hid hq_; clear hq_))
                | ((with_reducible apply wpL_storeArr (t := 34) kS34 HH.out); rfl; rfl; (first | exact .here | exact .there .here | exact .there (.there .here) | exact .there (.there (.there .here)) | exact .there (.there (.there (.there .here))) | exact .there (.there (.there (.there (.there .here)))) | exact .there (.there (.there (.there (.there (.there .here))))) | exact .there (.there (.there (.there (.there (.there (.there .here))))))); (first | rfl | exact Arr.len _ | (simp; done)); rfl; (intro w_ hq_; (try simp only [List.set_cons_zero, List.set_cons_succ] at hq_); clear HH; have HH := hid hq_; clear hq_))
                | ((with_reducible apply wpL_storeC (t := 34)); rfl; rfl; (exact kS34); (exact HH.out); (first | exact .here | exact .there .here | exact .there (.there .here) | exact .there (.there (.there .here)) | exact .there (.there (.there (.there .here))) | exact .there (.there (.there (.there (.there .here)))) | exact .there (.there (.there (.there (.there (.there .here))))) | exact .there (.there (.there (.there (.there (.there (.there .here))))))); (first | rfl | exact Arr.len _ | (simp; done)); (first | rfl | (intro u_ hu_; simp only [List.mem_cons, List.not_mem_nil, or_false] at hu_; rcases hu_ with rfl | hu_; rfl) | exact byt_cell1 _ | exact cells_one _ | exact wrd_one _ | exact flat_cell1 _); (first | rfl | exact Arr.len _ | (simp; done)); rfl; (intro w_ hq_; (try simp only [List.set_cons_zero, List.set_cons_succ] at hq_); clear HH; have HH := hid hq_; clear hq_))
                | ((with_reducible apply wpL_storeC (t := 82)); rfl; rfl; (exact kS82); (exact HH.out); (first | exact .here | exact .there .here | exact .there (.there .here) | exact .there (.there (.there .here)) | exact .there (.there (.there (.there .here))) | exact .there (.there (.there (.there (.there .here)))) | exact .there (.there (.there (.there (.there (.there .here))))) | exact .there (.there (.there (.there (.there (.there (.there .here))))))); (first | rfl | exact Arr.len _ | (simp; done)); (first | rfl | (intro u_ hu_; simp only [List.mem_cons, List.not_mem_nil, or_false] at hu_; rcases hu_ with rfl | hu_; rfl) | exact byt_cell1 _ | exact cells_one _ | exact wrd_one _ | exact flat_cell1 _); (first | rfl | exact Arr.len _ | (simp; done)); rfl; (intro w_ hq_; (try simp only [List.set_cons_zero, List.set_cons_succ] at hq_); clear HH; have HH := hid hq_; clear hq_))
                | ((with_reducible apply wpL_move); rfl; rfl)
                | ((with_reducible apply wpL_assign); rfl; rfl)
                | ((with_reducible apply wpL_pick); rfl; rfl; rfl)
                | ((with_reducible apply wpL_not); rfl; rfl)
                | ((with_reducible apply wpL_cmp (b := true)); rfl; rfl; rfl; (first | rfl | assumption | (simp only [cmpB, decide_eq_true_eq, decide_eq_false_iff_not, beq_iff_eq, bne_iff_ne, ne_eq, beq_eq_false_iff_ne, bne_eq_false_iff_eq, gt_iff_lt, ge_iff_le]; omega) | (simp; omega)); rfl)
                | ((with_reducible apply wpL_cmp (b := false)); rfl; rfl; rfl; (first | rfl | assumption | (simp only [cmpB, decide_eq_true_eq, decide_eq_false_iff_not, beq_iff_eq, bne_iff_ne, ne_eq, beq_eq_false_iff_ne, bne_eq_false_iff_eq, gt_iff_lt, ge_iff_le]; omega) | (simp; omega)); rfl)
                | ((with_reducible apply wpL_cmp); rfl; rfl; rfl; rfl; rfl)
                | ((with_reducible apply wpL_arith); rfl; rfl; rfl; (exact IntWalk.i64_in _ (by (try simp only [arithI]); omega)); rfl)); (try simp only [arithI, Act.put, Act.eval, List.setIfInBounds_toArray, List.set_cons_succ, List.set_cons_zero, Array.getD_eq_getD_getElem?, List.getElem?_toArray, List.getElem?_cons_succ, List.getElem?_cons_zero, Option.getD_some])))
          have hq2_ : Holds w [] ([(g17_, twoO lv A B), (g16_, psO (psAt j a pa pa.length)), (g14_, objC ra.cells 34), (g12_, objC ra.cells 34)] ++ (g10_, twoO 0 zP zP) :: [(g8_, objC b.cells 34), (g6_, objC a.cells 34)]) [] _ := HH.out
          clear HH
          have HH := hid hq2_
          clear hq2_
          refine wp_region_F [(fun u_ => u_ = (.agg (twoCs lv A B).toArray)), (fun u_ => u_ = (.pointer (some ⟨g17_, 0 + 0, none⟩))), (fun u_ => u_ = (.int .i64 lv)), (fun u_ => u_ = (.bool (decide (0 < lv)))), (fun _ => True), (fun u_ => u_ = (.bool (decide (0 < lv))))] (StJ w [] [(g17_, twoO lv A B), (g16_, psO (psAt j a pa pa.length)), (g14_, objC ra.cells 34), (g12_, objC ra.cells 34)] [(g8_, objC b.cells 34), (g6_, objC a.cells 34)] [] g10_ (fun l => selO (l 4) (twoO 0 zP zP) (twoO lv A B))) (by kernel_rfl) (by kernel_rfl) rfl (HH.out.drew) ?_ ?_
          · refine eachD_cons ?_ (eachD_cons ?_ (eachD_cons ?_ (eachD_cons ?_ (eachD_cons ?_ (eachD_cons ?_ (eachD_nil))))))
            · intro li_ a_ w1 hc hi hJ hF hS
              have e17 : a_.eval (.tmp 17) = (.pointer (some ⟨g17_, 0, none⟩)) := (hF.2.2 17 (notDst_of (by kernel_rfl))).trans rfl
              refine wantD (by rfl) ?_
              exact ok_load kA82 hJ e17 .here (two_len _ _ _) ⟨hJ, rfl⟩
            · intro li_ a_ w1 hc hi hJ hF hS
              have e17 : a_.eval (.tmp 17) = (.pointer (some ⟨g17_, 0, none⟩)) := (hF.2.2 17 (notDst_of (by kernel_rfl))).trans rfl
              refine wantD (by rfl) ?_
              exact opF_val rfl (ex_fieldAddr kF82_0 e17 w1) hJ rfl
            · intro li_ a_ w1 hc hi hJ hF hS
              have l1 : li_ 1 = true := (hS ⟨1, .data⟩ (by simp) rfl).1
              have e62 : a_.eval (.tmp 62) = (.pointer (some ⟨g17_, 0 + 0, none⟩)) := (hS ⟨1, .data⟩ (by simp) rfl).2 _ rfl
              refine wantD (by rfl) ?_
              exact opF_val rfl (ex_load1 (cs := twoCs lv A B) (e := 82) kO3 hJ e62 .here rfl) hJ rfl
            · intro li_ a_ w1 hc hi hJ hF hS
              have l2 : li_ 2 = true := (hS ⟨2, .data⟩ (by simp) rfl).1
              have e63 : a_.eval (.tmp 63) = (.int .i64 lv) := (hS ⟨2, .data⟩ (by simp) rfl).2 _ rfl
              refine wantD (by rfl) ?_
              exact opF_val rfl (ex_cmp (b := decide (0 < lv)) rfl e63 rfl rfl w1) hJ rfl
            · intro li_ a_ w1 hc hi hJ hF hS
              have l0 : li_ 0 = true := (hS ⟨0, .data⟩ (by simp) rfl).1
              have e10 : a_.eval (.tmp 10) = (.pointer (some ⟨g10_, 0, none⟩)) := (hF.2.2 10 (notDst_of (by kernel_rfl))).trans rfl
              have e61 : a_.eval (.tmp 61) = (.agg (twoCs lv A B).toArray) := (hS ⟨0, .data⟩ (by simp) rfl).2 _ rfl
              refine wantD (by rfl) ?_
              exact stJ_store (i := 4) hJ (show selO (li_ 4) (twoO 0 zP zP) (twoO lv A B) = twoO 0 zP zP by rw [hi]; rfl) rfl (two_stB 0 lv zP zP A B) e10 e61 (by simp [Value.cells]) kS82 (two_len _ _ _) (two_one _ _ _) (by rw [two_len]; decide)
            · intro li_ a_ w1 hc hi hJ hF hS
              have l3 : li_ 3 = true := (hS ⟨3, .data⟩ (by simp) rfl).1
              have l4 : li_ 4 = true := (hS ⟨4, .chain⟩ (by simp) rfl).1
              have l0 : li_ 0 = true := (hS ⟨0, .phase⟩ (by simp) rfl).1
              have l1 : li_ 1 = true := (hS ⟨1, .phase⟩ (by simp) rfl).1
              have l2 : li_ 2 = true := (hS ⟨2, .phase⟩ (by simp) rfl).1
              have e64 : a_.eval (.tmp 64) = (.bool (decide (0 < lv))) := (hS ⟨3, .data⟩ (by simp) rfl).2 _ rfl
              refine wantD (by rfl) ?_
              exact opF_val rfl (ex_assign rfl w1) hJ e64
          intro v0_ h0_ v1_ h1_ v2_ h2_ v3_ h3_ v4_ h4_ v5_ h5_
          intro wq hq_
          have q_ : v0_ = (.agg (twoCs lv A B).toArray) := h0_; clear h0_; subst q_
          have q_ : v1_ = (.pointer (some ⟨g17_, 0 + 0, none⟩)) := h1_; clear h1_; subst q_
          have q_ : v2_ = (.int .i64 lv) := h2_; clear h2_; subst q_
          have q_ : v3_ = (.bool (decide (0 < lv))) := h3_; clear h3_; subst q_
          clear h4_
          have q_ : v5_ = (.bool (decide (0 < lv))) := h5_; clear h5_; subst q_
          have HQ := hid hq_; clear hq_
          simp only [putsD, Act.put, List.setIfInBounds_toArray, List.set_cons_succ, List.set_cons_zero]
          have hq2_ : Holds w [] [(g17_, twoO lv A B), (g16_, psO (psAt j a pa pa.length)), (g14_, objC ra.cells 34), (g12_, objC ra.cells 34), (g10_, twoO lv A B), (g8_, objC b.cells 34), (g6_, objC a.cells 34)] [] wq := HQ.out
          clear HH HQ
          have HH := hid hq2_
          clear hq2_
          go_wp2_with (first
            | ((first
                | ((with_reducible apply wpL_skip); rfl; skip)
                | ((with_reducible apply wpL_nilCheck); rfl; rfl)
                | ((with_reducible apply wpL_fieldAddr); (first | exact kF82_0); rfl; rfl)
                | ((with_reducible apply wpL_load1 (t := 3) kO3 HH.out); rfl; (first | exact .here | exact .there .here | exact .there (.there .here) | exact .there (.there (.there .here)) | exact .there (.there (.there (.there .here))) | exact .there (.there (.there (.there (.there .here)))) | exact .there (.there (.there (.there (.there (.there .here))))) | exact .there (.there (.there (.there (.there (.there (.there .here))))))); rfl; rfl)
                | ((with_reducible apply wpL_loadArr (t := 34) kA34 HH.out); rfl; (first | exact .here | exact .there .here | exact .there (.there .here) | exact .there (.there (.there .here)) | exact .there (.there (.there (.there .here))) | exact .there (.there (.there (.there (.there .here)))) | exact .there (.there (.there (.there (.there (.there .here))))) | exact .there (.there (.there (.there (.there (.there (.there .here))))))); rfl)
                | ((with_reducible apply wpL_loadC (t := 34) kA34 HH.out); rfl; (first | exact .here | exact .there .here | exact .there (.there .here) | exact .there (.there (.there .here)) | exact .there (.there (.there (.there .here))) | exact .there (.there (.there (.there (.there .here)))) | exact .there (.there (.there (.there (.there (.there .here))))) | exact .there (.there (.there (.there (.there (.there (.there .here))))))); (first | rfl | exact Arr.len _ | (simp; done)); rfl)
                | ((with_reducible apply wpL_loadC (t := 82) kA82 HH.out); rfl; (first | exact .here | exact .there .here | exact .there (.there .here) | exact .there (.there (.there .here)) | exact .there (.there (.there (.there .here))) | exact .there (.there (.there (.there (.there .here)))) | exact .there (.there (.there (.there (.there (.there .here))))) | exact .there (.there (.there (.there (.there (.there (.there .here))))))); (first | rfl | exact Arr.len _ | (simp; done)); rfl)
                | ((with_reducible apply wpL_len (t := 46) Try.underlying46); rfl; rfl)
                | ((with_reducible apply wpL_boxArr (dst := some 6)); rfl; (exact HH.out); rfl; (intro g6_ w_ hq_; (try simp only [List.set_cons_zero, List.set_cons_succ] at hq_); clear HH; have HH := hid hq_; clear hq_))
                | ((with_reducible apply wpL_boxArr (dst := some 8)); rfl; (exact HH.out); rfl; (intro g8_ w_ hq_; (try simp only [List.set_cons_zero, List.set_cons_succ] at hq_); clear HH; have HH := hid hq_; clear hq_))
                | ((with_reducible apply wpL_allocC (dst := some 10) kZ82 HH.out); rfl; (intro g10_ w_ hq_; (try simp only [List.set_cons_zero, List.set_cons_succ] at hq_); clear HH; have HH := hid hq_; clear hq_))
                | ((with_reducible apply wpL_allocC (dst := some 12) kZ34 HH.out); rfl; (intro g12_ w_ hq_; (try simp only [List.set_cons_zero, List.set_cons_succ] at hq_); clear HH; have HH := hid hq_; clear hq_))
                | ((with_reducible apply wpL_allocC (dst := some 14) kZ34 HH.out); rfl; (intro g14_ w_ hq_; (try simp only [List.set_cons_zero, List.set_cons_succ] at hq_); clear HH; have HH := hid hq_; clear hq_))
                | ((with_reducible apply wpL_allocC (dst := some 16) kZ131 HH.out); rfl; (intro g16_ w_ hq_; (try simp only [List.set_cons_zero, List.set_cons_succ] at hq_); clear HH; have HH := hid hq_; clear hq_))
                | ((with_reducible apply wpL_allocC (dst := some 17) kZ82 HH.out); rfl; (intro g17_ w_ hq_; (try simp only [List.set_cons_zero, List.set_cons_succ] at hq_); clear HH; have HH := hid hq_; clear hq_))
                | ((with_reducible apply wpL_storeArr (t := 34) kS34 HH.out); rfl; rfl; (first | exact .here | exact .there .here | exact .there (.there .here) | exact .there (.there (.there .here)) | exact .there (.there (.there (.there .here))) | exact .there (.there (.there (.there (.there .here)))) | exact .there (.there (.there (.there (.there (.there .here))))) | exact .there (.there (.there (.there (.there (.there (.there .here))))))); (first | rfl | exact Arr.len _ | (simp; done)); rfl; (intro w_ hq_; (try simp only [List.set_cons_zero, List.set_cons_succ] at hq_); clear HH; have HH := hid hq_; clear hq_))
                | ((with_reducible apply wpL_storeC (t := 34)); rfl; rfl; (exact kS34); (exact HH.out); (first | exact .here | exact .there .here | exact .there (.there .here) | exact .there (.there (.there .here)) | exact .there (.there (.there (.there .here))) | exact .there (.there (.there (.there (.there .here)))) | exact .there (.there (.there (.there (.there (.there .here))))) | exact .there (.there (.there (.there (.there (.there (.there .here))))))); (first | rfl | exact Arr.len _ | (simp; done)); (first | rfl | (intro u_ hu_; simp only [List.mem_cons, List.not_mem_nil, or_false] at hu_; rcases hu_ with rfl | hu_; rfl) | exact byt_cell1 _ | exact cells_one _ | exact wrd_one _ | exact flat_cell1 _); (first | rfl | exact Arr.len _ | (simp; done)); rfl; (intro w_ hq_; (try simp only [List.set_cons_zero, List.set_cons_succ] at hq_); clear HH; have HH := hid hq_; clear hq_))
                | ((with_reducible apply wpL_storeC (t := 82)); rfl; rfl; (exact kS82); (exact HH.out); (first | exact .here | exact .there .here | exact .there (.there .here) | exact .there (.there (.there .here)) | exact .there (.there (.there (.there .here))) | exact .there (.there (.there (.there (.there .here)))) | exact .there (.there (.there (.there (.there (.there .here))))) | exact .there (.there (.there (.there (.there (.there (.there .here))))))); (first | rfl | exact Arr.len _ | (simp; done)); (first | rfl | (intro u_ hu_; simp only [List.mem_cons, List.not_mem_nil, or_false] at hu_; rcases hu_ with rfl | hu_; rfl) | exact byt_cell1 _ | exact cells_one _ | exact wrd_one _ | exact flat_cell1 _); (first | rfl | exact Arr.len _ | (simp; done)); rfl; (intro w_ hq_; (try simp only [List.set_cons_zero, List.set_cons_succ] at hq_); clear HH; have HH := hid hq_; clear hq_))
                | ((with_reducible apply wpL_move); rfl; rfl)
                | ((with_reducible apply wpL_assign); rfl; rfl)
                | ((with_reducible apply wpL_pick); rfl; rfl; rfl)
                | ((with_reducible apply wpL_not); rfl; rfl)
                | ((with_reducible apply wpL_cmp (b := true)); rfl; rfl; rfl; (first | rfl | assumption | (simp only [cmpB, decide_eq_true_eq, decide_eq_false_iff_not, beq_iff_eq, bne_iff_ne, ne_eq, beq_eq_false_iff_ne, bne_eq_false_iff_eq, gt_iff_lt, ge_iff_le]; omega) | (simp; omega)); rfl)
                | ((with_reducible apply wpL_cmp (b := false)); rfl; rfl; rfl; (first | rfl | assumption | (simp only [cmpB, decide_eq_true_eq, decide_eq_false_iff_not, beq_iff_eq, bne_iff_ne, ne_eq, beq_eq_false_iff_ne, bne_eq_false_iff_eq, gt_iff_lt, ge_iff_le]; omega) | (simp; omega)); rfl)
                | ((with_reducible apply wpL_cmp); rfl; rfl; rfl; rfl; rfl)
                | ((with_reducible apply wpL_arith); rfl; rfl; rfl; (exact IntWalk.i64_in _ (by (try simp only [arithI]); omega)); rfl)); (try simp only [arithI, Act.put, Act.eval, List.setIfInBounds_toArray, List.set_cons_succ, List.set_cons_zero, Array.getD_eq_getD_getElem?, List.getElem?_toArray, List.getElem?_cons_succ, List.getElem?_cons_zero, Option.getD_some])))
          refine bodyPost_ret (res2 rfl (resC kA82 HH.out (by rfl) (.there (.there (.there (.there .here)))) (two_len _ _ _)) (by rfl)) rfl ?_
          exact ⟨rfl, HH.out.below⟩
        · have HNO := hid (show ¬ collOK i a pa b pb from fun h => h4 (by rw [← hra, ← hrb]; exact h.2.2.2))
          have HNE := hid (show (!(ra == rb)) = true by rw [Bool.not_eq_true', beq_eq_false_iff_ne]; exact h4)
          have hlen : ((pa.length : Int) != (pb.length : Int)) = false := by simp [h3]
          clear hea heb hra hrb h4 h3
          have hv : collV i a pa b pb = (0, zP, zP) := by unfold collV; rw [if_neg HNO.out]
          rw [hv]
          clear hv
          go_enter Try.func48, Try.ntmps48
          go_wp2_with (first
            | ((first
                | ((with_reducible apply wpL_skip); rfl; skip)
                | ((with_reducible apply wpL_allocC (dst := some 10) (zs := twoCs 0 zP zP) kZ82b HH.out); rfl; (intro g10_ w_ hq_; clear HH; have HH := hid hq_; clear hq_))
                | (go_at_call 54; (have hcall_ := hid (from_any _ (.slice ua pa.length ca) a i pa (HH.out.sl HPA.out) hna)); (with_reducible refine hcall_.out.mono ?_); clear hcall_; rw [HRA.out, HEA.out]; rintro e_ w2_ ⟨rfl, hb_⟩; (have hq_ := HH.out.grow hb_); clear HH; have HH := hid hq_; clear hq_ hb_)
                | (go_at_call 54; (have hcall_ := hid (from_any _ (.slice ub pb.length cb) b i pb (HH.out.sl HPB.out) hnb)); (with_reducible refine hcall_.out.mono ?_); clear hcall_; rw [HRB.out, HEB.out]; rintro e_ w2_ ⟨rfl, hb_⟩; (have hq_ := HH.out.grow hb_); clear HH; have HH := hid hq_; clear hq_ hb_)
                | ((with_reducible apply wpL_neqA (b := true) (p := ra) (q := rb) kR34); rfl; rfl; (exact HNE.out); rfl)
                | ((with_reducible apply wpList_build (parts := #[]) (v := .agg (twoCs 0 zP zP).toArray)); (exact BZ82); rfl)
                | ((with_reducible apply wpL_storeC (t := 82) (vs := twoCs 0 zP zP)); rfl; rfl; (exact kS82); (exact HH.out); (first | exact .there (.there .here) | exact .there (.there (.there .here))); (exact two_len _ _ _); (exact two_one _ _ _); (exact two_len _ _ _); rfl; (intro w_ hq_; clear HH; have HH := hid hq_; clear hq_))
                | ((with_reducible apply wpL_nilCheck); rfl; rfl)
                | ((with_reducible apply wpL_fieldAddr); (first | exact kF82_0); rfl; rfl)
                | ((with_reducible apply wpL_load1 (t := 3) kO3 HH.out); rfl; (first | exact .here | exact .there .here | exact .there (.there .here) | exact .there (.there (.there .here)) | exact .there (.there (.there (.there .here))) | exact .there (.there (.there (.there (.there .here)))) | exact .there (.there (.there (.there (.there (.there .here))))) | exact .there (.there (.there (.there (.there (.there (.there .here))))))); rfl; rfl)
                | ((with_reducible apply wpL_loadArr (t := 34) kA34 HH.out); rfl; (first | exact .here | exact .there .here | exact .there (.there .here) | exact .there (.there (.there .here)) | exact .there (.there (.there (.there .here))) | exact .there (.there (.there (.there (.there .here)))) | exact .there (.there (.there (.there (.there (.there .here))))) | exact .there (.there (.there (.there (.there (.there (.there .here))))))); rfl)
                | ((with_reducible apply wpL_loadC (t := 34) kA34 HH.out); rfl; (first | exact .here | exact .there .here | exact .there (.there .here) | exact .there (.there (.there .here)) | exact .there (.there (.there (.there .here))) | exact .there (.there (.there (.there (.there .here)))) | exact .there (.there (.there (.there (.there (.there .here))))) | exact .there (.there (.there (.there (.there (.there (.there .here))))))); (first | rfl | exact Arr.len _ | (simp; done)); rfl)
                | ((with_reducible apply wpL_loadC (t := 82) kA82 HH.out); rfl; (first | exact .here | exact .there .here | exact .there (.there .here) | exact .there (.there (.there .here)) | exact .there (.there (.there (.there .here))) | exact .there (.there (.there (.there (.there .here)))) | exact .there (.there (.there (.there (.there (.there .here))))) | exact .there (.there (.there (.there (.there (.there (.there .here))))))); (first | rfl | exact Arr.len _ | (simp; done)); rfl)
                | ((with_reducible apply wpL_len (t := 46) Try.underlying46); rfl; rfl)
                | ((with_reducible apply wpL_boxArr (dst := some 6)); rfl; (exact HH.out); rfl; (intro g6_ w_ hq_; (try simp only [List.set_cons_zero, List.set_cons_succ] at hq_); clear HH; have HH := hid hq_; clear hq_))
                | ((with_reducible apply wpL_boxArr (dst := some 8)); rfl; (exact HH.out); rfl; (intro g8_ w_ hq_; (try simp only [List.set_cons_zero, List.set_cons_succ] at hq_); clear HH; have HH := hid hq_; clear hq_))
                | ((with_reducible apply wpL_allocC (dst := some 10) kZ82 HH.out); rfl; (intro g10_ w_ hq_; (try simp only [List.set_cons_zero, List.set_cons_succ] at hq_); clear HH; have HH := hid hq_; clear hq_))
                | ((with_reducible apply wpL_allocC (dst := some 12) kZ34 HH.out); rfl; (intro g12_ w_ hq_; (try simp only [List.set_cons_zero, List.set_cons_succ] at hq_); clear HH; have HH := hid hq_; clear hq_))
                | ((with_reducible apply wpL_allocC (dst := some 14) kZ34 HH.out); rfl; (intro g14_ w_ hq_; (try simp only [List.set_cons_zero, List.set_cons_succ] at hq_); clear HH; have HH := hid hq_; clear hq_))
                | ((with_reducible apply wpL_allocC (dst := some 16) kZ131 HH.out); rfl; (intro g16_ w_ hq_; (try simp only [List.set_cons_zero, List.set_cons_succ] at hq_); clear HH; have HH := hid hq_; clear hq_))
                | ((with_reducible apply wpL_allocC (dst := some 17) kZ82 HH.out); rfl; (intro g17_ w_ hq_; (try simp only [List.set_cons_zero, List.set_cons_succ] at hq_); clear HH; have HH := hid hq_; clear hq_))
                | ((with_reducible apply wpL_storeArr (t := 34) kS34 HH.out); rfl; rfl; (first | exact .here | exact .there .here | exact .there (.there .here) | exact .there (.there (.there .here)) | exact .there (.there (.there (.there .here))) | exact .there (.there (.there (.there (.there .here)))) | exact .there (.there (.there (.there (.there (.there .here))))) | exact .there (.there (.there (.there (.there (.there (.there .here))))))); (first | rfl | exact Arr.len _ | (simp; done)); rfl; (intro w_ hq_; (try simp only [List.set_cons_zero, List.set_cons_succ] at hq_); clear HH; have HH := hid hq_; clear hq_))
                | ((with_reducible apply wpL_storeC (t := 34)); rfl; rfl; (exact kS34); (exact HH.out); (first | exact .here | exact .there .here | exact .there (.there .here) | exact .there (.there (.there .here)) | exact .there (.there (.there (.there .here))) | exact .there (.there (.there (.there (.there .here)))) | exact .there (.there (.there (.there (.there (.there .here))))) | exact .there (.there (.there (.there (.there (.there (.there .here))))))); (first | rfl | exact Arr.len _ | (simp; done)); (first | rfl | (intro u_ hu_; simp only [List.mem_cons, List.not_mem_nil, or_false] at hu_; rcases hu_ with rfl | hu_; rfl) | exact byt_cell1 _ | exact cells_one _ | exact wrd_one _ | exact flat_cell1 _); (first | rfl | exact Arr.len _ | (simp; done)); rfl; (intro w_ hq_; (try simp only [List.set_cons_zero, List.set_cons_succ] at hq_); clear HH; have HH := hid hq_; clear hq_))
                | ((with_reducible apply wpL_storeC (t := 82)); rfl; rfl; (exact kS82); (exact HH.out); (first | exact .here | exact .there .here | exact .there (.there .here) | exact .there (.there (.there .here)) | exact .there (.there (.there (.there .here))) | exact .there (.there (.there (.there (.there .here)))) | exact .there (.there (.there (.there (.there (.there .here))))) | exact .there (.there (.there (.there (.there (.there (.there .here))))))); (first | rfl | exact Arr.len _ | (simp; done)); (first | rfl | (intro u_ hu_; simp only [List.mem_cons, List.not_mem_nil, or_false] at hu_; rcases hu_ with rfl | hu_; rfl) | exact byt_cell1 _ | exact cells_one _ | exact wrd_one _ | exact flat_cell1 _); (first | rfl | exact Arr.len _ | (simp; done)); rfl; (intro w_ hq_; (try simp only [List.set_cons_zero, List.set_cons_succ] at hq_); clear HH; have HH := hid hq_; clear hq_))
                | ((with_reducible apply wpL_move); rfl; rfl)
                | ((with_reducible apply wpL_assign); rfl; rfl)
                | ((with_reducible apply wpL_pick); rfl; rfl; rfl)
                | ((with_reducible apply wpL_not); rfl; rfl)
                | ((with_reducible apply wpL_cmp (b := true)); rfl; rfl; rfl; (first | rfl | assumption | (simp only [cmpB, decide_eq_true_eq, decide_eq_false_iff_not, beq_iff_eq, bne_iff_ne, ne_eq, beq_eq_false_iff_ne, bne_eq_false_iff_eq, gt_iff_lt, ge_iff_le]; omega) | (simp; omega)); rfl)
                | ((with_reducible apply wpL_cmp (b := false)); rfl; rfl; rfl; (first | rfl | assumption | (simp only [cmpB, decide_eq_true_eq, decide_eq_false_iff_not, beq_iff_eq, bne_iff_ne, ne_eq, beq_eq_false_iff_ne, bne_eq_false_iff_eq, gt_iff_lt, ge_iff_le]; omega) | (simp; omega)); rfl)
                | ((with_reducible apply wpL_cmp); rfl; rfl; rfl; rfl; rfl)
                | ((with_reducible apply wpL_arith); rfl; rfl; rfl; (exact IntWalk.i64_in _ (by (try simp only [arithI]); omega)); rfl)); (try simp only [arithI, Act.put, Act.eval, List.setIfInBounds_toArray, List.set_cons_succ, List.set_cons_zero, Array.getD_eq_getD_getElem?, List.getElem?_toArray, List.getElem?_cons_succ, List.getElem?_cons_zero, Option.getD_some])))
          refine bodyPost_ret (res2 rfl (resC kA82 HH.out (by rfl) (.there (.there .here)) (two_len _ _ _)) (by rfl)) rfl ?_
          exact ⟨rfl, HH.out.below⟩
      · have HNO := hid (show ¬ collOK i a pa b pb from fun h => h3 h.2.2.1)
        have HNE := hid trivial
        have hlen : ((pa.length : Int) != (pb.length : Int)) = true := by simp; omega
        clear hea heb hra hrb h3
        have hv : collV i a pa b pb = (0, zP, zP) := by unfold collV; rw [if_neg HNO.out]
        rw [hv]
        clear hv
        go_enter Try.func48, Try.ntmps48
        go_wp2_with (first
          | ((first
              | ((with_reducible apply wpL_skip); rfl; skip)
              | ((with_reducible apply wpL_allocC (dst := some 10) (zs := twoCs 0 zP zP) kZ82b HH.out); rfl; (intro g10_ w_ hq_; clear HH; have HH := hid hq_; clear hq_))
              | (go_at_call 54; (have hcall_ := hid (from_any _ (.slice ua pa.length ca) a i pa (HH.out.sl HPA.out) hna)); (with_reducible refine hcall_.out.mono ?_); clear hcall_; rw [HRA.out, HEA.out]; rintro e_ w2_ ⟨rfl, hb_⟩; (have hq_ := HH.out.grow hb_); clear HH; have HH := hid hq_; clear hq_ hb_)
              | (go_at_call 54; (have hcall_ := hid (from_any _ (.slice ub pb.length cb) b i pb (HH.out.sl HPB.out) hnb)); (with_reducible refine hcall_.out.mono ?_); clear hcall_; rw [HRB.out, HEB.out]; rintro e_ w2_ ⟨rfl, hb_⟩; (have hq_ := HH.out.grow hb_); clear HH; have HH := hid hq_; clear hq_ hb_)
              | ((with_reducible apply wpL_neqA (b := true) (p := ra) (q := rb) kR34); rfl; rfl; (exact HNE.out); rfl)
              | ((with_reducible apply wpList_build (parts := #[]) (v := .agg (twoCs 0 zP zP).toArray)); (exact BZ82); rfl)
              | ((with_reducible apply wpL_storeC (t := 82) (vs := twoCs 0 zP zP)); rfl; rfl; (exact kS82); (exact HH.out); (first | exact .there (.there .here) | exact .there (.there (.there .here))); (exact two_len _ _ _); (exact two_one _ _ _); (exact two_len _ _ _); rfl; (intro w_ hq_; clear HH; have HH := hid hq_; clear hq_))
              | ((with_reducible apply wpL_nilCheck); rfl; rfl)
              | ((with_reducible apply wpL_fieldAddr); (first | exact kF82_0); rfl; rfl)
              | ((with_reducible apply wpL_load1 (t := 3) kO3 HH.out); rfl; (first | exact .here | exact .there .here | exact .there (.there .here) | exact .there (.there (.there .here)) | exact .there (.there (.there (.there .here))) | exact .there (.there (.there (.there (.there .here)))) | exact .there (.there (.there (.there (.there (.there .here))))) | exact .there (.there (.there (.there (.there (.there (.there .here))))))); rfl; rfl)
              | ((with_reducible apply wpL_loadArr (t := 34) kA34 HH.out); rfl; (first | exact .here | exact .there .here | exact .there (.there .here) | exact .there (.there (.there .here)) | exact .there (.there (.there (.there .here))) | exact .there (.there (.there (.there (.there .here)))) | exact .there (.there (.there (.there (.there (.there .here))))) | exact .there (.there (.there (.there (.there (.there (.there .here))))))); rfl)
              | ((with_reducible apply wpL_loadC (t := 34) kA34 HH.out); rfl; (first | exact .here | exact .there .here | exact .there (.there .here) | exact .there (.there (.there .here)) | exact .there (.there (.there (.there .here))) | exact .there (.there (.there (.there (.there .here)))) | exact .there (.there (.there (.there (.there (.there .here))))) | exact .there (.there (.there (.there (.there (.there (.there .here))))))); (first | rfl | exact Arr.len _ | (simp; done)); rfl)
              | ((with_reducible apply wpL_loadC (t := 82) kA82 HH.out); rfl; (first | exact .here | exact .there .here | exact .there (.there .here) | exact .there (.there (.there .here)) | exact .there (.there (.there (.there .here))) | exact .there (.there (.there (.there (.there .here)))) | exact .there (.there (.there (.there (.there (.there .here))))) | exact .there (.there (.there (.there (.there (.there (.there .here))))))); (first | rfl | exact Arr.len _ | (simp; done)); rfl)
              | ((with_reducible apply wpL_len (t := 46) Try.underlying46); rfl; rfl)
              | ((with_reducible apply wpL_boxArr (dst := some 6)); rfl; (exact HH.out); rfl; (intro g6_ w_ hq_; (try simp only [List.set_cons_zero, List.set_cons_succ] at hq_); clear HH; have HH := hid hq_; clear hq_))
              | ((with_reducible apply wpL_boxArr (dst := some 8)); rfl; (exact HH.out); rfl; (intro g8_ w_ hq_; (try simp only [List.set_cons_zero, List.set_cons_succ] at hq_); clear HH; have HH := hid hq_; clear hq_))
              | ((with_reducible apply wpL_allocC (dst := some 10) kZ82 HH.out); rfl; (intro g10_ w_ hq_; (try simp only [List.set_cons_zero, List.set_cons_succ] at hq_); clear HH; have HH := hid hq_; clear hq_))
              | ((with_reducible apply wpL_allocC (dst := some 12) kZ34 HH.out); rfl; (intro g12_ w_ hq_; (try simp only [List.set_cons_zero, List.set_cons_succ] at hq_); clear HH; have HH := hid hq_; clear hq_))
              | ((with_reducible apply wpL_allocC (dst := some 14) kZ34 HH.out); rfl; (intro g14_ w_ hq_; (try simp only [List.set_cons_zero, List.set_cons_succ] at hq_); clear HH; have HH := hid hq_; clear hq_))
              | ((with_reducible apply wpL_allocC (dst := some 16) kZ131 HH.out); rfl; (intro g16_ w_ hq_; (try simp only [List.set_cons_zero, List.set_cons_succ] at hq_); clear HH; have HH := hid hq_; clear hq_))
              | ((with_reducible apply wpL_allocC (dst := some 17) kZ82 HH.out); rfl; (intro g17_ w_ hq_; (try simp only [List.set_cons_zero, List.set_cons_succ] at hq_); clear HH; have HH := hid hq_; clear hq_))
              | ((with_reducible apply wpL_storeArr (t := 34) kS34 HH.out); rfl; rfl; (first | exact .here | exact .there .here | exact .there (.there .here) | exact .there (.there (.there .here)) | exact .there (.there (.there (.there .here))) | exact .there (.there (.there (.there (.there .here)))) | exact .there (.there (.there (.there (.there (.there .here))))) | exact .there (.there (.there (.there (.there (.there (.there .here))))))); (first | rfl | exact Arr.len _ | (simp; done)); rfl; (intro w_ hq_; (try simp only [List.set_cons_zero, List.set_cons_succ] at hq_); clear HH; have HH := hid hq_; clear hq_))
              | ((with_reducible apply wpL_storeC (t := 34)); rfl; rfl; (exact kS34); (exact HH.out); (first | exact .here | exact .there .here | exact .there (.there .here) | exact .there (.there (.there .here)) | exact .there (.there (.there (.there .here))) | exact .there (.there (.there (.there (.there .here)))) | exact .there (.there (.there (.there (.there (.there .here))))) | exact .there (.there (.there (.there (.there (.there (.there .here))))))); (first | rfl | exact Arr.len _ | (simp; done)); (first | rfl | (intro u_ hu_; simp only [List.mem_cons, List.not_mem_nil, or_false] at hu_; rcases hu_ with rfl | hu_; rfl) | exact byt_cell1 _ | exact cells_one _ | exact wrd_one _ | exact flat_cell1 _); (first | rfl | exact Arr.len _ | (simp; done)); rfl; (intro w_ hq_; (try simp only [List.set_cons_zero, List.set_cons_succ] at hq_); clear HH; have HH := hid hq_; clear hq_))
              | ((with_reducible apply wpL_storeC (t := 82)); rfl; rfl; (exact kS82); (exact HH.out); (first | exact .here | exact .there .here | exact .there (.there .here) | exact .there (.there (.there .here)) | exact .there (.there (.there (.there .here))) | exact .there (.there (.there (.there (.there .here)))) | exact .there (.there (.there (.there (.there (.there .here))))) | exact .there (.there (.there (.there (.there (.there (.there .here))))))); (first | rfl | exact Arr.len _ | (simp; done)); (first | rfl | (intro u_ hu_; simp only [List.mem_cons, List.not_mem_nil, or_false] at hu_; rcases hu_ with rfl | hu_; rfl) | exact byt_cell1 _ | exact cells_one _ | exact wrd_one _ | exact flat_cell1 _); (first | rfl | exact Arr.len _ | (simp; done)); rfl; (intro w_ hq_; (try simp only [List.set_cons_zero, List.set_cons_succ] at hq_); clear HH; have HH := hid hq_; clear hq_))
              | ((with_reducible apply wpL_move); rfl; rfl)
              | ((with_reducible apply wpL_assign); rfl; rfl)
              | ((with_reducible apply wpL_pick); rfl; rfl; rfl)
              | ((with_reducible apply wpL_not); rfl; rfl)
              | ((with_reducible apply wpL_cmp (b := true)); rfl; rfl; rfl; (first | rfl | assumption | (simp only [cmpB, decide_eq_true_eq, decide_eq_false_iff_not, beq_iff_eq, bne_iff_ne, ne_eq, beq_eq_false_iff_ne, bne_eq_false_iff_eq, gt_iff_lt, ge_iff_le]; omega) | (simp; omega)); rfl)
              | ((with_reducible apply wpL_cmp (b := false)); rfl; rfl; rfl; (first | rfl | assumption | (simp only [cmpB, decide_eq_true_eq, decide_eq_false_iff_not, beq_iff_eq, bne_iff_ne, ne_eq, beq_eq_false_iff_ne, bne_eq_false_iff_eq, gt_iff_lt, ge_iff_le]; omega) | (simp; omega)); rfl)
              | ((with_reducible apply wpL_cmp); rfl; rfl; rfl; rfl; rfl)
              | ((with_reducible apply wpL_arith); rfl; rfl; rfl; (exact IntWalk.i64_in _ (by (try simp only [arithI]); omega)); rfl)); (try simp only [arithI, Act.put, Act.eval, List.setIfInBounds_toArray, List.set_cons_succ, List.set_cons_zero, Array.getD_eq_getD_getElem?, List.getElem?_toArray, List.getElem?_cons_succ, List.getElem?_cons_zero, Option.getD_some])))
        refine bodyPost_ret (res2 rfl (resC kA82 HH.out (by rfl) (.there (.there .here)) (two_len _ _ _)) (by rfl)) rfl ?_
        exact ⟨rfl, HH.out.below⟩
    · have HNO := hid (show ¬ collOK i a pa b pb from fun h => h2 (by rw [← heb]; exact h.2.1))
      have HNE := hid trivial
      have h2b : ((eb : Int) != 0) = true := by simpa using h2
      clear hea heb hra hrb h2
      have hv : collV i a pa b pb = (0, zP, zP) := by unfold collV; rw [if_neg HNO.out]
      rw [hv]
      clear hv
      go_enter Try.func48, Try.ntmps48
      go_wp2_with (first
        | ((first
            | ((with_reducible apply wpL_skip); rfl; skip)
            | ((with_reducible apply wpL_allocC (dst := some 10) (zs := twoCs 0 zP zP) kZ82b HH.out); rfl; (intro g10_ w_ hq_; clear HH; have HH := hid hq_; clear hq_))
            | (go_at_call 54; (have hcall_ := hid (from_any _ (.slice ua pa.length ca) a i pa (HH.out.sl HPA.out) hna)); (with_reducible refine hcall_.out.mono ?_); clear hcall_; rw [HRA.out, HEA.out]; rintro e_ w2_ ⟨rfl, hb_⟩; (have hq_ := HH.out.grow hb_); clear HH; have HH := hid hq_; clear hq_ hb_)
            | (go_at_call 54; (have hcall_ := hid (from_any _ (.slice ub pb.length cb) b i pb (HH.out.sl HPB.out) hnb)); (with_reducible refine hcall_.out.mono ?_); clear hcall_; rw [HRB.out, HEB.out]; rintro e_ w2_ ⟨rfl, hb_⟩; (have hq_ := HH.out.grow hb_); clear HH; have HH := hid hq_; clear hq_ hb_)
            | ((with_reducible apply wpL_neqA (b := true) (p := ra) (q := rb) kR34); rfl; rfl; (exact HNE.out); rfl)
            | ((with_reducible apply wpList_build (parts := #[]) (v := .agg (twoCs 0 zP zP).toArray)); (exact BZ82); rfl)
            | ((with_reducible apply wpL_storeC (t := 82) (vs := twoCs 0 zP zP)); rfl; rfl; (exact kS82); (exact HH.out); (first | exact .there (.there .here) | exact .there (.there (.there .here))); (exact two_len _ _ _); (exact two_one _ _ _); (exact two_len _ _ _); rfl; (intro w_ hq_; clear HH; have HH := hid hq_; clear hq_))
            | ((with_reducible apply wpL_nilCheck); rfl; rfl)
            | ((with_reducible apply wpL_fieldAddr); (first | exact kF82_0); rfl; rfl)
            | ((with_reducible apply wpL_load1 (t := 3) kO3 HH.out); rfl; (first | exact .here | exact .there .here | exact .there (.there .here) | exact .there (.there (.there .here)) | exact .there (.there (.there (.there .here))) | exact .there (.there (.there (.there (.there .here)))) | exact .there (.there (.there (.there (.there (.there .here))))) | exact .there (.there (.there (.there (.there (.there (.there .here))))))); rfl; rfl)
            | ((with_reducible apply wpL_loadArr (t := 34) kA34 HH.out); rfl; (first | exact .here | exact .there .here | exact .there (.there .here) | exact .there (.there (.there .here)) | exact .there (.there (.there (.there .here))) | exact .there (.there (.there (.there (.there .here)))) | exact .there (.there (.there (.there (.there (.there .here))))) | exact .there (.there (.there (.there (.there (.there (.there .here))))))); rfl)
            | ((with_reducible apply wpL_loadC (t := 34) kA34 HH.out); rfl; (first | exact .here | exact .there .here | exact .there (.there .here) | exact .there (.there (.there .here)) | exact .there (.there (.there (.there .here))) | exact .there (.there (.there (.there (.there .here)))) | exact .there (.there (.there (.there (.there (.there .here))))) | exact .there (.there (.there (.there (.there (.there (.there .here))))))); (first | rfl | exact Arr.len _ | (simp; done)); rfl)
            | ((with_reducible apply wpL_loadC (t := 82) kA82 HH.out); rfl; (first | exact .here | exact .there .here | exact .there (.there .here) | exact .there (.there (.there .here)) | exact .there (.there (.there (.there .here))) | exact .there (.there (.there (.there (.there .here)))) | exact .there (.there (.there (.there (.there (.there .here))))) | exact .there (.there (.there (.there (.there (.there (.there .here))))))); (first | rfl | exact Arr.len _ | (simp; done)); rfl)
            | ((with_reducible apply wpL_len (t := 46) Try.underlying46); rfl; rfl)
            | ((with_reducible apply wpL_boxArr (dst := some 6)); rfl; (exact HH.out); rfl; (intro g6_ w_ hq_; (try simp only [List.set_cons_zero, List.set_cons_succ] at hq_); clear HH; have HH := hid hq_; clear hq_))
            | ((with_reducible apply wpL_boxArr (dst := some 8)); rfl; (exact HH.out); rfl; (intro g8_ w_ hq_; (try simp only [List.set_cons_zero, List.set_cons_succ] at hq_); clear HH; have HH := hid hq_; clear hq_))
            | ((with_reducible apply wpL_allocC (dst := some 10) kZ82 HH.out); rfl; (intro g10_ w_ hq_; (try simp only [List.set_cons_zero, List.set_cons_succ] at hq_); clear HH; have HH := hid hq_; clear hq_))
            | ((with_reducible apply wpL_allocC (dst := some 12) kZ34 HH.out); rfl; (intro g12_ w_ hq_; (try simp only [List.set_cons_zero, List.set_cons_succ] at hq_); clear HH; have HH := hid hq_; clear hq_))
            | ((with_reducible apply wpL_allocC (dst := some 14) kZ34 HH.out); rfl; (intro g14_ w_ hq_; (try simp only [List.set_cons_zero, List.set_cons_succ] at hq_); clear HH; have HH := hid hq_; clear hq_))
            | ((with_reducible apply wpL_allocC (dst := some 16) kZ131 HH.out); rfl; (intro g16_ w_ hq_; (try simp only [List.set_cons_zero, List.set_cons_succ] at hq_); clear HH; have HH := hid hq_; clear hq_))
            | ((with_reducible apply wpL_allocC (dst := some 17) kZ82 HH.out); rfl; (intro g17_ w_ hq_; (try simp only [List.set_cons_zero, List.set_cons_succ] at hq_); clear HH; have HH := hid hq_; clear hq_))
            | ((with_reducible apply wpL_storeArr (t := 34) kS34 HH.out); rfl; rfl; (first | exact .here | exact .there .here | exact .there (.there .here) | exact .there (.there (.there .here)) | exact .there (.there (.there (.there .here))) | exact .there (.there (.there (.there (.there .here)))) | exact .there (.there (.there (.there (.there (.there .here))))) | exact .there (.there (.there (.there (.there (.there (.there .here))))))); (first | rfl | exact Arr.len _ | (simp; done)); rfl; (intro w_ hq_; (try simp only [List.set_cons_zero, List.set_cons_succ] at hq_); clear HH; have HH := hid hq_; clear hq_))
            | ((with_reducible apply wpL_storeC (t := 34)); rfl; rfl; (exact kS34); (exact HH.out); (first | exact .here | exact .there .here | exact .there (.there .here) | exact .there (.there (.there .here)) | exact .there (.there (.there (.there .here))) | exact .there (.there (.there (.there (.there .here)))) | exact .there (.there (.there (.there (.there (.there .here))))) | exact .there (.there (.there (.there (.there (.there (.there .here))))))); (first | rfl | exact Arr.len _ | (simp; done)); (first | rfl | (intro u_ hu_; simp only [List.mem_cons, List.not_mem_nil, or_false] at hu_; rcases hu_ with rfl | hu_; rfl) | exact byt_cell1 _ | exact cells_one _ | exact wrd_one _ | exact flat_cell1 _); (first | rfl | exact Arr.len _ | (simp; done)); rfl; (intro w_ hq_; (try simp only [List.set_cons_zero, List.set_cons_succ] at hq_); clear HH; have HH := hid hq_; clear hq_))
            | ((with_reducible apply wpL_storeC (t := 82)); rfl; rfl; (exact kS82); (exact HH.out); (first | exact .here | exact .there .here | exact .there (.there .here) | exact .there (.there (.there .here)) | exact .there (.there (.there (.there .here))) | exact .there (.there (.there (.there (.there .here)))) | exact .there (.there (.there (.there (.there (.there .here))))) | exact .there (.there (.there (.there (.there (.there (.there .here))))))); (first | rfl | exact Arr.len _ | (simp; done)); (first | rfl | (intro u_ hu_; simp only [List.mem_cons, List.not_mem_nil, or_false] at hu_; rcases hu_ with rfl | hu_; rfl) | exact byt_cell1 _ | exact cells_one _ | exact wrd_one _ | exact flat_cell1 _); (first | rfl | exact Arr.len _ | (simp; done)); rfl; (intro w_ hq_; (try simp only [List.set_cons_zero, List.set_cons_succ] at hq_); clear HH; have HH := hid hq_; clear hq_))
            | ((with_reducible apply wpL_move); rfl; rfl)
            | ((with_reducible apply wpL_assign); rfl; rfl)
            | ((with_reducible apply wpL_pick); rfl; rfl; rfl)
            | ((with_reducible apply wpL_not); rfl; rfl)
            | ((with_reducible apply wpL_cmp (b := true)); rfl; rfl; rfl; (first | rfl | assumption | (simp only [cmpB, decide_eq_true_eq, decide_eq_false_iff_not, beq_iff_eq, bne_iff_ne, ne_eq, beq_eq_false_iff_ne, bne_eq_false_iff_eq, gt_iff_lt, ge_iff_le]; omega) | (simp; omega)); rfl)
            | ((with_reducible apply wpL_cmp (b := false)); rfl; rfl; rfl; (first | rfl | assumption | (simp only [cmpB, decide_eq_true_eq, decide_eq_false_iff_not, beq_iff_eq, bne_iff_ne, ne_eq, beq_eq_false_iff_ne, bne_eq_false_iff_eq, gt_iff_lt, ge_iff_le]; omega) | (simp; omega)); rfl)
            | ((with_reducible apply wpL_cmp); rfl; rfl; rfl; rfl; rfl)
            | ((with_reducible apply wpL_arith); rfl; rfl; rfl; (exact IntWalk.i64_in _ (by (try simp only [arithI]); omega)); rfl)); (try simp only [arithI, Act.put, Act.eval, List.setIfInBounds_toArray, List.set_cons_succ, List.set_cons_zero, Array.getD_eq_getD_getElem?, List.getElem?_toArray, List.getElem?_cons_succ, List.getElem?_cons_zero, Option.getD_some])))
      refine bodyPost_ret (res2 rfl (resC kA82 HH.out (by rfl) (.there (.there .here)) (two_len _ _ _)) (by rfl)) rfl ?_
      exact ⟨rfl, HH.out.below⟩
  · have HNO := hid (show ¬ collOK i a pa b pb from fun h => h1 (by rw [← hea]; exact h.1))
    have HNE := hid trivial
    have h1b : ((ea : Int) != 0) = true := by simpa using h1
    clear hea heb hra hrb h1
    have hv : collV i a pa b pb = (0, zP, zP) := by unfold collV; rw [if_neg HNO.out]
    rw [hv]
    clear hv
    go_enter Try.func48, Try.ntmps48
    go_wp2_with (first
      | ((first
          | ((with_reducible apply wpL_skip); rfl; skip)
          | ((with_reducible apply wpL_allocC (dst := some 10) (zs := twoCs 0 zP zP) kZ82b HH.out); rfl; (intro g10_ w_ hq_; clear HH; have HH := hid hq_; clear hq_))
          | (go_at_call 54; (have hcall_ := hid (from_any _ (.slice ua pa.length ca) a i pa (HH.out.sl HPA.out) hna)); (with_reducible refine hcall_.out.mono ?_); clear hcall_; rw [HRA.out, HEA.out]; rintro e_ w2_ ⟨rfl, hb_⟩; (have hq_ := HH.out.grow hb_); clear HH; have HH := hid hq_; clear hq_ hb_)
          | (go_at_call 54; (have hcall_ := hid (from_any _ (.slice ub pb.length cb) b i pb (HH.out.sl HPB.out) hnb)); (with_reducible refine hcall_.out.mono ?_); clear hcall_; rw [HRB.out, HEB.out]; rintro e_ w2_ ⟨rfl, hb_⟩; (have hq_ := HH.out.grow hb_); clear HH; have HH := hid hq_; clear hq_ hb_)
          | ((with_reducible apply wpL_neqA (b := true) (p := ra) (q := rb) kR34); rfl; rfl; (exact HNE.out); rfl)
          | ((with_reducible apply wpList_build (parts := #[]) (v := .agg (twoCs 0 zP zP).toArray)); (exact BZ82); rfl)
          | ((with_reducible apply wpL_storeC (t := 82) (vs := twoCs 0 zP zP)); rfl; rfl; (exact kS82); (exact HH.out); (first | exact .there (.there .here) | exact .there (.there (.there .here))); (exact two_len _ _ _); (exact two_one _ _ _); (exact two_len _ _ _); rfl; (intro w_ hq_; clear HH; have HH := hid hq_; clear hq_))
          | ((with_reducible apply wpL_nilCheck); rfl; rfl)
          | ((with_reducible apply wpL_fieldAddr); (first | exact kF82_0); rfl; rfl)
          | ((with_reducible apply wpL_load1 (t := 3) kO3 HH.out); rfl; (first | exact .here | exact .there .here | exact .there (.there .here) | exact .there (.there (.there .here)) | exact .there (.there (.there (.there .here))) | exact .there (.there (.there (.there (.there .here)))) | exact .there (.there (.there (.there (.there (.there .here))))) | exact .there (.there (.there (.there (.there (.there (.there .here))))))); rfl; rfl)
          | ((with_reducible apply wpL_loadArr (t := 34) kA34 HH.out); rfl; (first | exact .here | exact .there .here | exact .there (.there .here) | exact .there (.there (.there .here)) | exact .there (.there (.there (.there .here))) | exact .there (.there (.there (.there (.there .here)))) | exact .there (.there (.there (.there (.there (.there .here))))) | exact .there (.there (.there (.there (.there (.there (.there .here))))))); rfl)
          | ((with_reducible apply wpL_loadC (t := 34) kA34 HH.out); rfl; (first | exact .here | exact .there .here | exact .there (.there .here) | exact .there (.there (.there .here)) | exact .there (.there (.there (.there .here))) | exact .there (.there (.there (.there (.there .here)))) | exact .there (.there (.there (.there (.there (.there .here))))) | exact .there (.there (.there (.there (.there (.there (.there .here))))))); (first | rfl | exact Arr.len _ | (simp; done)); rfl)
          | ((with_reducible apply wpL_loadC (t := 82) kA82 HH.out); rfl; (first | exact .here | exact .there .here | exact .there (.there .here) | exact .there (.there (.there .here)) | exact .there (.there (.there (.there .here))) | exact .there (.there (.there (.there (.there .here)))) | exact .there (.there (.there (.there (.there (.there .here))))) | exact .there (.there (.there (.there (.there (.there (.there .here))))))); (first | rfl | exact Arr.len _ | (simp; done)); rfl)
          | ((with_reducible apply wpL_len (t := 46) Try.underlying46); rfl; rfl)
          | ((with_reducible apply wpL_boxArr (dst := some 6)); rfl; (exact HH.out); rfl; (intro g6_ w_ hq_; (try simp only [List.set_cons_zero, List.set_cons_succ] at hq_); clear HH; have HH := hid hq_; clear hq_))
          | ((with_reducible apply wpL_boxArr (dst := some 8)); rfl; (exact HH.out); rfl; (intro g8_ w_ hq_; (try simp only [List.set_cons_zero, List.set_cons_succ] at hq_); clear HH; have HH := hid hq_; clear hq_))
          | ((with_reducible apply wpL_allocC (dst := some 10) kZ82 HH.out); rfl; (intro g10_ w_ hq_; (try simp only [List.set_cons_zero, List.set_cons_succ] at hq_); clear HH; have HH := hid hq_; clear hq_))
          | ((with_reducible apply wpL_allocC (dst := some 12) kZ34 HH.out); rfl; (intro g12_ w_ hq_; (try simp only [List.set_cons_zero, List.set_cons_succ] at hq_); clear HH; have HH := hid hq_; clear hq_))
          | ((with_reducible apply wpL_allocC (dst := some 14) kZ34 HH.out); rfl; (intro g14_ w_ hq_; (try simp only [List.set_cons_zero, List.set_cons_succ] at hq_); clear HH; have HH := hid hq_; clear hq_))
          | ((with_reducible apply wpL_allocC (dst := some 16) kZ131 HH.out); rfl; (intro g16_ w_ hq_; (try simp only [List.set_cons_zero, List.set_cons_succ] at hq_); clear HH; have HH := hid hq_; clear hq_))
          | ((with_reducible apply wpL_allocC (dst := some 17) kZ82 HH.out); rfl; (intro g17_ w_ hq_; (try simp only [List.set_cons_zero, List.set_cons_succ] at hq_); clear HH; have HH := hid hq_; clear hq_))
          | ((with_reducible apply wpL_storeArr (t := 34) kS34 HH.out); rfl; rfl; (first | exact .here | exact .there .here | exact .there (.there .here) | exact .there (.there (.there .here)) | exact .there (.there (.there (.there .here))) | exact .there (.there (.there (.there (.there .here)))) | exact .there (.there (.there (.there (.there (.there .here))))) | exact .there (.there (.there (.there (.there (.there (.there .here))))))); (first | rfl | exact Arr.len _ | (simp; done)); rfl; (intro w_ hq_; (try simp only [List.set_cons_zero, List.set_cons_succ] at hq_); clear HH; have HH := hid hq_; clear hq_))
          | ((with_reducible apply wpL_storeC (t := 34)); rfl; rfl; (exact kS34); (exact HH.out); (first | exact .here | exact .there .here | exact .there (.there .here) | exact .there (.there (.there .here)) | exact .there (.there (.there (.there .here))) | exact .there (.there (.there (.there (.there .here)))) | exact .there (.there (.there (.there (.there (.there .here))))) | exact .there (.there (.there (.there (.there (.there (.there .here))))))); (first | rfl | exact Arr.len _ | (simp; done)); (first | rfl | (intro u_ hu_; simp only [List.mem_cons, List.not_mem_nil, or_false] at hu_; rcases hu_ with rfl | hu_; rfl) | exact byt_cell1 _ | exact cells_one _ | exact wrd_one _ | exact flat_cell1 _); (first | rfl | exact Arr.len _ | (simp; done)); rfl; (intro w_ hq_; (try simp only [List.set_cons_zero, List.set_cons_succ] at hq_); clear HH; have HH := hid hq_; clear hq_))
          | ((with_reducible apply wpL_storeC (t := 82)); rfl; rfl; (exact kS82); (exact HH.out); (first | exact .here | exact .there .here | exact .there (.there .here) | exact .there (.there (.there .here)) | exact .there (.there (.there (.there .here))) | exact .there (.there (.there (.there (.there .here)))) | exact .there (.there (.there (.there (.there (.there .here))))) | exact .there (.there (.there (.there (.there (.there (.there .here))))))); (first | rfl | exact Arr.len _ | (simp; done)); (first | rfl | (intro u_ hu_; simp only [List.mem_cons, List.not_mem_nil, or_false] at hu_; rcases hu_ with rfl | hu_; rfl) | exact byt_cell1 _ | exact cells_one _ | exact wrd_one _ | exact flat_cell1 _); (first | rfl | exact Arr.len _ | (simp; done)); rfl; (intro w_ hq_; (try simp only [List.set_cons_zero, List.set_cons_succ] at hq_); clear HH; have HH := hid hq_; clear hq_))
          | ((with_reducible apply wpL_move); rfl; rfl)
          | ((with_reducible apply wpL_assign); rfl; rfl)
          | ((with_reducible apply wpL_pick); rfl; rfl; rfl)
          | ((with_reducible apply wpL_not); rfl; rfl)
          | ((with_reducible apply wpL_cmp (b := true)); rfl; rfl; rfl; (first | rfl | assumption | (simp only [cmpB, decide_eq_true_eq, decide_eq_false_iff_not, beq_iff_eq, bne_iff_ne, ne_eq, beq_eq_false_iff_ne, bne_eq_false_iff_eq, gt_iff_lt, ge_iff_le]; omega) | (simp; omega)); rfl)
          | ((with_reducible apply wpL_cmp (b := false)); rfl; rfl; rfl; (first | rfl | assumption | (simp only [cmpB, decide_eq_true_eq, decide_eq_false_iff_not, beq_iff_eq, bne_iff_ne, ne_eq, beq_eq_false_iff_ne, bne_eq_false_iff_eq, gt_iff_lt, ge_iff_le]; omega) | (simp; omega)); rfl)
          | ((with_reducible apply wpL_cmp); rfl; rfl; rfl; rfl; rfl)
          | ((with_reducible apply wpL_arith); rfl; rfl; rfl; (exact IntWalk.i64_in _ (by (try simp only [arithI]); omega)); rfl)); (try simp only [arithI, Act.put, Act.eval, List.setIfInBounds_toArray, List.set_cons_succ, List.set_cons_zero, Array.getD_eq_getD_getElem?, List.getElem?_toArray, List.getElem?_cons_succ, List.getElem?_cons_zero, Option.getD_some])))
    refine bodyPost_ret (res2 rfl (resC kA82 HH.out (by rfl) (.there (.there .here)) (two_len _ _ _)) (by rfl)) rfl ?_
    exact ⟨rfl, HH.out.below⟩
end Go.Proofs.Ytgkfopodhikckaa

