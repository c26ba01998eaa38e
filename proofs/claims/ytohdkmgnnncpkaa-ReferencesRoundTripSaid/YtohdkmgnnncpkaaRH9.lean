/- IndexByte of a constant, Unhex of ascii. Condition: a text of at most a million bytes. -/
import Derived.Test.YtohdkmgnnncpkaaRH4
import Derived.Lib.Bytealg
set_option linter.unusedSimpArgs false
set_option linter.unusedVariables false
namespace Go.Proofs.Ytohdkmgnnncpkaa
open Go.RowKit
section
variable {P : Program} {ops : Array Oper} {rest : List Oper} {a : Act} {dst : Option Tmp} {ty : TypeId} {pos : String} {after : Array Edge} {guard : Option (Nat × Bool)} {w w0 : World} {S : List Nat} {bs : List (Nat × Obj)} {rows : List Row} {Q : Exit → Act → World → Prop} {C : World → Prop} {K : Act → Prop}
/-- A function value is called. -/
theorem ex_callV {f : FuncId} (hf : Body P f) {x : Operand} {first cap : Array Value} {xs : Array Operand} {ats : Array TypeId} {args : Array Value} (hx : a.eval x = .func (.func f) first cap) (ha : first ++ (xs.toList.map a.eval).toArray ++ cap = args) (w : World) :
    (execOp a.eval { dst := dst, op := .call { callee := .value x, args := xs, argTypes := ats }, type := ty, pos := pos, after := after, guard := guard }).run P w = .ok (.enter f args) w := by
  obtain ⟨fn, c, h1, h2, h3⟩ := hf
  have h3' : ¬ fn.name = "runtime.NumGoroutine" := by simpa using h3
  have hm : (xs.toList.map a.eval).toArray = xs.map a.eval := by rw [← Array.toList_map, Array.toArray_toList]
  rw [hm] at ha
  simp only [execOp, resolve, hx, Deferred.ofValue, Sem.run_bind, Sem.run_pure, Result.andThen_ok, invoke, ha]
  simp [callFunc, h1, h2, h3']
theorem wpQ_callV {f : FuncId} {v : Value} {args first cap : Array Value} (hf : Body P f) {x : Operand} {xs : Array Operand} {ats : Array TypeId} (hx : a.eval x = .func (.func f) first cap) (ha : first ++ (xs.toList.map a.eval).toArray ++ cap = args)
    (hc : ∀ w, C w → Calls P f args w fun e w' => e = .returned v ∧ C w')
    (hg : Region.wanted { dst := dst, op := .call { callee := .value x, args := xs, argTypes := ats }, type := ty, pos := pos, after := after, guard := guard } (yielded ops a.tmps) = true)
    (h : wpQuiet P ops C K rest (a.put dst v)) : wpQuiet P ops C K ({ dst := dst, op := .call { callee := .value x, args := xs, argTypes := ats }, type := ty, pos := pos, after := after, guard := guard } :: rest) a :=
  wpQuiet_call hg (fun w => ex_callV hf hx ha w) hc h
theorem wpL_callV {f : FuncId} {args first cap : Array Value} {R : Ending → World → Prop} (hf : Body P f) {x : Operand} {xs : Array Operand} {ats : Array TypeId} (hx : a.eval x = .func (.func f) first cap) (ha : first ++ (xs.toList.map a.eval).toArray ++ cap = args)
    (hc : Calls P f args w R)
    (hg : Region.wanted { dst := dst, op := .call { callee := .value x, args := xs, argTypes := ats }, type := ty, pos := pos, after := after, guard := guard } (yielded ops a.tmps) = true)
    (h : ∀ e w', R e w' → ∃ v, e = .returned v ∧ wpList P ops Q rest (a.put dst v) w') : wpList P ops Q ({ dst := dst, op := .call { callee := .value x, args := xs, argTypes := ats }, type := ty, pos := pos, after := after, guard := guard } :: rest) a w :=
  wpList_step fun K hK => by
    rw [if_pos hg]
    unfold Oper.wp
    rw [ex_callV hf hx ha w]
    simp only [Oper.upon]
    exact hc.mono fun e w' hR => by
      obtain ⟨v, rfl, hv⟩ := h e w' hR
      exact hK _ _ hv
theorem wpL_indexByteX {x y : Operand} {ats : Array TypeId} {l : List UInt8} {c : UInt8} {r : Int} (hx : a.eval x = str l) (hy : a.eval y = byt c) (hr : Lib.indexByte l c = r)
    (hg : Region.wanted { dst := dst, op := .call { callee := .value (.func 58), args := #[x, y], argTypes := ats }, type := ty, pos := pos, after := after, guard := guard } (yielded ops a.tmps) = true)
    (h : wpList Try.prog ops Q rest (a.put dst (.int .i64 r)) w) : wpList Try.prog ops Q ({ dst := dst, op := .call { callee := .value (.func 58), args := #[x, y], argTypes := ats }, type := ty, pos := pos, after := after, guard := guard } :: rest) a w := by
  subst hr
  refine wpList_ex hg ?_ h
  rw [execOp_call_go]
  simp only [List.map_toArray, List.map_cons, List.map_nil, hx, hy]
  rw [run_callFunc_extern Try.func58 (by kernel_rfl) (by kernel_rfl) (by kernel_rfl) (e := Extern.BytealgIndexByte.indexByte) (by kernel_rfl)]
  have := Lib.run_indexByteString (P := Try.prog) ⟨l.toArray⟩ (c.toNat : Int) w
  have hc : ((c.toNat : Int).toNat).toUInt8 = c := by simp
  rw [hc] at this
  show ((Extern.BytealgIndexByte.indexByte #[str l, byt c]).run Try.prog w).andThen _ = _
  unfold byt str
  rw [this]
  rfl
theorem wpL_or {t yt : TypeId} {x y : Operand} {k : IntKind} {p q : Int} {m n r : Nat} (hx : a.eval x = .int k p) (hy : a.eval y = .int k q) (hp : p = (m : Int)) (hq : q = (n : Int)) (hm : m < 2 ^ k.bits) (hn : n < 2 ^ k.bits) (hr : m ||| n = r) (hw : k.wrap (r : Int) = (r : Int))
    (hg : Region.wanted { dst := dst, op := .binOp .or t x y yt, type := ty, pos := pos, after := after, guard := guard } (yielded ops a.tmps) = true)
    (h : wpList P ops Q rest (a.put dst (.int k (r : Int))) w) : wpList P ops Q ({ dst := dst, op := .binOp .or t x y yt, type := ty, pos := pos, after := after, guard := guard } :: rest) a w := by
  subst hp hq hr
  refine wpList_ex hg ?_ h
  have he : ∀ u v, eqGuard .or t x y u v = pure () := fun _ _ => rfl
  have hr : (binOp .or t (.int k (m : Int)) (.int k (n : Int))).run P w = .ok (.int k ((m ||| n : Nat) : Int)) w := by
    have e : binOp .or t (.int k (m : Int)) (.int k (n : Int)) = Op.intBits .or k (m : Int) (n : Int) := by cases k <;> rfl
    rw [e]
    simp only [Op.intBits, Sem.run_pure]
    rw [BitVec.toNat_or, BitVec.ofInt_natCast, BitVec.ofInt_natCast, BitVec.toNat_ofNat, BitVec.toNat_ofNat, Nat.mod_eq_of_lt hm, Nat.mod_eq_of_lt hn, hw]
  simp only [execOp, hx, hy, Sem.run_bind, he, Sem.run_pure, Result.andThen_ok, hr]
theorem wpL_shlI {t yt : TypeId} {x y : Operand} {kk : IntKind} {p q : Int} {m n r : Nat} (hx : a.eval x = .int .i64 p) (hy : a.eval y = .int kk q) (hp : p = (m : Int)) (hq : q = (n : Int)) (hn : n < 64) (hr : m * 2 ^ n = r) (hb : r < 2 ^ 62)
    (hg : Region.wanted { dst := dst, op := .binOp .shl t x y yt, type := ty, pos := pos, after := after, guard := guard } (yielded ops a.tmps) = true)
    (h : wpList P ops Q rest (a.put dst (.int .i64 (r : Int))) w) : wpList P ops Q ({ dst := dst, op := .binOp .shl t x y yt, type := ty, pos := pos, after := after, guard := guard } :: rest) a w := by
  subst hp hq hr
  refine wpList_ex hg ?_ h
  have he : ∀ u v, eqGuard .shl t x y u v = pure () := fun _ _ => rfl
  have hr : (binOp .shl t (.int .i64 (m : Int)) (.int kk (n : Int))).run P w = .ok (.int .i64 ((m * 2 ^ n : Nat) : Int)) w := by
    show (Op.shift .shl .i64 (m : Int) kk (n : Int)).run P w = _
    have h0 : ¬ (n : Int) < 0 := by omega
    have h1 : min (n : Int).toNat IntKind.i64.bits = n := by
      have : IntKind.i64.bits = 64 := rfl
      omega
    simp only [Op.shift, h0, if_false, h1, Sem.run_pure]
    have : IntKind.i64.wrap ((m : Int) * 2 ^ n) = ((m * 2 ^ n : Nat) : Int) := by
      rw [show (m : Int) * 2 ^ n = ((m * 2 ^ n : Nat) : Int) by norm_cast]
      exact IntWalk.i64_in _ (by omega)
    rw [this]
  simp only [execOp, hx, hy, Sem.run_bind, he, Sem.run_pure, Result.andThen_ok, hr]
end
theorem idx93_any (w : World) (l : List UInt8) (c : UInt8) : Calls Try.prog 53 #[str l, byt c] w (fun e w' => e = .returned (.int .i64 (Lib.indexByte l c)) ∧ w' = w) := by
  go_enter Try.func53, Try.ntmps53
  go_wp2_with ((with_reducible apply wpL_indexByteX (l := l) (c := c)); rfl; rfl; rfl; rfl)
  go_ret
  exact ⟨rfl, rfl⟩
theorem idx86_any (w : World) (l : List UInt8) (c : UInt8) : Calls Try.prog 46 #[str l, byt c] w (fun e w' => e = .returned (.int .i64 (Lib.indexByte l c)) ∧ w' = w) := by
  go_enter Try.func46, Try.ntmps46
  go_wp2_with (go_at_call 53; refine (idx93_any _ _ _).mono ?_; rintro e_ w2_ ⟨rfl, rfl⟩)
  go_ret
  exact ⟨rfl, rfl⟩
/-- The value of a digit. -/
def hexV (c : UInt8) : Int := Lib.indexByte hexT c
theorem val85_any (w : World) (c : UInt8) : Calls Try.prog 54 #[byt c] w (fun e w' => e = .returned (.int .i64 (hexV c)) ∧ w' = w) := by
  have HV := hid (show Lib.indexByte hexT c = hexV c from rfl)
  go_enter Try.func54, Try.ntmps54
  go_wp2_with (go_at_call 46; refine (idx86_any _ hexT _).mono ?_; rw [HV.out]; rintro e_ w2_ ⟨rfl, rfl⟩)
  go_ret
  exact ⟨rfl, rfl⟩
theorem hexV_all : ∀ n : Fin 256, hexV (UInt8.ofNat n.1) = (if 48 ≤ n.1 ∧ n.1 ≤ 57 then (n.1 : Int) - 48 else if 97 ≤ n.1 ∧ n.1 ≤ 102 then (n.1 : Int) - 87 else -1) := by decide +kernel
theorem hexV_eq (c : UInt8) : hexV c = (if 48 ≤ c.toNat ∧ c.toNat ≤ 57 then (c.toNat : Int) - 48 else if 97 ≤ c.toNat ∧ c.toNat ≤ 102 then (c.toNat : Int) - 87 else -1) := by
  have := hexV_all ⟨c.toNat, c.toNat_lt⟩
  rwa [UInt8.ofNat_toNat] at this
theorem hexV_lt (c : UInt8) : -1 ≤ hexV c ∧ hexV c < 16 := by
  rw [hexV_eq]; split <;> (try split) <;> omega
/-- Two digits as a byte. -/
def pairB (a b : UInt8) : UInt8 := UInt8.ofNat ((hexV a).toNat * 16 + (hexV b).toNat)
def unhexL : List UInt8 → Option (List UInt8)
  | a :: b :: r => if hexV a < 0 ∨ hexV b < 0 then none else (unhexL r).map (pairB a b :: ·)
  | [] => some []
  | [_] => none
theorem unhexL_odd : ∀ l : List UInt8, l.length % 2 = 1 → unhexL l = none
  | [], h => by simp at h
  | [_], _ => rfl
  | a :: b :: r, h => by
    rw [unhexL, unhexL_odd r (by simp at h; omega)]
    simp
theorem unhexL_len : ∀ (l m : List UInt8), unhexL l = some m → l.length = 2 * m.length
  | [], m, h => by simp [unhexL] at h; subst h; rfl
  | [_], m, h => by simp [unhexL] at h
  | a :: b :: r, m, h => by
    rw [unhexL] at h
    split at h
    · cases h
    · simp only [Option.map_eq_some_iff] at h
      obtain ⟨m', h1, rfl⟩ := h
      have := unhexL_len r m' h1
      simp only [List.length_cons]; omega
theorem unhexL_at {s : List UInt8} {k : Nat} (h : k + 1 < s.length) : unhexL (s.drop k) = if hexV (s.getD k 0) < 0 ∨ hexV (s.getD (k + 1) 0) < 0 then none else (unhexL (s.drop (k + 2))).map (pairB (s.getD k 0) (s.getD (k + 1) 0) :: ·) := by
  rw [List.drop_eq_getElem_cons (by omega), List.drop_eq_getElem_cons h, unhexL]
  have e1 : s.getD k 0 = s[k] := by simp [show k < s.length by omega]
  have e2 : s.getD (k + 1) 0 = s[k + 1] := by simp [h]
  rw [e1, e2]
theorem unhexL_step {s pre : List UInt8} {j : Nat} {c : UInt8} (h : j + 1 < s.length) (hs : unhexL s = (unhexL (s.drop j)).map (pre ++ ·)) (h1 : ¬ hexV (s.getD j 0) < 0) (h2 : ¬ hexV (s.getD (j + 1) 0) < 0) (hc : pairB (s.getD j 0) (s.getD (j + 1) 0) = c) :
    unhexL s = (unhexL (s.drop (j + 2))).map ((pre ++ [c]) ++ ·) := by
  rw [hs, unhexL_at h, if_neg (by rintro (h' | h') <;> contradiction), hc]
  cases unhexL (s.drop (j + 2)) <;> simp
theorem unhexL_stop {s pre : List UInt8} {j : Nat} (h : j + 1 < s.length) (hs : unhexL s = (unhexL (s.drop j)).map (pre ++ ·)) (h1 : hexV (s.getD j 0) < 0 ∨ hexV (s.getD (j + 1) 0) < 0) : unhexL s = none := by
  rw [hs, unhexL_at h, if_pos h1]; rfl
theorem unhexL_end {s pre : List UInt8} {j : Nat} (h : j = s.length) (hs : unhexL s = (unhexL (s.drop j)).map (pre ++ ·)) : unhexL s = some pre := by
  rw [hs, h, List.drop_length]; simp [unhexL]
def RetUn (w : World) (r : Option (List UInt8)) (e : Ending) (w' : World) : Prop :=
  match r with
  | some l => ∃ ao cap, e = .returned (.tuple #[.slice ao l.length cap, .int .i64 0]) ∧ w'.ownsRow w.heap.size 5 1 (.slice ao l.length cap) l.length (l.map byt) ∧ Below w.heap.size w w'
  | none => e = .returned (.tuple #[.slice none 0 0, .int .i64 3]) ∧ Below w.heap.size w w'
def UnRel (w : World) (s : List UInt8) (v i : Value) (wr : World) : Prop :=
  ∃ (j : Nat) (pre : List UInt8) (ao : Option Addr) (cap : Nat), j ≤ s.length ∧ j = 2 * pre.length ∧ i = .int .i64 (j : Int) ∧ v = .slice ao pre.length cap ∧ unhexL s = (unhexL (s.drop j)).map (pre ++ ·) ∧ Holds w [] [] [rowB ao cap pre] wr
theorem ret_un_none {w w' : World} {s : List UInt8} {e : Ending} (h : unhexL s = none) (he : e = .returned (.tuple #[.slice none 0 0, .int .i64 3])) (hb : Below w.heap.size w w') : RetUn w (unhexL s) e w' := by
  rw [h]; exact ⟨he, hb⟩
theorem ret_un_some {w w' : World} {s l : List UInt8} {ao : Option Addr} {cap : Nat} {e : Ending} (h : unhexL s = some l) (he : e = .returned (.tuple #[.slice ao l.length cap, .int .i64 0])) (hq : Holds w [] [] [rowB ao cap l] w') : RetUn w (unhexL s) e w' := by
  rw [h]; exact ⟨ao, cap, he, hq.own0, hq.below⟩
theorem pair_or (m n : Nat) (hm : m < 16) (hn : n < 16) : m * 2 ^ 4 ||| n = m * 16 + n := by
  rw [show m * 2 ^ 4 = m <<< 4 from (Nat.shiftLeft_eq m 4).symm, ← Nat.shiftLeft_add_eq_or_of_lt (by omega) m, Nat.shiftLeft_eq]
set_option maxRecDepth 100000 in
set_option maxHeartbeats 2000000 in
theorem unhex_any (w : World) (s : List UInt8) (hn : s.length ≤ 1000000) : Calls Try.prog 47 #[str s] w (RetUn w (unhexL s)) := by
  have HH := hid (Holds.init w)
  by_cases hodd : s.length % 2 = 1
  · have HO := hid (unhexL_odd s hodd)
    have hz : ¬ (s.length : Int) % 2 = 0 := by omega
    go_enter Try.func47, Try.ntmps47
    go_wp2_with (first
      | ((first
          | ((with_reducible apply wpL_skip); rfl; skip)
          | ((with_reducible apply wpL_lenStr (l := s) Try.underlying9); rfl; rfl)
          | ((with_reducible apply wpL_remN (m := s.length) (n := 2)); rfl; rfl; rfl; rfl; (exact (by omega)); (exact (by omega)); (exact (by omega)); rfl; rw [hodd])
          | ((with_reducible apply wpL_nilCheck); rfl; rfl)
          | ((with_reducible apply wpL_len (t := 81) Try.underlying81); rfl; rfl)
          | ((with_reducible apply wpL_move); rfl; rfl)
          | ((with_reducible apply wpL_assign); rfl; rfl)
          | ((with_reducible apply wpL_pick); rfl; rfl; rfl)
          | ((with_reducible apply wpL_not); rfl; rfl)
          | ((with_reducible apply wpL_cmp (b := true)); rfl; rfl; rfl; (first | rfl | assumption | (simp only [cmpB, decide_eq_true_eq, decide_eq_false_iff_not, beq_iff_eq, bne_iff_ne, ne_eq, beq_eq_false_iff_ne, bne_eq_false_iff_eq, gt_iff_lt, ge_iff_le]; omega) | (simp; omega)); rfl)
          | ((with_reducible apply wpL_cmp (b := false)); rfl; rfl; rfl; (first | rfl | assumption | (simp only [cmpB, decide_eq_true_eq, decide_eq_false_iff_not, beq_iff_eq, bne_iff_ne, ne_eq, beq_eq_false_iff_ne, bne_eq_false_iff_eq, gt_iff_lt, ge_iff_le]; omega) | (simp; omega)); rfl)
          | ((with_reducible apply wpL_cmp); rfl; rfl; rfl; rfl; rfl)
          | ((with_reducible apply wpL_arith); rfl; rfl; rfl; (exact IntWalk.i64_in _ (by (try simp only [arithI]); omega)); rfl)); (try simp only [arithI, Act.put, Act.eval, List.setIfInBounds_toArray, List.set_cons_succ, List.set_cons_zero, Array.getD_eq_getD_getElem?, List.getElem?_toArray, List.getElem?_cons_succ, List.getElem?_cons_zero, Option.getD_some])))
    go_ret2
    exact ret_un_none HO.out rfl HH.out.below
  · have hev : s.length % 2 = 0 := by omega
    go_enter Try.func47, Try.ntmps47
    go_wp2_with (first
      | ((first
          | ((with_reducible apply wpL_skip); rfl; skip)
          | ((with_reducible apply wpL_lenStr (l := s) Try.underlying9); rfl; rfl)
          | ((with_reducible apply wpL_remN (m := s.length) (n := 2)); rfl; rfl; rfl; rfl; (exact (by omega)); (exact (by omega)); (exact (by omega)); rfl; rw [hev])
          | ((with_reducible apply wpL_nilCheck); rfl; rfl)
          | ((with_reducible apply wpL_len (t := 81) Try.underlying81); rfl; rfl)
          | ((with_reducible apply wpL_move); rfl; rfl)
          | ((with_reducible apply wpL_assign); rfl; rfl)
          | ((with_reducible apply wpL_pick); rfl; rfl; rfl)
          | ((with_reducible apply wpL_not); rfl; rfl)
          | ((with_reducible apply wpL_cmp (b := true)); rfl; rfl; rfl; (first | rfl | assumption | (simp only [cmpB, decide_eq_true_eq, decide_eq_false_iff_not, beq_iff_eq, bne_iff_ne, ne_eq, beq_eq_false_iff_ne, bne_eq_false_iff_eq, gt_iff_lt, ge_iff_le]; omega) | (simp; omega)); rfl)
          | ((with_reducible apply wpL_cmp (b := false)); rfl; rfl; rfl; (first | rfl | assumption | (simp only [cmpB, decide_eq_true_eq, decide_eq_false_iff_not, beq_iff_eq, bne_iff_ne, ne_eq, beq_eq_false_iff_ne, bne_eq_false_iff_eq, gt_iff_lt, ge_iff_le]; omega) | (simp; omega)); rfl)
          | ((with_reducible apply wpL_cmp); rfl; rfl; rfl; rfl; rfl)
          | ((with_reducible apply wpL_arith); rfl; rfl; rfl; (exact IntWalk.i64_in _ (by (try simp only [arithI]); omega)); rfl)); (try simp only [arithI, Act.put, Act.eval, List.setIfInBounds_toArray, List.set_cons_succ, List.set_cons_zero, Array.getD_eq_getD_getElem?, List.getElem?_toArray, List.getElem?_cons_succ, List.getElem?_cons_zero, Option.getD_some])))
    go_loopw [4, 6] (UnRel w s) (fun _ i _ => s.length - (intOf i).toNat)
    case atStart => exact ⟨0, [], none, 0, Nat.zero_le _, rfl, rfl, rfl, by simp, HH.out.addNil 5 1⟩
    case round =>
      obtain ⟨j, pre, ao, cap, hj, hj2, rfl, rfl, hs, hr⟩ := hrel
      clear HH
      have HH := hid hr
      have HS := hid hs
      have HJ := hid hj2
      have hpl : pre.length ≤ 1000000 := by omega
      clear hr hs
      by_cases hlt : j < s.length
      · have hlt1 : j + 1 < s.length := by omega
        clear hj2
        obtain ⟨u, hu⟩ : ∃ u, hexV (s.getD j 0) = u := ⟨_, rfl⟩
        obtain ⟨v, hv⟩ : ∃ v, hexV (s.getD (j + 1) 0) = v := ⟨_, rfl⟩
        have bu := hexV_lt (s.getD j 0)
        have bv := hexV_lt (s.getD (j + 1) 0)
        rw [hu] at bu
        rw [hv] at bv
        have HU := hid hu
        have HV := hid hv
        clear hu hv
        go_wp2_with (first
          | ((first
              | ((with_reducible apply wpL_skip); rfl; skip)
              | ((with_reducible apply wpL_lenStr (l := s) Try.underlying9); rfl; rfl)
              | ((with_reducible apply wpL_nilCheck); rfl; rfl)
              | ((with_reducible apply wpL_len (t := 81) Try.underlying81); rfl; rfl)
              | ((with_reducible apply wpL_move); rfl; rfl)
              | ((with_reducible apply wpL_assign); rfl; rfl)
              | ((with_reducible apply wpL_pick); rfl; rfl; rfl)
              | ((with_reducible apply wpL_not); rfl; rfl)
              | ((with_reducible apply wpL_cmp (b := true)); rfl; rfl; rfl; (first | rfl | assumption | (simp only [cmpB, decide_eq_true_eq, decide_eq_false_iff_not, beq_iff_eq, bne_iff_ne, ne_eq, beq_eq_false_iff_ne, bne_eq_false_iff_eq, gt_iff_lt, ge_iff_le]; omega) | (simp; omega)); rfl)
              | ((with_reducible apply wpL_cmp (b := false)); rfl; rfl; rfl; (first | rfl | assumption | (simp only [cmpB, decide_eq_true_eq, decide_eq_false_iff_not, beq_iff_eq, bne_iff_ne, ne_eq, beq_eq_false_iff_ne, bne_eq_false_iff_eq, gt_iff_lt, ge_iff_le]; omega) | (simp; omega)); rfl)
              | ((with_reducible apply wpL_cmp); rfl; rfl; rfl; rfl; rfl)
              | ((with_reducible apply wpL_arith); rfl; rfl; rfl; (exact IntWalk.i64_in _ (by (try simp only [arithI]); omega)); rfl)); (try simp only [arithI, Act.put, Act.eval, List.setIfInBounds_toArray, List.set_cons_succ, List.set_cons_zero, Array.getD_eq_getD_getElem?, List.getElem?_toArray, List.getElem?_cons_succ, List.getElem?_cons_zero, Option.getD_some])))
        refine wp_region_holds (by kernel_rfl) (by kernel_rfl) HH.out ?_
        repeat ((first
          | ((with_reducible apply wpQ_skip); rfl; skip)
          | ((with_reducible apply wpQ_indexStr (dst := some 22) (l := s) (m := j) (v := s.getD j 0) Try.underlying9); rfl; rfl; rfl; (exact hlt); rfl; rfl)
          | ((with_reducible apply wpQ_indexStr (dst := some 28) (l := s) (m := j + 1) (v := s.getD (j + 1) 0) Try.underlying9); rfl; rfl; (exact (by omega)); (exact hlt1); rfl; rfl)
          | ((with_reducible apply wpQ_callV (f := 54) (first := #[]) (cap := #[]) (dst := some 23) (v := .int .i64 u) (args := #[byt (s.getD j 0)]) kB54); rfl; (first | rfl | (simp only [Array.empty_append, Array.append_empty]; rfl)); (intro wq hwq; exact (val85_any wq _).mono fun e w' ⟨he, hb⟩ => ⟨by rw [he, HU.out], by rw [hb]; exact hwq⟩); rfl)
          | ((with_reducible apply wpQ_callV (f := 54) (first := #[]) (cap := #[]) (dst := some 29) (v := .int .i64 v) (args := #[byt (s.getD (j + 1) 0)]) kB54); rfl; (first | rfl | (simp only [Array.empty_append, Array.append_empty]; rfl)); (intro wq hwq; exact (val85_any wq _).mono fun e w' ⟨he, hb⟩ => ⟨by rw [he, HV.out], by rw [hb]; exact hwq⟩); rfl)
          | ((with_reducible apply wpQ_nilCheck); rfl; rfl)
          | ((with_reducible apply wpQ_len (t := 81) Try.underlying81); rfl; rfl)
          | ((with_reducible apply wpQ_move); rfl; rfl)
          | ((with_reducible apply wpQ_assign); rfl; rfl)
          | ((with_reducible apply wpQ_pick); rfl; rfl; rfl)
          | ((with_reducible apply wpQ_not); rfl; rfl)
          | ((with_reducible apply wpQ_cmp (b := true)); rfl; rfl; rfl; (first | rfl | assumption | (simp only [cmpB, decide_eq_true_eq, decide_eq_false_iff_not, beq_iff_eq, bne_iff_ne, ne_eq, beq_eq_false_iff_ne, bne_eq_false_iff_eq, gt_iff_lt, ge_iff_le]; omega) | (simp; omega)); rfl)
          | ((with_reducible apply wpQ_cmp (b := false)); rfl; rfl; rfl; (first | rfl | assumption | (simp only [cmpB, decide_eq_true_eq, decide_eq_false_iff_not, beq_iff_eq, bne_iff_ne, ne_eq, beq_eq_false_iff_ne, bne_eq_false_iff_eq, gt_iff_lt, ge_iff_le]; omega) | (simp; omega)); rfl)
          | ((with_reducible apply wpQ_cmp); rfl; rfl; rfl; rfl; rfl)
          | ((with_reducible apply wpQ_arith); rfl; rfl; rfl; (exact IntWalk.i64_in _ (by (try simp only [arithI]); omega)); rfl)); (try simp only [if_true, if_false, Bool.false_eq_true, arithI, Act.put, Act.eval, List.setIfInBounds_toArray, List.set_cons_succ, List.set_cons_zero, Array.getD_eq_getD_getElem?, List.getElem?_toArray, List.getElem?_cons_succ, List.getElem?_cons_zero, Option.getD_some]))
        refine wpQuiet_nil ?_
        intro wq hq_
        have HQ := hid hq_
        clear hq_
        clear HH
        have HH := HQ
        clear HQ
        by_cases hneg : u < 0
        · go_wp2
          go_ret2
          exact ret_un_none (unhexL_stop hlt1 HS.out (.inl (by rw [HU.out]; exact hneg))) rfl HH.out.below
        · by_cases hneg2 : v < 0
          · go_wp2
            go_ret2
            exact ret_un_none (unhexL_stop hlt1 HS.out (.inr (by rw [HV.out]; exact hneg2))) rfl HH.out.below
          · have HP := hid (show pairB (s.getD j 0) (s.getD (j + 1) 0) = UInt8.ofNat (u.toNat * 16 + v.toNat) by unfold pairB; rw [HU.out, HV.out])
            have HST := hid (unhexL_step hlt1 HS.out (by rw [HU.out]; exact hneg) (by rw [HV.out]; exact hneg2) HP.out)
            have HW := hid (show IntKind.i64.wrap ((u.toNat * 16 + v.toNat : Nat) : Int) = ((u.toNat * 16 + v.toNat : Nat) : Int) from IntWalk.i64_in _ (by omega))
            go_wp2_with (first
              | ((first
                  | ((with_reducible apply wpL_skip); rfl; skip)
                  | ((with_reducible apply wpL_shlI (m := u.toNat) (n := 4) (r := u.toNat * 2 ^ 4)); rfl; rfl; (exact (by omega)); rfl; (exact (by omega)); rfl; (exact (by omega)); rfl)
                  | ((with_reducible apply wpL_or (m := u.toNat * 2 ^ 4) (n := v.toNat) (r := u.toNat * 16 + v.toNat)); rfl; rfl; rfl; (exact (by omega)); (exact (by show _ < 2 ^ 64; omega)); (exact (by show _ < 2 ^ 64; omega)); (exact pair_or _ _ (by omega) (by omega)); (exact HW.out); rfl)
                  | ((with_reducible apply wpL_toB (m := u.toNat * 16 + v.toNat) Try.underlying3 Try.underlying5); rfl; rfl; rfl)
                  | ((with_reducible apply wpL_buildB [UInt8.ofNat (u.toNat * 16 + v.toNat)] (dst := some 42)); rfl; rfl; (exact (by omega)); (exact HH.out); rfl; (intro g_ w_ hq_; clear HH; have HH := hid hq_; clear hq_))
                  | ((with_reducible apply wpL_appendB (dst := some 43) (l := pre) (l2 := [UInt8.ofNat (u.toNat * 16 + v.toNat)]) HH.out.swap HH.out.sl0); rfl; rfl; (exact (by simp; omega)); rfl; rfl; rfl; (intro ao1 cap1 w_ hq_; clear HH; have HH := hid hq_.dropSnd; clear hq_))
                  | ((with_reducible apply wpL_nilCheck); rfl; rfl)
                  | ((with_reducible apply wpL_len (t := 81) Try.underlying81); rfl; rfl)
                  | ((with_reducible apply wpL_move); rfl; rfl)
                  | ((with_reducible apply wpL_assign); rfl; rfl)
                  | ((with_reducible apply wpL_pick); rfl; rfl; rfl)
                  | ((with_reducible apply wpL_not); rfl; rfl)
                  | ((with_reducible apply wpL_cmp (b := true)); rfl; rfl; rfl; (first | rfl | assumption | (simp only [cmpB, decide_eq_true_eq, decide_eq_false_iff_not, beq_iff_eq, bne_iff_ne, ne_eq, beq_eq_false_iff_ne, bne_eq_false_iff_eq, gt_iff_lt, ge_iff_le]; omega) | (simp; omega)); rfl)
                  | ((with_reducible apply wpL_cmp (b := false)); rfl; rfl; rfl; (first | rfl | assumption | (simp only [cmpB, decide_eq_true_eq, decide_eq_false_iff_not, beq_iff_eq, bne_iff_ne, ne_eq, beq_eq_false_iff_ne, bne_eq_false_iff_eq, gt_iff_lt, ge_iff_le]; omega) | (simp; omega)); rfl)
                  | ((with_reducible apply wpL_cmp); rfl; rfl; rfl; rfl; rfl)
                  | ((with_reducible apply wpL_arith); rfl; rfl; rfl; (exact IntWalk.i64_in _ (by (try simp only [arithI]); omega)); rfl)); (try simp only [arithI, Act.put, Act.eval, List.setIfInBounds_toArray, List.set_cons_succ, List.set_cons_zero, Array.getD_eq_getD_getElem?, List.getElem?_toArray, List.getElem?_cons_succ, List.getElem?_cons_zero, Option.getD_some])))
            go_roundw
            case rel => exact ⟨j + 2, _, _, _, by omega, by rw [List.length_append]; have := HJ.out; simp; omega, by go_num, rfl, HST.out, HH.out⟩
            case measure => simp [intOf]; omega
      · have hje : j = s.length := by omega
        have HE := hid (unhexL_end hje HS.out)
        clear hje hj2
        go_wp2_with (first
          | ((first
              | ((with_reducible apply wpL_skip); rfl; skip)
              | ((with_reducible apply wpL_lenStr (l := s) Try.underlying9); rfl; rfl)
              | ((with_reducible apply wpL_nilCheck); rfl; rfl)
              | ((with_reducible apply wpL_len (t := 81) Try.underlying81); rfl; rfl)
              | ((with_reducible apply wpL_move); rfl; rfl)
              | ((with_reducible apply wpL_assign); rfl; rfl)
              | ((with_reducible apply wpL_pick); rfl; rfl; rfl)
              | ((with_reducible apply wpL_not); rfl; rfl)
              | ((with_reducible apply wpL_cmp (b := true)); rfl; rfl; rfl; (first | rfl | assumption | (simp only [cmpB, decide_eq_true_eq, decide_eq_false_iff_not, beq_iff_eq, bne_iff_ne, ne_eq, beq_eq_false_iff_ne, bne_eq_false_iff_eq, gt_iff_lt, ge_iff_le]; omega) | (simp; omega)); rfl)
              | ((with_reducible apply wpL_cmp (b := false)); rfl; rfl; rfl; (first | rfl | assumption | (simp only [cmpB, decide_eq_true_eq, decide_eq_false_iff_not, beq_iff_eq, bne_iff_ne, ne_eq, beq_eq_false_iff_ne, bne_eq_false_iff_eq, gt_iff_lt, ge_iff_le]; omega) | (simp; omega)); rfl)
              | ((with_reducible apply wpL_cmp); rfl; rfl; rfl; rfl; rfl)
              | ((with_reducible apply wpL_arith); rfl; rfl; rfl; (exact IntWalk.i64_in _ (by (try simp only [arithI]); omega)); rfl)); (try simp only [arithI, Act.put, Act.eval, List.setIfInBounds_toArray, List.set_cons_succ, List.set_cons_zero, Array.getD_eq_getD_getElem?, List.getElem?_toArray, List.getElem?_cons_succ, List.getElem?_cons_zero, Option.getD_some])))
        go_ret2
        exact ret_un_some HE.out rfl HH.out
end Go.Proofs.Ytohdkmgnnncpkaa
