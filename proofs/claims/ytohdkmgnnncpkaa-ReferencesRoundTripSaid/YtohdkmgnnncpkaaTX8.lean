/- Identity of the reference, Parse of msgid. Condition: a text of at most a million bytes. -/
import Derived.Test.YtohdkmgnnncpkaaTX7
import Derived.Laws.CopyRow
set_option linter.unusedSimpArgs false
set_option linter.unusedVariables false
namespace Go.Proofs.Ytohdkmgnnncpkaa
open Go.RowKit
/-- What Identity answers. -/
def RetId (w : World) (r : Option Id) (e : Ending) (w' : World) : Prop :=
  e = .returned (.tuple #[(r.getD Id0).val, .bool r.isSome]) ∧ Below w.heap.size w w'
theorem RetId.mk {w w' : World} {r : Option Id} {x : Id} {b : Bool} (hx : x = r.getD Id0) (hb : b = r.isSome) (h : Below w.heap.size w w') : RetId w r (.returned (.tuple #[x.val, .bool b])) w' := ⟨by rw [hx, hb], h⟩
/-- An array whose first bytes are told. -/
def fillA (pre : List UInt8) : List UInt8 := pre ++ List.replicate (32 - pre.length) 0
theorem fillA_len {pre : List UInt8} (h : pre.length ≤ 32) : (fillA pre).length = 32 := by simp [fillA]; omega
theorem fillA_set {pre : List UInt8} (c : UInt8) (h : pre.length < 32) : (fillA pre).set pre.length c = fillA (pre ++ [c]) := by
  unfold fillA
  rw [List.set_append_right _ _ (Nat.le_refl _), Nat.sub_self]
  have e : 32 - pre.length = (32 - (pre ++ [c]).length) + 1 := by simp; omega
  rw [e, List.replicate_succ, List.set_cons_zero, List.append_assoc]
  rfl
theorem fillA_nil : (fillA []).map byt = (Arr.zero 32).cells := by simp [fillA, Arr.cells, Arr.zero]
theorem fillA_full {x : Id} : fillA x.1 = x.1 := by unfold fillA; rw [x.2]; simp
def IdRel (w : World) (t : List UInt8) (g2 g4 : Nat) (i : Value) (wr : World) : Prop :=
  ∃ pre : List UInt8, pre.length ≤ 32 ∧ i = .int .i64 pre.length ∧ unhexL t = (unhexL (t.drop (2 * pre.length))).map (pre ++ ·) ∧ Holds w [] [(g4, objC ((fillA pre).map byt) 38), (g2, objC (Arr.zero 32).cells 38)] [] wr
theorem sub_getD {s : List UInt8} {j : Nat} (h : j < 64) : ((s.drop 1).take 64).getD j 0 = s.getD (1 + j) 0 := by
  simp only [List.getD_eq_getElem?_getD, List.getElem?_take, if_pos h, List.getElem?_drop]
section
variable {P : Program} {ops : Array Oper} {rest : List Oper} {a : Act} {dst : Option Tmp} {ty : TypeId} {pos : String} {after : Array Edge} {guard : Option (Nat × Bool)} {w w0 : World} {S : List Nat} {bs bs' : List (Nat × Obj)} {rows : List Row} {Q : Exit → Act → World → Prop}
/-- A byte of an array variable is written. -/
theorem wpL_storeAB {t e : TypeId} {b : UInt8} {g m : Nat} {l l' : List UInt8} {x y : Operand} (hi : (P.info? t).map (·.size) = some 1) (hH : Holds w0 S bs rows w) (hx : a.eval x = .pointer (some ⟨g, 0 + m, none⟩)) (hy : a.eval y = byt b) (ht : Turn bs g (objC (l.map byt) e) (objC (l'.map byt) e) bs') (hl : l.set m b = l') (hm : m < l.length)
    (hg : Region.wanted { dst := dst, op := .store t x y, type := ty, pos := pos, after := after, guard := guard } (yielded ops a.tmps) = true)
    (h : ∀ w', Holds w0 S bs' rows w' → wpList P ops Q rest (a.put dst undef) w') :
    wpList P ops Q ({ dst := dst, op := .store t x y, type := ty, pos := pos, after := after, guard := guard } :: rest) a w := by
  subst hl
  rw [Nat.zero_add] at hx
  rw [List.map_set] at ht
  exact wpL_store1 hx hy rfl hi hH ht rfl (by simpa using hm) hg h
theorem wpL_indexV0 {t e : TypeId} {n g m : Nat} {q : Int} {k : IntKind} {x i : Operand} (ht : P.underlying t = some (.array n e)) (he : (P.info? e).map (·.size) = some 1) (hx : a.eval x = .pointer (some ⟨g, 0, none⟩)) (hi : a.eval i = .int k q) (hq : q = (m : Int)) (hm : m < n)
    (hg : Region.wanted { dst := dst, op := .indexAddr t x i, type := ty, pos := pos, after := after, guard := guard } (yielded ops a.tmps) = true)
    (h : wpList P ops Q rest (a.put dst (.pointer (some ⟨g, 0 + m, none⟩))) w) : wpList P ops Q ({ dst := dst, op := .indexAddr t x i, type := ty, pos := pos, after := after, guard := guard } :: rest) a w :=
  wpL_indexVar ht he hx hi hq hm hg h
end
theorem byte_ne {b c : UInt8} (h : b ≠ c) : ((b.toNat : Int) != (c.toNat : Int)) = true := by
  simp only [bne_iff_ne, ne_eq]
  intro e
  exact h (UInt8.toNat_inj.1 (by omega))
section
variable {P : Program} {ops : Array Oper} {rest : List Oper} {a : Act} {ρ : Operand → Value} {dst : Option Tmp} {ty : TypeId} {pos : String} {after : Array Edge} {guard : Option (Nat × Bool)} {w : World} {Q : Exit → Act → World → Prop} {C : World → Prop} {K : Act → Prop}
theorem ex_neqB {t yt : TypeId} {b c : UInt8} {r : Bool} {x y : Operand} (hx : ρ x = byt b) (hy : ρ y = byt c) (hr : (!(b == c)) = r) (w : World) :
    (execOp ρ { dst := dst, op := .binOp .neq t x y yt, type := ty, pos := pos, after := after, guard := guard }).run P w = .ok (.value (.bool r)) w := by
  subst hr
  refine ex_cmp (k := .u8) (p := b.toNat) (q := c.toNat) rfl hx hy ?_ w
  show ((b.toNat : Int) != (c.toNat : Int)) = _
  by_cases h : b = c
  · subst h; simp
  · rw [byte_ne h]
    have : (b == c) = false := by simpa using h
    rw [this]; rfl
theorem wpL_neqB {t yt : TypeId} {b c : UInt8} {r : Bool} {x y : Operand} (hx : a.eval x = byt b) (hy : a.eval y = byt c) (hr : (!(b == c)) = r)
    (hg : Region.wanted { dst := dst, op := .binOp .neq t x y yt, type := ty, pos := pos, after := after, guard := guard } (yielded ops a.tmps) = true)
    (h : wpList P ops Q rest (a.put dst (.bool r)) w) : wpList P ops Q ({ dst := dst, op := .binOp .neq t x y yt, type := ty, pos := pos, after := after, guard := guard } :: rest) a w :=
  wpList_ex hg (ex_neqB (ρ := a.eval) hx hy hr w) h
theorem wpQ_neqB {t yt : TypeId} {b c : UInt8} {r : Bool} {x y : Operand} (hx : a.eval x = byt b) (hy : a.eval y = byt c) (hr : (!(b == c)) = r)
    (hg : Region.wanted { dst := dst, op := .binOp .neq t x y yt, type := ty, pos := pos, after := after, guard := guard } (yielded ops a.tmps) = true)
    (h : wpQuiet P ops C K rest (a.put dst (.bool r))) : wpQuiet P ops C K ({ dst := dst, op := .binOp .neq t x y yt, type := ty, pos := pos, after := after, guard := guard } :: rest) a :=
  wpQuiet_ex hg (fun w _ => ex_neqB (ρ := a.eval) hx hy hr w) h
end
theorem ident_head {s : List UInt8} (h : ¬ (s.length = 71 ∧ s.getD 0 0 = 60 ∧ s.drop 65 = closing)) : (s.length ≠ 71) ∨ (s.length = 71 ∧ (!(s.getD 0 0 == 60)) = true) ∨ (s.length = 71 ∧ (!(s.getD 0 0 == 60)) = false ∧ (!(s.drop 65 == closing)) = true) := by
  by_cases h1 : s.length = 71
  · by_cases h2 : s.getD 0 0 = 60
    · refine .inr (.inr ⟨h1, by rw [h2]; rfl, ?_⟩)
      have : s.drop 65 ≠ closing := fun e => h ⟨h1, h2, e⟩
      simp [this]
    · exact .inr (.inl ⟨h1, by simp only [Bool.not_eq_true', beq_eq_false_iff_ne]; exact h2⟩)
  · exact .inl h1
set_option maxRecDepth 100000 in
set_option maxHeartbeats 4000000 in
theorem identity_any (w : World) (s : List UInt8) (hn : s.length ≤ 1000000) : Calls Try.prog 41 #[str s] w (RetId w (identL s)) := by
  have HH := hid (Holds.init w)
  have h65 : s.drop 65 = (s.drop 65).take (s.length - 65) := by rw [List.take_of_length_le (by simp)]
  have H65 := hid h65.symm
  clear h65
  by_cases hc : s.length = 71 ∧ s.getD 0 0 = 60 ∧ s.drop 65 = closing
  · obtain ⟨h1, h2, h3⟩ := hc
    have H1 := hid h1
    have H2 := hid (show (!(s.getD 0 0 == 60)) = false by rw [h2]; rfl)
    have H3 := hid (show (!(s.drop 65 == closing)) = false by rw [h3]; rfl)
    have H2e := hid h2
    have H3e := hid h3
    have l1 : s.length ≤ 71 := by omega
    have l2 : 71 ≤ s.length := by omega
    clear h1 h2 h3
    go_enter Try.func41, Try.ntmps41
    go_wp2_with (first
      | ((first
          | ((with_reducible apply wpL_skip); rfl; skip)
          | ((with_reducible apply wpL_lenStrN (l := s) (n := 71) Try.underlying9); rfl; (exact H1.out); rfl)
          | ((with_reducible apply wpL_indexStr (l := s) (m := 0) (v := s.getD 0 0) Try.underlying9); rfl; rfl; rfl; (exact (by omega)); rfl; rfl)
          | ((with_reducible apply wpL_neqB (b := s.getD 0 0) (c := 60) (r := false)); rfl; rfl; (exact H2.out); rfl)
          | ((with_reducible apply wpL_sliceStr (l := s) (m := s.drop 65) (i := 65) (j := s.length) Try.underlying9); rfl; (exact .inr ⟨_, rfl⟩); (exact .inl ⟨rfl, rfl⟩); (exact (by omega)); (exact Nat.le_refl _); (exact H65.out); rfl)
          | ((with_reducible apply wpL_neqStr (b := false) (l := s.drop 65) (m := closing) Try.underlying9); rfl; rfl; (exact H3.out); rfl)
          | ((with_reducible apply wpL_nilCheck); rfl; rfl)
          | ((with_reducible apply wpL_loadArr (t := 38) kA38 HH.out); rfl; (first | exact .here | exact .there .here | exact .there (.there .here) | exact .there (.there (.there .here)) | exact .there (.there (.there (.there .here))) | exact .there (.there (.there (.there (.there .here)))) | exact .there (.there (.there (.there (.there (.there .here))))) | exact .there (.there (.there (.there (.there (.there (.there .here))))))); rfl)
          | ((with_reducible apply wpL_loadC (t := 38) kA38 HH.out); rfl; (first | exact .here | exact .there .here | exact .there (.there .here) | exact .there (.there (.there .here)) | exact .there (.there (.there (.there .here))) | exact .there (.there (.there (.there (.there .here)))) | exact .there (.there (.there (.there (.there (.there .here))))) | exact .there (.there (.there (.there (.there (.there (.there .here))))))); (first | rfl | exact Arr.len _ | (simp; done)); rfl)
          | ((with_reducible apply wpL_allocC (dst := some 2) kZ38 HH.out); rfl; (intro g2_ w_ hq_; (try simp only [List.set_cons_zero, List.set_cons_succ] at hq_); clear HH; have HH := hid hq_; clear hq_))
          | ((with_reducible apply wpL_allocC (dst := some 4) kZ38 HH.out); rfl; (intro g4_ w_ hq_; (try simp only [List.set_cons_zero, List.set_cons_succ] at hq_); clear HH; have HH := hid hq_; clear hq_))
          | ((with_reducible apply wpL_store1 (t := 5)); rfl; rfl; rfl; (exact kS5); (exact HH.out); (first | exact .here | exact .there .here | exact .there (.there .here) | exact .there (.there (.there .here)) | exact .there (.there (.there (.there .here))) | exact .there (.there (.there (.there (.there .here)))) | exact .there (.there (.there (.there (.there (.there .here))))) | exact .there (.there (.there (.there (.there (.there (.there .here))))))); rfl; (first | exact Nat.le_of_ble_eq_true rfl | (simp; done) | omega); rfl; (intro w_ hq_; (try simp only [List.set_cons_zero, List.set_cons_succ] at hq_); clear HH; have HH := hid hq_; clear hq_))
          | ((with_reducible apply wpL_storeArr (t := 38) kS38 HH.out); rfl; rfl; (first | exact .here | exact .there .here | exact .there (.there .here) | exact .there (.there (.there .here)) | exact .there (.there (.there (.there .here))) | exact .there (.there (.there (.there (.there .here)))) | exact .there (.there (.there (.there (.there (.there .here))))) | exact .there (.there (.there (.there (.there (.there (.there .here))))))); (first | rfl | exact Arr.len _ | (simp; done)); rfl; (intro w_ hq_; (try simp only [List.set_cons_zero, List.set_cons_succ] at hq_); clear HH; have HH := hid hq_; clear hq_))
          | ((with_reducible apply wpL_storeC (t := 38)); rfl; rfl; (exact kS38); (exact HH.out); (first | exact .here | exact .there .here | exact .there (.there .here) | exact .there (.there (.there .here)) | exact .there (.there (.there (.there .here))) | exact .there (.there (.there (.there (.there .here)))) | exact .there (.there (.there (.there (.there (.there .here))))) | exact .there (.there (.there (.there (.there (.there (.there .here))))))); (first | rfl | exact Arr.len _ | (simp; done)); (first | rfl | (intro u_ hu_; simp only [List.mem_cons, List.not_mem_nil, or_false] at hu_; rcases hu_ with rfl | hu_; rfl) | exact byt_cell1 _ | exact cells_one _ | exact wrd_one _ | exact flat_cell1 _); (first | rfl | exact Arr.len _ | (simp; done)); rfl; (intro w_ hq_; (try simp only [List.set_cons_zero, List.set_cons_succ] at hq_); clear HH; have HH := hid hq_; clear hq_))
          | ((with_reducible apply wpL_move); rfl; rfl)
          | ((with_reducible apply wpL_assign); rfl; rfl)
          | ((with_reducible apply wpL_pick); rfl; rfl; rfl)
          | ((with_reducible apply wpL_not); rfl; rfl)
          | ((with_reducible apply wpL_cmp (b := true)); rfl; rfl; rfl; (first | rfl | assumption | (simp only [cmpB, decide_eq_true_eq, decide_eq_false_iff_not, beq_iff_eq, bne_iff_ne, ne_eq, beq_eq_false_iff_ne, bne_eq_false_iff_eq, gt_iff_lt, ge_iff_le]; omega) | (simp; omega)); rfl)
          | ((with_reducible apply wpL_cmp (b := false)); rfl; rfl; rfl; (first | rfl | assumption | (simp only [cmpB, decide_eq_true_eq, decide_eq_false_iff_not, beq_iff_eq, bne_iff_ne, ne_eq, beq_eq_false_iff_ne, bne_eq_false_iff_eq, gt_iff_lt, ge_iff_le]; omega) | (simp; omega)); rfl)
          | ((with_reducible apply wpL_cmp); rfl; rfl; rfl; rfl; rfl)
          | ((with_reducible apply wpL_arith); rfl; rfl; rfl; (exact IntWalk.i64_in _ (by (try simp only [arithI]); omega)); rfl)); (try simp only [arithI, Act.put, Act.eval, List.setIfInBounds_toArray, List.set_cons_succ, List.set_cons_zero, Array.getD_eq_getD_getElem?, List.getElem?_toArray, List.getElem?_cons_succ, List.getElem?_cons_zero, Option.getD_some])))
    obtain ⟨t, ht⟩ : ∃ t, (s.drop 1).take 64 = t := ⟨_, rfl⟩
    have htl : t.length = 64 := by rw [← ht, List.length_take, List.length_drop]; omega
    have HT := hid ht
    clear ht
    go_loopw [5] (IdRel w t g2_ g4_) (fun i _ => 32 - (intOf i).toNat)
    case atStart => exact ⟨[], by simp, rfl, by simp, by rw [fillA_nil]; exact HH.out⟩
    case round =>
      obtain ⟨pre, hp, rfl, hu, hr⟩ := hrel
      clear HH
      have HH := hid hr
      have HUU := hid hu
      clear hr hu
      obtain ⟨k, hk⟩ : ∃ k, pre.length = k := ⟨_, rfl⟩
      have HK := hid hk
      rw [hk] at hp
      rw [hk]
      by_cases hlt : k < 32
      · clear hk
        have ha0 : t.getD (2 * k) 0 = s.getD (1 + 2 * k) 0 := by rw [← HT.out, sub_getD (by omega)]
        have hb0 : t.getD (2 * k + 1) 0 = s.getD (2 + 2 * k) 0 := by rw [← HT.out, sub_getD (by omega)]; congr 1; omega
        obtain ⟨u, hu⟩ : ∃ u, hexV (t.getD (2 * k) 0) = u := ⟨_, rfl⟩
        obtain ⟨v, hv⟩ : ∃ v, hexV (t.getD (2 * k + 1) 0) = v := ⟨_, rfl⟩
        have bu := hexV_lt (t.getD (2 * k) 0)
        have bv := hexV_lt (t.getD (2 * k + 1) 0)
        rw [hu] at bu
        rw [hv] at bv
        have HU := hid hu
        have HV := hid hv
        have HA := hid ha0
        have HB := hid hb0
        clear hu hv ha0 hb0
        have hkt : 2 * k + 1 < t.length := by omega
        go_wp2_with (first
          | ((first
              | ((with_reducible apply wpL_skip); rfl; skip)
              | ((with_reducible apply wpL_nilCheck); rfl; rfl)
              | ((with_reducible apply wpL_loadArr (t := 38) kA38 HH.out); rfl; (first | exact .here | exact .there .here | exact .there (.there .here) | exact .there (.there (.there .here)) | exact .there (.there (.there (.there .here))) | exact .there (.there (.there (.there (.there .here)))) | exact .there (.there (.there (.there (.there (.there .here))))) | exact .there (.there (.there (.there (.there (.there (.there .here))))))); rfl)
              | ((with_reducible apply wpL_loadC (t := 38) kA38 HH.out); rfl; (first | exact .here | exact .there .here | exact .there (.there .here) | exact .there (.there (.there .here)) | exact .there (.there (.there (.there .here))) | exact .there (.there (.there (.there (.there .here)))) | exact .there (.there (.there (.there (.there (.there .here))))) | exact .there (.there (.there (.there (.there (.there (.there .here))))))); (first | rfl | exact Arr.len _ | (simp; done)); rfl)
              | ((with_reducible apply wpL_allocC (dst := some 2) kZ38 HH.out); rfl; (intro g2_ w_ hq_; (try simp only [List.set_cons_zero, List.set_cons_succ] at hq_); clear HH; have HH := hid hq_; clear hq_))
              | ((with_reducible apply wpL_allocC (dst := some 4) kZ38 HH.out); rfl; (intro g4_ w_ hq_; (try simp only [List.set_cons_zero, List.set_cons_succ] at hq_); clear HH; have HH := hid hq_; clear hq_))
              | ((with_reducible apply wpL_store1 (t := 5)); rfl; rfl; rfl; (exact kS5); (exact HH.out); (first | exact .here | exact .there .here | exact .there (.there .here) | exact .there (.there (.there .here)) | exact .there (.there (.there (.there .here))) | exact .there (.there (.there (.there (.there .here)))) | exact .there (.there (.there (.there (.there (.there .here))))) | exact .there (.there (.there (.there (.there (.there (.there .here))))))); rfl; (first | exact Nat.le_of_ble_eq_true rfl | (simp; done) | omega); rfl; (intro w_ hq_; (try simp only [List.set_cons_zero, List.set_cons_succ] at hq_); clear HH; have HH := hid hq_; clear hq_))
              | ((with_reducible apply wpL_storeArr (t := 38) kS38 HH.out); rfl; rfl; (first | exact .here | exact .there .here | exact .there (.there .here) | exact .there (.there (.there .here)) | exact .there (.there (.there (.there .here))) | exact .there (.there (.there (.there (.there .here)))) | exact .there (.there (.there (.there (.there (.there .here))))) | exact .there (.there (.there (.there (.there (.there (.there .here))))))); (first | rfl | exact Arr.len _ | (simp; done)); rfl; (intro w_ hq_; (try simp only [List.set_cons_zero, List.set_cons_succ] at hq_); clear HH; have HH := hid hq_; clear hq_))
              | ((with_reducible apply wpL_storeC (t := 38)); rfl; rfl; (exact kS38); (exact HH.out); (first | exact .here | exact .there .here | exact .there (.there .here) | exact .there (.there (.there .here)) | exact .there (.there (.there (.there .here))) | exact .there (.there (.there (.there (.there .here)))) | exact .there (.there (.there (.there (.there (.there .here))))) | exact .there (.there (.there (.there (.there (.there (.there .here))))))); (first | rfl | exact Arr.len _ | (simp; done)); (first | rfl | (intro u_ hu_; simp only [List.mem_cons, List.not_mem_nil, or_false] at hu_; rcases hu_ with rfl | hu_; rfl) | exact byt_cell1 _ | exact cells_one _ | exact wrd_one _ | exact flat_cell1 _); (first | rfl | exact Arr.len _ | (simp; done)); rfl; (intro w_ hq_; (try simp only [List.set_cons_zero, List.set_cons_succ] at hq_); clear HH; have HH := hid hq_; clear hq_))
              | ((with_reducible apply wpL_move); rfl; rfl)
              | ((with_reducible apply wpL_assign); rfl; rfl)
              | ((with_reducible apply wpL_pick); rfl; rfl; rfl)
              | ((with_reducible apply wpL_not); rfl; rfl)
              | ((with_reducible apply wpL_cmp (b := true)); rfl; rfl; rfl; (first | rfl | assumption | (simp only [cmpB, decide_eq_true_eq, decide_eq_false_iff_not, beq_iff_eq, bne_iff_ne, ne_eq, beq_eq_false_iff_ne, bne_eq_false_iff_eq, gt_iff_lt, ge_iff_le]; omega) | (simp; omega)); rfl)
              | ((with_reducible apply wpL_cmp (b := false)); rfl; rfl; rfl; (first | rfl | assumption | (simp only [cmpB, decide_eq_true_eq, decide_eq_false_iff_not, beq_iff_eq, bne_iff_ne, ne_eq, beq_eq_false_iff_ne, bne_eq_false_iff_eq, gt_iff_lt, ge_iff_le]; omega) | (simp; omega)); rfl)
              | ((with_reducible apply wpL_cmp); rfl; rfl; rfl; rfl; rfl)
              | ((with_reducible apply wpL_arith); rfl; rfl; rfl; (exact IntWalk.i64_in _ (by (try simp only [arithI]); omega)); rfl)); (try simp only [arithI, Act.put, Act.eval, List.setIfInBounds_toArray, List.set_cons_succ, List.set_cons_zero, Array.getD_eq_getD_getElem?, List.getElem?_toArray, List.getElem?_cons_succ, List.getElem?_cons_zero, Option.getD_some])))
        refine wp_region_holds (by kernel_rfl) (by kernel_rfl) HH.out ?_
        repeat ((first
          | ((with_reducible apply wpQ_skip); rfl; skip)
          | ((with_reducible apply wpQ_arith (dst := some 28) (r := ((2 * k : Nat) : Int))); rfl; rfl; rfl; (exact (by show IntKind.i64.wrap (2 * (k : Int)) = _; rw [IntWalk.i64_in _ (by omega)]; omega)); rfl)
          | ((with_reducible apply wpQ_arith (dst := some 34) (r := ((2 * k : Nat) : Int))); rfl; rfl; rfl; (exact (by show IntKind.i64.wrap (2 * (k : Int)) = _; rw [IntWalk.i64_in _ (by omega)]; omega)); rfl)
          | ((with_reducible apply wpQ_arith (dst := some 29) (r := ((1 + 2 * k : Nat) : Int))); rfl; rfl; rfl; (exact (by show IntKind.i64.wrap (1 + ((2 * k : Nat) : Int)) = _; rw [IntWalk.i64_in _ (by omega)]; omega)); rfl)
          | ((with_reducible apply wpQ_arith (dst := some 35) (r := ((2 + 2 * k : Nat) : Int))); rfl; rfl; rfl; (exact (by show IntKind.i64.wrap (2 + ((2 * k : Nat) : Int)) = _; rw [IntWalk.i64_in _ (by omega)]; omega)); rfl)
          | ((with_reducible apply wpQ_indexStr (dst := some 30) (l := s) (m := 1 + 2 * k) (v := t.getD (2 * k) 0) Try.underlying9); rfl; rfl; rfl; (exact (by omega)); (exact HA.out.symm); rfl)
          | ((with_reducible apply wpQ_indexStr (dst := some 36) (l := s) (m := 2 + 2 * k) (v := t.getD (2 * k + 1) 0) Try.underlying9); rfl; rfl; rfl; (exact (by omega)); (exact HB.out.symm); rfl)
          | ((with_reducible apply wpQ_call (f := 48) (dst := some 31) (v := .int .i64 u) (args := #[byt (t.getD (2 * k) 0)]) kB48); rfl; (intro wq hwq; exact (value_any wq _).mono fun e w' ⟨he, hb⟩ => ⟨by rw [he, HU.out], by rw [hb]; exact hwq⟩); rfl)
          | ((with_reducible apply wpQ_call (f := 48) (dst := some 37) (v := .int .i64 v) (args := #[byt (t.getD (2 * k + 1) 0)]) kB48); rfl; (intro wq hwq; exact (value_any wq _).mono fun e w' ⟨he, hb⟩ => ⟨by rw [he, HV.out], by rw [hb]; exact hwq⟩); rfl)
          | ((with_reducible apply wpQ_nilCheck); rfl; rfl)
          | ((with_reducible apply wpQ_loadArr (t := 38) kA38); rfl; (first | exact .here | exact .there .here | exact .there (.there .here) | exact .there (.there (.there .here)) | exact .there (.there (.there (.there .here))) | exact .there (.there (.there (.there (.there .here)))) | exact .there (.there (.there (.there (.there (.there .here))))) | exact .there (.there (.there (.there (.there (.there (.there .here))))))); rfl)
          | ((with_reducible apply wpQ_loadC (t := 38) kA38); rfl; (first | exact .here | exact .there .here | exact .there (.there .here) | exact .there (.there (.there .here)) | exact .there (.there (.there (.there .here))) | exact .there (.there (.there (.there (.there .here)))) | exact .there (.there (.there (.there (.there (.there .here))))) | exact .there (.there (.there (.there (.there (.there (.there .here))))))); (first | rfl | exact Arr.len _ | (simp; done)); rfl)
          | ((with_reducible apply wpQ_move); rfl; rfl)
          | ((with_reducible apply wpQ_assign); rfl; rfl)
          | ((with_reducible apply wpQ_pick); rfl; rfl; rfl)
          | ((with_reducible apply wpQ_not); rfl; rfl)
          | ((with_reducible apply wpQ_cmp (b := true)); rfl; rfl; rfl; (first | rfl | assumption | (simp only [cmpB, decide_eq_true_eq, decide_eq_false_iff_not, beq_iff_eq, bne_iff_ne, ne_eq, beq_eq_false_iff_ne, bne_eq_false_iff_eq, gt_iff_lt, ge_iff_le]; omega) | (simp; omega)); rfl)
          | ((with_reducible apply wpQ_cmp (b := false)); rfl; rfl; rfl; (first | rfl | assumption | (simp only [cmpB, decide_eq_true_eq, decide_eq_false_iff_not, beq_iff_eq, bne_iff_ne, ne_eq, beq_eq_false_iff_ne, bne_eq_false_iff_eq, gt_iff_lt, ge_iff_le]; omega) | (simp; omega)); rfl)
          | ((with_reducible apply wpQ_cmp); rfl; rfl; rfl; rfl; rfl)
          | ((with_reducible apply wpQ_arith); rfl; rfl; rfl; (exact IntWalk.i64_in _ (by (try simp only [arithI]); omega)); rfl)); (try simp only [if_true, if_false, Bool.false_eq_true, arithI, Act.put, Act.eval, List.setIfInBounds_toArray, List.set_cons_succ, List.set_cons_zero, Array.getD_eq_getD_getElem?, List.getElem?_toArray, List.getElem?_cons_succ, List.getElem?_cons_zero, Option.getD_some]))
        refine wpQuiet_nil ?_
        intro wq hq_
        have HQ := hid hq_
        clear hq_
        clear HH
        have HH := HQ
        clear HQ
        have hkk := HK.out
        by_cases hneg : u < 0
        · have HNO := hid (ident_bad (s := s) (by rw [HT.out]; exact unhexL_stop (j := 2 * k) hkt (by rw [← hkk]; exact HUU.out) (.inl (by rw [HU.out]; exact hneg))))
          clear hkk
          go_wp2_with (first
            | ((first
                | ((with_reducible apply wpL_skip); rfl; skip)
                | ((with_reducible apply wpList_build (parts := #[]) (v := Id0.val)); (exact BZ38); rfl)
                | ((with_reducible apply wpL_nilCheck); rfl; rfl)
                | ((with_reducible apply wpL_loadArr (t := 38) kA38 HH.out); rfl; (first | exact .here | exact .there .here | exact .there (.there .here) | exact .there (.there (.there .here)) | exact .there (.there (.there (.there .here))) | exact .there (.there (.there (.there (.there .here)))) | exact .there (.there (.there (.there (.there (.there .here))))) | exact .there (.there (.there (.there (.there (.there (.there .here))))))); rfl)
                | ((with_reducible apply wpL_loadC (t := 38) kA38 HH.out); rfl; (first | exact .here | exact .there .here | exact .there (.there .here) | exact .there (.there (.there .here)) | exact .there (.there (.there (.there .here))) | exact .there (.there (.there (.there (.there .here)))) | exact .there (.there (.there (.there (.there (.there .here))))) | exact .there (.there (.there (.there (.there (.there (.there .here))))))); (first | rfl | exact Arr.len _ | (simp; done)); rfl)
                | ((with_reducible apply wpL_allocC (dst := some 2) kZ38 HH.out); rfl; (intro g2_ w_ hq_; (try simp only [List.set_cons_zero, List.set_cons_succ] at hq_); clear HH; have HH := hid hq_; clear hq_))
                | ((with_reducible apply wpL_allocC (dst := some 4) kZ38 HH.out); rfl; (intro g4_ w_ hq_; (try simp only [List.set_cons_zero, List.set_cons_succ] at hq_); clear HH; have HH := hid hq_; clear hq_))
                | ((with_reducible apply wpL_store1 (t := 5)); rfl; rfl; rfl; (exact kS5); (exact HH.out); (first | exact .here | exact .there .here | exact .there (.there .here) | exact .there (.there (.there .here)) | exact .there (.there (.there (.there .here))) | exact .there (.there (.there (.there (.there .here)))) | exact .there (.there (.there (.there (.there (.there .here))))) | exact .there (.there (.there (.there (.there (.there (.there .here))))))); rfl; (first | exact Nat.le_of_ble_eq_true rfl | (simp; done) | omega); rfl; (intro w_ hq_; (try simp only [List.set_cons_zero, List.set_cons_succ] at hq_); clear HH; have HH := hid hq_; clear hq_))
                | ((with_reducible apply wpL_storeArr (t := 38) kS38 HH.out); rfl; rfl; (first | exact .here | exact .there .here | exact .there (.there .here) | exact .there (.there (.there .here)) | exact .there (.there (.there (.there .here))) | exact .there (.there (.there (.there (.there .here)))) | exact .there (.there (.there (.there (.there (.there .here))))) | exact .there (.there (.there (.there (.there (.there (.there .here))))))); (first | rfl | exact Arr.len _ | (simp; done)); rfl; (intro w_ hq_; (try simp only [List.set_cons_zero, List.set_cons_succ] at hq_); clear HH; have HH := hid hq_; clear hq_))
                | ((with_reducible apply wpL_storeC (t := 38)); rfl; rfl; (exact kS38); (exact HH.out); (first | exact .here | exact .there .here | exact .there (.there .here) | exact .there (.there (.there .here)) | exact .there (.there (.there (.there .here))) | exact .there (.there (.there (.there (.there .here)))) | exact .there (.there (.there (.there (.there (.there .here))))) | exact .there (.there (.there (.there (.there (.there (.there .here))))))); (first | rfl | exact Arr.len _ | (simp; done)); (first | rfl | (intro u_ hu_; simp only [List.mem_cons, List.not_mem_nil, or_false] at hu_; rcases hu_ with rfl | hu_; rfl) | exact byt_cell1 _ | exact cells_one _ | exact wrd_one _ | exact flat_cell1 _); (first | rfl | exact Arr.len _ | (simp; done)); rfl; (intro w_ hq_; (try simp only [List.set_cons_zero, List.set_cons_succ] at hq_); clear HH; have HH := hid hq_; clear hq_))
                | ((with_reducible apply wpL_move); rfl; rfl)
                | ((with_reducible apply wpL_assign); rfl; rfl)
                | ((with_reducible apply wpL_pick); rfl; rfl; rfl)
                | ((with_reducible apply wpL_not); rfl; rfl)
                | ((with_reducible apply wpL_cmp (b := true)); rfl; rfl; rfl; (first | rfl | assumption | (simp only [cmpB, decide_eq_true_eq, decide_eq_false_iff_not, beq_iff_eq, bne_iff_ne, ne_eq, beq_eq_false_iff_ne, bne_eq_false_iff_eq, gt_iff_lt, ge_iff_le]; omega) | (simp; omega)); rfl)
                | ((with_reducible apply wpL_cmp (b := false)); rfl; rfl; rfl; (first | rfl | assumption | (simp only [cmpB, decide_eq_true_eq, decide_eq_false_iff_not, beq_iff_eq, bne_iff_ne, ne_eq, beq_eq_false_iff_ne, bne_eq_false_iff_eq, gt_iff_lt, ge_iff_le]; omega) | (simp; omega)); rfl)
                | ((with_reducible apply wpL_cmp); rfl; rfl; rfl; rfl; rfl)
                | ((with_reducible apply wpL_arith); rfl; rfl; rfl; (exact IntWalk.i64_in _ (by (try simp only [arithI]); omega)); rfl)); (try simp only [arithI, Act.put, Act.eval, List.setIfInBounds_toArray, List.set_cons_succ, List.set_cons_zero, Array.getD_eq_getD_getElem?, List.getElem?_toArray, List.getElem?_cons_succ, List.getElem?_cons_zero, Option.getD_some])))
          refine bodyPost_ret (res2 rfl (resC kA38 HH.out (by rfl) (.there .here) (Arr.len _)) (by rfl)) rfl ?_
          exact RetId.mk (by rw [HNO.out]; rfl) (by rw [HNO.out]; rfl) HH.out.below
        · by_cases hneg2 : v < 0
          · have HNO := hid (ident_bad (s := s) (by rw [HT.out]; exact unhexL_stop (j := 2 * k) hkt (by rw [← hkk]; exact HUU.out) (.inr (by rw [HV.out]; exact hneg2))))
            clear hkk
            go_wp2_with (first
              | ((first
                  | ((with_reducible apply wpL_skip); rfl; skip)
                  | ((with_reducible apply wpList_build (parts := #[]) (v := Id0.val)); (exact BZ38); rfl)
                  | ((with_reducible apply wpL_nilCheck); rfl; rfl)
                  | ((with_reducible apply wpL_loadArr (t := 38) kA38 HH.out); rfl; (first | exact .here | exact .there .here | exact .there (.there .here) | exact .there (.there (.there .here)) | exact .there (.there (.there (.there .here))) | exact .there (.there (.there (.there (.there .here)))) | exact .there (.there (.there (.there (.there (.there .here))))) | exact .there (.there (.there (.there (.there (.there (.there .here))))))); rfl)
                  | ((with_reducible apply wpL_loadC (t := 38) kA38 HH.out); rfl; (first | exact .here | exact .there .here | exact .there (.there .here) | exact .there (.there (.there .here)) | exact .there (.there (.there (.there .here))) | exact .there (.there (.there (.there (.there .here)))) | exact .there (.there (.there (.there (.there (.there .here))))) | exact .there (.there (.there (.there (.there (.there (.there .here))))))); (first | rfl | exact Arr.len _ | (simp; done)); rfl)
                  | ((with_reducible apply wpL_allocC (dst := some 2) kZ38 HH.out); rfl; (intro g2_ w_ hq_; (try simp only [List.set_cons_zero, List.set_cons_succ] at hq_); clear HH; have HH := hid hq_; clear hq_))
                  | ((with_reducible apply wpL_allocC (dst := some 4) kZ38 HH.out); rfl; (intro g4_ w_ hq_; (try simp only [List.set_cons_zero, List.set_cons_succ] at hq_); clear HH; have HH := hid hq_; clear hq_))
                  | ((with_reducible apply wpL_store1 (t := 5)); rfl; rfl; rfl; (exact kS5); (exact HH.out); (first | exact .here | exact .there .here | exact .there (.there .here) | exact .there (.there (.there .here)) | exact .there (.there (.there (.there .here))) | exact .there (.there (.there (.there (.there .here)))) | exact .there (.there (.there (.there (.there (.there .here))))) | exact .there (.there (.there (.there (.there (.there (.there .here))))))); rfl; (first | exact Nat.le_of_ble_eq_true rfl | (simp; done) | omega); rfl; (intro w_ hq_; (try simp only [List.set_cons_zero, List.set_cons_succ] at hq_); clear HH; have HH := hid hq_; clear hq_))
                  | ((with_reducible apply wpL_storeArr (t := 38) kS38 HH.out); rfl; rfl; (first | exact .here | exact .there .here | exact .there (.there .here) | exact .there (.there (.there .here)) | exact .there (.there (.there (.there .here))) | exact .there (.there (.there (.there (.there .here)))) | exact .there (.there (.there (.there (.there (.there .here))))) | exact .there (.there (.there (.there (.there (.there (.there .here))))))); (first | rfl | exact Arr.len _ | (simp; done)); rfl; (intro w_ hq_; (try simp only [List.set_cons_zero, List.set_cons_succ] at hq_); clear HH; have HH := hid hq_; clear hq_))
                  | ((with_reducible apply wpL_storeC (t := 38)); rfl; rfl; (exact kS38); (exact HH.out); (first | exact .here | exact .there .here | exact .there (.there .here) | exact .there (.there (.there .here)) | exact .there (.there (.there (.there .here))) | exact .there (.there (.there (.there (.there .here)))) | exact .there (.there (.there (.there (.there (.there .here))))) | exact .there (.there (.there (.there (.there (.there (.there .here))))))); (first | rfl | exact Arr.len _ | (simp; done)); (first | rfl | (intro u_ hu_; simp only [List.mem_cons, List.not_mem_nil, or_false] at hu_; rcases hu_ with rfl | hu_; rfl) | exact byt_cell1 _ | exact cells_one _ | exact wrd_one _ | exact flat_cell1 _); (first | rfl | exact Arr.len _ | (simp; done)); rfl; (intro w_ hq_; (try simp only [List.set_cons_zero, List.set_cons_succ] at hq_); clear HH; have HH := hid hq_; clear hq_))
                  | ((with_reducible apply wpL_move); rfl; rfl)
                  | ((with_reducible apply wpL_assign); rfl; rfl)
                  | ((with_reducible apply wpL_pick); rfl; rfl; rfl)
                  | ((with_reducible apply wpL_not); rfl; rfl)
                  | ((with_reducible apply wpL_cmp (b := true)); rfl; rfl; rfl; (first | rfl | assumption | (simp only [cmpB, decide_eq_true_eq, decide_eq_false_iff_not, beq_iff_eq, bne_iff_ne, ne_eq, beq_eq_false_iff_ne, bne_eq_false_iff_eq, gt_iff_lt, ge_iff_le]; omega) | (simp; omega)); rfl)
                  | ((with_reducible apply wpL_cmp (b := false)); rfl; rfl; rfl; (first | rfl | assumption | (simp only [cmpB, decide_eq_true_eq, decide_eq_false_iff_not, beq_iff_eq, bne_iff_ne, ne_eq, beq_eq_false_iff_ne, bne_eq_false_iff_eq, gt_iff_lt, ge_iff_le]; omega) | (simp; omega)); rfl)
                  | ((with_reducible apply wpL_cmp); rfl; rfl; rfl; rfl; rfl)
                  | ((with_reducible apply wpL_arith); rfl; rfl; rfl; (exact IntWalk.i64_in _ (by (try simp only [arithI]); omega)); rfl)); (try simp only [arithI, Act.put, Act.eval, List.setIfInBounds_toArray, List.set_cons_succ, List.set_cons_zero, Array.getD_eq_getD_getElem?, List.getElem?_toArray, List.getElem?_cons_succ, List.getElem?_cons_zero, Option.getD_some])))
            refine bodyPost_ret (res2 rfl (resC kA38 HH.out (by rfl) (.there .here) (Arr.len _)) (by rfl)) rfl ?_
            exact RetId.mk (by rw [HNO.out]; rfl) (by rw [HNO.out]; rfl) HH.out.below
          · have HP := hid (show pairB (t.getD (2 * k) 0) (t.getD (2 * k + 1) 0) = UInt8.ofNat (u.toNat * 16 + v.toNat) by unfold pairB; rw [HU.out, HV.out])
            have HST := hid (unhexL_step (j := 2 * k) hkt (by rw [← hkk]; exact HUU.out) (by rw [HU.out]; exact hneg) (by rw [HV.out]; exact hneg2) HP.out)
            have HSET := hid (show (fillA pre).set k (UInt8.ofNat (u.toNat * 16 + v.toNat)) = fillA (pre ++ [UInt8.ofNat (u.toNat * 16 + v.toNat)]) by rw [← hkk]; exact fillA_set _ (by omega))
            have HFL := hid (show k < (fillA pre).length by rw [fillA_len (by omega)]; exact hlt)
            clear hkk
            go_wp2_with (first
              | ((first
                  | ((with_reducible apply wpL_skip); rfl; skip)
                  | ((with_reducible apply wpL_toB (m := u.toNat * 16 + v.toNat) Try.underlying3 Try.underlying5); rfl; (exact (by omega)); rfl)
                  | ((with_reducible apply wpL_indexV0 (dst := some 51) (m := k) Try.underlying38 kS5); rfl; rfl; rfl; (exact hlt); rfl)
                  | ((with_reducible apply wpL_storeAB (t := 5) (l := fillA pre) (m := k) (b := UInt8.ofNat (u.toNat * 16 + v.toNat)) (l' := fillA (pre ++ [UInt8.ofNat (u.toNat * 16 + v.toNat)])) kS5 HH.out); rfl; rfl; (exact .here); (exact HSET.out); (exact HFL.out); rfl; (intro w_ hq_; clear HH; have HH := hid hq_; clear hq_))
                  | ((with_reducible apply wpL_nilCheck); rfl; rfl)
                  | ((with_reducible apply wpL_loadArr (t := 38) kA38 HH.out); rfl; (first | exact .here | exact .there .here | exact .there (.there .here) | exact .there (.there (.there .here)) | exact .there (.there (.there (.there .here))) | exact .there (.there (.there (.there (.there .here)))) | exact .there (.there (.there (.there (.there (.there .here))))) | exact .there (.there (.there (.there (.there (.there (.there .here))))))); rfl)
                  | ((with_reducible apply wpL_loadC (t := 38) kA38 HH.out); rfl; (first | exact .here | exact .there .here | exact .there (.there .here) | exact .there (.there (.there .here)) | exact .there (.there (.there (.there .here))) | exact .there (.there (.there (.there (.there .here)))) | exact .there (.there (.there (.there (.there (.there .here))))) | exact .there (.there (.there (.there (.there (.there (.there .here))))))); (first | rfl | exact Arr.len _ | (simp; done)); rfl)
                  | ((with_reducible apply wpL_allocC (dst := some 2) kZ38 HH.out); rfl; (intro g2_ w_ hq_; (try simp only [List.set_cons_zero, List.set_cons_succ] at hq_); clear HH; have HH := hid hq_; clear hq_))
                  | ((with_reducible apply wpL_allocC (dst := some 4) kZ38 HH.out); rfl; (intro g4_ w_ hq_; (try simp only [List.set_cons_zero, List.set_cons_succ] at hq_); clear HH; have HH := hid hq_; clear hq_))
                  | ((with_reducible apply wpL_store1 (t := 5)); rfl; rfl; rfl; (exact kS5); (exact HH.out); (first | exact .here | exact .there .here | exact .there (.there .here) | exact .there (.there (.there .here)) | exact .there (.there (.there (.there .here))) | exact .there (.there (.there (.there (.there .here)))) | exact .there (.there (.there (.there (.there (.there .here))))) | exact .there (.there (.there (.there (.there (.there (.there .here))))))); rfl; (first | exact Nat.le_of_ble_eq_true rfl | (simp; done) | omega); rfl; (intro w_ hq_; (try simp only [List.set_cons_zero, List.set_cons_succ] at hq_); clear HH; have HH := hid hq_; clear hq_))
                  | ((with_reducible apply wpL_storeArr (t := 38) kS38 HH.out); rfl; rfl; (first | exact .here | exact .there .here | exact .there (.there .here) | exact .there (.there (.there .here)) | exact .there (.there (.there (.there .here))) | exact .there (.there (.there (.there (.there .here)))) | exact .there (.there (.there (.there (.there (.there .here))))) | exact .there (.there (.there (.there (.there (.there (.there .here))))))); (first | rfl | exact Arr.len _ | (simp; done)); rfl; (intro w_ hq_; (try simp only [List.set_cons_zero, List.set_cons_succ] at hq_); clear HH; have HH := hid hq_; clear hq_))
                  | ((with_reducible apply wpL_storeC (t := 38)); rfl; rfl; (exact kS38); (exact HH.out); (first | exact .here | exact .there .here | exact .there (.there .here) | exact .there (.there (.there .here)) | exact .there (.there (.there (.there .here))) | exact .there (.there (.there (.there (.there .here)))) | exact .there (.there (.there (.there (.there (.there .here))))) | exact .there (.there (.there (.there (.there (.there (.there .here))))))); (first | rfl | exact Arr.len _ | (simp; done)); (first | rfl | (intro u_ hu_; simp only [List.mem_cons, List.not_mem_nil, or_false] at hu_; rcases hu_ with rfl | hu_; rfl) | exact byt_cell1 _ | exact cells_one _ | exact wrd_one _ | exact flat_cell1 _); (first | rfl | exact Arr.len _ | (simp; done)); rfl; (intro w_ hq_; (try simp only [List.set_cons_zero, List.set_cons_succ] at hq_); clear HH; have HH := hid hq_; clear hq_))
                  | ((with_reducible apply wpL_move); rfl; rfl)
                  | ((with_reducible apply wpL_assign); rfl; rfl)
                  | ((with_reducible apply wpL_pick); rfl; rfl; rfl)
                  | ((with_reducible apply wpL_not); rfl; rfl)
                  | ((with_reducible apply wpL_cmp (b := true)); rfl; rfl; rfl; (first | rfl | assumption | (simp only [cmpB, decide_eq_true_eq, decide_eq_false_iff_not, beq_iff_eq, bne_iff_ne, ne_eq, beq_eq_false_iff_ne, bne_eq_false_iff_eq, gt_iff_lt, ge_iff_le]; omega) | (simp; omega)); rfl)
                  | ((with_reducible apply wpL_cmp (b := false)); rfl; rfl; rfl; (first | rfl | assumption | (simp only [cmpB, decide_eq_true_eq, decide_eq_false_iff_not, beq_iff_eq, bne_iff_ne, ne_eq, beq_eq_false_iff_ne, bne_eq_false_iff_eq, gt_iff_lt, ge_iff_le]; omega) | (simp; omega)); rfl)
                  | ((with_reducible apply wpL_cmp); rfl; rfl; rfl; rfl; rfl)
                  | ((with_reducible apply wpL_arith); rfl; rfl; rfl; (exact IntWalk.i64_in _ (by (try simp only [arithI]); omega)); rfl)); (try simp only [arithI, Act.put, Act.eval, List.setIfInBounds_toArray, List.set_cons_succ, List.set_cons_zero, Array.getD_eq_getD_getElem?, List.getElem?_toArray, List.getElem?_cons_succ, List.getElem?_cons_zero, Option.getD_some])))
            go_roundw
            case rel => exact ⟨pre ++ [UInt8.ofNat (u.toNat * 16 + v.toNat)], by rw [List.length_append, HK.out]; simp; omega, by rw [List.length_append, HK.out]; first | (simp; done) | (simp; go_num) | go_num, by rw [List.length_append, HK.out, show 2 * (k + [UInt8.ofNat (u.toNat * 16 + v.toNat)].length) = 2 * k + 2 by simp; omega]; exact HST.out, HH.out⟩
            case measure => simp [intOf]; omega
      · have hk32 : k = 32 := by omega
        have hend := unhexL_end (s := t) (pre := pre) (j := 2 * pre.length) (by omega) HUU.out
        obtain ⟨x, hx, hid'⟩ := ident_mk H1.out H2e.out H3e.out (by rw [HT.out]; exact hend)
        subst hx
        have h0 := HH.out
        rw [fillA_full] at h0
        have HID := hid hid'
        clear HH hend hid' hk
        have HH := hid (show Holds w [] [(g4_, objC x.cells 38), (g2_, objC (Arr.zero 32).cells 38)] [] wr from h0)
        clear h0
        go_wp2_with (first
          | ((first
              | ((with_reducible apply wpL_skip); rfl; skip)
              | ((with_reducible apply wpL_nilCheck); rfl; rfl)
              | ((with_reducible apply wpL_loadArr (t := 38) kA38 HH.out); rfl; (first | exact .here | exact .there .here | exact .there (.there .here) | exact .there (.there (.there .here)) | exact .there (.there (.there (.there .here))) | exact .there (.there (.there (.there (.there .here)))) | exact .there (.there (.there (.there (.there (.there .here))))) | exact .there (.there (.there (.there (.there (.there (.there .here))))))); rfl)
              | ((with_reducible apply wpL_loadC (t := 38) kA38 HH.out); rfl; (first | exact .here | exact .there .here | exact .there (.there .here) | exact .there (.there (.there .here)) | exact .there (.there (.there (.there .here))) | exact .there (.there (.there (.there (.there .here)))) | exact .there (.there (.there (.there (.there (.there .here))))) | exact .there (.there (.there (.there (.there (.there (.there .here))))))); (first | rfl | exact Arr.len _ | (simp; done)); rfl)
              | ((with_reducible apply wpL_allocC (dst := some 2) kZ38 HH.out); rfl; (intro g2_ w_ hq_; (try simp only [List.set_cons_zero, List.set_cons_succ] at hq_); clear HH; have HH := hid hq_; clear hq_))
              | ((with_reducible apply wpL_allocC (dst := some 4) kZ38 HH.out); rfl; (intro g4_ w_ hq_; (try simp only [List.set_cons_zero, List.set_cons_succ] at hq_); clear HH; have HH := hid hq_; clear hq_))
              | ((with_reducible apply wpL_store1 (t := 5)); rfl; rfl; rfl; (exact kS5); (exact HH.out); (first | exact .here | exact .there .here | exact .there (.there .here) | exact .there (.there (.there .here)) | exact .there (.there (.there (.there .here))) | exact .there (.there (.there (.there (.there .here)))) | exact .there (.there (.there (.there (.there (.there .here))))) | exact .there (.there (.there (.there (.there (.there (.there .here))))))); rfl; (first | exact Nat.le_of_ble_eq_true rfl | (simp; done) | omega); rfl; (intro w_ hq_; (try simp only [List.set_cons_zero, List.set_cons_succ] at hq_); clear HH; have HH := hid hq_; clear hq_))
              | ((with_reducible apply wpL_storeArr (t := 38) kS38 HH.out); rfl; rfl; (first | exact .here | exact .there .here | exact .there (.there .here) | exact .there (.there (.there .here)) | exact .there (.there (.there (.there .here))) | exact .there (.there (.there (.there (.there .here)))) | exact .there (.there (.there (.there (.there (.there .here))))) | exact .there (.there (.there (.there (.there (.there (.there .here))))))); (first | rfl | exact Arr.len _ | (simp; done)); rfl; (intro w_ hq_; (try simp only [List.set_cons_zero, List.set_cons_succ] at hq_); clear HH; have HH := hid hq_; clear hq_))
              | ((with_reducible apply wpL_storeC (t := 38)); rfl; rfl; (exact kS38); (exact HH.out); (first | exact .here | exact .there .here | exact .there (.there .here) | exact .there (.there (.there .here)) | exact .there (.there (.there (.there .here))) | exact .there (.there (.there (.there (.there .here)))) | exact .there (.there (.there (.there (.there (.there .here))))) | exact .there (.there (.there (.there (.there (.there (.there .here))))))); (first | rfl | exact Arr.len _ | (simp; done)); (first | rfl | (intro u_ hu_; simp only [List.mem_cons, List.not_mem_nil, or_false] at hu_; rcases hu_ with rfl | hu_; rfl) | exact byt_cell1 _ | exact cells_one _ | exact wrd_one _ | exact flat_cell1 _); (first | rfl | exact Arr.len _ | (simp; done)); rfl; (intro w_ hq_; (try simp only [List.set_cons_zero, List.set_cons_succ] at hq_); clear HH; have HH := hid hq_; clear hq_))
              | ((with_reducible apply wpL_move); rfl; rfl)
              | ((with_reducible apply wpL_assign); rfl; rfl)
              | ((with_reducible apply wpL_pick); rfl; rfl; rfl)
              | ((with_reducible apply wpL_not); rfl; rfl)
              | ((with_reducible apply wpL_cmp (b := true)); rfl; rfl; rfl; (first | rfl | assumption | (simp only [cmpB, decide_eq_true_eq, decide_eq_false_iff_not, beq_iff_eq, bne_iff_ne, ne_eq, beq_eq_false_iff_ne, bne_eq_false_iff_eq, gt_iff_lt, ge_iff_le]; omega) | (simp; omega)); rfl)
              | ((with_reducible apply wpL_cmp (b := false)); rfl; rfl; rfl; (first | rfl | assumption | (simp only [cmpB, decide_eq_true_eq, decide_eq_false_iff_not, beq_iff_eq, bne_iff_ne, ne_eq, beq_eq_false_iff_ne, bne_eq_false_iff_eq, gt_iff_lt, ge_iff_le]; omega) | (simp; omega)); rfl)
              | ((with_reducible apply wpL_cmp); rfl; rfl; rfl; rfl; rfl)
              | ((with_reducible apply wpL_arith); rfl; rfl; rfl; (exact IntWalk.i64_in _ (by (try simp only [arithI]); omega)); rfl)); (try simp only [arithI, Act.put, Act.eval, List.setIfInBounds_toArray, List.set_cons_succ, List.set_cons_zero, Array.getD_eq_getD_getElem?, List.getElem?_toArray, List.getElem?_cons_succ, List.getElem?_cons_zero, Option.getD_some])))
        refine bodyPost_ret (res2 rfl (resC kA38 HH.out (by rfl) (.there .here) (Arr.len _)) (by rfl)) rfl ?_
        exact RetId.mk (by rw [HID.out]; rfl) (by rw [HID.out]; rfl) HH.out.below
  · have HNO := hid (ident_none hc)
    rcases ident_head hc with h1 | ⟨h1, h2⟩ | ⟨h1, h2, h3⟩
    · clear hc
      go_enter Try.func41, Try.ntmps41
      go_wp2_with (first
        | ((first
            | ((with_reducible apply wpL_skip); rfl; skip)
            | ((with_reducible apply wpL_lenStr (l := s) Try.underlying9); rfl; rfl)
            | ((with_reducible apply wpL_nilCheck); rfl; rfl)
            | ((with_reducible apply wpL_loadArr (t := 38) kA38 HH.out); rfl; (first | exact .here | exact .there .here | exact .there (.there .here) | exact .there (.there (.there .here)) | exact .there (.there (.there (.there .here))) | exact .there (.there (.there (.there (.there .here)))) | exact .there (.there (.there (.there (.there (.there .here))))) | exact .there (.there (.there (.there (.there (.there (.there .here))))))); rfl)
            | ((with_reducible apply wpL_loadC (t := 38) kA38 HH.out); rfl; (first | exact .here | exact .there .here | exact .there (.there .here) | exact .there (.there (.there .here)) | exact .there (.there (.there (.there .here))) | exact .there (.there (.there (.there (.there .here)))) | exact .there (.there (.there (.there (.there (.there .here))))) | exact .there (.there (.there (.there (.there (.there (.there .here))))))); (first | rfl | exact Arr.len _ | (simp; done)); rfl)
            | ((with_reducible apply wpL_allocC (dst := some 2) kZ38 HH.out); rfl; (intro g2_ w_ hq_; (try simp only [List.set_cons_zero, List.set_cons_succ] at hq_); clear HH; have HH := hid hq_; clear hq_))
            | ((with_reducible apply wpL_allocC (dst := some 4) kZ38 HH.out); rfl; (intro g4_ w_ hq_; (try simp only [List.set_cons_zero, List.set_cons_succ] at hq_); clear HH; have HH := hid hq_; clear hq_))
            | ((with_reducible apply wpL_store1 (t := 5)); rfl; rfl; rfl; (exact kS5); (exact HH.out); (first | exact .here | exact .there .here | exact .there (.there .here) | exact .there (.there (.there .here)) | exact .there (.there (.there (.there .here))) | exact .there (.there (.there (.there (.there .here)))) | exact .there (.there (.there (.there (.there (.there .here))))) | exact .there (.there (.there (.there (.there (.there (.there .here))))))); rfl; (first | exact Nat.le_of_ble_eq_true rfl | (simp; done) | omega); rfl; (intro w_ hq_; (try simp only [List.set_cons_zero, List.set_cons_succ] at hq_); clear HH; have HH := hid hq_; clear hq_))
            | ((with_reducible apply wpL_storeArr (t := 38) kS38 HH.out); rfl; rfl; (first | exact .here | exact .there .here | exact .there (.there .here) | exact .there (.there (.there .here)) | exact .there (.there (.there (.there .here))) | exact .there (.there (.there (.there (.there .here)))) | exact .there (.there (.there (.there (.there (.there .here))))) | exact .there (.there (.there (.there (.there (.there (.there .here))))))); (first | rfl | exact Arr.len _ | (simp; done)); rfl; (intro w_ hq_; (try simp only [List.set_cons_zero, List.set_cons_succ] at hq_); clear HH; have HH := hid hq_; clear hq_))
            | ((with_reducible apply wpL_storeC (t := 38)); rfl; rfl; (exact kS38); (exact HH.out); (first | exact .here | exact .there .here | exact .there (.there .here) | exact .there (.there (.there .here)) | exact .there (.there (.there (.there .here))) | exact .there (.there (.there (.there (.there .here)))) | exact .there (.there (.there (.there (.there (.there .here))))) | exact .there (.there (.there (.there (.there (.there (.there .here))))))); (first | rfl | exact Arr.len _ | (simp; done)); (first | rfl | (intro u_ hu_; simp only [List.mem_cons, List.not_mem_nil, or_false] at hu_; rcases hu_ with rfl | hu_; rfl) | exact byt_cell1 _ | exact cells_one _ | exact wrd_one _ | exact flat_cell1 _); (first | rfl | exact Arr.len _ | (simp; done)); rfl; (intro w_ hq_; (try simp only [List.set_cons_zero, List.set_cons_succ] at hq_); clear HH; have HH := hid hq_; clear hq_))
            | ((with_reducible apply wpL_move); rfl; rfl)
            | ((with_reducible apply wpL_assign); rfl; rfl)
            | ((with_reducible apply wpL_pick); rfl; rfl; rfl)
            | ((with_reducible apply wpL_not); rfl; rfl)
            | ((with_reducible apply wpL_cmp (b := true)); rfl; rfl; rfl; (first | rfl | assumption | (simp only [cmpB, decide_eq_true_eq, decide_eq_false_iff_not, beq_iff_eq, bne_iff_ne, ne_eq, beq_eq_false_iff_ne, bne_eq_false_iff_eq, gt_iff_lt, ge_iff_le]; omega) | (simp; omega)); rfl)
            | ((with_reducible apply wpL_cmp (b := false)); rfl; rfl; rfl; (first | rfl | assumption | (simp only [cmpB, decide_eq_true_eq, decide_eq_false_iff_not, beq_iff_eq, bne_iff_ne, ne_eq, beq_eq_false_iff_ne, bne_eq_false_iff_eq, gt_iff_lt, ge_iff_le]; omega) | (simp; omega)); rfl)
            | ((with_reducible apply wpL_cmp); rfl; rfl; rfl; rfl; rfl)
            | ((with_reducible apply wpL_arith); rfl; rfl; rfl; (exact IntWalk.i64_in _ (by (try simp only [arithI]); omega)); rfl)); (try simp only [arithI, Act.put, Act.eval, List.setIfInBounds_toArray, List.set_cons_succ, List.set_cons_zero, Array.getD_eq_getD_getElem?, List.getElem?_toArray, List.getElem?_cons_succ, List.getElem?_cons_zero, Option.getD_some])))
      refine bodyPost_ret (res2 rfl (resC kA38 HH.out (by rfl) (.there .here) (Arr.len _)) (by rfl)) rfl ?_
      exact RetId.mk (by rw [HNO.out]; rfl) (by rw [HNO.out]; rfl) HH.out.below
    · have H1 := hid h1
      have H2 := hid h2
      have l2 : 71 ≤ s.length := by omega
      clear hc h1 h2
      go_enter Try.func41, Try.ntmps41
      go_wp2_with (first
        | ((first
            | ((with_reducible apply wpL_skip); rfl; skip)
            | ((with_reducible apply wpL_lenStrN (l := s) (n := 71) Try.underlying9); rfl; (exact H1.out); rfl)
            | ((with_reducible apply wpL_indexStr (l := s) (m := 0) (v := s.getD 0 0) Try.underlying9); rfl; rfl; rfl; (exact (by omega)); rfl; rfl)
            | ((with_reducible apply wpL_neqB (b := s.getD 0 0) (c := 60) (r := true)); rfl; rfl; (exact H2.out); rfl)
            | ((with_reducible apply wpL_nilCheck); rfl; rfl)
            | ((with_reducible apply wpL_loadArr (t := 38) kA38 HH.out); rfl; (first | exact .here | exact .there .here | exact .there (.there .here) | exact .there (.there (.there .here)) | exact .there (.there (.there (.there .here))) | exact .there (.there (.there (.there (.there .here)))) | exact .there (.there (.there (.there (.there (.there .here))))) | exact .there (.there (.there (.there (.there (.there (.there .here))))))); rfl)
            | ((with_reducible apply wpL_loadC (t := 38) kA38 HH.out); rfl; (first | exact .here | exact .there .here | exact .there (.there .here) | exact .there (.there (.there .here)) | exact .there (.there (.there (.there .here))) | exact .there (.there (.there (.there (.there .here)))) | exact .there (.there (.there (.there (.there (.there .here))))) | exact .there (.there (.there (.there (.there (.there (.there .here))))))); (first | rfl | exact Arr.len _ | (simp; done)); rfl)
            | ((with_reducible apply wpL_allocC (dst := some 2) kZ38 HH.out); rfl; (intro g2_ w_ hq_; (try simp only [List.set_cons_zero, List.set_cons_succ] at hq_); clear HH; have HH := hid hq_; clear hq_))
            | ((with_reducible apply wpL_allocC (dst := some 4) kZ38 HH.out); rfl; (intro g4_ w_ hq_; (try simp only [List.set_cons_zero, List.set_cons_succ] at hq_); clear HH; have HH := hid hq_; clear hq_))
            | ((with_reducible apply wpL_store1 (t := 5)); rfl; rfl; rfl; (exact kS5); (exact HH.out); (first | exact .here | exact .there .here | exact .there (.there .here) | exact .there (.there (.there .here)) | exact .there (.there (.there (.there .here))) | exact .there (.there (.there (.there (.there .here)))) | exact .there (.there (.there (.there (.there (.there .here))))) | exact .there (.there (.there (.there (.there (.there (.there .here))))))); rfl; (first | exact Nat.le_of_ble_eq_true rfl | (simp; done) | omega); rfl; (intro w_ hq_; (try simp only [List.set_cons_zero, List.set_cons_succ] at hq_); clear HH; have HH := hid hq_; clear hq_))
            | ((with_reducible apply wpL_storeArr (t := 38) kS38 HH.out); rfl; rfl; (first | exact .here | exact .there .here | exact .there (.there .here) | exact .there (.there (.there .here)) | exact .there (.there (.there (.there .here))) | exact .there (.there (.there (.there (.there .here)))) | exact .there (.there (.there (.there (.there (.there .here))))) | exact .there (.there (.there (.there (.there (.there (.there .here))))))); (first | rfl | exact Arr.len _ | (simp; done)); rfl; (intro w_ hq_; (try simp only [List.set_cons_zero, List.set_cons_succ] at hq_); clear HH; have HH := hid hq_; clear hq_))
            | ((with_reducible apply wpL_storeC (t := 38)); rfl; rfl; (exact kS38); (exact HH.out); (first | exact .here | exact .there .here | exact .there (.there .here) | exact .there (.there (.there .here)) | exact .there (.there (.there (.there .here))) | exact .there (.there (.there (.there (.there .here)))) | exact .there (.there (.there (.there (.there (.there .here))))) | exact .there (.there (.there (.there (.there (.there (.there .here))))))); (first | rfl | exact Arr.len _ | (simp; done)); (first | rfl | (intro u_ hu_; simp only [List.mem_cons, List.not_mem_nil, or_false] at hu_; rcases hu_ with rfl | hu_; rfl) | exact byt_cell1 _ | exact cells_one _ | exact wrd_one _ | exact flat_cell1 _); (first | rfl | exact Arr.len _ | (simp; done)); rfl; (intro w_ hq_; (try simp only [List.set_cons_zero, List.set_cons_succ] at hq_); clear HH; have HH := hid hq_; clear hq_))
            | ((with_reducible apply wpL_move); rfl; rfl)
            | ((with_reducible apply wpL_assign); rfl; rfl)
            | ((with_reducible apply wpL_pick); rfl; rfl; rfl)
            | ((with_reducible apply wpL_not); rfl; rfl)
            | ((with_reducible apply wpL_cmp (b := true)); rfl; rfl; rfl; (first | rfl | assumption | (simp only [cmpB, decide_eq_true_eq, decide_eq_false_iff_not, beq_iff_eq, bne_iff_ne, ne_eq, beq_eq_false_iff_ne, bne_eq_false_iff_eq, gt_iff_lt, ge_iff_le]; omega) | (simp; omega)); rfl)
            | ((with_reducible apply wpL_cmp (b := false)); rfl; rfl; rfl; (first | rfl | assumption | (simp only [cmpB, decide_eq_true_eq, decide_eq_false_iff_not, beq_iff_eq, bne_iff_ne, ne_eq, beq_eq_false_iff_ne, bne_eq_false_iff_eq, gt_iff_lt, ge_iff_le]; omega) | (simp; omega)); rfl)
            | ((with_reducible apply wpL_cmp); rfl; rfl; rfl; rfl; rfl)
            | ((with_reducible apply wpL_arith); rfl; rfl; rfl; (exact IntWalk.i64_in _ (by (try simp only [arithI]); omega)); rfl)); (try simp only [arithI, Act.put, Act.eval, List.setIfInBounds_toArray, List.set_cons_succ, List.set_cons_zero, Array.getD_eq_getD_getElem?, List.getElem?_toArray, List.getElem?_cons_succ, List.getElem?_cons_zero, Option.getD_some])))
      refine bodyPost_ret (res2 rfl (resC kA38 HH.out (by rfl) (.there .here) (Arr.len _)) (by rfl)) rfl ?_
      exact RetId.mk (by rw [HNO.out]; rfl) (by rw [HNO.out]; rfl) HH.out.below
    · have H1 := hid h1
      have H2 := hid h2
      have H3 := hid h3
      have l2 : 71 ≤ s.length := by omega
      clear hc h1 h2 h3
      go_enter Try.func41, Try.ntmps41
      go_wp2_with (first
        | ((first
            | ((with_reducible apply wpL_skip); rfl; skip)
            | ((with_reducible apply wpL_lenStrN (l := s) (n := 71) Try.underlying9); rfl; (exact H1.out); rfl)
            | ((with_reducible apply wpL_indexStr (l := s) (m := 0) (v := s.getD 0 0) Try.underlying9); rfl; rfl; rfl; (exact (by omega)); rfl; rfl)
            | ((with_reducible apply wpL_neqB (b := s.getD 0 0) (c := 60) (r := false)); rfl; rfl; (exact H2.out); rfl)
            | ((with_reducible apply wpL_sliceStr (l := s) (m := s.drop 65) (i := 65) (j := s.length) Try.underlying9); rfl; (exact .inr ⟨_, rfl⟩); (exact .inl ⟨rfl, rfl⟩); (exact (by omega)); (exact Nat.le_refl _); (exact H65.out); rfl)
            | ((with_reducible apply wpL_neqStr (b := true) (l := s.drop 65) (m := closing) Try.underlying9); rfl; rfl; (exact H3.out); rfl)
            | ((with_reducible apply wpL_nilCheck); rfl; rfl)
            | ((with_reducible apply wpL_loadArr (t := 38) kA38 HH.out); rfl; (first | exact .here | exact .there .here | exact .there (.there .here) | exact .there (.there (.there .here)) | exact .there (.there (.there (.there .here))) | exact .there (.there (.there (.there (.there .here)))) | exact .there (.there (.there (.there (.there (.there .here))))) | exact .there (.there (.there (.there (.there (.there (.there .here))))))); rfl)
            | ((with_reducible apply wpL_loadC (t := 38) kA38 HH.out); rfl; (first | exact .here | exact .there .here | exact .there (.there .here) | exact .there (.there (.there .here)) | exact .there (.there (.there (.there .here))) | exact .there (.there (.there (.there (.there .here)))) | exact .there (.there (.there (.there (.there (.there .here))))) | exact .there (.there (.there (.there (.there (.there (.there .here))))))); (first | rfl | exact Arr.len _ | (simp; done)); rfl)
            | ((with_reducible apply wpL_allocC (dst := some 2) kZ38 HH.out); rfl; (intro g2_ w_ hq_; (try simp only [List.set_cons_zero, List.set_cons_succ] at hq_); clear HH; have HH := hid hq_; clear hq_))
            | ((with_reducible apply wpL_allocC (dst := some 4) kZ38 HH.out); rfl; (intro g4_ w_ hq_; (try simp only [List.set_cons_zero, List.set_cons_succ] at hq_); clear HH; have HH := hid hq_; clear hq_))
            | ((with_reducible apply wpL_store1 (t := 5)); rfl; rfl; rfl; (exact kS5); (exact HH.out); (first | exact .here | exact .there .here | exact .there (.there .here) | exact .there (.there (.there .here)) | exact .there (.there (.there (.there .here))) | exact .there (.there (.there (.there (.there .here)))) | exact .there (.there (.there (.there (.there (.there .here))))) | exact .there (.there (.there (.there (.there (.there (.there .here))))))); rfl; (first | exact Nat.le_of_ble_eq_true rfl | (simp; done) | omega); rfl; (intro w_ hq_; (try simp only [List.set_cons_zero, List.set_cons_succ] at hq_); clear HH; have HH := hid hq_; clear hq_))
            | ((with_reducible apply wpL_storeArr (t := 38) kS38 HH.out); rfl; rfl; (first | exact .here | exact .there .here | exact .there (.there .here) | exact .there (.there (.there .here)) | exact .there (.there (.there (.there .here))) | exact .there (.there (.there (.there (.there .here)))) | exact .there (.there (.there (.there (.there (.there .here))))) | exact .there (.there (.there (.there (.there (.there (.there .here))))))); (first | rfl | exact Arr.len _ | (simp; done)); rfl; (intro w_ hq_; (try simp only [List.set_cons_zero, List.set_cons_succ] at hq_); clear HH; have HH := hid hq_; clear hq_))
            | ((with_reducible apply wpL_storeC (t := 38)); rfl; rfl; (exact kS38); (exact HH.out); (first | exact .here | exact .there .here | exact .there (.there .here) | exact .there (.there (.there .here)) | exact .there (.there (.there (.there .here))) | exact .there (.there (.there (.there (.there .here)))) | exact .there (.there (.there (.there (.there (.there .here))))) | exact .there (.there (.there (.there (.there (.there (.there .here))))))); (first | rfl | exact Arr.len _ | (simp; done)); (first | rfl | (intro u_ hu_; simp only [List.mem_cons, List.not_mem_nil, or_false] at hu_; rcases hu_ with rfl | hu_; rfl) | exact byt_cell1 _ | exact cells_one _ | exact wrd_one _ | exact flat_cell1 _); (first | rfl | exact Arr.len _ | (simp; done)); rfl; (intro w_ hq_; (try simp only [List.set_cons_zero, List.set_cons_succ] at hq_); clear HH; have HH := hid hq_; clear hq_))
            | ((with_reducible apply wpL_move); rfl; rfl)
            | ((with_reducible apply wpL_assign); rfl; rfl)
            | ((with_reducible apply wpL_pick); rfl; rfl; rfl)
            | ((with_reducible apply wpL_not); rfl; rfl)
            | ((with_reducible apply wpL_cmp (b := true)); rfl; rfl; rfl; (first | rfl | assumption | (simp only [cmpB, decide_eq_true_eq, decide_eq_false_iff_not, beq_iff_eq, bne_iff_ne, ne_eq, beq_eq_false_iff_ne, bne_eq_false_iff_eq, gt_iff_lt, ge_iff_le]; omega) | (simp; omega)); rfl)
            | ((with_reducible apply wpL_cmp (b := false)); rfl; rfl; rfl; (first | rfl | assumption | (simp only [cmpB, decide_eq_true_eq, decide_eq_false_iff_not, beq_iff_eq, bne_iff_ne, ne_eq, beq_eq_false_iff_ne, bne_eq_false_iff_eq, gt_iff_lt, ge_iff_le]; omega) | (simp; omega)); rfl)
            | ((with_reducible apply wpL_cmp); rfl; rfl; rfl; rfl; rfl)
            | ((with_reducible apply wpL_arith); rfl; rfl; rfl; (exact IntWalk.i64_in _ (by (try simp only [arithI]); omega)); rfl)); (try simp only [arithI, Act.put, Act.eval, List.setIfInBounds_toArray, List.set_cons_succ, List.set_cons_zero, Array.getD_eq_getD_getElem?, List.getElem?_toArray, List.getElem?_cons_succ, List.getElem?_cons_zero, Option.getD_some])))
      refine bodyPost_ret (res2 rfl (resC kA38 HH.out (by rfl) (.there .here) (Arr.len _)) (by rfl)) rfl ?_
      exact RetId.mk (by rw [HNO.out]; rfl) (by rw [HNO.out]; rfl) HH.out.below
end Go.Proofs.Ytohdkmgnnncpkaa
