/- load of sha256, schedule of the reference. Condition: the bytes are 64 at least. -/
import Derived.Test.YtgkfopodhikckaaS4
set_option linter.unusedSimpArgs false
set_option linter.unusedVariables false
namespace Go.Proofs.Ytgkfopodhikckaa
open Go.RowKit
theorem E22 : Elem Try.prog 22 5 1 1 := Elem.mk' (.int .u8 0) Try.underlying22 (by kernel_rfl) (by kernel_rfl) (by omega) (by omega)
theorem O5 : OneT Try.prog 5 := ⟨_, Try.underlying5, rfl⟩
/-- A slice of bytes that is read. -/
abbrev Byts (w : World) (v : Value) (l : List UInt8) : Prop := Sl w v 1 l.length (l.map byt)
theorem Byts.at {w : World} {a : Addr} {cap : Nat} {l : List UInt8} (h : Byts w (.slice (some a) l.length cap) l) {j : Nat} (hj : j < l.length) : w.cell? (a.add j) = some (byt (l.getD j 0)) :=
  h.cell j _ (by simp [hj])
section
variable {w0 : World} {S : List Nat} {bs : List (Nat × Obj)} {rows : List Row} {ops : Array Oper} {rest : List Oper} {a : Act} {dst : Option Tmp} {ty : TypeId} {pos : String} {after : Array Edge} {guard : Option (Nat × Bool)} {K : Act → Prop} {P : Program} {C : World → Prop}
theorem wpQ_idxB {t e : TypeId} {bytes : Nat} (hE : Elem P t e 1 bytes) {x i : Operand} {ad : Addr} {n c j : Nat} {q : Int} {k : IntKind} (hx : a.eval x = .slice (some ad) n c) (hi : a.eval i = .int k q) (hq : q = (j : Int)) (hj : j < n)
    (hg : Region.wanted { dst := dst, op := .indexAddr t x i, type := ty, pos := pos, after := after, guard := guard } (yielded ops a.tmps) = true)
    (h : wpQuiet P ops C K rest (a.put dst (.pointer (some (ad.add j))))) : wpQuiet P ops C K ({ dst := dst, op := .indexAddr t x i, type := ty, pos := pos, after := after, guard := guard } :: rest) a :=
  wpQ_index hE hx hi hq hj hg (by rw [Nat.mul_one]; exact h)
theorem wpQ_loadB {t : TypeId} (hA : OneT P t) {x : Operand} {ad : Addr} {v : Value} (hx : a.eval x = .pointer (some ad)) (hc : ∀ w, C w → w.cell? ad = some v)
    (hg : Region.wanted { dst := dst, op := .load t x, type := ty, pos := pos, after := after, guard := guard } (yielded ops a.tmps) = true)
    (h : wpQuiet P ops C K rest (a.put dst v)) : wpQuiet P ops C K ({ dst := dst, op := .load t x, type := ty, pos := pos, after := after, guard := guard } :: rest) a := by
  obtain ⟨d, hu, hd⟩ := hA
  exact wpQuiet_ex hg (fun w hw => ex_load_one hx hu hd (hc w hw)) h
end
/-- The word of four bytes. -/
def w4 (l : List UInt8) (k : Nat) : W32 := b2w (l.getD k 0) <<< 24 ||| b2w (l.getD (k + 1) 0) <<< 16 ||| b2w (l.getD (k + 2) 0) <<< 8 ||| b2w (l.getD (k + 3) 0)
/-- The first i of n words are told. -/
def fillL (f : Nat → W32) (n i : Nat) : List W32 := (List.range n).map fun j => if j < i then f j else 0
theorem fillL_len (f : Nat → W32) (n i : Nat) : (fillL f n i).length = n := by simp [fillL]
theorem fillL_get {f : Nat → W32} {n i j : Nat} (h : j < i) (hn : j < n) : (fillL f n i).getD j 0 = f j := by simp [fillL, hn, h]
theorem fillL_zero (f : Nat → W32) (n : Nat) : fillL f n 0 = List.replicate n 0 := by
  apply List.ext_getElem? ; intro j
  simp only [fillL, List.getElem?_map, List.getElem?_range, Nat.not_lt_zero, if_false, List.getElem?_replicate]
  by_cases h : j < n
  · simp [h]
  · simp [h]
theorem fillL_set (f : Nat → W32) {n i : Nat} (h : i < n) : (fillL f n i).set i (f i) = fillL f n (i + 1) := by
  apply List.ext_getElem
  · simp [fillL]
  · intro j h1 h2
    rw [List.getElem_set]
    simp only [fillL, List.getElem_map, List.getElem_range]
    by_cases hij : i = j
    · subst hij; simp
    · rw [if_neg hij]
      by_cases hj : j < i
      · rw [if_pos hj, if_pos (by omega)]
      · rw [if_neg hj, if_neg (by omega)]
theorem fillL_full (f : Nat → W32) (n : Nat) : fillL f n n = (List.range n).map f := by
  unfold fillL
  apply List.map_congr_left
  intro j hj
  rw [if_pos (by simpa using hj)]
def loadL (l : List UInt8) : List W32 := (List.range 16).map fun i => w4 l (4 * i)
theorem Z138 : (Try.prog.info? 138).map (·.zero) = some (some (.agg ((List.replicate 16 (0 : W32)).map wrd).toArray)) := by kernel_rfl
theorem S138 : (Try.prog.info? 138).map (·.size) = some 16 := by kernel_rfl
def LoadRel (w : World) (l : List UInt8) (g2 g3 : Nat) (i : Value) (wr : World) : Prop :=
  ∃ t : Nat, t ≤ 16 ∧ i = .int .i64 t ∧ Holds w [] [(g3, objC ((fillL (fun i => w4 l (4 * i)) 16 t).map wrd) 138), (g2, objC ((List.replicate 16 (0 : W32)).map wrd) 138)] [] wr
set_option maxRecDepth 100000 in
set_option maxHeartbeats 2000000 in
theorem load_any (w : World) (v : Value) (l : List UInt8) (hl : Byts w v l) (hlen : 64 ≤ l.length) : Calls Try.prog 80 #[v] w (RetL w (loadL l)) := by
  obtain ⟨ad, cap, rfl⟩ := hl.some (by omega)
  have HL := hid hl
  clear hl
  have HH := hid (Holds.init w)
  go_enter Try.func80, Try.ntmps80
  go_wp2_with (first
    | ((first
        | ((with_reducible apply wpL_skip); rfl; skip)
        | ((with_reducible apply wpL_allocC (dst := some 2) Z138 HH.out); rfl; (intro g2 w_ hq_; clear HH; have HH := hid hq_; clear hq_))
        | ((with_reducible apply wpL_allocC (dst := some 3) Z138 HH.out); rfl; (intro g3 w_ hq_; clear HH; have HH := hid hq_; clear hq_))
        | ((with_reducible apply wpL_move); rfl; rfl)
        | ((with_reducible apply wpL_assign); rfl; rfl)
        | ((with_reducible apply wpL_pick); rfl; rfl; rfl)
        | ((with_reducible apply wpL_not); rfl; rfl)
        | ((with_reducible apply wpL_cmp (b := true)); rfl; rfl; rfl; (first | rfl | assumption | (simp only [cmpB, decide_eq_true_eq, decide_eq_false_iff_not, beq_iff_eq, bne_iff_ne, ne_eq, beq_eq_false_iff_ne, bne_eq_false_iff_eq, gt_iff_lt, ge_iff_le]; omega) | (simp; omega)); rfl)
        | ((with_reducible apply wpL_cmp (b := false)); rfl; rfl; rfl; (first | rfl | assumption | (simp only [cmpB, decide_eq_true_eq, decide_eq_false_iff_not, beq_iff_eq, bne_iff_ne, ne_eq, beq_eq_false_iff_ne, bne_eq_false_iff_eq, gt_iff_lt, ge_iff_le]; omega) | (simp; omega)); rfl)
        | ((with_reducible apply wpL_cmp); rfl; rfl; rfl; rfl; rfl)
        | ((with_reducible apply wpL_arith); rfl; rfl; rfl; (exact IntWalk.i64_in _ (by (try simp only [arithI]); omega)); rfl)); (try simp only [arithI, Act.put, Act.eval, List.setIfInBounds_toArray, List.set_cons_succ, List.set_cons_zero, Array.getD_eq_getD_getElem?, List.getElem?_toArray, List.getElem?_cons_succ, List.getElem?_cons_zero, Option.getD_some])))
  go_loopw [5] (LoadRel w l g2 g3) (fun i _ => 16 - (intOf i).toNat)
  case atStart => exact ⟨0, Nat.zero_le _, rfl, by rw [fillL_zero]; exact HH.out⟩
  case round =>
    obtain ⟨t, ht, rfl, hr⟩ := hrel
    clear HH
    have HH := hid hr
    clear hr
    by_cases hlt : t < 16
    · have hfl := fillL_len (fun i => w4 l (4 * i)) 16 t
      have HS := hid (fillL_set (fun i => w4 l (4 * i)) hlt)
      go_wp2_with (first
        | ((first
            | ((with_reducible apply wpL_skip); rfl; skip)
            | ((with_reducible apply wpL_move); rfl; rfl)
            | ((with_reducible apply wpL_assign); rfl; rfl)
            | ((with_reducible apply wpL_pick); rfl; rfl; rfl)
            | ((with_reducible apply wpL_not); rfl; rfl)
            | ((with_reducible apply wpL_cmp (b := true)); rfl; rfl; rfl; (first | rfl | assumption | (simp only [cmpB, decide_eq_true_eq, decide_eq_false_iff_not, beq_iff_eq, bne_iff_ne, ne_eq, beq_eq_false_iff_ne, bne_eq_false_iff_eq, gt_iff_lt, ge_iff_le]; omega) | (simp; omega)); rfl)
            | ((with_reducible apply wpL_cmp (b := false)); rfl; rfl; rfl; (first | rfl | assumption | (simp only [cmpB, decide_eq_true_eq, decide_eq_false_iff_not, beq_iff_eq, bne_iff_ne, ne_eq, beq_eq_false_iff_ne, bne_eq_false_iff_eq, gt_iff_lt, ge_iff_le]; omega) | (simp; omega)); rfl)
            | ((with_reducible apply wpL_cmp); rfl; rfl; rfl; rfl; rfl)
            | ((with_reducible apply wpL_arith); rfl; rfl; rfl; (exact IntWalk.i64_in _ (by (try simp only [arithI]); omega)); rfl)); (try simp only [arithI, Act.put, Act.eval, List.setIfInBounds_toArray, List.set_cons_succ, List.set_cons_zero, Array.getD_eq_getD_getElem?, List.getElem?_toArray, List.getElem?_cons_succ, List.getElem?_cons_zero, Option.getD_some])))
      refine wp_region_tailQ 35 (by kernel_rfl) (by kernel_rfl) (by kernel_rfl) HH.out ?_
      simp only [List.take_succ_cons, List.take_zero, List.drop_succ_cons, List.drop_zero]
      repeat ((first
        | ((with_reducible apply wpQ_skip); rfl; skip)
        | ((with_reducible apply wpQ_idxB (x := .tmp 9) (j := 4 * t) E22); rfl; rfl; (exact (by omega)); (exact (by omega)); rfl)
        | ((with_reducible apply wpQ_idxB (x := .tmp 16) (j := 4 * t + 1) E22); rfl; rfl; (exact (by omega)); (exact (by omega)); rfl)
        | ((with_reducible apply wpQ_idxB (x := .tmp 25) (j := 4 * t + 2) E22); rfl; rfl; (exact (by omega)); (exact (by omega)); rfl)
        | ((with_reducible apply wpQ_idxB (x := .tmp 34) (j := 4 * t + 3) E22); rfl; rfl; (exact (by omega)); (exact (by omega)); rfl)
        | ((with_reducible apply wpQ_loadB O5); rfl; (intro wq hwq; exact (show Byts wq _ l from hwq.sl HL.out).at (by omega)); rfl)
        | ((with_reducible apply wpQ_indexVar (m := t) Try.underlying138 S105); rfl; rfl; rfl; (exact hlt); rfl)
        | ((with_reducible apply wpQ_b2w Try.underlying5 Try.underlying105); rfl; rfl)
        | ((with_reducible apply wpQ_wshl); rfl; rfl; (exact (by decide)); rfl)
        | ((with_reducible apply wpQ_wop); rfl; rfl; rfl; rfl)
        | ((with_reducible apply wpQ_move); rfl; rfl)
        | ((with_reducible apply wpQ_assign); rfl; rfl)
        | ((with_reducible apply wpQ_pick); rfl; rfl; rfl)
        | ((with_reducible apply wpQ_not); rfl; rfl)
        | ((with_reducible apply wpQ_cmp (b := true)); rfl; rfl; rfl; (first | rfl | assumption | (simp only [cmpB, decide_eq_true_eq, decide_eq_false_iff_not, beq_iff_eq, bne_iff_ne, ne_eq, beq_eq_false_iff_ne, bne_eq_false_iff_eq, gt_iff_lt, ge_iff_le]; omega) | (simp; omega)); rfl)
        | ((with_reducible apply wpQ_cmp (b := false)); rfl; rfl; rfl; (first | rfl | assumption | (simp only [cmpB, decide_eq_true_eq, decide_eq_false_iff_not, beq_iff_eq, bne_iff_ne, ne_eq, beq_eq_false_iff_ne, bne_eq_false_iff_eq, gt_iff_lt, ge_iff_le]; omega) | (simp; omega)); rfl)
        | ((with_reducible apply wpQ_cmp); rfl; rfl; rfl; rfl; rfl)
        | ((with_reducible apply wpQ_arith); rfl; rfl; rfl; (exact IntWalk.i64_in _ (by (try simp only [arithI]); omega)); rfl)); simp only [arithI, Act.put, Act.eval, List.setIfInBounds_toArray, List.set_cons_succ, List.set_cons_zero, Array.getD_eq_getD_getElem?, List.getElem?_toArray, List.getElem?_cons_succ, List.getElem?_cons_zero, Option.getD_some])
      refine wpQuiet_nil ?_
      intro wq hq_
      have HQ := hid hq_
      clear hq_
      clear HH
      have HH := HQ
      clear HQ
      go_wp2_with (first
        | ((first
            | ((with_reducible apply wpL_skip); rfl; skip)
            | ((with_reducible apply wpL_storeW (l := fillL (fun i => w4 l (4 * i)) 16 t) (m := t) (v := w4 l (4 * t))); rfl; rfl; (exact S105); (exact HH.out); (exact .here); (exact (by omega)); rfl; (intro w_ hq_; rw [HS.out] at hq_; clear HH; have HH := hid hq_; clear hq_))
            | ((with_reducible apply wpL_move); rfl; rfl)
            | ((with_reducible apply wpL_assign); rfl; rfl)
            | ((with_reducible apply wpL_pick); rfl; rfl; rfl)
            | ((with_reducible apply wpL_not); rfl; rfl)
            | ((with_reducible apply wpL_cmp (b := true)); rfl; rfl; rfl; (first | rfl | assumption | (simp only [cmpB, decide_eq_true_eq, decide_eq_false_iff_not, beq_iff_eq, bne_iff_ne, ne_eq, beq_eq_false_iff_ne, bne_eq_false_iff_eq, gt_iff_lt, ge_iff_le]; omega) | (simp; omega)); rfl)
            | ((with_reducible apply wpL_cmp (b := false)); rfl; rfl; rfl; (first | rfl | assumption | (simp only [cmpB, decide_eq_true_eq, decide_eq_false_iff_not, beq_iff_eq, bne_iff_ne, ne_eq, beq_eq_false_iff_ne, bne_eq_false_iff_eq, gt_iff_lt, ge_iff_le]; omega) | (simp; omega)); rfl)
            | ((with_reducible apply wpL_cmp); rfl; rfl; rfl; rfl; rfl)
            | ((with_reducible apply wpL_arith); rfl; rfl; rfl; (exact IntWalk.i64_in _ (by (try simp only [arithI]); omega)); rfl)); (try simp only [arithI, Act.put, Act.eval, List.setIfInBounds_toArray, List.set_cons_succ, List.set_cons_zero, Array.getD_eq_getD_getElem?, List.getElem?_toArray, List.getElem?_cons_succ, List.getElem?_cons_zero, Option.getD_some])))
      go_roundw
      case rel => exact ⟨t + 1, by omega, by go_num, HH.out⟩
      case measure => simp [intOf]; omega
    · have ht16 : t = 16 := by omega
      have HT := hid ht16
      clear ht16
      go_wp2_with (first
        | ((first
            | ((with_reducible apply wpL_skip); rfl; skip)
            | ((with_reducible apply wpL_loadC (x := .tmp 3) A138 HH.out); rfl; (exact .here); (rw [List.length_map, fillL_len]); rfl)
            | ((with_reducible apply wpL_storeC (vs := (fillL (fun i => w4 l (4 * i)) 16 t).map wrd) (x := .tmp 2) (sz := 16)); rfl; rfl; (exact S138); (exact HH.out); (exact .there .here); (rw [List.length_map, fillL_len]); (exact wrd_one _); rfl; rfl; (intro w_ hq_; clear HH; have HH := hid hq_; clear hq_))
            | ((with_reducible apply wpL_move); rfl; rfl)
            | ((with_reducible apply wpL_assign); rfl; rfl)
            | ((with_reducible apply wpL_pick); rfl; rfl; rfl)
            | ((with_reducible apply wpL_not); rfl; rfl)
            | ((with_reducible apply wpL_cmp (b := true)); rfl; rfl; rfl; (first | rfl | assumption | (simp only [cmpB, decide_eq_true_eq, decide_eq_false_iff_not, beq_iff_eq, bne_iff_ne, ne_eq, beq_eq_false_iff_ne, bne_eq_false_iff_eq, gt_iff_lt, ge_iff_le]; omega) | (simp; omega)); rfl)
            | ((with_reducible apply wpL_cmp (b := false)); rfl; rfl; rfl; (first | rfl | assumption | (simp only [cmpB, decide_eq_true_eq, decide_eq_false_iff_not, beq_iff_eq, bne_iff_ne, ne_eq, beq_eq_false_iff_ne, bne_eq_false_iff_eq, gt_iff_lt, ge_iff_le]; omega) | (simp; omega)); rfl)
            | ((with_reducible apply wpL_cmp); rfl; rfl; rfl; rfl; rfl)
            | ((with_reducible apply wpL_arith); rfl; rfl; rfl; (exact IntWalk.i64_in _ (by (try simp only [arithI]); omega)); rfl)); (try simp only [arithI, Act.put, Act.eval, List.setIfInBounds_toArray, List.set_cons_succ, List.set_cons_zero, Array.getD_eq_getD_getElem?, List.getElem?_toArray, List.getElem?_cons_succ, List.getElem?_cons_zero, Option.getD_some])))
      refine bodyPost_ret (res1 rfl (resC A138 HH.out (by rfl) (.there .here) (by rw [List.length_map, fillL_len]))) rfl ?_
      refine ⟨?_, HH.out.below⟩
      rw [HT.out, fillL_full]
      rfl
/-- The words of the schedule. -/
def schW (l : List UInt8) (t : Nat) : W32 :=
  if h : t < 16 then w4 l (4 * t) else sg1 (schW l (t - 2)) + schW l (t - 7) + sg0 (schW l (t - 15)) + schW l (t - 16)
termination_by t
decreasing_by all_goals omega
def SchRel (w : World) (l : List UInt8) (g2 g3 : Nat) (i : Value) (wr : World) : Prop :=
  ∃ t : Nat, t ≤ 64 ∧ i = .int .i64 t ∧ Holds w [] [(g3, objC ((fillL (schW l) 64 t).map wrd) 107), (g2, objC ((List.replicate 64 (0 : W32)).map wrd) 107)] [] wr
set_option maxRecDepth 100000 in
set_option maxHeartbeats 2000000 in
theorem schedule_any (w : World) (v : Value) (l : List UInt8) (hl : Byts w v l) (hlen : 64 ≤ l.length) : Calls Try.prog 59 #[v] w (RetL w ((List.range 64).map (schW l))) := by
  obtain ⟨ad, cap, rfl⟩ := hl.some (by omega)
  have HL := hid hl
  clear hl
  have HH := hid (Holds.init w)
  go_enter Try.func59, Try.ntmps59
  go_wp2_with (first
    | ((first
        | ((with_reducible apply wpL_skip); rfl; skip)
        | ((with_reducible apply wpL_allocC (dst := some 2) Z107 HH.out); rfl; (intro g2 w_ hq_; clear HH; have HH := hid hq_; clear hq_))
        | ((with_reducible apply wpL_allocC (dst := some 3) Z107 HH.out); rfl; (intro g3 w_ hq_; clear HH; have HH := hid hq_; clear hq_))
        | ((with_reducible apply wpL_move); rfl; rfl)
        | ((with_reducible apply wpL_assign); rfl; rfl)
        | ((with_reducible apply wpL_pick); rfl; rfl; rfl)
        | ((with_reducible apply wpL_not); rfl; rfl)
        | ((with_reducible apply wpL_cmp (b := true)); rfl; rfl; rfl; (first | rfl | assumption | (simp only [cmpB, decide_eq_true_eq, decide_eq_false_iff_not, beq_iff_eq, bne_iff_ne, ne_eq, beq_eq_false_iff_ne, bne_eq_false_iff_eq, gt_iff_lt, ge_iff_le]; omega) | (simp; omega)); rfl)
        | ((with_reducible apply wpL_cmp (b := false)); rfl; rfl; rfl; (first | rfl | assumption | (simp only [cmpB, decide_eq_true_eq, decide_eq_false_iff_not, beq_iff_eq, bne_iff_ne, ne_eq, beq_eq_false_iff_ne, bne_eq_false_iff_eq, gt_iff_lt, ge_iff_le]; omega) | (simp; omega)); rfl)
        | ((with_reducible apply wpL_cmp); rfl; rfl; rfl; rfl; rfl)
        | ((with_reducible apply wpL_arith); rfl; rfl; rfl; (exact IntWalk.i64_in _ (by (try simp only [arithI]); omega)); rfl)); (try simp only [arithI, Act.put, Act.eval, List.setIfInBounds_toArray, List.set_cons_succ, List.set_cons_zero, Array.getD_eq_getD_getElem?, List.getElem?_toArray, List.getElem?_cons_succ, List.getElem?_cons_zero, Option.getD_some])))
  go_loopw [4] (SchRel w l g2 g3) (fun i _ => 64 - (intOf i).toNat)
  case atStart => exact ⟨0, Nat.zero_le _, rfl, by rw [fillL_zero]; exact HH.out⟩
  case round =>
    obtain ⟨t, ht, rfl, hr⟩ := hrel
    clear HH
    have HH := hid hr
    clear hr
    by_cases hlt : t < 64
    · have hfl := fillL_len (schW l) 64 t
      have HS := hid (fillL_set (schW l) hlt)
      by_cases h16 : t < 16
      · have hw : schW l t = w4 l (4 * t) := by rw [schW, dif_pos h16]
        have HW := hid hw
        clear hw
        go_wp2_with (first
          | ((first
              | ((with_reducible apply wpL_skip); rfl; skip)
              | ((with_reducible apply wpL_move); rfl; rfl)
              | ((with_reducible apply wpL_assign); rfl; rfl)
              | ((with_reducible apply wpL_pick); rfl; rfl; rfl)
              | ((with_reducible apply wpL_not); rfl; rfl)
              | ((with_reducible apply wpL_cmp (b := true)); rfl; rfl; rfl; (first | rfl | assumption | (simp only [cmpB, decide_eq_true_eq, decide_eq_false_iff_not, beq_iff_eq, bne_iff_ne, ne_eq, beq_eq_false_iff_ne, bne_eq_false_iff_eq, gt_iff_lt, ge_iff_le]; omega) | (simp; omega)); rfl)
              | ((with_reducible apply wpL_cmp (b := false)); rfl; rfl; rfl; (first | rfl | assumption | (simp only [cmpB, decide_eq_true_eq, decide_eq_false_iff_not, beq_iff_eq, bne_iff_ne, ne_eq, beq_eq_false_iff_ne, bne_eq_false_iff_eq, gt_iff_lt, ge_iff_le]; omega) | (simp; omega)); rfl)
              | ((with_reducible apply wpL_cmp); rfl; rfl; rfl; rfl; rfl)
              | ((with_reducible apply wpL_arith); rfl; rfl; rfl; (exact IntWalk.i64_in _ (by (try simp only [arithI]); omega)); rfl)); (try simp only [arithI, Act.put, Act.eval, List.setIfInBounds_toArray, List.set_cons_succ, List.set_cons_zero, Array.getD_eq_getD_getElem?, List.getElem?_toArray, List.getElem?_cons_succ, List.getElem?_cons_zero, Option.getD_some])))
        refine wp_region_tailQ 35 (by kernel_rfl) (by kernel_rfl) (by kernel_rfl) HH.out ?_
        simp only [List.take_succ_cons, List.take_zero, List.drop_succ_cons, List.drop_zero]
        repeat ((first
          | ((with_reducible apply wpQ_skip); rfl; skip)
          | ((with_reducible apply wpQ_idxB (x := .tmp 14) (j := 4 * t) E22); rfl; rfl; (exact (by omega)); (exact (by omega)); rfl)
          | ((with_reducible apply wpQ_idxB (x := .tmp 21) (j := 4 * t + 1) E22); rfl; rfl; (exact (by omega)); (exact (by omega)); rfl)
          | ((with_reducible apply wpQ_idxB (x := .tmp 30) (j := 4 * t + 2) E22); rfl; rfl; (exact (by omega)); (exact (by omega)); rfl)
          | ((with_reducible apply wpQ_idxB (x := .tmp 39) (j := 4 * t + 3) E22); rfl; rfl; (exact (by omega)); (exact (by omega)); rfl)
          | ((with_reducible apply wpQ_loadB O5); rfl; (intro wq hwq; exact (show Byts wq _ l from hwq.sl HL.out).at (by omega)); rfl)
          | ((with_reducible apply wpQ_indexVar (m := t) Try.underlying107 S105); rfl; rfl; rfl; (exact hlt); rfl)
          | ((with_reducible apply wpQ_b2w Try.underlying5 Try.underlying105); rfl; rfl)
          | ((with_reducible apply wpQ_wshl); rfl; rfl; (exact (by decide)); rfl)
          | ((with_reducible apply wpQ_wop); rfl; rfl; rfl; rfl)
          | ((with_reducible apply wpQ_move); rfl; rfl)
          | ((with_reducible apply wpQ_assign); rfl; rfl)
          | ((with_reducible apply wpQ_pick); rfl; rfl; rfl)
          | ((with_reducible apply wpQ_not); rfl; rfl)
          | ((with_reducible apply wpQ_cmp (b := true)); rfl; rfl; rfl; (first | rfl | assumption | (simp only [cmpB, decide_eq_true_eq, decide_eq_false_iff_not, beq_iff_eq, bne_iff_ne, ne_eq, beq_eq_false_iff_ne, bne_eq_false_iff_eq, gt_iff_lt, ge_iff_le]; omega) | (simp; omega)); rfl)
          | ((with_reducible apply wpQ_cmp (b := false)); rfl; rfl; rfl; (first | rfl | assumption | (simp only [cmpB, decide_eq_true_eq, decide_eq_false_iff_not, beq_iff_eq, bne_iff_ne, ne_eq, beq_eq_false_iff_ne, bne_eq_false_iff_eq, gt_iff_lt, ge_iff_le]; omega) | (simp; omega)); rfl)
          | ((with_reducible apply wpQ_cmp); rfl; rfl; rfl; rfl; rfl)
          | ((with_reducible apply wpQ_arith); rfl; rfl; rfl; (exact IntWalk.i64_in _ (by (try simp only [arithI]); omega)); rfl)); simp only [arithI, Act.put, Act.eval, List.setIfInBounds_toArray, List.set_cons_succ, List.set_cons_zero, Array.getD_eq_getD_getElem?, List.getElem?_toArray, List.getElem?_cons_succ, List.getElem?_cons_zero, Option.getD_some])
        refine wpQuiet_nil ?_
        intro wq hq_
        have HQ := hid hq_
        clear hq_
        clear HH
        have HH := HQ
        clear HQ
        go_wp2_with (first
          | ((first
              | ((with_reducible apply wpL_skip); rfl; skip)
              | ((with_reducible apply wpL_storeW (l := fillL (schW l) 64 t) (m := t) (v := w4 l (4 * t))); rfl; rfl; (exact S105); (exact HH.out); (exact .here); (exact (by omega)); rfl; (intro w_ hq_; rw [← HW.out, HS.out] at hq_; clear HH; have HH := hid hq_; clear hq_))
              | ((with_reducible apply wpL_move); rfl; rfl)
              | ((with_reducible apply wpL_assign); rfl; rfl)
              | ((with_reducible apply wpL_pick); rfl; rfl; rfl)
              | ((with_reducible apply wpL_not); rfl; rfl)
              | ((with_reducible apply wpL_cmp (b := true)); rfl; rfl; rfl; (first | rfl | assumption | (simp only [cmpB, decide_eq_true_eq, decide_eq_false_iff_not, beq_iff_eq, bne_iff_ne, ne_eq, beq_eq_false_iff_ne, bne_eq_false_iff_eq, gt_iff_lt, ge_iff_le]; omega) | (simp; omega)); rfl)
              | ((with_reducible apply wpL_cmp (b := false)); rfl; rfl; rfl; (first | rfl | assumption | (simp only [cmpB, decide_eq_true_eq, decide_eq_false_iff_not, beq_iff_eq, bne_iff_ne, ne_eq, beq_eq_false_iff_ne, bne_eq_false_iff_eq, gt_iff_lt, ge_iff_le]; omega) | (simp; omega)); rfl)
              | ((with_reducible apply wpL_cmp); rfl; rfl; rfl; rfl; rfl)
              | ((with_reducible apply wpL_arith); rfl; rfl; rfl; (exact IntWalk.i64_in _ (by (try simp only [arithI]); omega)); rfl)); (try simp only [arithI, Act.put, Act.eval, List.setIfInBounds_toArray, List.set_cons_succ, List.set_cons_zero, Array.getD_eq_getD_getElem?, List.getElem?_toArray, List.getElem?_cons_succ, List.getElem?_cons_zero, Option.getD_some])))
        go_roundw
        case rel => exact ⟨t + 1, by omega, by go_num, HH.out⟩
        case measure => simp [intOf]; omega
      · have hw : schW l t = sg1 (schW l (t - 2)) + schW l (t - 7) + sg0 (schW l (t - 15)) + schW l (t - 16) := by rw [schW, dif_neg h16]
        have HW := hid hw
        clear hw
        have g2' : (fillL (schW l) 64 t).getD (t - 2) 0 = schW l (t - 2) := fillL_get (by omega) (by omega)
        have g7' : (fillL (schW l) 64 t).getD (t - 7) 0 = schW l (t - 7) := fillL_get (by omega) (by omega)
        have g15' : (fillL (schW l) 64 t).getD (t - 15) 0 = schW l (t - 15) := fillL_get (by omega) (by omega)
        have g16' : (fillL (schW l) 64 t).getD (t - 16) 0 = schW l (t - 16) := fillL_get (by omega) (by omega)
        have G2 := hid (show ((fillL (schW l) 64 t).map wrd)[0 + (t - 2)]? = some (wrd (schW l (t - 2))) by rw [← g2']; exact wget (by omega))
        have G7 := hid (show ((fillL (schW l) 64 t).map wrd)[0 + (t - 7)]? = some (wrd (schW l (t - 7))) by rw [← g7']; exact wget (by omega))
        have G15 := hid (show ((fillL (schW l) 64 t).map wrd)[0 + (t - 15)]? = some (wrd (schW l (t - 15))) by rw [← g15']; exact wget (by omega))
        have G16 := hid (show ((fillL (schW l) 64 t).map wrd)[0 + (t - 16)]? = some (wrd (schW l (t - 16))) by rw [← g16']; exact wget (by omega))
        clear g2' g7' g15' g16'
        go_wp2_with (first
          | ((first
              | ((with_reducible apply wpL_skip); rfl; skip)
              | ((with_reducible apply wpL_move); rfl; rfl)
              | ((with_reducible apply wpL_assign); rfl; rfl)
              | ((with_reducible apply wpL_pick); rfl; rfl; rfl)
              | ((with_reducible apply wpL_not); rfl; rfl)
              | ((with_reducible apply wpL_cmp (b := true)); rfl; rfl; rfl; (first | rfl | assumption | (simp only [cmpB, decide_eq_true_eq, decide_eq_false_iff_not, beq_iff_eq, bne_iff_ne, ne_eq, beq_eq_false_iff_ne, bne_eq_false_iff_eq, gt_iff_lt, ge_iff_le]; omega) | (simp; omega)); rfl)
              | ((with_reducible apply wpL_cmp (b := false)); rfl; rfl; rfl; (first | rfl | assumption | (simp only [cmpB, decide_eq_true_eq, decide_eq_false_iff_not, beq_iff_eq, bne_iff_ne, ne_eq, beq_eq_false_iff_ne, bne_eq_false_iff_eq, gt_iff_lt, ge_iff_le]; omega) | (simp; omega)); rfl)
              | ((with_reducible apply wpL_cmp); rfl; rfl; rfl; rfl; rfl)
              | ((with_reducible apply wpL_arith); rfl; rfl; rfl; (exact IntWalk.i64_in _ (by (try simp only [arithI]); omega)); rfl)); (try simp only [arithI, Act.put, Act.eval, List.setIfInBounds_toArray, List.set_cons_succ, List.set_cons_zero, Array.getD_eq_getD_getElem?, List.getElem?_toArray, List.getElem?_cons_succ, List.getElem?_cons_zero, Option.getD_some])))
        refine wp_region_holds (by kernel_rfl) (by kernel_rfl) HH.out ?_
        repeat ((first
          | ((with_reducible apply wpQ_skip); rfl; skip)
          | ((with_reducible apply wpQ_indexVar (i := .tmp 49) (m := t - 2) Try.underlying107 S105); rfl; rfl; (exact (by omega)); (exact (by omega)); rfl)
          | ((with_reducible apply wpQ_indexVar (i := .tmp 53) (m := t - 15) Try.underlying107 S105); rfl; rfl; (exact (by omega)); (exact (by omega)); rfl)
          | ((with_reducible apply wpQ_load1 (x := .tmp 50) (v := wrd (schW l (t - 2))) O105); rfl; (exact .here); (exact G2.out); rfl)
          | ((with_reducible apply wpQ_load1 (x := .tmp 54) (v := wrd (schW l (t - 15))) O105); rfl; (exact .here); (exact G15.out); rfl)
          | ((with_reducible apply wpQ_move); rfl; rfl)
          | ((with_reducible apply wpQ_assign); rfl; rfl)
          | ((with_reducible apply wpQ_pick); rfl; rfl; rfl)
          | ((with_reducible apply wpQ_not); rfl; rfl)
          | ((with_reducible apply wpQ_cmp (b := true)); rfl; rfl; rfl; (first | rfl | assumption | (simp only [cmpB, decide_eq_true_eq, decide_eq_false_iff_not, beq_iff_eq, bne_iff_ne, ne_eq, beq_eq_false_iff_ne, bne_eq_false_iff_eq, gt_iff_lt, ge_iff_le]; omega) | (simp; omega)); rfl)
          | ((with_reducible apply wpQ_cmp (b := false)); rfl; rfl; rfl; (first | rfl | assumption | (simp only [cmpB, decide_eq_true_eq, decide_eq_false_iff_not, beq_iff_eq, bne_iff_ne, ne_eq, beq_eq_false_iff_ne, bne_eq_false_iff_eq, gt_iff_lt, ge_iff_le]; omega) | (simp; omega)); rfl)
          | ((with_reducible apply wpQ_cmp); rfl; rfl; rfl; rfl; rfl)
          | ((with_reducible apply wpQ_arith); rfl; rfl; rfl; (exact IntWalk.i64_in _ (by (try simp only [arithI]); omega)); rfl)); simp only [arithI, Act.put, Act.eval, List.setIfInBounds_toArray, List.set_cons_succ, List.set_cons_zero, Array.getD_eq_getD_getElem?, List.getElem?_toArray, List.getElem?_cons_succ, List.getElem?_cons_zero, Option.getD_some])
        refine wpQuiet_nil ?_
        intro wq hq_
        have HQ := hid hq_
        clear hq_
        clear HH
        have HH := HQ
        clear HQ
        go_wp2
        refine wp_region_tailQ 29 (by kernel_rfl) (by kernel_rfl) (by kernel_rfl) HH.out ?_
        simp only [List.take_succ_cons, List.take_zero, List.drop_succ_cons, List.drop_zero]
        repeat ((first
          | ((with_reducible apply wpQ_skip); rfl; skip)
          | ((with_reducible apply wpQ_indexVar (i := .tmp 66) (m := t - 7) Try.underlying107 S105); rfl; rfl; (exact (by omega)); (exact (by omega)); rfl)
          | ((with_reducible apply wpQ_indexVar (i := .tmp 80) (m := t - 16) Try.underlying107 S105); rfl; rfl; (exact (by omega)); (exact (by omega)); rfl)
          | ((with_reducible apply wpQ_indexVar (i := .tmp 56) (m := t) Try.underlying107 S105); rfl; rfl; rfl; (exact hlt); rfl)
          | ((with_reducible apply wpQ_load1 (x := .tmp 67) (v := wrd (schW l (t - 7))) O105); rfl; (exact .here); (exact G7.out); rfl)
          | ((with_reducible apply wpQ_load1 (x := .tmp 81) (v := wrd (schW l (t - 16))) O105); rfl; (exact .here); (exact G16.out); rfl)
          | ((with_reducible apply wpQ_rotate); rfl; rfl; (exact (by decide)); rfl)
          | ((with_reducible apply wpQ_wop); rfl; rfl; rfl; rfl)
          | ((with_reducible apply wpQ_wshr); rfl; rfl; (exact (by decide)); rfl)
          | ((with_reducible apply wpQ_move); rfl; rfl)
          | ((with_reducible apply wpQ_assign); rfl; rfl)
          | ((with_reducible apply wpQ_pick); rfl; rfl; rfl)
          | ((with_reducible apply wpQ_not); rfl; rfl)
          | ((with_reducible apply wpQ_cmp (b := true)); rfl; rfl; rfl; (first | rfl | assumption | (simp only [cmpB, decide_eq_true_eq, decide_eq_false_iff_not, beq_iff_eq, bne_iff_ne, ne_eq, beq_eq_false_iff_ne, bne_eq_false_iff_eq, gt_iff_lt, ge_iff_le]; omega) | (simp; omega)); rfl)
          | ((with_reducible apply wpQ_cmp (b := false)); rfl; rfl; rfl; (first | rfl | assumption | (simp only [cmpB, decide_eq_true_eq, decide_eq_false_iff_not, beq_iff_eq, bne_iff_ne, ne_eq, beq_eq_false_iff_ne, bne_eq_false_iff_eq, gt_iff_lt, ge_iff_le]; omega) | (simp; omega)); rfl)
          | ((with_reducible apply wpQ_cmp); rfl; rfl; rfl; rfl; rfl)
          | ((with_reducible apply wpQ_arith); rfl; rfl; rfl; (exact IntWalk.i64_in _ (by (try simp only [arithI]); omega)); rfl)); simp only [arithI, Act.put, Act.eval, List.setIfInBounds_toArray, List.set_cons_succ, List.set_cons_zero, Array.getD_eq_getD_getElem?, List.getElem?_toArray, List.getElem?_cons_succ, List.getElem?_cons_zero, Option.getD_some])
        refine wpQuiet_nil ?_
        intro wq hq_
        have HQ := hid hq_
        clear hq_
        clear HH
        have HH := HQ
        clear HQ
        go_wp2_with (first
          | ((first
              | ((with_reducible apply wpL_skip); rfl; skip)
              | ((with_reducible apply wpL_storeW (l := fillL (schW l) 64 t) (m := t) (v := sg1 (schW l (t - 2)) + schW l (t - 7) + sg0 (schW l (t - 15)) + schW l (t - 16))); rfl; rfl; (exact S105); (exact HH.out); (exact .here); (exact (by omega)); rfl; (intro w_ hq_; rw [← HW.out, HS.out] at hq_; clear HH; have HH := hid hq_; clear hq_))
              | ((with_reducible apply wpL_move); rfl; rfl)
              | ((with_reducible apply wpL_assign); rfl; rfl)
              | ((with_reducible apply wpL_pick); rfl; rfl; rfl)
              | ((with_reducible apply wpL_not); rfl; rfl)
              | ((with_reducible apply wpL_cmp (b := true)); rfl; rfl; rfl; (first | rfl | assumption | (simp only [cmpB, decide_eq_true_eq, decide_eq_false_iff_not, beq_iff_eq, bne_iff_ne, ne_eq, beq_eq_false_iff_ne, bne_eq_false_iff_eq, gt_iff_lt, ge_iff_le]; omega) | (simp; omega)); rfl)
              | ((with_reducible apply wpL_cmp (b := false)); rfl; rfl; rfl; (first | rfl | assumption | (simp only [cmpB, decide_eq_true_eq, decide_eq_false_iff_not, beq_iff_eq, bne_iff_ne, ne_eq, beq_eq_false_iff_ne, bne_eq_false_iff_eq, gt_iff_lt, ge_iff_le]; omega) | (simp; omega)); rfl)
              | ((with_reducible apply wpL_cmp); rfl; rfl; rfl; rfl; rfl)
              | ((with_reducible apply wpL_arith); rfl; rfl; rfl; (exact IntWalk.i64_in _ (by (try simp only [arithI]); omega)); rfl)); (try simp only [arithI, Act.put, Act.eval, List.setIfInBounds_toArray, List.set_cons_succ, List.set_cons_zero, Array.getD_eq_getD_getElem?, List.getElem?_toArray, List.getElem?_cons_succ, List.getElem?_cons_zero, Option.getD_some])))
        go_roundw
        case rel => exact ⟨t + 1, by omega, by go_num, HH.out⟩
        case measure => simp [intOf]; omega
    · have ht64 : t = 64 := by omega
      have HT := hid ht64
      clear ht64
      go_wp2_with (first
        | ((first
            | ((with_reducible apply wpL_skip); rfl; skip)
            | ((with_reducible apply wpL_loadC (x := .tmp 3) A107 HH.out); rfl; (exact .here); (rw [List.length_map, fillL_len]); rfl)
            | ((with_reducible apply wpL_storeC (vs := (fillL (schW l) 64 t).map wrd) (x := .tmp 2) (sz := 64)); rfl; rfl; (exact S107); (exact HH.out); (exact .there .here); (rw [List.length_map, fillL_len]); (exact wrd_one _); rfl; rfl; (intro w_ hq_; clear HH; have HH := hid hq_; clear hq_))
            | ((with_reducible apply wpL_move); rfl; rfl)
            | ((with_reducible apply wpL_assign); rfl; rfl)
            | ((with_reducible apply wpL_pick); rfl; rfl; rfl)
            | ((with_reducible apply wpL_not); rfl; rfl)
            | ((with_reducible apply wpL_cmp (b := true)); rfl; rfl; rfl; (first | rfl | assumption | (simp only [cmpB, decide_eq_true_eq, decide_eq_false_iff_not, beq_iff_eq, bne_iff_ne, ne_eq, beq_eq_false_iff_ne, bne_eq_false_iff_eq, gt_iff_lt, ge_iff_le]; omega) | (simp; omega)); rfl)
            | ((with_reducible apply wpL_cmp (b := false)); rfl; rfl; rfl; (first | rfl | assumption | (simp only [cmpB, decide_eq_true_eq, decide_eq_false_iff_not, beq_iff_eq, bne_iff_ne, ne_eq, beq_eq_false_iff_ne, bne_eq_false_iff_eq, gt_iff_lt, ge_iff_le]; omega) | (simp; omega)); rfl)
            | ((with_reducible apply wpL_cmp); rfl; rfl; rfl; rfl; rfl)
            | ((with_reducible apply wpL_arith); rfl; rfl; rfl; (exact IntWalk.i64_in _ (by (try simp only [arithI]); omega)); rfl)); (try simp only [arithI, Act.put, Act.eval, List.setIfInBounds_toArray, List.set_cons_succ, List.set_cons_zero, Array.getD_eq_getD_getElem?, List.getElem?_toArray, List.getElem?_cons_succ, List.getElem?_cons_zero, Option.getD_some])))
      refine bodyPost_ret (res1 rfl (resC A107 HH.out (by rfl) (.there .here) (by rw [List.length_map, fillL_len]))) rfl ?_
      refine ⟨?_, HH.out.below⟩
      rw [HT.out, fillL_full]
      rfl
end Go.Proofs.Ytgkfopodhikckaa
