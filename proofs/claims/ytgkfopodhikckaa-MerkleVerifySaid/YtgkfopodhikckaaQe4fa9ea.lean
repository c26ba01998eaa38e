/- cut and known of the laws of sha256. No condition. -/
import Derived.Test.YtgkfopodhikckaaQ10a4814
import Derived.WideKeyArr2
import Derived.ChangeSlices
import Derived.ChangeMaps4
import Derived.Carry
import Derived.Lib.UnsafeStr
import Derived.Lib.Builder
import Derived.Laws.IdiomStrings
import Derived.Laws.Small
import Derived.Lib.SlBytesConst
set_option linter.unusedSimpArgs false
set_option linter.unusedVariables false
/- load of sha256, schedule of the reference. Condition: the bytes are 64 at least. -/
namespace Go.Proofs.Ytgkfopodhikckaa
open Go.RowKit
theorem E22 : Elem Try.prog 22 5 1 1 := Elem.mk' (.int .u8 0) Try.underlying22 (by kernel_rfl) (by kernel_rfl) (by omega) (by omega)
theorem O5 : OneT Try.prog 5 := ⟨_, Try.underlying5, rfl⟩
/-- A slice of bytes that is read. -/
abbrev Byts (w : World) (v : Value) (l : List UInt8) : Prop := Sl w v 1 l.length (l.map byt)
theorem Byts.at {w : World} {a : Addr} {cap : Nat} {l : List UInt8} (h : Byts w (.slice (some a) l.length cap) l) {j : Nat} (hj : j < l.length) : w.cell? (a.add j) = some (byt (l.getD j 0)) :=
  h.cell j _ (by simp [hj])
section
variable {w0 : World} {S : List Nat} {bs : List (Nat × Obj)} {rows : List Row} {ops : Array Oper} {rest : List Oper} {a : Act} {dst : Option Tmp} {ty : TypeId} {pos : String} {after : Array Edge} {guard : Option (Nat × Bool)} {K : Act → Prop} {P : Program} {C : World → Prop}
theorem wpQ_idxB {t e : TypeId} {bytes : Nat} (hE : Elem P t e 1 bytes) {x i : Operand} {ad : Addr} {n c j : Nat} {q : Int} {k : IntKind} (hx : a.eval x = .slice (some ad) n c) (hi : a.eval i = .int k q) (hq : q = (j : Int)) (hj : j < n)
    (hg : Region.wanted { dst := dst, op := .indexAddr t x i, type := ty, pos := pos, after := after, guard := guard } (yielded ops a.tmps) = true)
    (h : wpQuiet P ops C K rest (a.put dst (.pointer (some (ad.add j))))) : wpQuiet P ops C K ({ dst := dst, op := .indexAddr t x i, type := ty, pos := pos, after := after, guard := guard } :: rest) a :=
  wpQ_index hE hx hi hq hj hg (by rw [Nat.mul_one]; exact h)
theorem wpQ_loadB {t : TypeId} (hA : OneT P t) {x : Operand} {ad : Addr} {v : Value} (hx : a.eval x = .pointer (some ad)) (hc : ∀ w, C w → w.cell? ad = some v)
    (hg : Region.wanted { dst := dst, op := .load t x, type := ty, pos := pos, after := after, guard := guard } (yielded ops a.tmps) = true)
    (h : wpQuiet P ops C K rest (a.put dst v)) : wpQuiet P ops C K ({ dst := dst, op := .load t x, type := ty, pos := pos, after := after, guard := guard } :: rest) a := by
  obtain ⟨d, hu, hd⟩ := hA
  exact wpQuiet_ex hg (fun w hw => ex_load_one hx hu hd (hc w hw)) h
end
/-- The word of four bytes. -/
def w4 (l : List UInt8) (k : Nat) : W32 := b2w (l.getD k 0) <<< 24 ||| b2w (l.getD (k + 1) 0) <<< 16 ||| b2w (l.getD (k + 2) 0) <<< 8 ||| b2w (l.getD (k + 3) 0)
/-- The first i of n words are told. -/
def fillL (f : Nat → W32) (n i : Nat) : List W32 := (List.range n).map fun j => if j < i then f j else 0
theorem fillL_len (f : Nat → W32) (n i : Nat) : (fillL f n i).length = n := by simp [fillL]
theorem fillL_get {f : Nat → W32} {n i j : Nat} (h : j < i) (hn : j < n) : (fillL f n i).getD j 0 = f j := by simp [fillL, hn, h]
theorem fillL_zero (f : Nat → W32) (n : Nat) : fillL f n 0 = List.replicate n 0 := by
  apply List.ext_getElem? ; intro j
  simp only [fillL, List.getElem?_map, List.getElem?_range, Nat.not_lt_zero, if_false, List.getElem?_replicate]
  by_cases h : j < n
  · simp [h]
  · simp [h]
theorem fillL_set (f : Nat → W32) {n i : Nat} (h : i < n) : (fillL f n i).set i (f i) = fillL f n (i + 1) := by
  apply List.ext_getElem
  · simp [fillL]
  · intro j h1 h2
    rw [List.getElem_set]
    simp only [fillL, List.getElem_map, List.getElem_range]
    by_cases hij : i = j
    · subst hij; simp
    · rw [if_neg hij]
      by_cases hj : j < i
      · rw [if_pos hj, if_pos (by omega)]
      · rw [if_neg hj, if_neg (by omega)]
theorem fillL_full (f : Nat → W32) (n : Nat) : fillL f n n = (List.range n).map f := by
  unfold fillL
  apply List.map_congr_left
  intro j hj
  rw [if_pos (by simpa using hj)]
def loadL (l : List UInt8) : List W32 := (List.range 16).map fun i => w4 l (4 * i)
theorem Z138 : (Try.prog.info? 138).map (·.zero) = some (some (.agg ((List.replicate 16 (0 : W32)).map wrd).toArray)) := by kernel_rfl
theorem S138 : (Try.prog.info? 138).map (·.size) = some 16 := by kernel_rfl
def LoadRel (w : World) (l : List UInt8) (g2 g3 : Nat) (i : Value) (wr : World) : Prop :=
  ∃ t : Nat, t ≤ 16 ∧ i = .int .i64 t ∧ Holds w [] [(g3, objC ((fillL (fun i => w4 l (4 * i)) 16 t).map wrd) 138), (g2, objC ((List.replicate 16 (0 : W32)).map wrd) 138)] [] wr
set_option maxRecDepth 100000 in
set_option maxHeartbeats 2000000 in
theorem load_any (w : World) (v : Value) (l : List UInt8) (hl : Byts w v l) (hlen : 64 ≤ l.length) : Calls Try.prog 80 #[v] w (RetL w (loadL l)) := by
  obtain ⟨ad, cap, rfl⟩ := hl.some (by omega)
  have HL := hid hl
  clear hl
  have HH := hid (Holds.init w)
  go_enter Try.func80, Try.ntmps80
  go_wp2_with (first
    | ((first
        | ((with_reducible apply wpL_skip); rfl; skip)
        | ((with_reducible apply wpL_allocC (dst := some 2) Z138 HH.out); rfl; (intro g2 w_ hq_; clear HH; have HH := hid hq_; clear hq_))
        | ((with_reducible apply wpL_allocC (dst := some 3) Z138 HH.out); rfl; (intro g3 w_ hq_; clear HH; have HH := hid hq_; clear hq_))
        | ((with_reducible apply wpL_move); rfl; rfl)
        | ((with_reducible apply wpL_assign); rfl; rfl)
        | ((with_reducible apply wpL_pick); rfl; rfl; rfl)
        | ((with_reducible apply wpL_not); rfl; rfl)
        | ((with_reducible apply wpL_cmp (b := true)); rfl; rfl; rfl; (first | rfl | assumption | (simp only [cmpB, decide_eq_true_eq, decide_eq_false_iff_not, beq_iff_eq, bne_iff_ne, ne_eq, beq_eq_false_iff_ne, bne_eq_false_iff_eq, gt_iff_lt, ge_iff_le]; omega) | (simp; omega)); rfl)
        | ((with_reducible apply wpL_cmp (b := false)); rfl; rfl; rfl; (first | rfl | assumption | (simp only [cmpB, decide_eq_true_eq, decide_eq_false_iff_not, beq_iff_eq, bne_iff_ne, ne_eq, beq_eq_false_iff_ne, bne_eq_false_iff_eq, gt_iff_lt, ge_iff_le]; omega) | (simp; omega)); rfl)
        | ((with_reducible apply wpL_cmp); rfl; rfl; rfl; rfl; rfl)
        | ((with_reducible apply wpL_arith); rfl; rfl; rfl; (exact IntWalk.i64_in _ (by (try simp only [arithI]); omega)); rfl)); (try simp only [arithI, Act.put, Act.eval, List.setIfInBounds_toArray, List.set_cons_succ, List.set_cons_zero, Array.getD_eq_getD_getElem?, List.getElem?_toArray, List.getElem?_cons_succ, List.getElem?_cons_zero, Option.getD_some])))
  go_loopw [5] (LoadRel w l g2 g3) (fun i _ => 16 - (intOf i).toNat)
  case atStart => exact ⟨0, Nat.zero_le _, rfl, by rw [fillL_zero]; exact HH.out⟩
  case round =>
    obtain ⟨t, ht, rfl, hr⟩ := hrel
    clear HH
    have HH := hid hr
    clear hr
    by_cases hlt : t < 16
    · have hfl := fillL_len (fun i => w4 l (4 * i)) 16 t
      have HS := hid (fillL_set (fun i => w4 l (4 * i)) hlt)
      go_wp2_with (first
        | ((first
            | ((with_reducible apply wpL_skip); rfl; skip)
            | ((with_reducible apply wpL_move); rfl; rfl)
            | ((with_reducible apply wpL_assign); rfl; rfl)
            | ((with_reducible apply wpL_pick); rfl; rfl; rfl)
            | ((with_reducible apply wpL_not); rfl; rfl)
            | ((with_reducible apply wpL_cmp (b := true)); rfl; rfl; rfl; (first | rfl | assumption | (simp only [cmpB, decide_eq_true_eq, decide_eq_false_iff_not, beq_iff_eq, bne_iff_ne, ne_eq, beq_eq_false_iff_ne, bne_eq_false_iff_eq, gt_iff_lt, ge_iff_le]; omega) | (simp; omega)); rfl)
            | ((with_reducible apply wpL_cmp (b := false)); rfl; rfl; rfl; (first | rfl | assumption | (simp only [cmpB, decide_eq_true_eq, decide_eq_false_iff_not, beq_iff_eq, bne_iff_ne, ne_eq, beq_eq_false_iff_ne, bne_eq_false_iff_eq, gt_iff_lt, ge_iff_le]; omega) | (simp; omega)); rfl)
            | ((with_reducible apply wpL_cmp); rfl; rfl; rfl; rfl; rfl)
            | ((with_reducible apply wpL_arith); rfl; rfl; rfl; (exact IntWalk.i64_in _ (by (try simp only [arithI]); omega)); rfl)); (try simp only [arithI, Act.put, Act.eval, List.setIfInBounds_toArray, List.set_cons_succ, List.set_cons_zero, Array.getD_eq_getD_getElem?, List.getElem?_toArray, List.getElem?_cons_succ, List.getElem?_cons_zero, Option.getD_some])))
      refine wp_region_tailQ 35 (by kernel_rfl) (by kernel_rfl) (by kernel_rfl) HH.out ?_
      simp only [List.take_succ_cons, List.take_zero, List.drop_succ_cons, List.drop_zero]
      repeat ((first
        | ((with_reducible apply wpQ_skip); rfl; skip)
        | ((with_reducible apply wpQ_idxB (x := .tmp 9) (j := 4 * t) E22); rfl; rfl; (exact (by omega)); (exact (by omega)); rfl)
        | ((with_reducible apply wpQ_idxB (x := .tmp 16) (j := 4 * t + 1) E22); rfl; rfl; (exact (by omega)); (exact (by omega)); rfl)
        | ((with_reducible apply wpQ_idxB (x := .tmp 25) (j := 4 * t + 2) E22); rfl; rfl; (exact (by omega)); (exact (by omega)); rfl)
        | ((with_reducible apply wpQ_idxB (x := .tmp 34) (j := 4 * t + 3) E22); rfl; rfl; (exact (by omega)); (exact (by omega)); rfl)
        | ((with_reducible apply wpQ_loadB O5); rfl; (intro wq hwq; exact (show Byts wq _ l from hwq.sl HL.out).at (by omega)); rfl)
        | ((with_reducible apply wpQ_indexVar (m := t) Try.underlying138 S105); rfl; rfl; rfl; (exact hlt); rfl)
        | ((with_reducible apply wpQ_b2w Try.underlying5 Try.underlying105); rfl; rfl)
        | ((with_reducible apply wpQ_wshl); rfl; rfl; (exact (by decide)); rfl)
        | ((with_reducible apply wpQ_wop); rfl; rfl; rfl; rfl)
        | ((with_reducible apply wpQ_move); rfl; rfl)
        | ((with_reducible apply wpQ_assign); rfl; rfl)
        | ((with_reducible apply wpQ_pick); rfl; rfl; rfl)
        | ((with_reducible apply wpQ_not); rfl; rfl)
        | ((with_reducible apply wpQ_cmp (b := true)); rfl; rfl; rfl; (first | rfl | assumption | (simp only [cmpB, decide_eq_true_eq, decide_eq_false_iff_not, beq_iff_eq, bne_iff_ne, ne_eq, beq_eq_false_iff_ne, bne_eq_false_iff_eq, gt_iff_lt, ge_iff_le]; omega) | (simp; omega)); rfl)
        | ((with_reducible apply wpQ_cmp (b := false)); rfl; rfl; rfl; (first | rfl | assumption | (simp only [cmpB, decide_eq_true_eq, decide_eq_false_iff_not, beq_iff_eq, bne_iff_ne, ne_eq, beq_eq_false_iff_ne, bne_eq_false_iff_eq, gt_iff_lt, ge_iff_le]; omega) | (simp; omega)); rfl)
        | ((with_reducible apply wpQ_cmp); rfl; rfl; rfl; rfl; rfl)
        | ((with_reducible apply wpQ_arith); rfl; rfl; rfl; (exact IntWalk.i64_in _ (by (try simp only [arithI]); omega)); rfl)); simp only [arithI, Act.put, Act.eval, List.setIfInBounds_toArray, List.set_cons_succ, List.set_cons_zero, Array.getD_eq_getD_getElem?, List.getElem?_toArray, List.getElem?_cons_succ, List.getElem?_cons_zero, Option.getD_some])
      refine wpQuiet_nil ?_
      intro wq hq_
      have HQ := hid hq_
      clear hq_
      clear HH
      have HH := HQ
      clear HQ
      go_wp2_with (first
        | ((first
            | ((with_reducible apply wpL_skip); rfl; skip)
            | ((with_reducible apply wpL_storeW (l := fillL (fun i => w4 l (4 * i)) 16 t) (m := t) (v := w4 l (4 * t))); rfl; rfl; (exact S105); (exact HH.out); (exact .here); (exact (by omega)); rfl; (intro w_ hq_; rw [HS.out] at hq_; clear HH; have HH := hid hq_; clear hq_))
            | ((with_reducible apply wpL_move); rfl; rfl)
            | ((with_reducible apply wpL_assign); rfl; rfl)
            | ((with_reducible apply wpL_pick); rfl; rfl; rfl)
            | ((with_reducible apply wpL_not); rfl; rfl)
            | ((with_reducible apply wpL_cmp (b := true)); rfl; rfl; rfl; (first | rfl | assumption | (simp only [cmpB, decide_eq_true_eq, decide_eq_false_iff_not, beq_iff_eq, bne_iff_ne, ne_eq, beq_eq_false_iff_ne, bne_eq_false_iff_eq, gt_iff_lt, ge_iff_le]; omega) | (simp; omega)); rfl)
            | ((with_reducible apply wpL_cmp (b := false)); rfl; rfl; rfl; (first | rfl | assumption | (simp only [cmpB, decide_eq_true_eq, decide_eq_false_iff_not, beq_iff_eq, bne_iff_ne, ne_eq, beq_eq_false_iff_ne, bne_eq_false_iff_eq, gt_iff_lt, ge_iff_le]; omega) | (simp; omega)); rfl)
            | ((with_reducible apply wpL_cmp); rfl; rfl; rfl; rfl; rfl)
            | ((with_reducible apply wpL_arith); rfl; rfl; rfl; (exact IntWalk.i64_in _ (by (try simp only [arithI]); omega)); rfl)); (try simp only [arithI, Act.put, Act.eval, List.setIfInBounds_toArray, List.set_cons_succ, List.set_cons_zero, Array.getD_eq_getD_getElem?, List.getElem?_toArray, List.getElem?_cons_succ, List.getElem?_cons_zero, Option.getD_some])))
      go_roundw
      case rel => exact ⟨t + 1, by omega, by go_num, HH.out⟩
      case measure => simp [intOf]; omega
    · have ht16 : t = 16 := by omega
      have HT := hid ht16
      clear ht16
      go_wp2_with (first
        | ((first
            | ((with_reducible apply wpL_skip); rfl; skip)
            | ((with_reducible apply wpL_loadC (x := .tmp 3) A138 HH.out); rfl; (exact .here); (rw [List.length_map, fillL_len]); rfl)
            | ((with_reducible apply wpL_storeC (vs := (fillL (fun i => w4 l (4 * i)) 16 t).map wrd) (x := .tmp 2) (sz := 16)); rfl; rfl; (exact S138); (exact HH.out); (exact .there .here); (rw [List.length_map, fillL_len]); (exact wrd_one _); rfl; rfl; (intro w_ hq_; clear HH; have HH := hid hq_; clear hq_))
            | ((with_reducible apply wpL_move); rfl; rfl)
            | ((with_reducible apply wpL_assign); rfl; rfl)
            | ((with_reducible apply wpL_pick); rfl; rfl; rfl)
            | ((with_reducible apply wpL_not); rfl; rfl)
            | ((with_reducible apply wpL_cmp (b := true)); rfl; rfl; rfl; (first | rfl | assumption | (simp only [cmpB, decide_eq_true_eq, decide_eq_false_iff_not, beq_iff_eq, bne_iff_ne, ne_eq, beq_eq_false_iff_ne, bne_eq_false_iff_eq, gt_iff_lt, ge_iff_le]; omega) | (simp; omega)); rfl)
            | ((with_reducible apply wpL_cmp (b := false)); rfl; rfl; rfl; (first | rfl | assumption | (simp only [cmpB, decide_eq_true_eq, decide_eq_false_iff_not, beq_iff_eq, bne_iff_ne, ne_eq, beq_eq_false_iff_ne, bne_eq_false_iff_eq, gt_iff_lt, ge_iff_le]; omega) | (simp; omega)); rfl)
            | ((with_reducible apply wpL_cmp); rfl; rfl; rfl; rfl; rfl)
            | ((with_reducible apply wpL_arith); rfl; rfl; rfl; (exact IntWalk.i64_in _ (by (try simp only [arithI]); omega)); rfl)); (try simp only [arithI, Act.put, Act.eval, List.setIfInBounds_toArray, List.set_cons_succ, List.set_cons_zero, Array.getD_eq_getD_getElem?, List.getElem?_toArray, List.getElem?_cons_succ, List.getElem?_cons_zero, Option.getD_some])))
      refine bodyPost_ret (res1 rfl (resC A138 HH.out (by rfl) (.there .here) (by rw [List.length_map, fillL_len]))) rfl ?_
      refine ⟨?_, HH.out.below⟩
      rw [HT.out, fillL_full]
      rfl
/-- The words of the schedule. -/
def schW (l : List UInt8) (t : Nat) : W32 :=
  if h : t < 16 then w4 l (4 * t) else sg1 (schW l (t - 2)) + schW l (t - 7) + sg0 (schW l (t - 15)) + schW l (t - 16)
termination_by t
decreasing_by all_goals omega
def SchRel (w : World) (l : List UInt8) (g2 g3 : Nat) (i : Value) (wr : World) : Prop :=
  ∃ t : Nat, t ≤ 64 ∧ i = .int .i64 t ∧ Holds w [] [(g3, objC ((fillL (schW l) 64 t).map wrd) 107), (g2, objC ((List.replicate 64 (0 : W32)).map wrd) 107)] [] wr
set_option maxRecDepth 100000 in
set_option maxHeartbeats 2000000 in
theorem schedule_any (w : World) (v : Value) (l : List UInt8) (hl : Byts w v l) (hlen : 64 ≤ l.length) : Calls Try.prog 59 #[v] w (RetL w ((List.range 64).map (schW l))) := by
  obtain ⟨ad, cap, rfl⟩ := hl.some (by omega)
  have HL := hid hl
  clear hl
  have HH := hid (Holds.init w)
  go_enter Try.func59, Try.ntmps59
  go_wp2_with (first
    | ((first
        | ((with_reducible apply wpL_skip); rfl; skip)
        | ((with_reducible apply wpL_allocC (dst := some 2) Z107 HH.out); rfl; (intro g2 w_ hq_; clear HH; have HH := hid hq_; clear hq_))
        | ((with_reducible apply wpL_allocC (dst := some 3) Z107 HH.out); rfl; (intro g3 w_ hq_; clear HH; have HH := hid hq_; clear hq_))
        | ((with_reducible apply wpL_move); rfl; rfl)
        | ((with_reducible apply wpL_assign); rfl; rfl)
        | ((with_reducible apply wpL_pick); rfl; rfl; rfl)
        | ((with_reducible apply wpL_not); rfl; rfl)
        | ((with_reducible apply wpL_cmp (b := true)); rfl; rfl; rfl; (first | rfl | assumption | (simp only [cmpB, decide_eq_true_eq, decide_eq_false_iff_not, beq_iff_eq, bne_iff_ne, ne_eq, beq_eq_false_iff_ne, bne_eq_false_iff_eq, gt_iff_lt, ge_iff_le]; omega) | (simp; omega)); rfl)
        | ((with_reducible apply wpL_cmp (b := false)); rfl; rfl; rfl; (first | rfl | assumption | (simp only [cmpB, decide_eq_true_eq, decide_eq_false_iff_not, beq_iff_eq, bne_iff_ne, ne_eq, beq_eq_false_iff_ne, bne_eq_false_iff_eq, gt_iff_lt, ge_iff_le]; omega) | (simp; omega)); rfl)
        | ((with_reducible apply wpL_cmp); rfl; rfl; rfl; rfl; rfl)
        | ((with_reducible apply wpL_arith); rfl; rfl; rfl; (exact IntWalk.i64_in _ (by (try simp only [arithI]); omega)); rfl)); (try simp only [arithI, Act.put, Act.eval, List.setIfInBounds_toArray, List.set_cons_succ, List.set_cons_zero, Array.getD_eq_getD_getElem?, List.getElem?_toArray, List.getElem?_cons_succ, List.getElem?_cons_zero, Option.getD_some])))
  go_loopw [4] (SchRel w l g2 g3) (fun i _ => 64 - (intOf i).toNat)
  case atStart => exact ⟨0, Nat.zero_le _, rfl, by rw [fillL_zero]; exact HH.out⟩
  case round =>
    obtain ⟨t, ht, rfl, hr⟩ := hrel
    clear HH
    have HH := hid hr
    clear hr
    by_cases hlt : t < 64
    · have hfl := fillL_len (schW l) 64 t
      have HS := hid (fillL_set (schW l) hlt)
      by_cases h16 : t < 16
      · have hw : schW l t = w4 l (4 * t) := by rw [schW, dif_pos h16]
        have HW := hid hw
        clear hw
        go_wp2_with (first
          | ((first
              | ((with_reducible apply wpL_skip); rfl; skip)
              | ((with_reducible apply wpL_move); rfl; rfl)
              | ((with_reducible apply wpL_assign); rfl; rfl)
              | ((with_reducible apply wpL_pick); rfl; rfl; rfl)
              | ((with_reducible apply wpL_not); rfl; rfl)
              | ((with_reducible apply wpL_cmp (b := true)); rfl; rfl; rfl; (first | rfl | assumption | (simp only [cmpB, decide_eq_true_eq, decide_eq_false_iff_not, beq_iff_eq, bne_iff_ne, ne_eq, beq_eq_false_iff_ne, bne_eq_false_iff_eq, gt_iff_lt, ge_iff_le]; omega) | (simp; omega)); rfl)
              | ((with_reducible apply wpL_cmp (b := false)); rfl; rfl; rfl; (first | rfl | assumption | (simp only [cmpB, decide_eq_true_eq, decide_eq_false_iff_not, beq_iff_eq, bne_iff_ne, ne_eq, beq_eq_false_iff_ne, bne_eq_false_iff_eq, gt_iff_lt, ge_iff_le]; omega) | (simp; omega)); rfl)
              | ((with_reducible apply wpL_cmp); rfl; rfl; rfl; rfl; rfl)
              | ((with_reducible apply wpL_arith); rfl; rfl; rfl; (exact IntWalk.i64_in _ (by (try simp only [arithI]); omega)); rfl)); (try simp only [arithI, Act.put, Act.eval, List.setIfInBounds_toArray, List.set_cons_succ, List.set_cons_zero, Array.getD_eq_getD_getElem?, List.getElem?_toArray, List.getElem?_cons_succ, List.getElem?_cons_zero, Option.getD_some])))
        refine wp_region_tailQ 35 (by kernel_rfl) (by kernel_rfl) (by kernel_rfl) HH.out ?_
        simp only [List.take_succ_cons, List.take_zero, List.drop_succ_cons, List.drop_zero]
        repeat ((first
          | ((with_reducible apply wpQ_skip); rfl; skip)
          | ((with_reducible apply wpQ_idxB (x := .tmp 14) (j := 4 * t) E22); rfl; rfl; (exact (by omega)); (exact (by omega)); rfl)
          | ((with_reducible apply wpQ_idxB (x := .tmp 21) (j := 4 * t + 1) E22); rfl; rfl; (exact (by omega)); (exact (by omega)); rfl)
          | ((with_reducible apply wpQ_idxB (x := .tmp 30) (j := 4 * t + 2) E22); rfl; rfl; (exact (by omega)); (exact (by omega)); rfl)
          | ((with_reducible apply wpQ_idxB (x := .tmp 39) (j := 4 * t + 3) E22); rfl; rfl; (exact (by omega)); (exact (by omega)); rfl)
          | ((with_reducible apply wpQ_loadB O5); rfl; (intro wq hwq; exact (show Byts wq _ l from hwq.sl HL.out).at (by omega)); rfl)
          | ((with_reducible apply wpQ_indexVar (m := t) Try.underlying107 S105); rfl; rfl; rfl; (exact hlt); rfl)
          | ((with_reducible apply wpQ_b2w Try.underlying5 Try.underlying105); rfl; rfl)
          | ((with_reducible apply wpQ_wshl); rfl; rfl; (exact (by decide)); rfl)
          | ((with_reducible apply wpQ_wop); rfl; rfl; rfl; rfl)
          | ((with_reducible apply wpQ_move); rfl; rfl)
          | ((with_reducible apply wpQ_assign); rfl; rfl)
          | ((with_reducible apply wpQ_pick); rfl; rfl; rfl)
          | ((with_reducible apply wpQ_not); rfl; rfl)
          | ((with_reducible apply wpQ_cmp (b := true)); rfl; rfl; rfl; (first | rfl | assumption | (simp only [cmpB, decide_eq_true_eq, decide_eq_false_iff_not, beq_iff_eq, bne_iff_ne, ne_eq, beq_eq_false_iff_ne, bne_eq_false_iff_eq, gt_iff_lt, ge_iff_le]; omega) | (simp; omega)); rfl)
          | ((with_reducible apply wpQ_cmp (b := false)); rfl; rfl; rfl; (first | rfl | assumption | (simp only [cmpB, decide_eq_true_eq, decide_eq_false_iff_not, beq_iff_eq, bne_iff_ne, ne_eq, beq_eq_false_iff_ne, bne_eq_false_iff_eq, gt_iff_lt, ge_iff_le]; omega) | (simp; omega)); rfl)
          | ((with_reducible apply wpQ_cmp); rfl; rfl; rfl; rfl; rfl)
          | ((with_reducible apply wpQ_arith); rfl; rfl; rfl; (exact IntWalk.i64_in _ (by (try simp only [arithI]); omega)); rfl)); simp only [arithI, Act.put, Act.eval, List.setIfInBounds_toArray, List.set_cons_succ, List.set_cons_zero, Array.getD_eq_getD_getElem?, List.getElem?_toArray, List.getElem?_cons_succ, List.getElem?_cons_zero, Option.getD_some])
        refine wpQuiet_nil ?_
        intro wq hq_
        have HQ := hid hq_
        clear hq_
        clear HH
        have HH := HQ
        clear HQ
        go_wp2_with (first
          | ((first
              | ((with_reducible apply wpL_skip); rfl; skip)
              | ((with_reducible apply wpL_storeW (l := fillL (schW l) 64 t) (m := t) (v := w4 l (4 * t))); rfl; rfl; (exact S105); (exact HH.out); (exact .here); (exact (by omega)); rfl; (intro w_ hq_; rw [← HW.out, HS.out] at hq_; clear HH; have HH := hid hq_; clear hq_))
              | ((with_reducible apply wpL_move); rfl; rfl)
              | ((with_reducible apply wpL_assign); rfl; rfl)
              | ((with_reducible apply wpL_pick); rfl; rfl; rfl)
              | ((with_reducible apply wpL_not); rfl; rfl)
              | ((with_reducible apply wpL_cmp (b := true)); rfl; rfl; rfl; (first | rfl | assumption | (simp only [cmpB, decide_eq_true_eq, decide_eq_false_iff_not, beq_iff_eq, bne_iff_ne, ne_eq, beq_eq_false_iff_ne, bne_eq_false_iff_eq, gt_iff_lt, ge_iff_le]; omega) | (simp; omega)); rfl)
              | ((with_reducible apply wpL_cmp (b := false)); rfl; rfl; rfl; (first | rfl | assumption | (simp only [cmpB, decide_eq_true_eq, decide_eq_false_iff_not, beq_iff_eq, bne_iff_ne, ne_eq, beq_eq_false_iff_ne, bne_eq_false_iff_eq, gt_iff_lt, ge_iff_le]; omega) | (simp; omega)); rfl)
              | ((with_reducible apply wpL_cmp); rfl; rfl; rfl; rfl; rfl)
              | ((with_reducible apply wpL_arith); rfl; rfl; rfl; (exact IntWalk.i64_in _ (by (try simp only [arithI]); omega)); rfl)); (try simp only [arithI, Act.put, Act.eval, List.setIfInBounds_toArray, List.set_cons_succ, List.set_cons_zero, Array.getD_eq_getD_getElem?, List.getElem?_toArray, List.getElem?_cons_succ, List.getElem?_cons_zero, Option.getD_some])))
        go_roundw
        case rel => exact ⟨t + 1, by omega, by go_num, HH.out⟩
        case measure => simp [intOf]; omega
      · have hw : schW l t = sg1 (schW l (t - 2)) + schW l (t - 7) + sg0 (schW l (t - 15)) + schW l (t - 16) := by rw [schW, dif_neg h16]
        have HW := hid hw
        clear hw
        have g2' : (fillL (schW l) 64 t).getD (t - 2) 0 = schW l (t - 2) := fillL_get (by omega) (by omega)
        have g7' : (fillL (schW l) 64 t).getD (t - 7) 0 = schW l (t - 7) := fillL_get (by omega) (by omega)
        have g15' : (fillL (schW l) 64 t).getD (t - 15) 0 = schW l (t - 15) := fillL_get (by omega) (by omega)
        have g16' : (fillL (schW l) 64 t).getD (t - 16) 0 = schW l (t - 16) := fillL_get (by omega) (by omega)
        have G2 := hid (show ((fillL (schW l) 64 t).map wrd)[0 + (t - 2)]? = some (wrd (schW l (t - 2))) by rw [← g2']; exact wget (by omega))
        have G7 := hid (show ((fillL (schW l) 64 t).map wrd)[0 + (t - 7)]? = some (wrd (schW l (t - 7))) by rw [← g7']; exact wget (by omega))
        have G15 := hid (show ((fillL (schW l) 64 t).map wrd)[0 + (t - 15)]? = some (wrd (schW l (t - 15))) by rw [← g15']; exact wget (by omega))
        have G16 := hid (show ((fillL (schW l) 64 t).map wrd)[0 + (t - 16)]? = some (wrd (schW l (t - 16))) by rw [← g16']; exact wget (by omega))
        clear g2' g7' g15' g16'
        go_wp2_with (first
          | ((first
              | ((with_reducible apply wpL_skip); rfl; skip)
              | ((with_reducible apply wpL_move); rfl; rfl)
              | ((with_reducible apply wpL_assign); rfl; rfl)
              | ((with_reducible apply wpL_pick); rfl; rfl; rfl)
              | ((with_reducible apply wpL_not); rfl; rfl)
              | ((with_reducible apply wpL_cmp (b := true)); rfl; rfl; rfl; (first | rfl | assumption | (simp only [cmpB, decide_eq_true_eq, decide_eq_false_iff_not, beq_iff_eq, bne_iff_ne, ne_eq, beq_eq_false_iff_ne, bne_eq_false_iff_eq, gt_iff_lt, ge_iff_le]; omega) | (simp; omega)); rfl)
              | ((with_reducible apply wpL_cmp (b := false)); rfl; rfl; rfl; (first | rfl | assumption | (simp only [cmpB, decide_eq_true_eq, decide_eq_false_iff_not, beq_iff_eq, bne_iff_ne, ne_eq, beq_eq_false_iff_ne, bne_eq_false_iff_eq, gt_iff_lt, ge_iff_le]; omega) | (simp; omega)); rfl)
              | ((with_reducible apply wpL_cmp); rfl; rfl; rfl; rfl; rfl)
              | ((with_reducible apply wpL_arith); rfl; rfl; rfl; (exact IntWalk.i64_in _ (by (try simp only [arithI]); omega)); rfl)); (try simp only [arithI, Act.put, Act.eval, List.setIfInBounds_toArray, List.set_cons_succ, List.set_cons_zero, Array.getD_eq_getD_getElem?, List.getElem?_toArray, List.getElem?_cons_succ, List.getElem?_cons_zero, Option.getD_some])))
        refine wp_region_holds (by kernel_rfl) (by kernel_rfl) HH.out ?_
        repeat ((first
          | ((with_reducible apply wpQ_skip); rfl; skip)
          | ((with_reducible apply wpQ_indexVar (i := .tmp 49) (m := t - 2) Try.underlying107 S105); rfl; rfl; (exact (by omega)); (exact (by omega)); rfl)
          | ((with_reducible apply wpQ_indexVar (i := .tmp 53) (m := t - 15) Try.underlying107 S105); rfl; rfl; (exact (by omega)); (exact (by omega)); rfl)
          | ((with_reducible apply wpQ_load1 (x := .tmp 50) (v := wrd (schW l (t - 2))) O105); rfl; (exact .here); (exact G2.out); rfl)
          | ((with_reducible apply wpQ_load1 (x := .tmp 54) (v := wrd (schW l (t - 15))) O105); rfl; (exact .here); (exact G15.out); rfl)
          | ((with_reducible apply wpQ_move); rfl; rfl)
          | ((with_reducible apply wpQ_assign); rfl; rfl)
          | ((with_reducible apply wpQ_pick); rfl; rfl; rfl)
          | ((with_reducible apply wpQ_not); rfl; rfl)
          | ((with_reducible apply wpQ_cmp (b := true)); rfl; rfl; rfl; (first | rfl | assumption | (simp only [cmpB, decide_eq_true_eq, decide_eq_false_iff_not, beq_iff_eq, bne_iff_ne, ne_eq, beq_eq_false_iff_ne, bne_eq_false_iff_eq, gt_iff_lt, ge_iff_le]; omega) | (simp; omega)); rfl)
          | ((with_reducible apply wpQ_cmp (b := false)); rfl; rfl; rfl; (first | rfl | assumption | (simp only [cmpB, decide_eq_true_eq, decide_eq_false_iff_not, beq_iff_eq, bne_iff_ne, ne_eq, beq_eq_false_iff_ne, bne_eq_false_iff_eq, gt_iff_lt, ge_iff_le]; omega) | (simp; omega)); rfl)
          | ((with_reducible apply wpQ_cmp); rfl; rfl; rfl; rfl; rfl)
          | ((with_reducible apply wpQ_arith); rfl; rfl; rfl; (exact IntWalk.i64_in _ (by (try simp only [arithI]); omega)); rfl)); simp only [arithI, Act.put, Act.eval, List.setIfInBounds_toArray, List.set_cons_succ, List.set_cons_zero, Array.getD_eq_getD_getElem?, List.getElem?_toArray, List.getElem?_cons_succ, List.getElem?_cons_zero, Option.getD_some])
        refine wpQuiet_nil ?_
        intro wq hq_
        have HQ := hid hq_
        clear hq_
        clear HH
        have HH := HQ
        clear HQ
        go_wp2
        refine wp_region_tailQ 29 (by kernel_rfl) (by kernel_rfl) (by kernel_rfl) HH.out ?_
        simp only [List.take_succ_cons, List.take_zero, List.drop_succ_cons, List.drop_zero]
        repeat ((first
          | ((with_reducible apply wpQ_skip); rfl; skip)
          | ((with_reducible apply wpQ_indexVar (i := .tmp 66) (m := t - 7) Try.underlying107 S105); rfl; rfl; (exact (by omega)); (exact (by omega)); rfl)
          | ((with_reducible apply wpQ_indexVar (i := .tmp 80) (m := t - 16) Try.underlying107 S105); rfl; rfl; (exact (by omega)); (exact (by omega)); rfl)
          | ((with_reducible apply wpQ_indexVar (i := .tmp 56) (m := t) Try.underlying107 S105); rfl; rfl; rfl; (exact hlt); rfl)
          | ((with_reducible apply wpQ_load1 (x := .tmp 67) (v := wrd (schW l (t - 7))) O105); rfl; (exact .here); (exact G7.out); rfl)
          | ((with_reducible apply wpQ_load1 (x := .tmp 81) (v := wrd (schW l (t - 16))) O105); rfl; (exact .here); (exact G16.out); rfl)
          | ((with_reducible apply wpQ_rotate); rfl; rfl; (exact (by decide)); rfl)
          | ((with_reducible apply wpQ_wop); rfl; rfl; rfl; rfl)
          | ((with_reducible apply wpQ_wshr); rfl; rfl; (exact (by decide)); rfl)
          | ((with_reducible apply wpQ_move); rfl; rfl)
          | ((with_reducible apply wpQ_assign); rfl; rfl)
          | ((with_reducible apply wpQ_pick); rfl; rfl; rfl)
          | ((with_reducible apply wpQ_not); rfl; rfl)
          | ((with_reducible apply wpQ_cmp (b := true)); rfl; rfl; rfl; (first | rfl | assumption | (simp only [cmpB, decide_eq_true_eq, decide_eq_false_iff_not, beq_iff_eq, bne_iff_ne, ne_eq, beq_eq_false_iff_ne, bne_eq_false_iff_eq, gt_iff_lt, ge_iff_le]; omega) | (simp; omega)); rfl)
          | ((with_reducible apply wpQ_cmp (b := false)); rfl; rfl; rfl; (first | rfl | assumption | (simp only [cmpB, decide_eq_true_eq, decide_eq_false_iff_not, beq_iff_eq, bne_iff_ne, ne_eq, beq_eq_false_iff_ne, bne_eq_false_iff_eq, gt_iff_lt, ge_iff_le]; omega) | (simp; omega)); rfl)
          | ((with_reducible apply wpQ_cmp); rfl; rfl; rfl; rfl; rfl)
          | ((with_reducible apply wpQ_arith); rfl; rfl; rfl; (exact IntWalk.i64_in _ (by (try simp only [arithI]); omega)); rfl)); simp only [arithI, Act.put, Act.eval, List.setIfInBounds_toArray, List.set_cons_succ, List.set_cons_zero, Array.getD_eq_getD_getElem?, List.getElem?_toArray, List.getElem?_cons_succ, List.getElem?_cons_zero, Option.getD_some])
        refine wpQuiet_nil ?_
        intro wq hq_
        have HQ := hid hq_
        clear hq_
        clear HH
        have HH := HQ
        clear HQ
        go_wp2_with (first
          | ((first
              | ((with_reducible apply wpL_skip); rfl; skip)
              | ((with_reducible apply wpL_storeW (l := fillL (schW l) 64 t) (m := t) (v := sg1 (schW l (t - 2)) + schW l (t - 7) + sg0 (schW l (t - 15)) + schW l (t - 16))); rfl; rfl; (exact S105); (exact HH.out); (exact .here); (exact (by omega)); rfl; (intro w_ hq_; rw [← HW.out, HS.out] at hq_; clear HH; have HH := hid hq_; clear hq_))
              | ((with_reducible apply wpL_move); rfl; rfl)
              | ((with_reducible apply wpL_assign); rfl; rfl)
              | ((with_reducible apply wpL_pick); rfl; rfl; rfl)
              | ((with_reducible apply wpL_not); rfl; rfl)
              | ((with_reducible apply wpL_cmp (b := true)); rfl; rfl; rfl; (first | rfl | assumption | (simp only [cmpB, decide_eq_true_eq, decide_eq_false_iff_not, beq_iff_eq, bne_iff_ne, ne_eq, beq_eq_false_iff_ne, bne_eq_false_iff_eq, gt_iff_lt, ge_iff_le]; omega) | (simp; omega)); rfl)
              | ((with_reducible apply wpL_cmp (b := false)); rfl; rfl; rfl; (first | rfl | assumption | (simp only [cmpB, decide_eq_true_eq, decide_eq_false_iff_not, beq_iff_eq, bne_iff_ne, ne_eq, beq_eq_false_iff_ne, bne_eq_false_iff_eq, gt_iff_lt, ge_iff_le]; omega) | (simp; omega)); rfl)
              | ((with_reducible apply wpL_cmp); rfl; rfl; rfl; rfl; rfl)
              | ((with_reducible apply wpL_arith); rfl; rfl; rfl; (exact IntWalk.i64_in _ (by (try simp only [arithI]); omega)); rfl)); (try simp only [arithI, Act.put, Act.eval, List.setIfInBounds_toArray, List.set_cons_succ, List.set_cons_zero, Array.getD_eq_getD_getElem?, List.getElem?_toArray, List.getElem?_cons_succ, List.getElem?_cons_zero, Option.getD_some])))
        go_roundw
        case rel => exact ⟨t + 1, by omega, by go_num, HH.out⟩
        case measure => simp [intOf]; omega
    · have ht64 : t = 64 := by omega
      have HT := hid ht64
      clear ht64
      go_wp2_with (first
        | ((first
            | ((with_reducible apply wpL_skip); rfl; skip)
            | ((with_reducible apply wpL_loadC (x := .tmp 3) A107 HH.out); rfl; (exact .here); (rw [List.length_map, fillL_len]); rfl)
            | ((with_reducible apply wpL_storeC (vs := (fillL (schW l) 64 t).map wrd) (x := .tmp 2) (sz := 64)); rfl; rfl; (exact S107); (exact HH.out); (exact .there .here); (rw [List.length_map, fillL_len]); (exact wrd_one _); rfl; rfl; (intro w_ hq_; clear HH; have HH := hid hq_; clear hq_))
            | ((with_reducible apply wpL_move); rfl; rfl)
            | ((with_reducible apply wpL_assign); rfl; rfl)
            | ((with_reducible apply wpL_pick); rfl; rfl; rfl)
            | ((with_reducible apply wpL_not); rfl; rfl)
            | ((with_reducible apply wpL_cmp (b := true)); rfl; rfl; rfl; (first | rfl | assumption | (simp only [cmpB, decide_eq_true_eq, decide_eq_false_iff_not, beq_iff_eq, bne_iff_ne, ne_eq, beq_eq_false_iff_ne, bne_eq_false_iff_eq, gt_iff_lt, ge_iff_le]; omega) | (simp; omega)); rfl)
            | ((with_reducible apply wpL_cmp (b := false)); rfl; rfl; rfl; (first | rfl | assumption | (simp only [cmpB, decide_eq_true_eq, decide_eq_false_iff_not, beq_iff_eq, bne_iff_ne, ne_eq, beq_eq_false_iff_ne, bne_eq_false_iff_eq, gt_iff_lt, ge_iff_le]; omega) | (simp; omega)); rfl)
            | ((with_reducible apply wpL_cmp); rfl; rfl; rfl; rfl; rfl)
            | ((with_reducible apply wpL_arith); rfl; rfl; rfl; (exact IntWalk.i64_in _ (by (try simp only [arithI]); omega)); rfl)); (try simp only [arithI, Act.put, Act.eval, List.setIfInBounds_toArray, List.set_cons_succ, List.set_cons_zero, Array.getD_eq_getD_getElem?, List.getElem?_toArray, List.getElem?_cons_succ, List.getElem?_cons_zero, Option.getD_some])))
      refine bodyPost_ret (res1 rfl (resC A107 HH.out (by rfl) (.there .here) (by rw [List.length_map, fillL_len]))) rfl ?_
      refine ⟨?_, HH.out.below⟩
      rw [HT.out, fillL_full]
      rfl
end Go.Proofs.Ytgkfopodhikckaa
/- padded of the reference. Condition: at most a million bytes. -/
namespace Go.Proofs.Ytgkfopodhikckaa
open Go.RowKit
def lenV : Value → Nat | .slice _ n _ => n | _ => 0
theorem byt_cell1 (l : List UInt8) : ∀ u ∈ l.map byt, u.oneCell' = true := by
  intro u hu; obtain ⟨x, _, rfl⟩ := List.mem_map.1 hu; rfl
theorem Byts.of {w : World} {v : Value} {n : Nat} {l : List UInt8} {cs : List Value} (h : Sl w v 1 n cs) (hn : n = l.length) (hc : cs = l.map byt) : Byts w v l := by subst hn hc; exact h
/-- A row of bytes of the call's own. -/
@[reducible] def rowB (ao : Option Addr) (cap : Nat) (l : List UInt8) : Row := ⟨.slice ao l.length cap, 5, 1, l.length, l.map byt⟩
def RetBy (w : World) (l : List UInt8) (e : Ending) (w' : World) : Prop :=
  ∃ ao cap, e = .returned (.slice ao l.length cap) ∧ w'.ownsRow w.heap.size 5 1 (.slice ao l.length cap) l.length (l.map byt) ∧ Below w.heap.size w w'
section
variable {w w0 : World} {S : List Nat} {bs : List (Nat × Obj)} {rows : List Row} {ops : Array Oper} {rest : List Oper} {a : Act} {dst : Option Tmp} {ty : TypeId} {pos : String} {after : Array Edge} {guard : Option (Nat × Bool)} {Q : Exit → Act → World → Prop} {P : Program}
theorem wpL_buildB (l : List UInt8) {parts : Array (Nat × Operand)} {n : Nat} (hn : n = l.length) (hp : (parts.toList.map fun p => (p.1, a.eval p.2)) = ((l.map byt).zipIdx 0).map fun p => (p.2, p.1)) (hb : n ≤ 1000) (hH : Holds w0 S bs rows w)
    (hg : Region.wanted { dst := dst, op := .buildSlice 22 n parts, type := ty, pos := pos, after := after, guard := guard } (yielded ops a.tmps) = true)
    (h : ∀ g w', Holds w0 S bs (rowB (some ⟨g, 0, none⟩) n l :: rows) w' → wpList Try.prog ops Q rest (a.put dst (.slice (some ⟨g, 0, none⟩) n n)) w') :
    wpList Try.prog ops Q ({ dst := dst, op := .buildSlice 22 n parts, type := ty, pos := pos, after := after, guard := guard } :: rest) a w := by
  subst hn
  refine wpList_buildSlice E22 (l.map byt) ?_ ?_ (by simp) hp hH (xs := l.map byt) ?_ hg h
  · intro v hv; obtain ⟨x, _, rfl⟩ := List.mem_map.1 hv; rfl
  · simp; omega
  · clear hp hb hg h
    induction l with
    | nil => rfl
    | cons x l ih => simp only [List.map_cons, List.flatMap_cons, ← ih]; rfl
theorem wpL_appendB {ao ax : Option Addr} {ca cx n m : Nat} {l l2 : List UInt8} (hH : Holds w0 S bs (⟨.slice ao n ca, 5, 1, n, l.map byt⟩ :: rows) w) (hx : Sl w (.slice ax m cx) 1 m (l2.map byt)) (hn : n = l.length) (hm : m = l2.length) (hb : l.length + l2.length ≤ 100000000) {s y : Operand} (hs : a.eval s = .slice ao n ca) (hy : a.eval y = .slice ax m cx)
    (hg : Region.wanted { dst := dst, op := .call { callee := .builtin .append, args := #[s, y], argTypes := #[22, 22] }, type := ty, pos := pos, after := after, guard := guard } (yielded ops a.tmps) = true)
    (h : ∀ ao cap w', Holds w0 S bs (rowB ao cap (l ++ l2) :: rows) w' → wpList Try.prog ops Q rest (a.put dst (.slice ao (l ++ l2).length cap)) w') :
    wpList Try.prog ops Q ({ dst := dst, op := .call { callee := .builtin .append, args := #[s, y], argTypes := #[22, 22] }, type := ty, pos := pos, after := after, guard := guard } :: rest) a w := by
  subst hn hm
  refine wpList_append E22 hH hx (byt_cell1 _) (by omega) hs hy hg fun ao cap w' h' => ?_
  have := h ao cap w' (by simpa only [rowB, List.length_append, List.map_append] using h')
  rwa [List.length_append] at this
/-- A word of 64 bits, shifted. -/
theorem wpL_shrN {t yt : TypeId} {x y : Operand} {p q : Int} {m k : Nat} (hx : a.eval x = .int .u64 p) (hy : a.eval y = .int .i64 q) (hp : p = (m : Int)) (hq : q = (k : Int)) (hk : k < 64)
    (hg : Region.wanted { dst := dst, op := .binOp .shr t x y yt, type := ty, pos := pos, after := after, guard := guard } (yielded ops a.tmps) = true)
    (h : wpList P ops Q rest (a.put dst (.int .u64 ((m / 2 ^ k : Nat) : Int))) w) : wpList P ops Q ({ dst := dst, op := .binOp .shr t x y yt, type := ty, pos := pos, after := after, guard := guard } :: rest) a w := by
  subst hp hq
  refine wpList_ex hg ?_ h
  have he : ∀ u v, eqGuard .shr t x y u v = pure () := fun _ _ => rfl
  have hr : (binOp .shr t (.int .u64 (m : Int)) (.int .i64 (k : Int))).run P w = .ok (.int .u64 ((m / 2 ^ k : Nat) : Int)) w := by
    show (Op.shift .shr .u64 (m : Int) .i64 (k : Int)).run P w = _
    have h0 : ¬ (k : Int) < 0 := by omega
    have h1 : min (k : Int).toNat IntKind.u64.bits = k := by
      have : IntKind.u64.bits = 64 := rfl
      omega
    simp only [Op.shift, h0, if_false, h1, Sem.run_pure]
    congr 2
    rw [Int.fdiv_eq_ediv_of_nonneg _ (by exact_mod_cast Nat.zero_le _)]
    norm_cast
  simp only [execOp, hx, hy, Sem.run_bind, he, Sem.run_pure, Result.andThen_ok, hr]
theorem wpL_toB {s d : TypeId} {z : TypeDesc} {x : Operand} {k : IntKind} {p : Int} {m : Nat} (hs : P.underlying s = some z) (hd : P.underlying d = some (.int .u8)) (hx : a.eval x = .int k p) (hp : p = (m : Int))
    (hg : Region.wanted { dst := dst, op := .convert s d x, type := ty, pos := pos, after := after, guard := guard } (yielded ops a.tmps) = true)
    (h : wpList P ops Q rest (a.put dst (byt (UInt8.ofNat m))) w) : wpList P ops Q ({ dst := dst, op := .convert s d x, type := ty, pos := pos, after := after, guard := guard } :: rest) a w := by
  subst hp
  refine wpList_ex hg ?_ h
  have hr : (convert s d (.int k (m : Int))).run P w = .ok (byt (UInt8.ofNat m)) w := by
    simp only [convert, Sem.run_bind, run_underlying hs, run_underlying hd, Result.andThen_ok, Conv.intToInt, Sem.run_pure]
    unfold byt
    rw [UInt8.toNat_ofNat', IntKind.wrap_u8]
    congr 2
  simp only [execOp, hx, Sem.run_bind, Sem.run_pure, Result.andThen_ok, hr]
end
def padZ (n : Nat) : Nat := (119 - n % 64) % 64
/-- Byte i of the count of bits. -/
def lenByte (n i : Nat) : UInt8 := UInt8.ofNat (n * 8 / 2 ^ (8 * i))
def lenBs (n j : Nat) : List UInt8 := (List.range j).map fun i => lenByte n (7 - i)
def padL (n : Nat) : List UInt8 := 128 :: List.replicate (padZ n) 0 ++ lenBs n 8
theorem lenBs_succ (n j : Nat) : lenBs n (j + 1) = lenBs n j ++ [lenByte n (7 - j)] := by simp [lenBs, List.range_succ]
def PadRel1 (w : World) (l : List UInt8) (v : Value) (wr : World) : Prop :=
  ∃ k : Nat, k ≤ padZ l.length ∧ ∃ ao cap, v = .slice ao (l ++ 128 :: List.replicate k 0).length cap ∧ Holds w [] [] [rowB ao cap (l ++ 128 :: List.replicate k 0)] wr
def PadRel2 (w : World) (l : List UInt8) (n : Nat) (v i : Value) (wr : World) : Prop :=
  ∃ j : Nat, j ≤ 8 ∧ i = .int .i64 (7 - j) ∧ ∃ ao cap, v = .slice ao (l ++ lenBs n j).length cap ∧ Holds w [] [] [rowB ao cap (l ++ lenBs n j)] wr
set_option maxRecDepth 100000 in
set_option maxHeartbeats 2000000 in
theorem padded_any (w : World) (v : Value) (l : List UInt8) (hl : Byts w v l) (hn : l.length ≤ 1000000) : Calls Try.prog 58 #[v] w (RetBy w (l ++ padL l.length)) := by
  obtain ⟨ao, cap, rfl, _⟩ := hl.shape
  have HL := hid hl
  clear hl
  have HH := hid (Holds.init w)
  go_enter Try.func58, Try.ntmps58
  go_wp2_with (first
    | ((first
        | ((with_reducible apply wpL_skip); rfl; skip)
        | ((with_reducible apply wpL_buildB [] (dst := some 6)); rfl; rfl; (exact (by omega)); (exact HH.out); rfl; (intro g_ w_ hq_; clear HH; have HH := hid hq_; clear hq_))
        | ((with_reducible apply wpL_appendB (dst := some 8) (l := []) (l2 := l) HH.out (HH.out.sl HL.out)); rfl; rfl; (exact (by simp; omega)); rfl; rfl; rfl; (intro ao1 cap1 w_ hq_; clear HH; have HH := hid hq_; clear hq_))
        | ((with_reducible apply wpL_buildB [128] (dst := some 9)); rfl; rfl; (exact (by omega)); (exact HH.out); rfl; (intro g_ w_ hq_; clear HH; have HH := hid hq_; clear hq_))
        | ((with_reducible apply wpL_appendB (dst := some 10) (l := l) (l2 := [128]) HH.out.swap HH.out.sl0); rfl; rfl; (exact (by simp; omega)); rfl; rfl; rfl; (intro ao1 cap1 w_ hq_; clear HH; have HH := hid hq_.dropSnd; clear hq_))
        | ((with_reducible apply wpL_move); rfl; rfl)
        | ((with_reducible apply wpL_assign); rfl; rfl)
        | ((with_reducible apply wpL_pick); rfl; rfl; rfl)
        | ((with_reducible apply wpL_not); rfl; rfl)
        | ((with_reducible apply wpL_cmp (b := true)); rfl; rfl; rfl; (first | rfl | assumption | (simp only [cmpB, decide_eq_true_eq, decide_eq_false_iff_not, beq_iff_eq, bne_iff_ne, ne_eq, beq_eq_false_iff_ne, bne_eq_false_iff_eq, gt_iff_lt, ge_iff_le]; omega) | (simp; omega)); rfl)
        | ((with_reducible apply wpL_cmp (b := false)); rfl; rfl; rfl; (first | rfl | assumption | (simp only [cmpB, decide_eq_true_eq, decide_eq_false_iff_not, beq_iff_eq, bne_iff_ne, ne_eq, beq_eq_false_iff_ne, bne_eq_false_iff_eq, gt_iff_lt, ge_iff_le]; omega) | (simp; omega)); rfl)
        | ((with_reducible apply wpL_cmp); rfl; rfl; rfl; rfl; rfl)
        | ((with_reducible apply wpL_arith); rfl; rfl; rfl; (exact IntWalk.i64_in _ (by (try simp only [arithI]); omega)); rfl)); (try simp only [arithI, Act.put, Act.eval, List.setIfInBounds_toArray, List.set_cons_succ, List.set_cons_zero, Array.getD_eq_getD_getElem?, List.getElem?_toArray, List.getElem?_cons_succ, List.getElem?_cons_zero, Option.getD_some])))
  go_loopw [3] (PadRel1 w l) (fun v _ => l.length + 1 + padZ l.length - lenV v)
  case atStart => exact ⟨0, Nat.zero_le _, _, _, rfl, HH.out⟩
  case round =>
    obtain ⟨k, hk, ao1, cap1, rfl, hr⟩ := hrel
    clear HH
    have HH := hid hr
    clear hr
    have hlen : (l ++ 128 :: List.replicate k 0).length = l.length + 1 + k := by simp; omega
    have hz : padZ l.length = (119 - l.length % 64) % 64 := rfl
    by_cases hlt : k < padZ l.length
    · have happ : (l ++ 128 :: List.replicate k 0) ++ [0] = l ++ 128 :: List.replicate (k + 1) 0 := by rw [List.append_assoc, List.cons_append, ← List.replicate_succ']
      have HA := hid happ
      clear happ
      go_wp2_with (first
        | ((first
            | ((with_reducible apply wpL_skip); rfl; skip)
            | ((with_reducible apply wpL_len Try.underlying22); rfl; rfl)
            | ((with_reducible apply wpL_remN (m := (l ++ 128 :: List.replicate k 0).length) (n := 64)); rfl; rfl; rfl; rfl; (exact (by omega)); (exact (by omega)); (exact (by omega)); rfl)
            | ((with_reducible apply wpL_buildB [0] (dst := some 16)); rfl; rfl; (exact (by omega)); (exact HH.out); rfl; (intro g_ w_ hq_; clear HH; have HH := hid hq_; clear hq_))
            | ((with_reducible apply wpL_appendB (dst := some 17) (l := l ++ 128 :: List.replicate k 0) (l2 := [0]) HH.out.swap HH.out.sl0); rfl; rfl; (exact (by simp; omega)); rfl; rfl; rfl; (rw [HA.out]; intro ao1 cap1 w_ hq_; clear HH; have HH := hid hq_.dropSnd; clear hq_))
            | ((with_reducible apply wpL_move); rfl; rfl)
            | ((with_reducible apply wpL_assign); rfl; rfl)
            | ((with_reducible apply wpL_pick); rfl; rfl; rfl)
            | ((with_reducible apply wpL_not); rfl; rfl)
            | ((with_reducible apply wpL_cmp (b := true)); rfl; rfl; rfl; (first | rfl | assumption | (simp only [cmpB, decide_eq_true_eq, decide_eq_false_iff_not, beq_iff_eq, bne_iff_ne, ne_eq, beq_eq_false_iff_ne, bne_eq_false_iff_eq, gt_iff_lt, ge_iff_le]; omega) | (simp; omega)); rfl)
            | ((with_reducible apply wpL_cmp (b := false)); rfl; rfl; rfl; (first | rfl | assumption | (simp only [cmpB, decide_eq_true_eq, decide_eq_false_iff_not, beq_iff_eq, bne_iff_ne, ne_eq, beq_eq_false_iff_ne, bne_eq_false_iff_eq, gt_iff_lt, ge_iff_le]; omega) | (simp; omega)); rfl)
            | ((with_reducible apply wpL_cmp); rfl; rfl; rfl; rfl; rfl)
            | ((with_reducible apply wpL_arith); rfl; rfl; rfl; (exact IntWalk.i64_in _ (by (try simp only [arithI]); omega)); rfl)); (try simp only [arithI, Act.put, Act.eval, List.setIfInBounds_toArray, List.set_cons_succ, List.set_cons_zero, Array.getD_eq_getD_getElem?, List.getElem?_toArray, List.getElem?_cons_succ, List.getElem?_cons_zero, Option.getD_some])))
      go_roundw
      case rel => exact ⟨k + 1, by omega, _, _, rfl, HH.out⟩
      case measure => simp [lenV]; omega
    · have hkz : k = padZ l.length := by omega
      have HKZ := hid hkz
      clear hkz
      go_wp2_with (first
        | ((first
            | ((with_reducible apply wpL_skip); rfl; skip)
            | ((with_reducible apply wpL_len Try.underlying22); rfl; rfl)
            | ((with_reducible apply wpL_remN (m := (l ++ 128 :: List.replicate k 0).length) (n := 64)); rfl; rfl; rfl; rfl; (exact (by omega)); (exact (by omega)); (exact (by omega)); rfl)
            | ((with_reducible apply wpL_move); rfl; rfl)
            | ((with_reducible apply wpL_assign); rfl; rfl)
            | ((with_reducible apply wpL_pick); rfl; rfl; rfl)
            | ((with_reducible apply wpL_not); rfl; rfl)
            | ((with_reducible apply wpL_cmp (b := true)); rfl; rfl; rfl; (first | rfl | assumption | (simp only [cmpB, decide_eq_true_eq, decide_eq_false_iff_not, beq_iff_eq, bne_iff_ne, ne_eq, beq_eq_false_iff_ne, bne_eq_false_iff_eq, gt_iff_lt, ge_iff_le]; omega) | (simp; omega)); rfl)
            | ((with_reducible apply wpL_cmp (b := false)); rfl; rfl; rfl; (first | rfl | assumption | (simp only [cmpB, decide_eq_true_eq, decide_eq_false_iff_not, beq_iff_eq, bne_iff_ne, ne_eq, beq_eq_false_iff_ne, bne_eq_false_iff_eq, gt_iff_lt, ge_iff_le]; omega) | (simp; omega)); rfl)
            | ((with_reducible apply wpL_cmp); rfl; rfl; rfl; rfl; rfl)
            | ((with_reducible apply wpL_arith); rfl; rfl; rfl; (exact IntWalk.i64_in _ (by (try simp only [arithI]); omega)); rfl)); (try simp only [arithI, Act.put, Act.eval, List.setIfInBounds_toArray, List.set_cons_succ, List.set_cons_zero, Array.getD_eq_getD_getElem?, List.getElem?_toArray, List.getElem?_cons_succ, List.getElem?_cons_zero, Option.getD_some])))
      go_loopw [3, 5] (PadRel2 w (l ++ 128 :: List.replicate k 0) l.length) (fun _ i _ => (intOf i + 1).toNat)
      case atStart => exact ⟨0, Nat.zero_le _, rfl, ao1, cap1, by simp [lenBs], by simpa [lenBs] using HH.out⟩
      case round =>
        obtain ⟨j, hj, rfl, ao2, cap2, rfl, hr⟩ := hrel
        clear HH
        have HH := hid hr
        clear hr
        have hll : ((l ++ 128 :: List.replicate k 0) ++ lenBs l.length j).length = l.length + 1 + k + j := by rw [List.length_append, hlen]; simp [lenBs]
        by_cases hj8 : j < 8
        · have HA := hid (show ((l ++ 128 :: List.replicate k 0) ++ lenBs l.length j) ++ [lenByte l.length (7 - j)] = (l ++ 128 :: List.replicate k 0) ++ lenBs l.length (j + 1) by rw [lenBs_succ, List.append_assoc])
          have hk63 : k < 64 := by omega
          go_wp2_with (first
            | ((first
                | ((with_reducible apply wpL_skip); rfl; skip)
                | ((with_reducible apply wpL_shrN (m := l.length * 8) (k := 8 * (7 - j))); rfl; rfl; (exact (by omega)); (exact (by omega)); (exact (by omega)); rfl)
                | ((with_reducible apply wpL_toB Try.underlying119 Try.underlying5); rfl; rfl; rfl)
                | ((with_reducible apply wpL_buildB [lenByte l.length (7 - j)] (dst := some 32)); rfl; rfl; (exact (by omega)); (exact HH.out); rfl; (intro g_ w_ hq_; clear HH; have HH := hid hq_; clear hq_))
                | ((with_reducible apply wpL_appendB (dst := some 33) (l := (l ++ 128 :: List.replicate k 0) ++ lenBs l.length j) (l2 := [lenByte l.length (7 - j)]) HH.out.swap HH.out.sl0); rfl; rfl; (rw [hll]; exact (by simp; omega)); rfl; rfl; rfl; (rw [HA.out]; intro ao1 cap1 w_ hq_; clear HH; have HH := hid hq_.dropSnd; clear hq_))
                | ((with_reducible apply wpL_move); rfl; rfl)
                | ((with_reducible apply wpL_assign); rfl; rfl)
                | ((with_reducible apply wpL_pick); rfl; rfl; rfl)
                | ((with_reducible apply wpL_not); rfl; rfl)
                | ((with_reducible apply wpL_cmp (b := true)); rfl; rfl; rfl; (first | rfl | assumption | (simp only [cmpB, decide_eq_true_eq, decide_eq_false_iff_not, beq_iff_eq, bne_iff_ne, ne_eq, beq_eq_false_iff_ne, bne_eq_false_iff_eq, gt_iff_lt, ge_iff_le]; omega) | (simp; omega)); rfl)
                | ((with_reducible apply wpL_cmp (b := false)); rfl; rfl; rfl; (first | rfl | assumption | (simp only [cmpB, decide_eq_true_eq, decide_eq_false_iff_not, beq_iff_eq, bne_iff_ne, ne_eq, beq_eq_false_iff_ne, bne_eq_false_iff_eq, gt_iff_lt, ge_iff_le]; omega) | (simp; omega)); rfl)
                | ((with_reducible apply wpL_cmp); rfl; rfl; rfl; rfl; rfl)
                | ((with_reducible apply wpL_arith); rfl; rfl; rfl; (exact IntWalk.i64_in _ (by (try simp only [arithI]); omega)); rfl)); (try simp only [arithI, Act.put, Act.eval, List.setIfInBounds_toArray, List.set_cons_succ, List.set_cons_zero, Array.getD_eq_getD_getElem?, List.getElem?_toArray, List.getElem?_cons_succ, List.getElem?_cons_zero, Option.getD_some])))
          go_roundw
          case rel => exact ⟨j + 1, by omega, by go_num, _, _, rfl, HH.out⟩
          case measure => simp [intOf]; omega
        · have hj88 : j = 8 := by omega
          have HJ := hid hj88
          clear hj88
          go_wp2_with (first
            | ((first
                | ((with_reducible apply wpL_skip); rfl; skip)
                | ((with_reducible apply wpL_move); rfl; rfl)
                | ((with_reducible apply wpL_assign); rfl; rfl)
                | ((with_reducible apply wpL_pick); rfl; rfl; rfl)
                | ((with_reducible apply wpL_not); rfl; rfl)
                | ((with_reducible apply wpL_cmp (b := true)); rfl; rfl; rfl; (first | rfl | assumption | (simp only [cmpB, decide_eq_true_eq, decide_eq_false_iff_not, beq_iff_eq, bne_iff_ne, ne_eq, beq_eq_false_iff_ne, bne_eq_false_iff_eq, gt_iff_lt, ge_iff_le]; omega) | (simp; omega)); rfl)
                | ((with_reducible apply wpL_cmp (b := false)); rfl; rfl; rfl; (first | rfl | assumption | (simp only [cmpB, decide_eq_true_eq, decide_eq_false_iff_not, beq_iff_eq, bne_iff_ne, ne_eq, beq_eq_false_iff_ne, bne_eq_false_iff_eq, gt_iff_lt, ge_iff_le]; omega) | (simp; omega)); rfl)
                | ((with_reducible apply wpL_cmp); rfl; rfl; rfl; rfl; rfl)
                | ((with_reducible apply wpL_arith); rfl; rfl; rfl; (exact IntWalk.i64_in _ (by (try simp only [arithI]); omega)); rfl)); (try simp only [arithI, Act.put, Act.eval, List.setIfInBounds_toArray, List.set_cons_succ, List.set_cons_zero, Array.getD_eq_getD_getElem?, List.getElem?_toArray, List.getElem?_cons_succ, List.getElem?_cons_zero, Option.getD_some])))
          go_ret
          have e : (l ++ 128 :: List.replicate k 0) ++ lenBs l.length j = l ++ padL l.length := by
            rw [HJ.out, HKZ.out, List.append_assoc]; rfl
          have hq := HH.out
          simp only [e] at hq ⊢
          exact ⟨_, _, rfl, hq.own0, hq.below⟩
end Go.Proofs.Ytgkfopodhikckaa
/- Sum of the reference. Condition: at most a million bytes. -/
namespace Go.Proofs.Ytgkfopodhikckaa
open Go.RowKit
theorem A106 : AggT Try.prog 106 8 := ⟨_, Try.underlying106, rfl, by kernel_rfl⟩
theorem S106 : (Try.prog.info? 106).map (·.size) = some 8 := by kernel_rfl
theorem Z106 : (Try.prog.info? 106).map (·.zero) = some (some (.agg z8.toArray)) := by kernel_rfl
theorem build106 (s : St) (w : World) : (Instr.build 106 #[(0, wrd s.a), (1, wrd s.b), (2, wrd s.c), (3, wrd s.d), (4, wrd s.e), (5, wrd s.f), (6, wrd s.g), (7, wrd s.h)]).run Try.prog w = .ok (valW s.ws) w := by kernel_rfl
def rndN (s : St) (W : Nat → W32) : Nat → St
  | 0 => s
  | t + 1 => roundS (rndN s W t) (kL.getD t 0) (W t)
/-- The state after a block of 64 bytes. -/
def blockS (s : St) (b : List UInt8) : St := plusS s (rndN s (schW b) 64)
def outByte (s : St) (i : Nat) : UInt8 := w2b (s.ws.getD (i / 4) 0 >>> (24 - 8 * (i % 4)))
def outB (s : St) : Arr 32 := ⟨(List.range 32).map (outByte s), by simp⟩
/-- The state after t blocks. -/
def blocksN (p : List UInt8) : Nat → St
  | 0 => initS
  | t + 1 => blockS (blocksN p t) ((p.drop (64 * t)).take 64)
def z32 : List Value := (List.replicate 32 (0 : UInt8)).map byt
def z64 : List Value := (List.replicate 64 (0 : W32)).map wrd
theorem Z24 : (Try.prog.info? 24).map (·.zero) = some (some (.agg z32.toArray)) := by kernel_rfl
theorem A24 : AggT Try.prog 24 32 := ⟨_, Try.underlying24, rfl, by kernel_rfl⟩
theorem S24 : (Try.prog.info? 24).map (·.size) = some 32 := by kernel_rfl
theorem S5' : (Try.prog.info? 5).map (·.size) = some 1 := by kernel_rfl
/-- The first i of the words are added to. -/
def addW (h v : List W32) (i : Nat) : List W32 := (List.range 8).map fun j => if j < i then h.getD j 0 + v.getD j 0 else h.getD j 0
theorem addW_len (h v : List W32) (i : Nat) : (addW h v i).length = 8 := by simp [addW]
theorem addW_get {h v : List W32} {i : Nat} (hi : i < 8) : (addW h v i).getD i 0 = h.getD i 0 := by simp [addW, hi]
theorem addW_set (h v : List W32) {i : Nat} (hi : i < 8) : (addW h v i).set i (h.getD i 0 + v.getD i 0) = addW h v (i + 1) := by
  apply List.ext_getElem
  · simp [addW]
  · intro j h1 h2
    rw [List.getElem_set]
    simp only [addW, List.getElem_map, List.getElem_range]
    by_cases hij : i = j
    · subst hij; simp
    · rw [if_neg hij]
      by_cases hj : j < i
      · rw [if_pos hj, if_pos (by omega)]
      · rw [if_neg hj, if_neg (by omega)]
theorem addW_zero (s : St) (v : List W32) : addW s.ws v 0 = s.ws := rfl
theorem addW_full (s v : St) : addW s.ws v.ws 8 = (plusS s v).ws := rfl
def fillB (f : Nat → UInt8) (n i : Nat) : List UInt8 := (List.range n).map fun j => if j < i then f j else 0
theorem fillB_len (f : Nat → UInt8) (n i : Nat) : (fillB f n i).length = n := by simp [fillB]
theorem fillB_zero (f : Nat → UInt8) (n : Nat) : fillB f n 0 = List.replicate n 0 := by
  apply List.ext_getElem? ; intro j
  simp only [fillB, List.getElem?_map, List.getElem?_range, Nat.not_lt_zero, if_false, List.getElem?_replicate]
  by_cases h : j < n
  · simp [h]
  · simp [h]
theorem fillB_set (f : Nat → UInt8) {n i : Nat} (h : i < n) : (fillB f n i).set i (f i) = fillB f n (i + 1) := by
  apply List.ext_getElem
  · simp [fillB]
  · intro j h1 h2
    rw [List.getElem_set]
    simp only [fillB, List.getElem_map, List.getElem_range]
    by_cases hij : i = j
    · subst hij; simp
    · rw [if_neg hij]
      by_cases hj : j < i
      · rw [if_pos hj, if_pos (by omega)]
      · rw [if_neg hj, if_neg (by omega)]
theorem fillB_full (f : Nat → UInt8) (n : Nat) : fillB f n n = (List.range n).map f := by
  unfold fillB
  apply List.map_congr_left
  intro j hj
  rw [if_pos (by simpa using hj)]
section
variable {w w0 : World} {S : List Nat} {bs bs' : List (Nat × Obj)} {rows : List Row} {ops : Array Oper} {rest : List Oper} {a : Act} {dst : Option Tmp} {ty : TypeId} {pos : String} {after : Array Edge} {guard : Option (Nat × Bool)} {Q : Exit → Act → World → Prop} {P : Program}
theorem wpL_storeBt {t : TypeId} {x y : Operand} {g m : Nat} {l : List UInt8} {v : UInt8} {e : TypeId}
    (hx : a.eval x = .pointer (some ⟨g, 0 + m, none⟩)) (hy : a.eval y = byt v) (hi : (P.info? t).map (·.size) = some 1)
    (hH : Holds w0 S bs rows w) (ht : Turn bs g (objC (l.map byt) e) (objC ((l.set m v).map byt) e) bs') (hc : m < l.length)
    (hg : Region.wanted { dst := dst, op := .store t x y, type := ty, pos := pos, after := after, guard := guard } (yielded ops a.tmps) = true)
    (h : ∀ w', Holds w0 S bs' rows w' → wpList P ops Q rest (a.put dst undef) w') :
    wpList P ops Q ({ dst := dst, op := .store t x y, type := ty, pos := pos, after := after, guard := guard } :: rest) a w := by
  rw [Nat.zero_add] at hx
  rw [List.map_set] at ht
  exact wpL_store1 hx hy rfl hi hH ht rfl (by simpa using hc) hg h
theorem wpL_quoN {t yt : TypeId} {x y : Operand} {p q : Int} {m n : Nat} (hx : a.eval x = .int .i64 p) (hy : a.eval y = .int .i64 q) (hp : p = (m : Int)) (hq : q = (n : Int)) (hn : 0 < n) (hm : m < 9223372036854775807)
    (hg : Region.wanted { dst := dst, op := .binOp .quo t x y yt, type := ty, pos := pos, after := after, guard := guard } (yielded ops a.tmps) = true)
    (h : wpList P ops Q rest (a.put dst (.int .i64 ((m / n : Nat) : Int))) w) : wpList P ops Q ({ dst := dst, op := .binOp .quo t x y yt, type := ty, pos := pos, after := after, guard := guard } :: rest) a w := by
  subst hp hq
  refine wpList_ex hg ?_ h
  have he : ∀ u v, eqGuard .quo t x y u v = pure () := fun _ _ => rfl
  have hr : (binOp .quo t (.int .i64 (m : Int)) (.int .i64 (n : Int))).run P w = .ok (.int .i64 ((m / n : Nat) : Int)) w := by
    show (Op.intDiv .quo .i64 (m : Int) (n : Int)).run P w = _
    have h0 : ¬ (n : Int) = 0 := by omega
    have h1 : IntKind.i64.wrap ((m : Int).tdiv (n : Int)) = ((m / n : Nat) : Int) := by rw [IntWalk.i64_quo _ _ ⟨by omega, by omega, by omega⟩]; norm_cast
    simp only [Op.intDiv, h0, if_false, Sem.run_pure, h1]
  simp only [execOp, hx, hy, Sem.run_bind, he, Sem.run_pure, Result.andThen_ok, hr]
theorem wpL_wshrN {t yt : TypeId} {x y : Operand} {p : W32} {k : IntKind} {n : Int} {m : Nat} (hx : a.eval x = wrd p) (hy : a.eval y = .int k n) (hn : n = (m : Int)) (hm : m < 32)
    (hg : Region.wanted { dst := dst, op := .binOp .shr t x y yt, type := ty, pos := pos, after := after, guard := guard } (yielded ops a.tmps) = true)
    (h : wpList P ops Q rest (a.put dst (wrd (p >>> m))) w) : wpList P ops Q ({ dst := dst, op := .binOp .shr t x y yt, type := ty, pos := pos, after := after, guard := guard } :: rest) a w := by
  subst hn
  exact wpL_wshr hx hy (by omega) hg (by simpa using h)
/-- x[lo:hi] of a slice of bytes. -/
theorem wpL_sliceB {x lo hi : Operand} {ad : Addr} {n c i j : Nat} {p q : Int} (hx : a.eval x = .slice (some ad) n c) (hl : a.eval lo = .int .i64 p) (hh : a.eval hi = .int .i64 q) (hp : p = (i : Int)) (hq : q = (j : Int)) (hij : i < j) (hj : j ≤ c)
    (hg : Region.wanted { dst := dst, op := .slice 22 x (some lo) (some hi) none, type := ty, pos := pos, after := after, guard := guard } (yielded ops a.tmps) = true)
    (h : wpList Try.prog ops Q rest (a.put dst (.slice (some (ad.add i)) (j - i) (c - i))) w) :
    wpList Try.prog ops Q ({ dst := dst, op := .slice 22 x (some lo) (some hi) none, type := ty, pos := pos, after := after, guard := guard } :: rest) a w := by
  subst hp hq
  refine wpList_ex hg ?_ h
  obtain ⟨ht, hsz, _, ii, z, hi', _, hsize, _, _⟩ := E22
  have h2 : ∀ w, (sizeOf 5).run Try.prog w = .ok 1 w := run_sizeOf (by rw [hi']; simp [hsize])
  have h3 : i ≤ j := by omega
  have h4 : ¬ c = i := by omega
  have h5 : j ≤ c := hj
  simp [execOp, hx, hl, hh, Instr.sliceAt, Instr.slice, Instr.sliceBounds, Instr.sliceBound, asIntOf, run_underlying ht, h2, h3, h4, h5]
end
theorem Byts.sub {w : World} {ad : Addr} {cap i j : Nat} {l : List UInt8} (h : Byts w (.slice (some ad) l.length cap) l) (hij : i < j) (hj : j ≤ l.length) : Byts w (.slice (some (ad.add i)) (j - i) (cap - i)) ((l.drop i).take (j - i)) := by
  have h1 := h.dropm (j := i) (by omega)
  have h2 := h1.take (j := j - i) (by omega)
  rw [Nat.mul_one, Nat.mul_one, ← List.map_drop, ← List.map_take] at h2
  exact Byts.of h2 (by simp; omega) rfl
def SumRel (w : World) (p : List UInt8) (ap : Option Addr) (cp g2 g3 g4 : Nat) (i : Value) (wr : World) : Prop :=
  ∃ t : Nat, 64 * t ≤ p.length ∧ i = .int .i64 (64 * t) ∧ Holds w [] [(g4, objC (kL.map wrd) 107), (g3, objC ((blocksN p t).ws.map wrd) 106), (g2, objC z32 24)] [rowB ap cp p] wr
def RndRel (w : World) (p b : List UInt8) (h : St) (ap : Option Addr) (cp g2 g3 g4 g7 g8 : Nat) (i : Value) (wr : World) : Prop :=
  ∃ t : Nat, t ≤ 64 ∧ i = .int .i64 t ∧ Holds w [] [(g8, objC ((rndN h (schW b) t).ws.map wrd) 106), (g7, objC (((List.range 64).map (schW b)).map wrd) 107), (g4, objC (kL.map wrd) 107), (g3, objC (h.ws.map wrd) 106), (g2, objC z32 24)] [rowB ap cp p] wr
def AddRel (w : World) (p b : List UInt8) (h v : St) (ap : Option Addr) (cp g2 g3 g4 g7 g8 : Nat) (i : Value) (wr : World) : Prop :=
  ∃ t : Nat, t ≤ 8 ∧ i = .int .i64 t ∧ Holds w [] [(g8, objC (v.ws.map wrd) 106), (g7, objC (((List.range 64).map (schW b)).map wrd) 107), (g4, objC (kL.map wrd) 107), (g3, objC ((addW h.ws v.ws t).map wrd) 106), (g2, objC z32 24)] [rowB ap cp p] wr
def OutRel (w : World) (p : List UInt8) (h : St) (ap : Option Addr) (cp g2 g3 g4 g13 : Nat) (i : Value) (wr : World) : Prop :=
  ∃ t : Nat, t ≤ 32 ∧ i = .int .i64 t ∧ Holds w [] [(g13, objC ((fillB (outByte h) 32 t).map byt) 24), (g4, objC (kL.map wrd) 107), (g3, objC (h.ws.map wrd) 106), (g2, objC z32 24)] [rowB ap cp p] wr
/-- The digest. -/
def sumB (l : List UInt8) : Arr 32 := outB (blocksN (l ++ padL l.length) ((l ++ padL l.length).length / 64))
def RetA {n : Nat} (w : World) (x : Arr n) (e : Ending) (w' : World) : Prop := e = .returned x.val ∧ Below w.heap.size w w'
set_option maxRecDepth 100000 in
set_option maxHeartbeats 4000000 in
theorem sumR_any (w : World) (v : Value) (l : List UInt8) (hl : Byts w v l) (hn : l.length ≤ 1000000) : Calls Try.prog 22 #[v] w (RetA w (sumB l)) := by
  obtain ⟨ao, cap, rfl, _⟩ := hl.shape
  have HL := hid hl
  clear hl
  have HH := hid (Holds.init w)
  obtain ⟨p, hp⟩ : ∃ p, l ++ padL l.length = p := ⟨_, rfl⟩
  rw [show sumB l = outB (blocksN p (p.length / 64)) by unfold sumB; rw [hp]]
  have hpl : p.length % 64 = 0 ∧ p.length ≤ 1000200 := by
    rw [← hp]
    simp only [padL, lenBs, List.length_append, List.length_cons, List.length_replicate, List.length_map, List.length_range, padZ]
    omega
  obtain ⟨hp1, hp2⟩ := hpl
  have HP := hid hp
  clear hp
  go_enter Try.func22, Try.ntmps22
  go_wp2_with (first
    | ((first
        | ((with_reducible apply wpL_skip); rfl; skip)
        | ((with_reducible apply wpL_allocC (dst := some 2) Z24 HH.out); rfl; (intro g2 w_ hq_; clear HH; have HH := hid hq_; clear hq_))
        | ((with_reducible apply wpList_build (dst := some 15) (v := valW initS.ws)); (exact build106 initS); rfl)
        | ((with_reducible apply wpL_allocC (dst := some 3) Z106 HH.out); rfl; (intro g3 w_ hq_; clear HH; have HH := hid hq_; clear hq_))
        | ((with_reducible apply wpL_storeC (vs := initS.ws.map wrd) (x := .tmp 3) (sz := 8)); rfl; rfl; (exact S106); (exact HH.out); (exact .here); rfl; (exact wrd_one _); rfl; rfl; (intro w_ hq_; clear HH; have HH := hid hq_; clear hq_))
        | (go_at_call 57; refine (constantsR_any _).mono ?_; rintro e w2 ⟨rfl, hb⟩; (have hq_ := HH.out.grow hb); clear HH; have HH := hid hq_; clear hq_ hb)
        | ((with_reducible apply wpL_allocC (dst := some 4) Z107 HH.out); rfl; (intro g4 w_ hq_; clear HH; have HH := hid hq_; clear hq_))
        | ((with_reducible apply wpL_storeC (vs := kL.map wrd) (x := .tmp 4) (sz := 64)); rfl; rfl; (exact S107); (exact HH.out); (exact .here); rfl; (exact wrd_one _); rfl; rfl; (intro w_ hq_; clear HH; have HH := hid hq_; clear hq_))
        | (go_at_call 58; refine (padded_any _ _ l (HH.out.sl HL.out) hn).mono ?_; rw [HP.out]; rintro e w2 ⟨ap, cp, rfl, hr⟩; (have hq_ := HH.out.addRow hr.2 hr.1); clear HH; have HH := hid hq_; clear hq_ hr)
        | ((with_reducible apply wpL_move); rfl; rfl)
        | ((with_reducible apply wpL_assign); rfl; rfl)
        | ((with_reducible apply wpL_pick); rfl; rfl; rfl)
        | ((with_reducible apply wpL_not); rfl; rfl)
        | ((with_reducible apply wpL_cmp (b := true)); rfl; rfl; rfl; (first | rfl | assumption | (simp only [cmpB, decide_eq_true_eq, decide_eq_false_iff_not, beq_iff_eq, bne_iff_ne, ne_eq, beq_eq_false_iff_ne, bne_eq_false_iff_eq, gt_iff_lt, ge_iff_le]; omega) | (simp; omega)); rfl)
        | ((with_reducible apply wpL_cmp (b := false)); rfl; rfl; rfl; (first | rfl | assumption | (simp only [cmpB, decide_eq_true_eq, decide_eq_false_iff_not, beq_iff_eq, bne_iff_ne, ne_eq, beq_eq_false_iff_ne, bne_eq_false_iff_eq, gt_iff_lt, ge_iff_le]; omega) | (simp; omega)); rfl)
        | ((with_reducible apply wpL_cmp); rfl; rfl; rfl; rfl; rfl)
        | ((with_reducible apply wpL_arith); rfl; rfl; rfl; (exact IntWalk.i64_in _ (by (try simp only [arithI]); omega)); rfl)); (try simp only [arithI, Act.put, Act.eval, List.setIfInBounds_toArray, List.set_cons_succ, List.set_cons_zero, Array.getD_eq_getD_getElem?, List.getElem?_toArray, List.getElem?_cons_succ, List.getElem?_cons_zero, Option.getD_some])))
  go_loopw [6] (SumRel w p ap cp g2 g3 g4) (fun i _ => p.length - (intOf i).toNat)
  case atStart => exact ⟨0, Nat.zero_le _, rfl, HH.out⟩
  case round =>
    obtain ⟨t, ht, rfl, hr⟩ := hrel
    clear HH
    have HH := hid hr
    clear hr
    by_cases hlt : 64 * t < p.length
    · have hle : 64 * t + 64 ≤ p.length := by omega
      obtain ⟨ad, cp', e⟩ := HH.out.sl0.some (by omega)
      cases e
      have hcap := HH.out.sl0.cap.2
      have hsub := hid (Byts.sub (i := 64 * t) (j := 64 * t + 64) HH.out.sl0 (by omega) hle)
      have e64 : 64 * t + 64 - 64 * t = 64 := by omega
      obtain ⟨b, hb⟩ : ∃ b, (p.drop (64 * t)).take 64 = b := ⟨_, rfl⟩
      have HBk := hid hb
      have hbl : b.length = 64 := by rw [← hb]; simp; omega
      have HSub : Hid (Byts _ (.slice (some (ad.add (64 * t))) 64 (cp - 64 * t)) b) := hid (by have h := hsub.out; rw [e64, hb] at h; exact Byts.of h (by omega) rfl)
      clear hsub hb
      go_wp2_with (first
        | ((first
            | ((with_reducible apply wpL_skip); rfl; skip)
            | ((with_reducible apply wpL_sliceB (i := 64 * t) (j := 64 * t + 64)); rfl; rfl; rfl; (exact (by omega)); (exact (by omega)); (exact (by omega)); (exact (by omega)); rfl; (rw [e64]))
            | (go_at_call 59; refine (schedule_any _ _ b HSub.out (by omega)).mono ?_; rintro e w2 ⟨rfl, hb⟩; (have hq_ := HH.out.grow hb); clear HH; have HH := hid hq_; clear hq_ hb)
            | ((with_reducible apply wpL_allocC (dst := some 7) Z107 HH.out); rfl; (intro g7 w_ hq_; clear HH; have HH := hid hq_; clear hq_))
            | ((with_reducible apply wpL_storeC (vs := ((List.range 64).map (schW b)).map wrd) (x := .tmp 7) (sz := 64)); rfl; rfl; (exact S107); (exact HH.out); (exact .here); rfl; (exact wrd_one _); rfl; rfl; (intro w_ hq_; clear HH; have HH := hid hq_; clear hq_))
            | ((with_reducible apply wpL_loadC (x := .tmp 3) A106 HH.out); rfl; (exact .there (.there .here)); rfl; rfl)
            | ((with_reducible apply wpL_allocC (dst := some 8) Z106 HH.out); rfl; (intro g8 w_ hq_; clear HH; have HH := hid hq_; clear hq_))
            | ((with_reducible apply wpL_storeC (vs := (blocksN p t).ws.map wrd) (x := .tmp 8) (sz := 8)); rfl; rfl; (exact S106); (exact HH.out); (exact .here); rfl; (exact wrd_one _); rfl; rfl; (intro w_ hq_; clear HH; have HH := hid hq_; clear hq_))
            | ((with_reducible apply wpL_move); rfl; rfl)
            | ((with_reducible apply wpL_assign); rfl; rfl)
            | ((with_reducible apply wpL_pick); rfl; rfl; rfl)
            | ((with_reducible apply wpL_not); rfl; rfl)
            | ((with_reducible apply wpL_cmp (b := true)); rfl; rfl; rfl; (first | rfl | assumption | (simp only [cmpB, decide_eq_true_eq, decide_eq_false_iff_not, beq_iff_eq, bne_iff_ne, ne_eq, beq_eq_false_iff_ne, bne_eq_false_iff_eq, gt_iff_lt, ge_iff_le]; omega) | (simp; omega)); rfl)
            | ((with_reducible apply wpL_cmp (b := false)); rfl; rfl; rfl; (first | rfl | assumption | (simp only [cmpB, decide_eq_true_eq, decide_eq_false_iff_not, beq_iff_eq, bne_iff_ne, ne_eq, beq_eq_false_iff_ne, bne_eq_false_iff_eq, gt_iff_lt, ge_iff_le]; omega) | (simp; omega)); rfl)
            | ((with_reducible apply wpL_cmp); rfl; rfl; rfl; rfl; rfl)
            | ((with_reducible apply wpL_arith); rfl; rfl; rfl; (exact IntWalk.i64_in _ (by (try simp only [arithI]); omega)); rfl)); (try simp only [arithI, Act.put, Act.eval, List.setIfInBounds_toArray, List.set_cons_succ, List.set_cons_zero, Array.getD_eq_getD_getElem?, List.getElem?_toArray, List.getElem?_cons_succ, List.getElem?_cons_zero, Option.getD_some])))
      go_loopw [9] (RndRel w p b (blocksN p t) (some ad) cp g2 g3 g4 g7 g8) (fun i _ => 64 - (intOf i).toNat)
      case atStart => exact ⟨0, Nat.zero_le _, rfl, HH.out⟩
      case round =>
        obtain ⟨r, hr64, rfl, hr⟩ := hrel
        clear HH
        have HH := hid hr
        clear hr
        by_cases hrl : r < 64
        · have hkl : kL.length = 64 := rfl
          have hsl : ((List.range 64).map (schW b)).length = 64 := by simp
          have hsg : ((List.range 64).map (schW b)).getD r 0 = schW b r := by simp [hrl]
          have HSG := hid (show (((List.range 64).map (schW b)).map wrd)[0 + r]? = some (wrd (schW b r)) by rw [← hsg]; exact wget (by omega))
          clear hsg
          go_wp2_with (first
            | ((first
                | ((with_reducible apply wpL_skip); rfl; skip)
                | ((with_reducible apply wpL_move); rfl; rfl)
                | ((with_reducible apply wpL_assign); rfl; rfl)
                | ((with_reducible apply wpL_pick); rfl; rfl; rfl)
                | ((with_reducible apply wpL_not); rfl; rfl)
                | ((with_reducible apply wpL_cmp (b := true)); rfl; rfl; rfl; (first | rfl | assumption | (simp only [cmpB, decide_eq_true_eq, decide_eq_false_iff_not, beq_iff_eq, bne_iff_ne, ne_eq, beq_eq_false_iff_ne, bne_eq_false_iff_eq, gt_iff_lt, ge_iff_le]; omega) | (simp; omega)); rfl)
                | ((with_reducible apply wpL_cmp (b := false)); rfl; rfl; rfl; (first | rfl | assumption | (simp only [cmpB, decide_eq_true_eq, decide_eq_false_iff_not, beq_iff_eq, bne_iff_ne, ne_eq, beq_eq_false_iff_ne, bne_eq_false_iff_eq, gt_iff_lt, ge_iff_le]; omega) | (simp; omega)); rfl)
                | ((with_reducible apply wpL_cmp); rfl; rfl; rfl; rfl; rfl)
                | ((with_reducible apply wpL_arith); rfl; rfl; rfl; (exact IntWalk.i64_in _ (by (try simp only [arithI]); omega)); rfl)); (try simp only [arithI, Act.put, Act.eval, List.setIfInBounds_toArray, List.set_cons_succ, List.set_cons_zero, Array.getD_eq_getD_getElem?, List.getElem?_toArray, List.getElem?_cons_succ, List.getElem?_cons_zero, Option.getD_some])))
          refine wp_region_holds (by kernel_rfl) (by kernel_rfl) HH.out ?_
          repeat ((first
            | ((with_reducible apply wpQ_skip); rfl; skip)
            | ((with_reducible apply wpQ_indexVar (i := .tmp 63) (m := r) Try.underlying107 S105); rfl; rfl; rfl; (exact hrl); rfl)
            | ((with_reducible apply wpQ_indexVar (i := .tmp 67) (m := r) Try.underlying107 S105); rfl; rfl; rfl; (exact hrl); rfl)
            | ((with_reducible apply wpQ_load1 (x := .tmp 64) (v := wrd (kL.getD r 0)) O105); rfl; (exact .there (.there .here)); (exact wget (by omega)); rfl)
            | ((with_reducible apply wpQ_load1 (x := .tmp 68) (v := wrd (schW b r)) O105); rfl; (exact .there .here); (exact HSG.out); rfl)
            | ((with_reducible apply wpQ_indexVar Try.underlying106 S105); rfl; rfl; (first | exact (rfl : (0 : Int) = ((0 : Nat) : Int)) | exact (rfl : (1 : Int) = ((1 : Nat) : Int)) | exact (rfl : (2 : Int) = ((2 : Nat) : Int)) | exact (rfl : (3 : Int) = ((3 : Nat) : Int)) | exact (rfl : (4 : Int) = ((4 : Nat) : Int)) | exact (rfl : (5 : Int) = ((5 : Nat) : Int)) | exact (rfl : (6 : Int) = ((6 : Nat) : Int)) | exact (rfl : (7 : Int) = ((7 : Nat) : Int))); (exact (by decide)); rfl)
            | ((with_reducible apply wpQ_load1 O105); rfl; (exact .here); rfl; rfl)
            | ((with_reducible apply wpQ_rotate); rfl; rfl; (exact (by decide)); rfl)
            | ((with_reducible apply wpQ_wop); rfl; rfl; rfl; rfl)
            | ((with_reducible apply wpQ_wnot); rfl; rfl)
            | ((with_reducible apply wpQ_move); rfl; rfl)
            | ((with_reducible apply wpQ_assign); rfl; rfl)
            | ((with_reducible apply wpQ_pick); rfl; rfl; rfl)
            | ((with_reducible apply wpQ_not); rfl; rfl)
            | ((with_reducible apply wpQ_cmp (b := true)); rfl; rfl; rfl; (first | rfl | assumption | (simp only [cmpB, decide_eq_true_eq, decide_eq_false_iff_not, beq_iff_eq, bne_iff_ne, ne_eq, beq_eq_false_iff_ne, bne_eq_false_iff_eq, gt_iff_lt, ge_iff_le]; omega) | (simp; omega)); rfl)
            | ((with_reducible apply wpQ_cmp (b := false)); rfl; rfl; rfl; (first | rfl | assumption | (simp only [cmpB, decide_eq_true_eq, decide_eq_false_iff_not, beq_iff_eq, bne_iff_ne, ne_eq, beq_eq_false_iff_ne, bne_eq_false_iff_eq, gt_iff_lt, ge_iff_le]; omega) | (simp; omega)); rfl)
            | ((with_reducible apply wpQ_cmp); rfl; rfl; rfl; rfl; rfl)
            | ((with_reducible apply wpQ_arith); rfl; rfl; rfl; (exact IntWalk.i64_in _ (by (try simp only [arithI]); omega)); rfl)); simp only [arithI, Act.put, Act.eval, List.setIfInBounds_toArray, List.set_cons_succ, List.set_cons_zero, Array.getD_eq_getD_getElem?, List.getElem?_toArray, List.getElem?_cons_succ, List.getElem?_cons_zero, Option.getD_some])
          refine wpQuiet_nil ?_
          intro wq hq_
          have HQ := hid hq_
          clear hq_
          go_wp2
          refine wp_region_holds (by kernel_rfl) (by kernel_rfl) HQ.out ?_
          repeat ((first
            | ((with_reducible apply wpQ_skip); rfl; skip)
            | ((with_reducible apply wpQ_indexVar Try.underlying106 S105); rfl; rfl; (first | exact (rfl : (0 : Int) = ((0 : Nat) : Int)) | exact (rfl : (1 : Int) = ((1 : Nat) : Int)) | exact (rfl : (2 : Int) = ((2 : Nat) : Int)) | exact (rfl : (3 : Int) = ((3 : Nat) : Int)) | exact (rfl : (4 : Int) = ((4 : Nat) : Int)) | exact (rfl : (5 : Int) = ((5 : Nat) : Int)) | exact (rfl : (6 : Int) = ((6 : Nat) : Int)) | exact (rfl : (7 : Int) = ((7 : Nat) : Int))); (exact (by decide)); rfl)
            | ((with_reducible apply wpQ_load1 O105); rfl; (exact .here); rfl; rfl)
            | ((with_reducible apply wpQ_rotate); rfl; rfl; (exact (by decide)); rfl)
            | ((with_reducible apply wpQ_wop); rfl; rfl; rfl; rfl)
            | ((with_reducible apply wpQ_wnot); rfl; rfl)
            | ((with_reducible apply wpQ_move); rfl; rfl)
            | ((with_reducible apply wpQ_assign); rfl; rfl)
            | ((with_reducible apply wpQ_pick); rfl; rfl; rfl)
            | ((with_reducible apply wpQ_not); rfl; rfl)
            | ((with_reducible apply wpQ_cmp (b := true)); rfl; rfl; rfl; (first | rfl | assumption | (simp only [cmpB, decide_eq_true_eq, decide_eq_false_iff_not, beq_iff_eq, bne_iff_ne, ne_eq, beq_eq_false_iff_ne, bne_eq_false_iff_eq, gt_iff_lt, ge_iff_le]; omega) | (simp; omega)); rfl)
            | ((with_reducible apply wpQ_cmp (b := false)); rfl; rfl; rfl; (first | rfl | assumption | (simp only [cmpB, decide_eq_true_eq, decide_eq_false_iff_not, beq_iff_eq, bne_iff_ne, ne_eq, beq_eq_false_iff_ne, bne_eq_false_iff_eq, gt_iff_lt, ge_iff_le]; omega) | (simp; omega)); rfl)
            | ((with_reducible apply wpQ_cmp); rfl; rfl; rfl; rfl; rfl)
            | ((with_reducible apply wpQ_arith); rfl; rfl; rfl; (exact IntWalk.i64_in _ (by (try simp only [arithI]); omega)); rfl)); simp only [arithI, Act.put, Act.eval, List.setIfInBounds_toArray, List.set_cons_succ, List.set_cons_zero, Array.getD_eq_getD_getElem?, List.getElem?_toArray, List.getElem?_cons_succ, List.getElem?_cons_zero, Option.getD_some])
          refine wpQuiet_nil ?_
          intro wq hq_
          have HR := hid hq_
          clear hq_
          clear HH HQ
          have HH := HR
          clear HR
          go_wp2_with (first
            | ((first
                | ((with_reducible apply wpL_skip); rfl; skip)
                | ((with_reducible apply wpL_indexVar Try.underlying106 S105); rfl; rfl; (first | exact (rfl : (0 : Int) = ((0 : Nat) : Int)) | exact (rfl : (1 : Int) = ((1 : Nat) : Int)) | exact (rfl : (2 : Int) = ((2 : Nat) : Int)) | exact (rfl : (3 : Int) = ((3 : Nat) : Int)) | exact (rfl : (4 : Int) = ((4 : Nat) : Int)) | exact (rfl : (5 : Int) = ((5 : Nat) : Int)) | exact (rfl : (6 : Int) = ((6 : Nat) : Int)) | exact (rfl : (7 : Int) = ((7 : Nat) : Int))); (exact (by decide)); rfl)
                | ((with_reducible apply wpL_load1 O105 HH.out); rfl; (exact .here); rfl; rfl)
                | ((with_reducible apply wpL_wop); rfl; rfl; rfl; rfl)
                | ((with_reducible apply wpList_build (v := valW (roundS (rndN (blocksN p t) (schW b) r) (kL.getD r 0) (schW b r)).ws)); (exact build106 (roundS (rndN (blocksN p t) (schW b) r) (kL.getD r 0) (schW b r))); rfl)
                | ((with_reducible apply wpL_storeC (vs := (roundS (rndN (blocksN p t) (schW b) r) (kL.getD r 0) (schW b r)).ws.map wrd) (x := .tmp 8) (sz := 8)); rfl; rfl; (exact S106); (exact HH.out); (exact .here); rfl; (exact wrd_one _); rfl; rfl; (intro w_ hq_; clear HH; have HH := hid hq_; clear hq_))
                | ((with_reducible apply wpL_move); rfl; rfl)
                | ((with_reducible apply wpL_assign); rfl; rfl)
                | ((with_reducible apply wpL_pick); rfl; rfl; rfl)
                | ((with_reducible apply wpL_not); rfl; rfl)
                | ((with_reducible apply wpL_cmp (b := true)); rfl; rfl; rfl; (first | rfl | assumption | (simp only [cmpB, decide_eq_true_eq, decide_eq_false_iff_not, beq_iff_eq, bne_iff_ne, ne_eq, beq_eq_false_iff_ne, bne_eq_false_iff_eq, gt_iff_lt, ge_iff_le]; omega) | (simp; omega)); rfl)
                | ((with_reducible apply wpL_cmp (b := false)); rfl; rfl; rfl; (first | rfl | assumption | (simp only [cmpB, decide_eq_true_eq, decide_eq_false_iff_not, beq_iff_eq, bne_iff_ne, ne_eq, beq_eq_false_iff_ne, bne_eq_false_iff_eq, gt_iff_lt, ge_iff_le]; omega) | (simp; omega)); rfl)
                | ((with_reducible apply wpL_cmp); rfl; rfl; rfl; rfl; rfl)
                | ((with_reducible apply wpL_arith); rfl; rfl; rfl; (exact IntWalk.i64_in _ (by (try simp only [arithI]); omega)); rfl)); (try simp only [arithI, Act.put, Act.eval, List.setIfInBounds_toArray, List.set_cons_succ, List.set_cons_zero, Array.getD_eq_getD_getElem?, List.getElem?_toArray, List.getElem?_cons_succ, List.getElem?_cons_zero, Option.getD_some])))
          go_roundw
          case rel => exact ⟨r + 1, by omega, by go_num, HH.out⟩
          case measure => simp [intOf]; omega
        · obtain rfl : r = 64 := by omega
          obtain ⟨v8, hv8⟩ : ∃ v8, rndN (blocksN p t) (schW b) 64 = v8 := ⟨_, rfl⟩
          obtain ⟨h8, hh8⟩ : ∃ h8, blocksN p t = h8 := ⟨_, rfl⟩
          have HV := hid hv8
          have HB8 := hid hh8
          have h0 := HH.out
          rw [hv8, hh8] at h0
          clear HH hv8
          have HH := hid h0
          clear h0
          have hvl : v8.ws.length = 8 := rfl
          go_wp2_with (first
            | ((first
                | ((with_reducible apply wpL_skip); rfl; skip)
                | ((with_reducible apply wpL_move); rfl; rfl)
                | ((with_reducible apply wpL_assign); rfl; rfl)
                | ((with_reducible apply wpL_pick); rfl; rfl; rfl)
                | ((with_reducible apply wpL_not); rfl; rfl)
                | ((with_reducible apply wpL_cmp (b := true)); rfl; rfl; rfl; (first | rfl | assumption | (simp only [cmpB, decide_eq_true_eq, decide_eq_false_iff_not, beq_iff_eq, bne_iff_ne, ne_eq, beq_eq_false_iff_ne, bne_eq_false_iff_eq, gt_iff_lt, ge_iff_le]; omega) | (simp; omega)); rfl)
                | ((with_reducible apply wpL_cmp (b := false)); rfl; rfl; rfl; (first | rfl | assumption | (simp only [cmpB, decide_eq_true_eq, decide_eq_false_iff_not, beq_iff_eq, bne_iff_ne, ne_eq, beq_eq_false_iff_ne, bne_eq_false_iff_eq, gt_iff_lt, ge_iff_le]; omega) | (simp; omega)); rfl)
                | ((with_reducible apply wpL_cmp); rfl; rfl; rfl; rfl; rfl)
                | ((with_reducible apply wpL_arith); rfl; rfl; rfl; (exact IntWalk.i64_in _ (by (try simp only [arithI]); omega)); rfl)); (try simp only [arithI, Act.put, Act.eval, List.setIfInBounds_toArray, List.set_cons_succ, List.set_cons_zero, Array.getD_eq_getD_getElem?, List.getElem?_toArray, List.getElem?_cons_succ, List.getElem?_cons_zero, Option.getD_some])))
          go_loopw [12] (AddRel w p b h8 v8 (some ad) cp g2 g3 g4 g7 g8) (fun i _ => 8 - (intOf i).toNat)
          case atStart => exact ⟨0, Nat.zero_le _, rfl, HH.out⟩
          case round =>
            obtain ⟨q, hq8, rfl, hr⟩ := hrel
            clear HH
            have HH := hid hr
            clear hr
            by_cases hql : q < 8
            · have hal := addW_len h8.ws v8.ws q
              have HG := hid (show ((addW h8.ws v8.ws q).map wrd)[0 + q]? = some (wrd (h8.ws.getD q 0)) by rw [← addW_get (v := v8.ws) hql]; exact wget (by omega))
              have HS := hid (addW_set h8.ws v8.ws hql)
              go_wp2_with (first
                | ((first
                    | ((with_reducible apply wpL_skip); rfl; skip)
                    | ((with_reducible apply wpL_move); rfl; rfl)
                    | ((with_reducible apply wpL_assign); rfl; rfl)
                    | ((with_reducible apply wpL_pick); rfl; rfl; rfl)
                    | ((with_reducible apply wpL_not); rfl; rfl)
                    | ((with_reducible apply wpL_cmp (b := true)); rfl; rfl; rfl; (first | rfl | assumption | (simp only [cmpB, decide_eq_true_eq, decide_eq_false_iff_not, beq_iff_eq, bne_iff_ne, ne_eq, beq_eq_false_iff_ne, bne_eq_false_iff_eq, gt_iff_lt, ge_iff_le]; omega) | (simp; omega)); rfl)
                    | ((with_reducible apply wpL_cmp (b := false)); rfl; rfl; rfl; (first | rfl | assumption | (simp only [cmpB, decide_eq_true_eq, decide_eq_false_iff_not, beq_iff_eq, bne_iff_ne, ne_eq, beq_eq_false_iff_ne, bne_eq_false_iff_eq, gt_iff_lt, ge_iff_le]; omega) | (simp; omega)); rfl)
                    | ((with_reducible apply wpL_cmp); rfl; rfl; rfl; rfl; rfl)
                    | ((with_reducible apply wpL_arith); rfl; rfl; rfl; (exact IntWalk.i64_in _ (by (try simp only [arithI]); omega)); rfl)); (try simp only [arithI, Act.put, Act.eval, List.setIfInBounds_toArray, List.set_cons_succ, List.set_cons_zero, Array.getD_eq_getD_getElem?, List.getElem?_toArray, List.getElem?_cons_succ, List.getElem?_cons_zero, Option.getD_some])))
              refine wp_region_tailQ 9 (by kernel_rfl) (by kernel_rfl) (by kernel_rfl) HH.out ?_
              simp only [List.take_succ_cons, List.take_zero, List.drop_succ_cons, List.drop_zero]
              repeat ((first
                | ((with_reducible apply wpQ_skip); rfl; skip)
                | ((with_reducible apply wpQ_indexVar (m := q) Try.underlying106 S105); rfl; rfl; rfl; (exact hql); rfl)
                | ((with_reducible apply wpQ_load1 (x := .tmp 126) (v := wrd (h8.ws.getD q 0)) O105); rfl; (exact .there (.there (.there .here))); (exact HG.out); rfl)
                | ((with_reducible apply wpQ_load1 (x := .tmp 129) (v := wrd (v8.ws.getD q 0)) O105); rfl; (exact .here); (exact wget (by omega)); rfl)
                | ((with_reducible apply wpQ_wop); rfl; rfl; rfl; rfl)
                | ((with_reducible apply wpQ_move); rfl; rfl)
                | ((with_reducible apply wpQ_assign); rfl; rfl)
                | ((with_reducible apply wpQ_pick); rfl; rfl; rfl)
                | ((with_reducible apply wpQ_not); rfl; rfl)
                | ((with_reducible apply wpQ_cmp (b := true)); rfl; rfl; rfl; (first | rfl | assumption | (simp only [cmpB, decide_eq_true_eq, decide_eq_false_iff_not, beq_iff_eq, bne_iff_ne, ne_eq, beq_eq_false_iff_ne, bne_eq_false_iff_eq, gt_iff_lt, ge_iff_le]; omega) | (simp; omega)); rfl)
                | ((with_reducible apply wpQ_cmp (b := false)); rfl; rfl; rfl; (first | rfl | assumption | (simp only [cmpB, decide_eq_true_eq, decide_eq_false_iff_not, beq_iff_eq, bne_iff_ne, ne_eq, beq_eq_false_iff_ne, bne_eq_false_iff_eq, gt_iff_lt, ge_iff_le]; omega) | (simp; omega)); rfl)
                | ((with_reducible apply wpQ_cmp); rfl; rfl; rfl; rfl; rfl)
                | ((with_reducible apply wpQ_arith); rfl; rfl; rfl; (exact IntWalk.i64_in _ (by (try simp only [arithI]); omega)); rfl)); simp only [arithI, Act.put, Act.eval, List.setIfInBounds_toArray, List.set_cons_succ, List.set_cons_zero, Array.getD_eq_getD_getElem?, List.getElem?_toArray, List.getElem?_cons_succ, List.getElem?_cons_zero, Option.getD_some])
              refine wpQuiet_nil ?_
              intro wq hq_
              have HQ := hid hq_
              clear hq_
              clear HH
              have HH := HQ
              clear HQ
              go_wp2_with (first
                | ((first
                    | ((with_reducible apply wpL_skip); rfl; skip)
                    | ((with_reducible apply wpL_storeW (l := addW h8.ws v8.ws q) (m := q) (v := h8.ws.getD q 0 + v8.ws.getD q 0)); rfl; rfl; (exact S105); (exact HH.out); (exact .there (.there (.there .here))); (exact (by omega)); rfl; (intro w_ hq_; rw [HS.out] at hq_; clear HH; have HH := hid hq_; clear hq_))
                    | ((with_reducible apply wpL_move); rfl; rfl)
                    | ((with_reducible apply wpL_assign); rfl; rfl)
                    | ((with_reducible apply wpL_pick); rfl; rfl; rfl)
                    | ((with_reducible apply wpL_not); rfl; rfl)
                    | ((with_reducible apply wpL_cmp (b := true)); rfl; rfl; rfl; (first | rfl | assumption | (simp only [cmpB, decide_eq_true_eq, decide_eq_false_iff_not, beq_iff_eq, bne_iff_ne, ne_eq, beq_eq_false_iff_ne, bne_eq_false_iff_eq, gt_iff_lt, ge_iff_le]; omega) | (simp; omega)); rfl)
                    | ((with_reducible apply wpL_cmp (b := false)); rfl; rfl; rfl; (first | rfl | assumption | (simp only [cmpB, decide_eq_true_eq, decide_eq_false_iff_not, beq_iff_eq, bne_iff_ne, ne_eq, beq_eq_false_iff_ne, bne_eq_false_iff_eq, gt_iff_lt, ge_iff_le]; omega) | (simp; omega)); rfl)
                    | ((with_reducible apply wpL_cmp); rfl; rfl; rfl; rfl; rfl)
                    | ((with_reducible apply wpL_arith); rfl; rfl; rfl; (exact IntWalk.i64_in _ (by (try simp only [arithI]); omega)); rfl)); (try simp only [arithI, Act.put, Act.eval, List.setIfInBounds_toArray, List.set_cons_succ, List.set_cons_zero, Array.getD_eq_getD_getElem?, List.getElem?_toArray, List.getElem?_cons_succ, List.getElem?_cons_zero, Option.getD_some])))
              go_roundw
              case rel => exact ⟨q + 1, by omega, by go_num, HH.out⟩
              case measure => simp [intOf]; omega
            · obtain rfl : q = 8 := by omega
              have hnext : (plusS h8 v8) = blocksN p (t + 1) := by
                rw [blocksN, HBk.out, HB8.out]; unfold blockS; rw [← HV.out, HB8.out]
              have h0 := HH.out
              rw [addW_full, hnext] at h0
              clear HH
              have HH := hid h0.dropBlk.dropBlk
              clear h0 hnext
              go_wp2_with (first
                | ((first
                    | ((with_reducible apply wpL_skip); rfl; skip)
                    | ((with_reducible apply wpL_move); rfl; rfl)
                    | ((with_reducible apply wpL_assign); rfl; rfl)
                    | ((with_reducible apply wpL_pick); rfl; rfl; rfl)
                    | ((with_reducible apply wpL_not); rfl; rfl)
                    | ((with_reducible apply wpL_cmp (b := true)); rfl; rfl; rfl; (first | rfl | assumption | (simp only [cmpB, decide_eq_true_eq, decide_eq_false_iff_not, beq_iff_eq, bne_iff_ne, ne_eq, beq_eq_false_iff_ne, bne_eq_false_iff_eq, gt_iff_lt, ge_iff_le]; omega) | (simp; omega)); rfl)
                    | ((with_reducible apply wpL_cmp (b := false)); rfl; rfl; rfl; (first | rfl | assumption | (simp only [cmpB, decide_eq_true_eq, decide_eq_false_iff_not, beq_iff_eq, bne_iff_ne, ne_eq, beq_eq_false_iff_ne, bne_eq_false_iff_eq, gt_iff_lt, ge_iff_le]; omega) | (simp; omega)); rfl)
                    | ((with_reducible apply wpL_cmp); rfl; rfl; rfl; rfl; rfl)
                    | ((with_reducible apply wpL_arith); rfl; rfl; rfl; (exact IntWalk.i64_in _ (by (try simp only [arithI]); omega)); rfl)); (try simp only [arithI, Act.put, Act.eval, List.setIfInBounds_toArray, List.set_cons_succ, List.set_cons_zero, Array.getD_eq_getD_getElem?, List.getElem?_toArray, List.getElem?_cons_succ, List.getElem?_cons_zero, Option.getD_some])))
              go_roundw
              case rel => exact ⟨t + 1, by omega, by go_num, HH.out⟩
              case measure => simp [intOf]; omega
    · have ht64 : t = p.length / 64 := by omega
      obtain ⟨h8, hh8⟩ : ∃ h8, blocksN p t = h8 := ⟨_, rfl⟩
      have HB8 := hid hh8
      have HT := hid ht64
      have h0 := HH.out
      rw [hh8] at h0
      clear HH hh8 ht64
      have HH := hid h0
      clear h0
      have hwl : h8.ws.length = 8 := rfl
      go_wp2_with (first
        | ((first
            | ((with_reducible apply wpL_skip); rfl; skip)
            | ((with_reducible apply wpL_allocC (dst := some 13) Z24 HH.out); rfl; (intro g13 w_ hq_; clear HH; have HH := hid hq_; clear hq_))
            | ((with_reducible apply wpL_move); rfl; rfl)
            | ((with_reducible apply wpL_assign); rfl; rfl)
            | ((with_reducible apply wpL_pick); rfl; rfl; rfl)
            | ((with_reducible apply wpL_not); rfl; rfl)
            | ((with_reducible apply wpL_cmp (b := true)); rfl; rfl; rfl; (first | rfl | assumption | (simp only [cmpB, decide_eq_true_eq, decide_eq_false_iff_not, beq_iff_eq, bne_iff_ne, ne_eq, beq_eq_false_iff_ne, bne_eq_false_iff_eq, gt_iff_lt, ge_iff_le]; omega) | (simp; omega)); rfl)
            | ((with_reducible apply wpL_cmp (b := false)); rfl; rfl; rfl; (first | rfl | assumption | (simp only [cmpB, decide_eq_true_eq, decide_eq_false_iff_not, beq_iff_eq, bne_iff_ne, ne_eq, beq_eq_false_iff_ne, bne_eq_false_iff_eq, gt_iff_lt, ge_iff_le]; omega) | (simp; omega)); rfl)
            | ((with_reducible apply wpL_cmp); rfl; rfl; rfl; rfl; rfl)
            | ((with_reducible apply wpL_arith); rfl; rfl; rfl; (exact IntWalk.i64_in _ (by (try simp only [arithI]); omega)); rfl)); (try simp only [arithI, Act.put, Act.eval, List.setIfInBounds_toArray, List.set_cons_succ, List.set_cons_zero, Array.getD_eq_getD_getElem?, List.getElem?_toArray, List.getElem?_cons_succ, List.getElem?_cons_zero, Option.getD_some])))
      go_loopw [14] (OutRel w p h8 ap cp g2 g3 g4 g13) (fun i _ => 32 - (intOf i).toNat)
      case atStart => exact ⟨0, Nat.zero_le _, rfl, by rw [fillB_zero]; exact HH.out⟩
      case round =>
        obtain ⟨q, hq32, rfl, hr⟩ := hrel
        clear HH
        have HH := hid hr
        clear hr
        by_cases hql : q < 32
        · have hfl := fillB_len (outByte h8) 32 q
          have HS := hid (fillB_set (outByte h8) hql)
          have hq4 : q / 4 < 8 := by omega
          have hq5 : q % 4 < 4 := Nat.mod_lt _ (by omega)
          go_wp2_with (first
            | ((first
                | ((with_reducible apply wpL_skip); rfl; skip)
                | ((with_reducible apply wpL_quoN (m := q) (n := 4)); rfl; rfl; rfl; rfl; (exact (by omega)); (exact (by omega)); rfl)
                | ((with_reducible apply wpL_remN (m := q) (n := 4)); rfl; rfl; rfl; rfl; (exact (by omega)); (exact (by omega)); (exact (by omega)); rfl)
                | ((with_reducible apply wpL_indexVar (m := q / 4) Try.underlying106 S105); rfl; rfl; rfl; (exact hq4); rfl)
                | ((with_reducible apply wpL_load1 (v := wrd (h8.ws.getD (q / 4) 0)) O105 HH.out); rfl; (exact .there (.there .here)); (exact wget (by omega)); rfl)
                | ((with_reducible apply wpL_wshrN (m := 24 - 8 * (q % 4))); rfl; rfl; (exact (by omega)); (exact (by omega)); rfl)
                | ((with_reducible apply wpL_w2b Try.underlying105 Try.underlying5); rfl; rfl)
                | ((with_reducible apply wpL_indexVar (m := q) Try.underlying24 S5'); rfl; rfl; rfl; (exact hql); rfl)
                | ((with_reducible apply wpL_storeBt (l := fillB (outByte h8) 32 q) (m := q) (v := outByte h8 q)); rfl; rfl; (exact S5'); (exact HH.out); (exact .here); (exact (by omega)); rfl; (intro w_ hq_; rw [HS.out] at hq_; clear HH; have HH := hid hq_; clear hq_))
                | ((with_reducible apply wpL_move); rfl; rfl)
                | ((with_reducible apply wpL_assign); rfl; rfl)
                | ((with_reducible apply wpL_pick); rfl; rfl; rfl)
                | ((with_reducible apply wpL_not); rfl; rfl)
                | ((with_reducible apply wpL_cmp (b := true)); rfl; rfl; rfl; (first | rfl | assumption | (simp only [cmpB, decide_eq_true_eq, decide_eq_false_iff_not, beq_iff_eq, bne_iff_ne, ne_eq, beq_eq_false_iff_ne, bne_eq_false_iff_eq, gt_iff_lt, ge_iff_le]; omega) | (simp; omega)); rfl)
                | ((with_reducible apply wpL_cmp (b := false)); rfl; rfl; rfl; (first | rfl | assumption | (simp only [cmpB, decide_eq_true_eq, decide_eq_false_iff_not, beq_iff_eq, bne_iff_ne, ne_eq, beq_eq_false_iff_ne, bne_eq_false_iff_eq, gt_iff_lt, ge_iff_le]; omega) | (simp; omega)); rfl)
                | ((with_reducible apply wpL_cmp); rfl; rfl; rfl; rfl; rfl)
                | ((with_reducible apply wpL_arith); rfl; rfl; rfl; (exact IntWalk.i64_in _ (by (try simp only [arithI]); omega)); rfl)); (try simp only [arithI, Act.put, Act.eval, List.setIfInBounds_toArray, List.set_cons_succ, List.set_cons_zero, Array.getD_eq_getD_getElem?, List.getElem?_toArray, List.getElem?_cons_succ, List.getElem?_cons_zero, Option.getD_some])))
          go_roundw
          case rel => exact ⟨q + 1, by omega, by go_num, HH.out⟩
          case measure => simp [intOf]; omega
        · obtain rfl : q = 32 := by omega
          have h0 := HH.out
          rw [fillB_full] at h0
          clear HH
          have HH := hid h0
          clear h0
          go_wp2_with (first
            | ((first
                | ((with_reducible apply wpL_skip); rfl; skip)
                | ((with_reducible apply wpL_loadC (x := .tmp 13) A24 HH.out); rfl; (exact .here); rfl; rfl)
                | ((with_reducible apply wpL_storeC (vs := ((List.range 32).map (outByte h8)).map byt) (x := .tmp 2) (sz := 32)); rfl; rfl; (exact S24); (exact HH.out); (exact .there (.there (.there .here))); rfl; (exact byt_cell1 _); rfl; rfl; (intro w_ hq_; clear HH; have HH := hid hq_; clear hq_))
                | ((with_reducible apply wpL_move); rfl; rfl)
                | ((with_reducible apply wpL_assign); rfl; rfl)
                | ((with_reducible apply wpL_pick); rfl; rfl; rfl)
                | ((with_reducible apply wpL_not); rfl; rfl)
                | ((with_reducible apply wpL_cmp (b := true)); rfl; rfl; rfl; (first | rfl | assumption | (simp only [cmpB, decide_eq_true_eq, decide_eq_false_iff_not, beq_iff_eq, bne_iff_ne, ne_eq, beq_eq_false_iff_ne, bne_eq_false_iff_eq, gt_iff_lt, ge_iff_le]; omega) | (simp; omega)); rfl)
                | ((with_reducible apply wpL_cmp (b := false)); rfl; rfl; rfl; (first | rfl | assumption | (simp only [cmpB, decide_eq_true_eq, decide_eq_false_iff_not, beq_iff_eq, bne_iff_ne, ne_eq, beq_eq_false_iff_ne, bne_eq_false_iff_eq, gt_iff_lt, ge_iff_le]; omega) | (simp; omega)); rfl)
                | ((with_reducible apply wpL_cmp); rfl; rfl; rfl; rfl; rfl)
                | ((with_reducible apply wpL_arith); rfl; rfl; rfl; (exact IntWalk.i64_in _ (by (try simp only [arithI]); omega)); rfl)); (try simp only [arithI, Act.put, Act.eval, List.setIfInBounds_toArray, List.set_cons_succ, List.set_cons_zero, Array.getD_eq_getD_getElem?, List.getElem?_toArray, List.getElem?_cons_succ, List.getElem?_cons_zero, Option.getD_some])))
          refine bodyPost_ret (res1 rfl (resC A24 HH.out (by rfl) (.there (.there (.there .here))) rfl)) rfl ?_
          refine ⟨?_, HH.out.below⟩
          rw [← HT.out, HB8.out]
          rfl
end Go.Proofs.Ytgkfopodhikckaa
/- The plain law of sha256: the window of 16 words and the schedule of 64 agree; a digest of pieces is that of all. No condition. -/
namespace Go.Proofs.Ytgkfopodhikckaa
theorem w4_take (l : List UInt8) {k : Nat} (h : k + 3 < 64) : w4 (l.take 64) k = w4 l k := by
  have e : ∀ j, j < 64 → (l.take 64).getD j 0 = l.getD j 0 := by
    intro j hj
    simp only [List.getD_eq_getElem?_getD, List.getElem?_take]
    rw [if_pos hj]
  unfold w4
  rw [e k (by omega), e (k + 1) (by omega), e (k + 2) (by omega), e (k + 3) (by omega)]
theorem schW_take (l : List UInt8) : ∀ t, t < 64 → schW (l.take 64) t = schW l t := by
  intro t
  induction t using Nat.strongRecOn with
  | ind t ih =>
    intro ht
    rw [schW, schW.eq_1 l t]
    split
    · rw [w4_take l (by omega)]
    · rw [ih (t - 2) (by omega) (by omega), ih (t - 7) (by omega) (by omega), ih (t - 15) (by omega) (by omega), ih (t - 16) (by omega) (by omega)]
theorem getD_set (l : List W32) (i j : Nat) (x : W32) (h : i < l.length) : (l.set i x).getD j 0 = if i = j then x else l.getD j 0 := by
  simp only [List.getD_eq_getElem?_getD, List.getElem?_set]
  by_cases hij : i = j
  · subst hij; simp [h]
  · simp [hij]
theorem window (s : St) (l : List UInt8) : ∀ t, t ≤ 64 → (procN s (loadL l) t).1 = rndN s (schW l) t ∧
    ∀ i, i < max t 16 → max t 16 ≤ i + 16 → (procN s (loadL l) t).2.getD (i % 16) 0 = schW l i := by
  intro t
  induction t with
  | zero =>
    intro _
    refine ⟨rfl, fun i h1 h2 => ?_⟩
    have hi : i < 16 := by omega
    rw [Nat.mod_eq_of_lt hi, schW, dif_pos hi]
    show (loadL l).getD i 0 = _
    simp [loadL, hi]
  | succ t ih =>
    intro ht
    obtain ⟨h1, h2⟩ := ih (by omega)
    have hlen : (procN s (loadL l) t).2.length = 16 := by rw [procN_len]; simp [loadL]
    have key : ∀ i, i < max (t + 1) 16 → max (t + 1) 16 ≤ i + 16 → (winUp (procN s (loadL l) t).2 t).getD (i % 16) 0 = schW l i := by
      intro i hi1 hi2
      unfold winUp
      by_cases h16 : t < 16
      · rw [if_pos h16]
        exact h2 i (by omega) (by omega)
      · rw [if_neg h16, getD_set _ _ _ _ (by rw [hlen]; exact Nat.mod_lt _ (by omega))]
        by_cases hit : i = t
        · subst hit
          rw [if_pos rfl]
          have e16 := h2 (i - 16) (by omega) (by omega)
          have e2 := h2 (i - 2) (by omega) (by omega)
          have e7 := h2 (i - 7) (by omega) (by omega)
          have e15 := h2 (i - 15) (by omega) (by omega)
          rw [show (i - 16) % 16 = i % 16 by omega] at e16
          rw [e16, e2, e7, e15]
          conv => rhs; rw [schW, dif_neg h16]
          exact BitVec.add_comm _ _
        · rw [if_neg (by omega)]
          exact h2 i (by omega) (by omega)
    refine ⟨?_, fun i hi1 hi2 => by rw [procN]; exact key i hi1 hi2⟩
    rw [procN, rndN]
    simp only
    rw [h1, key t (by omega) (by omega)]
theorem plusS_comm (s o : St) : plusS s o = plusS o s := by
  unfold plusS
  simp only [BitVec.add_comm s.a, BitVec.add_comm s.b, BitVec.add_comm s.c, BitVec.add_comm s.d, BitVec.add_comm s.e, BitVec.add_comm s.f, BitVec.add_comm s.g, BitVec.add_comm s.h]
theorem rndN_congr (s : St) {W V : Nat → W32} : ∀ t, (∀ i, i < t → W i = V i) → rndN s W t = rndN s V t := by
  intro t
  induction t with
  | zero => intro _; rfl
  | succ t ih => intro h; rw [rndN, rndN, ih fun i hi => h i (by omega), h t (by omega)]
/-- Both ways to take in a block agree. -/
theorem process_block (s : St) (l : List UInt8) : processS s (loadL l) = blockS s (l.take 64) := by
  unfold processS blockS
  rw [(window s l 64 (Nat.le_refl _)).1, plusS_comm, rndN_congr s 64 fun i hi => (schW_take l i hi).symm]
/-- Takes in all complete blocks. -/
def absorb (s : St) (l : List UInt8) : St × List UInt8 := if 64 ≤ l.length then absorb (blockS s (l.take 64)) (l.drop 64) else (s, l)
termination_by l.length
decreasing_by simp; omega
theorem absorb_step {s : St} {l : List UInt8} (h : 64 ≤ l.length) : absorb s l = absorb (blockS s (l.take 64)) (l.drop 64) := by
  rw [absorb, if_pos h]
theorem absorb_done {s : St} {l : List UInt8} (h : ¬ 64 ≤ l.length) : absorb s l = (s, l) := by
  rw [absorb, if_neg h]
theorem absorb_append (s : St) (l m : List UInt8) : absorb s (l ++ m) = absorb (absorb s l).1 ((absorb s l).2 ++ m) := by
  induction hn : l.length using Nat.strongRecOn generalizing s l with
  | ind n ih =>
    by_cases h : 64 ≤ l.length
    · rw [absorb_step h, absorb_step (l := l ++ m) (by simp; omega), List.take_append_of_le_length h, List.drop_append_of_le_length h]
      exact ih (l.drop 64).length (by simp; omega) _ _ rfl
    · rw [absorb_done h]
theorem absorb_short (s : St) (l : List UInt8) : (absorb s l).2.length < 64 := by
  induction hn : l.length using Nat.strongRecOn generalizing s l with
  | ind n ih =>
    by_cases h : 64 ≤ l.length
    · rw [absorb_step h]; exact ih (l.drop 64).length (by simp; omega) _ _ rfl
    · rw [absorb_done h]; simp only; omega
theorem blocks_absorb (p : List UInt8) : ∀ t, 64 * t ≤ p.length → absorb initS p = absorb (blocksN p t) (p.drop (64 * t)) := by
  intro t
  induction t with
  | zero => intro _; simp [blocksN]
  | succ t ih =>
    intro h
    rw [ih (by omega), absorb_step (by simp; omega), blocksN, List.drop_drop]
    congr 2
theorem blocks_all (p : List UInt8) (h : p.length % 64 = 0) : blocksN p (p.length / 64) = (absorb initS p).1 := by
  rw [blocks_absorb p (p.length / 64) (by omega), absorb_done (by simp; omega)]
theorem pad_len (n m : Nat) (h : n = m) : (n + (padL m).length) % 64 = 0 := by
  subst h
  simp only [padL, lenBs, List.length_append, List.length_cons, List.length_replicate, List.length_map, List.length_range, padZ]
  omega
/-- The digest, told by what a Hash holds after all bytes. -/
theorem sumB_absorb (l : List UInt8) : sumB l = outB (absorb (absorb initS l).1 ((absorb initS l).2 ++ padL l.length)).1 := by
  unfold sumB
  rw [blocks_all _ (by rw [List.length_append]; exact pad_len _ _ rfl), absorb_append]
end Go.Proofs.Ytgkfopodhikckaa
/- A map of the call's own, from arrays of bytes to true: a set. Over any program. No condition. -/
namespace Go.Proofs.Ytgkfopodhikckaa
open Go.RowKit Go.ChangeShapes Go.WideShapes
section
variable {P : Program} {k e : TypeId} {n : Nat}
theorem arr_key (A : WideMaps.ArrKey P k e n) (he : P.underlying e = some (.int .u8)) (hsz : ∃ m, P.types.size = m + 1) (x : Arr n) : ∃ kl, keyOf P k x.val = some kl := by
  have hkt := A.keyType hsz
  obtain ⟨m0, hm0⟩ := hsz
  unfold keyOf
  simp only [A.hu]
  rw [if_pos (by simp [hkt, Value.formed, A.hu, A.size, Arr.val, Arr.len]), hm0]
  unfold Program.keyLits
  simp only [A.hu, Arr.val, Value.cells, List.size_toArray]
  have hl : x.cells.length = P.cellsOf k := by rw [A.size, Arr.len]
  rw [if_pos hl]
  have : ∀ i, i < n → P.keyLits (m0 + 1) e ((x.cells.drop (i * P.cellsOf e)).take (P.cellsOf e)) = some ((fun i => [Lit.int .u8 ((x.1.getD i 0).toNat : Int)]) i) := by
    intro i hi
    have hi' : i < x.cells.length := by rw [Arr.len]; exact hi
    have hi2 : i < x.1.length := by rw [x.2]; exact hi
    rw [A.one, Nat.mul_one, List.drop_eq_getElem_cons hi', List.take_succ_cons, List.take_zero]
    unfold Program.keyLits
    have hv : x.cells[i] = .int .u8 ((x.1.getD i 0).toNat : Int) := by
      simp [Arr.cells, byt, List.getD, List.getElem?_eq_getElem hi2]
    rw [he, hv]
    clear hv
    have hb := (x.1.getD i 0).toNat_lt
    have e1 : IntKind.u8.min = 0 := rfl
    have e2 : IntKind.u8.max = 255 := rfl
    have hw : (Lit.int .u8 ((x.1.getD i 0).toNat : Int)).wf = true := by
      simp only [Lit.wf, Bool.and_eq_true, decide_eq_true_eq]
      omega
    simp only [hw, and_self, if_true]
  have hmap := mapM_range_of (f := fun i => P.keyLits (m0 + 1) e ((x.cells.drop (i * P.cellsOf e)).take (P.cellsOf e))) n this
  exact ⟨_, by rw [hmap]; rfl⟩
theorem Arr.val_inj {x y : Arr n} (h : x.val = y.val) : x = y := by
  apply Subtype.ext
  have h1 : x.cells = y.cells := by simpa [Arr.val] using h
  unfold Arr.cells at h1
  exact (List.map_inj_right (fun a b => byt_inj)).1 h1
/-- The entries of the set. -/
def ents (l : List (Arr n)) : List MapEntry := (l.zipIdx 0).map fun p => ⟨p.1.val, .bool true, p.2⟩
def mapObj (l : List (Arr n)) : Obj := .map (ents l).toArray l.length
theorem ents_push (l : List (Arr n)) (x : Arr n) : ents (l ++ [x]) = ents l ++ [⟨x.val, .bool true, l.length⟩] := by
  simp [ents, List.zipIdx_append]
theorem ents_mem {l : List (Arr n)} {m : MapEntry} (h : m ∈ ents l) : ∃ x ∈ l, m.key = x.val ∧ m.val = .bool true := by
  simp only [ents, List.mem_map] at h
  obtain ⟨p, hp, rfl⟩ := h
  exact ⟨p.1, List.fst_mem_of_mem_zipIdx hp, rfl, rfl⟩
theorem ents_of {l : List (Arr n)} {x : Arr n} (h : x ∈ l) : ∃ m ∈ ents l, m.key = x.val := by
  obtain ⟨i, hi, rfl⟩ := List.getElem_of_mem h
  refine ⟨⟨l[i].val, .bool true, i⟩, ?_, rfl⟩
  simp only [ents, List.mem_map]
  exact ⟨(l[i], i), by rw [List.mk_mem_zipIdx_iff_getElem?]; simp [hi], rfl⟩
theorem set_find (A : WideMaps.ArrKey P k e n) (he : P.underlying e = some (.int .u8)) (hsz : ∃ m, P.types.size = m + 1) (l : List (Arr n)) (x : Arr n) (w : World) :
    ((Instr.findKey k x.val (ents l)).run P w = .ok none w ∧ x ∉ l) ∨ (∃ j, (Instr.findKey k x.val (ents l)).run P w = .ok (some (j, .bool true)) w) ∧ x ∈ l := by
  obtain ⟨kl, hk⟩ := arr_key A he hsz x
  rcases A.law.find w hk (ents l) (fun m hm => by obtain ⟨y, _, hy, _⟩ := ents_mem hm; rw [hy]; exact arr_key A he hsz y) with ⟨h1, h2⟩ | ⟨j, m, h1, h2, h3⟩
  · refine .inl ⟨h1, fun hx => ?_⟩
    obtain ⟨m, hm, hmk⟩ := ents_of hx
    exact h2 m hm hmk
  · have hm := List.mem_of_getElem? h2
    obtain ⟨y, hy, hk1, hv1⟩ := ents_mem hm
    rw [hv1] at h1
    exact .inr ⟨⟨j, h1⟩, by rw [Arr.val_inj (h3.symm.trans hk1)]; exact hy⟩
/-- What the table says of the set's type. -/
structure SetT (P : Program) (t k b : TypeId) (n : Nat) : Prop where
  ht : P.underlying t = some (.map k b)
  hk : ∃ e, WideMaps.ArrKey P k e n ∧ P.underlying e = some (.int .u8)
  hz : (P.info? b).map (·.zero) = some (some (.bool false))
  hsz : ∃ m, P.types.size = m + 1
variable {t b : TypeId}
theorem run_set_lookup (hT : SetT P t k b n) (l : List (Arr n)) (x : Arr n) {g : Nat} {w : World} (hg : w.heap[g]? = some (mapObj l)) :
    (Instr.lookup t (.map (some g)) x.val false).run P w = .ok (.bool (l.contains x)) w := by
  obtain ⟨e, A, he⟩ := hT.hk
  obtain ⟨kl, hk⟩ := arr_key A he hT.hsz x
  rcases set_find A he hT.hsz l x w with ⟨h1, h2⟩ | ⟨⟨j, h1⟩, h2⟩
  · have : l.contains x = false := by simpa using h2
    rw [this]
    simp [Instr.lookup, run_underlying hT.ht, MapKept.run_getObj_map hg, A.law.check w _ hk, h1, run_zeroValue hT.hz, Result.andThen]
  · have : l.contains x = true := by simpa using h2
    rw [this]
    simp [Instr.lookup, run_underlying hT.ht, MapKept.run_getObj_map hg, A.law.check w _ hk, h1, Result.andThen]
theorem run_set_update (hT : SetT P t k b n) (l : List (Arr n)) (x : Arr n) (hx : x ∉ l) {g : Nat} {w : World} (hg : w.heap[g]? = some (mapObj l)) :
    ∃ w', (Instr.mapUpdate t (.map (some g)) x.val (.bool true)).run P w = .ok () w' ∧ w'.heap[g]? = some (mapObj (l ++ [x])) ∧ w'.os = w.os ∧ w'.tape = w.tape ∧ w'.output = w.output ∧ w.heap.size ≤ w'.heap.size ∧
      ∀ j, j < w.heap.size → j ≠ g → w'.heap[j]? = w.heap[j]? := by
  obtain ⟨e, A, he⟩ := hT.hk
  obtain ⟨kl, hk⟩ := arr_key A he hT.hsz x
  rcases set_find A he hT.hsz l x w with ⟨h1, _⟩ | ⟨_, h2⟩
  · have hlt := (Array.getElem?_eq_some_iff.1 hg).1
    refine ⟨ChangeMaps.setBlock w g (mapObj (l ++ [x])), ?_, ?_, rfl, rfl, rfl, by simp [ChangeMaps.setBlock], ?_⟩
    · have hm : mapObj (l ++ [x]) = .map ((ents l).toArray.push ⟨x.val, .bool true, l.length⟩) (l.length + 1) := by
        unfold mapObj; rw [ents_push]; simp
      rw [hm]
      simp [Instr.mapUpdate, run_underlying hT.ht, MapKept.run_getObj_map hg, A.law.check w _ hk, h1, MapKept.run_setObj_map _ hg, Result.andThen, ChangeMaps.setBlock]
    · simp [ChangeMaps.setBlock, hlt]
    · intro j hj hne
      simp [ChangeMaps.setBlock, Array.getElem?_setIfInBounds, Ne.symm hne]
  · exact absurd h2 hx
section
variable {w w0 : World} {S : List Nat} {bs bs' : List (Nat × Obj)} {rows : List Row} {ops : Array Oper} {rest : List Oper} {a : Act} {Q : Exit → Act → World → Prop} {dst : Option Tmp} {ty : TypeId} {pos : String} {after : Array Edge} {guard : Option (Nat × Bool)}
theorem wpList_makeSet (hH : Holds w0 S bs rows w)
    (hg : Region.wanted { dst := dst, op := .makeMap t none, type := ty, pos := pos, after := after, guard := guard } (yielded ops a.tmps) = true)
    (h : ∀ g w', Holds w0 S ((g, mapObj ([] : List (Arr n))) :: bs) rows w' → wpList P ops Q rest (a.put dst (.map (some g))) w') :
    wpList P ops Q ({ dst := dst, op := .makeMap t none, type := ty, pos := pos, after := after, guard := guard } :: rest) a w := by
  refine wpList_ex hg (v := .map (some w.heap.size)) (w' := w.alloc (.map #[] 0)) ?_ (h _ _ (hH.alloc _))
  have := run_makeMap (P := P) t w
  simp only [execOp, Option.map_none, Sem.run_bind, this, Result.andThen_ok, Sem.run_pure]
theorem wpList_lookup (hT : SetT P t k b n) {l : List (Arr n)} {x : Arr n} {g : Nat} (hH : Holds w0 S bs rows w) {o1 o2 : Operand} (h1 : a.eval o1 = .map (some g)) (h2 : a.eval o2 = x.val) (ho : Own bs g (mapObj l))
    (hg : Region.wanted { dst := dst, op := .lookup t o1 o2 false, type := ty, pos := pos, after := after, guard := guard } (yielded ops a.tmps) = true)
    (h : wpList P ops Q rest (a.put dst (.bool (l.contains x))) w) :
    wpList P ops Q ({ dst := dst, op := .lookup t o1 o2 false, type := ty, pos := pos, after := after, guard := guard } :: rest) a w := by
  refine wpList_ex hg ?_ h
  have := run_set_lookup hT l x (hH.at ho)
  simp only [execOp, h1, h2, Sem.run_bind, this, Result.andThen_ok, Sem.run_pure]
theorem wpList_mapUpdate (hT : SetT P t k b n) {l : List (Arr n)} {x : Arr n} {g : Nat} (hH : Holds w0 S bs rows w) (hx : x ∉ l) {o1 o2 o3 : Operand} (h1 : a.eval o1 = .map (some g)) (h2 : a.eval o2 = x.val) (h3 : a.eval o3 = .bool true) (ht : Turn bs g (mapObj l) (mapObj (l ++ [x])) bs')
    (hg : Region.wanted { dst := dst, op := .mapUpdate t o1 o2 o3, type := ty, pos := pos, after := after, guard := guard } (yielded ops a.tmps) = true)
    (h : ∀ w', Holds w0 S bs' rows w' → wpList P ops Q rest (a.put dst undef) w') :
    wpList P ops Q ({ dst := dst, op := .mapUpdate t o1 o2 o3, type := ty, pos := pos, after := after, guard := guard } :: rest) a w := by
  obtain ⟨w', hr, ha, hos, hta, hout, hsz, hk⟩ := run_set_update hT l x hx (hH.at ht.own)
  refine wpList_exskip hg (w' := w') ?_ (h _ (hH.turn ht ha hos hta hout hsz hk))
  simp only [execOp, h1, h2, h3, Sem.run_bind, hr, Result.andThen_ok, Sem.run_pure]
end
end
/-- A call that turned one block of its caller's, and laid new ones. -/
structure Turned (g : Nat) (o : Obj) (w w' : World) : Prop where
  os : w'.os = w.os
  tape : w'.tape = w.tape
  output : w'.output = w.output
  size : w.heap.size ≤ w'.heap.size
  blk : w'.heap[g]? = some o
  old : ∀ k, k < w.heap.size → k ≠ g → w'.heap[k]? = w.heap[k]?
theorem Holds.turned {w w' : World} {g : Nat} {o : Obj} {bs : List (Nat × Obj)} {rows : List Row} (h : Holds w [g] bs rows w') (ho : Own bs g o) : Turned g o w w' :=
  ⟨h.os, h.tape, h.output, h.size, h.at ho, fun k hk hne => h.old k hk (by simpa using hne)⟩
theorem Holds.turnedBy {w0 w w' : World} {S : List Nat} {bs bs' : List (Nat × Obj)} {rows : List Row} {g : Nat} {o o' : Obj} (h : Holds w0 S bs rows w) (ht : Turn bs g o o' bs') (hw : Turned g o' w w') : Holds w0 S bs' rows w' :=
  h.turn ht hw.blk hw.os hw.tape hw.output hw.size hw.old
/-- A call that was handed one block of its caller's. -/
theorem Holds.initS {w : World} {g : Nat} {o : Obj} (h : w.heap[g]? = some o) : Holds w [g] [(g, o)] [] w :=
  ⟨rfl, rfl, rfl, Nat.le_refl _, fun _ _ _ => rfl, by simpa using h, by simp, by simp, by simp, by simpa using (Array.getElem?_eq_some_iff.1 h).1⟩
end Go.Proofs.Ytgkfopodhikckaa
/- New, take of sha256's Hash. Condition: at most a million bytes. -/
namespace Go.Proofs.Ytgkfopodhikckaa
open Go.RowKit
/-- The cells of a Hash. -/
def hcells (s : St) (rv : Value) (n : Nat) : List Value := s.ws.map wrd ++ [rv, .int .i64 n, .bool true]
theorem F118 (f off : Nat) (h : (f = 0 ∧ off = 0) ∨ (f = 1 ∧ off = 8) ∨ (f = 2 ∧ off = 9) ∨ (f = 3 ∧ off = 10)) : FieldT Try.prog 118 f off := by
  rcases h with ⟨rfl, rfl⟩ | ⟨rfl, rfl⟩ | ⟨rfl, rfl⟩ | ⟨rfl, rfl⟩
  · exact ⟨_, _, 7, Try.underlying118, rfl, rfl, by kernel_rfl⟩
  · exact ⟨_, _, 0, Try.underlying118, rfl, rfl, by kernel_rfl⟩
  · exact ⟨_, _, 0, Try.underlying118, rfl, rfl, by kernel_rfl⟩
  · exact ⟨_, _, 0, Try.underlying118, rfl, rfl, by kernel_rfl⟩
theorem F118_0 : FieldT Try.prog 118 0 0 := F118 _ _ (by decide)
theorem F118_1 : FieldT Try.prog 118 1 8 := F118 _ _ (by decide)
theorem F118_2 : FieldT Try.prog 118 2 9 := F118 _ _ (by decide)
theorem F118_3 : FieldT Try.prog 118 3 10 := F118 _ _ (by decide)
theorem O22 : OneT Try.prog 22 := ⟨_, Try.underlying22, rfl⟩
theorem O3 : OneT Try.prog 3 := ⟨_, Try.underlying3, rfl⟩
theorem O4 : OneT Try.prog 4 := ⟨_, Try.underlying4, rfl⟩
theorem S22 : (Try.prog.info? 22).map (·.size) = some 1 := by kernel_rfl
theorem S3 : (Try.prog.info? 3).map (·.size) = some 1 := by kernel_rfl
theorem S4 : (Try.prog.info? 4).map (·.size) = some 1 := by kernel_rfl
theorem B80 : Body Try.prog 80 := ⟨_, _, Try.func80, rfl, rfl⟩
theorem B79 : Body Try.prog 79 := ⟨_, _, Try.func79, rfl, rfl⟩
theorem build118 (s : St) (w : World) : (Instr.build 118 #[(0, valW s.ws), (3, .bool true)]).run Try.prog w = .ok (.agg (hcells s (.slice none 0 0) 0).toArray) w := by kernel_rfl
section
variable {w w0 : World} {S : List Nat} {bs bs' : List (Nat × Obj)} {rows : List Row} {ops : Array Oper} {rest : List Oper} {a : Act} {dst : Option Tmp} {ty : TypeId} {pos : String} {after : Array Edge} {guard : Option (Nat × Bool)} {Q : Exit → Act → World → Prop} {P : Program} {C : World → Prop} {K : Act → Prop}
theorem ex_nilCheck {ρ : Operand → Value} {x : Operand} {ad : Addr} (hx : ρ x = .pointer (some ad)) (w : World) :
    (execOp ρ { dst := dst, op := .nilCheck x, type := ty, pos := pos, after := after, guard := guard }).run P w = .ok (.value (.pointer (some ad))) w := by
  simp only [execOp, hx, Sem.run_pure]
theorem wpQ_nilCheck {x : Operand} {ad : Addr} (hx : a.eval x = .pointer (some ad))
    (hg : Region.wanted { dst := dst, op := .nilCheck x, type := ty, pos := pos, after := after, guard := guard } (yielded ops a.tmps) = true)
    (h : wpQuiet P ops C K rest (a.put dst (.pointer (some ad)))) : wpQuiet P ops C K ({ dst := dst, op := .nilCheck x, type := ty, pos := pos, after := after, guard := guard } :: rest) a :=
  wpQuiet_ex hg (fun w _ => ex_nilCheck (ρ := a.eval) hx w) h
theorem wpL_nilCheck {x : Operand} {ad : Addr} (hx : a.eval x = .pointer (some ad))
    (hg : Region.wanted { dst := dst, op := .nilCheck x, type := ty, pos := pos, after := after, guard := guard } (yielded ops a.tmps) = true)
    (h : wpList P ops Q rest (a.put dst (.pointer (some ad))) w) : wpList P ops Q ({ dst := dst, op := .nilCheck x, type := ty, pos := pos, after := after, guard := guard } :: rest) a w :=
  wpList_ex hg (ex_nilCheck (ρ := a.eval) hx w) h
/-- x[64:] of a slice of bytes. -/
theorem wpL_sliceFromB {x lo : Operand} {ao : Option Addr} {n c j : Nat} {q : Int} (hx : a.eval x = .slice ao n c) (hi : a.eval lo = .int .i64 q) (hq : q = (j : Int)) (hj : j ≤ n)
    (hg : Region.wanted { dst := dst, op := .slice 22 x (some lo) none none, type := ty, pos := pos, after := after, guard := guard } (yielded ops a.tmps) = true)
    (h : wpList Try.prog ops Q rest (a.put dst (.slice (if c = j then ao else ao.map (·.add j)) (n - j) (c - j))) w) :
    wpList Try.prog ops Q ({ dst := dst, op := .slice 22 x (some lo) none none, type := ty, pos := pos, after := after, guard := guard } :: rest) a w := by
  refine wpList_ex hg (ex_slice_from (ρ := a.eval) E22 hx hi hq hj w) ?_
  rw [Nat.mul_one]; exact h
end
/-- v is a slice of the bytes l, which lie in the blocks ex. -/
def RestEx (ex : List (Nat × Obj)) (v : Value) (l : List UInt8) : Prop :=
  ∃ ao cap, v = .slice ao l.length cap ∧ l.length ≤ cap ∧ ∀ j u, (l.map byt)[j]? = some u → ∃ g cur off, ao = some ⟨g, off, none⟩ ∧ (g, Obj.cells cur 5) ∈ ex ∧ cur[off + j]? = some u
theorem RestEx.nil (ex : List (Nat × Obj)) : RestEx ex (.slice none 0 0) [] := ⟨none, 0, rfl, Nat.le_refl _, fun j u hu => by simp at hu⟩
theorem RestEx.byts {w0 w : World} {S : List Nat} {bs ex : List (Nat × Obj)} {rows : List Row} {v : Value} {l : List UInt8} (h : RestEx ex v l) (hH : Holds w0 S bs rows w) (ho : ∀ p ∈ ex, p ∈ bs) : Byts w v l := by
  obtain ⟨ao, cap, rfl, hc, hcell⟩ := h
  refine ⟨_, _, rfl, hc, by simp, fun j u hu => ?_⟩
  obtain ⟨g, cur, off, rfl, hm, hu'⟩ := hcell j u hu
  refine ⟨_, rfl, ?_⟩
  have hadd : (⟨g, off, none⟩ : Addr).add j = ⟨g, off + j, none⟩ := by unfold Addr.add; split <;> simp_all
  rw [hadd]
  simp [World.cell?, hH.blk _ (ho _ hm), hu']
theorem RestEx.drop {ex : List (Nat × Obj)} {ao : Option Addr} {n c : Nat} {l : List UInt8} (h : RestEx ex (.slice ao n c) l) {j : Nat} (hj : j ≤ n) : RestEx ex (.slice (if c = j then ao else ao.map (·.add j)) (n - j) (c - j)) (l.drop j) := by
  obtain ⟨ao', cap, e, hc, hcell⟩ := h
  simp only [Value.slice.injEq] at e
  obtain ⟨rfl, rfl, rfl⟩ := e
  refine ⟨_, c - j, by rw [List.length_drop], by simp; omega, fun i u hu => ?_⟩
  rw [List.map_drop, List.getElem?_drop] at hu
  have hlt : j + i < l.length := by have := (List.getElem?_eq_some_iff.1 hu).1; simpa using this
  obtain ⟨g, cur, off, rfl, hm, hu'⟩ := hcell _ _ hu
  refine ⟨g, cur, off + j, ?_, hm, by rwa [Nat.add_assoc]⟩
  have hadd : (⟨g, off, none⟩ : Addr).add j = ⟨g, off + j, none⟩ := by unfold Addr.add; split <;> simp_all
  rw [if_neg (by omega)]
  simp [hadd]
theorem RestEx.shape {ex : List (Nat × Obj)} {v : Value} {l : List UInt8} (h : RestEx ex v l) : ∃ ao cap, v = .slice ao l.length cap := by
  obtain ⟨ao, cap, e, _⟩ := h; exact ⟨ao, cap, e⟩
/-- New blocks ex join the call's own. -/
theorem Holds.addBlks {w0 w w' : World} {S : List Nat} {bs ex : List (Nat × Obj)} {rows : List Row} (h : Holds w0 S bs rows w') (hsz : w.heap.size ≤ w'.heap.size) (hlt : ∀ p ∈ bs, p.1 < w.heap.size) (hrl : ∀ r ∈ rows, ∀ k, r.v.ownBlock = some k → k < w.heap.size) (h0 : w0.heap.size ≤ w.heap.size)
    (hex : ∀ p ∈ ex, w.heap.size ≤ p.1 ∧ w'.heap[p.1]? = some p.2) (hnd : (ex.map (·.1)).Nodup) : Holds w0 S (bs ++ ex) rows w' := by
  refine ⟨h.os, h.tape, h.output, h.size, h.old, ?_, ?_, h.row, ?_, h.inS⟩
  · intro p hp
    rcases List.mem_append.1 hp with hp | hp
    · exact h.blk p hp
    · exact (hex p hp).2
  · intro p hp
    rcases List.mem_append.1 hp with hp | hp
    · exact h.frs p hp
    · exact .inl (Nat.le_trans h0 (hex p hp).1)
  · have hsep := h.sep
    rw [List.nodup_append] at hsep
    rw [List.map_append, List.append_assoc, List.nodup_append]
    refine ⟨hsep.1, List.nodup_append.2 ⟨hnd, hsep.2.1, ?_⟩, ?_⟩
    · intro a ha b hb e
      subst e
      obtain ⟨p, hp, rfl⟩ := List.mem_map.1 ha
      obtain ⟨r, hr, e⟩ := List.mem_filterMap.1 hb
      have h1 := hrl r hr _ e
      have h2 := (hex p hp).1
      omega
    · intro a ha b hb e
      subst e
      obtain ⟨q, hq, hqe⟩ := List.mem_map.1 ha
      have h1 := hlt q hq
      rcases List.mem_append.1 hb with hb | hb
      · obtain ⟨p, hp, hpe⟩ := List.mem_map.1 hb
        have h2 := (hex p hp).1
        omega
      · exact hsep.2.2 a ha a hb rfl
/-- An own row of bytes, taken as own blocks. -/
theorem Holds.rowEx {w0 w : World} {S : List Nat} {bs : List (Nat × Obj)} {rows : List Row} {ao : Option Addr} {cap : Nat} {l : List UInt8} (h : Holds w0 S bs (rowB ao cap l :: rows) w) :
    ∃ ex, RestEx ex (.slice ao l.length cap) l ∧ (∀ p ∈ ex, w0.heap.size ≤ p.1) ∧ (ex.map (·.1)).Nodup ∧ Holds w0 S (bs ++ ex) rows w := by
  have hown := h.own0
  rcases hown.2 with ⟨hv, hn0⟩ | ⟨g, cap', cur, hv, hb, hg, hn, hm, hs, htake⟩
  · have : l = [] := List.eq_nil_of_length_eq_zero hn0
    subst this
    refine ⟨[], ?_, by simp, by simp, by simpa using h.dropRow⟩
    simp only [List.length_nil] at hv ⊢
    rw [hv]
    exact RestEx.nil _
  · simp only [Value.slice.injEq, true_and] at hv
    obtain ⟨rfl, rfl⟩ := hv
    refine ⟨[(g, .cells cur 5)], ⟨_, cap, rfl, hn, fun j u hu => ?_⟩, by simpa using hb, by simp, ?_⟩
    · have h1 : j < l.length := by have := (List.getElem?_eq_some_iff.1 hu).1; simpa using this
      rw [← htake, List.getElem?_take, if_pos (by omega)] at hu
      exact ⟨g, cur, 0, rfl, by simp, by rw [Nat.zero_add]; simpa using hu⟩
    · have hd := h.dropRow
      have hsep := h.sep
      simp only [List.filterMap_cons, Value.ownBlock] at hsep
      rw [List.nodup_append] at hsep
      refine ⟨hd.os, hd.tape, hd.output, hd.size, hd.old, ?_, ?_, hd.row, ?_, hd.inS⟩
      · intro p hp
        rcases List.mem_append.1 hp with hp | hp
        · exact hd.blk p hp
        · rw [List.mem_singleton.1 hp]; exact hg
      · intro p hp
        rcases List.mem_append.1 hp with hp | hp
        · exact hd.frs p hp
        · rw [List.mem_singleton.1 hp]; exact .inl hb
      · rw [List.map_append, List.append_assoc, List.nodup_append]
        exact ⟨hsep.1, hsep.2.1, hsep.2.2⟩
/-- A call that was handed a Hash at g, and left it so; the rest lies in new blocks. -/
def HashOut (w : World) (g : Nat) (s : St) (r : List UInt8) (n : Nat) (w' : World) : Prop :=
  ∃ rv ex, RestEx ex rv r ∧ (∀ p ∈ ex, w.heap.size ≤ p.1 ∧ w'.heap[p.1]? = some p.2) ∧ (ex.map (·.1)).Nodup ∧ Turned g (objC (hcells s rv n) 118) w w'
/-- What was read in the first world reads so still, if the handed block is as it was. -/
theorem Holds.slS {w w' : World} {g : Nat} {o : Obj} {bs : List (Nat × Obj)} {rows : List Row} (h : Holds w [g] bs rows w') (ho : Own bs g o) (hg : w.heap[g]? = some o) {v : Value} {sz n : Nat} {cs : List Value} (hs : Sl w v sz n cs) : Sl w' v sz n cs :=
  hs.keep fun k hk => by
    by_cases e : k = g
    · subst e; rw [h.at ho, hg]
    · exact h.old k hk (by simpa using e)
def TakeRel (w : World) (g : Nat) (rv : Value) (n : Nat) (ex : List (Nat × Obj)) (s0 : St) (l0 : List UInt8) (v : Value) (wr : World) : Prop :=
  ∃ s l, absorb s0 l0 = absorb s l ∧ RestEx ex v l ∧ Holds w [g] ((g, objC (hcells s rv n) 118) :: ex) [] wr
theorem Holds.memEx {w0 w : World} {S : List Nat} {p : Nat × Obj} {ex : List (Nat × Obj)} {rows : List Row} (_ : Holds w0 S (p :: ex) rows w) : ∀ q ∈ ex, q ∈ p :: ex := fun _ hq => List.mem_cons_of_mem _ hq
set_option maxRecDepth 100000 in
set_option maxHeartbeats 4000000 in
theorem take_any (w : World) (g : Nat) (s : St) (rv vb : Value) (r b : List UInt8) (n : Nat) (hg : w.heap[g]? = some (objC (hcells s rv n) 118)) (hr : Byts w rv r) (hb : Byts w vb b) (hn : r.length + b.length ≤ 1000000) :
    Calls Try.prog 64 #[.pointer (some ⟨g, 0, none⟩), vb] w (fun e w' => e = .returned (.tuple #[]) ∧ HashOut w g (absorb s (r ++ b)).1 (absorb s (r ++ b)).2 n w') := by
  obtain ⟨ar, cr, rfl, _⟩ := hr.shape
  obtain ⟨ab, cb, rfl, _⟩ := hb.shape
  have HH := hid (Holds.initS hg)
  have HG := hid hg
  have HR := hid hr
  have HB := hid hb
  clear hg hr hb
  go_enter Try.func64, Try.ntmps64
  go_wp2_with (first
    | ((first
        | ((with_reducible apply wpL_skip); rfl; skip)
        | ((with_reducible apply wpL_nilCheck); rfl; rfl)
        | ((with_reducible apply wpL_fieldAddr (t := 118)); (first | exact F118_0 | exact F118_1 | exact F118_2 | exact F118_3); rfl; rfl)
        | ((with_reducible apply wpL_load1 (dst := some 8) O4 HH.out); rfl; (exact .here); rfl; rfl)
        | ((with_reducible apply wpL_load1 (dst := some 21) O22 HH.out); rfl; (exact .here); rfl; rfl)
        | ((with_reducible apply wpL_buildB [] (dst := some 17)); rfl; rfl; (exact (by omega)); (exact HH.out); rfl; (intro g_ w_ hq_; clear HH; have HH := hid hq_; clear hq_))
        | ((with_reducible apply wpL_appendB (dst := some 22) (l := []) (l2 := r) HH.out (HH.out.slS .here HG.out HR.out)); rfl; rfl; (exact (by simp; omega)); rfl; rfl; rfl; (intro ao1 cap1 w_ hq_; clear HH; have HH := hid hq_; clear hq_))
        | ((with_reducible apply wpL_appendB (dst := some 24) (l := r) (l2 := b) HH.out (HH.out.slS .here HG.out HB.out)); rfl; rfl; (exact (by omega)); rfl; rfl; rfl; (intro ao1 cap1 w_ hq_; clear HH; have HH := hid hq_; clear hq_))
        | ((with_reducible apply wpL_move); rfl; rfl)
        | ((with_reducible apply wpL_assign); rfl; rfl)
        | ((with_reducible apply wpL_pick); rfl; rfl; rfl)
        | ((with_reducible apply wpL_not); rfl; rfl)
        | ((with_reducible apply wpL_cmp (b := true)); rfl; rfl; rfl; (first | rfl | assumption | (simp only [cmpB, decide_eq_true_eq, decide_eq_false_iff_not, beq_iff_eq, bne_iff_ne, ne_eq, beq_eq_false_iff_ne, bne_eq_false_iff_eq, gt_iff_lt, ge_iff_le]; omega) | (simp; omega)); rfl)
        | ((with_reducible apply wpL_cmp (b := false)); rfl; rfl; rfl; (first | rfl | assumption | (simp only [cmpB, decide_eq_true_eq, decide_eq_false_iff_not, beq_iff_eq, bne_iff_ne, ne_eq, beq_eq_false_iff_ne, bne_eq_false_iff_eq, gt_iff_lt, ge_iff_le]; omega) | (simp; omega)); rfl)
        | ((with_reducible apply wpL_cmp); rfl; rfl; rfl; rfl; rfl)
        | ((with_reducible apply wpL_arith); rfl; rfl; rfl; (exact IntWalk.i64_in _ (by (try simp only [arithI]); omega)); rfl)); (try simp only [arithI, Act.put, Act.eval, List.setIfInBounds_toArray, List.set_cons_succ, List.set_cons_zero, Array.getD_eq_getD_getElem?, List.getElem?_toArray, List.getElem?_cons_succ, List.getElem?_cons_zero, Option.getD_some])))
  obtain ⟨ex, hre, hexb, hexn, hh⟩ := HH.out.rowEx
  have HXB := hid hexb
  have HXN := hid hexn
  have hll : (r ++ b).length ≤ 1000000 := by rw [List.length_append]; exact hn
  clear HH hexb hexn
  go_loopw [4] (TakeRel w g (.slice ar r.length cr) n ex s (r ++ b)) (fun v _ => lenV v)
  case atStart => exact ⟨s, r ++ b, rfl, hre, hh⟩
  case round =>
    obtain ⟨s', l', hab, hre', hr⟩ := hrel
    have HH := hid hr
    have HE := hid hre'
    have HAB := hid hab
    clear hr hre' hab hre hh
    obtain ⟨al, cl, rfl⟩ := HE.out.shape
    by_cases hlt : 64 ≤ l'.length
    · have HL := hid (HE.out.byts HH.out HH.out.memEx)
      have HPB := hid (process_block s' l')
      have hst := hid (absorb_step (s := s') hlt)
      go_wp2_with (first
        | ((first
            | ((with_reducible apply wpL_skip); rfl; skip)
            | ((with_reducible apply wpL_move); rfl; rfl)
            | ((with_reducible apply wpL_assign); rfl; rfl)
            | ((with_reducible apply wpL_pick); rfl; rfl; rfl)
            | ((with_reducible apply wpL_not); rfl; rfl)
            | ((with_reducible apply wpL_cmp (b := true)); rfl; rfl; rfl; (first | rfl | assumption | (simp only [cmpB, decide_eq_true_eq, decide_eq_false_iff_not, beq_iff_eq, bne_iff_ne, ne_eq, beq_eq_false_iff_ne, bne_eq_false_iff_eq, gt_iff_lt, ge_iff_le]; omega) | (simp; omega)); rfl)
            | ((with_reducible apply wpL_cmp (b := false)); rfl; rfl; rfl; (first | rfl | assumption | (simp only [cmpB, decide_eq_true_eq, decide_eq_false_iff_not, beq_iff_eq, bne_iff_ne, ne_eq, beq_eq_false_iff_ne, bne_eq_false_iff_eq, gt_iff_lt, ge_iff_le]; omega) | (simp; omega)); rfl)
            | ((with_reducible apply wpL_cmp); rfl; rfl; rfl; rfl; rfl)
            | ((with_reducible apply wpL_arith); rfl; rfl; rfl; (exact IntWalk.i64_in _ (by (try simp only [arithI]); omega)); rfl)); (try simp only [arithI, Act.put, Act.eval, List.setIfInBounds_toArray, List.set_cons_succ, List.set_cons_zero, Array.getD_eq_getD_getElem?, List.getElem?_toArray, List.getElem?_cons_succ, List.getElem?_cons_zero, Option.getD_some])))
      refine wp_region_tailQ 10 (by kernel_rfl) (by kernel_rfl) (by kernel_rfl) HH.out ?_
      simp only [List.take_succ_cons, List.take_zero, List.drop_succ_cons, List.drop_zero]
      repeat ((first
        | ((with_reducible apply wpQ_skip); rfl; skip)
        | ((with_reducible apply wpQ_nilCheck); rfl; rfl)
        | ((with_reducible apply wpQ_fieldAddr (t := 118)); (first | exact F118_0 | exact F118_1 | exact F118_2 | exact F118_3); rfl; rfl)
        | ((with_reducible apply wpQ_loadPart (vs := s'.ws.map wrd) A115); rfl; (exact .here); rfl; rfl; rfl)
        | ((with_reducible apply wpQ_call (v := valW (loadL l')) (args := #[.slice al l'.length cl]) B80); rfl; (intro wq hwq; exact (load_any wq _ l' (HE.out.byts hwq hwq.memEx) hlt).mono fun e w' ⟨he, hb⟩ => ⟨he, hwq.grow hb⟩); rfl)
        | ((with_reducible apply wpQ_call (v := valW (processS s' (loadL l')).ws) (args := #[valW s'.ws, valW (loadL l')]) B79); rfl; (intro wq hwq; exact (process_any wq s' (loadL l') rfl).mono fun e w' ⟨he, hb⟩ => ⟨he, hwq.grow hb⟩); rfl)
        | ((with_reducible apply wpQ_move); rfl; rfl)
        | ((with_reducible apply wpQ_assign); rfl; rfl)
        | ((with_reducible apply wpQ_pick); rfl; rfl; rfl)
        | ((with_reducible apply wpQ_not); rfl; rfl)
        | ((with_reducible apply wpQ_cmp (b := true)); rfl; rfl; rfl; (first | rfl | assumption | (simp only [cmpB, decide_eq_true_eq, decide_eq_false_iff_not, beq_iff_eq, bne_iff_ne, ne_eq, beq_eq_false_iff_ne, bne_eq_false_iff_eq, gt_iff_lt, ge_iff_le]; omega) | (simp; omega)); rfl)
        | ((with_reducible apply wpQ_cmp (b := false)); rfl; rfl; rfl; (first | rfl | assumption | (simp only [cmpB, decide_eq_true_eq, decide_eq_false_iff_not, beq_iff_eq, bne_iff_ne, ne_eq, beq_eq_false_iff_ne, bne_eq_false_iff_eq, gt_iff_lt, ge_iff_le]; omega) | (simp; omega)); rfl)
        | ((with_reducible apply wpQ_cmp); rfl; rfl; rfl; rfl; rfl)
        | ((with_reducible apply wpQ_arith); rfl; rfl; rfl; (exact IntWalk.i64_in _ (by (try simp only [arithI]); omega)); rfl)); simp only [arithI, Act.put, Act.eval, List.setIfInBounds_toArray, List.set_cons_succ, List.set_cons_zero, Array.getD_eq_getD_getElem?, List.getElem?_toArray, List.getElem?_cons_succ, List.getElem?_cons_zero, Option.getD_some])
      refine wpQuiet_nil ?_
      intro wq hq_
      have HQ := hid hq_
      clear hq_
      clear HH
      have HH := HQ
      clear HQ
      go_wp2_with (first
        | ((first
            | ((with_reducible apply wpL_skip); rfl; skip)
            | ((with_reducible apply wpL_storePart (vs := (processS s' (loadL l')).ws.map wrd) (sz := 8)); rfl; rfl; rfl; (exact S115); (exact HH.out); (exact .here); rfl; (exact wrd_one _); (exact (by simp [hcells, St.ws])); rfl; (intro w_ hq_; (have hq2_ : Holds w [g] ((g, objC (hcells (blockS s' (l'.take 64)) (.slice ar r.length cr) n) 118) :: ex) [] w_ := by rw [← HPB.out]; exact hq_); clear HH hq_; have HH := hid hq2_; clear hq2_))
            | ((with_reducible apply wpL_sliceFromB (j := 64)); rfl; rfl; rfl; (exact hlt); rfl)
            | ((with_reducible apply wpL_move); rfl; rfl)
            | ((with_reducible apply wpL_assign); rfl; rfl)
            | ((with_reducible apply wpL_pick); rfl; rfl; rfl)
            | ((with_reducible apply wpL_not); rfl; rfl)
            | ((with_reducible apply wpL_cmp (b := true)); rfl; rfl; rfl; (first | rfl | assumption | (simp only [cmpB, decide_eq_true_eq, decide_eq_false_iff_not, beq_iff_eq, bne_iff_ne, ne_eq, beq_eq_false_iff_ne, bne_eq_false_iff_eq, gt_iff_lt, ge_iff_le]; omega) | (simp; omega)); rfl)
            | ((with_reducible apply wpL_cmp (b := false)); rfl; rfl; rfl; (first | rfl | assumption | (simp only [cmpB, decide_eq_true_eq, decide_eq_false_iff_not, beq_iff_eq, bne_iff_ne, ne_eq, beq_eq_false_iff_ne, bne_eq_false_iff_eq, gt_iff_lt, ge_iff_le]; omega) | (simp; omega)); rfl)
            | ((with_reducible apply wpL_cmp); rfl; rfl; rfl; rfl; rfl)
            | ((with_reducible apply wpL_arith); rfl; rfl; rfl; (exact IntWalk.i64_in _ (by (try simp only [arithI]); omega)); rfl)); (try simp only [arithI, Act.put, Act.eval, List.setIfInBounds_toArray, List.set_cons_succ, List.set_cons_zero, Array.getD_eq_getD_getElem?, List.getElem?_toArray, List.getElem?_cons_succ, List.getElem?_cons_zero, Option.getD_some])))
      go_roundw
      case rel => exact ⟨blockS s' (l'.take 64), l'.drop 64, by rw [HAB.out, hst.out], HE.out.drop hlt, HH.out⟩
      case measure => simp [lenV]; omega
    · have hdn := hid (absorb_done (s := s') hlt)
      go_wp2_with (first
        | ((first
            | ((with_reducible apply wpL_skip); rfl; skip)
            | ((with_reducible apply wpL_nilCheck); rfl; rfl)
            | ((with_reducible apply wpL_fieldAddr (t := 118)); (first | exact F118_0 | exact F118_1 | exact F118_2 | exact F118_3); rfl; rfl)
            | ((with_reducible apply wpL_store1 (v := .slice al l'.length cl) (cs := hcells s' (.slice ar r.length cr) n)); rfl; rfl; rfl; (exact S22); (exact HH.out); (exact .here); rfl; (exact (by simp [hcells, St.ws])); rfl; (intro w_ hq_; (have hq2_ : Holds w [g] ((g, objC (hcells s' (.slice al l'.length cl) n) 118) :: ex) [] w_ := hq_); clear HH hq_; have HH := hid hq2_; clear hq2_))
            | ((with_reducible apply wpL_move); rfl; rfl)
            | ((with_reducible apply wpL_assign); rfl; rfl)
            | ((with_reducible apply wpL_pick); rfl; rfl; rfl)
            | ((with_reducible apply wpL_not); rfl; rfl)
            | ((with_reducible apply wpL_cmp (b := true)); rfl; rfl; rfl; (first | rfl | assumption | (simp only [cmpB, decide_eq_true_eq, decide_eq_false_iff_not, beq_iff_eq, bne_iff_ne, ne_eq, beq_eq_false_iff_ne, bne_eq_false_iff_eq, gt_iff_lt, ge_iff_le]; omega) | (simp; omega)); rfl)
            | ((with_reducible apply wpL_cmp (b := false)); rfl; rfl; rfl; (first | rfl | assumption | (simp only [cmpB, decide_eq_true_eq, decide_eq_false_iff_not, beq_iff_eq, bne_iff_ne, ne_eq, beq_eq_false_iff_ne, bne_eq_false_iff_eq, gt_iff_lt, ge_iff_le]; omega) | (simp; omega)); rfl)
            | ((with_reducible apply wpL_cmp); rfl; rfl; rfl; rfl; rfl)
            | ((with_reducible apply wpL_arith); rfl; rfl; rfl; (exact IntWalk.i64_in _ (by (try simp only [arithI]); omega)); rfl)); (try simp only [arithI, Act.put, Act.eval, List.setIfInBounds_toArray, List.set_cons_succ, List.set_cons_zero, Array.getD_eq_getD_getElem?, List.getElem?_toArray, List.getElem?_cons_succ, List.getElem?_cons_zero, Option.getD_some])))
      refine bodyPost_end (results_none rfl _ _ _) rfl ⟨rfl, ?_⟩
      have e := HAB.out
      rw [hdn.out] at e
      rw [e]
      exact ⟨_, ex, HE.out, fun p hp => ⟨HXB.out p hp, HH.out.blk p (List.mem_cons_of_mem _ hp)⟩, HXN.out, HH.out.turned .here⟩
end Go.Proofs.Ytgkfopodhikckaa
/- New, Write, Len, Clone of sha256's Hash. Condition: at most a million bytes. -/
namespace Go.Proofs.Ytgkfopodhikckaa
open Go.RowKit
theorem Holds.hashBy {w0 w w' : World} {S : List Nat} {bs : List (Nat × Obj)} {rows : List Row} {g n : Nat} {o : Obj} {s : St} {r : List UInt8} (h : Holds w0 S bs rows w) (ho : Own bs g o) (hT : ∀ o', ∃ bs', Turn bs g o o' bs') (hH : HashOut w g s r n w') :
    ∃ rv ex bs', Turn bs g o (objC (hcells s rv n) 118) bs' ∧ RestEx ex rv r ∧ (∀ p ∈ ex, w.heap.size ≤ p.1) ∧ (ex.map (·.1)).Nodup ∧ Holds w0 S (bs' ++ ex) rows w' := by
  obtain ⟨rv, ex, hre, hex, hnd, ht⟩ := hH
  obtain ⟨bs', hturn⟩ := hT (objC (hcells s rv n) 118)
  refine ⟨rv, ex, bs', hturn, hre, fun p hp => (hex p hp).1, hnd, ?_⟩
  refine Holds.addBlks (h.turnedBy hturn ht) ht.size ?_ (fun q hq k hk => (h.rowlt hq k hk).2) h.size hex hnd
  obtain ⟨pre, post, rfl, rfl⟩ := hturn.split
  intro p hp
  have : ∃ q ∈ pre ++ (g, o) :: post, q.1 = p.1 := by
    rcases List.mem_append.1 hp with a | a
    · exact ⟨p, List.mem_append.2 (.inl a), rfl⟩
    · rcases List.mem_cons.1 a with rfl | a
      · exact ⟨(g, o), by simp, rfl⟩
      · exact ⟨p, List.mem_append.2 (.inr (List.mem_cons_of_mem _ a)), rfl⟩
  obtain ⟨q, hq, e⟩ := this
  rw [← e]
  exact h.lt hq
theorem Holds.oldCell {w w' : World} {bs : List (Nat × Obj)} {rows : List Row} (h : Holds w [] bs rows w') {g j : Nat} {cs : List Value} {e : TypeId} {v : Value} (hg : w.heap[g]? = some (objC cs e)) (hv : cs[j]? = some v) : w'.cell? ⟨g, j, none⟩ = some v := by
  have hlt := (Array.getElem?_eq_some_iff.1 hg).1
  simp [World.cell?, h.old g hlt (by simp), hg, objC, hv]
theorem wpL_loadAt {w : World} {ops : Array Oper} {rest : List Oper} {a : Act} {dst : Option Tmp} {ty : TypeId} {pos : String} {after : Array Edge} {guard : Option (Nat × Bool)} {Q : Exit → Act → World → Prop} {P : Program} {t : TypeId} (hA : OneT P t) {x : Operand} {ad : Addr} {v : Value} (hc : w.cell? ad = some v) (hx : a.eval x = .pointer (some ad))
    (hg : Region.wanted { dst := dst, op := .load t x, type := ty, pos := pos, after := after, guard := guard } (yielded ops a.tmps) = true)
    (h : wpList P ops Q rest (a.put dst v) w) : wpList P ops Q ({ dst := dst, op := .load t x, type := ty, pos := pos, after := after, guard := guard } :: rest) a w := by
  obtain ⟨d, hu, hd⟩ := hA
  exact wpList_ex hg (ex_load_one (ρ := a.eval) hx hu hd hc) h
def zh : List Value := (List.replicate 8 (0 : W32)).map wrd ++ [.slice none 0 0, .int .i64 0, .bool false]
theorem Z118 : (Try.prog.info? 118).map (·.zero) = some (some (.agg zh.toArray)) := by kernel_rfl
theorem A118 : AggT Try.prog 118 11 := ⟨_, Try.underlying118, rfl, by kernel_rfl⟩
theorem S118 : (Try.prog.info? 118).map (·.size) = some 11 := by kernel_rfl
theorem hcells_one {s : St} {ao : Option Addr} {k c n : Nat} : ∀ u ∈ hcells s (.slice ao k c) n, u.oneCell' = true := by
  intro u hu
  simp only [hcells, List.mem_append, List.mem_cons, List.not_mem_nil, or_false] at hu
  rcases hu with hu | rfl | rfl | rfl
  · exact wrd_one _ u hu
  · rfl
  · rfl
  · rfl
/-- A new Hash. -/
def NewOut (w : World) (s : St) (r : List UInt8) (n : Nat) (e : Ending) (w' : World) : Prop :=
  ∃ g rv ex, e = .returned (.pointer (some ⟨g, 0, none⟩)) ∧ RestEx ex rv r ∧ (∀ p ∈ (g, objC (hcells s rv n) 118) :: ex, w.heap.size ≤ p.1 ∧ w'.heap[p.1]? = some p.2) ∧ (((g, objC (hcells s rv n) 118) :: ex).map (·.1)).Nodup ∧ Below w.heap.size w w'
theorem Holds.newBy {w0 w w' : World} {S : List Nat} {bs ex : List (Nat × Obj)} {rows : List Row} (h : Holds w0 S bs rows w) (hex : ∀ p ∈ ex, w.heap.size ≤ p.1 ∧ w'.heap[p.1]? = some p.2) (hnd : (ex.map (·.1)).Nodup) (hb : Below w.heap.size w w') : Holds w0 S (bs ++ ex) rows w' :=
  Holds.addBlks (h.grow hb) hb.size (fun p hp => h.lt hp) (fun q hq k hk => (h.rowlt hq k hk).2) h.size hex hnd
set_option maxRecDepth 100000 in
set_option maxHeartbeats 2000000 in
theorem new_any (w : World) : Calls Try.prog 32 #[] w (NewOut w initS [] 0) := by
  have HH := hid (Holds.init w)
  go_enter Try.func32, Try.ntmps32
  go_wp2_with (first
    | ((first
        | ((with_reducible apply wpL_skip); rfl; skip)
        | (go_at_call 63; refine (initial_any _).mono ?_; rintro e w2 ⟨rfl, hb⟩; (have hq_ := HH.out.grow hb); clear HH; have HH := hid hq_; clear hq_ hb)
        | ((with_reducible apply wpList_build (v := .agg (hcells initS (.slice none 0 0) 0).toArray)); (exact build118 initS); rfl)
        | ((with_reducible apply wpL_boxC (cs := hcells initS (.slice none 0 0) 0)); rfl; (exact HH.out); rfl; (intro g_ w_ hq_; clear HH; have HH := hid hq_; clear hq_))
        | ((with_reducible apply wpL_move); rfl; rfl)
        | ((with_reducible apply wpL_assign); rfl; rfl)
        | ((with_reducible apply wpL_pick); rfl; rfl; rfl)
        | ((with_reducible apply wpL_not); rfl; rfl)
        | ((with_reducible apply wpL_cmp (b := true)); rfl; rfl; rfl; (first | rfl | assumption | (simp only [cmpB, decide_eq_true_eq, decide_eq_false_iff_not, beq_iff_eq, bne_iff_ne, ne_eq, beq_eq_false_iff_ne, bne_eq_false_iff_eq, gt_iff_lt, ge_iff_le]; omega) | (simp; omega)); rfl)
        | ((with_reducible apply wpL_cmp (b := false)); rfl; rfl; rfl; (first | rfl | assumption | (simp only [cmpB, decide_eq_true_eq, decide_eq_false_iff_not, beq_iff_eq, bne_iff_ne, ne_eq, beq_eq_false_iff_ne, bne_eq_false_iff_eq, gt_iff_lt, ge_iff_le]; omega) | (simp; omega)); rfl)
        | ((with_reducible apply wpL_cmp); rfl; rfl; rfl; rfl; rfl)
        | ((with_reducible apply wpL_arith); rfl; rfl; rfl; (exact IntWalk.i64_in _ (by (try simp only [arithI]); omega)); rfl)); (try simp only [arithI, Act.put, Act.eval, List.setIfInBounds_toArray, List.set_cons_succ, List.set_cons_zero, Array.getD_eq_getD_getElem?, List.getElem?_toArray, List.getElem?_cons_succ, List.getElem?_cons_zero, Option.getD_some])))
  go_ret
  refine ⟨g_, .slice none 0 0, [], rfl, RestEx.nil _, ?_, by simp, HH.out.below⟩
  intro p hp
  rw [List.mem_singleton.1 hp]
  exact ⟨(HH.out.frs _ List.mem_cons_self).resolve_right (by simp), HH.out.blk _ List.mem_cons_self⟩
set_option maxRecDepth 100000 in
set_option maxHeartbeats 2000000 in
theorem len_any (w : World) (g : Nat) (s : St) (rv : Value) (n : Nat) (hg : w.heap[g]? = some (objC (hcells s rv n) 118)) :
    Calls Try.prog 39 #[.pointer (some ⟨g, 0, none⟩)] w (fun e w' => e = .returned (.int .i64 n) ∧ Below w.heap.size w w') := by
  have HH := hid (Holds.initS hg)
  clear hg
  go_enter Try.func39, Try.ntmps39
  go_wp2_with (first
    | ((first
        | ((with_reducible apply wpL_skip); rfl; skip)
        | ((with_reducible apply wpL_nilCheck); rfl; rfl)
        | ((with_reducible apply wpL_fieldAddr (t := 118)); (first | exact F118_0 | exact F118_1 | exact F118_2 | exact F118_3); rfl; rfl)
        | ((with_reducible apply wpL_load1 O3 HH.out); rfl; (exact .here); rfl; rfl)
        | ((with_reducible apply wpL_move); rfl; rfl)
        | ((with_reducible apply wpL_assign); rfl; rfl)
        | ((with_reducible apply wpL_pick); rfl; rfl; rfl)
        | ((with_reducible apply wpL_not); rfl; rfl)
        | ((with_reducible apply wpL_cmp (b := true)); rfl; rfl; rfl; (first | rfl | assumption | (simp only [cmpB, decide_eq_true_eq, decide_eq_false_iff_not, beq_iff_eq, bne_iff_ne, ne_eq, beq_eq_false_iff_ne, bne_eq_false_iff_eq, gt_iff_lt, ge_iff_le]; omega) | (simp; omega)); rfl)
        | ((with_reducible apply wpL_cmp (b := false)); rfl; rfl; rfl; (first | rfl | assumption | (simp only [cmpB, decide_eq_true_eq, decide_eq_false_iff_not, beq_iff_eq, bne_iff_ne, ne_eq, beq_eq_false_iff_ne, bne_eq_false_iff_eq, gt_iff_lt, ge_iff_le]; omega) | (simp; omega)); rfl)
        | ((with_reducible apply wpL_cmp); rfl; rfl; rfl; rfl; rfl)
        | ((with_reducible apply wpL_arith); rfl; rfl; rfl; (exact IntWalk.i64_in _ (by (try simp only [arithI]); omega)); rfl)); (try simp only [arithI, Act.put, Act.eval, List.setIfInBounds_toArray, List.set_cons_succ, List.set_cons_zero, Array.getD_eq_getD_getElem?, List.getElem?_toArray, List.getElem?_cons_succ, List.getElem?_cons_zero, Option.getD_some])))
  go_ret
  exact ⟨rfl, Below.refl _ _⟩
set_option maxRecDepth 100000 in
set_option maxHeartbeats 2000000 in
theorem write_any (w : World) (g : Nat) (s : St) (rv vb : Value) (r b : List UInt8) (n : Nat) (hg : w.heap[g]? = some (objC (hcells s rv n) 118)) (hr : Byts w rv r) (hb : Byts w vb b) (hn : r.length + b.length ≤ 1000000) (hn2 : n ≤ 1000000000) :
    Calls Try.prog 34 #[.pointer (some ⟨g, 0, none⟩), vb] w (fun e w' => e = .returned (.int .i64 0) ∧ HashOut w g (absorb s (r ++ b)).1 (absorb s (r ++ b)).2 (n + b.length) w') := by
  obtain ⟨ab, cb, rfl, _⟩ := hb.shape
  have HH := hid (Holds.initS hg)
  have HG := hid hg
  have HR := hid hr
  have HB := hid hb
  clear hg hr hb
  go_enter Try.func34, Try.ntmps34
  go_wp2_with (first
    | ((first
        | ((with_reducible apply wpL_skip); rfl; skip)
        | (go_at_call 64; refine (take_any _ g s rv _ r b n HG.out HR.out HB.out hn).mono ?_; rintro e w2 ⟨rfl, hb⟩; (obtain ⟨rv2, ex, bs2, hturn, hre, hexb, hexn, hq_⟩ := HH.out.hashBy .here (fun o' => ⟨_, .here⟩) hb); (rcases hturn with _ | ⟨⟨⟩⟩); (have hq2_ : Holds w [g] ((g, objC (hcells (absorb s (r ++ b)).1 rv2 n) 118) :: ex) [] w2 := hq_); clear HH hq_ hb; have HH := hid hq2_; clear hq2_; have HE := hid hre; have HXB := hid hexb; have HXN := hid hexn; clear hre hexb hexn)
        | ((with_reducible apply wpL_nilCheck); rfl; rfl)
        | ((with_reducible apply wpL_fieldAddr (t := 118)); (first | exact F118_0 | exact F118_1 | exact F118_2 | exact F118_3); rfl; rfl)
        | ((with_reducible apply wpL_load1 (v := .int .i64 n) O3 HH.out); rfl; (exact .here); rfl; rfl)
        | ((with_reducible apply wpL_store1 (v := .int .i64 ((n + b.length : Nat) : Int)) (cs := hcells (absorb s (r ++ b)).1 rv2 n)); rfl; rfl; rfl; (exact S3); (exact HH.out); (exact .here); rfl; (exact (by simp [hcells, St.ws])); rfl; (intro w_ hq_; (have hq2_ : Holds w [g] ((g, objC (hcells (absorb s (r ++ b)).1 rv2 (n + b.length)) 118) :: ex) [] w_ := hq_); clear HH hq_; have HH := hid hq2_; clear hq2_))
        | ((with_reducible apply wpL_move); rfl; rfl)
        | ((with_reducible apply wpL_assign); rfl; rfl)
        | ((with_reducible apply wpL_pick); rfl; rfl; rfl)
        | ((with_reducible apply wpL_not); rfl; rfl)
        | ((with_reducible apply wpL_cmp (b := true)); rfl; rfl; rfl; (first | rfl | assumption | (simp only [cmpB, decide_eq_true_eq, decide_eq_false_iff_not, beq_iff_eq, bne_iff_ne, ne_eq, beq_eq_false_iff_ne, bne_eq_false_iff_eq, gt_iff_lt, ge_iff_le]; omega) | (simp; omega)); rfl)
        | ((with_reducible apply wpL_cmp (b := false)); rfl; rfl; rfl; (first | rfl | assumption | (simp only [cmpB, decide_eq_true_eq, decide_eq_false_iff_not, beq_iff_eq, bne_iff_ne, ne_eq, beq_eq_false_iff_ne, bne_eq_false_iff_eq, gt_iff_lt, ge_iff_le]; omega) | (simp; omega)); rfl)
        | ((with_reducible apply wpL_cmp); rfl; rfl; rfl; rfl; rfl)
        | ((with_reducible apply wpL_arith); rfl; rfl; rfl; (exact IntWalk.i64_in _ (by (try simp only [arithI]); omega)); rfl)); (try simp only [arithI, Act.put, Act.eval, List.setIfInBounds_toArray, List.set_cons_succ, List.set_cons_zero, Array.getD_eq_getD_getElem?, List.getElem?_toArray, List.getElem?_cons_succ, List.getElem?_cons_zero, Option.getD_some])))
  go_ret
  exact ⟨rfl, rv2, ex, HE.out, fun p hp => ⟨HXB.out p hp, HH.out.blk p (List.mem_cons_of_mem _ hp)⟩, HXN.out, HH.out.turned .here⟩
set_option maxRecDepth 100000 in
set_option maxHeartbeats 2000000 in
theorem clone_any (w : World) (g : Nat) (s : St) (rv : Value) (r : List UInt8) (n : Nat) (hg : w.heap[g]? = some (objC (hcells s rv n) 118)) (hr : Byts w rv r) (hn : r.length ≤ 1000000) :
    Calls Try.prog 40 #[.pointer (some ⟨g, 0, none⟩)] w (NewOut w s r n) := by
  obtain ⟨ar, cr, rfl, _⟩ := hr.shape
  have HH := hid (Holds.init w)
  have HG := hid hg
  have HR := hid hr
  clear hg hr
  go_enter Try.func40, Try.ntmps40
  go_wp2_with (first
    | ((first
        | ((with_reducible apply wpL_skip); rfl; skip)
        | ((with_reducible apply wpL_nilCheck); rfl; rfl)
        | ((with_reducible apply wpList_load_agg (t := 118) (x := .tmp 7) A118 (cs := hcells s (.slice ar r.length cr) n) rfl (show ∀ j u, (hcells s (.slice ar r.length cr) n)[j]? = some u → w.cell? ((⟨g, 0, none⟩ : Addr).add j) = some u from fun j u hu => by rw [show (⟨g, 0, none⟩ : Addr).add j = ⟨g, j, none⟩ by unfold Addr.add; split <;> simp_all]; simp [World.cell?, HG.out, objC, hu])); rfl; rfl)
        | ((with_reducible apply wpL_allocC Z118 HH.out); rfl; (intro g2 w_ hq_; clear HH; have HH := hid hq_; clear hq_))
        | ((with_reducible apply wpL_storeC (vs := hcells s (.slice ar r.length cr) n) (x := .tmp 3) (sz := 11)); rfl; rfl; (exact S118); (exact HH.out); (exact .here); rfl; (exact hcells_one); rfl; rfl; (intro w_ hq_; clear HH; have HH := hid hq_; clear hq_))
        | ((with_reducible apply wpL_buildB []); rfl; rfl; (exact (by omega)); (exact HH.out); rfl; (intro g_ w_ hq_; clear HH; have HH := hid hq_; clear hq_))
        | ((with_reducible apply wpL_fieldAddr (t := 118)); (first | exact F118_0 | exact F118_1 | exact F118_2 | exact F118_3); rfl; rfl)
        | ((with_reducible apply wpL_loadAt O22 (HH.out.oldCell HG.out (j := 8) (v := .slice ar r.length cr) rfl)); rfl; rfl)
        | ((with_reducible apply wpL_appendB (l := []) (l2 := r) HH.out (HH.out.sl HR.out)); rfl; rfl; (exact (by simp; omega)); rfl; rfl; rfl; (intro ao1 cap1 w_ hq_; clear HH; have HH := hid hq_; clear hq_))
        | ((with_reducible apply wpL_store1 (v := .slice ao1 r.length cap1) (cs := hcells s (.slice ar r.length cr) n)); rfl; rfl; rfl; (exact S22); (exact HH.out); (exact .here); rfl; (exact (by simp [hcells, St.ws])); rfl; (intro w_ hq_; (have hq2_ : Holds w [] [(g2, objC (hcells s (.slice ao1 r.length cap1) n) 118)] [rowB ao1 cap1 r] w_ := hq_); clear HH hq_; have HH := hid hq2_; clear hq2_))
        | ((with_reducible apply wpL_move); rfl; rfl)
        | ((with_reducible apply wpL_assign); rfl; rfl)
        | ((with_reducible apply wpL_pick); rfl; rfl; rfl)
        | ((with_reducible apply wpL_not); rfl; rfl)
        | ((with_reducible apply wpL_cmp (b := true)); rfl; rfl; rfl; (first | rfl | assumption | (simp only [cmpB, decide_eq_true_eq, decide_eq_false_iff_not, beq_iff_eq, bne_iff_ne, ne_eq, beq_eq_false_iff_ne, bne_eq_false_iff_eq, gt_iff_lt, ge_iff_le]; omega) | (simp; omega)); rfl)
        | ((with_reducible apply wpL_cmp (b := false)); rfl; rfl; rfl; (first | rfl | assumption | (simp only [cmpB, decide_eq_true_eq, decide_eq_false_iff_not, beq_iff_eq, bne_iff_ne, ne_eq, beq_eq_false_iff_ne, bne_eq_false_iff_eq, gt_iff_lt, ge_iff_le]; omega) | (simp; omega)); rfl)
        | ((with_reducible apply wpL_cmp); rfl; rfl; rfl; rfl; rfl)
        | ((with_reducible apply wpL_arith); rfl; rfl; rfl; (exact IntWalk.i64_in _ (by (try simp only [arithI]); omega)); rfl)); (try simp only [arithI, Act.put, Act.eval, List.setIfInBounds_toArray, List.set_cons_succ, List.set_cons_zero, Array.getD_eq_getD_getElem?, List.getElem?_toArray, List.getElem?_cons_succ, List.getElem?_cons_zero, Option.getD_some])))
  go_ret
  obtain ⟨ex, hre, hexb, hexn, hh⟩ := HH.out.rowEx
  have hnd := (List.nodup_append.1 hh.sep).1
  refine ⟨g2, _, ex, rfl, hre, fun p hp => ⟨(hh.frs p hp).resolve_right (by simp), hh.blk p hp⟩, hnd, hh.below⟩
end Go.Proofs.Ytgkfopodhikckaa
/- The library's Builder: what a caller's memory holds behind WriteByte. Condition: at most a million bytes. -/
namespace Go.Proofs.Ytgkfopodhikckaa
open Go.RowKit
theorem F144_0 : FieldT Try.prog 144 0 0 := ⟨_, _, 0, Try.underlying144, rfl, rfl, by kernel_rfl⟩
theorem F144_1 : FieldT Try.prog 144 1 1 := ⟨_, _, 0, Try.underlying144, rfl, rfl, by kernel_rfl⟩
theorem O142 : OneT Try.prog 142 := ⟨_, Try.underlying142, rfl⟩
theorem S142 : (Try.prog.info? 142).map (·.size) = some 1 := by kernel_rfl
theorem I144 : ∃ j, Try.prog.info? 144 = some j ∧ j.size = 2 := Option.map_eq_some_iff.1 (by kernel_rfl)
section
variable {w w0 : World} {S : List Nat} {bs bs' : List (Nat × Obj)} {rows : List Row} {ops : Array Oper} {rest : List Oper} {a : Act} {dst : Option Tmp} {ty : TypeId} {pos : String} {after : Array Edge} {guard : Option (Nat × Bool)} {Q : Exit → Act → World → Prop}
theorem shape_own (hH : Holds w0 S bs rows w) {b : Nat} {p v : Value} (ho : Own bs b (objC [p, v] 144)) : w.shape? b = some (144, 2) := by
  simp [World.shape?, hH.at ho, objC]
theorem wpL_toUnsafe (hH : Holds w0 S bs rows w) {x : Operand} {b : Nat} {p v : Value} (hx : a.eval x = .pointer (some ⟨b, 0, none⟩)) (ho : Own bs b (objC [p, v] 144))
    (hg : Region.wanted { dst := dst, op := .convert 142 152 x, type := ty, pos := pos, after := after, guard := guard } (yielded ops a.tmps) = true)
    (h : wpList Try.prog ops Q rest (a.put dst (.pointer (some ⟨b, 0, none⟩))) w) : wpList Try.prog ops Q ({ dst := dst, op := .convert 142 152 x, type := ty, pos := pos, after := after, guard := guard } :: rest) a w := by
  obtain ⟨j, hj, hjs⟩ := I144
  refine wpList_ex hg ?_ h
  have hr := Lib.run_to_unsafe (P := Try.prog) w ⟨b, 0, none⟩ Try.underlying142 Try.underlying152 hj (by rw [hjs]; decide) (shape_own hH ho) (Nat.zero_lt_succ 1)
  simp only [execOp, hx, Sem.run_bind, hr, Result.andThen_ok, Sem.run_pure]
theorem wpL_fromUnsafe (hH : Holds w0 S bs rows w) {x : Operand} {b : Nat} {p v : Value} (hx : a.eval x = .pointer (some ⟨b, 0, none⟩)) (ho : Own bs b (objC [p, v] 144))
    (hg : Region.wanted { dst := dst, op := .convert 152 142 x, type := ty, pos := pos, after := after, guard := guard } (yielded ops a.tmps) = true)
    (h : wpList Try.prog ops Q rest (a.put dst (.pointer (some ⟨b, 0, none⟩))) w) : wpList Try.prog ops Q ({ dst := dst, op := .convert 152 142 x, type := ty, pos := pos, after := after, guard := guard } :: rest) a w := by
  obtain ⟨j, hj, hjs⟩ := I144
  refine wpList_ex hg ?_ h
  have hr := Lib.run_from_unsafe (P := Try.prog) w ⟨b, 0, none⟩ Try.underlying152 Try.underlying142 hj (shape_own hH ho) (by kernel_rfl)
  simp only [execOp, hx, Sem.run_bind, hr, Result.andThen_ok, Sem.run_pure]
theorem wpL_noEscape {x : Operand} {ats : Array TypeId} {v : Value} (hx : a.eval x = v)
    (hg : Region.wanted { dst := dst, op := .call { callee := .value (.func 95), args := #[x], argTypes := ats }, type := ty, pos := pos, after := after, guard := guard } (yielded ops a.tmps) = true)
    (h : wpList Try.prog ops Q rest (a.put dst v) w) : wpList Try.prog ops Q ({ dst := dst, op := .call { callee := .value (.func 95), args := #[x], argTypes := ats }, type := ty, pos := pos, after := after, guard := guard } :: rest) a w := by
  refine wpList_ex hg ?_ h
  rw [execOp_call_go]
  simp only [List.map_toArray, List.map_cons, List.map_nil, hx]
  rw [run_callFunc_extern Try.func95 (by kernel_rfl) (by kernel_rfl) (by kernel_rfl) (e := Extern.AbiNoEscape.same) (by kernel_rfl)]
  rfl
theorem wpL_neqSelf {x y : Operand} {yt : TypeId} {ad : Addr} (hx : a.eval x = .pointer (some ad)) (hy : a.eval y = .pointer (some ad))
    (hg : Region.wanted { dst := dst, op := .binOp .neq 142 x y yt, type := ty, pos := pos, after := after, guard := guard } (yielded ops a.tmps) = true)
    (h : wpList Try.prog ops Q rest (a.put dst (.bool false)) w) : wpList Try.prog ops Q ({ dst := dst, op := .binOp .neq 142 x y yt, type := ty, pos := pos, after := after, guard := guard } :: rest) a w := by
  obtain ⟨j, hj, _⟩ := I144
  refine wpList_ex hg ?_ h
  have he : ∀ w, (eqGuard .neq 142 x y (.pointer (some ad)) (.pointer (some ad))).run Try.prog w = .ok () w := fun w => by
    simp [eqGuard, run_underlying Try.underlying142]
  have hr := Lib.run_neq_ptr_same (P := Try.prog) w ad Try.underlying142 hj
  simp only [execOp, hx, hy, Sem.run_bind, he, hr, Result.andThen_ok, Sem.run_pure]
end
@[reducible] def selfP (b : Nat) : Value := .pointer (some ⟨b, 0, none⟩)
set_option maxRecDepth 100000 in
set_option maxHeartbeats 2000000 in
theorem copyCheck_own (w0 w : World) (S : List Nat) (b : Nat) (p v : Value) (bs : List (Nat × Obj)) (rows : List Row) (hp : p = .pointer none ∨ p = selfP b) (h : Holds w0 S ((b, objC [p, v] 144) :: bs) rows w) :
    Calls Try.prog 92 #[selfP b] w (fun e w' => e = .returned (.tuple #[]) ∧ Holds w0 S ((b, objC [selfP b, v] 144) :: bs) rows w') := by
  have HH := hid h
  clear h
  rcases hp with rfl | rfl
  · unfold selfP
    go_enter Try.func92, Try.ntmps92
    go_wp2_with (first
      | ((first
          | ((with_reducible apply wpL_skip); rfl; skip)
          | ((with_reducible apply wpL_toUnsafe HH.out); rfl; (exact .here); rfl)
          | ((with_reducible apply wpL_fromUnsafe HH.out); rfl; (exact .here); rfl)
          | ((with_reducible apply wpL_noEscape); rfl; rfl)
          | ((with_reducible apply wpL_nilCheck); rfl; rfl)
          | ((with_reducible apply wpL_fieldAddr); (first | exact kF144_0); rfl; rfl)
          | ((with_reducible apply wpL_load1 (t := 142) kO142 HH.out); rfl; (first | exact .here | exact .there .here | exact .there (.there .here) | exact .there (.there (.there .here)) | exact .there (.there (.there (.there .here))) | exact .there (.there (.there (.there (.there .here)))) | exact .there (.there (.there (.there (.there (.there .here))))) | exact .there (.there (.there (.there (.there (.there (.there .here))))))); rfl; rfl)
          | ((with_reducible apply wpL_store1 (t := 142)); rfl; rfl; rfl; (exact kS142); (exact HH.out); (first | exact .here | exact .there .here | exact .there (.there .here) | exact .there (.there (.there .here)) | exact .there (.there (.there (.there .here))) | exact .there (.there (.there (.there (.there .here)))) | exact .there (.there (.there (.there (.there (.there .here))))) | exact .there (.there (.there (.there (.there (.there (.there .here))))))); rfl; (first | exact Nat.le_of_ble_eq_true rfl | (simp; done) | omega); rfl; (intro w_ hq_; (try simp only [List.set_cons_zero, List.set_cons_succ] at hq_); clear HH; have HH := hid hq_; clear hq_))
          | ((with_reducible apply wpL_move); rfl; rfl)
          | ((with_reducible apply wpL_assign); rfl; rfl)
          | ((with_reducible apply wpL_pick); rfl; rfl; rfl)
          | ((with_reducible apply wpL_not); rfl; rfl)
          | ((with_reducible apply wpL_cmp (b := true)); rfl; rfl; rfl; (first | rfl | assumption | (simp only [cmpB, decide_eq_true_eq, decide_eq_false_iff_not, beq_iff_eq, bne_iff_ne, ne_eq, beq_eq_false_iff_ne, bne_eq_false_iff_eq, gt_iff_lt, ge_iff_le]; omega) | (simp; omega)); rfl)
          | ((with_reducible apply wpL_cmp (b := false)); rfl; rfl; rfl; (first | rfl | assumption | (simp only [cmpB, decide_eq_true_eq, decide_eq_false_iff_not, beq_iff_eq, bne_iff_ne, ne_eq, beq_eq_false_iff_ne, bne_eq_false_iff_eq, gt_iff_lt, ge_iff_le]; omega) | (simp; omega)); rfl)
          | ((with_reducible apply wpL_cmp); rfl; rfl; rfl; rfl; rfl)
          | ((with_reducible apply wpL_arith); rfl; rfl; rfl; (exact IntWalk.i64_in _ (by (try simp only [arithI]); omega)); rfl)); (try simp only [arithI, Act.put, Act.eval, List.setIfInBounds_toArray, List.set_cons_succ, List.set_cons_zero, Array.getD_eq_getD_getElem?, List.getElem?_toArray, List.getElem?_cons_succ, List.getElem?_cons_zero, Option.getD_some])))
    refine bodyPost_end (results_none rfl _ _ _) rfl ⟨rfl, HH.out⟩
  · unfold selfP
    go_enter Try.func92, Try.ntmps92
    go_wp2_with (first
      | ((first
          | ((with_reducible apply wpL_skip); rfl; skip)
          | ((with_reducible apply wpL_neqSelf); rfl; rfl; rfl)
          | ((with_reducible apply wpL_nilCheck); rfl; rfl)
          | ((with_reducible apply wpL_fieldAddr); (first | exact kF144_0); rfl; rfl)
          | ((with_reducible apply wpL_load1 (t := 142) kO142 HH.out); rfl; (first | exact .here | exact .there .here | exact .there (.there .here) | exact .there (.there (.there .here)) | exact .there (.there (.there (.there .here))) | exact .there (.there (.there (.there (.there .here)))) | exact .there (.there (.there (.there (.there (.there .here))))) | exact .there (.there (.there (.there (.there (.there (.there .here))))))); rfl; rfl)
          | ((with_reducible apply wpL_store1 (t := 142)); rfl; rfl; rfl; (exact kS142); (exact HH.out); (first | exact .here | exact .there .here | exact .there (.there .here) | exact .there (.there (.there .here)) | exact .there (.there (.there (.there .here))) | exact .there (.there (.there (.there (.there .here)))) | exact .there (.there (.there (.there (.there (.there .here))))) | exact .there (.there (.there (.there (.there (.there (.there .here))))))); rfl; (first | exact Nat.le_of_ble_eq_true rfl | (simp; done) | omega); rfl; (intro w_ hq_; (try simp only [List.set_cons_zero, List.set_cons_succ] at hq_); clear HH; have HH := hid hq_; clear hq_))
          | ((with_reducible apply wpL_move); rfl; rfl)
          | ((with_reducible apply wpL_assign); rfl; rfl)
          | ((with_reducible apply wpL_pick); rfl; rfl; rfl)
          | ((with_reducible apply wpL_not); rfl; rfl)
          | ((with_reducible apply wpL_cmp (b := true)); rfl; rfl; rfl; (first | rfl | assumption | (simp only [cmpB, decide_eq_true_eq, decide_eq_false_iff_not, beq_iff_eq, bne_iff_ne, ne_eq, beq_eq_false_iff_ne, bne_eq_false_iff_eq, gt_iff_lt, ge_iff_le]; omega) | (simp; omega)); rfl)
          | ((with_reducible apply wpL_cmp (b := false)); rfl; rfl; rfl; (first | rfl | assumption | (simp only [cmpB, decide_eq_true_eq, decide_eq_false_iff_not, beq_iff_eq, bne_iff_ne, ne_eq, beq_eq_false_iff_ne, bne_eq_false_iff_eq, gt_iff_lt, ge_iff_le]; omega) | (simp; omega)); rfl)
          | ((with_reducible apply wpL_cmp); rfl; rfl; rfl; rfl; rfl)
          | ((with_reducible apply wpL_arith); rfl; rfl; rfl; (exact IntWalk.i64_in _ (by (try simp only [arithI]); omega)); rfl)); (try simp only [arithI, Act.put, Act.eval, List.setIfInBounds_toArray, List.set_cons_succ, List.set_cons_zero, Array.getD_eq_getD_getElem?, List.getElem?_toArray, List.getElem?_cons_succ, List.getElem?_cons_zero, Option.getD_some])))
    refine bodyPost_end (results_none rfl _ _ _) rfl ⟨rfl, HH.out⟩
set_option maxRecDepth 100000 in
set_option maxHeartbeats 2000000 in
theorem writeByte_own (w0 w : World) (S : List Nat) (b : Nat) (p : Value) (ao : Option Addr) (cap n : Nat) (l : List UInt8) (c : UInt8) (bs : List (Nat × Obj)) (rows : List Row) (hp : p = .pointer none ∨ p = selfP b) (hn : n = l.length) (hl : l.length ≤ 1000000)
    (h : Holds w0 S ((b, objC [p, .slice ao n cap] 144) :: bs) (rowB ao cap l :: rows) w) :
    Calls Try.prog 83 #[selfP b, byt c] w (fun e w' => e = .returned .nilIface ∧ ∃ ao2 cap2, Holds w0 S ((b, objC [selfP b, .slice ao2 (l ++ [c]).length cap2] 144) :: bs) (rowB ao2 cap2 (l ++ [c]) :: rows) w') := by
  subst hn
  have HH := hid h
  clear h
  unfold selfP
  go_enter Try.func83, Try.ntmps83
  go_wp2_with (first
    | ((first
        | ((with_reducible apply wpL_skip); rfl; skip)
        | (go_at_call 92; (first | ((have hcall_ := hid (copyCheck_own _ _ _ _ _ _ _ _ hp HH.out)); (with_reducible refine hcall_.out.mono ?_); clear hcall_) | (with_reducible refine (copyCheck_own _ _ _ _ _ _ _ _ hp HH.out).mono ?_)); rintro e_ w2_ ⟨rfl, hb_⟩; (have hq_ := hb_); clear HH; have HH := hid hq_; clear hq_)
        | ((with_reducible apply wpL_buildB [c] (dst := some 13)); rfl; rfl; (exact (by omega)); (exact HH.out); rfl; (intro g_ w_ hq_; clear HH; have HH := hid hq_; clear hq_))
        | ((with_reducible apply wpL_appendB (dst := some 14) (l := l) (l2 := [c]) HH.out.swap HH.out.sl0); rfl; rfl; (exact (by simp; omega)); rfl; rfl; rfl; (intro ao1 cap1 w_ hq_; clear HH; have HH := hid hq_.dropSnd; clear hq_))
        | ((with_reducible apply wpL_nilCheck); rfl; rfl)
        | ((with_reducible apply wpL_fieldAddr); (first | exact kF144_1); rfl; rfl)
        | ((with_reducible apply wpL_load1 (t := 22) kO22 HH.out); rfl; (first | exact .here | exact .there .here | exact .there (.there .here) | exact .there (.there (.there .here)) | exact .there (.there (.there (.there .here))) | exact .there (.there (.there (.there (.there .here)))) | exact .there (.there (.there (.there (.there (.there .here))))) | exact .there (.there (.there (.there (.there (.there (.there .here))))))); rfl; rfl)
        | ((with_reducible apply wpL_store1 (t := 22)); rfl; rfl; rfl; (exact kS22); (exact HH.out); (first | exact .here | exact .there .here | exact .there (.there .here) | exact .there (.there (.there .here)) | exact .there (.there (.there (.there .here))) | exact .there (.there (.there (.there (.there .here)))) | exact .there (.there (.there (.there (.there (.there .here))))) | exact .there (.there (.there (.there (.there (.there (.there .here))))))); rfl; (first | exact Nat.le_of_ble_eq_true rfl | (simp; done) | omega); rfl; (intro w_ hq_; (try simp only [List.set_cons_zero, List.set_cons_succ] at hq_); clear HH; have HH := hid hq_; clear hq_))
        | ((with_reducible apply wpL_move); rfl; rfl)
        | ((with_reducible apply wpL_assign); rfl; rfl)
        | ((with_reducible apply wpL_pick); rfl; rfl; rfl)
        | ((with_reducible apply wpL_not); rfl; rfl)
        | ((with_reducible apply wpL_cmp (b := true)); rfl; rfl; rfl; (first | rfl | assumption | (simp only [cmpB, decide_eq_true_eq, decide_eq_false_iff_not, beq_iff_eq, bne_iff_ne, ne_eq, beq_eq_false_iff_ne, bne_eq_false_iff_eq, gt_iff_lt, ge_iff_le]; omega) | (simp; omega)); rfl)
        | ((with_reducible apply wpL_cmp (b := false)); rfl; rfl; rfl; (first | rfl | assumption | (simp only [cmpB, decide_eq_true_eq, decide_eq_false_iff_not, beq_iff_eq, bne_iff_ne, ne_eq, beq_eq_false_iff_ne, bne_eq_false_iff_eq, gt_iff_lt, ge_iff_le]; omega) | (simp; omega)); rfl)
        | ((with_reducible apply wpL_cmp); rfl; rfl; rfl; rfl; rfl)
        | ((with_reducible apply wpL_arith); rfl; rfl; rfl; (exact IntWalk.i64_in _ (by (try simp only [arithI]); omega)); rfl)); (try simp only [arithI, Act.put, Act.eval, List.setIfInBounds_toArray, List.set_cons_succ, List.set_cons_zero, Array.getD_eq_getD_getElem?, List.getElem?_toArray, List.getElem?_cons_succ, List.getElem?_cons_zero, Option.getD_some])))
  go_ret
  exact ⟨rfl, _, _, HH.out⟩
/-- The characters of a string. -/
@[reducible] def str (l : List UInt8) : Value := .string ⟨l.toArray⟩
end Go.Proofs.Ytgkfopodhikckaa
/- The library's Builder handed back as a string; Hex of ascii, String of a digest. Condition: some bytes, at most half a million. -/
namespace Go.Proofs.Ytgkfopodhikckaa
open Go.RowKit
section
variable {w w0 : World} {S : List Nat} {bs bs' : List (Nat × Obj)} {rows : List Row} {ops : Array Oper} {rest : List Oper} {a : Act} {dst : Option Tmp} {ty : TypeId} {pos : String} {after : Array Edge} {guard : Option (Nat × Bool)} {Q : Exit → Act → World → Prop} {P : Program} {C : World → Prop} {K : Act → Prop}
theorem wpQ_sliceData {t : TypeId} {x : Operand} {ad : Addr} {n c : Nat} (hx : a.eval x = .slice (some ad) n c) (hc : c ≠ 0)
    (hg : Region.wanted { dst := dst, op := .call { callee := .builtin .unsafeSliceData, args := #[x], argTypes := #[t] }, type := ty, pos := pos, after := after, guard := guard } (yielded ops a.tmps) = true)
    (h : wpQuiet P ops C K rest (a.put dst (.pointer (some ad)))) : wpQuiet P ops C K ({ dst := dst, op := .call { callee := .builtin .unsafeSliceData, args := #[x], argTypes := #[t] }, type := ty, pos := pos, after := after, guard := guard } :: rest) a := by
  refine wpQuiet_ex hg (fun w _ => ?_) h
  rw [BigFrame.execOp_builtin, BigFrame.builtin_unsafeSliceData]
  simp only [List.map_toArray, List.map_cons, List.map_nil, hx, Sem.run_bind, Lib.run_unsafeSliceData_row w #[t] ty ad n c hc, Result.andThen_ok, Sem.run_pure]
theorem grownBy_freeze (w : World) (g n : Nat) : w.grownBy (w.freeze ⟨g, 0, none⟩ n) (some g) := by
  unfold World.freeze
  split
  · exact ⟨rfl, rfl, rfl, Nat.le_refl _, fun _ _ _ => rfl⟩
  · refine ⟨rfl, rfl, rfl, by simp, fun k _ hk => ?_⟩
    simp only [Array.getElem?_modify]
    rw [if_neg (by intro e; exact hk (by rw [← e]))]
theorem Holds.lostRow {r : Row} (h : Holds w0 S bs (r :: rows) w) {w' : World} (hg : w.grownBy w' r.v.ownBlock) : Holds w0 S bs rows w' :=
  (Holds.grownRow (v' := .slice none 0 0) (n' := 0) (xs' := []) h hg (.inr fun k hk => by simp [Value.ownBlock] at hk) (World.ownsRow_nil _ _ _ _)).dropRow
theorem wpL_unsafeString {x n : Operand} {ao : Addr} {cap : Nat} {l : List UInt8} {q : Int} (hH : Holds w0 S bs (rowB (some ao) cap l :: rows) w) (hx : a.eval x = .pointer (some ao)) (hn : a.eval n = .int .i64 q) (hq : q = (l.length : Int)) (h0 : l ≠ []) (hl : l.length ≤ 1000000000)
    (hg : Region.wanted { dst := dst, op := .call { callee := .builtin .unsafeString, args := #[x, n], argTypes := #[151, 3] }, type := ty, pos := pos, after := after, guard := guard } (yielded ops a.tmps) = true)
    (h : ∀ w', Holds w0 S bs rows w' → wpList Try.prog ops Q rest (a.put dst (str l)) w') : wpList Try.prog ops Q ({ dst := dst, op := .call { callee := .builtin .unsafeString, args := #[x, n], argTypes := #[151, 3] }, type := ty, pos := pos, after := after, guard := guard } :: rest) a w := by
  subst hq
  have hown := hH.own0
  have hlen : 0 < l.length := List.length_pos_iff.2 h0
  rcases hown.2 with ⟨hv, hn0⟩ | ⟨g, cap', cur, hv, hb, hgc, hnc, hm, hs, htake⟩
  · omega
  · simp only [Value.slice.injEq, Option.some.injEq, true_and] at hv
    obtain ⟨rfl, rfl⟩ := hv
    have hcell : ∀ j x, l[j]? = some x → w.cell? ((⟨g, 0, none⟩ : Addr).add j) = some (.int .u8 (x.toNat : Int)) := fun j x hj =>
      hown.cells (g := g) rfl j (byt x) (by simp [hj])
    have hsh : w.shape? g = some (5, cur.size) := by simp [World.shape?, hgc]
    have hr := Lib.run_unsafeString_row (P := Try.prog) w 151 3 ty 5 Try.underlying151 (by kernel_rfl) g cur.size hsh l h0 (by omega) (by omega) hcell
    refine wpList_ex hg (v := str l) (w' := w.freeze ⟨g, 0, none⟩ l.length) ?_ (h _ (hH.lostRow (grownBy_freeze w g _)))
    rw [BigFrame.execOp_builtin, BigFrame.builtin_unsafeString]
    simp only [List.map_toArray, List.map_cons, List.map_nil, hx, hn, Sem.run_bind, hr, Result.andThen_ok, Sem.run_pure]
end
set_option maxRecDepth 100000 in
set_option maxHeartbeats 2000000 in
theorem string_own (w0 w : World) (S : List Nat) (b : Nat) (p : Value) (ao : Option Addr) (cap n : Nat) (l : List UInt8) (bs : List (Nat × Obj)) (rows : List Row) (hn : n = l.length) (h0 : l ≠ []) (hl : l.length ≤ 1000000)
    (h : Holds w0 S ((b, objC [p, .slice ao n cap] 144) :: bs) (rowB ao cap l :: rows) w) :
    Calls Try.prog 84 #[selfP b] w (fun e w' => e = .returned (str l) ∧ Holds w0 S bs rows w') := by
  subst hn
  have hp : 0 < l.length := List.length_pos_iff.2 h0
  obtain ⟨ad, hao, hcap⟩ : ∃ ad, ao = some ad ∧ cap ≠ 0 := by
    rcases h.own0.2 with ⟨hv, hn0⟩ | ⟨g, cap', cur, hv, _, _, hnc, _⟩
    · omega
    · simp only [Value.slice.injEq, true_and] at hv
      exact ⟨_, hv.1, by omega⟩
  subst hao
  have HH := hid h
  clear h
  unfold selfP
  go_enter Try.func84, Try.ntmps84
  go_wp2
  refine wp_region_tailQ 10 (by kernel_rfl) (by kernel_rfl) (by kernel_rfl) HH.out ?_
  simp only [List.take_succ_cons, List.take_zero, List.drop_succ_cons, List.drop_zero]
  repeat ((first
    | ((with_reducible apply wpQ_skip); rfl; skip)
    | ((with_reducible apply wpQ_sliceData); rfl; (exact hcap); rfl)
    | ((with_reducible apply wpQ_nilCheck); rfl; rfl)
    | ((with_reducible apply wpQ_fieldAddr); (first | exact kF144_1); rfl; rfl)
    | ((with_reducible apply wpQ_load1 (t := 22) kO22); rfl; (first | exact .here | exact .there .here | exact .there (.there .here) | exact .there (.there (.there .here)) | exact .there (.there (.there (.there .here))) | exact .there (.there (.there (.there (.there .here)))) | exact .there (.there (.there (.there (.there (.there .here))))) | exact .there (.there (.there (.there (.there (.there (.there .here))))))); rfl; rfl)
    | ((with_reducible apply wpQ_len (t := 22) Try.underlying22); rfl; rfl)
    | ((with_reducible apply wpQ_move); rfl; rfl)
    | ((with_reducible apply wpQ_assign); rfl; rfl)
    | ((with_reducible apply wpQ_pick); rfl; rfl; rfl)
    | ((with_reducible apply wpQ_not); rfl; rfl)
    | ((with_reducible apply wpQ_cmp (b := true)); rfl; rfl; rfl; (first | rfl | assumption | (simp only [cmpB, decide_eq_true_eq, decide_eq_false_iff_not, beq_iff_eq, bne_iff_ne, ne_eq, beq_eq_false_iff_ne, bne_eq_false_iff_eq, gt_iff_lt, ge_iff_le]; omega) | (simp; omega)); rfl)
    | ((with_reducible apply wpQ_cmp (b := false)); rfl; rfl; rfl; (first | rfl | assumption | (simp only [cmpB, decide_eq_true_eq, decide_eq_false_iff_not, beq_iff_eq, bne_iff_ne, ne_eq, beq_eq_false_iff_ne, bne_eq_false_iff_eq, gt_iff_lt, ge_iff_le]; omega) | (simp; omega)); rfl)
    | ((with_reducible apply wpQ_cmp); rfl; rfl; rfl; rfl; rfl)
    | ((with_reducible apply wpQ_arith); rfl; rfl; rfl; (exact IntWalk.i64_in _ (by (try simp only [arithI]); omega)); rfl)); (try simp only [if_true, if_false, Bool.false_eq_true, arithI, Act.put, Act.eval, List.setIfInBounds_toArray, List.set_cons_succ, List.set_cons_zero, Array.getD_eq_getD_getElem?, List.getElem?_toArray, List.getElem?_cons_succ, List.getElem?_cons_zero, Option.getD_some]))
  refine wpQuiet_nil ?_
  intro wq hq_
  have HQ := hid hq_
  clear hq_
  clear HH
  have HH := HQ
  clear HQ
  go_wp2_with (first
    | ((first
        | ((with_reducible apply wpL_skip); rfl; skip)
        | ((with_reducible apply wpL_unsafeString HH.out); rfl; rfl; rfl; (exact h0); (exact (by omega)); rfl; (intro w_ hq_; clear HH; have HH := hid hq_; clear hq_))
        | ((with_reducible apply wpL_nilCheck); rfl; rfl)
        | ((with_reducible apply wpL_fieldAddr); (first | exact kF144_1); rfl; rfl)
        | ((with_reducible apply wpL_load1 (t := 22) kO22 HH.out); rfl; (first | exact .here | exact .there .here | exact .there (.there .here) | exact .there (.there (.there .here)) | exact .there (.there (.there (.there .here))) | exact .there (.there (.there (.there (.there .here)))) | exact .there (.there (.there (.there (.there (.there .here))))) | exact .there (.there (.there (.there (.there (.there (.there .here))))))); rfl; rfl)
        | ((with_reducible apply wpL_len (t := 22) Try.underlying22); rfl; rfl)
        | ((with_reducible apply wpL_move); rfl; rfl)
        | ((with_reducible apply wpL_assign); rfl; rfl)
        | ((with_reducible apply wpL_pick); rfl; rfl; rfl)
        | ((with_reducible apply wpL_not); rfl; rfl)
        | ((with_reducible apply wpL_cmp (b := true)); rfl; rfl; rfl; (first | rfl | assumption | (simp only [cmpB, decide_eq_true_eq, decide_eq_false_iff_not, beq_iff_eq, bne_iff_ne, ne_eq, beq_eq_false_iff_ne, bne_eq_false_iff_eq, gt_iff_lt, ge_iff_le]; omega) | (simp; omega)); rfl)
        | ((with_reducible apply wpL_cmp (b := false)); rfl; rfl; rfl; (first | rfl | assumption | (simp only [cmpB, decide_eq_true_eq, decide_eq_false_iff_not, beq_iff_eq, bne_iff_ne, ne_eq, beq_eq_false_iff_ne, bne_eq_false_iff_eq, gt_iff_lt, ge_iff_le]; omega) | (simp; omega)); rfl)
        | ((with_reducible apply wpL_cmp); rfl; rfl; rfl; rfl; rfl)
        | ((with_reducible apply wpL_arith); rfl; rfl; rfl; (exact IntWalk.i64_in _ (by (try simp only [arithI]); omega)); rfl)); (try simp only [arithI, Act.put, Act.eval, List.setIfInBounds_toArray, List.set_cons_succ, List.set_cons_zero, Array.getD_eq_getD_getElem?, List.getElem?_toArray, List.getElem?_cons_succ, List.getElem?_cons_zero, Option.getD_some])))
  go_ret
  exact ⟨rfl, HH.out.dropBlk⟩
end Go.Proofs.Ytgkfopodhikckaa
/- Strings and bytes: indexed, held against each other, made of bytes. Over any program. No condition. -/
namespace Go.Proofs.Ytgkfopodhikckaa
open Go.RowKit
theorem toList_mkS (l : List UInt8) : (ByteArray.mk l.toArray).toList = l := by simp
section
variable {P : Program} {w : World} {ρ : Operand → Value} {dst : Option Tmp} {ty : TypeId} {pos : String} {after : Array Edge} {guard : Option (Nat × Bool)}
theorem ex_indexStr {t : TypeId} {v : UInt8} (ht : P.underlying t = some .string) {x i : Operand} {l : List UInt8} {k : IntKind} {q : Int} {m : Nat} (hx : ρ x = str l) (hi : ρ i = .int k q) (hq : q = (m : Int)) (hm : m < l.length) (hv : l.getD m 0 = v) (w : World) :
    (execOp ρ { dst := dst, op := .index t x i, type := ty, pos := pos, after := after, guard := guard }).run P w = .ok (.value (byt v)) w := by
  subst hq hv
  have h0 : (if (0 : Int) ≤ (m : Int) then (⟨l.toArray⟩ : ByteArray)[(m : Int).toNat]? else none) = some (l.getD m 0) := by
    rw [if_pos (by omega), Int.toNat_natCast]
    have : (⟨l.toArray⟩ : ByteArray)[m]? = l[m]? := by
      rw [getElem?_def]
      by_cases h : m < l.length
      · have h' : m < (⟨l.toArray⟩ : ByteArray).size := h
        rw [dif_pos h']
        show some (l.toArray[m]) = _
        simp [h]
      · exact absurd hm h
    rw [this]
    simp [hm]
  simp only [execOp, hx, hi, Instr.index, asIntOf, Sem.run_bind, Sem.run_pure, Result.andThen_ok, run_underlying ht, h0]
  rfl
theorem ex_eqlStr {t yt : TypeId} (ht : P.underlying t = some .string) {x y : Operand} {l m : List UInt8} (hx : ρ x = str l) (hy : ρ y = str m) (w : World) :
    (execOp ρ { dst := dst, op := .binOp .eql t x y yt, type := ty, pos := pos, after := after, guard := guard }).run P w = .ok (.value (.bool (l == m))) w := by
  have he : (eqGuard .eql t x y (str l) (str m)).run P w = .ok () w := by simp [eqGuard, run_underlying ht]
  have hr : (binOp .eql t (str l) (str m)).run P w = .ok (.bool (l == m)) w := by
    show (Op.stringOp .eql ⟨l.toArray⟩ ⟨m.toArray⟩).run P w = _
    simp only [Op.stringOp, toList_mkS, Sem.run_pure]
  simp only [execOp, hx, hy, Sem.run_bind, he, hr, Result.andThen_ok, Sem.run_pure]
theorem ex_neqStr {t yt : TypeId} (ht : P.underlying t = some .string) {x y : Operand} {l m : List UInt8} (hx : ρ x = str l) (hy : ρ y = str m) (w : World) :
    (execOp ρ { dst := dst, op := .binOp .neq t x y yt, type := ty, pos := pos, after := after, guard := guard }).run P w = .ok (.value (.bool (!(l == m)))) w := by
  have he : (eqGuard .neq t x y (str l) (str m)).run P w = .ok () w := by simp [eqGuard, run_underlying ht]
  have hr : (binOp .neq t (str l) (str m)).run P w = .ok (.bool (!(l == m))) w := by
    show (Op.stringOp .neq ⟨l.toArray⟩ ⟨m.toArray⟩).run P w = _
    simp only [Op.stringOp, toList_mkS, Sem.run_pure]
  simp only [execOp, hx, hy, Sem.run_bind, he, hr, Result.andThen_ok, Sem.run_pure]
theorem ex_toStr {s d e : TypeId} (hs : P.underlying s = some (.slice e)) (he : P.underlying e = some (.int .u8)) (hd : P.underlying d = some .string) {x : Operand} {v : Value} {l : List UInt8} (hl : Byts w v l) (hx : ρ x = v) :
    (execOp ρ { dst := dst, op := .convert s d x, type := ty, pos := pos, after := after, guard := guard }).run P w = .ok (.value (str l)) w := by
  obtain ⟨ao, cap, rfl, hc, _, hcell⟩ := hl
  have hr : (convert s d (.slice ao l.length cap)).run P w = .ok (str l) w := by
    cases ao with
    | none =>
      have : l = [] := by
        cases l with
        | nil => rfl
        | cons y l => obtain ⟨a, ha, _⟩ := hcell 0 (byt y) rfl; cases ha
      subst this
      rw [run_convert_bytes_string w s d e _ _ _ hs he hd]
      rfl
    | some a =>
      refine run_convert_bytes_back w s d e a cap l hs he hd fun j hj => ?_
      obtain ⟨a', ha, h⟩ := hcell j (byt l[j]) (by simp [hj])
      cases ha
      exact h
  simp only [execOp, hx, Sem.run_bind, hr, Result.andThen_ok, Sem.run_pure]
theorem ex_lenStr {t : TypeId} (ht : P.underlying t = some .string) {x : Operand} {l : List UInt8} (hx : ρ x = str l) (w : World) :
    (execOp ρ { dst := dst, op := .call { callee := .builtin .len, args := #[x], argTypes := #[t] }, type := ty, pos := pos, after := after, guard := guard }).run P w = .ok (.value (.int .i64 l.length)) w := by
  rw [BigFrame.execOp_builtin, BigFrame.builtin_len]
  have hr : (Builtin.len_ #[t] ty #[str l]).run P w = .ok (.int .i64 l.length) w := by
    simp only [Builtin.len_, List.getElem?_toArray, List.getElem?_cons_zero, Sem.run_bind, run_underlying ht, Result.andThen_ok, Sem.run_pure]
    rfl
  simp only [List.map_toArray, List.map_cons, List.map_nil, hx, Sem.run_bind, hr, Result.andThen_ok, Sem.run_pure]
end
theorem bits_and (k : IntKind) (x y : Nat) (hx : x < 2 ^ k.bits) (hy : y < 2 ^ k.bits) : (BitVec.ofInt k.bits (x : Int) &&& BitVec.ofInt k.bits (y : Int)).toNat = x &&& y := by
  rw [BitVec.toNat_and, BitVec.ofInt_natCast, BitVec.ofInt_natCast, BitVec.toNat_ofNat, BitVec.toNat_ofNat, Nat.mod_eq_of_lt hx, Nat.mod_eq_of_lt hy]
section
variable {P : Program} {w : World} {ρ : Operand → Value} {dst : Option Tmp} {ty : TypeId} {pos : String} {after : Array Edge} {guard : Option (Nat × Bool)}
theorem ex_shrB {t yt : TypeId} {x y : Operand} {b : UInt8} {kk : IntKind} {q : Int} {n : Nat} {r : Nat} (hx : ρ x = byt b) (hy : ρ y = .int kk q) (hq : q = (n : Int)) (hn : n < 8) (hr : b.toNat / 2 ^ n = r) (w : World) :
    (execOp ρ { dst := dst, op := .binOp .shr t x y yt, type := ty, pos := pos, after := after, guard := guard }).run P w = .ok (.value (.int .u8 (r : Int))) w := by
  subst hq hr
  have he : ∀ u v, eqGuard .shr t x y u v = pure () := fun _ _ => rfl
  have hr : (binOp .shr t (byt b) (.int kk (n : Int))).run P w = .ok (.int .u8 ((b.toNat / 2 ^ n : Nat) : Int)) w := by
    show (Op.shift .shr .u8 (b.toNat : Int) kk (n : Int)).run P w = _
    have h0 : ¬ (n : Int) < 0 := by omega
    have h1 : min (n : Int).toNat IntKind.u8.bits = n := by
      have : IntKind.u8.bits = 8 := rfl
      omega
    simp only [Op.shift, h0, if_false, h1, Sem.run_pure]
    congr 2
    rw [Int.fdiv_eq_ediv_of_nonneg _ (by exact_mod_cast Nat.zero_le _)]
    norm_cast
  simp only [execOp, hx, hy, Sem.run_bind, he, Sem.run_pure, Result.andThen_ok, hr]
theorem ex_and {t yt : TypeId} {x y : Operand} {k : IntKind} {p q : Int} {m n : Nat} {r : Nat} (hx : ρ x = .int k p) (hy : ρ y = .int k q) (hp : p = (m : Int)) (hq : q = (n : Int)) (hm : m < 2 ^ k.bits) (hn : n < 2 ^ k.bits) (hr : m &&& n = r) (hw : k.wrap (r : Int) = (r : Int)) (w : World) :
    (execOp ρ { dst := dst, op := .binOp .and t x y yt, type := ty, pos := pos, after := after, guard := guard }).run P w = .ok (.value (.int k (r : Int))) w := by
  subst hp hq hr
  have he : ∀ u v, eqGuard .and t x y u v = pure () := fun _ _ => rfl
  have hr : (binOp .and t (.int k (m : Int)) (.int k (n : Int))).run P w = .ok (.int k ((m &&& n : Nat) : Int)) w := by
    have e : binOp .and t (.int k (m : Int)) (.int k (n : Int)) = Op.intBits .and k (m : Int) (n : Int) := by cases k <;> rfl
    rw [e]
    simp only [Op.intBits, Sem.run_pure]
    rw [bits_and k m n hm hn, hw]
  simp only [execOp, hx, hy, Sem.run_bind, he, Sem.run_pure, Result.andThen_ok, hr]
end
section
variable {P : Program} {ops : Array Oper} {rest : List Oper} {a : Act} {dst : Option Tmp} {ty : TypeId} {pos : String} {after : Array Edge} {guard : Option (Nat × Bool)} {C : World → Prop} {K : Act → Prop} {w : World} {Q : Exit → Act → World → Prop}
theorem wpL_indexStr {t : TypeId} {v : UInt8} (ht : P.underlying t = some .string) {x i : Operand} {l : List UInt8} {k : IntKind} {q : Int} {m : Nat} (hx : a.eval x = str l) (hi : a.eval i = .int k q) (hq : q = (m : Int)) (hm : m < l.length) (hv : l.getD m 0 = v)
    (hg : Region.wanted { dst := dst, op := .index t x i, type := ty, pos := pos, after := after, guard := guard } (yielded ops a.tmps) = true)
    (h : wpList P ops Q rest (a.put dst (byt v)) w) : wpList P ops Q ({ dst := dst, op := .index t x i, type := ty, pos := pos, after := after, guard := guard } :: rest) a w :=
  wpList_ex hg (ex_indexStr ht hx hi hq hm hv w) h
theorem wpQ_indexStr {t : TypeId} {v : UInt8} (ht : P.underlying t = some .string) {x i : Operand} {l : List UInt8} {k : IntKind} {q : Int} {m : Nat} (hx : a.eval x = str l) (hi : a.eval i = .int k q) (hq : q = (m : Int)) (hm : m < l.length) (hv : l.getD m 0 = v)
    (hg : Region.wanted { dst := dst, op := .index t x i, type := ty, pos := pos, after := after, guard := guard } (yielded ops a.tmps) = true)
    (h : wpQuiet P ops C K rest (a.put dst (byt v))) : wpQuiet P ops C K ({ dst := dst, op := .index t x i, type := ty, pos := pos, after := after, guard := guard } :: rest) a :=
  wpQuiet_ex hg (fun w _ => ex_indexStr ht hx hi hq hm hv w) h
theorem wpL_eqlStr {t yt : TypeId} {b : Bool} (ht : P.underlying t = some .string) {x y : Operand} {l m : List UInt8} (hx : a.eval x = str l) (hy : a.eval y = str m) (hb : (l == m) = b)
    (hg : Region.wanted { dst := dst, op := .binOp .eql t x y yt, type := ty, pos := pos, after := after, guard := guard } (yielded ops a.tmps) = true)
    (h : wpList P ops Q rest (a.put dst (.bool b)) w) : wpList P ops Q ({ dst := dst, op := .binOp .eql t x y yt, type := ty, pos := pos, after := after, guard := guard } :: rest) a w := by
  subst hb
  exact wpList_ex hg (ex_eqlStr ht hx hy w) h
theorem wpQ_eqlStr {t yt : TypeId} {b : Bool} (ht : P.underlying t = some .string) {x y : Operand} {l m : List UInt8} (hx : a.eval x = str l) (hy : a.eval y = str m) (hb : (l == m) = b)
    (hg : Region.wanted { dst := dst, op := .binOp .eql t x y yt, type := ty, pos := pos, after := after, guard := guard } (yielded ops a.tmps) = true)
    (h : wpQuiet P ops C K rest (a.put dst (.bool b))) : wpQuiet P ops C K ({ dst := dst, op := .binOp .eql t x y yt, type := ty, pos := pos, after := after, guard := guard } :: rest) a := by
  subst hb
  exact wpQuiet_ex hg (fun w _ => ex_eqlStr ht hx hy w) h
theorem wpL_neqStr {t yt : TypeId} {b : Bool} (ht : P.underlying t = some .string) {x y : Operand} {l m : List UInt8} (hx : a.eval x = str l) (hy : a.eval y = str m) (hb : (!(l == m)) = b)
    (hg : Region.wanted { dst := dst, op := .binOp .neq t x y yt, type := ty, pos := pos, after := after, guard := guard } (yielded ops a.tmps) = true)
    (h : wpList P ops Q rest (a.put dst (.bool b)) w) : wpList P ops Q ({ dst := dst, op := .binOp .neq t x y yt, type := ty, pos := pos, after := after, guard := guard } :: rest) a w := by
  subst hb
  exact wpList_ex hg (ex_neqStr ht hx hy w) h
theorem wpL_toStr {s d e : TypeId} (hs : P.underlying s = some (.slice e)) (he : P.underlying e = some (.int .u8)) (hd : P.underlying d = some .string) {x : Operand} {v : Value} {l : List UInt8} (hl : Byts w v l) (hx : a.eval x = v)
    (hg : Region.wanted { dst := dst, op := .convert s d x, type := ty, pos := pos, after := after, guard := guard } (yielded ops a.tmps) = true)
    (h : wpList P ops Q rest (a.put dst (str l)) w) : wpList P ops Q ({ dst := dst, op := .convert s d x, type := ty, pos := pos, after := after, guard := guard } :: rest) a w :=
  wpList_ex hg (ex_toStr (ρ := a.eval) hs he hd hl hx) h
theorem wpQ_toStr {s d e : TypeId} (hs : P.underlying s = some (.slice e)) (he : P.underlying e = some (.int .u8)) (hd : P.underlying d = some .string) {x : Operand} {v : Value} {l : List UInt8} (hl : ∀ w, C w → Byts w v l) (hx : a.eval x = v)
    (hg : Region.wanted { dst := dst, op := .convert s d x, type := ty, pos := pos, after := after, guard := guard } (yielded ops a.tmps) = true)
    (h : wpQuiet P ops C K rest (a.put dst (str l))) : wpQuiet P ops C K ({ dst := dst, op := .convert s d x, type := ty, pos := pos, after := after, guard := guard } :: rest) a :=
  wpQuiet_ex hg (fun w hw => ex_toStr (ρ := a.eval) hs he hd (hl w hw) hx) h
theorem wpL_lenStr {t : TypeId} (ht : P.underlying t = some .string) {x : Operand} {l : List UInt8} (hx : a.eval x = str l)
    (hg : Region.wanted { dst := dst, op := .call { callee := .builtin .len, args := #[x], argTypes := #[t] }, type := ty, pos := pos, after := after, guard := guard } (yielded ops a.tmps) = true)
    (h : wpList P ops Q rest (a.put dst (.int .i64 l.length)) w) : wpList P ops Q ({ dst := dst, op := .call { callee := .builtin .len, args := #[x], argTypes := #[t] }, type := ty, pos := pos, after := after, guard := guard } :: rest) a w :=
  wpList_ex hg (ex_lenStr (ρ := a.eval) ht hx w) h
theorem wpL_shrB {t yt : TypeId} {x y : Operand} {b : UInt8} {kk : IntKind} {q : Int} {n : Nat} {r : Nat} (hx : a.eval x = byt b) (hy : a.eval y = .int kk q) (hq : q = (n : Int)) (hn : n < 8) (hr : b.toNat / 2 ^ n = r)
    (hg : Region.wanted { dst := dst, op := .binOp .shr t x y yt, type := ty, pos := pos, after := after, guard := guard } (yielded ops a.tmps) = true)
    (h : wpList P ops Q rest (a.put dst (.int .u8 (r : Int))) w) : wpList P ops Q ({ dst := dst, op := .binOp .shr t x y yt, type := ty, pos := pos, after := after, guard := guard } :: rest) a w :=
  wpList_ex hg (ex_shrB (ρ := a.eval) hx hy hq hn hr w) h
theorem wpL_and {t yt : TypeId} {x y : Operand} {k : IntKind} {p q : Int} {m n : Nat} {r : Nat} (hx : a.eval x = .int k p) (hy : a.eval y = .int k q) (hp : p = (m : Int)) (hq : q = (n : Int)) (hm : m < 2 ^ k.bits) (hn : n < 2 ^ k.bits) (hr : m &&& n = r) (hw : k.wrap (r : Int) = (r : Int))
    (hg : Region.wanted { dst := dst, op := .binOp .and t x y yt, type := ty, pos := pos, after := after, guard := guard } (yielded ops a.tmps) = true)
    (h : wpList P ops Q rest (a.put dst (.int k (r : Int))) w) : wpList P ops Q ({ dst := dst, op := .binOp .and t x y yt, type := ty, pos := pos, after := after, guard := guard } :: rest) a w :=
  wpList_ex hg (ex_and (ρ := a.eval) hx hy hp hq hm hn hr hw w) h
end
/-- The digits. -/
def hexT : List UInt8 := [48, 49, 50, 51, 52, 53, 54, 55, 56, 57, 97, 98, 99, 100, 101, 102]
def hexC (m : Nat) : UInt8 := hexT.getD m 0
def hexOf (b : UInt8) : List UInt8 := [hexC (b.toNat / 16), hexC (b.toNat % 16)]
def hexB (l : List UInt8) : List UInt8 := l.flatMap hexOf
theorem hexB_len (l : List UInt8) : (hexB l).length = 2 * l.length := by
  induction l with
  | nil => rfl
  | cons x l ih => simp only [hexB, List.flatMap_cons, List.length_append, List.length_cons] at ih ⊢; rw [ih]; simp [hexOf]; omega
theorem hexB_snoc {l : List UInt8} {k : Nat} (h : k < l.length) : hexB (l.take (k + 1)) = hexB (l.take k) ++ [hexC (l[k].toNat / 16)] ++ [hexC (l[k].toNat % 16)] := by
  rw [← List.take_append_getElem h, hexB, List.flatMap_append]
  simp [hexB, hexOf]
end Go.Proofs.Ytgkfopodhikckaa
/- Hex of ascii, String of a digest. Condition: some bytes, at most two hundred thousand. -/
namespace Go.Proofs.Ytgkfopodhikckaa
open Go.RowKit
section
variable {P : Program} {ops : Array Oper} {rest : List Oper} {a : Act} {dst : Option Tmp} {ty : TypeId} {pos : String} {after : Array Edge} {guard : Option (Nat × Bool)} {w w0 : World} {S : List Nat} {bs : List (Nat × Obj)} {rows : List Row} {Q : Exit → Act → World → Prop} {C : World → Prop} {K : Act → Prop}
theorem wpL_idxB {t e : TypeId} {bytes : Nat} (hE : Elem P t e 1 bytes) {x i : Operand} {ad : Addr} {n c j : Nat} {q : Int} {k : IntKind} (hx : a.eval x = .slice (some ad) n c) (hi : a.eval i = .int k q) (hq : q = (j : Int)) (hj : j < n)
    (hg : Region.wanted { dst := dst, op := .indexAddr t x i, type := ty, pos := pos, after := after, guard := guard } (yielded ops a.tmps) = true)
    (h : wpList P ops Q rest (a.put dst (.pointer (some (ad.add j)))) w) : wpList P ops Q ({ dst := dst, op := .indexAddr t x i, type := ty, pos := pos, after := after, guard := guard } :: rest) a w :=
  wpList_ex hg (ex_index (ρ := a.eval) hE hx hi hq hj w) (by rw [Nat.mul_one]; exact h)
theorem wpL_idx {t e : TypeId} {sz bytes : Nat} (hE : Elem P t e sz bytes) {x i : Operand} {ad : Addr} {n c j : Nat} {q : Int} {k : IntKind} (hx : a.eval x = .slice (some ad) n c) (hi : a.eval i = .int k q) (hq : q = (j : Int)) (hj : j < n)
    (hg : Region.wanted { dst := dst, op := .indexAddr t x i, type := ty, pos := pos, after := after, guard := guard } (yielded ops a.tmps) = true)
    (h : wpList P ops Q rest (a.put dst (.pointer (some (ad.add (j * sz))))) w) : wpList P ops Q ({ dst := dst, op := .indexAddr t x i, type := ty, pos := pos, after := after, guard := guard } :: rest) a w :=
  wpList_ex hg (ex_index (ρ := a.eval) hE hx hi hq hj w) h
theorem Holds.addNil (h : Holds w0 S bs rows w) (e : TypeId) (sz : Nat) : Holds w0 S bs (⟨.slice none 0 0, e, sz, 0, []⟩ :: rows) w :=
  h.addRow (Below.refl _ _) (World.ownsRow_nil _ _ _ _)
/-- A whole array that lies in a block of the call's own, taken as a slice. -/
theorem Byts.ofArr {n : Nat} {x : Arr n} (h : Holds w0 S bs rows w) {g : Nat} {e : TypeId} (ho : Own bs g (objC x.cells e)) {m cap : Nat} (hm : m ≤ n) (hc : m ≤ cap) : Byts w (.slice (some ⟨g, 0, none⟩) m cap) (x.1.take m) := by
  have hl : (x.1.take m).length = m := by rw [List.length_take, x.2]; omega
  refine ⟨_, cap, by rw [hl], by omega, by simp, fun j u hu => ⟨_, rfl, ?_⟩⟩
  have hadd : (⟨g, 0, none⟩ : Addr).add j = ⟨g, j, none⟩ := by unfold Addr.add; split <;> simp_all
  rw [hadd, cell_own h ho j, List.getElem?_toArray]
  rw [List.map_take, List.getElem?_take] at hu
  split at hu
  · exact hu
  · cases hu
theorem Byts.cellB {a : Addr} {n cap : Nat} {l : List UInt8} {cs : List Value} (h : Sl w (.slice (some a) n cap) 1 l.length cs) (j : Nat) (u : Value) (hu : cs[j]? = some u) : w.cell? (a.add j) = some u := by
  obtain ⟨rfl, _⟩ := h.cap
  exact h.cell j u hu
theorem Byts.ofArrAll {n : Nat} {x : Arr n} (h : Holds w0 S bs rows w) {g : Nat} {e : TypeId} (ho : Own bs g (objC x.cells e)) : Byts w (.slice (some ⟨g, 0, none⟩) n n) x.1 := by
  have := Byts.ofArr h ho (Nat.le_refl n) (Nat.le_refl n)
  rwa [List.take_of_length_le (by rw [x.2]; omega)] at this
/-- x[:k] of an array that lies in a block. -/
theorem wpL_sliceArr {t e : TypeId} {n sz : Nat} (ht : P.underlying t = some (.array n e)) (hz : (P.info? e).map (·.size) = some sz) {x : Operand} {g : Nat} (hx : a.eval x = .pointer (some ⟨g, 0, none⟩))
    (hg : Region.wanted { dst := dst, op := .slice t x none none none, type := ty, pos := pos, after := after, guard := guard } (yielded ops a.tmps) = true)
    (h : wpList P ops Q rest (a.put dst (.slice (some ⟨g, 0, none⟩) n n)) w) : wpList P ops Q ({ dst := dst, op := .slice t x none none none, type := ty, pos := pos, after := after, guard := guard } :: rest) a w := by
  refine wpList_ex hg ?_ h
  simp [execOp, hx, Instr.sliceAt, Instr.slice, Instr.sliceBounds, Instr.sliceBound, asIntOf, run_underlying ht, run_sizeOf hz, Addr.add, Instr.sureAddr]
theorem wpL_sliceArrTo {t e : TypeId} {n sz : Nat} (ht : P.underlying t = some (.array n e)) (hz : (P.info? e).map (·.size) = some sz) {x hi : Operand} {g m : Nat} {k : IntKind} {q : Int} (hx : a.eval x = .pointer (some ⟨g, 0, none⟩)) (hh : a.eval hi = .int k q) (hq : q = (m : Int)) (hm : m ≤ n)
    (hg : Region.wanted { dst := dst, op := .slice t x none (some hi) none, type := ty, pos := pos, after := after, guard := guard } (yielded ops a.tmps) = true)
    (h : wpList P ops Q rest (a.put dst (.slice (some ⟨g, 0, none⟩) m n)) w) : wpList P ops Q ({ dst := dst, op := .slice t x none (some hi) none, type := ty, pos := pos, after := after, guard := guard } :: rest) a w := by
  subst hq
  refine wpList_ex hg ?_ h
  simp [execOp, hx, hh, Instr.sliceAt, Instr.slice, Instr.sliceBounds, Instr.sliceBound, asIntOf, run_underlying ht, run_sizeOf hz, Addr.add, Instr.sureAddr, hm]
theorem wpQ_sliceArr {t e : TypeId} {n sz : Nat} (ht : P.underlying t = some (.array n e)) (hz : (P.info? e).map (·.size) = some sz) {x : Operand} {g : Nat} (hx : a.eval x = .pointer (some ⟨g, 0, none⟩))
    (hg : Region.wanted { dst := dst, op := .slice t x none none none, type := ty, pos := pos, after := after, guard := guard } (yielded ops a.tmps) = true)
    (h : wpQuiet P ops C K rest (a.put dst (.slice (some ⟨g, 0, none⟩) n n))) : wpQuiet P ops C K ({ dst := dst, op := .slice t x none none none, type := ty, pos := pos, after := after, guard := guard } :: rest) a := by
  refine wpQuiet_ex hg (fun w _ => ?_) h
  simp [execOp, hx, Instr.sliceAt, Instr.slice, Instr.sliceBounds, Instr.sliceBound, asIntOf, run_underlying ht, run_sizeOf hz, Addr.add, Instr.sureAddr]
theorem wpQ_sliceArrTo {t e : TypeId} {n sz : Nat} (ht : P.underlying t = some (.array n e)) (hz : (P.info? e).map (·.size) = some sz) {x hi : Operand} {g m : Nat} {k : IntKind} {q : Int} (hx : a.eval x = .pointer (some ⟨g, 0, none⟩)) (hh : a.eval hi = .int k q) (hq : q = (m : Int)) (hm : m ≤ n)
    (hg : Region.wanted { dst := dst, op := .slice t x none (some hi) none, type := ty, pos := pos, after := after, guard := guard } (yielded ops a.tmps) = true)
    (h : wpQuiet P ops C K rest (a.put dst (.slice (some ⟨g, 0, none⟩) m n))) : wpQuiet P ops C K ({ dst := dst, op := .slice t x none (some hi) none, type := ty, pos := pos, after := after, guard := guard } :: rest) a := by
  subst hq
  refine wpQuiet_ex hg (fun w _ => ?_) h
  simp [execOp, hx, hh, Instr.sliceAt, Instr.slice, Instr.sliceBounds, Instr.sliceBound, asIntOf, run_underlying ht, run_sizeOf hz, Addr.add, Instr.sureAddr, hm]
end
def RetS (w : World) (l : List UInt8) (e : Ending) (w' : World) : Prop := e = .returned (str l) ∧ Below w.heap.size w w'
def HexRel (w : World) (l : List UInt8) (g : Nat) (i : Value) (wr : World) : Prop :=
  ∃ k : Nat, k ≤ l.length ∧ i = .int .i64 k ∧ ∃ p ao cap, (p = .pointer none ∨ p = selfP g) ∧ Holds w [] [(g, objC [p, .slice ao (hexB (l.take k)).length cap] 144)] [rowB ao cap (hexB (l.take k))] wr
set_option maxRecDepth 100000 in
set_option maxHeartbeats 2000000 in
theorem hex_any (w : World) (v : Value) (l : List UInt8) (hl : Byts w v l) (h0 : l ≠ []) (hn : l.length ≤ 200000) : Calls Try.prog 69 #[v] w (RetS w (hexB l)) := by
  obtain ⟨ao, cap, rfl, _⟩ := hl.shape
  have HL := hid hl
  have H0 := hid h0
  clear hl h0
  have HH := hid (Holds.init w)
  go_enter Try.func69, Try.ntmps69
  go_wp2_with (first
    | ((first
        | ((with_reducible apply wpL_skip); rfl; skip)
        | ((with_reducible apply wpL_nilCheck); rfl; rfl)
        | ((with_reducible apply wpL_load1 (t := 5) kO5 HH.out); rfl; (first | exact .here | exact .there .here | exact .there (.there .here) | exact .there (.there (.there .here)) | exact .there (.there (.there (.there .here))) | exact .there (.there (.there (.there (.there .here)))) | exact .there (.there (.there (.there (.there (.there .here))))) | exact .there (.there (.there (.there (.there (.there (.there .here))))))); rfl; rfl)
        | ((with_reducible apply wpL_len (t := 22) Try.underlying22); rfl; rfl)
        | ((with_reducible apply wpL_allocC (dst := some 3) kZ144 HH.out); rfl; (intro g3_ w_ hq_; (try simp only [List.set_cons_zero, List.set_cons_succ] at hq_); clear HH; have HH := hid hq_; clear hq_))
        | ((with_reducible apply wpL_move); rfl; rfl)
        | ((with_reducible apply wpL_assign); rfl; rfl)
        | ((with_reducible apply wpL_pick); rfl; rfl; rfl)
        | ((with_reducible apply wpL_not); rfl; rfl)
        | ((with_reducible apply wpL_cmp (b := true)); rfl; rfl; rfl; (first | rfl | assumption | (simp only [cmpB, decide_eq_true_eq, decide_eq_false_iff_not, beq_iff_eq, bne_iff_ne, ne_eq, beq_eq_false_iff_ne, bne_eq_false_iff_eq, gt_iff_lt, ge_iff_le]; omega) | (simp; omega)); rfl)
        | ((with_reducible apply wpL_cmp (b := false)); rfl; rfl; rfl; (first | rfl | assumption | (simp only [cmpB, decide_eq_true_eq, decide_eq_false_iff_not, beq_iff_eq, bne_iff_ne, ne_eq, beq_eq_false_iff_ne, bne_eq_false_iff_eq, gt_iff_lt, ge_iff_le]; omega) | (simp; omega)); rfl)
        | ((with_reducible apply wpL_cmp); rfl; rfl; rfl; rfl; rfl)
        | ((with_reducible apply wpL_arith); rfl; rfl; rfl; (exact IntWalk.i64_in _ (by (try simp only [arithI]); omega)); rfl)); (try simp only [arithI, Act.put, Act.eval, List.setIfInBounds_toArray, List.set_cons_succ, List.set_cons_zero, Array.getD_eq_getD_getElem?, List.getElem?_toArray, List.getElem?_cons_succ, List.getElem?_cons_zero, Option.getD_some])))
  go_loopw [8] (HexRel w l g3_) (fun i _ => l.length - (intOf i).toNat)
  case atStart => exact ⟨0, Nat.zero_le _, rfl, _, none, 0, .inl rfl, HH.out.addNil 5 1⟩
  case round =>
    obtain ⟨k, hk, rfl, p, ao1, cap1, hp, hr⟩ := hrel
    clear HH
    have HH := hid hr
    clear hr
    have hlen : (hexB (l.take k)).length = 2 * k := by rw [hexB_len, List.length_take]; omega
    by_cases hlt : k < l.length
    · obtain ⟨ad, cap', e⟩ := HL.out.some (by omega)
      cases e
      have HS := hid (hexB_snoc hlt)
      have hb := l[k].toNat_lt
      have hd : l.getD k 0 = l[k] := by simp [hlt]
      have HD := hid hd
      clear hd
      have hw16 := hid (show IntKind.u8.wrap ((l[k].toNat % 16 : Nat) : Int) = ((l[k].toNat % 16 : Nat) : Int) from IntWalk.u8_in _ (by omega))
      have hand := hid (show l[k].toNat &&& 15 = l[k].toNat % 16 from Nat.and_two_pow_sub_one_eq_mod _ 4)
      go_wp2_with (first
        | ((first
            | ((with_reducible apply wpL_skip); rfl; skip)
            | ((with_reducible apply wpL_idxB (j := k) kE22); rfl; rfl; rfl; (exact hlt); rfl)
            | ((with_reducible apply wpL_loadAt (v := byt l[k]) kO5); (have hc_ := (HH.out.sl HL.out).cell k (byt l[k]) (by simp [hlt]); exact hc_); rfl; rfl)
            | ((with_reducible apply wpL_shrB (n := 4) (r := l[k].toNat / 16)); rfl; rfl; rfl; (exact (by omega)); rfl; rfl)
            | ((with_reducible apply wpL_and (m := l[k].toNat) (n := 15) (r := l[k].toNat % 16)); rfl; rfl; rfl; rfl; (exact hb); (exact (by decide)); (exact hand.out); (exact hw16.out); rfl)
            | ((with_reducible apply wpL_indexStr (l := hexT) (m := l[k].toNat / 16) (v := hexC (l[k].toNat / 16)) Try.underlying9); rfl; rfl; rfl; (exact (by simp [hexT]; omega)); rfl; rfl)
            | ((with_reducible apply wpL_indexStr (l := hexT) (m := l[k].toNat % 16) (v := hexC (l[k].toNat % 16)) Try.underlying9); rfl; rfl; rfl; (exact (by simp [hexT]; omega)); rfl; rfl)
            | (go_at_call 83; (have hcall_ := hid (writeByte_own _ _ _ g3_ _ _ _ _ _ (hexC (l[k].toNat / 16)) _ _ hp rfl (by omega) HH.out)); (with_reducible refine hcall_.out.mono ?_); clear hcall_; rintro e_ w2_ ⟨rfl, ao2, cap2, hq_⟩; clear HH; have HH := hid hq_; clear hq_)
            | (go_at_call 83; (have hcall_ := hid (writeByte_own _ _ _ g3_ _ _ _ _ _ (hexC (l[k].toNat % 16)) _ _ (.inr rfl) rfl (by simp; omega) HH.out)); (with_reducible refine hcall_.out.mono ?_); clear hcall_; rintro e_ w2_ ⟨rfl, ao3, cap3, hq_⟩; clear HH; have HH := hid hq_; clear hq_)
            | ((with_reducible apply wpL_nilCheck); rfl; rfl)
            | ((with_reducible apply wpL_load1 (t := 5) kO5 HH.out); rfl; (first | exact .here | exact .there .here | exact .there (.there .here) | exact .there (.there (.there .here)) | exact .there (.there (.there (.there .here))) | exact .there (.there (.there (.there (.there .here)))) | exact .there (.there (.there (.there (.there (.there .here))))) | exact .there (.there (.there (.there (.there (.there (.there .here))))))); rfl; rfl)
            | ((with_reducible apply wpL_len (t := 22) Try.underlying22); rfl; rfl)
            | ((with_reducible apply wpL_allocC (dst := some 3) kZ144 HH.out); rfl; (intro g3_ w_ hq_; (try simp only [List.set_cons_zero, List.set_cons_succ] at hq_); clear HH; have HH := hid hq_; clear hq_))
            | ((with_reducible apply wpL_move); rfl; rfl)
            | ((with_reducible apply wpL_assign); rfl; rfl)
            | ((with_reducible apply wpL_pick); rfl; rfl; rfl)
            | ((with_reducible apply wpL_not); rfl; rfl)
            | ((with_reducible apply wpL_cmp (b := true)); rfl; rfl; rfl; (first | rfl | assumption | (simp only [cmpB, decide_eq_true_eq, decide_eq_false_iff_not, beq_iff_eq, bne_iff_ne, ne_eq, beq_eq_false_iff_ne, bne_eq_false_iff_eq, gt_iff_lt, ge_iff_le]; omega) | (simp; omega)); rfl)
            | ((with_reducible apply wpL_cmp (b := false)); rfl; rfl; rfl; (first | rfl | assumption | (simp only [cmpB, decide_eq_true_eq, decide_eq_false_iff_not, beq_iff_eq, bne_iff_ne, ne_eq, beq_eq_false_iff_ne, bne_eq_false_iff_eq, gt_iff_lt, ge_iff_le]; omega) | (simp; omega)); rfl)
            | ((with_reducible apply wpL_cmp); rfl; rfl; rfl; rfl; rfl)
            | ((with_reducible apply wpL_arith); rfl; rfl; rfl; (exact IntWalk.i64_in _ (by (try simp only [arithI]); omega)); rfl)); (try simp only [arithI, Act.put, Act.eval, List.setIfInBounds_toArray, List.set_cons_succ, List.set_cons_zero, Array.getD_eq_getD_getElem?, List.getElem?_toArray, List.getElem?_cons_succ, List.getElem?_cons_zero, Option.getD_some])))
      go_roundw
      case rel => exact ⟨k + 1, by omega, by go_num, _, _, _, .inr rfl, by rw [HS.out]; exact HH.out⟩
      case measure => simp [intOf]; omega
    · obtain rfl : k = l.length := by omega
      rw [List.take_length] at hlen
      have h1 := HH.out
      rw [List.take_length] at h1
      clear HH
      have HH := hid h1
      clear h1
      have hne : hexB l ≠ [] := by
        intro e
        have := hexB_len l
        rw [e] at this
        have := List.length_pos_iff.2 H0.out
        simp at *
        omega
      have HN := hid hne
      clear hne
      go_wp2_with (first
        | ((first
            | ((with_reducible apply wpL_skip); rfl; skip)
            | (go_at_call 84; (first | ((have hcall_ := hid (string_own _ _ _ g3_ _ _ _ _ _ _ _ rfl HN.out (by omega) HH.out)); (with_reducible refine hcall_.out.mono ?_); clear hcall_) | (with_reducible refine (string_own _ _ _ g3_ _ _ _ _ _ _ _ rfl HN.out (by omega) HH.out).mono ?_)); rintro e_ w2_ ⟨rfl, hb_⟩; (have hq_ := hb_); clear HH; have HH := hid hq_; clear hq_)
            | ((with_reducible apply wpL_nilCheck); rfl; rfl)
            | ((with_reducible apply wpL_load1 (t := 5) kO5 HH.out); rfl; (first | exact .here | exact .there .here | exact .there (.there .here) | exact .there (.there (.there .here)) | exact .there (.there (.there (.there .here))) | exact .there (.there (.there (.there (.there .here)))) | exact .there (.there (.there (.there (.there (.there .here))))) | exact .there (.there (.there (.there (.there (.there (.there .here))))))); rfl; rfl)
            | ((with_reducible apply wpL_len (t := 22) Try.underlying22); rfl; rfl)
            | ((with_reducible apply wpL_allocC (dst := some 3) kZ144 HH.out); rfl; (intro g3_ w_ hq_; (try simp only [List.set_cons_zero, List.set_cons_succ] at hq_); clear HH; have HH := hid hq_; clear hq_))
            | ((with_reducible apply wpL_move); rfl; rfl)
            | ((with_reducible apply wpL_assign); rfl; rfl)
            | ((with_reducible apply wpL_pick); rfl; rfl; rfl)
            | ((with_reducible apply wpL_not); rfl; rfl)
            | ((with_reducible apply wpL_cmp (b := true)); rfl; rfl; rfl; (first | rfl | assumption | (simp only [cmpB, decide_eq_true_eq, decide_eq_false_iff_not, beq_iff_eq, bne_iff_ne, ne_eq, beq_eq_false_iff_ne, bne_eq_false_iff_eq, gt_iff_lt, ge_iff_le]; omega) | (simp; omega)); rfl)
            | ((with_reducible apply wpL_cmp (b := false)); rfl; rfl; rfl; (first | rfl | assumption | (simp only [cmpB, decide_eq_true_eq, decide_eq_false_iff_not, beq_iff_eq, bne_iff_ne, ne_eq, beq_eq_false_iff_ne, bne_eq_false_iff_eq, gt_iff_lt, ge_iff_le]; omega) | (simp; omega)); rfl)
            | ((with_reducible apply wpL_cmp); rfl; rfl; rfl; rfl; rfl)
            | ((with_reducible apply wpL_arith); rfl; rfl; rfl; (exact IntWalk.i64_in _ (by (try simp only [arithI]); omega)); rfl)); (try simp only [arithI, Act.put, Act.eval, List.setIfInBounds_toArray, List.set_cons_succ, List.set_cons_zero, Array.getD_eq_getD_getElem?, List.getElem?_toArray, List.getElem?_cons_succ, List.getElem?_cons_zero, Option.getD_some])))
      go_ret
      exact ⟨rfl, HH.out.below⟩
set_option maxRecDepth 100000 in
set_option maxHeartbeats 2000000 in
theorem string_any (w : World) (d : Arr 32) : Calls Try.prog 41 #[d.val] w (RetS w (hexB d.1)) := by
  have HH := hid (Holds.init w)
  have HD := hid d.2
  go_enter Try.func41, Try.ntmps41
  go_wp2_with (first
    | ((first
        | ((with_reducible apply wpL_skip); rfl; skip)
        | ((with_reducible apply wpL_boxC (cs := d.cells) (dst := some 1)); rfl; (exact HH.out); rfl; (intro g1_ w_ hq_; clear HH; have HH := hid hq_; clear hq_))
        | ((with_reducible apply wpL_sliceArr Try.underlying25 kS5); rfl; rfl)
        | (go_at_call 69; (first | ((have hcall_ := hid (hex_any _ _ d.1 (Byts.ofArrAll (x := d) HH.out .here) (by intro e; have hd := HD.out; rw [e] at hd; simp at hd) (by rw [HD.out]; omega))); (with_reducible refine hcall_.out.mono ?_); clear hcall_) | (with_reducible refine (hex_any _ _ d.1 (Byts.ofArrAll (x := d) HH.out .here) (by intro e; have hd := HD.out; rw [e] at hd; simp at hd) (by rw [HD.out]; omega)).mono ?_)); rintro e_ w2_ ⟨rfl, hb_⟩; (have hq_ := HH.out.grow hb_); clear HH; have HH := hid hq_; clear hq_ hb_)
        | ((with_reducible apply wpL_nilCheck); rfl; rfl)
        | ((with_reducible apply wpL_boxArr (dst := some 1)); rfl; (exact HH.out); rfl; (intro g1_ w_ hq_; (try simp only [List.set_cons_zero, List.set_cons_succ] at hq_); clear HH; have HH := hid hq_; clear hq_))
        | ((with_reducible apply wpL_move); rfl; rfl)
        | ((with_reducible apply wpL_assign); rfl; rfl)
        | ((with_reducible apply wpL_pick); rfl; rfl; rfl)
        | ((with_reducible apply wpL_not); rfl; rfl)
        | ((with_reducible apply wpL_cmp (b := true)); rfl; rfl; rfl; (first | rfl | assumption | (simp only [cmpB, decide_eq_true_eq, decide_eq_false_iff_not, beq_iff_eq, bne_iff_ne, ne_eq, beq_eq_false_iff_ne, bne_eq_false_iff_eq, gt_iff_lt, ge_iff_le]; omega) | (simp; omega)); rfl)
        | ((with_reducible apply wpL_cmp (b := false)); rfl; rfl; rfl; (first | rfl | assumption | (simp only [cmpB, decide_eq_true_eq, decide_eq_false_iff_not, beq_iff_eq, bne_iff_ne, ne_eq, beq_eq_false_iff_ne, bne_eq_false_iff_eq, gt_iff_lt, ge_iff_le]; omega) | (simp; omega)); rfl)
        | ((with_reducible apply wpL_cmp); rfl; rfl; rfl; rfl; rfl)
        | ((with_reducible apply wpL_arith); rfl; rfl; rfl; (exact IntWalk.i64_in _ (by (try simp only [arithI]); omega)); rfl)); (try simp only [arithI, Act.put, Act.eval, List.setIfInBounds_toArray, List.set_cons_succ, List.set_cons_zero, Array.getD_eq_getD_getElem?, List.getElem?_toArray, List.getElem?_cons_succ, List.getElem?_cons_zero, Option.getD_some])))
  go_ret
  exact ⟨rfl, HH.out.below⟩
end Go.Proofs.Ytgkfopodhikckaa
/- The plain law of the known digests: evaluated. No condition. -/
namespace Go.Proofs.Ytgkfopodhikckaa
def blocksP (p : List UInt8) : Nat → St
  | 0 => initS
  | t + 1 => processS (blocksP p t) (loadL (p.drop (64 * t)))
theorem blocksN_P (p : List UInt8) : ∀ t, blocksN p t = blocksP p t
  | 0 => rfl
  | t + 1 => by rw [blocksN, blocksP, blocksN_P p t, process_block]
theorem sumB_P (l : List UInt8) : sumB l = outB (blocksP (l ++ padL l.length) ((l ++ padL l.length).length / 64)) := by
  unfold sumB; rw [blocksN_P]
def kwA : List UInt8 := [101, 51, 98, 48, 99, 52, 52, 50, 57, 56, 102, 99, 49, 99, 49, 52, 57, 97, 102, 98, 102, 52, 99, 56, 57, 57, 54, 102, 98, 57, 50, 52, 50, 55, 97, 101, 52, 49, 101, 52, 54, 52, 57, 98, 57, 51, 52, 99, 97, 52, 57, 53, 57, 57, 49, 98, 55, 56, 53, 50, 98, 56, 53, 53]
set_option maxRecDepth 100000 in
theorem hexkwA : hexB (sumB ([])).1 = kwA := by rw [sumB_P]; kernel_rfl
def kwB : List UInt8 := [98, 97, 55, 56, 49, 54, 98, 102, 56, 102, 48, 49, 99, 102, 101, 97, 52, 49, 52, 49, 52, 48, 100, 101, 53, 100, 97, 101, 50, 50, 50, 51, 98, 48, 48, 51, 54, 49, 97, 51, 57, 54, 49, 55, 55, 97, 57, 99, 98, 52, 49, 48, 102, 102, 54, 49, 102, 50, 48, 48, 49, 53, 97, 100]
set_option maxRecDepth 100000 in
theorem hexkwB : hexB (sumB ([97, 98, 99])).1 = kwB := by rw [sumB_P]; kernel_rfl
def kwC : List UInt8 := [50, 52, 56, 100, 54, 97, 54, 49, 100, 50, 48, 54, 51, 56, 98, 56, 101, 53, 99, 48, 50, 54, 57, 51, 48, 99, 51, 101, 54, 48, 51, 57, 97, 51, 51, 99, 101, 52, 53, 57, 54, 52, 102, 102, 50, 49, 54, 55, 102, 54, 101, 99, 101, 100, 100, 52, 49, 57, 100, 98, 48, 54, 99, 49]
set_option maxRecDepth 100000 in
theorem hexkwC : hexB (sumB ([97, 98, 99, 100, 98, 99, 100, 101, 99, 100, 101, 102, 100, 101, 102, 103, 101, 102, 103, 104, 102, 103, 104, 105, 103, 104, 105, 106, 104, 105, 106, 107, 105, 106, 107, 108, 106, 107, 108, 109, 107, 108, 109, 110, 108, 109, 110, 111, 109, 110, 111, 112, 110, 111, 112, 113])).1 = kwC := by rw [sumB_P]; kernel_rfl
end Go.Proofs.Ytgkfopodhikckaa
/- Sum of sha256's Hash. Condition: at most a million bytes. -/
namespace Go.Proofs.Ytgkfopodhikckaa
open Go.RowKit
theorem Z25 : (Try.prog.info? 25).map (·.zero) = some (some (.agg z32.toArray)) := by kernel_rfl
theorem A25 : AggT Try.prog 25 32 := ⟨_, Try.underlying25, rfl, by kernel_rfl⟩
theorem S25 : (Try.prog.info? 25).map (·.size) = some 32 := by kernel_rfl
theorem outByte_at (s : St) (i c : Nat) (hc : c < 4) : outByte s (4 * i + c) = w2b (s.ws.getD i 0 >>> (24 - 8 * c)) := by
  unfold outByte
  rw [show (4 * i + c) / 4 = i by omega, show (4 * i + c) % 4 = c by omega]
def SPadRel1 (w : World) (n : Nat) (g2 gc : Nat) (o : Obj) (exc : List (Nat × Obj)) (v : Value) (wr : World) : Prop :=
  ∃ k : Nat, k ≤ padZ n ∧ ∃ ao cap, v = .slice ao (128 :: List.replicate k 0 : List UInt8).length cap ∧ Holds w [] ((g2, objC z32 25) :: (gc, o) :: exc) [rowB ao cap (128 :: List.replicate k 0)] wr
def SPadRel2 (w : World) (l : List UInt8) (n : Nat) (g2 gc : Nat) (o : Obj) (exc : List (Nat × Obj)) (v i : Value) (wr : World) : Prop :=
  ∃ j : Nat, j ≤ 8 ∧ i = .int .i64 (7 - j) ∧ ∃ ao cap, v = .slice ao (l ++ lenBs n j).length cap ∧ Holds w [] ((g2, objC z32 25) :: (gc, o) :: exc) [rowB ao cap (l ++ lenBs n j)] wr
def SOutRel (w : World) (h : St) (g2 g6 : Nat) (bs : List (Nat × Obj)) (rows : List Row) (i : Value) (wr : World) : Prop :=
  ∃ t : Nat, t ≤ 8 ∧ i = .int .i64 t ∧ Holds w [] ((g6, objC ((fillB (outByte h) 32 (4 * t)).map byt) 25) :: (g2, objC z32 25) :: bs) rows wr
theorem Holds.swapBlk {w0 w : World} {S : List Nat} {p q : Nat × Obj} {bs : List (Nat × Obj)} {rows : List Row} (h : Holds w0 S (p :: q :: bs) rows w) : Holds w0 S (q :: p :: bs) rows w := by
  refine ⟨h.os, h.tape, h.output, h.size, h.old, fun x hx => h.blk x ?_, fun x hx => h.frs x ?_, h.row, ?_, h.inS⟩
  · simp only [List.mem_cons] at hx ⊢; rcases hx with a | a | a
    · exact .inr (.inl a)
    · exact .inl a
    · exact .inr (.inr a)
  · simp only [List.mem_cons] at hx ⊢; rcases hx with a | a | a
    · exact .inr (.inl a)
    · exact .inl a
    · exact .inr (.inr a)
  · have hs := h.sep
    simp only [List.map_cons, List.cons_append, List.nodup_cons, List.mem_cons, not_or] at hs ⊢
    exact ⟨⟨fun e => hs.1.1 e.symm, hs.2.1⟩, hs.1.2, hs.2.2⟩
theorem take_own (w0 w : World) (g2 gc : Nat) (o2 : Obj) (s : St) (rvc : Value) (n : Nat) (exc : List (Nat × Obj)) (ao : Option Addr) (cap : Nat) (r b : List UInt8)
    (h : Holds w0 [] ((g2, o2) :: (gc, objC (hcells s rvc n) 118) :: exc) [rowB ao cap b] w) (hre : RestEx exc rvc r) (hn : r.length + b.length ≤ 1000000) :
    Calls Try.prog 64 #[.pointer (some ⟨gc, 0, none⟩), .slice ao b.length cap] w (fun e w' => e = .returned (.tuple #[]) ∧ ∃ rv2 ex, Holds w0 [] ((g2, o2) :: (gc, objC (hcells (absorb s (r ++ b)).1 rv2 n) 118) :: (exc ++ ex)) [rowB ao cap b] w') := by
  have h1 : w.heap[gc]? = some (objC (hcells s rvc n) 118) := h.blk (gc, _) (List.mem_cons_of_mem _ List.mem_cons_self)
  have h2 : Byts w rvc r := hre.byts h fun q hq => List.mem_cons_of_mem _ (List.mem_cons_of_mem _ hq)
  have h3 : Byts w (.slice ao b.length cap) b := h.sl0
  refine (take_any w gc s rvc _ r b n h1 h2 h3 hn).mono fun e w' ⟨he, ho⟩ => ⟨he, ?_⟩
  obtain ⟨rv2, ex, bs2, hturn, _, _, _, hq⟩ := h.hashBy (.there .here) (fun o' => ⟨_, .there .here⟩) ho
  have e2 : ∀ {o' : Obj} {bs2}, Turn ((g2, o2) :: (gc, objC (hcells s rvc n) 118) :: exc) gc (objC (hcells s rvc n) 118) o' bs2 → g2 ≠ gc → bs2 = (g2, o2) :: (gc, o') :: exc ∨ ∃ l', Turn exc gc (objC (hcells s rvc n) 118) o' l' := by
    intro o' bs2 ht hne
    cases ht with
    | here => exact absurd rfl hne
    | there ht2 =>
      cases ht2 with
      | here => exact .inl rfl
      | there ht3 => exact .inr ⟨_, ht3⟩
  have hs := h.sep
  simp only [List.map_cons, List.cons_append, List.nodup_cons, List.mem_cons, List.mem_append, not_or] at hs
  rcases e2 hturn (fun e => hs.1.1 e) with rfl | ⟨l', ht⟩
  · exact ⟨rv2, ex, hq⟩
  · exact absurd (List.mem_map.2 ⟨_, ht.own.mem, rfl⟩) hs.2.1.1
set_option maxRecDepth 100000 in
set_option maxHeartbeats 4000000 in
theorem sum_any (w : World) (g : Nat) (s : St) (rv : Value) (r : List UInt8) (n : Nat) (hg : w.heap[g]? = some (objC (hcells s rv n) 118)) (hr : Byts w rv r) (hrl : r.length ≤ 1000000 - 1000) (hn : n ≤ 1000000) :
    Calls Try.prog 33 #[.pointer (some ⟨g, 0, none⟩)] w (RetA w (outB (absorb s (r ++ padL n)).1)) := by
  have HH := hid (Holds.init w)
  have HG := hid hg
  have HR := hid hr
  clear hg hr
  go_enter Try.func33, Try.ntmps33
  go_wp2_with (first
    | ((first
        | ((with_reducible apply wpL_skip); rfl; skip)
        | ((with_reducible apply wpL_allocC (dst := some 2) Z25 HH.out); rfl; (intro g2 w_ hq_; clear HH; have HH := hid hq_; clear hq_))
        | (go_at_call 40; refine (clone_any _ g s rv r n (by have := HH.out.old g (Array.getElem?_eq_some_iff.1 HG.out).1 (by simp); rw [this]; exact HG.out) (HH.out.sl HR.out) (by omega)).mono ?_; rintro e w2 ⟨gc, rvc, exc, rfl, hre, hex, hnd, hb⟩; (have hq_ : Holds w [] ((g2, objC z32 25) :: (gc, objC (hcells s rvc n) 118) :: exc) [] w2 := HH.out.newBy hex hnd hb); clear HH hb hex hnd; have HH := hid hq_; clear hq_; have HE := hid hre; clear hre)
        | ((with_reducible apply wpL_buildB [128] (dst := some 15)); rfl; rfl; (exact (by omega)); (exact HH.out); rfl; (intro g_ w_ hq_; clear HH; have HH := hid hq_; clear hq_))
        | ((with_reducible apply wpL_move); rfl; rfl)
        | ((with_reducible apply wpL_assign); rfl; rfl)
        | ((with_reducible apply wpL_pick); rfl; rfl; rfl)
        | ((with_reducible apply wpL_not); rfl; rfl)
        | ((with_reducible apply wpL_cmp (b := true)); rfl; rfl; rfl; (first | rfl | assumption | (simp only [cmpB, decide_eq_true_eq, decide_eq_false_iff_not, beq_iff_eq, bne_iff_ne, ne_eq, beq_eq_false_iff_ne, bne_eq_false_iff_eq, gt_iff_lt, ge_iff_le]; omega) | (simp; omega)); rfl)
        | ((with_reducible apply wpL_cmp (b := false)); rfl; rfl; rfl; (first | rfl | assumption | (simp only [cmpB, decide_eq_true_eq, decide_eq_false_iff_not, beq_iff_eq, bne_iff_ne, ne_eq, beq_eq_false_iff_ne, bne_eq_false_iff_eq, gt_iff_lt, ge_iff_le]; omega) | (simp; omega)); rfl)
        | ((with_reducible apply wpL_cmp); rfl; rfl; rfl; rfl; rfl)
        | ((with_reducible apply wpL_arith); rfl; rfl; rfl; (exact IntWalk.i64_in _ (by (try simp only [arithI]); omega)); rfl)); (try simp only [arithI, Act.put, Act.eval, List.setIfInBounds_toArray, List.set_cons_succ, List.set_cons_zero, Array.getD_eq_getD_getElem?, List.getElem?_toArray, List.getElem?_cons_succ, List.getElem?_cons_zero, Option.getD_some])))
  go_loopw [4] (SPadRel1 w n g2 gc (objC (hcells s rvc n) 118) exc) (fun v _ => 1 + padZ n - lenV v)
  case atStart => exact ⟨0, Nat.zero_le _, _, _, rfl, HH.out⟩
  case round =>
    obtain ⟨k, hk, ao1, cap1, rfl, hr⟩ := hrel
    clear HH
    have HH := hid hr
    clear hr
    have hlen : (128 :: List.replicate k 0 : List UInt8).length = 1 + k := by simp; omega
    have hz : padZ n = (119 - n % 64) % 64 := rfl
    have hk63 : k < 64 := by omega
    by_cases hlt : k < padZ n
    · have HA := hid (show (128 :: List.replicate k 0 : List UInt8) ++ [0] = 128 :: List.replicate (k + 1) 0 by rw [List.cons_append, ← List.replicate_succ'])
      go_wp2_with (first
        | ((first
            | ((with_reducible apply wpL_skip); rfl; skip)
            | ((with_reducible apply wpL_nilCheck); rfl; rfl)
            | ((with_reducible apply wpL_fieldAddr (t := 118)); (first | exact F118_0 | exact F118_1 | exact F118_2 | exact F118_3); rfl; rfl)
            | ((with_reducible apply wpL_load1 (v := .int .i64 n) O3 HH.out); rfl; (exact .there .here); rfl; rfl)
            | ((with_reducible apply wpL_len Try.underlying22); rfl; rfl)
            | ((with_reducible apply wpL_remN (m := n + (1 + k)) (n := 64)); rfl; rfl; (exact (by omega)); rfl; (exact (by omega)); (exact (by omega)); (exact (by omega)); rfl)
            | ((with_reducible apply wpL_buildB [0] (dst := some 26)); rfl; rfl; (exact (by omega)); (exact HH.out); rfl; (intro g_ w_ hq_; clear HH; have HH := hid hq_; clear hq_))
            | ((with_reducible apply wpL_appendB (dst := some 27) (l := 128 :: List.replicate k 0) (l2 := [0]) HH.out.swap HH.out.sl0); rfl; rfl; (exact (by simp; omega)); rfl; rfl; rfl; (rw [HA.out]; intro ao1 cap1 w_ hq_; clear HH; have HH := hid hq_.dropSnd; clear hq_))
            | ((with_reducible apply wpL_move); rfl; rfl)
            | ((with_reducible apply wpL_assign); rfl; rfl)
            | ((with_reducible apply wpL_pick); rfl; rfl; rfl)
            | ((with_reducible apply wpL_not); rfl; rfl)
            | ((with_reducible apply wpL_cmp (b := true)); rfl; rfl; rfl; (first | rfl | assumption | (simp only [cmpB, decide_eq_true_eq, decide_eq_false_iff_not, beq_iff_eq, bne_iff_ne, ne_eq, beq_eq_false_iff_ne, bne_eq_false_iff_eq, gt_iff_lt, ge_iff_le]; omega) | (simp; omega)); rfl)
            | ((with_reducible apply wpL_cmp (b := false)); rfl; rfl; rfl; (first | rfl | assumption | (simp only [cmpB, decide_eq_true_eq, decide_eq_false_iff_not, beq_iff_eq, bne_iff_ne, ne_eq, beq_eq_false_iff_ne, bne_eq_false_iff_eq, gt_iff_lt, ge_iff_le]; omega) | (simp; omega)); rfl)
            | ((with_reducible apply wpL_cmp); rfl; rfl; rfl; rfl; rfl)
            | ((with_reducible apply wpL_arith); rfl; rfl; rfl; (exact IntWalk.i64_in _ (by (try simp only [arithI]); omega)); rfl)); (try simp only [arithI, Act.put, Act.eval, List.setIfInBounds_toArray, List.set_cons_succ, List.set_cons_zero, Array.getD_eq_getD_getElem?, List.getElem?_toArray, List.getElem?_cons_succ, List.getElem?_cons_zero, Option.getD_some])))
      go_roundw
      case rel => exact ⟨k + 1, by omega, _, _, rfl, HH.out⟩
      case measure => simp [lenV]; omega
    · have hkz : k = padZ n := by omega
      have HKZ := hid hkz
      clear hkz
      go_wp2_with (first
        | ((first
            | ((with_reducible apply wpL_skip); rfl; skip)
            | ((with_reducible apply wpL_nilCheck); rfl; rfl)
            | ((with_reducible apply wpL_fieldAddr (t := 118)); (first | exact F118_0 | exact F118_1 | exact F118_2 | exact F118_3); rfl; rfl)
            | ((with_reducible apply wpL_load1 (v := .int .i64 n) O3 HH.out); rfl; (exact .there .here); rfl; rfl)
            | ((with_reducible apply wpL_len Try.underlying22); rfl; rfl)
            | ((with_reducible apply wpL_remN (m := n + (1 + k)) (n := 64)); rfl; rfl; (exact (by omega)); rfl; (exact (by omega)); (exact (by omega)); (exact (by omega)); rfl)
            | ((with_reducible apply wpL_move); rfl; rfl)
            | ((with_reducible apply wpL_assign); rfl; rfl)
            | ((with_reducible apply wpL_pick); rfl; rfl; rfl)
            | ((with_reducible apply wpL_not); rfl; rfl)
            | ((with_reducible apply wpL_cmp (b := true)); rfl; rfl; rfl; (first | rfl | assumption | (simp only [cmpB, decide_eq_true_eq, decide_eq_false_iff_not, beq_iff_eq, bne_iff_ne, ne_eq, beq_eq_false_iff_ne, bne_eq_false_iff_eq, gt_iff_lt, ge_iff_le]; omega) | (simp; omega)); rfl)
            | ((with_reducible apply wpL_cmp (b := false)); rfl; rfl; rfl; (first | rfl | assumption | (simp only [cmpB, decide_eq_true_eq, decide_eq_false_iff_not, beq_iff_eq, bne_iff_ne, ne_eq, beq_eq_false_iff_ne, bne_eq_false_iff_eq, gt_iff_lt, ge_iff_le]; omega) | (simp; omega)); rfl)
            | ((with_reducible apply wpL_cmp); rfl; rfl; rfl; rfl; rfl)
            | ((with_reducible apply wpL_arith); rfl; rfl; rfl; (exact IntWalk.i64_in _ (by (try simp only [arithI]); omega)); rfl)); (try simp only [arithI, Act.put, Act.eval, List.setIfInBounds_toArray, List.set_cons_succ, List.set_cons_zero, Array.getD_eq_getD_getElem?, List.getElem?_toArray, List.getElem?_cons_succ, List.getElem?_cons_zero, Option.getD_some])))
      go_loopw [4, 5] (SPadRel2 w (128 :: List.replicate k 0) n g2 gc (objC (hcells s rvc n) 118) exc) (fun _ i _ => (intOf i + 1).toNat)
      case atStart => exact ⟨0, Nat.zero_le _, rfl, ao1, cap1, by simp [lenBs], by simpa [lenBs] using HH.out⟩
      case round =>
        obtain ⟨j, hj, rfl, ao2, cap2, rfl, hr⟩ := hrel
        clear HH
        have HH := hid hr
        clear hr
        have hll : ((128 :: List.replicate k 0 : List UInt8) ++ lenBs n j).length = 1 + k + j := by rw [List.length_append, hlen]; simp [lenBs]
        by_cases hj8 : j < 8
        · have HA := hid (show ((128 :: List.replicate k 0 : List UInt8) ++ lenBs n j) ++ [lenByte n (7 - j)] = (128 :: List.replicate k 0) ++ lenBs n (j + 1) by rw [lenBs_succ, List.append_assoc])
          go_wp2_with (first
            | ((first
                | ((with_reducible apply wpL_skip); rfl; skip)
                | ((with_reducible apply wpL_nilCheck); rfl; rfl)
                | ((with_reducible apply wpL_fieldAddr (t := 118)); (first | exact F118_0 | exact F118_1 | exact F118_2 | exact F118_3); rfl; rfl)
                | ((with_reducible apply wpL_load1 (v := .int .i64 n) O3 HH.out); rfl; (exact .there .here); rfl; rfl)
                | ((with_reducible apply wpL_shrN (m := n * 8) (k := 8 * (7 - j))); rfl; rfl; (exact (by omega)); (exact (by omega)); (exact (by omega)); rfl)
                | ((with_reducible apply wpL_toB Try.underlying119 Try.underlying5); rfl; rfl; rfl)
                | ((with_reducible apply wpL_buildB [lenByte n (7 - j)] (dst := some 43)); rfl; rfl; (exact (by omega)); (exact HH.out); rfl; (intro g_ w_ hq_; clear HH; have HH := hid hq_; clear hq_))
                | ((with_reducible apply wpL_appendB (dst := some 44) (l := (128 :: List.replicate k 0) ++ lenBs n j) (l2 := [lenByte n (7 - j)]) HH.out.swap HH.out.sl0); rfl; rfl; (rw [hll]; exact (by simp; omega)); rfl; rfl; rfl; (rw [HA.out]; intro ao1 cap1 w_ hq_; clear HH; have HH := hid hq_.dropSnd; clear hq_))
                | ((with_reducible apply wpL_move); rfl; rfl)
                | ((with_reducible apply wpL_assign); rfl; rfl)
                | ((with_reducible apply wpL_pick); rfl; rfl; rfl)
                | ((with_reducible apply wpL_not); rfl; rfl)
                | ((with_reducible apply wpL_cmp (b := true)); rfl; rfl; rfl; (first | rfl | assumption | (simp only [cmpB, decide_eq_true_eq, decide_eq_false_iff_not, beq_iff_eq, bne_iff_ne, ne_eq, beq_eq_false_iff_ne, bne_eq_false_iff_eq, gt_iff_lt, ge_iff_le]; omega) | (simp; omega)); rfl)
                | ((with_reducible apply wpL_cmp (b := false)); rfl; rfl; rfl; (first | rfl | assumption | (simp only [cmpB, decide_eq_true_eq, decide_eq_false_iff_not, beq_iff_eq, bne_iff_ne, ne_eq, beq_eq_false_iff_ne, bne_eq_false_iff_eq, gt_iff_lt, ge_iff_le]; omega) | (simp; omega)); rfl)
                | ((with_reducible apply wpL_cmp); rfl; rfl; rfl; rfl; rfl)
                | ((with_reducible apply wpL_arith); rfl; rfl; rfl; (exact IntWalk.i64_in _ (by (try simp only [arithI]); omega)); rfl)); (try simp only [arithI, Act.put, Act.eval, List.setIfInBounds_toArray, List.set_cons_succ, List.set_cons_zero, Array.getD_eq_getD_getElem?, List.getElem?_toArray, List.getElem?_cons_succ, List.getElem?_cons_zero, Option.getD_some])))
          go_roundw
          case rel => exact ⟨j + 1, by omega, by go_num, _, _, rfl, HH.out⟩
          case measure => simp [intOf]; omega
        · have hj8' : j = 8 := by omega
          have hpd0 : (128 :: List.replicate k 0 : List UInt8) ++ lenBs n j = padL n := by rw [HKZ.out, hj8']; rfl
          clear hj8'
          have h0 := HH.out
          clear HH
          generalize (128 :: List.replicate k 0 : List UInt8) ++ lenBs n j = pd at *
          have HH := hid h0
          have HPD := hid hpd0
          clear h0 hpd0
          obtain ⟨s8, hs8⟩ : ∃ s8, (absorb s (r ++ pd)).1 = s8 := ⟨_, rfl⟩
          have HS8 := hid hs8
          clear hs8
          have hpl : r.length + pd.length ≤ 1000000 := by omega
          clear hll hlen
          go_wp2_with (first
            | ((first
                | ((with_reducible apply wpL_skip); rfl; skip)
                | (go_at_call 64; (have hcall_ := hid (take_own w _ g2 gc (objC z32 25) s rvc n exc ao2 cap2 r pd HH.out HE.out hpl)); (with_reducible refine hcall_.out.mono ?_); clear hcall_; rintro e w2 ⟨rfl, rv2, ex, hq_⟩; rw [HS8.out] at hq_; clear HH; have HH := hid hq_; clear hq_)
                | ((with_reducible apply wpL_allocC (dst := some 6) Z25 HH.out); rfl; (intro g6 w_ hq_; clear HH; have HH := hid hq_; clear hq_))
                | ((with_reducible apply wpL_nilCheck); rfl; rfl)
                | ((with_reducible apply wpL_fieldAddr (t := 118)); (first | exact F118_0 | exact F118_1 | exact F118_2 | exact F118_3); rfl; rfl)
                | ((with_reducible apply wpL_loadPart (t := 115) (vs := s8.ws.map wrd) A115 HH.out); rfl; (exact .there (.there .here)); rfl; rfl; rfl)
                | ((with_reducible apply wpL_allocC (dst := some 7) Z115' HH.out); rfl; (intro g7 w_ hq_; clear HH; have HH := hid hq_; clear hq_))
                | ((with_reducible apply wpL_storeC (vs := s8.ws.map wrd) (x := .tmp 7) (sz := 8)); rfl; rfl; (exact S115); (exact HH.out); (exact .here); rfl; (exact wrd_one _); rfl; rfl; (intro w_ hq_; clear HH; have HH := hid hq_; clear hq_))
                | ((with_reducible apply wpL_fieldAddr (t := 115)); (exact F115 _ (by decide)); rfl; rfl)
                | ((with_reducible apply wpL_load1 O105 HH.out); rfl; (exact .here); rfl; rfl)
                | ((with_reducible apply wpList_build (v := valW s8.ws)); (exact build106 s8); rfl)
                | ((with_reducible apply wpL_move); rfl; rfl)
                | ((with_reducible apply wpL_assign); rfl; rfl)
                | ((with_reducible apply wpL_pick); rfl; rfl; rfl)
                | ((with_reducible apply wpL_not); rfl; rfl)
                | ((with_reducible apply wpL_cmp (b := true)); rfl; rfl; rfl; (first | rfl | assumption | (simp only [cmpB, decide_eq_true_eq, decide_eq_false_iff_not, beq_iff_eq, bne_iff_ne, ne_eq, beq_eq_false_iff_ne, bne_eq_false_iff_eq, gt_iff_lt, ge_iff_le]; omega) | (simp; omega)); rfl)
                | ((with_reducible apply wpL_cmp (b := false)); rfl; rfl; rfl; (first | rfl | assumption | (simp only [cmpB, decide_eq_true_eq, decide_eq_false_iff_not, beq_iff_eq, bne_iff_ne, ne_eq, beq_eq_false_iff_ne, bne_eq_false_iff_eq, gt_iff_lt, ge_iff_le]; omega) | (simp; omega)); rfl)
                | ((with_reducible apply wpL_cmp); rfl; rfl; rfl; rfl; rfl)
                | ((with_reducible apply wpL_arith); rfl; rfl; rfl; (exact IntWalk.i64_in _ (by (try simp only [arithI]); omega)); rfl)); (try simp only [arithI, Act.put, Act.eval, List.setIfInBounds_toArray, List.set_cons_succ, List.set_cons_zero, Array.getD_eq_getD_getElem?, List.getElem?_toArray, List.getElem?_cons_succ, List.getElem?_cons_zero, Option.getD_some])))
          have hwl : s8.ws.length = 8 := rfl
          go_loopw [69] (SOutRel w s8 g2 g6 ((gc, objC (hcells s8 rv2 n) 118) :: (exc ++ ex)) [rowB ao2 cap2 pd]) (fun i _ => 8 - (intOf i).toNat)
          case atStart => exact ⟨0, Nat.zero_le _, rfl, by rw [Nat.mul_zero, fillB_zero]; exact HH.out.dropBlk⟩
          case round =>
            obtain ⟨t, ht, rfl, hr⟩ := hrel
            clear HH
            have HH := hid hr
            clear hr
            by_cases htl : t < 8
            · have hs0 := fillB_set (outByte s8) (n := 32) (i := 4 * t) (by omega)
              have hs1 := fillB_set (outByte s8) (n := 32) (i := 4 * t + 1) (by omega)
              have hs2 := fillB_set (outByte s8) (n := 32) (i := 4 * t + 2) (by omega)
              have hs3 := fillB_set (outByte s8) (n := 32) (i := 4 * t + 3) (by omega)
              have o0 := outByte_at s8 t 0 (by omega)
              have o1 := outByte_at s8 t 1 (by omega)
              have o2 := outByte_at s8 t 2 (by omega)
              have o3 := outByte_at s8 t 3 (by omega)
              rw [Nat.add_zero] at o0
              rw [o0] at hs0
              rw [o1] at hs1
              rw [o2] at hs2
              rw [o3, show 24 - 8 * 3 = 0 from rfl, BitVec.ushiftRight_zero] at hs3
              have H0 := hid hs0
              have H1 := hid hs1
              have H2 := hid hs2
              have H3 := hid hs3
              clear hs0 hs1 hs2 hs3 o0 o1 o2 o3
              go_wp2_with (first
                | ((first
                    | ((with_reducible apply wpL_skip); rfl; skip)
                    | ((with_reducible apply wpL_indexV (m := t) (v := wrd (s8.ws.getD t 0)) Try.underlying106 Try.underlying105 rfl S105); rfl; rfl; rfl; (exact htl); (exact wget0 (by omega)); rfl)
                    | ((with_reducible apply wpL_wshr); rfl; rfl; (exact (by decide)); rfl)
                    | ((with_reducible apply wpL_w2b Try.underlying105 Try.underlying5); rfl; rfl)
                    | ((with_reducible apply wpL_indexVar (i := .tmp 74) (m := 4 * t) Try.underlying25 S5'); rfl; rfl; (exact (by omega)); (exact (by omega)); rfl)
                    | ((with_reducible apply wpL_indexVar (i := .tmp 77) (m := 4 * t + 1) Try.underlying25 S5'); rfl; rfl; (exact (by omega)); (exact (by omega)); rfl)
                    | ((with_reducible apply wpL_indexVar (i := .tmp 80) (m := 4 * t + 2) Try.underlying25 S5'); rfl; rfl; (exact (by omega)); (exact (by omega)); rfl)
                    | ((with_reducible apply wpL_indexVar (i := .tmp 83) (m := 4 * t + 3) Try.underlying25 S5'); rfl; rfl; (exact (by omega)); (exact (by omega)); rfl)
                    | ((with_reducible apply wpL_storeBt (x := .tmp 95) (l := fillB (outByte s8) 32 (4 * t)) (m := 4 * t) (v := w2b (s8.ws.getD t 0 >>> (24 - 8 * 0)))); rfl; rfl; (exact S5'); (exact HH.out); (exact .here); (rw [fillB_len]; exact (by omega)); rfl; (intro w_ hq_; rw [H0.out] at hq_; clear HH; have HH := hid hq_; clear hq_))
                    | ((with_reducible apply wpL_storeBt (x := .tmp 96) (l := fillB (outByte s8) 32 (4 * t + 1)) (m := 4 * t + 1) (v := w2b (s8.ws.getD t 0 >>> (24 - 8 * 1)))); rfl; rfl; (exact S5'); (exact HH.out); (exact .here); (rw [fillB_len]; exact (by omega)); rfl; (intro w_ hq_; rw [H1.out] at hq_; clear HH; have HH := hid hq_; clear hq_))
                    | ((with_reducible apply wpL_storeBt (x := .tmp 97) (l := fillB (outByte s8) 32 (4 * t + 2)) (m := 4 * t + 2) (v := w2b (s8.ws.getD t 0 >>> (24 - 8 * 2)))); rfl; rfl; (exact S5'); (exact HH.out); (exact .here); (rw [fillB_len]; exact (by omega)); rfl; (intro w_ hq_; rw [H2.out] at hq_; clear HH; have HH := hid hq_; clear hq_))
                    | ((with_reducible apply wpL_storeBt (x := .tmp 98) (l := fillB (outByte s8) 32 (4 * t + 3)) (m := 4 * t + 3) (v := w2b (s8.ws.getD t 0))); rfl; rfl; (exact S5'); (exact HH.out); (exact .here); (rw [fillB_len]; exact (by omega)); rfl; (intro w_ hq_; rw [H3.out] at hq_; clear HH; have HH := hid hq_; clear hq_))
                    | ((with_reducible apply wpL_move); rfl; rfl)
                    | ((with_reducible apply wpL_assign); rfl; rfl)
                    | ((with_reducible apply wpL_pick); rfl; rfl; rfl)
                    | ((with_reducible apply wpL_not); rfl; rfl)
                    | ((with_reducible apply wpL_cmp (b := true)); rfl; rfl; rfl; (first | rfl | assumption | (simp only [cmpB, decide_eq_true_eq, decide_eq_false_iff_not, beq_iff_eq, bne_iff_ne, ne_eq, beq_eq_false_iff_ne, bne_eq_false_iff_eq, gt_iff_lt, ge_iff_le]; omega) | (simp; omega)); rfl)
                    | ((with_reducible apply wpL_cmp (b := false)); rfl; rfl; rfl; (first | rfl | assumption | (simp only [cmpB, decide_eq_true_eq, decide_eq_false_iff_not, beq_iff_eq, bne_iff_ne, ne_eq, beq_eq_false_iff_ne, bne_eq_false_iff_eq, gt_iff_lt, ge_iff_le]; omega) | (simp; omega)); rfl)
                    | ((with_reducible apply wpL_cmp); rfl; rfl; rfl; rfl; rfl)
                    | ((with_reducible apply wpL_arith); rfl; rfl; rfl; (exact IntWalk.i64_in _ (by (try simp only [arithI]); omega)); rfl)); (try simp only [arithI, Act.put, Act.eval, List.setIfInBounds_toArray, List.set_cons_succ, List.set_cons_zero, Array.getD_eq_getD_getElem?, List.getElem?_toArray, List.getElem?_cons_succ, List.getElem?_cons_zero, Option.getD_some])))
              go_roundw
              case rel => exact ⟨t + 1, by omega, by go_num, by rw [show 4 * (t + 1) = 4 * t + 3 + 1 by omega]; exact HH.out⟩
              case measure => simp [intOf]; omega
            · obtain rfl : t = 8 := by omega
              have h0 := HH.out
              rw [show 4 * 8 = 32 from rfl, fillB_full] at h0
              clear HH
              have HH := hid h0
              clear h0
              go_wp2_with (first
                | ((first
                    | ((with_reducible apply wpL_skip); rfl; skip)
                    | ((with_reducible apply wpL_loadC (x := .tmp 6) A25 HH.out); rfl; (exact .here); rfl; rfl)
                    | ((with_reducible apply wpL_storeC (vs := ((List.range 32).map (outByte s8)).map byt) (x := .tmp 2) (sz := 32)); rfl; rfl; (exact S25); (exact HH.out); (exact .there .here); rfl; (exact byt_cell1 _); rfl; rfl; (intro w_ hq_; clear HH; have HH := hid hq_; clear hq_))
                    | ((with_reducible apply wpL_move); rfl; rfl)
                    | ((with_reducible apply wpL_assign); rfl; rfl)
                    | ((with_reducible apply wpL_pick); rfl; rfl; rfl)
                    | ((with_reducible apply wpL_not); rfl; rfl)
                    | ((with_reducible apply wpL_cmp (b := true)); rfl; rfl; rfl; (first | rfl | assumption | (simp only [cmpB, decide_eq_true_eq, decide_eq_false_iff_not, beq_iff_eq, bne_iff_ne, ne_eq, beq_eq_false_iff_ne, bne_eq_false_iff_eq, gt_iff_lt, ge_iff_le]; omega) | (simp; omega)); rfl)
                    | ((with_reducible apply wpL_cmp (b := false)); rfl; rfl; rfl; (first | rfl | assumption | (simp only [cmpB, decide_eq_true_eq, decide_eq_false_iff_not, beq_iff_eq, bne_iff_ne, ne_eq, beq_eq_false_iff_ne, bne_eq_false_iff_eq, gt_iff_lt, ge_iff_le]; omega) | (simp; omega)); rfl)
                    | ((with_reducible apply wpL_cmp); rfl; rfl; rfl; rfl; rfl)
                    | ((with_reducible apply wpL_arith); rfl; rfl; rfl; (exact IntWalk.i64_in _ (by (try simp only [arithI]); omega)); rfl)); (try simp only [arithI, Act.put, Act.eval, List.setIfInBounds_toArray, List.set_cons_succ, List.set_cons_zero, Array.getD_eq_getD_getElem?, List.getElem?_toArray, List.getElem?_cons_succ, List.getElem?_cons_zero, Option.getD_some])))
              refine bodyPost_ret (res1 rfl (resC A25 HH.out (by rfl) (.there .here) rfl)) rfl ?_
              refine ⟨?_, HH.out.below⟩
              rw [← HPD.out, HS8.out]
              rfl
end Go.Proofs.Ytgkfopodhikckaa
/- Sum of sha256, cut of the laws. Condition: at most a million bytes less a thousand. -/
namespace Go.Proofs.Ytgkfopodhikckaa
open Go.RowKit
theorem write_own (w0 w : World) (g2 gc : Nat) (o2 : Obj) (s : St) (rvc vb : Value) (n : Nat) (exc : List (Nat × Obj)) (rows : List Row) (r b : List UInt8)
    (h : Holds w0 [] ((g2, o2) :: (gc, objC (hcells s rvc n) 118) :: exc) rows w) (hre : RestEx exc rvc r) (h3 : Byts w vb b) (hn : r.length + b.length ≤ 1000000) (hn2 : n ≤ 1000000000) :
    Calls Try.prog 34 #[.pointer (some ⟨gc, 0, none⟩), vb] w (fun e w' => e = .returned (.int .i64 0) ∧ ∃ rv2 ex, RestEx ex rv2 (absorb s (r ++ b)).2 ∧ Holds w0 [] ((g2, o2) :: (gc, objC (hcells (absorb s (r ++ b)).1 rv2 (n + b.length)) 118) :: (exc ++ ex)) rows w') := by
  have h1 : w.heap[gc]? = some (objC (hcells s rvc n) 118) := h.blk (gc, _) (List.mem_cons_of_mem _ List.mem_cons_self)
  have h2 : Byts w rvc r := hre.byts h fun q hq => List.mem_cons_of_mem _ (List.mem_cons_of_mem _ hq)
  refine (write_any w gc s rvc _ r b n h1 h2 h3 hn hn2).mono fun e w' ⟨he, ho⟩ => ⟨he, ?_⟩
  obtain ⟨rv2, ex, bs2, hturn, hre2, _, _, hq⟩ := h.hashBy (.there .here) (fun o' => ⟨_, .there .here⟩) ho
  have e2 : ∀ {o' : Obj} {bs2}, Turn ((g2, o2) :: (gc, objC (hcells s rvc n) 118) :: exc) gc (objC (hcells s rvc n) 118) o' bs2 → g2 ≠ gc → bs2 = (g2, o2) :: (gc, o') :: exc ∨ ∃ l', Turn exc gc (objC (hcells s rvc n) 118) o' l' := by
    intro o' bs2 ht hne
    cases ht with
    | here => exact absurd rfl hne
    | there ht2 =>
      cases ht2 with
      | here => exact .inl rfl
      | there ht3 => exact .inr ⟨_, ht3⟩
  have hs := h.sep
  simp only [List.map_cons, List.cons_append, List.nodup_cons, List.mem_cons, List.mem_append, not_or] at hs
  rcases e2 hturn (fun e => hs.1.1 e) with rfl | ⟨l', ht⟩
  · exact ⟨rv2, ex, hre2, hq⟩
  · exact absurd (List.mem_map.2 ⟨_, ht.own.mem, rfl⟩) hs.2.1.1
set_option maxRecDepth 100000 in
set_option maxHeartbeats 2000000 in
theorem shaSum_any (w : World) (v : Value) (l : List UInt8) (hl : Byts w v l) (hn : l.length ≤ 900000) : Calls Try.prog 20 #[v] w (RetA w (sumB l)) := by
  obtain ⟨ao, cap, rfl, _⟩ := hl.shape
  have HL := hid hl
  clear hl
  have HH := hid (Holds.init w)
  have hsh := absorb_short initS l
  obtain ⟨s1, hs1⟩ : ∃ s1, (absorb initS l).1 = s1 := ⟨_, rfl⟩
  obtain ⟨r1, hr1⟩ : ∃ r1, (absorb initS l).2 = r1 := ⟨_, rfl⟩
  have hsum : sumB l = outB (absorb s1 (r1 ++ padL l.length)).1 := by rw [sumB_absorb, hs1, hr1]
  rw [hsum]
  rw [hr1] at hsh
  have HS1 := hid hs1
  have HR1 := hid hr1
  have N0 := hid (show 0 + l.length = l.length from Nat.zero_add _)
  have NA := hid (show ([] : List UInt8) ++ l = l from rfl)
  clear hs1 hr1 hsum
  go_enter Try.func20, Try.ntmps20
  go_wp2_with (first
    | ((first
        | ((with_reducible apply wpL_skip); rfl; skip)
        | ((with_reducible apply wpL_allocC (dst := some 2) Z25 HH.out); rfl; (intro g2 w_ hq_; clear HH; have HH := hid hq_; clear hq_))
        | (go_at_call 32; refine (new_any _).mono ?_; rintro e w2 ⟨gc, rvc, exc, rfl, hre, hex, hnd, hb⟩; (have hq_ : Holds w [] ((g2, objC z32 25) :: (gc, objC (hcells initS rvc 0) 118) :: exc) [] w2 := HH.out.newBy hex hnd hb); clear HH hb hex hnd; have HH := hid hq_; clear hq_; have HE := hid hre; clear hre)
        | (go_at_call 34; (have hcall_ := hid (write_own w _ g2 gc (objC z32 25) initS rvc _ 0 exc [] [] l HH.out HE.out (HH.out.sl HL.out) (by simp; omega) (by omega))); (with_reducible refine hcall_.out.mono ?_); clear hcall_; rw [NA.out, N0.out, HS1.out, HR1.out]; rintro e w2 ⟨rfl, rv2, ex, hre, hq_⟩; clear HH HE; have HH := hid hq_; have HE := hid hre; clear hq_ hre)
        | (go_at_call 33; (have hcall_ := hid (sum_any _ gc s1 rv2 r1 l.length (HH.out.blk _ (List.mem_cons_of_mem _ List.mem_cons_self)) (HE.out.byts HH.out fun q hq => List.mem_cons_of_mem _ (List.mem_cons_of_mem _ (List.mem_append.2 (.inr hq)))) (by omega) (by omega))); (with_reducible refine hcall_.out.mono ?_); clear hcall_; rintro e w2 ⟨rfl, hb⟩; (have hq_ := HH.out.grow hb); clear HH; have HH := hid hq_; clear hq_ hb)
        | ((with_reducible apply wpL_storeC (vs := (outB (absorb s1 (r1 ++ padL l.length)).1).cells) (x := .tmp 2) (sz := 32)); rfl; rfl; (exact S25); (exact HH.out); (exact .here); (exact Arr.len _); (exact cells_one _); rfl; rfl; (intro w_ hq_; clear HH; have HH := hid hq_; clear hq_))
        | ((with_reducible apply wpL_move); rfl; rfl)
        | ((with_reducible apply wpL_assign); rfl; rfl)
        | ((with_reducible apply wpL_pick); rfl; rfl; rfl)
        | ((with_reducible apply wpL_not); rfl; rfl)
        | ((with_reducible apply wpL_cmp (b := true)); rfl; rfl; rfl; (first | rfl | assumption | (simp only [cmpB, decide_eq_true_eq, decide_eq_false_iff_not, beq_iff_eq, bne_iff_ne, ne_eq, beq_eq_false_iff_ne, bne_eq_false_iff_eq, gt_iff_lt, ge_iff_le]; omega) | (simp; omega)); rfl)
        | ((with_reducible apply wpL_cmp (b := false)); rfl; rfl; rfl; (first | rfl | assumption | (simp only [cmpB, decide_eq_true_eq, decide_eq_false_iff_not, beq_iff_eq, bne_iff_ne, ne_eq, beq_eq_false_iff_ne, bne_eq_false_iff_eq, gt_iff_lt, ge_iff_le]; omega) | (simp; omega)); rfl)
        | ((with_reducible apply wpL_cmp); rfl; rfl; rfl; rfl; rfl)
        | ((with_reducible apply wpL_arith); rfl; rfl; rfl; (exact IntWalk.i64_in _ (by (try simp only [arithI]); omega)); rfl)); (try simp only [arithI, Act.put, Act.eval, List.setIfInBounds_toArray, List.set_cons_succ, List.set_cons_zero, Array.getD_eq_getD_getElem?, List.getElem?_toArray, List.getElem?_cons_succ, List.getElem?_cons_zero, Option.getD_some])))
  refine bodyPost_ret (res1 rfl (resC A25 HH.out (by rfl) .here (Arr.len _))) rfl ?_
  exact ⟨rfl, HH.out.below⟩
end Go.Proofs.Ytgkfopodhikckaa
namespace Go.Proofs.Ytgkfopodhikckaa
open Go.RowKit
section
variable {P : Program} {ops : Array Oper} {rest : List Oper} {a : Act} {dst : Option Tmp} {ty : TypeId} {pos : String} {after : Array Edge} {guard : Option (Nat × Bool)} {w w0 : World} {S : List Nat} {bs : List (Nat × Obj)} {rows : List Row} {Q : Exit → Act → World → Prop}
theorem wpL_convConst {t : TypeId} (ht : P.underlying t = some (.slice 5)) (he : P.underlying 5 = some (.int .u8)) {l : List UInt8} {g n c : Nat} {x : Operand} (hH : Holds w0 S bs (rowB (some ⟨g, 0, none⟩) c l :: rows) w) (hx : a.eval x = .slice (some ⟨g, 0, none⟩) n c) (hn : n = l.length)
    (hg : Region.wanted { dst := dst, op := .convert t t x, type := ty, pos := pos, after := after, guard := guard } (yielded ops a.tmps) = true)
    (h : ∀ w', Holds w0 S bs rows w' → Byts w' (.slice (some ⟨g, 0, none⟩) n c) l → wpList P ops Q rest (a.put dst (.slice (some ⟨g, 0, none⟩) n c)) w') : wpList P ops Q ({ dst := dst, op := .convert t t x, type := ty, pos := pos, after := after, guard := guard } :: rest) a w := by
  subst hn
  have hown := hH.own0
  rcases hown.2 with ⟨hv, _⟩ | ⟨g', cap', cur, hv, hb, hgc, hnc, hm, hs, htake⟩
  · simp at hv
  · simp only [Value.slice.injEq, Option.some.injEq, true_and, Addr.mk.injEq, and_true] at hv
    obtain ⟨rfl, rfl⟩ := hv
    have hsh : w.shape? g = some (5, cur.size) := by simp [World.shape?, hgc]
    have hr : (convert t t (.slice (some ⟨g, 0, none⟩) l.length c)).run P w = .ok (.slice (some ⟨g, 0, none⟩) l.length c) (w.freeze ⟨g, cur.size, none⟩ 1) := by
      simp [convert, run_underlying ht, run_underlying he, markStringish, hsh]
    have hgr : w.grownBy (w.freeze ⟨g, cur.size, none⟩ 1) (some g) := by
      unfold World.freeze
      split
      · exact ⟨rfl, rfl, rfl, Nat.le_refl _, fun _ _ _ => rfl⟩
      · refine ⟨rfl, rfl, rfl, by simp, fun k _ hk => ?_⟩
        simp only [Array.getElem?_modify]
        rw [if_neg (by intro e; exact hk (by rw [← e]))]
    refine wpList_ex hg (v := .slice (some ⟨g, 0, none⟩) l.length c) (w' := w.freeze ⟨g, cur.size, none⟩ 1) ?_ (h _ (hH.lostRow hgr) ?_)
    · simp only [execOp, hx, Sem.run_bind, hr, Result.andThen_ok, Sem.run_pure]
    · refine ⟨_, c, rfl, hnc, by simp, fun j u hu => ⟨_, rfl, ?_⟩⟩
      have hc := hown.cells (g := g) rfl j u hu
      rw [← hc]
      have hadd : (⟨g, 0, none⟩ : Addr).add j = ⟨g, j, none⟩ := by unfold Addr.add; split <;> simp_all
      rw [hadd]
      simp [World.cell?, World.freeze, hgc, Array.getElem?_modify]
theorem wpL_min {t ty' : TypeId} {x y : Operand} {p q r : Int} (hx : a.eval x = .int .i64 p) (hy : a.eval y = .int .i64 q) (hr : (if q < p then q else p) = r)
    (hg : Region.wanted { dst := dst, op := .call { callee := .builtin .min, args := #[x, y], argTypes := #[t, ty'] }, type := ty, pos := pos, after := after, guard := guard } (yielded ops a.tmps) = true)
    (h : wpList P ops Q rest (a.put dst (.int .i64 r)) w) : wpList P ops Q ({ dst := dst, op := .call { callee := .builtin .min, args := #[x, y], argTypes := #[t, ty'] }, type := ty, pos := pos, after := after, guard := guard } :: rest) a w := by
  refine wpList_ex hg ?_ h
  rw [BigFrame.execOp_builtin, BigFrame.builtin_min]
  simp only [List.map_toArray, List.map_cons, List.map_nil, hx, hy, Sem.run_bind, run_min_int2, hr, Result.andThen_ok, Sem.run_pure]
theorem wpL_sliceTo {t e : TypeId} {sz bytes : Nat} (hE : Elem P t e sz bytes) {x hi : Operand} {ao : Option Addr} {n c j : Nat} {q : Int} {k : IntKind} (hx : a.eval x = .slice ao n c) (hh : a.eval hi = .int k q) (hq : q = (j : Int)) (hj : j ≤ c)
    (hg : Region.wanted { dst := dst, op := .slice t x none (some hi) none, type := ty, pos := pos, after := after, guard := guard } (yielded ops a.tmps) = true)
    (h : wpList P ops Q rest (a.put dst (.slice ao j c)) w) : wpList P ops Q ({ dst := dst, op := .slice t x none (some hi) none, type := ty, pos := pos, after := after, guard := guard } :: rest) a w :=
  wpList_ex hg (ex_slice_to (ρ := a.eval) hE hx hh hq hj w) h
end
def RetB (w : World) (b : Bool) (e : Ending) (w' : World) : Prop := e = .returned (.bool b) ∧ Below w.heap.size w w'
theorem RetB.mk {w w' : World} {b c : Bool} (h : b = c) (hb : Below w.heap.size w w') : RetB w c (.returned (.bool b)) w' := ⟨by rw [h], hb⟩
def cutB (l : List UInt8) : List UInt8 := l.take 500
theorem cutB_len (l : List UInt8) : (cutB l).length ≤ 500 := by unfold cutB; rw [List.length_take]; omega
/-- A call that hands back bytes that lay there already. -/
def RetSub (w0 w : World) (l : List UInt8) (e : Ending) (w' : World) : Prop := ∃ ao cap, e = .returned (.slice ao l.length cap) ∧ Byts w0 (.slice ao l.length cap) l ∧ Below w.heap.size w w'
set_option maxRecDepth 100000 in
set_option maxHeartbeats 2000000 in
theorem cut_any (w0 w : World) (v : Value) (l : List UInt8) (hl : Byts w0 v l) : Calls Try.prog 19 #[v] w (RetSub w0 w (cutB l)) := by
  obtain ⟨ao, cap, rfl, hc⟩ := hl.shape
  have HL := hid hl
  clear hl
  have HH := hid (Holds.init w)
  go_enter Try.func19, Try.ntmps19
  go_wp2_with (first
    | ((first
        | ((with_reducible apply wpL_skip); rfl; skip)
        | ((with_reducible apply wpL_min (r := ((min l.length 500 : Nat) : Int))); rfl; rfl; (exact (by split <;> omega)); rfl)
        | ((with_reducible apply wpL_sliceTo (j := min l.length 500) kE22); rfl; rfl; rfl; (exact (by omega)); rfl)
        | ((with_reducible apply wpL_nilCheck); rfl; rfl)
        | ((with_reducible apply wpL_len (t := 22) Try.underlying22); rfl; rfl)
        | ((with_reducible apply wpL_move); rfl; rfl)
        | ((with_reducible apply wpL_assign); rfl; rfl)
        | ((with_reducible apply wpL_pick); rfl; rfl; rfl)
        | ((with_reducible apply wpL_not); rfl; rfl)
        | ((with_reducible apply wpL_cmp (b := true)); rfl; rfl; rfl; (first | rfl | assumption | (simp only [cmpB, decide_eq_true_eq, decide_eq_false_iff_not, beq_iff_eq, bne_iff_ne, ne_eq, beq_eq_false_iff_ne, bne_eq_false_iff_eq, gt_iff_lt, ge_iff_le]; omega) | (simp; omega)); rfl)
        | ((with_reducible apply wpL_cmp (b := false)); rfl; rfl; rfl; (first | rfl | assumption | (simp only [cmpB, decide_eq_true_eq, decide_eq_false_iff_not, beq_iff_eq, bne_iff_ne, ne_eq, beq_eq_false_iff_ne, bne_eq_false_iff_eq, gt_iff_lt, ge_iff_le]; omega) | (simp; omega)); rfl)
        | ((with_reducible apply wpL_cmp); rfl; rfl; rfl; rfl; rfl)
        | ((with_reducible apply wpL_arith); rfl; rfl; rfl; (exact IntWalk.i64_in _ (by (try simp only [arithI]); omega)); rfl)); (try simp only [arithI, Act.put, Act.eval, List.setIfInBounds_toArray, List.set_cons_succ, List.set_cons_zero, Array.getD_eq_getD_getElem?, List.getElem?_toArray, List.getElem?_cons_succ, List.getElem?_cons_zero, Option.getD_some])))
  go_ret
  have hs := HL.out.take (j := min l.length 500) (by omega)
  have e : min l.length 500 = (cutB l).length := by unfold cutB; rw [List.length_take]; omega
  rw [Nat.mul_one] at hs
  refine ⟨ao, cap, by rw [← e]; rfl, Byts.of (by rw [e] at hs; exact hs) rfl ?_, HH.out.below⟩
  unfold cutB
  rw [← List.map_take]
  apply congrArg
  by_cases h : l.length ≤ 500
  · rw [List.take_of_length_le (by rw [List.length_take]; omega), List.take_of_length_le h]
  · rw [show (List.take 500 l).length = 500 by rw [List.length_take]; omega]
set_option maxRecDepth 100000 in
set_option maxHeartbeats 4000000 in
theorem known_any (w : World) : Calls Try.prog 21 #[] w (RetB w true) := by
  have HH := hid (Holds.init w)
  have E1 := hid (show (hexB (sumB []).1 == kwA) = true from by rw [hexkwA]; exact beq_self_eq_true _)
  have E2 := hid (show (hexB (sumB [97, 98, 99]).1 == kwB) = true from by rw [hexkwB]; exact beq_self_eq_true _)
  have E3 := hid (show (hexB (sumB [97, 98, 99, 100, 98, 99, 100, 101, 99, 100, 101, 102, 100, 101, 102, 103, 101, 102, 103, 104, 102, 103, 104, 105, 103, 104, 105, 106, 104, 105, 106, 107, 105, 106, 107, 108, 106, 107, 108, 109, 107, 108, 109, 110, 108, 109, 110, 111, 109, 110, 111, 112, 110, 111, 112, 113]).1 == kwC) = true from by rw [hexkwC]; exact beq_self_eq_true _)
  go_enter Try.func21, Try.ntmps21
  go_wp2_with (first
    | ((first
        | ((with_reducible apply wpL_skip); rfl; skip)
        | (go_at_call 20; (first | ((have hcall_ := hid (shaSum_any _ _ _ HB13.out (by simp))); (with_reducible refine hcall_.out.mono ?_); clear hcall_) | (with_reducible refine (shaSum_any _ _ _ HB13.out (by simp)).mono ?_)); rintro e_ w2_ ⟨rfl, hb_⟩; (have hq_ := HH.out.grow hb_); clear HH; have HH := hid hq_; clear hq_ hb_)
        | (go_at_call 20; (first | ((have hcall_ := hid (shaSum_any _ _ _ HB6.out (by simp))); (with_reducible refine hcall_.out.mono ?_); clear hcall_) | (with_reducible refine (shaSum_any _ _ _ HB6.out (by simp)).mono ?_)); rintro e_ w2_ ⟨rfl, hb_⟩; (have hq_ := HH.out.grow hb_); clear HH; have HH := hid hq_; clear hq_ hb_)
        | (go_at_call 20; (first | ((have hcall_ := hid (shaSum_any _ (.slice none 0 0) [] (Sl.nil _ _) (by simp))); (with_reducible refine hcall_.out.mono ?_); clear hcall_) | (with_reducible refine (shaSum_any _ (.slice none 0 0) [] (Sl.nil _ _) (by simp)).mono ?_)); rintro e_ w2_ ⟨rfl, hb_⟩; (have hq_ := HH.out.grow hb_); clear HH; have HH := hid hq_; clear hq_ hb_)
        | (go_at_call 41; (first | ((have hcall_ := hid (string_any _ (sumB []))); (with_reducible refine hcall_.out.mono ?_); clear hcall_) | (with_reducible refine (string_any _ (sumB [])).mono ?_)); rintro e_ w2_ ⟨rfl, hb_⟩; (have hq_ := HH.out.grow hb_); clear HH; have HH := hid hq_; clear hq_ hb_)
        | (go_at_call 41; (first | ((have hcall_ := hid (string_any _ (sumB [97, 98, 99]))); (with_reducible refine hcall_.out.mono ?_); clear hcall_) | (with_reducible refine (string_any _ (sumB [97, 98, 99])).mono ?_)); rintro e_ w2_ ⟨rfl, hb_⟩; (have hq_ := HH.out.grow hb_); clear HH; have HH := hid hq_; clear hq_ hb_)
        | (go_at_call 41; (first | ((have hcall_ := hid (string_any _ (sumB [97, 98, 99, 100, 98, 99, 100, 101, 99, 100, 101, 102, 100, 101, 102, 103, 101, 102, 103, 104, 102, 103, 104, 105, 103, 104, 105, 106, 104, 105, 106, 107, 105, 106, 107, 108, 106, 107, 108, 109, 107, 108, 109, 110, 108, 109, 110, 111, 109, 110, 111, 112, 110, 111, 112, 113]))); (with_reducible refine hcall_.out.mono ?_); clear hcall_) | (with_reducible refine (string_any _ (sumB [97, 98, 99, 100, 98, 99, 100, 101, 99, 100, 101, 102, 100, 101, 102, 103, 101, 102, 103, 104, 102, 103, 104, 105, 103, 104, 105, 106, 104, 105, 106, 107, 105, 106, 107, 108, 106, 107, 108, 109, 107, 108, 109, 110, 108, 109, 110, 111, 109, 110, 111, 112, 110, 111, 112, 113])).mono ?_)); rintro e_ w2_ ⟨rfl, hb_⟩; (have hq_ := HH.out.grow hb_); clear HH; have HH := hid hq_; clear hq_ hb_)
        | ((with_reducible apply wpL_eqlStr (dst := some 3) (b := true) Try.underlying9); rfl; rfl; (exact E1.out); rfl)
        | ((with_reducible apply wpL_eqlStr (dst := some 9) (b := true) Try.underlying9); rfl; rfl; (exact E2.out); rfl)
        | ((with_reducible apply wpL_eqlStr (dst := some 16) (b := true) Try.underlying9); rfl; rfl; (exact E3.out); rfl)
        | ((with_reducible apply wpL_buildB [97, 98, 99] (dst := some 5)); rfl; rfl; (exact (by omega)); (exact HH.out); rfl; (intro g_ w_ hq_; clear HH; have HH := hid hq_; clear hq_))
        | ((with_reducible apply wpL_buildB [97, 98, 99, 100, 98, 99, 100, 101, 99, 100, 101, 102, 100, 101, 102, 103, 101, 102, 103, 104, 102, 103, 104, 105, 103, 104, 105, 106, 104, 105, 106, 107, 105, 106, 107, 108, 106, 107, 108, 109, 107, 108, 109, 110, 108, 109, 110, 111, 109, 110, 111, 112, 110, 111, 112, 113] (dst := some 12)); rfl; rfl; (exact (by omega)); (exact HH.out); rfl; (intro g_ w_ hq_; clear HH; have HH := hid hq_; clear hq_))
        | ((with_reducible apply wpL_convConst (dst := some 6) (l := [97, 98, 99]) Try.underlying22 Try.underlying5 HH.out); rfl; rfl; rfl; (intro w_ hq_ hb_; clear HH; have HH := hid hq_; have HB6 := hid hb_; clear hq_ hb_))
        | ((with_reducible apply wpL_convConst (dst := some 13) (l := [97, 98, 99, 100, 98, 99, 100, 101, 99, 100, 101, 102, 100, 101, 102, 103, 101, 102, 103, 104, 102, 103, 104, 105, 103, 104, 105, 106, 104, 105, 106, 107, 105, 106, 107, 108, 106, 107, 108, 109, 107, 108, 109, 110, 108, 109, 110, 111, 109, 110, 111, 112, 110, 111, 112, 113]) Try.underlying22 Try.underlying5 HH.out); rfl; rfl; rfl; (intro w_ hq_ hb_; clear HH; have HH := hid hq_; have HB13 := hid hb_; clear hq_ hb_))
        | ((with_reducible apply wpL_nilCheck); rfl; rfl)
        | ((with_reducible apply wpL_move); rfl; rfl)
        | ((with_reducible apply wpL_assign); rfl; rfl)
        | ((with_reducible apply wpL_pick); rfl; rfl; rfl)
        | ((with_reducible apply wpL_not); rfl; rfl)
        | ((with_reducible apply wpL_cmp (b := true)); rfl; rfl; rfl; (first | rfl | assumption | (simp only [cmpB, decide_eq_true_eq, decide_eq_false_iff_not, beq_iff_eq, bne_iff_ne, ne_eq, beq_eq_false_iff_ne, bne_eq_false_iff_eq, gt_iff_lt, ge_iff_le]; omega) | (simp; omega)); rfl)
        | ((with_reducible apply wpL_cmp (b := false)); rfl; rfl; rfl; (first | rfl | assumption | (simp only [cmpB, decide_eq_true_eq, decide_eq_false_iff_not, beq_iff_eq, bne_iff_ne, ne_eq, beq_eq_false_iff_ne, bne_eq_false_iff_eq, gt_iff_lt, ge_iff_le]; omega) | (simp; omega)); rfl)
        | ((with_reducible apply wpL_cmp); rfl; rfl; rfl; rfl; rfl)
        | ((with_reducible apply wpL_arith); rfl; rfl; rfl; (exact IntWalk.i64_in _ (by (try simp only [arithI]); omega)); rfl)); (try simp only [arithI, Act.put, Act.eval, List.setIfInBounds_toArray, List.set_cons_succ, List.set_cons_zero, Array.getD_eq_getD_getElem?, List.getElem?_toArray, List.getElem?_cons_succ, List.getElem?_cons_zero, Option.getD_some])))
  go_ret
  exact RetB.mk rfl HH.out.below
end Go.Proofs.Ytgkfopodhikckaa
