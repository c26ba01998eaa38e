/- Sum of the reference. Condition: at most a million bytes. -/
import Derived.Test.YtgkfopodhikckaaS6
set_option linter.unusedSimpArgs false
set_option linter.unusedVariables false
namespace Go.Proofs.Ytgkfopodhikckaa
open Go.RowKit
theorem A106 : AggT Try.prog 106 8 := ⟨_, Try.underlying106, rfl, by kernel_rfl⟩
theorem S106 : (Try.prog.info? 106).map (·.size) = some 8 := by kernel_rfl
theorem Z106 : (Try.prog.info? 106).map (·.zero) = some (some (.agg z8.toArray)) := by kernel_rfl
theorem build106 (s : St) (w : World) : (Instr.build 106 #[(0, wrd s.a), (1, wrd s.b), (2, wrd s.c), (3, wrd s.d), (4, wrd s.e), (5, wrd s.f), (6, wrd s.g), (7, wrd s.h)]).run Try.prog w = .ok (valW s.ws) w := by kernel_rfl
def rndN (s : St) (W : Nat → W32) : Nat → St
  | 0 => s
  | t + 1 => roundS (rndN s W t) (kL.getD t 0) (W t)
/-- The state after a block of 64 bytes. -/
def blockS (s : St) (b : List UInt8) : St := plusS s (rndN s (schW b) 64)
def outByte (s : St) (i : Nat) : UInt8 := w2b (s.ws.getD (i / 4) 0 >>> (24 - 8 * (i % 4)))
def outB (s : St) : Arr 32 := ⟨(List.range 32).map (outByte s), by simp⟩
/-- The state after t blocks. -/
def blocksN (p : List UInt8) : Nat → St
  | 0 => initS
  | t + 1 => blockS (blocksN p t) ((p.drop (64 * t)).take 64)
def z32 : List Value := (List.replicate 32 (0 : UInt8)).map byt
def z64 : List Value := (List.replicate 64 (0 : W32)).map wrd
theorem Z24 : (Try.prog.info? 24).map (·.zero) = some (some (.agg z32.toArray)) := by kernel_rfl
theorem A24 : AggT Try.prog 24 32 := ⟨_, Try.underlying24, rfl, by kernel_rfl⟩
theorem S24 : (Try.prog.info? 24).map (·.size) = some 32 := by kernel_rfl
theorem S5' : (Try.prog.info? 5).map (·.size) = some 1 := by kernel_rfl
/-- The first i of the words are added to. -/
def addW (h v : List W32) (i : Nat) : List W32 := (List.range 8).map fun j => if j < i then h.getD j 0 + v.getD j 0 else h.getD j 0
theorem addW_len (h v : List W32) (i : Nat) : (addW h v i).length = 8 := by simp [addW]
theorem addW_get {h v : List W32} {i : Nat} (hi : i < 8) : (addW h v i).getD i 0 = h.getD i 0 := by simp [addW, hi]
theorem addW_set (h v : List W32) {i : Nat} (hi : i < 8) : (addW h v i).set i (h.getD i 0 + v.getD i 0) = addW h v (i + 1) := by
  apply List.ext_getElem
  · simp [addW]
  · intro j h1 h2
    rw [List.getElem_set]
    simp only [addW, List.getElem_map, List.getElem_range]
    by_cases hij : i = j
    · subst hij; simp
    · rw [if_neg hij]
      by_cases hj : j < i
      · rw [if_pos hj, if_pos (by omega)]
      · rw [if_neg hj, if_neg (by omega)]
theorem addW_zero (s : St) (v : List W32) : addW s.ws v 0 = s.ws := rfl
theorem addW_full (s v : St) : addW s.ws v.ws 8 = (plusS s v).ws := rfl
def fillB (f : Nat → UInt8) (n i : Nat) : List UInt8 := (List.range n).map fun j => if j < i then f j else 0
theorem fillB_len (f : Nat → UInt8) (n i : Nat) : (fillB f n i).length = n := by simp [fillB]
theorem fillB_zero (f : Nat → UInt8) (n : Nat) : fillB f n 0 = List.replicate n 0 := by
  apply List.ext_getElem? ; intro j
  simp only [fillB, List.getElem?_map, List.getElem?_range, Nat.not_lt_zero, if_false, List.getElem?_replicate]
  by_cases h : j < n
  · simp [h]
  · simp [h]
theorem fillB_set (f : Nat → UInt8) {n i : Nat} (h : i < n) : (fillB f n i).set i (f i) = fillB f n (i + 1) := by
  apply List.ext_getElem
  · simp [fillB]
  · intro j h1 h2
    rw [List.getElem_set]
    simp only [fillB, List.getElem_map, List.getElem_range]
    by_cases hij : i = j
    · subst hij; simp
    · rw [if_neg hij]
      by_cases hj : j < i
      · rw [if_pos hj, if_pos (by omega)]
      · rw [if_neg hj, if_neg (by omega)]
theorem fillB_full (f : Nat → UInt8) (n : Nat) : fillB f n n = (List.range n).map f := by
  unfold fillB
  apply List.map_congr_left
  intro j hj
  rw [if_pos (by simpa using hj)]
section
variable {w w0 : World} {S : List Nat} {bs bs' : List (Nat × Obj)} {rows : List Row} {ops : Array Oper} {rest : List Oper} {a : Act} {dst : Option Tmp} {ty : TypeId} {pos : String} {after : Array Edge} {guard : Option (Nat × Bool)} {Q : Exit → Act → World → Prop} {P : Program}
theorem wpL_storeBt {t : TypeId} {x y : Operand} {g m : Nat} {l : List UInt8} {v : UInt8} {e : TypeId}
    (hx : a.eval x = .pointer (some ⟨g, 0 + m, none⟩)) (hy : a.eval y = byt v) (hi : (P.info? t).map (·.size) = some 1)
    (hH : Holds w0 S bs rows w) (ht : Turn bs g (objC (l.map byt) e) (objC ((l.set m v).map byt) e) bs') (hc : m < l.length)
    (hg : Region.wanted { dst := dst, op := .store t x y, type := ty, pos := pos, after := after, guard := guard } (yielded ops a.tmps) = true)
    (h : ∀ w', Holds w0 S bs' rows w' → wpList P ops Q rest (a.put dst undef) w') :
    wpList P ops Q ({ dst := dst, op := .store t x y, type := ty, pos := pos, after := after, guard := guard } :: rest) a w := by
  rw [Nat.zero_add] at hx
  rw [List.map_set] at ht
  exact wpL_store1 hx hy rfl hi hH ht rfl (by simpa using hc) hg h
theorem wpL_quoN {t yt : TypeId} {x y : Operand} {p q : Int} {m n : Nat} (hx : a.eval x = .int .i64 p) (hy : a.eval y = .int .i64 q) (hp : p = (m : Int)) (hq : q = (n : Int)) (hn : 0 < n) (hm : m < 9223372036854775807)
    (hg : Region.wanted { dst := dst, op := .binOp .quo t x y yt, type := ty, pos := pos, after := after, guard := guard } (yielded ops a.tmps) = true)
    (h : wpList P ops Q rest (a.put dst (.int .i64 ((m / n : Nat) : Int))) w) : wpList P ops Q ({ dst := dst, op := .binOp .quo t x y yt, type := ty, pos := pos, after := after, guard := guard } :: rest) a w := by
  subst hp hq
  refine wpList_ex hg ?_ h
  have he : ∀ u v, eqGuard .quo t x y u v = pure () := fun _ _ => rfl
  have hr : (binOp .quo t (.int .i64 (m : Int)) (.int .i64 (n : Int))).run P w = .ok (.int .i64 ((m / n : Nat) : Int)) w := by
    show (Op.intDiv .quo .i64 (m : Int) (n : Int)).run P w = _
    have h0 : ¬ (n : Int) = 0 := by omega
    have h1 : IntKind.i64.wrap ((m : Int).tdiv (n : Int)) = ((m / n : Nat) : Int) := by rw [IntWalk.i64_quo _ _ ⟨by omega, by omega, by omega⟩]; norm_cast
    simp only [Op.intDiv, h0, if_false, Sem.run_pure, h1]
  simp only [execOp, hx, hy, Sem.run_bind, he, Sem.run_pure, Result.andThen_ok, hr]
theorem wpL_wshrN {t yt : TypeId} {x y : Operand} {p : W32} {k : IntKind} {n : Int} {m : Nat} (hx : a.eval x = wrd p) (hy : a.eval y = .int k n) (hn : n = (m : Int)) (hm : m < 32)
    (hg : Region.wanted { dst := dst, op := .binOp .shr t x y yt, type := ty, pos := pos, after := after, guard := guard } (yielded ops a.tmps) = true)
    (h : wpList P ops Q rest (a.put dst (wrd (p >>> m))) w) : wpList P ops Q ({ dst := dst, op := .binOp .shr t x y yt, type := ty, pos := pos, after := after, guard := guard } :: rest) a w := by
  subst hn
  exact wpL_wshr hx hy (by omega) hg (by simpa using h)
/-- x[lo:hi] of a slice of bytes. -/
theorem wpL_sliceB {x lo hi : Operand} {ad : Addr} {n c i j : Nat} {p q : Int} (hx : a.eval x = .slice (some ad) n c) (hl : a.eval lo = .int .i64 p) (hh : a.eval hi = .int .i64 q) (hp : p = (i : Int)) (hq : q = (j : Int)) (hij : i < j) (hj : j ≤ c)
    (hg : Region.wanted { dst := dst, op := .slice 22 x (some lo) (some hi) none, type := ty, pos := pos, after := after, guard := guard } (yielded ops a.tmps) = true)
    (h : wpList Try.prog ops Q rest (a.put dst (.slice (some (ad.add i)) (j - i) (c - i))) w) :
    wpList Try.prog ops Q ({ dst := dst, op := .slice 22 x (some lo) (some hi) none, type := ty, pos := pos, after := after, guard := guard } :: rest) a w := by
  subst hp hq
  refine wpList_ex hg ?_ h
  obtain ⟨ht, hsz, _, ii, z, hi', _, hsize, _, _⟩ := E22
  have h2 : ∀ w, (sizeOf 5).run Try.prog w = .ok 1 w := run_sizeOf (by rw [hi']; simp [hsize])
  have h3 : i ≤ j := by omega
  have h4 : ¬ c = i := by omega
  have h5 : j ≤ c := hj
  simp [execOp, hx, hl, hh, Instr.sliceAt, Instr.slice, Instr.sliceBounds, Instr.sliceBound, asIntOf, run_underlying ht, h2, h3, h4, h5]
end
theorem Byts.sub {w : World} {ad : Addr} {cap i j : Nat} {l : List UInt8} (h : Byts w (.slice (some ad) l.length cap) l) (hij : i < j) (hj : j ≤ l.length) : Byts w (.slice (some (ad.add i)) (j - i) (cap - i)) ((l.drop i).take (j - i)) := by
  have h1 := h.dropm (j := i) (by omega)
  have h2 := h1.take (j := j - i) (by omega)
  rw [Nat.mul_one, Nat.mul_one, ← List.map_drop, ← List.map_take] at h2
  exact Byts.of h2 (by simp; omega) rfl
def SumRel (w : World) (p : List UInt8) (ap : Option Addr) (cp g2 g3 g4 : Nat) (i : Value) (wr : World) : Prop :=
  ∃ t : Nat, 64 * t ≤ p.length ∧ i = .int .i64 (64 * t) ∧ Holds w [] [(g4, objC (kL.map wrd) 107), (g3, objC ((blocksN p t).ws.map wrd) 106), (g2, objC z32 24)] [rowB ap cp p] wr
def RndRel (w : World) (p b : List UInt8) (h : St) (ap : Option Addr) (cp g2 g3 g4 g7 g8 : Nat) (i : Value) (wr : World) : Prop :=
  ∃ t : Nat, t ≤ 64 ∧ i = .int .i64 t ∧ Holds w [] [(g8, objC ((rndN h (schW b) t).ws.map wrd) 106), (g7, objC (((List.range 64).map (schW b)).map wrd) 107), (g4, objC (kL.map wrd) 107), (g3, objC (h.ws.map wrd) 106), (g2, objC z32 24)] [rowB ap cp p] wr
def AddRel (w : World) (p b : List UInt8) (h v : St) (ap : Option Addr) (cp g2 g3 g4 g7 g8 : Nat) (i : Value) (wr : World) : Prop :=
  ∃ t : Nat, t ≤ 8 ∧ i = .int .i64 t ∧ Holds w [] [(g8, objC (v.ws.map wrd) 106), (g7, objC (((List.range 64).map (schW b)).map wrd) 107), (g4, objC (kL.map wrd) 107), (g3, objC ((addW h.ws v.ws t).map wrd) 106), (g2, objC z32 24)] [rowB ap cp p] wr
def OutRel (w : World) (p : List UInt8) (h : St) (ap : Option Addr) (cp g2 g3 g4 g13 : Nat) (i : Value) (wr : World) : Prop :=
  ∃ t : Nat, t ≤ 32 ∧ i = .int .i64 t ∧ Holds w [] [(g13, objC ((fillB (outByte h) 32 t).map byt) 24), (g4, objC (kL.map wrd) 107), (g3, objC (h.ws.map wrd) 106), (g2, objC z32 24)] [rowB ap cp p] wr
/-- The digest. -/
def sumB (l : List UInt8) : Arr 32 := outB (blocksN (l ++ padL l.length) ((l ++ padL l.length).length / 64))
def RetA {n : Nat} (w : World) (x : Arr n) (e : Ending) (w' : World) : Prop := e = .returned x.val ∧ Below w.heap.size w w'
set_option maxRecDepth 100000 in
set_option maxHeartbeats 4000000 in
theorem sumR_any (w : World) (v : Value) (l : List UInt8) (hl : Byts w v l) (hn : l.length ≤ 1000000) : Calls Try.prog 22 #[v] w (RetA w (sumB l)) := by
  obtain ⟨ao, cap, rfl, _⟩ := hl.shape
  have HL := hid hl
  clear hl
  have HH := hid (Holds.init w)
  obtain ⟨p, hp⟩ : ∃ p, l ++ padL l.length = p := ⟨_, rfl⟩
  rw [show sumB l = outB (blocksN p (p.length / 64)) by unfold sumB; rw [hp]]
  have hpl : p.length % 64 = 0 ∧ p.length ≤ 1000200 := by
    rw [← hp]
    simp only [padL, lenBs, List.length_append, List.length_cons, List.length_replicate, List.length_map, List.length_range, padZ]
    omega
  obtain ⟨hp1, hp2⟩ := hpl
  have HP := hid hp
  clear hp
  go_enter Try.func22, Try.ntmps22
  go_wp2_with (first
    | ((first
        | ((with_reducible apply wpL_skip); rfl; skip)
        | ((with_reducible apply wpL_allocC (dst := some 2) Z24 HH.out); rfl; (intro g2 w_ hq_; clear HH; have HH := hid hq_; clear hq_))
        | ((with_reducible apply wpList_build (dst := some 15) (v := valW initS.ws)); (exact build106 initS); rfl)
        | ((with_reducible apply wpL_allocC (dst := some 3) Z106 HH.out); rfl; (intro g3 w_ hq_; clear HH; have HH := hid hq_; clear hq_))
        | ((with_reducible apply wpL_storeC (vs := initS.ws.map wrd) (x := .tmp 3) (sz := 8)); rfl; rfl; (exact S106); (exact HH.out); (exact .here); rfl; (exact wrd_one _); rfl; rfl; (intro w_ hq_; clear HH; have HH := hid hq_; clear hq_))
        | (go_at_call 57; refine (constantsR_any _).mono ?_; rintro e w2 ⟨rfl, hb⟩; (have hq_ := HH.out.grow hb); clear HH; have HH := hid hq_; clear hq_ hb)
        | ((with_reducible apply wpL_allocC (dst := some 4) Z107 HH.out); rfl; (intro g4 w_ hq_; clear HH; have HH := hid hq_; clear hq_))
        | ((with_reducible apply wpL_storeC (vs := kL.map wrd) (x := .tmp 4) (sz := 64)); rfl; rfl; (exact S107); (exact HH.out); (exact .here); rfl; (exact wrd_one _); rfl; rfl; (intro w_ hq_; clear HH; have HH := hid hq_; clear hq_))
        | (go_at_call 58; refine (padded_any _ _ l (HH.out.sl HL.out) hn).mono ?_; rw [HP.out]; rintro e w2 ⟨ap, cp, rfl, hr⟩; (have hq_ := HH.out.addRow hr.2 hr.1); clear HH; have HH := hid hq_; clear hq_ hr)
        | ((with_reducible apply wpL_move); rfl; rfl)
        | ((with_reducible apply wpL_assign); rfl; rfl)
        | ((with_reducible apply wpL_pick); rfl; rfl; rfl)
        | ((with_reducible apply wpL_not); rfl; rfl)
        | ((with_reducible apply wpL_cmp (b := true)); rfl; rfl; rfl; (first | rfl | assumption | (simp only [cmpB, decide_eq_true_eq, decide_eq_false_iff_not, beq_iff_eq, bne_iff_ne, ne_eq, beq_eq_false_iff_ne, bne_eq_false_iff_eq, gt_iff_lt, ge_iff_le]; omega) | (simp; omega)); rfl)
        | ((with_reducible apply wpL_cmp (b := false)); rfl; rfl; rfl; (first | rfl | assumption | (simp only [cmpB, decide_eq_true_eq, decide_eq_false_iff_not, beq_iff_eq, bne_iff_ne, ne_eq, beq_eq_false_iff_ne, bne_eq_false_iff_eq, gt_iff_lt, ge_iff_le]; omega) | (simp; omega)); rfl)
        | ((with_reducible apply wpL_cmp); rfl; rfl; rfl; rfl; rfl)
        | ((with_reducible apply wpL_arith); rfl; rfl; rfl; (exact IntWalk.i64_in _ (by (try simp only [arithI]); omega)); rfl)); (try simp only [arithI, Act.put, Act.eval, List.setIfInBounds_toArray, List.set_cons_succ, List.set_cons_zero, Array.getD_eq_getD_getElem?, List.getElem?_toArray, List.getElem?_cons_succ, List.getElem?_cons_zero, Option.getD_some])))
  go_loopw [6] (SumRel w p ap cp g2 g3 g4) (fun i _ => p.length - (intOf i).toNat)
  case atStart => exact ⟨0, Nat.zero_le _, rfl, HH.out⟩
  case round =>
    obtain ⟨t, ht, rfl, hr⟩ := hrel
    clear HH
    have HH := hid hr
    clear hr
    by_cases hlt : 64 * t < p.length
    · have hle : 64 * t + 64 ≤ p.length := by omega
      obtain ⟨ad, cp', e⟩ := HH.out.sl0.some (by omega)
      cases e
      have hcap := HH.out.sl0.cap.2
      have hsub := hid (Byts.sub (i := 64 * t) (j := 64 * t + 64) HH.out.sl0 (by omega) hle)
      have e64 : 64 * t + 64 - 64 * t = 64 := by omega
      obtain ⟨b, hb⟩ : ∃ b, (p.drop (64 * t)).take 64 = b := ⟨_, rfl⟩
      have HBk := hid hb
      have hbl : b.length = 64 := by rw [← hb]; simp; omega
      have HSub : Hid (Byts _ (.slice (some (ad.add (64 * t))) 64 (cp - 64 * t)) b) := hid (by have h := hsub.out; rw [e64, hb] at h; exact Byts.of h (by omega) rfl)
      clear hsub hb
      go_wp2_with (first
        | ((first
            | ((with_reducible apply wpL_skip); rfl; skip)
            | ((with_reducible apply wpL_sliceB (i := 64 * t) (j := 64 * t + 64)); rfl; rfl; rfl; (exact (by omega)); (exact (by omega)); (exact (by omega)); (exact (by omega)); rfl; (rw [e64]))
            | (go_at_call 59; refine (schedule_any _ _ b HSub.out (by omega)).mono ?_; rintro e w2 ⟨rfl, hb⟩; (have hq_ := HH.out.grow hb); clear HH; have HH := hid hq_; clear hq_ hb)
            | ((with_reducible apply wpL_allocC (dst := some 7) Z107 HH.out); rfl; (intro g7 w_ hq_; clear HH; have HH := hid hq_; clear hq_))
            | ((with_reducible apply wpL_storeC (vs := ((List.range 64).map (schW b)).map wrd) (x := .tmp 7) (sz := 64)); rfl; rfl; (exact S107); (exact HH.out); (exact .here); rfl; (exact wrd_one _); rfl; rfl; (intro w_ hq_; clear HH; have HH := hid hq_; clear hq_))
            | ((with_reducible apply wpL_loadC (x := .tmp 3) A106 HH.out); rfl; (exact .there (.there .here)); rfl; rfl)
            | ((with_reducible apply wpL_allocC (dst := some 8) Z106 HH.out); rfl; (intro g8 w_ hq_; clear HH; have HH := hid hq_; clear hq_))
            | ((with_reducible apply wpL_storeC (vs := (blocksN p t).ws.map wrd) (x := .tmp 8) (sz := 8)); rfl; rfl; (exact S106); (exact HH.out); (exact .here); rfl; (exact wrd_one _); rfl; rfl; (intro w_ hq_; clear HH; have HH := hid hq_; clear hq_))
            | ((with_reducible apply wpL_move); rfl; rfl)
            | ((with_reducible apply wpL_assign); rfl; rfl)
            | ((with_reducible apply wpL_pick); rfl; rfl; rfl)
            | ((with_reducible apply wpL_not); rfl; rfl)
            | ((with_reducible apply wpL_cmp (b := true)); rfl; rfl; rfl; (first | rfl | assumption | (simp only [cmpB, decide_eq_true_eq, decide_eq_false_iff_not, beq_iff_eq, bne_iff_ne, ne_eq, beq_eq_false_iff_ne, bne_eq_false_iff_eq, gt_iff_lt, ge_iff_le]; omega) | (simp; omega)); rfl)
            | ((with_reducible apply wpL_cmp (b := false)); rfl; rfl; rfl; (first | rfl | assumption | (simp only [cmpB, decide_eq_true_eq, decide_eq_false_iff_not, beq_iff_eq, bne_iff_ne, ne_eq, beq_eq_false_iff_ne, bne_eq_false_iff_eq, gt_iff_lt, ge_iff_le]; omega) | (simp; omega)); rfl)
            | ((with_reducible apply wpL_cmp); rfl; rfl; rfl; rfl; rfl)
            | ((with_reducible apply wpL_arith); rfl; rfl; rfl; (exact IntWalk.i64_in _ (by (try simp only [arithI]); omega)); rfl)); (try simp only [arithI, Act.put, Act.eval, List.setIfInBounds_toArray, List.set_cons_succ, List.set_cons_zero, Array.getD_eq_getD_getElem?, List.getElem?_toArray, List.getElem?_cons_succ, List.getElem?_cons_zero, Option.getD_some])))
      go_loopw [9] (RndRel w p b (blocksN p t) (some ad) cp g2 g3 g4 g7 g8) (fun i _ => 64 - (intOf i).toNat)
      case atStart => exact ⟨0, Nat.zero_le _, rfl, HH.out⟩
      case round =>
        obtain ⟨r, hr64, rfl, hr⟩ := hrel
        clear HH
        have HH := hid hr
        clear hr
        by_cases hrl : r < 64
        · have hkl : kL.length = 64 := rfl
          have hsl : ((List.range 64).map (schW b)).length = 64 := by simp
          have hsg : ((List.range 64).map (schW b)).getD r 0 = schW b r := by simp [hrl]
          have HSG := hid (show (((List.range 64).map (schW b)).map wrd)[0 + r]? = some (wrd (schW b r)) by rw [← hsg]; exact wget (by omega))
          clear hsg
          go_wp2_with (first
            | ((first
                | ((with_reducible apply wpL_skip); rfl; skip)
                | ((with_reducible apply wpL_move); rfl; rfl)
                | ((with_reducible apply wpL_assign); rfl; rfl)
                | ((with_reducible apply wpL_pick); rfl; rfl; rfl)
                | ((with_reducible apply wpL_not); rfl; rfl)
                | ((with_reducible apply wpL_cmp (b := true)); rfl; rfl; rfl; (first | rfl | assumption | (simp only [cmpB, decide_eq_true_eq, decide_eq_false_iff_not, beq_iff_eq, bne_iff_ne, ne_eq, beq_eq_false_iff_ne, bne_eq_false_iff_eq, gt_iff_lt, ge_iff_le]; omega) | (simp; omega)); rfl)
                | ((with_reducible apply wpL_cmp (b := false)); rfl; rfl; rfl; (first | rfl | assumption | (simp only [cmpB, decide_eq_true_eq, decide_eq_false_iff_not, beq_iff_eq, bne_iff_ne, ne_eq, beq_eq_false_iff_ne, bne_eq_false_iff_eq, gt_iff_lt, ge_iff_le]; omega) | (simp; omega)); rfl)
                | ((with_reducible apply wpL_cmp); rfl; rfl; rfl; rfl; rfl)
                | ((with_reducible apply wpL_arith); rfl; rfl; rfl; (exact IntWalk.i64_in _ (by (try simp only [arithI]); omega)); rfl)); (try simp only [arithI, Act.put, Act.eval, List.setIfInBounds_toArray, List.set_cons_succ, List.set_cons_zero, Array.getD_eq_getD_getElem?, List.getElem?_toArray, List.getElem?_cons_succ, List.getElem?_cons_zero, Option.getD_some])))
          refine wp_region_holds (by kernel_rfl) (by kernel_rfl) HH.out ?_
          repeat ((first
            | ((with_reducible apply wpQ_skip); rfl; skip)
            | ((with_reducible apply wpQ_indexVar (i := .tmp 63) (m := r) Try.underlying107 S105); rfl; rfl; rfl; (exact hrl); rfl)
            | ((with_reducible apply wpQ_indexVar (i := .tmp 67) (m := r) Try.underlying107 S105); rfl; rfl; rfl; (exact hrl); rfl)
            | ((with_reducible apply wpQ_load1 (x := .tmp 64) (v := wrd (kL.getD r 0)) O105); rfl; (exact .there (.there .here)); (exact wget (by omega)); rfl)
            | ((with_reducible apply wpQ_load1 (x := .tmp 68) (v := wrd (schW b r)) O105); rfl; (exact .there .here); (exact HSG.out); rfl)
            | ((with_reducible apply wpQ_indexVar Try.underlying106 S105); rfl; rfl; (first | exact (rfl : (0 : Int) = ((0 : Nat) : Int)) | exact (rfl : (1 : Int) = ((1 : Nat) : Int)) | exact (rfl : (2 : Int) = ((2 : Nat) : Int)) | exact (rfl : (3 : Int) = ((3 : Nat) : Int)) | exact (rfl : (4 : Int) = ((4 : Nat) : Int)) | exact (rfl : (5 : Int) = ((5 : Nat) : Int)) | exact (rfl : (6 : Int) = ((6 : Nat) : Int)) | exact (rfl : (7 : Int) = ((7 : Nat) : Int))); (exact (by decide)); rfl)
            | ((with_reducible apply wpQ_load1 O105); rfl; (exact .here); rfl; rfl)
            | ((with_reducible apply wpQ_rotate); rfl; rfl; (exact (by decide)); rfl)
            | ((with_reducible apply wpQ_wop); rfl; rfl; rfl; rfl)
            | ((with_reducible apply wpQ_wnot); rfl; rfl)
            | ((with_reducible apply wpQ_move); rfl; rfl)
            | ((with_reducible apply wpQ_assign); rfl; rfl)
            | ((with_reducible apply wpQ_pick); rfl; rfl; rfl)
            | ((with_reducible apply wpQ_not); rfl; rfl)
            | ((with_reducible apply wpQ_cmp (b := true)); rfl; rfl; rfl; (first | rfl | assumption | (simp only [cmpB, decide_eq_true_eq, decide_eq_false_iff_not, beq_iff_eq, bne_iff_ne, ne_eq, beq_eq_false_iff_ne, bne_eq_false_iff_eq, gt_iff_lt, ge_iff_le]; omega) | (simp; omega)); rfl)
            | ((with_reducible apply wpQ_cmp (b := false)); rfl; rfl; rfl; (first | rfl | assumption | (simp only [cmpB, decide_eq_true_eq, decide_eq_false_iff_not, beq_iff_eq, bne_iff_ne, ne_eq, beq_eq_false_iff_ne, bne_eq_false_iff_eq, gt_iff_lt, ge_iff_le]; omega) | (simp; omega)); rfl)
            | ((with_reducible apply wpQ_cmp); rfl; rfl; rfl; rfl; rfl)
            | ((with_reducible apply wpQ_arith); rfl; rfl; rfl; (exact IntWalk.i64_in _ (by (try simp only [arithI]); omega)); rfl)); simp only [arithI, Act.put, Act.eval, List.setIfInBounds_toArray, List.set_cons_succ, List.set_cons_zero, Array.getD_eq_getD_getElem?, List.getElem?_toArray, List.getElem?_cons_succ, List.getElem?_cons_zero, Option.getD_some])
          refine wpQuiet_nil ?_
          intro wq hq_
          have HQ := hid hq_
          clear hq_
          go_wp2
          refine wp_region_holds (by kernel_rfl) (by kernel_rfl) HQ.out ?_
          repeat ((first
            | ((with_reducible apply wpQ_skip); rfl; skip)
            | ((with_reducible apply wpQ_indexVar Try.underlying106 S105); rfl; rfl; (first | exact (rfl : (0 : Int) = ((0 : Nat) : Int)) | exact (rfl : (1 : Int) = ((1 : Nat) : Int)) | exact (rfl : (2 : Int) = ((2 : Nat) : Int)) | exact (rfl : (3 : Int) = ((3 : Nat) : Int)) | exact (rfl : (4 : Int) = ((4 : Nat) : Int)) | exact (rfl : (5 : Int) = ((5 : Nat) : Int)) | exact (rfl : (6 : Int) = ((6 : Nat) : Int)) | exact (rfl : (7 : Int) = ((7 : Nat) : Int))); (exact (by decide)); rfl)
            | ((with_reducible apply wpQ_load1 O105); rfl; (exact .here); rfl; rfl)
            | ((with_reducible apply wpQ_rotate); rfl; rfl; (exact (by decide)); rfl)
            | ((with_reducible apply wpQ_wop); rfl; rfl; rfl; rfl)
            | ((with_reducible apply wpQ_wnot); rfl; rfl)
            | ((with_reducible apply wpQ_move); rfl; rfl)
            | ((with_reducible apply wpQ_assign); rfl; rfl)
            | ((with_reducible apply wpQ_pick); rfl; rfl; rfl)
            | ((with_reducible apply wpQ_not); rfl; rfl)
            | ((with_reducible apply wpQ_cmp (b := true)); rfl; rfl; rfl; (first | rfl | assumption | (simp only [cmpB, decide_eq_true_eq, decide_eq_false_iff_not, beq_iff_eq, bne_iff_ne, ne_eq, beq_eq_false_iff_ne, bne_eq_false_iff_eq, gt_iff_lt, ge_iff_le]; omega) | (simp; omega)); rfl)
            | ((with_reducible apply wpQ_cmp (b := false)); rfl; rfl; rfl; (first | rfl | assumption | (simp only [cmpB, decide_eq_true_eq, decide_eq_false_iff_not, beq_iff_eq, bne_iff_ne, ne_eq, beq_eq_false_iff_ne, bne_eq_false_iff_eq, gt_iff_lt, ge_iff_le]; omega) | (simp; omega)); rfl)
            | ((with_reducible apply wpQ_cmp); rfl; rfl; rfl; rfl; rfl)
            | ((with_reducible apply wpQ_arith); rfl; rfl; rfl; (exact IntWalk.i64_in _ (by (try simp only [arithI]); omega)); rfl)); simp only [arithI, Act.put, Act.eval, List.setIfInBounds_toArray, List.set_cons_succ, List.set_cons_zero, Array.getD_eq_getD_getElem?, List.getElem?_toArray, List.getElem?_cons_succ, List.getElem?_cons_zero, Option.getD_some])
          refine wpQuiet_nil ?_
          intro wq hq_
          have HR := hid hq_
          clear hq_
          clear HH HQ
          have HH := HR
          clear HR
          go_wp2_with (first
            | ((first
                | ((with_reducible apply wpL_skip); rfl; skip)
                | ((with_reducible apply wpL_indexVar Try.underlying106 S105); rfl; rfl; (first | exact (rfl : (0 : Int) = ((0 : Nat) : Int)) | exact (rfl : (1 : Int) = ((1 : Nat) : Int)) | exact (rfl : (2 : Int) = ((2 : Nat) : Int)) | exact (rfl : (3 : Int) = ((3 : Nat) : Int)) | exact (rfl : (4 : Int) = ((4 : Nat) : Int)) | exact (rfl : (5 : Int) = ((5 : Nat) : Int)) | exact (rfl : (6 : Int) = ((6 : Nat) : Int)) | exact (rfl : (7 : Int) = ((7 : Nat) : Int))); (exact (by decide)); rfl)
                | ((with_reducible apply wpL_load1 O105 HH.out); rfl; (exact .here); rfl; rfl)
                | ((with_reducible apply wpL_wop); rfl; rfl; rfl; rfl)
                | ((with_reducible apply wpList_build (v := valW (roundS (rndN (blocksN p t) (schW b) r) (kL.getD r 0) (schW b r)).ws)); (exact build106 (roundS (rndN (blocksN p t) (schW b) r) (kL.getD r 0) (schW b r))); rfl)
                | ((with_reducible apply wpL_storeC (vs := (roundS (rndN (blocksN p t) (schW b) r) (kL.getD r 0) (schW b r)).ws.map wrd) (x := .tmp 8) (sz := 8)); rfl; rfl; (exact S106); (exact HH.out); (exact .here); rfl; (exact wrd_one _); rfl; rfl; (intro w_ hq_; clear HH; have HH := hid hq_; clear hq_))
                | ((with_reducible apply wpL_move); rfl; rfl)
                | ((with_reducible apply wpL_assign); rfl; rfl)
                | ((with_reducible apply wpL_pick); rfl; rfl; rfl)
                | ((with_reducible apply wpL_not); rfl; rfl)
                | ((with_reducible apply wpL_cmp (b := true)); rfl; rfl; rfl; (first | rfl | assumption | (simp only [cmpB, decide_eq_true_eq, decide_eq_false_iff_not, beq_iff_eq, bne_iff_ne, ne_eq, beq_eq_false_iff_ne, bne_eq_false_iff_eq, gt_iff_lt, ge_iff_le]; omega) | (simp; omega)); rfl)
                | ((with_reducible apply wpL_cmp (b := false)); rfl; rfl; rfl; (first | rfl | assumption | (simp only [cmpB, decide_eq_true_eq, decide_eq_false_iff_not, beq_iff_eq, bne_iff_ne, ne_eq, beq_eq_false_iff_ne, bne_eq_false_iff_eq, gt_iff_lt, ge_iff_le]; omega) | (simp; omega)); rfl)
                | ((with_reducible apply wpL_cmp); rfl; rfl; rfl; rfl; rfl)
                | ((with_reducible apply wpL_arith); rfl; rfl; rfl; (exact IntWalk.i64_in _ (by (try simp only [arithI]); omega)); rfl)); (try simp only [arithI, Act.put, Act.eval, List.setIfInBounds_toArray, List.set_cons_succ, List.set_cons_zero, Array.getD_eq_getD_getElem?, List.getElem?_toArray, List.getElem?_cons_succ, List.getElem?_cons_zero, Option.getD_some])))
          go_roundw
          case rel => exact ⟨r + 1, by omega, by go_num, HH.out⟩
          case measure => simp [intOf]; omega
        · obtain rfl : r = 64 := by omega
          obtain ⟨v8, hv8⟩ : ∃ v8, rndN (blocksN p t) (schW b) 64 = v8 := ⟨_, rfl⟩
          obtain ⟨h8, hh8⟩ : ∃ h8, blocksN p t = h8 := ⟨_, rfl⟩
          have HV := hid hv8
          have HB8 := hid hh8
          have h0 := HH.out
          rw [hv8, hh8] at h0
          clear HH hv8
          have HH := hid h0
          clear h0
          have hvl : v8.ws.length = 8 := rfl
          go_wp2_with (first
            | ((first
                | ((with_reducible apply wpL_skip); rfl; skip)
                | ((with_reducible apply wpL_move); rfl; rfl)
                | ((with_reducible apply wpL_assign); rfl; rfl)
                | ((with_reducible apply wpL_pick); rfl; rfl; rfl)
                | ((with_reducible apply wpL_not); rfl; rfl)
                | ((with_reducible apply wpL_cmp (b := true)); rfl; rfl; rfl; (first | rfl | assumption | (simp only [cmpB, decide_eq_true_eq, decide_eq_false_iff_not, beq_iff_eq, bne_iff_ne, ne_eq, beq_eq_false_iff_ne, bne_eq_false_iff_eq, gt_iff_lt, ge_iff_le]; omega) | (simp; omega)); rfl)
                | ((with_reducible apply wpL_cmp (b := false)); rfl; rfl; rfl; (first | rfl | assumption | (simp only [cmpB, decide_eq_true_eq, decide_eq_false_iff_not, beq_iff_eq, bne_iff_ne, ne_eq, beq_eq_false_iff_ne, bne_eq_false_iff_eq, gt_iff_lt, ge_iff_le]; omega) | (simp; omega)); rfl)
                | ((with_reducible apply wpL_cmp); rfl; rfl; rfl; rfl; rfl)
                | ((with_reducible apply wpL_arith); rfl; rfl; rfl; (exact IntWalk.i64_in _ (by (try simp only [arithI]); omega)); rfl)); (try simp only [arithI, Act.put, Act.eval, List.setIfInBounds_toArray, List.set_cons_succ, List.set_cons_zero, Array.getD_eq_getD_getElem?, List.getElem?_toArray, List.getElem?_cons_succ, List.getElem?_cons_zero, Option.getD_some])))
          go_loopw [12] (AddRel w p b h8 v8 (some ad) cp g2 g3 g4 g7 g8) (fun i _ => 8 - (intOf i).toNat)
          case atStart => exact ⟨0, Nat.zero_le _, rfl, HH.out⟩
          case round =>
            obtain ⟨q, hq8, rfl, hr⟩ := hrel
            clear HH
            have HH := hid hr
            clear hr
            by_cases hql : q < 8
            · have hal := addW_len h8.ws v8.ws q
              have HG := hid (show ((addW h8.ws v8.ws q).map wrd)[0 + q]? = some (wrd (h8.ws.getD q 0)) by rw [← addW_get (v := v8.ws) hql]; exact wget (by omega))
              have HS := hid (addW_set h8.ws v8.ws hql)
              go_wp2_with (first
                | ((first
                    | ((with_reducible apply wpL_skip); rfl; skip)
                    | ((with_reducible apply wpL_move); rfl; rfl)
                    | ((with_reducible apply wpL_assign); rfl; rfl)
                    | ((with_reducible apply wpL_pick); rfl; rfl; rfl)
                    | ((with_reducible apply wpL_not); rfl; rfl)
                    | ((with_reducible apply wpL_cmp (b := true)); rfl; rfl; rfl; (first | rfl | assumption | (simp only [cmpB, decide_eq_true_eq, decide_eq_false_iff_not, beq_iff_eq, bne_iff_ne, ne_eq, beq_eq_false_iff_ne, bne_eq_false_iff_eq, gt_iff_lt, ge_iff_le]; omega) | (simp; omega)); rfl)
                    | ((with_reducible apply wpL_cmp (b := false)); rfl; rfl; rfl; (first | rfl | assumption | (simp only [cmpB, decide_eq_true_eq, decide_eq_false_iff_not, beq_iff_eq, bne_iff_ne, ne_eq, beq_eq_false_iff_ne, bne_eq_false_iff_eq, gt_iff_lt, ge_iff_le]; omega) | (simp; omega)); rfl)
                    | ((with_reducible apply wpL_cmp); rfl; rfl; rfl; rfl; rfl)
                    | ((with_reducible apply wpL_arith); rfl; rfl; rfl; (exact IntWalk.i64_in _ (by (try simp only [arithI]); omega)); rfl)); (try simp only [arithI, Act.put, Act.eval, List.setIfInBounds_toArray, List.set_cons_succ, List.set_cons_zero, Array.getD_eq_getD_getElem?, List.getElem?_toArray, List.getElem?_cons_succ, List.getElem?_cons_zero, Option.getD_some])))
              refine wp_region_tailQ 9 (by kernel_rfl) (by kernel_rfl) (by kernel_rfl) HH.out ?_
              simp only [List.take_succ_cons, List.take_zero, List.drop_succ_cons, List.drop_zero]
              repeat ((first
                | ((with_reducible apply wpQ_skip); rfl; skip)
                | ((with_reducible apply wpQ_indexVar (m := q) Try.underlying106 S105); rfl; rfl; rfl; (exact hql); rfl)
                | ((with_reducible apply wpQ_load1 (x := .tmp 126) (v := wrd (h8.ws.getD q 0)) O105); rfl; (exact .there (.there (.there .here))); (exact HG.out); rfl)
                | ((with_reducible apply wpQ_load1 (x := .tmp 129) (v := wrd (v8.ws.getD q 0)) O105); rfl; (exact .here); (exact wget (by omega)); rfl)
                | ((with_reducible apply wpQ_wop); rfl; rfl; rfl; rfl)
                | ((with_reducible apply wpQ_move); rfl; rfl)
                | ((with_reducible apply wpQ_assign); rfl; rfl)
                | ((with_reducible apply wpQ_pick); rfl; rfl; rfl)
                | ((with_reducible apply wpQ_not); rfl; rfl)
                | ((with_reducible apply wpQ_cmp (b := true)); rfl; rfl; rfl; (first | rfl | assumption | (simp only [cmpB, decide_eq_true_eq, decide_eq_false_iff_not, beq_iff_eq, bne_iff_ne, ne_eq, beq_eq_false_iff_ne, bne_eq_false_iff_eq, gt_iff_lt, ge_iff_le]; omega) | (simp; omega)); rfl)
                | ((with_reducible apply wpQ_cmp (b := false)); rfl; rfl; rfl; (first | rfl | assumption | (simp only [cmpB, decide_eq_true_eq, decide_eq_false_iff_not, beq_iff_eq, bne_iff_ne, ne_eq, beq_eq_false_iff_ne, bne_eq_false_iff_eq, gt_iff_lt, ge_iff_le]; omega) | (simp; omega)); rfl)
                | ((with_reducible apply wpQ_cmp); rfl; rfl; rfl; rfl; rfl)
                | ((with_reducible apply wpQ_arith); rfl; rfl; rfl; (exact IntWalk.i64_in _ (by (try simp only [arithI]); omega)); rfl)); simp only [arithI, Act.put, Act.eval, List.setIfInBounds_toArray, List.set_cons_succ, List.set_cons_zero, Array.getD_eq_getD_getElem?, List.getElem?_toArray, List.getElem?_cons_succ, List.getElem?_cons_zero, Option.getD_some])
              refine wpQuiet_nil ?_
              intro wq hq_
              have HQ := hid hq_
              clear hq_
              clear HH
              have HH := HQ
              clear HQ
              go_wp2_with (first
                | ((first
                    | ((with_reducible apply wpL_skip); rfl; skip)
                    | ((with_reducible apply wpL_storeW (l := addW h8.ws v8.ws q) (m := q) (v := h8.ws.getD q 0 + v8.ws.getD q 0)); rfl; rfl; (exact S105); (exact HH.out); (exact .there (.there (.there .here))); (exact (by omega)); rfl; (intro w_ hq_; rw [HS.out] at hq_; clear HH; have HH := hid hq_; clear hq_))
                    | ((with_reducible apply wpL_move); rfl; rfl)
                    | ((with_reducible apply wpL_assign); rfl; rfl)
                    | ((with_reducible apply wpL_pick); rfl; rfl; rfl)
                    | ((with_reducible apply wpL_not); rfl; rfl)
                    | ((with_reducible apply wpL_cmp (b := true)); rfl; rfl; rfl; (first | rfl | assumption | (simp only [cmpB, decide_eq_true_eq, decide_eq_false_iff_not, beq_iff_eq, bne_iff_ne, ne_eq, beq_eq_false_iff_ne, bne_eq_false_iff_eq, gt_iff_lt, ge_iff_le]; omega) | (simp; omega)); rfl)
                    | ((with_reducible apply wpL_cmp (b := false)); rfl; rfl; rfl; (first | rfl | assumption | (simp only [cmpB, decide_eq_true_eq, decide_eq_false_iff_not, beq_iff_eq, bne_iff_ne, ne_eq, beq_eq_false_iff_ne, bne_eq_false_iff_eq, gt_iff_lt, ge_iff_le]; omega) | (simp; omega)); rfl)
                    | ((with_reducible apply wpL_cmp); rfl; rfl; rfl; rfl; rfl)
                    | ((with_reducible apply wpL_arith); rfl; rfl; rfl; (exact IntWalk.i64_in _ (by (try simp only [arithI]); omega)); rfl)); (try simp only [arithI, Act.put, Act.eval, List.setIfInBounds_toArray, List.set_cons_succ, List.set_cons_zero, Array.getD_eq_getD_getElem?, List.getElem?_toArray, List.getElem?_cons_succ, List.getElem?_cons_zero, Option.getD_some])))
              go_roundw
              case rel => exact ⟨q + 1, by omega, by go_num, HH.out⟩
              case measure => simp [intOf]; omega
            · obtain rfl : q = 8 := by omega
              have hnext : (plusS h8 v8) = blocksN p (t + 1) := by
                rw [blocksN, HBk.out, HB8.out]; unfold blockS; rw [← HV.out, HB8.out]
              have h0 := HH.out
              rw [addW_full, hnext] at h0
              clear HH
              have HH := hid h0.dropBlk.dropBlk
              clear h0 hnext
              go_wp2_with (first
                | ((first
                    | ((with_reducible apply wpL_skip); rfl; skip)
                    | ((with_reducible apply wpL_move); rfl; rfl)
                    | ((with_reducible apply wpL_assign); rfl; rfl)
                    | ((with_reducible apply wpL_pick); rfl; rfl; rfl)
                    | ((with_reducible apply wpL_not); rfl; rfl)
                    | ((with_reducible apply wpL_cmp (b := true)); rfl; rfl; rfl; (first | rfl | assumption | (simp only [cmpB, decide_eq_true_eq, decide_eq_false_iff_not, beq_iff_eq, bne_iff_ne, ne_eq, beq_eq_false_iff_ne, bne_eq_false_iff_eq, gt_iff_lt, ge_iff_le]; omega) | (simp; omega)); rfl)
                    | ((with_reducible apply wpL_cmp (b := false)); rfl; rfl; rfl; (first | rfl | assumption | (simp only [cmpB, decide_eq_true_eq, decide_eq_false_iff_not, beq_iff_eq, bne_iff_ne, ne_eq, beq_eq_false_iff_ne, bne_eq_false_iff_eq, gt_iff_lt, ge_iff_le]; omega) | (simp; omega)); rfl)
                    | ((with_reducible apply wpL_cmp); rfl; rfl; rfl; rfl; rfl)
                    | ((with_reducible apply wpL_arith); rfl; rfl; rfl; (exact IntWalk.i64_in _ (by (try simp only [arithI]); omega)); rfl)); (try simp only [arithI, Act.put, Act.eval, List.setIfInBounds_toArray, List.set_cons_succ, List.set_cons_zero, Array.getD_eq_getD_getElem?, List.getElem?_toArray, List.getElem?_cons_succ, List.getElem?_cons_zero, Option.getD_some])))
              go_roundw
              case rel => exact ⟨t + 1, by omega, by go_num, HH.out⟩
              case measure => simp [intOf]; omega
    · have ht64 : t = p.length / 64 := by omega
      obtain ⟨h8, hh8⟩ : ∃ h8, blocksN p t = h8 := ⟨_, rfl⟩
      have HB8 := hid hh8
      have HT := hid ht64
      have h0 := HH.out
      rw [hh8] at h0
      clear HH hh8 ht64
      have HH := hid h0
      clear h0
      have hwl : h8.ws.length = 8 := rfl
      go_wp2_with (first
        | ((first
            | ((with_reducible apply wpL_skip); rfl; skip)
            | ((with_reducible apply wpL_allocC (dst := some 13) Z24 HH.out); rfl; (intro g13 w_ hq_; clear HH; have HH := hid hq_; clear hq_))
            | ((with_reducible apply wpL_move); rfl; rfl)
            | ((with_reducible apply wpL_assign); rfl; rfl)
            | ((with_reducible apply wpL_pick); rfl; rfl; rfl)
            | ((with_reducible apply wpL_not); rfl; rfl)
            | ((with_reducible apply wpL_cmp (b := true)); rfl; rfl; rfl; (first | rfl | assumption | (simp only [cmpB, decide_eq_true_eq, decide_eq_false_iff_not, beq_iff_eq, bne_iff_ne, ne_eq, beq_eq_false_iff_ne, bne_eq_false_iff_eq, gt_iff_lt, ge_iff_le]; omega) | (simp; omega)); rfl)
            | ((with_reducible apply wpL_cmp (b := false)); rfl; rfl; rfl; (first | rfl | assumption | (simp only [cmpB, decide_eq_true_eq, decide_eq_false_iff_not, beq_iff_eq, bne_iff_ne, ne_eq, beq_eq_false_iff_ne, bne_eq_false_iff_eq, gt_iff_lt, ge_iff_le]; omega) | (simp; omega)); rfl)
            | ((with_reducible apply wpL_cmp); rfl; rfl; rfl; rfl; rfl)
            | ((with_reducible apply wpL_arith); rfl; rfl; rfl; (exact IntWalk.i64_in _ (by (try simp only [arithI]); omega)); rfl)); (try simp only [arithI, Act.put, Act.eval, List.setIfInBounds_toArray, List.set_cons_succ, List.set_cons_zero, Array.getD_eq_getD_getElem?, List.getElem?_toArray, List.getElem?_cons_succ, List.getElem?_cons_zero, Option.getD_some])))
      go_loopw [14] (OutRel w p h8 ap cp g2 g3 g4 g13) (fun i _ => 32 - (intOf i).toNat)
      case atStart => exact ⟨0, Nat.zero_le _, rfl, by rw [fillB_zero]; exact HH.out⟩
      case round =>
        obtain ⟨q, hq32, rfl, hr⟩ := hrel
        clear HH
        have HH := hid hr
        clear hr
        by_cases hql : q < 32
        · have hfl := fillB_len (outByte h8) 32 q
          have HS := hid (fillB_set (outByte h8) hql)
          have hq4 : q / 4 < 8 := by omega
          have hq5 : q % 4 < 4 := Nat.mod_lt _ (by omega)
          go_wp2_with (first
            | ((first
                | ((with_reducible apply wpL_skip); rfl; skip)
                | ((with_reducible apply wpL_quoN (m := q) (n := 4)); rfl; rfl; rfl; rfl; (exact (by omega)); (exact (by omega)); rfl)
                | ((with_reducible apply wpL_remN (m := q) (n := 4)); rfl; rfl; rfl; rfl; (exact (by omega)); (exact (by omega)); (exact (by omega)); rfl)
                | ((with_reducible apply wpL_indexVar (m := q / 4) Try.underlying106 S105); rfl; rfl; rfl; (exact hq4); rfl)
                | ((with_reducible apply wpL_load1 (v := wrd (h8.ws.getD (q / 4) 0)) O105 HH.out); rfl; (exact .there (.there .here)); (exact wget (by omega)); rfl)
                | ((with_reducible apply wpL_wshrN (m := 24 - 8 * (q % 4))); rfl; rfl; (exact (by omega)); (exact (by omega)); rfl)
                | ((with_reducible apply wpL_w2b Try.underlying105 Try.underlying5); rfl; rfl)
                | ((with_reducible apply wpL_indexVar (m := q) Try.underlying24 S5'); rfl; rfl; rfl; (exact hql); rfl)
                | ((with_reducible apply wpL_storeBt (l := fillB (outByte h8) 32 q) (m := q) (v := outByte h8 q)); rfl; rfl; (exact S5'); (exact HH.out); (exact .here); (exact (by omega)); rfl; (intro w_ hq_; rw [HS.out] at hq_; clear HH; have HH := hid hq_; clear hq_))
                | ((with_reducible apply wpL_move); rfl; rfl)
                | ((with_reducible apply wpL_assign); rfl; rfl)
                | ((with_reducible apply wpL_pick); rfl; rfl; rfl)
                | ((with_reducible apply wpL_not); rfl; rfl)
                | ((with_reducible apply wpL_cmp (b := true)); rfl; rfl; rfl; (first | rfl | assumption | (simp only [cmpB, decide_eq_true_eq, decide_eq_false_iff_not, beq_iff_eq, bne_iff_ne, ne_eq, beq_eq_false_iff_ne, bne_eq_false_iff_eq, gt_iff_lt, ge_iff_le]; omega) | (simp; omega)); rfl)
                | ((with_reducible apply wpL_cmp (b := false)); rfl; rfl; rfl; (first | rfl | assumption | (simp only [cmpB, decide_eq_true_eq, decide_eq_false_iff_not, beq_iff_eq, bne_iff_ne, ne_eq, beq_eq_false_iff_ne, bne_eq_false_iff_eq, gt_iff_lt, ge_iff_le]; omega) | (simp; omega)); rfl)
                | ((with_reducible apply wpL_cmp); rfl; rfl; rfl; rfl; rfl)
                | ((with_reducible apply wpL_arith); rfl; rfl; rfl; (exact IntWalk.i64_in _ (by (try simp only [arithI]); omega)); rfl)); (try simp only [arithI, Act.put, Act.eval, List.setIfInBounds_toArray, List.set_cons_succ, List.set_cons_zero, Array.getD_eq_getD_getElem?, List.getElem?_toArray, List.getElem?_cons_succ, List.getElem?_cons_zero, Option.getD_some])))
          go_roundw
          case rel => exact ⟨q + 1, by omega, by go_num, HH.out⟩
          case measure => simp [intOf]; omega
        · obtain rfl : q = 32 := by omega
          have h0 := HH.out
          rw [fillB_full] at h0
          clear HH
          have HH := hid h0
          clear h0
          go_wp2_with (first
            | ((first
                | ((with_reducible apply wpL_skip); rfl; skip)
                | ((with_reducible apply wpL_loadC (x := .tmp 13) A24 HH.out); rfl; (exact .here); rfl; rfl)
                | ((with_reducible apply wpL_storeC (vs := ((List.range 32).map (outByte h8)).map byt) (x := .tmp 2) (sz := 32)); rfl; rfl; (exact S24); (exact HH.out); (exact .there (.there (.there .here))); rfl; (exact byt_cell1 _); rfl; rfl; (intro w_ hq_; clear HH; have HH := hid hq_; clear hq_))
                | ((with_reducible apply wpL_move); rfl; rfl)
                | ((with_reducible apply wpL_assign); rfl; rfl)
                | ((with_reducible apply wpL_pick); rfl; rfl; rfl)
                | ((with_reducible apply wpL_not); rfl; rfl)
                | ((with_reducible apply wpL_cmp (b := true)); rfl; rfl; rfl; (first | rfl | assumption | (simp only [cmpB, decide_eq_true_eq, decide_eq_false_iff_not, beq_iff_eq, bne_iff_ne, ne_eq, beq_eq_false_iff_ne, bne_eq_false_iff_eq, gt_iff_lt, ge_iff_le]; omega) | (simp; omega)); rfl)
                | ((with_reducible apply wpL_cmp (b := false)); rfl; rfl; rfl; (first | rfl | assumption | (simp only [cmpB, decide_eq_true_eq, decide_eq_false_iff_not, beq_iff_eq, bne_iff_ne, ne_eq, beq_eq_false_iff_ne, bne_eq_false_iff_eq, gt_iff_lt, ge_iff_le]; omega) | (simp; omega)); rfl)
                | ((with_reducible apply wpL_cmp); rfl; rfl; rfl; rfl; rfl)
                | ((with_reducible apply wpL_arith); rfl; rfl; rfl; (exact IntWalk.i64_in _ (by (try simp only [arithI]); omega)); rfl)); (try simp only [arithI, Act.put, Act.eval, List.setIfInBounds_toArray, List.set_cons_succ, List.set_cons_zero, Array.getD_eq_getD_getElem?, List.getElem?_toArray, List.getElem?_cons_succ, List.getElem?_cons_zero, Option.getD_some])))
          refine bodyPost_ret (res1 rfl (resC A24 HH.out (by rfl) (.there (.there (.there .here))) rfl)) rfl ?_
          refine ⟨?_, HH.out.below⟩
          rw [← HT.out, HB8.out]
          rfl
end Go.Proofs.Ytgkfopodhikckaa
