/- Sum of sha256's Hash. Condition: at most a million bytes. -/
import Derived.Test.YtgkfopodhikckaaS9
set_option linter.unusedSimpArgs false
set_option linter.unusedVariables false
namespace Go.Proofs.Ytgkfopodhikckaa
open Go.RowKit
theorem Z25 : (Try.prog.info? 25).map (·.zero) = some (some (.agg z32.toArray)) := by kernel_rfl
theorem A25 : AggT Try.prog 25 32 := ⟨_, Try.underlying25, rfl, by kernel_rfl⟩
theorem S25 : (Try.prog.info? 25).map (·.size) = some 32 := by kernel_rfl
theorem outByte_at (s : St) (i c : Nat) (hc : c < 4) : outByte s (4 * i + c) = w2b (s.ws.getD i 0 >>> (24 - 8 * c)) := by
  unfold outByte
  rw [show (4 * i + c) / 4 = i by omega, show (4 * i + c) % 4 = c by omega]
def SPadRel1 (w : World) (n : Nat) (g2 gc : Nat) (o : Obj) (exc : List (Nat × Obj)) (v : Value) (wr : World) : Prop :=
  ∃ k : Nat, k ≤ padZ n ∧ ∃ ao cap, v = .slice ao (128 :: List.replicate k 0 : List UInt8).length cap ∧ Holds w [] ((g2, objC z32 25) :: (gc, o) :: exc) [rowB ao cap (128 :: List.replicate k 0)] wr
def SPadRel2 (w : World) (l : List UInt8) (n : Nat) (g2 gc : Nat) (o : Obj) (exc : List (Nat × Obj)) (v i : Value) (wr : World) : Prop :=
  ∃ j : Nat, j ≤ 8 ∧ i = .int .i64 (7 - j) ∧ ∃ ao cap, v = .slice ao (l ++ lenBs n j).length cap ∧ Holds w [] ((g2, objC z32 25) :: (gc, o) :: exc) [rowB ao cap (l ++ lenBs n j)] wr
def SOutRel (w : World) (h : St) (g2 g6 : Nat) (bs : List (Nat × Obj)) (rows : List Row) (i : Value) (wr : World) : Prop :=
  ∃ t : Nat, t ≤ 8 ∧ i = .int .i64 t ∧ Holds w [] ((g6, objC ((fillB (outByte h) 32 (4 * t)).map byt) 25) :: (g2, objC z32 25) :: bs) rows wr
theorem Holds.swapBlk {w0 w : World} {S : List Nat} {p q : Nat × Obj} {bs : List (Nat × Obj)} {rows : List Row} (h : Holds w0 S (p :: q :: bs) rows w) : Holds w0 S (q :: p :: bs) rows w := by
  refine ⟨h.os, h.tape, h.output, h.size, h.old, fun x hx => h.blk x ?_, fun x hx => h.frs x ?_, h.row, ?_, h.inS⟩
  · simp only [List.mem_cons] at hx ⊢; rcases hx with a | a | a
    · exact .inr (.inl a)
    · exact .inl a
    · exact .inr (.inr a)
  · simp only [List.mem_cons] at hx ⊢; rcases hx with a | a | a
    · exact .inr (.inl a)
    · exact .inl a
    · exact .inr (.inr a)
  · have hs := h.sep
    simp only [List.map_cons, List.cons_append, List.nodup_cons, List.mem_cons, not_or] at hs ⊢
    exact ⟨⟨fun e => hs.1.1 e.symm, hs.2.1⟩, hs.1.2, hs.2.2⟩
theorem take_own (w0 w : World) (g2 gc : Nat) (o2 : Obj) (s : St) (rvc : Value) (n : Nat) (exc : List (Nat × Obj)) (ao : Option Addr) (cap : Nat) (r b : List UInt8)
    (h : Holds w0 [] ((g2, o2) :: (gc, objC (hcells s rvc n) 118) :: exc) [rowB ao cap b] w) (hre : RestEx exc rvc r) (hn : r.length + b.length ≤ 1000000) :
    Calls Try.prog 64 #[.pointer (some ⟨gc, 0, none⟩), .slice ao b.length cap] w (fun e w' => e = .returned (.tuple #[]) ∧ ∃ rv2 ex, Holds w0 [] ((g2, o2) :: (gc, objC (hcells (absorb s (r ++ b)).1 rv2 n) 118) :: (exc ++ ex)) [rowB ao cap b] w') := by
  have h1 : w.heap[gc]? = some (objC (hcells s rvc n) 118) := h.blk (gc, _) (List.mem_cons_of_mem _ List.mem_cons_self)
  have h2 : Byts w rvc r := hre.byts h fun q hq => List.mem_cons_of_mem _ (List.mem_cons_of_mem _ hq)
  have h3 : Byts w (.slice ao b.length cap) b := h.sl0
  refine (take_any w gc s rvc _ r b n h1 h2 h3 hn).mono fun e w' ⟨he, ho⟩ => ⟨he, ?_⟩
  obtain ⟨rv2, ex, bs2, hturn, _, _, _, hq⟩ := h.hashBy (.there .here) (fun o' => ⟨_, .there .here⟩) ho
  have e2 : ∀ {o' : Obj} {bs2}, Turn ((g2, o2) :: (gc, objC (hcells s rvc n) 118) :: exc) gc (objC (hcells s rvc n) 118) o' bs2 → g2 ≠ gc → bs2 = (g2, o2) :: (gc, o') :: exc ∨ ∃ l', Turn exc gc (objC (hcells s rvc n) 118) o' l' := by
    intro o' bs2 ht hne
    cases ht with
    | here => exact absurd rfl hne
    | there ht2 =>
      cases ht2 with
      | here => exact .inl rfl
      | there ht3 => exact .inr ⟨_, ht3⟩
  have hs := h.sep
  simp only [List.map_cons, List.cons_append, List.nodup_cons, List.mem_cons, List.mem_append, not_or] at hs
  rcases e2 hturn (fun e => hs.1.1 e) with rfl | ⟨l', ht⟩
  · exact ⟨rv2, ex, hq⟩
  · exact absurd (List.mem_map.2 ⟨_, ht.own.mem, rfl⟩) hs.2.1.1
set_option maxRecDepth 100000 in
set_option maxHeartbeats 4000000 in
theorem sum_any (w : World) (g : Nat) (s : St) (rv : Value) (r : List UInt8) (n : Nat) (hg : w.heap[g]? = some (objC (hcells s rv n) 118)) (hr : Byts w rv r) (hrl : r.length ≤ 1000000 - 1000) (hn : n ≤ 1000000) :
    Calls Try.prog 33 #[.pointer (some ⟨g, 0, none⟩)] w (RetA w (outB (absorb s (r ++ padL n)).1)) := by
  have HH := hid (Holds.init w)
  have HG := hid hg
  have HR := hid hr
  clear hg hr
  go_enter Try.func33, Try.ntmps33
  go_wp2_with (first
    | ((first
        | ((with_reducible apply wpL_skip); rfl; skip)
        | ((with_reducible apply wpL_allocC (dst := some 2) Z25 HH.out); rfl; (intro g2 w_ hq_; clear HH; have HH := hid hq_; clear hq_))
        | (go_at_call 40; refine (clone_any _ g s rv r n (by have := HH.out.old g (Array.getElem?_eq_some_iff.1 HG.out).1 (by simp); rw [this]; exact HG.out) (HH.out.sl HR.out) (by omega)).mono ?_; rintro e w2 ⟨gc, rvc, exc, rfl, hre, hex, hnd, hb⟩; (have hq_ : Holds w [] ((g2, objC z32 25) :: (gc, objC (hcells s rvc n) 118) :: exc) [] w2 := HH.out.newBy hex hnd hb); clear HH hb hex hnd; have HH := hid hq_; clear hq_; have HE := hid hre; clear hre)
        | ((with_reducible apply wpL_buildB [128] (dst := some 15)); rfl; rfl; (exact (by omega)); (exact HH.out); rfl; (intro g_ w_ hq_; clear HH; have HH := hid hq_; clear hq_))
        | ((with_reducible apply wpL_move); rfl; rfl)
        | ((with_reducible apply wpL_assign); rfl; rfl)
        | ((with_reducible apply wpL_pick); rfl; rfl; rfl)
        | ((with_reducible apply wpL_not); rfl; rfl)
        | ((with_reducible apply wpL_cmp (b := true)); rfl; rfl; rfl; (first | rfl | assumption | (simp only [cmpB, decide_eq_true_eq, decide_eq_false_iff_not, beq_iff_eq, bne_iff_ne, ne_eq, beq_eq_false_iff_ne, bne_eq_false_iff_eq, gt_iff_lt, ge_iff_le]; omega) | (simp; omega)); rfl)
        | ((with_reducible apply wpL_cmp (b := false)); rfl; rfl; rfl; (first | rfl | assumption | (simp only [cmpB, decide_eq_true_eq, decide_eq_false_iff_not, beq_iff_eq, bne_iff_ne, ne_eq, beq_eq_false_iff_ne, bne_eq_false_iff_eq, gt_iff_lt, ge_iff_le]; omega) | (simp; omega)); rfl)
        | ((with_reducible apply wpL_cmp); rfl; rfl; rfl; rfl; rfl)
        | ((with_reducible apply wpL_arith); rfl; rfl; rfl; (exact IntWalk.i64_in _ (by (try simp only [arithI]); omega)); rfl)); (try simp only [arithI, Act.put, Act.eval, List.setIfInBounds_toArray, List.set_cons_succ, List.set_cons_zero, Array.getD_eq_getD_getElem?, List.getElem?_toArray, List.getElem?_cons_succ, List.getElem?_cons_zero, Option.getD_some])))
  go_loopw [4] (SPadRel1 w n g2 gc (objC (hcells s rvc n) 118) exc) (fun v _ => 1 + padZ n - lenV v)
  case atStart => exact ⟨0, Nat.zero_le _, _, _, rfl, HH.out⟩
  case round =>
    obtain ⟨k, hk, ao1, cap1, rfl, hr⟩ := hrel
    clear HH
    have HH := hid hr
    clear hr
    have hlen : (128 :: List.replicate k 0 : List UInt8).length = 1 + k := by simp; omega
    have hz : padZ n = (119 - n % 64) % 64 := rfl
    have hk63 : k < 64 := by omega
    by_cases hlt : k < padZ n
    · have HA := hid (show (128 :: List.replicate k 0 : List UInt8) ++ [0] = 128 :: List.replicate (k + 1) 0 by rw [List.cons_append, ← List.replicate_succ'])
      go_wp2_with (first
        | ((first
            | ((with_reducible apply wpL_skip); rfl; skip)
            | ((with_reducible apply wpL_nilCheck); rfl; rfl)
            | ((with_reducible apply wpL_fieldAddr (t := 118)); (first | exact F118_0 | exact F118_1 | exact F118_2 | exact F118_3); rfl; rfl)
            | ((with_reducible apply wpL_load1 (v := .int .i64 n) O3 HH.out); rfl; (exact .there .here); rfl; rfl)
            | ((with_reducible apply wpL_len Try.underlying22); rfl; rfl)
            | ((with_reducible apply wpL_remN (m := n + (1 + k)) (n := 64)); rfl; rfl; (exact (by omega)); rfl; (exact (by omega)); (exact (by omega)); (exact (by omega)); rfl)
            | ((with_reducible apply wpL_buildB [0] (dst := some 26)); rfl; rfl; (exact (by omega)); (exact HH.out); rfl; (intro g_ w_ hq_; clear HH; have HH := hid hq_; clear hq_))
            | ((with_reducible apply wpL_appendB (dst := some 27) (l := 128 :: List.replicate k 0) (l2 := [0]) HH.out.swap HH.out.sl0); rfl; rfl; (exact (by simp; omega)); rfl; rfl; rfl; (rw [HA.out]; intro ao1 cap1 w_ hq_; clear HH; have HH := hid hq_.dropSnd; clear hq_))
            | ((with_reducible apply wpL_move); rfl; rfl)
            | ((with_reducible apply wpL_assign); rfl; rfl)
            | ((with_reducible apply wpL_pick); rfl; rfl; rfl)
            | ((with_reducible apply wpL_not); rfl; rfl)
            | ((with_reducible apply wpL_cmp (b := true)); rfl; rfl; rfl; (first | rfl | assumption | (simp only [cmpB, decide_eq_true_eq, decide_eq_false_iff_not, beq_iff_eq, bne_iff_ne, ne_eq, beq_eq_false_iff_ne, bne_eq_false_iff_eq, gt_iff_lt, ge_iff_le]; omega) | (simp; omega)); rfl)
            | ((with_reducible apply wpL_cmp (b := false)); rfl; rfl; rfl; (first | rfl | assumption | (simp only [cmpB, decide_eq_true_eq, decide_eq_false_iff_not, beq_iff_eq, bne_iff_ne, ne_eq, beq_eq_false_iff_ne, bne_eq_false_iff_eq, gt_iff_lt, ge_iff_le]; omega) | (simp; omega)); rfl)
            | ((with_reducible apply wpL_cmp); rfl; rfl; rfl; rfl; rfl)
            | ((with_reducible apply wpL_arith); rfl; rfl; rfl; (exact IntWalk.i64_in _ (by (try simp only [arithI]); omega)); rfl)); (try simp only [arithI, Act.put, Act.eval, List.setIfInBounds_toArray, List.set_cons_succ, List.set_cons_zero, Array.getD_eq_getD_getElem?, List.getElem?_toArray, List.getElem?_cons_succ, List.getElem?_cons_zero, Option.getD_some])))
      go_roundw
      case rel => exact ⟨k + 1, by omega, _, _, rfl, HH.out⟩
      case measure => simp [lenV]; omega
    · have hkz : k = padZ n := by omega
      have HKZ := hid hkz
      clear hkz
      go_wp2_with (first
        | ((first
            | ((with_reducible apply wpL_skip); rfl; skip)
            | ((with_reducible apply wpL_nilCheck); rfl; rfl)
            | ((with_reducible apply wpL_fieldAddr (t := 118)); (first | exact F118_0 | exact F118_1 | exact F118_2 | exact F118_3); rfl; rfl)
            | ((with_reducible apply wpL_load1 (v := .int .i64 n) O3 HH.out); rfl; (exact .there .here); rfl; rfl)
            | ((with_reducible apply wpL_len Try.underlying22); rfl; rfl)
            | ((with_reducible apply wpL_remN (m := n + (1 + k)) (n := 64)); rfl; rfl; (exact (by omega)); rfl; (exact (by omega)); (exact (by omega)); (exact (by omega)); rfl)
            | ((with_reducible apply wpL_move); rfl; rfl)
            | ((with_reducible apply wpL_assign); rfl; rfl)
            | ((with_reducible apply wpL_pick); rfl; rfl; rfl)
            | ((with_reducible apply wpL_not); rfl; rfl)
            | ((with_reducible apply wpL_cmp (b := true)); rfl; rfl; rfl; (first | rfl | assumption | (simp only [cmpB, decide_eq_true_eq, decide_eq_false_iff_not, beq_iff_eq, bne_iff_ne, ne_eq, beq_eq_false_iff_ne, bne_eq_false_iff_eq, gt_iff_lt, ge_iff_le]; omega) | (simp; omega)); rfl)
            | ((with_reducible apply wpL_cmp (b := false)); rfl; rfl; rfl; (first | rfl | assumption | (simp only [cmpB, decide_eq_true_eq, decide_eq_false_iff_not, beq_iff_eq, bne_iff_ne, ne_eq, beq_eq_false_iff_ne, bne_eq_false_iff_eq, gt_iff_lt, ge_iff_le]; omega) | (simp; omega)); rfl)
            | ((with_reducible apply wpL_cmp); rfl; rfl; rfl; rfl; rfl)
            | ((with_reducible apply wpL_arith); rfl; rfl; rfl; (exact IntWalk.i64_in _ (by (try simp only [arithI]); omega)); rfl)); (try simp only [arithI, Act.put, Act.eval, List.setIfInBounds_toArray, List.set_cons_succ, List.set_cons_zero, Array.getD_eq_getD_getElem?, List.getElem?_toArray, List.getElem?_cons_succ, List.getElem?_cons_zero, Option.getD_some])))
      go_loopw [4, 5] (SPadRel2 w (128 :: List.replicate k 0) n g2 gc (objC (hcells s rvc n) 118) exc) (fun _ i _ => (intOf i + 1).toNat)
      case atStart => exact ⟨0, Nat.zero_le _, rfl, ao1, cap1, by simp [lenBs], by simpa [lenBs] using HH.out⟩
      case round =>
        obtain ⟨j, hj, rfl, ao2, cap2, rfl, hr⟩ := hrel
        clear HH
        have HH := hid hr
        clear hr
        have hll : ((128 :: List.replicate k 0 : List UInt8) ++ lenBs n j).length = 1 + k + j := by rw [List.length_append, hlen]; simp [lenBs]
        by_cases hj8 : j < 8
        · have HA := hid (show ((128 :: List.replicate k 0 : List UInt8) ++ lenBs n j) ++ [lenByte n (7 - j)] = (128 :: List.replicate k 0) ++ lenBs n (j + 1) by rw [lenBs_succ, List.append_assoc])
          go_wp2_with (first
            | ((first
                | ((with_reducible apply wpL_skip); rfl; skip)
                | ((with_reducible apply wpL_nilCheck); rfl; rfl)
                | ((with_reducible apply wpL_fieldAddr (t := 118)); (first | exact F118_0 | exact F118_1 | exact F118_2 | exact F118_3); rfl; rfl)
                | ((with_reducible apply wpL_load1 (v := .int .i64 n) O3 HH.out); rfl; (exact .there .here); rfl; rfl)
                | ((with_reducible apply wpL_shrN (m := n * 8) (k := 8 * (7 - j))); rfl; rfl; (exact (by omega)); (exact (by omega)); (exact (by omega)); rfl)
                | ((with_reducible apply wpL_toB Try.underlying119 Try.underlying5); rfl; rfl; rfl)
                | ((with_reducible apply wpL_buildB [lenByte n (7 - j)] (dst := some 43)); rfl; rfl; (exact (by omega)); (exact HH.out); rfl; (intro g_ w_ hq_; clear HH; have HH := hid hq_; clear hq_))
                | ((with_reducible apply wpL_appendB (dst := some 44) (l := (128 :: List.replicate k 0) ++ lenBs n j) (l2 := [lenByte n (7 - j)]) HH.out.swap HH.out.sl0); rfl; rfl; (rw [hll]; exact (by simp; omega)); rfl; rfl; rfl; (rw [HA.out]; intro ao1 cap1 w_ hq_; clear HH; have HH := hid hq_.dropSnd; clear hq_))
                | ((with_reducible apply wpL_move); rfl; rfl)
                | ((with_reducible apply wpL_assign); rfl; rfl)
                | ((with_reducible apply wpL_pick); rfl; rfl; rfl)
                | ((with_reducible apply wpL_not); rfl; rfl)
                | ((with_reducible apply wpL_cmp (b := true)); rfl; rfl; rfl; (first | rfl | assumption | (simp only [cmpB, decide_eq_true_eq, decide_eq_false_iff_not, beq_iff_eq, bne_iff_ne, ne_eq, beq_eq_false_iff_ne, bne_eq_false_iff_eq, gt_iff_lt, ge_iff_le]; omega) | (simp; omega)); rfl)
                | ((with_reducible apply wpL_cmp (b := false)); rfl; rfl; rfl; (first | rfl | assumption | (simp only [cmpB, decide_eq_true_eq, decide_eq_false_iff_not, beq_iff_eq, bne_iff_ne, ne_eq, beq_eq_false_iff_ne, bne_eq_false_iff_eq, gt_iff_lt, ge_iff_le]; omega) | (simp; omega)); rfl)
                | ((with_reducible apply wpL_cmp); rfl; rfl; rfl; rfl; rfl)
                | ((with_reducible apply wpL_arith); rfl; rfl; rfl; (exact IntWalk.i64_in _ (by (try simp only [arithI]); omega)); rfl)); (try simp only [arithI, Act.put, Act.eval, List.setIfInBounds_toArray, List.set_cons_succ, List.set_cons_zero, Array.getD_eq_getD_getElem?, List.getElem?_toArray, List.getElem?_cons_succ, List.getElem?_cons_zero, Option.getD_some])))
          go_roundw
          case rel => exact ⟨j + 1, by omega, by go_num, _, _, rfl, HH.out⟩
          case measure => simp [intOf]; omega
        · have hj8' : j = 8 := by omega
          have hpd0 : (128 :: List.replicate k 0 : List UInt8) ++ lenBs n j = padL n := by rw [HKZ.out, hj8']; rfl
          clear hj8'
          have h0 := HH.out
          clear HH
          generalize (128 :: List.replicate k 0 : List UInt8) ++ lenBs n j = pd at *
          have HH := hid h0
          have HPD := hid hpd0
          clear h0 hpd0
          obtain ⟨s8, hs8⟩ : ∃ s8, (absorb s (r ++ pd)).1 = s8 := ⟨_, rfl⟩
          have HS8 := hid hs8
          clear hs8
          have hpl : r.length + pd.length ≤ 1000000 := by omega
          clear hll hlen
          go_wp2_with (first
            | ((first
                | ((with_reducible apply wpL_skip); rfl; skip)
                | (go_at_call 64; (have hcall_ := hid (take_own w _ g2 gc (objC z32 25) s rvc n exc ao2 cap2 r pd HH.out HE.out hpl)); (with_reducible refine hcall_.out.mono ?_); clear hcall_; rintro e w2 ⟨rfl, rv2, ex, hq_⟩; rw [HS8.out] at hq_; clear HH; have HH := hid hq_; clear hq_)
                | ((with_reducible apply wpL_allocC (dst := some 6) Z25 HH.out); rfl; (intro g6 w_ hq_; clear HH; have HH := hid hq_; clear hq_))
                | ((with_reducible apply wpL_nilCheck); rfl; rfl)
                | ((with_reducible apply wpL_fieldAddr (t := 118)); (first | exact F118_0 | exact F118_1 | exact F118_2 | exact F118_3); rfl; rfl)
                | ((with_reducible apply wpL_loadPart (t := 115) (vs := s8.ws.map wrd) A115 HH.out); rfl; (exact .there (.there .here)); rfl; rfl; rfl)
                | ((with_reducible apply wpL_allocC (dst := some 7) Z115' HH.out); rfl; (intro g7 w_ hq_; clear HH; have HH := hid hq_; clear hq_))
                | ((with_reducible apply wpL_storeC (vs := s8.ws.map wrd) (x := .tmp 7) (sz := 8)); rfl; rfl; (exact S115); (exact HH.out); (exact .here); rfl; (exact wrd_one _); rfl; rfl; (intro w_ hq_; clear HH; have HH := hid hq_; clear hq_))
                | ((with_reducible apply wpL_fieldAddr (t := 115)); (exact F115 _ (by decide)); rfl; rfl)
                | ((with_reducible apply wpL_load1 O105 HH.out); rfl; (exact .here); rfl; rfl)
                | ((with_reducible apply wpList_build (v := valW s8.ws)); (exact build106 s8); rfl)
                | ((with_reducible apply wpL_move); rfl; rfl)
                | ((with_reducible apply wpL_assign); rfl; rfl)
                | ((with_reducible apply wpL_pick); rfl; rfl; rfl)
                | ((with_reducible apply wpL_not); rfl; rfl)
                | ((with_reducible apply wpL_cmp (b := true)); rfl; rfl; rfl; (first | rfl | assumption | (simp only [cmpB, decide_eq_true_eq, decide_eq_false_iff_not, beq_iff_eq, bne_iff_ne, ne_eq, beq_eq_false_iff_ne, bne_eq_false_iff_eq, gt_iff_lt, ge_iff_le]; omega) | (simp; omega)); rfl)
                | ((with_reducible apply wpL_cmp (b := false)); rfl; rfl; rfl; (first | rfl | assumption | (simp only [cmpB, decide_eq_true_eq, decide_eq_false_iff_not, beq_iff_eq, bne_iff_ne, ne_eq, beq_eq_false_iff_ne, bne_eq_false_iff_eq, gt_iff_lt, ge_iff_le]; omega) | (simp; omega)); rfl)
                | ((with_reducible apply wpL_cmp); rfl; rfl; rfl; rfl; rfl)
                | ((with_reducible apply wpL_arith); rfl; rfl; rfl; (exact IntWalk.i64_in _ (by (try simp only [arithI]); omega)); rfl)); (try simp only [arithI, Act.put, Act.eval, List.setIfInBounds_toArray, List.set_cons_succ, List.set_cons_zero, Array.getD_eq_getD_getElem?, List.getElem?_toArray, List.getElem?_cons_succ, List.getElem?_cons_zero, Option.getD_some])))
          have hwl : s8.ws.length = 8 := rfl
          go_loopw [69] (SOutRel w s8 g2 g6 ((gc, objC (hcells s8 rv2 n) 118) :: (exc ++ ex)) [rowB ao2 cap2 pd]) (fun i _ => 8 - (intOf i).toNat)
          case atStart => exact ⟨0, Nat.zero_le _, rfl, by rw [Nat.mul_zero, fillB_zero]; exact HH.out.dropBlk⟩
          case round =>
            obtain ⟨t, ht, rfl, hr⟩ := hrel
            clear HH
            have HH := hid hr
            clear hr
            by_cases htl : t < 8
            · have hs0 := fillB_set (outByte s8) (n := 32) (i := 4 * t) (by omega)
              have hs1 := fillB_set (outByte s8) (n := 32) (i := 4 * t + 1) (by omega)
              have hs2 := fillB_set (outByte s8) (n := 32) (i := 4 * t + 2) (by omega)
              have hs3 := fillB_set (outByte s8) (n := 32) (i := 4 * t + 3) (by omega)
              have o0 := outByte_at s8 t 0 (by omega)
              have o1 := outByte_at s8 t 1 (by omega)
              have o2 := outByte_at s8 t 2 (by omega)
              have o3 := outByte_at s8 t 3 (by omega)
              rw [Nat.add_zero] at o0
              rw [o0] at hs0
              rw [o1] at hs1
              rw [o2] at hs2
              rw [o3, show 24 - 8 * 3 = 0 from rfl, BitVec.ushiftRight_zero] at hs3
              have H0 := hid hs0
              have H1 := hid hs1
              have H2 := hid hs2
              have H3 := hid hs3
              clear hs0 hs1 hs2 hs3 o0 o1 o2 o3
              go_wp2_with (first
                | ((first
                    | ((with_reducible apply wpL_skip); rfl; skip)
                    | ((with_reducible apply wpL_indexV (m := t) (v := wrd (s8.ws.getD t 0)) Try.underlying106 Try.underlying105 rfl S105); rfl; rfl; rfl; (exact htl); (exact wget0 (by omega)); rfl)
                    | ((with_reducible apply wpL_wshr); rfl; rfl; (exact (by decide)); rfl)
                    | ((with_reducible apply wpL_w2b Try.underlying105 Try.underlying5); rfl; rfl)
                    | ((with_reducible apply wpL_indexVar (i := .tmp 74) (m := 4 * t) Try.underlying25 S5'); rfl; rfl; (exact (by omega)); (exact (by omega)); rfl)
                    | ((with_reducible apply wpL_indexVar (i := .tmp 77) (m := 4 * t + 1) Try.underlying25 S5'); rfl; rfl; (exact (by omega)); (exact (by omega)); rfl)
                    | ((with_reducible apply wpL_indexVar (i := .tmp 80) (m := 4 * t + 2) Try.underlying25 S5'); rfl; rfl; (exact (by omega)); (exact (by omega)); rfl)
                    | ((with_reducible apply wpL_indexVar (i := .tmp 83) (m := 4 * t + 3) Try.underlying25 S5'); rfl; rfl; (exact (by omega)); (exact (by omega)); rfl)
                    | ((with_reducible apply wpL_storeBt (x := .tmp 95) (l := fillB (outByte s8) 32 (4 * t)) (m := 4 * t) (v := w2b (s8.ws.getD t 0 >>> (24 - 8 * 0)))); rfl; rfl; (exact S5'); (exact HH.out); (exact .here); (rw [fillB_len]; exact (by omega)); rfl; (intro w_ hq_; rw [H0.out] at hq_; clear HH; have HH := hid hq_; clear hq_))
                    | ((with_reducible apply wpL_storeBt (x := .tmp 96) (l := fillB (outByte s8) 32 (4 * t + 1)) (m := 4 * t + 1) (v := w2b (s8.ws.getD t 0 >>> (24 - 8 * 1)))); rfl; rfl; (exact S5'); (exact HH.out); (exact .here); (rw [fillB_len]; exact (by omega)); rfl; (intro w_ hq_; rw [H1.out] at hq_; clear HH; have HH := hid hq_; clear hq_))
                    | ((with_reducible apply wpL_storeBt (x := .tmp 97) (l := fillB (outByte s8) 32 (4 * t + 2)) (m := 4 * t + 2) (v := w2b (s8.ws.getD t 0 >>> (24 - 8 * 2)))); rfl; rfl; (exact S5'); (exact HH.out); (exact .here); (rw [fillB_len]; exact (by omega)); rfl; (intro w_ hq_; rw [H2.out] at hq_; clear HH; have HH := hid hq_; clear hq_))
                    | ((with_reducible apply wpL_storeBt (x := .tmp 98) (l := fillB (outByte s8) 32 (4 * t + 3)) (m := 4 * t + 3) (v := w2b (s8.ws.getD t 0))); rfl; rfl; (exact S5'); (exact HH.out); (exact .here); (rw [fillB_len]; exact (by omega)); rfl; (intro w_ hq_; rw [H3.out] at hq_; clear HH; have HH := hid hq_; clear hq_))
                    | ((with_reducible apply wpL_move); rfl; rfl)
                    | ((with_reducible apply wpL_assign); rfl; rfl)
                    | ((with_reducible apply wpL_pick); rfl; rfl; rfl)
                    | ((with_reducible apply wpL_not); rfl; rfl)
                    | ((with_reducible apply wpL_cmp (b := true)); rfl; rfl; rfl; (first | rfl | assumption | (simp only [cmpB, decide_eq_true_eq, decide_eq_false_iff_not, beq_iff_eq, bne_iff_ne, ne_eq, beq_eq_false_iff_ne, bne_eq_false_iff_eq, gt_iff_lt, ge_iff_le]; omega) | (simp; omega)); rfl)
                    | ((with_reducible apply wpL_cmp (b := false)); rfl; rfl; rfl; (first | rfl | assumption | (simp only [cmpB, decide_eq_true_eq, decide_eq_false_iff_not, beq_iff_eq, bne_iff_ne, ne_eq, beq_eq_false_iff_ne, bne_eq_false_iff_eq, gt_iff_lt, ge_iff_le]; omega) | (simp; omega)); rfl)
                    | ((with_reducible apply wpL_cmp); rfl; rfl; rfl; rfl; rfl)
                    | ((with_reducible apply wpL_arith); rfl; rfl; rfl; (exact IntWalk.i64_in _ (by (try simp only [arithI]); omega)); rfl)); (try simp only [arithI, Act.put, Act.eval, List.setIfInBounds_toArray, List.set_cons_succ, List.set_cons_zero, Array.getD_eq_getD_getElem?, List.getElem?_toArray, List.getElem?_cons_succ, List.getElem?_cons_zero, Option.getD_some])))
              go_roundw
              case rel => exact ⟨t + 1, by omega, by go_num, by rw [show 4 * (t + 1) = 4 * t + 3 + 1 by omega]; exact HH.out⟩
              case measure => simp [intOf]; omega
            · obtain rfl : t = 8 := by omega
              have h0 := HH.out
              rw [show 4 * 8 = 32 from rfl, fillB_full] at h0
              clear HH
              have HH := hid h0
              clear h0
              go_wp2_with (first
                | ((first
                    | ((with_reducible apply wpL_skip); rfl; skip)
                    | ((with_reducible apply wpL_loadC (x := .tmp 6) A25 HH.out); rfl; (exact .here); rfl; rfl)
                    | ((with_reducible apply wpL_storeC (vs := ((List.range 32).map (outByte s8)).map byt) (x := .tmp 2) (sz := 32)); rfl; rfl; (exact S25); (exact HH.out); (exact .there .here); rfl; (exact byt_cell1 _); rfl; rfl; (intro w_ hq_; clear HH; have HH := hid hq_; clear hq_))
                    | ((with_reducible apply wpL_move); rfl; rfl)
                    | ((with_reducible apply wpL_assign); rfl; rfl)
                    | ((with_reducible apply wpL_pick); rfl; rfl; rfl)
                    | ((with_reducible apply wpL_not); rfl; rfl)
                    | ((with_reducible apply wpL_cmp (b := true)); rfl; rfl; rfl; (first | rfl | assumption | (simp only [cmpB, decide_eq_true_eq, decide_eq_false_iff_not, beq_iff_eq, bne_iff_ne, ne_eq, beq_eq_false_iff_ne, bne_eq_false_iff_eq, gt_iff_lt, ge_iff_le]; omega) | (simp; omega)); rfl)
                    | ((with_reducible apply wpL_cmp (b := false)); rfl; rfl; rfl; (first | rfl | assumption | (simp only [cmpB, decide_eq_true_eq, decide_eq_false_iff_not, beq_iff_eq, bne_iff_ne, ne_eq, beq_eq_false_iff_ne, bne_eq_false_iff_eq, gt_iff_lt, ge_iff_le]; omega) | (simp; omega)); rfl)
                    | ((with_reducible apply wpL_cmp); rfl; rfl; rfl; rfl; rfl)
                    | ((with_reducible apply wpL_arith); rfl; rfl; rfl; (exact IntWalk.i64_in _ (by (try simp only [arithI]); omega)); rfl)); (try simp only [arithI, Act.put, Act.eval, List.setIfInBounds_toArray, List.set_cons_succ, List.set_cons_zero, Array.getD_eq_getD_getElem?, List.getElem?_toArray, List.getElem?_cons_succ, List.getElem?_cons_zero, Option.getD_some])))
              refine bodyPost_ret (res1 rfl (resC A25 HH.out (by rfl) (.there .here) rfl)) rfl ?_
              refine ⟨?_, HH.out.below⟩
              rw [← HPD.out, HS8.out]
              rfl
end Go.Proofs.Ytgkfopodhikckaa
