/- Hex, Unhex of the reference. Condition: at most two hundred thousand bytes. -/
import Derived.Test.YtgkfopodhikckaaH11
import Derived.Test.YtgkfopodhikckaaH5
set_option linter.unusedSimpArgs false
set_option linter.unusedVariables false
namespace Go.Proofs.Ytgkfopodhikckaa
open Go.RowKit
theorem hexB_snoc2 {l : List UInt8} {k : Nat} (h : k < l.length) : hexB (l.take k) ++ [hexC (l[k].toNat / 16), hexC (l[k].toNat % 16)] = hexB (l.take (k + 1)) := by
  rw [hexB_snoc h, List.append_assoc]; rfl
def RHexRel (w : World) (l : List UInt8) (v i : Value) (wr : World) : Prop :=
  ∃ (k : Nat) (ao : Option Addr) (cap : Nat), k ≤ l.length ∧ i = .int .i64 k ∧ v = .slice ao (hexB (l.take k)).length cap ∧ Holds w [] [] [rowB ao cap (hexB (l.take k))] wr
set_option maxRecDepth 100000 in
set_option maxHeartbeats 2000000 in
theorem refHex_any (w : World) (v : Value) (l : List UInt8) (hl : Byts w v l) (hn : l.length ≤ 200000) : Calls Try.prog 43 #[v] w (RetS w (hexB l)) := by
  obtain ⟨ao, cap, rfl, _⟩ := hl.shape
  have HL := hid hl
  clear hl
  have HH := hid (Holds.init w)
  go_enter Try.func43, Try.ntmps43
  go_wp2_with (first
    | ((first
        | ((with_reducible apply wpL_skip); rfl; skip)
        | ((with_reducible apply wpL_nilCheck); rfl; rfl)
        | ((with_reducible apply wpL_load1 (t := 5) kO5 HH.out); rfl; (first | exact .here | exact .there .here | exact .there (.there .here) | exact .there (.there (.there .here)) | exact .there (.there (.there (.there .here))) | exact .there (.there (.there (.there (.there .here)))) | exact .there (.there (.there (.there (.there (.there .here))))) | exact .there (.there (.there (.there (.there (.there (.there .here))))))); rfl; rfl)
        | ((with_reducible apply wpL_len (t := 22) Try.underlying22); rfl; rfl)
        | ((with_reducible apply wpL_move); rfl; rfl)
        | ((with_reducible apply wpL_assign); rfl; rfl)
        | ((with_reducible apply wpL_pick); rfl; rfl; rfl)
        | ((with_reducible apply wpL_not); rfl; rfl)
        | ((with_reducible apply wpL_cmp (b := true)); rfl; rfl; rfl; (first | rfl | assumption | (simp only [cmpB, decide_eq_true_eq, decide_eq_false_iff_not, beq_iff_eq, bne_iff_ne, ne_eq, beq_eq_false_iff_ne, bne_eq_false_iff_eq, gt_iff_lt, ge_iff_le]; omega) | (simp; omega)); rfl)
        | ((with_reducible apply wpL_cmp (b := false)); rfl; rfl; rfl; (first | rfl | assumption | (simp only [cmpB, decide_eq_true_eq, decide_eq_false_iff_not, beq_iff_eq, bne_iff_ne, ne_eq, beq_eq_false_iff_ne, bne_eq_false_iff_eq, gt_iff_lt, ge_iff_le]; omega) | (simp; omega)); rfl)
        | ((with_reducible apply wpL_cmp); rfl; rfl; rfl; rfl; rfl)
        | ((with_reducible apply wpL_arith); rfl; rfl; rfl; (exact IntWalk.i64_in _ (by (try simp only [arithI]); omega)); rfl)); (try simp only [arithI, Act.put, Act.eval, List.setIfInBounds_toArray, List.set_cons_succ, List.set_cons_zero, Array.getD_eq_getD_getElem?, List.getElem?_toArray, List.getElem?_cons_succ, List.getElem?_cons_zero, Option.getD_some])))
  go_loopw [3, 4] (RHexRel w l) (fun _ i _ => l.length - (intOf i).toNat)
  case atStart => exact ⟨0, none, 0, Nat.zero_le _, rfl, rfl, HH.out.addNil 5 1⟩
  case round =>
    obtain ⟨k, ao1, cap1, hk, rfl, rfl, hr⟩ := hrel
    clear HH
    have HH := hid hr
    clear hr
    have hlen : (hexB (l.take k)).length = 2 * k := by rw [hexB_len, List.length_take]; omega
    by_cases hlt : k < l.length
    · obtain ⟨ad, cap', e⟩ := HL.out.some (by omega)
      cases e
      have HS := hid (hexB_snoc2 hlt)
      have hb := l[k].toNat_lt
      have HC := hid (show ∀ wq, Holds w [] [] [rowB ao1 cap1 (hexB (l.take k))] wq → wq.cell? (ad.add k) = some (byt l[k]) from fun wq hwq => (hwq.sl HL.out).cell k (byt l[k]) (by simp [hlt]))
      go_wp2_with (first
        | ((first
            | ((with_reducible apply wpL_skip); rfl; skip)
            | ((with_reducible apply wpL_nilCheck); rfl; rfl)
            | ((with_reducible apply wpL_load1 (t := 5) kO5 HH.out); rfl; (first | exact .here | exact .there .here | exact .there (.there .here) | exact .there (.there (.there .here)) | exact .there (.there (.there (.there .here))) | exact .there (.there (.there (.there (.there .here)))) | exact .there (.there (.there (.there (.there (.there .here))))) | exact .there (.there (.there (.there (.there (.there (.there .here))))))); rfl; rfl)
            | ((with_reducible apply wpL_len (t := 22) Try.underlying22); rfl; rfl)
            | ((with_reducible apply wpL_move); rfl; rfl)
            | ((with_reducible apply wpL_assign); rfl; rfl)
            | ((with_reducible apply wpL_pick); rfl; rfl; rfl)
            | ((with_reducible apply wpL_not); rfl; rfl)
            | ((with_reducible apply wpL_cmp (b := true)); rfl; rfl; rfl; (first | rfl | assumption | (simp only [cmpB, decide_eq_true_eq, decide_eq_false_iff_not, beq_iff_eq, bne_iff_ne, ne_eq, beq_eq_false_iff_ne, bne_eq_false_iff_eq, gt_iff_lt, ge_iff_le]; omega) | (simp; omega)); rfl)
            | ((with_reducible apply wpL_cmp (b := false)); rfl; rfl; rfl; (first | rfl | assumption | (simp only [cmpB, decide_eq_true_eq, decide_eq_false_iff_not, beq_iff_eq, bne_iff_ne, ne_eq, beq_eq_false_iff_ne, bne_eq_false_iff_eq, gt_iff_lt, ge_iff_le]; omega) | (simp; omega)); rfl)
            | ((with_reducible apply wpL_cmp); rfl; rfl; rfl; rfl; rfl)
            | ((with_reducible apply wpL_arith); rfl; rfl; rfl; (exact IntWalk.i64_in _ (by (try simp only [arithI]); omega)); rfl)); (try simp only [arithI, Act.put, Act.eval, List.setIfInBounds_toArray, List.set_cons_succ, List.set_cons_zero, Array.getD_eq_getD_getElem?, List.getElem?_toArray, List.getElem?_cons_succ, List.getElem?_cons_zero, Option.getD_some])))
      refine wp_region_tailR 14 [Asr.is (.slice ao1 (hexB (l.take k)).length cap1), Asr.is (.slice (some ad) l.length cap), Asr.is (.int .i64 k), Asr.is (.pointer (some (ad.add (k * 1)))), Asr.is (byt l[k]), Asr.is (.int .u8 ((l[k].toNat / 16 : Nat) : Int)), Asr.is (byt (hexC (l[k].toNat / 16))), Asr.is (.slice (some ad) l.length cap), Asr.is (.int .i64 k), Asr.is (.pointer (some (ad.add (k * 1)))), Asr.is (byt l[k]), Asr.is (.int .u8 ((l[k].toNat % 16 : Nat) : Int)), Asr.is (byt (hexC (l[k].toNat % 16))), Asr.full wr.heap.size 5 1 2 ([hexC (l[k].toNat / 16), hexC (l[k].toNat % 16)].map byt)] HH.out (by kernel_rfl) (by kernel_rfl) (by kernel_rfl) rfl ?_ ?_
      all_goals simp only [List.take_succ_cons, List.take_zero, List.drop_succ_cons, List.drop_zero]
      · refine eachD_cons ?_ (eachD_cons ?_ (eachD_cons ?_ (eachD_cons ?_ (eachD_cons ?_ (eachD_cons ?_ (eachD_cons ?_ (eachD_cons ?_ (eachD_cons ?_ (eachD_cons ?_ (eachD_cons ?_ (eachD_cons ?_ (eachD_cons ?_ (eachD_cons ?_ (eachD_nil))))))))))))))
        · intro a_ w1 hI hF hS
          have e3 : a_.eval (.tmp 3) = (.slice ao1 (hexB (l.take k)).length cap1) := (hF.2.2 3 (notDst_of (by kernel_rfl))).trans rfl
          refine wantD (by rfl) ?_
          exact op_val rfl (ex_move rfl w1) e3
        · intro a_ w1 hI hF hS
          have e0 : a_.eval (.tmp 0) = (.slice (some ad) l.length cap) := (hF.2.2 0 (notDst_of (by kernel_rfl))).trans rfl
          refine wantD (by rfl) ?_
          exact op_val rfl (ex_move rfl w1) e0
        · intro a_ w1 hI hF hS
          have e4 : a_.eval (.tmp 4) = (.int .i64 k) := (hF.2.2 4 (notDst_of (by kernel_rfl))).trans rfl
          refine wantD (by rfl) ?_
          exact op_val rfl (ex_move rfl w1) e4
        · intro a_ w1 hI hF hS
          have e12 : a_.eval (.tmp 12) = (.slice (some ad) l.length cap) := hS ⟨1, .data⟩ (by simp) rfl _ rfl
          have e13 : a_.eval (.tmp 13) = (.int .i64 k) := hS ⟨2, .data⟩ (by simp) rfl _ rfl
          refine wantD (by rfl) ?_
          exact op_val rfl (ex_index kE22 (j := k) e12 e13 rfl hlt w1) rfl
        · intro a_ w1 hI hF hS
          have e14 : a_.eval (.tmp 14) = (.pointer (some (ad.add (k * 1)))) := hS ⟨3, .data⟩ (by simp) rfl _ rfl
          refine wantD (by rfl) ?_
          exact op_val rfl (ex_load_one e14 Try.underlying5 rfl (by rw [Nat.mul_one]; exact HC.out w1 hI.1)) rfl
        · intro a_ w1 hI hF hS
          have e15 : a_.eval (.tmp 15) = (byt l[k]) := hS ⟨4, .data⟩ (by simp) rfl _ rfl
          refine wantD (by rfl) ?_
          exact op_val rfl (ex_quoB (n := 16) e15 rfl rfl (by omega) rfl w1) rfl
        · intro a_ w1 hI hF hS
          have e16 : a_.eval (.tmp 16) = (.int .u8 ((l[k].toNat / 16 : Nat) : Int)) := hS ⟨5, .data⟩ (by simp) rfl _ rfl
          refine wantD (by rfl) ?_
          exact op_val rfl (ex_indexStr (l := hexT) (m := l[k].toNat / 16) Try.underlying9 rfl e16 rfl (by simp [hexT]; omega) rfl w1) rfl
        · intro a_ w1 hI hF hS
          have e0 : a_.eval (.tmp 0) = (.slice (some ad) l.length cap) := (hF.2.2 0 (notDst_of (by kernel_rfl))).trans rfl
          refine wantD (by rfl) ?_
          exact op_val rfl (ex_move rfl w1) e0
        · intro a_ w1 hI hF hS
          have e4 : a_.eval (.tmp 4) = (.int .i64 k) := (hF.2.2 4 (notDst_of (by kernel_rfl))).trans rfl
          refine wantD (by rfl) ?_
          exact op_val rfl (ex_move rfl w1) e4
        · intro a_ w1 hI hF hS
          have e18 : a_.eval (.tmp 18) = (.slice (some ad) l.length cap) := hS ⟨7, .data⟩ (by simp) rfl _ rfl
          have e19 : a_.eval (.tmp 19) = (.int .i64 k) := hS ⟨8, .data⟩ (by simp) rfl _ rfl
          refine wantD (by rfl) ?_
          exact op_val rfl (ex_index kE22 (j := k) e18 e19 rfl hlt w1) rfl
        · intro a_ w1 hI hF hS
          have e20 : a_.eval (.tmp 20) = (.pointer (some (ad.add (k * 1)))) := hS ⟨9, .data⟩ (by simp) rfl _ rfl
          refine wantD (by rfl) ?_
          exact op_val rfl (ex_load_one e20 Try.underlying5 rfl (by rw [Nat.mul_one]; exact HC.out w1 hI.1)) rfl
        · intro a_ w1 hI hF hS
          have e21 : a_.eval (.tmp 21) = (byt l[k]) := hS ⟨10, .data⟩ (by simp) rfl _ rfl
          refine wantD (by rfl) ?_
          exact op_val rfl (ex_remB (n := 16) e21 rfl rfl (by omega) rfl w1) rfl
        · intro a_ w1 hI hF hS
          have e22 : a_.eval (.tmp 22) = (.int .u8 ((l[k].toNat % 16 : Nat) : Int)) := hS ⟨11, .data⟩ (by simp) rfl _ rfl
          refine wantD (by rfl) ?_
          exact op_val rfl (ex_indexStr (l := hexT) (m := l[k].toNat % 16) Try.underlying9 rfl e22 rfl (by simp [hexT]; omega) rfl w1) rfl
        · intro a_ w1 hI hF hS
          have e17 : a_.eval (.tmp 17) = (byt (hexC (l[k].toNat / 16))) := hS ⟨6, .data⟩ (by simp) rfl _ rfl
          have e23 : a_.eval (.tmp 23) = (byt (hexC (l[k].toNat % 16))) := hS ⟨12, .data⟩ (by simp) rfl _ rfl
          refine wantD (by rfl) ?_
          obtain ⟨v_, w_, hr_, hb_, hA_⟩ := ex_buildB (ρ := a_.eval) kE22 [hexC (l[k].toNat / 16), hexC (l[k].toNat % 16)] (parts := #[(0, .tmp 17), (1, .tmp 23)]) (n := 2) rfl (by simp [e17, e23]) (by decide) w1; exact op_new rfl hr_ hb_ (hA_ _ hI.2.size)
      intro wq hq_ hb_
      intro v0_ h0_ v1_ h1_ v2_ h2_ v3_ h3_ v4_ h4_ v5_ h5_ v6_ h6_ v7_ h7_ v8_ h8_ v9_ h9_ v10_ h10_ v11_ h11_ v12_ h12_ v13_ h13_
      have q_ : v0_ = (.slice ao1 (hexB (l.take k)).length cap1) := h0_; clear h0_; subst q_
      have q_ : v1_ = (.slice (some ad) l.length cap) := h1_; clear h1_; subst q_
      have q_ : v2_ = (.int .i64 k) := h2_; clear h2_; subst q_
      have q_ : v3_ = (.pointer (some (ad.add (k * 1)))) := h3_; clear h3_; subst q_
      have q_ : v4_ = (byt l[k]) := h4_; clear h4_; subst q_
      have q_ : v5_ = (.int .u8 ((l[k].toNat / 16 : Nat) : Int)) := h5_; clear h5_; subst q_
      have q_ : v6_ = (byt (hexC (l[k].toNat / 16))) := h6_; clear h6_; subst q_
      have q_ : v7_ = (.slice (some ad) l.length cap) := h7_; clear h7_; subst q_
      have q_ : v8_ = (.int .i64 k) := h8_; clear h8_; subst q_
      have q_ : v9_ = (.pointer (some (ad.add (k * 1)))) := h9_; clear h9_; subst q_
      have q_ : v10_ = (byt l[k]) := h10_; clear h10_; subst q_
      have q_ : v11_ = (.int .u8 ((l[k].toNat % 16 : Nat) : Int)) := h11_; clear h11_; subst q_
      have q_ : v12_ = (byt (hexC (l[k].toNat % 16))) := h12_; clear h12_; subst q_
      have K13 := hid h13_; clear h13_
      simp only [endD, putsD, Act.put, List.setIfInBounds_toArray, List.set_cons_succ, List.set_cons_zero]
      have HQ := hid hq_; clear hq_
      have HB_ := hid hb_; clear hb_
      clear HH
      have HH := HQ
      clear HQ
      obtain ⟨aa, ca, rfl⟩ := row_shape K13.out.2
      have H3 : Hid (Byts wq (.slice aa 2 ca) [hexC (l[k].toNat / 16), hexC (l[k].toNat % 16)]) := hid (Sl.of_row K13.out.2)
      clear K13
      go_wp2_with (first
        | ((first
            | ((with_reducible apply wpL_skip); rfl; skip)
            | ((with_reducible apply wpL_appendB (dst := some 25) (l := hexB (l.take k)) (l2 := [hexC (l[k].toNat / 16), hexC (l[k].toNat % 16)]) HH.out H3.out); rfl; rfl; (exact (by simp; omega)); rfl; rfl; rfl; (rw [HS.out]; intro ao1 cap1 w_ hq_; clear HH; have HH := hid hq_; clear hq_))
            | ((with_reducible apply wpL_nilCheck); rfl; rfl)
            | ((with_reducible apply wpL_load1 (t := 5) kO5 HH.out); rfl; (first | exact .here | exact .there .here | exact .there (.there .here) | exact .there (.there (.there .here)) | exact .there (.there (.there (.there .here))) | exact .there (.there (.there (.there (.there .here)))) | exact .there (.there (.there (.there (.there (.there .here))))) | exact .there (.there (.there (.there (.there (.there (.there .here))))))); rfl; rfl)
            | ((with_reducible apply wpL_len (t := 22) Try.underlying22); rfl; rfl)
            | ((with_reducible apply wpL_move); rfl; rfl)
            | ((with_reducible apply wpL_assign); rfl; rfl)
            | ((with_reducible apply wpL_pick); rfl; rfl; rfl)
            | ((with_reducible apply wpL_not); rfl; rfl)
            | ((with_reducible apply wpL_cmp (b := true)); rfl; rfl; rfl; (first | rfl | assumption | (simp only [cmpB, decide_eq_true_eq, decide_eq_false_iff_not, beq_iff_eq, bne_iff_ne, ne_eq, beq_eq_false_iff_ne, bne_eq_false_iff_eq, gt_iff_lt, ge_iff_le]; omega) | (simp; omega)); rfl)
            | ((with_reducible apply wpL_cmp (b := false)); rfl; rfl; rfl; (first | rfl | assumption | (simp only [cmpB, decide_eq_true_eq, decide_eq_false_iff_not, beq_iff_eq, bne_iff_ne, ne_eq, beq_eq_false_iff_ne, bne_eq_false_iff_eq, gt_iff_lt, ge_iff_le]; omega) | (simp; omega)); rfl)
            | ((with_reducible apply wpL_cmp); rfl; rfl; rfl; rfl; rfl)
            | ((with_reducible apply wpL_arith); rfl; rfl; rfl; (exact IntWalk.i64_in _ (by (try simp only [arithI]); omega)); rfl)); (try simp only [arithI, Act.put, Act.eval, List.setIfInBounds_toArray, List.set_cons_succ, List.set_cons_zero, Array.getD_eq_getD_getElem?, List.getElem?_toArray, List.getElem?_cons_succ, List.getElem?_cons_zero, Option.getD_some])))
      go_roundw
      case rel => exact ⟨k + 1, _, _, by omega, by go_num, rfl, HH.out⟩
      case measure => simp [intOf]; omega
    · obtain rfl : k = l.length := by omega
      have h1 := HH.out
      rw [List.take_length] at h1
      have HX := hid h1
      have ET := hid (List.take_length (l := l))
      clear HH h1 hlen
      have HH := HX
      clear HX
      rw [ET.out]
      go_wp2_with (first
        | ((first
            | ((with_reducible apply wpL_skip); rfl; skip)
            | ((with_reducible apply wpL_toStr (l := hexB l) Try.underlying22 Try.underlying5 Try.underlying9 HH.out.sl0); rfl; rfl)
            | ((with_reducible apply wpL_nilCheck); rfl; rfl)
            | ((with_reducible apply wpL_load1 (t := 5) kO5 HH.out); rfl; (first | exact .here | exact .there .here | exact .there (.there .here) | exact .there (.there (.there .here)) | exact .there (.there (.there (.there .here))) | exact .there (.there (.there (.there (.there .here)))) | exact .there (.there (.there (.there (.there (.there .here))))) | exact .there (.there (.there (.there (.there (.there (.there .here))))))); rfl; rfl)
            | ((with_reducible apply wpL_len (t := 22) Try.underlying22); rfl; rfl)
            | ((with_reducible apply wpL_move); rfl; rfl)
            | ((with_reducible apply wpL_assign); rfl; rfl)
            | ((with_reducible apply wpL_pick); rfl; rfl; rfl)
            | ((with_reducible apply wpL_not); rfl; rfl)
            | ((with_reducible apply wpL_cmp (b := true)); rfl; rfl; rfl; (first | rfl | assumption | (simp only [cmpB, decide_eq_true_eq, decide_eq_false_iff_not, beq_iff_eq, bne_iff_ne, ne_eq, beq_eq_false_iff_ne, bne_eq_false_iff_eq, gt_iff_lt, ge_iff_le]; omega) | (simp; omega)); rfl)
            | ((with_reducible apply wpL_cmp (b := false)); rfl; rfl; rfl; (first | rfl | assumption | (simp only [cmpB, decide_eq_true_eq, decide_eq_false_iff_not, beq_iff_eq, bne_iff_ne, ne_eq, beq_eq_false_iff_ne, bne_eq_false_iff_eq, gt_iff_lt, ge_iff_le]; omega) | (simp; omega)); rfl)
            | ((with_reducible apply wpL_cmp); rfl; rfl; rfl; rfl; rfl)
            | ((with_reducible apply wpL_arith); rfl; rfl; rfl; (exact IntWalk.i64_in _ (by (try simp only [arithI]); omega)); rfl)); (try simp only [arithI, Act.put, Act.eval, List.setIfInBounds_toArray, List.set_cons_succ, List.set_cons_zero, Array.getD_eq_getD_getElem?, List.getElem?_toArray, List.getElem?_cons_succ, List.getElem?_cons_zero, Option.getD_some])))
      go_ret
      exact ⟨rfl, HH.out.below⟩
theorem digit_any (w : World) (c : UInt8) (b : Bool) (hb : decide (48 ≤ c.toNat ∧ c.toNat ≤ 57) = b) : Calls Try.prog 87 #[.int .u8 (c.toNat : Int)] w (fun e w' => e = .returned (.bool b) ∧ w' = w) := by
  by_cases h1 : 48 ≤ c.toNat
  · have d1 : decide ((48 : Int) ≤ (c.toNat : Int)) = true := by simp; omega
    by_cases h2 : c.toNat ≤ 57
    · obtain rfl : b = true := by rw [← hb]; simp [h1, h2]
      have d2 : decide ((c.toNat : Int) ≤ 57) = true := by simp; omega
      clear hb
      go_enter Try.func87, Try.ntmps87
      go_wp2
      go_ret
      exact ⟨rfl, rfl⟩
    · obtain rfl : b = false := by rw [← hb]; simp [h2]
      have d2 : decide ((c.toNat : Int) ≤ 57) = false := by simp; omega
      clear hb
      go_enter Try.func87, Try.ntmps87
      go_wp2
      go_ret
      exact ⟨by first | rfl | (simp; done) | (simp; omega), rfl⟩
  · obtain rfl : b = false := by rw [← hb]; simp [h1]
    have d1 : decide ((48 : Int) ≤ (c.toNat : Int)) = false := by simp; omega
    clear hb
    go_enter Try.func87, Try.ntmps87
    go_wp2
    go_ret
    exact ⟨by first | rfl | (simp; done) | (simp; omega), rfl⟩
theorem ret_i {k : IntKind} {a b : Int} (h : a = b) : Ending.returned (.int k a) = .returned (.int k b) := by rw [h]
theorem nibble_any (w : World) (c : UInt8) : Calls Try.prog 71 #[byt c] w (fun e w' => e = .returned (.int .i64 (hexV c)) ∧ w' = w) := by
  have hlt := c.toNat_lt
  have HV := hid (hexV_eq c)
  unfold byt
  by_cases h : 48 ≤ c.toNat ∧ c.toNat ≤ 57
  · have HD := hid (show decide (48 ≤ c.toNat ∧ c.toNat ≤ 57) = true by simp [h])
    obtain ⟨h1, h2⟩ := h
    go_enter Try.func71, Try.ntmps71
    go_wp2_with (go_at_call 87; refine (digit_any _ _ _ HD.out).mono ?_; rintro e_ w2_ ⟨rfl, rfl⟩)
    go_ret
    exact ⟨ret_i (by rw [HV.out, if_pos ⟨h1, h2⟩]), rfl⟩
  · have HD := hid (show decide (48 ≤ c.toNat ∧ c.toNat ≤ 57) = false by simpa using h)
    have HN := hid h
    clear h
    by_cases h1 : 97 ≤ c.toNat
    · by_cases h2 : c.toNat ≤ 102
      · go_enter Try.func71, Try.ntmps71
        go_wp2_with (go_at_call 87; refine (digit_any _ _ _ HD.out).mono ?_; rintro e_ w2_ ⟨rfl, rfl⟩)
        go_ret
        exact ⟨ret_i (by rw [HV.out, if_neg HN.out, if_pos ⟨h1, h2⟩]), rfl⟩
      · go_enter Try.func71, Try.ntmps71
        go_wp2_with (go_at_call 87; refine (digit_any _ _ _ HD.out).mono ?_; rintro e_ w2_ ⟨rfl, rfl⟩)
        go_ret
        exact ⟨ret_i (by rw [HV.out, if_neg HN.out, if_neg (by omega)]), rfl⟩
    · go_enter Try.func71, Try.ntmps71
      go_wp2_with (go_at_call 87; refine (digit_any _ _ _ HD.out).mono ?_; rintro e_ w2_ ⟨rfl, rfl⟩)
      go_ret
      exact ⟨ret_i (by rw [HV.out, if_neg HN.out, if_neg (by omega)]), rfl⟩
set_option maxRecDepth 100000 in
set_option maxHeartbeats 2000000 in
theorem refUnhex_any (w : World) (s : List UInt8) (hn : s.length ≤ 1000000) : Calls Try.prog 44 #[str s] w (RetUn w (unhexL s)) := by
  have HH := hid (Holds.init w)
  by_cases hodd : s.length % 2 = 1
  · have HO := hid (unhexL_odd s hodd)
    go_enter Try.func44, Try.ntmps44
    go_wp2_with (first
      | ((first
          | ((with_reducible apply wpL_skip); rfl; skip)
          | ((with_reducible apply wpL_lenStr (l := s) Try.underlying9); rfl; rfl)
          | ((with_reducible apply wpL_remN (m := s.length) (n := 2)); rfl; rfl; rfl; rfl; (exact (by omega)); (exact (by omega)); (exact (by omega)); rfl; rw [hodd])
          | ((with_reducible apply wpL_nilCheck); rfl; rfl)
          | ((with_reducible apply wpL_len (t := 22) Try.underlying22); rfl; rfl)
          | ((with_reducible apply wpL_move); rfl; rfl)
          | ((with_reducible apply wpL_assign); rfl; rfl)
          | ((with_reducible apply wpL_pick); rfl; rfl; rfl)
          | ((with_reducible apply wpL_not); rfl; rfl)
          | ((with_reducible apply wpL_cmp (b := true)); rfl; rfl; rfl; (first | rfl | assumption | (simp only [cmpB, decide_eq_true_eq, decide_eq_false_iff_not, beq_iff_eq, bne_iff_ne, ne_eq, beq_eq_false_iff_ne, bne_eq_false_iff_eq, gt_iff_lt, ge_iff_le]; omega) | (simp; omega)); rfl)
          | ((with_reducible apply wpL_cmp (b := false)); rfl; rfl; rfl; (first | rfl | assumption | (simp only [cmpB, decide_eq_true_eq, decide_eq_false_iff_not, beq_iff_eq, bne_iff_ne, ne_eq, beq_eq_false_iff_ne, bne_eq_false_iff_eq, gt_iff_lt, ge_iff_le]; omega) | (simp; omega)); rfl)
          | ((with_reducible apply wpL_cmp); rfl; rfl; rfl; rfl; rfl)
          | ((with_reducible apply wpL_arith); rfl; rfl; rfl; (exact IntWalk.i64_in _ (by (try simp only [arithI]); omega)); rfl)); (try simp only [arithI, Act.put, Act.eval, List.setIfInBounds_toArray, List.set_cons_succ, List.set_cons_zero, Array.getD_eq_getD_getElem?, List.getElem?_toArray, List.getElem?_cons_succ, List.getElem?_cons_zero, Option.getD_some])))
    go_ret2
    exact ret_un_none HO.out rfl HH.out.below
  · have hev : s.length % 2 = 0 := by omega
    go_enter Try.func44, Try.ntmps44
    go_wp2_with (first
      | ((first
          | ((with_reducible apply wpL_skip); rfl; skip)
          | ((with_reducible apply wpL_lenStr (l := s) Try.underlying9); rfl; rfl)
          | ((with_reducible apply wpL_remN (m := s.length) (n := 2)); rfl; rfl; rfl; rfl; (exact (by omega)); (exact (by omega)); (exact (by omega)); rfl; rw [hev])
          | ((with_reducible apply wpL_nilCheck); rfl; rfl)
          | ((with_reducible apply wpL_len (t := 22) Try.underlying22); rfl; rfl)
          | ((with_reducible apply wpL_move); rfl; rfl)
          | ((with_reducible apply wpL_assign); rfl; rfl)
          | ((with_reducible apply wpL_pick); rfl; rfl; rfl)
          | ((with_reducible apply wpL_not); rfl; rfl)
          | ((with_reducible apply wpL_cmp (b := true)); rfl; rfl; rfl; (first | rfl | assumption | (simp only [cmpB, decide_eq_true_eq, decide_eq_false_iff_not, beq_iff_eq, bne_iff_ne, ne_eq, beq_eq_false_iff_ne, bne_eq_false_iff_eq, gt_iff_lt, ge_iff_le]; omega) | (simp; omega)); rfl)
          | ((with_reducible apply wpL_cmp (b := false)); rfl; rfl; rfl; (first | rfl | assumption | (simp only [cmpB, decide_eq_true_eq, decide_eq_false_iff_not, beq_iff_eq, bne_iff_ne, ne_eq, beq_eq_false_iff_ne, bne_eq_false_iff_eq, gt_iff_lt, ge_iff_le]; omega) | (simp; omega)); rfl)
          | ((with_reducible apply wpL_cmp); rfl; rfl; rfl; rfl; rfl)
          | ((with_reducible apply wpL_arith); rfl; rfl; rfl; (exact IntWalk.i64_in _ (by (try simp only [arithI]); omega)); rfl)); (try simp only [arithI, Act.put, Act.eval, List.setIfInBounds_toArray, List.set_cons_succ, List.set_cons_zero, Array.getD_eq_getD_getElem?, List.getElem?_toArray, List.getElem?_cons_succ, List.getElem?_cons_zero, Option.getD_some])))
    go_loopw [4, 5] (UnRel w s) (fun _ i _ => s.length - (intOf i).toNat)
    case atStart => exact ⟨0, [], none, 0, Nat.zero_le _, rfl, rfl, rfl, by simp, HH.out.addNil 5 1⟩
    case round =>
      obtain ⟨j, pre, ao, cap, hj, hj2, rfl, rfl, hs, hr⟩ := hrel
      clear HH
      have HH := hid hr
      have HS := hid hs
      have HJ := hid hj2
      have hpl : pre.length ≤ 1000000 := by omega
      clear hr hs
      by_cases hlt : j < s.length
      · have hlt1 : j + 1 < s.length := by omega
        clear hj2
        obtain ⟨u, hu⟩ : ∃ u, hexV (s.getD j 0) = u := ⟨_, rfl⟩
        obtain ⟨v, hv⟩ : ∃ v, hexV (s.getD (j + 1) 0) = v := ⟨_, rfl⟩
        have bu := hexV_lt (s.getD j 0)
        have bv := hexV_lt (s.getD (j + 1) 0)
        rw [hu] at bu
        rw [hv] at bv
        have HU := hid hu
        have HV := hid hv
        clear hu hv
        go_wp2_with (first
          | ((first
              | ((with_reducible apply wpL_skip); rfl; skip)
              | ((with_reducible apply wpL_lenStr (l := s) Try.underlying9); rfl; rfl)
              | ((with_reducible apply wpL_nilCheck); rfl; rfl)
              | ((with_reducible apply wpL_len (t := 22) Try.underlying22); rfl; rfl)
              | ((with_reducible apply wpL_move); rfl; rfl)
              | ((with_reducible apply wpL_assign); rfl; rfl)
              | ((with_reducible apply wpL_pick); rfl; rfl; rfl)
              | ((with_reducible apply wpL_not); rfl; rfl)
              | ((with_reducible apply wpL_cmp (b := true)); rfl; rfl; rfl; (first | rfl | assumption | (simp only [cmpB, decide_eq_true_eq, decide_eq_false_iff_not, beq_iff_eq, bne_iff_ne, ne_eq, beq_eq_false_iff_ne, bne_eq_false_iff_eq, gt_iff_lt, ge_iff_le]; omega) | (simp; omega)); rfl)
              | ((with_reducible apply wpL_cmp (b := false)); rfl; rfl; rfl; (first | rfl | assumption | (simp only [cmpB, decide_eq_true_eq, decide_eq_false_iff_not, beq_iff_eq, bne_iff_ne, ne_eq, beq_eq_false_iff_ne, bne_eq_false_iff_eq, gt_iff_lt, ge_iff_le]; omega) | (simp; omega)); rfl)
              | ((with_reducible apply wpL_cmp); rfl; rfl; rfl; rfl; rfl)
              | ((with_reducible apply wpL_arith); rfl; rfl; rfl; (exact IntWalk.i64_in _ (by (try simp only [arithI]); omega)); rfl)); (try simp only [arithI, Act.put, Act.eval, List.setIfInBounds_toArray, List.set_cons_succ, List.set_cons_zero, Array.getD_eq_getD_getElem?, List.getElem?_toArray, List.getElem?_cons_succ, List.getElem?_cons_zero, Option.getD_some])))
        refine wp_region_holds (by kernel_rfl) (by kernel_rfl) HH.out ?_
        repeat ((first
          | ((with_reducible apply wpQ_skip); rfl; skip)
          | ((with_reducible apply wpQ_indexStr (dst := some 20) (l := s) (m := j) (v := s.getD j 0) Try.underlying9); rfl; rfl; rfl; (exact hlt); rfl; rfl)
          | ((with_reducible apply wpQ_indexStr (dst := some 25) (l := s) (m := j + 1) (v := s.getD (j + 1) 0) Try.underlying9); rfl; rfl; (exact (by omega)); (exact hlt1); rfl; rfl)
          | ((with_reducible apply wpQ_call (f := 71) (dst := some 21) (v := .int .i64 u) (args := #[byt (s.getD j 0)]) kB71); rfl; (intro wq hwq; exact (nibble_any wq _).mono fun e w' ⟨he, hb⟩ => ⟨by rw [he, HU.out], by rw [hb]; exact hwq⟩); rfl)
          | ((with_reducible apply wpQ_call (f := 71) (dst := some 26) (v := .int .i64 v) (args := #[byt (s.getD (j + 1) 0)]) kB71); rfl; (intro wq hwq; exact (nibble_any wq _).mono fun e w' ⟨he, hb⟩ => ⟨by rw [he, HV.out], by rw [hb]; exact hwq⟩); rfl)
          | ((with_reducible apply wpQ_nilCheck); rfl; rfl)
          | ((with_reducible apply wpQ_len (t := 22) Try.underlying22); rfl; rfl)
          | ((with_reducible apply wpQ_move); rfl; rfl)
          | ((with_reducible apply wpQ_assign); rfl; rfl)
          | ((with_reducible apply wpQ_pick); rfl; rfl; rfl)
          | ((with_reducible apply wpQ_not); rfl; rfl)
          | ((with_reducible apply wpQ_cmp (b := true)); rfl; rfl; rfl; (first | rfl | assumption | (simp only [cmpB, decide_eq_true_eq, decide_eq_false_iff_not, beq_iff_eq, bne_iff_ne, ne_eq, beq_eq_false_iff_ne, bne_eq_false_iff_eq, gt_iff_lt, ge_iff_le]; omega) | (simp; omega)); rfl)
          | ((with_reducible apply wpQ_cmp (b := false)); rfl; rfl; rfl; (first | rfl | assumption | (simp only [cmpB, decide_eq_true_eq, decide_eq_false_iff_not, beq_iff_eq, bne_iff_ne, ne_eq, beq_eq_false_iff_ne, bne_eq_false_iff_eq, gt_iff_lt, ge_iff_le]; omega) | (simp; omega)); rfl)
          | ((with_reducible apply wpQ_cmp); rfl; rfl; rfl; rfl; rfl)
          | ((with_reducible apply wpQ_arith); rfl; rfl; rfl; (exact IntWalk.i64_in _ (by (try simp only [arithI]); omega)); rfl)); (try simp only [arithI, Act.put, Act.eval, List.setIfInBounds_toArray, List.set_cons_succ, List.set_cons_zero, Array.getD_eq_getD_getElem?, List.getElem?_toArray, List.getElem?_cons_succ, List.getElem?_cons_zero, Option.getD_some]))
        refine wpQuiet_nil ?_
        intro wq hq_
        have HQ := hid hq_
        clear hq_
        clear HH
        have HH := HQ
        clear HQ
        by_cases hneg : u < 0
        · go_wp2
          go_ret2
          exact ret_un_none (unhexL_stop hlt1 HS.out (.inl (by rw [HU.out]; exact hneg))) rfl HH.out.below
        · by_cases hneg2 : v < 0
          · go_wp2
            go_ret2
            exact ret_un_none (unhexL_stop hlt1 HS.out (.inr (by rw [HV.out]; exact hneg2))) rfl HH.out.below
          · have HP := hid (show pairB (s.getD j 0) (s.getD (j + 1) 0) = UInt8.ofNat (u.toNat * 16 + v.toNat) by unfold pairB; rw [HU.out, HV.out])
            have HST := hid (unhexL_step hlt1 HS.out (by rw [HU.out]; exact hneg) (by rw [HV.out]; exact hneg2) HP.out)
            go_wp2_with (first
              | ((first
                  | ((with_reducible apply wpL_skip); rfl; skip)
                  | ((with_reducible apply wpL_toB (m := u.toNat * 16 + v.toNat) Try.underlying3 Try.underlying5); rfl; (exact (by omega)); rfl)
                  | ((with_reducible apply wpL_buildB [UInt8.ofNat (u.toNat * 16 + v.toNat)] (dst := some 39)); rfl; rfl; (exact (by omega)); (exact HH.out); rfl; (intro g_ w_ hq_; clear HH; have HH := hid hq_; clear hq_))
                  | ((with_reducible apply wpL_appendB (dst := some 40) (l := pre) (l2 := [UInt8.ofNat (u.toNat * 16 + v.toNat)]) HH.out.swap HH.out.sl0); rfl; rfl; (exact (by simp; omega)); rfl; rfl; rfl; (intro ao1 cap1 w_ hq_; clear HH; have HH := hid hq_.dropSnd; clear hq_))
                  | ((with_reducible apply wpL_nilCheck); rfl; rfl)
                  | ((with_reducible apply wpL_len (t := 22) Try.underlying22); rfl; rfl)
                  | ((with_reducible apply wpL_move); rfl; rfl)
                  | ((with_reducible apply wpL_assign); rfl; rfl)
                  | ((with_reducible apply wpL_pick); rfl; rfl; rfl)
                  | ((with_reducible apply wpL_not); rfl; rfl)
                  | ((with_reducible apply wpL_cmp (b := true)); rfl; rfl; rfl; (first | rfl | assumption | (simp only [cmpB, decide_eq_true_eq, decide_eq_false_iff_not, beq_iff_eq, bne_iff_ne, ne_eq, beq_eq_false_iff_ne, bne_eq_false_iff_eq, gt_iff_lt, ge_iff_le]; omega) | (simp; omega)); rfl)
                  | ((with_reducible apply wpL_cmp (b := false)); rfl; rfl; rfl; (first | rfl | assumption | (simp only [cmpB, decide_eq_true_eq, decide_eq_false_iff_not, beq_iff_eq, bne_iff_ne, ne_eq, beq_eq_false_iff_ne, bne_eq_false_iff_eq, gt_iff_lt, ge_iff_le]; omega) | (simp; omega)); rfl)
                  | ((with_reducible apply wpL_cmp); rfl; rfl; rfl; rfl; rfl)
                  | ((with_reducible apply wpL_arith); rfl; rfl; rfl; (exact IntWalk.i64_in _ (by (try simp only [arithI]); omega)); rfl)); (try simp only [arithI, Act.put, Act.eval, List.setIfInBounds_toArray, List.set_cons_succ, List.set_cons_zero, Array.getD_eq_getD_getElem?, List.getElem?_toArray, List.getElem?_cons_succ, List.getElem?_cons_zero, Option.getD_some])))
            go_roundw
            case rel => exact ⟨j + 2, _, _, _, by omega, by rw [List.length_append]; have := HJ.out; simp; omega, by go_num, rfl, HST.out, HH.out⟩
            case measure => simp [intOf]; omega
      · have hje : j = s.length := by omega
        have HE := hid (unhexL_end hje HS.out)
        clear hje hj2
        go_wp2_with (first
          | ((first
              | ((with_reducible apply wpL_skip); rfl; skip)
              | ((with_reducible apply wpL_lenStr (l := s) Try.underlying9); rfl; rfl)
              | ((with_reducible apply wpL_nilCheck); rfl; rfl)
              | ((with_reducible apply wpL_len (t := 22) Try.underlying22); rfl; rfl)
              | ((with_reducible apply wpL_move); rfl; rfl)
              | ((with_reducible apply wpL_assign); rfl; rfl)
              | ((with_reducible apply wpL_pick); rfl; rfl; rfl)
              | ((with_reducible apply wpL_not); rfl; rfl)
              | ((with_reducible apply wpL_cmp (b := true)); rfl; rfl; rfl; (first | rfl | assumption | (simp only [cmpB, decide_eq_true_eq, decide_eq_false_iff_not, beq_iff_eq, bne_iff_ne, ne_eq, beq_eq_false_iff_ne, bne_eq_false_iff_eq, gt_iff_lt, ge_iff_le]; omega) | (simp; omega)); rfl)
              | ((with_reducible apply wpL_cmp (b := false)); rfl; rfl; rfl; (first | rfl | assumption | (simp only [cmpB, decide_eq_true_eq, decide_eq_false_iff_not, beq_iff_eq, bne_iff_ne, ne_eq, beq_eq_false_iff_ne, bne_eq_false_iff_eq, gt_iff_lt, ge_iff_le]; omega) | (simp; omega)); rfl)
              | ((with_reducible apply wpL_cmp); rfl; rfl; rfl; rfl; rfl)
              | ((with_reducible apply wpL_arith); rfl; rfl; rfl; (exact IntWalk.i64_in _ (by (try simp only [arithI]); omega)); rfl)); (try simp only [arithI, Act.put, Act.eval, List.setIfInBounds_toArray, List.set_cons_succ, List.set_cons_zero, Array.getD_eq_getD_getElem?, List.getElem?_toArray, List.getElem?_cons_succ, List.getElem?_cons_zero, Option.getD_some])))
        go_ret2
        exact ret_un_some HE.out rfl HH.out
end Go.Proofs.Ytgkfopodhikckaa
