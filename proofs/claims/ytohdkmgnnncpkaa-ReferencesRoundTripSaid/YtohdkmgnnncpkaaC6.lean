/- IsTrimmed; the example of the references' laws. Condition: lists of at most 2^42 identities. -/
import Derived.Test.YtohdkmgnnncpkaaC5
namespace Go.Proofs.Ytohdkmgnnncpkaa
open Go.RowKit
def isTrimB (s l : List Id) : Bool := s == l || (decide (0 < s.length) && s == cutL l s.length)
set_option maxHeartbeats 400000 in
theorem isTrimmed_any (w : World) (v1 v2 : Value) (s l : List Id) (h1 : Ids w v1 s) (h2 : Ids w v2 l) (hs : s.length ≤ 9223372036854775807) (hn : l.length * 32 ≤ 140737488355328) :
    Calls Try.prog 22 #[v1, v2] w (RetB w (isTrimB s l)) := by
  obtain ⟨a1, c1, rfl, _⟩ := h1.shape
  obtain ⟨a2, c2, rfl, _⟩ := h2.shape
  have H1 := hid h1
  have H2 := hid h2
  clear h1 h2
  by_cases heq : s = l
  · have e : isTrimB s l = true := by unfold isTrimB; rw [beq_yes heq]; rfl
    have e2 : (s == l) = true := beq_yes heq
    have E2 := hid e2
    rw [e]
    clear heq e e2
    go_enter Try.func22, Try.ntmps22
    go_wp2_with (go_at_call 34; refine (equal_any w _ _ s l H1.out H2.out hs).mono ?_; rw [E2.out]; rintro e w' ⟨rfl, hb⟩; have HB := hid hb; clear hb)
    go_ret
    exact RetB.mk rfl HB.out
  · have e2 : (s == l) = false := beq_no heq
    have E2 := hid e2
    by_cases h0 : 0 < s.length
    · have e : isTrimB s l = (s == cutL l s.length) := by unfold isTrimB; rw [e2, decide_eq_true h0]; simp
      rw [e]
      clear heq e e2
      go_enter Try.func22, Try.ntmps22
      go_wp2_with (first
        | (go_at_call 34; (with_reducible refine (equal_any w _ _ s l H1.out H2.out hs).mono ?_); rw [E2.out]; rintro e w' ⟨rfl, hb⟩; have HB := hid hb; clear hb)
        | (go_at_call 29; (with_reducible refine (trim_any _ _ l (H2.out.below HB.out) hn s.length (by omega)).mono ?_); rintro e w2 ⟨ao2, cap2, rfl, hr⟩; have HR := hid hr; clear hr)
        | (go_at_call 34; (with_reducible refine (equal_any _ _ _ s _ ((H1.out.below HB.out).below HR.out.2) (Sl.of_row HR.out.1) hs).mono ?_); rintro e w3 ⟨rfl, hb⟩; have HC := hid hb; clear hb))
      go_ret
      have h1 := HB.out
      have h2 := HR.out.2
      have h3 := HC.out
      exact RetB.mk rfl (h1.trans ((h2.mono h1.size).trans (h3.mono (Nat.le_trans h1.size h2.size))))
    · have e : isTrimB s l = false := by unfold isTrimB; rw [e2, decide_eq_false h0]; rfl
      have h0' : s.length = 0 := by omega
      rw [e]
      clear heq e e2
      have E0 := hid h0'
      clear h0'
      go_enter Try.func22, Try.ntmps22
      go_wp2_with (go_at_call 34; refine (equal_any w _ _ s l H1.out H2.out hs).mono ?_; rw [E2.out]; rintro e w' ⟨rfl, hb⟩; have HB := hid hb; clear hb)
      go_ret
      exact RetB.mk rfl HB.out
/-- The identity that begins with the byte k. -/
def idN (k : UInt8) : Id := ⟨k :: List.replicate 31 0, by simp⟩
theorem Z33 : (Try.prog.info? 33).map (·.zero) = some (some (Arr.zero 32).val) := by kernel_rfl
theorem S33 : (Try.prog.info? 33).map (·.size) = some 32 := by kernel_rfl
theorem B22 : Body Try.prog 22 := ⟨_, _, Try.func22, rfl, rfl⟩
theorem trim_known (w : World) (v : Value) (h : Sl w v 32 3 (flat [idN 1, idN 2, idN 3])) : Calls Try.prog 12 #[v, .int .i64 2] w (RetIdsE 33 w [idN 1, idN 3] 0) :=
  Trim_any w v [idN 1, idN 2, idN 3] h (by simp) 2
set_option maxRecDepth 100000 in
set_option maxHeartbeats 1000000 in
theorem known_any (w : World) : Calls Try.prog 11 #[] w (RetB w true) := by
  have HH := hid (Holds.init w)
  have b1 : ∀ w, (Instr.build 33 #[(0, .int .u8 1)]).run Try.prog w = .ok (idN 1).val w := fun _ => by kernel_rfl
  have b2 : ∀ w, (Instr.build 33 #[(0, .int .u8 2)]).run Try.prog w = .ok (idN 2).val w := fun _ => by kernel_rfl
  have b3 : ∀ w, (Instr.build 33 #[(0, .int .u8 3)]).run Try.prog w = .ok (idN 3).val w := fun _ => by kernel_rfl
  have B1 := hid b1
  have B2 := hid b2
  have B3 := hid b3
  clear b1 b2 b3
  go_enter Try.func11, Try.ntmps11
  go_wp2_with (first
    | ((with_reducible apply wpList_build (parts := #[(0, .const (.int .u8 1))]) (v := (idN 1).val)); (exact B1.out); rfl)
    | ((with_reducible apply wpList_build (parts := #[(0, .const (.int .u8 2))]) (v := (idN 2).val)); (exact B2.out); rfl)
    | ((with_reducible apply wpList_build (parts := #[(0, .const (.int .u8 3))]) (v := (idN 3).val)); (exact B3.out); rfl)
    | ((with_reducible apply wpList_allocA Z33 HH.out); rfl; (intro g1 w1 hq; have H1 := hid hq; clear hq HH))
    | ((with_reducible apply wpList_allocA Z33 H1.out); rfl; (intro g2 w2 hq; have H2 := hid hq; clear hq H1))
    | ((with_reducible apply wpList_allocA Z33 H2.out); rfl; (intro g3 w3 hq; have HH := hid hq; clear hq H2))
    | ((with_reducible apply wpList_buildArr E24 [idN 1, idN 2, idN 3] HH.out); rfl; rfl; decide; rfl; (intro g_ w_ hq_; clear HH; have HH := hid hq_; clear hq_))
    | (go_at_call 12; (with_reducible refine (trim_known _ _ HH.out.sl0).mono ?_); rintro e w2 ⟨ao2, cap2, rfl, hr⟩; (have hq_ := HH.out.addRow hr.2 hr.1); clear HH; have HH := hid hq_; clear hq_ hr)
    | ((with_reducible apply wpList_loadA A33 HH.out); rfl; (first | exact .here | exact .there .here | exact .there (.there .here) | exact .there (.there (.there .here)) | exact .there (.there (.there (.there .here))) | exact .there (.there (.there (.there (.there .here))))); rfl)
    | ((with_reducible apply wpList_allocA Z33 HH.out); go_must ((rfl; (intro g_ w_ hq_; clear HH; have HH := hid hq_; clear hq_))))
    | ((with_reducible apply wpList_storeA S33 HH.out); go_must ((rfl; rfl; (first | exact .here | exact .there .here | exact .there (.there .here) | exact .there (.there (.there .here)) | exact .there (.there (.there (.there .here))) | exact .there (.there (.there (.there (.there .here))))); rfl; (intro w_ hq_; clear HH; have HH := hid hq_; clear hq_))))
    | ((with_reducible apply wpList_boxA (e := 33) HH.out); rfl; rfl; (intro g_ w_ hq_; clear HH; have HH := hid hq_; clear hq_)))
  obtain ⟨ad2, c3, e3⟩ := HH.out.sl0.some (by simp)
  have e4 : ao2 = some ad2 := by cases e3; rfl
  subst e4
  refine wp_region_R [Asr.is (.int .i64 0), Asr.is (.bool true), Asr.is (.bool true), Asr.is (.slice (some ad2) 2 cap2), Asr.is (.int .i64 2), Asr.is (.bool true), Asr.is (.bool true), Asr.is (.bool true), Asr.is (.slice (some ad2) 2 cap2), Asr.is (.pointer (some (ad2.add (0 * 32)))), Asr.is (idN 1).val, Asr.is (idN 1).val, Asr.is (.bool true), Asr.is (.bool true), Asr.is (.bool true), Asr.is (.slice (some ad2) 2 cap2), Asr.is (.pointer (some (ad2.add (1 * 32)))), Asr.is (idN 3).val, Asr.is (idN 3).val, Asr.is (.bool true), Asr.is (.bool true), Asr.is (.bool true), Asr.is (idN 1).val, Asr.is (idN 3).val, Asr.full w2.heap.size 33 32 2 (flat [idN 1, idN 3]), Asr.is (idN 1).val, Asr.is (idN 2).val, Asr.is (idN 3).val, Asr.full w2.heap.size 33 32 3 (flat [idN 1, idN 2, idN 3]), Asr.is (.bool true), Asr.is (.bool true), Asr.is (.bool true)] HH.out (by kernel_rfl) (by kernel_rfl) rfl ?_ ?_
  · refine eachD_cons ?_ (eachD_cons ?_ (eachD_cons ?_ (eachD_cons ?_ (eachD_cons ?_ (eachD_cons ?_ (eachD_cons ?_ (eachD_cons ?_ (eachD_cons ?_ (eachD_cons ?_ (eachD_cons ?_ (eachD_cons ?_ (eachD_cons ?_ (eachD_cons ?_ (eachD_cons ?_ (eachD_cons ?_ (eachD_cons ?_ (eachD_cons ?_ (eachD_cons ?_ (eachD_cons ?_ (eachD_cons ?_ (eachD_cons ?_ (eachD_cons ?_ (eachD_cons ?_ (eachD_cons ?_ (eachD_cons ?_ (eachD_cons ?_ (eachD_cons ?_ (eachD_cons ?_ (eachD_cons ?_ (eachD_cons ?_ (eachD_cons ?_ (eachD_nil))))))))))))))))))))))))))))))))
    · intro a_ w1 hI hF hS
      have e5 : a_.eval (.tmp 5) = (.int .i64 0) := (hF.2.2 5 (notDst_of (by kernel_rfl))).trans rfl
      refine wantD (by rfl) ?_
      exact op_val rfl (ex_move rfl w1) e5
    · intro a_ w1 hI hF hS
      have e17 : a_.eval (.tmp 17) = (.int .i64 0) := hS ⟨0, .data⟩ (by simp) rfl _ rfl
      refine wantD (by rfl) ?_
      exact op_val rfl (ex_cmp (b := true) rfl e17 (by rfl) (by rfl) w1) rfl
    · intro a_ w1 hI hF hS
      have e18 : a_.eval (.tmp 18) = (.bool true) := hS ⟨1, .data⟩ (by simp) rfl _ rfl
      refine wantD (by rfl) ?_
      exact op_val rfl (ex_move rfl w1) e18
    · intro a_ w1 hI hF hS
      have e4 : a_.eval (.tmp 4) = (.slice (some ad2) 2 cap2) := (hF.2.2 4 (notDst_of (by kernel_rfl))).trans rfl
      have e19 : a_.eval (.tmp 19) = (.bool true) := hS ⟨2, .guard⟩ (by simp) rfl _ rfl
      refine wantD (wanted_of (j := 2) (b := true) (want := true) (by rfl) (by rfl) e19 rfl) ?_
      exact op_val rfl (ex_move rfl w1) e4
    · intro a_ w1 hI hF hS
      have e20 : a_.eval (.tmp 20) = (.slice (some ad2) 2 cap2) := hS ⟨3, .data⟩ (by simp) rfl _ rfl
      have e19 : a_.eval (.tmp 19) = (.bool true) := hS ⟨2, .guard⟩ (by simp) rfl _ rfl
      refine wantD (wanted_of (j := 2) (b := true) (want := true) (by rfl) (by rfl) e19 rfl) ?_
      exact op_val rfl (ex_len Try.underlying24 e20 w1) rfl
    · intro a_ w1 hI hF hS
      have e21 : a_.eval (.tmp 21) = (.int .i64 2) := hS ⟨4, .data⟩ (by simp) rfl _ rfl
      have e19 : a_.eval (.tmp 19) = (.bool true) := hS ⟨2, .guard⟩ (by simp) rfl _ rfl
      refine wantD (wanted_of (j := 2) (b := true) (want := true) (by rfl) (by rfl) e19 rfl) ?_
      exact op_val rfl (ex_cmp (b := true) rfl e21 (by rfl) (by rfl) w1) rfl
    · intro a_ w1 hI hF hS
      have e19 : a_.eval (.tmp 19) = (.bool true) := hS ⟨2, .data⟩ (by simp) rfl _ rfl
      have e22 : a_.eval (.tmp 22) = (.bool true) := hS ⟨5, .data⟩ (by simp) rfl _ rfl
      refine wantD (by rfl) ?_
      exact op_val rfl (ex_pick e19 rfl w1) e22
    · intro a_ w1 hI hF hS
      have e23 : a_.eval (.tmp 23) = (.bool true) := hS ⟨6, .data⟩ (by simp) rfl _ rfl
      refine wantD (by rfl) ?_
      exact op_val rfl (ex_move rfl w1) e23
    · intro a_ w1 hI hF hS
      have e4 : a_.eval (.tmp 4) = (.slice (some ad2) 2 cap2) := (hF.2.2 4 (notDst_of (by kernel_rfl))).trans rfl
      have e24 : a_.eval (.tmp 24) = (.bool true) := hS ⟨7, .guard⟩ (by simp) rfl _ rfl
      refine wantD (wanted_of (j := 7) (b := true) (want := true) (by rfl) (by rfl) e24 rfl) ?_
      exact op_val rfl (ex_move rfl w1) e4
    · intro a_ w1 hI hF hS
      have e25 : a_.eval (.tmp 25) = (.slice (some ad2) 2 cap2) := hS ⟨8, .data⟩ (by simp) rfl _ rfl
      have e24 : a_.eval (.tmp 24) = (.bool true) := hS ⟨7, .guard⟩ (by simp) rfl _ rfl
      refine wantD (wanted_of (j := 7) (b := true) (want := true) (by rfl) (by rfl) e24 rfl) ?_
      exact op_val rfl (ex_index E24 (j := 0) e25 rfl rfl (by omega) w1) rfl
    · intro a_ w1 hI hF hS
      have e26 : a_.eval (.tmp 26) = (.pointer (some (ad2.add (0 * 32)))) := hS ⟨9, .data⟩ (by simp) rfl _ rfl
      have e24 : a_.eval (.tmp 24) = (.bool true) := hS ⟨7, .guard⟩ (by simp) rfl _ rfl
      refine wantD (wanted_of (j := 7) (b := true) (want := true) (by rfl) (by rfl) e24 rfl) ?_
      exact op_val rfl (ex_load_agg (t := 33) (sz := 32) e26 Try.underlying33 rfl (by kernel_rfl) (Arr.len (idN 1)) (Ids.get (l := [idN 1, idN 3]) (cap := cap2) hI.1.sl0 0 (by decide))) rfl
    · intro a_ w1 hI hF hS
      have e1 : a_.eval (.tmp 1) = (.pointer (some ⟨g1, 0, none⟩)) := (hF.2.2 1 (notDst_of (by kernel_rfl))).trans rfl
      have e24 : a_.eval (.tmp 24) = (.bool true) := hS ⟨7, .guard⟩ (by simp) rfl _ rfl
      refine wantD (wanted_of (j := 7) (b := true) (want := true) (by rfl) (by rfl) e24 rfl) ?_
      exact op_val rfl (ex_loadA A33 hI.1 e1 (by first | exact .here | exact .there .here | exact .there (.there .here))) rfl
    · intro a_ w1 hI hF hS
      have e27 : a_.eval (.tmp 27) = (idN 1).val := hS ⟨10, .data⟩ (by simp) rfl _ rfl
      have e28 : a_.eval (.tmp 28) = (idN 1).val := hS ⟨11, .data⟩ (by simp) rfl _ rfl
      have e24 : a_.eval (.tmp 24) = (.bool true) := hS ⟨7, .guard⟩ (by simp) rfl _ rfl
      refine wantD (wanted_of (j := 7) (b := true) (want := true) (by rfl) (by rfl) e24 rfl) ?_
      exact op_val rfl (ex_eql_arr Try.underlying33 Try.underlying5 (by kernel_rfl) (by kernel_rfl) e27 e28 w1) (congrArg Value.bool (beq_yes rfl))
    · intro a_ w1 hI hF hS
      have e24 : a_.eval (.tmp 24) = (.bool true) := hS ⟨7, .data⟩ (by simp) rfl _ rfl
      have e29 : a_.eval (.tmp 29) = (.bool true) := hS ⟨12, .data⟩ (by simp) rfl _ rfl
      refine wantD (by rfl) ?_
      exact op_val rfl (ex_pick e24 rfl w1) e29
    · intro a_ w1 hI hF hS
      have e30 : a_.eval (.tmp 30) = (.bool true) := hS ⟨13, .data⟩ (by simp) rfl _ rfl
      refine wantD (by rfl) ?_
      exact op_val rfl (ex_move rfl w1) e30
    · intro a_ w1 hI hF hS
      have e4 : a_.eval (.tmp 4) = (.slice (some ad2) 2 cap2) := (hF.2.2 4 (notDst_of (by kernel_rfl))).trans rfl
      have e31 : a_.eval (.tmp 31) = (.bool true) := hS ⟨14, .guard⟩ (by simp) rfl _ rfl
      refine wantD (wanted_of (j := 14) (b := true) (want := true) (by rfl) (by rfl) e31 rfl) ?_
      exact op_val rfl (ex_move rfl w1) e4
    · intro a_ w1 hI hF hS
      have e32 : a_.eval (.tmp 32) = (.slice (some ad2) 2 cap2) := hS ⟨15, .data⟩ (by simp) rfl _ rfl
      have e31 : a_.eval (.tmp 31) = (.bool true) := hS ⟨14, .guard⟩ (by simp) rfl _ rfl
      refine wantD (wanted_of (j := 14) (b := true) (want := true) (by rfl) (by rfl) e31 rfl) ?_
      exact op_val rfl (ex_index E24 (j := 1) e32 rfl rfl (by omega) w1) rfl
    · intro a_ w1 hI hF hS
      have e33 : a_.eval (.tmp 33) = (.pointer (some (ad2.add (1 * 32)))) := hS ⟨16, .data⟩ (by simp) rfl _ rfl
      have e31 : a_.eval (.tmp 31) = (.bool true) := hS ⟨14, .guard⟩ (by simp) rfl _ rfl
      refine wantD (wanted_of (j := 14) (b := true) (want := true) (by rfl) (by rfl) e31 rfl) ?_
      exact op_val rfl (ex_load_agg (t := 33) (sz := 32) e33 Try.underlying33 rfl (by kernel_rfl) (Arr.len (idN 3)) (Ids.get (l := [idN 1, idN 3]) (cap := cap2) hI.1.sl0 1 (by decide))) rfl
    · intro a_ w1 hI hF hS
      have e3 : a_.eval (.tmp 3) = (.pointer (some ⟨g3, 0, none⟩)) := (hF.2.2 3 (notDst_of (by kernel_rfl))).trans rfl
      have e31 : a_.eval (.tmp 31) = (.bool true) := hS ⟨14, .guard⟩ (by simp) rfl _ rfl
      refine wantD (wanted_of (j := 14) (b := true) (want := true) (by rfl) (by rfl) e31 rfl) ?_
      exact op_val rfl (ex_loadA A33 hI.1 e3 (by first | exact .here | exact .there .here | exact .there (.there .here))) rfl
    · intro a_ w1 hI hF hS
      have e34 : a_.eval (.tmp 34) = (idN 3).val := hS ⟨17, .data⟩ (by simp) rfl _ rfl
      have e35 : a_.eval (.tmp 35) = (idN 3).val := hS ⟨18, .data⟩ (by simp) rfl _ rfl
      have e31 : a_.eval (.tmp 31) = (.bool true) := hS ⟨14, .guard⟩ (by simp) rfl _ rfl
      refine wantD (wanted_of (j := 14) (b := true) (want := true) (by rfl) (by rfl) e31 rfl) ?_
      exact op_val rfl (ex_eql_arr Try.underlying33 Try.underlying5 (by kernel_rfl) (by kernel_rfl) e34 e35 w1) (congrArg Value.bool (beq_yes rfl))
    · intro a_ w1 hI hF hS
      have e31 : a_.eval (.tmp 31) = (.bool true) := hS ⟨14, .data⟩ (by simp) rfl _ rfl
      have e36 : a_.eval (.tmp 36) = (.bool true) := hS ⟨19, .data⟩ (by simp) rfl _ rfl
      refine wantD (by rfl) ?_
      exact op_val rfl (ex_pick e31 rfl w1) e36
    · intro a_ w1 hI hF hS
      have e37 : a_.eval (.tmp 37) = (.bool true) := hS ⟨20, .data⟩ (by simp) rfl _ rfl
      refine wantD (by rfl) ?_
      exact op_val rfl (ex_move rfl w1) e37
    · intro a_ w1 hI hF hS
      have e1 : a_.eval (.tmp 1) = (.pointer (some ⟨g1, 0, none⟩)) := (hF.2.2 1 (notDst_of (by kernel_rfl))).trans rfl
      have e38 : a_.eval (.tmp 38) = (.bool true) := hS ⟨21, .guard⟩ (by simp) rfl _ rfl
      refine wantD (wanted_of (j := 21) (b := true) (want := true) (by rfl) (by rfl) e38 rfl) ?_
      exact op_val rfl (ex_loadA A33 hI.1 e1 (by first | exact .here | exact .there .here | exact .there (.there .here))) rfl
    · intro a_ w1 hI hF hS
      have e3 : a_.eval (.tmp 3) = (.pointer (some ⟨g3, 0, none⟩)) := (hF.2.2 3 (notDst_of (by kernel_rfl))).trans rfl
      have e38 : a_.eval (.tmp 38) = (.bool true) := hS ⟨21, .guard⟩ (by simp) rfl _ rfl
      refine wantD (wanted_of (j := 21) (b := true) (want := true) (by rfl) (by rfl) e38 rfl) ?_
      exact op_val rfl (ex_loadA A33 hI.1 e3 (by first | exact .here | exact .there .here | exact .there (.there .here))) rfl
    · intro a_ w1 hI hF hS
      have e39 : a_.eval (.tmp 39) = (idN 1).val := hS ⟨22, .data⟩ (by simp) rfl _ rfl
      have e40 : a_.eval (.tmp 40) = (idN 3).val := hS ⟨23, .data⟩ (by simp) rfl _ rfl
      have e38 : a_.eval (.tmp 38) = (.bool true) := hS ⟨21, .guard⟩ (by simp) rfl _ rfl
      refine wantD (wanted_of (j := 21) (b := true) (want := true) (by rfl) (by rfl) e38 rfl) ?_
      obtain ⟨v_, w_, hr_, hb_, hA_⟩ := ex_buildArr (ρ := a_.eval) E24 [idN 1, idN 3] (parts := #[(0, .tmp 39), (1, .tmp 40)]) (n := 2) rfl (by simp [e39, e40]) (by decide) w1; exact op_new rfl hr_ hb_ (hA_ _ hI.2.size)
    · intro a_ w1 hI hF hS
      have e1 : a_.eval (.tmp 1) = (.pointer (some ⟨g1, 0, none⟩)) := (hF.2.2 1 (notDst_of (by kernel_rfl))).trans rfl
      have e38 : a_.eval (.tmp 38) = (.bool true) := hS ⟨21, .guard⟩ (by simp) rfl _ rfl
      refine wantD (wanted_of (j := 21) (b := true) (want := true) (by rfl) (by rfl) e38 rfl) ?_
      exact op_val rfl (ex_loadA A33 hI.1 e1 (by first | exact .here | exact .there .here | exact .there (.there .here))) rfl
    · intro a_ w1 hI hF hS
      have e2 : a_.eval (.tmp 2) = (.pointer (some ⟨g2, 0, none⟩)) := (hF.2.2 2 (notDst_of (by kernel_rfl))).trans rfl
      have e38 : a_.eval (.tmp 38) = (.bool true) := hS ⟨21, .guard⟩ (by simp) rfl _ rfl
      refine wantD (wanted_of (j := 21) (b := true) (want := true) (by rfl) (by rfl) e38 rfl) ?_
      exact op_val rfl (ex_loadA A33 hI.1 e2 (by first | exact .here | exact .there .here | exact .there (.there .here))) rfl
    · intro a_ w1 hI hF hS
      have e3 : a_.eval (.tmp 3) = (.pointer (some ⟨g3, 0, none⟩)) := (hF.2.2 3 (notDst_of (by kernel_rfl))).trans rfl
      have e38 : a_.eval (.tmp 38) = (.bool true) := hS ⟨21, .guard⟩ (by simp) rfl _ rfl
      refine wantD (wanted_of (j := 21) (b := true) (want := true) (by rfl) (by rfl) e38 rfl) ?_
      exact op_val rfl (ex_loadA A33 hI.1 e3 (by first | exact .here | exact .there .here | exact .there (.there .here))) rfl
    · intro a_ w1 hI hF hS
      have e42 : a_.eval (.tmp 42) = (idN 1).val := hS ⟨25, .data⟩ (by simp) rfl _ rfl
      have e43 : a_.eval (.tmp 43) = (idN 2).val := hS ⟨26, .data⟩ (by simp) rfl _ rfl
      have e44 : a_.eval (.tmp 44) = (idN 3).val := hS ⟨27, .data⟩ (by simp) rfl _ rfl
      have e38 : a_.eval (.tmp 38) = (.bool true) := hS ⟨21, .guard⟩ (by simp) rfl _ rfl
      refine wantD (wanted_of (j := 21) (b := true) (want := true) (by rfl) (by rfl) e38 rfl) ?_
      obtain ⟨v_, w_, hr_, hb_, hA_⟩ := ex_buildArr (ρ := a_.eval) E24 [idN 1, idN 2, idN 3] (parts := #[(0, .tmp 42), (1, .tmp 43), (2, .tmp 44)]) (n := 3) rfl (by simp [e42, e43, e44]) (by decide) w1; exact op_new rfl hr_ hb_ (hA_ _ hI.2.size)
    · intro a_ w1 hI hF hS
      have e41 : (Asr.full w2.heap.size 33 32 2 (flat [idN 1, idN 3])).p (a_.eval (.tmp 41)) w1 := hS ⟨24, .data⟩ (by simp) rfl _ rfl
      have e45 : (Asr.full w2.heap.size 33 32 3 (flat [idN 1, idN 2, idN 3])).p (a_.eval (.tmp 45)) w1 := hS ⟨28, .data⟩ (by simp) rfl _ rfl
      have e38 : a_.eval (.tmp 38) = (.bool true) := hS ⟨21, .chain⟩ (by simp) rfl _ rfl
      refine wantD (wanted_of (j := 21) (b := true) (want := true) (by rfl) (by rfl) e38 rfl) ?_
      exact op_call B22 rfl ((isTrimmed_any w1 _ _ [idN 1, idN 3] [idN 1, idN 2, idN 3] (Sl.of_row e41.2) (Sl.of_row e45.2) (by simp) (by simp)).mono fun e w' ⟨he, hb⟩ => ⟨_, he, hb, congrArg Value.bool (show isTrimB [idN 1, idN 3] [idN 1, idN 2, idN 3] = true by decide)⟩)
    · intro a_ w1 hI hF hS
      have e38 : a_.eval (.tmp 38) = (.bool true) := hS ⟨21, .data⟩ (by simp) rfl _ rfl
      have e46 : a_.eval (.tmp 46) = (.bool true) := hS ⟨29, .data⟩ (by simp) rfl _ rfl
      refine wantD (by rfl) ?_
      exact op_val rfl (ex_pick e38 rfl w1) e46
    · intro a_ w1 hI hF hS
      have e47 : a_.eval (.tmp 47) = (.bool true) := hS ⟨30, .data⟩ (by simp) rfl _ rfl
      refine wantD (by rfl) ?_
      exact op_val rfl (ex_assign rfl w1) e47
  intro wq hq_ hb_
  intro v0_ h0_ v1_ h1_ v2_ h2_ v3_ h3_ v4_ h4_ v5_ h5_ v6_ h6_ v7_ h7_ v8_ h8_ v9_ h9_ v10_ h10_ v11_ h11_ v12_ h12_ v13_ h13_ v14_ h14_ v15_ h15_ v16_ h16_ v17_ h17_ v18_ h18_ v19_ h19_ v20_ h20_ v21_ h21_ v22_ h22_ v23_ h23_ v24_ h24_ v25_ h25_ v26_ h26_ v27_ h27_ v28_ h28_ v29_ h29_ v30_ h30_ v31_ h31_
  have q_ : v0_ = (.int .i64 0) := h0_; clear h0_; subst q_
  have q_ : v1_ = (.bool true) := h1_; clear h1_; subst q_
  have q_ : v2_ = (.bool true) := h2_; clear h2_; subst q_
  have q_ : v3_ = (.slice (some ad2) 2 cap2) := h3_; clear h3_; subst q_
  have q_ : v4_ = (.int .i64 2) := h4_; clear h4_; subst q_
  have q_ : v5_ = (.bool true) := h5_; clear h5_; subst q_
  have q_ : v6_ = (.bool true) := h6_; clear h6_; subst q_
  have q_ : v7_ = (.bool true) := h7_; clear h7_; subst q_
  have q_ : v8_ = (.slice (some ad2) 2 cap2) := h8_; clear h8_; subst q_
  have q_ : v9_ = (.pointer (some (ad2.add (0 * 32)))) := h9_; clear h9_; subst q_
  have q_ : v10_ = (idN 1).val := h10_; clear h10_; subst q_
  have q_ : v11_ = (idN 1).val := h11_; clear h11_; subst q_
  have q_ : v12_ = (.bool true) := h12_; clear h12_; subst q_
  have q_ : v13_ = (.bool true) := h13_; clear h13_; subst q_
  have q_ : v14_ = (.bool true) := h14_; clear h14_; subst q_
  have q_ : v15_ = (.slice (some ad2) 2 cap2) := h15_; clear h15_; subst q_
  have q_ : v16_ = (.pointer (some (ad2.add (1 * 32)))) := h16_; clear h16_; subst q_
  have q_ : v17_ = (idN 3).val := h17_; clear h17_; subst q_
  have q_ : v18_ = (idN 3).val := h18_; clear h18_; subst q_
  have q_ : v19_ = (.bool true) := h19_; clear h19_; subst q_
  have q_ : v20_ = (.bool true) := h20_; clear h20_; subst q_
  have q_ : v21_ = (.bool true) := h21_; clear h21_; subst q_
  have q_ : v22_ = (idN 1).val := h22_; clear h22_; subst q_
  have q_ : v23_ = (idN 3).val := h23_; clear h23_; subst q_
  have K24 := hid h24_; clear h24_
  have q_ : v25_ = (idN 1).val := h25_; clear h25_; subst q_
  have q_ : v26_ = (idN 2).val := h26_; clear h26_; subst q_
  have q_ : v27_ = (idN 3).val := h27_; clear h27_; subst q_
  have K28 := hid h28_; clear h28_
  have q_ : v29_ = (.bool true) := h29_; clear h29_; subst q_
  have q_ : v30_ = (.bool true) := h30_; clear h30_; subst q_
  have q_ : v31_ = (.bool true) := h31_; clear h31_; subst q_
  simp only [endD, putsD, Act.put, List.setIfInBounds_toArray, List.set_cons_succ, List.set_cons_zero]
  have HQ := hid hq_; clear hq_
  have HB_ := hid hb_; clear hb_
  go_wp2
  go_ret
  exact RetB.mk rfl HQ.out.below
end Go.Proofs.Ytohdkmgnnncpkaa
