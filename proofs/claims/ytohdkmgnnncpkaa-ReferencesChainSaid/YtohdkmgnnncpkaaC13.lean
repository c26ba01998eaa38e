/- Reply of the references and of the reference. Condition: lists of at most 2^41 identities. -/
import Derived.Test.YtohdkmgnnncpkaaC10
import Derived.Test.YtohdkmgnnncpkaaT
namespace Go.Proofs.Ytohdkmgnnncpkaa
open Go.RowKit
def replyE (l : List Id) (x : Id) : Int := if checkE l != 0 then checkE l else addE l x
def replyV (l : List Id) (x : Id) : List Id := if replyE l x = 0 then cutL (l ++ [x]) 20 else []
theorem B33' : Body Try.prog 33 := ⟨_, _, Try.func33, rfl, rfl⟩
theorem row_base {w : World} {b b' : Nat} {e : TypeId} {sz n : Nat} {v : Value} {xs : List Value} (h : w.ownsRow b e sz v n xs) (hb : b' ≤ b) : w.ownsRow b' e sz v n xs := by
  refine ⟨h.1, ?_⟩
  rcases h.2 with hn | ⟨g, cap, cur, hv, hg, rest⟩
  · exact .inl hn
  · exact .inr ⟨g, cap, cur, hv, Nat.le_trans hb hg, rest⟩
theorem own_eq {w : World} {b : Nat} {e : TypeId} {sz n m : Nat} {v : Value} {xs ys : List Value} (h : w.ownsRow b e sz v n xs) (h1 : n = m) (h2 : xs = ys) : w.ownsRow b e sz v m ys := by subst h1 h2; exact h
theorem trim20_any (w : World) (v : Value) (l : List Id) (hl : Ids w v l) (hn : l.length * 32 ≤ 140737488355328) : Calls Try.prog 29 #[v, .int .i64 20] w (RetIds 33 w (cutL l 20)) :=
  trim_any w v l hl hn 20 (by omega)
theorem cut20_any (w : World) (v : Value) (l : List Id) (hl : Ids w v l) (hn : l.length * 32 ≤ 140737488355328) : Calls Try.prog 30 #[v, .int .i64 20] w (RetIds 38 w (cutL l 20)) :=
  cut_any w v l hl hn 20 (by omega)
set_option maxRecDepth 100000 in
set_option maxHeartbeats 1000000 in
theorem reply_any (w : World) (v : Value) (l : List Id) (x : Id) (hl : Ids w v l) (hn : (l.length + 1) * 32 ≤ 140737488355328) :
    Calls Try.prog 23 #[v, x.val] w (RetIdsE 33 w (replyV l x) (replyE l x)) := by
  obtain ⟨ao, cap, rfl, hc⟩ := hl.shape
  have HH := hid (Holds.init w)
  have HL := hid hl
  have HN := hid hn
  clear hl
  cases e1 : (checkE l != 0) with
  | true =>
    have hm : replyE l x = checkE l := by unfold replyE; rw [e1]; rfl
    have hv : replyV l x = [] := by unfold replyV; rw [hm, if_neg (by simpa using e1)]
    rw [hm, hv]
    clear hm hv
    go_enter Try.func23, Try.ntmps23
    go_wp2_with (first
      | (go_at_call 20; (with_reducible refine (check_any _ _ l (HH.out.sl HL.out) (by omega)).mono ?_); rintro e w2 ⟨rfl, hb⟩; (have hq_ := HH.out.grow hb); clear HH; have HH := hid hq_; clear hq_ hb)
      | ((with_reducible apply wpList_loadA A33 HH.out); rfl; (first | exact .here | exact .there .here | exact .there (.there .here) | exact .there (.there (.there .here)) | exact .there (.there (.there (.there .here))) | exact .there (.there (.there (.there (.there .here))))); rfl)
      | ((with_reducible apply wpList_allocA Z33 HH.out); go_must ((rfl; (intro g_ w_ hq_; clear HH; have HH := hid hq_; clear hq_))))
      | ((with_reducible apply wpList_storeA S33 HH.out); go_must ((rfl; rfl; (first | exact .here | exact .there .here | exact .there (.there .here) | exact .there (.there (.there .here)) | exact .there (.there (.there (.there .here))) | exact .there (.there (.there (.there (.there .here))))); rfl; (intro w_ hq_; clear HH; have HH := hid hq_; clear hq_))))
      | ((with_reducible apply wpList_boxA (e := 33) HH.out); rfl; rfl; (intro g_ w_ hq_; clear HH; have HH := hid hq_; clear hq_)))
    go_ret2
    exact retIdsE_nil HH.out.below
  | false =>
    have hm : replyE l x = addE l x := by unfold replyE; rw [e1]; rfl
    cases hz : (x == Id0) with
    | true =>
      have E := hid hz
      have hv : replyV l x = [] := by unfold replyV; rw [hm, addE_one hz]; rfl
      rw [hm, hv, addE_one hz]
      clear hm hv hz
      go_enter Try.func23, Try.ntmps23
      go_wp2_with (first
        | (go_at_call 20; (with_reducible refine (check_any _ _ l (HH.out.sl HL.out) (by omega)).mono ?_); rintro e w2 ⟨rfl, hb⟩; (have hq_ := HH.out.grow hb); clear HH; have HH := hid hq_; clear hq_ hb)
        | ((with_reducible apply wpList_build (parts := #[]) (v := Id0.val)); (exact BZ); rfl)
        | ((with_reducible apply wpList_eql_arr R33 (p := x) (q := Id0)); rfl; rfl; rfl; rw [E.out])
        | ((with_reducible apply wpList_loadA A33 HH.out); rfl; (first | exact .here | exact .there .here | exact .there (.there .here) | exact .there (.there (.there .here)) | exact .there (.there (.there (.there .here))) | exact .there (.there (.there (.there (.there .here))))); rfl)
        | ((with_reducible apply wpList_allocA Z33 HH.out); go_must ((rfl; (intro g_ w_ hq_; clear HH; have HH := hid hq_; clear hq_))))
        | ((with_reducible apply wpList_storeA S33 HH.out); go_must ((rfl; rfl; (first | exact .here | exact .there .here | exact .there (.there .here) | exact .there (.there (.there .here)) | exact .there (.there (.there (.there .here))) | exact .there (.there (.there (.there (.there .here))))); rfl; (intro w_ hq_; clear HH; have HH := hid hq_; clear hq_))))
        | ((with_reducible apply wpList_boxA (e := 33) HH.out); rfl; rfl; (intro g_ w_ hq_; clear HH; have HH := hid hq_; clear hq_)))
      go_ret2
      exact retIdsE_nil HH.out.below
    | false =>
      have E := hid hz
      cases hc : l.contains x with
      | true =>
        have F := hid hc
        have hv : replyV l x = [] := by unfold replyV; rw [hm, addE_seven hz hc]; rfl
        rw [hm, hv, addE_seven hz hc]
        clear hm hv hz hc
        go_enter Try.func23, Try.ntmps23
        go_wp2_with (first
          | (go_at_call 20; (with_reducible refine (check_any _ _ l (HH.out.sl HL.out) (by omega)).mono ?_); rintro e w2 ⟨rfl, hb⟩; (have hq_ := HH.out.grow hb); clear HH; have HH := hid hq_; clear hq_ hb)
          | ((with_reducible apply wpList_build (parts := #[]) (v := Id0.val)); (exact BZ); rfl)
          | ((with_reducible apply wpList_eql_arr R33 (p := x) (q := Id0)); rfl; rfl; rfl; rw [E.out])
          | (go_at_call 35; (with_reducible refine (contains_any _ _ l x (HH.out.sl HL.out) (by omega)).mono ?_); rw [F.out]; rintro e w2 ⟨rfl, hb⟩; (have hq_ := HH.out.grow hb); clear HH; have HH := hid hq_; clear hq_ hb)
          | ((with_reducible apply wpList_loadA A33 HH.out); rfl; (first | exact .here | exact .there .here | exact .there (.there .here) | exact .there (.there (.there .here)) | exact .there (.there (.there (.there .here))) | exact .there (.there (.there (.there (.there .here))))); rfl)
          | ((with_reducible apply wpList_allocA Z33 HH.out); go_must ((rfl; (intro g_ w_ hq_; clear HH; have HH := hid hq_; clear hq_))))
          | ((with_reducible apply wpList_storeA S33 HH.out); go_must ((rfl; rfl; (first | exact .here | exact .there .here | exact .there (.there .here) | exact .there (.there (.there .here)) | exact .there (.there (.there (.there .here))) | exact .there (.there (.there (.there (.there .here))))); rfl; (intro w_ hq_; clear HH; have HH := hid hq_; clear hq_))))
          | ((with_reducible apply wpList_boxA (e := 33) HH.out); rfl; rfl; (intro g_ w_ hq_; clear HH; have HH := hid hq_; clear hq_)))
        go_ret2
        exact retIdsE_nil HH.out.below
      | false =>
        have F := hid hc
        have hv : replyV l x = cutL (l ++ [x]) 20 := by unfold replyV; rw [hm, addE_zero hz hc]; rfl
        rw [hm, hv, addE_zero hz hc]
        clear hm hv hz hc
        go_enter Try.func23, Try.ntmps23
        go_wp2_with (first
          | ((with_reducible apply wpList_boxA (e := 33) HH.out); rfl; rfl; (intro gx w_ hq_; clear HH; have HH := hid hq_; clear hq_))
          | (go_at_call 20; (with_reducible refine (check_any _ _ l (HH.out.sl HL.out) (by omega)).mono ?_); rintro e w2 ⟨rfl, hb⟩; (have hq_ := HH.out.grow hb); clear HH; have HH := hid hq_; clear hq_ hb)
          | ((with_reducible apply wpList_build (parts := #[]) (v := Id0.val)); (exact BZ); rfl)
          | ((with_reducible apply wpList_eql_arr R33 (p := x) (q := Id0)); rfl; rfl; rfl; rw [E.out])
          | (go_at_call 35; (with_reducible refine (contains_any _ _ l x (HH.out.sl HL.out) (by omega)).mono ?_); rw [F.out]; rintro e w2 ⟨rfl, hb⟩; (have hq_ := HH.out.grow hb); clear HH; have HH := hid hq_; clear hq_ hb)
          | ((with_reducible apply wpList_loadA A33 HH.out); rfl; (first | exact .here | exact .there .here | exact .there (.there .here) | exact .there (.there (.there .here)) | exact .there (.there (.there (.there .here))) | exact .there (.there (.there (.there (.there .here))))); rfl)
          | ((with_reducible apply wpList_allocA Z33 HH.out); go_must ((rfl; (intro g_ w_ hq_; clear HH; have HH := hid hq_; clear hq_))))
          | ((with_reducible apply wpList_storeA S33 HH.out); go_must ((rfl; rfl; (first | exact .here | exact .there .here | exact .there (.there .here) | exact .there (.there (.there .here)) | exact .there (.there (.there (.there .here))) | exact .there (.there (.there (.there (.there .here))))); rfl; (intro w_ hq_; clear HH; have HH := hid hq_; clear hq_))))
          | ((with_reducible apply wpList_boxA (e := 33) HH.out); rfl; rfl; (intro g_ w_ hq_; clear HH; have HH := hid hq_; clear hq_)))
        refine wp_region_tailR 4 [Asr.is (.slice ao l.length cap), Asr.row w2.heap.size 33 32 l.length (flat l), Asr.is x.val, Asr.full w2.heap.size 33 32 1 (flat [x])] HH.out (by kernel_rfl) (by kernel_rfl) (by kernel_rfl) rfl ?_ ?_
        all_goals simp only [List.take_succ_cons, List.take_zero, List.drop_succ_cons, List.drop_zero]
        · refine eachD_cons ?_ (eachD_cons ?_ (eachD_cons ?_ (eachD_cons ?_ (eachD_nil))))
          · intro a_ w1 hI hF hS
            have e0 : a_.eval (.tmp 0) = (.slice ao l.length cap) := (hF.2.2 0 (notDst_of (by kernel_rfl))).trans rfl
            refine wantD (by rfl) ?_
            exact op_val rfl (ex_move rfl w1) e0
          · intro a_ w1 hI hF hS
            have e18 : a_.eval (.tmp 18) = (.slice ao l.length cap) := hS ⟨0, .data⟩ (by simp) rfl _ rfl
            refine wantD (by rfl) ?_
            exact op_call B33' rfl ((clone_any w1 _ l (by rw [e18]; exact hI.1.sl HL.out) (by have := HN.out; omega)).mono fun e w' ⟨a', c', he, hr, hb⟩ => ⟨_, he, hb, row_base hr hI.2.size⟩)
          · intro a_ w1 hI hF hS
            have e3 : a_.eval (.tmp 3) = (.pointer (some ⟨gx, 0, none⟩)) := (hF.2.2 3 (notDst_of (by kernel_rfl))).trans rfl
            refine wantD (by rfl) ?_
            exact op_val rfl (ex_loadA A33 hI.1 e3 (by exact .here)) rfl
          · intro a_ w1 hI hF hS
            have e20 : a_.eval (.tmp 20) = x.val := hS ⟨2, .data⟩ (by simp) rfl _ rfl
            refine wantD (by rfl) ?_
            obtain ⟨v_, w_, hr_, hb_, hA_⟩ := ex_buildArr (ρ := a_.eval) E24 [x] (parts := #[(0, .tmp 20)]) (n := 1) rfl (by simp [e20]) (by decide) w1; exact op_new rfl hr_ hb_ (hA_ _ hI.2.size)
        intro wq hq_ hb_
        intro v0_ h0_ v1_ h1_ v2_ h2_ v3_ h3_
        have q_ : v0_ = (.slice ao l.length cap) := h0_; clear h0_; subst q_
        have K1 := hid h1_; clear h1_
        have q_ : v2_ = x.val := h2_; clear h2_; subst q_
        have K3 := hid h3_; clear h3_
        simp only [endD, putsD, Act.put, List.setIfInBounds_toArray, List.set_cons_succ, List.set_cons_zero]
        have HQ := hid hq_; clear hq_
        have HB_ := hid hb_; clear hb_
        obtain ⟨ac, cc, rfl⟩ := row_shape K1.out
        obtain ⟨ad, cd, rfl⟩ := row_shape K3.out.2
        have HA : Hid (Holds w [] [(gx, objA x 33)] [⟨.slice ac l.length cc, 33, 32, l.length, flat l⟩] wq) := hid (HH.out.addRow HB_.out K1.out)
        have H3 : Hid (Sl wq (.slice ad 1 cd) 32 1 (flat [x])) := hid (Sl.of_row K3.out.2)
        go_wp2_with (first
          | ((with_reducible apply wpList_append E24 HA.out H3.out (flat_cell1 _)); go_must (((have := HN.out; omega); rfl; rfl; rfl; (intro ao1 cap1 wz hq; have H2 := hid hq; clear hq))))
          | (go_at_call 29; (with_reducible refine (trim20_any _ _ (l ++ [x]) (Ids.of H2.out.sl0 (by simp) (by simp [flat_append])) (by have := HN.out; simpa using this)).mono ?_); rintro e wy ⟨ao2, cap2, rfl, hr⟩; have HR := hid hr; clear hr))
        go_ret2
        exact RetIdsE.mk ⟨row_base HR.out.1 H2.out.size, H2.out.below.trans (HR.out.2.mono H2.out.size)⟩ rfl
set_option maxRecDepth 100000 in
set_option maxHeartbeats 1000000 in
theorem refReply_any (w : World) (v : Value) (l : List Id) (x : Id) (hl : Ids w v l) (hn : (l.length + 1) * 32 ≤ 140737488355328) :
    Calls Try.prog 24 #[v, x.val] w (RetIdsE 38 w (replyV l x) (replyE l x)) := by
  obtain ⟨ao, cap, rfl, hc⟩ := hl.shape
  have HH := hid (Holds.init w)
  have HL := hid hl
  have HN := hid hn
  clear hl
  cases e1 : (checkE l != 0) with
  | true =>
    have hm : replyE l x = checkE l := by unfold replyE; rw [e1]; rfl
    have hv : replyV l x = [] := by unfold replyV; rw [hm, if_neg (by simpa using e1)]
    rw [hm, hv]
    clear hm hv
    go_enter Try.func24, Try.ntmps24
    go_wp2_with (first
      | (go_at_call 36; (with_reducible refine (checkR_any _ _ l (HH.out.sl HL.out) (by omega)).mono ?_); rintro e w2 ⟨rfl, hb⟩; (have hq_ := HH.out.grow hb); clear HH; have HH := hid hq_; clear hq_ hb)
      | ((with_reducible apply wpList_loadA A38 HH.out); rfl; (first | exact .here | exact .there .here | exact .there (.there .here) | exact .there (.there (.there .here)) | exact .there (.there (.there (.there .here))) | exact .there (.there (.there (.there (.there .here))))); rfl)
      | ((with_reducible apply wpList_allocA Z38 HH.out); go_must ((rfl; (intro g_ w_ hq_; clear HH; have HH := hid hq_; clear hq_))))
      | ((with_reducible apply wpList_storeA S38 HH.out); go_must ((rfl; rfl; (first | exact .here | exact .there .here | exact .there (.there .here) | exact .there (.there (.there .here)) | exact .there (.there (.there (.there .here))) | exact .there (.there (.there (.there (.there .here))))); rfl; (intro w_ hq_; clear HH; have HH := hid hq_; clear hq_))))
      | ((with_reducible apply wpList_boxA (e := 38) HH.out); rfl; rfl; (intro g_ w_ hq_; clear HH; have HH := hid hq_; clear hq_)))
    go_ret2
    exact retIdsE_nil HH.out.below
  | false =>
    have hm : replyE l x = addE l x := by unfold replyE; rw [e1]; rfl
    cases hz : (x == Id0) with
    | true =>
      have E := hid hz
      have hv : replyV l x = [] := by unfold replyV; rw [hm, addE_one hz]; rfl
      rw [hm, hv, addE_one hz]
      clear hm hv hz
      go_enter Try.func24, Try.ntmps24
      go_wp2_with (first
        | (go_at_call 36; (with_reducible refine (checkR_any _ _ l (HH.out.sl HL.out) (by omega)).mono ?_); rintro e w2 ⟨rfl, hb⟩; (have hq_ := HH.out.grow hb); clear HH; have HH := hid hq_; clear hq_ hb)
        | ((with_reducible apply wpList_build (parts := #[]) (v := Id0.val)); (exact BZ38); rfl)
        | ((with_reducible apply wpList_eql_arr R38 (p := x) (q := Id0)); rfl; rfl; rfl; rw [E.out])
        | ((with_reducible apply wpList_loadA A38 HH.out); rfl; (first | exact .here | exact .there .here | exact .there (.there .here) | exact .there (.there (.there .here)) | exact .there (.there (.there (.there .here))) | exact .there (.there (.there (.there (.there .here))))); rfl)
        | ((with_reducible apply wpList_allocA Z38 HH.out); go_must ((rfl; (intro g_ w_ hq_; clear HH; have HH := hid hq_; clear hq_))))
        | ((with_reducible apply wpList_storeA S38 HH.out); go_must ((rfl; rfl; (first | exact .here | exact .there .here | exact .there (.there .here) | exact .there (.there (.there .here)) | exact .there (.there (.there (.there .here))) | exact .there (.there (.there (.there (.there .here))))); rfl; (intro w_ hq_; clear HH; have HH := hid hq_; clear hq_))))
        | ((with_reducible apply wpList_boxA (e := 38) HH.out); rfl; rfl; (intro g_ w_ hq_; clear HH; have HH := hid hq_; clear hq_)))
      go_ret2
      exact retIdsE_nil HH.out.below
    | false =>
      have E := hid hz
      cases hc : l.contains x with
      | true =>
        have F := hid hc
        have hv : replyV l x = [] := by unfold replyV; rw [hm, addE_seven hz hc]; rfl
        rw [hm, hv, addE_seven hz hc]
        clear hm hv hz hc
        go_enter Try.func24, Try.ntmps24
        go_wp2_with (first
          | (go_at_call 36; (with_reducible refine (checkR_any _ _ l (HH.out.sl HL.out) (by omega)).mono ?_); rintro e w2 ⟨rfl, hb⟩; (have hq_ := HH.out.grow hb); clear HH; have HH := hid hq_; clear hq_ hb)
          | ((with_reducible apply wpList_build (parts := #[]) (v := Id0.val)); (exact BZ38); rfl)
          | ((with_reducible apply wpList_eql_arr R38 (p := x) (q := Id0)); rfl; rfl; rfl; rw [E.out])
          | (go_at_call 37; (with_reducible refine (has_any _ _ l x (HH.out.sl HL.out) (by omega)).mono ?_); rw [F.out]; rintro e w2 ⟨rfl, hb⟩; (have hq_ := HH.out.grow hb); clear HH; have HH := hid hq_; clear hq_ hb)
          | ((with_reducible apply wpList_loadA A38 HH.out); rfl; (first | exact .here | exact .there .here | exact .there (.there .here) | exact .there (.there (.there .here)) | exact .there (.there (.there (.there .here))) | exact .there (.there (.there (.there (.there .here))))); rfl)
          | ((with_reducible apply wpList_allocA Z38 HH.out); go_must ((rfl; (intro g_ w_ hq_; clear HH; have HH := hid hq_; clear hq_))))
          | ((with_reducible apply wpList_storeA S38 HH.out); go_must ((rfl; rfl; (first | exact .here | exact .there .here | exact .there (.there .here) | exact .there (.there (.there .here)) | exact .there (.there (.there (.there .here))) | exact .there (.there (.there (.there (.there .here))))); rfl; (intro w_ hq_; clear HH; have HH := hid hq_; clear hq_))))
          | ((with_reducible apply wpList_boxA (e := 38) HH.out); rfl; rfl; (intro g_ w_ hq_; clear HH; have HH := hid hq_; clear hq_)))
        go_ret2
        exact retIdsE_nil HH.out.below
      | false =>
        have F := hid hc
        have hv : replyV l x = cutL (l ++ [x]) 20 := by unfold replyV; rw [hm, addE_zero hz hc]; rfl
        rw [hm, hv, addE_zero hz hc]
        clear hm hv hz hc
        go_enter Try.func24, Try.ntmps24
        go_wp2_with (first
          | ((with_reducible apply wpList_boxA (e := 38) HH.out); rfl; rfl; (intro gx w_ hq_; clear HH; have HH := hid hq_; clear hq_))
          | (go_at_call 36; (with_reducible refine (checkR_any _ _ l (HH.out.sl HL.out) (by omega)).mono ?_); rintro e w2 ⟨rfl, hb⟩; (have hq_ := HH.out.grow hb); clear HH; have HH := hid hq_; clear hq_ hb)
          | ((with_reducible apply wpList_build (parts := #[]) (v := Id0.val)); (exact BZ38); rfl)
          | ((with_reducible apply wpList_eql_arr R38 (p := x) (q := Id0)); rfl; rfl; rfl; rw [E.out])
          | (go_at_call 37; (with_reducible refine (has_any _ _ l x (HH.out.sl HL.out) (by omega)).mono ?_); rw [F.out]; rintro e w2 ⟨rfl, hb⟩; (have hq_ := HH.out.grow hb); clear HH; have HH := hid hq_; clear hq_ hb)
          | ((with_reducible apply wpList_loadA A38 HH.out); rfl; (first | exact .here | exact .there .here | exact .there (.there .here) | exact .there (.there (.there .here)) | exact .there (.there (.there (.there .here))) | exact .there (.there (.there (.there (.there .here))))); rfl)
          | ((with_reducible apply wpList_allocA Z38 HH.out); go_must ((rfl; (intro g_ w_ hq_; clear HH; have HH := hid hq_; clear hq_))))
          | ((with_reducible apply wpList_storeA S38 HH.out); go_must ((rfl; rfl; (first | exact .here | exact .there .here | exact .there (.there .here) | exact .there (.there (.there .here)) | exact .there (.there (.there (.there .here))) | exact .there (.there (.there (.there (.there .here))))); rfl; (intro w_ hq_; clear HH; have HH := hid hq_; clear hq_))))
          | ((with_reducible apply wpList_boxA (e := 38) HH.out); rfl; rfl; (intro g_ w_ hq_; clear HH; have HH := hid hq_; clear hq_)))
        refine wp_region_tailR 5 [Asr.full w2.heap.size 38 32 0 (flat ([] : List Id)), Asr.is (.slice ao l.length cap), Asr.row w2.heap.size 38 32 (0 + l.length) (flat ([] : List Id) ++ flat l), Asr.is x.val, Asr.full w2.heap.size 38 32 1 (flat [x])] HH.out (by kernel_rfl) (by kernel_rfl) (by kernel_rfl) rfl ?_ ?_
        all_goals simp only [List.take_succ_cons, List.take_zero, List.drop_succ_cons, List.drop_zero]
        · refine eachD_cons ?_ (eachD_cons ?_ (eachD_cons ?_ (eachD_cons ?_ (eachD_cons ?_ (eachD_nil)))))
          · intro a_ w1 hI hF hS
            refine wantD (by rfl) ?_
            obtain ⟨v_, w_, hr_, hb_, hA_⟩ := ex_buildArr (ρ := a_.eval) E22 [] (parts := #[]) (n := 0) rfl rfl (by decide) w1; exact op_new rfl hr_ hb_ (hA_ _ hI.2.size)
          · intro a_ w1 hI hF hS
            have e0 : a_.eval (.tmp 0) = (.slice ao l.length cap) := (hF.2.2 0 (notDst_of (by kernel_rfl))).trans rfl
            refine wantD (by rfl) ?_
            exact op_val rfl (ex_move rfl w1) e0
          · intro a_ w1 hI hF hS
            have e18 : (Asr.full w2.heap.size 38 32 0 (flat ([] : List Id))).p (a_.eval (.tmp 18)) w1 := hS ⟨0, .data⟩ (by simp) rfl _ rfl
            have e19 : a_.eval (.tmp 19) = (.slice ao l.length cap) := hS ⟨1, .data⟩ (by simp) rfl _ rfl
            refine wantD (by rfl) ?_
            obtain ⟨v_, w_, hr_, hb_, hA_⟩ := ex_append_full (ρ := a_.eval) E22 e18 (m := l.length) (by rw [e19]; exact hI.1.sl HL.out) (flat_cell1 _) (by have := HN.out; omega) hI.2.size (s := .tmp 18) (y := .tmp 19) rfl rfl; exact op_new rfl hr_ hb_ hA_
          · intro a_ w1 hI hF hS
            have e3 : a_.eval (.tmp 3) = (.pointer (some ⟨gx, 0, none⟩)) := (hF.2.2 3 (notDst_of (by kernel_rfl))).trans rfl
            refine wantD (by rfl) ?_
            exact op_val rfl (ex_loadA A38 hI.1 e3 (by exact .here)) rfl
          · intro a_ w1 hI hF hS
            have e21 : a_.eval (.tmp 21) = x.val := hS ⟨3, .data⟩ (by simp) rfl _ rfl
            refine wantD (by rfl) ?_
            obtain ⟨v_, w_, hr_, hb_, hA_⟩ := ex_buildArr (ρ := a_.eval) E22 [x] (parts := #[(0, .tmp 21)]) (n := 1) rfl (by simp [e21]) (by decide) w1; exact op_new rfl hr_ hb_ (hA_ _ hI.2.size)
        intro wq hq_ hb_
        intro v0_ h0_ v1_ h1_ v2_ h2_ v3_ h3_ v4_ h4_
        have K0 := hid h0_; clear h0_
        have q_ : v1_ = (.slice ao l.length cap) := h1_; clear h1_; subst q_
        have K2 := hid h2_; clear h2_
        have q_ : v3_ = x.val := h3_; clear h3_; subst q_
        have K4 := hid h4_; clear h4_
        simp only [endD, putsD, Act.put, List.setIfInBounds_toArray, List.set_cons_succ, List.set_cons_zero]
        have HQ := hid hq_; clear hq_
        have HB_ := hid hb_; clear hb_
        have k2 := own_eq K2.out (Nat.zero_add _) (show flat ([] : List Id) ++ flat l = flat l by simp [flat_nil])
        obtain ⟨ac, cc, rfl⟩ := row_shape k2
        obtain ⟨ad, cd, rfl⟩ := row_shape K4.out.2
        have HA : Hid (Holds w [] [(gx, objA x 38)] [⟨.slice ac l.length cc, 38, 32, l.length, flat l⟩] wq) := hid (HH.out.addRow HB_.out k2)
        have H3 : Hid (Sl wq (.slice ad 1 cd) 32 1 (flat [x])) := hid (Sl.of_row K4.out.2)
        clear k2
        go_wp2_with (first
          | ((with_reducible apply wpList_append E22 HA.out H3.out (flat_cell1 _)); go_must (((have := HN.out; omega); rfl; rfl; rfl; (intro ao1 cap1 wz hq; have H2 := hid hq; clear hq))))
          | (go_at_call 30; (with_reducible refine (cut20_any _ _ (l ++ [x]) (Ids.of H2.out.sl0 (by simp) (by simp [flat_append])) (by have := HN.out; simpa using this)).mono ?_); rintro e wy ⟨ao2, cap2, rfl, hr⟩; have HR := hid hr; clear hr))
        go_ret2
        exact RetIdsE.mk ⟨row_base HR.out.1 H2.out.size, H2.out.below.trans (HR.out.2.mono H2.out.size)⟩ rfl
end Go.Proofs.Ytohdkmgnnncpkaa
