/- Cut of the reference; Trim of both. Condition: lists of at most 2^42 identities. -/
import Derived.Test.YtohdkmgnnncpkaaC4
namespace Go.Proofs.Ytohdkmgnnncpkaa
open Go.RowKit
set_option maxRecDepth 100000 in
set_option maxHeartbeats 400000 in
theorem cut_any (w : World) (v : Value) (l : List Id) (hl : Ids w v l) (hn : l.length * 32 ≤ 140737488355328) (n : Nat) (h1 : 1 ≤ n) :
    Calls Try.prog 30 #[v, .int .i64 n] w (RetIds 38 w (cutL l n)) := by
  obtain ⟨ao, cap, rfl, hc⟩ := hl.shape
  have HH := hid (Holds.init w)
  have HL := hid hl
  have HN := hid hn
  clear hl
  by_cases hle : l.length ≤ n
  · clear hn
    go_enter Try.func30, Try.ntmps30
    go_wp2_with (first
      | ((with_reducible apply wpList_buildArr E22 [] HH.out); go_must ((rfl; rfl; decide; rfl; (intro g w1 hq; have H1 := hid hq; clear hq HH))))
      | ((with_reducible apply wpList_append E22 H1.out (H1.out.sl HL.out) (flat_cell1 _)); go_must (((have := HN.out; omega); rfl; rfl; rfl; (intro ao1 cap1 w2 hq; have H2 := hid hq; clear hq H1)))))
    go_ret
    have e : cutL l n = l := by unfold cutL; rw [if_pos hle]
    rw [e]
    have h2 := H2.out
    simp only [Nat.zero_add, flat_nil, List.nil_append] at h2
    exact RetIds.mk ⟨h2.own0, h2.below⟩ rfl
  · have hlt0 : 1 ≤ l.length := by omega
    obtain ⟨a, c', e⟩ := HL.out.some (by omega)
    cases e
    by_cases h1' : n = 1
    · subst h1'
      rw [show ((1 : Nat) : Int) = 1 from rfl]
      have HG := hid (Ids.get HL.out (l.length - 1) (by omega))
      have e0 : ((l.length : Int) - 1) = ((l.length - 1 : Nat) : Int) := by omega
      have hx : l.length - 1 < l.length := by omega
      go_enter Try.func30, Try.ntmps30
      go_wp2_with (first
        | ((with_reducible apply wpList_load_agg A38 (Arr.len _) HG.out); go_must ((rfl; rfl)))
        | ((with_reducible apply wpList_buildArr E22 [l[l.length - 1]] HH.out); go_must ((rfl; rfl; decide; rfl; (intro g w1 hq; have H1 := hid hq; clear hq HH)))))
      go_ret
      have e : cutL l 1 = [l[l.length - 1]] := by
        unfold cutL; rw [if_neg (by omega), if_pos rfl]
        rw [List.drop_eq_getElem_cons hx, List.drop_eq_nil_of_le (by omega)]
      rw [e]
      exact RetIds.mk (l := [l[l.length - 1]]) ⟨H1.out.own0, H1.out.below⟩ rfl
    · have hlt : n < l.length := by omega
      go_enter Try.func30, Try.ntmps30
      go_wp2
      refine wp_region_R [Asr.is (.slice (some a) l.length cap), Asr.is (.pointer (some (a.add (0 * 32)))), Asr.is (l[0]).val, Asr.full w.heap.size 38 32 1 (flat [l[0]]), Asr.is (.slice (some a) l.length cap), Asr.is (.slice (some a) l.length cap), Asr.is (.int .i64 l.length), Asr.is (.int .i64 n), Asr.is (.int .i64 (l.length - n)), Asr.is (.int .i64 (l.length - n + 1)), Asr.is (.slice (if cap = l.length - n + 1 then some a else (some a).map (·.add ((l.length - n + 1) * 32))) (l.length - (l.length - n + 1)) (cap - (l.length - n + 1))), Asr.row w.heap.size 38 32 (1 + (l.length - (l.length - n + 1))) (flat [l[0]] ++ (flat l).drop ((l.length - n + 1) * 32)), Asr.row w.heap.size 38 32 (1 + (l.length - (l.length - n + 1))) (flat [l[0]] ++ (flat l).drop ((l.length - n + 1) * 32))] HH.out (by kernel_rfl) (by kernel_rfl) rfl ?_ ?_
      · refine eachD_cons ?_ (eachD_cons ?_ (eachD_cons ?_ (eachD_cons ?_ (eachD_cons ?_ (eachD_cons ?_ (eachD_cons ?_ (eachD_cons ?_ (eachD_cons ?_ (eachD_cons ?_ (eachD_cons ?_ (eachD_cons ?_ (eachD_cons ?_ (eachD_nil)))))))))))))
        · intro a_ w1 hI hF hS
          have e0 : a_.eval (.tmp 0) = (.slice (some a) l.length cap) := (hF.2.2 0 (notDst_of (by kernel_rfl))).trans rfl
          refine wantD (by rfl) ?_
          exact op_val rfl (ex_move rfl w1) e0
        · intro a_ w1 hI hF hS
          have e21 : a_.eval (.tmp 21) = (.slice (some a) l.length cap) := hS ⟨0, .data⟩ (by simp) rfl _ rfl
          refine wantD (by rfl) ?_
          exact op_val rfl (ex_index E22 (j := 0) e21 rfl rfl (by omega) w1) rfl
        · intro a_ w1 hI hF hS
          have e22 : a_.eval (.tmp 22) = (.pointer (some (a.add (0 * 32)))) := hS ⟨1, .data⟩ (by simp) rfl _ rfl
          refine wantD (by rfl) ?_
          exact op_val rfl (ex_load_agg (t := 38) (sz := 32) e22 Try.underlying38 rfl (by kernel_rfl) (Arr.len l[0]) ((show Ids w1 _ l from hI.1.sl HL.out).get 0 (by omega))) rfl
        · intro a_ w1 hI hF hS
          have e23 : a_.eval (.tmp 23) = (l[0]).val := hS ⟨2, .data⟩ (by simp) rfl _ rfl
          refine wantD (by rfl) ?_
          obtain ⟨v_, w_, hr_, hb_, hA_⟩ := ex_buildArr (ρ := a_.eval) E22 [l[0]] (parts := #[(0, .tmp 23)]) (n := 1) rfl (by simp [e23]) (by decide) w1; exact op_new rfl hr_ hb_ (hA_ _ hI.2.size)
        · intro a_ w1 hI hF hS
          have e0 : a_.eval (.tmp 0) = (.slice (some a) l.length cap) := (hF.2.2 0 (notDst_of (by kernel_rfl))).trans rfl
          refine wantD (by rfl) ?_
          exact op_val rfl (ex_move rfl w1) e0
        · intro a_ w1 hI hF hS
          have e0 : a_.eval (.tmp 0) = (.slice (some a) l.length cap) := (hF.2.2 0 (notDst_of (by kernel_rfl))).trans rfl
          refine wantD (by rfl) ?_
          exact op_val rfl (ex_move rfl w1) e0
        · intro a_ w1 hI hF hS
          have e26 : a_.eval (.tmp 26) = (.slice (some a) l.length cap) := hS ⟨5, .data⟩ (by simp) rfl _ rfl
          refine wantD (by rfl) ?_
          exact op_val rfl (ex_len Try.underlying22 e26 w1) rfl
        · intro a_ w1 hI hF hS
          have e1 : a_.eval (.tmp 1) = (.int .i64 n) := (hF.2.2 1 (notDst_of (by kernel_rfl))).trans rfl
          refine wantD (by rfl) ?_
          exact op_val rfl (ex_move rfl w1) e1
        · intro a_ w1 hI hF hS
          have e27 : a_.eval (.tmp 27) = (.int .i64 l.length) := hS ⟨6, .data⟩ (by simp) rfl _ rfl
          have e28 : a_.eval (.tmp 28) = (.int .i64 n) := hS ⟨7, .data⟩ (by simp) rfl _ rfl
          refine wantD (by rfl) ?_
          exact op_val rfl (ex_arith rfl e27 e28 (IntWalk.i64_in _ (by simp only [arithI]; omega)) w1) rfl
        · intro a_ w1 hI hF hS
          have e29 : a_.eval (.tmp 29) = (.int .i64 (l.length - n)) := hS ⟨8, .data⟩ (by simp) rfl _ rfl
          refine wantD (by rfl) ?_
          exact op_val rfl (ex_arith rfl e29 rfl (IntWalk.i64_in _ (by simp only [arithI]; omega)) w1) rfl
        · intro a_ w1 hI hF hS
          have e25 : a_.eval (.tmp 25) = (.slice (some a) l.length cap) := hS ⟨4, .data⟩ (by simp) rfl _ rfl
          have e30 : a_.eval (.tmp 30) = (.int .i64 (l.length - n + 1)) := hS ⟨9, .data⟩ (by simp) rfl _ rfl
          refine wantD (by rfl) ?_
          exact op_val rfl (ex_slice_from E22 (j := l.length - n + 1) e25 e30 (by omega) (by omega) w1) rfl
        · intro a_ w1 hI hF hS
          have e24 : (Asr.full w.heap.size 38 32 1 (flat [l[0]])).p (a_.eval (.tmp 24)) w1 := hS ⟨3, .data⟩ (by simp) rfl _ rfl
          have e31 : a_.eval (.tmp 31) = (.slice (if cap = l.length - n + 1 then some a else (some a).map (·.add ((l.length - n + 1) * 32))) (l.length - (l.length - n + 1)) (cap - (l.length - n + 1))) := hS ⟨10, .data⟩ (by simp) rfl _ rfl
          refine wantD (by rfl) ?_
          obtain ⟨v_, w_, hr_, hb_, hA_⟩ := ex_append_full (ρ := a_.eval) E22 e24 (m := l.length - (l.length - n + 1)) (by rw [e31]; exact (hI.1.sl HL.out).drop (by omega)) (by rw [flat_drop]; exact flat_cell1 _) (by omega) hI.2.size (s := .tmp 24) (y := .tmp 31) rfl rfl; exact op_new rfl hr_ hb_ hA_
        · intro a_ w1 hI hF hS
          have e32 : (Asr.row w.heap.size 38 32 (1 + (l.length - (l.length - n + 1))) (flat [l[0]] ++ (flat l).drop ((l.length - n + 1) * 32))).p (a_.eval (.tmp 32)) w1 := hS ⟨11, .data⟩ (by simp) rfl _ rfl
          refine wantD (by rfl) ?_
          exact op_val rfl (ex_assign rfl w1) e32
      intro wq hq_ hb_
      intro v0_ h0_ v1_ h1_ v2_ h2_ v3_ h3_ v4_ h4_ v5_ h5_ v6_ h6_ v7_ h7_ v8_ h8_ v9_ h9_ v10_ h10_ v11_ h11_ v12_ h12_
      have q_ : v0_ = (.slice (some a) l.length cap) := h0_; clear h0_; subst q_
      have q_ : v1_ = (.pointer (some (a.add (0 * 32)))) := h1_; clear h1_; subst q_
      have q_ : v2_ = (l[0]).val := h2_; clear h2_; subst q_
      have K3 := hid h3_; clear h3_
      have q_ : v4_ = (.slice (some a) l.length cap) := h4_; clear h4_; subst q_
      have q_ : v5_ = (.slice (some a) l.length cap) := h5_; clear h5_; subst q_
      have q_ : v6_ = (.int .i64 l.length) := h6_; clear h6_; subst q_
      have q_ : v7_ = (.int .i64 n) := h7_; clear h7_; subst q_
      have q_ : v8_ = (.int .i64 (l.length - n)) := h8_; clear h8_; subst q_
      have q_ : v9_ = (.int .i64 (l.length - n + 1)) := h9_; clear h9_; subst q_
      have q_ : v10_ = (.slice (if cap = l.length - n + 1 then some a else (some a).map (·.add ((l.length - n + 1) * 32))) (l.length - (l.length - n + 1)) (cap - (l.length - n + 1))) := h10_; clear h10_; subst q_
      have K11 := hid h11_; clear h11_
      have K12 := hid h12_; clear h12_
      simp only [endD, putsD, Act.put, List.setIfInBounds_toArray, List.set_cons_succ, List.set_cons_zero]
      have HQ := hid hq_; clear hq_
      have HB_ := hid hb_; clear hb_
      go_wp2
      have h0 := K12.out
      obtain ⟨ao2, cap2, rfl⟩ := row_shape h0
      go_ret
      have e : 1 + (l.length - (l.length - n + 1)) = (cutL l n).length := by
        unfold cutL; rw [if_neg hle, if_neg h1', List.length_append, List.length_take, List.length_drop]; omega
      have e2 : flat [l[0]] ++ (flat l).drop ((l.length - n + 1) * 32) = flat (cutL l n) := by
        unfold cutL; rw [if_neg hle, if_neg h1', flat_drop, ← flat_append, take_one (by omega)]
      rw [e, e2] at h0
      exact ⟨_, _, by rw [← e]; rfl, h0, HB_.out⟩
def RetIdsE (E : TypeId) (w : World) (l : List Id) (k : Int) (e : Ending) (w' : World) : Prop :=
  ∃ ao cap, e = .returned (.tuple #[.slice ao l.length cap, .int .i64 k]) ∧ w'.ownsRow w.heap.size E 32 (.slice ao l.length cap) l.length (flat l) ∧ Below w.heap.size w w'
/-- The error of Trim, and its list. -/
def trimE (l : List Id) (m : Int) : Int := if m < 1 ∨ 20 < m then 2 else if 1000 < l.length then 9 else 0
def trimV (l : List Id) (m : Int) : List Id := if trimE l m = 0 then cutL l m.toNat else []
theorem retIdsE_nil {w w' : World} {E : TypeId} {k : Int} (hb : Below w.heap.size w w') : RetIdsE E w [] k (.returned (.tuple #[.slice none 0 0, .int .i64 k])) w' := ⟨_, _, rfl, World.ownsRow_nil _ _ _ _, hb⟩
theorem RetIdsE.mk {E : TypeId} {w w' : World} {l : List Id} {k : Int} {ao : Option Addr} {n cap : Nat} (h : w'.ownsRow w.heap.size E 32 (.slice ao l.length cap) l.length (flat l) ∧ Below w.heap.size w w') (hn : n = l.length) : RetIdsE E w l k (.returned (.tuple #[.slice ao n cap, .int .i64 k])) w' := by
  subst hn; exact ⟨_, _, rfl, h⟩
set_option maxHeartbeats 400000 in
theorem Trim_any (w : World) (v : Value) (l : List Id) (hl : Ids w v l) (hn : l.length * 32 ≤ 140737488355328) (m : Int) :
    Calls Try.prog 12 #[v, .int .i64 m] w (RetIdsE 33 w (trimV l m) (trimE l m)) := by
  obtain ⟨ao, cap, rfl, hc⟩ := hl.shape
  have HL := hid hl
  clear hl
  by_cases h1 : m < 1
  · have e1 : trimE l m = 2 := by unfold trimE; rw [if_pos (.inl h1)]
    have e2 : trimV l m = [] := by unfold trimV; rw [e1]; rfl
    rw [e1, e2]
    go_enter Try.func12, Try.ntmps12
    go_wp2
    go_ret2
    exact retIdsE_nil (Below.refl _ _)
  by_cases h2 : 20 < m
  · have e1 : trimE l m = 2 := by unfold trimE; rw [if_pos (.inr h2)]
    have e2 : trimV l m = [] := by unfold trimV; rw [e1]; rfl
    rw [e1, e2]
    go_enter Try.func12, Try.ntmps12
    go_wp2
    go_ret2
    exact retIdsE_nil (Below.refl _ _)
  by_cases h3 : 1000 < l.length
  · have e1 : trimE l m = 9 := by unfold trimE; rw [if_neg (by omega), if_pos h3]
    have e2 : trimV l m = [] := by unfold trimV; rw [e1]; rfl
    rw [e1, e2]
    go_enter Try.func12, Try.ntmps12
    go_wp2
    go_ret2
    exact retIdsE_nil (Below.refl _ _)
  have e1 : trimE l m = 0 := by unfold trimE; rw [if_neg (by omega), if_neg h3]
  have e2 : trimV l m = cutL l m.toNat := by unfold trimV; rw [e1]; rfl
  rw [e1, e2]
  obtain ⟨n, rfl⟩ : ∃ n : Nat, m = n := ⟨m.toNat, by omega⟩
  go_enter Try.func12, Try.ntmps12
  go_wp2_with (go_at_call 29; refine (trim_any w _ l HL.out hn n (by omega)).mono ?_; rintro e w' ⟨ao', cap', rfl, hr⟩; have HR := hid hr; clear hr)
  go_ret2
  exact RetIdsE.mk HR.out rfl
set_option maxHeartbeats 400000 in
theorem refTrim_any (w : World) (v : Value) (l : List Id) (hl : Ids w v l) (hn : l.length * 32 ≤ 140737488355328) (m : Int) :
    Calls Try.prog 14 #[v, .int .i64 m] w (RetIdsE 38 w (trimV l m) (trimE l m)) := by
  obtain ⟨ao, cap, rfl, hc⟩ := hl.shape
  have HL := hid hl
  clear hl
  by_cases h1 : m < 1
  · have e1 : trimE l m = 2 := by unfold trimE; rw [if_pos (.inl h1)]
    have e2 : trimV l m = [] := by unfold trimV; rw [e1]; rfl
    rw [e1, e2]
    go_enter Try.func14, Try.ntmps14
    go_wp2
    go_ret2
    exact retIdsE_nil (Below.refl _ _)
  by_cases h2 : 20 < m
  · have e1 : trimE l m = 2 := by unfold trimE; rw [if_pos (.inr h2)]
    have e2 : trimV l m = [] := by unfold trimV; rw [e1]; rfl
    rw [e1, e2]
    go_enter Try.func14, Try.ntmps14
    go_wp2
    go_ret2
    exact retIdsE_nil (Below.refl _ _)
  by_cases h3 : 1000 < l.length
  · have e1 : trimE l m = 9 := by unfold trimE; rw [if_neg (by omega), if_pos h3]
    have e2 : trimV l m = [] := by unfold trimV; rw [e1]; rfl
    rw [e1, e2]
    go_enter Try.func14, Try.ntmps14
    go_wp2
    go_ret2
    exact retIdsE_nil (Below.refl _ _)
  have e1 : trimE l m = 0 := by unfold trimE; rw [if_neg (by omega), if_neg h3]
  have e2 : trimV l m = cutL l m.toNat := by unfold trimV; rw [e1]; rfl
  rw [e1, e2]
  obtain ⟨n, rfl⟩ : ∃ n : Nat, m = n := ⟨m.toNat, by omega⟩
  go_enter Try.func14, Try.ntmps14
  go_wp2_with (go_at_call 30; refine (cut_any w _ l HL.out hn n (by omega)).mono ?_; rintro e w' ⟨ao', cap', rfl, hr⟩; have HR := hid hr; clear hr)
  go_ret2
  exact RetIdsE.mk HR.out rfl
end Go.Proofs.Ytohdkmgnnncpkaa
