/- Merge of the references. Condition: lists of at most 2^42 identities. -/
import Derived.Test.YtohdkmgnnncpkaaC10
namespace Go.Proofs.Ytohdkmgnnncpkaa
open Go.RowKit
def mergeOk (a b : List Id) : Bool := isTrimB a b || isTrimB b a
def mergeE (a b : List Id) : Int := if checkE a != 0 then checkE a else if checkE b != 0 then checkE b else if mergeOk a b then 0 else 31
def mergeV (a b : List Id) : List Id := if mergeE a b = 0 then (if a.length < b.length then b else a) else []
theorem RetIdsE.nil' {w w' : World} {E : TypeId} {k j : Int} {l : List Id} (hb : Below w.heap.size w w') (hl : l = []) (hk : k = j) : RetIdsE E w l j (.returned (.tuple #[.slice none 0 0, .int .i64 k])) w' := by
  subst hl hk; exact retIdsE_nil hb
set_option maxRecDepth 100000 in
set_option maxHeartbeats 1000000 in
theorem merge_any (w : World) (v1 v2 : Value) (a b : List Id) (h1 : Ids w v1 a) (h2 : Ids w v2 b) (hn1 : a.length * 32 ≤ 140737488355328) (hn2 : b.length * 32 ≤ 140737488355328) :
    Calls Try.prog 21 #[v1, v2] w (RetIdsE 33 w (mergeV a b) (mergeE a b)) := by
  obtain ⟨a1, c1, rfl, _⟩ := h1.shape
  obtain ⟨a2, c2, rfl, _⟩ := h2.shape
  have HH := hid (Holds.init w)
  have H1 := hid h1
  have H2 := hid h2
  clear h1 h2
  cases e1 : (checkE a != 0) with
  | true =>
    have E1 := hid e1
    have hm : mergeE a b = checkE a := by unfold mergeE; rw [e1]; rfl
    have hv : mergeV a b = [] := by unfold mergeV; rw [hm, if_neg (by simpa using e1)]
    rw [hm, hv]
    clear hm hv
    go_enter Try.func21, Try.ntmps21
    go_wp2_with (first
      | (go_at_call 20; (with_reducible refine (check_any _ _ a (HH.out.sl H1.out) (by omega)).mono ?_); rintro e w2 ⟨rfl, hb⟩; (have hq_ := HH.out.grow hb); clear HH; have HH := hid hq_; clear hq_ hb))
    go_ret2
    exact retIdsE_nil HH.out.below
  | false =>
    have E1 := hid e1
    cases e2 : (checkE b != 0) with
    | true =>
      have hm : mergeE a b = checkE b := by unfold mergeE; rw [e1, e2]; rfl
      have hv : mergeV a b = [] := by unfold mergeV; rw [hm, if_neg (by simpa using e2)]
      rw [hm, hv]
      clear hm hv
      go_enter Try.func21, Try.ntmps21
      go_wp2_with (first
        | (go_at_call 20; (with_reducible refine (check_any _ _ a (HH.out.sl H1.out) (by omega)).mono ?_); rintro e w2 ⟨rfl, hb⟩; (have hq_ := HH.out.grow hb); clear HH; have HH := hid hq_; clear hq_ hb)
        | (go_at_call 20; (with_reducible refine (check_any _ _ b (HH.out.sl H2.out) (by omega)).mono ?_); rintro e w2 ⟨rfl, hb⟩; (have hq_ := HH.out.grow hb); clear HH; have HH := hid hq_; clear hq_ hb))
      go_ret2
      exact retIdsE_nil HH.out.below
    | false =>
      have E2 := hid e2
      cases e3 : isTrimB a b with
      | false =>
        cases e4 : isTrimB b a with
        | false =>
          have hm : mergeE a b = 31 := by unfold mergeE mergeOk; rw [e1, e2, e3, e4]; rfl
          have hv : mergeV a b = [] := by unfold mergeV; rw [hm]; rfl
          rw [hm, hv]
          have E3 := hid e3
          have E4 := hid e4
          clear hm hv e3 e4
          go_enter Try.func21, Try.ntmps21
          go_wp2_with (first
            | (go_at_call 20; (with_reducible refine (check_any _ _ a (HH.out.sl H1.out) (by omega)).mono ?_); rintro e w2 ⟨rfl, hb⟩; (have hq_ := HH.out.grow hb); clear HH; have HH := hid hq_; clear hq_ hb)
            | (go_at_call 20; (with_reducible refine (check_any _ _ b (HH.out.sl H2.out) (by omega)).mono ?_); rintro e w2 ⟨rfl, hb⟩; (have hq_ := HH.out.grow hb); clear HH; have HH := hid hq_; clear hq_ hb)
            | (go_at_call 22; (with_reducible refine (isTrimmed_any _ _ _ a b (HH.out.sl H1.out) (HH.out.sl H2.out) (by omega) hn2).mono ?_); rw [E3.out]; rintro e w2 ⟨rfl, hb⟩; (have hq_ := HH.out.grow hb); clear HH; have HH := hid hq_; clear hq_ hb)
            | (go_at_call 22; (with_reducible refine (isTrimmed_any _ _ _ b a (HH.out.sl H2.out) (HH.out.sl H1.out) (by omega) hn1).mono ?_); rw [E4.out]; rintro e w2 ⟨rfl, hb⟩; (have hq_ := HH.out.grow hb); clear HH; have HH := hid hq_; clear hq_ hb))
          go_ret2
          exact retIdsE_nil HH.out.below
        | true =>
          have hm : mergeE a b = 0 := by unfold mergeE mergeOk; rw [e1, e2, e3, e4]; rfl
          rw [hm]
          have E3 := hid e3
          have E4 := hid e4
          have hv : mergeV a b = if a.length < b.length then b else a := by unfold mergeV; rw [hm]; rfl
          rw [hv]
          clear hm e3 e4 hv
          by_cases hlt : a.length < b.length
          · rw [if_pos hlt]
            go_enter Try.func21, Try.ntmps21
            go_wp2_with (first
              | (go_at_call 20; (with_reducible refine (check_any _ _ a (HH.out.sl H1.out) (by omega)).mono ?_); rintro e w2 ⟨rfl, hb⟩; (have hq_ := HH.out.grow hb); clear HH; have HH := hid hq_; clear hq_ hb)
              | (go_at_call 20; (with_reducible refine (check_any _ _ b (HH.out.sl H2.out) (by omega)).mono ?_); rintro e w2 ⟨rfl, hb⟩; (have hq_ := HH.out.grow hb); clear HH; have HH := hid hq_; clear hq_ hb)
              | (go_at_call 22; (with_reducible refine (isTrimmed_any _ _ _ a b (HH.out.sl H1.out) (HH.out.sl H2.out) (by omega) hn2).mono ?_); rw [E3.out]; rintro e w2 ⟨rfl, hb⟩; (have hq_ := HH.out.grow hb); clear HH; have HH := hid hq_; clear hq_ hb)
              | (go_at_call 22; (with_reducible refine (isTrimmed_any _ _ _ b a (HH.out.sl H2.out) (HH.out.sl H1.out) (by omega) hn1).mono ?_); rw [E4.out]; rintro e w2 ⟨rfl, hb⟩; (have hq_ := HH.out.grow hb); clear HH; have HH := hid hq_; clear hq_ hb)
              | (go_at_call 33; (with_reducible refine (clone_any _ _ b (HH.out.sl H2.out) hn2).mono ?_); rintro e w2 ⟨ao2, cap2, rfl, hr⟩; (have hq_ := HH.out.addRow hr.2 hr.1); clear HH; have HH := hid hq_; clear hq_ hr))
            go_ret2
            exact RetIdsE.mk ⟨HH.out.own0, HH.out.below⟩ rfl
          · rw [if_neg hlt]
            go_enter Try.func21, Try.ntmps21
            go_wp2_with (first
              | (go_at_call 20; (with_reducible refine (check_any _ _ a (HH.out.sl H1.out) (by omega)).mono ?_); rintro e w2 ⟨rfl, hb⟩; (have hq_ := HH.out.grow hb); clear HH; have HH := hid hq_; clear hq_ hb)
              | (go_at_call 20; (with_reducible refine (check_any _ _ b (HH.out.sl H2.out) (by omega)).mono ?_); rintro e w2 ⟨rfl, hb⟩; (have hq_ := HH.out.grow hb); clear HH; have HH := hid hq_; clear hq_ hb)
              | (go_at_call 22; (with_reducible refine (isTrimmed_any _ _ _ a b (HH.out.sl H1.out) (HH.out.sl H2.out) (by omega) hn2).mono ?_); rw [E3.out]; rintro e w2 ⟨rfl, hb⟩; (have hq_ := HH.out.grow hb); clear HH; have HH := hid hq_; clear hq_ hb)
              | (go_at_call 22; (with_reducible refine (isTrimmed_any _ _ _ b a (HH.out.sl H2.out) (HH.out.sl H1.out) (by omega) hn1).mono ?_); rw [E4.out]; rintro e w2 ⟨rfl, hb⟩; (have hq_ := HH.out.grow hb); clear HH; have HH := hid hq_; clear hq_ hb)
              | (go_at_call 33; (with_reducible refine (clone_any _ _ a (HH.out.sl H1.out) hn1).mono ?_); rintro e w2 ⟨ao2, cap2, rfl, hr⟩; (have hq_ := HH.out.addRow hr.2 hr.1); clear HH; have HH := hid hq_; clear hq_ hr))
            go_ret2
            exact RetIdsE.mk ⟨HH.out.own0, HH.out.below⟩ rfl
      | true =>
        have hm : mergeE a b = 0 := by unfold mergeE mergeOk; rw [e1, e2, e3]; rfl
        rw [hm]
        have E3 := hid e3
        have hv : mergeV a b = if a.length < b.length then b else a := by unfold mergeV; rw [hm]; rfl
        rw [hv]
        clear hm e3 hv
        by_cases hlt : a.length < b.length
        · rw [if_pos hlt]
          go_enter Try.func21, Try.ntmps21
          go_wp2_with (first
            | (go_at_call 20; (with_reducible refine (check_any _ _ a (HH.out.sl H1.out) (by omega)).mono ?_); rintro e w2 ⟨rfl, hb⟩; (have hq_ := HH.out.grow hb); clear HH; have HH := hid hq_; clear hq_ hb)
            | (go_at_call 20; (with_reducible refine (check_any _ _ b (HH.out.sl H2.out) (by omega)).mono ?_); rintro e w2 ⟨rfl, hb⟩; (have hq_ := HH.out.grow hb); clear HH; have HH := hid hq_; clear hq_ hb)
            | (go_at_call 22; (with_reducible refine (isTrimmed_any _ _ _ a b (HH.out.sl H1.out) (HH.out.sl H2.out) (by omega) hn2).mono ?_); rw [E3.out]; rintro e w2 ⟨rfl, hb⟩; (have hq_ := HH.out.grow hb); clear HH; have HH := hid hq_; clear hq_ hb)
            | (go_at_call 33; (with_reducible refine (clone_any _ _ b (HH.out.sl H2.out) hn2).mono ?_); rintro e w2 ⟨ao2, cap2, rfl, hr⟩; (have hq_ := HH.out.addRow hr.2 hr.1); clear HH; have HH := hid hq_; clear hq_ hr))
          go_ret2
          exact RetIdsE.mk ⟨HH.out.own0, HH.out.below⟩ rfl
        · rw [if_neg hlt]
          go_enter Try.func21, Try.ntmps21
          go_wp2_with (first
            | (go_at_call 20; (with_reducible refine (check_any _ _ a (HH.out.sl H1.out) (by omega)).mono ?_); rintro e w2 ⟨rfl, hb⟩; (have hq_ := HH.out.grow hb); clear HH; have HH := hid hq_; clear hq_ hb)
            | (go_at_call 20; (with_reducible refine (check_any _ _ b (HH.out.sl H2.out) (by omega)).mono ?_); rintro e w2 ⟨rfl, hb⟩; (have hq_ := HH.out.grow hb); clear HH; have HH := hid hq_; clear hq_ hb)
            | (go_at_call 22; (with_reducible refine (isTrimmed_any _ _ _ a b (HH.out.sl H1.out) (HH.out.sl H2.out) (by omega) hn2).mono ?_); rw [E3.out]; rintro e w2 ⟨rfl, hb⟩; (have hq_ := HH.out.grow hb); clear HH; have HH := hid hq_; clear hq_ hb)
            | (go_at_call 33; (with_reducible refine (clone_any _ _ a (HH.out.sl H1.out) hn1).mono ?_); rintro e w2 ⟨ao2, cap2, rfl, hr⟩; (have hq_ := HH.out.addRow hr.2 hr.1); clear HH; have HH := hid hq_; clear hq_ hr))
          go_ret2
          exact RetIdsE.mk ⟨HH.out.own0, HH.out.below⟩ rfl
end Go.Proofs.Ytohdkmgnnncpkaa
