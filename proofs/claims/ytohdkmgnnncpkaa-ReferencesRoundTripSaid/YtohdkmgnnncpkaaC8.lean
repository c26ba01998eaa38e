/- add, Check of the references. Condition: lists whose length is an int. -/
import Derived.Test.YtohdkmgnnncpkaaC6
import Derived.Test.YtohdkmgnnncpkaaM
namespace Go.Proofs.Ytohdkmgnnncpkaa
open Go.RowKit
theorem T66 : SetT Try.prog 66 33 4 32 := ⟨Try.underlying66, ⟨5, ⟨Try.underlying33, by kernel_rfl, by kernel_rfl, by kernel_rfl⟩, Try.underlying5⟩, by kernel_rfl, ⟨Try.prog.types.size - 1, by kernel_rfl⟩⟩
abbrev Id0 : Id := Arr.zero 32
theorem BZ (w : World) : (Instr.build 33 #[]).run Try.prog w = .ok Id0.val w := by kernel_rfl
theorem BZ38 (w : World) : (Instr.build 38 #[]).run Try.prog w = .ok Id0.val w := by kernel_rfl
/-- What add answers. -/
def addE (l : List Id) (x : Id) : Int := if x == Id0 then 1 else if l.contains x then 7 else 0
def addL (l : List Id) (x : Id) : List Id := if addE l x = 0 then l ++ [x] else l
set_option maxRecDepth 100000 in
set_option maxHeartbeats 1000000 in
theorem add_any (w : World) (g : Nat) (l : List Id) (x : Id) (hb : w.heap[g]? = some (mapObj l)) :
    Calls Try.prog 32 #[.map (some g), x.val] w (fun e w' => e = .returned (.int .i64 (addE l x)) ∧ Turned g (mapObj (addL l x)) w w') := by
  have HH := hid (Holds.initS hb)
  clear hb
  cases hz : (x == Id0) with
  | true =>
    have E := hid hz
    have e1 : addE l x = 1 := by unfold addE; rw [hz]; rfl
    have e2 : addL l x = l := by unfold addL; rw [e1]; rfl
    rw [e1, e2]
    clear hz e1 e2
    go_enter Try.func32, Try.ntmps32
    go_wp2_with (first
      | ((with_reducible apply wpList_build (parts := #[]) (v := Id0.val)); (exact BZ); rfl)
      | ((with_reducible apply wpList_eql_arr R33 (p := x) (q := Id0)); rfl; rfl; rfl; rw [E.out])
      | ((with_reducible apply wpList_loadA A33 HH.out); rfl; (first | exact .here | exact .there .here | exact .there (.there .here) | exact .there (.there (.there .here)) | exact .there (.there (.there (.there .here))) | exact .there (.there (.there (.there (.there .here))))); rfl)
      | ((with_reducible apply wpList_allocA Z33 HH.out); go_must ((rfl; (intro g_ w_ hq_; clear HH; have HH := hid hq_; clear hq_))))
      | ((with_reducible apply wpList_storeA S33 HH.out); go_must ((rfl; rfl; (first | exact .here | exact .there .here | exact .there (.there .here) | exact .there (.there (.there .here)) | exact .there (.there (.there (.there .here))) | exact .there (.there (.there (.there (.there .here))))); rfl; (intro w_ hq_; clear HH; have HH := hid hq_; clear hq_))))
      | ((with_reducible apply wpList_boxA (e := 33) HH.out); rfl; rfl; (intro g_ w_ hq_; clear HH; have HH := hid hq_; clear hq_)))
    go_ret
    exact ⟨rfl, HH.out.turned (.there .here)⟩
  | false =>
    have E := hid hz
    cases hc : l.contains x with
    | true =>
      have F := hid hc
      have e1 : addE l x = 7 := by unfold addE; rw [hz, hc]; rfl
      have e2 : addL l x = l := by unfold addL; rw [e1]; rfl
      rw [e1, e2]
      clear hz e1 e2 hc
      go_enter Try.func32, Try.ntmps32
      go_wp2_with (first
        | ((with_reducible apply wpList_build (parts := #[]) (v := Id0.val)); (exact BZ); rfl)
        | ((with_reducible apply wpList_eql_arr R33 (p := x) (q := Id0)); rfl; rfl; rfl; rw [E.out])
        | ((with_reducible apply wpList_lookup T66 (l := l) (x := x) HH.out); rfl; rfl; exact .there .here; rfl; rw [F.out])
        | ((with_reducible apply wpList_loadA A33 HH.out); rfl; (first | exact .here | exact .there .here | exact .there (.there .here) | exact .there (.there (.there .here)) | exact .there (.there (.there (.there .here))) | exact .there (.there (.there (.there (.there .here))))); rfl)
        | ((with_reducible apply wpList_allocA Z33 HH.out); go_must ((rfl; (intro g_ w_ hq_; clear HH; have HH := hid hq_; clear hq_))))
        | ((with_reducible apply wpList_storeA S33 HH.out); go_must ((rfl; rfl; (first | exact .here | exact .there .here | exact .there (.there .here) | exact .there (.there (.there .here)) | exact .there (.there (.there (.there .here))) | exact .there (.there (.there (.there (.there .here))))); rfl; (intro w_ hq_; clear HH; have HH := hid hq_; clear hq_))))
        | ((with_reducible apply wpList_boxA (e := 33) HH.out); rfl; rfl; (intro g_ w_ hq_; clear HH; have HH := hid hq_; clear hq_)))
      go_ret
      exact ⟨rfl, HH.out.turned (.there .here)⟩
    | false =>
      have F := hid hc
      have e1 : addE l x = 0 := by unfold addE; rw [hz, hc]; rfl
      have e2 : addL l x = l ++ [x] := by unfold addL; rw [e1]; rfl
      have N := hid (show x ∉ l by simpa using hc)
      rw [e1, e2]
      clear hz e1 e2 hc
      go_enter Try.func32, Try.ntmps32
      go_wp2_with (first
        | ((with_reducible apply wpList_build (parts := #[]) (v := Id0.val)); (exact BZ); rfl)
        | ((with_reducible apply wpList_eql_arr R33 (p := x) (q := Id0)); rfl; rfl; rfl; rw [E.out])
        | ((with_reducible apply wpList_lookup T66 (l := l) (x := x) HH.out); rfl; rfl; exact .there .here; rfl; rw [F.out])
        | ((with_reducible apply wpList_mapUpdate T66 (l := l) (x := x) HH.out N.out); rfl; rfl; rfl; exact .there .here; rfl; (intro w_ hq_; clear HH; have HH := hid hq_; clear hq_))
        | ((with_reducible apply wpList_loadA A33 HH.out); rfl; (first | exact .here | exact .there .here | exact .there (.there .here) | exact .there (.there (.there .here)) | exact .there (.there (.there (.there .here))) | exact .there (.there (.there (.there (.there .here))))); rfl)
        | ((with_reducible apply wpList_allocA Z33 HH.out); go_must ((rfl; (intro g_ w_ hq_; clear HH; have HH := hid hq_; clear hq_))))
        | ((with_reducible apply wpList_storeA S33 HH.out); go_must ((rfl; rfl; (first | exact .here | exact .there .here | exact .there (.there .here) | exact .there (.there (.there .here)) | exact .there (.there (.there (.there .here))) | exact .there (.there (.there (.there (.there .here))))); rfl; (intro w_ hq_; clear HH; have HH := hid hq_; clear hq_))))
        | ((with_reducible apply wpList_boxA (e := 33) HH.out); rfl; rfl; (intro g_ w_ hq_; clear HH; have HH := hid hq_; clear hq_)))
      go_ret
      exact ⟨rfl, HH.out.turned (.there .here)⟩
def checkFrom : List Id → List Id → Int
  | _, [] => 0
  | seen, x :: r => if addE seen x = 0 then checkFrom (seen ++ [x]) r else addE seen x
def checkE (l : List Id) : Int := if 20 < l.length then 9 else checkFrom [] l
def CheckRel (w : World) (l : List Id) (g : Nat) (i : Value) (wr : World) : Prop :=
  ∃ k : Nat, k ≤ l.length ∧ i = .int .i64 k ∧ checkFrom [] l = checkFrom (l.take k) (l.drop k) ∧ Holds w [] [(g, mapObj (l.take k))] [] wr
theorem check_step {l : List Id} {k : Nat} (h : k < l.length) : checkFrom (l.take k) (l.drop k) = if addE (l.take k) l[k] = 0 then checkFrom (l.take (k + 1)) (l.drop (k + 1)) else addE (l.take k) l[k] := by
  rw [List.drop_eq_getElem_cons h, checkFrom, ← List.take_append_getElem h]
def RetI (w : World) (n : Int) (e : Ending) (w' : World) : Prop := e = .returned (.int .i64 n) ∧ Below w.heap.size w w'
theorem RetI.mk {w w' : World} {b c : Int} (h : b = c) (hb : Below w.heap.size w w') : RetI w c (.returned (.int .i64 b)) w' := ⟨by rw [h], hb⟩
theorem addL_zero {l : List Id} {x : Id} (h : addE l x = 0) : addL l x = l ++ [x] := by unfold addL; rw [if_pos h]
set_option maxRecDepth 100000 in
set_option maxHeartbeats 1000000 in
theorem check_any (w : World) (v : Value) (l : List Id) (hl : Ids w v l) (hn : l.length ≤ 9223372036854775807) :
    Calls Try.prog 20 #[v] w (RetI w (checkE l)) := by
  obtain ⟨ao, cap, rfl, _⟩ := hl.shape
  have HH := hid (Holds.init w)
  have HL := hid hl
  clear hl
  by_cases hlen : 20 < l.length
  · have e : checkE l = 9 := by unfold checkE; rw [if_pos hlen]
    rw [e]
    clear e
    go_enter Try.func20, Try.ntmps20
    go_wp2
    go_ret
    exact RetI.mk rfl (Below.refl _ _)
  · have e : checkE l = checkFrom [] l := by unfold checkE; rw [if_neg hlen]
    rw [e]
    clear e
    go_enter Try.func20, Try.ntmps20
    go_wp2_with (first
      | ((with_reducible apply wpList_makeSet (n := 32) HH.out); rfl; (intro gm w_ hq_; clear HH; have HH := hid hq_; clear hq_)))
    go_loopw [13] (CheckRel w l gm) (fun i _ => l.length - (intOf i).toNat)
    case atStart => exact ⟨0, Nat.zero_le _, rfl, by simp, HH.out⟩
    case round =>
      obtain ⟨k, hk, rfl, hck, hr⟩ := hrel
      clear HH
      have HH := hid hr
      have HK := hid hck
      clear hr hck
      by_cases hlt : k < l.length
      · obtain ⟨a, cap', e⟩ := HL.out.some (by omega)
        cases e
        have hst := check_step hlt
        by_cases hz : addE (l.take k) l[k] = 0
        · have EZ := hid hz
          have ES := hid hst
          clear hz hst
          go_wp2_with (first
            | ((with_reducible apply wpList_load_agg A33 (Arr.len l[k]) (Ids.get (HH.out.sl HL.out) k hlt)); rfl; rfl)
            | (go_at_call 32; (with_reducible refine (add_any _ gm (l.take k) l[k] (HH.out.at (.there .here))).mono ?_); rw [EZ.out, addL_zero EZ.out, List.take_append_getElem hlt]; rintro e w2 ⟨rfl, ht⟩; (have hq_ := HH.out.turnedBy (.there .here) ht); clear HH; have HH := hid hq_; clear hq_ ht)
            | ((with_reducible apply wpList_loadA A33 HH.out); rfl; (first | exact .here | exact .there .here | exact .there (.there .here) | exact .there (.there (.there .here)) | exact .there (.there (.there (.there .here))) | exact .there (.there (.there (.there (.there .here))))); rfl)
            | ((with_reducible apply wpList_allocA Z33 HH.out); go_must ((rfl; (intro g_ w_ hq_; clear HH; have HH := hid hq_; clear hq_))))
            | ((with_reducible apply wpList_storeA S33 HH.out); go_must ((rfl; rfl; (first | exact .here | exact .there .here | exact .there (.there .here) | exact .there (.there (.there .here)) | exact .there (.there (.there (.there .here))) | exact .there (.there (.there (.there (.there .here))))); rfl; (intro w_ hq_; clear HH; have HH := hid hq_; clear hq_))))
            | ((with_reducible apply wpList_boxA (e := 33) HH.out); rfl; rfl; (intro g_ w_ hq_; clear HH; have HH := hid hq_; clear hq_)))
          go_roundw
          case rel => exact ⟨k + 1, by omega, by go_num, by rw [HK.out, ES.out, if_pos EZ.out], HH.out.dropBlk⟩
          case measure => simp [intOf]; omega
        · have EZ := hid hz
          have ES := hid hst
          have hb : (addE (l.take k) l[k] != 0) = true := by simpa using hz
          have EB := hid hb
          clear hz hst
          go_wp2_with (first
            | ((with_reducible apply wpList_load_agg A33 (Arr.len l[k]) (Ids.get (HH.out.sl HL.out) k hlt)); rfl; rfl)
            | (go_at_call 32; (with_reducible refine (add_any _ gm (l.take k) l[k] (HH.out.at (.there .here))).mono ?_); rintro e w2 ⟨rfl, ht⟩; (have hq_ := HH.out.turnedBy (.there .here) ht); clear HH; have HH := hid hq_; clear hq_ ht)
            | ((with_reducible apply wpList_loadA A33 HH.out); rfl; (first | exact .here | exact .there .here | exact .there (.there .here) | exact .there (.there (.there .here)) | exact .there (.there (.there (.there .here))) | exact .there (.there (.there (.there (.there .here))))); rfl)
            | ((with_reducible apply wpList_allocA Z33 HH.out); go_must ((rfl; (intro g_ w_ hq_; clear HH; have HH := hid hq_; clear hq_))))
            | ((with_reducible apply wpList_storeA S33 HH.out); go_must ((rfl; rfl; (first | exact .here | exact .there .here | exact .there (.there .here) | exact .there (.there (.there .here)) | exact .there (.there (.there (.there .here))) | exact .there (.there (.there (.there (.there .here))))); rfl; (intro w_ hq_; clear HH; have HH := hid hq_; clear hq_))))
            | ((with_reducible apply wpList_boxA (e := 33) HH.out); rfl; rfl; (intro g_ w_ hq_; clear HH; have HH := hid hq_; clear hq_)))
          go_ret
          exact RetI.mk (by rw [HK.out, ES.out, if_neg EZ.out]) HH.out.below
      · go_wp2
        go_ret
        obtain rfl : k = l.length := by omega
        have h0 := HK.out
        rw [List.drop_length, List.take_length] at h0
        exact RetI.mk h0.symm HH.out.below
end Go.Proofs.Ytohdkmgnnncpkaa
