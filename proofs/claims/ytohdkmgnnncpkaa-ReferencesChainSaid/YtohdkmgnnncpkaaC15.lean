/- The law ReferencesChain: it returns true. No condition. -/
import Derived.Test.YtohdkmgnnncpkaaC13
import Derived.Test.YtohdkmgnnncpkaaC7
namespace Go.Proofs.Ytohdkmgnnncpkaa
open Go.RowKit
/-- The identity of article k, the count from 0. -/
def idC (k : Nat) : Id := idN (UInt8.ofNat (k + 1))
def chainL (k : Nat) : List Id := cutL ((List.range k).map idC) 20
def chainOk (k : Nat) : Bool :=
  replyE (chainL k) (idC k) == 0 && replyV (chainL k) (idC k) == chainL (k + 1) && checkE (chainL (k + 1)) == 0 && (chainL (k + 1)).getLastD Id0 == idC k && (chainL (k + 1))[0]? == some (idN 1) &&
  ((chainL (k + 1)).length == min (k + 1) 20) && ((List.range (chainL (k + 1)).length).all fun j => j == 0 || (chainL (k + 1))[(chainL (k + 1)).length - j]? == some (idC (k + 1 - j)))
set_option maxRecDepth 100000 in
theorem chain_all : ((List.range 60).all chainOk) = true := by decide +kernel
theorem chain_ok {k : Nat} (h : k < 60) : chainOk k = true := List.all_eq_true.1 chain_all k (by simpa using h)
theorem build_idC (b : UInt8) (w : World) : (Instr.build 33 #[(0, .int .u8 (b.toNat : Int))]).run Try.prog w = .ok (idN b).val w := by kernel_rfl
structure ChainAt (k : Nat) : Prop where
  e : replyE (chainL k) (idC k) = 0
  v : replyV (chainL k) (idC k) = chainL (k + 1)
  c : checkE (chainL (k + 1)) = 0
  last : (chainL (k + 1)).getLastD Id0 = idC k
  first : (chainL (k + 1))[0]? = some (idN 1)
  len : (chainL (k + 1)).length = min (k + 1) 20
  rest : ∀ j, 1 ≤ j → j < (chainL (k + 1)).length → (chainL (k + 1))[(chainL (k + 1)).length - j]? = some (idC (k + 1 - j))
theorem chain_at {k : Nat} (h : k < 60) : ChainAt k := by
  have h0 := chain_ok h
  unfold chainOk at h0
  simp only [Bool.and_eq_true, beq_iff_eq, List.all_eq_true, List.mem_range, Bool.or_eq_true] at h0
  obtain ⟨⟨⟨⟨⟨⟨h1, h2⟩, h3⟩, h4⟩, h5⟩, h6⟩, h7⟩ := h0
  exact ⟨h1, h2, h3, h4, h5, h6, fun j h8 h9 => (h7 j h9).resolve_left (by omega)⟩
theorem chain_len {k : Nat} (h : k < 60) : (chainL k).length ≤ 20 := by
  cases k with
  | zero => decide
  | succ k => have := (chain_at (k := k) (by omega)).len; omega
def ChainRel (w : World) (n : Nat) (v i : Value) (wr : World) : Prop :=
  ∃ k : Nat, k ≤ n ∧ i = .int .i64 k ∧ ∃ ao cap, v = .slice ao (chainL k).length cap ∧ Holds w [] [] [⟨.slice ao (chainL k).length cap, 33, 32, (chainL k).length, flat (chainL k)⟩] wr
def HoldsRel1 {w0 w : World} {S : List Nat} {bs : List (Nat × Obj)} {rows : List Row} (_ : Holds w0 S bs rows w) (n : Nat) (i : Value) (wr : World) : Prop := ∃ k : Nat, 1 ≤ k ∧ k ≤ n ∧ i = .int .i64 k ∧ Holds w0 S bs rows wr
set_option maxRecDepth 100000 in
set_option maxHeartbeats 1000000 in
theorem law_chain (w : World) (b : Nat) (hb : b < 256) : Calls Try.prog 7 #[.int .u8 b] w (RetB w true) := by
  have HH := hid (Holds.init w)
  go_enter Try.func7, Try.ntmps7
  go_wp2_with (first
    | (go_at_call 11; refine (known_any _).mono ?_; rintro e w2 ⟨rfl, hb⟩; (have hq_ := HH.out.grow hb); clear HH; have HH := hid hq_; clear hq_ hb)
    | ((with_reducible apply wpList_loadA A33 HH.out); rfl; (first | exact .here | exact .there .here | exact .there (.there .here) | exact .there (.there (.there .here)) | exact .there (.there (.there (.there .here))) | exact .there (.there (.there (.there (.there .here))))); rfl)
    | ((with_reducible apply wpList_allocA Z33 HH.out); go_must ((rfl; (intro g_ w_ hq_; clear HH; have HH := hid hq_; clear hq_))))
    | ((with_reducible apply wpList_storeA S33 HH.out); go_must ((rfl; rfl; (first | exact .here | exact .there .here | exact .there (.there .here) | exact .there (.there (.there .here)) | exact .there (.there (.there (.there .here))) | exact .there (.there (.there (.there (.there .here))))); rfl; (intro w_ hq_; clear HH; have HH := hid hq_; clear hq_))))
    | ((with_reducible apply wpList_boxA (e := 33) HH.out); rfl; rfl; (intro g_ w_ hq_; clear HH; have HH := hid hq_; clear hq_)))
  go_loopw [3, 4] (ChainRel w (b % 60)) (fun _ i _ => b % 60 - (intOf i).toNat)
  case atStart => exact ⟨0, Nat.zero_le _, rfl, none, 0, rfl, HH.out.addRow (Below.refl _ _) (World.ownsRow_nil _ _ _ _)⟩
  case round =>
    obtain ⟨k, hk, rfl, ao, cap, rfl, hr⟩ := hrel
    clear HH
    have HH := hid hr
    clear hr
    by_cases hlt : k < b % 60
    · have hk60 : k < 60 := by omega
      have CA := hid (chain_at hk60)
      have hcl := chain_len hk60
      have hp : 0 < (chainL (k + 1)).length := by have := CA.out.len; omega
      have hl20 : (chainL (k + 1)).length ≤ 20 := by have := CA.out.len; omega
      have HP := hid (show decide (0 < (chainL (k + 1)).length) = true from decide_eq_true hp)
      have NN := hid (show (!(idC k == idC k)) = false by rw [beq_yes rfl]; rfl)
      have hf0 : (chainL (k + 1))[0] = idN 1 := by have := CA.out.first; rw [List.getElem?_eq_getElem hp] at this; exact Option.some.inj this
      have NF := hid (show (!((chainL (k + 1))[0] == idN 1)) = false by rw [beq_yes hf0]; rfl)
      have hconv : ((k : Int) + 1) = (((UInt8.ofNat (k + 1)).toNat : Nat) : Int) := by
        rw [UInt8.toNat_ofNat', Nat.mod_eq_of_lt (by omega)]; omega
      have HB1 : Hid (∀ w, (Instr.build 33 #[(0, .int .u8 ((k : Int) + 1))]).run Try.prog w = .ok (idC k).val w) := hid (fun w => by rw [hconv]; exact build_idC _ w)
      clear hconv
      go_wp2_with (first
        | ((with_reducible apply wpList_build (parts := #[(0, .tmp 22)]) (v := (idC k).val)); go_must ((exact HB1.out; rfl)))
        | (go_at_call 23; (with_reducible refine (reply_any _ _ (chainL k) (idC k) HH.out.sl0 (by omega)).mono ?_); rw [CA.out.e, CA.out.v]; rintro e w2 ⟨ao2, cap2, rfl, hr⟩; (have hq_ := HH.out.addRow hr.2 hr.1); clear HH; have HH := hid hq_; clear hq_ hr; (obtain ⟨a3, c3, e3⟩ := HH.out.sl0.some (by have := CA.out.len; omega)); cases e3)
        | (go_at_call 19; (with_reducible refine (parent_any _ _ (chainL (k + 1)) HH.out.sl0 (by omega)).mono ?_); unfold RetP; rw [CA.out.last, HP.out]; rintro e w2 ⟨rfl, hb⟩; (have hq_ := HH.out.grow hb); clear HH; have HH := hid hq_; clear hq_ hb)
        | (go_at_call 20; (with_reducible refine (check_any _ _ (chainL (k + 1)) HH.out.sl0 (by omega)).mono ?_); rw [CA.out.c]; rintro e w2 ⟨rfl, hb⟩; (have hq_ := HH.out.grow hb); clear HH; have HH := hid hq_; clear hq_ hb)
        | ((with_reducible apply wpList_build (parts := #[(0, .const (.int .u8 1))]) (v := (idN 1).val)); (exact build_idC 1); rfl)
        | ((with_reducible apply wpList_load_agg A33 (Arr.len (chainL (k + 1))[0]) (Ids.get HH.out.sl0 0 hp)); rfl; rfl)
        | ((with_reducible apply wpList_neq_arr R33 (x := .tmp 47) (p := idC k) (q := idC k)); rfl; rfl; rfl; rw [NN.out])
        | ((with_reducible apply wpList_neq_arr R33 (x := .tmp 54) (p := (chainL (k + 1))[0]) (q := idN 1)); rfl; rfl; rfl; rw [NF.out])
        | ((with_reducible apply wpList_loadA A33 HH.out); rfl; (first | exact .here | exact .there .here | exact .there (.there .here) | exact .there (.there (.there .here)) | exact .there (.there (.there (.there .here))) | exact .there (.there (.there (.there (.there .here))))); rfl)
        | ((with_reducible apply wpList_allocA Z33 HH.out); go_must ((rfl; (intro g_ w_ hq_; clear HH; have HH := hid hq_; clear hq_))))
        | ((with_reducible apply wpList_storeA S33 HH.out); go_must ((rfl; rfl; (first | exact .here | exact .there .here | exact .there (.there .here) | exact .there (.there (.there .here)) | exact .there (.there (.there (.there .here))) | exact .there (.there (.there (.there (.there .here))))); rfl; (intro w_ hq_; clear HH; have HH := hid hq_; clear hq_))))
        | ((with_reducible apply wpList_boxA (e := 33) HH.out); rfl; rfl; (intro g_ w_ hq_; clear HH; have HH := hid hq_; clear hq_)))
      go_loopw [10] (HoldsRel1 HH.out (chainL (k + 1)).length) (fun i _ => (chainL (k + 1)).length - (intOf i).toNat)
      case atStart => exact ⟨1, Nat.le_refl _, hp, rfl, HH.out⟩
      case round =>
        obtain ⟨j, hj1, hj, rfl, hr⟩ := hrel
        have HR := hid hr
        clear hr
        by_cases hjl : j < (chainL (k + 1)).length
        · have hx : (chainL (k + 1)).length - j < (chainL (k + 1)).length := by omega
          have hjk : j < k + 1 := by have := CA.out.len; omega
          have hel : (chainL (k + 1))[(chainL (k + 1)).length - j] = idC (k + 1 - j) := by
            have := CA.out.rest j hj1 hjl
            rw [List.getElem?_eq_getElem hx] at this
            exact Option.some.inj this
          have NE := hid (show (!((chainL (k + 1))[(chainL (k + 1)).length - j] == idC (k + 1 - j))) = false by rw [beq_yes hel]; rfl)
          have hconv : ((k : Int) + 2 - j) = (((UInt8.ofNat (k + 1 - j + 1)).toNat : Nat) : Int) := by
            rw [UInt8.toNat_ofNat', Nat.mod_eq_of_lt (by omega)]; omega
          have HB2 : Hid (∀ w, (Instr.build 33 #[(0, .int .u8 ((k : Int) + 2 - j))]).run Try.prog w = .ok (idC (k + 1 - j)).val w) := hid (fun w => by rw [hconv]; exact build_idC _ w)
          have e0 : (((chainL (k + 1)).length : Int) - j) = (((chainL (k + 1)).length - j : Nat) : Int) := by omega
          clear hconv hel
          go_wp2_with (first
            | ((with_reducible apply wpList_load_agg A33 (Arr.len (chainL (k + 1))[(chainL (k + 1)).length - j]) (Ids.get HR.out.sl0 ((chainL (k + 1)).length - j) hx)); go_must ((rfl; rfl)))
            | ((with_reducible apply wpList_build (parts := #[(0, .tmp 75)]) (v := (idC (k + 1 - j)).val)); go_must ((exact HB2.out; rfl)))
            | ((with_reducible apply wpList_neq_arr R33 (p := (chainL (k + 1))[(chainL (k + 1)).length - j]) (q := idC (k + 1 - j))); go_must ((rfl; rfl; rfl; rw [NE.out])))
            | ((with_reducible apply wpList_loadA A33 HR.out); rfl; (first | exact .here | exact .there .here | exact .there (.there .here) | exact .there (.there (.there .here)) | exact .there (.there (.there (.there .here))) | exact .there (.there (.there (.there (.there .here))))); rfl)
            | ((with_reducible apply wpList_allocA Z33 HR.out); go_must ((rfl; (intro g_ w_ hq_; clear HR; have HR := hid hq_; clear hq_))))
            | ((with_reducible apply wpList_storeA S33 HR.out); go_must ((rfl; rfl; (first | exact .here | exact .there .here | exact .there (.there .here) | exact .there (.there (.there .here)) | exact .there (.there (.there (.there .here))) | exact .there (.there (.there (.there (.there .here))))); rfl; (intro w_ hq_; clear HR; have HR := hid hq_; clear hq_))))
            | ((with_reducible apply wpList_boxA (e := 33) HR.out); rfl; rfl; (intro g_ w_ hq_; clear HR; have HR := hid hq_; clear hq_)))
          go_roundw
          case rel => exact ⟨j + 1, by omega, by omega, by go_num, HR.out⟩
          case measure => simp [intOf]; omega
        · have hmin := CA.out.len
          obtain rfl : j = (chainL (k + 1)).length := by omega
          go_wp2
          go_roundw
          case rel => exact ⟨k + 1, by omega, by go_num, _, _, rfl, HR.out.dropSnd.dropBlk.dropBlk⟩
          case measure => simp [intOf]; omega
    · go_wp2
      go_ret
      exact RetB.mk rfl HH.out.below
end Go.Proofs.Ytohdkmgnnncpkaa
