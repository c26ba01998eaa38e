/- What Parse reads: blanks, digits, an identity's text; Identity of the reference. Condition: a text of at most a million bytes. -/
import Derived.Test.YtohdkmgnnncpkaaTX6
set_option linter.unusedSimpArgs false
set_option linter.unusedVariables false
namespace Go.Proofs.Ytohdkmgnnncpkaa
open Go.RowKit
def blankB (c : UInt8) : Bool := decide (c.toNat = 32 ∨ c.toNat = 9)
def closing : List UInt8 := [64, 104, 97, 115, 104, 62]
/-- The identity that a text denotes. -/
def identL (s : List UInt8) : Option Id :=
  if s.length = 71 ∧ s.getD 0 0 = 60 ∧ s.drop 65 = closing then
    match unhexL ((s.drop 1).take 64) with
    | some l => if h : l.length = 32 then some ⟨l, h⟩ else none
    | none => none
  else none
theorem unhexL_all : ∀ (l m : List UInt8), unhexL l = some m → ∀ c ∈ l, 0 ≤ hexV c
  | [], _, _, c, hc => by simp at hc
  | [_], m, h, _, _ => by simp [unhexL] at h
  | a :: b :: r, m, h, c, hc => by
    rw [unhexL] at h
    split at h
    · cases h
    · rename_i hn
      simp only [Option.map_eq_some_iff] at h
      obtain ⟨m', h1, _⟩ := h
      simp only [List.mem_cons] at hc
      rcases hc with rfl | rfl | hc
      · omega
      · omega
      · exact unhexL_all r m' h1 c hc
theorem unhexL_some : ∀ (l : List UInt8), (∀ c ∈ l, 0 ≤ hexV c) → l.length % 2 = 0 → ∃ m, unhexL l = some m
  | [], _, _ => ⟨[], rfl⟩
  | [_], _, h => by simp at h
  | a :: b :: r, h, he => by
    obtain ⟨m, hm⟩ := unhexL_some r (fun c hc => h c (List.mem_cons_of_mem _ (List.mem_cons_of_mem _ hc))) (by simp at he; omega)
    have h1 := h a (by simp)
    have h2 := h b (by simp)
    exact ⟨_, by rw [unhexL, if_neg (by omega), hm]; rfl⟩
theorem ident_some {s : List UInt8} {x : Id} (h : identL s = some x) : s.length = 71 ∧ s.getD 0 0 = 60 ∧ s.drop 65 = closing ∧ unhexL ((s.drop 1).take 64) = some x.1 := by
  unfold identL at h
  split at h
  · rename_i hc
    split at h
    · rename_i l hl
      split at h
      · simp only [Option.some.injEq] at h
        subst h
        exact ⟨hc.1, hc.2.1, hc.2.2, hl⟩
      · cases h
    · cases h
  · cases h
theorem ident_mk {s : List UInt8} {l : List UInt8} (h1 : s.length = 71) (h2 : s.getD 0 0 = 60) (h3 : s.drop 65 = closing) (h4 : unhexL ((s.drop 1).take 64) = some l) : ∃ x : Id, x.1 = l ∧ identL s = some x := by
  have hl : l.length = 32 := by
    have := unhexL_len _ _ h4
    rw [List.length_take, List.length_drop] at this
    omega
  refine ⟨⟨l, hl⟩, rfl, ?_⟩
  unfold identL
  rw [if_pos ⟨h1, h2, h3⟩, h4]
  simp [hl]
theorem ident_none {s : List UInt8} (h : ¬ (s.length = 71 ∧ s.getD 0 0 = 60 ∧ s.drop 65 = closing)) : identL s = none := by
  unfold identL; rw [if_neg h]
theorem ident_bad {s : List UInt8} (h : unhexL ((s.drop 1).take 64) = none) : identL s = none := by
  unfold identL; rw [h]; split <;> rfl
theorem blank_any (w : World) (c : UInt8) (b : Bool) (hb : blankB c = b) : Calls Try.prog 38 #[byt c] w (fun e w' => e = .returned (.bool b) ∧ w' = w) := by
  subst hb
  unfold blankB byt
  by_cases h1 : c.toNat = 32
  · have d1 : ((c.toNat : Int) == 32) = true := by simp; omega
    have HD := hid (show decide (c.toNat = 32 ∨ c.toNat = 9) = true by simp [h1])
    rw [HD.out]
    clear h1
    go_enter Try.func38, Try.ntmps38
    go_wp2
    go_ret
    exact ⟨by first | rfl | (simp; done) | (simp; omega), rfl⟩
  · have d1 : ((c.toNat : Int) == 32) = false := by simp; omega
    by_cases h2 : c.toNat = 9
    · have d2 : ((c.toNat : Int) == 9) = true := by simp; omega
      have HD := hid (show decide (c.toNat = 32 ∨ c.toNat = 9) = true by simp [h2])
      rw [HD.out]
      clear h1 h2
      go_enter Try.func38, Try.ntmps38
      go_wp2
      go_ret
      exact ⟨by first | rfl | (simp; done) | (simp; omega), rfl⟩
    · have d2 : ((c.toNat : Int) == 9) = false := by simp; omega
      have HD := hid (show decide (c.toNat = 32 ∨ c.toNat = 9) = false by simp [h1, h2])
      rw [HD.out]
      clear h1 h2
      go_enter Try.func38, Try.ntmps38
      go_wp2
      go_ret
      exact ⟨by first | rfl | (simp; done) | (simp; omega), rfl⟩
theorem blankR_any (w : World) (c : UInt8) (b : Bool) (hb : blankB c = b) : Calls Try.prog 40 #[byt c] w (fun e w' => e = .returned (.bool b) ∧ w' = w) := by
  subst hb
  unfold blankB byt
  by_cases h1 : c.toNat = 32
  · have d1 : ((c.toNat : Int) == 32) = true := by simp; omega
    have HD := hid (show decide (c.toNat = 32 ∨ c.toNat = 9) = true by simp [h1])
    rw [HD.out]
    clear h1
    go_enter Try.func40, Try.ntmps40
    go_wp2
    go_ret
    exact ⟨by first | rfl | (simp; done) | (simp; omega), rfl⟩
  · have d1 : ((c.toNat : Int) == 32) = false := by simp; omega
    by_cases h2 : c.toNat = 9
    · have d2 : ((c.toNat : Int) == 9) = true := by simp; omega
      have HD := hid (show decide (c.toNat = 32 ∨ c.toNat = 9) = true by simp [h2])
      rw [HD.out]
      clear h1 h2
      go_enter Try.func40, Try.ntmps40
      go_wp2
      go_ret
      exact ⟨by first | rfl | (simp; done) | (simp; omega), rfl⟩
    · have d2 : ((c.toNat : Int) == 9) = false := by simp; omega
      have HD := hid (show decide (c.toNat = 32 ∨ c.toNat = 9) = false by simp [h1, h2])
      rw [HD.out]
      clear h1 h2
      go_enter Try.func40, Try.ntmps40
      go_wp2
      go_ret
      exact ⟨by first | rfl | (simp; done) | (simp; omega), rfl⟩
theorem ret_i {k : IntKind} {a b : Int} (h : a = b) : Ending.returned (.int k a) = .returned (.int k b) := by rw [h]
theorem value_any (w : World) (c : UInt8) : Calls Try.prog 48 #[byt c] w (fun e w' => e = .returned (.int .i64 (hexV c)) ∧ w' = w) := by
  have hlt := c.toNat_lt
  have HV := hid (hexV_eq c)
  unfold byt
  by_cases h : 48 ≤ c.toNat ∧ c.toNat ≤ 57
  · obtain ⟨h1, h2⟩ := h
    have d1 : decide ((48 : Int) ≤ (c.toNat : Int)) = true := by simp; omega
    have d2 : decide ((c.toNat : Int) ≤ 57) = true := by simp; omega
    go_enter Try.func48, Try.ntmps48
    go_wp2
    go_ret
    exact ⟨ret_i (by rw [HV.out, if_pos ⟨h1, h2⟩]), rfl⟩
  · have HN := hid h
    by_cases g1 : 48 ≤ c.toNat
    · have d1 : decide ((48 : Int) ≤ (c.toNat : Int)) = true := by simp; omega
      have d2 : decide ((c.toNat : Int) ≤ 57) = false := by simp; omega
      clear h
      by_cases h1 : 97 ≤ c.toNat
      · have d3 : decide ((97 : Int) ≤ (c.toNat : Int)) = true := by simp; omega
        by_cases h2 : c.toNat ≤ 102
        · have d4 : decide ((c.toNat : Int) ≤ 102) = true := by simp; omega
          go_enter Try.func48, Try.ntmps48
          go_wp2
          go_ret
          exact ⟨ret_i (by rw [HV.out, if_neg HN.out, if_pos ⟨h1, h2⟩]; omega), rfl⟩
        · have d4 : decide ((c.toNat : Int) ≤ 102) = false := by simp; omega
          go_enter Try.func48, Try.ntmps48
          go_wp2
          go_ret
          exact ⟨ret_i (by rw [HV.out, if_neg HN.out, if_neg (by omega)]), rfl⟩
      · have d3 : decide ((97 : Int) ≤ (c.toNat : Int)) = false := by simp; omega
        go_enter Try.func48, Try.ntmps48
        go_wp2
        go_ret
        exact ⟨ret_i (by rw [HV.out, if_neg HN.out, if_neg (by omega)]), rfl⟩
    · have d1 : decide ((48 : Int) ≤ (c.toNat : Int)) = false := by simp; omega
      have d3 : decide ((97 : Int) ≤ (c.toNat : Int)) = false := by simp; omega
      clear h
      go_enter Try.func48, Try.ntmps48
      go_wp2
      go_ret
      exact ⟨ret_i (by rw [HV.out, if_neg HN.out, if_neg (by omega)]), rfl⟩
end Go.Proofs.Ytohdkmgnnncpkaa
