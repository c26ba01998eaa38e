/- Words between blanks: what a text with more blanks denotes. No condition. -/
import Derived.Test.YtohdkmgnnncpkaaTX12
set_option linter.unusedSimpArgs false
set_option linter.unusedVariables false
namespace Go.Proofs.Ytohdkmgnnncpkaa
open Go.RowKit
theorem hexVC : ∀ m : Fin 16, hexV (hexC m.1) = (m.1 : Int) := by decide +kernel
theorem hexVC' (m : Nat) (h : m < 16) : hexV (hexC m) = (m : Int) := hexVC ⟨m, h⟩
/-- The words before a place, the word under way. -/
abbrev Words := List (List UInt8) × List UInt8
def Words.fin (x : Words) : List (List UInt8) := if x.2 = [] then x.1 else x.1 ++ [x.2]
def stepW (x : Words) (c : UInt8) : Words := if blankB c then (x.fin, []) else (x.1, x.2 ++ [c])
def scanW (x : Words) (s : List UInt8) : Words := s.foldl stepW x
theorem scan_append (x : Words) (s t : List UInt8) : scanW x (s ++ t) = scanW (scanW x s) t := List.foldl_append
theorem scan_one (x : Words) (c : UInt8) : scanW x [c] = stepW x c := rfl
theorem scan_cons (x : Words) (c : UInt8) (s : List UInt8) : scanW x (c :: s) = scanW (stepW x c) s := rfl
theorem step_blank {x : Words} {c : UInt8} (h : blankB c = true) : stepW x c = (x.fin, []) := by unfold stepW; rw [if_pos h]
theorem step_char {x : Words} {c : UInt8} (h : blankB c = false) : stepW x c = (x.1, x.2 ++ [c]) := by unfold stepW; rw [if_neg (by rw [h]; decide)]
theorem scan_word : ∀ (t : List UInt8) (x : Words), (∀ c ∈ t, blankB c = false) → scanW x t = (x.1, x.2 ++ t)
  | [], x, _ => by simp [scanW]
  | c :: t, x, h => by
    rw [scan_cons, step_char (h c (by simp)), scan_word t _ fun d hd => h d (List.mem_cons_of_mem _ hd)]
    simp
theorem fin_nil (l : List (List UInt8)) : Words.fin (l, []) = l := by unfold Words.fin; rw [if_pos rfl]
theorem fin_word {l : List (List UInt8)} {t : List UInt8} (h : t ≠ []) : Words.fin (l, t) = l ++ [t] := by unfold Words.fin; rw [if_neg h]
theorem fin_pre (p l : List (List UInt8)) (t : List UInt8) : Words.fin (p ++ l, t) = p ++ Words.fin (l, t) := by
  unfold Words.fin; simp only; split <;> simp
theorem scan_pre (p : List (List UInt8)) : ∀ (s : List UInt8) (l : List (List UInt8)) (t : List UInt8), scanW (p ++ l, t) s = (p ++ (scanW (l, t) s).1, (scanW (l, t) s).2)
  | [], l, t => rfl
  | c :: s, l, t => by
    rw [scan_cons, scan_cons]
    by_cases h : blankB c = true
    · rw [step_blank h, step_blank h, fin_pre]
      exact scan_pre p s _ _
    · have h' : blankB c = false := by simpa using h
      rw [step_char h', step_char h']
      exact scan_pre p s _ _
theorem mem_tw (p : UInt8 → Bool) : ∀ (l : List UInt8) (c : UInt8), c ∈ l.takeWhile p → p c = true
  | [], c, h => by simp at h
  | d :: l, c, h => by
    rw [List.takeWhile_cons] at h
    split at h
    · rename_i hd
      rcases List.mem_cons.1 h with rfl | h
      · exact hd
      · exact mem_tw p l c h
    · simp at h
/-- The words of a text. -/
def wordsL (s : List UInt8) : List (List UInt8) := Words.fin (scanW ([], []) s)
theorem words_blank {c : UInt8} {s : List UInt8} (h : blankB c = true) : wordsL (c :: s) = wordsL s := by
  unfold wordsL; rw [scan_cons, step_blank h, fin_nil]
theorem words_tok {s : List UInt8} {i : Nat} (hi : i < s.length) (hb : blankB (s.getD i 0) = false) : wordsL (s.drop i) = tokL s i :: wordsL (s.drop (tokEnd s i)) := by
  have e1 : s.drop i = tokL s i ++ (s.drop i).dropWhile (fun c => !blankB c) := (List.takeWhile_append_dropWhile).symm
  have e2 : (s.drop i).dropWhile (fun c => !blankB c) = s.drop (tokEnd s i) := by
    have h1 : s.drop (tokEnd s i) = (s.drop i).drop (tokL s i).length := by rw [List.drop_drop]; rfl
    rw [h1]
    conv => rhs; rw [e1]
    rw [List.drop_left]
  have hne : tokL s i ≠ [] := by
    intro e
    have := tokEnd_gt hi hb
    unfold tokEnd at this
    have e3 : ((s.drop i).takeWhile fun c => !blankB c) = tokL s i := rfl
    rw [e3, e] at this
    simp at this
  have hall : ∀ c ∈ tokL s i, blankB c = false := fun c hc => by
    have := mem_tw _ _ c hc
    simpa using this
  rw [e2] at e1
  unfold wordsL
  rw [e1, scan_append, scan_word _ _ hall]
  simp only [List.nil_append]
  cases hr : s.drop (tokEnd s i) with
  | nil => simp only [scanW, List.foldl_nil, fin_word hne, fin_nil, List.nil_append]
  | cons c r =>
    have hc : blankB c = true := by
      have h2 : (s.drop i).dropWhile (fun c => !blankB c) = c :: r := by rw [e2, hr]
      have := List.head_dropWhile_not (fun c => !blankB c) (l := s.drop i) (by rw [h2]; simp)
      simp only [h2, List.head_cons] at this
      simpa using this
    rw [scan_cons, scan_cons, step_blank hc, step_blank hc, fin_word hne, fin_nil, List.nil_append]
    have := scan_pre [tokL s i] r [] []
    rw [List.append_nil] at this
    rw [this, fin_pre]
    rfl
theorem blank_text (x : Id) : ∀ c ∈ textL x, blankB c = false := by
  intro c hc
  unfold textL at hc
  simp only [List.mem_append, List.mem_cons, List.not_mem_nil, or_false] at hc
  have hx : ∀ m : Fin 16, blankB (hexC m.1) = false := by decide +kernel
  rcases hc with (rfl | hc) | hc
  · rfl
  · unfold hexB at hc
    obtain ⟨b, _, hb⟩ := List.mem_flatMap.1 hc
    simp only [hexOf, List.mem_cons, List.not_mem_nil, or_false] at hb
    have := b.toNat_lt
    rcases hb with rfl | rfl
    · exact hx ⟨b.toNat / 16, by omega⟩
    · exact hx ⟨b.toNat % 16, by omega⟩
  · rcases hc with rfl | rfl | rfl | rfl | rfl | rfl <;> rfl
theorem unhexL_hexB : ∀ l : List UInt8, unhexL (hexB l) = some l
  | [] => rfl
  | b :: l => by
    have hb := b.toNat_lt
    have h1 := hexVC' (b.toNat / 16) (by omega)
    have h2 := hexVC' (b.toNat % 16) (by omega)
    have ih := unhexL_hexB l
    show unhexL (hexC (b.toNat / 16) :: hexC (b.toNat % 16) :: hexB l) = _
    rw [unhexL, h1, h2, if_neg (by omega), ih]
    simp only [Option.map_some, Option.some.injEq, List.cons.injEq, and_true]
    unfold pairB
    rw [h1, h2]
    simp only [Int.toNat_natCast]
    rw [show b.toNat / 16 * 16 + b.toNat % 16 = b.toNat by omega, UInt8.ofNat_toNat]
theorem ident_text (x : Id) : identL (textL x) = some x := by
  have h1 := textL_len x
  have h3 : (textL x).drop 65 = closing := by
    unfold textL
    rw [List.drop_append_of_le_length (by simp [hexB_len, x.2]), List.drop_of_length_le (by simp [hexB_len, x.2])]
    rfl
  have h4 : ((textL x).drop 1).take 64 = hexB x.1 := by
    unfold textL
    rw [List.append_assoc, List.singleton_append, List.drop_succ_cons, List.drop_zero, List.take_append_of_le_length (by simp [hexB_len, x.2]), List.take_of_length_le (by simp [hexB_len, x.2])]
  obtain ⟨y, hy, he⟩ := ident_mk h1 rfl h3 (by rw [h4]; exact unhexL_hexB _)
  rw [he, Subtype.ext hy]
/-- A text whose words are those of a valid list denotes the list. -/
theorem parse_words (s : List UInt8) : ∀ (n i : Nat) (r out : List Id), s.length - i ≤ n → wordsL (s.drop i) = texts r → checkFrom out r = 0 → out.length + r.length ≤ 20 → parseL s i out = (out ++ r, 0, 0) := by
  intro n
  induction n with
  | zero =>
    intro i r out hn hw _ _
    rw [parse_end (by omega)]
    rw [List.drop_eq_nil_of_le (by omega)] at hw
    cases r with
    | nil => simp
    | cons x r => cases hw
  | succ n ih =>
    intro i r out hn hw hc hl
    by_cases hi : i < s.length
    · cases hb : blankB (s.getD i 0) with
      | true =>
        rw [parse_blank hi hb]
        refine ih _ _ _ (by omega) ?_ hc hl
        rw [List.drop_eq_getElem_cons hi] at hw
        rw [words_blank] at hw
        · exact hw
        · rw [List.getD_eq_getElem?_getD, List.getElem?_eq_getElem hi, Option.getD_some] at hb; exact hb
      | false =>
        rw [words_tok hi hb] at hw
        cases r with
        | nil => cases hw
        | cons x r =>
          simp only [texts, List.map_cons, List.cons.injEq] at hw
          rw [List.length_cons] at hl
          rw [checkFrom] at hc
          split at hc
          · rename_i hz
            rw [parse_go hi hb (by omega) (by rw [hw.1]; exact ident_text x) hz rfl, ih _ r _ (by have := tokEnd_gt hi hb; omega) hw.2 hc (by simp; omega)]
            simp
          · rename_i hz; exact absurd hc hz
    · rw [parse_end hi]
      rw [List.drop_eq_nil_of_le (by omega)] at hw
      cases r with
      | nil => simp
      | cons x r => cases hw
theorem scan_texts : ∀ (k : Nat) (l : List Id), k ≤ l.length → Words.fin (scanW ([], []) (printL (l.take k))) = texts (l.take k)
  | 0, l, _ => by simp [printL, texts, joinS, scanW, fin_nil]
  | k + 1, l, h => by
    have hne : ∀ x : Id, textL x ≠ [] := fun x e => by have := textL_len x; rw [e] at this; simp at this
    have hk : k < l.length := by omega
    by_cases h0 : 0 < k
    · rw [← printL_step hk h0, scan_append, scan_append, scan_one, step_blank (by rfl), scan_texts k l (by omega), scan_word _ _ (blank_text _), List.nil_append, fin_word (hne _)]
      exact texts_step hk
    · obtain rfl : k = 0 := by omega
      rw [← printL_zero hk, scan_append]
      have e : scanW ([], []) (printL (l.take 0)) = ([], []) := by simp [printL, texts, joinS, scanW]
      rw [e, scan_word _ _ (blank_text _), List.nil_append, fin_word (hne _), List.nil_append]
      exact texts_step hk
/-- A text with more blanks. -/
inductive Blend : List UInt8 → List UInt8 → Prop
  | nil : Blend [] []
  | snoc {s m : List UInt8} (c : UInt8) : Blend s m → Blend (s ++ [c]) (m ++ [c])
  | pad {s m : List UInt8} (b : UInt8) : Blend (s ++ [32]) m → blankB b = true → Blend (s ++ [32]) (m ++ [b])
theorem Blend.scan {s m : List UInt8} (h : Blend s m) : scanW ([], []) m = scanW ([], []) s := by
  induction h with
  | nil => rfl
  | snoc c _ ih => rw [scan_append, scan_append, ih]
  | pad b _ hb ih =>
    rw [scan_append, ih, scan_append, scan_one, scan_one, step_blank hb, step_blank (c := 32) rfl, fin_nil]
theorem Blend.words {l : List Id} {m : List UInt8} (h : Blend (printL l) m) : wordsL ([32] ++ m ++ [9]) = texts l := by
  have h1 := scan_texts l.length l (Nat.le_refl _)
  rw [List.take_length] at h1
  have e0 : stepW ([], []) 32 = ([], []) := by rw [step_blank (c := 32) rfl, fin_nil]
  unfold wordsL
  rw [scan_append, scan_append, scan_one, scan_one, e0, h.scan, step_blank (c := 9) rfl, fin_nil, h1]
theorem parse_print {l : List Id} (h : checkE l = 0) : parseL (printL l) 0 [] = (l, 0, 0) := by
  have h20 := checkE_len h
  have hc : checkFrom [] l = 0 := by unfold checkE at h; rw [if_neg (by omega)] at h; exact h
  have h1 := scan_texts l.length l (Nat.le_refl _)
  rw [List.take_length] at h1
  have := parse_words (printL l) _ 0 l [] (Nat.le_refl _) h1 hc (by simpa using h20)
  simpa using this
theorem parse_blend {l : List Id} {m : List UInt8} (h : checkE l = 0) (hb : Blend (printL l) m) : parseL ([32] ++ m ++ [9]) 0 [] = (l, 0, 0) := by
  have h20 := checkE_len h
  have hc : checkFrom [] l = 0 := by unfold checkE at h; rw [if_neg (by omega)] at h; exact h
  have := parse_words ([32] ++ m ++ [9]) _ 0 l [] (Nat.le_refl _) hb.words hc (by simpa using h20)
  simpa using this
end Go.Proofs.Ytohdkmgnnncpkaa
