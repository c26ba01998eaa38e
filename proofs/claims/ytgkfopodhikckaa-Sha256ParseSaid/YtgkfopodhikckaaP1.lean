/- The plain law of sha256: the window of 16 words and the schedule of 64 agree; a digest of pieces is that of all. No condition. -/
import Derived.Test.YtgkfopodhikckaaS7
set_option linter.unusedSimpArgs false
set_option linter.unusedVariables false
namespace Go.Proofs.Ytgkfopodhikckaa
theorem w4_take (l : List UInt8) {k : Nat} (h : k + 3 < 64) : w4 (l.take 64) k = w4 l k := by
  have e : ∀ j, j < 64 → (l.take 64).getD j 0 = l.getD j 0 := by
    intro j hj
    simp only [List.getD_eq_getElem?_getD, List.getElem?_take]
    rw [if_pos hj]
  unfold w4
  rw [e k (by omega), e (k + 1) (by omega), e (k + 2) (by omega), e (k + 3) (by omega)]
theorem schW_take (l : List UInt8) : ∀ t, t < 64 → schW (l.take 64) t = schW l t := by
  intro t
  induction t using Nat.strongRecOn with
  | ind t ih =>
    intro ht
    rw [schW, schW.eq_1 l t]
    split
    · rw [w4_take l (by omega)]
    · rw [ih (t - 2) (by omega) (by omega), ih (t - 7) (by omega) (by omega), ih (t - 15) (by omega) (by omega), ih (t - 16) (by omega) (by omega)]
theorem getD_set (l : List W32) (i j : Nat) (x : W32) (h : i < l.length) : (l.set i x).getD j 0 = if i = j then x else l.getD j 0 := by
  simp only [List.getD_eq_getElem?_getD, List.getElem?_set]
  by_cases hij : i = j
  · subst hij; simp [h]
  · simp [hij]
theorem window (s : St) (l : List UInt8) : ∀ t, t ≤ 64 → (procN s (loadL l) t).1 = rndN s (schW l) t ∧
    ∀ i, i < max t 16 → max t 16 ≤ i + 16 → (procN s (loadL l) t).2.getD (i % 16) 0 = schW l i := by
  intro t
  induction t with
  | zero =>
    intro _
    refine ⟨rfl, fun i h1 h2 => ?_⟩
    have hi : i < 16 := by omega
    rw [Nat.mod_eq_of_lt hi, schW, dif_pos hi]
    show (loadL l).getD i 0 = _
    simp [loadL, hi]
  | succ t ih =>
    intro ht
    obtain ⟨h1, h2⟩ := ih (by omega)
    have hlen : (procN s (loadL l) t).2.length = 16 := by rw [procN_len]; simp [loadL]
    have key : ∀ i, i < max (t + 1) 16 → max (t + 1) 16 ≤ i + 16 → (winUp (procN s (loadL l) t).2 t).getD (i % 16) 0 = schW l i := by
      intro i hi1 hi2
      unfold winUp
      by_cases h16 : t < 16
      · rw [if_pos h16]
        exact h2 i (by omega) (by omega)
      · rw [if_neg h16, getD_set _ _ _ _ (by rw [hlen]; exact Nat.mod_lt _ (by omega))]
        by_cases hit : i = t
        · subst hit
          rw [if_pos rfl]
          have e16 := h2 (i - 16) (by omega) (by omega)
          have e2 := h2 (i - 2) (by omega) (by omega)
          have e7 := h2 (i - 7) (by omega) (by omega)
          have e15 := h2 (i - 15) (by omega) (by omega)
          rw [show (i - 16) % 16 = i % 16 by omega] at e16
          rw [e16, e2, e7, e15]
          conv => rhs; rw [schW, dif_neg h16]
          exact BitVec.add_comm _ _
        · rw [if_neg (by omega)]
          exact h2 i (by omega) (by omega)
    refine ⟨?_, fun i hi1 hi2 => by rw [procN]; exact key i hi1 hi2⟩
    rw [procN, rndN]
    simp only
    rw [h1, key t (by omega) (by omega)]
theorem plusS_comm (s o : St) : plusS s o = plusS o s := by
  unfold plusS
  simp only [BitVec.add_comm s.a, BitVec.add_comm s.b, BitVec.add_comm s.c, BitVec.add_comm s.d, BitVec.add_comm s.e, BitVec.add_comm s.f, BitVec.add_comm s.g, BitVec.add_comm s.h]
theorem rndN_congr (s : St) {W V : Nat → W32} : ∀ t, (∀ i, i < t → W i = V i) → rndN s W t = rndN s V t := by
  intro t
  induction t with
  | zero => intro _; rfl
  | succ t ih => intro h; rw [rndN, rndN, ih fun i hi => h i (by omega), h t (by omega)]
/-- Both ways to take in a block agree. -/
theorem process_block (s : St) (l : List UInt8) : processS s (loadL l) = blockS s (l.take 64) := by
  unfold processS blockS
  rw [(window s l 64 (Nat.le_refl _)).1, plusS_comm, rndN_congr s 64 fun i hi => (schW_take l i hi).symm]
/-- Takes in all complete blocks. -/
def absorb (s : St) (l : List UInt8) : St × List UInt8 := if 64 ≤ l.length then absorb (blockS s (l.take 64)) (l.drop 64) else (s, l)
termination_by l.length
decreasing_by simp; omega
theorem absorb_step {s : St} {l : List UInt8} (h : 64 ≤ l.length) : absorb s l = absorb (blockS s (l.take 64)) (l.drop 64) := by
  rw [absorb, if_pos h]
theorem absorb_done {s : St} {l : List UInt8} (h : ¬ 64 ≤ l.length) : absorb s l = (s, l) := by
  rw [absorb, if_neg h]
theorem absorb_append (s : St) (l m : List UInt8) : absorb s (l ++ m) = absorb (absorb s l).1 ((absorb s l).2 ++ m) := by
  induction hn : l.length using Nat.strongRecOn generalizing s l with
  | ind n ih =>
    by_cases h : 64 ≤ l.length
    · rw [absorb_step h, absorb_step (l := l ++ m) (by simp; omega), List.take_append_of_le_length h, List.drop_append_of_le_length h]
      exact ih (l.drop 64).length (by simp; omega) _ _ rfl
    · rw [absorb_done h]
theorem absorb_short (s : St) (l : List UInt8) : (absorb s l).2.length < 64 := by
  induction hn : l.length using Nat.strongRecOn generalizing s l with
  | ind n ih =>
    by_cases h : 64 ≤ l.length
    · rw [absorb_step h]; exact ih (l.drop 64).length (by simp; omega) _ _ rfl
    · rw [absorb_done h]; simp only; omega
theorem blocks_absorb (p : List UInt8) : ∀ t, 64 * t ≤ p.length → absorb initS p = absorb (blocksN p t) (p.drop (64 * t)) := by
  intro t
  induction t with
  | zero => intro _; simp [blocksN]
  | succ t ih =>
    intro h
    rw [ih (by omega), absorb_step (by simp; omega), blocksN, List.drop_drop]
    congr 2
theorem blocks_all (p : List UInt8) (h : p.length % 64 = 0) : blocksN p (p.length / 64) = (absorb initS p).1 := by
  rw [blocks_absorb p (p.length / 64) (by omega), absorb_done (by simp; omega)]
theorem pad_len (n m : Nat) (h : n = m) : (n + (padL m).length) % 64 = 0 := by
  subst h
  simp only [padL, lenBs, List.length_append, List.length_cons, List.length_replicate, List.length_map, List.length_range, padZ]
  omega
/-- The digest, told by what a Hash holds after all bytes. -/
theorem sumB_absorb (l : List UInt8) : sumB l = outB (absorb (absorb initS l).1 ((absorb initS l).2 ++ padL l.length)).1 := by
  unfold sumB
  rw [blocks_all _ (by rw [List.length_append]; exact pad_len _ _ rfl), absorb_append]
end Go.Proofs.Ytgkfopodhikckaa
