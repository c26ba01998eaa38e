/- Sum of sha256, cut of the laws. Condition: at most a million bytes less a thousand. -/
import Derived.Test.YtgkfopodhikckaaS10
set_option linter.unusedSimpArgs false
set_option linter.unusedVariables false
namespace Go.Proofs.Ytgkfopodhikckaa
open Go.RowKit
theorem write_own (w0 w : World) (g2 gc : Nat) (o2 : Obj) (s : St) (rvc vb : Value) (n : Nat) (exc : List (Nat × Obj)) (rows : List Row) (r b : List UInt8)
    (h : Holds w0 [] ((g2, o2) :: (gc, objC (hcells s rvc n) 118) :: exc) rows w) (hre : RestEx exc rvc r) (h3 : Byts w vb b) (hn : r.length + b.length ≤ 1000000) (hn2 : n ≤ 1000000000) :
    Calls Try.prog 34 #[.pointer (some ⟨gc, 0, none⟩), vb] w (fun e w' => e = .returned (.int .i64 0) ∧ ∃ rv2 ex, RestEx ex rv2 (absorb s (r ++ b)).2 ∧ Holds w0 [] ((g2, o2) :: (gc, objC (hcells (absorb s (r ++ b)).1 rv2 (n + b.length)) 118) :: (exc ++ ex)) rows w') := by
  have h1 : w.heap[gc]? = some (objC (hcells s rvc n) 118) := h.blk (gc, _) (List.mem_cons_of_mem _ List.mem_cons_self)
  have h2 : Byts w rvc r := hre.byts h fun q hq => List.mem_cons_of_mem _ (List.mem_cons_of_mem _ hq)
  refine (write_any w gc s rvc _ r b n h1 h2 h3 hn hn2).mono fun e w' ⟨he, ho⟩ => ⟨he, ?_⟩
  obtain ⟨rv2, ex, bs2, hturn, hre2, _, _, hq⟩ := h.hashBy (.there .here) (fun o' => ⟨_, .there .here⟩) ho
  have e2 : ∀ {o' : Obj} {bs2}, Turn ((g2, o2) :: (gc, objC (hcells s rvc n) 118) :: exc) gc (objC (hcells s rvc n) 118) o' bs2 → g2 ≠ gc → bs2 = (g2, o2) :: (gc, o') :: exc ∨ ∃ l', Turn exc gc (objC (hcells s rvc n) 118) o' l' := by
    intro o' bs2 ht hne
    cases ht with
    | here => exact absurd rfl hne
    | there ht2 =>
      cases ht2 with
      | here => exact .inl rfl
      | there ht3 => exact .inr ⟨_, ht3⟩
  have hs := h.sep
  simp only [List.map_cons, List.cons_append, List.nodup_cons, List.mem_cons, List.mem_append, not_or] at hs
  rcases e2 hturn (fun e => hs.1.1 e) with rfl | ⟨l', ht⟩
  · exact ⟨rv2, ex, hre2, hq⟩
  · exact absurd (List.mem_map.2 ⟨_, ht.own.mem, rfl⟩) hs.2.1.1
set_option maxRecDepth 100000 in
set_option maxHeartbeats 2000000 in
theorem shaSum_any (w : World) (v : Value) (l : List UInt8) (hl : Byts w v l) (hn : l.length ≤ 900000) : Calls Try.prog 20 #[v] w (RetA w (sumB l)) := by
  obtain ⟨ao, cap, rfl, _⟩ := hl.shape
  have HL := hid hl
  clear hl
  have HH := hid (Holds.init w)
  have hsh := absorb_short initS l
  obtain ⟨s1, hs1⟩ : ∃ s1, (absorb initS l).1 = s1 := ⟨_, rfl⟩
  obtain ⟨r1, hr1⟩ : ∃ r1, (absorb initS l).2 = r1 := ⟨_, rfl⟩
  have hsum : sumB l = outB (absorb s1 (r1 ++ padL l.length)).1 := by rw [sumB_absorb, hs1, hr1]
  rw [hsum]
  rw [hr1] at hsh
  have HS1 := hid hs1
  have HR1 := hid hr1
  have N0 := hid (show 0 + l.length = l.length from Nat.zero_add _)
  have NA := hid (show ([] : List UInt8) ++ l = l from rfl)
  clear hs1 hr1 hsum
  go_enter Try.func20, Try.ntmps20
  go_wp2_with (first
    | ((first
        | ((with_reducible apply wpL_skip); rfl; skip)
        | ((with_reducible apply wpL_allocC (dst := some 2) Z25 HH.out); rfl; (intro g2 w_ hq_; clear HH; have HH := hid hq_; clear hq_))
        | (go_at_call 32; refine (new_any _).mono ?_; rintro e w2 ⟨gc, rvc, exc, rfl, hre, hex, hnd, hb⟩; (have hq_ : Holds w [] ((g2, objC z32 25) :: (gc, objC (hcells initS rvc 0) 118) :: exc) [] w2 := HH.out.newBy hex hnd hb); clear HH hb hex hnd; have HH := hid hq_; clear hq_; have HE := hid hre; clear hre)
        | (go_at_call 34; (have hcall_ := hid (write_own w _ g2 gc (objC z32 25) initS rvc _ 0 exc [] [] l HH.out HE.out (HH.out.sl HL.out) (by simp; omega) (by omega))); (with_reducible refine hcall_.out.mono ?_); clear hcall_; rw [NA.out, N0.out, HS1.out, HR1.out]; rintro e w2 ⟨rfl, rv2, ex, hre, hq_⟩; clear HH HE; have HH := hid hq_; have HE := hid hre; clear hq_ hre)
        | (go_at_call 33; (have hcall_ := hid (sum_any _ gc s1 rv2 r1 l.length (HH.out.blk _ (List.mem_cons_of_mem _ List.mem_cons_self)) (HE.out.byts HH.out fun q hq => List.mem_cons_of_mem _ (List.mem_cons_of_mem _ (List.mem_append.2 (.inr hq)))) (by omega) (by omega))); (with_reducible refine hcall_.out.mono ?_); clear hcall_; rintro e w2 ⟨rfl, hb⟩; (have hq_ := HH.out.grow hb); clear HH; have HH := hid hq_; clear hq_ hb)
        | ((with_reducible apply wpL_storeC (vs := (outB (absorb s1 (r1 ++ padL l.length)).1).cells) (x := .tmp 2) (sz := 32)); rfl; rfl; (exact S25); (exact HH.out); (exact .here); (exact Arr.len _); (exact cells_one _); rfl; rfl; (intro w_ hq_; clear HH; have HH := hid hq_; clear hq_))
        | ((with_reducible apply wpL_move); rfl; rfl)
        | ((with_reducible apply wpL_assign); rfl; rfl)
        | ((with_reducible apply wpL_pick); rfl; rfl; rfl)
        | ((with_reducible apply wpL_not); rfl; rfl)
        | ((with_reducible apply wpL_cmp (b := true)); rfl; rfl; rfl; (first | rfl | assumption | (simp only [cmpB, decide_eq_true_eq, decide_eq_false_iff_not, beq_iff_eq, bne_iff_ne, ne_eq, beq_eq_false_iff_ne, bne_eq_false_iff_eq, gt_iff_lt, ge_iff_le]; omega) | (simp; omega)); rfl)
        | ((with_reducible apply wpL_cmp (b := false)); rfl; rfl; rfl; (first | rfl | assumption | (simp only [cmpB, decide_eq_true_eq, decide_eq_false_iff_not, beq_iff_eq, bne_iff_ne, ne_eq, beq_eq_false_iff_ne, bne_eq_false_iff_eq, gt_iff_lt, ge_iff_le]; omega) | (simp; omega)); rfl)
        | ((with_reducible apply wpL_cmp); rfl; rfl; rfl; rfl; rfl)
        | ((with_reducible apply wpL_arith); rfl; rfl; rfl; (exact IntWalk.i64_in _ (by (try simp only [arithI]); omega)); rfl)); (try simp only [arithI, Act.put, Act.eval, List.setIfInBounds_toArray, List.set_cons_succ, List.set_cons_zero, Array.getD_eq_getD_getElem?, List.getElem?_toArray, List.getElem?_cons_succ, List.getElem?_cons_zero, Option.getD_some])))
  refine bodyPost_ret (res1 rfl (resC A25 HH.out (by rfl) .here (Arr.len _))) rfl ?_
  exact ⟨rfl, HH.out.below⟩
end Go.Proofs.Ytgkfopodhikckaa
