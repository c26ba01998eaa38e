/- A Hash of the call's own, told by the bytes that were written to it; a nil Hash. Condition: at most nine hundred thousand bytes. -/
import Derived.Test.YtgkfopodhikckaaH7
set_option linter.unusedSimpArgs false
set_option linter.unusedVariables false
namespace Go.Proofs.Ytgkfopodhikckaa
open Go.RowKit
/-- Block g is a Hash to which the bytes l were written. -/
def HashAt (bs : List (Nat × Obj)) (g : Nat) (l : List UInt8) : Prop :=
  ∃ rv ex, (g, objC (hcells (absorb initS l).1 rv l.length) 118) ∈ bs ∧ RestEx ex rv (absorb initS l).2 ∧ ∀ p ∈ ex, p ∈ bs ∧ ∃ cur, p.2 = .cells cur 5
theorem RestEx.only {ex : List (Nat × Obj)} {v : Value} {l : List UInt8} (h : RestEx ex v l) : ∃ ex', RestEx ex' v l ∧ ∀ p ∈ ex', p ∈ ex ∧ ∃ cur, p.2 = .cells cur 5 := by
  classical
  obtain ⟨ao, cap, rfl, hc, hcell⟩ := h
  refine ⟨ex.filter fun p => decide (∃ cur, p.2 = .cells cur 5), ⟨ao, cap, rfl, hc, fun j u hu => ?_⟩, fun p hp => ?_⟩
  · obtain ⟨g, cur, off, rfl, hm, hu'⟩ := hcell j u hu
    exact ⟨g, cur, off, rfl, List.mem_filter.2 ⟨hm, by simp⟩, hu'⟩
  · have := List.mem_filter.1 hp
    exact ⟨this.1, by simpa using this.2⟩
theorem Turn.ofIdx {o' : Obj} : ∀ (bs : List (Nat × Obj)) (i g : Nat) (o : Obj), bs[i]? = some (g, o) → Turn bs g o o' (bs.set i (g, o'))
  | [], i, g, o, h => by simp at h
  | p :: bs, 0, g, o, h => by simp at h; subst h; exact .here
  | p :: bs, i + 1, g, o, h => by simp at h; exact .there (Turn.ofIdx bs i g o h)
theorem objC_ne {cs : List Value} {cur : Array Value} : objC cs 118 ≠ .cells cur 5 := by intro h; simp [objC] at h
theorem Holds.key {w0 w : World} {S : List Nat} {bs : List (Nat × Obj)} {rows : List Row} (h : Holds w0 S bs rows w) {g : Nat} {o o' : Obj} (h1 : (g, o) ∈ bs) (h2 : (g, o') ∈ bs) : o = o' := by
  have a := h.blk _ h1
  have b := h.blk _ h2
  simp only at a b
  rw [a] at b
  exact Option.some.inj b
/-- What the other Hashes hold stays. -/
def Others (bs bs' : List (Nat × Obj)) (g : Nat) : Prop := ∀ g' l', g' ≠ g → HashAt bs g' l' → HashAt bs' g' l'
theorem HashAt.mono {bs bs' : List (Nat × Obj)} {g : Nat} {l : List UInt8} (h : HashAt bs g l) (hs : ∀ p ∈ bs, p ∈ bs') : HashAt bs' g l := by
  obtain ⟨rv, ex, h1, h2, h3⟩ := h
  exact ⟨rv, ex, hs _ h1, h2, fun p hp => ⟨hs _ (h3 p hp).1, (h3 p hp).2⟩⟩
theorem HashAt.byts {w0 w : World} {S : List Nat} {bs : List (Nat × Obj)} {rows : List Row} {g : Nat} {l : List UInt8} (h : HashAt bs g l) (hH : Holds w0 S bs rows w) :
    ∃ rv, w.heap[g]? = some (objC (hcells (absorb initS l).1 rv l.length) 118) ∧ Byts w rv (absorb initS l).2 := by
  obtain ⟨rv, ex, h1, h2, h3⟩ := h
  exact ⟨rv, hH.blk _ h1, h2.byts hH fun q hq => (h3 q hq).1⟩
theorem hWrite (w0 w : World) (S : List Nat) (bs : List (Nat × Obj)) (rows : List Row) (g : Nat) (vb : Value) (l b : List UInt8) (hH : Holds w0 S bs rows w) (h : HashAt bs g l) (hb : Byts w vb b) (hn : l.length + b.length ≤ 900000) :
    Calls Try.prog 34 #[.pointer (some ⟨g, 0, none⟩), vb] w (fun e w' => e = .returned (.int .i64 0) ∧ ∃ bs', Holds w0 S bs' rows w' ∧ HashAt bs' g (l ++ b) ∧ Others bs bs' g) := by
  have hsh := absorb_short initS l
  obtain ⟨rv, h1, h2⟩ := h.byts hH
  refine (write_any w g _ rv vb _ b l.length h1 h2 hb (by omega) (by omega)).mono fun e w' ⟨he, rv2, ex2, hre, hex, hnd, ht⟩ => ⟨he, ?_⟩
  obtain ⟨rv0, ex0, hm0, _, _⟩ := h
  obtain ⟨i, hi, hig⟩ := List.getElem_of_mem hm0
  have hi? : bs[i]? = some (g, objC (hcells (absorb initS l).1 rv0 l.length) 118) := by rw [List.getElem?_eq_getElem hi, hig]
  rw [← absorb_append] at hre ht
  have hturn := Turn.ofIdx (o' := objC (hcells (absorb initS (l ++ b)).1 rv2 (l.length + b.length)) 118) bs i g _ hi?
  have hq := Holds.addBlks (ex := ex2) (hH.turnedBy hturn ht) ht.size (by
    obtain ⟨pre, post, e1, e2⟩ := hturn.split
    intro p hp
    rw [e2] at hp
    have : ∃ q ∈ bs, q.1 = p.1 := by
      rw [e1]
      rcases List.mem_append.1 hp with a | a
      · exact ⟨p, List.mem_append.2 (.inl a), rfl⟩
      · rcases List.mem_cons.1 a with rfl | a
        · exact ⟨(g, _), List.mem_append.2 (.inr List.mem_cons_self), rfl⟩
        · exact ⟨p, List.mem_append.2 (.inr (List.mem_cons_of_mem _ a)), rfl⟩
    obtain ⟨q, hq, e⟩ := this
    rw [← e]
    exact hH.lt hq) (fun q hq k hk => (hH.rowlt hq k hk).2) hH.size hex hnd
  refine ⟨_, hq, ?_, ?_⟩
  · obtain ⟨ex3, hre3, h3⟩ := hre.only
    refine ⟨rv2, ex3, ?_, hre3, fun p hp => ⟨List.mem_append.2 (.inr (h3 p hp).1), (h3 p hp).2⟩⟩
    rw [List.length_append]
    exact List.mem_append.2 (.inl (List.mem_iff_getElem?.2 ⟨i, by rw [List.getElem?_set_self hi]⟩))
  · intro g' l' hne h'
    obtain ⟨rv', ex', m1, m2, m3⟩ := h'
    have keep : ∀ p ∈ bs, p.1 ≠ g → p ∈ bs.set i (g, objC (hcells (absorb initS (l ++ b)).1 rv2 (l.length + b.length)) 118) ++ ex2 := by
      intro p hp hpg
      refine List.mem_append.2 (.inl ?_)
      obtain ⟨j, hj, hjp⟩ := List.getElem_of_mem hp
      refine List.mem_iff_getElem?.2 ⟨j, ?_⟩
      have hij : i ≠ j := by
        intro e; subst e
        rw [hig] at hjp
        exact hpg (by rw [← hjp])
      rw [List.getElem?_set_ne hij, List.getElem?_eq_getElem hj, hjp]
    refine ⟨rv', ex', keep _ m1 hne, m2, fun p hp => ⟨keep p (m3 p hp).1 ?_, (m3 p hp).2⟩⟩
    intro e
    obtain ⟨cur, hcur⟩ := (m3 p hp).2
    have hp' : (g, p.2) ∈ bs := by rw [← e]; exact (m3 p hp).1
    have := hH.key hm0 hp'
    rw [hcur] at this
    exact objC_ne this
theorem hSum (w0 w : World) (S : List Nat) (bs : List (Nat × Obj)) (rows : List Row) (g : Nat) (l : List UInt8) (hH : Holds w0 S bs rows w) (h : HashAt bs g l) (hn : l.length ≤ 900000) :
    Calls Try.prog 33 #[.pointer (some ⟨g, 0, none⟩)] w (RetA w (sumB l)) := by
  have hsh := absorb_short initS l
  obtain ⟨rv, h1, h2⟩ := h.byts hH
  have := sum_any w g _ rv _ l.length h1 h2 (by omega) (by omega)
  rw [← sumB_absorb] at this
  exact this
theorem hLen (w0 w : World) (S : List Nat) (bs : List (Nat × Obj)) (rows : List Row) (g : Nat) (l : List UInt8) (hH : Holds w0 S bs rows w) (h : HashAt bs g l) :
    Calls Try.prog 39 #[.pointer (some ⟨g, 0, none⟩)] w (fun e w' => e = .returned (.int .i64 l.length) ∧ Below w.heap.size w w') := by
  obtain ⟨rv, h1, _⟩ := h.byts hH
  exact len_any w g _ rv l.length h1
theorem hNewBy {w0 w w' : World} {S : List Nat} {bs : List (Nat × Obj)} {rows : List Row} {l : List UInt8} {e : Ending} (hH : Holds w0 S bs rows w) (ho : NewOut w (absorb initS l).1 (absorb initS l).2 l.length e w') :
    ∃ g bs', e = .returned (.pointer (some ⟨g, 0, none⟩)) ∧ Holds w0 S bs' rows w' ∧ HashAt bs' g l ∧ (∀ g' l', HashAt bs g' l' → HashAt bs' g' l' ∧ g' ≠ g) := by
  obtain ⟨g, rv, ex, he, hre, hex, hnd, hb⟩ := ho
  refine ⟨g, _, he, hH.newBy hex hnd hb, ?_, ?_⟩
  · obtain ⟨ex3, hre3, h3⟩ := hre.only
    exact ⟨rv, ex3, List.mem_append.2 (.inr List.mem_cons_self), hre3, fun p hp => ⟨List.mem_append.2 (.inr (List.mem_cons_of_mem _ (h3 p hp).1)), (h3 p hp).2⟩⟩
  · intro g' l' h'
    refine ⟨h'.mono fun p hp => List.mem_append.2 (.inl hp), ?_⟩
    obtain ⟨_, _, m1, _⟩ := h'
    have h1 := hH.lt m1
    have h2 := (hex _ List.mem_cons_self).1
    simp only at h1 h2
    omega
theorem hNew (w0 w : World) (S : List Nat) (bs : List (Nat × Obj)) (rows : List Row) (hH : Holds w0 S bs rows w) :
    Calls Try.prog 32 #[] w (fun e w' => ∃ g bs', e = .returned (.pointer (some ⟨g, 0, none⟩)) ∧ Holds w0 S bs' rows w' ∧ HashAt bs' g [] ∧ (∀ g' l', HashAt bs g' l' → HashAt bs' g' l' ∧ g' ≠ g)) := by
  have h0 : absorb initS [] = (initS, []) := absorb_done (by simp)
  refine (new_any w).mono fun e w' ho => hNewBy (l := []) hH ?_
  rw [h0]
  exact ho
theorem hClone (w0 w : World) (S : List Nat) (bs : List (Nat × Obj)) (rows : List Row) (g : Nat) (l : List UInt8) (hH : Holds w0 S bs rows w) (h : HashAt bs g l) :
    Calls Try.prog 40 #[.pointer (some ⟨g, 0, none⟩)] w (fun e w' => ∃ g2 bs', e = .returned (.pointer (some ⟨g2, 0, none⟩)) ∧ Holds w0 S bs' rows w' ∧ HashAt bs' g2 l ∧ (∀ g' l', HashAt bs g' l' → HashAt bs' g' l' ∧ g' ≠ g2)) := by
  have hsh := absorb_short initS l
  obtain ⟨rv, h1, h2⟩ := h.byts hH
  exact (clone_any w g _ rv _ l.length h1 h2 (by omega)).mono fun e w' ho => hNewBy hH ho
set_option maxRecDepth 100000 in
set_option maxHeartbeats 2000000 in
theorem writeNil_any (w : World) (v : Value) : Calls Try.prog 34 #[.pointer none, v] w (fun e w' => e = .returned (.int .i64 1) ∧ Below w.heap.size w w') := by
  go_enter Try.func34, Try.ntmps34
  go_wp2
  go_ret
  exact ⟨rfl, Below.refl _ _⟩
set_option maxRecDepth 100000 in
set_option maxHeartbeats 2000000 in
theorem lenNil_any (w : World) : Calls Try.prog 39 #[.pointer none] w (fun e w' => e = .returned (.int .i64 0) ∧ Below w.heap.size w w') := by
  go_enter Try.func39, Try.ntmps39
  go_wp2
  go_ret
  exact ⟨rfl, Below.refl _ _⟩
set_option maxRecDepth 100000 in
set_option maxHeartbeats 2000000 in
theorem cloneNil_any (w : World) : Calls Try.prog 40 #[.pointer none] w (fun e w' => e = .returned (.pointer none) ∧ Below w.heap.size w w') := by
  go_enter Try.func40, Try.ntmps40
  go_wp2
  go_ret
  exact ⟨rfl, Below.refl _ _⟩
theorem BZ25 (w : World) : (Instr.build 25 #[]).run Try.prog w = .ok (Arr.zero 32).val w := by kernel_rfl
set_option maxRecDepth 100000 in
set_option maxHeartbeats 2000000 in
theorem sumNil_any (w : World) : Calls Try.prog 33 #[.pointer none] w (RetA w (Arr.zero 32)) := by
  have HH := hid (Holds.init w)
  go_enter Try.func33, Try.ntmps33
  go_wp2_with (first
    | ((first
        | ((with_reducible apply wpL_skip); rfl; skip)
        | ((with_reducible apply wpList_build (parts := #[]) (v := (Arr.zero 32).val)); (exact BZ25); rfl)
        | ((with_reducible apply wpL_nilCheck); rfl; rfl)
        | ((with_reducible apply wpL_fieldAddr); (first | exact kF115_0 | exact kF115_1 | exact kF115_2 | exact kF115_3 | exact kF115_4 | exact kF115_5 | exact kF115_6 | exact kF115_7 | exact kF118_0 | exact kF118_2); rfl; rfl)
        | ((with_reducible apply wpL_load1 (t := 3) kO3 HH.out); rfl; (first | exact .here | exact .there .here | exact .there (.there .here) | exact .there (.there (.there .here)) | exact .there (.there (.there (.there .here))) | exact .there (.there (.there (.there (.there .here)))) | exact .there (.there (.there (.there (.there (.there .here))))) | exact .there (.there (.there (.there (.there (.there (.there .here))))))); rfl; rfl)
        | ((with_reducible apply wpL_loadArr (t := 25) kA25 HH.out); rfl; (first | exact .here | exact .there .here | exact .there (.there .here) | exact .there (.there (.there .here)) | exact .there (.there (.there (.there .here))) | exact .there (.there (.there (.there (.there .here)))) | exact .there (.there (.there (.there (.there (.there .here))))) | exact .there (.there (.there (.there (.there (.there (.there .here))))))); rfl)
        | ((with_reducible apply wpL_loadC (t := 25) kA25 HH.out); rfl; (first | exact .here | exact .there .here | exact .there (.there .here) | exact .there (.there (.there .here)) | exact .there (.there (.there (.there .here))) | exact .there (.there (.there (.there (.there .here)))) | exact .there (.there (.there (.there (.there (.there .here))))) | exact .there (.there (.there (.there (.there (.there (.there .here))))))); (first | rfl | exact Arr.len _ | (simp; done)); rfl)
        | ((with_reducible apply wpL_load1 (t := 105) kO105 HH.out); rfl; (first | exact .here | exact .there .here | exact .there (.there .here) | exact .there (.there (.there .here)) | exact .there (.there (.there (.there .here))) | exact .there (.there (.there (.there (.there .here)))) | exact .there (.there (.there (.there (.there (.there .here))))) | exact .there (.there (.there (.there (.there (.there (.there .here))))))); rfl; rfl)
        | ((with_reducible apply wpL_loadC (t := 115) kA115 HH.out); rfl; (first | exact .here | exact .there .here | exact .there (.there .here) | exact .there (.there (.there .here)) | exact .there (.there (.there (.there .here))) | exact .there (.there (.there (.there (.there .here)))) | exact .there (.there (.there (.there (.there (.there .here))))) | exact .there (.there (.there (.there (.there (.there (.there .here))))))); (first | rfl | exact Arr.len _ | (simp; done)); rfl)
        | ((with_reducible apply wpL_len (t := 22) Try.underlying22); rfl; rfl)
        | ((with_reducible apply wpL_allocC (dst := some 2) kZ25 HH.out); rfl; (intro g2_ w_ hq_; (try simp only [List.set_cons_zero, List.set_cons_succ] at hq_); clear HH; have HH := hid hq_; clear hq_))
        | ((with_reducible apply wpL_allocC (dst := some 6) kZ25 HH.out); rfl; (intro g6_ w_ hq_; (try simp only [List.set_cons_zero, List.set_cons_succ] at hq_); clear HH; have HH := hid hq_; clear hq_))
        | ((with_reducible apply wpL_allocC (dst := some 7) kZ115 HH.out); rfl; (intro g7_ w_ hq_; (try simp only [List.set_cons_zero, List.set_cons_succ] at hq_); clear HH; have HH := hid hq_; clear hq_))
        | ((with_reducible apply wpL_store1 (t := 5)); rfl; rfl; rfl; (exact kS5); (exact HH.out); (first | exact .here | exact .there .here | exact .there (.there .here) | exact .there (.there (.there .here)) | exact .there (.there (.there (.there .here))) | exact .there (.there (.there (.there (.there .here)))) | exact .there (.there (.there (.there (.there (.there .here))))) | exact .there (.there (.there (.there (.there (.there (.there .here))))))); rfl; (first | exact Nat.le_of_ble_eq_true rfl | (simp; done) | omega); rfl; (intro w_ hq_; (try simp only [List.set_cons_zero, List.set_cons_succ] at hq_); clear HH; have HH := hid hq_; clear hq_))
        | ((with_reducible apply wpL_storeArr (t := 25) kS25 HH.out); rfl; rfl; (first | exact .here | exact .there .here | exact .there (.there .here) | exact .there (.there (.there .here)) | exact .there (.there (.there (.there .here))) | exact .there (.there (.there (.there (.there .here)))) | exact .there (.there (.there (.there (.there (.there .here))))) | exact .there (.there (.there (.there (.there (.there (.there .here))))))); (first | rfl | exact Arr.len _ | (simp; done)); rfl; (intro w_ hq_; (try simp only [List.set_cons_zero, List.set_cons_succ] at hq_); clear HH; have HH := hid hq_; clear hq_))
        | ((with_reducible apply wpL_storeC (t := 25)); rfl; rfl; (exact kS25); (exact HH.out); (first | exact .here | exact .there .here | exact .there (.there .here) | exact .there (.there (.there .here)) | exact .there (.there (.there (.there .here))) | exact .there (.there (.there (.there (.there .here)))) | exact .there (.there (.there (.there (.there (.there .here))))) | exact .there (.there (.there (.there (.there (.there (.there .here))))))); (first | rfl | exact Arr.len _ | (simp; done)); (first | rfl | (intro u_ hu_; simp only [List.mem_cons, List.not_mem_nil, or_false] at hu_; rcases hu_ with rfl | hu_; rfl) | exact byt_cell1 _ | exact cells_one _ | exact wrd_one _ | exact flat_cell1 _); (first | rfl | exact Arr.len _ | (simp; done)); rfl; (intro w_ hq_; (try simp only [List.set_cons_zero, List.set_cons_succ] at hq_); clear HH; have HH := hid hq_; clear hq_))
        | ((with_reducible apply wpL_storeC (t := 115)); rfl; rfl; (exact kS115); (exact HH.out); (first | exact .here | exact .there .here | exact .there (.there .here) | exact .there (.there (.there .here)) | exact .there (.there (.there (.there .here))) | exact .there (.there (.there (.there (.there .here)))) | exact .there (.there (.there (.there (.there (.there .here))))) | exact .there (.there (.there (.there (.there (.there (.there .here))))))); (first | rfl | exact Arr.len _ | (simp; done)); (first | rfl | (intro u_ hu_; simp only [List.mem_cons, List.not_mem_nil, or_false] at hu_; rcases hu_ with rfl | hu_; rfl) | exact byt_cell1 _ | exact cells_one _ | exact wrd_one _ | exact flat_cell1 _); (first | rfl | exact Arr.len _ | (simp; done)); rfl; (intro w_ hq_; (try simp only [List.set_cons_zero, List.set_cons_succ] at hq_); clear HH; have HH := hid hq_; clear hq_))
        | ((with_reducible apply wpL_move); rfl; rfl)
        | ((with_reducible apply wpL_assign); rfl; rfl)
        | ((with_reducible apply wpL_pick); rfl; rfl; rfl)
        | ((with_reducible apply wpL_not); rfl; rfl)
        | ((with_reducible apply wpL_cmp (b := true)); rfl; rfl; rfl; (first | rfl | assumption | (simp only [cmpB, decide_eq_true_eq, decide_eq_false_iff_not, beq_iff_eq, bne_iff_ne, ne_eq, beq_eq_false_iff_ne, bne_eq_false_iff_eq, gt_iff_lt, ge_iff_le]; omega) | (simp; omega)); rfl)
        | ((with_reducible apply wpL_cmp (b := false)); rfl; rfl; rfl; (first | rfl | assumption | (simp only [cmpB, decide_eq_true_eq, decide_eq_false_iff_not, beq_iff_eq, bne_iff_ne, ne_eq, beq_eq_false_iff_ne, bne_eq_false_iff_eq, gt_iff_lt, ge_iff_le]; omega) | (simp; omega)); rfl)
        | ((with_reducible apply wpL_cmp); rfl; rfl; rfl; rfl; rfl)
        | ((with_reducible apply wpL_arith); rfl; rfl; rfl; (exact IntWalk.i64_in _ (by (try simp only [arithI]); omega)); rfl)); (try simp only [arithI, Act.put, Act.eval, List.setIfInBounds_toArray, List.set_cons_succ, List.set_cons_zero, Array.getD_eq_getD_getElem?, List.getElem?_toArray, List.getElem?_cons_succ, List.getElem?_cons_zero, Option.getD_some])))
  refine bodyPost_ret (res1 rfl (resC kA25 HH.out (by rfl) .here (Arr.len _))) rfl ?_
  exact ⟨rfl, HH.out.below⟩
set_option maxRecDepth 100000 in
set_option maxHeartbeats 2000000 in
theorem law_nil (w : World) (v : Value) (l : List UInt8) (hl : Byts w v l) : Calls Try.prog 10 #[v] w (RetB w true) := by
  obtain ⟨ao, cap, rfl, hc⟩ := hl.shape
  have HL := hid hl
  clear hl
  have HH := hid (Holds.init w)
  go_enter Try.func10, Try.ntmps10
  go_wp2_with (first
    | ((first
        | ((with_reducible apply wpL_skip); rfl; skip)
        | (go_at_call 21; (first | ((have hcall_ := hid (known_any _)); (with_reducible refine hcall_.out.mono ?_); clear hcall_) | (with_reducible refine (known_any _).mono ?_)); rintro e_ w2_ ⟨rfl, hb_⟩; (have hq_ := HH.out.grow hb_); clear HH; have HH := hid hq_; clear hq_ hb_)
        | (go_at_call 19; (first | ((have hcall_ := hid (cut_any _ _ _ l HL.out)); (with_reducible refine hcall_.out.mono ?_); clear hcall_) | (with_reducible refine (cut_any _ _ _ l HL.out).mono ?_)); rintro e_ w2_ ⟨ao1, cap1, rfl, hc1_, hb_⟩; (have hq_ := HH.out.grow hb_); clear HH; have HH := hid hq_; clear hq_)
        | (go_at_call 34; (first | ((have hcall_ := hid (writeNil_any _ _)); (with_reducible refine hcall_.out.mono ?_); clear hcall_) | (with_reducible refine (writeNil_any _ _).mono ?_)); rintro e_ w2_ ⟨rfl, hb_⟩; (have hq_ := HH.out.grow hb_); clear HH; have HH := hid hq_; clear hq_ hb_)
        | (go_at_call 33; (first | ((have hcall_ := hid (sumNil_any _)); (with_reducible refine hcall_.out.mono ?_); clear hcall_) | (with_reducible refine (sumNil_any _).mono ?_)); rintro e_ w2_ ⟨rfl, hb_⟩; (have hq_ := HH.out.grow hb_); clear HH; have HH := hid hq_; clear hq_ hb_)
        | (go_at_call 39; (first | ((have hcall_ := hid (lenNil_any _)); (with_reducible refine hcall_.out.mono ?_); clear hcall_) | (with_reducible refine (lenNil_any _).mono ?_)); rintro e_ w2_ ⟨rfl, hb_⟩; (have hq_ := HH.out.grow hb_); clear HH; have HH := hid hq_; clear hq_ hb_)
        | (go_at_call 40; (first | ((have hcall_ := hid (cloneNil_any _)); (with_reducible refine hcall_.out.mono ?_); clear hcall_) | (with_reducible refine (cloneNil_any _).mono ?_)); rintro e_ w2_ ⟨rfl, hb_⟩; (have hq_ := HH.out.grow hb_); clear HH; have HH := hid hq_; clear hq_ hb_)
        | ((with_reducible apply wpList_build (parts := #[]) (v := (Arr.zero 32).val)); (exact BZ25); rfl)
        | ((with_reducible apply wpL_eqlA (b := true) (p := Arr.zero 32) (q := Arr.zero 32) kR25); rfl; rfl; (exact arrRefl _); rfl)
        | ((with_reducible apply wpL_nilCheck); rfl; rfl)
        | ((with_reducible apply wpL_move); rfl; rfl)
        | ((with_reducible apply wpL_assign); rfl; rfl)
        | ((with_reducible apply wpL_pick); rfl; rfl; rfl)
        | ((with_reducible apply wpL_not); rfl; rfl)
        | ((with_reducible apply wpL_cmp (b := true)); rfl; rfl; rfl; (first | rfl | assumption | (simp only [cmpB, decide_eq_true_eq, decide_eq_false_iff_not, beq_iff_eq, bne_iff_ne, ne_eq, beq_eq_false_iff_ne, bne_eq_false_iff_eq, gt_iff_lt, ge_iff_le]; omega) | (simp; omega)); rfl)
        | ((with_reducible apply wpL_cmp (b := false)); rfl; rfl; rfl; (first | rfl | assumption | (simp only [cmpB, decide_eq_true_eq, decide_eq_false_iff_not, beq_iff_eq, bne_iff_ne, ne_eq, beq_eq_false_iff_ne, bne_eq_false_iff_eq, gt_iff_lt, ge_iff_le]; omega) | (simp; omega)); rfl)
        | ((with_reducible apply wpL_cmp); rfl; rfl; rfl; rfl; rfl)
        | ((with_reducible apply wpL_arith); rfl; rfl; rfl; (exact IntWalk.i64_in _ (by (try simp only [arithI]); omega)); rfl)); (try simp only [arithI, Act.put, Act.eval, List.setIfInBounds_toArray, List.set_cons_succ, List.set_cons_zero, Array.getD_eq_getD_getElem?, List.getElem?_toArray, List.getElem?_cons_succ, List.getElem?_cons_zero, Option.getD_some])))
  go_ret
  exact RetB.mk rfl HH.out.below
set_option maxRecDepth 100000 in
set_option maxHeartbeats 2000000 in
theorem law_clone (w : World) (va vb vc : Value) (a b c : List UInt8) (ha : Byts w va a) (hb : Byts w vb b) (hc : Byts w vc c) : Calls Try.prog 9 #[va, vb, vc] w (RetB w true) := by
  obtain ⟨aa, ca, rfl, _⟩ := ha.shape
  obtain ⟨ab, cb, rfl, _⟩ := hb.shape
  obtain ⟨ac, cc, rfl, _⟩ := hc.shape
  have LA := cutB_len a
  have LB := cutB_len b
  have LC := cutB_len c
  have HA := hid ha
  have HB := hid hb
  have HC := hid hc
  clear ha hb hc
  have HH := hid (Holds.init w)
  obtain ⟨x, hx⟩ : ∃ x, cutB a = x := ⟨_, rfl⟩
  obtain ⟨y, hy⟩ : ∃ x, cutB b = x := ⟨_, rfl⟩
  obtain ⟨z, hz⟩ : ∃ x, cutB c = x := ⟨_, rfl⟩
  have HX := hid hx
  have HY := hid hy
  have HZ := hid hz
  rw [hx] at LA
  rw [hy] at LB
  rw [hz] at LC
  clear hx hy hz
  have N0 := hid (show ([] : List UInt8) ++ x = x from rfl)
  obtain ⟨xy, hxy⟩ : ∃ l, x ++ y = l := ⟨_, rfl⟩
  obtain ⟨xz, hxz⟩ : ∃ l, x ++ z = l := ⟨_, rfl⟩
  have LXY : xy.length ≤ 1000 := by rw [← hxy, List.length_append]; omega
  have LXZ : xz.length ≤ 1000 := by rw [← hxz, List.length_append]; omega
  have EXZ := hid (show (xz.length : Int) = (x.length : Int) + (z.length : Int) from by rw [← hxz, List.length_append]; omega)
  have HXY := hid hxy
  have HXZ := hid hxz
  clear hxy hxz
  go_enter Try.func9, Try.ntmps9
  go_wp2_with (first
    | ((first
        | ((with_reducible apply wpL_skip); rfl; skip)
        | (go_at_call 19; (with_reducible refine (cut_any _ _ _ a HA.out).mono ?_); rw [HX.out]; rintro e_ w2_ ⟨ao1, cap1, rfl, hc1_, hb_⟩; (have hq_ := HH.out.grow hb_); clear HH; have HH := hid hq_; have XA := hid hc1_; clear hq_ hb_ hc1_)
        | (go_at_call 19; (with_reducible refine (cut_any _ _ _ b HB.out).mono ?_); rw [HY.out]; rintro e_ w2_ ⟨ao2, cap2, rfl, hc1_, hb_⟩; (have hq_ := HH.out.grow hb_); clear HH; have HH := hid hq_; have XB := hid hc1_; clear hq_ hb_ hc1_)
        | (go_at_call 19; (with_reducible refine (cut_any _ _ _ c HC.out).mono ?_); rw [HZ.out]; rintro e_ w2_ ⟨ao3, cap3, rfl, hc1_, hb_⟩; (have hq_ := HH.out.grow hb_); clear HH; have HH := hid hq_; have XC := hid hc1_; clear hq_ hb_ hc1_)
        | (go_at_call 32; (have hcall_ := hid (hNew w _ _ _ _ HH.out)); (with_reducible refine hcall_.out.mono ?_); clear hcall_; rintro e_ w2_ ⟨g1, bs1, rfl, hq_, ha_, -⟩; clear HH; have HH := hid hq_; have H1 := hid ha_; clear hq_ ha_)
        | (go_at_call 34; (have hcall_ := hid (hWrite w _ _ _ _ g2 _ x z HH.out H2.out (HH.out.sl XC.out) (by omega))); (with_reducible refine hcall_.out.mono ?_); clear hcall_; rw [HXZ.out]; rintro e_ w2_ ⟨rfl, bs5, hq_, ha_, ho_⟩; (have h1_ := ho_ g1 _ NE.out H1.out); clear HH H1 H2; have HH := hid hq_; have H2 := hid ha_; have H1 := hid h1_; clear hq_ ha_ ho_ h1_)
        | (go_at_call 34; (have hcall_ := hid (hWrite w _ _ _ _ g1 _ x y HH.out H1.out (HH.out.sl XB.out) (by omega))); (with_reducible refine hcall_.out.mono ?_); clear hcall_; rw [HXY.out]; rintro e_ w2_ ⟨rfl, bs4, hq_, ha_, ho_⟩; (have h2_ := ho_ g2 _ (fun e => NE.out e.symm) H2.out); clear HH H1 H2; have HH := hid hq_; have H1 := hid ha_; have H2 := hid h2_; clear hq_ ha_ ho_ h2_)
        | (go_at_call 34; (have hcall_ := hid (hWrite w _ _ _ _ g1 _ [] x HH.out H1.out (HH.out.sl XA.out) (by simp; omega))); (with_reducible refine hcall_.out.mono ?_); clear hcall_; rw [N0.out]; rintro e_ w2_ ⟨rfl, bs2, hq_, ha_, -⟩; clear HH H1; have HH := hid hq_; have H1 := hid ha_; clear hq_ ha_)
        | (go_at_call 40; (have hcall_ := hid (hClone w _ _ _ _ g1 x HH.out H1.out)); (with_reducible refine hcall_.out.mono ?_); clear hcall_; rintro e_ w2_ ⟨g2, bs3, rfl, hq_, ha_, ho_⟩; (have h1_ := ho_ g1 _ H1.out); clear HH H1; have HH := hid hq_; have H2 := hid ha_; have H1 := hid h1_.1; have NE := hid h1_.2; clear hq_ ha_ ho_ h1_)
        | (go_at_call 21; (first | ((have hcall_ := hid (known_any _)); (with_reducible refine hcall_.out.mono ?_); clear hcall_) | (with_reducible refine (known_any _).mono ?_)); rintro e_ w2_ ⟨rfl, hb_⟩; (have hq_ := HH.out.grow hb_); clear HH; have HH := hid hq_; clear hq_ hb_)
        | (go_at_call 33; (first | ((have hcall_ := hid (hSum w _ _ _ _ g1 xy HH.out H1.out (by omega))); (with_reducible refine hcall_.out.mono ?_); clear hcall_) | (with_reducible refine (hSum w _ _ _ _ g1 xy HH.out H1.out (by omega)).mono ?_)); rintro e_ w2_ ⟨rfl, hb_⟩; (have hq_ := HH.out.grow hb_); clear HH; have HH := hid hq_; clear hq_ hb_)
        | (go_at_call 33; (first | ((have hcall_ := hid (hSum w _ _ _ _ g2 xz HH.out H2.out (by omega))); (with_reducible refine hcall_.out.mono ?_); clear hcall_) | (with_reducible refine (hSum w _ _ _ _ g2 xz HH.out H2.out (by omega)).mono ?_)); rintro e_ w2_ ⟨rfl, hb_⟩; (have hq_ := HH.out.grow hb_); clear HH; have HH := hid hq_; clear hq_ hb_)
        | ((with_reducible apply wpL_buildB []); rfl; rfl; (exact (by omega)); (exact HH.out); rfl; (intro g_ w_ hq_; clear HH; have HH := hid hq_; clear hq_))
        | ((with_reducible apply wpL_appendB (l := []) (l2 := x) HH.out (HH.out.sl XA.out)); rfl; rfl; (exact (by simp; omega)); rfl; rfl; rfl; (rw [N0.out]; intro ao5 cap5 w_ hq_; clear HH; have HH := hid hq_; clear hq_))
        | ((with_reducible apply wpL_appendB (dst := some 39) (l := x) (l2 := y) HH.out (HH.out.sl XB.out)); rfl; rfl; (exact (by omega)); rfl; rfl; rfl; (rw [HXY.out]; intro ao6 cap6 w_ hq_; clear HH; have HH := hid hq_; clear hq_))
        | ((with_reducible apply wpL_appendB (dst := some 50) (l := x) (l2 := z) HH.out (HH.out.sl XC.out)); rfl; rfl; (exact (by omega)); rfl; rfl; rfl; (rw [HXZ.out]; intro ao7 cap7 w_ hq_; clear HH; have HH := hid hq_; clear hq_))
        | (go_at_call 22; (first | ((have hcall_ := hid (sumR_any _ _ xz HH.out.sl0 (by omega))); (with_reducible refine hcall_.out.mono ?_); clear hcall_) | (with_reducible refine (sumR_any _ _ xz HH.out.sl0 (by omega)).mono ?_)); rintro e_ w2_ ⟨rfl, hb_⟩; (have hq_ := HH.out.grow hb_); clear HH; have HH := hid hq_; clear hq_ hb_)
        | (go_at_call 22; (first | ((have hcall_ := hid (sumR_any _ _ xy HH.out.sl0 (by omega))); (with_reducible refine hcall_.out.mono ?_); clear hcall_) | (with_reducible refine (sumR_any _ _ xy HH.out.sl0 (by omega)).mono ?_)); rintro e_ w2_ ⟨rfl, hb_⟩; (have hq_ := HH.out.grow hb_); clear HH; have HH := hid hq_; clear hq_ hb_)
        | ((with_reducible apply wpL_eqlA (b := true) (p := sumB xy) (q := sumB xy) kR24); rfl; rfl; (exact arrRefl _); rfl)
        | ((with_reducible apply wpL_eqlA (b := true) (p := sumB xz) (q := sumB xz) kR24); rfl; rfl; (exact arrRefl _); rfl)
        | (go_at_call 39; (have hcall_ := hid (hLen w _ _ _ _ g2 xz HH.out H2.out)); (with_reducible refine hcall_.out.mono ?_); clear hcall_; rw [EXZ.out]; rintro e_ w2_ ⟨rfl, hb_⟩; (have hq_ := HH.out.grow hb_); clear HH; have HH := hid hq_; clear hq_ hb_)
        | ((with_reducible apply wpL_nilCheck); rfl; rfl)
        | ((with_reducible apply wpL_len (t := 22) Try.underlying22); rfl; rfl)
        | ((with_reducible apply wpL_move); rfl; rfl)
        | ((with_reducible apply wpL_assign); rfl; rfl)
        | ((with_reducible apply wpL_pick); rfl; rfl; rfl)
        | ((with_reducible apply wpL_not); rfl; rfl)
        | ((with_reducible apply wpL_cmp (b := true)); rfl; rfl; rfl; (first | rfl | assumption | (simp only [cmpB, decide_eq_true_eq, decide_eq_false_iff_not, beq_iff_eq, bne_iff_ne, ne_eq, beq_eq_false_iff_ne, bne_eq_false_iff_eq, gt_iff_lt, ge_iff_le]; omega) | (simp; omega)); rfl)
        | ((with_reducible apply wpL_cmp (b := false)); rfl; rfl; rfl; (first | rfl | assumption | (simp only [cmpB, decide_eq_true_eq, decide_eq_false_iff_not, beq_iff_eq, bne_iff_ne, ne_eq, beq_eq_false_iff_ne, bne_eq_false_iff_eq, gt_iff_lt, ge_iff_le]; omega) | (simp; omega)); rfl)
        | ((with_reducible apply wpL_cmp); rfl; rfl; rfl; rfl; rfl)
        | ((with_reducible apply wpL_arith); rfl; rfl; rfl; (exact IntWalk.i64_in _ (by (try simp only [arithI]); omega)); rfl)); (try simp only [arithI, Act.put, Act.eval, List.setIfInBounds_toArray, List.set_cons_succ, List.set_cons_zero, Array.getD_eq_getD_getElem?, List.getElem?_toArray, List.getElem?_cons_succ, List.getElem?_cons_zero, Option.getD_some])))
  go_ret
  exact RetB.mk rfl HH.out.below
end Go.Proofs.Ytgkfopodhikckaa
