/- New, Write, Len, Clone of sha256's Hash. Condition: at most a million bytes. -/
import Derived.Test.YtgkfopodhikckaaS8
set_option linter.unusedSimpArgs false
set_option linter.unusedVariables false
namespace Go.Proofs.Ytgkfopodhikckaa
open Go.RowKit
theorem Holds.hashBy {w0 w w' : World} {S : List Nat} {bs : List (Nat × Obj)} {rows : List Row} {g n : Nat} {o : Obj} {s : St} {r : List UInt8} (h : Holds w0 S bs rows w) (ho : Own bs g o) (hT : ∀ o', ∃ bs', Turn bs g o o' bs') (hH : HashOut w g s r n w') :
    ∃ rv ex bs', Turn bs g o (objC (hcells s rv n) 118) bs' ∧ RestEx ex rv r ∧ (∀ p ∈ ex, w.heap.size ≤ p.1) ∧ (ex.map (·.1)).Nodup ∧ Holds w0 S (bs' ++ ex) rows w' := by
  obtain ⟨rv, ex, hre, hex, hnd, ht⟩ := hH
  obtain ⟨bs', hturn⟩ := hT (objC (hcells s rv n) 118)
  refine ⟨rv, ex, bs', hturn, hre, fun p hp => (hex p hp).1, hnd, ?_⟩
  refine Holds.addBlks (h.turnedBy hturn ht) ht.size ?_ (fun q hq k hk => (h.rowlt hq k hk).2) h.size hex hnd
  obtain ⟨pre, post, rfl, rfl⟩ := hturn.split
  intro p hp
  have : ∃ q ∈ pre ++ (g, o) :: post, q.1 = p.1 := by
    rcases List.mem_append.1 hp with a | a
    · exact ⟨p, List.mem_append.2 (.inl a), rfl⟩
    · rcases List.mem_cons.1 a with rfl | a
      · exact ⟨(g, o), by simp, rfl⟩
      · exact ⟨p, List.mem_append.2 (.inr (List.mem_cons_of_mem _ a)), rfl⟩
  obtain ⟨q, hq, e⟩ := this
  rw [← e]
  exact h.lt hq
theorem Holds.oldCell {w w' : World} {bs : List (Nat × Obj)} {rows : List Row} (h : Holds w [] bs rows w') {g j : Nat} {cs : List Value} {e : TypeId} {v : Value} (hg : w.heap[g]? = some (objC cs e)) (hv : cs[j]? = some v) : w'.cell? ⟨g, j, none⟩ = some v := by
  have hlt := (Array.getElem?_eq_some_iff.1 hg).1
  simp [World.cell?, h.old g hlt (by simp), hg, objC, hv]
theorem wpL_loadAt {w : World} {ops : Array Oper} {rest : List Oper} {a : Act} {dst : Option Tmp} {ty : TypeId} {pos : String} {after : Array Edge} {guard : Option (Nat × Bool)} {Q : Exit → Act → World → Prop} {P : Program} {t : TypeId} (hA : OneT P t) {x : Operand} {ad : Addr} {v : Value} (hc : w.cell? ad = some v) (hx : a.eval x = .pointer (some ad))
    (hg : Region.wanted { dst := dst, op := .load t x, type := ty, pos := pos, after := after, guard := guard } (yielded ops a.tmps) = true)
    (h : wpList P ops Q rest (a.put dst v) w) : wpList P ops Q ({ dst := dst, op := .load t x, type := ty, pos := pos, after := after, guard := guard } :: rest) a w := by
  obtain ⟨d, hu, hd⟩ := hA
  exact wpList_ex hg (ex_load_one (ρ := a.eval) hx hu hd hc) h
def zh : List Value := (List.replicate 8 (0 : W32)).map wrd ++ [.slice none 0 0, .int .i64 0, .bool false]
theorem Z118 : (Try.prog.info? 118).map (·.zero) = some (some (.agg zh.toArray)) := by kernel_rfl
theorem A118 : AggT Try.prog 118 11 := ⟨_, Try.underlying118, rfl, by kernel_rfl⟩
theorem S118 : (Try.prog.info? 118).map (·.size) = some 11 := by kernel_rfl
theorem hcells_one {s : St} {ao : Option Addr} {k c n : Nat} : ∀ u ∈ hcells s (.slice ao k c) n, u.oneCell' = true := by
  intro u hu
  simp only [hcells, List.mem_append, List.mem_cons, List.not_mem_nil, or_false] at hu
  rcases hu with hu | rfl | rfl | rfl
  · exact wrd_one _ u hu
  · rfl
  · rfl
  · rfl
/-- A new Hash. -/
def NewOut (w : World) (s : St) (r : List UInt8) (n : Nat) (e : Ending) (w' : World) : Prop :=
  ∃ g rv ex, e = .returned (.pointer (some ⟨g, 0, none⟩)) ∧ RestEx ex rv r ∧ (∀ p ∈ (g, objC (hcells s rv n) 118) :: ex, w.heap.size ≤ p.1 ∧ w'.heap[p.1]? = some p.2) ∧ (((g, objC (hcells s rv n) 118) :: ex).map (·.1)).Nodup ∧ Below w.heap.size w w'
theorem Holds.newBy {w0 w w' : World} {S : List Nat} {bs ex : List (Nat × Obj)} {rows : List Row} (h : Holds w0 S bs rows w) (hex : ∀ p ∈ ex, w.heap.size ≤ p.1 ∧ w'.heap[p.1]? = some p.2) (hnd : (ex.map (·.1)).Nodup) (hb : Below w.heap.size w w') : Holds w0 S (bs ++ ex) rows w' :=
  Holds.addBlks (h.grow hb) hb.size (fun p hp => h.lt hp) (fun q hq k hk => (h.rowlt hq k hk).2) h.size hex hnd
set_option maxRecDepth 100000 in
set_option maxHeartbeats 2000000 in
theorem new_any (w : World) : Calls Try.prog 32 #[] w (NewOut w initS [] 0) := by
  have HH := hid (Holds.init w)
  go_enter Try.func32, Try.ntmps32
  go_wp2_with (first
    | ((first
        | ((with_reducible apply wpL_skip); rfl; skip)
        | (go_at_call 63; refine (initial_any _).mono ?_; rintro e w2 ⟨rfl, hb⟩; (have hq_ := HH.out.grow hb); clear HH; have HH := hid hq_; clear hq_ hb)
        | ((with_reducible apply wpList_build (v := .agg (hcells initS (.slice none 0 0) 0).toArray)); (exact build118 initS); rfl)
        | ((with_reducible apply wpL_boxC (cs := hcells initS (.slice none 0 0) 0)); rfl; (exact HH.out); rfl; (intro g_ w_ hq_; clear HH; have HH := hid hq_; clear hq_))
        | ((with_reducible apply wpL_move); rfl; rfl)
        | ((with_reducible apply wpL_assign); rfl; rfl)
        | ((with_reducible apply wpL_pick); rfl; rfl; rfl)
        | ((with_reducible apply wpL_not); rfl; rfl)
        | ((with_reducible apply wpL_cmp (b := true)); rfl; rfl; rfl; (first | rfl | assumption | (simp only [cmpB, decide_eq_true_eq, decide_eq_false_iff_not, beq_iff_eq, bne_iff_ne, ne_eq, beq_eq_false_iff_ne, bne_eq_false_iff_eq, gt_iff_lt, ge_iff_le]; omega) | (simp; omega)); rfl)
        | ((with_reducible apply wpL_cmp (b := false)); rfl; rfl; rfl; (first | rfl | assumption | (simp only [cmpB, decide_eq_true_eq, decide_eq_false_iff_not, beq_iff_eq, bne_iff_ne, ne_eq, beq_eq_false_iff_ne, bne_eq_false_iff_eq, gt_iff_lt, ge_iff_le]; omega) | (simp; omega)); rfl)
        | ((with_reducible apply wpL_cmp); rfl; rfl; rfl; rfl; rfl)
        | ((with_reducible apply wpL_arith); rfl; rfl; rfl; (exact IntWalk.i64_in _ (by (try simp only [arithI]); omega)); rfl)); (try simp only [arithI, Act.put, Act.eval, List.setIfInBounds_toArray, List.set_cons_succ, List.set_cons_zero, Array.getD_eq_getD_getElem?, List.getElem?_toArray, List.getElem?_cons_succ, List.getElem?_cons_zero, Option.getD_some])))
  go_ret
  refine ⟨g_, .slice none 0 0, [], rfl, RestEx.nil _, ?_, by simp, HH.out.below⟩
  intro p hp
  rw [List.mem_singleton.1 hp]
  exact ⟨(HH.out.frs _ List.mem_cons_self).resolve_right (by simp), HH.out.blk _ List.mem_cons_self⟩
set_option maxRecDepth 100000 in
set_option maxHeartbeats 2000000 in
theorem len_any (w : World) (g : Nat) (s : St) (rv : Value) (n : Nat) (hg : w.heap[g]? = some (objC (hcells s rv n) 118)) :
    Calls Try.prog 39 #[.pointer (some ⟨g, 0, none⟩)] w (fun e w' => e = .returned (.int .i64 n) ∧ Below w.heap.size w w') := by
  have HH := hid (Holds.initS hg)
  clear hg
  go_enter Try.func39, Try.ntmps39
  go_wp2_with (first
    | ((first
        | ((with_reducible apply wpL_skip); rfl; skip)
        | ((with_reducible apply wpL_nilCheck); rfl; rfl)
        | ((with_reducible apply wpL_fieldAddr (t := 118)); (first | exact F118_0 | exact F118_1 | exact F118_2 | exact F118_3); rfl; rfl)
        | ((with_reducible apply wpL_load1 O3 HH.out); rfl; (exact .here); rfl; rfl)
        | ((with_reducible apply wpL_move); rfl; rfl)
        | ((with_reducible apply wpL_assign); rfl; rfl)
        | ((with_reducible apply wpL_pick); rfl; rfl; rfl)
        | ((with_reducible apply wpL_not); rfl; rfl)
        | ((with_reducible apply wpL_cmp (b := true)); rfl; rfl; rfl; (first | rfl | assumption | (simp only [cmpB, decide_eq_true_eq, decide_eq_false_iff_not, beq_iff_eq, bne_iff_ne, ne_eq, beq_eq_false_iff_ne, bne_eq_false_iff_eq, gt_iff_lt, ge_iff_le]; omega) | (simp; omega)); rfl)
        | ((with_reducible apply wpL_cmp (b := false)); rfl; rfl; rfl; (first | rfl | assumption | (simp only [cmpB, decide_eq_true_eq, decide_eq_false_iff_not, beq_iff_eq, bne_iff_ne, ne_eq, beq_eq_false_iff_ne, bne_eq_false_iff_eq, gt_iff_lt, ge_iff_le]; omega) | (simp; omega)); rfl)
        | ((with_reducible apply wpL_cmp); rfl; rfl; rfl; rfl; rfl)
        | ((with_reducible apply wpL_arith); rfl; rfl; rfl; (exact IntWalk.i64_in _ (by (try simp only [arithI]); omega)); rfl)); (try simp only [arithI, Act.put, Act.eval, List.setIfInBounds_toArray, List.set_cons_succ, List.set_cons_zero, Array.getD_eq_getD_getElem?, List.getElem?_toArray, List.getElem?_cons_succ, List.getElem?_cons_zero, Option.getD_some])))
  go_ret
  exact ⟨rfl, Below.refl _ _⟩
set_option maxRecDepth 100000 in
set_option maxHeartbeats 2000000 in
theorem write_any (w : World) (g : Nat) (s : St) (rv vb : Value) (r b : List UInt8) (n : Nat) (hg : w.heap[g]? = some (objC (hcells s rv n) 118)) (hr : Byts w rv r) (hb : Byts w vb b) (hn : r.length + b.length ≤ 1000000) (hn2 : n ≤ 1000000000) :
    Calls Try.prog 34 #[.pointer (some ⟨g, 0, none⟩), vb] w (fun e w' => e = .returned (.int .i64 0) ∧ HashOut w g (absorb s (r ++ b)).1 (absorb s (r ++ b)).2 (n + b.length) w') := by
  obtain ⟨ab, cb, rfl, _⟩ := hb.shape
  have HH := hid (Holds.initS hg)
  have HG := hid hg
  have HR := hid hr
  have HB := hid hb
  clear hg hr hb
  go_enter Try.func34, Try.ntmps34
  go_wp2_with (first
    | ((first
        | ((with_reducible apply wpL_skip); rfl; skip)
        | (go_at_call 64; refine (take_any _ g s rv _ r b n HG.out HR.out HB.out hn).mono ?_; rintro e w2 ⟨rfl, hb⟩; (obtain ⟨rv2, ex, bs2, hturn, hre, hexb, hexn, hq_⟩ := HH.out.hashBy .here (fun o' => ⟨_, .here⟩) hb); (rcases hturn with _ | ⟨⟨⟩⟩); (have hq2_ : Holds w [g] ((g, objC (hcells (absorb s (r ++ b)).1 rv2 n) 118) :: ex) [] w2 := hq_); clear HH hq_ hb; have HH := hid hq2_; clear hq2_; have HE := hid hre; have HXB := hid hexb; have HXN := hid hexn; clear hre hexb hexn)
        | ((with_reducible apply wpL_nilCheck); rfl; rfl)
        | ((with_reducible apply wpL_fieldAddr (t := 118)); (first | exact F118_0 | exact F118_1 | exact F118_2 | exact F118_3); rfl; rfl)
        | ((with_reducible apply wpL_load1 (v := .int .i64 n) O3 HH.out); rfl; (exact .here); rfl; rfl)
        | ((with_reducible apply wpL_store1 (v := .int .i64 ((n + b.length : Nat) : Int)) (cs := hcells (absorb s (r ++ b)).1 rv2 n)); rfl; rfl; rfl; (exact S3); (exact HH.out); (exact .here); rfl; (exact (by simp [hcells, St.ws])); rfl; (intro w_ hq_; (have hq2_ : Holds w [g] ((g, objC (hcells (absorb s (r ++ b)).1 rv2 (n + b.length)) 118) :: ex) [] w_ := hq_); clear HH hq_; have HH := hid hq2_; clear hq2_))
        | ((with_reducible apply wpL_move); rfl; rfl)
        | ((with_reducible apply wpL_assign); rfl; rfl)
        | ((with_reducible apply wpL_pick); rfl; rfl; rfl)
        | ((with_reducible apply wpL_not); rfl; rfl)
        | ((with_reducible apply wpL_cmp (b := true)); rfl; rfl; rfl; (first | rfl | assumption | (simp only [cmpB, decide_eq_true_eq, decide_eq_false_iff_not, beq_iff_eq, bne_iff_ne, ne_eq, beq_eq_false_iff_ne, bne_eq_false_iff_eq, gt_iff_lt, ge_iff_le]; omega) | (simp; omega)); rfl)
        | ((with_reducible apply wpL_cmp (b := false)); rfl; rfl; rfl; (first | rfl | assumption | (simp only [cmpB, decide_eq_true_eq, decide_eq_false_iff_not, beq_iff_eq, bne_iff_ne, ne_eq, beq_eq_false_iff_ne, bne_eq_false_iff_eq, gt_iff_lt, ge_iff_le]; omega) | (simp; omega)); rfl)
        | ((with_reducible apply wpL_cmp); rfl; rfl; rfl; rfl; rfl)
        | ((with_reducible apply wpL_arith); rfl; rfl; rfl; (exact IntWalk.i64_in _ (by (try simp only [arithI]); omega)); rfl)); (try simp only [arithI, Act.put, Act.eval, List.setIfInBounds_toArray, List.set_cons_succ, List.set_cons_zero, Array.getD_eq_getD_getElem?, List.getElem?_toArray, List.getElem?_cons_succ, List.getElem?_cons_zero, Option.getD_some])))
  go_ret
  exact ⟨rfl, rv2, ex, HE.out, fun p hp => ⟨HXB.out p hp, HH.out.blk p (List.mem_cons_of_mem _ hp)⟩, HXN.out, HH.out.turned .here⟩
set_option maxRecDepth 100000 in
set_option maxHeartbeats 2000000 in
theorem clone_any (w : World) (g : Nat) (s : St) (rv : Value) (r : List UInt8) (n : Nat) (hg : w.heap[g]? = some (objC (hcells s rv n) 118)) (hr : Byts w rv r) (hn : r.length ≤ 1000000) :
    Calls Try.prog 40 #[.pointer (some ⟨g, 0, none⟩)] w (NewOut w s r n) := by
  obtain ⟨ar, cr, rfl, _⟩ := hr.shape
  have HH := hid (Holds.init w)
  have HG := hid hg
  have HR := hid hr
  clear hg hr
  go_enter Try.func40, Try.ntmps40
  go_wp2_with (first
    | ((first
        | ((with_reducible apply wpL_skip); rfl; skip)
        | ((with_reducible apply wpL_nilCheck); rfl; rfl)
        | ((with_reducible apply wpList_load_agg (t := 118) (x := .tmp 7) A118 (cs := hcells s (.slice ar r.length cr) n) rfl (show ∀ j u, (hcells s (.slice ar r.length cr) n)[j]? = some u → w.cell? ((⟨g, 0, none⟩ : Addr).add j) = some u from fun j u hu => by rw [show (⟨g, 0, none⟩ : Addr).add j = ⟨g, j, none⟩ by unfold Addr.add; split <;> simp_all]; simp [World.cell?, HG.out, objC, hu])); rfl; rfl)
        | ((with_reducible apply wpL_allocC Z118 HH.out); rfl; (intro g2 w_ hq_; clear HH; have HH := hid hq_; clear hq_))
        | ((with_reducible apply wpL_storeC (vs := hcells s (.slice ar r.length cr) n) (x := .tmp 3) (sz := 11)); rfl; rfl; (exact S118); (exact HH.out); (exact .here); rfl; (exact hcells_one); rfl; rfl; (intro w_ hq_; clear HH; have HH := hid hq_; clear hq_))
        | ((with_reducible apply wpL_buildB []); rfl; rfl; (exact (by omega)); (exact HH.out); rfl; (intro g_ w_ hq_; clear HH; have HH := hid hq_; clear hq_))
        | ((with_reducible apply wpL_fieldAddr (t := 118)); (first | exact F118_0 | exact F118_1 | exact F118_2 | exact F118_3); rfl; rfl)
        | ((with_reducible apply wpL_loadAt O22 (HH.out.oldCell HG.out (j := 8) (v := .slice ar r.length cr) rfl)); rfl; rfl)
        | ((with_reducible apply wpL_appendB (l := []) (l2 := r) HH.out (HH.out.sl HR.out)); rfl; rfl; (exact (by simp; omega)); rfl; rfl; rfl; (intro ao1 cap1 w_ hq_; clear HH; have HH := hid hq_; clear hq_))
        | ((with_reducible apply wpL_store1 (v := .slice ao1 r.length cap1) (cs := hcells s (.slice ar r.length cr) n)); rfl; rfl; rfl; (exact S22); (exact HH.out); (exact .here); rfl; (exact (by simp [hcells, St.ws])); rfl; (intro w_ hq_; (have hq2_ : Holds w [] [(g2, objC (hcells s (.slice ao1 r.length cap1) n) 118)] [rowB ao1 cap1 r] w_ := hq_); clear HH hq_; have HH := hid hq2_; clear hq2_))
        | ((with_reducible apply wpL_move); rfl; rfl)
        | ((with_reducible apply wpL_assign); rfl; rfl)
        | ((with_reducible apply wpL_pick); rfl; rfl; rfl)
        | ((with_reducible apply wpL_not); rfl; rfl)
        | ((with_reducible apply wpL_cmp (b := true)); rfl; rfl; rfl; (first | rfl | assumption | (simp only [cmpB, decide_eq_true_eq, decide_eq_false_iff_not, beq_iff_eq, bne_iff_ne, ne_eq, beq_eq_false_iff_ne, bne_eq_false_iff_eq, gt_iff_lt, ge_iff_le]; omega) | (simp; omega)); rfl)
        | ((with_reducible apply wpL_cmp (b := false)); rfl; rfl; rfl; (first | rfl | assumption | (simp only [cmpB, decide_eq_true_eq, decide_eq_false_iff_not, beq_iff_eq, bne_iff_ne, ne_eq, beq_eq_false_iff_ne, bne_eq_false_iff_eq, gt_iff_lt, ge_iff_le]; omega) | (simp; omega)); rfl)
        | ((with_reducible apply wpL_cmp); rfl; rfl; rfl; rfl; rfl)
        | ((with_reducible apply wpL_arith); rfl; rfl; rfl; (exact IntWalk.i64_in _ (by (try simp only [arithI]); omega)); rfl)); (try simp only [arithI, Act.put, Act.eval, List.setIfInBounds_toArray, List.set_cons_succ, List.set_cons_zero, Array.getD_eq_getD_getElem?, List.getElem?_toArray, List.getElem?_cons_succ, List.getElem?_cons_zero, Option.getD_some])))
  go_ret
  obtain ⟨ex, hre, hexb, hexn, hh⟩ := HH.out.rowEx
  have hnd := (List.nodup_append.1 hh.sep).1
  refine ⟨g2, _, ex, rfl, hre, fun p hp => ⟨(hh.frs p hp).resolve_right (by simp), hh.blk p hp⟩, hnd, hh.below⟩
end Go.Proofs.Ytgkfopodhikckaa
