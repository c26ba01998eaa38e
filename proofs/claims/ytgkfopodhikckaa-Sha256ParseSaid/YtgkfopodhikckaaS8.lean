/- New, take of sha256's Hash. Condition: at most a million bytes. -/
import Derived.Test.YtgkfopodhikckaaP1
import Derived.Test.YtgkfopodhikckaaM
set_option linter.unusedSimpArgs false
set_option linter.unusedVariables false
namespace Go.Proofs.Ytgkfopodhikckaa
open Go.RowKit
/-- The cells of a Hash. -/
def hcells (s : St) (rv : Value) (n : Nat) : List Value := s.ws.map wrd ++ [rv, .int .i64 n, .bool true]
theorem F118 (f off : Nat) (h : (f = 0 ∧ off = 0) ∨ (f = 1 ∧ off = 8) ∨ (f = 2 ∧ off = 9) ∨ (f = 3 ∧ off = 10)) : FieldT Try.prog 118 f off := by
  rcases h with ⟨rfl, rfl⟩ | ⟨rfl, rfl⟩ | ⟨rfl, rfl⟩ | ⟨rfl, rfl⟩
  · exact ⟨_, _, 7, Try.underlying118, rfl, rfl, by kernel_rfl⟩
  · exact ⟨_, _, 0, Try.underlying118, rfl, rfl, by kernel_rfl⟩
  · exact ⟨_, _, 0, Try.underlying118, rfl, rfl, by kernel_rfl⟩
  · exact ⟨_, _, 0, Try.underlying118, rfl, rfl, by kernel_rfl⟩
theorem F118_0 : FieldT Try.prog 118 0 0 := F118 _ _ (by decide)
theorem F118_1 : FieldT Try.prog 118 1 8 := F118 _ _ (by decide)
theorem F118_2 : FieldT Try.prog 118 2 9 := F118 _ _ (by decide)
theorem F118_3 : FieldT Try.prog 118 3 10 := F118 _ _ (by decide)
theorem O22 : OneT Try.prog 22 := ⟨_, Try.underlying22, rfl⟩
theorem O3 : OneT Try.prog 3 := ⟨_, Try.underlying3, rfl⟩
theorem O4 : OneT Try.prog 4 := ⟨_, Try.underlying4, rfl⟩
theorem S22 : (Try.prog.info? 22).map (·.size) = some 1 := by kernel_rfl
theorem S3 : (Try.prog.info? 3).map (·.size) = some 1 := by kernel_rfl
theorem S4 : (Try.prog.info? 4).map (·.size) = some 1 := by kernel_rfl
theorem B80 : Body Try.prog 80 := ⟨_, _, Try.func80, rfl, rfl⟩
theorem B79 : Body Try.prog 79 := ⟨_, _, Try.func79, rfl, rfl⟩
theorem build118 (s : St) (w : World) : (Instr.build 118 #[(0, valW s.ws), (3, .bool true)]).run Try.prog w = .ok (.agg (hcells s (.slice none 0 0) 0).toArray) w := by kernel_rfl
section
variable {w w0 : World} {S : List Nat} {bs bs' : List (Nat × Obj)} {rows : List Row} {ops : Array Oper} {rest : List Oper} {a : Act} {dst : Option Tmp} {ty : TypeId} {pos : String} {after : Array Edge} {guard : Option (Nat × Bool)} {Q : Exit → Act → World → Prop} {P : Program} {C : World → Prop} {K : Act → Prop}
theorem ex_nilCheck {ρ : Operand → Value} {x : Operand} {ad : Addr} (hx : ρ x = .pointer (some ad)) (w : World) :
    (execOp ρ { dst := dst, op := .nilCheck x, type := ty, pos := pos, after := after, guard := guard }).run P w = .ok (.value (.pointer (some ad))) w := by
  simp only [execOp, hx, Sem.run_pure]
theorem wpQ_nilCheck {x : Operand} {ad : Addr} (hx : a.eval x = .pointer (some ad))
    (hg : Region.wanted { dst := dst, op := .nilCheck x, type := ty, pos := pos, after := after, guard := guard } (yielded ops a.tmps) = true)
    (h : wpQuiet P ops C K rest (a.put dst (.pointer (some ad)))) : wpQuiet P ops C K ({ dst := dst, op := .nilCheck x, type := ty, pos := pos, after := after, guard := guard } :: rest) a :=
  wpQuiet_ex hg (fun w _ => ex_nilCheck (ρ := a.eval) hx w) h
theorem wpL_nilCheck {x : Operand} {ad : Addr} (hx : a.eval x = .pointer (some ad))
    (hg : Region.wanted { dst := dst, op := .nilCheck x, type := ty, pos := pos, after := after, guard := guard } (yielded ops a.tmps) = true)
    (h : wpList P ops Q rest (a.put dst (.pointer (some ad))) w) : wpList P ops Q ({ dst := dst, op := .nilCheck x, type := ty, pos := pos, after := after, guard := guard } :: rest) a w :=
  wpList_ex hg (ex_nilCheck (ρ := a.eval) hx w) h
/-- x[64:] of a slice of bytes. -/
theorem wpL_sliceFromB {x lo : Operand} {ao : Option Addr} {n c j : Nat} {q : Int} (hx : a.eval x = .slice ao n c) (hi : a.eval lo = .int .i64 q) (hq : q = (j : Int)) (hj : j ≤ n)
    (hg : Region.wanted { dst := dst, op := .slice 22 x (some lo) none none, type := ty, pos := pos, after := after, guard := guard } (yielded ops a.tmps) = true)
    (h : wpList Try.prog ops Q rest (a.put dst (.slice (if c = j then ao else ao.map (·.add j)) (n - j) (c - j))) w) :
    wpList Try.prog ops Q ({ dst := dst, op := .slice 22 x (some lo) none none, type := ty, pos := pos, after := after, guard := guard } :: rest) a w := by
  refine wpList_ex hg (ex_slice_from (ρ := a.eval) E22 hx hi hq hj w) ?_
  rw [Nat.mul_one]; exact h
end
/-- v is a slice of the bytes l, which lie in the blocks ex. -/
def RestEx (ex : List (Nat × Obj)) (v : Value) (l : List UInt8) : Prop :=
  ∃ ao cap, v = .slice ao l.length cap ∧ l.length ≤ cap ∧ ∀ j u, (l.map byt)[j]? = some u → ∃ g cur off, ao = some ⟨g, off, none⟩ ∧ (g, Obj.cells cur 5) ∈ ex ∧ cur[off + j]? = some u
theorem RestEx.nil (ex : List (Nat × Obj)) : RestEx ex (.slice none 0 0) [] := ⟨none, 0, rfl, Nat.le_refl _, fun j u hu => by simp at hu⟩
theorem RestEx.byts {w0 w : World} {S : List Nat} {bs ex : List (Nat × Obj)} {rows : List Row} {v : Value} {l : List UInt8} (h : RestEx ex v l) (hH : Holds w0 S bs rows w) (ho : ∀ p ∈ ex, p ∈ bs) : Byts w v l := by
  obtain ⟨ao, cap, rfl, hc, hcell⟩ := h
  refine ⟨_, _, rfl, hc, by simp, fun j u hu => ?_⟩
  obtain ⟨g, cur, off, rfl, hm, hu'⟩ := hcell j u hu
  refine ⟨_, rfl, ?_⟩
  have hadd : (⟨g, off, none⟩ : Addr).add j = ⟨g, off + j, none⟩ := by unfold Addr.add; split <;> simp_all
  rw [hadd]
  simp [World.cell?, hH.blk _ (ho _ hm), hu']
theorem RestEx.drop {ex : List (Nat × Obj)} {ao : Option Addr} {n c : Nat} {l : List UInt8} (h : RestEx ex (.slice ao n c) l) {j : Nat} (hj : j ≤ n) : RestEx ex (.slice (if c = j then ao else ao.map (·.add j)) (n - j) (c - j)) (l.drop j) := by
  obtain ⟨ao', cap, e, hc, hcell⟩ := h
  simp only [Value.slice.injEq] at e
  obtain ⟨rfl, rfl, rfl⟩ := e
  refine ⟨_, c - j, by rw [List.length_drop], by simp; omega, fun i u hu => ?_⟩
  rw [List.map_drop, List.getElem?_drop] at hu
  have hlt : j + i < l.length := by have := (List.getElem?_eq_some_iff.1 hu).1; simpa using this
  obtain ⟨g, cur, off, rfl, hm, hu'⟩ := hcell _ _ hu
  refine ⟨g, cur, off + j, ?_, hm, by rwa [Nat.add_assoc]⟩
  have hadd : (⟨g, off, none⟩ : Addr).add j = ⟨g, off + j, none⟩ := by unfold Addr.add; split <;> simp_all
  rw [if_neg (by omega)]
  simp [hadd]
theorem RestEx.shape {ex : List (Nat × Obj)} {v : Value} {l : List UInt8} (h : RestEx ex v l) : ∃ ao cap, v = .slice ao l.length cap := by
  obtain ⟨ao, cap, e, _⟩ := h; exact ⟨ao, cap, e⟩
/-- New blocks ex join the call's own. -/
theorem Holds.addBlks {w0 w w' : World} {S : List Nat} {bs ex : List (Nat × Obj)} {rows : List Row} (h : Holds w0 S bs rows w') (hsz : w.heap.size ≤ w'.heap.size) (hlt : ∀ p ∈ bs, p.1 < w.heap.size) (hrl : ∀ r ∈ rows, ∀ k, r.v.ownBlock = some k → k < w.heap.size) (h0 : w0.heap.size ≤ w.heap.size)
    (hex : ∀ p ∈ ex, w.heap.size ≤ p.1 ∧ w'.heap[p.1]? = some p.2) (hnd : (ex.map (·.1)).Nodup) : Holds w0 S (bs ++ ex) rows w' := by
  refine ⟨h.os, h.tape, h.output, h.size, h.old, ?_, ?_, h.row, ?_, h.inS⟩
  · intro p hp
    rcases List.mem_append.1 hp with hp | hp
    · exact h.blk p hp
    · exact (hex p hp).2
  · intro p hp
    rcases List.mem_append.1 hp with hp | hp
    · exact h.frs p hp
    · exact .inl (Nat.le_trans h0 (hex p hp).1)
  · have hsep := h.sep
    rw [List.nodup_append] at hsep
    rw [List.map_append, List.append_assoc, List.nodup_append]
    refine ⟨hsep.1, List.nodup_append.2 ⟨hnd, hsep.2.1, ?_⟩, ?_⟩
    · intro a ha b hb e
      subst e
      obtain ⟨p, hp, rfl⟩ := List.mem_map.1 ha
      obtain ⟨r, hr, e⟩ := List.mem_filterMap.1 hb
      have h1 := hrl r hr _ e
      have h2 := (hex p hp).1
      omega
    · intro a ha b hb e
      subst e
      obtain ⟨q, hq, hqe⟩ := List.mem_map.1 ha
      have h1 := hlt q hq
      rcases List.mem_append.1 hb with hb | hb
      · obtain ⟨p, hp, hpe⟩ := List.mem_map.1 hb
        have h2 := (hex p hp).1
        omega
      · exact hsep.2.2 a ha a hb rfl
/-- An own row of bytes, taken as own blocks. -/
theorem Holds.rowEx {w0 w : World} {S : List Nat} {bs : List (Nat × Obj)} {rows : List Row} {ao : Option Addr} {cap : Nat} {l : List UInt8} (h : Holds w0 S bs (rowB ao cap l :: rows) w) :
    ∃ ex, RestEx ex (.slice ao l.length cap) l ∧ (∀ p ∈ ex, w0.heap.size ≤ p.1) ∧ (ex.map (·.1)).Nodup ∧ Holds w0 S (bs ++ ex) rows w := by
  have hown := h.own0
  rcases hown.2 with ⟨hv, hn0⟩ | ⟨g, cap', cur, hv, hb, hg, hn, hm, hs, htake⟩
  · have : l = [] := List.eq_nil_of_length_eq_zero hn0
    subst this
    refine ⟨[], ?_, by simp, by simp, by simpa using h.dropRow⟩
    simp only [List.length_nil] at hv ⊢
    rw [hv]
    exact RestEx.nil _
  · simp only [Value.slice.injEq, true_and] at hv
    obtain ⟨rfl, rfl⟩ := hv
    refine ⟨[(g, .cells cur 5)], ⟨_, cap, rfl, hn, fun j u hu => ?_⟩, by simpa using hb, by simp, ?_⟩
    · have h1 : j < l.length := by have := (List.getElem?_eq_some_iff.1 hu).1; simpa using this
      rw [← htake, List.getElem?_take, if_pos (by omega)] at hu
      exact ⟨g, cur, 0, rfl, by simp, by rw [Nat.zero_add]; simpa using hu⟩
    · have hd := h.dropRow
      have hsep := h.sep
      simp only [List.filterMap_cons, Value.ownBlock] at hsep
      rw [List.nodup_append] at hsep
      refine ⟨hd.os, hd.tape, hd.output, hd.size, hd.old, ?_, ?_, hd.row, ?_, hd.inS⟩
      · intro p hp
        rcases List.mem_append.1 hp with hp | hp
        · exact hd.blk p hp
        · rw [List.mem_singleton.1 hp]; exact hg
      · intro p hp
        rcases List.mem_append.1 hp with hp | hp
        · exact hd.frs p hp
        · rw [List.mem_singleton.1 hp]; exact .inl hb
      · rw [List.map_append, List.append_assoc, List.nodup_append]
        exact ⟨hsep.1, hsep.2.1, hsep.2.2⟩
/-- A call that was handed a Hash at g, and left it so; the rest lies in new blocks. -/
def HashOut (w : World) (g : Nat) (s : St) (r : List UInt8) (n : Nat) (w' : World) : Prop :=
  ∃ rv ex, RestEx ex rv r ∧ (∀ p ∈ ex, w.heap.size ≤ p.1 ∧ w'.heap[p.1]? = some p.2) ∧ (ex.map (·.1)).Nodup ∧ Turned g (objC (hcells s rv n) 118) w w'
/-- What was read in the first world reads so still, if the handed block is as it was. -/
theorem Holds.slS {w w' : World} {g : Nat} {o : Obj} {bs : List (Nat × Obj)} {rows : List Row} (h : Holds w [g] bs rows w') (ho : Own bs g o) (hg : w.heap[g]? = some o) {v : Value} {sz n : Nat} {cs : List Value} (hs : Sl w v sz n cs) : Sl w' v sz n cs :=
  hs.keep fun k hk => by
    by_cases e : k = g
    · subst e; rw [h.at ho, hg]
    · exact h.old k hk (by simpa using e)
def TakeRel (w : World) (g : Nat) (rv : Value) (n : Nat) (ex : List (Nat × Obj)) (s0 : St) (l0 : List UInt8) (v : Value) (wr : World) : Prop :=
  ∃ s l, absorb s0 l0 = absorb s l ∧ RestEx ex v l ∧ Holds w [g] ((g, objC (hcells s rv n) 118) :: ex) [] wr
theorem Holds.memEx {w0 w : World} {S : List Nat} {p : Nat × Obj} {ex : List (Nat × Obj)} {rows : List Row} (_ : Holds w0 S (p :: ex) rows w) : ∀ q ∈ ex, q ∈ p :: ex := fun _ hq => List.mem_cons_of_mem _ hq
set_option maxRecDepth 100000 in
set_option maxHeartbeats 4000000 in
theorem take_any (w : World) (g : Nat) (s : St) (rv vb : Value) (r b : List UInt8) (n : Nat) (hg : w.heap[g]? = some (objC (hcells s rv n) 118)) (hr : Byts w rv r) (hb : Byts w vb b) (hn : r.length + b.length ≤ 1000000) :
    Calls Try.prog 64 #[.pointer (some ⟨g, 0, none⟩), vb] w (fun e w' => e = .returned (.tuple #[]) ∧ HashOut w g (absorb s (r ++ b)).1 (absorb s (r ++ b)).2 n w') := by
  obtain ⟨ar, cr, rfl, _⟩ := hr.shape
  obtain ⟨ab, cb, rfl, _⟩ := hb.shape
  have HH := hid (Holds.initS hg)
  have HG := hid hg
  have HR := hid hr
  have HB := hid hb
  clear hg hr hb
  go_enter Try.func64, Try.ntmps64
  go_wp2_with (first
    | ((first
        | ((with_reducible apply wpL_skip); rfl; skip)
        | ((with_reducible apply wpL_nilCheck); rfl; rfl)
        | ((with_reducible apply wpL_fieldAddr (t := 118)); (first | exact F118_0 | exact F118_1 | exact F118_2 | exact F118_3); rfl; rfl)
        | ((with_reducible apply wpL_load1 (dst := some 8) O4 HH.out); rfl; (exact .here); rfl; rfl)
        | ((with_reducible apply wpL_load1 (dst := some 21) O22 HH.out); rfl; (exact .here); rfl; rfl)
        | ((with_reducible apply wpL_buildB [] (dst := some 17)); rfl; rfl; (exact (by omega)); (exact HH.out); rfl; (intro g_ w_ hq_; clear HH; have HH := hid hq_; clear hq_))
        | ((with_reducible apply wpL_appendB (dst := some 22) (l := []) (l2 := r) HH.out (HH.out.slS .here HG.out HR.out)); rfl; rfl; (exact (by simp; omega)); rfl; rfl; rfl; (intro ao1 cap1 w_ hq_; clear HH; have HH := hid hq_; clear hq_))
        | ((with_reducible apply wpL_appendB (dst := some 24) (l := r) (l2 := b) HH.out (HH.out.slS .here HG.out HB.out)); rfl; rfl; (exact (by omega)); rfl; rfl; rfl; (intro ao1 cap1 w_ hq_; clear HH; have HH := hid hq_; clear hq_))
        | ((with_reducible apply wpL_move); rfl; rfl)
        | ((with_reducible apply wpL_assign); rfl; rfl)
        | ((with_reducible apply wpL_pick); rfl; rfl; rfl)
        | ((with_reducible apply wpL_not); rfl; rfl)
        | ((with_reducible apply wpL_cmp (b := true)); rfl; rfl; rfl; (first | rfl | assumption | (simp only [cmpB, decide_eq_true_eq, decide_eq_false_iff_not, beq_iff_eq, bne_iff_ne, ne_eq, beq_eq_false_iff_ne, bne_eq_false_iff_eq, gt_iff_lt, ge_iff_le]; omega) | (simp; omega)); rfl)
        | ((with_reducible apply wpL_cmp (b := false)); rfl; rfl; rfl; (first | rfl | assumption | (simp only [cmpB, decide_eq_true_eq, decide_eq_false_iff_not, beq_iff_eq, bne_iff_ne, ne_eq, beq_eq_false_iff_ne, bne_eq_false_iff_eq, gt_iff_lt, ge_iff_le]; omega) | (simp; omega)); rfl)
        | ((with_reducible apply wpL_cmp); rfl; rfl; rfl; rfl; rfl)
        | ((with_reducible apply wpL_arith); rfl; rfl; rfl; (exact IntWalk.i64_in _ (by (try simp only [arithI]); omega)); rfl)); (try simp only [arithI, Act.put, Act.eval, List.setIfInBounds_toArray, List.set_cons_succ, List.set_cons_zero, Array.getD_eq_getD_getElem?, List.getElem?_toArray, List.getElem?_cons_succ, List.getElem?_cons_zero, Option.getD_some])))
  obtain ⟨ex, hre, hexb, hexn, hh⟩ := HH.out.rowEx
  have HXB := hid hexb
  have HXN := hid hexn
  have hll : (r ++ b).length ≤ 1000000 := by rw [List.length_append]; exact hn
  clear HH hexb hexn
  go_loopw [4] (TakeRel w g (.slice ar r.length cr) n ex s (r ++ b)) (fun v _ => lenV v)
  case atStart => exact ⟨s, r ++ b, rfl, hre, hh⟩
  case round =>
    obtain ⟨s', l', hab, hre', hr⟩ := hrel
    have HH := hid hr
    have HE := hid hre'
    have HAB := hid hab
    clear hr hre' hab hre hh
    obtain ⟨al, cl, rfl⟩ := HE.out.shape
    by_cases hlt : 64 ≤ l'.length
    · have HL := hid (HE.out.byts HH.out HH.out.memEx)
      have HPB := hid (process_block s' l')
      have hst := hid (absorb_step (s := s') hlt)
      go_wp2_with (first
        | ((first
            | ((with_reducible apply wpL_skip); rfl; skip)
            | ((with_reducible apply wpL_move); rfl; rfl)
            | ((with_reducible apply wpL_assign); rfl; rfl)
            | ((with_reducible apply wpL_pick); rfl; rfl; rfl)
            | ((with_reducible apply wpL_not); rfl; rfl)
            | ((with_reducible apply wpL_cmp (b := true)); rfl; rfl; rfl; (first | rfl | assumption | (simp only [cmpB, decide_eq_true_eq, decide_eq_false_iff_not, beq_iff_eq, bne_iff_ne, ne_eq, beq_eq_false_iff_ne, bne_eq_false_iff_eq, gt_iff_lt, ge_iff_le]; omega) | (simp; omega)); rfl)
            | ((with_reducible apply wpL_cmp (b := false)); rfl; rfl; rfl; (first | rfl | assumption | (simp only [cmpB, decide_eq_true_eq, decide_eq_false_iff_not, beq_iff_eq, bne_iff_ne, ne_eq, beq_eq_false_iff_ne, bne_eq_false_iff_eq, gt_iff_lt, ge_iff_le]; omega) | (simp; omega)); rfl)
            | ((with_reducible apply wpL_cmp); rfl; rfl; rfl; rfl; rfl)
            | ((with_reducible apply wpL_arith); rfl; rfl; rfl; (exact IntWalk.i64_in _ (by (try simp only [arithI]); omega)); rfl)); (try simp only [arithI, Act.put, Act.eval, List.setIfInBounds_toArray, List.set_cons_succ, List.set_cons_zero, Array.getD_eq_getD_getElem?, List.getElem?_toArray, List.getElem?_cons_succ, List.getElem?_cons_zero, Option.getD_some])))
      refine wp_region_tailQ 10 (by kernel_rfl) (by kernel_rfl) (by kernel_rfl) HH.out ?_
      simp only [List.take_succ_cons, List.take_zero, List.drop_succ_cons, List.drop_zero]
      repeat ((first
        | ((with_reducible apply wpQ_skip); rfl; skip)
        | ((with_reducible apply wpQ_nilCheck); rfl; rfl)
        | ((with_reducible apply wpQ_fieldAddr (t := 118)); (first | exact F118_0 | exact F118_1 | exact F118_2 | exact F118_3); rfl; rfl)
        | ((with_reducible apply wpQ_loadPart (vs := s'.ws.map wrd) A115); rfl; (exact .here); rfl; rfl; rfl)
        | ((with_reducible apply wpQ_call (v := valW (loadL l')) (args := #[.slice al l'.length cl]) B80); rfl; (intro wq hwq; exact (load_any wq _ l' (HE.out.byts hwq hwq.memEx) hlt).mono fun e w' ⟨he, hb⟩ => ⟨he, hwq.grow hb⟩); rfl)
        | ((with_reducible apply wpQ_call (v := valW (processS s' (loadL l')).ws) (args := #[valW s'.ws, valW (loadL l')]) B79); rfl; (intro wq hwq; exact (process_any wq s' (loadL l') rfl).mono fun e w' ⟨he, hb⟩ => ⟨he, hwq.grow hb⟩); rfl)
        | ((with_reducible apply wpQ_move); rfl; rfl)
        | ((with_reducible apply wpQ_assign); rfl; rfl)
        | ((with_reducible apply wpQ_pick); rfl; rfl; rfl)
        | ((with_reducible apply wpQ_not); rfl; rfl)
        | ((with_reducible apply wpQ_cmp (b := true)); rfl; rfl; rfl; (first | rfl | assumption | (simp only [cmpB, decide_eq_true_eq, decide_eq_false_iff_not, beq_iff_eq, bne_iff_ne, ne_eq, beq_eq_false_iff_ne, bne_eq_false_iff_eq, gt_iff_lt, ge_iff_le]; omega) | (simp; omega)); rfl)
        | ((with_reducible apply wpQ_cmp (b := false)); rfl; rfl; rfl; (first | rfl | assumption | (simp only [cmpB, decide_eq_true_eq, decide_eq_false_iff_not, beq_iff_eq, bne_iff_ne, ne_eq, beq_eq_false_iff_ne, bne_eq_false_iff_eq, gt_iff_lt, ge_iff_le]; omega) | (simp; omega)); rfl)
        | ((with_reducible apply wpQ_cmp); rfl; rfl; rfl; rfl; rfl)
        | ((with_reducible apply wpQ_arith); rfl; rfl; rfl; (exact IntWalk.i64_in _ (by (try simp only [arithI]); omega)); rfl)); simp only [arithI, Act.put, Act.eval, List.setIfInBounds_toArray, List.set_cons_succ, List.set_cons_zero, Array.getD_eq_getD_getElem?, List.getElem?_toArray, List.getElem?_cons_succ, List.getElem?_cons_zero, Option.getD_some])
      refine wpQuiet_nil ?_
      intro wq hq_
      have HQ := hid hq_
      clear hq_
      clear HH
      have HH := HQ
      clear HQ
      go_wp2_with (first
        | ((first
            | ((with_reducible apply wpL_skip); rfl; skip)
            | ((with_reducible apply wpL_storePart (vs := (processS s' (loadL l')).ws.map wrd) (sz := 8)); rfl; rfl; rfl; (exact S115); (exact HH.out); (exact .here); rfl; (exact wrd_one _); (exact (by simp [hcells, St.ws])); rfl; (intro w_ hq_; (have hq2_ : Holds w [g] ((g, objC (hcells (blockS s' (l'.take 64)) (.slice ar r.length cr) n) 118) :: ex) [] w_ := by rw [← HPB.out]; exact hq_); clear HH hq_; have HH := hid hq2_; clear hq2_))
            | ((with_reducible apply wpL_sliceFromB (j := 64)); rfl; rfl; rfl; (exact hlt); rfl)
            | ((with_reducible apply wpL_move); rfl; rfl)
            | ((with_reducible apply wpL_assign); rfl; rfl)
            | ((with_reducible apply wpL_pick); rfl; rfl; rfl)
            | ((with_reducible apply wpL_not); rfl; rfl)
            | ((with_reducible apply wpL_cmp (b := true)); rfl; rfl; rfl; (first | rfl | assumption | (simp only [cmpB, decide_eq_true_eq, decide_eq_false_iff_not, beq_iff_eq, bne_iff_ne, ne_eq, beq_eq_false_iff_ne, bne_eq_false_iff_eq, gt_iff_lt, ge_iff_le]; omega) | (simp; omega)); rfl)
            | ((with_reducible apply wpL_cmp (b := false)); rfl; rfl; rfl; (first | rfl | assumption | (simp only [cmpB, decide_eq_true_eq, decide_eq_false_iff_not, beq_iff_eq, bne_iff_ne, ne_eq, beq_eq_false_iff_ne, bne_eq_false_iff_eq, gt_iff_lt, ge_iff_le]; omega) | (simp; omega)); rfl)
            | ((with_reducible apply wpL_cmp); rfl; rfl; rfl; rfl; rfl)
            | ((with_reducible apply wpL_arith); rfl; rfl; rfl; (exact IntWalk.i64_in _ (by (try simp only [arithI]); omega)); rfl)); (try simp only [arithI, Act.put, Act.eval, List.setIfInBounds_toArray, List.set_cons_succ, List.set_cons_zero, Array.getD_eq_getD_getElem?, List.getElem?_toArray, List.getElem?_cons_succ, List.getElem?_cons_zero, Option.getD_some])))
      go_roundw
      case rel => exact ⟨blockS s' (l'.take 64), l'.drop 64, by rw [HAB.out, hst.out], HE.out.drop hlt, HH.out⟩
      case measure => simp [lenV]; omega
    · have hdn := hid (absorb_done (s := s') hlt)
      go_wp2_with (first
        | ((first
            | ((with_reducible apply wpL_skip); rfl; skip)
            | ((with_reducible apply wpL_nilCheck); rfl; rfl)
            | ((with_reducible apply wpL_fieldAddr (t := 118)); (first | exact F118_0 | exact F118_1 | exact F118_2 | exact F118_3); rfl; rfl)
            | ((with_reducible apply wpL_store1 (v := .slice al l'.length cl) (cs := hcells s' (.slice ar r.length cr) n)); rfl; rfl; rfl; (exact S22); (exact HH.out); (exact .here); rfl; (exact (by simp [hcells, St.ws])); rfl; (intro w_ hq_; (have hq2_ : Holds w [g] ((g, objC (hcells s' (.slice al l'.length cl) n) 118) :: ex) [] w_ := hq_); clear HH hq_; have HH := hid hq2_; clear hq2_))
            | ((with_reducible apply wpL_move); rfl; rfl)
            | ((with_reducible apply wpL_assign); rfl; rfl)
            | ((with_reducible apply wpL_pick); rfl; rfl; rfl)
            | ((with_reducible apply wpL_not); rfl; rfl)
            | ((with_reducible apply wpL_cmp (b := true)); rfl; rfl; rfl; (first | rfl | assumption | (simp only [cmpB, decide_eq_true_eq, decide_eq_false_iff_not, beq_iff_eq, bne_iff_ne, ne_eq, beq_eq_false_iff_ne, bne_eq_false_iff_eq, gt_iff_lt, ge_iff_le]; omega) | (simp; omega)); rfl)
            | ((with_reducible apply wpL_cmp (b := false)); rfl; rfl; rfl; (first | rfl | assumption | (simp only [cmpB, decide_eq_true_eq, decide_eq_false_iff_not, beq_iff_eq, bne_iff_ne, ne_eq, beq_eq_false_iff_ne, bne_eq_false_iff_eq, gt_iff_lt, ge_iff_le]; omega) | (simp; omega)); rfl)
            | ((with_reducible apply wpL_cmp); rfl; rfl; rfl; rfl; rfl)
            | ((with_reducible apply wpL_arith); rfl; rfl; rfl; (exact IntWalk.i64_in _ (by (try simp only [arithI]); omega)); rfl)); (try simp only [arithI, Act.put, Act.eval, List.setIfInBounds_toArray, List.set_cons_succ, List.set_cons_zero, Array.getD_eq_getD_getElem?, List.getElem?_toArray, List.getElem?_cons_succ, List.getElem?_cons_zero, Option.getD_some])))
      refine bodyPost_end (results_none rfl _ _ _) rfl ⟨rfl, ?_⟩
      have e := HAB.out
      rw [hdn.out] at e
      rw [e]
      exact ⟨_, ex, HE.out, fun p hp => ⟨HXB.out p hp, HH.out.blk p (List.mem_cons_of_mem _ hp)⟩, HXN.out, HH.out.turned .here⟩
end Go.Proofs.Ytgkfopodhikckaa
