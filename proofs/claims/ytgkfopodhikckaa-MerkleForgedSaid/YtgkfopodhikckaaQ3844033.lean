/- One operation of a drawn region by what is listed: alloc, load, store of the call's own variables. No condition. -/
import Derived.Test.YtgkfopodhikckaaQ3a8d7a5
import Derived.Lib.UnsafeStr
import Derived.Lib.Builder
import Derived.Laws.IdiomStrings
import Derived.Laws.Small
import Derived.Lib.SlBytesConst
import Derived.Laws.CopyRow
import Derived.Test.YtgkfopodhikckaaRows
import Derived.Deep.Matrix
import Derived.ChangeMaps5
import Derived.Lib.AppendZerosOnto
import Derived.Shelf.Spec.SlicesGrow
import Derived.Lib.Bytealg
import Derived.Lib.SliceRun
set_option linter.unusedSimpArgs false
set_option linter.unusedVariables false
/- New, take of sha256's Hash. Condition: at most a million bytes. -/
namespace Go.Proofs.Ytgkfopodhikckaa
open Go.RowKit
/-- The cells of a Hash. -/
def hcells (s : St) (rv : Value) (n : Nat) : List Value := s.ws.map wrd ++ [rv, .int .i64 n, .bool true]
theorem F118 (f off : Nat) (h : (f = 0 ∧ off = 0) ∨ (f = 1 ∧ off = 8) ∨ (f = 2 ∧ off = 9) ∨ (f = 3 ∧ off = 10)) : FieldT Try.prog 118 f off := by
  rcases h with ⟨rfl, rfl⟩ | ⟨rfl, rfl⟩ | ⟨rfl, rfl⟩ | ⟨rfl, rfl⟩
  · exact ⟨_, _, 7, Try.underlying118, rfl, rfl, by kernel_rfl⟩
  · exact ⟨_, _, 0, Try.underlying118, rfl, rfl, by kernel_rfl⟩
  · exact ⟨_, _, 0, Try.underlying118, rfl, rfl, by kernel_rfl⟩
  · exact ⟨_, _, 0, Try.underlying118, rfl, rfl, by kernel_rfl⟩
theorem F118_0 : FieldT Try.prog 118 0 0 := F118 _ _ (by decide)
theorem F118_1 : FieldT Try.prog 118 1 8 := F118 _ _ (by decide)
theorem F118_2 : FieldT Try.prog 118 2 9 := F118 _ _ (by decide)
theorem F118_3 : FieldT Try.prog 118 3 10 := F118 _ _ (by decide)
theorem O22 : OneT Try.prog 22 := ⟨_, Try.underlying22, rfl⟩
theorem O3 : OneT Try.prog 3 := ⟨_, Try.underlying3, rfl⟩
theorem O4 : OneT Try.prog 4 := ⟨_, Try.underlying4, rfl⟩
theorem S22 : (Try.prog.info? 22).map (·.size) = some 1 := by kernel_rfl
theorem S3 : (Try.prog.info? 3).map (·.size) = some 1 := by kernel_rfl
theorem B80 : Body Try.prog 80 := ⟨_, _, Try.func80, rfl, rfl⟩
theorem B79 : Body Try.prog 79 := ⟨_, _, Try.func79, rfl, rfl⟩
theorem build118 (s : St) (w : World) : (Instr.build 118 #[(0, valW s.ws), (3, .bool true)]).run Try.prog w = .ok (.agg (hcells s (.slice none 0 0) 0).toArray) w := by kernel_rfl
section
variable {w w0 : World} {S : List Nat} {bs bs' : List (Nat × Obj)} {rows : List Row} {ops : Array Oper} {rest : List Oper} {a : Act} {dst : Option Tmp} {ty : TypeId} {pos : String} {after : Array Edge} {guard : Option (Nat × Bool)} {Q : Exit → Act → World → Prop} {P : Program} {C : World → Prop} {K : Act → Prop}
theorem ex_nilCheck {ρ : Operand → Value} {x : Operand} {ad : Addr} (hx : ρ x = .pointer (some ad)) (w : World) :
    (execOp ρ { dst := dst, op := .nilCheck x, type := ty, pos := pos, after := after, guard := guard }).run P w = .ok (.value (.pointer (some ad))) w := by
  simp only [execOp, hx, Sem.run_pure]
theorem wpQ_nilCheck {x : Operand} {ad : Addr} (hx : a.eval x = .pointer (some ad))
    (hg : Region.wanted { dst := dst, op := .nilCheck x, type := ty, pos := pos, after := after, guard := guard } (yielded ops a.tmps) = true)
    (h : wpQuiet P ops C K rest (a.put dst (.pointer (some ad)))) : wpQuiet P ops C K ({ dst := dst, op := .nilCheck x, type := ty, pos := pos, after := after, guard := guard } :: rest) a :=
  wpQuiet_ex hg (fun w _ => ex_nilCheck (ρ := a.eval) hx w) h
theorem wpL_nilCheck {x : Operand} {ad : Addr} (hx : a.eval x = .pointer (some ad))
    (hg : Region.wanted { dst := dst, op := .nilCheck x, type := ty, pos := pos, after := after, guard := guard } (yielded ops a.tmps) = true)
    (h : wpList P ops Q rest (a.put dst (.pointer (some ad))) w) : wpList P ops Q ({ dst := dst, op := .nilCheck x, type := ty, pos := pos, after := after, guard := guard } :: rest) a w :=
  wpList_ex hg (ex_nilCheck (ρ := a.eval) hx w) h
/-- x[64:] of a slice of bytes. -/
theorem wpL_sliceFromB {x lo : Operand} {ao : Option Addr} {n c j : Nat} {q : Int} (hx : a.eval x = .slice ao n c) (hi : a.eval lo = .int .i64 q) (hq : q = (j : Int)) (hj : j ≤ n)
    (hg : Region.wanted { dst := dst, op := .slice 22 x (some lo) none none, type := ty, pos := pos, after := after, guard := guard } (yielded ops a.tmps) = true)
    (h : wpList Try.prog ops Q rest (a.put dst (.slice (if c = j then ao else ao.map (·.add j)) (n - j) (c - j))) w) :
    wpList Try.prog ops Q ({ dst := dst, op := .slice 22 x (some lo) none none, type := ty, pos := pos, after := after, guard := guard } :: rest) a w := by
  refine wpList_ex hg (ex_slice_from (ρ := a.eval) E22 hx hi hq hj w) ?_
  rw [Nat.mul_one]; exact h
end
/-- v is a slice of the bytes l, which lie in the blocks ex. -/
def RestEx (ex : List (Nat × Obj)) (v : Value) (l : List UInt8) : Prop :=
  ∃ ao cap, v = .slice ao l.length cap ∧ l.length ≤ cap ∧ ∀ j u, (l.map byt)[j]? = some u → ∃ g cur off, ao = some ⟨g, off, none⟩ ∧ (g, Obj.cells cur 5) ∈ ex ∧ cur[off + j]? = some u
theorem RestEx.nil (ex : List (Nat × Obj)) : RestEx ex (.slice none 0 0) [] := ⟨none, 0, rfl, Nat.le_refl _, fun j u hu => by simp at hu⟩
theorem RestEx.byts {w0 w : World} {S : List Nat} {bs ex : List (Nat × Obj)} {rows : List Row} {v : Value} {l : List UInt8} (h : RestEx ex v l) (hH : Holds w0 S bs rows w) (ho : ∀ p ∈ ex, p ∈ bs) : Byts w v l := by
  obtain ⟨ao, cap, rfl, hc, hcell⟩ := h
  refine ⟨_, _, rfl, hc, by simp, fun j u hu => ?_⟩
  obtain ⟨g, cur, off, rfl, hm, hu'⟩ := hcell j u hu
  refine ⟨_, rfl, ?_⟩
  have hadd : (⟨g, off, none⟩ : Addr).add j = ⟨g, off + j, none⟩ := by unfold Addr.add; split <;> simp_all
  rw [hadd]
  simp [World.cell?, hH.blk _ (ho _ hm), hu']
theorem RestEx.drop {ex : List (Nat × Obj)} {ao : Option Addr} {n c : Nat} {l : List UInt8} (h : RestEx ex (.slice ao n c) l) {j : Nat} (hj : j ≤ n) : RestEx ex (.slice (if c = j then ao else ao.map (·.add j)) (n - j) (c - j)) (l.drop j) := by
  obtain ⟨ao', cap, e, hc, hcell⟩ := h
  simp only [Value.slice.injEq] at e
  obtain ⟨rfl, rfl, rfl⟩ := e
  refine ⟨_, c - j, by rw [List.length_drop], by simp; omega, fun i u hu => ?_⟩
  rw [List.map_drop, List.getElem?_drop] at hu
  have hlt : j + i < l.length := by have := (List.getElem?_eq_some_iff.1 hu).1; simpa using this
  obtain ⟨g, cur, off, rfl, hm, hu'⟩ := hcell _ _ hu
  refine ⟨g, cur, off + j, ?_, hm, by rwa [Nat.add_assoc]⟩
  have hadd : (⟨g, off, none⟩ : Addr).add j = ⟨g, off + j, none⟩ := by unfold Addr.add; split <;> simp_all
  rw [if_neg (by omega)]
  simp [hadd]
theorem RestEx.shape {ex : List (Nat × Obj)} {v : Value} {l : List UInt8} (h : RestEx ex v l) : ∃ ao cap, v = .slice ao l.length cap := by
  obtain ⟨ao, cap, e, _⟩ := h; exact ⟨ao, cap, e⟩
/-- New blocks ex join the call's own. -/
theorem Holds.addBlks {w0 w w' : World} {S : List Nat} {bs ex : List (Nat × Obj)} {rows : List Row} (h : Holds w0 S bs rows w') (hsz : w.heap.size ≤ w'.heap.size) (hlt : ∀ p ∈ bs, p.1 < w.heap.size) (hrl : ∀ r ∈ rows, ∀ k, r.v.ownBlock = some k → k < w.heap.size) (h0 : w0.heap.size ≤ w.heap.size)
    (hex : ∀ p ∈ ex, w.heap.size ≤ p.1 ∧ w'.heap[p.1]? = some p.2) (hnd : (ex.map (·.1)).Nodup) : Holds w0 S (bs ++ ex) rows w' := by
  refine ⟨h.os, h.tape, h.output, h.size, h.old, ?_, ?_, h.row, ?_, h.inS⟩
  · intro p hp
    rcases List.mem_append.1 hp with hp | hp
    · exact h.blk p hp
    · exact (hex p hp).2
  · intro p hp
    rcases List.mem_append.1 hp with hp | hp
    · exact h.frs p hp
    · exact .inl (Nat.le_trans h0 (hex p hp).1)
  · have hsep := h.sep
    rw [List.nodup_append] at hsep
    rw [List.map_append, List.append_assoc, List.nodup_append]
    refine ⟨hsep.1, List.nodup_append.2 ⟨hnd, hsep.2.1, ?_⟩, ?_⟩
    · intro a ha b hb e
      subst e
      obtain ⟨p, hp, rfl⟩ := List.mem_map.1 ha
      obtain ⟨r, hr, e⟩ := List.mem_filterMap.1 hb
      have h1 := hrl r hr _ e
      have h2 := (hex p hp).1
      omega
    · intro a ha b hb e
      subst e
      obtain ⟨q, hq, hqe⟩ := List.mem_map.1 ha
      have h1 := hlt q hq
      rcases List.mem_append.1 hb with hb | hb
      · obtain ⟨p, hp, hpe⟩ := List.mem_map.1 hb
        have h2 := (hex p hp).1
        omega
      · exact hsep.2.2 a ha a hb rfl
/-- An own row of bytes, taken as own blocks. -/
theorem Holds.rowEx {w0 w : World} {S : List Nat} {bs : List (Nat × Obj)} {rows : List Row} {ao : Option Addr} {cap : Nat} {l : List UInt8} (h : Holds w0 S bs (rowB ao cap l :: rows) w) :
    ∃ ex, RestEx ex (.slice ao l.length cap) l ∧ (∀ p ∈ ex, w0.heap.size ≤ p.1) ∧ (ex.map (·.1)).Nodup ∧ Holds w0 S (bs ++ ex) rows w := by
  have hown := h.own0
  rcases hown.2 with ⟨hv, hn0⟩ | ⟨g, cap', cur, hv, hb, hg, hn, hm, hs, htake⟩
  · have : l = [] := List.eq_nil_of_length_eq_zero hn0
    subst this
    refine ⟨[], ?_, by simp, by simp, by simpa using h.dropRow⟩
    simp only [List.length_nil] at hv ⊢
    rw [hv]
    exact RestEx.nil _
  · simp only [Value.slice.injEq, true_and] at hv
    obtain ⟨rfl, rfl⟩ := hv
    refine ⟨[(g, .cells cur 5)], ⟨_, cap, rfl, hn, fun j u hu => ?_⟩, by simpa using hb, by simp, ?_⟩
    · have h1 : j < l.length := by have := (List.getElem?_eq_some_iff.1 hu).1; simpa using this
      rw [← htake, List.getElem?_take, if_pos (by omega)] at hu
      exact ⟨g, cur, 0, rfl, by simp, by rw [Nat.zero_add]; simpa using hu⟩
    · have hd := h.dropRow
      have hsep := h.sep
      simp only [List.filterMap_cons, Value.ownBlock] at hsep
      rw [List.nodup_append] at hsep
      refine ⟨hd.os, hd.tape, hd.output, hd.size, hd.old, ?_, ?_, hd.row, ?_, hd.inS⟩
      · intro p hp
        rcases List.mem_append.1 hp with hp | hp
        · exact hd.blk p hp
        · rw [List.mem_singleton.1 hp]; exact hg
      · intro p hp
        rcases List.mem_append.1 hp with hp | hp
        · exact hd.frs p hp
        · rw [List.mem_singleton.1 hp]; exact .inl hb
      · rw [List.map_append, List.append_assoc, List.nodup_append]
        exact ⟨hsep.1, hsep.2.1, hsep.2.2⟩
/-- A call that was handed a Hash at g, and left it so; the rest lies in new blocks. -/
def HashOut (w : World) (g : Nat) (s : St) (r : List UInt8) (n : Nat) (w' : World) : Prop :=
  ∃ rv ex, RestEx ex rv r ∧ (∀ p ∈ ex, w.heap.size ≤ p.1 ∧ w'.heap[p.1]? = some p.2) ∧ (ex.map (·.1)).Nodup ∧ Turned g (objC (hcells s rv n) 118) w w'
/-- What was read in the first world reads so still, if the handed block is as it was. -/
theorem Holds.slS {w w' : World} {g : Nat} {o : Obj} {bs : List (Nat × Obj)} {rows : List Row} (h : Holds w [g] bs rows w') (ho : Own bs g o) (hg : w.heap[g]? = some o) {v : Value} {sz n : Nat} {cs : List Value} (hs : Sl w v sz n cs) : Sl w' v sz n cs :=
  hs.keep fun k hk => by
    by_cases e : k = g
    · subst e; rw [h.at ho, hg]
    · exact h.old k hk (by simpa using e)
def TakeRel (w : World) (g : Nat) (rv : Value) (n : Nat) (ex : List (Nat × Obj)) (s0 : St) (l0 : List UInt8) (v : Value) (wr : World) : Prop :=
  ∃ s l, absorb s0 l0 = absorb s l ∧ RestEx ex v l ∧ Holds w [g] ((g, objC (hcells s rv n) 118) :: ex) [] wr
theorem Holds.memEx {w0 w : World} {S : List Nat} {p : Nat × Obj} {ex : List (Nat × Obj)} {rows : List Row} (_ : Holds w0 S (p :: ex) rows w) : ∀ q ∈ ex, q ∈ p :: ex := fun _ hq => List.mem_cons_of_mem _ hq
set_option maxRecDepth 100000 in
set_option maxHeartbeats 4000000 in
theorem take_any (w : World) (g : Nat) (s : St) (rv vb : Value) (r b : List UInt8) (n : Nat) (hg : w.heap[g]? = some (objC (hcells s rv n) 118)) (hr : Byts w rv r) (hb : Byts w vb b) (hn : r.length + b.length ≤ 1000000) :
    Calls Try.prog 64 #[.pointer (some ⟨g, 0, none⟩), vb] w (fun e w' => e = .returned (.tuple #[]) ∧ HashOut w g (absorb s (r ++ b)).1 (absorb s (r ++ b)).2 n w') := by
  obtain ⟨ar, cr, rfl, _⟩ := hr.shape
  obtain ⟨ab, cb, rfl, _⟩ := hb.shape
  have HH := hid (Holds.initS hg)
  have HG := hid hg
  have HR := hid hr
  have HB := hid hb
  clear hg hr hb
  go_enter Try.func64, Try.ntmps64
  go_wp2_with (first
    | ((first
        | ((with_reducible apply wpL_skip); rfl; skip)
        | ((with_reducible apply wpL_nilCheck); rfl; rfl)
        | ((with_reducible apply wpL_fieldAddr (t := 118)); (first | exact F118_0 | exact F118_1 | exact F118_2 | exact F118_3); rfl; rfl)
        | ((with_reducible apply wpL_load1 (dst := some 8) O4 HH.out); rfl; (exact .here); rfl; rfl)
        | ((with_reducible apply wpL_load1 (dst := some 21) O22 HH.out); rfl; (exact .here); rfl; rfl)
        | ((with_reducible apply wpL_buildB [] (dst := some 17)); rfl; rfl; (exact (by omega)); (exact HH.out); rfl; (intro g_ w_ hq_; clear HH; have HH := hid hq_; clear hq_))
        | ((with_reducible apply wpL_appendB (dst := some 22) (l := []) (l2 := r) HH.out (HH.out.slS .here HG.out HR.out)); rfl; rfl; (exact (by simp; omega)); rfl; rfl; rfl; (intro ao1 cap1 w_ hq_; clear HH; have HH := hid hq_; clear hq_))
        | ((with_reducible apply wpL_appendB (dst := some 24) (l := r) (l2 := b) HH.out (HH.out.slS .here HG.out HB.out)); rfl; rfl; (exact (by omega)); rfl; rfl; rfl; (intro ao1 cap1 w_ hq_; clear HH; have HH := hid hq_; clear hq_))
        | ((with_reducible apply wpL_move); rfl; rfl)
        | ((with_reducible apply wpL_assign); rfl; rfl)
        | ((with_reducible apply wpL_pick); rfl; rfl; rfl)
        | ((with_reducible apply wpL_not); rfl; rfl)
        | ((with_reducible apply wpL_cmp (b := true)); rfl; rfl; rfl; (first | rfl | assumption | (simp only [cmpB, decide_eq_true_eq, decide_eq_false_iff_not, beq_iff_eq, bne_iff_ne, ne_eq, beq_eq_false_iff_ne, bne_eq_false_iff_eq, gt_iff_lt, ge_iff_le]; omega) | (simp; omega)); rfl)
        | ((with_reducible apply wpL_cmp (b := false)); rfl; rfl; rfl; (first | rfl | assumption | (simp only [cmpB, decide_eq_true_eq, decide_eq_false_iff_not, beq_iff_eq, bne_iff_ne, ne_eq, beq_eq_false_iff_ne, bne_eq_false_iff_eq, gt_iff_lt, ge_iff_le]; omega) | (simp; omega)); rfl)
        | ((with_reducible apply wpL_cmp); rfl; rfl; rfl; rfl; rfl)
        | ((with_reducible apply wpL_arith); rfl; rfl; rfl; (exact IntWalk.i64_in _ (by (try simp only [arithI]); omega)); rfl)); (try simp only [arithI, Act.put, Act.eval, List.setIfInBounds_toArray, List.set_cons_succ, List.set_cons_zero, Array.getD_eq_getD_getElem?, List.getElem?_toArray, List.getElem?_cons_succ, List.getElem?_cons_zero, Option.getD_some])))
  obtain ⟨ex, hre, hexb, hexn, hh⟩ := HH.out.rowEx
  have HXB := hid hexb
  have HXN := hid hexn
  have hll : (r ++ b).length ≤ 1000000 := by rw [List.length_append]; exact hn
  clear HH hexb hexn
  go_loopw [4] (TakeRel w g (.slice ar r.length cr) n ex s (r ++ b)) (fun v _ => lenV v)
  case atStart => exact ⟨s, r ++ b, rfl, hre, hh⟩
  case round =>
    obtain ⟨s', l', hab, hre', hr⟩ := hrel
    have HH := hid hr
    have HE := hid hre'
    have HAB := hid hab
    clear hr hre' hab hre hh
    obtain ⟨al, cl, rfl⟩ := HE.out.shape
    by_cases hlt : 64 ≤ l'.length
    · have HL := hid (HE.out.byts HH.out HH.out.memEx)
      have HPB := hid (process_block s' l')
      have hst := hid (absorb_step (s := s') hlt)
      go_wp2_with (first
        | ((first
            | ((with_reducible apply wpL_skip); rfl; skip)
            | ((with_reducible apply wpL_move); rfl; rfl)
            | ((with_reducible apply wpL_assign); rfl; rfl)
            | ((with_reducible apply wpL_pick); rfl; rfl; rfl)
            | ((with_reducible apply wpL_not); rfl; rfl)
            | ((with_reducible apply wpL_cmp (b := true)); rfl; rfl; rfl; (first | rfl | assumption | (simp only [cmpB, decide_eq_true_eq, decide_eq_false_iff_not, beq_iff_eq, bne_iff_ne, ne_eq, beq_eq_false_iff_ne, bne_eq_false_iff_eq, gt_iff_lt, ge_iff_le]; omega) | (simp; omega)); rfl)
            | ((with_reducible apply wpL_cmp (b := false)); rfl; rfl; rfl; (first | rfl | assumption | (simp only [cmpB, decide_eq_true_eq, decide_eq_false_iff_not, beq_iff_eq, bne_iff_ne, ne_eq, beq_eq_false_iff_ne, bne_eq_false_iff_eq, gt_iff_lt, ge_iff_le]; omega) | (simp; omega)); rfl)
            | ((with_reducible apply wpL_cmp); rfl; rfl; rfl; rfl; rfl)
            | ((with_reducible apply wpL_arith); rfl; rfl; rfl; (exact IntWalk.i64_in _ (by (try simp only [arithI]); omega)); rfl)); (try simp only [arithI, Act.put, Act.eval, List.setIfInBounds_toArray, List.set_cons_succ, List.set_cons_zero, Array.getD_eq_getD_getElem?, List.getElem?_toArray, List.getElem?_cons_succ, List.getElem?_cons_zero, Option.getD_some])))
      refine wp_region_tailQ 10 (by kernel_rfl) (by kernel_rfl) (by kernel_rfl) HH.out ?_
      simp only [List.take_succ_cons, List.take_zero, List.drop_succ_cons, List.drop_zero]
      repeat ((first
        | ((with_reducible apply wpQ_skip); rfl; skip)
        | ((with_reducible apply wpQ_nilCheck); rfl; rfl)
        | ((with_reducible apply wpQ_fieldAddr (t := 118)); (first | exact F118_0 | exact F118_1 | exact F118_2 | exact F118_3); rfl; rfl)
        | ((with_reducible apply wpQ_loadPart (vs := s'.ws.map wrd) A115); rfl; (exact .here); rfl; rfl; rfl)
        | ((with_reducible apply wpQ_call (v := valW (loadL l')) (args := #[.slice al l'.length cl]) B80); rfl; (intro wq hwq; exact (load_any wq _ l' (HE.out.byts hwq hwq.memEx) hlt).mono fun e w' ⟨he, hb⟩ => ⟨he, hwq.grow hb⟩); rfl)
        | ((with_reducible apply wpQ_call (v := valW (processS s' (loadL l')).ws) (args := #[valW s'.ws, valW (loadL l')]) B79); rfl; (intro wq hwq; exact (process_any wq s' (loadL l') rfl).mono fun e w' ⟨he, hb⟩ => ⟨he, hwq.grow hb⟩); rfl)
        | ((with_reducible apply wpQ_move); rfl; rfl)
        | ((with_reducible apply wpQ_assign); rfl; rfl)
        | ((with_reducible apply wpQ_pick); rfl; rfl; rfl)
        | ((with_reducible apply wpQ_not); rfl; rfl)
        | ((with_reducible apply wpQ_cmp (b := true)); rfl; rfl; rfl; (first | rfl | assumption | (simp only [cmpB, decide_eq_true_eq, decide_eq_false_iff_not, beq_iff_eq, bne_iff_ne, ne_eq, beq_eq_false_iff_ne, bne_eq_false_iff_eq, gt_iff_lt, ge_iff_le]; omega) | (simp; omega)); rfl)
        | ((with_reducible apply wpQ_cmp (b := false)); rfl; rfl; rfl; (first | rfl | assumption | (simp only [cmpB, decide_eq_true_eq, decide_eq_false_iff_not, beq_iff_eq, bne_iff_ne, ne_eq, beq_eq_false_iff_ne, bne_eq_false_iff_eq, gt_iff_lt, ge_iff_le]; omega) | (simp; omega)); rfl)
        | ((with_reducible apply wpQ_cmp); rfl; rfl; rfl; rfl; rfl)
        | ((with_reducible apply wpQ_arith); rfl; rfl; rfl; (exact IntWalk.i64_in _ (by (try simp only [arithI]); omega)); rfl)); simp only [arithI, Act.put, Act.eval, List.setIfInBounds_toArray, List.set_cons_succ, List.set_cons_zero, Array.getD_eq_getD_getElem?, List.getElem?_toArray, List.getElem?_cons_succ, List.getElem?_cons_zero, Option.getD_some])
      refine wpQuiet_nil ?_
      intro wq hq_
      have HQ := hid hq_
      clear hq_
      clear HH
      have HH := HQ
      clear HQ
      go_wp2_with (first
        | ((first
            | ((with_reducible apply wpL_skip); rfl; skip)
            | ((with_reducible apply wpL_storePart (vs := (processS s' (loadL l')).ws.map wrd) (sz := 8)); rfl; rfl; rfl; (exact S115); (exact HH.out); (exact .here); rfl; (exact wrd_one _); (exact (by simp [hcells, St.ws])); rfl; (intro w_ hq_; (have hq2_ : Holds w [g] ((g, objC (hcells (blockS s' (l'.take 64)) (.slice ar r.length cr) n) 118) :: ex) [] w_ := by rw [← HPB.out]; exact hq_); clear HH hq_; have HH := hid hq2_; clear hq2_))
            | ((with_reducible apply wpL_sliceFromB (j := 64)); rfl; rfl; rfl; (exact hlt); rfl)
            | ((with_reducible apply wpL_move); rfl; rfl)
            | ((with_reducible apply wpL_assign); rfl; rfl)
            | ((with_reducible apply wpL_pick); rfl; rfl; rfl)
            | ((with_reducible apply wpL_not); rfl; rfl)
            | ((with_reducible apply wpL_cmp (b := true)); rfl; rfl; rfl; (first | rfl | assumption | (simp only [cmpB, decide_eq_true_eq, decide_eq_false_iff_not, beq_iff_eq, bne_iff_ne, ne_eq, beq_eq_false_iff_ne, bne_eq_false_iff_eq, gt_iff_lt, ge_iff_le]; omega) | (simp; omega)); rfl)
            | ((with_reducible apply wpL_cmp (b := false)); rfl; rfl; rfl; (first | rfl | assumption | (simp only [cmpB, decide_eq_true_eq, decide_eq_false_iff_not, beq_iff_eq, bne_iff_ne, ne_eq, beq_eq_false_iff_ne, bne_eq_false_iff_eq, gt_iff_lt, ge_iff_le]; omega) | (simp; omega)); rfl)
            | ((with_reducible apply wpL_cmp); rfl; rfl; rfl; rfl; rfl)
            | ((with_reducible apply wpL_arith); rfl; rfl; rfl; (exact IntWalk.i64_in _ (by (try simp only [arithI]); omega)); rfl)); (try simp only [arithI, Act.put, Act.eval, List.setIfInBounds_toArray, List.set_cons_succ, List.set_cons_zero, Array.getD_eq_getD_getElem?, List.getElem?_toArray, List.getElem?_cons_succ, List.getElem?_cons_zero, Option.getD_some])))
      go_roundw
      case rel => exact ⟨blockS s' (l'.take 64), l'.drop 64, by rw [HAB.out, hst.out], HE.out.drop hlt, HH.out⟩
      case measure => simp [lenV]; omega
    · have hdn := hid (absorb_done (s := s') hlt)
      go_wp2_with (first
        | ((first
            | ((with_reducible apply wpL_skip); rfl; skip)
            | ((with_reducible apply wpL_nilCheck); rfl; rfl)
            | ((with_reducible apply wpL_fieldAddr (t := 118)); (first | exact F118_0 | exact F118_1 | exact F118_2 | exact F118_3); rfl; rfl)
            | ((with_reducible apply wpL_store1 (v := .slice al l'.length cl) (cs := hcells s' (.slice ar r.length cr) n)); rfl; rfl; rfl; (exact S22); (exact HH.out); (exact .here); rfl; (exact (by simp [hcells, St.ws])); rfl; (intro w_ hq_; (have hq2_ : Holds w [g] ((g, objC (hcells s' (.slice al l'.length cl) n) 118) :: ex) [] w_ := hq_); clear HH hq_; have HH := hid hq2_; clear hq2_))
            | ((with_reducible apply wpL_move); rfl; rfl)
            | ((with_reducible apply wpL_assign); rfl; rfl)
            | ((with_reducible apply wpL_pick); rfl; rfl; rfl)
            | ((with_reducible apply wpL_not); rfl; rfl)
            | ((with_reducible apply wpL_cmp (b := true)); rfl; rfl; rfl; (first | rfl | assumption | (simp only [cmpB, decide_eq_true_eq, decide_eq_false_iff_not, beq_iff_eq, bne_iff_ne, ne_eq, beq_eq_false_iff_ne, bne_eq_false_iff_eq, gt_iff_lt, ge_iff_le]; omega) | (simp; omega)); rfl)
            | ((with_reducible apply wpL_cmp (b := false)); rfl; rfl; rfl; (first | rfl | assumption | (simp only [cmpB, decide_eq_true_eq, decide_eq_false_iff_not, beq_iff_eq, bne_iff_ne, ne_eq, beq_eq_false_iff_ne, bne_eq_false_iff_eq, gt_iff_lt, ge_iff_le]; omega) | (simp; omega)); rfl)
            | ((with_reducible apply wpL_cmp); rfl; rfl; rfl; rfl; rfl)
            | ((with_reducible apply wpL_arith); rfl; rfl; rfl; (exact IntWalk.i64_in _ (by (try simp only [arithI]); omega)); rfl)); (try simp only [arithI, Act.put, Act.eval, List.setIfInBounds_toArray, List.set_cons_succ, List.set_cons_zero, Array.getD_eq_getD_getElem?, List.getElem?_toArray, List.getElem?_cons_succ, List.getElem?_cons_zero, Option.getD_some])))
      refine bodyPost_end (results_none rfl _ _ _) rfl ⟨rfl, ?_⟩
      have e := HAB.out
      rw [hdn.out] at e
      rw [e]
      exact ⟨_, ex, HE.out, fun p hp => ⟨HXB.out p hp, HH.out.blk p (List.mem_cons_of_mem _ hp)⟩, HXN.out, HH.out.turned .here⟩
end Go.Proofs.Ytgkfopodhikckaa

/- New, Write, Len, Clone of sha256's Hash. Condition: at most a million bytes. -/
namespace Go.Proofs.Ytgkfopodhikckaa
open Go.RowKit
theorem Holds.hashBy {w0 w w' : World} {S : List Nat} {bs : List (Nat × Obj)} {rows : List Row} {g n : Nat} {o : Obj} {s : St} {r : List UInt8} (h : Holds w0 S bs rows w) (ho : Own bs g o) (hT : ∀ o', ∃ bs', Turn bs g o o' bs') (hH : HashOut w g s r n w') :
    ∃ rv ex bs', Turn bs g o (objC (hcells s rv n) 118) bs' ∧ RestEx ex rv r ∧ (∀ p ∈ ex, w.heap.size ≤ p.1) ∧ (ex.map (·.1)).Nodup ∧ Holds w0 S (bs' ++ ex) rows w' := by
  obtain ⟨rv, ex, hre, hex, hnd, ht⟩ := hH
  obtain ⟨bs', hturn⟩ := hT (objC (hcells s rv n) 118)
  refine ⟨rv, ex, bs', hturn, hre, fun p hp => (hex p hp).1, hnd, ?_⟩
  refine Holds.addBlks (h.turnedBy hturn ht) ht.size ?_ (fun q hq k hk => (h.rowlt hq k hk).2) h.size hex hnd
  obtain ⟨pre, post, rfl, rfl⟩ := hturn.split
  intro p hp
  have : ∃ q ∈ pre ++ (g, o) :: post, q.1 = p.1 := by
    rcases List.mem_append.1 hp with a | a
    · exact ⟨p, List.mem_append.2 (.inl a), rfl⟩
    · rcases List.mem_cons.1 a with rfl | a
      · exact ⟨(g, o), by simp, rfl⟩
      · exact ⟨p, List.mem_append.2 (.inr (List.mem_cons_of_mem _ a)), rfl⟩
  obtain ⟨q, hq, e⟩ := this
  rw [← e]
  exact h.lt hq
theorem Holds.oldCell {w w' : World} {bs : List (Nat × Obj)} {rows : List Row} (h : Holds w [] bs rows w') {g j : Nat} {cs : List Value} {e : TypeId} {v : Value} (hg : w.heap[g]? = some (objC cs e)) (hv : cs[j]? = some v) : w'.cell? ⟨g, j, none⟩ = some v := by
  have hlt := (Array.getElem?_eq_some_iff.1 hg).1
  simp [World.cell?, h.old g hlt (by simp), hg, objC, hv]
theorem wpL_loadAt {w : World} {ops : Array Oper} {rest : List Oper} {a : Act} {dst : Option Tmp} {ty : TypeId} {pos : String} {after : Array Edge} {guard : Option (Nat × Bool)} {Q : Exit → Act → World → Prop} {P : Program} {t : TypeId} (hA : OneT P t) {x : Operand} {ad : Addr} {v : Value} (hc : w.cell? ad = some v) (hx : a.eval x = .pointer (some ad))
    (hg : Region.wanted { dst := dst, op := .load t x, type := ty, pos := pos, after := after, guard := guard } (yielded ops a.tmps) = true)
    (h : wpList P ops Q rest (a.put dst v) w) : wpList P ops Q ({ dst := dst, op := .load t x, type := ty, pos := pos, after := after, guard := guard } :: rest) a w := by
  obtain ⟨d, hu, hd⟩ := hA
  exact wpList_ex hg (ex_load_one (ρ := a.eval) hx hu hd hc) h
def zh : List Value := (List.replicate 8 (0 : W32)).map wrd ++ [.slice none 0 0, .int .i64 0, .bool false]
theorem Z118 : (Try.prog.info? 118).map (·.zero) = some (some (.agg zh.toArray)) := by kernel_rfl
theorem A118 : AggT Try.prog 118 11 := ⟨_, Try.underlying118, rfl, by kernel_rfl⟩
theorem S118 : (Try.prog.info? 118).map (·.size) = some 11 := by kernel_rfl
theorem hcells_one {s : St} {ao : Option Addr} {k c n : Nat} : ∀ u ∈ hcells s (.slice ao k c) n, u.oneCell' = true := by
  intro u hu
  simp only [hcells, List.mem_append, List.mem_cons, List.not_mem_nil, or_false] at hu
  rcases hu with hu | rfl | rfl | rfl
  · exact wrd_one _ u hu
  · rfl
  · rfl
  · rfl
/-- A new Hash. -/
def NewOut (w : World) (s : St) (r : List UInt8) (n : Nat) (e : Ending) (w' : World) : Prop :=
  ∃ g rv ex, e = .returned (.pointer (some ⟨g, 0, none⟩)) ∧ RestEx ex rv r ∧ (∀ p ∈ (g, objC (hcells s rv n) 118) :: ex, w.heap.size ≤ p.1 ∧ w'.heap[p.1]? = some p.2) ∧ (((g, objC (hcells s rv n) 118) :: ex).map (·.1)).Nodup ∧ Below w.heap.size w w'
theorem Holds.newBy {w0 w w' : World} {S : List Nat} {bs ex : List (Nat × Obj)} {rows : List Row} (h : Holds w0 S bs rows w) (hex : ∀ p ∈ ex, w.heap.size ≤ p.1 ∧ w'.heap[p.1]? = some p.2) (hnd : (ex.map (·.1)).Nodup) (hb : Below w.heap.size w w') : Holds w0 S (bs ++ ex) rows w' :=
  Holds.addBlks (h.grow hb) hb.size (fun p hp => h.lt hp) (fun q hq k hk => (h.rowlt hq k hk).2) h.size hex hnd
set_option maxRecDepth 100000 in
set_option maxHeartbeats 2000000 in
theorem new_any (w : World) : Calls Try.prog 32 #[] w (NewOut w initS [] 0) := by
  have HH := hid (Holds.init w)
  go_enter Try.func32, Try.ntmps32
  go_wp2_with (first
    | ((first
        | ((with_reducible apply wpL_skip); rfl; skip)
        | (go_at_call 63; refine (initial_any _).mono ?_; rintro e w2 ⟨rfl, hb⟩; (have hq_ := HH.out.grow hb); clear HH; have HH := hid hq_; clear hq_ hb)
        | ((with_reducible apply wpList_build (v := .agg (hcells initS (.slice none 0 0) 0).toArray)); (exact build118 initS); rfl)
        | ((with_reducible apply wpL_boxC (cs := hcells initS (.slice none 0 0) 0)); rfl; (exact HH.out); rfl; (intro g_ w_ hq_; clear HH; have HH := hid hq_; clear hq_))
        | ((with_reducible apply wpL_move); rfl; rfl)
        | ((with_reducible apply wpL_assign); rfl; rfl)
        | ((with_reducible apply wpL_pick); rfl; rfl; rfl)
        | ((with_reducible apply wpL_not); rfl; rfl)
        | ((with_reducible apply wpL_cmp (b := true)); rfl; rfl; rfl; (first | rfl | assumption | (simp only [cmpB, decide_eq_true_eq, decide_eq_false_iff_not, beq_iff_eq, bne_iff_ne, ne_eq, beq_eq_false_iff_ne, bne_eq_false_iff_eq, gt_iff_lt, ge_iff_le]; omega) | (simp; omega)); rfl)
        | ((with_reducible apply wpL_cmp (b := false)); rfl; rfl; rfl; (first | rfl | assumption | (simp only [cmpB, decide_eq_true_eq, decide_eq_false_iff_not, beq_iff_eq, bne_iff_ne, ne_eq, beq_eq_false_iff_ne, bne_eq_false_iff_eq, gt_iff_lt, ge_iff_le]; omega) | (simp; omega)); rfl)
        | ((with_reducible apply wpL_cmp); rfl; rfl; rfl; rfl; rfl)
        | ((with_reducible apply wpL_arith); rfl; rfl; rfl; (exact IntWalk.i64_in _ (by (try simp only [arithI]); omega)); rfl)); (try simp only [arithI, Act.put, Act.eval, List.setIfInBounds_toArray, List.set_cons_succ, List.set_cons_zero, Array.getD_eq_getD_getElem?, List.getElem?_toArray, List.getElem?_cons_succ, List.getElem?_cons_zero, Option.getD_some])))
  go_ret
  refine ⟨g_, .slice none 0 0, [], rfl, RestEx.nil _, ?_, by simp, HH.out.below⟩
  intro p hp
  rw [List.mem_singleton.1 hp]
  exact ⟨(HH.out.frs _ List.mem_cons_self).resolve_right (by simp), HH.out.blk _ List.mem_cons_self⟩
set_option maxRecDepth 100000 in
set_option maxHeartbeats 2000000 in
theorem write_any (w : World) (g : Nat) (s : St) (rv vb : Value) (r b : List UInt8) (n : Nat) (hg : w.heap[g]? = some (objC (hcells s rv n) 118)) (hr : Byts w rv r) (hb : Byts w vb b) (hn : r.length + b.length ≤ 1000000) (hn2 : n ≤ 1000000000) :
    Calls Try.prog 34 #[.pointer (some ⟨g, 0, none⟩), vb] w (fun e w' => e = .returned (.int .i64 0) ∧ HashOut w g (absorb s (r ++ b)).1 (absorb s (r ++ b)).2 (n + b.length) w') := by
  obtain ⟨ab, cb, rfl, _⟩ := hb.shape
  have HH := hid (Holds.initS hg)
  have HG := hid hg
  have HR := hid hr
  have HB := hid hb
  clear hg hr hb
  go_enter Try.func34, Try.ntmps34
  go_wp2_with (first
    | ((first
        | ((with_reducible apply wpL_skip); rfl; skip)
        | (go_at_call 64; refine (take_any _ g s rv _ r b n HG.out HR.out HB.out hn).mono ?_; rintro e w2 ⟨rfl, hb⟩; (obtain ⟨rv2, ex, bs2, hturn, hre, hexb, hexn, hq_⟩ := HH.out.hashBy .here (fun o' => ⟨_, .here⟩) hb); (rcases hturn with _ | ⟨⟨⟩⟩); (have hq2_ : Holds w [g] ((g, objC (hcells (absorb s (r ++ b)).1 rv2 n) 118) :: ex) [] w2 := hq_); clear HH hq_ hb; have HH := hid hq2_; clear hq2_; have HE := hid hre; have HXB := hid hexb; have HXN := hid hexn; clear hre hexb hexn)
        | ((with_reducible apply wpL_nilCheck); rfl; rfl)
        | ((with_reducible apply wpL_fieldAddr (t := 118)); (first | exact F118_0 | exact F118_1 | exact F118_2 | exact F118_3); rfl; rfl)
        | ((with_reducible apply wpL_load1 (v := .int .i64 n) O3 HH.out); rfl; (exact .here); rfl; rfl)
        | ((with_reducible apply wpL_store1 (v := .int .i64 ((n + b.length : Nat) : Int)) (cs := hcells (absorb s (r ++ b)).1 rv2 n)); rfl; rfl; rfl; (exact S3); (exact HH.out); (exact .here); rfl; (exact (by simp [hcells, St.ws])); rfl; (intro w_ hq_; (have hq2_ : Holds w [g] ((g, objC (hcells (absorb s (r ++ b)).1 rv2 (n + b.length)) 118) :: ex) [] w_ := hq_); clear HH hq_; have HH := hid hq2_; clear hq2_))
        | ((with_reducible apply wpL_move); rfl; rfl)
        | ((with_reducible apply wpL_assign); rfl; rfl)
        | ((with_reducible apply wpL_pick); rfl; rfl; rfl)
        | ((with_reducible apply wpL_not); rfl; rfl)
        | ((with_reducible apply wpL_cmp (b := true)); rfl; rfl; rfl; (first | rfl | assumption | (simp only [cmpB, decide_eq_true_eq, decide_eq_false_iff_not, beq_iff_eq, bne_iff_ne, ne_eq, beq_eq_false_iff_ne, bne_eq_false_iff_eq, gt_iff_lt, ge_iff_le]; omega) | (simp; omega)); rfl)
        | ((with_reducible apply wpL_cmp (b := false)); rfl; rfl; rfl; (first | rfl | assumption | (simp only [cmpB, decide_eq_true_eq, decide_eq_false_iff_not, beq_iff_eq, bne_iff_ne, ne_eq, beq_eq_false_iff_ne, bne_eq_false_iff_eq, gt_iff_lt, ge_iff_le]; omega) | (simp; omega)); rfl)
        | ((with_reducible apply wpL_cmp); rfl; rfl; rfl; rfl; rfl)
        | ((with_reducible apply wpL_arith); rfl; rfl; rfl; (exact IntWalk.i64_in _ (by (try simp only [arithI]); omega)); rfl)); (try simp only [arithI, Act.put, Act.eval, List.setIfInBounds_toArray, List.set_cons_succ, List.set_cons_zero, Array.getD_eq_getD_getElem?, List.getElem?_toArray, List.getElem?_cons_succ, List.getElem?_cons_zero, Option.getD_some])))
  go_ret
  exact ⟨rfl, rv2, ex, HE.out, fun p hp => ⟨HXB.out p hp, HH.out.blk p (List.mem_cons_of_mem _ hp)⟩, HXN.out, HH.out.turned .here⟩
set_option maxRecDepth 100000 in
set_option maxHeartbeats 2000000 in
theorem clone_any (w : World) (g : Nat) (s : St) (rv : Value) (r : List UInt8) (n : Nat) (hg : w.heap[g]? = some (objC (hcells s rv n) 118)) (hr : Byts w rv r) (hn : r.length ≤ 1000000) :
    Calls Try.prog 40 #[.pointer (some ⟨g, 0, none⟩)] w (NewOut w s r n) := by
  obtain ⟨ar, cr, rfl, _⟩ := hr.shape
  have HH := hid (Holds.init w)
  have HG := hid hg
  have HR := hid hr
  clear hg hr
  go_enter Try.func40, Try.ntmps40
  go_wp2_with (first
    | ((first
        | ((with_reducible apply wpL_skip); rfl; skip)
        | ((with_reducible apply wpL_nilCheck); rfl; rfl)
        | ((with_reducible apply wpList_load_agg (t := 118) (x := .tmp 7) A118 (cs := hcells s (.slice ar r.length cr) n) rfl (show ∀ j u, (hcells s (.slice ar r.length cr) n)[j]? = some u → w.cell? ((⟨g, 0, none⟩ : Addr).add j) = some u from fun j u hu => by rw [show (⟨g, 0, none⟩ : Addr).add j = ⟨g, j, none⟩ by unfold Addr.add; split <;> simp_all]; simp [World.cell?, HG.out, objC, hu])); rfl; rfl)
        | ((with_reducible apply wpL_allocC Z118 HH.out); rfl; (intro g2 w_ hq_; clear HH; have HH := hid hq_; clear hq_))
        | ((with_reducible apply wpL_storeC (vs := hcells s (.slice ar r.length cr) n) (x := .tmp 3) (sz := 11)); rfl; rfl; (exact S118); (exact HH.out); (exact .here); rfl; (exact hcells_one); rfl; rfl; (intro w_ hq_; clear HH; have HH := hid hq_; clear hq_))
        | ((with_reducible apply wpL_buildB []); rfl; rfl; (exact (by omega)); (exact HH.out); rfl; (intro g_ w_ hq_; clear HH; have HH := hid hq_; clear hq_))
        | ((with_reducible apply wpL_fieldAddr (t := 118)); (first | exact F118_0 | exact F118_1 | exact F118_2 | exact F118_3); rfl; rfl)
        | ((with_reducible apply wpL_loadAt O22 (HH.out.oldCell HG.out (j := 8) (v := .slice ar r.length cr) rfl)); rfl; rfl)
        | ((with_reducible apply wpL_appendB (l := []) (l2 := r) HH.out (HH.out.sl HR.out)); rfl; rfl; (exact (by simp; omega)); rfl; rfl; rfl; (intro ao1 cap1 w_ hq_; clear HH; have HH := hid hq_; clear hq_))
        | ((with_reducible apply wpL_store1 (v := .slice ao1 r.length cap1) (cs := hcells s (.slice ar r.length cr) n)); rfl; rfl; rfl; (exact S22); (exact HH.out); (exact .here); rfl; (exact (by simp [hcells, St.ws])); rfl; (intro w_ hq_; (have hq2_ : Holds w [] [(g2, objC (hcells s (.slice ao1 r.length cap1) n) 118)] [rowB ao1 cap1 r] w_ := hq_); clear HH hq_; have HH := hid hq2_; clear hq2_))
        | ((with_reducible apply wpL_move); rfl; rfl)
        | ((with_reducible apply wpL_assign); rfl; rfl)
        | ((with_reducible apply wpL_pick); rfl; rfl; rfl)
        | ((with_reducible apply wpL_not); rfl; rfl)
        | ((with_reducible apply wpL_cmp (b := true)); rfl; rfl; rfl; (first | rfl | assumption | (simp only [cmpB, decide_eq_true_eq, decide_eq_false_iff_not, beq_iff_eq, bne_iff_ne, ne_eq, beq_eq_false_iff_ne, bne_eq_false_iff_eq, gt_iff_lt, ge_iff_le]; omega) | (simp; omega)); rfl)
        | ((with_reducible apply wpL_cmp (b := false)); rfl; rfl; rfl; (first | rfl | assumption | (simp only [cmpB, decide_eq_true_eq, decide_eq_false_iff_not, beq_iff_eq, bne_iff_ne, ne_eq, beq_eq_false_iff_ne, bne_eq_false_iff_eq, gt_iff_lt, ge_iff_le]; omega) | (simp; omega)); rfl)
        | ((with_reducible apply wpL_cmp); rfl; rfl; rfl; rfl; rfl)
        | ((with_reducible apply wpL_arith); rfl; rfl; rfl; (exact IntWalk.i64_in _ (by (try simp only [arithI]); omega)); rfl)); (try simp only [arithI, Act.put, Act.eval, List.setIfInBounds_toArray, List.set_cons_succ, List.set_cons_zero, Array.getD_eq_getD_getElem?, List.getElem?_toArray, List.getElem?_cons_succ, List.getElem?_cons_zero, Option.getD_some])))
  go_ret
  obtain ⟨ex, hre, hexb, hexn, hh⟩ := HH.out.rowEx
  have hnd := (List.nodup_append.1 hh.sep).1
  refine ⟨g2, _, ex, rfl, hre, fun p hp => ⟨(hh.frs p hp).resolve_right (by simp), hh.blk p hp⟩, hnd, hh.below⟩
end Go.Proofs.Ytgkfopodhikckaa

/- The library's Builder: what a caller's memory holds behind WriteByte. Condition: at most a million bytes. -/
namespace Go.Proofs.Ytgkfopodhikckaa
open Go.RowKit
section
variable {w w0 : World} {S : List Nat} {bs bs' : List (Nat × Obj)} {rows : List Row} {ops : Array Oper} {rest : List Oper} {a : Act} {dst : Option Tmp} {ty : TypeId} {pos : String} {after : Array Edge} {guard : Option (Nat × Bool)} {Q : Exit → Act → World → Prop}
end
@[reducible] def selfP (b : Nat) : Value := .pointer (some ⟨b, 0, none⟩)
end Go.Proofs.Ytgkfopodhikckaa

/- The library's Builder handed back as a string; Hex of ascii, String of a digest. Condition: some bytes, at most half a million. -/
namespace Go.Proofs.Ytgkfopodhikckaa
open Go.RowKit
section
variable {w w0 : World} {S : List Nat} {bs bs' : List (Nat × Obj)} {rows : List Row} {ops : Array Oper} {rest : List Oper} {a : Act} {dst : Option Tmp} {ty : TypeId} {pos : String} {after : Array Edge} {guard : Option (Nat × Bool)} {Q : Exit → Act → World → Prop} {P : Program} {C : World → Prop} {K : Act → Prop}
theorem Holds.lostRow {r : Row} (h : Holds w0 S bs (r :: rows) w) {w' : World} (hg : w.grownBy w' r.v.ownBlock) : Holds w0 S bs rows w' :=
  (Holds.grownRow (v' := .slice none 0 0) (n' := 0) (xs' := []) h hg (.inr fun k hk => by simp [Value.ownBlock] at hk) (World.ownsRow_nil _ _ _ _)).dropRow
end
end Go.Proofs.Ytgkfopodhikckaa

/- Strings and bytes: indexed, held against each other, made of bytes. Over any program. No condition. -/
namespace Go.Proofs.Ytgkfopodhikckaa
open Go.RowKit
section
variable {P : Program} {w : World} {ρ : Operand → Value} {dst : Option Tmp} {ty : TypeId} {pos : String} {after : Array Edge} {guard : Option (Nat × Bool)}
end
theorem bits_and (k : IntKind) (x y : Nat) (hx : x < 2 ^ k.bits) (hy : y < 2 ^ k.bits) : (BitVec.ofInt k.bits (x : Int) &&& BitVec.ofInt k.bits (y : Int)).toNat = x &&& y := by
  rw [BitVec.toNat_and, BitVec.ofInt_natCast, BitVec.ofInt_natCast, BitVec.toNat_ofNat, BitVec.toNat_ofNat, Nat.mod_eq_of_lt hx, Nat.mod_eq_of_lt hy]
section
variable {P : Program} {w : World} {ρ : Operand → Value} {dst : Option Tmp} {ty : TypeId} {pos : String} {after : Array Edge} {guard : Option (Nat × Bool)}
theorem ex_and {t yt : TypeId} {x y : Operand} {k : IntKind} {p q : Int} {m n : Nat} {r : Nat} (hx : ρ x = .int k p) (hy : ρ y = .int k q) (hp : p = (m : Int)) (hq : q = (n : Int)) (hm : m < 2 ^ k.bits) (hn : n < 2 ^ k.bits) (hr : m &&& n = r) (hw : k.wrap (r : Int) = (r : Int)) (w : World) :
    (execOp ρ { dst := dst, op := .binOp .and t x y yt, type := ty, pos := pos, after := after, guard := guard }).run P w = .ok (.value (.int k (r : Int))) w := by
  subst hp hq hr
  have he : ∀ u v, eqGuard .and t x y u v = pure () := fun _ _ => rfl
  have hr : (binOp .and t (.int k (m : Int)) (.int k (n : Int))).run P w = .ok (.int k ((m &&& n : Nat) : Int)) w := by
    have e : binOp .and t (.int k (m : Int)) (.int k (n : Int)) = Op.intBits .and k (m : Int) (n : Int) := by cases k <;> rfl
    rw [e]
    simp only [Op.intBits, Sem.run_pure]
    rw [bits_and k m n hm hn, hw]
  simp only [execOp, hx, hy, Sem.run_bind, he, Sem.run_pure, Result.andThen_ok, hr]
end
section
variable {P : Program} {ops : Array Oper} {rest : List Oper} {a : Act} {dst : Option Tmp} {ty : TypeId} {pos : String} {after : Array Edge} {guard : Option (Nat × Bool)} {C : World → Prop} {K : Act → Prop} {w : World} {Q : Exit → Act → World → Prop}
theorem wpL_and {t yt : TypeId} {x y : Operand} {k : IntKind} {p q : Int} {m n : Nat} {r : Nat} (hx : a.eval x = .int k p) (hy : a.eval y = .int k q) (hp : p = (m : Int)) (hq : q = (n : Int)) (hm : m < 2 ^ k.bits) (hn : n < 2 ^ k.bits) (hr : m &&& n = r) (hw : k.wrap (r : Int) = (r : Int))
    (hg : Region.wanted { dst := dst, op := .binOp .and t x y yt, type := ty, pos := pos, after := after, guard := guard } (yielded ops a.tmps) = true)
    (h : wpList P ops Q rest (a.put dst (.int k (r : Int))) w) : wpList P ops Q ({ dst := dst, op := .binOp .and t x y yt, type := ty, pos := pos, after := after, guard := guard } :: rest) a w :=
  wpList_ex hg (ex_and (ρ := a.eval) hx hy hp hq hm hn hr hw w) h
end
end Go.Proofs.Ytgkfopodhikckaa

/- Hex of ascii, String of a digest. Condition: some bytes, at most two hundred thousand. -/
namespace Go.Proofs.Ytgkfopodhikckaa
open Go.RowKit
section
variable {P : Program} {ops : Array Oper} {rest : List Oper} {a : Act} {dst : Option Tmp} {ty : TypeId} {pos : String} {after : Array Edge} {guard : Option (Nat × Bool)} {w w0 : World} {S : List Nat} {bs : List (Nat × Obj)} {rows : List Row} {Q : Exit → Act → World → Prop} {C : World → Prop} {K : Act → Prop}
theorem wpL_idxB {t e : TypeId} {bytes : Nat} (hE : Elem P t e 1 bytes) {x i : Operand} {ad : Addr} {n c j : Nat} {q : Int} {k : IntKind} (hx : a.eval x = .slice (some ad) n c) (hi : a.eval i = .int k q) (hq : q = (j : Int)) (hj : j < n)
    (hg : Region.wanted { dst := dst, op := .indexAddr t x i, type := ty, pos := pos, after := after, guard := guard } (yielded ops a.tmps) = true)
    (h : wpList P ops Q rest (a.put dst (.pointer (some (ad.add j)))) w) : wpList P ops Q ({ dst := dst, op := .indexAddr t x i, type := ty, pos := pos, after := after, guard := guard } :: rest) a w :=
  wpList_ex hg (ex_index (ρ := a.eval) hE hx hi hq hj w) (by rw [Nat.mul_one]; exact h)
theorem wpL_idx {t e : TypeId} {sz bytes : Nat} (hE : Elem P t e sz bytes) {x i : Operand} {ad : Addr} {n c j : Nat} {q : Int} {k : IntKind} (hx : a.eval x = .slice (some ad) n c) (hi : a.eval i = .int k q) (hq : q = (j : Int)) (hj : j < n)
    (hg : Region.wanted { dst := dst, op := .indexAddr t x i, type := ty, pos := pos, after := after, guard := guard } (yielded ops a.tmps) = true)
    (h : wpList P ops Q rest (a.put dst (.pointer (some (ad.add (j * sz))))) w) : wpList P ops Q ({ dst := dst, op := .indexAddr t x i, type := ty, pos := pos, after := after, guard := guard } :: rest) a w :=
  wpList_ex hg (ex_index (ρ := a.eval) hE hx hi hq hj w) h
theorem Holds.addNil (h : Holds w0 S bs rows w) (e : TypeId) (sz : Nat) : Holds w0 S bs (⟨.slice none 0 0, e, sz, 0, []⟩ :: rows) w :=
  h.addRow (Below.refl _ _) (World.ownsRow_nil _ _ _ _)
/-- A whole array that lies in a block of the call's own, taken as a slice. -/
theorem Byts.ofArr {n : Nat} {x : Arr n} (h : Holds w0 S bs rows w) {g : Nat} {e : TypeId} (ho : Own bs g (objC x.cells e)) {m cap : Nat} (hm : m ≤ n) (hc : m ≤ cap) : Byts w (.slice (some ⟨g, 0, none⟩) m cap) (x.1.take m) := by
  have hl : (x.1.take m).length = m := by rw [List.length_take, x.2]; omega
  refine ⟨_, cap, by rw [hl], by omega, by simp, fun j u hu => ⟨_, rfl, ?_⟩⟩
  have hadd : (⟨g, 0, none⟩ : Addr).add j = ⟨g, j, none⟩ := by unfold Addr.add; split <;> simp_all
  rw [hadd, cell_own h ho j, List.getElem?_toArray]
  rw [List.map_take, List.getElem?_take] at hu
  split at hu
  · exact hu
  · cases hu
theorem Byts.ofArrAll {n : Nat} {x : Arr n} (h : Holds w0 S bs rows w) {g : Nat} {e : TypeId} (ho : Own bs g (objC x.cells e)) : Byts w (.slice (some ⟨g, 0, none⟩) n n) x.1 := by
  have := Byts.ofArr h ho (Nat.le_refl n) (Nat.le_refl n)
  rwa [List.take_of_length_le (by rw [x.2]; omega)] at this
theorem wpL_sliceArrTo {t e : TypeId} {n sz : Nat} (ht : P.underlying t = some (.array n e)) (hz : (P.info? e).map (·.size) = some sz) {x hi : Operand} {g m : Nat} {k : IntKind} {q : Int} (hx : a.eval x = .pointer (some ⟨g, 0, none⟩)) (hh : a.eval hi = .int k q) (hq : q = (m : Int)) (hm : m ≤ n)
    (hg : Region.wanted { dst := dst, op := .slice t x none (some hi) none, type := ty, pos := pos, after := after, guard := guard } (yielded ops a.tmps) = true)
    (h : wpList P ops Q rest (a.put dst (.slice (some ⟨g, 0, none⟩) m n)) w) : wpList P ops Q ({ dst := dst, op := .slice t x none (some hi) none, type := ty, pos := pos, after := after, guard := guard } :: rest) a w := by
  subst hq
  refine wpList_ex hg ?_ h
  simp [execOp, hx, hh, Instr.sliceAt, Instr.slice, Instr.sliceBounds, Instr.sliceBound, asIntOf, run_underlying ht, run_sizeOf hz, Addr.add, Instr.sureAddr, hm]
end
end Go.Proofs.Ytgkfopodhikckaa

/- The plain law of the known digests: evaluated. No condition. -/
namespace Go.Proofs.Ytgkfopodhikckaa
def blocksP (p : List UInt8) : Nat → St
  | 0 => initS
  | t + 1 => processS (blocksP p t) (loadL (p.drop (64 * t)))
theorem blocksN_P (p : List UInt8) : ∀ t, blocksN p t = blocksP p t
  | 0 => rfl
  | t + 1 => by rw [blocksN, blocksP, blocksN_P p t, process_block]
theorem sumB_P (l : List UInt8) : sumB l = outB (blocksP (l ++ padL l.length) ((l ++ padL l.length).length / 64)) := by
  unfold sumB; rw [blocksN_P]
end Go.Proofs.Ytgkfopodhikckaa

/- Sum of sha256's Hash. Condition: at most a million bytes. -/
namespace Go.Proofs.Ytgkfopodhikckaa
open Go.RowKit
theorem Z25 : (Try.prog.info? 25).map (·.zero) = some (some (.agg z32.toArray)) := by kernel_rfl
theorem A25 : AggT Try.prog 25 32 := ⟨_, Try.underlying25, rfl, by kernel_rfl⟩
theorem S25 : (Try.prog.info? 25).map (·.size) = some 32 := by kernel_rfl
theorem outByte_at (s : St) (i c : Nat) (hc : c < 4) : outByte s (4 * i + c) = w2b (s.ws.getD i 0 >>> (24 - 8 * c)) := by
  unfold outByte
  rw [show (4 * i + c) / 4 = i by omega, show (4 * i + c) % 4 = c by omega]
def SPadRel1 (w : World) (n : Nat) (g2 gc : Nat) (o : Obj) (exc : List (Nat × Obj)) (v : Value) (wr : World) : Prop :=
  ∃ k : Nat, k ≤ padZ n ∧ ∃ ao cap, v = .slice ao (128 :: List.replicate k 0 : List UInt8).length cap ∧ Holds w [] ((g2, objC z32 25) :: (gc, o) :: exc) [rowB ao cap (128 :: List.replicate k 0)] wr
def SPadRel2 (w : World) (l : List UInt8) (n : Nat) (g2 gc : Nat) (o : Obj) (exc : List (Nat × Obj)) (v i : Value) (wr : World) : Prop :=
  ∃ j : Nat, j ≤ 8 ∧ i = .int .i64 (7 - j) ∧ ∃ ao cap, v = .slice ao (l ++ lenBs n j).length cap ∧ Holds w [] ((g2, objC z32 25) :: (gc, o) :: exc) [rowB ao cap (l ++ lenBs n j)] wr
def SOutRel (w : World) (h : St) (g2 g6 : Nat) (bs : List (Nat × Obj)) (rows : List Row) (i : Value) (wr : World) : Prop :=
  ∃ t : Nat, t ≤ 8 ∧ i = .int .i64 t ∧ Holds w [] ((g6, objC ((fillB (outByte h) 32 (4 * t)).map byt) 25) :: (g2, objC z32 25) :: bs) rows wr
theorem take_own (w0 w : World) (g2 gc : Nat) (o2 : Obj) (s : St) (rvc : Value) (n : Nat) (exc : List (Nat × Obj)) (ao : Option Addr) (cap : Nat) (r b : List UInt8)
    (h : Holds w0 [] ((g2, o2) :: (gc, objC (hcells s rvc n) 118) :: exc) [rowB ao cap b] w) (hre : RestEx exc rvc r) (hn : r.length + b.length ≤ 1000000) :
    Calls Try.prog 64 #[.pointer (some ⟨gc, 0, none⟩), .slice ao b.length cap] w (fun e w' => e = .returned (.tuple #[]) ∧ ∃ rv2 ex, Holds w0 [] ((g2, o2) :: (gc, objC (hcells (absorb s (r ++ b)).1 rv2 n) 118) :: (exc ++ ex)) [rowB ao cap b] w') := by
  have h1 : w.heap[gc]? = some (objC (hcells s rvc n) 118) := h.blk (gc, _) (List.mem_cons_of_mem _ List.mem_cons_self)
  have h2 : Byts w rvc r := hre.byts h fun q hq => List.mem_cons_of_mem _ (List.mem_cons_of_mem _ hq)
  have h3 : Byts w (.slice ao b.length cap) b := h.sl0
  refine (take_any w gc s rvc _ r b n h1 h2 h3 hn).mono fun e w' ⟨he, ho⟩ => ⟨he, ?_⟩
  obtain ⟨rv2, ex, bs2, hturn, _, _, _, hq⟩ := h.hashBy (.there .here) (fun o' => ⟨_, .there .here⟩) ho
  have e2 : ∀ {o' : Obj} {bs2}, Turn ((g2, o2) :: (gc, objC (hcells s rvc n) 118) :: exc) gc (objC (hcells s rvc n) 118) o' bs2 → g2 ≠ gc → bs2 = (g2, o2) :: (gc, o') :: exc ∨ ∃ l', Turn exc gc (objC (hcells s rvc n) 118) o' l' := by
    intro o' bs2 ht hne
    cases ht with
    | here => exact absurd rfl hne
    | there ht2 =>
      cases ht2 with
      | here => exact .inl rfl
      | there ht3 => exact .inr ⟨_, ht3⟩
  have hs := h.sep
  simp only [List.map_cons, List.cons_append, List.nodup_cons, List.mem_cons, List.mem_append, not_or] at hs
  rcases e2 hturn (fun e => hs.1.1 e) with rfl | ⟨l', ht⟩
  · exact ⟨rv2, ex, hq⟩
  · exact absurd (List.mem_map.2 ⟨_, ht.own.mem, rfl⟩) hs.2.1.1
set_option maxRecDepth 100000 in
set_option maxHeartbeats 4000000 in
theorem sum_any (w : World) (g : Nat) (s : St) (rv : Value) (r : List UInt8) (n : Nat) (hg : w.heap[g]? = some (objC (hcells s rv n) 118)) (hr : Byts w rv r) (hrl : r.length ≤ 1000000 - 1000) (hn : n ≤ 1000000) :
    Calls Try.prog 33 #[.pointer (some ⟨g, 0, none⟩)] w (RetA w (outB (absorb s (r ++ padL n)).1)) := by
  have HH := hid (Holds.init w)
  have HG := hid hg
  have HR := hid hr
  clear hg hr
  go_enter Try.func33, Try.ntmps33
  go_wp2_with (first
    | ((first
        | ((with_reducible apply wpL_skip); rfl; skip)
        | ((with_reducible apply wpL_allocC (dst := some 2) Z25 HH.out); rfl; (intro g2 w_ hq_; clear HH; have HH := hid hq_; clear hq_))
        | (go_at_call 40; refine (clone_any _ g s rv r n (by have := HH.out.old g (Array.getElem?_eq_some_iff.1 HG.out).1 (by simp); rw [this]; exact HG.out) (HH.out.sl HR.out) (by omega)).mono ?_; rintro e w2 ⟨gc, rvc, exc, rfl, hre, hex, hnd, hb⟩; (have hq_ : Holds w [] ((g2, objC z32 25) :: (gc, objC (hcells s rvc n) 118) :: exc) [] w2 := HH.out.newBy hex hnd hb); clear HH hb hex hnd; have HH := hid hq_; clear hq_; have HE := hid hre; clear hre)
        | ((with_reducible apply wpL_buildB [128] (dst := some 15)); rfl; rfl; (exact (by omega)); (exact HH.out); rfl; (intro g_ w_ hq_; clear HH; have HH := hid hq_; clear hq_))
        | ((with_reducible apply wpL_move); rfl; rfl)
        | ((with_reducible apply wpL_assign); rfl; rfl)
        | ((with_reducible apply wpL_pick); rfl; rfl; rfl)
        | ((with_reducible apply wpL_not); rfl; rfl)
        | ((with_reducible apply wpL_cmp (b := true)); rfl; rfl; rfl; (first | rfl | assumption | (simp only [cmpB, decide_eq_true_eq, decide_eq_false_iff_not, beq_iff_eq, bne_iff_ne, ne_eq, beq_eq_false_iff_ne, bne_eq_false_iff_eq, gt_iff_lt, ge_iff_le]; omega) | (simp; omega)); rfl)
        | ((with_reducible apply wpL_cmp (b := false)); rfl; rfl; rfl; (first | rfl | assumption | (simp only [cmpB, decide_eq_true_eq, decide_eq_false_iff_not, beq_iff_eq, bne_iff_ne, ne_eq, beq_eq_false_iff_ne, bne_eq_false_iff_eq, gt_iff_lt, ge_iff_le]; omega) | (simp; omega)); rfl)
        | ((with_reducible apply wpL_cmp); rfl; rfl; rfl; rfl; rfl)
        | ((with_reducible apply wpL_arith); rfl; rfl; rfl; (exact IntWalk.i64_in _ (by (try simp only [arithI]); omega)); rfl)); (try simp only [arithI, Act.put, Act.eval, List.setIfInBounds_toArray, List.set_cons_succ, List.set_cons_zero, Array.getD_eq_getD_getElem?, List.getElem?_toArray, List.getElem?_cons_succ, List.getElem?_cons_zero, Option.getD_some])))
  go_loopw [4] (SPadRel1 w n g2 gc (objC (hcells s rvc n) 118) exc) (fun v _ => 1 + padZ n - lenV v)
  case atStart => exact ⟨0, Nat.zero_le _, _, _, rfl, HH.out⟩
  case round =>
    obtain ⟨k, hk, ao1, cap1, rfl, hr⟩ := hrel
    clear HH
    have HH := hid hr
    clear hr
    have hlen : (128 :: List.replicate k 0 : List UInt8).length = 1 + k := by simp; omega
    have hz : padZ n = (119 - n % 64) % 64 := rfl
    have hk63 : k < 64 := by omega
    by_cases hlt : k < padZ n
    · have HA := hid (show (128 :: List.replicate k 0 : List UInt8) ++ [0] = 128 :: List.replicate (k + 1) 0 by rw [List.cons_append, ← List.replicate_succ'])
      go_wp2_with (first
        | ((first
            | ((with_reducible apply wpL_skip); rfl; skip)
            | ((with_reducible apply wpL_nilCheck); rfl; rfl)
            | ((with_reducible apply wpL_fieldAddr (t := 118)); (first | exact F118_0 | exact F118_1 | exact F118_2 | exact F118_3); rfl; rfl)
            | ((with_reducible apply wpL_load1 (v := .int .i64 n) O3 HH.out); rfl; (exact .there .here); rfl; rfl)
            | ((with_reducible apply wpL_len Try.underlying22); rfl; rfl)
            | ((with_reducible apply wpL_remN (m := n + (1 + k)) (n := 64)); rfl; rfl; (exact (by omega)); rfl; (exact (by omega)); (exact (by omega)); (exact (by omega)); rfl)
            | ((with_reducible apply wpL_buildB [0] (dst := some 26)); rfl; rfl; (exact (by omega)); (exact HH.out); rfl; (intro g_ w_ hq_; clear HH; have HH := hid hq_; clear hq_))
            | ((with_reducible apply wpL_appendB (dst := some 27) (l := 128 :: List.replicate k 0) (l2 := [0]) HH.out.swap HH.out.sl0); rfl; rfl; (exact (by simp; omega)); rfl; rfl; rfl; (rw [HA.out]; intro ao1 cap1 w_ hq_; clear HH; have HH := hid hq_.dropSnd; clear hq_))
            | ((with_reducible apply wpL_move); rfl; rfl)
            | ((with_reducible apply wpL_assign); rfl; rfl)
            | ((with_reducible apply wpL_pick); rfl; rfl; rfl)
            | ((with_reducible apply wpL_not); rfl; rfl)
            | ((with_reducible apply wpL_cmp (b := true)); rfl; rfl; rfl; (first | rfl | assumption | (simp only [cmpB, decide_eq_true_eq, decide_eq_false_iff_not, beq_iff_eq, bne_iff_ne, ne_eq, beq_eq_false_iff_ne, bne_eq_false_iff_eq, gt_iff_lt, ge_iff_le]; omega) | (simp; omega)); rfl)
            | ((with_reducible apply wpL_cmp (b := false)); rfl; rfl; rfl; (first | rfl | assumption | (simp only [cmpB, decide_eq_true_eq, decide_eq_false_iff_not, beq_iff_eq, bne_iff_ne, ne_eq, beq_eq_false_iff_ne, bne_eq_false_iff_eq, gt_iff_lt, ge_iff_le]; omega) | (simp; omega)); rfl)
            | ((with_reducible apply wpL_cmp); rfl; rfl; rfl; rfl; rfl)
            | ((with_reducible apply wpL_arith); rfl; rfl; rfl; (exact IntWalk.i64_in _ (by (try simp only [arithI]); omega)); rfl)); (try simp only [arithI, Act.put, Act.eval, List.setIfInBounds_toArray, List.set_cons_succ, List.set_cons_zero, Array.getD_eq_getD_getElem?, List.getElem?_toArray, List.getElem?_cons_succ, List.getElem?_cons_zero, Option.getD_some])))
      go_roundw
      case rel => exact ⟨k + 1, by omega, _, _, rfl, HH.out⟩
      case measure => simp [lenV]; omega
    · have hkz : k = padZ n := by omega
      have HKZ := hid hkz
      clear hkz
      go_wp2_with (first
        | ((first
            | ((with_reducible apply wpL_skip); rfl; skip)
            | ((with_reducible apply wpL_nilCheck); rfl; rfl)
            | ((with_reducible apply wpL_fieldAddr (t := 118)); (first | exact F118_0 | exact F118_1 | exact F118_2 | exact F118_3); rfl; rfl)
            | ((with_reducible apply wpL_load1 (v := .int .i64 n) O3 HH.out); rfl; (exact .there .here); rfl; rfl)
            | ((with_reducible apply wpL_len Try.underlying22); rfl; rfl)
            | ((with_reducible apply wpL_remN (m := n + (1 + k)) (n := 64)); rfl; rfl; (exact (by omega)); rfl; (exact (by omega)); (exact (by omega)); (exact (by omega)); rfl)
            | ((with_reducible apply wpL_move); rfl; rfl)
            | ((with_reducible apply wpL_assign); rfl; rfl)
            | ((with_reducible apply wpL_pick); rfl; rfl; rfl)
            | ((with_reducible apply wpL_not); rfl; rfl)
            | ((with_reducible apply wpL_cmp (b := true)); rfl; rfl; rfl; (first | rfl | assumption | (simp only [cmpB, decide_eq_true_eq, decide_eq_false_iff_not, beq_iff_eq, bne_iff_ne, ne_eq, beq_eq_false_iff_ne, bne_eq_false_iff_eq, gt_iff_lt, ge_iff_le]; omega) | (simp; omega)); rfl)
            | ((with_reducible apply wpL_cmp (b := false)); rfl; rfl; rfl; (first | rfl | assumption | (simp only [cmpB, decide_eq_true_eq, decide_eq_false_iff_not, beq_iff_eq, bne_iff_ne, ne_eq, beq_eq_false_iff_ne, bne_eq_false_iff_eq, gt_iff_lt, ge_iff_le]; omega) | (simp; omega)); rfl)
            | ((with_reducible apply wpL_cmp); rfl; rfl; rfl; rfl; rfl)
            | ((with_reducible apply wpL_arith); rfl; rfl; rfl; (exact IntWalk.i64_in _ (by (try simp only [arithI]); omega)); rfl)); (try simp only [arithI, Act.put, Act.eval, List.setIfInBounds_toArray, List.set_cons_succ, List.set_cons_zero, Array.getD_eq_getD_getElem?, List.getElem?_toArray, List.getElem?_cons_succ, List.getElem?_cons_zero, Option.getD_some])))
      go_loopw [4, 5] (SPadRel2 w (128 :: List.replicate k 0) n g2 gc (objC (hcells s rvc n) 118) exc) (fun _ i _ => (intOf i + 1).toNat)
      case atStart => exact ⟨0, Nat.zero_le _, rfl, ao1, cap1, by simp [lenBs], by simpa [lenBs] using HH.out⟩
      case round =>
        obtain ⟨j, hj, rfl, ao2, cap2, rfl, hr⟩ := hrel
        clear HH
        have HH := hid hr
        clear hr
        have hll : ((128 :: List.replicate k 0 : List UInt8) ++ lenBs n j).length = 1 + k + j := by rw [List.length_append, hlen]; simp [lenBs]
        by_cases hj8 : j < 8
        · have HA := hid (show ((128 :: List.replicate k 0 : List UInt8) ++ lenBs n j) ++ [lenByte n (7 - j)] = (128 :: List.replicate k 0) ++ lenBs n (j + 1) by rw [lenBs_succ, List.append_assoc])
          go_wp2_with (first
            | ((first
                | ((with_reducible apply wpL_skip); rfl; skip)
                | ((with_reducible apply wpL_nilCheck); rfl; rfl)
                | ((with_reducible apply wpL_fieldAddr (t := 118)); (first | exact F118_0 | exact F118_1 | exact F118_2 | exact F118_3); rfl; rfl)
                | ((with_reducible apply wpL_load1 (v := .int .i64 n) O3 HH.out); rfl; (exact .there .here); rfl; rfl)
                | ((with_reducible apply wpL_shrN (m := n * 8) (k := 8 * (7 - j))); rfl; rfl; (exact (by omega)); (exact (by omega)); (exact (by omega)); rfl)
                | ((with_reducible apply wpL_toB Try.underlying119 Try.underlying5); rfl; rfl; rfl)
                | ((with_reducible apply wpL_buildB [lenByte n (7 - j)] (dst := some 43)); rfl; rfl; (exact (by omega)); (exact HH.out); rfl; (intro g_ w_ hq_; clear HH; have HH := hid hq_; clear hq_))
                | ((with_reducible apply wpL_appendB (dst := some 44) (l := (128 :: List.replicate k 0) ++ lenBs n j) (l2 := [lenByte n (7 - j)]) HH.out.swap HH.out.sl0); rfl; rfl; (rw [hll]; exact (by simp; omega)); rfl; rfl; rfl; (rw [HA.out]; intro ao1 cap1 w_ hq_; clear HH; have HH := hid hq_.dropSnd; clear hq_))
                | ((with_reducible apply wpL_move); rfl; rfl)
                | ((with_reducible apply wpL_assign); rfl; rfl)
                | ((with_reducible apply wpL_pick); rfl; rfl; rfl)
                | ((with_reducible apply wpL_not); rfl; rfl)
                | ((with_reducible apply wpL_cmp (b := true)); rfl; rfl; rfl; (first | rfl | assumption | (simp only [cmpB, decide_eq_true_eq, decide_eq_false_iff_not, beq_iff_eq, bne_iff_ne, ne_eq, beq_eq_false_iff_ne, bne_eq_false_iff_eq, gt_iff_lt, ge_iff_le]; omega) | (simp; omega)); rfl)
                | ((with_reducible apply wpL_cmp (b := false)); rfl; rfl; rfl; (first | rfl | assumption | (simp only [cmpB, decide_eq_true_eq, decide_eq_false_iff_not, beq_iff_eq, bne_iff_ne, ne_eq, beq_eq_false_iff_ne, bne_eq_false_iff_eq, gt_iff_lt, ge_iff_le]; omega) | (simp; omega)); rfl)
                | ((with_reducible apply wpL_cmp); rfl; rfl; rfl; rfl; rfl)
                | ((with_reducible apply wpL_arith); rfl; rfl; rfl; (exact IntWalk.i64_in _ (by (try simp only [arithI]); omega)); rfl)); (try simp only [arithI, Act.put, Act.eval, List.setIfInBounds_toArray, List.set_cons_succ, List.set_cons_zero, Array.getD_eq_getD_getElem?, List.getElem?_toArray, List.getElem?_cons_succ, List.getElem?_cons_zero, Option.getD_some])))
          go_roundw
          case rel => exact ⟨j + 1, by omega, by go_num, _, _, rfl, HH.out⟩
          case measure => simp [intOf]; omega
        · have hj8' : j = 8 := by omega
          have hpd0 : (128 :: List.replicate k 0 : List UInt8) ++ lenBs n j = padL n := by rw [HKZ.out, hj8']; rfl
          clear hj8'
          have h0 := HH.out
          clear HH
          generalize (128 :: List.replicate k 0 : List UInt8) ++ lenBs n j = pd at *
          have HH := hid h0
          have HPD := hid hpd0
          clear h0 hpd0
          obtain ⟨s8, hs8⟩ : ∃ s8, (absorb s (r ++ pd)).1 = s8 := ⟨_, rfl⟩
          have HS8 := hid hs8
          clear hs8
          have hpl : r.length + pd.length ≤ 1000000 := by omega
          clear hll hlen
          go_wp2_with (first
            | ((first
                | ((with_reducible apply wpL_skip); rfl; skip)
                | (go_at_call 64; (have hcall_ := hid (take_own w _ g2 gc (objC z32 25) s rvc n exc ao2 cap2 r pd HH.out HE.out hpl)); (with_reducible refine hcall_.out.mono ?_); clear hcall_; rintro e w2 ⟨rfl, rv2, ex, hq_⟩; rw [HS8.out] at hq_; clear HH; have HH := hid hq_; clear hq_)
                | ((with_reducible apply wpL_allocC (dst := some 6) Z25 HH.out); rfl; (intro g6 w_ hq_; clear HH; have HH := hid hq_; clear hq_))
                | ((with_reducible apply wpL_nilCheck); rfl; rfl)
                | ((with_reducible apply wpL_fieldAddr (t := 118)); (first | exact F118_0 | exact F118_1 | exact F118_2 | exact F118_3); rfl; rfl)
                | ((with_reducible apply wpL_loadPart (t := 115) (vs := s8.ws.map wrd) A115 HH.out); rfl; (exact .there (.there .here)); rfl; rfl; rfl)
                | ((with_reducible apply wpL_allocC (dst := some 7) Z115' HH.out); rfl; (intro g7 w_ hq_; clear HH; have HH := hid hq_; clear hq_))
                | ((with_reducible apply wpL_storeC (vs := s8.ws.map wrd) (x := .tmp 7) (sz := 8)); rfl; rfl; (exact S115); (exact HH.out); (exact .here); rfl; (exact wrd_one _); rfl; rfl; (intro w_ hq_; clear HH; have HH := hid hq_; clear hq_))
                | ((with_reducible apply wpL_fieldAddr (t := 115)); (exact F115 _ (by decide)); rfl; rfl)
                | ((with_reducible apply wpL_load1 O105 HH.out); rfl; (exact .here); rfl; rfl)
                | ((with_reducible apply wpList_build (v := valW s8.ws)); (exact build106 s8); rfl)
                | ((with_reducible apply wpL_move); rfl; rfl)
                | ((with_reducible apply wpL_assign); rfl; rfl)
                | ((with_reducible apply wpL_pick); rfl; rfl; rfl)
                | ((with_reducible apply wpL_not); rfl; rfl)
                | ((with_reducible apply wpL_cmp (b := true)); rfl; rfl; rfl; (first | rfl | assumption | (simp only [cmpB, decide_eq_true_eq, decide_eq_false_iff_not, beq_iff_eq, bne_iff_ne, ne_eq, beq_eq_false_iff_ne, bne_eq_false_iff_eq, gt_iff_lt, ge_iff_le]; omega) | (simp; omega)); rfl)
                | ((with_reducible apply wpL_cmp (b := false)); rfl; rfl; rfl; (first | rfl | assumption | (simp only [cmpB, decide_eq_true_eq, decide_eq_false_iff_not, beq_iff_eq, bne_iff_ne, ne_eq, beq_eq_false_iff_ne, bne_eq_false_iff_eq, gt_iff_lt, ge_iff_le]; omega) | (simp; omega)); rfl)
                | ((with_reducible apply wpL_cmp); rfl; rfl; rfl; rfl; rfl)
                | ((with_reducible apply wpL_arith); rfl; rfl; rfl; (exact IntWalk.i64_in _ (by (try simp only [arithI]); omega)); rfl)); (try simp only [arithI, Act.put, Act.eval, List.setIfInBounds_toArray, List.set_cons_succ, List.set_cons_zero, Array.getD_eq_getD_getElem?, List.getElem?_toArray, List.getElem?_cons_succ, List.getElem?_cons_zero, Option.getD_some])))
          have hwl : s8.ws.length = 8 := rfl
          go_loopw [69] (SOutRel w s8 g2 g6 ((gc, objC (hcells s8 rv2 n) 118) :: (exc ++ ex)) [rowB ao2 cap2 pd]) (fun i _ => 8 - (intOf i).toNat)
          case atStart => exact ⟨0, Nat.zero_le _, rfl, by rw [Nat.mul_zero, fillB_zero]; exact HH.out.dropBlk⟩
          case round =>
            obtain ⟨t, ht, rfl, hr⟩ := hrel
            clear HH
            have HH := hid hr
            clear hr
            by_cases htl : t < 8
            · have hs0 := fillB_set (outByte s8) (n := 32) (i := 4 * t) (by omega)
              have hs1 := fillB_set (outByte s8) (n := 32) (i := 4 * t + 1) (by omega)
              have hs2 := fillB_set (outByte s8) (n := 32) (i := 4 * t + 2) (by omega)
              have hs3 := fillB_set (outByte s8) (n := 32) (i := 4 * t + 3) (by omega)
              have o0 := outByte_at s8 t 0 (by omega)
              have o1 := outByte_at s8 t 1 (by omega)
              have o2 := outByte_at s8 t 2 (by omega)
              have o3 := outByte_at s8 t 3 (by omega)
              rw [Nat.add_zero] at o0
              rw [o0] at hs0
              rw [o1] at hs1
              rw [o2] at hs2
              rw [o3, show 24 - 8 * 3 = 0 from rfl, BitVec.ushiftRight_zero] at hs3
              have H0 := hid hs0
              have H1 := hid hs1
              have H2 := hid hs2
              have H3 := hid hs3
              clear hs0 hs1 hs2 hs3 o0 o1 o2 o3
              go_wp2_with (first
                | ((first
                    | ((with_reducible apply wpL_skip); rfl; skip)
                    | ((with_reducible apply wpL_indexV (m := t) (v := wrd (s8.ws.getD t 0)) Try.underlying106 Try.underlying105 rfl S105); rfl; rfl; rfl; (exact htl); (exact wget0 (by omega)); rfl)
                    | ((with_reducible apply wpL_wshr); rfl; rfl; (exact (by decide)); rfl)
                    | ((with_reducible apply wpL_w2b Try.underlying105 Try.underlying5); rfl; rfl)
                    | ((with_reducible apply wpL_indexVar (i := .tmp 74) (m := 4 * t) Try.underlying25 S5'); rfl; rfl; (exact (by omega)); (exact (by omega)); rfl)
                    | ((with_reducible apply wpL_indexVar (i := .tmp 77) (m := 4 * t + 1) Try.underlying25 S5'); rfl; rfl; (exact (by omega)); (exact (by omega)); rfl)
                    | ((with_reducible apply wpL_indexVar (i := .tmp 80) (m := 4 * t + 2) Try.underlying25 S5'); rfl; rfl; (exact (by omega)); (exact (by omega)); rfl)
                    | ((with_reducible apply wpL_indexVar (i := .tmp 83) (m := 4 * t + 3) Try.underlying25 S5'); rfl; rfl; (exact (by omega)); (exact (by omega)); rfl)
                    | ((with_reducible apply wpL_storeBt (x := .tmp 95) (l := fillB (outByte s8) 32 (4 * t)) (m := 4 * t) (v := w2b (s8.ws.getD t 0 >>> (24 - 8 * 0)))); rfl; rfl; (exact S5'); (exact HH.out); (exact .here); (rw [fillB_len]; exact (by omega)); rfl; (intro w_ hq_; rw [H0.out] at hq_; clear HH; have HH := hid hq_; clear hq_))
                    | ((with_reducible apply wpL_storeBt (x := .tmp 96) (l := fillB (outByte s8) 32 (4 * t + 1)) (m := 4 * t + 1) (v := w2b (s8.ws.getD t 0 >>> (24 - 8 * 1)))); rfl; rfl; (exact S5'); (exact HH.out); (exact .here); (rw [fillB_len]; exact (by omega)); rfl; (intro w_ hq_; rw [H1.out] at hq_; clear HH; have HH := hid hq_; clear hq_))
                    | ((with_reducible apply wpL_storeBt (x := .tmp 97) (l := fillB (outByte s8) 32 (4 * t + 2)) (m := 4 * t + 2) (v := w2b (s8.ws.getD t 0 >>> (24 - 8 * 2)))); rfl; rfl; (exact S5'); (exact HH.out); (exact .here); (rw [fillB_len]; exact (by omega)); rfl; (intro w_ hq_; rw [H2.out] at hq_; clear HH; have HH := hid hq_; clear hq_))
                    | ((with_reducible apply wpL_storeBt (x := .tmp 98) (l := fillB (outByte s8) 32 (4 * t + 3)) (m := 4 * t + 3) (v := w2b (s8.ws.getD t 0))); rfl; rfl; (exact S5'); (exact HH.out); (exact .here); (rw [fillB_len]; exact (by omega)); rfl; (intro w_ hq_; rw [H3.out] at hq_; clear HH; have HH := hid hq_; clear hq_))
                    | ((with_reducible apply wpL_move); rfl; rfl)
                    | ((with_reducible apply wpL_assign); rfl; rfl)
                    | ((with_reducible apply wpL_pick); rfl; rfl; rfl)
                    | ((with_reducible apply wpL_not); rfl; rfl)
                    | ((with_reducible apply wpL_cmp (b := true)); rfl; rfl; rfl; (first | rfl | assumption | (simp only [cmpB, decide_eq_true_eq, decide_eq_false_iff_not, beq_iff_eq, bne_iff_ne, ne_eq, beq_eq_false_iff_ne, bne_eq_false_iff_eq, gt_iff_lt, ge_iff_le]; omega) | (simp; omega)); rfl)
                    | ((with_reducible apply wpL_cmp (b := false)); rfl; rfl; rfl; (first | rfl | assumption | (simp only [cmpB, decide_eq_true_eq, decide_eq_false_iff_not, beq_iff_eq, bne_iff_ne, ne_eq, beq_eq_false_iff_ne, bne_eq_false_iff_eq, gt_iff_lt, ge_iff_le]; omega) | (simp; omega)); rfl)
                    | ((with_reducible apply wpL_cmp); rfl; rfl; rfl; rfl; rfl)
                    | ((with_reducible apply wpL_arith); rfl; rfl; rfl; (exact IntWalk.i64_in _ (by (try simp only [arithI]); omega)); rfl)); (try simp only [arithI, Act.put, Act.eval, List.setIfInBounds_toArray, List.set_cons_succ, List.set_cons_zero, Array.getD_eq_getD_getElem?, List.getElem?_toArray, List.getElem?_cons_succ, List.getElem?_cons_zero, Option.getD_some])))
              go_roundw
              case rel => exact ⟨t + 1, by omega, by go_num, by rw [show 4 * (t + 1) = 4 * t + 3 + 1 by omega]; exact HH.out⟩
              case measure => simp [intOf]; omega
            · obtain rfl : t = 8 := by omega
              have h0 := HH.out
              rw [show 4 * 8 = 32 from rfl, fillB_full] at h0
              clear HH
              have HH := hid h0
              clear h0
              go_wp2_with (first
                | ((first
                    | ((with_reducible apply wpL_skip); rfl; skip)
                    | ((with_reducible apply wpL_loadC (x := .tmp 6) A25 HH.out); rfl; (exact .here); rfl; rfl)
                    | ((with_reducible apply wpL_storeC (vs := ((List.range 32).map (outByte s8)).map byt) (x := .tmp 2) (sz := 32)); rfl; rfl; (exact S25); (exact HH.out); (exact .there .here); rfl; (exact byt_cell1 _); rfl; rfl; (intro w_ hq_; clear HH; have HH := hid hq_; clear hq_))
                    | ((with_reducible apply wpL_move); rfl; rfl)
                    | ((with_reducible apply wpL_assign); rfl; rfl)
                    | ((with_reducible apply wpL_pick); rfl; rfl; rfl)
                    | ((with_reducible apply wpL_not); rfl; rfl)
                    | ((with_reducible apply wpL_cmp (b := true)); rfl; rfl; rfl; (first | rfl | assumption | (simp only [cmpB, decide_eq_true_eq, decide_eq_false_iff_not, beq_iff_eq, bne_iff_ne, ne_eq, beq_eq_false_iff_ne, bne_eq_false_iff_eq, gt_iff_lt, ge_iff_le]; omega) | (simp; omega)); rfl)
                    | ((with_reducible apply wpL_cmp (b := false)); rfl; rfl; rfl; (first | rfl | assumption | (simp only [cmpB, decide_eq_true_eq, decide_eq_false_iff_not, beq_iff_eq, bne_iff_ne, ne_eq, beq_eq_false_iff_ne, bne_eq_false_iff_eq, gt_iff_lt, ge_iff_le]; omega) | (simp; omega)); rfl)
                    | ((with_reducible apply wpL_cmp); rfl; rfl; rfl; rfl; rfl)
                    | ((with_reducible apply wpL_arith); rfl; rfl; rfl; (exact IntWalk.i64_in _ (by (try simp only [arithI]); omega)); rfl)); (try simp only [arithI, Act.put, Act.eval, List.setIfInBounds_toArray, List.set_cons_succ, List.set_cons_zero, Array.getD_eq_getD_getElem?, List.getElem?_toArray, List.getElem?_cons_succ, List.getElem?_cons_zero, Option.getD_some])))
              refine bodyPost_ret (res1 rfl (resC A25 HH.out (by rfl) (.there .here) rfl)) rfl ?_
              refine ⟨?_, HH.out.below⟩
              rw [← HPD.out, HS8.out]
              rfl
end Go.Proofs.Ytgkfopodhikckaa

/- Sum of sha256, cut of the laws. Condition: at most a million bytes less a thousand. -/
namespace Go.Proofs.Ytgkfopodhikckaa
open Go.RowKit
theorem write_own (w0 w : World) (g2 gc : Nat) (o2 : Obj) (s : St) (rvc vb : Value) (n : Nat) (exc : List (Nat × Obj)) (rows : List Row) (r b : List UInt8)
    (h : Holds w0 [] ((g2, o2) :: (gc, objC (hcells s rvc n) 118) :: exc) rows w) (hre : RestEx exc rvc r) (h3 : Byts w vb b) (hn : r.length + b.length ≤ 1000000) (hn2 : n ≤ 1000000000) :
    Calls Try.prog 34 #[.pointer (some ⟨gc, 0, none⟩), vb] w (fun e w' => e = .returned (.int .i64 0) ∧ ∃ rv2 ex, RestEx ex rv2 (absorb s (r ++ b)).2 ∧ Holds w0 [] ((g2, o2) :: (gc, objC (hcells (absorb s (r ++ b)).1 rv2 (n + b.length)) 118) :: (exc ++ ex)) rows w') := by
  have h1 : w.heap[gc]? = some (objC (hcells s rvc n) 118) := h.blk (gc, _) (List.mem_cons_of_mem _ List.mem_cons_self)
  have h2 : Byts w rvc r := hre.byts h fun q hq => List.mem_cons_of_mem _ (List.mem_cons_of_mem _ hq)
  refine (write_any w gc s rvc _ r b n h1 h2 h3 hn hn2).mono fun e w' ⟨he, ho⟩ => ⟨he, ?_⟩
  obtain ⟨rv2, ex, bs2, hturn, hre2, _, _, hq⟩ := h.hashBy (.there .here) (fun o' => ⟨_, .there .here⟩) ho
  have e2 : ∀ {o' : Obj} {bs2}, Turn ((g2, o2) :: (gc, objC (hcells s rvc n) 118) :: exc) gc (objC (hcells s rvc n) 118) o' bs2 → g2 ≠ gc → bs2 = (g2, o2) :: (gc, o') :: exc ∨ ∃ l', Turn exc gc (objC (hcells s rvc n) 118) o' l' := by
    intro o' bs2 ht hne
    cases ht with
    | here => exact absurd rfl hne
    | there ht2 =>
      cases ht2 with
      | here => exact .inl rfl
      | there ht3 => exact .inr ⟨_, ht3⟩
  have hs := h.sep
  simp only [List.map_cons, List.cons_append, List.nodup_cons, List.mem_cons, List.mem_append, not_or] at hs
  rcases e2 hturn (fun e => hs.1.1 e) with rfl | ⟨l', ht⟩
  · exact ⟨rv2, ex, hre2, hq⟩
  · exact absurd (List.mem_map.2 ⟨_, ht.own.mem, rfl⟩) hs.2.1.1
set_option maxRecDepth 100000 in
set_option maxHeartbeats 2000000 in
theorem shaSum_any (w : World) (v : Value) (l : List UInt8) (hl : Byts w v l) (hn : l.length ≤ 900000) : Calls Try.prog 20 #[v] w (RetA w (sumB l)) := by
  obtain ⟨ao, cap, rfl, _⟩ := hl.shape
  have HL := hid hl
  clear hl
  have HH := hid (Holds.init w)
  have hsh := absorb_short initS l
  obtain ⟨s1, hs1⟩ : ∃ s1, (absorb initS l).1 = s1 := ⟨_, rfl⟩
  obtain ⟨r1, hr1⟩ : ∃ r1, (absorb initS l).2 = r1 := ⟨_, rfl⟩
  have hsum : sumB l = outB (absorb s1 (r1 ++ padL l.length)).1 := by rw [sumB_absorb, hs1, hr1]
  rw [hsum]
  rw [hr1] at hsh
  have HS1 := hid hs1
  have HR1 := hid hr1
  have N0 := hid (show 0 + l.length = l.length from Nat.zero_add _)
  have NA := hid (show ([] : List UInt8) ++ l = l from rfl)
  clear hs1 hr1 hsum
  go_enter Try.func20, Try.ntmps20
  go_wp2_with (first
    | ((first
        | ((with_reducible apply wpL_skip); rfl; skip)
        | ((with_reducible apply wpL_allocC (dst := some 2) Z25 HH.out); rfl; (intro g2 w_ hq_; clear HH; have HH := hid hq_; clear hq_))
        | (go_at_call 32; refine (new_any _).mono ?_; rintro e w2 ⟨gc, rvc, exc, rfl, hre, hex, hnd, hb⟩; (have hq_ : Holds w [] ((g2, objC z32 25) :: (gc, objC (hcells initS rvc 0) 118) :: exc) [] w2 := HH.out.newBy hex hnd hb); clear HH hb hex hnd; have HH := hid hq_; clear hq_; have HE := hid hre; clear hre)
        | (go_at_call 34; (have hcall_ := hid (write_own w _ g2 gc (objC z32 25) initS rvc _ 0 exc [] [] l HH.out HE.out (HH.out.sl HL.out) (by simp; omega) (by omega))); (with_reducible refine hcall_.out.mono ?_); clear hcall_; rw [NA.out, N0.out, HS1.out, HR1.out]; rintro e w2 ⟨rfl, rv2, ex, hre, hq_⟩; clear HH HE; have HH := hid hq_; have HE := hid hre; clear hq_ hre)
        | (go_at_call 33; (have hcall_ := hid (sum_any _ gc s1 rv2 r1 l.length (HH.out.blk _ (List.mem_cons_of_mem _ List.mem_cons_self)) (HE.out.byts HH.out fun q hq => List.mem_cons_of_mem _ (List.mem_cons_of_mem _ (List.mem_append.2 (.inr hq)))) (by omega) (by omega))); (with_reducible refine hcall_.out.mono ?_); clear hcall_; rintro e w2 ⟨rfl, hb⟩; (have hq_ := HH.out.grow hb); clear HH; have HH := hid hq_; clear hq_ hb)
        | ((with_reducible apply wpL_storeC (vs := (outB (absorb s1 (r1 ++ padL l.length)).1).cells) (x := .tmp 2) (sz := 32)); rfl; rfl; (exact S25); (exact HH.out); (exact .here); (exact Arr.len _); (exact cells_one _); rfl; rfl; (intro w_ hq_; clear HH; have HH := hid hq_; clear hq_))
        | ((with_reducible apply wpL_move); rfl; rfl)
        | ((with_reducible apply wpL_assign); rfl; rfl)
        | ((with_reducible apply wpL_pick); rfl; rfl; rfl)
        | ((with_reducible apply wpL_not); rfl; rfl)
        | ((with_reducible apply wpL_cmp (b := true)); rfl; rfl; rfl; (first | rfl | assumption | (simp only [cmpB, decide_eq_true_eq, decide_eq_false_iff_not, beq_iff_eq, bne_iff_ne, ne_eq, beq_eq_false_iff_ne, bne_eq_false_iff_eq, gt_iff_lt, ge_iff_le]; omega) | (simp; omega)); rfl)
        | ((with_reducible apply wpL_cmp (b := false)); rfl; rfl; rfl; (first | rfl | assumption | (simp only [cmpB, decide_eq_true_eq, decide_eq_false_iff_not, beq_iff_eq, bne_iff_ne, ne_eq, beq_eq_false_iff_ne, bne_eq_false_iff_eq, gt_iff_lt, ge_iff_le]; omega) | (simp; omega)); rfl)
        | ((with_reducible apply wpL_cmp); rfl; rfl; rfl; rfl; rfl)
        | ((with_reducible apply wpL_arith); rfl; rfl; rfl; (exact IntWalk.i64_in _ (by (try simp only [arithI]); omega)); rfl)); (try simp only [arithI, Act.put, Act.eval, List.setIfInBounds_toArray, List.set_cons_succ, List.set_cons_zero, Array.getD_eq_getD_getElem?, List.getElem?_toArray, List.getElem?_cons_succ, List.getElem?_cons_zero, Option.getD_some])))
  refine bodyPost_ret (res1 rfl (resC A25 HH.out (by rfl) .here (Arr.len _))) rfl ?_
  exact ⟨rfl, HH.out.below⟩
end Go.Proofs.Ytgkfopodhikckaa

/- cut and known of the laws of sha256. No condition. -/
namespace Go.Proofs.Ytgkfopodhikckaa
open Go.RowKit
section
variable {P : Program} {ops : Array Oper} {rest : List Oper} {a : Act} {dst : Option Tmp} {ty : TypeId} {pos : String} {after : Array Edge} {guard : Option (Nat × Bool)} {w w0 : World} {S : List Nat} {bs : List (Nat × Obj)} {rows : List Row} {Q : Exit → Act → World → Prop}
theorem wpL_convConst {t : TypeId} (ht : P.underlying t = some (.slice 5)) (he : P.underlying 5 = some (.int .u8)) {l : List UInt8} {g n c : Nat} {x : Operand} (hH : Holds w0 S bs (rowB (some ⟨g, 0, none⟩) c l :: rows) w) (hx : a.eval x = .slice (some ⟨g, 0, none⟩) n c) (hn : n = l.length)
    (hg : Region.wanted { dst := dst, op := .convert t t x, type := ty, pos := pos, after := after, guard := guard } (yielded ops a.tmps) = true)
    (h : ∀ w', Holds w0 S bs rows w' → Byts w' (.slice (some ⟨g, 0, none⟩) n c) l → wpList P ops Q rest (a.put dst (.slice (some ⟨g, 0, none⟩) n c)) w') : wpList P ops Q ({ dst := dst, op := .convert t t x, type := ty, pos := pos, after := after, guard := guard } :: rest) a w := by
  subst hn
  have hown := hH.own0
  rcases hown.2 with ⟨hv, _⟩ | ⟨g', cap', cur, hv, hb, hgc, hnc, hm, hs, htake⟩
  · simp at hv
  · simp only [Value.slice.injEq, Option.some.injEq, true_and, Addr.mk.injEq, and_true] at hv
    obtain ⟨rfl, rfl⟩ := hv
    have hsh : w.shape? g = some (5, cur.size) := by simp [World.shape?, hgc]
    have hr : (convert t t (.slice (some ⟨g, 0, none⟩) l.length c)).run P w = .ok (.slice (some ⟨g, 0, none⟩) l.length c) (w.freeze ⟨g, cur.size, none⟩ 1) := by
      simp [convert, run_underlying ht, run_underlying he, markStringish, hsh]
    have hgr : w.grownBy (w.freeze ⟨g, cur.size, none⟩ 1) (some g) := by
      unfold World.freeze
      split
      · exact ⟨rfl, rfl, rfl, Nat.le_refl _, fun _ _ _ => rfl⟩
      · refine ⟨rfl, rfl, rfl, by simp, fun k _ hk => ?_⟩
        simp only [Array.getElem?_modify]
        rw [if_neg (by intro e; exact hk (by rw [← e]))]
    refine wpList_ex hg (v := .slice (some ⟨g, 0, none⟩) l.length c) (w' := w.freeze ⟨g, cur.size, none⟩ 1) ?_ (h _ (hH.lostRow hgr) ?_)
    · simp only [execOp, hx, Sem.run_bind, hr, Result.andThen_ok, Sem.run_pure]
    · refine ⟨_, c, rfl, hnc, by simp, fun j u hu => ⟨_, rfl, ?_⟩⟩
      have hc := hown.cells (g := g) rfl j u hu
      rw [← hc]
      have hadd : (⟨g, 0, none⟩ : Addr).add j = ⟨g, j, none⟩ := by unfold Addr.add; split <;> simp_all
      rw [hadd]
      simp [World.cell?, World.freeze, hgc, Array.getElem?_modify]
theorem wpL_sliceTo {t e : TypeId} {sz bytes : Nat} (hE : Elem P t e sz bytes) {x hi : Operand} {ao : Option Addr} {n c j : Nat} {q : Int} {k : IntKind} (hx : a.eval x = .slice ao n c) (hh : a.eval hi = .int k q) (hq : q = (j : Int)) (hj : j ≤ c)
    (hg : Region.wanted { dst := dst, op := .slice t x none (some hi) none, type := ty, pos := pos, after := after, guard := guard } (yielded ops a.tmps) = true)
    (h : wpList P ops Q rest (a.put dst (.slice ao j c)) w) : wpList P ops Q ({ dst := dst, op := .slice t x none (some hi) none, type := ty, pos := pos, after := after, guard := guard } :: rest) a w :=
  wpList_ex hg (ex_slice_to (ρ := a.eval) hE hx hh hq hj w) h
end
def RetB (w : World) (b : Bool) (e : Ending) (w' : World) : Prop := e = .returned (.bool b) ∧ Below w.heap.size w w'
theorem RetB.mk {w w' : World} {b c : Bool} (h : b = c) (hb : Below w.heap.size w w') : RetB w c (.returned (.bool b)) w' := ⟨by rw [h], hb⟩
end Go.Proofs.Ytgkfopodhikckaa

/- Arrays held against each other, copied; SumHalf, Half, the laws Sha256Sum and Sha256Half. Condition: a slice of at most 2^47 bytes. -/
namespace Go.Proofs.Ytgkfopodhikckaa
open Go.RowKit
section
variable {P : Program} {ops : Array Oper} {rest : List Oper} {a : Act} {dst : Option Tmp} {ty : TypeId} {pos : String} {after : Array Edge} {guard : Option (Nat × Bool)} {w w0 : World} {S : List Nat} {bs bs' : List (Nat × Obj)} {rows : List Row} {Q : Exit → Act → World → Prop} {C : World → Prop} {K : Act → Prop}
theorem wpL_eqlA {n : Nat} {t : TypeId} {b : Bool} {p q : Arr n} (hA : ArrT P t n) {x y : Operand} {yt : TypeId} (hx : a.eval x = p.val) (hy : a.eval y = q.val) (hb : (p == q) = b)
    (hg : Region.wanted { dst := dst, op := .binOp .eql t x y yt, type := ty, pos := pos, after := after, guard := guard } (yielded ops a.tmps) = true)
    (h : wpList P ops Q rest (a.put dst (.bool b)) w) : wpList P ops Q ({ dst := dst, op := .binOp .eql t x y yt, type := ty, pos := pos, after := after, guard := guard } :: rest) a w := by
  subst hb; exact wpList_eql_arr hA hx hy hg h
theorem wpL_neqA {n : Nat} {t : TypeId} {b : Bool} {p q : Arr n} (hA : ArrT P t n) {x y : Operand} {yt : TypeId} (hx : a.eval x = p.val) (hy : a.eval y = q.val) (hb : (!(p == q)) = b)
    (hg : Region.wanted { dst := dst, op := .binOp .neq t x y yt, type := ty, pos := pos, after := after, guard := guard } (yielded ops a.tmps) = true)
    (h : wpList P ops Q rest (a.put dst (.bool b)) w) : wpList P ops Q ({ dst := dst, op := .binOp .neq t x y yt, type := ty, pos := pos, after := after, guard := guard } :: rest) a w := by
  subst hb; exact wpList_neq_arr hA hx hy hg h
theorem wpQ_eqlA {n : Nat} {t : TypeId} {b : Bool} {p q : Arr n} (hA : ArrT P t n) {x y : Operand} {yt : TypeId} (hx : a.eval x = p.val) (hy : a.eval y = q.val) (hb : (p == q) = b)
    (hg : Region.wanted { dst := dst, op := .binOp .eql t x y yt, type := ty, pos := pos, after := after, guard := guard } (yielded ops a.tmps) = true)
    (h : wpQuiet P ops C K rest (a.put dst (.bool b))) : wpQuiet P ops C K ({ dst := dst, op := .binOp .eql t x y yt, type := ty, pos := pos, after := after, guard := guard } :: rest) a := by
  subst hb; exact wpQ_eql_arr hA hx hy hg h
theorem wpQ_neqA {n : Nat} {t : TypeId} {b : Bool} {p q : Arr n} (hA : ArrT P t n) {x y : Operand} {yt : TypeId} (hx : a.eval x = p.val) (hy : a.eval y = q.val) (hb : (!(p == q)) = b)
    (hg : Region.wanted { dst := dst, op := .binOp .neq t x y yt, type := ty, pos := pos, after := after, guard := guard } (yielded ops a.tmps) = true)
    (h : wpQuiet P ops C K rest (a.put dst (.bool b))) : wpQuiet P ops C K ({ dst := dst, op := .binOp .neq t x y yt, type := ty, pos := pos, after := after, guard := guard } :: rest) a := by
  subst hb; exact wpQ_neq_arr hA hx hy hg h
theorem wpL_arrayAt {t e : TypeId} {n m c : Nat} {ao : Option Addr} {x : Operand} (ht : P.underlying t = some (.array n e)) (hx : a.eval x = .slice ao m c) (hn : n ≤ m)
    (hg : Region.wanted { dst := dst, op := .sliceToArrayPointer t x, type := ty, pos := pos, after := after, guard := guard } (yielded ops a.tmps) = true)
    (h : wpList P ops Q rest (a.put dst (.pointer ao)) w) : wpList P ops Q ({ dst := dst, op := .sliceToArrayPointer t x, type := ty, pos := pos, after := after, guard := guard } :: rest) a w := by
  refine wpList_ex hg ?_ h
  have : ¬ m < n := by omega
  simp [execOp, hx, Instr.arrayAt, run_underlying ht, this]
end
def halfA (d : Arr 32) : Arr 16 := ⟨d.1.take 16, by rw [List.length_take, d.2]; rfl⟩
theorem halfA_cells (d : Arr 32) : (d.cells.drop 0).take 16 = (halfA d).cells := by simp [Arr.cells, halfA, List.map_take]
set_option maxRecDepth 100000 in
set_option maxHeartbeats 2000000 in
theorem sumHalf_any (w : World) (v : Value) (l : List UInt8) (hl : Byts w v l) (hn : l.length ≤ 900000) : Calls Try.prog 35 #[v] w (RetA w (halfA (sumB l))) := by
  obtain ⟨ao, cap, rfl, hc⟩ := hl.shape
  have HL := hid hl
  clear hl
  have HH := hid (Holds.init w)
  generalize hd : sumB l = d
  have HD := hid hd
  clear hd
  have HC := hid (halfA_cells d)
  go_enter Try.func35, Try.ntmps35
  go_wp2_with (first
    | ((first
        | ((with_reducible apply wpL_skip); rfl; skip)
        | (go_at_call 20; (with_reducible refine (shaSum_any _ _ l (HH.out.sl HL.out) hn).mono ?_); rw [HD.out]; rintro e_ w2_ ⟨rfl, hb_⟩; (have hq_ := HH.out.grow hb_); clear HH; have HH := hid hq_; clear hq_ hb_)
        | ((with_reducible apply wpL_storeC (t := 25) (vs := d.cells)); rfl; rfl; (exact kS25); (exact HH.out); (exact .here); (exact Arr.len _); (exact cells_one _); (exact Arr.len _); rfl; (intro w_ hq_; clear HH; have HH := hid hq_; clear hq_))
        | ((with_reducible apply wpL_sliceArrTo (m := 16) Try.underlying25 kS5); rfl; rfl; rfl; (exact (by omega)); rfl)
        | ((with_reducible apply wpL_arrayAt Try.underlying56); rfl; (exact (by omega)); rfl)
        | ((with_reducible apply wpL_loadPart (vs := (halfA d).cells) (t := 56) kA56 HH.out); rfl; (exact .here); (exact HC.out); (exact Arr.len _); rfl)
        | ((with_reducible apply wpL_storeC (t := 56) (vs := (halfA d).cells)); rfl; rfl; (exact kS56); (exact HH.out); (exact .there .here); (exact Arr.len _); (exact cells_one _); (exact Arr.len _); rfl; (intro w_ hq_; clear HH; have HH := hid hq_; clear hq_))
        | ((with_reducible apply wpL_nilCheck); rfl; rfl)
        | ((with_reducible apply wpL_loadArr (t := 56) kA56 HH.out); rfl; (first | exact .here | exact .there .here | exact .there (.there .here) | exact .there (.there (.there .here)) | exact .there (.there (.there (.there .here))) | exact .there (.there (.there (.there (.there .here)))) | exact .there (.there (.there (.there (.there (.there .here))))) | exact .there (.there (.there (.there (.there (.there (.there .here))))))); rfl)
        | ((with_reducible apply wpL_loadC (t := 56) kA56 HH.out); rfl; (first | exact .here | exact .there .here | exact .there (.there .here) | exact .there (.there (.there .here)) | exact .there (.there (.there (.there .here))) | exact .there (.there (.there (.there (.there .here)))) | exact .there (.there (.there (.there (.there (.there .here))))) | exact .there (.there (.there (.there (.there (.there (.there .here))))))); (first | rfl | exact Arr.len _ | (simp; done)); rfl)
        | ((with_reducible apply wpL_allocC (dst := some 2) kZ56 HH.out); rfl; (intro g2_ w_ hq_; (try simp only [List.set_cons_zero, List.set_cons_succ] at hq_); clear HH; have HH := hid hq_; clear hq_))
        | ((with_reducible apply wpL_allocC (dst := some 3) kZ25 HH.out); rfl; (intro g3_ w_ hq_; (try simp only [List.set_cons_zero, List.set_cons_succ] at hq_); clear HH; have HH := hid hq_; clear hq_))
        | ((with_reducible apply wpL_storeArr (t := 25) kS25 HH.out); rfl; rfl; (first | exact .here | exact .there .here | exact .there (.there .here) | exact .there (.there (.there .here)) | exact .there (.there (.there (.there .here))) | exact .there (.there (.there (.there (.there .here)))) | exact .there (.there (.there (.there (.there (.there .here))))) | exact .there (.there (.there (.there (.there (.there (.there .here))))))); (first | rfl | exact Arr.len _ | (simp; done)); rfl; (intro w_ hq_; (try simp only [List.set_cons_zero, List.set_cons_succ] at hq_); clear HH; have HH := hid hq_; clear hq_))
        | ((with_reducible apply wpL_storeC (t := 25)); rfl; rfl; (exact kS25); (exact HH.out); (first | exact .here | exact .there .here | exact .there (.there .here) | exact .there (.there (.there .here)) | exact .there (.there (.there (.there .here))) | exact .there (.there (.there (.there (.there .here)))) | exact .there (.there (.there (.there (.there (.there .here))))) | exact .there (.there (.there (.there (.there (.there (.there .here))))))); (first | rfl | exact Arr.len _ | (simp; done)); (first | rfl | (intro u_ hu_; simp only [List.mem_cons, List.not_mem_nil, or_false] at hu_; rcases hu_ with rfl | hu_; rfl) | exact byt_cell1 _ | exact cells_one _ | exact wrd_one _ | exact flat_cell1 _); (first | rfl | exact Arr.len _ | (simp; done)); rfl; (intro w_ hq_; (try simp only [List.set_cons_zero, List.set_cons_succ] at hq_); clear HH; have HH := hid hq_; clear hq_))
        | ((with_reducible apply wpL_storeArr (t := 56) kS56 HH.out); rfl; rfl; (first | exact .here | exact .there .here | exact .there (.there .here) | exact .there (.there (.there .here)) | exact .there (.there (.there (.there .here))) | exact .there (.there (.there (.there (.there .here)))) | exact .there (.there (.there (.there (.there (.there .here))))) | exact .there (.there (.there (.there (.there (.there (.there .here))))))); (first | rfl | exact Arr.len _ | (simp; done)); rfl; (intro w_ hq_; (try simp only [List.set_cons_zero, List.set_cons_succ] at hq_); clear HH; have HH := hid hq_; clear hq_))
        | ((with_reducible apply wpL_storeC (t := 56)); rfl; rfl; (exact kS56); (exact HH.out); (first | exact .here | exact .there .here | exact .there (.there .here) | exact .there (.there (.there .here)) | exact .there (.there (.there (.there .here))) | exact .there (.there (.there (.there (.there .here)))) | exact .there (.there (.there (.there (.there (.there .here))))) | exact .there (.there (.there (.there (.there (.there (.there .here))))))); (first | rfl | exact Arr.len _ | (simp; done)); (first | rfl | (intro u_ hu_; simp only [List.mem_cons, List.not_mem_nil, or_false] at hu_; rcases hu_ with rfl | hu_; rfl) | exact byt_cell1 _ | exact cells_one _ | exact wrd_one _ | exact flat_cell1 _); (first | rfl | exact Arr.len _ | (simp; done)); rfl; (intro w_ hq_; (try simp only [List.set_cons_zero, List.set_cons_succ] at hq_); clear HH; have HH := hid hq_; clear hq_))
        | ((with_reducible apply wpL_move); rfl; rfl)
        | ((with_reducible apply wpL_assign); rfl; rfl)
        | ((with_reducible apply wpL_pick); rfl; rfl; rfl)
        | ((with_reducible apply wpL_not); rfl; rfl)
        | ((with_reducible apply wpL_cmp (b := true)); rfl; rfl; rfl; (first | rfl | assumption | (simp only [cmpB, decide_eq_true_eq, decide_eq_false_iff_not, beq_iff_eq, bne_iff_ne, ne_eq, beq_eq_false_iff_ne, bne_eq_false_iff_eq, gt_iff_lt, ge_iff_le]; omega) | (simp; omega)); rfl)
        | ((with_reducible apply wpL_cmp (b := false)); rfl; rfl; rfl; (first | rfl | assumption | (simp only [cmpB, decide_eq_true_eq, decide_eq_false_iff_not, beq_iff_eq, bne_iff_ne, ne_eq, beq_eq_false_iff_ne, bne_eq_false_iff_eq, gt_iff_lt, ge_iff_le]; omega) | (simp; omega)); rfl)
        | ((with_reducible apply wpL_cmp); rfl; rfl; rfl; rfl; rfl)
        | ((with_reducible apply wpL_arith); rfl; rfl; rfl; (exact IntWalk.i64_in _ (by (try simp only [arithI]); omega)); rfl)); (try simp only [arithI, Act.put, Act.eval, List.setIfInBounds_toArray, List.set_cons_succ, List.set_cons_zero, Array.getD_eq_getD_getElem?, List.getElem?_toArray, List.getElem?_cons_succ, List.getElem?_cons_zero, Option.getD_some])))
  refine bodyPost_ret (res1 rfl (resC kA56 HH.out (by rfl) (.there .here) (Arr.len _))) rfl ?_
  exact ⟨rfl, HH.out.below⟩
end Go.Proofs.Ytgkfopodhikckaa

/- The laws Sha256Sum and Sha256Half: they return true. Condition: a slice of at most 2^47 bytes. -/
namespace Go.Proofs.Ytgkfopodhikckaa
open Go.RowKit
theorem arrRefl {n : Nat} (x : Arr n) : (x == x) = true := beq_self_eq_true _
end Go.Proofs.Ytgkfopodhikckaa

/- A Hash of the call's own, told by the bytes that were written to it; a nil Hash. Condition: at most nine hundred thousand bytes. -/
namespace Go.Proofs.Ytgkfopodhikckaa
open Go.RowKit
/-- Block g is a Hash to which the bytes l were written. -/
def HashAt (bs : List (Nat × Obj)) (g : Nat) (l : List UInt8) : Prop :=
  ∃ rv ex, (g, objC (hcells (absorb initS l).1 rv l.length) 118) ∈ bs ∧ RestEx ex rv (absorb initS l).2 ∧ ∀ p ∈ ex, p ∈ bs ∧ ∃ cur, p.2 = .cells cur 5
theorem RestEx.only {ex : List (Nat × Obj)} {v : Value} {l : List UInt8} (h : RestEx ex v l) : ∃ ex', RestEx ex' v l ∧ ∀ p ∈ ex', p ∈ ex ∧ ∃ cur, p.2 = .cells cur 5 := by
  classical
  obtain ⟨ao, cap, rfl, hc, hcell⟩ := h
  refine ⟨ex.filter fun p => decide (∃ cur, p.2 = .cells cur 5), ⟨ao, cap, rfl, hc, fun j u hu => ?_⟩, fun p hp => ?_⟩
  · obtain ⟨g, cur, off, rfl, hm, hu'⟩ := hcell j u hu
    exact ⟨g, cur, off, rfl, List.mem_filter.2 ⟨hm, by simp⟩, hu'⟩
  · have := List.mem_filter.1 hp
    exact ⟨this.1, by simpa using this.2⟩
theorem Holds.key {w0 w : World} {S : List Nat} {bs : List (Nat × Obj)} {rows : List Row} (h : Holds w0 S bs rows w) {g : Nat} {o o' : Obj} (h1 : (g, o) ∈ bs) (h2 : (g, o') ∈ bs) : o = o' := by
  have a := h.blk _ h1
  have b := h.blk _ h2
  simp only at a b
  rw [a] at b
  exact Option.some.inj b
theorem HashAt.mono {bs bs' : List (Nat × Obj)} {g : Nat} {l : List UInt8} (h : HashAt bs g l) (hs : ∀ p ∈ bs, p ∈ bs') : HashAt bs' g l := by
  obtain ⟨rv, ex, h1, h2, h3⟩ := h
  exact ⟨rv, ex, hs _ h1, h2, fun p hp => ⟨hs _ (h3 p hp).1, (h3 p hp).2⟩⟩
theorem HashAt.byts {w0 w : World} {S : List Nat} {bs : List (Nat × Obj)} {rows : List Row} {g : Nat} {l : List UInt8} (h : HashAt bs g l) (hH : Holds w0 S bs rows w) :
    ∃ rv, w.heap[g]? = some (objC (hcells (absorb initS l).1 rv l.length) 118) ∧ Byts w rv (absorb initS l).2 := by
  obtain ⟨rv, ex, h1, h2, h3⟩ := h
  exact ⟨rv, hH.blk _ h1, h2.byts hH fun q hq => (h3 q hq).1⟩
end Go.Proofs.Ytgkfopodhikckaa

/- The laws Sha256Lengths and Sha256Write: they return true. Condition: slices of at most 2^47 bytes. -/
namespace Go.Proofs.Ytgkfopodhikckaa
open Go.RowKit
theorem arrNe {n : Nat} (x : Arr n) : (!(x == x)) = false := by rw [arrRefl]; rfl
/-- A slice of slices of bytes that is read. -/
def Pcs (w : World) (v : Value) (ls : List (List UInt8)) : Prop :=
  ∃ cs, Sl w v 1 ls.length cs ∧ ∀ i, i < ls.length → ∃ u, cs[i]? = some u ∧ Byts w u (ls.getD i [])
section
variable {P : Program} {ops : Array Oper} {rest : List Oper} {a : Act} {dst : Option Tmp} {ty : TypeId} {pos : String} {after : Array Edge} {guard : Option (Nat × Bool)} {w w0 : World} {S : List Nat} {bs : List (Nat × Obj)} {rows : List Row} {Q : Exit → Act → World → Prop}
end
end Go.Proofs.Ytgkfopodhikckaa

/- From the walks of the laws to their rows: what is alike. No condition. -/
namespace Go.Proofs.Ytgkfopodhikckaa
open Go.ChangeShapes Go.WideShapes Go.ChangeAt Go.RowKit
theorem Try.own : ownKnob Try.prog.godebug = none := by kernel_rfl
theorem Try.laidOut : laidOutB Try.prog = true := by kernel_rfl
theorem cells5 : Try.prog.cellsOf 5 = 1 := by kernel_rfl
theorem readable_of {ts : List TypeId} (h : (ts.all fun t => Try.prog.readableRec t && decide (t < Try.prog.types.size)) = true) : ∀ t ∈ ts, Try.prog.readableRec t = true ∧ t < Try.prog.types.size := by
  intro t ht
  have := List.all_eq_true.1 h t ht
  simpa using this
end Go.Proofs.Ytgkfopodhikckaa

/- Rows of arrays: lists of nodes, of identities. No condition. -/
namespace Go.Proofs.Ytgkfopodhikckaa
open Go.RowKit
/-- A row of arrays of the call's own. -/
@[reducible] def rowA {n : Nat} (e : TypeId) (ao : Option Addr) (cap : Nat) (l : List (Arr n)) : Row := ⟨.slice ao l.length cap, e, n, l.length, flat l⟩
/-- A slice of arrays that is read. -/
abbrev Arrs {n : Nat} (w : World) (v : Value) (l : List (Arr n)) : Prop := Sl w v n l.length (flat l)
theorem Arrs.of {m : Nat} {w : World} {v : Value} {n : Nat} {l : List (Arr m)} {cs : List Value} (h : Sl w v m n cs) (hn : n = l.length) (hc : cs = flat l) : Arrs w v l := by subst hn hc; exact h
theorem Arrs.get {n : Nat} {w : World} {a : Addr} {cap : Nat} {l : List (Arr n)} (h : Arrs w (.slice (some a) l.length cap) l) (k : Nat) (hk : k < l.length) : ∀ j u, (l[k]).cells[j]? = some u → w.cell? ((a.add (k * n)).add j) = some u := by
  intro j u hu
  have hj : j < n := by
    have := (List.getElem?_eq_some_iff.1 hu).1
    rwa [Arr.len] at this
  have h1 := h.cell (k * n + j) u (by rw [flat_get l k hk j hj]; exact hu)
  have e : (a.add (k * n)).add j = a.add (k * n + j) := by
    unfold Addr.add; split <;> split <;> simp_all <;> omega
  rw [e]; exact h1
theorem Arrs.take {m : Nat} {w : World} {ao : Option Addr} {cap : Nat} {l : List (Arr m)} {j : Nat} (h : Arrs w (.slice ao l.length cap) l) (hj : j ≤ l.length) : Arrs w (.slice ao j cap) (l.take j) := by
  have h1 := Sl.take h hj
  exact Arrs.of h1 (by rw [List.length_take]; omega) (flat_take l j)
section
variable {P : Program} {w w0 : World} {S : List Nat} {bs : List (Nat × Obj)} {rows : List Row} {ops : Array Oper} {rest : List Oper} {a : Act} {dst : Option Tmp} {ty : TypeId} {pos : String} {after : Array Edge} {guard : Option (Nat × Bool)} {Q : Exit → Act → World → Prop}
theorem wpL_buildA {n : Nat} {t e : TypeId} {bytes : Nat} (hE : Elem P t e n bytes) (x : Arr n) (hn : n ≤ 16777216) {parts : Array (Nat × Operand)} (hp : (parts.toList.map fun p => (p.1, a.eval p.2)) = [(0, x.val)]) (hH : Holds w0 S bs rows w)
    (hg : Region.wanted { dst := dst, op := .buildSlice t 1 parts, type := ty, pos := pos, after := after, guard := guard } (yielded ops a.tmps) = true)
    (h : ∀ g w', Holds w0 S bs (rowA e (some ⟨g, 0, none⟩) 1 [x] :: rows) w' → wpList P ops Q rest (a.put dst (.slice (some ⟨g, 0, none⟩) 1 1)) w') :
    wpList P ops Q ({ dst := dst, op := .buildSlice t 1 parts, type := ty, pos := pos, after := after, guard := guard } :: rest) a w :=
  wpList_buildArr hE [x] hH rfl hp (by omega) hg h
theorem wpL_appendA {k : Nat} {t e : TypeId} {bytes : Nat} {ao ax : Option Addr} {ca cx n m : Nat} {l l2 r : List (Arr k)} (hE : Elem P t e k bytes) (hH : Holds w0 S bs (⟨.slice ao n ca, e, k, n, flat l⟩ :: rows) w) (hx : Sl w (.slice ax m cx) k m (flat l2)) (hr : l ++ l2 = r) (hn : n = l.length) (hm : m = l2.length) (hb : (l.length + l2.length) * bytes ≤ 140737488355328) {s y : Operand} (hs : a.eval s = .slice ao n ca) (hy : a.eval y = .slice ax m cx)
    (hg : Region.wanted { dst := dst, op := .call { callee := .builtin .append, args := #[s, y], argTypes := #[t, t] }, type := ty, pos := pos, after := after, guard := guard } (yielded ops a.tmps) = true)
    (h : ∀ ao cap w', Holds w0 S bs (rowA e ao cap r :: rows) w' → wpList P ops Q rest (a.put dst (.slice ao r.length cap)) w') :
    wpList P ops Q ({ dst := dst, op := .call { callee := .builtin .append, args := #[s, y], argTypes := #[t, t] }, type := ty, pos := pos, after := after, guard := guard } :: rest) a w := by
  subst hn hm hr
  refine wpList_append hE hH hx (flat_cell1 _) hb hs hy hg fun ao cap w' h' => ?_
  have := h ao cap w' (by simpa only [rowA, List.length_append, flat_append] using h')
  rwa [List.length_append] at this
end
end Go.Proofs.Ytgkfopodhikckaa

/- Rules for merkle: an element of a list of arrays is read, a byte of an array variable is written, numbers cut to bytes and words. No condition. -/
namespace Go.Proofs.Ytgkfopodhikckaa
open Go.RowKit
section
variable {P : Program} {w0 w : World} {S : List Nat} {bs bs' : List (Nat × Obj)} {rows : List Row} {ops : Array Oper} {rest : List Oper} {a : Act} {Q : Exit → Act → World → Prop} {C : World → Prop} {K : Act → Prop} {dst : Option Tmp} {ty : TypeId} {pos : String} {after : Array Edge} {guard : Option (Nat × Bool)}
/-- An array of bytes that lies somewhere is read. -/
theorem wpL_loadEl {t : TypeId} {n : Nat} {v : Arr n} {ad : Addr} (hA : AggT P t n) (hc : ∀ j u, v.cells[j]? = some u → w.cell? (ad.add j) = some u) {x : Operand} (hx : a.eval x = .pointer (some ad))
    (hg : Region.wanted { dst := dst, op := .load t x, type := ty, pos := pos, after := after, guard := guard } (yielded ops a.tmps) = true)
    (h : wpList P ops Q rest (a.put dst v.val) w) : wpList P ops Q ({ dst := dst, op := .load t x, type := ty, pos := pos, after := after, guard := guard } :: rest) a w :=
  wpList_load_agg hA (Arr.len v) hc hx hg h
theorem wpQ_loadEl {t : TypeId} {n : Nat} {v : Arr n} {ad : Addr} (hA : AggT P t n) (hc : ∀ w, C w → ∀ j u, v.cells[j]? = some u → w.cell? (ad.add j) = some u) {x : Operand} (hx : a.eval x = .pointer (some ad))
    (hg : Region.wanted { dst := dst, op := .load t x, type := ty, pos := pos, after := after, guard := guard } (yielded ops a.tmps) = true)
    (h : wpQuiet P ops C K rest (a.put dst v.val)) : wpQuiet P ops C K ({ dst := dst, op := .load t x, type := ty, pos := pos, after := after, guard := guard } :: rest) a :=
  wpQ_load_agg hA (Arr.len v) hc hx hg h
theorem wpL_appendBr {ao ax : Option Addr} {ca cx n m : Nat} {l l2 r : List UInt8} (hH : Holds w0 S bs (⟨.slice ao n ca, 5, 1, n, l.map byt⟩ :: rows) w) (hx : Sl w (.slice ax m cx) 1 m (l2.map byt)) (hr : l ++ l2 = r) (hn : n = l.length) (hm : m = l2.length) (hb : l.length + l2.length ≤ 100000000) {s y : Operand} (hs : a.eval s = .slice ao n ca) (hy : a.eval y = .slice ax m cx)
    (hg : Region.wanted { dst := dst, op := .call { callee := .builtin .append, args := #[s, y], argTypes := #[22, 22] }, type := ty, pos := pos, after := after, guard := guard } (yielded ops a.tmps) = true)
    (h : ∀ ao cap w', Holds w0 S bs (rowB ao cap r :: rows) w' → wpList Try.prog ops Q rest (a.put dst (.slice ao r.length cap)) w') :
    wpList Try.prog ops Q ({ dst := dst, op := .call { callee := .builtin .append, args := #[s, y], argTypes := #[22, 22] }, type := ty, pos := pos, after := after, guard := guard } :: rest) a w := by
  subst hr; exact wpL_appendB hH hx hn hm hb hs hy hg h
/-- An int cut to a byte, to a word. -/
def i2b (i : Int) : UInt8 := UInt8.ofNat (i % 256).toNat
def i2w (i : Int) : W32 := BitVec.ofNat 32 (i % 4294967296).toNat
theorem run_i2b {s d : TypeId} {z : TypeDesc} (hs : P.underlying s = some z) (hd : P.underlying d = some (.int .u8)) (k : IntKind) (i : Int) (w : World) : (convert s d (.int k i)).run P w = .ok (byt (i2b i)) w := by
  simp only [convert, Sem.run_bind, run_underlying hs, run_underlying hd, Result.andThen_ok, Conv.intToInt, Sem.run_pure]
  have e : IntKind.u8.wrap i = i % 256 := rfl
  rw [e]
  simp only [byt, i2b, UInt8.toNat_ofNat']
  congr 3
  omega
theorem run_i2w {s d : TypeId} {z : TypeDesc} (hs : P.underlying s = some z) (hd : P.underlying d = some (.int .u32)) (k : IntKind) (i : Int) (w : World) : (convert s d (.int k i)).run P w = .ok (wrd (i2w i)) w := by
  simp only [convert, Sem.run_bind, run_underlying hs, run_underlying hd, Result.andThen_ok, Conv.intToInt, Sem.run_pure]
  have e : IntKind.u32.wrap i = i % 4294967296 := rfl
  rw [e]
  simp only [wrd, i2w, BitVec.toNat_ofNat]
  congr 3
  omega
theorem wpL_i2w {s d : TypeId} {z : TypeDesc} {x : Operand} {k : IntKind} {i : Int} {u : W32} (hs : P.underlying s = some z) (hd : P.underlying d = some (.int .u32)) (hx : a.eval x = .int k i) (hb : i2w i = u)
    (hg : Region.wanted { dst := dst, op := .convert s d x, type := ty, pos := pos, after := after, guard := guard } (yielded ops a.tmps) = true)
    (h : wpList P ops Q rest (a.put dst (wrd u)) w) : wpList P ops Q ({ dst := dst, op := .convert s d x, type := ty, pos := pos, after := after, guard := guard } :: rest) a w := by
  subst hb
  exact wpList_ex hg (by simp only [execOp, hx, Sem.run_bind, run_i2w hs hd, Result.andThen_ok, Sem.run_pure]) h
end
abbrev Nd := Arr 16
abbrev Nd0 : Nd := Arr.zero 16
/-- The hash of bytes. -/
def hashN (l : List UInt8) : Nd := halfA (sumB l)
def leafPre (i : Int) : List UInt8 := [0, w2b (i2w i >>> 24), w2b (i2w i >>> 16), w2b (i2w i >>> 8), w2b (i2w i)]
def leafN (i : Int) (l : List UInt8) : Nd := hashN (leafPre i ++ l)
def joinN (i : Int) (x y : Nd) : Nd := hashN ([1, i2b i] ++ x.1 ++ y.1)
end Go.Proofs.Ytgkfopodhikckaa

/- hash and Leaf of merkle; half, Leaf, Join of the reference. Condition: at most 900000 bytes. -/
namespace Go.Proofs.Ytgkfopodhikckaa
open Go.RowKit
attribute [local irreducible] wpQuiet wpList
set_option maxRecDepth 100000 in
set_option maxHeartbeats 2000000 in
theorem hash_any (w : World) (v : Value) (l : List UInt8) (hl : Byts w v l) (hn : l.length ≤ 900000) : Calls Try.prog 65 #[v] w (RetA w (hashN l)) := by
  obtain ⟨ao, cap, rfl, hc⟩ := hl.shape
  have HL := hid hl
  clear hl
  have HH := hid (Holds.init w)
  obtain ⟨d, hd⟩ : ∃ d, hashN l = d := ⟨_, rfl⟩
  have HD := hid (show halfA (sumB l) = d from hd)
  rw [hd]
  clear hd
  go_enter Try.func65, Try.ntmps65
  go_wp2_with (first
    | ((first
        | ((with_reducible apply wpL_skip); rfl; skip)
        | (go_at_call 35; (with_reducible refine (sumHalf_any _ _ l (HH.out.sl HL.out) hn).mono ?_); rw [HD.out]; rintro e_ w2_ ⟨rfl, hb_⟩; (have hq_ := HH.out.grow hb_); clear HH; have HH := hid hq_; clear hq_ hb_)
        | ((with_reducible apply wpL_storeC (t := 34) (vs := d.cells)); rfl; rfl; (exact kS34); (exact HH.out); (exact .here); (exact Arr.len _); (exact cells_one _); (exact Arr.len _); rfl; (intro w_ hq_; clear HH; have HH := hid hq_; clear hq_))
        | ((with_reducible apply wpL_nilCheck); rfl; rfl)
        | ((with_reducible apply wpL_allocC (dst := some 2) kZ34 HH.out); rfl; (intro g2_ w_ hq_; (try simp only [List.set_cons_zero, List.set_cons_succ] at hq_); clear HH; have HH := hid hq_; clear hq_))
        | ((with_reducible apply wpL_storeArr (t := 34) kS34 HH.out); rfl; rfl; (first | exact .here | exact .there .here | exact .there (.there .here) | exact .there (.there (.there .here)) | exact .there (.there (.there (.there .here))) | exact .there (.there (.there (.there (.there .here)))) | exact .there (.there (.there (.there (.there (.there .here))))) | exact .there (.there (.there (.there (.there (.there (.there .here))))))); (first | rfl | exact Arr.len _ | (simp; done)); rfl; (intro w_ hq_; (try simp only [List.set_cons_zero, List.set_cons_succ] at hq_); clear HH; have HH := hid hq_; clear hq_))
        | ((with_reducible apply wpL_storeC (t := 34)); rfl; rfl; (exact kS34); (exact HH.out); (first | exact .here | exact .there .here | exact .there (.there .here) | exact .there (.there (.there .here)) | exact .there (.there (.there (.there .here))) | exact .there (.there (.there (.there (.there .here)))) | exact .there (.there (.there (.there (.there (.there .here))))) | exact .there (.there (.there (.there (.there (.there (.there .here))))))); (first | rfl | exact Arr.len _ | (simp; done)); (first | rfl | (intro u_ hu_; simp only [List.mem_cons, List.not_mem_nil, or_false] at hu_; rcases hu_ with rfl | hu_; rfl) | exact byt_cell1 _ | exact cells_one _ | exact wrd_one _ | exact flat_cell1 _); (first | rfl | exact Arr.len _ | (simp; done)); rfl; (intro w_ hq_; (try simp only [List.set_cons_zero, List.set_cons_succ] at hq_); clear HH; have HH := hid hq_; clear hq_))
        | ((with_reducible apply wpL_move); rfl; rfl)
        | ((with_reducible apply wpL_assign); rfl; rfl)
        | ((with_reducible apply wpL_pick); rfl; rfl; rfl)
        | ((with_reducible apply wpL_not); rfl; rfl)
        | ((with_reducible apply wpL_cmp (b := true)); rfl; rfl; rfl; (first | rfl | assumption | (simp only [cmpB, decide_eq_true_eq, decide_eq_false_iff_not, beq_iff_eq, bne_iff_ne, ne_eq, beq_eq_false_iff_ne, bne_eq_false_iff_eq, gt_iff_lt, ge_iff_le]; omega) | (simp; omega)); rfl)
        | ((with_reducible apply wpL_cmp (b := false)); rfl; rfl; rfl; (first | rfl | assumption | (simp only [cmpB, decide_eq_true_eq, decide_eq_false_iff_not, beq_iff_eq, bne_iff_ne, ne_eq, beq_eq_false_iff_ne, bne_eq_false_iff_eq, gt_iff_lt, ge_iff_le]; omega) | (simp; omega)); rfl)
        | ((with_reducible apply wpL_cmp); rfl; rfl; rfl; rfl; rfl)
        | ((with_reducible apply wpL_arith); rfl; rfl; rfl; (exact IntWalk.i64_in _ (by (try simp only [arithI]); omega)); rfl)); (try simp only [arithI, Act.put, Act.eval, List.setIfInBounds_toArray, List.set_cons_succ, List.set_cons_zero, Array.getD_eq_getD_getElem?, List.getElem?_toArray, List.getElem?_cons_succ, List.getElem?_cons_zero, Option.getD_some])))
  refine bodyPost_ret (res1 rfl (resC kA34 HH.out (by rfl) .here (Arr.len _))) rfl ?_
  exact ⟨rfl, HH.out.below⟩
set_option maxRecDepth 100000 in
set_option maxHeartbeats 2000000 in
theorem leaf_any (w : World) (i : Int) (v : Value) (l : List UInt8) (hl : Byts w v l) (hn : l.length ≤ 800000) : Calls Try.prog 45 #[.int .i64 i, v] w (RetA w (leafN i l)) := by
  obtain ⟨ao, cap, rfl, hc⟩ := hl.shape
  have HL := hid hl
  clear hl
  have HH := hid (Holds.init w)
  obtain ⟨pre, hp⟩ : ∃ pre, leafPre i = pre := ⟨_, rfl⟩
  have HP := hid hp
  have HPL := hid (show pre.length = 5 by rw [← hp]; rfl)
  obtain ⟨d, hd⟩ : ∃ d, leafN i l = d := ⟨_, rfl⟩
  obtain ⟨al, hal⟩ : ∃ al, pre ++ l = al := ⟨_, rfl⟩
  have HAL := hid hal
  have HD := hid (show hashN al = d by rw [← hal, ← hp]; exact hd)
  rw [hd]
  have hlen : al.length ≤ 900000 := by rw [← hal, List.length_append, HPL.out]; omega
  have HLEN := hid hlen
  clear hd hp hlen hal
  go_enter Try.func45, Try.ntmps45
  go_wp2_with (first
    | ((first
        | ((with_reducible apply wpL_skip); rfl; skip)
        | ((with_reducible apply wpL_i2w (u := i2w i) Try.underlying3 Try.underlying105); rfl; rfl; rfl)
        | ((with_reducible apply wpL_wshr (p := i2w i)); rfl; rfl; (exact (by decide)); rfl)
        | ((with_reducible apply wpL_w2b (dst := some 10) (p := i2w i >>> 24) Try.underlying105 Try.underlying5); rfl; rfl)
        | ((with_reducible apply wpL_w2b (dst := some 13) (p := i2w i >>> 16) Try.underlying105 Try.underlying5); rfl; rfl)
        | ((with_reducible apply wpL_w2b (dst := some 16) (p := i2w i >>> 8) Try.underlying105 Try.underlying5); rfl; rfl)
        | ((with_reducible apply wpL_w2b (dst := some 18) (p := i2w i) Try.underlying105 Try.underlying5); rfl; rfl)
        | ((with_reducible apply wpL_buildB pre); (exact HPL.out.symm); (rw [← HP.out]; rfl); (exact (by decide)); (exact HH.out); rfl; (intro g_ w_ hq_; simp only [rowB, HPL.out] at hq_; clear HH; have HH := hid hq_; clear hq_))
        | ((with_reducible apply wpL_appendBr (n := 5) (l := pre) (l2 := l) (r := al) HH.out (HH.out.sl HL.out) HAL.out); (exact HPL.out.symm); rfl; (have := HPL.out; omega); rfl; rfl; rfl; (intro ao2 cap2 w_ hq_; clear HH; have HH := hid hq_; clear hq_))
        | (go_at_call 65; (with_reducible refine (hash_any _ _ al HH.out.sl0 HLEN.out).mono ?_); rw [HD.out]; rintro e_ w2_ ⟨rfl, hb_⟩; (have hq_ := HH.out.grow hb_); clear HH; have HH := hid hq_; clear hq_ hb_)
        | ((with_reducible apply wpL_storeC (t := 34) (vs := d.cells)); rfl; rfl; (exact kS34); (exact HH.out); (exact .here); (exact Arr.len _); (exact cells_one _); (exact Arr.len _); rfl; (intro w_ hq_; clear HH; have HH := hid hq_; clear hq_))
        | ((with_reducible apply wpL_nilCheck); rfl; rfl)
        | ((with_reducible apply wpL_allocC (dst := some 4) kZ34 HH.out); rfl; (intro g4_ w_ hq_; (try simp only [List.set_cons_zero, List.set_cons_succ] at hq_); clear HH; have HH := hid hq_; clear hq_))
        | ((with_reducible apply wpL_storeArr (t := 34) kS34 HH.out); rfl; rfl; (first | exact .here | exact .there .here | exact .there (.there .here) | exact .there (.there (.there .here)) | exact .there (.there (.there (.there .here))) | exact .there (.there (.there (.there (.there .here)))) | exact .there (.there (.there (.there (.there (.there .here))))) | exact .there (.there (.there (.there (.there (.there (.there .here))))))); (first | rfl | exact Arr.len _ | (simp; done)); rfl; (intro w_ hq_; (try simp only [List.set_cons_zero, List.set_cons_succ] at hq_); clear HH; have HH := hid hq_; clear hq_))
        | ((with_reducible apply wpL_storeC (t := 34)); rfl; rfl; (exact kS34); (exact HH.out); (first | exact .here | exact .there .here | exact .there (.there .here) | exact .there (.there (.there .here)) | exact .there (.there (.there (.there .here))) | exact .there (.there (.there (.there (.there .here)))) | exact .there (.there (.there (.there (.there (.there .here))))) | exact .there (.there (.there (.there (.there (.there (.there .here))))))); (first | rfl | exact Arr.len _ | (simp; done)); (first | rfl | (intro u_ hu_; simp only [List.mem_cons, List.not_mem_nil, or_false] at hu_; rcases hu_ with rfl | hu_; rfl) | exact byt_cell1 _ | exact cells_one _ | exact wrd_one _ | exact flat_cell1 _); (first | rfl | exact Arr.len _ | (simp; done)); rfl; (intro w_ hq_; (try simp only [List.set_cons_zero, List.set_cons_succ] at hq_); clear HH; have HH := hid hq_; clear hq_))
        | ((with_reducible apply wpL_move); rfl; rfl)
        | ((with_reducible apply wpL_assign); rfl; rfl)
        | ((with_reducible apply wpL_pick); rfl; rfl; rfl)
        | ((with_reducible apply wpL_not); rfl; rfl)
        | ((with_reducible apply wpL_cmp (b := true)); rfl; rfl; rfl; (first | rfl | assumption | (simp only [cmpB, decide_eq_true_eq, decide_eq_false_iff_not, beq_iff_eq, bne_iff_ne, ne_eq, beq_eq_false_iff_ne, bne_eq_false_iff_eq, gt_iff_lt, ge_iff_le]; omega) | (simp; omega)); rfl)
        | ((with_reducible apply wpL_cmp (b := false)); rfl; rfl; rfl; (first | rfl | assumption | (simp only [cmpB, decide_eq_true_eq, decide_eq_false_iff_not, beq_iff_eq, bne_iff_ne, ne_eq, beq_eq_false_iff_ne, bne_eq_false_iff_eq, gt_iff_lt, ge_iff_le]; omega) | (simp; omega)); rfl)
        | ((with_reducible apply wpL_cmp); rfl; rfl; rfl; rfl; rfl)
        | ((with_reducible apply wpL_arith); rfl; rfl; rfl; (exact IntWalk.i64_in _ (by (try simp only [arithI]); omega)); rfl)); (try simp only [arithI, Act.put, Act.eval, List.setIfInBounds_toArray, List.set_cons_succ, List.set_cons_zero, Array.getD_eq_getD_getElem?, List.getElem?_toArray, List.getElem?_cons_succ, List.getElem?_cons_zero, Option.getD_some])))
  refine bodyPost_ret (res1 rfl (resC kA34 HH.out (by rfl) .here (Arr.len _))) rfl ?_
  exact ⟨rfl, HH.out.below⟩
end Go.Proofs.Ytgkfopodhikckaa

/- Grow of nothing, Concat, Join. Condition: at most a hundred thousand bytes. -/
namespace Go.Proofs.Ytgkfopodhikckaa
open Go.RowKit
attribute [local irreducible] wpQuiet wpList
section
variable {w0 w : World} {S : List Nat} {bs bs' : List (Nat × Obj)} {rows : List Row} {ops : Array Oper} {rest : List Oper} {a : Act} {Q : Exit → Act → World → Prop} {dst : Option Tmp} {ty : TypeId} {pos : String} {after : Array Edge} {guard : Option (Nat × Bool)}
/-- append(nil, make([]byte, n)...). -/
theorem wpL_appendZ {n : Nat} {q : Int} {x y : Operand} (h0 : 0 < n) (hn : n ≤ 100000) (hx : a.eval x = .slice none 0 0) (hy : a.eval y = .int .i64 q) (hq : q = (n : Int)) (hH : Holds w0 S bs rows w)
    (hg : Region.wanted { dst := dst, op := .call { callee := .builtin .append, args := #[x, y], argTypes := #[22, 3] }, type := ty, pos := pos, after := after, guard := guard } (yielded ops a.tmps) = true)
    (h : ∀ g G w', Holds w0 S bs (⟨.slice (some ⟨g, 0, none⟩) 0 G, 5, 1, 0, []⟩ :: rows) w' → wpList Try.prog ops Q rest (a.put dst (.slice (some ⟨g, 0, none⟩) n G)) w') :
    wpList Try.prog ops Q ({ dst := dst, op := .call { callee := .builtin .append, args := #[x, y], argTypes := #[22, 3] }, type := ty, pos := pos, after := after, guard := guard } :: rest) a w := by
  subst hq
  obtain ⟨ht, hsz, hb1, i, z, hi, hz, hsize, hby, hzs⟩ := E22
  have hr := Lib.run_append_grow_zeros (P := Try.prog) w 22 3 ty 5 i z .i64 .i64 ht Try.underlying3 hi hz none 0 0 [] (run_firstCells_none w.drew i.size 0 0 0) n h0 (by omega) (by omega) (by omega) (by rw [hby]; omega)
    (by rw [hby]; exact growslice_fits (by omega) (by omega))
  have hge : n ≤ grownCap w (0 + n) 0 5 := by have := grownCap_ge w (0 + n) 0 5; omega
  have hle : grownCap w (0 + n) 0 5 ≤ maxLen := grownCap_le_maxLen w (0 + n) 0 5 (by unfold maxLen; omega)
  obtain ⟨G, hG⟩ : ∃ G, grownCap w (0 + n) 0 5 = G := ⟨_, rfl⟩
  rw [hG] at hr hge hle
  obtain ⟨cur, hcur⟩ : ∃ cur, (([] : List Value).toArray ++ Builtin.zeroCells z.cells n ++ Builtin.zeroCells z.cells (G - (0 + n))) = cur := ⟨_, rfl⟩
  have hcs : cur.size = G * 1 := by
    rw [← hcur]
    simp only [Array.size_append, List.size_toArray, size_zeroCells, List.length_nil, hzs]
    omega
  rw [hcur] at hr
  have hb : Below w.heap.size w (w.drew.alloc (.cells cur 5)) := (below_drew w).alloc (Nat.le_refl _) _
  have hrow : (w.drew.alloc (.cells cur 5)).ownsRow w.heap.size 5 1 (.slice (some ⟨w.heap.size, 0, none⟩) 0 G) 0 [] :=
    ⟨rfl, .inr ⟨w.heap.size, G, cur, rfl, Nat.le_refl _, heap_alloc_new w.drew _, Nat.zero_le _, hle, hcs, rfl⟩⟩
  refine wpList_ex hg (v := .slice (some ⟨w.heap.size, 0, none⟩) n G) ?_ (h _ _ _ (hH.addRow hb hrow))
  rw [BigFrame.execOp_builtin, BigFrame.builtin_append]
  simp only [Sem.run_bind, List.map_toArray, List.map_cons, List.map_nil, hx, hy, hr, Result.andThen_ok, Sem.run_pure, Nat.zero_add]
end
def RetGr (w : World) (e : Ending) (w' : World) : Prop :=
  ∃ ao G, e = .returned (.slice ao 0 G) ∧ w'.ownsRow w.heap.size 5 1 (.slice ao 0 G) 0 [] ∧ Below w.heap.size w w'
set_option maxRecDepth 100000 in
set_option maxHeartbeats 2000000 in
theorem growNil_any (w : World) (n : Nat) (h0 : 0 < n) (hn : n ≤ 100000) : Calls Try.prog 81 #[.slice none 0 0, .int .i64 n] w (RetGr w) := by
  have HH := hid (Holds.init w)
  go_enter Try.func81, Try.ntmps81
  go_wp2_with (first
    | ((first
        | ((with_reducible apply wpL_skip); rfl; skip)
        | ((with_reducible apply wpL_appendZ h0 hn); rfl; rfl; (exact (by go_num)); (exact HH.out); rfl; (intro g_ G_ w_ hq_; clear HH; have HH := hid hq_; clear hq_))
        | ((with_reducible apply wpL_nilCheck); rfl; rfl)
        | ((with_reducible apply wpL_len (t := 22) Try.underlying22); rfl; rfl)
        | ((with_reducible apply wpL_move); rfl; rfl)
        | ((with_reducible apply wpL_assign); rfl; rfl)
        | ((with_reducible apply wpL_pick); rfl; rfl; rfl)
        | ((with_reducible apply wpL_not); rfl; rfl)
        | ((with_reducible apply wpL_cmp (b := true)); rfl; rfl; rfl; (first | rfl | assumption | (simp only [cmpB, decide_eq_true_eq, decide_eq_false_iff_not, beq_iff_eq, bne_iff_ne, ne_eq, beq_eq_false_iff_ne, bne_eq_false_iff_eq, gt_iff_lt, ge_iff_le]; omega) | (simp; omega)); rfl)
        | ((with_reducible apply wpL_cmp (b := false)); rfl; rfl; rfl; (first | rfl | assumption | (simp only [cmpB, decide_eq_true_eq, decide_eq_false_iff_not, beq_iff_eq, bne_iff_ne, ne_eq, beq_eq_false_iff_ne, bne_eq_false_iff_eq, gt_iff_lt, ge_iff_le]; omega) | (simp; omega)); rfl)
        | ((with_reducible apply wpL_cmp); rfl; rfl; rfl; rfl; rfl)
        | ((with_reducible apply wpL_arith); rfl; rfl; rfl; (exact IntWalk.i64_in _ (by (try simp only [arithI]); omega)); rfl)); (try simp only [arithI, Act.put, Act.eval, List.setIfInBounds_toArray, List.set_cons_succ, List.set_cons_zero, Array.getD_eq_getD_getElem?, List.getElem?_toArray, List.getElem?_cons_succ, List.getElem?_cons_zero, Option.getD_some])))
  go_ret
  exact ⟨_, _, rfl, HH.out.own0, HH.out.below⟩
theorem RetBy.of {w w' : World} {l m : List UInt8} {ao : Option Addr} {cap : Nat} (h : l = m) (ho : w'.ownsRow w.heap.size 5 1 (.slice ao l.length cap) l.length (l.map byt)) (hb : Below w.heap.size w w') : RetBy w m (.returned (.slice ao l.length cap)) w' := by
  subst h; exact ⟨_, _, rfl, ho, hb⟩
def CatRel1 (w : World) (ls : List (List UInt8)) (n i : Value) (wr : World) : Prop :=
  ∃ k : Nat, k ≤ ls.length ∧ i = .int .i64 k ∧ n = .int .i64 ((ls.take k).flatten.length : Nat) ∧ Holds w [] [] [] wr
def CatRel2 (w : World) (ls : List (List UInt8)) (v i : Value) (wr : World) : Prop :=
  ∃ (k : Nat) (l : List UInt8) (ao : Option Addr) (cap : Nat), k ≤ ls.length ∧ i = .int .i64 k ∧ l = (ls.take k).flatten ∧ v = .slice ao l.length cap ∧ Holds w [] [] [rowB ao cap l] wr
theorem flat_step {ls : List (List UInt8)} {k : Nat} {p : List UInt8} (h : k < ls.length) (hp : ls.getD k [] = p) : (ls.take (k + 1)).flatten = (ls.take k).flatten ++ p := by
  rw [← List.take_append_getElem h, List.flatten_append]
  rw [List.getD_eq_getElem?_getD, List.getElem?_eq_getElem h, Option.getD_some] at hp
  simp [hp]
theorem flat_le (ls : List (List UInt8)) (k : Nat) : (ls.take k).flatten.length ≤ ls.flatten.length := by
  conv => rhs; rw [← List.take_append_drop k ls, List.flatten_append, List.length_append]
  omega
set_option maxRecDepth 100000 in
set_option maxHeartbeats 2000000 in
theorem concat_any (w : World) (v : Value) (ls : List (List UInt8)) (hl : Pcs w v ls) (hk : ls.length ≤ 1000) (h0 : 0 < ls.flatten.length) (hn : ls.flatten.length ≤ 100000) : Calls Try.prog 66 #[v] w (RetBy w ls.flatten) := by
  obtain ⟨cs, hsl, hcs⟩ := hl
  obtain ⟨ao, cap, rfl, hc⟩ := hsl.shape
  have HS := hid hsl
  have HCS := hid hcs
  clear hsl hcs
  obtain ⟨N, hN⟩ : ∃ N, ls.flatten.length = N := ⟨_, rfl⟩
  rw [hN] at h0 hn
  have HN := hid hN
  clear hN
  have HH := hid (Holds.init w)
  go_enter Try.func66, Try.ntmps66
  go_wp2_with (first
    | ((first
        | ((with_reducible apply wpL_skip); rfl; skip)
        | ((with_reducible apply wpL_nilCheck); rfl; rfl)
        | ((with_reducible apply wpL_load1 (t := 22) kO22 HH.out); rfl; (first | exact .here | exact .there .here | exact .there (.there .here) | exact .there (.there (.there .here)) | exact .there (.there (.there (.there .here))) | exact .there (.there (.there (.there (.there .here)))) | exact .there (.there (.there (.there (.there (.there .here))))) | exact .there (.there (.there (.there (.there (.there (.there .here))))))); rfl; rfl)
        | ((with_reducible apply wpL_len (t := 22) Try.underlying22); rfl; rfl)
        | ((with_reducible apply wpL_len (t := 62) Try.underlying62); rfl; rfl)
        | ((with_reducible apply wpL_move); rfl; rfl)
        | ((with_reducible apply wpL_assign); rfl; rfl)
        | ((with_reducible apply wpL_pick); rfl; rfl; rfl)
        | ((with_reducible apply wpL_not); rfl; rfl)
        | ((with_reducible apply wpL_cmp (b := true)); rfl; rfl; rfl; (first | rfl | assumption | (simp only [cmpB, decide_eq_true_eq, decide_eq_false_iff_not, beq_iff_eq, bne_iff_ne, ne_eq, beq_eq_false_iff_ne, bne_eq_false_iff_eq, gt_iff_lt, ge_iff_le]; omega) | (simp; omega)); rfl)
        | ((with_reducible apply wpL_cmp (b := false)); rfl; rfl; rfl; (first | rfl | assumption | (simp only [cmpB, decide_eq_true_eq, decide_eq_false_iff_not, beq_iff_eq, bne_iff_ne, ne_eq, beq_eq_false_iff_ne, bne_eq_false_iff_eq, gt_iff_lt, ge_iff_le]; omega) | (simp; omega)); rfl)
        | ((with_reducible apply wpL_cmp); rfl; rfl; rfl; rfl; rfl)
        | ((with_reducible apply wpL_arith); rfl; rfl; rfl; (exact IntWalk.i64_in _ (by (try simp only [arithI]); omega)); rfl)); (try simp only [arithI, Act.put, Act.eval, List.setIfInBounds_toArray, List.set_cons_succ, List.set_cons_zero, Array.getD_eq_getD_getElem?, List.getElem?_toArray, List.getElem?_cons_succ, List.getElem?_cons_zero, Option.getD_some])))
  go_loopw [3, 11] (CatRel1 w ls) (fun _ i _ => ls.length - (intOf i).toNat)
  case atStart => exact ⟨0, Nat.zero_le _, rfl, by simp, HH.out⟩
  case round =>
    obtain ⟨k, hk1, rfl, rfl, hr⟩ := hrel
    clear HH
    have HH := hid hr
    clear hr
    obtain ⟨m, hm⟩ : ∃ m, (ls.take k).flatten.length = m := ⟨_, rfl⟩
    have hmN : m ≤ N := by rw [← hm, ← HN.out]; exact flat_le ls k
    have HM := hid hm
    rw [hm]
    clear hm
    by_cases hlt : k < ls.length
    · obtain ⟨u, hu, hbu⟩ := HCS.out k hlt
      obtain ⟨au, cu, rfl, _⟩ := hbu.shape
      obtain ⟨p, hp⟩ : ∃ p, ls.getD k [] = p := ⟨_, rfl⟩
      have hst := flat_step hlt hp
      have hmp : m + p.length ≤ N := by
        have h1 := flat_le ls (k + 1)
        rw [hst, List.length_append, HM.out, HN.out] at h1
        exact h1
      have HST := hid (show (ls.take (k + 1)).flatten.length = m + p.length by rw [hst, List.length_append, HM.out])
      rw [hp] at hu hbu
      have HU := hid hu
      clear hu hbu hp hst
      obtain ⟨ad, cap', e⟩ := HS.out.some (by omega)
      cases e
      go_wp2_with (first
        | ((first
            | ((with_reducible apply wpL_skip); rfl; skip)
            | ((with_reducible apply wpL_idxB (dst := some 13) (j := k) kE62); rfl; rfl; rfl; (exact hlt); rfl)
            | ((with_reducible apply wpL_loadAt (dst := some 14) (v := .slice au p.length cu) kO22); (have hc_ := (HH.out.sl HS.out).cell k (.slice au p.length cu) HU.out; exact hc_); rfl; rfl)
            | ((with_reducible apply wpL_nilCheck); rfl; rfl)
            | ((with_reducible apply wpL_load1 (t := 22) kO22 HH.out); rfl; (first | exact .here | exact .there .here | exact .there (.there .here) | exact .there (.there (.there .here)) | exact .there (.there (.there (.there .here))) | exact .there (.there (.there (.there (.there .here)))) | exact .there (.there (.there (.there (.there (.there .here))))) | exact .there (.there (.there (.there (.there (.there (.there .here))))))); rfl; rfl)
            | ((with_reducible apply wpL_len (t := 22) Try.underlying22); rfl; rfl)
            | ((with_reducible apply wpL_len (t := 62) Try.underlying62); rfl; rfl)
            | ((with_reducible apply wpL_move); rfl; rfl)
            | ((with_reducible apply wpL_assign); rfl; rfl)
            | ((with_reducible apply wpL_pick); rfl; rfl; rfl)
            | ((with_reducible apply wpL_not); rfl; rfl)
            | ((with_reducible apply wpL_cmp (b := true)); rfl; rfl; rfl; (first | rfl | assumption | (simp only [cmpB, decide_eq_true_eq, decide_eq_false_iff_not, beq_iff_eq, bne_iff_ne, ne_eq, beq_eq_false_iff_ne, bne_eq_false_iff_eq, gt_iff_lt, ge_iff_le]; omega) | (simp; omega)); rfl)
            | ((with_reducible apply wpL_cmp (b := false)); rfl; rfl; rfl; (first | rfl | assumption | (simp only [cmpB, decide_eq_true_eq, decide_eq_false_iff_not, beq_iff_eq, bne_iff_ne, ne_eq, beq_eq_false_iff_ne, bne_eq_false_iff_eq, gt_iff_lt, ge_iff_le]; omega) | (simp; omega)); rfl)
            | ((with_reducible apply wpL_cmp); rfl; rfl; rfl; rfl; rfl)
            | ((with_reducible apply wpL_arith); rfl; rfl; rfl; (exact IntWalk.i64_in _ (by (try simp only [arithI]); omega)); rfl)); (try simp only [arithI, Act.put, Act.eval, List.setIfInBounds_toArray, List.set_cons_succ, List.set_cons_zero, Array.getD_eq_getD_getElem?, List.getElem?_toArray, List.getElem?_cons_succ, List.getElem?_cons_zero, Option.getD_some])))
      go_roundw
      case rel => exact ⟨k + 1, by omega, by go_num, by rw [HST.out]; go_num, HH.out⟩
      case measure => simp [intOf]; omega
    · obtain rfl : k = ls.length := by omega
      have hmN2 : m = N := by rw [← HM.out, ← HN.out, List.take_length]
      subst hmN2
      clear HM
      go_wp2_with (first
        | ((first
            | ((with_reducible apply wpL_skip); rfl; skip)
            | (go_at_call 81; (with_reducible refine (growNil_any _ m h0 hn).mono ?_); rintro e_ w2_ ⟨ao2, G2, rfl, hr_, hb_⟩; (have hq_ := HH.out.addRow hb_ hr_); clear HH; have HH := hid hq_; clear hq_ hr_ hb_)
            | ((with_reducible apply wpL_nilCheck); rfl; rfl)
            | ((with_reducible apply wpL_load1 (t := 22) kO22 HH.out); rfl; (first | exact .here | exact .there .here | exact .there (.there .here) | exact .there (.there (.there .here)) | exact .there (.there (.there (.there .here))) | exact .there (.there (.there (.there (.there .here)))) | exact .there (.there (.there (.there (.there (.there .here))))) | exact .there (.there (.there (.there (.there (.there (.there .here))))))); rfl; rfl)
            | ((with_reducible apply wpL_len (t := 22) Try.underlying22); rfl; rfl)
            | ((with_reducible apply wpL_len (t := 62) Try.underlying62); rfl; rfl)
            | ((with_reducible apply wpL_move); rfl; rfl)
            | ((with_reducible apply wpL_assign); rfl; rfl)
            | ((with_reducible apply wpL_pick); rfl; rfl; rfl)
            | ((with_reducible apply wpL_not); rfl; rfl)
            | ((with_reducible apply wpL_cmp (b := true)); rfl; rfl; rfl; (first | rfl | assumption | (simp only [cmpB, decide_eq_true_eq, decide_eq_false_iff_not, beq_iff_eq, bne_iff_ne, ne_eq, beq_eq_false_iff_ne, bne_eq_false_iff_eq, gt_iff_lt, ge_iff_le]; omega) | (simp; omega)); rfl)
            | ((with_reducible apply wpL_cmp (b := false)); rfl; rfl; rfl; (first | rfl | assumption | (simp only [cmpB, decide_eq_true_eq, decide_eq_false_iff_not, beq_iff_eq, bne_iff_ne, ne_eq, beq_eq_false_iff_ne, bne_eq_false_iff_eq, gt_iff_lt, ge_iff_le]; omega) | (simp; omega)); rfl)
            | ((with_reducible apply wpL_cmp); rfl; rfl; rfl; rfl; rfl)
            | ((with_reducible apply wpL_arith); rfl; rfl; rfl; (exact IntWalk.i64_in _ (by (try simp only [arithI]); omega)); rfl)); (try simp only [arithI, Act.put, Act.eval, List.setIfInBounds_toArray, List.set_cons_succ, List.set_cons_zero, Array.getD_eq_getD_getElem?, List.getElem?_toArray, List.getElem?_cons_succ, List.getElem?_cons_zero, Option.getD_some])))
      go_loopw [6, 27] (CatRel2 w ls) (fun _ i _ => ls.length - (intOf i).toNat)
      case atStart => exact ⟨0, [], ao2, G2, Nat.zero_le _, rfl, by simp, rfl, HH.out⟩
      case round =>
        obtain ⟨k, l, ao3, cap3, hk1, rfl, hl, rfl, hr⟩ := hrel
        clear HH
        have HH := hid hr
        have HLK := hid hl
        clear hr hl
        have hlN : l.length ≤ m := by rw [HLK.out, ← HN.out]; exact flat_le ls k
        by_cases hlt : k < ls.length
        · obtain ⟨u, hu, hbu⟩ := HCS.out k hlt
          obtain ⟨au, cu, rfl, _⟩ := hbu.shape
          obtain ⟨p, hp⟩ : ∃ p, ls.getD k [] = p := ⟨_, rfl⟩
          have hst := flat_step hlt hp
          have hmp : l.length + p.length ≤ m := by
            have h1 := flat_le ls (k + 1)
            rw [hst, List.length_append, ← HLK.out, HN.out] at h1
            exact h1
          obtain ⟨l2, hl2⟩ : ∃ l2, l ++ p = l2 := ⟨_, rfl⟩
          have HL2 := hid hl2
          have HST := hid (show l2 = (ls.take (k + 1)).flatten by rw [hst, ← HLK.out, hl2])
          rw [hp] at hu hbu
          have HU := hid hu
          have HBU := hid hbu
          clear hu hbu hp hst hl2
          obtain ⟨ad, cap', e⟩ := HS.out.some (by omega)
          cases e
          go_wp2_with (first
            | ((first
                | ((with_reducible apply wpL_skip); rfl; skip)
                | ((with_reducible apply wpL_idxB (dst := some 29) (j := k) kE62); rfl; rfl; rfl; (exact hlt); rfl)
                | ((with_reducible apply wpL_loadAt (dst := some 30) (v := .slice au p.length cu) kO22); (have hc_ := (HH.out.sl HS.out).cell k (.slice au p.length cu) HU.out; exact hc_); rfl; rfl)
                | ((with_reducible apply wpL_appendBr (dst := some 33) (l := l) (l2 := p) (r := l2) HH.out (HH.out.sl HBU.out) HL2.out); rfl; rfl; (exact (by omega)); rfl; rfl; rfl; (intro ao4 cap4 w_ hq_; clear HH; have HH := hid hq_; clear hq_))
                | ((with_reducible apply wpL_nilCheck); rfl; rfl)
                | ((with_reducible apply wpL_load1 (t := 22) kO22 HH.out); rfl; (first | exact .here | exact .there .here | exact .there (.there .here) | exact .there (.there (.there .here)) | exact .there (.there (.there (.there .here))) | exact .there (.there (.there (.there (.there .here)))) | exact .there (.there (.there (.there (.there (.there .here))))) | exact .there (.there (.there (.there (.there (.there (.there .here))))))); rfl; rfl)
                | ((with_reducible apply wpL_len (t := 22) Try.underlying22); rfl; rfl)
                | ((with_reducible apply wpL_len (t := 62) Try.underlying62); rfl; rfl)
                | ((with_reducible apply wpL_move); rfl; rfl)
                | ((with_reducible apply wpL_assign); rfl; rfl)
                | ((with_reducible apply wpL_pick); rfl; rfl; rfl)
                | ((with_reducible apply wpL_not); rfl; rfl)
                | ((with_reducible apply wpL_cmp (b := true)); rfl; rfl; rfl; (first | rfl | assumption | (simp only [cmpB, decide_eq_true_eq, decide_eq_false_iff_not, beq_iff_eq, bne_iff_ne, ne_eq, beq_eq_false_iff_ne, bne_eq_false_iff_eq, gt_iff_lt, ge_iff_le]; omega) | (simp; omega)); rfl)
                | ((with_reducible apply wpL_cmp (b := false)); rfl; rfl; rfl; (first | rfl | assumption | (simp only [cmpB, decide_eq_true_eq, decide_eq_false_iff_not, beq_iff_eq, bne_iff_ne, ne_eq, beq_eq_false_iff_ne, bne_eq_false_iff_eq, gt_iff_lt, ge_iff_le]; omega) | (simp; omega)); rfl)
                | ((with_reducible apply wpL_cmp); rfl; rfl; rfl; rfl; rfl)
                | ((with_reducible apply wpL_arith); rfl; rfl; rfl; (exact IntWalk.i64_in _ (by (try simp only [arithI]); omega)); rfl)); (try simp only [arithI, Act.put, Act.eval, List.setIfInBounds_toArray, List.set_cons_succ, List.set_cons_zero, Array.getD_eq_getD_getElem?, List.getElem?_toArray, List.getElem?_cons_succ, List.getElem?_cons_zero, Option.getD_some])))
          go_roundw
          case rel => exact ⟨k + 1, l2, _, _, by omega, by go_num, HST.out, rfl, HH.out⟩
          case measure => simp [intOf]; omega
        · have HE := hid (show l = ls.flatten by rw [HLK.out, List.take_of_length_le (by omega)])
          go_wp2_with (first
            | ((first
                | ((with_reducible apply wpL_skip); rfl; skip)
                | ((with_reducible apply wpL_nilCheck); rfl; rfl)
                | ((with_reducible apply wpL_load1 (t := 22) kO22 HH.out); rfl; (first | exact .here | exact .there .here | exact .there (.there .here) | exact .there (.there (.there .here)) | exact .there (.there (.there (.there .here))) | exact .there (.there (.there (.there (.there .here)))) | exact .there (.there (.there (.there (.there (.there .here))))) | exact .there (.there (.there (.there (.there (.there (.there .here))))))); rfl; rfl)
                | ((with_reducible apply wpL_len (t := 22) Try.underlying22); rfl; rfl)
                | ((with_reducible apply wpL_len (t := 62) Try.underlying62); rfl; rfl)
                | ((with_reducible apply wpL_move); rfl; rfl)
                | ((with_reducible apply wpL_assign); rfl; rfl)
                | ((with_reducible apply wpL_pick); rfl; rfl; rfl)
                | ((with_reducible apply wpL_not); rfl; rfl)
                | ((with_reducible apply wpL_cmp (b := true)); rfl; rfl; rfl; (first | rfl | assumption | (simp only [cmpB, decide_eq_true_eq, decide_eq_false_iff_not, beq_iff_eq, bne_iff_ne, ne_eq, beq_eq_false_iff_ne, bne_eq_false_iff_eq, gt_iff_lt, ge_iff_le]; omega) | (simp; omega)); rfl)
                | ((with_reducible apply wpL_cmp (b := false)); rfl; rfl; rfl; (first | rfl | assumption | (simp only [cmpB, decide_eq_true_eq, decide_eq_false_iff_not, beq_iff_eq, bne_iff_ne, ne_eq, beq_eq_false_iff_ne, bne_eq_false_iff_eq, gt_iff_lt, ge_iff_le]; omega) | (simp; omega)); rfl)
                | ((with_reducible apply wpL_cmp); rfl; rfl; rfl; rfl; rfl)
                | ((with_reducible apply wpL_arith); rfl; rfl; rfl; (exact IntWalk.i64_in _ (by (try simp only [arithI]); omega)); rfl)); (try simp only [arithI, Act.put, Act.eval, List.setIfInBounds_toArray, List.set_cons_succ, List.set_cons_zero, Array.getD_eq_getD_getElem?, List.getElem?_toArray, List.getElem?_cons_succ, List.getElem?_cons_zero, Option.getD_some])))
          go_ret
          exact RetBy.of HE.out HH.out.own0 HH.out.below
end Go.Proofs.Ytgkfopodhikckaa

/- IndexByte of a constant, Unhex of ascii. Condition: a text of at most a million bytes. -/
namespace Go.Proofs.Ytgkfopodhikckaa
open Go.RowKit
section
variable {P : Program} {ops : Array Oper} {rest : List Oper} {a : Act} {dst : Option Tmp} {ty : TypeId} {pos : String} {after : Array Edge} {guard : Option (Nat × Bool)} {w w0 : World} {S : List Nat} {bs : List (Nat × Obj)} {rows : List Row} {Q : Exit → Act → World → Prop} {C : World → Prop} {K : Act → Prop}
/-- A function value is called. -/
theorem ex_callV {f : FuncId} (hf : Body P f) {x : Operand} {first cap : Array Value} {xs : Array Operand} {ats : Array TypeId} {args : Array Value} (hx : a.eval x = .func (.func f) first cap) (ha : first ++ (xs.toList.map a.eval).toArray ++ cap = args) (w : World) :
    (execOp a.eval { dst := dst, op := .call { callee := .value x, args := xs, argTypes := ats }, type := ty, pos := pos, after := after, guard := guard }).run P w = .ok (.enter f args) w := by
  obtain ⟨fn, c, h1, h2, h3⟩ := hf
  have h3' : ¬ fn.name = "runtime.NumGoroutine" := by simpa using h3
  have hm : (xs.toList.map a.eval).toArray = xs.map a.eval := by rw [← Array.toList_map, Array.toArray_toList]
  rw [hm] at ha
  simp only [execOp, resolve, hx, Deferred.ofValue, Sem.run_bind, Sem.run_pure, Result.andThen_ok, invoke, ha]
  simp [callFunc, h1, h2, h3']
theorem wpL_callV {f : FuncId} {args first cap : Array Value} {R : Ending → World → Prop} (hf : Body P f) {x : Operand} {xs : Array Operand} {ats : Array TypeId} (hx : a.eval x = .func (.func f) first cap) (ha : first ++ (xs.toList.map a.eval).toArray ++ cap = args)
    (hc : Calls P f args w R)
    (hg : Region.wanted { dst := dst, op := .call { callee := .value x, args := xs, argTypes := ats }, type := ty, pos := pos, after := after, guard := guard } (yielded ops a.tmps) = true)
    (h : ∀ e w', R e w' → ∃ v, e = .returned v ∧ wpList P ops Q rest (a.put dst v) w') : wpList P ops Q ({ dst := dst, op := .call { callee := .value x, args := xs, argTypes := ats }, type := ty, pos := pos, after := after, guard := guard } :: rest) a w :=
  wpList_step fun K hK => by
    rw [if_pos hg]
    unfold Oper.wp
    rw [ex_callV hf hx ha w]
    simp only [Oper.upon]
    exact hc.mono fun e w' hR => by
      obtain ⟨v, rfl, hv⟩ := h e w' hR
      exact hK _ _ hv
end
end Go.Proofs.Ytgkfopodhikckaa

/- Bytes divided, bytes as numbers, strings cut. Over any program. No condition. -/
namespace Go.Proofs.Ytgkfopodhikckaa
open Go.RowKit
section
variable {P : Program} {ops : Array Oper} {rest : List Oper} {a : Act} {dst : Option Tmp} {ty : TypeId} {pos : String} {after : Array Edge} {guard : Option (Nat × Bool)} {w w0 : World} {S : List Nat} {bs : List (Nat × Obj)} {rows : List Row} {Q : Exit → Act → World → Prop} {C : World → Prop} {K : Act → Prop}
end
/-- Bytes of a literal, in a region that draws its order. -/
theorem ex_buildB {P : Program} {ρ : Operand → Value} {dst : Option Tmp} {ty : TypeId} {pos : String} {after : Array Edge} {guard : Option (Nat × Bool)} {t : TypeId} (hE : Elem P t 5 1 1) (l : List UInt8) {parts : Array (Nat × Operand)} {n : Nat}
    (hn : n = l.length) (hp : (parts.toList.map fun p => (p.1, ρ p.2)) = ((l.map byt).zipIdx 0).map fun p => (p.2, p.1)) (hb : n ≤ 1000) (w : World) :
    ∃ v w', (execOp ρ { dst := dst, op := .buildSlice t n parts, type := ty, pos := pos, after := after, guard := guard }).run P w = .ok (.value v) w' ∧ Below w.heap.size w w' ∧
      ∀ base, base ≤ w.heap.size → (∃ ao, v = .slice ao n n) ∧ w'.ownsRow base 5 1 v n (l.map byt) := by
  have hv : ∀ v ∈ l.map byt, v.cells.size = 1 := by
    intro v hv
    obtain ⟨x, _, rfl⟩ := List.mem_map.1 hv
    rfl
  have h := run_buildSlice (P := P) hE (l.map byt) hv (by simp; omega) w
  have hx : (l.map byt).flatMap (·.cells.toList) = l.map byt := by
    clear hp hb hv h hn
    induction l with
    | nil => rfl
    | cons x l ih => simp only [List.map_cons, List.flatMap_cons, ih]; rfl
  rw [hx, List.length_map, ← hn] at h
  refine ⟨_, w.alloc (.cells (l.map byt).toArray 5), ?_, below_alloc w _, fun base hbase => ⟨⟨_, rfl⟩, by simp [hn], .inr ⟨w.heap.size, n, _, rfl, hbase, heap_alloc_new w _, Nat.le_refl _, by unfold maxLen; omega, by simp [hn], by rw [hn, Nat.mul_one]; exact List.take_of_length_le (by simp)⟩⟩⟩
  simp only [execOp, Sem.run_bind]
  rw [show (parts.map fun x => match x with | (i, y) => (i, ρ y)) = (parts.toList.map fun p => (p.1, ρ p.2)).toArray by rw [← Array.toList_map, Array.toArray_toList], hp, h]
  rfl
section
variable {P : Program} {w : World} {ρ : Operand → Value} {dst : Option Tmp} {ty : TypeId} {pos : String} {after : Array Edge} {guard : Option (Nat × Bool)}
end
end Go.Proofs.Ytgkfopodhikckaa

/- Join of merkle. No condition. -/
namespace Go.Proofs.Ytgkfopodhikckaa
open Go.RowKit
attribute [local irreducible] wpQuiet wpList
section
variable {P : Program} {w0 w : World} {S : List Nat} {bs bs' : List (Nat × Obj)} {rows : List Row} {ops : Array Oper} {rest : List Oper} {a : Act} {Q : Exit → Act → World → Prop} {ρ : Operand → Value} {dst : Option Tmp} {ty : TypeId} {pos : String} {after : Array Edge} {guard : Option (Nat × Bool)}
theorem ex_i2b {s d : TypeId} {z : TypeDesc} {x : Operand} {k : IntKind} {i : Int} (hs : P.underlying s = some z) (hd : P.underlying d = some (.int .u8)) (hx : ρ x = .int k i) (w : World) :
    (execOp ρ { dst := dst, op := .convert s d x, type := ty, pos := pos, after := after, guard := guard }).run P w = .ok (.value (byt (i2b i))) w := by
  simp only [execOp, hx, Sem.run_bind, run_i2b hs hd, Result.andThen_ok, Sem.run_pure]
theorem ex_sliceArr {t e : TypeId} {n sz : Nat} (ht : P.underlying t = some (.array n e)) (hz : (P.info? e).map (·.size) = some sz) {x : Operand} {g : Nat} (hx : ρ x = .pointer (some ⟨g, 0, none⟩)) (w : World) :
    (execOp ρ { dst := dst, op := .slice t x none none none, type := ty, pos := pos, after := after, guard := guard }).run P w = .ok (.value (.slice (some ⟨g, 0, none⟩) n n)) w := by
  simp [execOp, hx, Instr.sliceAt, Instr.slice, Instr.sliceBounds, Instr.sliceBound, asIntOf, run_underlying ht, run_sizeOf hz, Addr.add, Instr.sureAddr]
theorem wpL_buildP (va vb vc : Value) {parts : Array (Nat × Operand)} (ha : va.cells = #[va]) (hb : vb.cells = #[vb]) (hc : vc.cells = #[vc]) (hp : (parts.toList.map fun p => (p.1, a.eval p.2)) = [(0, va), (1, vb), (2, vc)]) (hH : Holds w0 S bs rows w)
    (hg : Region.wanted { dst := dst, op := .buildSlice 62 3 parts, type := ty, pos := pos, after := after, guard := guard } (yielded ops a.tmps) = true)
    (h : ∀ g w', Holds w0 S bs (⟨.slice (some ⟨g, 0, none⟩) 3 3, 22, 1, 3, [va, vb, vc]⟩ :: rows) w' → wpList Try.prog ops Q rest (a.put dst (.slice (some ⟨g, 0, none⟩) 3 3)) w') :
    wpList Try.prog ops Q ({ dst := dst, op := .buildSlice 62 3 parts, type := ty, pos := pos, after := after, guard := guard } :: rest) a w :=
  wpList_buildSlice kE62 [va, vb, vc] (by intro v hv; simp only [List.mem_cons, List.not_mem_nil, or_false] at hv; rcases hv with rfl | rfl | rfl <;> simp [ha, hb, hc]) (by simp) rfl hp hH (xs := [va, vb, vc]) (by simp [ha, hb, hc]) hg h
end
theorem pcs3 {w w0 : World} {lb : UInt8} {x y : Nd} {g4 g5 g6 gp ca : Nat} {aa : Option Addr} {o : Obj} {rows : List Row} (hx : x.1.length = 16) (hy : y.1.length = 16)
    (h : Holds w0 [] [(g6, o), (g5, objC y.cells 34), (g4, objC x.cells 34)] (⟨.slice (some ⟨gp, 0, none⟩) 3 3, 22, 1, 3, [.slice aa 2 ca, .slice (some ⟨g4, 0, none⟩) 16 16, .slice (some ⟨g5, 0, none⟩) 16 16]⟩ :: ⟨.slice aa 2 ca, 5, 1, 2, [1, lb].map byt⟩ :: rows) w) :
    Pcs w (.slice (some ⟨gp, 0, none⟩) 3 3) [[1, lb], x.1, y.1] := by
  have b0 : Byts w (.slice aa 2 ca) [1, lb] := h.sl1
  have b1 : Byts w (.slice (some ⟨g4, 0, none⟩) 16 16) x.1 := Byts.ofArrAll (x := x) h (.there (.there .here))
  have b2 : Byts w (.slice (some ⟨g5, 0, none⟩) 16 16) y.1 := Byts.ofArrAll (x := y) h (.there .here)
  refine ⟨_, h.sl0, fun i hi => ?_⟩
  match i, hi with
  | 0, _ => exact ⟨_, rfl, b0⟩
  | 1, _ => exact ⟨_, rfl, b1⟩
  | 2, _ => exact ⟨_, rfl, b2⟩
set_option maxRecDepth 100000 in
set_option maxHeartbeats 2000000 in
theorem join_any (w : World) (i : Int) (x y : Nd) : Calls Try.prog 37 #[.int .i64 i, x.val, y.val] w (RetA w (joinN i x y)) := by
  have HH := hid (Holds.init w)
  obtain ⟨lb, hlb⟩ : ∃ lb, i2b i = lb := ⟨_, rfl⟩
  have HLB := hid hlb
  obtain ⟨d, hd⟩ : ∃ d, joinN i x y = d := ⟨_, rfl⟩
  obtain ⟨fl, hfl⟩ : ∃ fl, [[1, lb], x.1, y.1].flatten = fl := ⟨_, rfl⟩
  have HFE := hid hfl
  have HD := hid (show hashN fl = d by rw [← hd, ← hfl, ← hlb]; unfold joinN; simp)
  have HX := hid x.2
  have HY := hid y.2
  have HFL := hid (show fl.length = 34 by rw [← hfl]; simp [x.2, y.2])
  rw [hd]
  clear hd hlb hfl
  go_enter Try.func37, Try.ntmps37
  go_wp2_with (first
    | ((first
        | ((with_reducible apply wpL_skip); rfl; skip)
        | ((with_reducible apply wpL_nilCheck); rfl; rfl)
        | ((with_reducible apply wpL_boxArr (dst := some 4)); rfl; (exact HH.out); rfl; (intro g4_ w_ hq_; (try simp only [List.set_cons_zero, List.set_cons_succ] at hq_); clear HH; have HH := hid hq_; clear hq_))
        | ((with_reducible apply wpL_boxArr (dst := some 5)); rfl; (exact HH.out); rfl; (intro g5_ w_ hq_; (try simp only [List.set_cons_zero, List.set_cons_succ] at hq_); clear HH; have HH := hid hq_; clear hq_))
        | ((with_reducible apply wpL_allocC (dst := some 6) kZ34 HH.out); rfl; (intro g6_ w_ hq_; (try simp only [List.set_cons_zero, List.set_cons_succ] at hq_); clear HH; have HH := hid hq_; clear hq_))
        | ((with_reducible apply wpL_storeArr (t := 34) kS34 HH.out); rfl; rfl; (first | exact .here | exact .there .here | exact .there (.there .here) | exact .there (.there (.there .here)) | exact .there (.there (.there (.there .here))) | exact .there (.there (.there (.there (.there .here)))) | exact .there (.there (.there (.there (.there (.there .here))))) | exact .there (.there (.there (.there (.there (.there (.there .here))))))); (first | rfl | exact Arr.len _ | (simp; done)); rfl; (intro w_ hq_; (try simp only [List.set_cons_zero, List.set_cons_succ] at hq_); clear HH; have HH := hid hq_; clear hq_))
        | ((with_reducible apply wpL_storeC (t := 34)); rfl; rfl; (exact kS34); (exact HH.out); (first | exact .here | exact .there .here | exact .there (.there .here) | exact .there (.there (.there .here)) | exact .there (.there (.there (.there .here))) | exact .there (.there (.there (.there (.there .here)))) | exact .there (.there (.there (.there (.there (.there .here))))) | exact .there (.there (.there (.there (.there (.there (.there .here))))))); (first | rfl | exact Arr.len _ | (simp; done)); (first | rfl | (intro u_ hu_; simp only [List.mem_cons, List.not_mem_nil, or_false] at hu_; rcases hu_ with rfl | hu_; rfl) | exact byt_cell1 _ | exact cells_one _ | exact wrd_one _ | exact flat_cell1 _); (first | rfl | exact Arr.len _ | (simp; done)); rfl; (intro w_ hq_; (try simp only [List.set_cons_zero, List.set_cons_succ] at hq_); clear HH; have HH := hid hq_; clear hq_))
        | ((with_reducible apply wpL_move); rfl; rfl)
        | ((with_reducible apply wpL_assign); rfl; rfl)
        | ((with_reducible apply wpL_pick); rfl; rfl; rfl)
        | ((with_reducible apply wpL_not); rfl; rfl)
        | ((with_reducible apply wpL_cmp (b := true)); rfl; rfl; rfl; (first | rfl | assumption | (simp only [cmpB, decide_eq_true_eq, decide_eq_false_iff_not, beq_iff_eq, bne_iff_ne, ne_eq, beq_eq_false_iff_ne, bne_eq_false_iff_eq, gt_iff_lt, ge_iff_le]; omega) | (simp; omega)); rfl)
        | ((with_reducible apply wpL_cmp (b := false)); rfl; rfl; rfl; (first | rfl | assumption | (simp only [cmpB, decide_eq_true_eq, decide_eq_false_iff_not, beq_iff_eq, bne_iff_ne, ne_eq, beq_eq_false_iff_ne, bne_eq_false_iff_eq, gt_iff_lt, ge_iff_le]; omega) | (simp; omega)); rfl)
        | ((with_reducible apply wpL_cmp); rfl; rfl; rfl; rfl; rfl)
        | ((with_reducible apply wpL_arith); rfl; rfl; rfl; (exact IntWalk.i64_in _ (by (try simp only [arithI]); omega)); rfl)); (try simp only [arithI, Act.put, Act.eval, List.setIfInBounds_toArray, List.set_cons_succ, List.set_cons_zero, Array.getD_eq_getD_getElem?, List.getElem?_toArray, List.getElem?_cons_succ, List.getElem?_cons_zero, Option.getD_some])))
  refine wp_region_tailR 5 [Asr.is (.int .i64 i), Asr.is (byt lb), Asr.full w_.heap.size 5 1 2 ([1, lb].map byt), Asr.is (.slice (some ⟨g4_, 0, none⟩) 16 16), Asr.is (.slice (some ⟨g5_, 0, none⟩) 16 16)] HH.out (by kernel_rfl) (by kernel_rfl) (by kernel_rfl) rfl ?_ ?_
  all_goals simp only [List.take_succ_cons, List.take_zero, List.drop_succ_cons, List.drop_zero]
  · refine eachD_cons ?_ (eachD_cons ?_ (eachD_cons ?_ (eachD_cons ?_ (eachD_cons ?_ (eachD_nil)))))
    · intro a_ w1 hI hF hS
      have e0 : a_.eval (.tmp 0) = (.int .i64 i) := (hF.2.2 0 (notDst_of (by kernel_rfl))).trans rfl
      refine wantD (by rfl) ?_
      exact op_val rfl (ex_move rfl w1) e0
    · intro a_ w1 hI hF hS
      have e7 : a_.eval (.tmp 7) = (.int .i64 i) := hS ⟨0, .data⟩ (by simp) rfl _ rfl
      refine wantD (by rfl) ?_
      exact op_val rfl (ex_i2b Try.underlying3 Try.underlying5 e7 w1) (congrArg byt HLB.out)
    · intro a_ w1 hI hF hS
      have e8 : a_.eval (.tmp 8) = (byt lb) := hS ⟨1, .data⟩ (by simp) rfl _ rfl
      refine wantD (by rfl) ?_
      obtain ⟨v_, w_, hr_, hb_, hA_⟩ := ex_buildB (ρ := a_.eval) kE22 [1, lb] (parts := #[(0, .const (.int .u8 1)), (1, .tmp 8)]) (n := 2) rfl (by show [(0, a_.eval (.const (.int .u8 1))), (1, a_.eval (.tmp 8))] = _; rw [e8]; rfl) (by decide) w1; exact op_new rfl hr_ hb_ (hA_ _ hI.2.size)
    · intro a_ w1 hI hF hS
      have e4 : a_.eval (.tmp 4) = (.pointer (some ⟨g4_, 0, none⟩)) := (hF.2.2 4 (notDst_of (by kernel_rfl))).trans rfl
      refine wantD (by rfl) ?_
      exact op_val rfl (ex_sliceArr Try.underlying34 kS5 e4 w1) rfl
    · intro a_ w1 hI hF hS
      have e5 : a_.eval (.tmp 5) = (.pointer (some ⟨g5_, 0, none⟩)) := (hF.2.2 5 (notDst_of (by kernel_rfl))).trans rfl
      refine wantD (by rfl) ?_
      exact op_val rfl (ex_sliceArr Try.underlying34 kS5 e5 w1) rfl
  intro wq hq_ hb_
  intro v0_ h0_ v1_ h1_ v2_ h2_ v3_ h3_ v4_ h4_
  have q_ : v0_ = (.int .i64 i) := h0_; clear h0_; subst q_
  have q_ : v1_ = (byt lb) := h1_; clear h1_; subst q_
  have K2 := hid h2_; clear h2_
  have q_ : v3_ = (.slice (some ⟨g4_, 0, none⟩) 16 16) := h3_; clear h3_; subst q_
  have q_ : v4_ = (.slice (some ⟨g5_, 0, none⟩) 16 16) := h4_; clear h4_; subst q_
  simp only [endD, putsD, Act.put, List.setIfInBounds_toArray, List.set_cons_succ, List.set_cons_zero]
  have HQ := hid hq_; clear hq_
  have HB_ := hid hb_; clear hb_
  obtain ⟨aa, ca, rfl⟩ := row_shape K2.out.2
  have hq2_ := HH.out.addRow HB_.out K2.out.2
  clear HH HQ K2 HB_
  have HH := hid hq2_
  clear hq2_
  go_wp2_with (first
    | ((first
        | ((with_reducible apply wpL_skip); rfl; skip)
        | ((with_reducible apply wpL_buildP (.slice aa 2 ca) (.slice (some ⟨g4_, 0, none⟩) 16 16) (.slice (some ⟨g5_, 0, none⟩) 16 16) rfl rfl rfl); rfl; (exact HH.out); rfl; (intro gp w_ hq_; clear HH; have HH := hid hq_; clear hq_))
        | (go_at_call 66; (have hcall_ := hid (concat_any _ (.slice (some ⟨gp, 0, none⟩) 3 3) [[1, lb], x.1, y.1] (pcs3 HX.out HY.out HH.out) (by simp) (by rw [HFE.out, HFL.out]; decide) (by rw [HFE.out, HFL.out]; decide))); (with_reducible refine hcall_.out.mono ?_); clear hcall_; rw [HFE.out]; rintro e_ w2_ ⟨ao3, cap3, rfl, hr_, hb_⟩; (have hq_ := HH.out.addRow hb_ hr_); clear HH; have HH := hid hq_; clear hq_ hr_ hb_)
        | (go_at_call 65; (have hcall_ := hid (hash_any _ _ fl HH.out.sl0 (by rw [HFL.out]; decide))); (with_reducible refine hcall_.out.mono ?_); clear hcall_; rw [HD.out]; rintro e_ w2_ ⟨rfl, hb_⟩; (have hq_ := HH.out.grow hb_); clear HH; have HH := hid hq_; clear hq_ hb_)
        | ((with_reducible apply wpL_storeC (t := 34) (vs := d.cells)); rfl; rfl; (exact kS34); (exact HH.out); (exact .here); (exact Arr.len _); (exact cells_one _); (exact Arr.len _); rfl; (intro w_ hq_; clear HH; have HH := hid hq_; clear hq_))
        | ((with_reducible apply wpL_nilCheck); rfl; rfl)
        | ((with_reducible apply wpL_boxArr (dst := some 4)); rfl; (exact HH.out); rfl; (intro g4_ w_ hq_; (try simp only [List.set_cons_zero, List.set_cons_succ] at hq_); clear HH; have HH := hid hq_; clear hq_))
        | ((with_reducible apply wpL_boxArr (dst := some 5)); rfl; (exact HH.out); rfl; (intro g5_ w_ hq_; (try simp only [List.set_cons_zero, List.set_cons_succ] at hq_); clear HH; have HH := hid hq_; clear hq_))
        | ((with_reducible apply wpL_allocC (dst := some 6) kZ34 HH.out); rfl; (intro g6_ w_ hq_; (try simp only [List.set_cons_zero, List.set_cons_succ] at hq_); clear HH; have HH := hid hq_; clear hq_))
        | ((with_reducible apply wpL_storeArr (t := 34) kS34 HH.out); rfl; rfl; (first | exact .here | exact .there .here | exact .there (.there .here) | exact .there (.there (.there .here)) | exact .there (.there (.there (.there .here))) | exact .there (.there (.there (.there (.there .here)))) | exact .there (.there (.there (.there (.there (.there .here))))) | exact .there (.there (.there (.there (.there (.there (.there .here))))))); (first | rfl | exact Arr.len _ | (simp; done)); rfl; (intro w_ hq_; (try simp only [List.set_cons_zero, List.set_cons_succ] at hq_); clear HH; have HH := hid hq_; clear hq_))
        | ((with_reducible apply wpL_storeC (t := 34)); rfl; rfl; (exact kS34); (exact HH.out); (first | exact .here | exact .there .here | exact .there (.there .here) | exact .there (.there (.there .here)) | exact .there (.there (.there (.there .here))) | exact .there (.there (.there (.there (.there .here)))) | exact .there (.there (.there (.there (.there (.there .here))))) | exact .there (.there (.there (.there (.there (.there (.there .here))))))); (first | rfl | exact Arr.len _ | (simp; done)); (first | rfl | (intro u_ hu_; simp only [List.mem_cons, List.not_mem_nil, or_false] at hu_; rcases hu_ with rfl | hu_; rfl) | exact byt_cell1 _ | exact cells_one _ | exact wrd_one _ | exact flat_cell1 _); (first | rfl | exact Arr.len _ | (simp; done)); rfl; (intro w_ hq_; (try simp only [List.set_cons_zero, List.set_cons_succ] at hq_); clear HH; have HH := hid hq_; clear hq_))
        | ((with_reducible apply wpL_move); rfl; rfl)
        | ((with_reducible apply wpL_assign); rfl; rfl)
        | ((with_reducible apply wpL_pick); rfl; rfl; rfl)
        | ((with_reducible apply wpL_not); rfl; rfl)
        | ((with_reducible apply wpL_cmp (b := true)); rfl; rfl; rfl; (first | rfl | assumption | (simp only [cmpB, decide_eq_true_eq, decide_eq_false_iff_not, beq_iff_eq, bne_iff_ne, ne_eq, beq_eq_false_iff_ne, bne_eq_false_iff_eq, gt_iff_lt, ge_iff_le]; omega) | (simp; omega)); rfl)
        | ((with_reducible apply wpL_cmp (b := false)); rfl; rfl; rfl; (first | rfl | assumption | (simp only [cmpB, decide_eq_true_eq, decide_eq_false_iff_not, beq_iff_eq, bne_iff_ne, ne_eq, beq_eq_false_iff_ne, bne_eq_false_iff_eq, gt_iff_lt, ge_iff_le]; omega) | (simp; omega)); rfl)
        | ((with_reducible apply wpL_cmp); rfl; rfl; rfl; rfl; rfl)
        | ((with_reducible apply wpL_arith); rfl; rfl; rfl; (exact IntWalk.i64_in _ (by (try simp only [arithI]); omega)); rfl)); (try simp only [arithI, Act.put, Act.eval, List.setIfInBounds_toArray, List.set_cons_succ, List.set_cons_zero, Array.getD_eq_getD_getElem?, List.getElem?_toArray, List.getElem?_cons_succ, List.getElem?_cons_zero, Option.getD_some])))
  refine bodyPost_ret (res1 rfl (resC kA34 HH.out (by rfl) .here (Arr.len _))) rfl ?_
  exact ⟨rfl, HH.out.below⟩
end Go.Proofs.Ytgkfopodhikckaa

/- Join of the reference. No condition. -/
namespace Go.Proofs.Ytgkfopodhikckaa
open Go.RowKit
attribute [local irreducible] wpQuiet wpList
end Go.Proofs.Ytgkfopodhikckaa

/- The levels of a tree, plainly; check and Clone of merkle. Condition: at most 2^47 bytes. -/
namespace Go.Proofs.Ytgkfopodhikckaa
open Go.RowKit
attribute [local irreducible] wpQuiet wpList
theorem Holds.perm {w0 w : World} {S : List Nat} {bs : List (Nat × Obj)} {rows rows' : List Row} (h : Holds w0 S bs rows w) (hp : rows.Perm rows') : Holds w0 S bs rows' w :=
  ⟨h.os, h.tape, h.output, h.size, h.old, h.blk, h.frs, fun x hx => h.row x (hp.mem_iff.2 hx), (List.Perm.nodup_iff (List.Perm.append_left _ (hp.filterMap _))).1 h.sep, h.inS⟩
/-- The next level. -/
def upL (lev : Nat) : List Nd → List Nd
  | x :: y :: r => joinN (lev : Int) x y :: upL lev r
  | _ => []
theorem upL_len (lev : Nat) : ∀ (n : Nat) (l : List Nd), l.length = 2 * n → (upL lev l).length = n
  | 0, [], _ => rfl
  | 0, _ :: _, h => by simp at h
  | n + 1, [], h => by simp at h
  | n + 1, [_], h => by simp at h; omega
  | n + 1, x :: y :: r, h => by
    have : (upL lev r).length = n := upL_len lev n r (by simp at h; omega)
    simp [upL, this]
theorem upL_get (lev : Nat) : ∀ (l : List Nd) (j : Nat), 2 * j + 1 < l.length → (upL lev l)[j]? = some (joinN lev (l.getD (2 * j) Nd0) (l.getD (2 * j + 1) Nd0))
  | [], j, h => by simp at h
  | [_], j, h => by simp at h
  | x :: y :: r, 0, h => by simp [upL]
  | x :: y :: r, j + 1, h => by
    rw [upL, List.getElem?_cons_succ, upL_get lev r j (by simp at h; omega)]
    rfl
/-- Level k of the tree. -/
def levAt (l : List Nd) : Nat → List Nd
  | 0 => l
  | k + 1 => upL (k + 1) (levAt l k)
theorem levAt_len {l : List Nd} {h : Nat} (hl : l.length = 2 ^ h) : ∀ k, k ≤ h → (levAt l k).length = 2 ^ (h - k)
  | 0, _ => hl
  | k + 1, hk => by
    have ih := levAt_len hl k (by omega)
    rw [levAt]
    refine upL_len _ _ _ ?_
    rw [ih, show h - k = (h - (k + 1)) + 1 by omega, Nat.pow_succ]
    omega
/-- What check answers. -/
def checkC (n : Nat) : Int := if n = 0 then 1 else if 1024 < n then 9 else if n &&& (n - 1) = 0 then 0 else 2
theorem pow_all : ∀ n : Fin 1025, n.1 ≠ 0 → n.1 &&& (n.1 - 1) = 0 → (List.range 11).any fun h => n.1 == 2 ^ h := by decide +kernel
theorem check_pow {n : Nat} (h : checkC n = 0) : ∃ k, k ≤ 10 ∧ n = 2 ^ k := by
  unfold checkC at h
  split at h
  · cases h
  · split at h
    · cases h
    · split at h
      · rename_i h0 h1 h2
        have := pow_all ⟨n, by omega⟩ h0 h2
        obtain ⟨k, hk, hn⟩ := List.any_eq_true.1 this
        exact ⟨k, by simp at hk; omega, by simpa using hn⟩
      · cases h
def RetI (w : World) (n : Int) (e : Ending) (w' : World) : Prop := e = .returned (.int .i64 n) ∧ Below w.heap.size w w'
theorem RetI.mk {w w' : World} {b c : Int} (h : b = c) (hb : Below w.heap.size w w') : RetI w c (.returned (.int .i64 b)) w' := ⟨by rw [h], hb⟩
set_option maxRecDepth 100000 in
set_option maxHeartbeats 2000000 in
theorem check_any (w : World) (v : Value) (l : List Nd) (hl : Arrs w v l) (hn : l.length ≤ 1000000000) : Calls Try.prog 67 #[v] w (RetI w (checkC l.length)) := by
  obtain ⟨ao, cap, rfl, hc⟩ := hl.shape
  clear hl
  obtain ⟨n, hln⟩ : ∃ n, l.length = n := ⟨_, rfl⟩
  rw [hln] at hn hc
  rw [hln]
  clear hln
  have HH := hid (Holds.init w)
  by_cases h0 : n = 0
  · have e : checkC n = 1 := by unfold checkC; rw [if_pos h0]
    rw [e]
    clear e
    go_enter Try.func67, Try.ntmps67
    go_wp2_with (first
      | ((first
          | ((with_reducible apply wpL_skip); rfl; skip)
          | ((with_reducible apply wpL_nilCheck); rfl; rfl)
          | ((with_reducible apply wpL_len (t := 46) Try.underlying46); rfl; rfl)
          | ((with_reducible apply wpL_move); rfl; rfl)
          | ((with_reducible apply wpL_assign); rfl; rfl)
          | ((with_reducible apply wpL_pick); rfl; rfl; rfl)
          | ((with_reducible apply wpL_not); rfl; rfl)
          | ((with_reducible apply wpL_cmp (b := true)); rfl; rfl; rfl; (first | rfl | assumption | (simp only [cmpB, decide_eq_true_eq, decide_eq_false_iff_not, beq_iff_eq, bne_iff_ne, ne_eq, beq_eq_false_iff_ne, bne_eq_false_iff_eq, gt_iff_lt, ge_iff_le]; omega) | (simp; omega)); rfl)
          | ((with_reducible apply wpL_cmp (b := false)); rfl; rfl; rfl; (first | rfl | assumption | (simp only [cmpB, decide_eq_true_eq, decide_eq_false_iff_not, beq_iff_eq, bne_iff_ne, ne_eq, beq_eq_false_iff_ne, bne_eq_false_iff_eq, gt_iff_lt, ge_iff_le]; omega) | (simp; omega)); rfl)
          | ((with_reducible apply wpL_cmp); rfl; rfl; rfl; rfl; rfl)
          | ((with_reducible apply wpL_arith); rfl; rfl; rfl; (exact IntWalk.i64_in _ (by (try simp only [arithI]); omega)); rfl)); (try simp only [arithI, Act.put, Act.eval, List.setIfInBounds_toArray, List.set_cons_succ, List.set_cons_zero, Array.getD_eq_getD_getElem?, List.getElem?_toArray, List.getElem?_cons_succ, List.getElem?_cons_zero, Option.getD_some])))
    go_ret
    exact RetI.mk rfl HH.out.below
  · by_cases h1 : 1024 < n
    · have e : checkC n = 9 := by unfold checkC; rw [if_neg h0, if_pos h1]
      rw [e]
      clear e
      go_enter Try.func67, Try.ntmps67
      go_wp2_with (first
        | ((first
            | ((with_reducible apply wpL_skip); rfl; skip)
            | ((with_reducible apply wpL_nilCheck); rfl; rfl)
            | ((with_reducible apply wpL_len (t := 46) Try.underlying46); rfl; rfl)
            | ((with_reducible apply wpL_move); rfl; rfl)
            | ((with_reducible apply wpL_assign); rfl; rfl)
            | ((with_reducible apply wpL_pick); rfl; rfl; rfl)
            | ((with_reducible apply wpL_not); rfl; rfl)
            | ((with_reducible apply wpL_cmp (b := true)); rfl; rfl; rfl; (first | rfl | assumption | (simp only [cmpB, decide_eq_true_eq, decide_eq_false_iff_not, beq_iff_eq, bne_iff_ne, ne_eq, beq_eq_false_iff_ne, bne_eq_false_iff_eq, gt_iff_lt, ge_iff_le]; omega) | (simp; omega)); rfl)
            | ((with_reducible apply wpL_cmp (b := false)); rfl; rfl; rfl; (first | rfl | assumption | (simp only [cmpB, decide_eq_true_eq, decide_eq_false_iff_not, beq_iff_eq, bne_iff_ne, ne_eq, beq_eq_false_iff_ne, bne_eq_false_iff_eq, gt_iff_lt, ge_iff_le]; omega) | (simp; omega)); rfl)
            | ((with_reducible apply wpL_cmp); rfl; rfl; rfl; rfl; rfl)
            | ((with_reducible apply wpL_arith); rfl; rfl; rfl; (exact IntWalk.i64_in _ (by (try simp only [arithI]); omega)); rfl)); (try simp only [arithI, Act.put, Act.eval, List.setIfInBounds_toArray, List.set_cons_succ, List.set_cons_zero, Array.getD_eq_getD_getElem?, List.getElem?_toArray, List.getElem?_cons_succ, List.getElem?_cons_zero, Option.getD_some])))
      go_ret
      exact RetI.mk rfl HH.out.below
    · obtain ⟨c, hc⟩ : ∃ c, n &&& (n - 1) = c := ⟨_, rfl⟩
      have HC := hid hc
      have hcn : c ≤ 1024 := by rw [← hc]; exact Nat.le_trans Nat.and_le_left (by omega)
      have HN1 := hid (show ((n : Int) - 1) = ((n - 1 : Nat) : Int) by omega)
      have HB1 := hid (show n < 2 ^ IntKind.i64.bits from Nat.lt_of_lt_of_le (show n < 1025 by omega) (by decide))
      have HB2 := hid (show n - 1 < 2 ^ IntKind.i64.bits from Nat.lt_of_lt_of_le (show n - 1 < 1025 by omega) (by decide))
      have HW := hid (show IntKind.i64.wrap ((c : Nat) : Int) = (c : Int) from IntWalk.i64_in _ (by omega))
      by_cases hz : c = 0
      · have e : checkC n = 0 := by unfold checkC; rw [if_neg h0, if_neg h1, if_pos (by rw [hc]; exact hz)]
        rw [e]
        clear e hc
        go_enter Try.func67, Try.ntmps67
        go_wp2_with (first
          | ((first
              | ((with_reducible apply wpL_skip); rfl; skip)
              | ((with_reducible apply wpL_and (m := n) (n := n - 1) (r := c)); rfl; rfl; rfl; (exact HN1.out); (exact HB1.out); (exact HB2.out); (exact HC.out); (exact HW.out); rfl)
              | ((with_reducible apply wpL_nilCheck); rfl; rfl)
              | ((with_reducible apply wpL_len (t := 46) Try.underlying46); rfl; rfl)
              | ((with_reducible apply wpL_move); rfl; rfl)
              | ((with_reducible apply wpL_assign); rfl; rfl)
              | ((with_reducible apply wpL_pick); rfl; rfl; rfl)
              | ((with_reducible apply wpL_not); rfl; rfl)
              | ((with_reducible apply wpL_cmp (b := true)); rfl; rfl; rfl; (first | rfl | assumption | (simp only [cmpB, decide_eq_true_eq, decide_eq_false_iff_not, beq_iff_eq, bne_iff_ne, ne_eq, beq_eq_false_iff_ne, bne_eq_false_iff_eq, gt_iff_lt, ge_iff_le]; omega) | (simp; omega)); rfl)
              | ((with_reducible apply wpL_cmp (b := false)); rfl; rfl; rfl; (first | rfl | assumption | (simp only [cmpB, decide_eq_true_eq, decide_eq_false_iff_not, beq_iff_eq, bne_iff_ne, ne_eq, beq_eq_false_iff_ne, bne_eq_false_iff_eq, gt_iff_lt, ge_iff_le]; omega) | (simp; omega)); rfl)
              | ((with_reducible apply wpL_cmp); rfl; rfl; rfl; rfl; rfl)
              | ((with_reducible apply wpL_arith); rfl; rfl; rfl; (exact IntWalk.i64_in _ (by (try simp only [arithI]); omega)); rfl)); (try simp only [arithI, Act.put, Act.eval, List.setIfInBounds_toArray, List.set_cons_succ, List.set_cons_zero, Array.getD_eq_getD_getElem?, List.getElem?_toArray, List.getElem?_cons_succ, List.getElem?_cons_zero, Option.getD_some])))
        go_ret
        exact RetI.mk rfl HH.out.below
      · have e : checkC n = 2 := by unfold checkC; rw [if_neg h0, if_neg h1, if_neg (by rw [hc]; exact hz)]
        rw [e]
        clear e hc
        go_enter Try.func67, Try.ntmps67
        go_wp2_with (first
          | ((first
              | ((with_reducible apply wpL_skip); rfl; skip)
              | ((with_reducible apply wpL_and (m := n) (n := n - 1) (r := c)); rfl; rfl; rfl; (exact HN1.out); (exact HB1.out); (exact HB2.out); (exact HC.out); (exact HW.out); rfl)
              | ((with_reducible apply wpL_nilCheck); rfl; rfl)
              | ((with_reducible apply wpL_len (t := 46) Try.underlying46); rfl; rfl)
              | ((with_reducible apply wpL_move); rfl; rfl)
              | ((with_reducible apply wpL_assign); rfl; rfl)
              | ((with_reducible apply wpL_pick); rfl; rfl; rfl)
              | ((with_reducible apply wpL_not); rfl; rfl)
              | ((with_reducible apply wpL_cmp (b := true)); rfl; rfl; rfl; (first | rfl | assumption | (simp only [cmpB, decide_eq_true_eq, decide_eq_false_iff_not, beq_iff_eq, bne_iff_ne, ne_eq, beq_eq_false_iff_ne, bne_eq_false_iff_eq, gt_iff_lt, ge_iff_le]; omega) | (simp; omega)); rfl)
              | ((with_reducible apply wpL_cmp (b := false)); rfl; rfl; rfl; (first | rfl | assumption | (simp only [cmpB, decide_eq_true_eq, decide_eq_false_iff_not, beq_iff_eq, bne_iff_ne, ne_eq, beq_eq_false_iff_ne, bne_eq_false_iff_eq, gt_iff_lt, ge_iff_le]; omega) | (simp; omega)); rfl)
              | ((with_reducible apply wpL_cmp); rfl; rfl; rfl; rfl; rfl)
              | ((with_reducible apply wpL_arith); rfl; rfl; rfl; (exact IntWalk.i64_in _ (by (try simp only [arithI]); omega)); rfl)); (try simp only [arithI, Act.put, Act.eval, List.setIfInBounds_toArray, List.set_cons_succ, List.set_cons_zero, Array.getD_eq_getD_getElem?, List.getElem?_toArray, List.getElem?_cons_succ, List.getElem?_cons_zero, Option.getD_some])))
        go_ret
        exact RetI.mk rfl HH.out.below
/-- A slice of arrays, new. -/
def RetAs {n : Nat} (E : TypeId) (w : World) (l : List (Arr n)) (e : Ending) (w' : World) : Prop :=
  ∃ ao cap, e = .returned (.slice ao l.length cap) ∧ w'.ownsRow w.heap.size E n (.slice ao l.length cap) l.length (flat l) ∧ Below w.heap.size w w'
theorem RetAs.of {n : Nat} {E : TypeId} {w w' : World} {l m : List (Arr n)} {ao : Option Addr} {cap : Nat} (h : l = m) (ho : w'.ownsRow w.heap.size E n (.slice ao l.length cap) l.length (flat l)) (hb : Below w.heap.size w w') : RetAs E w m (.returned (.slice ao l.length cap)) w' := by
  subst h; exact ⟨_, _, rfl, ho, hb⟩
set_option maxRecDepth 100000 in
set_option maxHeartbeats 2000000 in
theorem cloneN_any (w : World) (v : Value) (l : List Nd) (hl : Arrs w v l) (hn : l.length ≤ 1000000000) : Calls Try.prog 82 #[v] w (RetAs 34 w l) := by
  obtain ⟨ao, cap, rfl, _⟩ := hl.shape
  have HH := hid (Holds.init w)
  have qT : ∀ (w : World) (a : Option Addr) (n c n' c' : Nat), (binOp .eql 46 (.slice a n c) (.slice none n' c')).run Try.prog w = .ok (.bool a.isNone) w := fun w a n c n' c' => Lib.run_eql_slice_nil w _ _ a n c n' c' Try.underlying46
  cases ao with
  | none =>
    have h0 : l = [] := by
      cases l with
      | nil => rfl
      | cons x l => obtain ⟨a, c, e⟩ := hl.some (by simp); cases e
    subst h0
    go_enter Try.func82, Try.ntmps82
    go_wp2
    go_ret
    exact ⟨none, 0, rfl, by simpa [flat] using World.ownsRow_nil w w.heap.size 34 16, Below.refl _ _⟩
  | some a =>
    have HL := hid hl
    clear hl
    go_enter Try.func82, Try.ntmps82
    go_wp2_with (first
      | ((first
          | ((with_reducible apply wpL_skip); rfl; skip)
          | ((with_reducible apply wpList_buildArr kE46 ([] : List Nd) HH.out); rfl; rfl; (exact (by decide)); rfl; (intro g_ w_ hq_; clear HH; have HH := hid hq_; clear hq_))
          | ((with_reducible apply wpL_appendA (n := 0) (l := ([] : List Nd)) (l2 := l) (r := l) kE46 HH.out (HH.out.sl HL.out) (List.nil_append l)); rfl; rfl; (exact (by simp; omega)); rfl; rfl; rfl; (intro ao1 cap1 w_ hq_; clear HH; have HH := hid hq_; clear hq_))
          | ((with_reducible apply wpL_nilCheck); rfl; rfl)
          | ((with_reducible apply wpL_move); rfl; rfl)
          | ((with_reducible apply wpL_assign); rfl; rfl)
          | ((with_reducible apply wpL_pick); rfl; rfl; rfl)
          | ((with_reducible apply wpL_not); rfl; rfl)
          | ((with_reducible apply wpL_cmp (b := true)); rfl; rfl; rfl; (first | rfl | assumption | (simp only [cmpB, decide_eq_true_eq, decide_eq_false_iff_not, beq_iff_eq, bne_iff_ne, ne_eq, beq_eq_false_iff_ne, bne_eq_false_iff_eq, gt_iff_lt, ge_iff_le]; omega) | (simp; omega)); rfl)
          | ((with_reducible apply wpL_cmp (b := false)); rfl; rfl; rfl; (first | rfl | assumption | (simp only [cmpB, decide_eq_true_eq, decide_eq_false_iff_not, beq_iff_eq, bne_iff_ne, ne_eq, beq_eq_false_iff_ne, bne_eq_false_iff_eq, gt_iff_lt, ge_iff_le]; omega) | (simp; omega)); rfl)
          | ((with_reducible apply wpL_cmp); rfl; rfl; rfl; rfl; rfl)
          | ((with_reducible apply wpL_arith); rfl; rfl; rfl; (exact IntWalk.i64_in _ (by (try simp only [arithI]); omega)); rfl)); (try simp only [arithI, Act.put, Act.eval, List.setIfInBounds_toArray, List.set_cons_succ, List.set_cons_zero, Array.getD_eq_getD_getElem?, List.getElem?_toArray, List.getElem?_cons_succ, List.getElem?_cons_zero, Option.getD_some])))
    go_ret
    exact ⟨_, _, rfl, HH.out.own0, HH.out.below⟩
end Go.Proofs.Ytgkfopodhikckaa

/- levels of merkle. Condition: 2^h leaves, h at most 10. -/
namespace Go.Proofs.Ytgkfopodhikckaa
open Go.RowKit
attribute [local irreducible] wpQuiet wpList
theorem Holds.third {w0 w : World} {S : List Nat} {bs : List (Nat × Obj)} {r1 r2 r3 : Row} {rows : List Row} (h : Holds w0 S bs (r1 :: r2 :: r3 :: rows) w) : Holds w0 S bs (r3 :: r1 :: r2 :: rows) w :=
  h.perm (List.perm_middle (l₁ := [r1, r2]))
/-- A slice of lists of nodes that is read. -/
def Lvs (w : World) (v : Value) (ls : List (List Nd)) : Prop :=
  ∃ cs, Sl w v 1 ls.length cs ∧ ∀ i, i < ls.length → ∃ ao cap, cs[i]? = some (.slice ao (ls.getD i []).length cap) ∧ Arrs w (.slice ao (ls.getD i []).length cap) (ls.getD i [])
def RetLv (w : World) (ls : List (List Nd)) (e : Ending) (w' : World) : Prop :=
  ∃ ao cap, e = .returned (.slice ao ls.length cap) ∧ Below w.heap.size w w' ∧ Lvs w' (.slice ao ls.length cap) ls
/-- The levels of a tree of 2^h leaves. -/
def levelsL (l : List Nd) (h : Nat) : List (List Nd) := (List.range (h + 1)).map (levAt l)
/-- The rows of the first m levels. -/
def LvRows (l : List Nd) (m : Nat) (vs : List Value) (rs : List Row) : Prop :=
  vs.length = m ∧ (∀ u ∈ vs, u.oneCell' = true) ∧ ∀ i, i < m → ∃ ao cap, vs[i]? = some (.slice ao (levAt l i).length cap) ∧ rowA 34 ao cap (levAt l i) ∈ rs
theorem LvRows.next {l : List Nd} {m : Nat} {vs : List Value} {rs : List Row} (h : LvRows l m vs rs) (ao : Option Addr) (cap : Nat) : LvRows l (m + 1) (vs ++ [.slice ao (levAt l m).length cap]) (rowA 34 ao cap (levAt l m) :: rs) := by
  refine ⟨by simp [h.1], ?_, fun i hi => ?_⟩
  · intro u hu
    rcases List.mem_append.1 hu with hu | hu
    · exact h.2.1 u hu
    · simp at hu; subst hu; rfl
  · by_cases him : i = m
    · subst him
      exact ⟨ao, cap, by rw [List.getElem?_append_right (by rw [h.1]; exact Nat.le_refl _), h.1]; simp, List.mem_cons_self⟩
    · obtain ⟨a, c, h1, h2⟩ := h.2.2 i (by omega)
      exact ⟨a, c, by rw [List.getElem?_append_left (by rw [h.1]; omega)]; exact h1, List.mem_cons_of_mem _ h2⟩
theorem LvRows.lvs {w w0 : World} {S : List Nat} {bs : List (Nat × Obj)} {l : List Nd} {h : Nat} {vs : List Value} {rs : List Row} {ao : Option Addr} {cap : Nat} (H : LvRows l (h + 1) vs rs) (hH : Holds w0 S bs (⟨.slice ao (h + 1) cap, 46, 1, h + 1, vs⟩ :: rs) w) :
    Lvs w (.slice ao (levelsL l h).length cap) (levelsL l h) := by
  have hl : (levelsL l h).length = h + 1 := by simp [levelsL]
  rw [hl]
  refine ⟨vs, by rw [hl]; exact hH.sl0, fun i hi => ?_⟩
  rw [hl] at hi
  have e : (levelsL l h).getD i [] = levAt l i := by simp [levelsL, List.getD, hi]
  rw [e]
  obtain ⟨a, c, h1, h2⟩ := H.2.2 i hi
  exact ⟨a, c, h1, hH.slrow (List.mem_cons_of_mem _ h2)⟩
theorem RetLv.of {w w' : World} {l : List Nd} {h : Nat} {vs : List Value} {rs : List Row} {ao : Option Addr} {cap : Nat} (H : LvRows l (h + 1) vs rs) (hH : Holds w [] [] (⟨.slice ao (h + 1) cap, 46, 1, h + 1, vs⟩ :: rs) w') : RetLv w (levelsL l h) (.returned (.slice ao (h + 1) cap)) w' := by
  have hl : (levelsL l h).length = h + 1 := by simp [levelsL]
  exact ⟨ao, cap, by rw [hl], hH.below, H.lvs hH⟩
section
variable {w0 w : World} {S : List Nat} {bs : List (Nat × Obj)} {rows : List Row} {ops : Array Oper} {rest : List Oper} {a : Act} {Q : Exit → Act → World → Prop} {dst : Option Tmp} {ty : TypeId} {pos : String} {after : Array Edge} {guard : Option (Nat × Bool)}
theorem wpL_buildV1 (v : Value) (h1 : v.cells = #[v]) {parts : Array (Nat × Operand)} (hp : (parts.toList.map fun p => (p.1, a.eval p.2)) = [(0, v)]) (hH : Holds w0 S bs rows w)
    (hg : Region.wanted { dst := dst, op := .buildSlice 125 1 parts, type := ty, pos := pos, after := after, guard := guard } (yielded ops a.tmps) = true)
    (h : ∀ g w', Holds w0 S bs (⟨.slice (some ⟨g, 0, none⟩) 1 1, 46, 1, 1, [v]⟩ :: rows) w' → wpList Try.prog ops Q rest (a.put dst (.slice (some ⟨g, 0, none⟩) 1 1)) w') :
    wpList Try.prog ops Q ({ dst := dst, op := .buildSlice 125 1 parts, type := ty, pos := pos, after := after, guard := guard } :: rest) a w :=
  wpList_buildSlice kE125 [v] (by intro u hu; simp only [List.mem_cons, List.not_mem_nil, or_false] at hu; subst hu; simp [h1]) (by simp) rfl hp hH (xs := [v]) (by simp [h1]) hg h
theorem wpL_appendV {ao ax : Option Addr} {ca cx n : Nat} {vs : List Value} {v : Value} (hH : Holds w0 S bs (⟨.slice ao n ca, 46, 1, n, vs⟩ :: rows) w) (hx : Sl w (.slice ax 1 cx) 1 1 [v]) (h1 : v.oneCell' = true) (hb : n ≤ 100) {s y : Operand} (hs : a.eval s = .slice ao n ca) (hy : a.eval y = .slice ax 1 cx)
    (hg : Region.wanted { dst := dst, op := .call { callee := .builtin .append, args := #[s, y], argTypes := #[125, 125] }, type := ty, pos := pos, after := after, guard := guard } (yielded ops a.tmps) = true)
    (h : ∀ ao cap w', Holds w0 S bs (⟨.slice ao (n + 1) cap, 46, 1, n + 1, vs ++ [v]⟩ :: rows) w' → wpList Try.prog ops Q rest (a.put dst (.slice ao (n + 1) cap)) w') :
    wpList Try.prog ops Q ({ dst := dst, op := .call { callee := .builtin .append, args := #[s, y], argTypes := #[125, 125] }, type := ty, pos := pos, after := after, guard := guard } :: rest) a w :=
  wpList_append kE125 hH hx (by intro u hu; simp at hu; subst hu; exact h1) (by omega) hs hy hg h
end
def LvRel1 (w : World) (l : List Nd) (h : Nat) (v i : Value) (wr : World) : Prop :=
  ∃ (k : Nat) (vs : List Value) (rs : List Row) (ao : Option Addr) (cap : Nat), k ≤ h ∧ i = .int .i64 ((k + 1 : Nat) : Int) ∧ v = .slice ao (k + 1) cap ∧ LvRows l (k + 1) vs rs ∧ Holds w [] [] (⟨.slice ao (k + 1) cap, 46, 1, k + 1, vs⟩ :: rs) wr
def LvRel2 (w : World) (m : List Nd) (rows : List Row) (v i : Value) (wr : World) : Prop :=
  ∃ (j : Nat) (r : List Nd) (ao : Option Addr) (cap : Nat), j ≤ m.length ∧ i = .int .i64 ((2 * j : Nat) : Int) ∧ r = m.take j ∧ v = .slice ao r.length cap ∧ Holds w [] [] (rowA 34 ao cap r :: rows) wr
set_option maxRecDepth 100000 in
set_option maxHeartbeats 4000000 in
theorem levels_any (w : World) (v : Value) (l : List Nd) (h : Nat) (hl : Arrs w v l) (hh : h ≤ 10) (hn : l.length = 2 ^ h) : Calls Try.prog 68 #[v] w (RetLv w (levelsL l h)) := by
  obtain ⟨ao, cap, rfl, _⟩ := hl.shape
  have HL := hid hl
  have hp10 : 2 ^ h ≤ 1024 := Nat.le_trans (Nat.pow_le_pow_right (by decide) hh) (by decide)
  have HN := hid hn
  have HCL := hid (show l.length ≤ 1000000000 by omega)
  clear hl hn
  have HH := hid (Holds.init w)
  go_enter Try.func68, Try.ntmps68
  go_wp2_with (first
    | ((first
        | ((with_reducible apply wpL_skip); rfl; skip)
        | (go_at_call 82; (with_reducible refine (cloneN_any _ _ l (HH.out.sl HL.out) HCL.out).mono ?_); rintro e_ w2_ ⟨ao0, cap0, rfl, hr_, hb_⟩; (have hq_ := HH.out.addRow hb_ hr_); clear HH; have HH := hid hq_; clear hq_ hr_ hb_)
        | ((with_reducible apply wpL_buildV1 (.slice ao0 l.length cap0) rfl); rfl; (exact HH.out); rfl; (intro g_ w_ hq_; clear HH; have HH := hid hq_; clear hq_))
        | ((with_reducible apply wpL_nilCheck); rfl; rfl)
        | ((with_reducible apply wpL_loadArr (t := 34) kA34 HH.out); rfl; (first | exact .here | exact .there .here | exact .there (.there .here) | exact .there (.there (.there .here)) | exact .there (.there (.there (.there .here))) | exact .there (.there (.there (.there (.there .here)))) | exact .there (.there (.there (.there (.there (.there .here))))) | exact .there (.there (.there (.there (.there (.there (.there .here))))))); rfl)
        | ((with_reducible apply wpL_loadC (t := 34) kA34 HH.out); rfl; (first | exact .here | exact .there .here | exact .there (.there .here) | exact .there (.there (.there .here)) | exact .there (.there (.there (.there .here))) | exact .there (.there (.there (.there (.there .here)))) | exact .there (.there (.there (.there (.there (.there .here))))) | exact .there (.there (.there (.there (.there (.there (.there .here))))))); (first | rfl | exact Arr.len _ | (simp; done)); rfl)
        | ((with_reducible apply wpL_load1 (t := 46) kO46 HH.out); rfl; (first | exact .here | exact .there .here | exact .there (.there .here) | exact .there (.there (.there .here)) | exact .there (.there (.there (.there .here))) | exact .there (.there (.there (.there (.there .here)))) | exact .there (.there (.there (.there (.there (.there .here))))) | exact .there (.there (.there (.there (.there (.there (.there .here))))))); rfl; rfl)
        | ((with_reducible apply wpL_len (t := 46) Try.underlying46); rfl; rfl)
        | ((with_reducible apply wpL_len (t := 125) Try.underlying125); rfl; rfl)
        | ((with_reducible apply wpL_move); rfl; rfl)
        | ((with_reducible apply wpL_assign); rfl; rfl)
        | ((with_reducible apply wpL_pick); rfl; rfl; rfl)
        | ((with_reducible apply wpL_not); rfl; rfl)
        | ((with_reducible apply wpL_cmp (b := true)); rfl; rfl; rfl; (first | rfl | assumption | (simp only [cmpB, decide_eq_true_eq, decide_eq_false_iff_not, beq_iff_eq, bne_iff_ne, ne_eq, beq_eq_false_iff_ne, bne_eq_false_iff_eq, gt_iff_lt, ge_iff_le]; omega) | (simp; omega)); rfl)
        | ((with_reducible apply wpL_cmp (b := false)); rfl; rfl; rfl; (first | rfl | assumption | (simp only [cmpB, decide_eq_true_eq, decide_eq_false_iff_not, beq_iff_eq, bne_iff_ne, ne_eq, beq_eq_false_iff_ne, bne_eq_false_iff_eq, gt_iff_lt, ge_iff_le]; omega) | (simp; omega)); rfl)
        | ((with_reducible apply wpL_cmp); rfl; rfl; rfl; rfl; rfl)
        | ((with_reducible apply wpL_arith); rfl; rfl; rfl; (exact IntWalk.i64_in _ (by (try simp only [arithI]); omega)); rfl)); (try simp only [arithI, Act.put, Act.eval, List.setIfInBounds_toArray, List.set_cons_succ, List.set_cons_zero, Array.getD_eq_getD_getElem?, List.getElem?_toArray, List.getElem?_cons_succ, List.getElem?_cons_zero, Option.getD_some])))
  go_loopw [3, 4] (LvRel1 w l h) (fun _ i _ => h + 1 - (intOf i).toNat)
  case atStart =>
    refine ⟨0, [.slice ao0 l.length cap0], [rowA 34 ao0 cap0 l], _, _, Nat.zero_le _, rfl, rfl, ⟨rfl, ?_, ?_⟩, HH.out⟩
    · intro u hu; simp at hu; subst hu; rfl
    · intro i hi
      obtain rfl : i = 0 := by omega
      exact ⟨ao0, cap0, rfl, List.mem_cons_self⟩
  case round =>
    obtain ⟨k, vs, rs, ao1, cap1, hk, rfl, rfl, hlv, hr⟩ := hrel
    clear HH
    have HH := hid hr
    have HLV := hid hlv
    have HLN := hid (levAt_len HN.out k hk)
    obtain ⟨aob, capb, hvk, hmem⟩ := hlv.2.2 k (by omega)
    have HVK := hid hvk
    have HMEM := hid hmem
    obtain ⟨b, hb⟩ : ∃ b, levAt l k = b := ⟨_, rfl⟩
    have HB := hid hb
    rw [hb] at HLN HVK HMEM
    obtain ⟨n, hbn⟩ : ∃ n, b.length = n := ⟨_, rfl⟩
    have HBN := hid hbn
    rw [hbn] at HLN HVK
    have hnb : n ≤ 1024 := by
      have := HLN.out
      rw [this]
      exact Nat.le_trans (Nat.pow_le_pow_right (by decide) (show h - k ≤ 10 by omega)) (by decide)
    clear hr hlv hvk hmem hb hbn
    have hn1 : 1 ≤ n := by rw [HLN.out]; exact Nat.two_pow_pos _
    obtain ⟨ad, c', e⟩ := (show Sl wr (.slice aob b.length capb) 16 b.length (flat b) from HH.out.slrow (List.mem_cons_of_mem _ HMEM.out)).some (by rw [HBN.out]; omega)
    simp only [Value.slice.injEq] at e
    obtain ⟨rfl, -, -⟩ := e
    obtain ⟨adv, cv, e⟩ := HH.out.sl0.some (by omega)
    simp only [Value.slice.injEq] at e
    obtain ⟨rfl, -, -⟩ := e
    by_cases hkh : k < h
    · obtain ⟨q, hq⟩ : ∃ q, 2 ^ (h - k - 1) = q := ⟨_, rfl⟩
      have hnq : n = 2 * q := by rw [HLN.out, ← hq, show h - k = (h - k - 1) + 1 by omega, Nat.pow_succ, Nat.add_sub_cancel]; omega
      have hq1 : 1 ≤ q := by rw [← hq]; exact Nat.two_pow_pos _
      have HUL := hid (show (upL (k + 1) b).length = q from upL_len _ _ _ (by rw [HBN.out]; exact hnq))
      clear hq
      go_wp2_with (first
        | ((first
            | ((with_reducible apply wpL_skip); rfl; skip)
            | ((with_reducible apply wpL_idxB (j := k) kE125); rfl; rfl; (exact (by omega)); (exact (by omega)); rfl)
            | ((with_reducible apply wpL_loadAt (t := 46) (v := .slice (some ad) n capb) kO46); (have hc_ := HH.out.sl0.cell k (.slice (some ad) n capb) HVK.out; exact hc_); rfl; rfl)
            | ((with_reducible apply wpL_nilCheck); rfl; rfl)
            | ((with_reducible apply wpL_loadArr (t := 34) kA34 HH.out); rfl; (first | exact .here | exact .there .here | exact .there (.there .here) | exact .there (.there (.there .here)) | exact .there (.there (.there (.there .here))) | exact .there (.there (.there (.there (.there .here)))) | exact .there (.there (.there (.there (.there (.there .here))))) | exact .there (.there (.there (.there (.there (.there (.there .here))))))); rfl)
            | ((with_reducible apply wpL_loadC (t := 34) kA34 HH.out); rfl; (first | exact .here | exact .there .here | exact .there (.there .here) | exact .there (.there (.there .here)) | exact .there (.there (.there (.there .here))) | exact .there (.there (.there (.there (.there .here)))) | exact .there (.there (.there (.there (.there (.there .here))))) | exact .there (.there (.there (.there (.there (.there (.there .here))))))); (first | rfl | exact Arr.len _ | (simp; done)); rfl)
            | ((with_reducible apply wpL_load1 (t := 46) kO46 HH.out); rfl; (first | exact .here | exact .there .here | exact .there (.there .here) | exact .there (.there (.there .here)) | exact .there (.there (.there (.there .here))) | exact .there (.there (.there (.there (.there .here)))) | exact .there (.there (.there (.there (.there (.there .here))))) | exact .there (.there (.there (.there (.there (.there (.there .here))))))); rfl; rfl)
            | ((with_reducible apply wpL_len (t := 46) Try.underlying46); rfl; rfl)
            | ((with_reducible apply wpL_len (t := 125) Try.underlying125); rfl; rfl)
            | ((with_reducible apply wpL_move); rfl; rfl)
            | ((with_reducible apply wpL_assign); rfl; rfl)
            | ((with_reducible apply wpL_pick); rfl; rfl; rfl)
            | ((with_reducible apply wpL_not); rfl; rfl)
            | ((with_reducible apply wpL_cmp (b := true)); rfl; rfl; rfl; (first | rfl | assumption | (simp only [cmpB, decide_eq_true_eq, decide_eq_false_iff_not, beq_iff_eq, bne_iff_ne, ne_eq, beq_eq_false_iff_ne, bne_eq_false_iff_eq, gt_iff_lt, ge_iff_le]; omega) | (simp; omega)); rfl)
            | ((with_reducible apply wpL_cmp (b := false)); rfl; rfl; rfl; (first | rfl | assumption | (simp only [cmpB, decide_eq_true_eq, decide_eq_false_iff_not, beq_iff_eq, bne_iff_ne, ne_eq, beq_eq_false_iff_ne, bne_eq_false_iff_eq, gt_iff_lt, ge_iff_le]; omega) | (simp; omega)); rfl)
            | ((with_reducible apply wpL_cmp); rfl; rfl; rfl; rfl; rfl)
            | ((with_reducible apply wpL_arith); rfl; rfl; rfl; (exact IntWalk.i64_in _ (by (try simp only [arithI]); omega)); rfl)); (try simp only [arithI, Act.put, Act.eval, List.setIfInBounds_toArray, List.set_cons_succ, List.set_cons_zero, Array.getD_eq_getD_getElem?, List.getElem?_toArray, List.getElem?_cons_succ, List.getElem?_cons_zero, Option.getD_some])))
      go_loopw [6, 7] (LvRel2 w (upL (k + 1) b) (⟨.slice (some adv) (k + 1) cap1, 46, 1, k + 1, vs⟩ :: rs)) (fun _ i _ => n - (intOf i).toNat)
      case atStart => exact ⟨0, [], none, 0, Nat.zero_le _, rfl, by simp, rfl, HH.out.addNil 34 16⟩
      case round =>
        obtain ⟨j, r, ao2, cap2, hj, rfl, hrj, rfl, hr⟩ := hrel
        clear HH
        have HH := hid hr
        have HRJ := hid hrj
        rw [HUL.out] at hj
        have hrl : r.length = j := by rw [hrj, List.length_take, HUL.out]; omega
        clear hr hrj
        by_cases hjq : j < q
        · have h2j : 2 * j < b.length := by rw [HBN.out]; omega
          have h2j1 : 2 * j + 1 < b.length := by rw [HBN.out]; omega
          have hub := upL_get (k + 1) b j h2j1
          have ex : b.getD (2 * j) Nd0 = b[2 * j] := by simp [h2j]
          have ey : b.getD (2 * j + 1) Nd0 = b[2 * j + 1] := by simp [h2j1]
          rw [ex, ey] at hub
          have HGX0 : ∀ w1, Holds w [] [] (rowA 34 ao2 cap2 r :: ⟨.slice (some adv) (k + 1) cap1, 46, 1, k + 1, vs⟩ :: rs) w1 → Arrs w1 (.slice (some ad) b.length capb) b := fun w1 h1 => h1.slrow (List.mem_cons_of_mem _ (List.mem_cons_of_mem _ HMEM.out))
          have HGX := hid (fun w1 h1 => Arrs.get (HGX0 w1 h1) (2 * j) h2j)
          have HGY := hid (fun w1 h1 => Arrs.get (HGX0 w1 h1) (2 * j + 1) h2j1)
          obtain ⟨x, hx⟩ : ∃ x, b[2 * j] = x := ⟨_, rfl⟩
          obtain ⟨y, hy⟩ : ∃ y, b[2 * j + 1] = y := ⟨_, rfl⟩
          rw [hx] at HGX hub
          rw [hy] at HGY hub
          obtain ⟨d, hd⟩ : ∃ d, joinN ((k + 1 : Nat) : Int) x y = d := ⟨_, rfl⟩
          have HD := hid hd
          rw [hd] at hub
          obtain ⟨r2, hr2⟩ : ∃ r2, r ++ [d] = r2 := ⟨_, rfl⟩
          have HR2 := hid hr2
          have HST := hid (show r2 = (upL (k + 1) b).take (j + 1) by
            have hju : j < (upL (k + 1) b).length := by rw [HUL.out]; exact hjq
            rw [List.getElem?_eq_getElem hju] at hub
            rw [← hr2, HRJ.out, ← List.take_append_getElem hju, Option.some.inj hub])
          clear hub ex ey HGX0 hx hy hd hr2
          go_wp2_with (first
            | ((first
                | ((with_reducible apply wpL_skip); rfl; skip)
                | ((with_reducible apply wpL_nilCheck); rfl; rfl)
                | ((with_reducible apply wpL_loadArr (t := 34) kA34 HH.out); rfl; (first | exact .here | exact .there .here | exact .there (.there .here) | exact .there (.there (.there .here)) | exact .there (.there (.there (.there .here))) | exact .there (.there (.there (.there (.there .here)))) | exact .there (.there (.there (.there (.there (.there .here))))) | exact .there (.there (.there (.there (.there (.there (.there .here))))))); rfl)
                | ((with_reducible apply wpL_loadC (t := 34) kA34 HH.out); rfl; (first | exact .here | exact .there .here | exact .there (.there .here) | exact .there (.there (.there .here)) | exact .there (.there (.there (.there .here))) | exact .there (.there (.there (.there (.there .here)))) | exact .there (.there (.there (.there (.there (.there .here))))) | exact .there (.there (.there (.there (.there (.there (.there .here))))))); (first | rfl | exact Arr.len _ | (simp; done)); rfl)
                | ((with_reducible apply wpL_load1 (t := 46) kO46 HH.out); rfl; (first | exact .here | exact .there .here | exact .there (.there .here) | exact .there (.there (.there .here)) | exact .there (.there (.there (.there .here))) | exact .there (.there (.there (.there (.there .here)))) | exact .there (.there (.there (.there (.there (.there .here))))) | exact .there (.there (.there (.there (.there (.there (.there .here))))))); rfl; rfl)
                | ((with_reducible apply wpL_len (t := 46) Try.underlying46); rfl; rfl)
                | ((with_reducible apply wpL_len (t := 125) Try.underlying125); rfl; rfl)
                | ((with_reducible apply wpL_move); rfl; rfl)
                | ((with_reducible apply wpL_assign); rfl; rfl)
                | ((with_reducible apply wpL_pick); rfl; rfl; rfl)
                | ((with_reducible apply wpL_not); rfl; rfl)
                | ((with_reducible apply wpL_cmp (b := true)); rfl; rfl; rfl; (first | rfl | assumption | (simp only [cmpB, decide_eq_true_eq, decide_eq_false_iff_not, beq_iff_eq, bne_iff_ne, ne_eq, beq_eq_false_iff_ne, bne_eq_false_iff_eq, gt_iff_lt, ge_iff_le]; omega) | (simp; omega)); rfl)
                | ((with_reducible apply wpL_cmp (b := false)); rfl; rfl; rfl; (first | rfl | assumption | (simp only [cmpB, decide_eq_true_eq, decide_eq_false_iff_not, beq_iff_eq, bne_iff_ne, ne_eq, beq_eq_false_iff_ne, bne_eq_false_iff_eq, gt_iff_lt, ge_iff_le]; omega) | (simp; omega)); rfl)
                | ((with_reducible apply wpL_cmp); rfl; rfl; rfl; rfl; rfl)
                | ((with_reducible apply wpL_arith); rfl; rfl; rfl; (exact IntWalk.i64_in _ (by (try simp only [arithI]); omega)); rfl)); (try simp only [arithI, Act.put, Act.eval, List.setIfInBounds_toArray, List.set_cons_succ, List.set_cons_zero, Array.getD_eq_getD_getElem?, List.getElem?_toArray, List.getElem?_cons_succ, List.getElem?_cons_zero, Option.getD_some])))
          refine wp_region_tailR 13 [Asr.is (.slice ao2 r.length cap2), Asr.is (.int .i64 ((k + 1 : Nat) : Int)), Asr.is (.slice (some ad) n capb), Asr.is (.int .i64 ((2 * j : Nat) : Int)), Asr.is (.pointer (some (ad.add (2 * j * 16)))), Asr.is x.val, Asr.is (.slice (some ad) n capb), Asr.is (.int .i64 ((2 * j : Nat) : Int)), Asr.is (.int .i64 ((2 * j + 1 : Nat) : Int)), Asr.is (.pointer (some (ad.add ((2 * j + 1) * 16)))), Asr.is y.val, Asr.is d.val, Asr.full wr.heap.size 34 16 1 (flat [d])] HH.out (by kernel_rfl) (by kernel_rfl) (by kernel_rfl) rfl ?_ ?_
          all_goals simp only [List.take_succ_cons, List.take_zero, List.drop_succ_cons, List.drop_zero]
          · refine eachD_cons ?_ (eachD_cons ?_ (eachD_cons ?_ (eachD_cons ?_ (eachD_cons ?_ (eachD_cons ?_ (eachD_cons ?_ (eachD_cons ?_ (eachD_cons ?_ (eachD_cons ?_ (eachD_cons ?_ (eachD_cons ?_ (eachD_cons ?_ (eachD_nil)))))))))))))
            · intro a_ w1 hI hF hS
              have e6 : a_.eval (.tmp 6) = (.slice ao2 r.length cap2) := (hF.2.2 6 (notDst_of (by kernel_rfl))).trans rfl
              refine wantD (by rfl) ?_
              exact op_val rfl (ex_move rfl w1) e6
            · intro a_ w1 hI hF hS
              have e4 : a_.eval (.tmp 4) = (.int .i64 ((k + 1 : Nat) : Int)) := (hF.2.2 4 (notDst_of (by kernel_rfl))).trans rfl
              refine wantD (by rfl) ?_
              exact op_val rfl (ex_move rfl w1) e4
            · intro a_ w1 hI hF hS
              have e5 : a_.eval (.tmp 5) = (.slice (some ad) n capb) := (hF.2.2 5 (notDst_of (by kernel_rfl))).trans rfl
              refine wantD (by rfl) ?_
              exact op_val rfl (ex_move rfl w1) e5
            · intro a_ w1 hI hF hS
              have e7 : a_.eval (.tmp 7) = (.int .i64 ((2 * j : Nat) : Int)) := (hF.2.2 7 (notDst_of (by kernel_rfl))).trans rfl
              refine wantD (by rfl) ?_
              exact op_val rfl (ex_move rfl w1) e7
            · intro a_ w1 hI hF hS
              have e34 : a_.eval (.tmp 34) = (.slice (some ad) n capb) := hS ⟨2, .data⟩ (by simp) rfl _ rfl
              have e35 : a_.eval (.tmp 35) = (.int .i64 ((2 * j : Nat) : Int)) := hS ⟨3, .data⟩ (by simp) rfl _ rfl
              refine wantD (by rfl) ?_
              exact op_val rfl (ex_index kE46 (j := 2 * j) e34 e35 rfl (by omega) w1) rfl
            · intro a_ w1 hI hF hS
              have e36 : a_.eval (.tmp 36) = (.pointer (some (ad.add (2 * j * 16)))) := hS ⟨4, .data⟩ (by simp) rfl _ rfl
              refine wantD (by rfl) ?_
              exact op_val rfl (ex_load_agg (t := 34) (sz := 16) e36 Try.underlying34 rfl (by kernel_rfl) (Arr.len x) (HGX.out w1 hI.1)) rfl
            · intro a_ w1 hI hF hS
              have e5 : a_.eval (.tmp 5) = (.slice (some ad) n capb) := (hF.2.2 5 (notDst_of (by kernel_rfl))).trans rfl
              refine wantD (by rfl) ?_
              exact op_val rfl (ex_move rfl w1) e5
            · intro a_ w1 hI hF hS
              have e7 : a_.eval (.tmp 7) = (.int .i64 ((2 * j : Nat) : Int)) := (hF.2.2 7 (notDst_of (by kernel_rfl))).trans rfl
              refine wantD (by rfl) ?_
              exact op_val rfl (ex_move rfl w1) e7
            · intro a_ w1 hI hF hS
              have e39 : a_.eval (.tmp 39) = (.int .i64 ((2 * j : Nat) : Int)) := hS ⟨7, .data⟩ (by simp) rfl _ rfl
              refine wantD (by rfl) ?_
              exact op_val rfl (ex_arith (r := ((2 * j + 1 : Nat) : Int)) rfl e39 rfl (by show IntKind.i64.wrap (((2 * j : Nat) : Int) + 1) = _; rw [IntWalk.i64_in _ (by omega)]; omega) w1) rfl
            · intro a_ w1 hI hF hS
              have e38 : a_.eval (.tmp 38) = (.slice (some ad) n capb) := hS ⟨6, .data⟩ (by simp) rfl _ rfl
              have e40 : a_.eval (.tmp 40) = (.int .i64 ((2 * j + 1 : Nat) : Int)) := hS ⟨8, .data⟩ (by simp) rfl _ rfl
              refine wantD (by rfl) ?_
              exact op_val rfl (ex_index kE46 (j := 2 * j + 1) e38 e40 rfl (by omega) w1) rfl
            · intro a_ w1 hI hF hS
              have e41 : a_.eval (.tmp 41) = (.pointer (some (ad.add ((2 * j + 1) * 16)))) := hS ⟨9, .data⟩ (by simp) rfl _ rfl
              refine wantD (by rfl) ?_
              exact op_val rfl (ex_load_agg (t := 34) (sz := 16) e41 Try.underlying34 rfl (by kernel_rfl) (Arr.len y) (HGY.out w1 hI.1)) rfl
            · intro a_ w1 hI hF hS
              have e33 : a_.eval (.tmp 33) = (.int .i64 ((k + 1 : Nat) : Int)) := hS ⟨1, .data⟩ (by simp) rfl _ rfl
              have e37 : a_.eval (.tmp 37) = x.val := hS ⟨5, .data⟩ (by simp) rfl _ rfl
              have e42 : a_.eval (.tmp 42) = y.val := hS ⟨10, .data⟩ (by simp) rfl _ rfl
              refine wantD (by rfl) ?_
              exact op_call (args := #[.int .i64 ((k + 1 : Nat) : Int), x.val, y.val]) kB37 (by show #[a_.eval (.tmp 33), a_.eval (.tmp 37), a_.eval (.tmp 42)] = _; rw [e33, e37, e42]) ((join_any w1 _ x y).mono fun e w' ⟨he, hb⟩ => ⟨_, he, hb, by rw [HD.out]; rfl⟩)
            · intro a_ w1 hI hF hS
              have e43 : a_.eval (.tmp 43) = d.val := hS ⟨11, .data⟩ (by simp) rfl _ rfl
              refine wantD (by rfl) ?_
              obtain ⟨v_, w_, hr_, hb_, hA_⟩ := ex_buildArr (ρ := a_.eval) kE46 [d] (parts := #[(0, .tmp 43)]) (n := 1) rfl (by simp [e43]) (by decide) w1; exact op_new rfl hr_ hb_ (hA_ _ hI.2.size)
          intro wq hq_ hb_
          intro v0_ h0_ v1_ h1_ v2_ h2_ v3_ h3_ v4_ h4_ v5_ h5_ v6_ h6_ v7_ h7_ v8_ h8_ v9_ h9_ v10_ h10_ v11_ h11_ v12_ h12_
          have q_ : v0_ = (.slice ao2 r.length cap2) := h0_; clear h0_; subst q_
          have q_ : v1_ = (.int .i64 ((k + 1 : Nat) : Int)) := h1_; clear h1_; subst q_
          have q_ : v2_ = (.slice (some ad) n capb) := h2_; clear h2_; subst q_
          have q_ : v3_ = (.int .i64 ((2 * j : Nat) : Int)) := h3_; clear h3_; subst q_
          have q_ : v4_ = (.pointer (some (ad.add (2 * j * 16)))) := h4_; clear h4_; subst q_
          have q_ : v5_ = x.val := h5_; clear h5_; subst q_
          have q_ : v6_ = (.slice (some ad) n capb) := h6_; clear h6_; subst q_
          have q_ : v7_ = (.int .i64 ((2 * j : Nat) : Int)) := h7_; clear h7_; subst q_
          have q_ : v8_ = (.int .i64 ((2 * j + 1 : Nat) : Int)) := h8_; clear h8_; subst q_
          have q_ : v9_ = (.pointer (some (ad.add ((2 * j + 1) * 16)))) := h9_; clear h9_; subst q_
          have q_ : v10_ = y.val := h10_; clear h10_; subst q_
          have q_ : v11_ = d.val := h11_; clear h11_; subst q_
          have K12 := hid h12_; clear h12_
          simp only [endD, putsD, Act.put, List.setIfInBounds_toArray, List.set_cons_succ, List.set_cons_zero]
          have HQ := hid hq_; clear hq_
          have HB_ := hid hb_; clear hb_
          obtain ⟨ad3, c3, rfl⟩ := row_shape K12.out.2
          have hq2_ := HH.out.addRow HB_.out K12.out.2
          clear HH HQ K12 HB_
          have HH := hid hq2_
          clear hq2_
          go_wp2_with (first
            | ((first
                | ((with_reducible apply wpL_skip); rfl; skip)
                | ((with_reducible apply wpL_appendA (l := r) (l2 := [d]) (r := r2) kE46 HH.out.swap HH.out.sl0 HR2.out); rfl; rfl; (exact (by simp; omega)); rfl; rfl; rfl; (intro ao4 cap4 w_ hq_; clear HH; have HH := hid hq_.dropSnd; clear hq_))
                | ((with_reducible apply wpL_nilCheck); rfl; rfl)
                | ((with_reducible apply wpL_loadArr (t := 34) kA34 HH.out); rfl; (first | exact .here | exact .there .here | exact .there (.there .here) | exact .there (.there (.there .here)) | exact .there (.there (.there (.there .here))) | exact .there (.there (.there (.there (.there .here)))) | exact .there (.there (.there (.there (.there (.there .here))))) | exact .there (.there (.there (.there (.there (.there (.there .here))))))); rfl)
                | ((with_reducible apply wpL_loadC (t := 34) kA34 HH.out); rfl; (first | exact .here | exact .there .here | exact .there (.there .here) | exact .there (.there (.there .here)) | exact .there (.there (.there (.there .here))) | exact .there (.there (.there (.there (.there .here)))) | exact .there (.there (.there (.there (.there (.there .here))))) | exact .there (.there (.there (.there (.there (.there (.there .here))))))); (first | rfl | exact Arr.len _ | (simp; done)); rfl)
                | ((with_reducible apply wpL_load1 (t := 46) kO46 HH.out); rfl; (first | exact .here | exact .there .here | exact .there (.there .here) | exact .there (.there (.there .here)) | exact .there (.there (.there (.there .here))) | exact .there (.there (.there (.there (.there .here)))) | exact .there (.there (.there (.there (.there (.there .here))))) | exact .there (.there (.there (.there (.there (.there (.there .here))))))); rfl; rfl)
                | ((with_reducible apply wpL_len (t := 46) Try.underlying46); rfl; rfl)
                | ((with_reducible apply wpL_len (t := 125) Try.underlying125); rfl; rfl)
                | ((with_reducible apply wpL_move); rfl; rfl)
                | ((with_reducible apply wpL_assign); rfl; rfl)
                | ((with_reducible apply wpL_pick); rfl; rfl; rfl)
                | ((with_reducible apply wpL_not); rfl; rfl)
                | ((with_reducible apply wpL_cmp (b := true)); rfl; rfl; rfl; (first | rfl | assumption | (simp only [cmpB, decide_eq_true_eq, decide_eq_false_iff_not, beq_iff_eq, bne_iff_ne, ne_eq, beq_eq_false_iff_ne, bne_eq_false_iff_eq, gt_iff_lt, ge_iff_le]; omega) | (simp; omega)); rfl)
                | ((with_reducible apply wpL_cmp (b := false)); rfl; rfl; rfl; (first | rfl | assumption | (simp only [cmpB, decide_eq_true_eq, decide_eq_false_iff_not, beq_iff_eq, bne_iff_ne, ne_eq, beq_eq_false_iff_ne, bne_eq_false_iff_eq, gt_iff_lt, ge_iff_le]; omega) | (simp; omega)); rfl)
                | ((with_reducible apply wpL_cmp); rfl; rfl; rfl; rfl; rfl)
                | ((with_reducible apply wpL_arith); rfl; rfl; rfl; (exact IntWalk.i64_in _ (by (try simp only [arithI]); omega)); rfl)); (try simp only [arithI, Act.put, Act.eval, List.setIfInBounds_toArray, List.set_cons_succ, List.set_cons_zero, Array.getD_eq_getD_getElem?, List.getElem?_toArray, List.getElem?_cons_succ, List.getElem?_cons_zero, Option.getD_some])))
          go_roundw
          case rel => exact ⟨j + 1, r2, _, _, by rw [HUL.out]; omega, by go_num, HST.out, rfl, HH.out⟩
          case measure => simp [intOf]; omega
        · obtain rfl : j = q := by omega
          have hre : r = levAt l (k + 1) := by rw [HRJ.out, ← HUL.out, List.take_length, levAt, HB.out]
          have HNX := hid (HLV.out.next ao2 cap2)
          rw [← hre] at HNX
          clear hre
          go_wp2_with (first
            | ((first
                | ((with_reducible apply wpL_skip); rfl; skip)
                | ((with_reducible apply wpL_buildV1 (.slice ao2 r.length cap2) rfl); rfl; (exact HH.out); rfl; (intro g_ w_ hq_; clear HH; have HH := hid hq_; clear hq_))
                | ((with_reducible apply wpL_appendV (v := .slice ao2 r.length cap2) HH.out.third HH.out.sl0 rfl); (exact (by omega)); rfl; rfl; rfl; (intro ao4 cap4 w_ hq_; clear HH; have HH := hid (Holds.dropSnd hq_); clear hq_))
                | ((with_reducible apply wpL_nilCheck); rfl; rfl)
                | ((with_reducible apply wpL_loadArr (t := 34) kA34 HH.out); rfl; (first | exact .here | exact .there .here | exact .there (.there .here) | exact .there (.there (.there .here)) | exact .there (.there (.there (.there .here))) | exact .there (.there (.there (.there (.there .here)))) | exact .there (.there (.there (.there (.there (.there .here))))) | exact .there (.there (.there (.there (.there (.there (.there .here))))))); rfl)
                | ((with_reducible apply wpL_loadC (t := 34) kA34 HH.out); rfl; (first | exact .here | exact .there .here | exact .there (.there .here) | exact .there (.there (.there .here)) | exact .there (.there (.there (.there .here))) | exact .there (.there (.there (.there (.there .here)))) | exact .there (.there (.there (.there (.there (.there .here))))) | exact .there (.there (.there (.there (.there (.there (.there .here))))))); (first | rfl | exact Arr.len _ | (simp; done)); rfl)
                | ((with_reducible apply wpL_load1 (t := 46) kO46 HH.out); rfl; (first | exact .here | exact .there .here | exact .there (.there .here) | exact .there (.there (.there .here)) | exact .there (.there (.there (.there .here))) | exact .there (.there (.there (.there (.there .here)))) | exact .there (.there (.there (.there (.there (.there .here))))) | exact .there (.there (.there (.there (.there (.there (.there .here))))))); rfl; rfl)
                | ((with_reducible apply wpL_len (t := 46) Try.underlying46); rfl; rfl)
                | ((with_reducible apply wpL_len (t := 125) Try.underlying125); rfl; rfl)
                | ((with_reducible apply wpL_move); rfl; rfl)
                | ((with_reducible apply wpL_assign); rfl; rfl)
                | ((with_reducible apply wpL_pick); rfl; rfl; rfl)
                | ((with_reducible apply wpL_not); rfl; rfl)
                | ((with_reducible apply wpL_cmp (b := true)); rfl; rfl; rfl; (first | rfl | assumption | (simp only [cmpB, decide_eq_true_eq, decide_eq_false_iff_not, beq_iff_eq, bne_iff_ne, ne_eq, beq_eq_false_iff_ne, bne_eq_false_iff_eq, gt_iff_lt, ge_iff_le]; omega) | (simp; omega)); rfl)
                | ((with_reducible apply wpL_cmp (b := false)); rfl; rfl; rfl; (first | rfl | assumption | (simp only [cmpB, decide_eq_true_eq, decide_eq_false_iff_not, beq_iff_eq, bne_iff_ne, ne_eq, beq_eq_false_iff_ne, bne_eq_false_iff_eq, gt_iff_lt, ge_iff_le]; omega) | (simp; omega)); rfl)
                | ((with_reducible apply wpL_cmp); rfl; rfl; rfl; rfl; rfl)
                | ((with_reducible apply wpL_arith); rfl; rfl; rfl; (exact IntWalk.i64_in _ (by (try simp only [arithI]); omega)); rfl)); (try simp only [arithI, Act.put, Act.eval, List.setIfInBounds_toArray, List.set_cons_succ, List.set_cons_zero, Array.getD_eq_getD_getElem?, List.getElem?_toArray, List.getElem?_cons_succ, List.getElem?_cons_zero, Option.getD_some])))
          go_roundw
          case rel => exact ⟨k + 1, _, _, _, _, hkh, by go_num, rfl, HNX.out, HH.out⟩
          case measure => simp [intOf]; omega
    · obtain rfl : k = h := by omega
      have hn0 : n = 1 := by rw [HLN.out, Nat.sub_self]
      go_wp2_with (first
        | ((first
            | ((with_reducible apply wpL_skip); rfl; skip)
            | ((with_reducible apply wpL_idxB (j := k) kE125); rfl; rfl; (exact (by omega)); (exact (by omega)); rfl)
            | ((with_reducible apply wpL_loadAt (t := 46) (v := .slice (some ad) n capb) kO46); (have hc_ := HH.out.sl0.cell k (.slice (some ad) n capb) HVK.out; exact hc_); rfl; rfl)
            | ((with_reducible apply wpL_nilCheck); rfl; rfl)
            | ((with_reducible apply wpL_loadArr (t := 34) kA34 HH.out); rfl; (first | exact .here | exact .there .here | exact .there (.there .here) | exact .there (.there (.there .here)) | exact .there (.there (.there (.there .here))) | exact .there (.there (.there (.there (.there .here)))) | exact .there (.there (.there (.there (.there (.there .here))))) | exact .there (.there (.there (.there (.there (.there (.there .here))))))); rfl)
            | ((with_reducible apply wpL_loadC (t := 34) kA34 HH.out); rfl; (first | exact .here | exact .there .here | exact .there (.there .here) | exact .there (.there (.there .here)) | exact .there (.there (.there (.there .here))) | exact .there (.there (.there (.there (.there .here)))) | exact .there (.there (.there (.there (.there (.there .here))))) | exact .there (.there (.there (.there (.there (.there (.there .here))))))); (first | rfl | exact Arr.len _ | (simp; done)); rfl)
            | ((with_reducible apply wpL_load1 (t := 46) kO46 HH.out); rfl; (first | exact .here | exact .there .here | exact .there (.there .here) | exact .there (.there (.there .here)) | exact .there (.there (.there (.there .here))) | exact .there (.there (.there (.there (.there .here)))) | exact .there (.there (.there (.there (.there (.there .here))))) | exact .there (.there (.there (.there (.there (.there (.there .here))))))); rfl; rfl)
            | ((with_reducible apply wpL_len (t := 46) Try.underlying46); rfl; rfl)
            | ((with_reducible apply wpL_len (t := 125) Try.underlying125); rfl; rfl)
            | ((with_reducible apply wpL_move); rfl; rfl)
            | ((with_reducible apply wpL_assign); rfl; rfl)
            | ((with_reducible apply wpL_pick); rfl; rfl; rfl)
            | ((with_reducible apply wpL_not); rfl; rfl)
            | ((with_reducible apply wpL_cmp (b := true)); rfl; rfl; rfl; (first | rfl | assumption | (simp only [cmpB, decide_eq_true_eq, decide_eq_false_iff_not, beq_iff_eq, bne_iff_ne, ne_eq, beq_eq_false_iff_ne, bne_eq_false_iff_eq, gt_iff_lt, ge_iff_le]; omega) | (simp; omega)); rfl)
            | ((with_reducible apply wpL_cmp (b := false)); rfl; rfl; rfl; (first | rfl | assumption | (simp only [cmpB, decide_eq_true_eq, decide_eq_false_iff_not, beq_iff_eq, bne_iff_ne, ne_eq, beq_eq_false_iff_ne, bne_eq_false_iff_eq, gt_iff_lt, ge_iff_le]; omega) | (simp; omega)); rfl)
            | ((with_reducible apply wpL_cmp); rfl; rfl; rfl; rfl; rfl)
            | ((with_reducible apply wpL_arith); rfl; rfl; rfl; (exact IntWalk.i64_in _ (by (try simp only [arithI]); omega)); rfl)); (try simp only [arithI, Act.put, Act.eval, List.setIfInBounds_toArray, List.set_cons_succ, List.set_cons_zero, Array.getD_eq_getD_getElem?, List.getElem?_toArray, List.getElem?_cons_succ, List.getElem?_cons_zero, Option.getD_some])))
      go_ret
      exact RetLv.of HLV.out HH.out
end Go.Proofs.Ytgkfopodhikckaa

/- Rules on ints: exclusive or, shifts. No condition. -/
namespace Go.Proofs.Ytgkfopodhikckaa
open Go.RowKit
section
variable {P : Program} {ops : Array Oper} {rest : List Oper} {a : Act} {ρ : Operand → Value} {dst : Option Tmp} {ty : TypeId} {pos : String} {after : Array Edge} {guard : Option (Nat × Bool)} {C : World → Prop} {K : Act → Prop} {w : World} {Q : Exit → Act → World → Prop}
theorem bits_xor (k : IntKind) (x y : Nat) (hx : x < 2 ^ k.bits) (hy : y < 2 ^ k.bits) : (BitVec.ofInt k.bits (x : Int) ^^^ BitVec.ofInt k.bits (y : Int)).toNat = x ^^^ y := by
  rw [BitVec.toNat_xor, BitVec.ofInt_natCast, BitVec.ofInt_natCast, BitVec.toNat_ofNat, BitVec.toNat_ofNat, Nat.mod_eq_of_lt hx, Nat.mod_eq_of_lt hy]
theorem ex_xor {t yt : TypeId} {x y : Operand} {k : IntKind} {p q : Int} {m n : Nat} {r : Nat} (hx : ρ x = .int k p) (hy : ρ y = .int k q) (hp : p = (m : Int)) (hq : q = (n : Int)) (hm : m < 2 ^ k.bits) (hn : n < 2 ^ k.bits) (hr : m ^^^ n = r) (hw : k.wrap (r : Int) = (r : Int)) (w : World) :
    (execOp ρ { dst := dst, op := .binOp .xor t x y yt, type := ty, pos := pos, after := after, guard := guard }).run P w = .ok (.value (.int k (r : Int))) w := by
  subst hp hq hr
  have he : ∀ u v, eqGuard .xor t x y u v = pure () := fun _ _ => rfl
  have hr : (binOp .xor t (.int k (m : Int)) (.int k (n : Int))).run P w = .ok (.int k ((m ^^^ n : Nat) : Int)) w := by
    have e : binOp .xor t (.int k (m : Int)) (.int k (n : Int)) = Op.intBits .xor k (m : Int) (n : Int) := by cases k <;> rfl
    rw [e]
    simp only [Op.intBits, Sem.run_pure]
    rw [bits_xor k m n hm hn, hw]
  simp only [execOp, hx, hy, Sem.run_bind, he, Sem.run_pure, Result.andThen_ok, hr]
theorem wpL_xor {t yt : TypeId} {x y : Operand} {k : IntKind} {p q : Int} {m n : Nat} {r : Nat} (hx : a.eval x = .int k p) (hy : a.eval y = .int k q) (hp : p = (m : Int)) (hq : q = (n : Int)) (hm : m < 2 ^ k.bits) (hn : n < 2 ^ k.bits) (hr : m ^^^ n = r) (hw : k.wrap (r : Int) = (r : Int))
    (hg : Region.wanted { dst := dst, op := .binOp .xor t x y yt, type := ty, pos := pos, after := after, guard := guard } (yielded ops a.tmps) = true)
    (h : wpList P ops Q rest (a.put dst (.int k (r : Int))) w) : wpList P ops Q ({ dst := dst, op := .binOp .xor t x y yt, type := ty, pos := pos, after := after, guard := guard } :: rest) a w :=
  wpList_ex hg (ex_xor (ρ := a.eval) hx hy hp hq hm hn hr hw w) h
theorem ex_shrI {t yt : TypeId} {x y : Operand} {kk : IntKind} {p q : Int} {m k r : Nat} (hx : ρ x = .int .i64 p) (hy : ρ y = .int kk q) (hp : p = (m : Int)) (hq : q = (k : Int)) (hk : k < 64) (hr : m / 2 ^ k = r) (w : World) :
    (execOp ρ { dst := dst, op := .binOp .shr t x y yt, type := ty, pos := pos, after := after, guard := guard }).run P w = .ok (.value (.int .i64 (r : Int))) w := by
  subst hp hq hr
  have he : ∀ u v, eqGuard .shr t x y u v = pure () := fun _ _ => rfl
  have hr : (binOp .shr t (.int .i64 (m : Int)) (.int kk (k : Int))).run P w = .ok (.int .i64 ((m / 2 ^ k : Nat) : Int)) w := by
    show (Op.shift .shr .i64 (m : Int) kk (k : Int)).run P w = _
    have h0 : ¬ (k : Int) < 0 := by omega
    have h1 : min (k : Int).toNat IntKind.i64.bits = k := by
      have : IntKind.i64.bits = 64 := rfl
      omega
    simp only [Op.shift, h0, if_false, h1, Sem.run_pure]
    congr 2
    rw [Int.fdiv_eq_ediv_of_nonneg _ (by exact_mod_cast Nat.zero_le _)]
    norm_cast
  simp only [execOp, hx, hy, Sem.run_bind, he, Sem.run_pure, Result.andThen_ok, hr]
theorem wpL_shrI {t yt : TypeId} {x y : Operand} {kk : IntKind} {p q : Int} {m k r : Nat} (hx : a.eval x = .int .i64 p) (hy : a.eval y = .int kk q) (hp : p = (m : Int)) (hq : q = (k : Int)) (hk : k < 64) (hr : m / 2 ^ k = r)
    (hg : Region.wanted { dst := dst, op := .binOp .shr t x y yt, type := ty, pos := pos, after := after, guard := guard } (yielded ops a.tmps) = true)
    (h : wpList P ops Q rest (a.put dst (.int .i64 (r : Int))) w) : wpList P ops Q ({ dst := dst, op := .binOp .shr t x y yt, type := ty, pos := pos, after := after, guard := guard } :: rest) a w :=
  wpList_ex hg (ex_shrI (ρ := a.eval) hx hy hp hq hk hr w) h
/-- The sum 1 << k. -/
theorem ex_shlP {t yt : TypeId} {x y : Operand} {kk : IntKind} {p q : Int} {m k r : Nat} (hx : ρ x = .int .i64 p) (hy : ρ y = .int kk q) (hp : p = (m : Int)) (hq : q = (k : Int)) (hk : k < 64) (hr : m * 2 ^ k = r) (hw : IntKind.i64.wrap (r : Int) = (r : Int)) (w : World) :
    (execOp ρ { dst := dst, op := .binOp .shl t x y yt, type := ty, pos := pos, after := after, guard := guard }).run P w = .ok (.value (.int .i64 (r : Int))) w := by
  subst hp hq hr
  have he : ∀ u v, eqGuard .shl t x y u v = pure () := fun _ _ => rfl
  have hr : (binOp .shl t (.int .i64 (m : Int)) (.int kk (k : Int))).run P w = .ok (.int .i64 ((m * 2 ^ k : Nat) : Int)) w := by
    show (Op.shift .shl .i64 (m : Int) kk (k : Int)).run P w = _
    have h0 : ¬ (k : Int) < 0 := by omega
    have h1 : min (k : Int).toNat IntKind.i64.bits = k := by
      have : IntKind.i64.bits = 64 := rfl
      omega
    simp only [Op.shift, h0, if_false, h1, Sem.run_pure]
    rw [show ((m : Int) * 2 ^ k) = ((m * 2 ^ k : Nat) : Int) by push_cast; rfl, hw]
  simp only [execOp, hx, hy, Sem.run_bind, he, Sem.run_pure, Result.andThen_ok, hr]
theorem wpL_shlP {t yt : TypeId} {x y : Operand} {kk : IntKind} {p q : Int} {m k r : Nat} (hx : a.eval x = .int .i64 p) (hy : a.eval y = .int kk q) (hp : p = (m : Int)) (hq : q = (k : Int)) (hk : k < 64) (hr : m * 2 ^ k = r) (hw : IntKind.i64.wrap (r : Int) = (r : Int))
    (hg : Region.wanted { dst := dst, op := .binOp .shl t x y yt, type := ty, pos := pos, after := after, guard := guard } (yielded ops a.tmps) = true)
    (h : wpList P ops Q rest (a.put dst (.int .i64 (r : Int))) w) : wpList P ops Q ({ dst := dst, op := .binOp .shl t x y yt, type := ty, pos := pos, after := after, guard := guard } :: rest) a w :=
  wpList_ex hg (ex_shlP (ρ := a.eval) hx hy hp hq hk hr hw w) h
end
end Go.Proofs.Ytgkfopodhikckaa

/- Root, path, Path of merkle. Condition: at most 10^9 leaves. -/
namespace Go.Proofs.Ytgkfopodhikckaa
open Go.RowKit
attribute [local irreducible] wpQuiet wpList
/-- The levels as they lie. -/
def LvsAt (w : World) (v : Value) (l : List Nd) (h : Nat) : Prop :=
  ∃ ao cap cs, v = .slice (some ao) (h + 1) cap ∧ Sl w (.slice (some ao) (h + 1) cap) 1 (h + 1) cs ∧ ∀ i, i ≤ h → ∃ a c, cs[i]? = some (.slice (some a) (levAt l i).length c) ∧ Arrs w (.slice (some a) (levAt l i).length c) (levAt l i)
theorem RetLv.get {w w' : World} {l : List Nd} {h : Nat} {e : Ending} (hl : l.length = 2 ^ h) (H : RetLv w (levelsL l h) e w') : ∃ v, e = .returned v ∧ Below w.heap.size w w' ∧ LvsAt w' v l h := by
  obtain ⟨ao, cap, rfl, hb, cs, hs, hcs⟩ := H
  have hn : (levelsL l h).length = h + 1 := by simp [levelsL]
  rw [hn] at hs hcs ⊢
  obtain ⟨a0, c0, e0⟩ := hs.some (by omega)
  simp only [Value.slice.injEq] at e0
  obtain ⟨rfl, -, -⟩ := e0
  refine ⟨_, rfl, hb, a0, cap, cs, rfl, hs, fun i hi => ?_⟩
  obtain ⟨a, c, h1, h2⟩ := hcs i (by omega)
  have e : (levelsL l h).getD i [] = levAt l i := by simp [levelsL, List.getD, show i < h + 1 by omega]
  rw [e] at h1 h2
  have hp : 0 < (levAt l i).length := by rw [levAt_len hl i hi]; exact Nat.two_pow_pos _
  obtain ⟨a1, c1, e1⟩ := h2.some (by omega)
  simp only [Value.slice.injEq] at e1
  obtain ⟨rfl, -, -⟩ := e1
  exact ⟨a1, c, h1, h2⟩
theorem LvsAt.below {w w' : World} {v : Value} {l : List Nd} {h : Nat} (H : LvsAt w v l h) (hb : Below w.heap.size w w') : LvsAt w' v l h := by
  obtain ⟨ao, cap, cs, rfl, hs, hcs⟩ := H
  refine ⟨ao, cap, cs, rfl, hs.below hb, fun i hi => ?_⟩
  obtain ⟨a, c, h1, h2⟩ := hcs i hi
  exact ⟨a, c, h1, h2.below hb⟩
theorem LvsAt.holds {w0 w : World} {v : Value} {l : List Nd} {h : Nat} {bs : List (Nat × Obj)} {rows : List Row} (H : LvsAt w0 v l h) (hH : Holds w0 [] bs rows w) : LvsAt w v l h := by
  obtain ⟨ao, cap, cs, rfl, hs, hcs⟩ := H
  refine ⟨ao, cap, cs, rfl, hH.sl hs, fun i hi => ?_⟩
  obtain ⟨a, c, h1, h2⟩ := hcs i hi
  exact ⟨a, c, h1, hH.sl h2⟩
theorem get_as {n : Nat} {w : World} {a : Addr} {cap k : Nat} {l : List (Arr n)} {x : Arr n} (h : Arrs w (.slice (some a) l.length cap) l) (hk : k < l.length) (hx : l[k] = x) : ∀ j u, x.cells[j]? = some u → w.cell? ((a.add (k * n)).add j) = some u := by
  subst hx; exact Arrs.get h k hk
def rootN (l : List Nd) : Nd := (levAt l (Nat.log2 l.length)).getD 0 Nd0
def rootV (l : List Nd) : Nd := if checkC l.length = 0 then rootN l else Nd0
def RetR (w : World) (x : Nd) (c : Int) (e : Ending) (w' : World) : Prop := e = .returned (.tuple #[x.val, .int .i64 c]) ∧ Below w.heap.size w w'
theorem RetR.mk {w w' : World} {x y : Nd} {b c : Int} (hx : x = y) (h : b = c) (hb : Below w.heap.size w w') : RetR w y c (.returned (.tuple #[x.val, .int .i64 b])) w' := ⟨by rw [h, hx], hb⟩
theorem BZ34 (w : World) : (Instr.build 34 #[]).run Try.prog w = .ok Nd0.val w := by kernel_rfl
set_option maxRecDepth 100000 in
set_option maxHeartbeats 4000000 in
theorem root_any (w : World) (v : Value) (l : List Nd) (hl : Arrs w v l) (hn : l.length ≤ 1000000000) : Calls Try.prog 38 #[v] w (RetR w (rootV l) (checkC l.length)) := by
  obtain ⟨ao, cap, rfl, _⟩ := hl.shape
  have HL := hid hl
  have HN := hid hn
  clear hl
  have HH := hid (Holds.init w)
  obtain ⟨c, hc⟩ : ∃ c, checkC l.length = c := ⟨_, rfl⟩
  have HC := hid hc
  by_cases h0 : c = 0
  · obtain ⟨h, hh, hlh⟩ := check_pow (hc.trans h0)
    subst h0
    have hlog : Nat.log2 l.length = h := by rw [hlh, Nat.log2_two_pow]
    have h1 : (levAt l h).length = 1 := by rw [levAt_len hlh h (Nat.le_refl _), Nat.sub_self]
    obtain ⟨x, hx⟩ : ∃ x, (levAt l h).getD 0 Nd0 = x := ⟨_, rfl⟩
    have HX := hid (show ∀ pf : 0 < (levAt l h).length, (levAt l h)[0]'pf = x from fun pf => by rw [← hx]; simp [pf])
    have hr : rootV l = x := by unfold rootV rootN; rw [if_pos hc, hlog, hx]
    rw [hr, hc]
    have HLH := hid hlh
    have H1 := hid h1
    clear hr hlog hlh hc hx h1
    go_enter Try.func38, Try.ntmps38
    go_wp2_with (first
      | ((first
          | ((with_reducible apply wpL_skip); rfl; skip)
          | (go_at_call 67; (with_reducible refine (check_any _ _ l (HH.out.sl HL.out) hn).mono ?_); rw [HC.out]; rintro e_ w2_ ⟨rfl, hb_⟩; (have hq_ := HH.out.grow hb_); clear HH; have HH := hid hq_; clear hq_ hb_)
          | (go_at_call 68; (with_reducible refine (levels_any _ _ l h (HH.out.sl HL.out) hh HLH.out).mono ?_); intro e_ w2_ hq0_; obtain ⟨lv_, rfl, hb_, al, cl, cs, rfl, hs_, hcs_⟩ := hq0_.get HLH.out; obtain ⟨a0, c0, hi_, ha_⟩ := hcs_ h (Nat.le_refl _); clear hq0_ hcs_; rw [H1.out] at hi_; (have hq_ := HH.out.grow hb_); clear HH; have HH := hid hq_; have HCI := hid (hs_.cell h _ hi_); have HAR := hid (get_as ha_ (by rw [H1.out]; decide) (HX.out _)); clear hq_ hb_ hs_ hi_ ha_)
          | ((with_reducible apply wpL_idxB (j := h) kE125); rfl; rfl; (exact (by omega)); (exact (by omega)); rfl)
          | ((with_reducible apply wpL_loadAt (t := 46) (v := .slice (some a0) 1 c0) kO46 HCI.out); rfl; rfl)
          | ((with_reducible apply wpL_idx (j := 0) kE46); rfl; rfl; rfl; (exact (by decide)); rfl)
          | ((with_reducible apply wpL_loadEl (dst := some 21) (v := x) kA34 HAR.out); rfl; rfl)
          | ((with_reducible apply wpL_storeC (t := 34) (vs := x.cells)); rfl; rfl; (exact kS34); (exact HH.out); (exact .here); (exact Arr.len _); (exact cells_one _); (exact Arr.len _); rfl; (intro w_ hq_; clear HH; have HH := hid hq_; clear hq_))
          | ((with_reducible apply wpL_nilCheck); rfl; rfl)
          | ((with_reducible apply wpL_loadArr (t := 34) kA34 HH.out); rfl; (first | exact .here | exact .there .here | exact .there (.there .here) | exact .there (.there (.there .here)) | exact .there (.there (.there (.there .here))) | exact .there (.there (.there (.there (.there .here)))) | exact .there (.there (.there (.there (.there (.there .here))))) | exact .there (.there (.there (.there (.there (.there (.there .here))))))); rfl)
          | ((with_reducible apply wpL_loadC (t := 34) kA34 HH.out); rfl; (first | exact .here | exact .there .here | exact .there (.there .here) | exact .there (.there (.there .here)) | exact .there (.there (.there (.there .here))) | exact .there (.there (.there (.there (.there .here)))) | exact .there (.there (.there (.there (.there (.there .here))))) | exact .there (.there (.there (.there (.there (.there (.there .here))))))); (first | rfl | exact Arr.len _ | (simp; done)); rfl)
          | ((with_reducible apply wpL_load1 (t := 46) kO46 HH.out); rfl; (first | exact .here | exact .there .here | exact .there (.there .here) | exact .there (.there (.there .here)) | exact .there (.there (.there (.there .here))) | exact .there (.there (.there (.there (.there .here)))) | exact .there (.there (.there (.there (.there (.there .here))))) | exact .there (.there (.there (.there (.there (.there (.there .here))))))); rfl; rfl)
          | ((with_reducible apply wpL_len (t := 125) Try.underlying125); rfl; rfl)
          | ((with_reducible apply wpL_allocC (dst := some 2) kZ34 HH.out); rfl; (intro g2_ w_ hq_; (try simp only [List.set_cons_zero, List.set_cons_succ] at hq_); clear HH; have HH := hid hq_; clear hq_))
          | ((with_reducible apply wpL_storeArr (t := 34) kS34 HH.out); rfl; rfl; (first | exact .here | exact .there .here | exact .there (.there .here) | exact .there (.there (.there .here)) | exact .there (.there (.there (.there .here))) | exact .there (.there (.there (.there (.there .here)))) | exact .there (.there (.there (.there (.there (.there .here))))) | exact .there (.there (.there (.there (.there (.there (.there .here))))))); (first | rfl | exact Arr.len _ | (simp; done)); rfl; (intro w_ hq_; (try simp only [List.set_cons_zero, List.set_cons_succ] at hq_); clear HH; have HH := hid hq_; clear hq_))
          | ((with_reducible apply wpL_storeC (t := 34)); rfl; rfl; (exact kS34); (exact HH.out); (first | exact .here | exact .there .here | exact .there (.there .here) | exact .there (.there (.there .here)) | exact .there (.there (.there (.there .here))) | exact .there (.there (.there (.there (.there .here)))) | exact .there (.there (.there (.there (.there (.there .here))))) | exact .there (.there (.there (.there (.there (.there (.there .here))))))); (first | rfl | exact Arr.len _ | (simp; done)); (first | rfl | (intro u_ hu_; simp only [List.mem_cons, List.not_mem_nil, or_false] at hu_; rcases hu_ with rfl | hu_; rfl) | exact byt_cell1 _ | exact cells_one _ | exact wrd_one _ | exact flat_cell1 _); (first | rfl | exact Arr.len _ | (simp; done)); rfl; (intro w_ hq_; (try simp only [List.set_cons_zero, List.set_cons_succ] at hq_); clear HH; have HH := hid hq_; clear hq_))
          | ((with_reducible apply wpL_move); rfl; rfl)
          | ((with_reducible apply wpL_assign); rfl; rfl)
          | ((with_reducible apply wpL_pick); rfl; rfl; rfl)
          | ((with_reducible apply wpL_not); rfl; rfl)
          | ((with_reducible apply wpL_cmp (b := true)); rfl; rfl; rfl; (first | rfl | assumption | (simp only [cmpB, decide_eq_true_eq, decide_eq_false_iff_not, beq_iff_eq, bne_iff_ne, ne_eq, beq_eq_false_iff_ne, bne_eq_false_iff_eq, gt_iff_lt, ge_iff_le]; omega) | (simp; omega)); rfl)
          | ((with_reducible apply wpL_cmp (b := false)); rfl; rfl; rfl; (first | rfl | assumption | (simp only [cmpB, decide_eq_true_eq, decide_eq_false_iff_not, beq_iff_eq, bne_iff_ne, ne_eq, beq_eq_false_iff_ne, bne_eq_false_iff_eq, gt_iff_lt, ge_iff_le]; omega) | (simp; omega)); rfl)
          | ((with_reducible apply wpL_cmp); rfl; rfl; rfl; rfl; rfl)
          | ((with_reducible apply wpL_arith); rfl; rfl; rfl; (exact IntWalk.i64_in _ (by (try simp only [arithI]); omega)); rfl)); (try simp only [arithI, Act.put, Act.eval, List.setIfInBounds_toArray, List.set_cons_succ, List.set_cons_zero, Array.getD_eq_getD_getElem?, List.getElem?_toArray, List.getElem?_cons_succ, List.getElem?_cons_zero, Option.getD_some])))
    refine bodyPost_ret (res2 rfl (resC kA34 HH.out (by rfl) .here (Arr.len _)) (by rfl)) rfl ?_
    exact RetR.mk rfl rfl HH.out.below
  · have hr : rootV l = Nd0 := by unfold rootV; rw [if_neg (by rw [hc]; exact h0)]
    rw [hr, hc]
    have hcb : (c != 0) = true := by simpa using h0
    clear hr hc h0
    go_enter Try.func38, Try.ntmps38
    go_wp2_with (first
      | ((first
          | ((with_reducible apply wpL_skip); rfl; skip)
          | (go_at_call 67; (with_reducible refine (check_any _ _ l (HH.out.sl HL.out) hn).mono ?_); rw [HC.out]; rintro e_ w2_ ⟨rfl, hb_⟩; (have hq_ := HH.out.grow hb_); clear HH; have HH := hid hq_; clear hq_ hb_)
          | ((with_reducible apply wpList_build (parts := #[]) (v := Nd0.val)); (exact BZ34); rfl)
          | ((with_reducible apply wpL_storeC (t := 34) (vs := Nd0.cells)); rfl; rfl; (exact kS34); (exact HH.out); (exact .here); (exact Arr.len _); (exact cells_one _); (exact Arr.len _); rfl; (intro w_ hq_; clear HH; have HH := hid hq_; clear hq_))
          | ((with_reducible apply wpL_nilCheck); rfl; rfl)
          | ((with_reducible apply wpL_loadArr (t := 34) kA34 HH.out); rfl; (first | exact .here | exact .there .here | exact .there (.there .here) | exact .there (.there (.there .here)) | exact .there (.there (.there (.there .here))) | exact .there (.there (.there (.there (.there .here)))) | exact .there (.there (.there (.there (.there (.there .here))))) | exact .there (.there (.there (.there (.there (.there (.there .here))))))); rfl)
          | ((with_reducible apply wpL_loadC (t := 34) kA34 HH.out); rfl; (first | exact .here | exact .there .here | exact .there (.there .here) | exact .there (.there (.there .here)) | exact .there (.there (.there (.there .here))) | exact .there (.there (.there (.there (.there .here)))) | exact .there (.there (.there (.there (.there (.there .here))))) | exact .there (.there (.there (.there (.there (.there (.there .here))))))); (first | rfl | exact Arr.len _ | (simp; done)); rfl)
          | ((with_reducible apply wpL_load1 (t := 46) kO46 HH.out); rfl; (first | exact .here | exact .there .here | exact .there (.there .here) | exact .there (.there (.there .here)) | exact .there (.there (.there (.there .here))) | exact .there (.there (.there (.there (.there .here)))) | exact .there (.there (.there (.there (.there (.there .here))))) | exact .there (.there (.there (.there (.there (.there (.there .here))))))); rfl; rfl)
          | ((with_reducible apply wpL_len (t := 125) Try.underlying125); rfl; rfl)
          | ((with_reducible apply wpL_allocC (dst := some 2) kZ34 HH.out); rfl; (intro g2_ w_ hq_; (try simp only [List.set_cons_zero, List.set_cons_succ] at hq_); clear HH; have HH := hid hq_; clear hq_))
          | ((with_reducible apply wpL_storeArr (t := 34) kS34 HH.out); rfl; rfl; (first | exact .here | exact .there .here | exact .there (.there .here) | exact .there (.there (.there .here)) | exact .there (.there (.there (.there .here))) | exact .there (.there (.there (.there (.there .here)))) | exact .there (.there (.there (.there (.there (.there .here))))) | exact .there (.there (.there (.there (.there (.there (.there .here))))))); (first | rfl | exact Arr.len _ | (simp; done)); rfl; (intro w_ hq_; (try simp only [List.set_cons_zero, List.set_cons_succ] at hq_); clear HH; have HH := hid hq_; clear hq_))
          | ((with_reducible apply wpL_storeC (t := 34)); rfl; rfl; (exact kS34); (exact HH.out); (first | exact .here | exact .there .here | exact .there (.there .here) | exact .there (.there (.there .here)) | exact .there (.there (.there (.there .here))) | exact .there (.there (.there (.there (.there .here)))) | exact .there (.there (.there (.there (.there (.there .here))))) | exact .there (.there (.there (.there (.there (.there (.there .here))))))); (first | rfl | exact Arr.len _ | (simp; done)); (first | rfl | (intro u_ hu_; simp only [List.mem_cons, List.not_mem_nil, or_false] at hu_; rcases hu_ with rfl | hu_; rfl) | exact byt_cell1 _ | exact cells_one _ | exact wrd_one _ | exact flat_cell1 _); (first | rfl | exact Arr.len _ | (simp; done)); rfl; (intro w_ hq_; (try simp only [List.set_cons_zero, List.set_cons_succ] at hq_); clear HH; have HH := hid hq_; clear hq_))
          | ((with_reducible apply wpL_move); rfl; rfl)
          | ((with_reducible apply wpL_assign); rfl; rfl)
          | ((with_reducible apply wpL_pick); rfl; rfl; rfl)
          | ((with_reducible apply wpL_not); rfl; rfl)
          | ((with_reducible apply wpL_cmp (b := true)); rfl; rfl; rfl; (first | rfl | assumption | (simp only [cmpB, decide_eq_true_eq, decide_eq_false_iff_not, beq_iff_eq, bne_iff_ne, ne_eq, beq_eq_false_iff_ne, bne_eq_false_iff_eq, gt_iff_lt, ge_iff_le]; omega) | (simp; omega)); rfl)
          | ((with_reducible apply wpL_cmp (b := false)); rfl; rfl; rfl; (first | rfl | assumption | (simp only [cmpB, decide_eq_true_eq, decide_eq_false_iff_not, beq_iff_eq, bne_iff_ne, ne_eq, beq_eq_false_iff_ne, bne_eq_false_iff_eq, gt_iff_lt, ge_iff_le]; omega) | (simp; omega)); rfl)
          | ((with_reducible apply wpL_cmp); rfl; rfl; rfl; rfl; rfl)
          | ((with_reducible apply wpL_arith); rfl; rfl; rfl; (exact IntWalk.i64_in _ (by (try simp only [arithI]); omega)); rfl)); (try simp only [arithI, Act.put, Act.eval, List.setIfInBounds_toArray, List.set_cons_succ, List.set_cons_zero, Array.getD_eq_getD_getElem?, List.getElem?_toArray, List.getElem?_cons_succ, List.getElem?_cons_zero, Option.getD_some])))
    refine bodyPost_ret (res2 rfl (resC kA34 HH.out (by rfl) .here (Arr.len _)) (by rfl)) rfl ?_
    exact RetR.mk rfl rfl HH.out.below
end Go.Proofs.Ytgkfopodhikckaa

/- path, Path of merkle. Condition: at most 10^9 leaves. -/
namespace Go.Proofs.Ytgkfopodhikckaa
open Go.RowKit
attribute [local irreducible] wpQuiet wpList
/-- The siblings on the way. -/
def pathL (l : List Nd) (h i : Nat) : List Nd := (List.range h).map fun k => (levAt l k).getD ((i / 2 ^ k) ^^^ 1) Nd0
theorem pathL_len (l : List Nd) (h i : Nat) : (pathL l h i).length = h := by simp [pathL]
theorem pathL_succ (l : List Nd) (k i : Nat) : pathL l (k + 1) i = pathL l k i ++ [(levAt l k).getD ((i / 2 ^ k) ^^^ 1) Nd0] := by simp [pathL, List.range_succ]
def PathRel (w : World) (l : List Nd) (h i : Nat) (iv v kv : Value) (wr : World) : Prop :=
  ∃ (k m : Nat) (r : List Nd) (ao : Option Addr) (cap : Nat), k ≤ h ∧ iv = .int .i64 (m : Int) ∧ m = i / 2 ^ k ∧ kv = .int .i64 k ∧ r = pathL l k i ∧ v = .slice ao r.length cap ∧ Holds w [] [] [rowA 34 ao cap r] wr
set_option maxRecDepth 100000 in
set_option maxHeartbeats 4000000 in
theorem path_any (w : World) (v : Value) (l : List Nd) (h i : Nat) (hl : LvsAt w v l h) (hlh : l.length = 2 ^ h) (hh : h ≤ 10) (hi : i < 2 ^ h) : Calls Try.prog 76 #[v, .int .i64 i] w (RetAs 34 w (pathL l h i)) := by
  obtain ⟨al, cl, cs, rfl, hs, hcs⟩ := hl
  have HS := hid hs
  have HCS := hid hcs
  have HLH := hid hlh
  have hi10 : i ≤ 1024 := by
    have : 2 ^ h ≤ 2 ^ 10 := Nat.pow_le_pow_right (by decide) hh
    omega
  have HI := hid hi
  have hc1 : h + 1 ≤ cl := by obtain ⟨_, _, e, hle⟩ := hs.shape; cases e; exact hle
  clear hs hcs hlh hi
  have HH := hid (Holds.init w)
  go_enter Try.func76, Try.ntmps76
  go_wp2_with (first
    | ((first
        | ((with_reducible apply wpL_skip); rfl; skip)
        | ((with_reducible apply wpL_sliceTo (j := h) kE125); rfl; rfl; (exact (by omega)); (exact (by omega)); rfl)
        | ((with_reducible apply wpL_nilCheck); rfl; rfl)
        | ((with_reducible apply wpL_loadArr (t := 34) kA34 HH.out); rfl; (first | exact .here | exact .there .here | exact .there (.there .here) | exact .there (.there (.there .here)) | exact .there (.there (.there (.there .here))) | exact .there (.there (.there (.there (.there .here)))) | exact .there (.there (.there (.there (.there (.there .here))))) | exact .there (.there (.there (.there (.there (.there (.there .here))))))); rfl)
        | ((with_reducible apply wpL_loadC (t := 34) kA34 HH.out); rfl; (first | exact .here | exact .there .here | exact .there (.there .here) | exact .there (.there (.there .here)) | exact .there (.there (.there (.there .here))) | exact .there (.there (.there (.there (.there .here)))) | exact .there (.there (.there (.there (.there (.there .here))))) | exact .there (.there (.there (.there (.there (.there (.there .here))))))); (first | rfl | exact Arr.len _ | (simp; done)); rfl)
        | ((with_reducible apply wpL_load1 (t := 46) kO46 HH.out); rfl; (first | exact .here | exact .there .here | exact .there (.there .here) | exact .there (.there (.there .here)) | exact .there (.there (.there (.there .here))) | exact .there (.there (.there (.there (.there .here)))) | exact .there (.there (.there (.there (.there (.there .here))))) | exact .there (.there (.there (.there (.there (.there (.there .here))))))); rfl; rfl)
        | ((with_reducible apply wpL_len (t := 46) Try.underlying46); rfl; rfl)
        | ((with_reducible apply wpL_len (t := 125) Try.underlying125); rfl; rfl)
        | ((with_reducible apply wpL_move); rfl; rfl)
        | ((with_reducible apply wpL_assign); rfl; rfl)
        | ((with_reducible apply wpL_pick); rfl; rfl; rfl)
        | ((with_reducible apply wpL_not); rfl; rfl)
        | ((with_reducible apply wpL_cmp (b := true)); rfl; rfl; rfl; (first | rfl | assumption | (simp only [cmpB, decide_eq_true_eq, decide_eq_false_iff_not, beq_iff_eq, bne_iff_ne, ne_eq, beq_eq_false_iff_ne, bne_eq_false_iff_eq, gt_iff_lt, ge_iff_le]; omega) | (simp; omega)); rfl)
        | ((with_reducible apply wpL_cmp (b := false)); rfl; rfl; rfl; (first | rfl | assumption | (simp only [cmpB, decide_eq_true_eq, decide_eq_false_iff_not, beq_iff_eq, bne_iff_ne, ne_eq, beq_eq_false_iff_ne, bne_eq_false_iff_eq, gt_iff_lt, ge_iff_le]; omega) | (simp; omega)); rfl)
        | ((with_reducible apply wpL_cmp); rfl; rfl; rfl; rfl; rfl)
        | ((with_reducible apply wpL_arith); rfl; rfl; rfl; (exact IntWalk.i64_in _ (by (try simp only [arithI]); omega)); rfl)); (try simp only [arithI, Act.put, Act.eval, List.setIfInBounds_toArray, List.set_cons_succ, List.set_cons_zero, Array.getD_eq_getD_getElem?, List.getElem?_toArray, List.getElem?_cons_succ, List.getElem?_cons_zero, Option.getD_some])))
  go_loopw [1, 5, 14] (PathRel w l h i) (fun _ _ k _ => h - (intOf k).toNat)
  case atStart => exact ⟨0, i, [], none, 0, Nat.zero_le _, rfl, by simp, rfl, rfl, rfl, HH.out.addNil 34 16⟩
  case round =>
    obtain ⟨k, m, r, ao, cap, hk, rfl, hm, rfl, hrk, rfl, hr⟩ := hrel
    clear HH
    have HH := hid hr
    have HM := hid hm
    have HRK := hid hrk
    have hrl : r.length = k := by rw [hrk, pathL_len]
    have hm10 : m ≤ 1024 := by rw [hm]; exact Nat.le_trans (Nat.div_le_self _ _) hi10
    clear hr hrk hm
    by_cases hkh : k < h
    · obtain ⟨a, c, hc, ha⟩ := HCS.out k (by omega)
      have hlen := levAt_len HLH.out k (by omega)
      have hmb : m < 2 ^ (h - k) := by
        rw [HM.out, Nat.div_lt_iff_lt_mul (Nat.two_pow_pos _), ← Nat.pow_add, show h - k + k = h by omega]
        exact HI.out
      have h1b : 1 < 2 ^ (h - k) := Nat.one_lt_two_pow (by omega)
      obtain ⟨q, hq⟩ : ∃ q, m ^^^ 1 = q := ⟨_, rfl⟩
      have hqb : q < (levAt l k).length := by rw [hlen, ← hq]; exact Nat.xor_lt_two_pow hmb h1b
      have HQ := hid hq
      obtain ⟨n, hn⟩ : ∃ n, (levAt l k).length = n := ⟨_, rfl⟩
      have hn10 : n ≤ 1024 := by
        rw [← hn, hlen]
        exact Nat.le_trans (Nat.pow_le_pow_right (by decide) (show h - k ≤ 10 by omega)) (by decide)
      obtain ⟨x, hx⟩ : ∃ x, (levAt l k).getD q Nd0 = x := ⟨_, rfl⟩
      have HAR := hid (fun w1 (h1 : Holds w [] [] [rowA 34 ao cap r] w1) => get_as (show Arrs w1 (.slice (some a) (levAt l k).length c) (levAt l k) from h1.sl ha) hqb (show (levAt l k)[q] = x by rw [← hx]; simp [hqb]))
      rw [hn] at hc hqb
      have HC := hid hc
      obtain ⟨r2, hr2⟩ : ∃ r2, r ++ [x] = r2 := ⟨_, rfl⟩
      have HR2 := hid hr2
      have HST := hid (show r2 = pathL l (k + 1) i by rw [← hr2, pathL_succ, ← HRK.out, ← HM.out, hq, hx])
      have HD := hid (show m / 2 ^ 1 = i / 2 ^ (k + 1) by rw [HM.out, Nat.div_div_eq_div_mul, Nat.pow_one, Nat.pow_succ])
      obtain ⟨m2, hm2⟩ : ∃ m2, m / 2 ^ 1 = m2 := ⟨_, rfl⟩
      have HM2 := hid hm2
      rw [hm2] at HD
      have HB1 := hid (show m < 2 ^ IntKind.i64.bits from Nat.lt_of_lt_of_le (show m < 1025 by omega) (by decide))
      have HB2 := hid (show 1 < 2 ^ IntKind.i64.bits from by decide)
      have HW := hid (show IntKind.i64.wrap ((q : Nat) : Int) = (q : Int) from IntWalk.i64_in _ (by omega))
      clear hc ha hlen hmb h1b hq hx hr2 hm2 hn
      go_wp2_with (first
        | ((first
            | ((with_reducible apply wpL_skip); rfl; skip)
            | ((with_reducible apply wpL_idxB (dst := some 16) (j := k) kE125); rfl; rfl; rfl; (exact hkh); rfl)
            | ((with_reducible apply wpL_loadAt (t := 46) (v := .slice (some a) n c) kO46); (have hc_ := (HH.out.sl HS.out).cell k (.slice (some a) n c) HC.out; exact hc_); rfl; rfl)
            | ((with_reducible apply wpL_xor (m := m) (n := 1) (r := q)); rfl; rfl; rfl; rfl; (exact HB1.out); (exact HB2.out); (exact HQ.out); (exact HW.out); rfl)
            | ((with_reducible apply wpL_idx (dst := some 22) (j := q) kE46); rfl; rfl; rfl; (exact hqb); rfl)
            | ((with_reducible apply wpL_loadEl (dst := some 23) (v := x) kA34 (HAR.out _ HH.out)); rfl; rfl)
            | ((with_reducible apply wpL_buildA kE46 x (by decide)); rfl; (exact HH.out); rfl; (intro g_ w_ hq_; clear HH; have HH := hid hq_; clear hq_))
            | ((with_reducible apply wpL_appendA (l := r) (l2 := [x]) (r := r2) kE46 HH.out.swap HH.out.sl0 HR2.out); rfl; rfl; (exact (by simp; omega)); rfl; rfl; rfl; (intro ao4 cap4 w_ hq_; clear HH; have HH := hid hq_.dropSnd; clear hq_))
            | ((with_reducible apply wpL_shrI (m := m) (k := 1) (r := m2)); rfl; rfl; rfl; rfl; (exact (by decide)); (exact HM2.out); rfl)
            | ((with_reducible apply wpL_nilCheck); rfl; rfl)
            | ((with_reducible apply wpL_loadArr (t := 34) kA34 HH.out); rfl; (first | exact .here | exact .there .here | exact .there (.there .here) | exact .there (.there (.there .here)) | exact .there (.there (.there (.there .here))) | exact .there (.there (.there (.there (.there .here)))) | exact .there (.there (.there (.there (.there (.there .here))))) | exact .there (.there (.there (.there (.there (.there (.there .here))))))); rfl)
            | ((with_reducible apply wpL_loadC (t := 34) kA34 HH.out); rfl; (first | exact .here | exact .there .here | exact .there (.there .here) | exact .there (.there (.there .here)) | exact .there (.there (.there (.there .here))) | exact .there (.there (.there (.there (.there .here)))) | exact .there (.there (.there (.there (.there (.there .here))))) | exact .there (.there (.there (.there (.there (.there (.there .here))))))); (first | rfl | exact Arr.len _ | (simp; done)); rfl)
            | ((with_reducible apply wpL_load1 (t := 46) kO46 HH.out); rfl; (first | exact .here | exact .there .here | exact .there (.there .here) | exact .there (.there (.there .here)) | exact .there (.there (.there (.there .here))) | exact .there (.there (.there (.there (.there .here)))) | exact .there (.there (.there (.there (.there (.there .here))))) | exact .there (.there (.there (.there (.there (.there (.there .here))))))); rfl; rfl)
            | ((with_reducible apply wpL_len (t := 46) Try.underlying46); rfl; rfl)
            | ((with_reducible apply wpL_len (t := 125) Try.underlying125); rfl; rfl)
            | ((with_reducible apply wpL_move); rfl; rfl)
            | ((with_reducible apply wpL_assign); rfl; rfl)
            | ((with_reducible apply wpL_pick); rfl; rfl; rfl)
            | ((with_reducible apply wpL_not); rfl; rfl)
            | ((with_reducible apply wpL_cmp (b := true)); rfl; rfl; rfl; (first | rfl | assumption | (simp only [cmpB, decide_eq_true_eq, decide_eq_false_iff_not, beq_iff_eq, bne_iff_ne, ne_eq, beq_eq_false_iff_ne, bne_eq_false_iff_eq, gt_iff_lt, ge_iff_le]; omega) | (simp; omega)); rfl)
            | ((with_reducible apply wpL_cmp (b := false)); rfl; rfl; rfl; (first | rfl | assumption | (simp only [cmpB, decide_eq_true_eq, decide_eq_false_iff_not, beq_iff_eq, bne_iff_ne, ne_eq, beq_eq_false_iff_ne, bne_eq_false_iff_eq, gt_iff_lt, ge_iff_le]; omega) | (simp; omega)); rfl)
            | ((with_reducible apply wpL_cmp); rfl; rfl; rfl; rfl; rfl)
            | ((with_reducible apply wpL_arith); rfl; rfl; rfl; (exact IntWalk.i64_in _ (by (try simp only [arithI]); omega)); rfl)); (try simp only [arithI, Act.put, Act.eval, List.setIfInBounds_toArray, List.set_cons_succ, List.set_cons_zero, Array.getD_eq_getD_getElem?, List.getElem?_toArray, List.getElem?_cons_succ, List.getElem?_cons_zero, Option.getD_some])))
      go_roundw
      case rel => exact ⟨k + 1, m2, r2, _, _, by omega, by go_num, HD.out, by go_num, HST.out, rfl, HH.out⟩
      case measure => simp [intOf]; omega
    · obtain rfl : k = h := by omega
      go_wp2_with (first
        | ((first
            | ((with_reducible apply wpL_skip); rfl; skip)
            | ((with_reducible apply wpL_nilCheck); rfl; rfl)
            | ((with_reducible apply wpL_loadArr (t := 34) kA34 HH.out); rfl; (first | exact .here | exact .there .here | exact .there (.there .here) | exact .there (.there (.there .here)) | exact .there (.there (.there (.there .here))) | exact .there (.there (.there (.there (.there .here)))) | exact .there (.there (.there (.there (.there (.there .here))))) | exact .there (.there (.there (.there (.there (.there (.there .here))))))); rfl)
            | ((with_reducible apply wpL_loadC (t := 34) kA34 HH.out); rfl; (first | exact .here | exact .there .here | exact .there (.there .here) | exact .there (.there (.there .here)) | exact .there (.there (.there (.there .here))) | exact .there (.there (.there (.there (.there .here)))) | exact .there (.there (.there (.there (.there (.there .here))))) | exact .there (.there (.there (.there (.there (.there (.there .here))))))); (first | rfl | exact Arr.len _ | (simp; done)); rfl)
            | ((with_reducible apply wpL_load1 (t := 46) kO46 HH.out); rfl; (first | exact .here | exact .there .here | exact .there (.there .here) | exact .there (.there (.there .here)) | exact .there (.there (.there (.there .here))) | exact .there (.there (.there (.there (.there .here)))) | exact .there (.there (.there (.there (.there (.there .here))))) | exact .there (.there (.there (.there (.there (.there (.there .here))))))); rfl; rfl)
            | ((with_reducible apply wpL_len (t := 46) Try.underlying46); rfl; rfl)
            | ((with_reducible apply wpL_len (t := 125) Try.underlying125); rfl; rfl)
            | ((with_reducible apply wpL_move); rfl; rfl)
            | ((with_reducible apply wpL_assign); rfl; rfl)
            | ((with_reducible apply wpL_pick); rfl; rfl; rfl)
            | ((with_reducible apply wpL_not); rfl; rfl)
            | ((with_reducible apply wpL_cmp (b := true)); rfl; rfl; rfl; (first | rfl | assumption | (simp only [cmpB, decide_eq_true_eq, decide_eq_false_iff_not, beq_iff_eq, bne_iff_ne, ne_eq, beq_eq_false_iff_ne, bne_eq_false_iff_eq, gt_iff_lt, ge_iff_le]; omega) | (simp; omega)); rfl)
            | ((with_reducible apply wpL_cmp (b := false)); rfl; rfl; rfl; (first | rfl | assumption | (simp only [cmpB, decide_eq_true_eq, decide_eq_false_iff_not, beq_iff_eq, bne_iff_ne, ne_eq, beq_eq_false_iff_ne, bne_eq_false_iff_eq, gt_iff_lt, ge_iff_le]; omega) | (simp; omega)); rfl)
            | ((with_reducible apply wpL_cmp); rfl; rfl; rfl; rfl; rfl)
            | ((with_reducible apply wpL_arith); rfl; rfl; rfl; (exact IntWalk.i64_in _ (by (try simp only [arithI]); omega)); rfl)); (try simp only [arithI, Act.put, Act.eval, List.setIfInBounds_toArray, List.set_cons_succ, List.set_cons_zero, Array.getD_eq_getD_getElem?, List.getElem?_toArray, List.getElem?_cons_succ, List.getElem?_cons_zero, Option.getD_some])))
      go_ret
      exact RetAs.of HRK.out HH.out.own0 HH.out.below
def pathC (l : List Nd) (i : Int) : Int := if checkC l.length = 0 then (if i < 0 ∨ (l.length : Int) ≤ i then 8 else 0) else checkC l.length
def pathV (l : List Nd) (i : Int) : List Nd := if pathC l i = 0 then pathL l (Nat.log2 l.length) i.toNat else []
def RetP (w : World) (r : List Nd) (c : Int) (e : Ending) (w' : World) : Prop :=
  ∃ ao cap, e = .returned (.tuple #[.slice ao r.length cap, .int .i64 c]) ∧ Below w.heap.size w w' ∧ Arrs w' (.slice ao r.length cap) r
theorem RetP.mk {w w' : World} {r s : List Nd} {ao : Option Addr} {b c : Int} {cap : Nat} (hr : r = s) (h : b = c) (hb : Below w.heap.size w w') (hl : Arrs w' (.slice ao r.length cap) r) : RetP w s c (.returned (.tuple #[.slice ao r.length cap, .int .i64 b])) w' := by
  subst hr h; exact ⟨ao, cap, rfl, hb, hl⟩
theorem RetP.no {w w' : World} {s : List Nd} {b c : Int} (hs : s = []) (h : b = c) (hb : Below w.heap.size w w') : RetP w s c (.returned (.tuple #[.slice none 0 0, .int .i64 b])) w' := RetP.mk (r := []) hs.symm h hb (Sl.nil _ _)
def RetPO (w : World) (r : List Nd) (c : Int) (e : Ending) (w' : World) : Prop :=
  ∃ ao cap, e = .returned (.tuple #[.slice ao r.length cap, .int .i64 c]) ∧ w'.ownsRow w.heap.size 34 16 (.slice ao r.length cap) r.length (flat r) ∧ Below w.heap.size w w'
theorem RetPO.mk {w w' : World} {r s : List Nd} {ao : Option Addr} {b c : Int} {cap : Nat} (hr : r = s) (h : b = c) (hb : Below w.heap.size w w') (hl : w'.ownsRow w.heap.size 34 16 (.slice ao r.length cap) r.length (flat r)) : RetPO w s c (.returned (.tuple #[.slice ao r.length cap, .int .i64 b])) w' := by
  subst hr h; exact ⟨ao, cap, rfl, hl, hb⟩
theorem RetPO.no {w w' : World} {s : List Nd} {b c : Int} (hs : s = []) (h : b = c) (hb : Below w.heap.size w w') : RetPO w s c (.returned (.tuple #[.slice none 0 0, .int .i64 b])) w' := RetPO.mk (r := []) hs.symm h hb (World.ownsRow_nil _ _ _ _)
set_option maxRecDepth 100000 in
set_option maxHeartbeats 4000000 in
theorem progPathO_any (w : World) (v : Value) (l : List Nd) (i : Int) (hl : Arrs w v l) (hn : l.length ≤ 1000000000) : Calls Try.prog 51 #[v, .int .i64 i] w (RetPO w (pathV l i) (pathC l i)) := by
  obtain ⟨ao, cap, rfl, _⟩ := hl.shape
  have HL := hid hl
  clear hl
  have HH := hid (Holds.init w)
  obtain ⟨c, hc⟩ : ∃ c, checkC l.length = c := ⟨_, rfl⟩
  have HC := hid hc
  by_cases h0 : c = 0
  · subst h0
    obtain ⟨h, hh, hlh⟩ := check_pow hc
    by_cases hi0 : i < 0
    · have e1 : pathC l i = 8 := by unfold pathC; rw [if_pos hc, if_pos (.inl hi0)]
      have e2 : pathV l i = [] := by unfold pathV; rw [e1]; rfl
      rw [e1, e2]
      clear e1 e2 hc hlh
      go_enter Try.func51, Try.ntmps51
      go_wp2_with (first
        | ((first
            | ((with_reducible apply wpL_skip); rfl; skip)
            | (go_at_call 67; (with_reducible refine (check_any _ _ l (HH.out.sl HL.out) hn).mono ?_); rw [HC.out]; rintro e_ w2_ ⟨rfl, hb_⟩; (have hq_ := HH.out.grow hb_); clear HH; have HH := hid hq_; clear hq_ hb_)
            | ((with_reducible apply wpL_nilCheck); rfl; rfl)
            | ((with_reducible apply wpL_len (t := 46) Try.underlying46); rfl; rfl)
            | ((with_reducible apply wpL_move); rfl; rfl)
            | ((with_reducible apply wpL_assign); rfl; rfl)
            | ((with_reducible apply wpL_pick); rfl; rfl; rfl)
            | ((with_reducible apply wpL_not); rfl; rfl)
            | ((with_reducible apply wpL_cmp (b := true)); rfl; rfl; rfl; (first | rfl | assumption | (simp only [cmpB, decide_eq_true_eq, decide_eq_false_iff_not, beq_iff_eq, bne_iff_ne, ne_eq, beq_eq_false_iff_ne, bne_eq_false_iff_eq, gt_iff_lt, ge_iff_le]; omega) | (simp; omega)); rfl)
            | ((with_reducible apply wpL_cmp (b := false)); rfl; rfl; rfl; (first | rfl | assumption | (simp only [cmpB, decide_eq_true_eq, decide_eq_false_iff_not, beq_iff_eq, bne_iff_ne, ne_eq, beq_eq_false_iff_ne, bne_eq_false_iff_eq, gt_iff_lt, ge_iff_le]; omega) | (simp; omega)); rfl)
            | ((with_reducible apply wpL_cmp); rfl; rfl; rfl; rfl; rfl)
            | ((with_reducible apply wpL_arith); rfl; rfl; rfl; (exact IntWalk.i64_in _ (by (try simp only [arithI]); omega)); rfl)); (try simp only [arithI, Act.put, Act.eval, List.setIfInBounds_toArray, List.set_cons_succ, List.set_cons_zero, Array.getD_eq_getD_getElem?, List.getElem?_toArray, List.getElem?_cons_succ, List.getElem?_cons_zero, Option.getD_some])))
      go_ret2
      exact RetPO.no rfl rfl HH.out.below
    · obtain ⟨j, rfl⟩ : ∃ j : Nat, i = j := ⟨i.toNat, by omega⟩
      by_cases hj : j < l.length
      · have e1 : pathC l (j : Int) = 0 := by unfold pathC; rw [if_pos hc, if_neg (by omega)]
        have e2 : pathV l (j : Int) = pathL l h j := by unfold pathV; rw [if_pos e1, hlh, Nat.log2_two_pow]; rfl
        rw [e1, e2]
        have HLH := hid hlh
        have hj2 : j < 2 ^ h := by rw [← hlh]; exact hj
        have HJ := hid hj2
        clear e1 e2 hc hlh hj2
        go_enter Try.func51, Try.ntmps51
        go_wp2_with (first
          | ((first
              | ((with_reducible apply wpL_skip); rfl; skip)
              | (go_at_call 67; (with_reducible refine (check_any _ _ l (HH.out.sl HL.out) hn).mono ?_); rw [HC.out]; rintro e_ w2_ ⟨rfl, hb_⟩; (have hq_ := HH.out.grow hb_); clear HH; have HH := hid hq_; clear hq_ hb_)
              | (go_at_call 68; (with_reducible refine (levels_any _ _ l h (HH.out.sl HL.out) hh HLH.out).mono ?_); intro e_ w2_ hq0_; obtain ⟨lv, rfl, hb_, hv_⟩ := hq0_.get HLH.out; clear hq0_; (have hq_ := HH.out.grow hb_); clear HH; have HH := hid hq_; have HV := hid hv_; clear hq_ hb_ hv_)
              | (go_at_call 76; (with_reducible refine (path_any _ _ l h j HV.out HLH.out hh HJ.out).mono ?_); rintro e_ w2_ ⟨ao2, cap2, rfl, hr_, hb_⟩; (have hq_ := HH.out.addRow hb_ hr_); clear HH; have HH := hid hq_; clear hq_ hb_ hr_)
              | ((with_reducible apply wpL_nilCheck); rfl; rfl)
              | ((with_reducible apply wpL_len (t := 46) Try.underlying46); rfl; rfl)
              | ((with_reducible apply wpL_move); rfl; rfl)
              | ((with_reducible apply wpL_assign); rfl; rfl)
              | ((with_reducible apply wpL_pick); rfl; rfl; rfl)
              | ((with_reducible apply wpL_not); rfl; rfl)
              | ((with_reducible apply wpL_cmp (b := true)); rfl; rfl; rfl; (first | rfl | assumption | (simp only [cmpB, decide_eq_true_eq, decide_eq_false_iff_not, beq_iff_eq, bne_iff_ne, ne_eq, beq_eq_false_iff_ne, bne_eq_false_iff_eq, gt_iff_lt, ge_iff_le]; omega) | (simp; omega)); rfl)
              | ((with_reducible apply wpL_cmp (b := false)); rfl; rfl; rfl; (first | rfl | assumption | (simp only [cmpB, decide_eq_true_eq, decide_eq_false_iff_not, beq_iff_eq, bne_iff_ne, ne_eq, beq_eq_false_iff_ne, bne_eq_false_iff_eq, gt_iff_lt, ge_iff_le]; omega) | (simp; omega)); rfl)
              | ((with_reducible apply wpL_cmp); rfl; rfl; rfl; rfl; rfl)
              | ((with_reducible apply wpL_arith); rfl; rfl; rfl; (exact IntWalk.i64_in _ (by (try simp only [arithI]); omega)); rfl)); (try simp only [arithI, Act.put, Act.eval, List.setIfInBounds_toArray, List.set_cons_succ, List.set_cons_zero, Array.getD_eq_getD_getElem?, List.getElem?_toArray, List.getElem?_cons_succ, List.getElem?_cons_zero, Option.getD_some])))
        go_ret2
        exact RetPO.mk rfl rfl HH.out.below HH.out.own0
      · have e1 : pathC l (j : Int) = 8 := by unfold pathC; rw [if_pos hc, if_pos (.inr (by omega))]
        have e2 : pathV l (j : Int) = [] := by unfold pathV; rw [e1]; rfl
        rw [e1, e2]
        clear e1 e2 hc hlh
        go_enter Try.func51, Try.ntmps51
        go_wp2_with (first
          | ((first
              | ((with_reducible apply wpL_skip); rfl; skip)
              | (go_at_call 67; (with_reducible refine (check_any _ _ l (HH.out.sl HL.out) hn).mono ?_); rw [HC.out]; rintro e_ w2_ ⟨rfl, hb_⟩; (have hq_ := HH.out.grow hb_); clear HH; have HH := hid hq_; clear hq_ hb_)
              | ((with_reducible apply wpL_nilCheck); rfl; rfl)
              | ((with_reducible apply wpL_len (t := 46) Try.underlying46); rfl; rfl)
              | ((with_reducible apply wpL_move); rfl; rfl)
              | ((with_reducible apply wpL_assign); rfl; rfl)
              | ((with_reducible apply wpL_pick); rfl; rfl; rfl)
              | ((with_reducible apply wpL_not); rfl; rfl)
              | ((with_reducible apply wpL_cmp (b := true)); rfl; rfl; rfl; (first | rfl | assumption | (simp only [cmpB, decide_eq_true_eq, decide_eq_false_iff_not, beq_iff_eq, bne_iff_ne, ne_eq, beq_eq_false_iff_ne, bne_eq_false_iff_eq, gt_iff_lt, ge_iff_le]; omega) | (simp; omega)); rfl)
              | ((with_reducible apply wpL_cmp (b := false)); rfl; rfl; rfl; (first | rfl | assumption | (simp only [cmpB, decide_eq_true_eq, decide_eq_false_iff_not, beq_iff_eq, bne_iff_ne, ne_eq, beq_eq_false_iff_ne, bne_eq_false_iff_eq, gt_iff_lt, ge_iff_le]; omega) | (simp; omega)); rfl)
              | ((with_reducible apply wpL_cmp); rfl; rfl; rfl; rfl; rfl)
              | ((with_reducible apply wpL_arith); rfl; rfl; rfl; (exact IntWalk.i64_in _ (by (try simp only [arithI]); omega)); rfl)); (try simp only [arithI, Act.put, Act.eval, List.setIfInBounds_toArray, List.set_cons_succ, List.set_cons_zero, Array.getD_eq_getD_getElem?, List.getElem?_toArray, List.getElem?_cons_succ, List.getElem?_cons_zero, Option.getD_some])))
        go_ret2
        exact RetPO.no rfl rfl HH.out.below
  · have e1 : pathC l i = c := by unfold pathC; rw [if_neg (by rw [hc]; exact h0), hc]
    have e2 : pathV l i = [] := by unfold pathV; rw [e1, if_neg h0]
    rw [e1, e2]
    have hcb : (c != 0) = true := by simpa using h0
    clear e1 e2 hc h0
    go_enter Try.func51, Try.ntmps51
    go_wp2_with (first
      | ((first
          | ((with_reducible apply wpL_skip); rfl; skip)
          | (go_at_call 67; (with_reducible refine (check_any _ _ l (HH.out.sl HL.out) hn).mono ?_); rw [HC.out]; rintro e_ w2_ ⟨rfl, hb_⟩; (have hq_ := HH.out.grow hb_); clear HH; have HH := hid hq_; clear hq_ hb_)
          | ((with_reducible apply wpL_nilCheck); rfl; rfl)
          | ((with_reducible apply wpL_len (t := 46) Try.underlying46); rfl; rfl)
          | ((with_reducible apply wpL_move); rfl; rfl)
          | ((with_reducible apply wpL_assign); rfl; rfl)
          | ((with_reducible apply wpL_pick); rfl; rfl; rfl)
          | ((with_reducible apply wpL_not); rfl; rfl)
          | ((with_reducible apply wpL_cmp (b := true)); rfl; rfl; rfl; (first | rfl | assumption | (simp only [cmpB, decide_eq_true_eq, decide_eq_false_iff_not, beq_iff_eq, bne_iff_ne, ne_eq, beq_eq_false_iff_ne, bne_eq_false_iff_eq, gt_iff_lt, ge_iff_le]; omega) | (simp; omega)); rfl)
          | ((with_reducible apply wpL_cmp (b := false)); rfl; rfl; rfl; (first | rfl | assumption | (simp only [cmpB, decide_eq_true_eq, decide_eq_false_iff_not, beq_iff_eq, bne_iff_ne, ne_eq, beq_eq_false_iff_ne, bne_eq_false_iff_eq, gt_iff_lt, ge_iff_le]; omega) | (simp; omega)); rfl)
          | ((with_reducible apply wpL_cmp); rfl; rfl; rfl; rfl; rfl)
          | ((with_reducible apply wpL_arith); rfl; rfl; rfl; (exact IntWalk.i64_in _ (by (try simp only [arithI]); omega)); rfl)); (try simp only [arithI, Act.put, Act.eval, List.setIfInBounds_toArray, List.set_cons_succ, List.set_cons_zero, Array.getD_eq_getD_getElem?, List.getElem?_toArray, List.getElem?_cons_succ, List.getElem?_cons_zero, Option.getD_some])))
    go_ret2
    exact RetPO.no rfl rfl HH.out.below
end Go.Proofs.Ytgkfopodhikckaa

/- Own and same of the merkle laws; Height and Node of the reference. Condition: at most 10^9 nodes. -/
namespace Go.Proofs.Ytgkfopodhikckaa
open Go.RowKit
attribute [local irreducible] wpQuiet wpList
def OwnNRel (w : World) (l : List Nd) (v i : Value) (wr : World) : Prop :=
  ∃ (k : Nat) (r : List Nd) (ao : Option Addr) (cap : Nat), k ≤ l.length ∧ i = .int .i64 k ∧ r = l.take k ∧ v = .slice ao r.length cap ∧ Holds w [] [] [rowA 34 ao cap r] wr
set_option maxRecDepth 100000 in
set_option maxHeartbeats 2000000 in
theorem ownN_any (w : World) (v : Value) (l : List Nd) (hl : Arrs w v l) (hn : l.length ≤ 1000000000) : Calls Try.prog 49 #[v] w (RetAs 34 w l) := by
  obtain ⟨ao, cap, rfl, _⟩ := hl.shape
  have HL := hid hl
  clear hl
  have HH := hid (Holds.init w)
  go_enter Try.func49, Try.ntmps49
  go_wp2_with (first
    | ((first
        | ((with_reducible apply wpL_skip); rfl; skip)
        | ((with_reducible apply wpL_nilCheck); rfl; rfl)
        | ((with_reducible apply wpL_loadArr (t := 41) kA41 HH.out); rfl; (first | exact .here | exact .there .here | exact .there (.there .here) | exact .there (.there (.there .here)) | exact .there (.there (.there (.there .here))) | exact .there (.there (.there (.there (.there .here)))) | exact .there (.there (.there (.there (.there (.there .here))))) | exact .there (.there (.there (.there (.there (.there (.there .here))))))); rfl)
        | ((with_reducible apply wpL_loadC (t := 41) kA41 HH.out); rfl; (first | exact .here | exact .there .here | exact .there (.there .here) | exact .there (.there (.there .here)) | exact .there (.there (.there (.there .here))) | exact .there (.there (.there (.there (.there .here)))) | exact .there (.there (.there (.there (.there (.there .here))))) | exact .there (.there (.there (.there (.there (.there (.there .here))))))); (first | rfl | exact Arr.len _ | (simp; done)); rfl)
        | ((with_reducible apply wpL_len (t := 30) Try.underlying30); rfl; rfl)
        | ((with_reducible apply wpL_len (t := 46) Try.underlying46); rfl; rfl)
        | ((with_reducible apply wpL_move); rfl; rfl)
        | ((with_reducible apply wpL_assign); rfl; rfl)
        | ((with_reducible apply wpL_pick); rfl; rfl; rfl)
        | ((with_reducible apply wpL_not); rfl; rfl)
        | ((with_reducible apply wpL_cmp (b := true)); rfl; rfl; rfl; (first | rfl | assumption | (simp only [cmpB, decide_eq_true_eq, decide_eq_false_iff_not, beq_iff_eq, bne_iff_ne, ne_eq, beq_eq_false_iff_ne, bne_eq_false_iff_eq, gt_iff_lt, ge_iff_le]; omega) | (simp; omega)); rfl)
        | ((with_reducible apply wpL_cmp (b := false)); rfl; rfl; rfl; (first | rfl | assumption | (simp only [cmpB, decide_eq_true_eq, decide_eq_false_iff_not, beq_iff_eq, bne_iff_ne, ne_eq, beq_eq_false_iff_ne, bne_eq_false_iff_eq, gt_iff_lt, ge_iff_le]; omega) | (simp; omega)); rfl)
        | ((with_reducible apply wpL_cmp); rfl; rfl; rfl; rfl; rfl)
        | ((with_reducible apply wpL_arith); rfl; rfl; rfl; (exact IntWalk.i64_in _ (by (try simp only [arithI]); omega)); rfl)); (try simp only [arithI, Act.put, Act.eval, List.setIfInBounds_toArray, List.set_cons_succ, List.set_cons_zero, Array.getD_eq_getD_getElem?, List.getElem?_toArray, List.getElem?_cons_succ, List.getElem?_cons_zero, Option.getD_some])))
  go_loopw [3, 4] (OwnNRel w l) (fun _ i _ => l.length - (intOf i).toNat)
  case atStart => exact ⟨0, [], none, 0, Nat.zero_le _, rfl, rfl, rfl, HH.out.addNil 34 16⟩
  case round =>
    obtain ⟨k, r, ao1, cap1, hk, rfl, hrk, rfl, hr⟩ := hrel
    clear HH
    have HH := hid hr
    have HRK := hid hrk
    have hrl : r.length = k := by rw [hrk, List.length_take]; omega
    clear hr hrk
    by_cases hlt : k < l.length
    · obtain ⟨ad, cap', e⟩ := HL.out.some (by omega)
      cases e
      obtain ⟨x, hx⟩ : ∃ x, l.getD k Nd0 = x := ⟨_, rfl⟩
      have HAR := hid (fun w1 (h1 : Holds w [] [] [rowA 34 ao1 cap1 r] w1) => get_as (show Arrs w1 (.slice (some ad) l.length cap) l from h1.sl HL.out) hlt (show l[k] = x by rw [← hx]; simp [hlt]))
      obtain ⟨r2, hr2⟩ : ∃ r2, r ++ [x] = r2 := ⟨_, rfl⟩
      have HR2 := hid hr2
      have HST := hid (show r2 = l.take (k + 1) by rw [← hr2, HRK.out, ← List.take_append_getElem hlt, ← hx]; simp [hlt])
      clear hx hr2
      go_wp2_with (first
        | ((first
            | ((with_reducible apply wpL_skip); rfl; skip)
            | ((with_reducible apply wpL_idx (j := k) kE30); rfl; rfl; rfl; (exact hlt); rfl)
            | ((with_reducible apply wpL_loadEl (v := x) kA41 (HAR.out _ HH.out)); rfl; rfl)
            | ((with_reducible apply wpL_buildA kE46 x (by decide)); rfl; (exact HH.out); rfl; (intro g_ w_ hq_; clear HH; have HH := hid hq_; clear hq_))
            | ((with_reducible apply wpL_appendA (l := r) (l2 := [x]) (r := r2) kE46 HH.out.swap HH.out.sl0 HR2.out); rfl; rfl; (exact (by simp; omega)); rfl; rfl; rfl; (intro ao4 cap4 w_ hq_; clear HH; have HH := hid hq_.dropSnd; clear hq_))
            | ((with_reducible apply wpL_nilCheck); rfl; rfl)
            | ((with_reducible apply wpL_loadArr (t := 41) kA41 HH.out); rfl; (first | exact .here | exact .there .here | exact .there (.there .here) | exact .there (.there (.there .here)) | exact .there (.there (.there (.there .here))) | exact .there (.there (.there (.there (.there .here)))) | exact .there (.there (.there (.there (.there (.there .here))))) | exact .there (.there (.there (.there (.there (.there (.there .here))))))); rfl)
            | ((with_reducible apply wpL_loadC (t := 41) kA41 HH.out); rfl; (first | exact .here | exact .there .here | exact .there (.there .here) | exact .there (.there (.there .here)) | exact .there (.there (.there (.there .here))) | exact .there (.there (.there (.there (.there .here)))) | exact .there (.there (.there (.there (.there (.there .here))))) | exact .there (.there (.there (.there (.there (.there (.there .here))))))); (first | rfl | exact Arr.len _ | (simp; done)); rfl)
            | ((with_reducible apply wpL_len (t := 30) Try.underlying30); rfl; rfl)
            | ((with_reducible apply wpL_len (t := 46) Try.underlying46); rfl; rfl)
            | ((with_reducible apply wpL_move); rfl; rfl)
            | ((with_reducible apply wpL_assign); rfl; rfl)
            | ((with_reducible apply wpL_pick); rfl; rfl; rfl)
            | ((with_reducible apply wpL_not); rfl; rfl)
            | ((with_reducible apply wpL_cmp (b := true)); rfl; rfl; rfl; (first | rfl | assumption | (simp only [cmpB, decide_eq_true_eq, decide_eq_false_iff_not, beq_iff_eq, bne_iff_ne, ne_eq, beq_eq_false_iff_ne, bne_eq_false_iff_eq, gt_iff_lt, ge_iff_le]; omega) | (simp; omega)); rfl)
            | ((with_reducible apply wpL_cmp (b := false)); rfl; rfl; rfl; (first | rfl | assumption | (simp only [cmpB, decide_eq_true_eq, decide_eq_false_iff_not, beq_iff_eq, bne_iff_ne, ne_eq, beq_eq_false_iff_ne, bne_eq_false_iff_eq, gt_iff_lt, ge_iff_le]; omega) | (simp; omega)); rfl)
            | ((with_reducible apply wpL_cmp); rfl; rfl; rfl; rfl; rfl)
            | ((with_reducible apply wpL_arith); rfl; rfl; rfl; (exact IntWalk.i64_in _ (by (try simp only [arithI]); omega)); rfl)); (try simp only [arithI, Act.put, Act.eval, List.setIfInBounds_toArray, List.set_cons_succ, List.set_cons_zero, Array.getD_eq_getD_getElem?, List.getElem?_toArray, List.getElem?_cons_succ, List.getElem?_cons_zero, Option.getD_some])))
      go_roundw
      case rel => exact ⟨k + 1, r2, _, _, by omega, by go_num, HST.out, rfl, HH.out⟩
      case measure => simp [intOf]; omega
    · have HE := hid (show r = l by rw [HRK.out, List.take_of_length_le (by omega)])
      go_wp2_with (first
        | ((first
            | ((with_reducible apply wpL_skip); rfl; skip)
            | ((with_reducible apply wpL_nilCheck); rfl; rfl)
            | ((with_reducible apply wpL_loadArr (t := 41) kA41 HH.out); rfl; (first | exact .here | exact .there .here | exact .there (.there .here) | exact .there (.there (.there .here)) | exact .there (.there (.there (.there .here))) | exact .there (.there (.there (.there (.there .here)))) | exact .there (.there (.there (.there (.there (.there .here))))) | exact .there (.there (.there (.there (.there (.there (.there .here))))))); rfl)
            | ((with_reducible apply wpL_loadC (t := 41) kA41 HH.out); rfl; (first | exact .here | exact .there .here | exact .there (.there .here) | exact .there (.there (.there .here)) | exact .there (.there (.there (.there .here))) | exact .there (.there (.there (.there (.there .here)))) | exact .there (.there (.there (.there (.there (.there .here))))) | exact .there (.there (.there (.there (.there (.there (.there .here))))))); (first | rfl | exact Arr.len _ | (simp; done)); rfl)
            | ((with_reducible apply wpL_len (t := 30) Try.underlying30); rfl; rfl)
            | ((with_reducible apply wpL_len (t := 46) Try.underlying46); rfl; rfl)
            | ((with_reducible apply wpL_move); rfl; rfl)
            | ((with_reducible apply wpL_assign); rfl; rfl)
            | ((with_reducible apply wpL_pick); rfl; rfl; rfl)
            | ((with_reducible apply wpL_not); rfl; rfl)
            | ((with_reducible apply wpL_cmp (b := true)); rfl; rfl; rfl; (first | rfl | assumption | (simp only [cmpB, decide_eq_true_eq, decide_eq_false_iff_not, beq_iff_eq, bne_iff_ne, ne_eq, beq_eq_false_iff_ne, bne_eq_false_iff_eq, gt_iff_lt, ge_iff_le]; omega) | (simp; omega)); rfl)
            | ((with_reducible apply wpL_cmp (b := false)); rfl; rfl; rfl; (first | rfl | assumption | (simp only [cmpB, decide_eq_true_eq, decide_eq_false_iff_not, beq_iff_eq, bne_iff_ne, ne_eq, beq_eq_false_iff_ne, bne_eq_false_iff_eq, gt_iff_lt, ge_iff_le]; omega) | (simp; omega)); rfl)
            | ((with_reducible apply wpL_cmp); rfl; rfl; rfl; rfl; rfl)
            | ((with_reducible apply wpL_arith); rfl; rfl; rfl; (exact IntWalk.i64_in _ (by (try simp only [arithI]); omega)); rfl)); (try simp only [arithI, Act.put, Act.eval, List.setIfInBounds_toArray, List.set_cons_succ, List.set_cons_zero, Array.getD_eq_getD_getElem?, List.getElem?_toArray, List.getElem?_cons_succ, List.getElem?_cons_zero, Option.getD_some])))
      go_ret
      exact RetAs.of HE.out HH.out.own0 HH.out.below
end Go.Proofs.Ytgkfopodhikckaa

/- Height and Node of the reference. Condition: at most 10^9 nodes. -/
namespace Go.Proofs.Ytgkfopodhikckaa
open Go.RowKit
attribute [local irreducible] wpQuiet wpList
def RetH (w : World) (h : Nat) (c : Int) (e : Ending) (w' : World) : Prop := e = .returned (.tuple #[.int .i64 (h : Int), .int .i64 c]) ∧ Below w.heap.size w w'
theorem RetH.mk {w w' : World} {h k : Nat} {b c : Int} {q : Int} (hq : q = (k : Int)) (hk : k = h) (hb : b = c) (hw : Below w.heap.size w w') : RetH w h c (.returned (.tuple #[.int .i64 q, .int .i64 b])) w' := ⟨by rw [hq, hk, hb], hw⟩
end Go.Proofs.Ytgkfopodhikckaa

/- Node and Root of the reference. Condition: at most 10^9 nodes. -/
namespace Go.Proofs.Ytgkfopodhikckaa
open Go.RowKit
attribute [local irreducible] wpQuiet wpList
theorem upL_half (lev : Nat) : ∀ l : List Nd, (upL lev l).length = l.length / 2
  | [] => rfl
  | [_] => by simp [upL]
  | x :: y :: r => by
    have := upL_half lev r
    simp only [upL, List.length_cons, this]
    omega
theorem levAt_join {l : List Nd} {lev k : Nat} (h : k < (levAt l (lev + 1)).length) : 2 * k + 1 < (levAt l lev).length ∧ (levAt l (lev + 1)).getD k Nd0 = joinN ((lev + 1 : Nat) : Int) ((levAt l lev).getD (2 * k) Nd0) ((levAt l lev).getD (2 * k + 1) Nd0) := by
  have h1 : 2 * k + 1 < (levAt l lev).length := by rw [levAt, upL_half] at h; omega
  refine ⟨h1, ?_⟩
  rw [levAt, List.getD_eq_getElem?_getD, upL_get _ _ _ h1]
  rfl
end Go.Proofs.Ytgkfopodhikckaa

/- Root of the reference. Condition: at most 10^9 nodes. -/
namespace Go.Proofs.Ytgkfopodhikckaa
open Go.RowKit
attribute [local irreducible] wpQuiet wpList
end Go.Proofs.Ytgkfopodhikckaa

/- Path of the reference. Condition: at most 10^9 nodes. -/
namespace Go.Proofs.Ytgkfopodhikckaa
open Go.RowKit
attribute [local irreducible] wpQuiet wpList
theorem xor_one_all : ∀ m : Fin 1025, m.1 ^^^ 1 = if m.1 % 2 = 0 then m.1 + 1 else m.1 - 1 := by decide +kernel
theorem xor_one {m : Nat} (h : m ≤ 1024) : m ^^^ 1 = if m % 2 = 0 then m + 1 else m - 1 := xor_one_all ⟨m, by omega⟩
end Go.Proofs.Ytgkfopodhikckaa

/- climb of merkle (under way). -/
namespace Go.Proofs.Ytgkfopodhikckaa
open Go.RowKit
attribute [local irreducible] wpQuiet wpList
/-- Left and right by bit k of the index. -/
def pairC (i k : Nat) (c s : Nd) : Nd × Nd := if (i / 2 ^ k) % 2 = 1 then (s, c) else (c, s)
/-- The node after k steps. -/
def curAt (i : Nat) (x : Nd) (p : List Nd) : Nat → Nd
  | 0 => x
  | k + 1 => joinN ((k + 1 : Nat) : Int) (pairC i k (curAt i x p k) (p.getD k Nd0)).1 (pairC i k (curAt i x p k) (p.getD k Nd0)).2
end Go.Proofs.Ytgkfopodhikckaa

namespace Go.Proofs.Ytgkfopodhikckaa
open Go.RowKit
section
variable {P : Program} {w0 w : World} {S : List Nat} {bs bs' : List (Nat × Obj)} {rows : List Row} {a : Act} {dst : Option Tmp} {ty : TypeId} {pos : String} {after : Array Edge} {guard : Option (Nat × Bool)} {R : Value → World → Prop}
theorem Holds.permB (h : Holds w0 S bs rows w) (hp : bs.Perm bs') : Holds w0 S bs' rows w :=
  ⟨h.os, h.tape, h.output, h.size, h.old, fun p hp' => h.blk p (hp.mem_iff.2 hp'), fun p hp' => h.frs p (hp.mem_iff.2 hp'), h.row, (List.Perm.nodup_iff (List.Perm.append_right _ (hp.map _))).1 h.sep, h.inS⟩
theorem ok_alloc {e : TypeId} {zs : List Value} (hz : (P.info? e).map (·.zero) = some (some (.agg zs.toArray))) (hH : Holds w0 S bs rows w)
    (h : ∀ g w', Holds w0 S ((g, objC zs e) :: bs) rows w' → R (.pointer (some ⟨g, 0, none⟩)) w') :
    OpOK P { dst := dst, op := .alloc e, type := ty, pos := pos, after := after, guard := guard } a w R := by
  have hr : (execOp a.eval { dst := dst, op := .alloc e, type := ty, pos := pos, after := after, guard := guard }).run P w = .ok (.value (.pointer (some ⟨w.heap.size, 0, none⟩))) (w.alloc (objC zs e)) := by
    simp only [execOp, Instr.alloc, Sem.run_bind, run_zeroValue hz, Result.andThen_ok, newVar, newRow, run_newObj, Sem.run_pure]
    rfl
  unfold OpOK
  rw [hr]
  exact h _ _ (hH.alloc _)
theorem ok_load {t : TypeId} {n : Nat} (hA : AggT P t n) (hH : Holds w0 S bs rows w) {x : Operand} {g : Nat} {cs : List Value} {e : TypeId}
    (hx : a.eval x = .pointer (some ⟨g, 0, none⟩)) (ho : Own bs g (objC cs e)) (hl : cs.length = n) (h : R (.agg cs.toArray) w) :
    OpOK P { dst := dst, op := .load t x, type := ty, pos := pos, after := after, guard := guard } a w R := by
  have hr := ex_loadPart (dst := dst) (ty := ty) (pos := pos) (after := after) (guard := guard) (ρ := a.eval) hA hH hx ho (j := 0) (vs := cs) (by rw [List.drop_zero, ← hl, List.take_length]) hl
  unfold OpOK
  rw [hr]
  exact h
theorem ok_store {t : TypeId} {x y : Operand} {g : Nat} {vs cs : List Value} {sz : Nat} {e : TypeId}
    (hx : a.eval x = .pointer (some ⟨g, 0, none⟩)) (hy : a.eval y = .agg vs.toArray) (hi : (P.info? t).map (·.size) = some sz)
    (hH : Holds w0 S bs rows w) (ht : Turn bs g (objC cs e) (objC vs e) bs') (hv : vs.length = sz) (h1 : ∀ u ∈ vs, u.oneCell' = true) (hc : cs.length = sz)
    (h : ∀ w', Holds w0 S bs' rows w' → R undef w') :
    OpOK P { dst := dst, op := .store t x y, type := ty, pos := pos, after := after, guard := guard } a w R := by
  have hblk : w.heap[g]? = some (.cells cs.toArray e (0, 0)) := hH.at ht.own
  have hs := run_storeCells_at P g 0 e vs 0 cs.toArray w hblk (by simp; omega) h1
  have hdr : cs.drop sz = [] := List.drop_eq_nil_of_le (by omega)
  simp only [Nat.add_zero, hv, Nat.zero_add, List.take_zero, List.nil_append, hdr, List.append_nil] at hs
  have hvz : (Value.agg vs.toArray).cells.size = sz := by simpa [Value.cells] using hv
  have hcl : (Value.agg vs.toArray).cells.toList = vs := by simp [Value.cells]
  have hr : (execOp a.eval { dst := dst, op := .store t x y, type := ty, pos := pos, after := after, guard := guard }).run P w = .ok .skip (w.setRow g vs.toArray) := by
    simp only [execOp, hx, hy, Instr.storeAt, Instr.sureAddr, storeVar, Sem.run_bind, Sem.run_pure, Result.andThen_ok, run_sizeOf hi, hvz, hcl, ne_eq, not_true_eq_false, if_false, hs]
  unfold OpOK
  rw [hr]
  exact h _ (hH.turn ht (setRow_heap w g cs.toArray _ e (0, 0) hblk) rfl rfl rfl (by simp) fun k _ hk => setRow_other w g k _ hk)
end
end Go.Proofs.Ytgkfopodhikckaa

