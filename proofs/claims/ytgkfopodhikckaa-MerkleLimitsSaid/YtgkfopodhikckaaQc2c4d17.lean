/- climb of merkle. Condition: a path of at most ten nodes. -/
import Derived.Test.YtgkfopodhikckaaQe308372
import Derived.Lib.UnsafeStr
import Derived.Lib.Builder
import Derived.Laws.IdiomStrings
import Derived.Laws.Small
import Derived.Lib.SlBytesConst
import Derived.Laws.CopyRow
import Derived.Test.YtgkfopodhikckaaRows
import Derived.Deep.Matrix
import Derived.ChangeMaps5
import Derived.Lib.AppendZerosOnto
import Derived.Shelf.Spec.SlicesGrow
import Derived.Lib.Bytealg
import Derived.Lib.SliceRun
set_option linter.unusedSimpArgs false
set_option linter.unusedVariables false
/- New, Write, Len, Clone of sha256's Hash. Condition: at most a million bytes. -/
namespace Go.Proofs.Ytgkfopodhikckaa
open Go.RowKit
theorem Holds.hashBy {w0 w w' : World} {S : List Nat} {bs : List (Nat × Obj)} {rows : List Row} {g n : Nat} {o : Obj} {s : St} {r : List UInt8} (h : Holds w0 S bs rows w) (ho : Own bs g o) (hT : ∀ o', ∃ bs', Turn bs g o o' bs') (hH : HashOut w g s r n w') :
    ∃ rv ex bs', Turn bs g o (objC (hcells s rv n) 118) bs' ∧ RestEx ex rv r ∧ (∀ p ∈ ex, w.heap.size ≤ p.1) ∧ (ex.map (·.1)).Nodup ∧ Holds w0 S (bs' ++ ex) rows w' := by
  obtain ⟨rv, ex, hre, hex, hnd, ht⟩ := hH
  obtain ⟨bs', hturn⟩ := hT (objC (hcells s rv n) 118)
  refine ⟨rv, ex, bs', hturn, hre, fun p hp => (hex p hp).1, hnd, ?_⟩
  refine Holds.addBlks (h.turnedBy hturn ht) ht.size ?_ (fun q hq k hk => (h.rowlt hq k hk).2) h.size hex hnd
  obtain ⟨pre, post, rfl, rfl⟩ := hturn.split
  intro p hp
  have : ∃ q ∈ pre ++ (g, o) :: post, q.1 = p.1 := by
    rcases List.mem_append.1 hp with a | a
    · exact ⟨p, List.mem_append.2 (.inl a), rfl⟩
    · rcases List.mem_cons.1 a with rfl | a
      · exact ⟨(g, o), by simp, rfl⟩
      · exact ⟨p, List.mem_append.2 (.inr (List.mem_cons_of_mem _ a)), rfl⟩
  obtain ⟨q, hq, e⟩ := this
  rw [← e]
  exact h.lt hq
theorem Holds.oldCell {w w' : World} {bs : List (Nat × Obj)} {rows : List Row} (h : Holds w [] bs rows w') {g j : Nat} {cs : List Value} {e : TypeId} {v : Value} (hg : w.heap[g]? = some (objC cs e)) (hv : cs[j]? = some v) : w'.cell? ⟨g, j, none⟩ = some v := by
  have hlt := (Array.getElem?_eq_some_iff.1 hg).1
  simp [World.cell?, h.old g hlt (by simp), hg, objC, hv]
theorem wpL_loadAt {w : World} {ops : Array Oper} {rest : List Oper} {a : Act} {dst : Option Tmp} {ty : TypeId} {pos : String} {after : Array Edge} {guard : Option (Nat × Bool)} {Q : Exit → Act → World → Prop} {P : Program} {t : TypeId} (hA : OneT P t) {x : Operand} {ad : Addr} {v : Value} (hc : w.cell? ad = some v) (hx : a.eval x = .pointer (some ad))
    (hg : Region.wanted { dst := dst, op := .load t x, type := ty, pos := pos, after := after, guard := guard } (yielded ops a.tmps) = true)
    (h : wpList P ops Q rest (a.put dst v) w) : wpList P ops Q ({ dst := dst, op := .load t x, type := ty, pos := pos, after := after, guard := guard } :: rest) a w := by
  obtain ⟨d, hu, hd⟩ := hA
  exact wpList_ex hg (ex_load_one (ρ := a.eval) hx hu hd hc) h
def zh : List Value := (List.replicate 8 (0 : W32)).map wrd ++ [.slice none 0 0, .int .i64 0, .bool false]
theorem Z118 : (Try.prog.info? 118).map (·.zero) = some (some (.agg zh.toArray)) := by kernel_rfl
theorem A118 : AggT Try.prog 118 11 := ⟨_, Try.underlying118, rfl, by kernel_rfl⟩
theorem S118 : (Try.prog.info? 118).map (·.size) = some 11 := by kernel_rfl
theorem hcells_one {s : St} {ao : Option Addr} {k c n : Nat} : ∀ u ∈ hcells s (.slice ao k c) n, u.oneCell' = true := by
  intro u hu
  simp only [hcells, List.mem_append, List.mem_cons, List.not_mem_nil, or_false] at hu
  rcases hu with hu | rfl | rfl | rfl
  · exact wrd_one _ u hu
  · rfl
  · rfl
  · rfl
/-- A new Hash. -/
def NewOut (w : World) (s : St) (r : List UInt8) (n : Nat) (e : Ending) (w' : World) : Prop :=
  ∃ g rv ex, e = .returned (.pointer (some ⟨g, 0, none⟩)) ∧ RestEx ex rv r ∧ (∀ p ∈ (g, objC (hcells s rv n) 118) :: ex, w.heap.size ≤ p.1 ∧ w'.heap[p.1]? = some p.2) ∧ (((g, objC (hcells s rv n) 118) :: ex).map (·.1)).Nodup ∧ Below w.heap.size w w'
theorem Holds.newBy {w0 w w' : World} {S : List Nat} {bs ex : List (Nat × Obj)} {rows : List Row} (h : Holds w0 S bs rows w) (hex : ∀ p ∈ ex, w.heap.size ≤ p.1 ∧ w'.heap[p.1]? = some p.2) (hnd : (ex.map (·.1)).Nodup) (hb : Below w.heap.size w w') : Holds w0 S (bs ++ ex) rows w' :=
  Holds.addBlks (h.grow hb) hb.size (fun p hp => h.lt hp) (fun q hq k hk => (h.rowlt hq k hk).2) h.size hex hnd
set_option maxRecDepth 100000 in
set_option maxHeartbeats 2000000 in
theorem new_any (w : World) : Calls Try.prog 32 #[] w (NewOut w initS [] 0) := by
  have HH := hid (Holds.init w)
  go_enter Try.func32, Try.ntmps32
  go_wp2_with (first
    | ((first
        | ((with_reducible apply wpL_skip); rfl; skip)
        | (go_at_call 63; refine (initial_any _).mono ?_; rintro e w2 ⟨rfl, hb⟩; (have hq_ := HH.out.grow hb); clear HH; have HH := hid hq_; clear hq_ hb)
        | ((with_reducible apply wpList_build (v := .agg (hcells initS (.slice none 0 0) 0).toArray)); (exact build118 initS); rfl)
        | ((with_reducible apply wpL_boxC (cs := hcells initS (.slice none 0 0) 0)); rfl; (exact HH.out); rfl; (intro g_ w_ hq_; clear HH; have HH := hid hq_; clear hq_))
        | ((with_reducible apply wpL_move); rfl; rfl)
        | ((with_reducible apply wpL_assign); rfl; rfl)
        | ((with_reducible apply wpL_pick); rfl; rfl; rfl)
        | ((with_reducible apply wpL_not); rfl; rfl)
        | ((with_reducible apply wpL_cmp (b := true)); rfl; rfl; rfl; (first | rfl | assumption | (simp only [cmpB, decide_eq_true_eq, decide_eq_false_iff_not, beq_iff_eq, bne_iff_ne, ne_eq, beq_eq_false_iff_ne, bne_eq_false_iff_eq, gt_iff_lt, ge_iff_le]; omega) | (simp; omega)); rfl)
        | ((with_reducible apply wpL_cmp (b := false)); rfl; rfl; rfl; (first | rfl | assumption | (simp only [cmpB, decide_eq_true_eq, decide_eq_false_iff_not, beq_iff_eq, bne_iff_ne, ne_eq, beq_eq_false_iff_ne, bne_eq_false_iff_eq, gt_iff_lt, ge_iff_le]; omega) | (simp; omega)); rfl)
        | ((with_reducible apply wpL_cmp); rfl; rfl; rfl; rfl; rfl)
        | ((with_reducible apply wpL_arith); rfl; rfl; rfl; (exact IntWalk.i64_in _ (by (try simp only [arithI]); omega)); rfl)); (try simp only [arithI, Act.put, Act.eval, List.setIfInBounds_toArray, List.set_cons_succ, List.set_cons_zero, Array.getD_eq_getD_getElem?, List.getElem?_toArray, List.getElem?_cons_succ, List.getElem?_cons_zero, Option.getD_some])))
  go_ret
  refine ⟨g_, .slice none 0 0, [], rfl, RestEx.nil _, ?_, by simp, HH.out.below⟩
  intro p hp
  rw [List.mem_singleton.1 hp]
  exact ⟨(HH.out.frs _ List.mem_cons_self).resolve_right (by simp), HH.out.blk _ List.mem_cons_self⟩
set_option maxRecDepth 100000 in
set_option maxHeartbeats 2000000 in
theorem write_any (w : World) (g : Nat) (s : St) (rv vb : Value) (r b : List UInt8) (n : Nat) (hg : w.heap[g]? = some (objC (hcells s rv n) 118)) (hr : Byts w rv r) (hb : Byts w vb b) (hn : r.length + b.length ≤ 1000000) (hn2 : n ≤ 1000000000) :
    Calls Try.prog 34 #[.pointer (some ⟨g, 0, none⟩), vb] w (fun e w' => e = .returned (.int .i64 0) ∧ HashOut w g (absorb s (r ++ b)).1 (absorb s (r ++ b)).2 (n + b.length) w') := by
  obtain ⟨ab, cb, rfl, _⟩ := hb.shape
  have HH := hid (Holds.initS hg)
  have HG := hid hg
  have HR := hid hr
  have HB := hid hb
  clear hg hr hb
  go_enter Try.func34, Try.ntmps34
  go_wp2_with (first
    | ((first
        | ((with_reducible apply wpL_skip); rfl; skip)
        | (go_at_call 64; refine (take_any _ g s rv _ r b n HG.out HR.out HB.out hn).mono ?_; rintro e w2 ⟨rfl, hb⟩; (obtain ⟨rv2, ex, bs2, hturn, hre, hexb, hexn, hq_⟩ := HH.out.hashBy .here (fun o' => ⟨_, .here⟩) hb); (rcases hturn with _ | ⟨⟨⟩⟩); (have hq2_ : Holds w [g] ((g, objC (hcells (absorb s (r ++ b)).1 rv2 n) 118) :: ex) [] w2 := hq_); clear HH hq_ hb; have HH := hid hq2_; clear hq2_; have HE := hid hre; have HXB := hid hexb; have HXN := hid hexn; clear hre hexb hexn)
        | ((with_reducible apply wpL_nilCheck); rfl; rfl)
        | ((with_reducible apply wpL_fieldAddr (t := 118)); (first | exact F118_0 | exact F118_1 | exact F118_2 | exact F118_3); rfl; rfl)
        | ((with_reducible apply wpL_load1 (v := .int .i64 n) O3 HH.out); rfl; (exact .here); rfl; rfl)
        | ((with_reducible apply wpL_store1 (v := .int .i64 ((n + b.length : Nat) : Int)) (cs := hcells (absorb s (r ++ b)).1 rv2 n)); rfl; rfl; rfl; (exact S3); (exact HH.out); (exact .here); rfl; (exact (by simp [hcells, St.ws])); rfl; (intro w_ hq_; (have hq2_ : Holds w [g] ((g, objC (hcells (absorb s (r ++ b)).1 rv2 (n + b.length)) 118) :: ex) [] w_ := hq_); clear HH hq_; have HH := hid hq2_; clear hq2_))
        | ((with_reducible apply wpL_move); rfl; rfl)
        | ((with_reducible apply wpL_assign); rfl; rfl)
        | ((with_reducible apply wpL_pick); rfl; rfl; rfl)
        | ((with_reducible apply wpL_not); rfl; rfl)
        | ((with_reducible apply wpL_cmp (b := true)); rfl; rfl; rfl; (first | rfl | assumption | (simp only [cmpB, decide_eq_true_eq, decide_eq_false_iff_not, beq_iff_eq, bne_iff_ne, ne_eq, beq_eq_false_iff_ne, bne_eq_false_iff_eq, gt_iff_lt, ge_iff_le]; omega) | (simp; omega)); rfl)
        | ((with_reducible apply wpL_cmp (b := false)); rfl; rfl; rfl; (first | rfl | assumption | (simp only [cmpB, decide_eq_true_eq, decide_eq_false_iff_not, beq_iff_eq, bne_iff_ne, ne_eq, beq_eq_false_iff_ne, bne_eq_false_iff_eq, gt_iff_lt, ge_iff_le]; omega) | (simp; omega)); rfl)
        | ((with_reducible apply wpL_cmp); rfl; rfl; rfl; rfl; rfl)
        | ((with_reducible apply wpL_arith); rfl; rfl; rfl; (exact IntWalk.i64_in _ (by (try simp only [arithI]); omega)); rfl)); (try simp only [arithI, Act.put, Act.eval, List.setIfInBounds_toArray, List.set_cons_succ, List.set_cons_zero, Array.getD_eq_getD_getElem?, List.getElem?_toArray, List.getElem?_cons_succ, List.getElem?_cons_zero, Option.getD_some])))
  go_ret
  exact ⟨rfl, rv2, ex, HE.out, fun p hp => ⟨HXB.out p hp, HH.out.blk p (List.mem_cons_of_mem _ hp)⟩, HXN.out, HH.out.turned .here⟩
set_option maxRecDepth 100000 in
set_option maxHeartbeats 2000000 in
theorem clone_any (w : World) (g : Nat) (s : St) (rv : Value) (r : List UInt8) (n : Nat) (hg : w.heap[g]? = some (objC (hcells s rv n) 118)) (hr : Byts w rv r) (hn : r.length ≤ 1000000) :
    Calls Try.prog 40 #[.pointer (some ⟨g, 0, none⟩)] w (NewOut w s r n) := by
  obtain ⟨ar, cr, rfl, _⟩ := hr.shape
  have HH := hid (Holds.init w)
  have HG := hid hg
  have HR := hid hr
  clear hg hr
  go_enter Try.func40, Try.ntmps40
  go_wp2_with (first
    | ((first
        | ((with_reducible apply wpL_skip); rfl; skip)
        | ((with_reducible apply wpL_nilCheck); rfl; rfl)
        | ((with_reducible apply wpList_load_agg (t := 118) (x := .tmp 7) A118 (cs := hcells s (.slice ar r.length cr) n) rfl (show ∀ j u, (hcells s (.slice ar r.length cr) n)[j]? = some u → w.cell? ((⟨g, 0, none⟩ : Addr).add j) = some u from fun j u hu => by rw [show (⟨g, 0, none⟩ : Addr).add j = ⟨g, j, none⟩ by unfold Addr.add; split <;> simp_all]; simp [World.cell?, HG.out, objC, hu])); rfl; rfl)
        | ((with_reducible apply wpL_allocC Z118 HH.out); rfl; (intro g2 w_ hq_; clear HH; have HH := hid hq_; clear hq_))
        | ((with_reducible apply wpL_storeC (vs := hcells s (.slice ar r.length cr) n) (x := .tmp 3) (sz := 11)); rfl; rfl; (exact S118); (exact HH.out); (exact .here); rfl; (exact hcells_one); rfl; rfl; (intro w_ hq_; clear HH; have HH := hid hq_; clear hq_))
        | ((with_reducible apply wpL_buildB []); rfl; rfl; (exact (by omega)); (exact HH.out); rfl; (intro g_ w_ hq_; clear HH; have HH := hid hq_; clear hq_))
        | ((with_reducible apply wpL_fieldAddr (t := 118)); (first | exact F118_0 | exact F118_1 | exact F118_2 | exact F118_3); rfl; rfl)
        | ((with_reducible apply wpL_loadAt O22 (HH.out.oldCell HG.out (j := 8) (v := .slice ar r.length cr) rfl)); rfl; rfl)
        | ((with_reducible apply wpL_appendB (l := []) (l2 := r) HH.out (HH.out.sl HR.out)); rfl; rfl; (exact (by simp; omega)); rfl; rfl; rfl; (intro ao1 cap1 w_ hq_; clear HH; have HH := hid hq_; clear hq_))
        | ((with_reducible apply wpL_store1 (v := .slice ao1 r.length cap1) (cs := hcells s (.slice ar r.length cr) n)); rfl; rfl; rfl; (exact S22); (exact HH.out); (exact .here); rfl; (exact (by simp [hcells, St.ws])); rfl; (intro w_ hq_; (have hq2_ : Holds w [] [(g2, objC (hcells s (.slice ao1 r.length cap1) n) 118)] [rowB ao1 cap1 r] w_ := hq_); clear HH hq_; have HH := hid hq2_; clear hq2_))
        | ((with_reducible apply wpL_move); rfl; rfl)
        | ((with_reducible apply wpL_assign); rfl; rfl)
        | ((with_reducible apply wpL_pick); rfl; rfl; rfl)
        | ((with_reducible apply wpL_not); rfl; rfl)
        | ((with_reducible apply wpL_cmp (b := true)); rfl; rfl; rfl; (first | rfl | assumption | (simp only [cmpB, decide_eq_true_eq, decide_eq_false_iff_not, beq_iff_eq, bne_iff_ne, ne_eq, beq_eq_false_iff_ne, bne_eq_false_iff_eq, gt_iff_lt, ge_iff_le]; omega) | (simp; omega)); rfl)
        | ((with_reducible apply wpL_cmp (b := false)); rfl; rfl; rfl; (first | rfl | assumption | (simp only [cmpB, decide_eq_true_eq, decide_eq_false_iff_not, beq_iff_eq, bne_iff_ne, ne_eq, beq_eq_false_iff_ne, bne_eq_false_iff_eq, gt_iff_lt, ge_iff_le]; omega) | (simp; omega)); rfl)
        | ((with_reducible apply wpL_cmp); rfl; rfl; rfl; rfl; rfl)
        | ((with_reducible apply wpL_arith); rfl; rfl; rfl; (exact IntWalk.i64_in _ (by (try simp only [arithI]); omega)); rfl)); (try simp only [arithI, Act.put, Act.eval, List.setIfInBounds_toArray, List.set_cons_succ, List.set_cons_zero, Array.getD_eq_getD_getElem?, List.getElem?_toArray, List.getElem?_cons_succ, List.getElem?_cons_zero, Option.getD_some])))
  go_ret
  obtain ⟨ex, hre, hexb, hexn, hh⟩ := HH.out.rowEx
  have hnd := (List.nodup_append.1 hh.sep).1
  refine ⟨g2, _, ex, rfl, hre, fun p hp => ⟨(hh.frs p hp).resolve_right (by simp), hh.blk p hp⟩, hnd, hh.below⟩
end Go.Proofs.Ytgkfopodhikckaa

/- The library's Builder: what a caller's memory holds behind WriteByte. Condition: at most a million bytes. -/
namespace Go.Proofs.Ytgkfopodhikckaa
open Go.RowKit
section
variable {w w0 : World} {S : List Nat} {bs bs' : List (Nat × Obj)} {rows : List Row} {ops : Array Oper} {rest : List Oper} {a : Act} {dst : Option Tmp} {ty : TypeId} {pos : String} {after : Array Edge} {guard : Option (Nat × Bool)} {Q : Exit → Act → World → Prop}
end
@[reducible] def selfP (b : Nat) : Value := .pointer (some ⟨b, 0, none⟩)
end Go.Proofs.Ytgkfopodhikckaa

/- The library's Builder handed back as a string; Hex of ascii, String of a digest. Condition: some bytes, at most half a million. -/
namespace Go.Proofs.Ytgkfopodhikckaa
open Go.RowKit
section
variable {w w0 : World} {S : List Nat} {bs bs' : List (Nat × Obj)} {rows : List Row} {ops : Array Oper} {rest : List Oper} {a : Act} {dst : Option Tmp} {ty : TypeId} {pos : String} {after : Array Edge} {guard : Option (Nat × Bool)} {Q : Exit → Act → World → Prop} {P : Program} {C : World → Prop} {K : Act → Prop}
theorem Holds.lostRow {r : Row} (h : Holds w0 S bs (r :: rows) w) {w' : World} (hg : w.grownBy w' r.v.ownBlock) : Holds w0 S bs rows w' :=
  (Holds.grownRow (v' := .slice none 0 0) (n' := 0) (xs' := []) h hg (.inr fun k hk => by simp [Value.ownBlock] at hk) (World.ownsRow_nil _ _ _ _)).dropRow
end
end Go.Proofs.Ytgkfopodhikckaa

/- Strings and bytes: indexed, held against each other, made of bytes. Over any program. No condition. -/
namespace Go.Proofs.Ytgkfopodhikckaa
open Go.RowKit
section
variable {P : Program} {w : World} {ρ : Operand → Value} {dst : Option Tmp} {ty : TypeId} {pos : String} {after : Array Edge} {guard : Option (Nat × Bool)}
end
theorem bits_and (k : IntKind) (x y : Nat) (hx : x < 2 ^ k.bits) (hy : y < 2 ^ k.bits) : (BitVec.ofInt k.bits (x : Int) &&& BitVec.ofInt k.bits (y : Int)).toNat = x &&& y := by
  rw [BitVec.toNat_and, BitVec.ofInt_natCast, BitVec.ofInt_natCast, BitVec.toNat_ofNat, BitVec.toNat_ofNat, Nat.mod_eq_of_lt hx, Nat.mod_eq_of_lt hy]
section
variable {P : Program} {w : World} {ρ : Operand → Value} {dst : Option Tmp} {ty : TypeId} {pos : String} {after : Array Edge} {guard : Option (Nat × Bool)}
theorem ex_and {t yt : TypeId} {x y : Operand} {k : IntKind} {p q : Int} {m n : Nat} {r : Nat} (hx : ρ x = .int k p) (hy : ρ y = .int k q) (hp : p = (m : Int)) (hq : q = (n : Int)) (hm : m < 2 ^ k.bits) (hn : n < 2 ^ k.bits) (hr : m &&& n = r) (hw : k.wrap (r : Int) = (r : Int)) (w : World) :
    (execOp ρ { dst := dst, op := .binOp .and t x y yt, type := ty, pos := pos, after := after, guard := guard }).run P w = .ok (.value (.int k (r : Int))) w := by
  subst hp hq hr
  have he : ∀ u v, eqGuard .and t x y u v = pure () := fun _ _ => rfl
  have hr : (binOp .and t (.int k (m : Int)) (.int k (n : Int))).run P w = .ok (.int k ((m &&& n : Nat) : Int)) w := by
    have e : binOp .and t (.int k (m : Int)) (.int k (n : Int)) = Op.intBits .and k (m : Int) (n : Int) := by cases k <;> rfl
    rw [e]
    simp only [Op.intBits, Sem.run_pure]
    rw [bits_and k m n hm hn, hw]
  simp only [execOp, hx, hy, Sem.run_bind, he, Sem.run_pure, Result.andThen_ok, hr]
end
section
variable {P : Program} {ops : Array Oper} {rest : List Oper} {a : Act} {dst : Option Tmp} {ty : TypeId} {pos : String} {after : Array Edge} {guard : Option (Nat × Bool)} {C : World → Prop} {K : Act → Prop} {w : World} {Q : Exit → Act → World → Prop}
theorem wpL_and {t yt : TypeId} {x y : Operand} {k : IntKind} {p q : Int} {m n : Nat} {r : Nat} (hx : a.eval x = .int k p) (hy : a.eval y = .int k q) (hp : p = (m : Int)) (hq : q = (n : Int)) (hm : m < 2 ^ k.bits) (hn : n < 2 ^ k.bits) (hr : m &&& n = r) (hw : k.wrap (r : Int) = (r : Int))
    (hg : Region.wanted { dst := dst, op := .binOp .and t x y yt, type := ty, pos := pos, after := after, guard := guard } (yielded ops a.tmps) = true)
    (h : wpList P ops Q rest (a.put dst (.int k (r : Int))) w) : wpList P ops Q ({ dst := dst, op := .binOp .and t x y yt, type := ty, pos := pos, after := after, guard := guard } :: rest) a w :=
  wpList_ex hg (ex_and (ρ := a.eval) hx hy hp hq hm hn hr hw w) h
end
end Go.Proofs.Ytgkfopodhikckaa

/- Hex of ascii, String of a digest. Condition: some bytes, at most two hundred thousand. -/
namespace Go.Proofs.Ytgkfopodhikckaa
open Go.RowKit
section
variable {P : Program} {ops : Array Oper} {rest : List Oper} {a : Act} {dst : Option Tmp} {ty : TypeId} {pos : String} {after : Array Edge} {guard : Option (Nat × Bool)} {w w0 : World} {S : List Nat} {bs : List (Nat × Obj)} {rows : List Row} {Q : Exit → Act → World → Prop} {C : World → Prop} {K : Act → Prop}
theorem wpL_idxB {t e : TypeId} {bytes : Nat} (hE : Elem P t e 1 bytes) {x i : Operand} {ad : Addr} {n c j : Nat} {q : Int} {k : IntKind} (hx : a.eval x = .slice (some ad) n c) (hi : a.eval i = .int k q) (hq : q = (j : Int)) (hj : j < n)
    (hg : Region.wanted { dst := dst, op := .indexAddr t x i, type := ty, pos := pos, after := after, guard := guard } (yielded ops a.tmps) = true)
    (h : wpList P ops Q rest (a.put dst (.pointer (some (ad.add j)))) w) : wpList P ops Q ({ dst := dst, op := .indexAddr t x i, type := ty, pos := pos, after := after, guard := guard } :: rest) a w :=
  wpList_ex hg (ex_index (ρ := a.eval) hE hx hi hq hj w) (by rw [Nat.mul_one]; exact h)
theorem wpL_idx {t e : TypeId} {sz bytes : Nat} (hE : Elem P t e sz bytes) {x i : Operand} {ad : Addr} {n c j : Nat} {q : Int} {k : IntKind} (hx : a.eval x = .slice (some ad) n c) (hi : a.eval i = .int k q) (hq : q = (j : Int)) (hj : j < n)
    (hg : Region.wanted { dst := dst, op := .indexAddr t x i, type := ty, pos := pos, after := after, guard := guard } (yielded ops a.tmps) = true)
    (h : wpList P ops Q rest (a.put dst (.pointer (some (ad.add (j * sz))))) w) : wpList P ops Q ({ dst := dst, op := .indexAddr t x i, type := ty, pos := pos, after := after, guard := guard } :: rest) a w :=
  wpList_ex hg (ex_index (ρ := a.eval) hE hx hi hq hj w) h
theorem Holds.addNil (h : Holds w0 S bs rows w) (e : TypeId) (sz : Nat) : Holds w0 S bs (⟨.slice none 0 0, e, sz, 0, []⟩ :: rows) w :=
  h.addRow (Below.refl _ _) (World.ownsRow_nil _ _ _ _)
/-- A whole array that lies in a block of the call's own, taken as a slice. -/
theorem Byts.ofArr {n : Nat} {x : Arr n} (h : Holds w0 S bs rows w) {g : Nat} {e : TypeId} (ho : Own bs g (objC x.cells e)) {m cap : Nat} (hm : m ≤ n) (hc : m ≤ cap) : Byts w (.slice (some ⟨g, 0, none⟩) m cap) (x.1.take m) := by
  have hl : (x.1.take m).length = m := by rw [List.length_take, x.2]; omega
  refine ⟨_, cap, by rw [hl], by omega, by simp, fun j u hu => ⟨_, rfl, ?_⟩⟩
  have hadd : (⟨g, 0, none⟩ : Addr).add j = ⟨g, j, none⟩ := by unfold Addr.add; split <;> simp_all
  rw [hadd, cell_own h ho j, List.getElem?_toArray]
  rw [List.map_take, List.getElem?_take] at hu
  split at hu
  · exact hu
  · cases hu
theorem Byts.ofArrAll {n : Nat} {x : Arr n} (h : Holds w0 S bs rows w) {g : Nat} {e : TypeId} (ho : Own bs g (objC x.cells e)) : Byts w (.slice (some ⟨g, 0, none⟩) n n) x.1 := by
  have := Byts.ofArr h ho (Nat.le_refl n) (Nat.le_refl n)
  rwa [List.take_of_length_le (by rw [x.2]; omega)] at this
theorem wpL_sliceArrTo {t e : TypeId} {n sz : Nat} (ht : P.underlying t = some (.array n e)) (hz : (P.info? e).map (·.size) = some sz) {x hi : Operand} {g m : Nat} {k : IntKind} {q : Int} (hx : a.eval x = .pointer (some ⟨g, 0, none⟩)) (hh : a.eval hi = .int k q) (hq : q = (m : Int)) (hm : m ≤ n)
    (hg : Region.wanted { dst := dst, op := .slice t x none (some hi) none, type := ty, pos := pos, after := after, guard := guard } (yielded ops a.tmps) = true)
    (h : wpList P ops Q rest (a.put dst (.slice (some ⟨g, 0, none⟩) m n)) w) : wpList P ops Q ({ dst := dst, op := .slice t x none (some hi) none, type := ty, pos := pos, after := after, guard := guard } :: rest) a w := by
  subst hq
  refine wpList_ex hg ?_ h
  simp [execOp, hx, hh, Instr.sliceAt, Instr.slice, Instr.sliceBounds, Instr.sliceBound, asIntOf, run_underlying ht, run_sizeOf hz, Addr.add, Instr.sureAddr, hm]
end
end Go.Proofs.Ytgkfopodhikckaa

/- The plain law of the known digests: evaluated. No condition. -/
namespace Go.Proofs.Ytgkfopodhikckaa
def blocksP (p : List UInt8) : Nat → St
  | 0 => initS
  | t + 1 => processS (blocksP p t) (loadL (p.drop (64 * t)))
theorem blocksN_P (p : List UInt8) : ∀ t, blocksN p t = blocksP p t
  | 0 => rfl
  | t + 1 => by rw [blocksN, blocksP, blocksN_P p t, process_block]
theorem sumB_P (l : List UInt8) : sumB l = outB (blocksP (l ++ padL l.length) ((l ++ padL l.length).length / 64)) := by
  unfold sumB; rw [blocksN_P]
end Go.Proofs.Ytgkfopodhikckaa

/- Sum of sha256's Hash. Condition: at most a million bytes. -/
namespace Go.Proofs.Ytgkfopodhikckaa
open Go.RowKit
theorem Z25 : (Try.prog.info? 25).map (·.zero) = some (some (.agg z32.toArray)) := by kernel_rfl
theorem A25 : AggT Try.prog 25 32 := ⟨_, Try.underlying25, rfl, by kernel_rfl⟩
theorem S25 : (Try.prog.info? 25).map (·.size) = some 32 := by kernel_rfl
theorem outByte_at (s : St) (i c : Nat) (hc : c < 4) : outByte s (4 * i + c) = w2b (s.ws.getD i 0 >>> (24 - 8 * c)) := by
  unfold outByte
  rw [show (4 * i + c) / 4 = i by omega, show (4 * i + c) % 4 = c by omega]
def SPadRel1 (w : World) (n : Nat) (g2 gc : Nat) (o : Obj) (exc : List (Nat × Obj)) (v : Value) (wr : World) : Prop :=
  ∃ k : Nat, k ≤ padZ n ∧ ∃ ao cap, v = .slice ao (128 :: List.replicate k 0 : List UInt8).length cap ∧ Holds w [] ((g2, objC z32 25) :: (gc, o) :: exc) [rowB ao cap (128 :: List.replicate k 0)] wr
def SPadRel2 (w : World) (l : List UInt8) (n : Nat) (g2 gc : Nat) (o : Obj) (exc : List (Nat × Obj)) (v i : Value) (wr : World) : Prop :=
  ∃ j : Nat, j ≤ 8 ∧ i = .int .i64 (7 - j) ∧ ∃ ao cap, v = .slice ao (l ++ lenBs n j).length cap ∧ Holds w [] ((g2, objC z32 25) :: (gc, o) :: exc) [rowB ao cap (l ++ lenBs n j)] wr
def SOutRel (w : World) (h : St) (g2 g6 : Nat) (bs : List (Nat × Obj)) (rows : List Row) (i : Value) (wr : World) : Prop :=
  ∃ t : Nat, t ≤ 8 ∧ i = .int .i64 t ∧ Holds w [] ((g6, objC ((fillB (outByte h) 32 (4 * t)).map byt) 25) :: (g2, objC z32 25) :: bs) rows wr
theorem take_own (w0 w : World) (g2 gc : Nat) (o2 : Obj) (s : St) (rvc : Value) (n : Nat) (exc : List (Nat × Obj)) (ao : Option Addr) (cap : Nat) (r b : List UInt8)
    (h : Holds w0 [] ((g2, o2) :: (gc, objC (hcells s rvc n) 118) :: exc) [rowB ao cap b] w) (hre : RestEx exc rvc r) (hn : r.length + b.length ≤ 1000000) :
    Calls Try.prog 64 #[.pointer (some ⟨gc, 0, none⟩), .slice ao b.length cap] w (fun e w' => e = .returned (.tuple #[]) ∧ ∃ rv2 ex, Holds w0 [] ((g2, o2) :: (gc, objC (hcells (absorb s (r ++ b)).1 rv2 n) 118) :: (exc ++ ex)) [rowB ao cap b] w') := by
  have h1 : w.heap[gc]? = some (objC (hcells s rvc n) 118) := h.blk (gc, _) (List.mem_cons_of_mem _ List.mem_cons_self)
  have h2 : Byts w rvc r := hre.byts h fun q hq => List.mem_cons_of_mem _ (List.mem_cons_of_mem _ hq)
  have h3 : Byts w (.slice ao b.length cap) b := h.sl0
  refine (take_any w gc s rvc _ r b n h1 h2 h3 hn).mono fun e w' ⟨he, ho⟩ => ⟨he, ?_⟩
  obtain ⟨rv2, ex, bs2, hturn, _, _, _, hq⟩ := h.hashBy (.there .here) (fun o' => ⟨_, .there .here⟩) ho
  have e2 : ∀ {o' : Obj} {bs2}, Turn ((g2, o2) :: (gc, objC (hcells s rvc n) 118) :: exc) gc (objC (hcells s rvc n) 118) o' bs2 → g2 ≠ gc → bs2 = (g2, o2) :: (gc, o') :: exc ∨ ∃ l', Turn exc gc (objC (hcells s rvc n) 118) o' l' := by
    intro o' bs2 ht hne
    cases ht with
    | here => exact absurd rfl hne
    | there ht2 =>
      cases ht2 with
      | here => exact .inl rfl
      | there ht3 => exact .inr ⟨_, ht3⟩
  have hs := h.sep
  simp only [List.map_cons, List.cons_append, List.nodup_cons, List.mem_cons, List.mem_append, not_or] at hs
  rcases e2 hturn (fun e => hs.1.1 e) with rfl | ⟨l', ht⟩
  · exact ⟨rv2, ex, hq⟩
  · exact absurd (List.mem_map.2 ⟨_, ht.own.mem, rfl⟩) hs.2.1.1
set_option maxRecDepth 100000 in
set_option maxHeartbeats 4000000 in
theorem sum_any (w : World) (g : Nat) (s : St) (rv : Value) (r : List UInt8) (n : Nat) (hg : w.heap[g]? = some (objC (hcells s rv n) 118)) (hr : Byts w rv r) (hrl : r.length ≤ 1000000 - 1000) (hn : n ≤ 1000000) :
    Calls Try.prog 33 #[.pointer (some ⟨g, 0, none⟩)] w (RetA w (outB (absorb s (r ++ padL n)).1)) := by
  have HH := hid (Holds.init w)
  have HG := hid hg
  have HR := hid hr
  clear hg hr
  go_enter Try.func33, Try.ntmps33
  go_wp2_with (first
    | ((first
        | ((with_reducible apply wpL_skip); rfl; skip)
        | ((with_reducible apply wpL_allocC (dst := some 2) Z25 HH.out); rfl; (intro g2 w_ hq_; clear HH; have HH := hid hq_; clear hq_))
        | (go_at_call 40; refine (clone_any _ g s rv r n (by have := HH.out.old g (Array.getElem?_eq_some_iff.1 HG.out).1 (by simp); rw [this]; exact HG.out) (HH.out.sl HR.out) (by omega)).mono ?_; rintro e w2 ⟨gc, rvc, exc, rfl, hre, hex, hnd, hb⟩; (have hq_ : Holds w [] ((g2, objC z32 25) :: (gc, objC (hcells s rvc n) 118) :: exc) [] w2 := HH.out.newBy hex hnd hb); clear HH hb hex hnd; have HH := hid hq_; clear hq_; have HE := hid hre; clear hre)
        | ((with_reducible apply wpL_buildB [128] (dst := some 15)); rfl; rfl; (exact (by omega)); (exact HH.out); rfl; (intro g_ w_ hq_; clear HH; have HH := hid hq_; clear hq_))
        | ((with_reducible apply wpL_move); rfl; rfl)
        | ((with_reducible apply wpL_assign); rfl; rfl)
        | ((with_reducible apply wpL_pick); rfl; rfl; rfl)
        | ((with_reducible apply wpL_not); rfl; rfl)
        | ((with_reducible apply wpL_cmp (b := true)); rfl; rfl; rfl; (first | rfl | assumption | (simp only [cmpB, decide_eq_true_eq, decide_eq_false_iff_not, beq_iff_eq, bne_iff_ne, ne_eq, beq_eq_false_iff_ne, bne_eq_false_iff_eq, gt_iff_lt, ge_iff_le]; omega) | (simp; omega)); rfl)
        | ((with_reducible apply wpL_cmp (b := false)); rfl; rfl; rfl; (first | rfl | assumption | (simp only [cmpB, decide_eq_true_eq, decide_eq_false_iff_not, beq_iff_eq, bne_iff_ne, ne_eq, beq_eq_false_iff_ne, bne_eq_false_iff_eq, gt_iff_lt, ge_iff_le]; omega) | (simp; omega)); rfl)
        | ((with_reducible apply wpL_cmp); rfl; rfl; rfl; rfl; rfl)
        | ((with_reducible apply wpL_arith); rfl; rfl; rfl; (exact IntWalk.i64_in _ (by (try simp only [arithI]); omega)); rfl)); (try simp only [arithI, Act.put, Act.eval, List.setIfInBounds_toArray, List.set_cons_succ, List.set_cons_zero, Array.getD_eq_getD_getElem?, List.getElem?_toArray, List.getElem?_cons_succ, List.getElem?_cons_zero, Option.getD_some])))
  go_loopw [4] (SPadRel1 w n g2 gc (objC (hcells s rvc n) 118) exc) (fun v _ => 1 + padZ n - lenV v)
  case atStart => exact ⟨0, Nat.zero_le _, _, _, rfl, HH.out⟩
  case round =>
    obtain ⟨k, hk, ao1, cap1, rfl, hr⟩ := hrel
    clear HH
    have HH := hid hr
    clear hr
    have hlen : (128 :: List.replicate k 0 : List UInt8).length = 1 + k := by simp; omega
    have hz : padZ n = (119 - n % 64) % 64 := rfl
    have hk63 : k < 64 := by omega
    by_cases hlt : k < padZ n
    · have HA := hid (show (128 :: List.replicate k 0 : List UInt8) ++ [0] = 128 :: List.replicate (k + 1) 0 by rw [List.cons_append, ← List.replicate_succ'])
      go_wp2_with (first
        | ((first
            | ((with_reducible apply wpL_skip); rfl; skip)
            | ((with_reducible apply wpL_nilCheck); rfl; rfl)
            | ((with_reducible apply wpL_fieldAddr (t := 118)); (first | exact F118_0 | exact F118_1 | exact F118_2 | exact F118_3); rfl; rfl)
            | ((with_reducible apply wpL_load1 (v := .int .i64 n) O3 HH.out); rfl; (exact .there .here); rfl; rfl)
            | ((with_reducible apply wpL_len Try.underlying22); rfl; rfl)
            | ((with_reducible apply wpL_remN (m := n + (1 + k)) (n := 64)); rfl; rfl; (exact (by omega)); rfl; (exact (by omega)); (exact (by omega)); (exact (by omega)); rfl)
            | ((with_reducible apply wpL_buildB [0] (dst := some 26)); rfl; rfl; (exact (by omega)); (exact HH.out); rfl; (intro g_ w_ hq_; clear HH; have HH := hid hq_; clear hq_))
            | ((with_reducible apply wpL_appendB (dst := some 27) (l := 128 :: List.replicate k 0) (l2 := [0]) HH.out.swap HH.out.sl0); rfl; rfl; (exact (by simp; omega)); rfl; rfl; rfl; (rw [HA.out]; intro ao1 cap1 w_ hq_; clear HH; have HH := hid hq_.dropSnd; clear hq_))
            | ((with_reducible apply wpL_move); rfl; rfl)
            | ((with_reducible apply wpL_assign); rfl; rfl)
            | ((with_reducible apply wpL_pick); rfl; rfl; rfl)
            | ((with_reducible apply wpL_not); rfl; rfl)
            | ((with_reducible apply wpL_cmp (b := true)); rfl; rfl; rfl; (first | rfl | assumption | (simp only [cmpB, decide_eq_true_eq, decide_eq_false_iff_not, beq_iff_eq, bne_iff_ne, ne_eq, beq_eq_false_iff_ne, bne_eq_false_iff_eq, gt_iff_lt, ge_iff_le]; omega) | (simp; omega)); rfl)
            | ((with_reducible apply wpL_cmp (b := false)); rfl; rfl; rfl; (first | rfl | assumption | (simp only [cmpB, decide_eq_true_eq, decide_eq_false_iff_not, beq_iff_eq, bne_iff_ne, ne_eq, beq_eq_false_iff_ne, bne_eq_false_iff_eq, gt_iff_lt, ge_iff_le]; omega) | (simp; omega)); rfl)
            | ((with_reducible apply wpL_cmp); rfl; rfl; rfl; rfl; rfl)
            | ((with_reducible apply wpL_arith); rfl; rfl; rfl; (exact IntWalk.i64_in _ (by (try simp only [arithI]); omega)); rfl)); (try simp only [arithI, Act.put, Act.eval, List.setIfInBounds_toArray, List.set_cons_succ, List.set_cons_zero, Array.getD_eq_getD_getElem?, List.getElem?_toArray, List.getElem?_cons_succ, List.getElem?_cons_zero, Option.getD_some])))
      go_roundw
      case rel => exact ⟨k + 1, by omega, _, _, rfl, HH.out⟩
      case measure => simp [lenV]; omega
    · have hkz : k = padZ n := by omega
      have HKZ := hid hkz
      clear hkz
      go_wp2_with (first
        | ((first
            | ((with_reducible apply wpL_skip); rfl; skip)
            | ((with_reducible apply wpL_nilCheck); rfl; rfl)
            | ((with_reducible apply wpL_fieldAddr (t := 118)); (first | exact F118_0 | exact F118_1 | exact F118_2 | exact F118_3); rfl; rfl)
            | ((with_reducible apply wpL_load1 (v := .int .i64 n) O3 HH.out); rfl; (exact .there .here); rfl; rfl)
            | ((with_reducible apply wpL_len Try.underlying22); rfl; rfl)
            | ((with_reducible apply wpL_remN (m := n + (1 + k)) (n := 64)); rfl; rfl; (exact (by omega)); rfl; (exact (by omega)); (exact (by omega)); (exact (by omega)); rfl)
            | ((with_reducible apply wpL_move); rfl; rfl)
            | ((with_reducible apply wpL_assign); rfl; rfl)
            | ((with_reducible apply wpL_pick); rfl; rfl; rfl)
            | ((with_reducible apply wpL_not); rfl; rfl)
            | ((with_reducible apply wpL_cmp (b := true)); rfl; rfl; rfl; (first | rfl | assumption | (simp only [cmpB, decide_eq_true_eq, decide_eq_false_iff_not, beq_iff_eq, bne_iff_ne, ne_eq, beq_eq_false_iff_ne, bne_eq_false_iff_eq, gt_iff_lt, ge_iff_le]; omega) | (simp; omega)); rfl)
            | ((with_reducible apply wpL_cmp (b := false)); rfl; rfl; rfl; (first | rfl | assumption | (simp only [cmpB, decide_eq_true_eq, decide_eq_false_iff_not, beq_iff_eq, bne_iff_ne, ne_eq, beq_eq_false_iff_ne, bne_eq_false_iff_eq, gt_iff_lt, ge_iff_le]; omega) | (simp; omega)); rfl)
            | ((with_reducible apply wpL_cmp); rfl; rfl; rfl; rfl; rfl)
            | ((with_reducible apply wpL_arith); rfl; rfl; rfl; (exact IntWalk.i64_in _ (by (try simp only [arithI]); omega)); rfl)); (try simp only [arithI, Act.put, Act.eval, List.setIfInBounds_toArray, List.set_cons_succ, List.set_cons_zero, Array.getD_eq_getD_getElem?, List.getElem?_toArray, List.getElem?_cons_succ, List.getElem?_cons_zero, Option.getD_some])))
      go_loopw [4, 5] (SPadRel2 w (128 :: List.replicate k 0) n g2 gc (objC (hcells s rvc n) 118) exc) (fun _ i _ => (intOf i + 1).toNat)
      case atStart => exact ⟨0, Nat.zero_le _, rfl, ao1, cap1, by simp [lenBs], by simpa [lenBs] using HH.out⟩
      case round =>
        obtain ⟨j, hj, rfl, ao2, cap2, rfl, hr⟩ := hrel
        clear HH
        have HH := hid hr
        clear hr
        have hll : ((128 :: List.replicate k 0 : List UInt8) ++ lenBs n j).length = 1 + k + j := by rw [List.length_append, hlen]; simp [lenBs]
        by_cases hj8 : j < 8
        · have HA := hid (show ((128 :: List.replicate k 0 : List UInt8) ++ lenBs n j) ++ [lenByte n (7 - j)] = (128 :: List.replicate k 0) ++ lenBs n (j + 1) by rw [lenBs_succ, List.append_assoc])
          go_wp2_with (first
            | ((first
                | ((with_reducible apply wpL_skip); rfl; skip)
                | ((with_reducible apply wpL_nilCheck); rfl; rfl)
                | ((with_reducible apply wpL_fieldAddr (t := 118)); (first | exact F118_0 | exact F118_1 | exact F118_2 | exact F118_3); rfl; rfl)
                | ((with_reducible apply wpL_load1 (v := .int .i64 n) O3 HH.out); rfl; (exact .there .here); rfl; rfl)
                | ((with_reducible apply wpL_shrN (m := n * 8) (k := 8 * (7 - j))); rfl; rfl; (exact (by omega)); (exact (by omega)); (exact (by omega)); rfl)
                | ((with_reducible apply wpL_toB Try.underlying119 Try.underlying5); rfl; rfl; rfl)
                | ((with_reducible apply wpL_buildB [lenByte n (7 - j)] (dst := some 43)); rfl; rfl; (exact (by omega)); (exact HH.out); rfl; (intro g_ w_ hq_; clear HH; have HH := hid hq_; clear hq_))
                | ((with_reducible apply wpL_appendB (dst := some 44) (l := (128 :: List.replicate k 0) ++ lenBs n j) (l2 := [lenByte n (7 - j)]) HH.out.swap HH.out.sl0); rfl; rfl; (rw [hll]; exact (by simp; omega)); rfl; rfl; rfl; (rw [HA.out]; intro ao1 cap1 w_ hq_; clear HH; have HH := hid hq_.dropSnd; clear hq_))
                | ((with_reducible apply wpL_move); rfl; rfl)
                | ((with_reducible apply wpL_assign); rfl; rfl)
                | ((with_reducible apply wpL_pick); rfl; rfl; rfl)
                | ((with_reducible apply wpL_not); rfl; rfl)
                | ((with_reducible apply wpL_cmp (b := true)); rfl; rfl; rfl; (first | rfl | assumption | (simp only [cmpB, decide_eq_true_eq, decide_eq_false_iff_not, beq_iff_eq, bne_iff_ne, ne_eq, beq_eq_false_iff_ne, bne_eq_false_iff_eq, gt_iff_lt, ge_iff_le]; omega) | (simp; omega)); rfl)
                | ((with_reducible apply wpL_cmp (b := false)); rfl; rfl; rfl; (first | rfl | assumption | (simp only [cmpB, decide_eq_true_eq, decide_eq_false_iff_not, beq_iff_eq, bne_iff_ne, ne_eq, beq_eq_false_iff_ne, bne_eq_false_iff_eq, gt_iff_lt, ge_iff_le]; omega) | (simp; omega)); rfl)
                | ((with_reducible apply wpL_cmp); rfl; rfl; rfl; rfl; rfl)
                | ((with_reducible apply wpL_arith); rfl; rfl; rfl; (exact IntWalk.i64_in _ (by (try simp only [arithI]); omega)); rfl)); (try simp only [arithI, Act.put, Act.eval, List.setIfInBounds_toArray, List.set_cons_succ, List.set_cons_zero, Array.getD_eq_getD_getElem?, List.getElem?_toArray, List.getElem?_cons_succ, List.getElem?_cons_zero, Option.getD_some])))
          go_roundw
          case rel => exact ⟨j + 1, by omega, by go_num, _, _, rfl, HH.out⟩
          case measure => simp [intOf]; omega
        · have hj8' : j = 8 := by omega
          have hpd0 : (128 :: List.replicate k 0 : List UInt8) ++ lenBs n j = padL n := by rw [HKZ.out, hj8']; rfl
          clear hj8'
          have h0 := HH.out
          clear HH
          generalize (128 :: List.replicate k 0 : List UInt8) ++ lenBs n j = pd at *
          have HH := hid h0
          have HPD := hid hpd0
          clear h0 hpd0
          obtain ⟨s8, hs8⟩ : ∃ s8, (absorb s (r ++ pd)).1 = s8 := ⟨_, rfl⟩
          have HS8 := hid hs8
          clear hs8
          have hpl : r.length + pd.length ≤ 1000000 := by omega
          clear hll hlen
          go_wp2_with (first
            | ((first
                | ((with_reducible apply wpL_skip); rfl; skip)
                | (go_at_call 64; (have hcall_ := hid (take_own w _ g2 gc (objC z32 25) s rvc n exc ao2 cap2 r pd HH.out HE.out hpl)); (with_reducible refine hcall_.out.mono ?_); clear hcall_; rintro e w2 ⟨rfl, rv2, ex, hq_⟩; rw [HS8.out] at hq_; clear HH; have HH := hid hq_; clear hq_)
                | ((with_reducible apply wpL_allocC (dst := some 6) Z25 HH.out); rfl; (intro g6 w_ hq_; clear HH; have HH := hid hq_; clear hq_))
                | ((with_reducible apply wpL_nilCheck); rfl; rfl)
                | ((with_reducible apply wpL_fieldAddr (t := 118)); (first | exact F118_0 | exact F118_1 | exact F118_2 | exact F118_3); rfl; rfl)
                | ((with_reducible apply wpL_loadPart (t := 115) (vs := s8.ws.map wrd) A115 HH.out); rfl; (exact .there (.there .here)); rfl; rfl; rfl)
                | ((with_reducible apply wpL_allocC (dst := some 7) Z115' HH.out); rfl; (intro g7 w_ hq_; clear HH; have HH := hid hq_; clear hq_))
                | ((with_reducible apply wpL_storeC (vs := s8.ws.map wrd) (x := .tmp 7) (sz := 8)); rfl; rfl; (exact S115); (exact HH.out); (exact .here); rfl; (exact wrd_one _); rfl; rfl; (intro w_ hq_; clear HH; have HH := hid hq_; clear hq_))
                | ((with_reducible apply wpL_fieldAddr (t := 115)); (exact F115 _ (by decide)); rfl; rfl)
                | ((with_reducible apply wpL_load1 O105 HH.out); rfl; (exact .here); rfl; rfl)
                | ((with_reducible apply wpList_build (v := valW s8.ws)); (exact build106 s8); rfl)
                | ((with_reducible apply wpL_move); rfl; rfl)
                | ((with_reducible apply wpL_assign); rfl; rfl)
                | ((with_reducible apply wpL_pick); rfl; rfl; rfl)
                | ((with_reducible apply wpL_not); rfl; rfl)
                | ((with_reducible apply wpL_cmp (b := true)); rfl; rfl; rfl; (first | rfl | assumption | (simp only [cmpB, decide_eq_true_eq, decide_eq_false_iff_not, beq_iff_eq, bne_iff_ne, ne_eq, beq_eq_false_iff_ne, bne_eq_false_iff_eq, gt_iff_lt, ge_iff_le]; omega) | (simp; omega)); rfl)
                | ((with_reducible apply wpL_cmp (b := false)); rfl; rfl; rfl; (first | rfl | assumption | (simp only [cmpB, decide_eq_true_eq, decide_eq_false_iff_not, beq_iff_eq, bne_iff_ne, ne_eq, beq_eq_false_iff_ne, bne_eq_false_iff_eq, gt_iff_lt, ge_iff_le]; omega) | (simp; omega)); rfl)
                | ((with_reducible apply wpL_cmp); rfl; rfl; rfl; rfl; rfl)
                | ((with_reducible apply wpL_arith); rfl; rfl; rfl; (exact IntWalk.i64_in _ (by (try simp only [arithI]); omega)); rfl)); (try simp only [arithI, Act.put, Act.eval, List.setIfInBounds_toArray, List.set_cons_succ, List.set_cons_zero, Array.getD_eq_getD_getElem?, List.getElem?_toArray, List.getElem?_cons_succ, List.getElem?_cons_zero, Option.getD_some])))
          have hwl : s8.ws.length = 8 := rfl
          go_loopw [69] (SOutRel w s8 g2 g6 ((gc, objC (hcells s8 rv2 n) 118) :: (exc ++ ex)) [rowB ao2 cap2 pd]) (fun i _ => 8 - (intOf i).toNat)
          case atStart => exact ⟨0, Nat.zero_le _, rfl, by rw [Nat.mul_zero, fillB_zero]; exact HH.out.dropBlk⟩
          case round =>
            obtain ⟨t, ht, rfl, hr⟩ := hrel
            clear HH
            have HH := hid hr
            clear hr
            by_cases htl : t < 8
            · have hs0 := fillB_set (outByte s8) (n := 32) (i := 4 * t) (by omega)
              have hs1 := fillB_set (outByte s8) (n := 32) (i := 4 * t + 1) (by omega)
              have hs2 := fillB_set (outByte s8) (n := 32) (i := 4 * t + 2) (by omega)
              have hs3 := fillB_set (outByte s8) (n := 32) (i := 4 * t + 3) (by omega)
              have o0 := outByte_at s8 t 0 (by omega)
              have o1 := outByte_at s8 t 1 (by omega)
              have o2 := outByte_at s8 t 2 (by omega)
              have o3 := outByte_at s8 t 3 (by omega)
              rw [Nat.add_zero] at o0
              rw [o0] at hs0
              rw [o1] at hs1
              rw [o2] at hs2
              rw [o3, show 24 - 8 * 3 = 0 from rfl, BitVec.ushiftRight_zero] at hs3
              have H0 := hid hs0
              have H1 := hid hs1
              have H2 := hid hs2
              have H3 := hid hs3
              clear hs0 hs1 hs2 hs3 o0 o1 o2 o3
              go_wp2_with (first
                | ((first
                    | ((with_reducible apply wpL_skip); rfl; skip)
                    | ((with_reducible apply wpL_indexV (m := t) (v := wrd (s8.ws.getD t 0)) Try.underlying106 Try.underlying105 rfl S105); rfl; rfl; rfl; (exact htl); (exact wget0 (by omega)); rfl)
                    | ((with_reducible apply wpL_wshr); rfl; rfl; (exact (by decide)); rfl)
                    | ((with_reducible apply wpL_w2b Try.underlying105 Try.underlying5); rfl; rfl)
                    | ((with_reducible apply wpL_indexVar (i := .tmp 74) (m := 4 * t) Try.underlying25 S5'); rfl; rfl; (exact (by omega)); (exact (by omega)); rfl)
                    | ((with_reducible apply wpL_indexVar (i := .tmp 77) (m := 4 * t + 1) Try.underlying25 S5'); rfl; rfl; (exact (by omega)); (exact (by omega)); rfl)
                    | ((with_reducible apply wpL_indexVar (i := .tmp 80) (m := 4 * t + 2) Try.underlying25 S5'); rfl; rfl; (exact (by omega)); (exact (by omega)); rfl)
                    | ((with_reducible apply wpL_indexVar (i := .tmp 83) (m := 4 * t + 3) Try.underlying25 S5'); rfl; rfl; (exact (by omega)); (exact (by omega)); rfl)
                    | ((with_reducible apply wpL_storeBt (x := .tmp 95) (l := fillB (outByte s8) 32 (4 * t)) (m := 4 * t) (v := w2b (s8.ws.getD t 0 >>> (24 - 8 * 0)))); rfl; rfl; (exact S5'); (exact HH.out); (exact .here); (rw [fillB_len]; exact (by omega)); rfl; (intro w_ hq_; rw [H0.out] at hq_; clear HH; have HH := hid hq_; clear hq_))
                    | ((with_reducible apply wpL_storeBt (x := .tmp 96) (l := fillB (outByte s8) 32 (4 * t + 1)) (m := 4 * t + 1) (v := w2b (s8.ws.getD t 0 >>> (24 - 8 * 1)))); rfl; rfl; (exact S5'); (exact HH.out); (exact .here); (rw [fillB_len]; exact (by omega)); rfl; (intro w_ hq_; rw [H1.out] at hq_; clear HH; have HH := hid hq_; clear hq_))
                    | ((with_reducible apply wpL_storeBt (x := .tmp 97) (l := fillB (outByte s8) 32 (4 * t + 2)) (m := 4 * t + 2) (v := w2b (s8.ws.getD t 0 >>> (24 - 8 * 2)))); rfl; rfl; (exact S5'); (exact HH.out); (exact .here); (rw [fillB_len]; exact (by omega)); rfl; (intro w_ hq_; rw [H2.out] at hq_; clear HH; have HH := hid hq_; clear hq_))
                    | ((with_reducible apply wpL_storeBt (x := .tmp 98) (l := fillB (outByte s8) 32 (4 * t + 3)) (m := 4 * t + 3) (v := w2b (s8.ws.getD t 0))); rfl; rfl; (exact S5'); (exact HH.out); (exact .here); (rw [fillB_len]; exact (by omega)); rfl; (intro w_ hq_; rw [H3.out] at hq_; clear HH; have HH := hid hq_; clear hq_))
                    | ((with_reducible apply wpL_move); rfl; rfl)
                    | ((with_reducible apply wpL_assign); rfl; rfl)
                    | ((with_reducible apply wpL_pick); rfl; rfl; rfl)
                    | ((with_reducible apply wpL_not); rfl; rfl)
                    | ((with_reducible apply wpL_cmp (b := true)); rfl; rfl; rfl; (first | rfl | assumption | (simp only [cmpB, decide_eq_true_eq, decide_eq_false_iff_not, beq_iff_eq, bne_iff_ne, ne_eq, beq_eq_false_iff_ne, bne_eq_false_iff_eq, gt_iff_lt, ge_iff_le]; omega) | (simp; omega)); rfl)
                    | ((with_reducible apply wpL_cmp (b := false)); rfl; rfl; rfl; (first | rfl | assumption | (simp only [cmpB, decide_eq_true_eq, decide_eq_false_iff_not, beq_iff_eq, bne_iff_ne, ne_eq, beq_eq_false_iff_ne, bne_eq_false_iff_eq, gt_iff_lt, ge_iff_le]; omega) | (simp; omega)); rfl)
                    | ((with_reducible apply wpL_cmp); rfl; rfl; rfl; rfl; rfl)
                    | ((with_reducible apply wpL_arith); rfl; rfl; rfl; (exact IntWalk.i64_in _ (by (try simp only [arithI]); omega)); rfl)); (try simp only [arithI, Act.put, Act.eval, List.setIfInBounds_toArray, List.set_cons_succ, List.set_cons_zero, Array.getD_eq_getD_getElem?, List.getElem?_toArray, List.getElem?_cons_succ, List.getElem?_cons_zero, Option.getD_some])))
              go_roundw
              case rel => exact ⟨t + 1, by omega, by go_num, by rw [show 4 * (t + 1) = 4 * t + 3 + 1 by omega]; exact HH.out⟩
              case measure => simp [intOf]; omega
            · obtain rfl : t = 8 := by omega
              have h0 := HH.out
              rw [show 4 * 8 = 32 from rfl, fillB_full] at h0
              clear HH
              have HH := hid h0
              clear h0
              go_wp2_with (first
                | ((first
                    | ((with_reducible apply wpL_skip); rfl; skip)
                    | ((with_reducible apply wpL_loadC (x := .tmp 6) A25 HH.out); rfl; (exact .here); rfl; rfl)
                    | ((with_reducible apply wpL_storeC (vs := ((List.range 32).map (outByte s8)).map byt) (x := .tmp 2) (sz := 32)); rfl; rfl; (exact S25); (exact HH.out); (exact .there .here); rfl; (exact byt_cell1 _); rfl; rfl; (intro w_ hq_; clear HH; have HH := hid hq_; clear hq_))
                    | ((with_reducible apply wpL_move); rfl; rfl)
                    | ((with_reducible apply wpL_assign); rfl; rfl)
                    | ((with_reducible apply wpL_pick); rfl; rfl; rfl)
                    | ((with_reducible apply wpL_not); rfl; rfl)
                    | ((with_reducible apply wpL_cmp (b := true)); rfl; rfl; rfl; (first | rfl | assumption | (simp only [cmpB, decide_eq_true_eq, decide_eq_false_iff_not, beq_iff_eq, bne_iff_ne, ne_eq, beq_eq_false_iff_ne, bne_eq_false_iff_eq, gt_iff_lt, ge_iff_le]; omega) | (simp; omega)); rfl)
                    | ((with_reducible apply wpL_cmp (b := false)); rfl; rfl; rfl; (first | rfl | assumption | (simp only [cmpB, decide_eq_true_eq, decide_eq_false_iff_not, beq_iff_eq, bne_iff_ne, ne_eq, beq_eq_false_iff_ne, bne_eq_false_iff_eq, gt_iff_lt, ge_iff_le]; omega) | (simp; omega)); rfl)
                    | ((with_reducible apply wpL_cmp); rfl; rfl; rfl; rfl; rfl)
                    | ((with_reducible apply wpL_arith); rfl; rfl; rfl; (exact IntWalk.i64_in _ (by (try simp only [arithI]); omega)); rfl)); (try simp only [arithI, Act.put, Act.eval, List.setIfInBounds_toArray, List.set_cons_succ, List.set_cons_zero, Array.getD_eq_getD_getElem?, List.getElem?_toArray, List.getElem?_cons_succ, List.getElem?_cons_zero, Option.getD_some])))
              refine bodyPost_ret (res1 rfl (resC A25 HH.out (by rfl) (.there .here) rfl)) rfl ?_
              refine ⟨?_, HH.out.below⟩
              rw [← HPD.out, HS8.out]
              rfl
end Go.Proofs.Ytgkfopodhikckaa

/- Sum of sha256, cut of the laws. Condition: at most a million bytes less a thousand. -/
namespace Go.Proofs.Ytgkfopodhikckaa
open Go.RowKit
theorem write_own (w0 w : World) (g2 gc : Nat) (o2 : Obj) (s : St) (rvc vb : Value) (n : Nat) (exc : List (Nat × Obj)) (rows : List Row) (r b : List UInt8)
    (h : Holds w0 [] ((g2, o2) :: (gc, objC (hcells s rvc n) 118) :: exc) rows w) (hre : RestEx exc rvc r) (h3 : Byts w vb b) (hn : r.length + b.length ≤ 1000000) (hn2 : n ≤ 1000000000) :
    Calls Try.prog 34 #[.pointer (some ⟨gc, 0, none⟩), vb] w (fun e w' => e = .returned (.int .i64 0) ∧ ∃ rv2 ex, RestEx ex rv2 (absorb s (r ++ b)).2 ∧ Holds w0 [] ((g2, o2) :: (gc, objC (hcells (absorb s (r ++ b)).1 rv2 (n + b.length)) 118) :: (exc ++ ex)) rows w') := by
  have h1 : w.heap[gc]? = some (objC (hcells s rvc n) 118) := h.blk (gc, _) (List.mem_cons_of_mem _ List.mem_cons_self)
  have h2 : Byts w rvc r := hre.byts h fun q hq => List.mem_cons_of_mem _ (List.mem_cons_of_mem _ hq)
  refine (write_any w gc s rvc _ r b n h1 h2 h3 hn hn2).mono fun e w' ⟨he, ho⟩ => ⟨he, ?_⟩
  obtain ⟨rv2, ex, bs2, hturn, hre2, _, _, hq⟩ := h.hashBy (.there .here) (fun o' => ⟨_, .there .here⟩) ho
  have e2 : ∀ {o' : Obj} {bs2}, Turn ((g2, o2) :: (gc, objC (hcells s rvc n) 118) :: exc) gc (objC (hcells s rvc n) 118) o' bs2 → g2 ≠ gc → bs2 = (g2, o2) :: (gc, o') :: exc ∨ ∃ l', Turn exc gc (objC (hcells s rvc n) 118) o' l' := by
    intro o' bs2 ht hne
    cases ht with
    | here => exact absurd rfl hne
    | there ht2 =>
      cases ht2 with
      | here => exact .inl rfl
      | there ht3 => exact .inr ⟨_, ht3⟩
  have hs := h.sep
  simp only [List.map_cons, List.cons_append, List.nodup_cons, List.mem_cons, List.mem_append, not_or] at hs
  rcases e2 hturn (fun e => hs.1.1 e) with rfl | ⟨l', ht⟩
  · exact ⟨rv2, ex, hre2, hq⟩
  · exact absurd (List.mem_map.2 ⟨_, ht.own.mem, rfl⟩) hs.2.1.1
set_option maxRecDepth 100000 in
set_option maxHeartbeats 2000000 in
theorem shaSum_any (w : World) (v : Value) (l : List UInt8) (hl : Byts w v l) (hn : l.length ≤ 900000) : Calls Try.prog 20 #[v] w (RetA w (sumB l)) := by
  obtain ⟨ao, cap, rfl, _⟩ := hl.shape
  have HL := hid hl
  clear hl
  have HH := hid (Holds.init w)
  have hsh := absorb_short initS l
  obtain ⟨s1, hs1⟩ : ∃ s1, (absorb initS l).1 = s1 := ⟨_, rfl⟩
  obtain ⟨r1, hr1⟩ : ∃ r1, (absorb initS l).2 = r1 := ⟨_, rfl⟩
  have hsum : sumB l = outB (absorb s1 (r1 ++ padL l.length)).1 := by rw [sumB_absorb, hs1, hr1]
  rw [hsum]
  rw [hr1] at hsh
  have HS1 := hid hs1
  have HR1 := hid hr1
  have N0 := hid (show 0 + l.length = l.length from Nat.zero_add _)
  have NA := hid (show ([] : List UInt8) ++ l = l from rfl)
  clear hs1 hr1 hsum
  go_enter Try.func20, Try.ntmps20
  go_wp2_with (first
    | ((first
        | ((with_reducible apply wpL_skip); rfl; skip)
        | ((with_reducible apply wpL_allocC (dst := some 2) Z25 HH.out); rfl; (intro g2 w_ hq_; clear HH; have HH := hid hq_; clear hq_))
        | (go_at_call 32; refine (new_any _).mono ?_; rintro e w2 ⟨gc, rvc, exc, rfl, hre, hex, hnd, hb⟩; (have hq_ : Holds w [] ((g2, objC z32 25) :: (gc, objC (hcells initS rvc 0) 118) :: exc) [] w2 := HH.out.newBy hex hnd hb); clear HH hb hex hnd; have HH := hid hq_; clear hq_; have HE := hid hre; clear hre)
        | (go_at_call 34; (have hcall_ := hid (write_own w _ g2 gc (objC z32 25) initS rvc _ 0 exc [] [] l HH.out HE.out (HH.out.sl HL.out) (by simp; omega) (by omega))); (with_reducible refine hcall_.out.mono ?_); clear hcall_; rw [NA.out, N0.out, HS1.out, HR1.out]; rintro e w2 ⟨rfl, rv2, ex, hre, hq_⟩; clear HH HE; have HH := hid hq_; have HE := hid hre; clear hq_ hre)
        | (go_at_call 33; (have hcall_ := hid (sum_any _ gc s1 rv2 r1 l.length (HH.out.blk _ (List.mem_cons_of_mem _ List.mem_cons_self)) (HE.out.byts HH.out fun q hq => List.mem_cons_of_mem _ (List.mem_cons_of_mem _ (List.mem_append.2 (.inr hq)))) (by omega) (by omega))); (with_reducible refine hcall_.out.mono ?_); clear hcall_; rintro e w2 ⟨rfl, hb⟩; (have hq_ := HH.out.grow hb); clear HH; have HH := hid hq_; clear hq_ hb)
        | ((with_reducible apply wpL_storeC (vs := (outB (absorb s1 (r1 ++ padL l.length)).1).cells) (x := .tmp 2) (sz := 32)); rfl; rfl; (exact S25); (exact HH.out); (exact .here); (exact Arr.len _); (exact cells_one _); rfl; rfl; (intro w_ hq_; clear HH; have HH := hid hq_; clear hq_))
        | ((with_reducible apply wpL_move); rfl; rfl)
        | ((with_reducible apply wpL_assign); rfl; rfl)
        | ((with_reducible apply wpL_pick); rfl; rfl; rfl)
        | ((with_reducible apply wpL_not); rfl; rfl)
        | ((with_reducible apply wpL_cmp (b := true)); rfl; rfl; rfl; (first | rfl | assumption | (simp only [cmpB, decide_eq_true_eq, decide_eq_false_iff_not, beq_iff_eq, bne_iff_ne, ne_eq, beq_eq_false_iff_ne, bne_eq_false_iff_eq, gt_iff_lt, ge_iff_le]; omega) | (simp; omega)); rfl)
        | ((with_reducible apply wpL_cmp (b := false)); rfl; rfl; rfl; (first | rfl | assumption | (simp only [cmpB, decide_eq_true_eq, decide_eq_false_iff_not, beq_iff_eq, bne_iff_ne, ne_eq, beq_eq_false_iff_ne, bne_eq_false_iff_eq, gt_iff_lt, ge_iff_le]; omega) | (simp; omega)); rfl)
        | ((with_reducible apply wpL_cmp); rfl; rfl; rfl; rfl; rfl)
        | ((with_reducible apply wpL_arith); rfl; rfl; rfl; (exact IntWalk.i64_in _ (by (try simp only [arithI]); omega)); rfl)); (try simp only [arithI, Act.put, Act.eval, List.setIfInBounds_toArray, List.set_cons_succ, List.set_cons_zero, Array.getD_eq_getD_getElem?, List.getElem?_toArray, List.getElem?_cons_succ, List.getElem?_cons_zero, Option.getD_some])))
  refine bodyPost_ret (res1 rfl (resC A25 HH.out (by rfl) .here (Arr.len _))) rfl ?_
  exact ⟨rfl, HH.out.below⟩
end Go.Proofs.Ytgkfopodhikckaa

/- cut and known of the laws of sha256. No condition. -/
namespace Go.Proofs.Ytgkfopodhikckaa
open Go.RowKit
section
variable {P : Program} {ops : Array Oper} {rest : List Oper} {a : Act} {dst : Option Tmp} {ty : TypeId} {pos : String} {after : Array Edge} {guard : Option (Nat × Bool)} {w w0 : World} {S : List Nat} {bs : List (Nat × Obj)} {rows : List Row} {Q : Exit → Act → World → Prop}
theorem wpL_convConst {t : TypeId} (ht : P.underlying t = some (.slice 5)) (he : P.underlying 5 = some (.int .u8)) {l : List UInt8} {g n c : Nat} {x : Operand} (hH : Holds w0 S bs (rowB (some ⟨g, 0, none⟩) c l :: rows) w) (hx : a.eval x = .slice (some ⟨g, 0, none⟩) n c) (hn : n = l.length)
    (hg : Region.wanted { dst := dst, op := .convert t t x, type := ty, pos := pos, after := after, guard := guard } (yielded ops a.tmps) = true)
    (h : ∀ w', Holds w0 S bs rows w' → Byts w' (.slice (some ⟨g, 0, none⟩) n c) l → wpList P ops Q rest (a.put dst (.slice (some ⟨g, 0, none⟩) n c)) w') : wpList P ops Q ({ dst := dst, op := .convert t t x, type := ty, pos := pos, after := after, guard := guard } :: rest) a w := by
  subst hn
  have hown := hH.own0
  rcases hown.2 with ⟨hv, _⟩ | ⟨g', cap', cur, hv, hb, hgc, hnc, hm, hs, htake⟩
  · simp at hv
  · simp only [Value.slice.injEq, Option.some.injEq, true_and, Addr.mk.injEq, and_true] at hv
    obtain ⟨rfl, rfl⟩ := hv
    have hsh : w.shape? g = some (5, cur.size) := by simp [World.shape?, hgc]
    have hr : (convert t t (.slice (some ⟨g, 0, none⟩) l.length c)).run P w = .ok (.slice (some ⟨g, 0, none⟩) l.length c) (w.freeze ⟨g, cur.size, none⟩ 1) := by
      simp [convert, run_underlying ht, run_underlying he, markStringish, hsh]
    have hgr : w.grownBy (w.freeze ⟨g, cur.size, none⟩ 1) (some g) := by
      unfold World.freeze
      split
      · exact ⟨rfl, rfl, rfl, Nat.le_refl _, fun _ _ _ => rfl⟩
      · refine ⟨rfl, rfl, rfl, by simp, fun k _ hk => ?_⟩
        simp only [Array.getElem?_modify]
        rw [if_neg (by intro e; exact hk (by rw [← e]))]
    refine wpList_ex hg (v := .slice (some ⟨g, 0, none⟩) l.length c) (w' := w.freeze ⟨g, cur.size, none⟩ 1) ?_ (h _ (hH.lostRow hgr) ?_)
    · simp only [execOp, hx, Sem.run_bind, hr, Result.andThen_ok, Sem.run_pure]
    · refine ⟨_, c, rfl, hnc, by simp, fun j u hu => ⟨_, rfl, ?_⟩⟩
      have hc := hown.cells (g := g) rfl j u hu
      rw [← hc]
      have hadd : (⟨g, 0, none⟩ : Addr).add j = ⟨g, j, none⟩ := by unfold Addr.add; split <;> simp_all
      rw [hadd]
      simp [World.cell?, World.freeze, hgc, Array.getElem?_modify]
end
def RetB (w : World) (b : Bool) (e : Ending) (w' : World) : Prop := e = .returned (.bool b) ∧ Below w.heap.size w w'
theorem RetB.mk {w w' : World} {b c : Bool} (h : b = c) (hb : Below w.heap.size w w') : RetB w c (.returned (.bool b)) w' := ⟨by rw [h], hb⟩
end Go.Proofs.Ytgkfopodhikckaa

/- Arrays held against each other, copied; SumHalf, Half, the laws Sha256Sum and Sha256Half. Condition: a slice of at most 2^47 bytes. -/
namespace Go.Proofs.Ytgkfopodhikckaa
open Go.RowKit
section
variable {P : Program} {ops : Array Oper} {rest : List Oper} {a : Act} {dst : Option Tmp} {ty : TypeId} {pos : String} {after : Array Edge} {guard : Option (Nat × Bool)} {w w0 : World} {S : List Nat} {bs bs' : List (Nat × Obj)} {rows : List Row} {Q : Exit → Act → World → Prop} {C : World → Prop} {K : Act → Prop}
theorem wpL_eqlA {n : Nat} {t : TypeId} {b : Bool} {p q : Arr n} (hA : ArrT P t n) {x y : Operand} {yt : TypeId} (hx : a.eval x = p.val) (hy : a.eval y = q.val) (hb : (p == q) = b)
    (hg : Region.wanted { dst := dst, op := .binOp .eql t x y yt, type := ty, pos := pos, after := after, guard := guard } (yielded ops a.tmps) = true)
    (h : wpList P ops Q rest (a.put dst (.bool b)) w) : wpList P ops Q ({ dst := dst, op := .binOp .eql t x y yt, type := ty, pos := pos, after := after, guard := guard } :: rest) a w := by
  subst hb; exact wpList_eql_arr hA hx hy hg h
theorem wpL_arrayAt {t e : TypeId} {n m c : Nat} {ao : Option Addr} {x : Operand} (ht : P.underlying t = some (.array n e)) (hx : a.eval x = .slice ao m c) (hn : n ≤ m)
    (hg : Region.wanted { dst := dst, op := .sliceToArrayPointer t x, type := ty, pos := pos, after := after, guard := guard } (yielded ops a.tmps) = true)
    (h : wpList P ops Q rest (a.put dst (.pointer ao)) w) : wpList P ops Q ({ dst := dst, op := .sliceToArrayPointer t x, type := ty, pos := pos, after := after, guard := guard } :: rest) a w := by
  refine wpList_ex hg ?_ h
  have : ¬ m < n := by omega
  simp [execOp, hx, Instr.arrayAt, run_underlying ht, this]
end
def halfA (d : Arr 32) : Arr 16 := ⟨d.1.take 16, by rw [List.length_take, d.2]; rfl⟩
theorem halfA_cells (d : Arr 32) : (d.cells.drop 0).take 16 = (halfA d).cells := by simp [Arr.cells, halfA, List.map_take]
set_option maxRecDepth 100000 in
set_option maxHeartbeats 2000000 in
theorem sumHalf_any (w : World) (v : Value) (l : List UInt8) (hl : Byts w v l) (hn : l.length ≤ 900000) : Calls Try.prog 35 #[v] w (RetA w (halfA (sumB l))) := by
  obtain ⟨ao, cap, rfl, hc⟩ := hl.shape
  have HL := hid hl
  clear hl
  have HH := hid (Holds.init w)
  generalize hd : sumB l = d
  have HD := hid hd
  clear hd
  have HC := hid (halfA_cells d)
  go_enter Try.func35, Try.ntmps35
  go_wp2_with (first
    | ((first
        | ((with_reducible apply wpL_skip); rfl; skip)
        | (go_at_call 20; (with_reducible refine (shaSum_any _ _ l (HH.out.sl HL.out) hn).mono ?_); rw [HD.out]; rintro e_ w2_ ⟨rfl, hb_⟩; (have hq_ := HH.out.grow hb_); clear HH; have HH := hid hq_; clear hq_ hb_)
        | ((with_reducible apply wpL_storeC (t := 25) (vs := d.cells)); rfl; rfl; (exact kS25); (exact HH.out); (exact .here); (exact Arr.len _); (exact cells_one _); (exact Arr.len _); rfl; (intro w_ hq_; clear HH; have HH := hid hq_; clear hq_))
        | ((with_reducible apply wpL_sliceArrTo (m := 16) Try.underlying25 kS5); rfl; rfl; rfl; (exact (by omega)); rfl)
        | ((with_reducible apply wpL_arrayAt Try.underlying56); rfl; (exact (by omega)); rfl)
        | ((with_reducible apply wpL_loadPart (vs := (halfA d).cells) (t := 56) kA56 HH.out); rfl; (exact .here); (exact HC.out); (exact Arr.len _); rfl)
        | ((with_reducible apply wpL_storeC (t := 56) (vs := (halfA d).cells)); rfl; rfl; (exact kS56); (exact HH.out); (exact .there .here); (exact Arr.len _); (exact cells_one _); (exact Arr.len _); rfl; (intro w_ hq_; clear HH; have HH := hid hq_; clear hq_))
        | ((with_reducible apply wpL_nilCheck); rfl; rfl)
        | ((with_reducible apply wpL_loadArr (t := 56) kA56 HH.out); rfl; (first | exact .here | exact .there .here | exact .there (.there .here) | exact .there (.there (.there .here)) | exact .there (.there (.there (.there .here))) | exact .there (.there (.there (.there (.there .here)))) | exact .there (.there (.there (.there (.there (.there .here))))) | exact .there (.there (.there (.there (.there (.there (.there .here))))))); rfl)
        | ((with_reducible apply wpL_loadC (t := 56) kA56 HH.out); rfl; (first | exact .here | exact .there .here | exact .there (.there .here) | exact .there (.there (.there .here)) | exact .there (.there (.there (.there .here))) | exact .there (.there (.there (.there (.there .here)))) | exact .there (.there (.there (.there (.there (.there .here))))) | exact .there (.there (.there (.there (.there (.there (.there .here))))))); (first | rfl | exact Arr.len _ | (simp; done)); rfl)
        | ((with_reducible apply wpL_allocC (dst := some 2) kZ56 HH.out); rfl; (intro g2_ w_ hq_; (try simp only [List.set_cons_zero, List.set_cons_succ] at hq_); clear HH; have HH := hid hq_; clear hq_))
        | ((with_reducible apply wpL_allocC (dst := some 3) kZ25 HH.out); rfl; (intro g3_ w_ hq_; (try simp only [List.set_cons_zero, List.set_cons_succ] at hq_); clear HH; have HH := hid hq_; clear hq_))
        | ((with_reducible apply wpL_storeArr (t := 25) kS25 HH.out); rfl; rfl; (first | exact .here | exact .there .here | exact .there (.there .here) | exact .there (.there (.there .here)) | exact .there (.there (.there (.there .here))) | exact .there (.there (.there (.there (.there .here)))) | exact .there (.there (.there (.there (.there (.there .here))))) | exact .there (.there (.there (.there (.there (.there (.there .here))))))); (first | rfl | exact Arr.len _ | (simp; done)); rfl; (intro w_ hq_; (try simp only [List.set_cons_zero, List.set_cons_succ] at hq_); clear HH; have HH := hid hq_; clear hq_))
        | ((with_reducible apply wpL_storeC (t := 25)); rfl; rfl; (exact kS25); (exact HH.out); (first | exact .here | exact .there .here | exact .there (.there .here) | exact .there (.there (.there .here)) | exact .there (.there (.there (.there .here))) | exact .there (.there (.there (.there (.there .here)))) | exact .there (.there (.there (.there (.there (.there .here))))) | exact .there (.there (.there (.there (.there (.there (.there .here))))))); (first | rfl | exact Arr.len _ | (simp; done)); (first | rfl | (intro u_ hu_; simp only [List.mem_cons, List.not_mem_nil, or_false] at hu_; rcases hu_ with rfl | hu_; rfl) | exact byt_cell1 _ | exact cells_one _ | exact wrd_one _ | exact flat_cell1 _); (first | rfl | exact Arr.len _ | (simp; done)); rfl; (intro w_ hq_; (try simp only [List.set_cons_zero, List.set_cons_succ] at hq_); clear HH; have HH := hid hq_; clear hq_))
        | ((with_reducible apply wpL_storeArr (t := 56) kS56 HH.out); rfl; rfl; (first | exact .here | exact .there .here | exact .there (.there .here) | exact .there (.there (.there .here)) | exact .there (.there (.there (.there .here))) | exact .there (.there (.there (.there (.there .here)))) | exact .there (.there (.there (.there (.there (.there .here))))) | exact .there (.there (.there (.there (.there (.there (.there .here))))))); (first | rfl | exact Arr.len _ | (simp; done)); rfl; (intro w_ hq_; (try simp only [List.set_cons_zero, List.set_cons_succ] at hq_); clear HH; have HH := hid hq_; clear hq_))
        | ((with_reducible apply wpL_storeC (t := 56)); rfl; rfl; (exact kS56); (exact HH.out); (first | exact .here | exact .there .here | exact .there (.there .here) | exact .there (.there (.there .here)) | exact .there (.there (.there (.there .here))) | exact .there (.there (.there (.there (.there .here)))) | exact .there (.there (.there (.there (.there (.there .here))))) | exact .there (.there (.there (.there (.there (.there (.there .here))))))); (first | rfl | exact Arr.len _ | (simp; done)); (first | rfl | (intro u_ hu_; simp only [List.mem_cons, List.not_mem_nil, or_false] at hu_; rcases hu_ with rfl | hu_; rfl) | exact byt_cell1 _ | exact cells_one _ | exact wrd_one _ | exact flat_cell1 _); (first | rfl | exact Arr.len _ | (simp; done)); rfl; (intro w_ hq_; (try simp only [List.set_cons_zero, List.set_cons_succ] at hq_); clear HH; have HH := hid hq_; clear hq_))
        | ((with_reducible apply wpL_move); rfl; rfl)
        | ((with_reducible apply wpL_assign); rfl; rfl)
        | ((with_reducible apply wpL_pick); rfl; rfl; rfl)
        | ((with_reducible apply wpL_not); rfl; rfl)
        | ((with_reducible apply wpL_cmp (b := true)); rfl; rfl; rfl; (first | rfl | assumption | (simp only [cmpB, decide_eq_true_eq, decide_eq_false_iff_not, beq_iff_eq, bne_iff_ne, ne_eq, beq_eq_false_iff_ne, bne_eq_false_iff_eq, gt_iff_lt, ge_iff_le]; omega) | (simp; omega)); rfl)
        | ((with_reducible apply wpL_cmp (b := false)); rfl; rfl; rfl; (first | rfl | assumption | (simp only [cmpB, decide_eq_true_eq, decide_eq_false_iff_not, beq_iff_eq, bne_iff_ne, ne_eq, beq_eq_false_iff_ne, bne_eq_false_iff_eq, gt_iff_lt, ge_iff_le]; omega) | (simp; omega)); rfl)
        | ((with_reducible apply wpL_cmp); rfl; rfl; rfl; rfl; rfl)
        | ((with_reducible apply wpL_arith); rfl; rfl; rfl; (exact IntWalk.i64_in _ (by (try simp only [arithI]); omega)); rfl)); (try simp only [arithI, Act.put, Act.eval, List.setIfInBounds_toArray, List.set_cons_succ, List.set_cons_zero, Array.getD_eq_getD_getElem?, List.getElem?_toArray, List.getElem?_cons_succ, List.getElem?_cons_zero, Option.getD_some])))
  refine bodyPost_ret (res1 rfl (resC kA56 HH.out (by rfl) (.there .here) (Arr.len _))) rfl ?_
  exact ⟨rfl, HH.out.below⟩
end Go.Proofs.Ytgkfopodhikckaa

/- The laws Sha256Sum and Sha256Half: they return true. Condition: a slice of at most 2^47 bytes. -/
namespace Go.Proofs.Ytgkfopodhikckaa
open Go.RowKit
theorem arrRefl {n : Nat} (x : Arr n) : (x == x) = true := beq_self_eq_true _
end Go.Proofs.Ytgkfopodhikckaa

/- A Hash of the call's own, told by the bytes that were written to it; a nil Hash. Condition: at most nine hundred thousand bytes. -/
namespace Go.Proofs.Ytgkfopodhikckaa
open Go.RowKit
/-- Block g is a Hash to which the bytes l were written. -/
def HashAt (bs : List (Nat × Obj)) (g : Nat) (l : List UInt8) : Prop :=
  ∃ rv ex, (g, objC (hcells (absorb initS l).1 rv l.length) 118) ∈ bs ∧ RestEx ex rv (absorb initS l).2 ∧ ∀ p ∈ ex, p ∈ bs ∧ ∃ cur, p.2 = .cells cur 5
theorem RestEx.only {ex : List (Nat × Obj)} {v : Value} {l : List UInt8} (h : RestEx ex v l) : ∃ ex', RestEx ex' v l ∧ ∀ p ∈ ex', p ∈ ex ∧ ∃ cur, p.2 = .cells cur 5 := by
  classical
  obtain ⟨ao, cap, rfl, hc, hcell⟩ := h
  refine ⟨ex.filter fun p => decide (∃ cur, p.2 = .cells cur 5), ⟨ao, cap, rfl, hc, fun j u hu => ?_⟩, fun p hp => ?_⟩
  · obtain ⟨g, cur, off, rfl, hm, hu'⟩ := hcell j u hu
    exact ⟨g, cur, off, rfl, List.mem_filter.2 ⟨hm, by simp⟩, hu'⟩
  · have := List.mem_filter.1 hp
    exact ⟨this.1, by simpa using this.2⟩
theorem Holds.key {w0 w : World} {S : List Nat} {bs : List (Nat × Obj)} {rows : List Row} (h : Holds w0 S bs rows w) {g : Nat} {o o' : Obj} (h1 : (g, o) ∈ bs) (h2 : (g, o') ∈ bs) : o = o' := by
  have a := h.blk _ h1
  have b := h.blk _ h2
  simp only at a b
  rw [a] at b
  exact Option.some.inj b
theorem HashAt.mono {bs bs' : List (Nat × Obj)} {g : Nat} {l : List UInt8} (h : HashAt bs g l) (hs : ∀ p ∈ bs, p ∈ bs') : HashAt bs' g l := by
  obtain ⟨rv, ex, h1, h2, h3⟩ := h
  exact ⟨rv, ex, hs _ h1, h2, fun p hp => ⟨hs _ (h3 p hp).1, (h3 p hp).2⟩⟩
theorem HashAt.byts {w0 w : World} {S : List Nat} {bs : List (Nat × Obj)} {rows : List Row} {g : Nat} {l : List UInt8} (h : HashAt bs g l) (hH : Holds w0 S bs rows w) :
    ∃ rv, w.heap[g]? = some (objC (hcells (absorb initS l).1 rv l.length) 118) ∧ Byts w rv (absorb initS l).2 := by
  obtain ⟨rv, ex, h1, h2, h3⟩ := h
  exact ⟨rv, hH.blk _ h1, h2.byts hH fun q hq => (h3 q hq).1⟩
end Go.Proofs.Ytgkfopodhikckaa

/- The laws Sha256Lengths and Sha256Write: they return true. Condition: slices of at most 2^47 bytes. -/
namespace Go.Proofs.Ytgkfopodhikckaa
open Go.RowKit
/-- A slice of slices of bytes that is read. -/
def Pcs (w : World) (v : Value) (ls : List (List UInt8)) : Prop :=
  ∃ cs, Sl w v 1 ls.length cs ∧ ∀ i, i < ls.length → ∃ u, cs[i]? = some u ∧ Byts w u (ls.getD i [])
section
variable {P : Program} {ops : Array Oper} {rest : List Oper} {a : Act} {dst : Option Tmp} {ty : TypeId} {pos : String} {after : Array Edge} {guard : Option (Nat × Bool)} {w w0 : World} {S : List Nat} {bs : List (Nat × Obj)} {rows : List Row} {Q : Exit → Act → World → Prop}
end
end Go.Proofs.Ytgkfopodhikckaa

/- From the walks of the laws to their rows: what is alike. No condition. -/
namespace Go.Proofs.Ytgkfopodhikckaa
open Go.ChangeShapes Go.WideShapes Go.ChangeAt Go.RowKit
theorem Try.own : ownKnob Try.prog.godebug = none := by kernel_rfl
theorem Try.laidOut : laidOutB Try.prog = true := by kernel_rfl
theorem cells5 : Try.prog.cellsOf 5 = 1 := by kernel_rfl
theorem readable_of {ts : List TypeId} (h : (ts.all fun t => Try.prog.readableRec t && decide (t < Try.prog.types.size)) = true) : ∀ t ∈ ts, Try.prog.readableRec t = true ∧ t < Try.prog.types.size := by
  intro t ht
  have := List.all_eq_true.1 h t ht
  simpa using this
set_option maxRecDepth 100000 in
/-- An argument that is an array of bytes. -/
theorem open_arrA {H : Type} {enc : TypeId × Value → H} {W : World} {base : Nat} {n : Nat} {t : TypeId} {v : Value} {d : DataW H} {p : List MemPlace} (ht : Try.prog.underlying t = some (.array n 5)) (hc : Try.prog.cellsOf t = n) (hval : Value.okWide Try.prog W .any base t v)
    (h : DataW.Trod enc Try.prog W 0 (fun _ => true) true t v d p) : ∃ x : Arr n, v = x.val := by
  obtain ⟨fuel, hf⟩ := h
  obtain ⟨x, hx⟩ := open_bytes ht Try.underlying5 hc cells5 hf
  simp only [Value.okWide, ht] at hval
  obtain ⟨cs, rfl, _⟩ := hval
  refine ⟨x, ?_⟩
  simp only [Value.cells] at hx
  unfold Arr.val
  rw [← hx, Array.toArray_toList]
/-- An argument that is a byte. -/
theorem byte_of {c : Int} (h : (Lit.int .u8 c).wf = true) : Value.int .u8 c = byt (UInt8.ofNat c.toNat) := by
  have e1 : IntKind.u8.min = 0 := rfl
  have e2 : IntKind.u8.max = 255 := rfl
  simp only [Lit.wf, Bool.and_eq_true, decide_eq_true_eq] at h
  simp only [byt, UInt8.toNat_ofNat', Value.int.injEq, true_and]
  omega
end Go.Proofs.Ytgkfopodhikckaa

/- Rows of arrays: lists of nodes, of identities. No condition. -/
namespace Go.Proofs.Ytgkfopodhikckaa
open Go.RowKit
/-- A row of arrays of the call's own. -/
@[reducible] def rowA {n : Nat} (e : TypeId) (ao : Option Addr) (cap : Nat) (l : List (Arr n)) : Row := ⟨.slice ao l.length cap, e, n, l.length, flat l⟩
/-- A slice of arrays that is read. -/
abbrev Arrs {n : Nat} (w : World) (v : Value) (l : List (Arr n)) : Prop := Sl w v n l.length (flat l)
theorem Arrs.of {m : Nat} {w : World} {v : Value} {n : Nat} {l : List (Arr m)} {cs : List Value} (h : Sl w v m n cs) (hn : n = l.length) (hc : cs = flat l) : Arrs w v l := by subst hn hc; exact h
theorem Arrs.get {n : Nat} {w : World} {a : Addr} {cap : Nat} {l : List (Arr n)} (h : Arrs w (.slice (some a) l.length cap) l) (k : Nat) (hk : k < l.length) : ∀ j u, (l[k]).cells[j]? = some u → w.cell? ((a.add (k * n)).add j) = some u := by
  intro j u hu
  have hj : j < n := by
    have := (List.getElem?_eq_some_iff.1 hu).1
    rwa [Arr.len] at this
  have h1 := h.cell (k * n + j) u (by rw [flat_get l k hk j hj]; exact hu)
  have e : (a.add (k * n)).add j = a.add (k * n + j) := by
    unfold Addr.add; split <;> split <;> simp_all <;> omega
  rw [e]; exact h1
theorem Arrs.take {m : Nat} {w : World} {ao : Option Addr} {cap : Nat} {l : List (Arr m)} {j : Nat} (h : Arrs w (.slice ao l.length cap) l) (hj : j ≤ l.length) : Arrs w (.slice ao j cap) (l.take j) := by
  have h1 := Sl.take h hj
  exact Arrs.of h1 (by rw [List.length_take]; omega) (flat_take l j)
section
variable {P : Program} {w w0 : World} {S : List Nat} {bs : List (Nat × Obj)} {rows : List Row} {ops : Array Oper} {rest : List Oper} {a : Act} {dst : Option Tmp} {ty : TypeId} {pos : String} {after : Array Edge} {guard : Option (Nat × Bool)} {Q : Exit → Act → World → Prop}
theorem wpL_buildA {n : Nat} {t e : TypeId} {bytes : Nat} (hE : Elem P t e n bytes) (x : Arr n) (hn : n ≤ 16777216) {parts : Array (Nat × Operand)} (hp : (parts.toList.map fun p => (p.1, a.eval p.2)) = [(0, x.val)]) (hH : Holds w0 S bs rows w)
    (hg : Region.wanted { dst := dst, op := .buildSlice t 1 parts, type := ty, pos := pos, after := after, guard := guard } (yielded ops a.tmps) = true)
    (h : ∀ g w', Holds w0 S bs (rowA e (some ⟨g, 0, none⟩) 1 [x] :: rows) w' → wpList P ops Q rest (a.put dst (.slice (some ⟨g, 0, none⟩) 1 1)) w') :
    wpList P ops Q ({ dst := dst, op := .buildSlice t 1 parts, type := ty, pos := pos, after := after, guard := guard } :: rest) a w :=
  wpList_buildArr hE [x] hH rfl hp (by omega) hg h
theorem wpL_appendA {k : Nat} {t e : TypeId} {bytes : Nat} {ao ax : Option Addr} {ca cx n m : Nat} {l l2 r : List (Arr k)} (hE : Elem P t e k bytes) (hH : Holds w0 S bs (⟨.slice ao n ca, e, k, n, flat l⟩ :: rows) w) (hx : Sl w (.slice ax m cx) k m (flat l2)) (hr : l ++ l2 = r) (hn : n = l.length) (hm : m = l2.length) (hb : (l.length + l2.length) * bytes ≤ 140737488355328) {s y : Operand} (hs : a.eval s = .slice ao n ca) (hy : a.eval y = .slice ax m cx)
    (hg : Region.wanted { dst := dst, op := .call { callee := .builtin .append, args := #[s, y], argTypes := #[t, t] }, type := ty, pos := pos, after := after, guard := guard } (yielded ops a.tmps) = true)
    (h : ∀ ao cap w', Holds w0 S bs (rowA e ao cap r :: rows) w' → wpList P ops Q rest (a.put dst (.slice ao r.length cap)) w') :
    wpList P ops Q ({ dst := dst, op := .call { callee := .builtin .append, args := #[s, y], argTypes := #[t, t] }, type := ty, pos := pos, after := after, guard := guard } :: rest) a w := by
  subst hn hm hr
  refine wpList_append hE hH hx (flat_cell1 _) hb hs hy hg fun ao cap w' h' => ?_
  have := h ao cap w' (by simpa only [rowA, List.length_append, flat_append] using h')
  rwa [List.length_append] at this
end
end Go.Proofs.Ytgkfopodhikckaa

/- Rules for merkle: an element of a list of arrays is read, a byte of an array variable is written, numbers cut to bytes and words. No condition. -/
namespace Go.Proofs.Ytgkfopodhikckaa
open Go.RowKit
section
variable {P : Program} {w0 w : World} {S : List Nat} {bs bs' : List (Nat × Obj)} {rows : List Row} {ops : Array Oper} {rest : List Oper} {a : Act} {Q : Exit → Act → World → Prop} {C : World → Prop} {K : Act → Prop} {dst : Option Tmp} {ty : TypeId} {pos : String} {after : Array Edge} {guard : Option (Nat × Bool)}
/-- An array of bytes that lies somewhere is read. -/
theorem wpL_loadEl {t : TypeId} {n : Nat} {v : Arr n} {ad : Addr} (hA : AggT P t n) (hc : ∀ j u, v.cells[j]? = some u → w.cell? (ad.add j) = some u) {x : Operand} (hx : a.eval x = .pointer (some ad))
    (hg : Region.wanted { dst := dst, op := .load t x, type := ty, pos := pos, after := after, guard := guard } (yielded ops a.tmps) = true)
    (h : wpList P ops Q rest (a.put dst v.val) w) : wpList P ops Q ({ dst := dst, op := .load t x, type := ty, pos := pos, after := after, guard := guard } :: rest) a w :=
  wpList_load_agg hA (Arr.len v) hc hx hg h
theorem wpL_appendBr {ao ax : Option Addr} {ca cx n m : Nat} {l l2 r : List UInt8} (hH : Holds w0 S bs (⟨.slice ao n ca, 5, 1, n, l.map byt⟩ :: rows) w) (hx : Sl w (.slice ax m cx) 1 m (l2.map byt)) (hr : l ++ l2 = r) (hn : n = l.length) (hm : m = l2.length) (hb : l.length + l2.length ≤ 100000000) {s y : Operand} (hs : a.eval s = .slice ao n ca) (hy : a.eval y = .slice ax m cx)
    (hg : Region.wanted { dst := dst, op := .call { callee := .builtin .append, args := #[s, y], argTypes := #[22, 22] }, type := ty, pos := pos, after := after, guard := guard } (yielded ops a.tmps) = true)
    (h : ∀ ao cap w', Holds w0 S bs (rowB ao cap r :: rows) w' → wpList Try.prog ops Q rest (a.put dst (.slice ao r.length cap)) w') :
    wpList Try.prog ops Q ({ dst := dst, op := .call { callee := .builtin .append, args := #[s, y], argTypes := #[22, 22] }, type := ty, pos := pos, after := after, guard := guard } :: rest) a w := by
  subst hr; exact wpL_appendB hH hx hn hm hb hs hy hg h
/-- An int cut to a byte, to a word. -/
def i2b (i : Int) : UInt8 := UInt8.ofNat (i % 256).toNat
def i2w (i : Int) : W32 := BitVec.ofNat 32 (i % 4294967296).toNat
theorem run_i2b {s d : TypeId} {z : TypeDesc} (hs : P.underlying s = some z) (hd : P.underlying d = some (.int .u8)) (k : IntKind) (i : Int) (w : World) : (convert s d (.int k i)).run P w = .ok (byt (i2b i)) w := by
  simp only [convert, Sem.run_bind, run_underlying hs, run_underlying hd, Result.andThen_ok, Conv.intToInt, Sem.run_pure]
  have e : IntKind.u8.wrap i = i % 256 := rfl
  rw [e]
  simp only [byt, i2b, UInt8.toNat_ofNat']
  congr 3
  omega
theorem run_i2w {s d : TypeId} {z : TypeDesc} (hs : P.underlying s = some z) (hd : P.underlying d = some (.int .u32)) (k : IntKind) (i : Int) (w : World) : (convert s d (.int k i)).run P w = .ok (wrd (i2w i)) w := by
  simp only [convert, Sem.run_bind, run_underlying hs, run_underlying hd, Result.andThen_ok, Conv.intToInt, Sem.run_pure]
  have e : IntKind.u32.wrap i = i % 4294967296 := rfl
  rw [e]
  simp only [wrd, i2w, BitVec.toNat_ofNat]
  congr 3
  omega
theorem wpL_i2w {s d : TypeId} {z : TypeDesc} {x : Operand} {k : IntKind} {i : Int} {u : W32} (hs : P.underlying s = some z) (hd : P.underlying d = some (.int .u32)) (hx : a.eval x = .int k i) (hb : i2w i = u)
    (hg : Region.wanted { dst := dst, op := .convert s d x, type := ty, pos := pos, after := after, guard := guard } (yielded ops a.tmps) = true)
    (h : wpList P ops Q rest (a.put dst (wrd u)) w) : wpList P ops Q ({ dst := dst, op := .convert s d x, type := ty, pos := pos, after := after, guard := guard } :: rest) a w := by
  subst hb
  exact wpList_ex hg (by simp only [execOp, hx, Sem.run_bind, run_i2w hs hd, Result.andThen_ok, Sem.run_pure]) h
end
abbrev Nd := Arr 16
abbrev Nd0 : Nd := Arr.zero 16
/-- The hash of bytes. -/
def hashN (l : List UInt8) : Nd := halfA (sumB l)
def leafPre (i : Int) : List UInt8 := [0, w2b (i2w i >>> 24), w2b (i2w i >>> 16), w2b (i2w i >>> 8), w2b (i2w i)]
def leafN (i : Int) (l : List UInt8) : Nd := hashN (leafPre i ++ l)
def joinN (i : Int) (x y : Nd) : Nd := hashN ([1, i2b i] ++ x.1 ++ y.1)
end Go.Proofs.Ytgkfopodhikckaa

/- hash and Leaf of merkle; half, Leaf, Join of the reference. Condition: at most 900000 bytes. -/
namespace Go.Proofs.Ytgkfopodhikckaa
open Go.RowKit
attribute [local irreducible] wpQuiet wpList
set_option maxRecDepth 100000 in
set_option maxHeartbeats 2000000 in
theorem hash_any (w : World) (v : Value) (l : List UInt8) (hl : Byts w v l) (hn : l.length ≤ 900000) : Calls Try.prog 65 #[v] w (RetA w (hashN l)) := by
  obtain ⟨ao, cap, rfl, hc⟩ := hl.shape
  have HL := hid hl
  clear hl
  have HH := hid (Holds.init w)
  obtain ⟨d, hd⟩ : ∃ d, hashN l = d := ⟨_, rfl⟩
  have HD := hid (show halfA (sumB l) = d from hd)
  rw [hd]
  clear hd
  go_enter Try.func65, Try.ntmps65
  go_wp2_with (first
    | ((first
        | ((with_reducible apply wpL_skip); rfl; skip)
        | (go_at_call 35; (with_reducible refine (sumHalf_any _ _ l (HH.out.sl HL.out) hn).mono ?_); rw [HD.out]; rintro e_ w2_ ⟨rfl, hb_⟩; (have hq_ := HH.out.grow hb_); clear HH; have HH := hid hq_; clear hq_ hb_)
        | ((with_reducible apply wpL_storeC (t := 34) (vs := d.cells)); rfl; rfl; (exact kS34); (exact HH.out); (exact .here); (exact Arr.len _); (exact cells_one _); (exact Arr.len _); rfl; (intro w_ hq_; clear HH; have HH := hid hq_; clear hq_))
        | ((with_reducible apply wpL_nilCheck); rfl; rfl)
        | ((with_reducible apply wpL_allocC (dst := some 2) kZ34 HH.out); rfl; (intro g2_ w_ hq_; (try simp only [List.set_cons_zero, List.set_cons_succ] at hq_); clear HH; have HH := hid hq_; clear hq_))
        | ((with_reducible apply wpL_storeArr (t := 34) kS34 HH.out); rfl; rfl; (first | exact .here | exact .there .here | exact .there (.there .here) | exact .there (.there (.there .here)) | exact .there (.there (.there (.there .here))) | exact .there (.there (.there (.there (.there .here)))) | exact .there (.there (.there (.there (.there (.there .here))))) | exact .there (.there (.there (.there (.there (.there (.there .here))))))); (first | rfl | exact Arr.len _ | (simp; done)); rfl; (intro w_ hq_; (try simp only [List.set_cons_zero, List.set_cons_succ] at hq_); clear HH; have HH := hid hq_; clear hq_))
        | ((with_reducible apply wpL_storeC (t := 34)); rfl; rfl; (exact kS34); (exact HH.out); (first | exact .here | exact .there .here | exact .there (.there .here) | exact .there (.there (.there .here)) | exact .there (.there (.there (.there .here))) | exact .there (.there (.there (.there (.there .here)))) | exact .there (.there (.there (.there (.there (.there .here))))) | exact .there (.there (.there (.there (.there (.there (.there .here))))))); (first | rfl | exact Arr.len _ | (simp; done)); (first | rfl | (intro u_ hu_; simp only [List.mem_cons, List.not_mem_nil, or_false] at hu_; rcases hu_ with rfl | hu_; rfl) | exact byt_cell1 _ | exact cells_one _ | exact wrd_one _ | exact flat_cell1 _); (first | rfl | exact Arr.len _ | (simp; done)); rfl; (intro w_ hq_; (try simp only [List.set_cons_zero, List.set_cons_succ] at hq_); clear HH; have HH := hid hq_; clear hq_))
        | ((with_reducible apply wpL_move); rfl; rfl)
        | ((with_reducible apply wpL_assign); rfl; rfl)
        | ((with_reducible apply wpL_pick); rfl; rfl; rfl)
        | ((with_reducible apply wpL_not); rfl; rfl)
        | ((with_reducible apply wpL_cmp (b := true)); rfl; rfl; rfl; (first | rfl | assumption | (simp only [cmpB, decide_eq_true_eq, decide_eq_false_iff_not, beq_iff_eq, bne_iff_ne, ne_eq, beq_eq_false_iff_ne, bne_eq_false_iff_eq, gt_iff_lt, ge_iff_le]; omega) | (simp; omega)); rfl)
        | ((with_reducible apply wpL_cmp (b := false)); rfl; rfl; rfl; (first | rfl | assumption | (simp only [cmpB, decide_eq_true_eq, decide_eq_false_iff_not, beq_iff_eq, bne_iff_ne, ne_eq, beq_eq_false_iff_ne, bne_eq_false_iff_eq, gt_iff_lt, ge_iff_le]; omega) | (simp; omega)); rfl)
        | ((with_reducible apply wpL_cmp); rfl; rfl; rfl; rfl; rfl)
        | ((with_reducible apply wpL_arith); rfl; rfl; rfl; (exact IntWalk.i64_in _ (by (try simp only [arithI]); omega)); rfl)); (try simp only [arithI, Act.put, Act.eval, List.setIfInBounds_toArray, List.set_cons_succ, List.set_cons_zero, Array.getD_eq_getD_getElem?, List.getElem?_toArray, List.getElem?_cons_succ, List.getElem?_cons_zero, Option.getD_some])))
  refine bodyPost_ret (res1 rfl (resC kA34 HH.out (by rfl) .here (Arr.len _))) rfl ?_
  exact ⟨rfl, HH.out.below⟩
set_option maxRecDepth 100000 in
set_option maxHeartbeats 2000000 in
theorem leaf_any (w : World) (i : Int) (v : Value) (l : List UInt8) (hl : Byts w v l) (hn : l.length ≤ 800000) : Calls Try.prog 45 #[.int .i64 i, v] w (RetA w (leafN i l)) := by
  obtain ⟨ao, cap, rfl, hc⟩ := hl.shape
  have HL := hid hl
  clear hl
  have HH := hid (Holds.init w)
  obtain ⟨pre, hp⟩ : ∃ pre, leafPre i = pre := ⟨_, rfl⟩
  have HP := hid hp
  have HPL := hid (show pre.length = 5 by rw [← hp]; rfl)
  obtain ⟨d, hd⟩ : ∃ d, leafN i l = d := ⟨_, rfl⟩
  obtain ⟨al, hal⟩ : ∃ al, pre ++ l = al := ⟨_, rfl⟩
  have HAL := hid hal
  have HD := hid (show hashN al = d by rw [← hal, ← hp]; exact hd)
  rw [hd]
  have hlen : al.length ≤ 900000 := by rw [← hal, List.length_append, HPL.out]; omega
  have HLEN := hid hlen
  clear hd hp hlen hal
  go_enter Try.func45, Try.ntmps45
  go_wp2_with (first
    | ((first
        | ((with_reducible apply wpL_skip); rfl; skip)
        | ((with_reducible apply wpL_i2w (u := i2w i) Try.underlying3 Try.underlying105); rfl; rfl; rfl)
        | ((with_reducible apply wpL_wshr (p := i2w i)); rfl; rfl; (exact (by decide)); rfl)
        | ((with_reducible apply wpL_w2b (dst := some 10) (p := i2w i >>> 24) Try.underlying105 Try.underlying5); rfl; rfl)
        | ((with_reducible apply wpL_w2b (dst := some 13) (p := i2w i >>> 16) Try.underlying105 Try.underlying5); rfl; rfl)
        | ((with_reducible apply wpL_w2b (dst := some 16) (p := i2w i >>> 8) Try.underlying105 Try.underlying5); rfl; rfl)
        | ((with_reducible apply wpL_w2b (dst := some 18) (p := i2w i) Try.underlying105 Try.underlying5); rfl; rfl)
        | ((with_reducible apply wpL_buildB pre); (exact HPL.out.symm); (rw [← HP.out]; rfl); (exact (by decide)); (exact HH.out); rfl; (intro g_ w_ hq_; simp only [rowB, HPL.out] at hq_; clear HH; have HH := hid hq_; clear hq_))
        | ((with_reducible apply wpL_appendBr (n := 5) (l := pre) (l2 := l) (r := al) HH.out (HH.out.sl HL.out) HAL.out); (exact HPL.out.symm); rfl; (have := HPL.out; omega); rfl; rfl; rfl; (intro ao2 cap2 w_ hq_; clear HH; have HH := hid hq_; clear hq_))
        | (go_at_call 65; (with_reducible refine (hash_any _ _ al HH.out.sl0 HLEN.out).mono ?_); rw [HD.out]; rintro e_ w2_ ⟨rfl, hb_⟩; (have hq_ := HH.out.grow hb_); clear HH; have HH := hid hq_; clear hq_ hb_)
        | ((with_reducible apply wpL_storeC (t := 34) (vs := d.cells)); rfl; rfl; (exact kS34); (exact HH.out); (exact .here); (exact Arr.len _); (exact cells_one _); (exact Arr.len _); rfl; (intro w_ hq_; clear HH; have HH := hid hq_; clear hq_))
        | ((with_reducible apply wpL_nilCheck); rfl; rfl)
        | ((with_reducible apply wpL_allocC (dst := some 4) kZ34 HH.out); rfl; (intro g4_ w_ hq_; (try simp only [List.set_cons_zero, List.set_cons_succ] at hq_); clear HH; have HH := hid hq_; clear hq_))
        | ((with_reducible apply wpL_storeArr (t := 34) kS34 HH.out); rfl; rfl; (first | exact .here | exact .there .here | exact .there (.there .here) | exact .there (.there (.there .here)) | exact .there (.there (.there (.there .here))) | exact .there (.there (.there (.there (.there .here)))) | exact .there (.there (.there (.there (.there (.there .here))))) | exact .there (.there (.there (.there (.there (.there (.there .here))))))); (first | rfl | exact Arr.len _ | (simp; done)); rfl; (intro w_ hq_; (try simp only [List.set_cons_zero, List.set_cons_succ] at hq_); clear HH; have HH := hid hq_; clear hq_))
        | ((with_reducible apply wpL_storeC (t := 34)); rfl; rfl; (exact kS34); (exact HH.out); (first | exact .here | exact .there .here | exact .there (.there .here) | exact .there (.there (.there .here)) | exact .there (.there (.there (.there .here))) | exact .there (.there (.there (.there (.there .here)))) | exact .there (.there (.there (.there (.there (.there .here))))) | exact .there (.there (.there (.there (.there (.there (.there .here))))))); (first | rfl | exact Arr.len _ | (simp; done)); (first | rfl | (intro u_ hu_; simp only [List.mem_cons, List.not_mem_nil, or_false] at hu_; rcases hu_ with rfl | hu_; rfl) | exact byt_cell1 _ | exact cells_one _ | exact wrd_one _ | exact flat_cell1 _); (first | rfl | exact Arr.len _ | (simp; done)); rfl; (intro w_ hq_; (try simp only [List.set_cons_zero, List.set_cons_succ] at hq_); clear HH; have HH := hid hq_; clear hq_))
        | ((with_reducible apply wpL_move); rfl; rfl)
        | ((with_reducible apply wpL_assign); rfl; rfl)
        | ((with_reducible apply wpL_pick); rfl; rfl; rfl)
        | ((with_reducible apply wpL_not); rfl; rfl)
        | ((with_reducible apply wpL_cmp (b := true)); rfl; rfl; rfl; (first | rfl | assumption | (simp only [cmpB, decide_eq_true_eq, decide_eq_false_iff_not, beq_iff_eq, bne_iff_ne, ne_eq, beq_eq_false_iff_ne, bne_eq_false_iff_eq, gt_iff_lt, ge_iff_le]; omega) | (simp; omega)); rfl)
        | ((with_reducible apply wpL_cmp (b := false)); rfl; rfl; rfl; (first | rfl | assumption | (simp only [cmpB, decide_eq_true_eq, decide_eq_false_iff_not, beq_iff_eq, bne_iff_ne, ne_eq, beq_eq_false_iff_ne, bne_eq_false_iff_eq, gt_iff_lt, ge_iff_le]; omega) | (simp; omega)); rfl)
        | ((with_reducible apply wpL_cmp); rfl; rfl; rfl; rfl; rfl)
        | ((with_reducible apply wpL_arith); rfl; rfl; rfl; (exact IntWalk.i64_in _ (by (try simp only [arithI]); omega)); rfl)); (try simp only [arithI, Act.put, Act.eval, List.setIfInBounds_toArray, List.set_cons_succ, List.set_cons_zero, Array.getD_eq_getD_getElem?, List.getElem?_toArray, List.getElem?_cons_succ, List.getElem?_cons_zero, Option.getD_some])))
  refine bodyPost_ret (res1 rfl (resC kA34 HH.out (by rfl) .here (Arr.len _))) rfl ?_
  exact ⟨rfl, HH.out.below⟩
end Go.Proofs.Ytgkfopodhikckaa

/- Grow of nothing, Concat, Join. Condition: at most a hundred thousand bytes. -/
namespace Go.Proofs.Ytgkfopodhikckaa
open Go.RowKit
attribute [local irreducible] wpQuiet wpList
section
variable {w0 w : World} {S : List Nat} {bs bs' : List (Nat × Obj)} {rows : List Row} {ops : Array Oper} {rest : List Oper} {a : Act} {Q : Exit → Act → World → Prop} {dst : Option Tmp} {ty : TypeId} {pos : String} {after : Array Edge} {guard : Option (Nat × Bool)}
/-- append(nil, make([]byte, n)...). -/
theorem wpL_appendZ {n : Nat} {q : Int} {x y : Operand} (h0 : 0 < n) (hn : n ≤ 100000) (hx : a.eval x = .slice none 0 0) (hy : a.eval y = .int .i64 q) (hq : q = (n : Int)) (hH : Holds w0 S bs rows w)
    (hg : Region.wanted { dst := dst, op := .call { callee := .builtin .append, args := #[x, y], argTypes := #[22, 3] }, type := ty, pos := pos, after := after, guard := guard } (yielded ops a.tmps) = true)
    (h : ∀ g G w', Holds w0 S bs (⟨.slice (some ⟨g, 0, none⟩) 0 G, 5, 1, 0, []⟩ :: rows) w' → wpList Try.prog ops Q rest (a.put dst (.slice (some ⟨g, 0, none⟩) n G)) w') :
    wpList Try.prog ops Q ({ dst := dst, op := .call { callee := .builtin .append, args := #[x, y], argTypes := #[22, 3] }, type := ty, pos := pos, after := after, guard := guard } :: rest) a w := by
  subst hq
  obtain ⟨ht, hsz, hb1, i, z, hi, hz, hsize, hby, hzs⟩ := E22
  have hr := Lib.run_append_grow_zeros (P := Try.prog) w 22 3 ty 5 i z .i64 .i64 ht Try.underlying3 hi hz none 0 0 [] (run_firstCells_none w.drew i.size 0 0 0) n h0 (by omega) (by omega) (by omega) (by rw [hby]; omega)
    (by rw [hby]; exact growslice_fits (by omega) (by omega))
  have hge : n ≤ grownCap w (0 + n) 0 5 := by have := grownCap_ge w (0 + n) 0 5; omega
  have hle : grownCap w (0 + n) 0 5 ≤ maxLen := grownCap_le_maxLen w (0 + n) 0 5 (by unfold maxLen; omega)
  obtain ⟨G, hG⟩ : ∃ G, grownCap w (0 + n) 0 5 = G := ⟨_, rfl⟩
  rw [hG] at hr hge hle
  obtain ⟨cur, hcur⟩ : ∃ cur, (([] : List Value).toArray ++ Builtin.zeroCells z.cells n ++ Builtin.zeroCells z.cells (G - (0 + n))) = cur := ⟨_, rfl⟩
  have hcs : cur.size = G * 1 := by
    rw [← hcur]
    simp only [Array.size_append, List.size_toArray, size_zeroCells, List.length_nil, hzs]
    omega
  rw [hcur] at hr
  have hb : Below w.heap.size w (w.drew.alloc (.cells cur 5)) := (below_drew w).alloc (Nat.le_refl _) _
  have hrow : (w.drew.alloc (.cells cur 5)).ownsRow w.heap.size 5 1 (.slice (some ⟨w.heap.size, 0, none⟩) 0 G) 0 [] :=
    ⟨rfl, .inr ⟨w.heap.size, G, cur, rfl, Nat.le_refl _, heap_alloc_new w.drew _, Nat.zero_le _, hle, hcs, rfl⟩⟩
  refine wpList_ex hg (v := .slice (some ⟨w.heap.size, 0, none⟩) n G) ?_ (h _ _ _ (hH.addRow hb hrow))
  rw [BigFrame.execOp_builtin, BigFrame.builtin_append]
  simp only [Sem.run_bind, List.map_toArray, List.map_cons, List.map_nil, hx, hy, hr, Result.andThen_ok, Sem.run_pure, Nat.zero_add]
end
def RetGr (w : World) (e : Ending) (w' : World) : Prop :=
  ∃ ao G, e = .returned (.slice ao 0 G) ∧ w'.ownsRow w.heap.size 5 1 (.slice ao 0 G) 0 [] ∧ Below w.heap.size w w'
set_option maxRecDepth 100000 in
set_option maxHeartbeats 2000000 in
theorem growNil_any (w : World) (n : Nat) (h0 : 0 < n) (hn : n ≤ 100000) : Calls Try.prog 81 #[.slice none 0 0, .int .i64 n] w (RetGr w) := by
  have HH := hid (Holds.init w)
  go_enter Try.func81, Try.ntmps81
  go_wp2_with (first
    | ((first
        | ((with_reducible apply wpL_skip); rfl; skip)
        | ((with_reducible apply wpL_appendZ h0 hn); rfl; rfl; (exact (by go_num)); (exact HH.out); rfl; (intro g_ G_ w_ hq_; clear HH; have HH := hid hq_; clear hq_))
        | ((with_reducible apply wpL_nilCheck); rfl; rfl)
        | ((with_reducible apply wpL_len (t := 22) Try.underlying22); rfl; rfl)
        | ((with_reducible apply wpL_move); rfl; rfl)
        | ((with_reducible apply wpL_assign); rfl; rfl)
        | ((with_reducible apply wpL_pick); rfl; rfl; rfl)
        | ((with_reducible apply wpL_not); rfl; rfl)
        | ((with_reducible apply wpL_cmp (b := true)); rfl; rfl; rfl; (first | rfl | assumption | (simp only [cmpB, decide_eq_true_eq, decide_eq_false_iff_not, beq_iff_eq, bne_iff_ne, ne_eq, beq_eq_false_iff_ne, bne_eq_false_iff_eq, gt_iff_lt, ge_iff_le]; omega) | (simp; omega)); rfl)
        | ((with_reducible apply wpL_cmp (b := false)); rfl; rfl; rfl; (first | rfl | assumption | (simp only [cmpB, decide_eq_true_eq, decide_eq_false_iff_not, beq_iff_eq, bne_iff_ne, ne_eq, beq_eq_false_iff_ne, bne_eq_false_iff_eq, gt_iff_lt, ge_iff_le]; omega) | (simp; omega)); rfl)
        | ((with_reducible apply wpL_cmp); rfl; rfl; rfl; rfl; rfl)
        | ((with_reducible apply wpL_arith); rfl; rfl; rfl; (exact IntWalk.i64_in _ (by (try simp only [arithI]); omega)); rfl)); (try simp only [arithI, Act.put, Act.eval, List.setIfInBounds_toArray, List.set_cons_succ, List.set_cons_zero, Array.getD_eq_getD_getElem?, List.getElem?_toArray, List.getElem?_cons_succ, List.getElem?_cons_zero, Option.getD_some])))
  go_ret
  exact ⟨_, _, rfl, HH.out.own0, HH.out.below⟩
theorem RetBy.of {w w' : World} {l m : List UInt8} {ao : Option Addr} {cap : Nat} (h : l = m) (ho : w'.ownsRow w.heap.size 5 1 (.slice ao l.length cap) l.length (l.map byt)) (hb : Below w.heap.size w w') : RetBy w m (.returned (.slice ao l.length cap)) w' := by
  subst h; exact ⟨_, _, rfl, ho, hb⟩
def CatRel1 (w : World) (ls : List (List UInt8)) (n i : Value) (wr : World) : Prop :=
  ∃ k : Nat, k ≤ ls.length ∧ i = .int .i64 k ∧ n = .int .i64 ((ls.take k).flatten.length : Nat) ∧ Holds w [] [] [] wr
def CatRel2 (w : World) (ls : List (List UInt8)) (v i : Value) (wr : World) : Prop :=
  ∃ (k : Nat) (l : List UInt8) (ao : Option Addr) (cap : Nat), k ≤ ls.length ∧ i = .int .i64 k ∧ l = (ls.take k).flatten ∧ v = .slice ao l.length cap ∧ Holds w [] [] [rowB ao cap l] wr
theorem flat_step {ls : List (List UInt8)} {k : Nat} {p : List UInt8} (h : k < ls.length) (hp : ls.getD k [] = p) : (ls.take (k + 1)).flatten = (ls.take k).flatten ++ p := by
  rw [← List.take_append_getElem h, List.flatten_append]
  rw [List.getD_eq_getElem?_getD, List.getElem?_eq_getElem h, Option.getD_some] at hp
  simp [hp]
theorem flat_le (ls : List (List UInt8)) (k : Nat) : (ls.take k).flatten.length ≤ ls.flatten.length := by
  conv => rhs; rw [← List.take_append_drop k ls, List.flatten_append, List.length_append]
  omega
set_option maxRecDepth 100000 in
set_option maxHeartbeats 2000000 in
theorem concat_any (w : World) (v : Value) (ls : List (List UInt8)) (hl : Pcs w v ls) (hk : ls.length ≤ 1000) (h0 : 0 < ls.flatten.length) (hn : ls.flatten.length ≤ 100000) : Calls Try.prog 66 #[v] w (RetBy w ls.flatten) := by
  obtain ⟨cs, hsl, hcs⟩ := hl
  obtain ⟨ao, cap, rfl, hc⟩ := hsl.shape
  have HS := hid hsl
  have HCS := hid hcs
  clear hsl hcs
  obtain ⟨N, hN⟩ : ∃ N, ls.flatten.length = N := ⟨_, rfl⟩
  rw [hN] at h0 hn
  have HN := hid hN
  clear hN
  have HH := hid (Holds.init w)
  go_enter Try.func66, Try.ntmps66
  go_wp2_with (first
    | ((first
        | ((with_reducible apply wpL_skip); rfl; skip)
        | ((with_reducible apply wpL_nilCheck); rfl; rfl)
        | ((with_reducible apply wpL_load1 (t := 22) kO22 HH.out); rfl; (first | exact .here | exact .there .here | exact .there (.there .here) | exact .there (.there (.there .here)) | exact .there (.there (.there (.there .here))) | exact .there (.there (.there (.there (.there .here)))) | exact .there (.there (.there (.there (.there (.there .here))))) | exact .there (.there (.there (.there (.there (.there (.there .here))))))); rfl; rfl)
        | ((with_reducible apply wpL_len (t := 22) Try.underlying22); rfl; rfl)
        | ((with_reducible apply wpL_len (t := 62) Try.underlying62); rfl; rfl)
        | ((with_reducible apply wpL_move); rfl; rfl)
        | ((with_reducible apply wpL_assign); rfl; rfl)
        | ((with_reducible apply wpL_pick); rfl; rfl; rfl)
        | ((with_reducible apply wpL_not); rfl; rfl)
        | ((with_reducible apply wpL_cmp (b := true)); rfl; rfl; rfl; (first | rfl | assumption | (simp only [cmpB, decide_eq_true_eq, decide_eq_false_iff_not, beq_iff_eq, bne_iff_ne, ne_eq, beq_eq_false_iff_ne, bne_eq_false_iff_eq, gt_iff_lt, ge_iff_le]; omega) | (simp; omega)); rfl)
        | ((with_reducible apply wpL_cmp (b := false)); rfl; rfl; rfl; (first | rfl | assumption | (simp only [cmpB, decide_eq_true_eq, decide_eq_false_iff_not, beq_iff_eq, bne_iff_ne, ne_eq, beq_eq_false_iff_ne, bne_eq_false_iff_eq, gt_iff_lt, ge_iff_le]; omega) | (simp; omega)); rfl)
        | ((with_reducible apply wpL_cmp); rfl; rfl; rfl; rfl; rfl)
        | ((with_reducible apply wpL_arith); rfl; rfl; rfl; (exact IntWalk.i64_in _ (by (try simp only [arithI]); omega)); rfl)); (try simp only [arithI, Act.put, Act.eval, List.setIfInBounds_toArray, List.set_cons_succ, List.set_cons_zero, Array.getD_eq_getD_getElem?, List.getElem?_toArray, List.getElem?_cons_succ, List.getElem?_cons_zero, Option.getD_some])))
  go_loopw [3, 11] (CatRel1 w ls) (fun _ i _ => ls.length - (intOf i).toNat)
  case atStart => exact ⟨0, Nat.zero_le _, rfl, by simp, HH.out⟩
  case round =>
    obtain ⟨k, hk1, rfl, rfl, hr⟩ := hrel
    clear HH
    have HH := hid hr
    clear hr
    obtain ⟨m, hm⟩ : ∃ m, (ls.take k).flatten.length = m := ⟨_, rfl⟩
    have hmN : m ≤ N := by rw [← hm, ← HN.out]; exact flat_le ls k
    have HM := hid hm
    rw [hm]
    clear hm
    by_cases hlt : k < ls.length
    · obtain ⟨u, hu, hbu⟩ := HCS.out k hlt
      obtain ⟨au, cu, rfl, _⟩ := hbu.shape
      obtain ⟨p, hp⟩ : ∃ p, ls.getD k [] = p := ⟨_, rfl⟩
      have hst := flat_step hlt hp
      have hmp : m + p.length ≤ N := by
        have h1 := flat_le ls (k + 1)
        rw [hst, List.length_append, HM.out, HN.out] at h1
        exact h1
      have HST := hid (show (ls.take (k + 1)).flatten.length = m + p.length by rw [hst, List.length_append, HM.out])
      rw [hp] at hu hbu
      have HU := hid hu
      clear hu hbu hp hst
      obtain ⟨ad, cap', e⟩ := HS.out.some (by omega)
      cases e
      go_wp2_with (first
        | ((first
            | ((with_reducible apply wpL_skip); rfl; skip)
            | ((with_reducible apply wpL_idxB (dst := some 13) (j := k) kE62); rfl; rfl; rfl; (exact hlt); rfl)
            | ((with_reducible apply wpL_loadAt (dst := some 14) (v := .slice au p.length cu) kO22); (have hc_ := (HH.out.sl HS.out).cell k (.slice au p.length cu) HU.out; exact hc_); rfl; rfl)
            | ((with_reducible apply wpL_nilCheck); rfl; rfl)
            | ((with_reducible apply wpL_load1 (t := 22) kO22 HH.out); rfl; (first | exact .here | exact .there .here | exact .there (.there .here) | exact .there (.there (.there .here)) | exact .there (.there (.there (.there .here))) | exact .there (.there (.there (.there (.there .here)))) | exact .there (.there (.there (.there (.there (.there .here))))) | exact .there (.there (.there (.there (.there (.there (.there .here))))))); rfl; rfl)
            | ((with_reducible apply wpL_len (t := 22) Try.underlying22); rfl; rfl)
            | ((with_reducible apply wpL_len (t := 62) Try.underlying62); rfl; rfl)
            | ((with_reducible apply wpL_move); rfl; rfl)
            | ((with_reducible apply wpL_assign); rfl; rfl)
            | ((with_reducible apply wpL_pick); rfl; rfl; rfl)
            | ((with_reducible apply wpL_not); rfl; rfl)
            | ((with_reducible apply wpL_cmp (b := true)); rfl; rfl; rfl; (first | rfl | assumption | (simp only [cmpB, decide_eq_true_eq, decide_eq_false_iff_not, beq_iff_eq, bne_iff_ne, ne_eq, beq_eq_false_iff_ne, bne_eq_false_iff_eq, gt_iff_lt, ge_iff_le]; omega) | (simp; omega)); rfl)
            | ((with_reducible apply wpL_cmp (b := false)); rfl; rfl; rfl; (first | rfl | assumption | (simp only [cmpB, decide_eq_true_eq, decide_eq_false_iff_not, beq_iff_eq, bne_iff_ne, ne_eq, beq_eq_false_iff_ne, bne_eq_false_iff_eq, gt_iff_lt, ge_iff_le]; omega) | (simp; omega)); rfl)
            | ((with_reducible apply wpL_cmp); rfl; rfl; rfl; rfl; rfl)
            | ((with_reducible apply wpL_arith); rfl; rfl; rfl; (exact IntWalk.i64_in _ (by (try simp only [arithI]); omega)); rfl)); (try simp only [arithI, Act.put, Act.eval, List.setIfInBounds_toArray, List.set_cons_succ, List.set_cons_zero, Array.getD_eq_getD_getElem?, List.getElem?_toArray, List.getElem?_cons_succ, List.getElem?_cons_zero, Option.getD_some])))
      go_roundw
      case rel => exact ⟨k + 1, by omega, by go_num, by rw [HST.out]; go_num, HH.out⟩
      case measure => simp [intOf]; omega
    · obtain rfl : k = ls.length := by omega
      have hmN2 : m = N := by rw [← HM.out, ← HN.out, List.take_length]
      subst hmN2
      clear HM
      go_wp2_with (first
        | ((first
            | ((with_reducible apply wpL_skip); rfl; skip)
            | (go_at_call 81; (with_reducible refine (growNil_any _ m h0 hn).mono ?_); rintro e_ w2_ ⟨ao2, G2, rfl, hr_, hb_⟩; (have hq_ := HH.out.addRow hb_ hr_); clear HH; have HH := hid hq_; clear hq_ hr_ hb_)
            | ((with_reducible apply wpL_nilCheck); rfl; rfl)
            | ((with_reducible apply wpL_load1 (t := 22) kO22 HH.out); rfl; (first | exact .here | exact .there .here | exact .there (.there .here) | exact .there (.there (.there .here)) | exact .there (.there (.there (.there .here))) | exact .there (.there (.there (.there (.there .here)))) | exact .there (.there (.there (.there (.there (.there .here))))) | exact .there (.there (.there (.there (.there (.there (.there .here))))))); rfl; rfl)
            | ((with_reducible apply wpL_len (t := 22) Try.underlying22); rfl; rfl)
            | ((with_reducible apply wpL_len (t := 62) Try.underlying62); rfl; rfl)
            | ((with_reducible apply wpL_move); rfl; rfl)
            | ((with_reducible apply wpL_assign); rfl; rfl)
            | ((with_reducible apply wpL_pick); rfl; rfl; rfl)
            | ((with_reducible apply wpL_not); rfl; rfl)
            | ((with_reducible apply wpL_cmp (b := true)); rfl; rfl; rfl; (first | rfl | assumption | (simp only [cmpB, decide_eq_true_eq, decide_eq_false_iff_not, beq_iff_eq, bne_iff_ne, ne_eq, beq_eq_false_iff_ne, bne_eq_false_iff_eq, gt_iff_lt, ge_iff_le]; omega) | (simp; omega)); rfl)
            | ((with_reducible apply wpL_cmp (b := false)); rfl; rfl; rfl; (first | rfl | assumption | (simp only [cmpB, decide_eq_true_eq, decide_eq_false_iff_not, beq_iff_eq, bne_iff_ne, ne_eq, beq_eq_false_iff_ne, bne_eq_false_iff_eq, gt_iff_lt, ge_iff_le]; omega) | (simp; omega)); rfl)
            | ((with_reducible apply wpL_cmp); rfl; rfl; rfl; rfl; rfl)
            | ((with_reducible apply wpL_arith); rfl; rfl; rfl; (exact IntWalk.i64_in _ (by (try simp only [arithI]); omega)); rfl)); (try simp only [arithI, Act.put, Act.eval, List.setIfInBounds_toArray, List.set_cons_succ, List.set_cons_zero, Array.getD_eq_getD_getElem?, List.getElem?_toArray, List.getElem?_cons_succ, List.getElem?_cons_zero, Option.getD_some])))
      go_loopw [6, 27] (CatRel2 w ls) (fun _ i _ => ls.length - (intOf i).toNat)
      case atStart => exact ⟨0, [], ao2, G2, Nat.zero_le _, rfl, by simp, rfl, HH.out⟩
      case round =>
        obtain ⟨k, l, ao3, cap3, hk1, rfl, hl, rfl, hr⟩ := hrel
        clear HH
        have HH := hid hr
        have HLK := hid hl
        clear hr hl
        have hlN : l.length ≤ m := by rw [HLK.out, ← HN.out]; exact flat_le ls k
        by_cases hlt : k < ls.length
        · obtain ⟨u, hu, hbu⟩ := HCS.out k hlt
          obtain ⟨au, cu, rfl, _⟩ := hbu.shape
          obtain ⟨p, hp⟩ : ∃ p, ls.getD k [] = p := ⟨_, rfl⟩
          have hst := flat_step hlt hp
          have hmp : l.length + p.length ≤ m := by
            have h1 := flat_le ls (k + 1)
            rw [hst, List.length_append, ← HLK.out, HN.out] at h1
            exact h1
          obtain ⟨l2, hl2⟩ : ∃ l2, l ++ p = l2 := ⟨_, rfl⟩
          have HL2 := hid hl2
          have HST := hid (show l2 = (ls.take (k + 1)).flatten by rw [hst, ← HLK.out, hl2])
          rw [hp] at hu hbu
          have HU := hid hu
          have HBU := hid hbu
          clear hu hbu hp hst hl2
          obtain ⟨ad, cap', e⟩ := HS.out.some (by omega)
          cases e
          go_wp2_with (first
            | ((first
                | ((with_reducible apply wpL_skip); rfl; skip)
                | ((with_reducible apply wpL_idxB (dst := some 29) (j := k) kE62); rfl; rfl; rfl; (exact hlt); rfl)
                | ((with_reducible apply wpL_loadAt (dst := some 30) (v := .slice au p.length cu) kO22); (have hc_ := (HH.out.sl HS.out).cell k (.slice au p.length cu) HU.out; exact hc_); rfl; rfl)
                | ((with_reducible apply wpL_appendBr (dst := some 33) (l := l) (l2 := p) (r := l2) HH.out (HH.out.sl HBU.out) HL2.out); rfl; rfl; (exact (by omega)); rfl; rfl; rfl; (intro ao4 cap4 w_ hq_; clear HH; have HH := hid hq_; clear hq_))
                | ((with_reducible apply wpL_nilCheck); rfl; rfl)
                | ((with_reducible apply wpL_load1 (t := 22) kO22 HH.out); rfl; (first | exact .here | exact .there .here | exact .there (.there .here) | exact .there (.there (.there .here)) | exact .there (.there (.there (.there .here))) | exact .there (.there (.there (.there (.there .here)))) | exact .there (.there (.there (.there (.there (.there .here))))) | exact .there (.there (.there (.there (.there (.there (.there .here))))))); rfl; rfl)
                | ((with_reducible apply wpL_len (t := 22) Try.underlying22); rfl; rfl)
                | ((with_reducible apply wpL_len (t := 62) Try.underlying62); rfl; rfl)
                | ((with_reducible apply wpL_move); rfl; rfl)
                | ((with_reducible apply wpL_assign); rfl; rfl)
                | ((with_reducible apply wpL_pick); rfl; rfl; rfl)
                | ((with_reducible apply wpL_not); rfl; rfl)
                | ((with_reducible apply wpL_cmp (b := true)); rfl; rfl; rfl; (first | rfl | assumption | (simp only [cmpB, decide_eq_true_eq, decide_eq_false_iff_not, beq_iff_eq, bne_iff_ne, ne_eq, beq_eq_false_iff_ne, bne_eq_false_iff_eq, gt_iff_lt, ge_iff_le]; omega) | (simp; omega)); rfl)
                | ((with_reducible apply wpL_cmp (b := false)); rfl; rfl; rfl; (first | rfl | assumption | (simp only [cmpB, decide_eq_true_eq, decide_eq_false_iff_not, beq_iff_eq, bne_iff_ne, ne_eq, beq_eq_false_iff_ne, bne_eq_false_iff_eq, gt_iff_lt, ge_iff_le]; omega) | (simp; omega)); rfl)
                | ((with_reducible apply wpL_cmp); rfl; rfl; rfl; rfl; rfl)
                | ((with_reducible apply wpL_arith); rfl; rfl; rfl; (exact IntWalk.i64_in _ (by (try simp only [arithI]); omega)); rfl)); (try simp only [arithI, Act.put, Act.eval, List.setIfInBounds_toArray, List.set_cons_succ, List.set_cons_zero, Array.getD_eq_getD_getElem?, List.getElem?_toArray, List.getElem?_cons_succ, List.getElem?_cons_zero, Option.getD_some])))
          go_roundw
          case rel => exact ⟨k + 1, l2, _, _, by omega, by go_num, HST.out, rfl, HH.out⟩
          case measure => simp [intOf]; omega
        · have HE := hid (show l = ls.flatten by rw [HLK.out, List.take_of_length_le (by omega)])
          go_wp2_with (first
            | ((first
                | ((with_reducible apply wpL_skip); rfl; skip)
                | ((with_reducible apply wpL_nilCheck); rfl; rfl)
                | ((with_reducible apply wpL_load1 (t := 22) kO22 HH.out); rfl; (first | exact .here | exact .there .here | exact .there (.there .here) | exact .there (.there (.there .here)) | exact .there (.there (.there (.there .here))) | exact .there (.there (.there (.there (.there .here)))) | exact .there (.there (.there (.there (.there (.there .here))))) | exact .there (.there (.there (.there (.there (.there (.there .here))))))); rfl; rfl)
                | ((with_reducible apply wpL_len (t := 22) Try.underlying22); rfl; rfl)
                | ((with_reducible apply wpL_len (t := 62) Try.underlying62); rfl; rfl)
                | ((with_reducible apply wpL_move); rfl; rfl)
                | ((with_reducible apply wpL_assign); rfl; rfl)
                | ((with_reducible apply wpL_pick); rfl; rfl; rfl)
                | ((with_reducible apply wpL_not); rfl; rfl)
                | ((with_reducible apply wpL_cmp (b := true)); rfl; rfl; rfl; (first | rfl | assumption | (simp only [cmpB, decide_eq_true_eq, decide_eq_false_iff_not, beq_iff_eq, bne_iff_ne, ne_eq, beq_eq_false_iff_ne, bne_eq_false_iff_eq, gt_iff_lt, ge_iff_le]; omega) | (simp; omega)); rfl)
                | ((with_reducible apply wpL_cmp (b := false)); rfl; rfl; rfl; (first | rfl | assumption | (simp only [cmpB, decide_eq_true_eq, decide_eq_false_iff_not, beq_iff_eq, bne_iff_ne, ne_eq, beq_eq_false_iff_ne, bne_eq_false_iff_eq, gt_iff_lt, ge_iff_le]; omega) | (simp; omega)); rfl)
                | ((with_reducible apply wpL_cmp); rfl; rfl; rfl; rfl; rfl)
                | ((with_reducible apply wpL_arith); rfl; rfl; rfl; (exact IntWalk.i64_in _ (by (try simp only [arithI]); omega)); rfl)); (try simp only [arithI, Act.put, Act.eval, List.setIfInBounds_toArray, List.set_cons_succ, List.set_cons_zero, Array.getD_eq_getD_getElem?, List.getElem?_toArray, List.getElem?_cons_succ, List.getElem?_cons_zero, Option.getD_some])))
          go_ret
          exact RetBy.of HE.out HH.out.own0 HH.out.below
end Go.Proofs.Ytgkfopodhikckaa

/- IndexByte of a constant, Unhex of ascii. Condition: a text of at most a million bytes. -/
namespace Go.Proofs.Ytgkfopodhikckaa
open Go.RowKit
section
variable {P : Program} {ops : Array Oper} {rest : List Oper} {a : Act} {dst : Option Tmp} {ty : TypeId} {pos : String} {after : Array Edge} {guard : Option (Nat × Bool)} {w w0 : World} {S : List Nat} {bs : List (Nat × Obj)} {rows : List Row} {Q : Exit → Act → World → Prop} {C : World → Prop} {K : Act → Prop}
/-- A function value is called. -/
theorem ex_callV {f : FuncId} (hf : Body P f) {x : Operand} {first cap : Array Value} {xs : Array Operand} {ats : Array TypeId} {args : Array Value} (hx : a.eval x = .func (.func f) first cap) (ha : first ++ (xs.toList.map a.eval).toArray ++ cap = args) (w : World) :
    (execOp a.eval { dst := dst, op := .call { callee := .value x, args := xs, argTypes := ats }, type := ty, pos := pos, after := after, guard := guard }).run P w = .ok (.enter f args) w := by
  obtain ⟨fn, c, h1, h2, h3⟩ := hf
  have h3' : ¬ fn.name = "runtime.NumGoroutine" := by simpa using h3
  have hm : (xs.toList.map a.eval).toArray = xs.map a.eval := by rw [← Array.toList_map, Array.toArray_toList]
  rw [hm] at ha
  simp only [execOp, resolve, hx, Deferred.ofValue, Sem.run_bind, Sem.run_pure, Result.andThen_ok, invoke, ha]
  simp [callFunc, h1, h2, h3']
theorem wpL_callV {f : FuncId} {args first cap : Array Value} {R : Ending → World → Prop} (hf : Body P f) {x : Operand} {xs : Array Operand} {ats : Array TypeId} (hx : a.eval x = .func (.func f) first cap) (ha : first ++ (xs.toList.map a.eval).toArray ++ cap = args)
    (hc : Calls P f args w R)
    (hg : Region.wanted { dst := dst, op := .call { callee := .value x, args := xs, argTypes := ats }, type := ty, pos := pos, after := after, guard := guard } (yielded ops a.tmps) = true)
    (h : ∀ e w', R e w' → ∃ v, e = .returned v ∧ wpList P ops Q rest (a.put dst v) w') : wpList P ops Q ({ dst := dst, op := .call { callee := .value x, args := xs, argTypes := ats }, type := ty, pos := pos, after := after, guard := guard } :: rest) a w :=
  wpList_step fun K hK => by
    rw [if_pos hg]
    unfold Oper.wp
    rw [ex_callV hf hx ha w]
    simp only [Oper.upon]
    exact hc.mono fun e w' hR => by
      obtain ⟨v, rfl, hv⟩ := h e w' hR
      exact hK _ _ hv
end
end Go.Proofs.Ytgkfopodhikckaa

/- Bytes divided, bytes as numbers, strings cut. Over any program. No condition. -/
namespace Go.Proofs.Ytgkfopodhikckaa
open Go.RowKit
section
variable {P : Program} {ops : Array Oper} {rest : List Oper} {a : Act} {dst : Option Tmp} {ty : TypeId} {pos : String} {after : Array Edge} {guard : Option (Nat × Bool)} {w w0 : World} {S : List Nat} {bs : List (Nat × Obj)} {rows : List Row} {Q : Exit → Act → World → Prop} {C : World → Prop} {K : Act → Prop}
theorem run_remB (t : TypeId) (m n : Nat) (hn : 0 < n) (w : World) : (binOp .rem t (.int .u8 (m : Int)) (.int .u8 (n : Int))).run P w = .ok (.int .u8 ((m % n : Nat) : Int)) w := by
  show (Op.intDiv .rem .u8 (m : Int) (n : Int)).run P w = _
  have h0 : ¬ (n : Int) = 0 := by omega
  have h1 : ((m : Int).tmod (n : Int)) = ((m % n : Nat) : Int) := by rw [IntWalk.rem_in _ _ (by omega)]; norm_cast
  simp only [Op.intDiv, h0, if_false, Sem.run_pure, h1]
end
/-- Bytes of a literal, in a region that draws its order. -/
theorem ex_buildB {P : Program} {ρ : Operand → Value} {dst : Option Tmp} {ty : TypeId} {pos : String} {after : Array Edge} {guard : Option (Nat × Bool)} {t : TypeId} (hE : Elem P t 5 1 1) (l : List UInt8) {parts : Array (Nat × Operand)} {n : Nat}
    (hn : n = l.length) (hp : (parts.toList.map fun p => (p.1, ρ p.2)) = ((l.map byt).zipIdx 0).map fun p => (p.2, p.1)) (hb : n ≤ 1000) (w : World) :
    ∃ v w', (execOp ρ { dst := dst, op := .buildSlice t n parts, type := ty, pos := pos, after := after, guard := guard }).run P w = .ok (.value v) w' ∧ Below w.heap.size w w' ∧
      ∀ base, base ≤ w.heap.size → (∃ ao, v = .slice ao n n) ∧ w'.ownsRow base 5 1 v n (l.map byt) := by
  have hv : ∀ v ∈ l.map byt, v.cells.size = 1 := by
    intro v hv
    obtain ⟨x, _, rfl⟩ := List.mem_map.1 hv
    rfl
  have h := run_buildSlice (P := P) hE (l.map byt) hv (by simp; omega) w
  have hx : (l.map byt).flatMap (·.cells.toList) = l.map byt := by
    clear hp hb hv h hn
    induction l with
    | nil => rfl
    | cons x l ih => simp only [List.map_cons, List.flatMap_cons, ih]; rfl
  rw [hx, List.length_map, ← hn] at h
  refine ⟨_, w.alloc (.cells (l.map byt).toArray 5), ?_, below_alloc w _, fun base hbase => ⟨⟨_, rfl⟩, by simp [hn], .inr ⟨w.heap.size, n, _, rfl, hbase, heap_alloc_new w _, Nat.le_refl _, by unfold maxLen; omega, by simp [hn], by rw [hn, Nat.mul_one]; exact List.take_of_length_le (by simp)⟩⟩⟩
  simp only [execOp, Sem.run_bind]
  rw [show (parts.map fun x => match x with | (i, y) => (i, ρ y)) = (parts.toList.map fun p => (p.1, ρ p.2)).toArray by rw [← Array.toList_map, Array.toArray_toList], hp, h]
  rfl
section
variable {P : Program} {w : World} {ρ : Operand → Value} {dst : Option Tmp} {ty : TypeId} {pos : String} {after : Array Edge} {guard : Option (Nat × Bool)}
end
end Go.Proofs.Ytgkfopodhikckaa

/- Join of merkle. No condition. -/
namespace Go.Proofs.Ytgkfopodhikckaa
open Go.RowKit
attribute [local irreducible] wpQuiet wpList
section
variable {P : Program} {w0 w : World} {S : List Nat} {bs bs' : List (Nat × Obj)} {rows : List Row} {ops : Array Oper} {rest : List Oper} {a : Act} {Q : Exit → Act → World → Prop} {ρ : Operand → Value} {dst : Option Tmp} {ty : TypeId} {pos : String} {after : Array Edge} {guard : Option (Nat × Bool)}
theorem ex_i2b {s d : TypeId} {z : TypeDesc} {x : Operand} {k : IntKind} {i : Int} (hs : P.underlying s = some z) (hd : P.underlying d = some (.int .u8)) (hx : ρ x = .int k i) (w : World) :
    (execOp ρ { dst := dst, op := .convert s d x, type := ty, pos := pos, after := after, guard := guard }).run P w = .ok (.value (byt (i2b i))) w := by
  simp only [execOp, hx, Sem.run_bind, run_i2b hs hd, Result.andThen_ok, Sem.run_pure]
theorem ex_sliceArr {t e : TypeId} {n sz : Nat} (ht : P.underlying t = some (.array n e)) (hz : (P.info? e).map (·.size) = some sz) {x : Operand} {g : Nat} (hx : ρ x = .pointer (some ⟨g, 0, none⟩)) (w : World) :
    (execOp ρ { dst := dst, op := .slice t x none none none, type := ty, pos := pos, after := after, guard := guard }).run P w = .ok (.value (.slice (some ⟨g, 0, none⟩) n n)) w := by
  simp [execOp, hx, Instr.sliceAt, Instr.slice, Instr.sliceBounds, Instr.sliceBound, asIntOf, run_underlying ht, run_sizeOf hz, Addr.add, Instr.sureAddr]
theorem wpL_buildP (va vb vc : Value) {parts : Array (Nat × Operand)} (ha : va.cells = #[va]) (hb : vb.cells = #[vb]) (hc : vc.cells = #[vc]) (hp : (parts.toList.map fun p => (p.1, a.eval p.2)) = [(0, va), (1, vb), (2, vc)]) (hH : Holds w0 S bs rows w)
    (hg : Region.wanted { dst := dst, op := .buildSlice 62 3 parts, type := ty, pos := pos, after := after, guard := guard } (yielded ops a.tmps) = true)
    (h : ∀ g w', Holds w0 S bs (⟨.slice (some ⟨g, 0, none⟩) 3 3, 22, 1, 3, [va, vb, vc]⟩ :: rows) w' → wpList Try.prog ops Q rest (a.put dst (.slice (some ⟨g, 0, none⟩) 3 3)) w') :
    wpList Try.prog ops Q ({ dst := dst, op := .buildSlice 62 3 parts, type := ty, pos := pos, after := after, guard := guard } :: rest) a w :=
  wpList_buildSlice kE62 [va, vb, vc] (by intro v hv; simp only [List.mem_cons, List.not_mem_nil, or_false] at hv; rcases hv with rfl | rfl | rfl <;> simp [ha, hb, hc]) (by simp) rfl hp hH (xs := [va, vb, vc]) (by simp [ha, hb, hc]) hg h
end
theorem pcs3 {w w0 : World} {lb : UInt8} {x y : Nd} {g4 g5 g6 gp ca : Nat} {aa : Option Addr} {o : Obj} {rows : List Row} (hx : x.1.length = 16) (hy : y.1.length = 16)
    (h : Holds w0 [] [(g6, o), (g5, objC y.cells 34), (g4, objC x.cells 34)] (⟨.slice (some ⟨gp, 0, none⟩) 3 3, 22, 1, 3, [.slice aa 2 ca, .slice (some ⟨g4, 0, none⟩) 16 16, .slice (some ⟨g5, 0, none⟩) 16 16]⟩ :: ⟨.slice aa 2 ca, 5, 1, 2, [1, lb].map byt⟩ :: rows) w) :
    Pcs w (.slice (some ⟨gp, 0, none⟩) 3 3) [[1, lb], x.1, y.1] := by
  have b0 : Byts w (.slice aa 2 ca) [1, lb] := h.sl1
  have b1 : Byts w (.slice (some ⟨g4, 0, none⟩) 16 16) x.1 := Byts.ofArrAll (x := x) h (.there (.there .here))
  have b2 : Byts w (.slice (some ⟨g5, 0, none⟩) 16 16) y.1 := Byts.ofArrAll (x := y) h (.there .here)
  refine ⟨_, h.sl0, fun i hi => ?_⟩
  match i, hi with
  | 0, _ => exact ⟨_, rfl, b0⟩
  | 1, _ => exact ⟨_, rfl, b1⟩
  | 2, _ => exact ⟨_, rfl, b2⟩
set_option maxRecDepth 100000 in
set_option maxHeartbeats 2000000 in
theorem join_any (w : World) (i : Int) (x y : Nd) : Calls Try.prog 37 #[.int .i64 i, x.val, y.val] w (RetA w (joinN i x y)) := by
  have HH := hid (Holds.init w)
  obtain ⟨lb, hlb⟩ : ∃ lb, i2b i = lb := ⟨_, rfl⟩
  have HLB := hid hlb
  obtain ⟨d, hd⟩ : ∃ d, joinN i x y = d := ⟨_, rfl⟩
  obtain ⟨fl, hfl⟩ : ∃ fl, [[1, lb], x.1, y.1].flatten = fl := ⟨_, rfl⟩
  have HFE := hid hfl
  have HD := hid (show hashN fl = d by rw [← hd, ← hfl, ← hlb]; unfold joinN; simp)
  have HX := hid x.2
  have HY := hid y.2
  have HFL := hid (show fl.length = 34 by rw [← hfl]; simp [x.2, y.2])
  rw [hd]
  clear hd hlb hfl
  go_enter Try.func37, Try.ntmps37
  go_wp2_with (first
    | ((first
        | ((with_reducible apply wpL_skip); rfl; skip)
        | ((with_reducible apply wpL_nilCheck); rfl; rfl)
        | ((with_reducible apply wpL_boxArr (dst := some 4)); rfl; (exact HH.out); rfl; (intro g4_ w_ hq_; (try simp only [List.set_cons_zero, List.set_cons_succ] at hq_); clear HH; have HH := hid hq_; clear hq_))
        | ((with_reducible apply wpL_boxArr (dst := some 5)); rfl; (exact HH.out); rfl; (intro g5_ w_ hq_; (try simp only [List.set_cons_zero, List.set_cons_succ] at hq_); clear HH; have HH := hid hq_; clear hq_))
        | ((with_reducible apply wpL_allocC (dst := some 6) kZ34 HH.out); rfl; (intro g6_ w_ hq_; (try simp only [List.set_cons_zero, List.set_cons_succ] at hq_); clear HH; have HH := hid hq_; clear hq_))
        | ((with_reducible apply wpL_storeArr (t := 34) kS34 HH.out); rfl; rfl; (first | exact .here | exact .there .here | exact .there (.there .here) | exact .there (.there (.there .here)) | exact .there (.there (.there (.there .here))) | exact .there (.there (.there (.there (.there .here)))) | exact .there (.there (.there (.there (.there (.there .here))))) | exact .there (.there (.there (.there (.there (.there (.there .here))))))); (first | rfl | exact Arr.len _ | (simp; done)); rfl; (intro w_ hq_; (try simp only [List.set_cons_zero, List.set_cons_succ] at hq_); clear HH; have HH := hid hq_; clear hq_))
        | ((with_reducible apply wpL_storeC (t := 34)); rfl; rfl; (exact kS34); (exact HH.out); (first | exact .here | exact .there .here | exact .there (.there .here) | exact .there (.there (.there .here)) | exact .there (.there (.there (.there .here))) | exact .there (.there (.there (.there (.there .here)))) | exact .there (.there (.there (.there (.there (.there .here))))) | exact .there (.there (.there (.there (.there (.there (.there .here))))))); (first | rfl | exact Arr.len _ | (simp; done)); (first | rfl | (intro u_ hu_; simp only [List.mem_cons, List.not_mem_nil, or_false] at hu_; rcases hu_ with rfl | hu_; rfl) | exact byt_cell1 _ | exact cells_one _ | exact wrd_one _ | exact flat_cell1 _); (first | rfl | exact Arr.len _ | (simp; done)); rfl; (intro w_ hq_; (try simp only [List.set_cons_zero, List.set_cons_succ] at hq_); clear HH; have HH := hid hq_; clear hq_))
        | ((with_reducible apply wpL_move); rfl; rfl)
        | ((with_reducible apply wpL_assign); rfl; rfl)
        | ((with_reducible apply wpL_pick); rfl; rfl; rfl)
        | ((with_reducible apply wpL_not); rfl; rfl)
        | ((with_reducible apply wpL_cmp (b := true)); rfl; rfl; rfl; (first | rfl | assumption | (simp only [cmpB, decide_eq_true_eq, decide_eq_false_iff_not, beq_iff_eq, bne_iff_ne, ne_eq, beq_eq_false_iff_ne, bne_eq_false_iff_eq, gt_iff_lt, ge_iff_le]; omega) | (simp; omega)); rfl)
        | ((with_reducible apply wpL_cmp (b := false)); rfl; rfl; rfl; (first | rfl | assumption | (simp only [cmpB, decide_eq_true_eq, decide_eq_false_iff_not, beq_iff_eq, bne_iff_ne, ne_eq, beq_eq_false_iff_ne, bne_eq_false_iff_eq, gt_iff_lt, ge_iff_le]; omega) | (simp; omega)); rfl)
        | ((with_reducible apply wpL_cmp); rfl; rfl; rfl; rfl; rfl)
        | ((with_reducible apply wpL_arith); rfl; rfl; rfl; (exact IntWalk.i64_in _ (by (try simp only [arithI]); omega)); rfl)); (try simp only [arithI, Act.put, Act.eval, List.setIfInBounds_toArray, List.set_cons_succ, List.set_cons_zero, Array.getD_eq_getD_getElem?, List.getElem?_toArray, List.getElem?_cons_succ, List.getElem?_cons_zero, Option.getD_some])))
  refine wp_region_tailR 5 [Asr.is (.int .i64 i), Asr.is (byt lb), Asr.full w_.heap.size 5 1 2 ([1, lb].map byt), Asr.is (.slice (some ⟨g4_, 0, none⟩) 16 16), Asr.is (.slice (some ⟨g5_, 0, none⟩) 16 16)] HH.out (by kernel_rfl) (by kernel_rfl) (by kernel_rfl) rfl ?_ ?_
  all_goals simp only [List.take_succ_cons, List.take_zero, List.drop_succ_cons, List.drop_zero]
  · refine eachD_cons ?_ (eachD_cons ?_ (eachD_cons ?_ (eachD_cons ?_ (eachD_cons ?_ (eachD_nil)))))
    · intro a_ w1 hI hF hS
      have e0 : a_.eval (.tmp 0) = (.int .i64 i) := (hF.2.2 0 (notDst_of (by kernel_rfl))).trans rfl
      refine wantD (by rfl) ?_
      exact op_val rfl (ex_move rfl w1) e0
    · intro a_ w1 hI hF hS
      have e7 : a_.eval (.tmp 7) = (.int .i64 i) := hS ⟨0, .data⟩ (by simp) rfl _ rfl
      refine wantD (by rfl) ?_
      exact op_val rfl (ex_i2b Try.underlying3 Try.underlying5 e7 w1) (congrArg byt HLB.out)
    · intro a_ w1 hI hF hS
      have e8 : a_.eval (.tmp 8) = (byt lb) := hS ⟨1, .data⟩ (by simp) rfl _ rfl
      refine wantD (by rfl) ?_
      obtain ⟨v_, w_, hr_, hb_, hA_⟩ := ex_buildB (ρ := a_.eval) kE22 [1, lb] (parts := #[(0, .const (.int .u8 1)), (1, .tmp 8)]) (n := 2) rfl (by show [(0, a_.eval (.const (.int .u8 1))), (1, a_.eval (.tmp 8))] = _; rw [e8]; rfl) (by decide) w1; exact op_new rfl hr_ hb_ (hA_ _ hI.2.size)
    · intro a_ w1 hI hF hS
      have e4 : a_.eval (.tmp 4) = (.pointer (some ⟨g4_, 0, none⟩)) := (hF.2.2 4 (notDst_of (by kernel_rfl))).trans rfl
      refine wantD (by rfl) ?_
      exact op_val rfl (ex_sliceArr Try.underlying34 kS5 e4 w1) rfl
    · intro a_ w1 hI hF hS
      have e5 : a_.eval (.tmp 5) = (.pointer (some ⟨g5_, 0, none⟩)) := (hF.2.2 5 (notDst_of (by kernel_rfl))).trans rfl
      refine wantD (by rfl) ?_
      exact op_val rfl (ex_sliceArr Try.underlying34 kS5 e5 w1) rfl
  intro wq hq_ hb_
  intro v0_ h0_ v1_ h1_ v2_ h2_ v3_ h3_ v4_ h4_
  have q_ : v0_ = (.int .i64 i) := h0_; clear h0_; subst q_
  have q_ : v1_ = (byt lb) := h1_; clear h1_; subst q_
  have K2 := hid h2_; clear h2_
  have q_ : v3_ = (.slice (some ⟨g4_, 0, none⟩) 16 16) := h3_; clear h3_; subst q_
  have q_ : v4_ = (.slice (some ⟨g5_, 0, none⟩) 16 16) := h4_; clear h4_; subst q_
  simp only [endD, putsD, Act.put, List.setIfInBounds_toArray, List.set_cons_succ, List.set_cons_zero]
  have HQ := hid hq_; clear hq_
  have HB_ := hid hb_; clear hb_
  obtain ⟨aa, ca, rfl⟩ := row_shape K2.out.2
  have hq2_ := HH.out.addRow HB_.out K2.out.2
  clear HH HQ K2 HB_
  have HH := hid hq2_
  clear hq2_
  go_wp2_with (first
    | ((first
        | ((with_reducible apply wpL_skip); rfl; skip)
        | ((with_reducible apply wpL_buildP (.slice aa 2 ca) (.slice (some ⟨g4_, 0, none⟩) 16 16) (.slice (some ⟨g5_, 0, none⟩) 16 16) rfl rfl rfl); rfl; (exact HH.out); rfl; (intro gp w_ hq_; clear HH; have HH := hid hq_; clear hq_))
        | (go_at_call 66; (have hcall_ := hid (concat_any _ (.slice (some ⟨gp, 0, none⟩) 3 3) [[1, lb], x.1, y.1] (pcs3 HX.out HY.out HH.out) (by simp) (by rw [HFE.out, HFL.out]; decide) (by rw [HFE.out, HFL.out]; decide))); (with_reducible refine hcall_.out.mono ?_); clear hcall_; rw [HFE.out]; rintro e_ w2_ ⟨ao3, cap3, rfl, hr_, hb_⟩; (have hq_ := HH.out.addRow hb_ hr_); clear HH; have HH := hid hq_; clear hq_ hr_ hb_)
        | (go_at_call 65; (have hcall_ := hid (hash_any _ _ fl HH.out.sl0 (by rw [HFL.out]; decide))); (with_reducible refine hcall_.out.mono ?_); clear hcall_; rw [HD.out]; rintro e_ w2_ ⟨rfl, hb_⟩; (have hq_ := HH.out.grow hb_); clear HH; have HH := hid hq_; clear hq_ hb_)
        | ((with_reducible apply wpL_storeC (t := 34) (vs := d.cells)); rfl; rfl; (exact kS34); (exact HH.out); (exact .here); (exact Arr.len _); (exact cells_one _); (exact Arr.len _); rfl; (intro w_ hq_; clear HH; have HH := hid hq_; clear hq_))
        | ((with_reducible apply wpL_nilCheck); rfl; rfl)
        | ((with_reducible apply wpL_boxArr (dst := some 4)); rfl; (exact HH.out); rfl; (intro g4_ w_ hq_; (try simp only [List.set_cons_zero, List.set_cons_succ] at hq_); clear HH; have HH := hid hq_; clear hq_))
        | ((with_reducible apply wpL_boxArr (dst := some 5)); rfl; (exact HH.out); rfl; (intro g5_ w_ hq_; (try simp only [List.set_cons_zero, List.set_cons_succ] at hq_); clear HH; have HH := hid hq_; clear hq_))
        | ((with_reducible apply wpL_allocC (dst := some 6) kZ34 HH.out); rfl; (intro g6_ w_ hq_; (try simp only [List.set_cons_zero, List.set_cons_succ] at hq_); clear HH; have HH := hid hq_; clear hq_))
        | ((with_reducible apply wpL_storeArr (t := 34) kS34 HH.out); rfl; rfl; (first | exact .here | exact .there .here | exact .there (.there .here) | exact .there (.there (.there .here)) | exact .there (.there (.there (.there .here))) | exact .there (.there (.there (.there (.there .here)))) | exact .there (.there (.there (.there (.there (.there .here))))) | exact .there (.there (.there (.there (.there (.there (.there .here))))))); (first | rfl | exact Arr.len _ | (simp; done)); rfl; (intro w_ hq_; (try simp only [List.set_cons_zero, List.set_cons_succ] at hq_); clear HH; have HH := hid hq_; clear hq_))
        | ((with_reducible apply wpL_storeC (t := 34)); rfl; rfl; (exact kS34); (exact HH.out); (first | exact .here | exact .there .here | exact .there (.there .here) | exact .there (.there (.there .here)) | exact .there (.there (.there (.there .here))) | exact .there (.there (.there (.there (.there .here)))) | exact .there (.there (.there (.there (.there (.there .here))))) | exact .there (.there (.there (.there (.there (.there (.there .here))))))); (first | rfl | exact Arr.len _ | (simp; done)); (first | rfl | (intro u_ hu_; simp only [List.mem_cons, List.not_mem_nil, or_false] at hu_; rcases hu_ with rfl | hu_; rfl) | exact byt_cell1 _ | exact cells_one _ | exact wrd_one _ | exact flat_cell1 _); (first | rfl | exact Arr.len _ | (simp; done)); rfl; (intro w_ hq_; (try simp only [List.set_cons_zero, List.set_cons_succ] at hq_); clear HH; have HH := hid hq_; clear hq_))
        | ((with_reducible apply wpL_move); rfl; rfl)
        | ((with_reducible apply wpL_assign); rfl; rfl)
        | ((with_reducible apply wpL_pick); rfl; rfl; rfl)
        | ((with_reducible apply wpL_not); rfl; rfl)
        | ((with_reducible apply wpL_cmp (b := true)); rfl; rfl; rfl; (first | rfl | assumption | (simp only [cmpB, decide_eq_true_eq, decide_eq_false_iff_not, beq_iff_eq, bne_iff_ne, ne_eq, beq_eq_false_iff_ne, bne_eq_false_iff_eq, gt_iff_lt, ge_iff_le]; omega) | (simp; omega)); rfl)
        | ((with_reducible apply wpL_cmp (b := false)); rfl; rfl; rfl; (first | rfl | assumption | (simp only [cmpB, decide_eq_true_eq, decide_eq_false_iff_not, beq_iff_eq, bne_iff_ne, ne_eq, beq_eq_false_iff_ne, bne_eq_false_iff_eq, gt_iff_lt, ge_iff_le]; omega) | (simp; omega)); rfl)
        | ((with_reducible apply wpL_cmp); rfl; rfl; rfl; rfl; rfl)
        | ((with_reducible apply wpL_arith); rfl; rfl; rfl; (exact IntWalk.i64_in _ (by (try simp only [arithI]); omega)); rfl)); (try simp only [arithI, Act.put, Act.eval, List.setIfInBounds_toArray, List.set_cons_succ, List.set_cons_zero, Array.getD_eq_getD_getElem?, List.getElem?_toArray, List.getElem?_cons_succ, List.getElem?_cons_zero, Option.getD_some])))
  refine bodyPost_ret (res1 rfl (resC kA34 HH.out (by rfl) .here (Arr.len _))) rfl ?_
  exact ⟨rfl, HH.out.below⟩
end Go.Proofs.Ytgkfopodhikckaa

/- Join of the reference. No condition. -/
namespace Go.Proofs.Ytgkfopodhikckaa
open Go.RowKit
attribute [local irreducible] wpQuiet wpList
end Go.Proofs.Ytgkfopodhikckaa

/- The levels of a tree, plainly; check and Clone of merkle. Condition: at most 2^47 bytes. -/
namespace Go.Proofs.Ytgkfopodhikckaa
open Go.RowKit
attribute [local irreducible] wpQuiet wpList
theorem Holds.perm {w0 w : World} {S : List Nat} {bs : List (Nat × Obj)} {rows rows' : List Row} (h : Holds w0 S bs rows w) (hp : rows.Perm rows') : Holds w0 S bs rows' w :=
  ⟨h.os, h.tape, h.output, h.size, h.old, h.blk, h.frs, fun x hx => h.row x (hp.mem_iff.2 hx), (List.Perm.nodup_iff (List.Perm.append_left _ (hp.filterMap _))).1 h.sep, h.inS⟩
/-- The next level. -/
def upL (lev : Nat) : List Nd → List Nd
  | x :: y :: r => joinN (lev : Int) x y :: upL lev r
  | _ => []
theorem upL_len (lev : Nat) : ∀ (n : Nat) (l : List Nd), l.length = 2 * n → (upL lev l).length = n
  | 0, [], _ => rfl
  | 0, _ :: _, h => by simp at h
  | n + 1, [], h => by simp at h
  | n + 1, [_], h => by simp at h; omega
  | n + 1, x :: y :: r, h => by
    have : (upL lev r).length = n := upL_len lev n r (by simp at h; omega)
    simp [upL, this]
theorem upL_get (lev : Nat) : ∀ (l : List Nd) (j : Nat), 2 * j + 1 < l.length → (upL lev l)[j]? = some (joinN lev (l.getD (2 * j) Nd0) (l.getD (2 * j + 1) Nd0))
  | [], j, h => by simp at h
  | [_], j, h => by simp at h
  | x :: y :: r, 0, h => by simp [upL]
  | x :: y :: r, j + 1, h => by
    rw [upL, List.getElem?_cons_succ, upL_get lev r j (by simp at h; omega)]
    rfl
/-- Level k of the tree. -/
def levAt (l : List Nd) : Nat → List Nd
  | 0 => l
  | k + 1 => upL (k + 1) (levAt l k)
theorem levAt_len {l : List Nd} {h : Nat} (hl : l.length = 2 ^ h) : ∀ k, k ≤ h → (levAt l k).length = 2 ^ (h - k)
  | 0, _ => hl
  | k + 1, hk => by
    have ih := levAt_len hl k (by omega)
    rw [levAt]
    refine upL_len _ _ _ ?_
    rw [ih, show h - k = (h - (k + 1)) + 1 by omega, Nat.pow_succ]
    omega
/-- What check answers. -/
def checkC (n : Nat) : Int := if n = 0 then 1 else if 1024 < n then 9 else if n &&& (n - 1) = 0 then 0 else 2
theorem pow_all : ∀ n : Fin 1025, n.1 ≠ 0 → n.1 &&& (n.1 - 1) = 0 → (List.range 11).any fun h => n.1 == 2 ^ h := by decide +kernel
theorem check_pow {n : Nat} (h : checkC n = 0) : ∃ k, k ≤ 10 ∧ n = 2 ^ k := by
  unfold checkC at h
  split at h
  · cases h
  · split at h
    · cases h
    · split at h
      · rename_i h0 h1 h2
        have := pow_all ⟨n, by omega⟩ h0 h2
        obtain ⟨k, hk, hn⟩ := List.any_eq_true.1 this
        exact ⟨k, by simp at hk; omega, by simpa using hn⟩
      · cases h
def RetI (w : World) (n : Int) (e : Ending) (w' : World) : Prop := e = .returned (.int .i64 n) ∧ Below w.heap.size w w'
theorem RetI.mk {w w' : World} {b c : Int} (h : b = c) (hb : Below w.heap.size w w') : RetI w c (.returned (.int .i64 b)) w' := ⟨by rw [h], hb⟩
set_option maxRecDepth 100000 in
set_option maxHeartbeats 2000000 in
theorem check_any (w : World) (v : Value) (l : List Nd) (hl : Arrs w v l) (hn : l.length ≤ 1000000000) : Calls Try.prog 67 #[v] w (RetI w (checkC l.length)) := by
  obtain ⟨ao, cap, rfl, hc⟩ := hl.shape
  clear hl
  obtain ⟨n, hln⟩ : ∃ n, l.length = n := ⟨_, rfl⟩
  rw [hln] at hn hc
  rw [hln]
  clear hln
  have HH := hid (Holds.init w)
  by_cases h0 : n = 0
  · have e : checkC n = 1 := by unfold checkC; rw [if_pos h0]
    rw [e]
    clear e
    go_enter Try.func67, Try.ntmps67
    go_wp2_with (first
      | ((first
          | ((with_reducible apply wpL_skip); rfl; skip)
          | ((with_reducible apply wpL_nilCheck); rfl; rfl)
          | ((with_reducible apply wpL_len (t := 46) Try.underlying46); rfl; rfl)
          | ((with_reducible apply wpL_move); rfl; rfl)
          | ((with_reducible apply wpL_assign); rfl; rfl)
          | ((with_reducible apply wpL_pick); rfl; rfl; rfl)
          | ((with_reducible apply wpL_not); rfl; rfl)
          | ((with_reducible apply wpL_cmp (b := true)); rfl; rfl; rfl; (first | rfl | assumption | (simp only [cmpB, decide_eq_true_eq, decide_eq_false_iff_not, beq_iff_eq, bne_iff_ne, ne_eq, beq_eq_false_iff_ne, bne_eq_false_iff_eq, gt_iff_lt, ge_iff_le]; omega) | (simp; omega)); rfl)
          | ((with_reducible apply wpL_cmp (b := false)); rfl; rfl; rfl; (first | rfl | assumption | (simp only [cmpB, decide_eq_true_eq, decide_eq_false_iff_not, beq_iff_eq, bne_iff_ne, ne_eq, beq_eq_false_iff_ne, bne_eq_false_iff_eq, gt_iff_lt, ge_iff_le]; omega) | (simp; omega)); rfl)
          | ((with_reducible apply wpL_cmp); rfl; rfl; rfl; rfl; rfl)
          | ((with_reducible apply wpL_arith); rfl; rfl; rfl; (exact IntWalk.i64_in _ (by (try simp only [arithI]); omega)); rfl)); (try simp only [arithI, Act.put, Act.eval, List.setIfInBounds_toArray, List.set_cons_succ, List.set_cons_zero, Array.getD_eq_getD_getElem?, List.getElem?_toArray, List.getElem?_cons_succ, List.getElem?_cons_zero, Option.getD_some])))
    go_ret
    exact RetI.mk rfl HH.out.below
  · by_cases h1 : 1024 < n
    · have e : checkC n = 9 := by unfold checkC; rw [if_neg h0, if_pos h1]
      rw [e]
      clear e
      go_enter Try.func67, Try.ntmps67
      go_wp2_with (first
        | ((first
            | ((with_reducible apply wpL_skip); rfl; skip)
            | ((with_reducible apply wpL_nilCheck); rfl; rfl)
            | ((with_reducible apply wpL_len (t := 46) Try.underlying46); rfl; rfl)
            | ((with_reducible apply wpL_move); rfl; rfl)
            | ((with_reducible apply wpL_assign); rfl; rfl)
            | ((with_reducible apply wpL_pick); rfl; rfl; rfl)
            | ((with_reducible apply wpL_not); rfl; rfl)
            | ((with_reducible apply wpL_cmp (b := true)); rfl; rfl; rfl; (first | rfl | assumption | (simp only [cmpB, decide_eq_true_eq, decide_eq_false_iff_not, beq_iff_eq, bne_iff_ne, ne_eq, beq_eq_false_iff_ne, bne_eq_false_iff_eq, gt_iff_lt, ge_iff_le]; omega) | (simp; omega)); rfl)
            | ((with_reducible apply wpL_cmp (b := false)); rfl; rfl; rfl; (first | rfl | assumption | (simp only [cmpB, decide_eq_true_eq, decide_eq_false_iff_not, beq_iff_eq, bne_iff_ne, ne_eq, beq_eq_false_iff_ne, bne_eq_false_iff_eq, gt_iff_lt, ge_iff_le]; omega) | (simp; omega)); rfl)
            | ((with_reducible apply wpL_cmp); rfl; rfl; rfl; rfl; rfl)
            | ((with_reducible apply wpL_arith); rfl; rfl; rfl; (exact IntWalk.i64_in _ (by (try simp only [arithI]); omega)); rfl)); (try simp only [arithI, Act.put, Act.eval, List.setIfInBounds_toArray, List.set_cons_succ, List.set_cons_zero, Array.getD_eq_getD_getElem?, List.getElem?_toArray, List.getElem?_cons_succ, List.getElem?_cons_zero, Option.getD_some])))
      go_ret
      exact RetI.mk rfl HH.out.below
    · obtain ⟨c, hc⟩ : ∃ c, n &&& (n - 1) = c := ⟨_, rfl⟩
      have HC := hid hc
      have hcn : c ≤ 1024 := by rw [← hc]; exact Nat.le_trans Nat.and_le_left (by omega)
      have HN1 := hid (show ((n : Int) - 1) = ((n - 1 : Nat) : Int) by omega)
      have HB1 := hid (show n < 2 ^ IntKind.i64.bits from Nat.lt_of_lt_of_le (show n < 1025 by omega) (by decide))
      have HB2 := hid (show n - 1 < 2 ^ IntKind.i64.bits from Nat.lt_of_lt_of_le (show n - 1 < 1025 by omega) (by decide))
      have HW := hid (show IntKind.i64.wrap ((c : Nat) : Int) = (c : Int) from IntWalk.i64_in _ (by omega))
      by_cases hz : c = 0
      · have e : checkC n = 0 := by unfold checkC; rw [if_neg h0, if_neg h1, if_pos (by rw [hc]; exact hz)]
        rw [e]
        clear e hc
        go_enter Try.func67, Try.ntmps67
        go_wp2_with (first
          | ((first
              | ((with_reducible apply wpL_skip); rfl; skip)
              | ((with_reducible apply wpL_and (m := n) (n := n - 1) (r := c)); rfl; rfl; rfl; (exact HN1.out); (exact HB1.out); (exact HB2.out); (exact HC.out); (exact HW.out); rfl)
              | ((with_reducible apply wpL_nilCheck); rfl; rfl)
              | ((with_reducible apply wpL_len (t := 46) Try.underlying46); rfl; rfl)
              | ((with_reducible apply wpL_move); rfl; rfl)
              | ((with_reducible apply wpL_assign); rfl; rfl)
              | ((with_reducible apply wpL_pick); rfl; rfl; rfl)
              | ((with_reducible apply wpL_not); rfl; rfl)
              | ((with_reducible apply wpL_cmp (b := true)); rfl; rfl; rfl; (first | rfl | assumption | (simp only [cmpB, decide_eq_true_eq, decide_eq_false_iff_not, beq_iff_eq, bne_iff_ne, ne_eq, beq_eq_false_iff_ne, bne_eq_false_iff_eq, gt_iff_lt, ge_iff_le]; omega) | (simp; omega)); rfl)
              | ((with_reducible apply wpL_cmp (b := false)); rfl; rfl; rfl; (first | rfl | assumption | (simp only [cmpB, decide_eq_true_eq, decide_eq_false_iff_not, beq_iff_eq, bne_iff_ne, ne_eq, beq_eq_false_iff_ne, bne_eq_false_iff_eq, gt_iff_lt, ge_iff_le]; omega) | (simp; omega)); rfl)
              | ((with_reducible apply wpL_cmp); rfl; rfl; rfl; rfl; rfl)
              | ((with_reducible apply wpL_arith); rfl; rfl; rfl; (exact IntWalk.i64_in _ (by (try simp only [arithI]); omega)); rfl)); (try simp only [arithI, Act.put, Act.eval, List.setIfInBounds_toArray, List.set_cons_succ, List.set_cons_zero, Array.getD_eq_getD_getElem?, List.getElem?_toArray, List.getElem?_cons_succ, List.getElem?_cons_zero, Option.getD_some])))
        go_ret
        exact RetI.mk rfl HH.out.below
      · have e : checkC n = 2 := by unfold checkC; rw [if_neg h0, if_neg h1, if_neg (by rw [hc]; exact hz)]
        rw [e]
        clear e hc
        go_enter Try.func67, Try.ntmps67
        go_wp2_with (first
          | ((first
              | ((with_reducible apply wpL_skip); rfl; skip)
              | ((with_reducible apply wpL_and (m := n) (n := n - 1) (r := c)); rfl; rfl; rfl; (exact HN1.out); (exact HB1.out); (exact HB2.out); (exact HC.out); (exact HW.out); rfl)
              | ((with_reducible apply wpL_nilCheck); rfl; rfl)
              | ((with_reducible apply wpL_len (t := 46) Try.underlying46); rfl; rfl)
              | ((with_reducible apply wpL_move); rfl; rfl)
              | ((with_reducible apply wpL_assign); rfl; rfl)
              | ((with_reducible apply wpL_pick); rfl; rfl; rfl)
              | ((with_reducible apply wpL_not); rfl; rfl)
              | ((with_reducible apply wpL_cmp (b := true)); rfl; rfl; rfl; (first | rfl | assumption | (simp only [cmpB, decide_eq_true_eq, decide_eq_false_iff_not, beq_iff_eq, bne_iff_ne, ne_eq, beq_eq_false_iff_ne, bne_eq_false_iff_eq, gt_iff_lt, ge_iff_le]; omega) | (simp; omega)); rfl)
              | ((with_reducible apply wpL_cmp (b := false)); rfl; rfl; rfl; (first | rfl | assumption | (simp only [cmpB, decide_eq_true_eq, decide_eq_false_iff_not, beq_iff_eq, bne_iff_ne, ne_eq, beq_eq_false_iff_ne, bne_eq_false_iff_eq, gt_iff_lt, ge_iff_le]; omega) | (simp; omega)); rfl)
              | ((with_reducible apply wpL_cmp); rfl; rfl; rfl; rfl; rfl)
              | ((with_reducible apply wpL_arith); rfl; rfl; rfl; (exact IntWalk.i64_in _ (by (try simp only [arithI]); omega)); rfl)); (try simp only [arithI, Act.put, Act.eval, List.setIfInBounds_toArray, List.set_cons_succ, List.set_cons_zero, Array.getD_eq_getD_getElem?, List.getElem?_toArray, List.getElem?_cons_succ, List.getElem?_cons_zero, Option.getD_some])))
        go_ret
        exact RetI.mk rfl HH.out.below
/-- A slice of arrays, new. -/
def RetAs {n : Nat} (E : TypeId) (w : World) (l : List (Arr n)) (e : Ending) (w' : World) : Prop :=
  ∃ ao cap, e = .returned (.slice ao l.length cap) ∧ w'.ownsRow w.heap.size E n (.slice ao l.length cap) l.length (flat l) ∧ Below w.heap.size w w'
theorem RetAs.of {n : Nat} {E : TypeId} {w w' : World} {l m : List (Arr n)} {ao : Option Addr} {cap : Nat} (h : l = m) (ho : w'.ownsRow w.heap.size E n (.slice ao l.length cap) l.length (flat l)) (hb : Below w.heap.size w w') : RetAs E w m (.returned (.slice ao l.length cap)) w' := by
  subst h; exact ⟨_, _, rfl, ho, hb⟩
set_option maxRecDepth 100000 in
set_option maxHeartbeats 2000000 in
theorem cloneN_any (w : World) (v : Value) (l : List Nd) (hl : Arrs w v l) (hn : l.length ≤ 1000000000) : Calls Try.prog 82 #[v] w (RetAs 34 w l) := by
  obtain ⟨ao, cap, rfl, _⟩ := hl.shape
  have HH := hid (Holds.init w)
  have qT : ∀ (w : World) (a : Option Addr) (n c n' c' : Nat), (binOp .eql 46 (.slice a n c) (.slice none n' c')).run Try.prog w = .ok (.bool a.isNone) w := fun w a n c n' c' => Lib.run_eql_slice_nil w _ _ a n c n' c' Try.underlying46
  cases ao with
  | none =>
    have h0 : l = [] := by
      cases l with
      | nil => rfl
      | cons x l => obtain ⟨a, c, e⟩ := hl.some (by simp); cases e
    subst h0
    go_enter Try.func82, Try.ntmps82
    go_wp2
    go_ret
    exact ⟨none, 0, rfl, by simpa [flat] using World.ownsRow_nil w w.heap.size 34 16, Below.refl _ _⟩
  | some a =>
    have HL := hid hl
    clear hl
    go_enter Try.func82, Try.ntmps82
    go_wp2_with (first
      | ((first
          | ((with_reducible apply wpL_skip); rfl; skip)
          | ((with_reducible apply wpList_buildArr kE46 ([] : List Nd) HH.out); rfl; rfl; (exact (by decide)); rfl; (intro g_ w_ hq_; clear HH; have HH := hid hq_; clear hq_))
          | ((with_reducible apply wpL_appendA (n := 0) (l := ([] : List Nd)) (l2 := l) (r := l) kE46 HH.out (HH.out.sl HL.out) (List.nil_append l)); rfl; rfl; (exact (by simp; omega)); rfl; rfl; rfl; (intro ao1 cap1 w_ hq_; clear HH; have HH := hid hq_; clear hq_))
          | ((with_reducible apply wpL_nilCheck); rfl; rfl)
          | ((with_reducible apply wpL_move); rfl; rfl)
          | ((with_reducible apply wpL_assign); rfl; rfl)
          | ((with_reducible apply wpL_pick); rfl; rfl; rfl)
          | ((with_reducible apply wpL_not); rfl; rfl)
          | ((with_reducible apply wpL_cmp (b := true)); rfl; rfl; rfl; (first | rfl | assumption | (simp only [cmpB, decide_eq_true_eq, decide_eq_false_iff_not, beq_iff_eq, bne_iff_ne, ne_eq, beq_eq_false_iff_ne, bne_eq_false_iff_eq, gt_iff_lt, ge_iff_le]; omega) | (simp; omega)); rfl)
          | ((with_reducible apply wpL_cmp (b := false)); rfl; rfl; rfl; (first | rfl | assumption | (simp only [cmpB, decide_eq_true_eq, decide_eq_false_iff_not, beq_iff_eq, bne_iff_ne, ne_eq, beq_eq_false_iff_ne, bne_eq_false_iff_eq, gt_iff_lt, ge_iff_le]; omega) | (simp; omega)); rfl)
          | ((with_reducible apply wpL_cmp); rfl; rfl; rfl; rfl; rfl)
          | ((with_reducible apply wpL_arith); rfl; rfl; rfl; (exact IntWalk.i64_in _ (by (try simp only [arithI]); omega)); rfl)); (try simp only [arithI, Act.put, Act.eval, List.setIfInBounds_toArray, List.set_cons_succ, List.set_cons_zero, Array.getD_eq_getD_getElem?, List.getElem?_toArray, List.getElem?_cons_succ, List.getElem?_cons_zero, Option.getD_some])))
    go_ret
    exact ⟨_, _, rfl, HH.out.own0, HH.out.below⟩
end Go.Proofs.Ytgkfopodhikckaa

/- levels of merkle. Condition: 2^h leaves, h at most 10. -/
namespace Go.Proofs.Ytgkfopodhikckaa
open Go.RowKit
attribute [local irreducible] wpQuiet wpList
theorem Holds.third {w0 w : World} {S : List Nat} {bs : List (Nat × Obj)} {r1 r2 r3 : Row} {rows : List Row} (h : Holds w0 S bs (r1 :: r2 :: r3 :: rows) w) : Holds w0 S bs (r3 :: r1 :: r2 :: rows) w :=
  h.perm (List.perm_middle (l₁ := [r1, r2]))
/-- A slice of lists of nodes that is read. -/
def Lvs (w : World) (v : Value) (ls : List (List Nd)) : Prop :=
  ∃ cs, Sl w v 1 ls.length cs ∧ ∀ i, i < ls.length → ∃ ao cap, cs[i]? = some (.slice ao (ls.getD i []).length cap) ∧ Arrs w (.slice ao (ls.getD i []).length cap) (ls.getD i [])
def RetLv (w : World) (ls : List (List Nd)) (e : Ending) (w' : World) : Prop :=
  ∃ ao cap, e = .returned (.slice ao ls.length cap) ∧ Below w.heap.size w w' ∧ Lvs w' (.slice ao ls.length cap) ls
/-- The levels of a tree of 2^h leaves. -/
def levelsL (l : List Nd) (h : Nat) : List (List Nd) := (List.range (h + 1)).map (levAt l)
/-- The rows of the first m levels. -/
def LvRows (l : List Nd) (m : Nat) (vs : List Value) (rs : List Row) : Prop :=
  vs.length = m ∧ (∀ u ∈ vs, u.oneCell' = true) ∧ ∀ i, i < m → ∃ ao cap, vs[i]? = some (.slice ao (levAt l i).length cap) ∧ rowA 34 ao cap (levAt l i) ∈ rs
theorem LvRows.next {l : List Nd} {m : Nat} {vs : List Value} {rs : List Row} (h : LvRows l m vs rs) (ao : Option Addr) (cap : Nat) : LvRows l (m + 1) (vs ++ [.slice ao (levAt l m).length cap]) (rowA 34 ao cap (levAt l m) :: rs) := by
  refine ⟨by simp [h.1], ?_, fun i hi => ?_⟩
  · intro u hu
    rcases List.mem_append.1 hu with hu | hu
    · exact h.2.1 u hu
    · simp at hu; subst hu; rfl
  · by_cases him : i = m
    · subst him
      exact ⟨ao, cap, by rw [List.getElem?_append_right (by rw [h.1]; exact Nat.le_refl _), h.1]; simp, List.mem_cons_self⟩
    · obtain ⟨a, c, h1, h2⟩ := h.2.2 i (by omega)
      exact ⟨a, c, by rw [List.getElem?_append_left (by rw [h.1]; omega)]; exact h1, List.mem_cons_of_mem _ h2⟩
theorem LvRows.lvs {w w0 : World} {S : List Nat} {bs : List (Nat × Obj)} {l : List Nd} {h : Nat} {vs : List Value} {rs : List Row} {ao : Option Addr} {cap : Nat} (H : LvRows l (h + 1) vs rs) (hH : Holds w0 S bs (⟨.slice ao (h + 1) cap, 46, 1, h + 1, vs⟩ :: rs) w) :
    Lvs w (.slice ao (levelsL l h).length cap) (levelsL l h) := by
  have hl : (levelsL l h).length = h + 1 := by simp [levelsL]
  rw [hl]
  refine ⟨vs, by rw [hl]; exact hH.sl0, fun i hi => ?_⟩
  rw [hl] at hi
  have e : (levelsL l h).getD i [] = levAt l i := by simp [levelsL, List.getD, hi]
  rw [e]
  obtain ⟨a, c, h1, h2⟩ := H.2.2 i hi
  exact ⟨a, c, h1, hH.slrow (List.mem_cons_of_mem _ h2)⟩
theorem RetLv.of {w w' : World} {l : List Nd} {h : Nat} {vs : List Value} {rs : List Row} {ao : Option Addr} {cap : Nat} (H : LvRows l (h + 1) vs rs) (hH : Holds w [] [] (⟨.slice ao (h + 1) cap, 46, 1, h + 1, vs⟩ :: rs) w') : RetLv w (levelsL l h) (.returned (.slice ao (h + 1) cap)) w' := by
  have hl : (levelsL l h).length = h + 1 := by simp [levelsL]
  exact ⟨ao, cap, by rw [hl], hH.below, H.lvs hH⟩
section
variable {w0 w : World} {S : List Nat} {bs : List (Nat × Obj)} {rows : List Row} {ops : Array Oper} {rest : List Oper} {a : Act} {Q : Exit → Act → World → Prop} {dst : Option Tmp} {ty : TypeId} {pos : String} {after : Array Edge} {guard : Option (Nat × Bool)}
theorem wpL_buildV1 (v : Value) (h1 : v.cells = #[v]) {parts : Array (Nat × Operand)} (hp : (parts.toList.map fun p => (p.1, a.eval p.2)) = [(0, v)]) (hH : Holds w0 S bs rows w)
    (hg : Region.wanted { dst := dst, op := .buildSlice 125 1 parts, type := ty, pos := pos, after := after, guard := guard } (yielded ops a.tmps) = true)
    (h : ∀ g w', Holds w0 S bs (⟨.slice (some ⟨g, 0, none⟩) 1 1, 46, 1, 1, [v]⟩ :: rows) w' → wpList Try.prog ops Q rest (a.put dst (.slice (some ⟨g, 0, none⟩) 1 1)) w') :
    wpList Try.prog ops Q ({ dst := dst, op := .buildSlice 125 1 parts, type := ty, pos := pos, after := after, guard := guard } :: rest) a w :=
  wpList_buildSlice kE125 [v] (by intro u hu; simp only [List.mem_cons, List.not_mem_nil, or_false] at hu; subst hu; simp [h1]) (by simp) rfl hp hH (xs := [v]) (by simp [h1]) hg h
theorem wpL_appendV {ao ax : Option Addr} {ca cx n : Nat} {vs : List Value} {v : Value} (hH : Holds w0 S bs (⟨.slice ao n ca, 46, 1, n, vs⟩ :: rows) w) (hx : Sl w (.slice ax 1 cx) 1 1 [v]) (h1 : v.oneCell' = true) (hb : n ≤ 100) {s y : Operand} (hs : a.eval s = .slice ao n ca) (hy : a.eval y = .slice ax 1 cx)
    (hg : Region.wanted { dst := dst, op := .call { callee := .builtin .append, args := #[s, y], argTypes := #[125, 125] }, type := ty, pos := pos, after := after, guard := guard } (yielded ops a.tmps) = true)
    (h : ∀ ao cap w', Holds w0 S bs (⟨.slice ao (n + 1) cap, 46, 1, n + 1, vs ++ [v]⟩ :: rows) w' → wpList Try.prog ops Q rest (a.put dst (.slice ao (n + 1) cap)) w') :
    wpList Try.prog ops Q ({ dst := dst, op := .call { callee := .builtin .append, args := #[s, y], argTypes := #[125, 125] }, type := ty, pos := pos, after := after, guard := guard } :: rest) a w :=
  wpList_append kE125 hH hx (by intro u hu; simp at hu; subst hu; exact h1) (by omega) hs hy hg h
end
def LvRel1 (w : World) (l : List Nd) (h : Nat) (v i : Value) (wr : World) : Prop :=
  ∃ (k : Nat) (vs : List Value) (rs : List Row) (ao : Option Addr) (cap : Nat), k ≤ h ∧ i = .int .i64 ((k + 1 : Nat) : Int) ∧ v = .slice ao (k + 1) cap ∧ LvRows l (k + 1) vs rs ∧ Holds w [] [] (⟨.slice ao (k + 1) cap, 46, 1, k + 1, vs⟩ :: rs) wr
def LvRel2 (w : World) (m : List Nd) (rows : List Row) (v i : Value) (wr : World) : Prop :=
  ∃ (j : Nat) (r : List Nd) (ao : Option Addr) (cap : Nat), j ≤ m.length ∧ i = .int .i64 ((2 * j : Nat) : Int) ∧ r = m.take j ∧ v = .slice ao r.length cap ∧ Holds w [] [] (rowA 34 ao cap r :: rows) wr
set_option maxRecDepth 100000 in
set_option maxHeartbeats 4000000 in
theorem levels_any (w : World) (v : Value) (l : List Nd) (h : Nat) (hl : Arrs w v l) (hh : h ≤ 10) (hn : l.length = 2 ^ h) : Calls Try.prog 68 #[v] w (RetLv w (levelsL l h)) := by
  obtain ⟨ao, cap, rfl, _⟩ := hl.shape
  have HL := hid hl
  have hp10 : 2 ^ h ≤ 1024 := Nat.le_trans (Nat.pow_le_pow_right (by decide) hh) (by decide)
  have HN := hid hn
  have HCL := hid (show l.length ≤ 1000000000 by omega)
  clear hl hn
  have HH := hid (Holds.init w)
  go_enter Try.func68, Try.ntmps68
  go_wp2_with (first
    | ((first
        | ((with_reducible apply wpL_skip); rfl; skip)
        | (go_at_call 82; (with_reducible refine (cloneN_any _ _ l (HH.out.sl HL.out) HCL.out).mono ?_); rintro e_ w2_ ⟨ao0, cap0, rfl, hr_, hb_⟩; (have hq_ := HH.out.addRow hb_ hr_); clear HH; have HH := hid hq_; clear hq_ hr_ hb_)
        | ((with_reducible apply wpL_buildV1 (.slice ao0 l.length cap0) rfl); rfl; (exact HH.out); rfl; (intro g_ w_ hq_; clear HH; have HH := hid hq_; clear hq_))
        | ((with_reducible apply wpL_nilCheck); rfl; rfl)
        | ((with_reducible apply wpL_loadArr (t := 34) kA34 HH.out); rfl; (first | exact .here | exact .there .here | exact .there (.there .here) | exact .there (.there (.there .here)) | exact .there (.there (.there (.there .here))) | exact .there (.there (.there (.there (.there .here)))) | exact .there (.there (.there (.there (.there (.there .here))))) | exact .there (.there (.there (.there (.there (.there (.there .here))))))); rfl)
        | ((with_reducible apply wpL_loadC (t := 34) kA34 HH.out); rfl; (first | exact .here | exact .there .here | exact .there (.there .here) | exact .there (.there (.there .here)) | exact .there (.there (.there (.there .here))) | exact .there (.there (.there (.there (.there .here)))) | exact .there (.there (.there (.there (.there (.there .here))))) | exact .there (.there (.there (.there (.there (.there (.there .here))))))); (first | rfl | exact Arr.len _ | (simp; done)); rfl)
        | ((with_reducible apply wpL_load1 (t := 46) kO46 HH.out); rfl; (first | exact .here | exact .there .here | exact .there (.there .here) | exact .there (.there (.there .here)) | exact .there (.there (.there (.there .here))) | exact .there (.there (.there (.there (.there .here)))) | exact .there (.there (.there (.there (.there (.there .here))))) | exact .there (.there (.there (.there (.there (.there (.there .here))))))); rfl; rfl)
        | ((with_reducible apply wpL_len (t := 46) Try.underlying46); rfl; rfl)
        | ((with_reducible apply wpL_len (t := 125) Try.underlying125); rfl; rfl)
        | ((with_reducible apply wpL_move); rfl; rfl)
        | ((with_reducible apply wpL_assign); rfl; rfl)
        | ((with_reducible apply wpL_pick); rfl; rfl; rfl)
        | ((with_reducible apply wpL_not); rfl; rfl)
        | ((with_reducible apply wpL_cmp (b := true)); rfl; rfl; rfl; (first | rfl | assumption | (simp only [cmpB, decide_eq_true_eq, decide_eq_false_iff_not, beq_iff_eq, bne_iff_ne, ne_eq, beq_eq_false_iff_ne, bne_eq_false_iff_eq, gt_iff_lt, ge_iff_le]; omega) | (simp; omega)); rfl)
        | ((with_reducible apply wpL_cmp (b := false)); rfl; rfl; rfl; (first | rfl | assumption | (simp only [cmpB, decide_eq_true_eq, decide_eq_false_iff_not, beq_iff_eq, bne_iff_ne, ne_eq, beq_eq_false_iff_ne, bne_eq_false_iff_eq, gt_iff_lt, ge_iff_le]; omega) | (simp; omega)); rfl)
        | ((with_reducible apply wpL_cmp); rfl; rfl; rfl; rfl; rfl)
        | ((with_reducible apply wpL_arith); rfl; rfl; rfl; (exact IntWalk.i64_in _ (by (try simp only [arithI]); omega)); rfl)); (try simp only [arithI, Act.put, Act.eval, List.setIfInBounds_toArray, List.set_cons_succ, List.set_cons_zero, Array.getD_eq_getD_getElem?, List.getElem?_toArray, List.getElem?_cons_succ, List.getElem?_cons_zero, Option.getD_some])))
  go_loopw [3, 4] (LvRel1 w l h) (fun _ i _ => h + 1 - (intOf i).toNat)
  case atStart =>
    refine ⟨0, [.slice ao0 l.length cap0], [rowA 34 ao0 cap0 l], _, _, Nat.zero_le _, rfl, rfl, ⟨rfl, ?_, ?_⟩, HH.out⟩
    · intro u hu; simp at hu; subst hu; rfl
    · intro i hi
      obtain rfl : i = 0 := by omega
      exact ⟨ao0, cap0, rfl, List.mem_cons_self⟩
  case round =>
    obtain ⟨k, vs, rs, ao1, cap1, hk, rfl, rfl, hlv, hr⟩ := hrel
    clear HH
    have HH := hid hr
    have HLV := hid hlv
    have HLN := hid (levAt_len HN.out k hk)
    obtain ⟨aob, capb, hvk, hmem⟩ := hlv.2.2 k (by omega)
    have HVK := hid hvk
    have HMEM := hid hmem
    obtain ⟨b, hb⟩ : ∃ b, levAt l k = b := ⟨_, rfl⟩
    have HB := hid hb
    rw [hb] at HLN HVK HMEM
    obtain ⟨n, hbn⟩ : ∃ n, b.length = n := ⟨_, rfl⟩
    have HBN := hid hbn
    rw [hbn] at HLN HVK
    have hnb : n ≤ 1024 := by
      have := HLN.out
      rw [this]
      exact Nat.le_trans (Nat.pow_le_pow_right (by decide) (show h - k ≤ 10 by omega)) (by decide)
    clear hr hlv hvk hmem hb hbn
    have hn1 : 1 ≤ n := by rw [HLN.out]; exact Nat.two_pow_pos _
    obtain ⟨ad, c', e⟩ := (show Sl wr (.slice aob b.length capb) 16 b.length (flat b) from HH.out.slrow (List.mem_cons_of_mem _ HMEM.out)).some (by rw [HBN.out]; omega)
    simp only [Value.slice.injEq] at e
    obtain ⟨rfl, -, -⟩ := e
    obtain ⟨adv, cv, e⟩ := HH.out.sl0.some (by omega)
    simp only [Value.slice.injEq] at e
    obtain ⟨rfl, -, -⟩ := e
    by_cases hkh : k < h
    · obtain ⟨q, hq⟩ : ∃ q, 2 ^ (h - k - 1) = q := ⟨_, rfl⟩
      have hnq : n = 2 * q := by rw [HLN.out, ← hq, show h - k = (h - k - 1) + 1 by omega, Nat.pow_succ, Nat.add_sub_cancel]; omega
      have hq1 : 1 ≤ q := by rw [← hq]; exact Nat.two_pow_pos _
      have HUL := hid (show (upL (k + 1) b).length = q from upL_len _ _ _ (by rw [HBN.out]; exact hnq))
      clear hq
      go_wp2_with (first
        | ((first
            | ((with_reducible apply wpL_skip); rfl; skip)
            | ((with_reducible apply wpL_idxB (j := k) kE125); rfl; rfl; (exact (by omega)); (exact (by omega)); rfl)
            | ((with_reducible apply wpL_loadAt (t := 46) (v := .slice (some ad) n capb) kO46); (have hc_ := HH.out.sl0.cell k (.slice (some ad) n capb) HVK.out; exact hc_); rfl; rfl)
            | ((with_reducible apply wpL_nilCheck); rfl; rfl)
            | ((with_reducible apply wpL_loadArr (t := 34) kA34 HH.out); rfl; (first | exact .here | exact .there .here | exact .there (.there .here) | exact .there (.there (.there .here)) | exact .there (.there (.there (.there .here))) | exact .there (.there (.there (.there (.there .here)))) | exact .there (.there (.there (.there (.there (.there .here))))) | exact .there (.there (.there (.there (.there (.there (.there .here))))))); rfl)
            | ((with_reducible apply wpL_loadC (t := 34) kA34 HH.out); rfl; (first | exact .here | exact .there .here | exact .there (.there .here) | exact .there (.there (.there .here)) | exact .there (.there (.there (.there .here))) | exact .there (.there (.there (.there (.there .here)))) | exact .there (.there (.there (.there (.there (.there .here))))) | exact .there (.there (.there (.there (.there (.there (.there .here))))))); (first | rfl | exact Arr.len _ | (simp; done)); rfl)
            | ((with_reducible apply wpL_load1 (t := 46) kO46 HH.out); rfl; (first | exact .here | exact .there .here | exact .there (.there .here) | exact .there (.there (.there .here)) | exact .there (.there (.there (.there .here))) | exact .there (.there (.there (.there (.there .here)))) | exact .there (.there (.there (.there (.there (.there .here))))) | exact .there (.there (.there (.there (.there (.there (.there .here))))))); rfl; rfl)
            | ((with_reducible apply wpL_len (t := 46) Try.underlying46); rfl; rfl)
            | ((with_reducible apply wpL_len (t := 125) Try.underlying125); rfl; rfl)
            | ((with_reducible apply wpL_move); rfl; rfl)
            | ((with_reducible apply wpL_assign); rfl; rfl)
            | ((with_reducible apply wpL_pick); rfl; rfl; rfl)
            | ((with_reducible apply wpL_not); rfl; rfl)
            | ((with_reducible apply wpL_cmp (b := true)); rfl; rfl; rfl; (first | rfl | assumption | (simp only [cmpB, decide_eq_true_eq, decide_eq_false_iff_not, beq_iff_eq, bne_iff_ne, ne_eq, beq_eq_false_iff_ne, bne_eq_false_iff_eq, gt_iff_lt, ge_iff_le]; omega) | (simp; omega)); rfl)
            | ((with_reducible apply wpL_cmp (b := false)); rfl; rfl; rfl; (first | rfl | assumption | (simp only [cmpB, decide_eq_true_eq, decide_eq_false_iff_not, beq_iff_eq, bne_iff_ne, ne_eq, beq_eq_false_iff_ne, bne_eq_false_iff_eq, gt_iff_lt, ge_iff_le]; omega) | (simp; omega)); rfl)
            | ((with_reducible apply wpL_cmp); rfl; rfl; rfl; rfl; rfl)
            | ((with_reducible apply wpL_arith); rfl; rfl; rfl; (exact IntWalk.i64_in _ (by (try simp only [arithI]); omega)); rfl)); (try simp only [arithI, Act.put, Act.eval, List.setIfInBounds_toArray, List.set_cons_succ, List.set_cons_zero, Array.getD_eq_getD_getElem?, List.getElem?_toArray, List.getElem?_cons_succ, List.getElem?_cons_zero, Option.getD_some])))
      go_loopw [6, 7] (LvRel2 w (upL (k + 1) b) (⟨.slice (some adv) (k + 1) cap1, 46, 1, k + 1, vs⟩ :: rs)) (fun _ i _ => n - (intOf i).toNat)
      case atStart => exact ⟨0, [], none, 0, Nat.zero_le _, rfl, by simp, rfl, HH.out.addNil 34 16⟩
      case round =>
        obtain ⟨j, r, ao2, cap2, hj, rfl, hrj, rfl, hr⟩ := hrel
        clear HH
        have HH := hid hr
        have HRJ := hid hrj
        rw [HUL.out] at hj
        have hrl : r.length = j := by rw [hrj, List.length_take, HUL.out]; omega
        clear hr hrj
        by_cases hjq : j < q
        · have h2j : 2 * j < b.length := by rw [HBN.out]; omega
          have h2j1 : 2 * j + 1 < b.length := by rw [HBN.out]; omega
          have hub := upL_get (k + 1) b j h2j1
          have ex : b.getD (2 * j) Nd0 = b[2 * j] := by simp [h2j]
          have ey : b.getD (2 * j + 1) Nd0 = b[2 * j + 1] := by simp [h2j1]
          rw [ex, ey] at hub
          have HGX0 : ∀ w1, Holds w [] [] (rowA 34 ao2 cap2 r :: ⟨.slice (some adv) (k + 1) cap1, 46, 1, k + 1, vs⟩ :: rs) w1 → Arrs w1 (.slice (some ad) b.length capb) b := fun w1 h1 => h1.slrow (List.mem_cons_of_mem _ (List.mem_cons_of_mem _ HMEM.out))
          have HGX := hid (fun w1 h1 => Arrs.get (HGX0 w1 h1) (2 * j) h2j)
          have HGY := hid (fun w1 h1 => Arrs.get (HGX0 w1 h1) (2 * j + 1) h2j1)
          obtain ⟨x, hx⟩ : ∃ x, b[2 * j] = x := ⟨_, rfl⟩
          obtain ⟨y, hy⟩ : ∃ y, b[2 * j + 1] = y := ⟨_, rfl⟩
          rw [hx] at HGX hub
          rw [hy] at HGY hub
          obtain ⟨d, hd⟩ : ∃ d, joinN ((k + 1 : Nat) : Int) x y = d := ⟨_, rfl⟩
          have HD := hid hd
          rw [hd] at hub
          obtain ⟨r2, hr2⟩ : ∃ r2, r ++ [d] = r2 := ⟨_, rfl⟩
          have HR2 := hid hr2
          have HST := hid (show r2 = (upL (k + 1) b).take (j + 1) by
            have hju : j < (upL (k + 1) b).length := by rw [HUL.out]; exact hjq
            rw [List.getElem?_eq_getElem hju] at hub
            rw [← hr2, HRJ.out, ← List.take_append_getElem hju, Option.some.inj hub])
          clear hub ex ey HGX0 hx hy hd hr2
          go_wp2_with (first
            | ((first
                | ((with_reducible apply wpL_skip); rfl; skip)
                | ((with_reducible apply wpL_nilCheck); rfl; rfl)
                | ((with_reducible apply wpL_loadArr (t := 34) kA34 HH.out); rfl; (first | exact .here | exact .there .here | exact .there (.there .here) | exact .there (.there (.there .here)) | exact .there (.there (.there (.there .here))) | exact .there (.there (.there (.there (.there .here)))) | exact .there (.there (.there (.there (.there (.there .here))))) | exact .there (.there (.there (.there (.there (.there (.there .here))))))); rfl)
                | ((with_reducible apply wpL_loadC (t := 34) kA34 HH.out); rfl; (first | exact .here | exact .there .here | exact .there (.there .here) | exact .there (.there (.there .here)) | exact .there (.there (.there (.there .here))) | exact .there (.there (.there (.there (.there .here)))) | exact .there (.there (.there (.there (.there (.there .here))))) | exact .there (.there (.there (.there (.there (.there (.there .here))))))); (first | rfl | exact Arr.len _ | (simp; done)); rfl)
                | ((with_reducible apply wpL_load1 (t := 46) kO46 HH.out); rfl; (first | exact .here | exact .there .here | exact .there (.there .here) | exact .there (.there (.there .here)) | exact .there (.there (.there (.there .here))) | exact .there (.there (.there (.there (.there .here)))) | exact .there (.there (.there (.there (.there (.there .here))))) | exact .there (.there (.there (.there (.there (.there (.there .here))))))); rfl; rfl)
                | ((with_reducible apply wpL_len (t := 46) Try.underlying46); rfl; rfl)
                | ((with_reducible apply wpL_len (t := 125) Try.underlying125); rfl; rfl)
                | ((with_reducible apply wpL_move); rfl; rfl)
                | ((with_reducible apply wpL_assign); rfl; rfl)
                | ((with_reducible apply wpL_pick); rfl; rfl; rfl)
                | ((with_reducible apply wpL_not); rfl; rfl)
                | ((with_reducible apply wpL_cmp (b := true)); rfl; rfl; rfl; (first | rfl | assumption | (simp only [cmpB, decide_eq_true_eq, decide_eq_false_iff_not, beq_iff_eq, bne_iff_ne, ne_eq, beq_eq_false_iff_ne, bne_eq_false_iff_eq, gt_iff_lt, ge_iff_le]; omega) | (simp; omega)); rfl)
                | ((with_reducible apply wpL_cmp (b := false)); rfl; rfl; rfl; (first | rfl | assumption | (simp only [cmpB, decide_eq_true_eq, decide_eq_false_iff_not, beq_iff_eq, bne_iff_ne, ne_eq, beq_eq_false_iff_ne, bne_eq_false_iff_eq, gt_iff_lt, ge_iff_le]; omega) | (simp; omega)); rfl)
                | ((with_reducible apply wpL_cmp); rfl; rfl; rfl; rfl; rfl)
                | ((with_reducible apply wpL_arith); rfl; rfl; rfl; (exact IntWalk.i64_in _ (by (try simp only [arithI]); omega)); rfl)); (try simp only [arithI, Act.put, Act.eval, List.setIfInBounds_toArray, List.set_cons_succ, List.set_cons_zero, Array.getD_eq_getD_getElem?, List.getElem?_toArray, List.getElem?_cons_succ, List.getElem?_cons_zero, Option.getD_some])))
          refine wp_region_tailR 13 [Asr.is (.slice ao2 r.length cap2), Asr.is (.int .i64 ((k + 1 : Nat) : Int)), Asr.is (.slice (some ad) n capb), Asr.is (.int .i64 ((2 * j : Nat) : Int)), Asr.is (.pointer (some (ad.add (2 * j * 16)))), Asr.is x.val, Asr.is (.slice (some ad) n capb), Asr.is (.int .i64 ((2 * j : Nat) : Int)), Asr.is (.int .i64 ((2 * j + 1 : Nat) : Int)), Asr.is (.pointer (some (ad.add ((2 * j + 1) * 16)))), Asr.is y.val, Asr.is d.val, Asr.full wr.heap.size 34 16 1 (flat [d])] HH.out (by kernel_rfl) (by kernel_rfl) (by kernel_rfl) rfl ?_ ?_
          all_goals simp only [List.take_succ_cons, List.take_zero, List.drop_succ_cons, List.drop_zero]
          · refine eachD_cons ?_ (eachD_cons ?_ (eachD_cons ?_ (eachD_cons ?_ (eachD_cons ?_ (eachD_cons ?_ (eachD_cons ?_ (eachD_cons ?_ (eachD_cons ?_ (eachD_cons ?_ (eachD_cons ?_ (eachD_cons ?_ (eachD_cons ?_ (eachD_nil)))))))))))))
            · intro a_ w1 hI hF hS
              have e6 : a_.eval (.tmp 6) = (.slice ao2 r.length cap2) := (hF.2.2 6 (notDst_of (by kernel_rfl))).trans rfl
              refine wantD (by rfl) ?_
              exact op_val rfl (ex_move rfl w1) e6
            · intro a_ w1 hI hF hS
              have e4 : a_.eval (.tmp 4) = (.int .i64 ((k + 1 : Nat) : Int)) := (hF.2.2 4 (notDst_of (by kernel_rfl))).trans rfl
              refine wantD (by rfl) ?_
              exact op_val rfl (ex_move rfl w1) e4
            · intro a_ w1 hI hF hS
              have e5 : a_.eval (.tmp 5) = (.slice (some ad) n capb) := (hF.2.2 5 (notDst_of (by kernel_rfl))).trans rfl
              refine wantD (by rfl) ?_
              exact op_val rfl (ex_move rfl w1) e5
            · intro a_ w1 hI hF hS
              have e7 : a_.eval (.tmp 7) = (.int .i64 ((2 * j : Nat) : Int)) := (hF.2.2 7 (notDst_of (by kernel_rfl))).trans rfl
              refine wantD (by rfl) ?_
              exact op_val rfl (ex_move rfl w1) e7
            · intro a_ w1 hI hF hS
              have e34 : a_.eval (.tmp 34) = (.slice (some ad) n capb) := hS ⟨2, .data⟩ (by simp) rfl _ rfl
              have e35 : a_.eval (.tmp 35) = (.int .i64 ((2 * j : Nat) : Int)) := hS ⟨3, .data⟩ (by simp) rfl _ rfl
              refine wantD (by rfl) ?_
              exact op_val rfl (ex_index kE46 (j := 2 * j) e34 e35 rfl (by omega) w1) rfl
            · intro a_ w1 hI hF hS
              have e36 : a_.eval (.tmp 36) = (.pointer (some (ad.add (2 * j * 16)))) := hS ⟨4, .data⟩ (by simp) rfl _ rfl
              refine wantD (by rfl) ?_
              exact op_val rfl (ex_load_agg (t := 34) (sz := 16) e36 Try.underlying34 rfl (by kernel_rfl) (Arr.len x) (HGX.out w1 hI.1)) rfl
            · intro a_ w1 hI hF hS
              have e5 : a_.eval (.tmp 5) = (.slice (some ad) n capb) := (hF.2.2 5 (notDst_of (by kernel_rfl))).trans rfl
              refine wantD (by rfl) ?_
              exact op_val rfl (ex_move rfl w1) e5
            · intro a_ w1 hI hF hS
              have e7 : a_.eval (.tmp 7) = (.int .i64 ((2 * j : Nat) : Int)) := (hF.2.2 7 (notDst_of (by kernel_rfl))).trans rfl
              refine wantD (by rfl) ?_
              exact op_val rfl (ex_move rfl w1) e7
            · intro a_ w1 hI hF hS
              have e39 : a_.eval (.tmp 39) = (.int .i64 ((2 * j : Nat) : Int)) := hS ⟨7, .data⟩ (by simp) rfl _ rfl
              refine wantD (by rfl) ?_
              exact op_val rfl (ex_arith (r := ((2 * j + 1 : Nat) : Int)) rfl e39 rfl (by show IntKind.i64.wrap (((2 * j : Nat) : Int) + 1) = _; rw [IntWalk.i64_in _ (by omega)]; omega) w1) rfl
            · intro a_ w1 hI hF hS
              have e38 : a_.eval (.tmp 38) = (.slice (some ad) n capb) := hS ⟨6, .data⟩ (by simp) rfl _ rfl
              have e40 : a_.eval (.tmp 40) = (.int .i64 ((2 * j + 1 : Nat) : Int)) := hS ⟨8, .data⟩ (by simp) rfl _ rfl
              refine wantD (by rfl) ?_
              exact op_val rfl (ex_index kE46 (j := 2 * j + 1) e38 e40 rfl (by omega) w1) rfl
            · intro a_ w1 hI hF hS
              have e41 : a_.eval (.tmp 41) = (.pointer (some (ad.add ((2 * j + 1) * 16)))) := hS ⟨9, .data⟩ (by simp) rfl _ rfl
              refine wantD (by rfl) ?_
              exact op_val rfl (ex_load_agg (t := 34) (sz := 16) e41 Try.underlying34 rfl (by kernel_rfl) (Arr.len y) (HGY.out w1 hI.1)) rfl
            · intro a_ w1 hI hF hS
              have e33 : a_.eval (.tmp 33) = (.int .i64 ((k + 1 : Nat) : Int)) := hS ⟨1, .data⟩ (by simp) rfl _ rfl
              have e37 : a_.eval (.tmp 37) = x.val := hS ⟨5, .data⟩ (by simp) rfl _ rfl
              have e42 : a_.eval (.tmp 42) = y.val := hS ⟨10, .data⟩ (by simp) rfl _ rfl
              refine wantD (by rfl) ?_
              exact op_call (args := #[.int .i64 ((k + 1 : Nat) : Int), x.val, y.val]) kB37 (by show #[a_.eval (.tmp 33), a_.eval (.tmp 37), a_.eval (.tmp 42)] = _; rw [e33, e37, e42]) ((join_any w1 _ x y).mono fun e w' ⟨he, hb⟩ => ⟨_, he, hb, by rw [HD.out]; rfl⟩)
            · intro a_ w1 hI hF hS
              have e43 : a_.eval (.tmp 43) = d.val := hS ⟨11, .data⟩ (by simp) rfl _ rfl
              refine wantD (by rfl) ?_
              obtain ⟨v_, w_, hr_, hb_, hA_⟩ := ex_buildArr (ρ := a_.eval) kE46 [d] (parts := #[(0, .tmp 43)]) (n := 1) rfl (by simp [e43]) (by decide) w1; exact op_new rfl hr_ hb_ (hA_ _ hI.2.size)
          intro wq hq_ hb_
          intro v0_ h0_ v1_ h1_ v2_ h2_ v3_ h3_ v4_ h4_ v5_ h5_ v6_ h6_ v7_ h7_ v8_ h8_ v9_ h9_ v10_ h10_ v11_ h11_ v12_ h12_
          have q_ : v0_ = (.slice ao2 r.length cap2) := h0_; clear h0_; subst q_
          have q_ : v1_ = (.int .i64 ((k + 1 : Nat) : Int)) := h1_; clear h1_; subst q_
          have q_ : v2_ = (.slice (some ad) n capb) := h2_; clear h2_; subst q_
          have q_ : v3_ = (.int .i64 ((2 * j : Nat) : Int)) := h3_; clear h3_; subst q_
          have q_ : v4_ = (.pointer (some (ad.add (2 * j * 16)))) := h4_; clear h4_; subst q_
          have q_ : v5_ = x.val := h5_; clear h5_; subst q_
          have q_ : v6_ = (.slice (some ad) n capb) := h6_; clear h6_; subst q_
          have q_ : v7_ = (.int .i64 ((2 * j : Nat) : Int)) := h7_; clear h7_; subst q_
          have q_ : v8_ = (.int .i64 ((2 * j + 1 : Nat) : Int)) := h8_; clear h8_; subst q_
          have q_ : v9_ = (.pointer (some (ad.add ((2 * j + 1) * 16)))) := h9_; clear h9_; subst q_
          have q_ : v10_ = y.val := h10_; clear h10_; subst q_
          have q_ : v11_ = d.val := h11_; clear h11_; subst q_
          have K12 := hid h12_; clear h12_
          simp only [endD, putsD, Act.put, List.setIfInBounds_toArray, List.set_cons_succ, List.set_cons_zero]
          have HQ := hid hq_; clear hq_
          have HB_ := hid hb_; clear hb_
          obtain ⟨ad3, c3, rfl⟩ := row_shape K12.out.2
          have hq2_ := HH.out.addRow HB_.out K12.out.2
          clear HH HQ K12 HB_
          have HH := hid hq2_
          clear hq2_
          go_wp2_with (first
            | ((first
                | ((with_reducible apply wpL_skip); rfl; skip)
                | ((with_reducible apply wpL_appendA (l := r) (l2 := [d]) (r := r2) kE46 HH.out.swap HH.out.sl0 HR2.out); rfl; rfl; (exact (by simp; omega)); rfl; rfl; rfl; (intro ao4 cap4 w_ hq_; clear HH; have HH := hid hq_.dropSnd; clear hq_))
                | ((with_reducible apply wpL_nilCheck); rfl; rfl)
                | ((with_reducible apply wpL_loadArr (t := 34) kA34 HH.out); rfl; (first | exact .here | exact .there .here | exact .there (.there .here) | exact .there (.there (.there .here)) | exact .there (.there (.there (.there .here))) | exact .there (.there (.there (.there (.there .here)))) | exact .there (.there (.there (.there (.there (.there .here))))) | exact .there (.there (.there (.there (.there (.there (.there .here))))))); rfl)
                | ((with_reducible apply wpL_loadC (t := 34) kA34 HH.out); rfl; (first | exact .here | exact .there .here | exact .there (.there .here) | exact .there (.there (.there .here)) | exact .there (.there (.there (.there .here))) | exact .there (.there (.there (.there (.there .here)))) | exact .there (.there (.there (.there (.there (.there .here))))) | exact .there (.there (.there (.there (.there (.there (.there .here))))))); (first | rfl | exact Arr.len _ | (simp; done)); rfl)
                | ((with_reducible apply wpL_load1 (t := 46) kO46 HH.out); rfl; (first | exact .here | exact .there .here | exact .there (.there .here) | exact .there (.there (.there .here)) | exact .there (.there (.there (.there .here))) | exact .there (.there (.there (.there (.there .here)))) | exact .there (.there (.there (.there (.there (.there .here))))) | exact .there (.there (.there (.there (.there (.there (.there .here))))))); rfl; rfl)
                | ((with_reducible apply wpL_len (t := 46) Try.underlying46); rfl; rfl)
                | ((with_reducible apply wpL_len (t := 125) Try.underlying125); rfl; rfl)
                | ((with_reducible apply wpL_move); rfl; rfl)
                | ((with_reducible apply wpL_assign); rfl; rfl)
                | ((with_reducible apply wpL_pick); rfl; rfl; rfl)
                | ((with_reducible apply wpL_not); rfl; rfl)
                | ((with_reducible apply wpL_cmp (b := true)); rfl; rfl; rfl; (first | rfl | assumption | (simp only [cmpB, decide_eq_true_eq, decide_eq_false_iff_not, beq_iff_eq, bne_iff_ne, ne_eq, beq_eq_false_iff_ne, bne_eq_false_iff_eq, gt_iff_lt, ge_iff_le]; omega) | (simp; omega)); rfl)
                | ((with_reducible apply wpL_cmp (b := false)); rfl; rfl; rfl; (first | rfl | assumption | (simp only [cmpB, decide_eq_true_eq, decide_eq_false_iff_not, beq_iff_eq, bne_iff_ne, ne_eq, beq_eq_false_iff_ne, bne_eq_false_iff_eq, gt_iff_lt, ge_iff_le]; omega) | (simp; omega)); rfl)
                | ((with_reducible apply wpL_cmp); rfl; rfl; rfl; rfl; rfl)
                | ((with_reducible apply wpL_arith); rfl; rfl; rfl; (exact IntWalk.i64_in _ (by (try simp only [arithI]); omega)); rfl)); (try simp only [arithI, Act.put, Act.eval, List.setIfInBounds_toArray, List.set_cons_succ, List.set_cons_zero, Array.getD_eq_getD_getElem?, List.getElem?_toArray, List.getElem?_cons_succ, List.getElem?_cons_zero, Option.getD_some])))
          go_roundw
          case rel => exact ⟨j + 1, r2, _, _, by rw [HUL.out]; omega, by go_num, HST.out, rfl, HH.out⟩
          case measure => simp [intOf]; omega
        · obtain rfl : j = q := by omega
          have hre : r = levAt l (k + 1) := by rw [HRJ.out, ← HUL.out, List.take_length, levAt, HB.out]
          have HNX := hid (HLV.out.next ao2 cap2)
          rw [← hre] at HNX
          clear hre
          go_wp2_with (first
            | ((first
                | ((with_reducible apply wpL_skip); rfl; skip)
                | ((with_reducible apply wpL_buildV1 (.slice ao2 r.length cap2) rfl); rfl; (exact HH.out); rfl; (intro g_ w_ hq_; clear HH; have HH := hid hq_; clear hq_))
                | ((with_reducible apply wpL_appendV (v := .slice ao2 r.length cap2) HH.out.third HH.out.sl0 rfl); (exact (by omega)); rfl; rfl; rfl; (intro ao4 cap4 w_ hq_; clear HH; have HH := hid (Holds.dropSnd hq_); clear hq_))
                | ((with_reducible apply wpL_nilCheck); rfl; rfl)
                | ((with_reducible apply wpL_loadArr (t := 34) kA34 HH.out); rfl; (first | exact .here | exact .there .here | exact .there (.there .here) | exact .there (.there (.there .here)) | exact .there (.there (.there (.there .here))) | exact .there (.there (.there (.there (.there .here)))) | exact .there (.there (.there (.there (.there (.there .here))))) | exact .there (.there (.there (.there (.there (.there (.there .here))))))); rfl)
                | ((with_reducible apply wpL_loadC (t := 34) kA34 HH.out); rfl; (first | exact .here | exact .there .here | exact .there (.there .here) | exact .there (.there (.there .here)) | exact .there (.there (.there (.there .here))) | exact .there (.there (.there (.there (.there .here)))) | exact .there (.there (.there (.there (.there (.there .here))))) | exact .there (.there (.there (.there (.there (.there (.there .here))))))); (first | rfl | exact Arr.len _ | (simp; done)); rfl)
                | ((with_reducible apply wpL_load1 (t := 46) kO46 HH.out); rfl; (first | exact .here | exact .there .here | exact .there (.there .here) | exact .there (.there (.there .here)) | exact .there (.there (.there (.there .here))) | exact .there (.there (.there (.there (.there .here)))) | exact .there (.there (.there (.there (.there (.there .here))))) | exact .there (.there (.there (.there (.there (.there (.there .here))))))); rfl; rfl)
                | ((with_reducible apply wpL_len (t := 46) Try.underlying46); rfl; rfl)
                | ((with_reducible apply wpL_len (t := 125) Try.underlying125); rfl; rfl)
                | ((with_reducible apply wpL_move); rfl; rfl)
                | ((with_reducible apply wpL_assign); rfl; rfl)
                | ((with_reducible apply wpL_pick); rfl; rfl; rfl)
                | ((with_reducible apply wpL_not); rfl; rfl)
                | ((with_reducible apply wpL_cmp (b := true)); rfl; rfl; rfl; (first | rfl | assumption | (simp only [cmpB, decide_eq_true_eq, decide_eq_false_iff_not, beq_iff_eq, bne_iff_ne, ne_eq, beq_eq_false_iff_ne, bne_eq_false_iff_eq, gt_iff_lt, ge_iff_le]; omega) | (simp; omega)); rfl)
                | ((with_reducible apply wpL_cmp (b := false)); rfl; rfl; rfl; (first | rfl | assumption | (simp only [cmpB, decide_eq_true_eq, decide_eq_false_iff_not, beq_iff_eq, bne_iff_ne, ne_eq, beq_eq_false_iff_ne, bne_eq_false_iff_eq, gt_iff_lt, ge_iff_le]; omega) | (simp; omega)); rfl)
                | ((with_reducible apply wpL_cmp); rfl; rfl; rfl; rfl; rfl)
                | ((with_reducible apply wpL_arith); rfl; rfl; rfl; (exact IntWalk.i64_in _ (by (try simp only [arithI]); omega)); rfl)); (try simp only [arithI, Act.put, Act.eval, List.setIfInBounds_toArray, List.set_cons_succ, List.set_cons_zero, Array.getD_eq_getD_getElem?, List.getElem?_toArray, List.getElem?_cons_succ, List.getElem?_cons_zero, Option.getD_some])))
          go_roundw
          case rel => exact ⟨k + 1, _, _, _, _, hkh, by go_num, rfl, HNX.out, HH.out⟩
          case measure => simp [intOf]; omega
    · obtain rfl : k = h := by omega
      have hn0 : n = 1 := by rw [HLN.out, Nat.sub_self]
      go_wp2_with (first
        | ((first
            | ((with_reducible apply wpL_skip); rfl; skip)
            | ((with_reducible apply wpL_idxB (j := k) kE125); rfl; rfl; (exact (by omega)); (exact (by omega)); rfl)
            | ((with_reducible apply wpL_loadAt (t := 46) (v := .slice (some ad) n capb) kO46); (have hc_ := HH.out.sl0.cell k (.slice (some ad) n capb) HVK.out; exact hc_); rfl; rfl)
            | ((with_reducible apply wpL_nilCheck); rfl; rfl)
            | ((with_reducible apply wpL_loadArr (t := 34) kA34 HH.out); rfl; (first | exact .here | exact .there .here | exact .there (.there .here) | exact .there (.there (.there .here)) | exact .there (.there (.there (.there .here))) | exact .there (.there (.there (.there (.there .here)))) | exact .there (.there (.there (.there (.there (.there .here))))) | exact .there (.there (.there (.there (.there (.there (.there .here))))))); rfl)
            | ((with_reducible apply wpL_loadC (t := 34) kA34 HH.out); rfl; (first | exact .here | exact .there .here | exact .there (.there .here) | exact .there (.there (.there .here)) | exact .there (.there (.there (.there .here))) | exact .there (.there (.there (.there (.there .here)))) | exact .there (.there (.there (.there (.there (.there .here))))) | exact .there (.there (.there (.there (.there (.there (.there .here))))))); (first | rfl | exact Arr.len _ | (simp; done)); rfl)
            | ((with_reducible apply wpL_load1 (t := 46) kO46 HH.out); rfl; (first | exact .here | exact .there .here | exact .there (.there .here) | exact .there (.there (.there .here)) | exact .there (.there (.there (.there .here))) | exact .there (.there (.there (.there (.there .here)))) | exact .there (.there (.there (.there (.there (.there .here))))) | exact .there (.there (.there (.there (.there (.there (.there .here))))))); rfl; rfl)
            | ((with_reducible apply wpL_len (t := 46) Try.underlying46); rfl; rfl)
            | ((with_reducible apply wpL_len (t := 125) Try.underlying125); rfl; rfl)
            | ((with_reducible apply wpL_move); rfl; rfl)
            | ((with_reducible apply wpL_assign); rfl; rfl)
            | ((with_reducible apply wpL_pick); rfl; rfl; rfl)
            | ((with_reducible apply wpL_not); rfl; rfl)
            | ((with_reducible apply wpL_cmp (b := true)); rfl; rfl; rfl; (first | rfl | assumption | (simp only [cmpB, decide_eq_true_eq, decide_eq_false_iff_not, beq_iff_eq, bne_iff_ne, ne_eq, beq_eq_false_iff_ne, bne_eq_false_iff_eq, gt_iff_lt, ge_iff_le]; omega) | (simp; omega)); rfl)
            | ((with_reducible apply wpL_cmp (b := false)); rfl; rfl; rfl; (first | rfl | assumption | (simp only [cmpB, decide_eq_true_eq, decide_eq_false_iff_not, beq_iff_eq, bne_iff_ne, ne_eq, beq_eq_false_iff_ne, bne_eq_false_iff_eq, gt_iff_lt, ge_iff_le]; omega) | (simp; omega)); rfl)
            | ((with_reducible apply wpL_cmp); rfl; rfl; rfl; rfl; rfl)
            | ((with_reducible apply wpL_arith); rfl; rfl; rfl; (exact IntWalk.i64_in _ (by (try simp only [arithI]); omega)); rfl)); (try simp only [arithI, Act.put, Act.eval, List.setIfInBounds_toArray, List.set_cons_succ, List.set_cons_zero, Array.getD_eq_getD_getElem?, List.getElem?_toArray, List.getElem?_cons_succ, List.getElem?_cons_zero, Option.getD_some])))
      go_ret
      exact RetLv.of HLV.out HH.out
end Go.Proofs.Ytgkfopodhikckaa

/- Rules on ints: exclusive or, shifts. No condition. -/
namespace Go.Proofs.Ytgkfopodhikckaa
open Go.RowKit
section
variable {P : Program} {ops : Array Oper} {rest : List Oper} {a : Act} {ρ : Operand → Value} {dst : Option Tmp} {ty : TypeId} {pos : String} {after : Array Edge} {guard : Option (Nat × Bool)} {C : World → Prop} {K : Act → Prop} {w : World} {Q : Exit → Act → World → Prop}
theorem ex_shrI {t yt : TypeId} {x y : Operand} {kk : IntKind} {p q : Int} {m k r : Nat} (hx : ρ x = .int .i64 p) (hy : ρ y = .int kk q) (hp : p = (m : Int)) (hq : q = (k : Int)) (hk : k < 64) (hr : m / 2 ^ k = r) (w : World) :
    (execOp ρ { dst := dst, op := .binOp .shr t x y yt, type := ty, pos := pos, after := after, guard := guard }).run P w = .ok (.value (.int .i64 (r : Int))) w := by
  subst hp hq hr
  have he : ∀ u v, eqGuard .shr t x y u v = pure () := fun _ _ => rfl
  have hr : (binOp .shr t (.int .i64 (m : Int)) (.int kk (k : Int))).run P w = .ok (.int .i64 ((m / 2 ^ k : Nat) : Int)) w := by
    show (Op.shift .shr .i64 (m : Int) kk (k : Int)).run P w = _
    have h0 : ¬ (k : Int) < 0 := by omega
    have h1 : min (k : Int).toNat IntKind.i64.bits = k := by
      have : IntKind.i64.bits = 64 := rfl
      omega
    simp only [Op.shift, h0, if_false, h1, Sem.run_pure]
    congr 2
    rw [Int.fdiv_eq_ediv_of_nonneg _ (by exact_mod_cast Nat.zero_le _)]
    norm_cast
  simp only [execOp, hx, hy, Sem.run_bind, he, Sem.run_pure, Result.andThen_ok, hr]
theorem wpL_shrI {t yt : TypeId} {x y : Operand} {kk : IntKind} {p q : Int} {m k r : Nat} (hx : a.eval x = .int .i64 p) (hy : a.eval y = .int kk q) (hp : p = (m : Int)) (hq : q = (k : Int)) (hk : k < 64) (hr : m / 2 ^ k = r)
    (hg : Region.wanted { dst := dst, op := .binOp .shr t x y yt, type := ty, pos := pos, after := after, guard := guard } (yielded ops a.tmps) = true)
    (h : wpList P ops Q rest (a.put dst (.int .i64 (r : Int))) w) : wpList P ops Q ({ dst := dst, op := .binOp .shr t x y yt, type := ty, pos := pos, after := after, guard := guard } :: rest) a w :=
  wpList_ex hg (ex_shrI (ρ := a.eval) hx hy hp hq hk hr w) h
/-- The sum 1 << k. -/
theorem ex_shlP {t yt : TypeId} {x y : Operand} {kk : IntKind} {p q : Int} {m k r : Nat} (hx : ρ x = .int .i64 p) (hy : ρ y = .int kk q) (hp : p = (m : Int)) (hq : q = (k : Int)) (hk : k < 64) (hr : m * 2 ^ k = r) (hw : IntKind.i64.wrap (r : Int) = (r : Int)) (w : World) :
    (execOp ρ { dst := dst, op := .binOp .shl t x y yt, type := ty, pos := pos, after := after, guard := guard }).run P w = .ok (.value (.int .i64 (r : Int))) w := by
  subst hp hq hr
  have he : ∀ u v, eqGuard .shl t x y u v = pure () := fun _ _ => rfl
  have hr : (binOp .shl t (.int .i64 (m : Int)) (.int kk (k : Int))).run P w = .ok (.int .i64 ((m * 2 ^ k : Nat) : Int)) w := by
    show (Op.shift .shl .i64 (m : Int) kk (k : Int)).run P w = _
    have h0 : ¬ (k : Int) < 0 := by omega
    have h1 : min (k : Int).toNat IntKind.i64.bits = k := by
      have : IntKind.i64.bits = 64 := rfl
      omega
    simp only [Op.shift, h0, if_false, h1, Sem.run_pure]
    rw [show ((m : Int) * 2 ^ k) = ((m * 2 ^ k : Nat) : Int) by push_cast; rfl, hw]
  simp only [execOp, hx, hy, Sem.run_bind, he, Sem.run_pure, Result.andThen_ok, hr]
theorem wpL_shlP {t yt : TypeId} {x y : Operand} {kk : IntKind} {p q : Int} {m k r : Nat} (hx : a.eval x = .int .i64 p) (hy : a.eval y = .int kk q) (hp : p = (m : Int)) (hq : q = (k : Int)) (hk : k < 64) (hr : m * 2 ^ k = r) (hw : IntKind.i64.wrap (r : Int) = (r : Int))
    (hg : Region.wanted { dst := dst, op := .binOp .shl t x y yt, type := ty, pos := pos, after := after, guard := guard } (yielded ops a.tmps) = true)
    (h : wpList P ops Q rest (a.put dst (.int .i64 (r : Int))) w) : wpList P ops Q ({ dst := dst, op := .binOp .shl t x y yt, type := ty, pos := pos, after := after, guard := guard } :: rest) a w :=
  wpList_ex hg (ex_shlP (ρ := a.eval) hx hy hp hq hk hr hw w) h
end
end Go.Proofs.Ytgkfopodhikckaa

/- Root, path, Path of merkle. Condition: at most 10^9 leaves. -/
namespace Go.Proofs.Ytgkfopodhikckaa
open Go.RowKit
attribute [local irreducible] wpQuiet wpList
/-- The levels as they lie. -/
def LvsAt (w : World) (v : Value) (l : List Nd) (h : Nat) : Prop :=
  ∃ ao cap cs, v = .slice (some ao) (h + 1) cap ∧ Sl w (.slice (some ao) (h + 1) cap) 1 (h + 1) cs ∧ ∀ i, i ≤ h → ∃ a c, cs[i]? = some (.slice (some a) (levAt l i).length c) ∧ Arrs w (.slice (some a) (levAt l i).length c) (levAt l i)
theorem RetLv.get {w w' : World} {l : List Nd} {h : Nat} {e : Ending} (hl : l.length = 2 ^ h) (H : RetLv w (levelsL l h) e w') : ∃ v, e = .returned v ∧ Below w.heap.size w w' ∧ LvsAt w' v l h := by
  obtain ⟨ao, cap, rfl, hb, cs, hs, hcs⟩ := H
  have hn : (levelsL l h).length = h + 1 := by simp [levelsL]
  rw [hn] at hs hcs ⊢
  obtain ⟨a0, c0, e0⟩ := hs.some (by omega)
  simp only [Value.slice.injEq] at e0
  obtain ⟨rfl, -, -⟩ := e0
  refine ⟨_, rfl, hb, a0, cap, cs, rfl, hs, fun i hi => ?_⟩
  obtain ⟨a, c, h1, h2⟩ := hcs i (by omega)
  have e : (levelsL l h).getD i [] = levAt l i := by simp [levelsL, List.getD, show i < h + 1 by omega]
  rw [e] at h1 h2
  have hp : 0 < (levAt l i).length := by rw [levAt_len hl i hi]; exact Nat.two_pow_pos _
  obtain ⟨a1, c1, e1⟩ := h2.some (by omega)
  simp only [Value.slice.injEq] at e1
  obtain ⟨rfl, -, -⟩ := e1
  exact ⟨a1, c, h1, h2⟩
theorem LvsAt.below {w w' : World} {v : Value} {l : List Nd} {h : Nat} (H : LvsAt w v l h) (hb : Below w.heap.size w w') : LvsAt w' v l h := by
  obtain ⟨ao, cap, cs, rfl, hs, hcs⟩ := H
  refine ⟨ao, cap, cs, rfl, hs.below hb, fun i hi => ?_⟩
  obtain ⟨a, c, h1, h2⟩ := hcs i hi
  exact ⟨a, c, h1, h2.below hb⟩
theorem LvsAt.holds {w0 w : World} {v : Value} {l : List Nd} {h : Nat} {bs : List (Nat × Obj)} {rows : List Row} (H : LvsAt w0 v l h) (hH : Holds w0 [] bs rows w) : LvsAt w v l h := by
  obtain ⟨ao, cap, cs, rfl, hs, hcs⟩ := H
  refine ⟨ao, cap, cs, rfl, hH.sl hs, fun i hi => ?_⟩
  obtain ⟨a, c, h1, h2⟩ := hcs i hi
  exact ⟨a, c, h1, hH.sl h2⟩
theorem get_as {n : Nat} {w : World} {a : Addr} {cap k : Nat} {l : List (Arr n)} {x : Arr n} (h : Arrs w (.slice (some a) l.length cap) l) (hk : k < l.length) (hx : l[k] = x) : ∀ j u, x.cells[j]? = some u → w.cell? ((a.add (k * n)).add j) = some u := by
  subst hx; exact Arrs.get h k hk
def rootN (l : List Nd) : Nd := (levAt l (Nat.log2 l.length)).getD 0 Nd0
def rootV (l : List Nd) : Nd := if checkC l.length = 0 then rootN l else Nd0
def RetR (w : World) (x : Nd) (c : Int) (e : Ending) (w' : World) : Prop := e = .returned (.tuple #[x.val, .int .i64 c]) ∧ Below w.heap.size w w'
theorem RetR.mk {w w' : World} {x y : Nd} {b c : Int} (hx : x = y) (h : b = c) (hb : Below w.heap.size w w') : RetR w y c (.returned (.tuple #[x.val, .int .i64 b])) w' := ⟨by rw [h, hx], hb⟩
theorem BZ34 (w : World) : (Instr.build 34 #[]).run Try.prog w = .ok Nd0.val w := by kernel_rfl
set_option maxRecDepth 100000 in
set_option maxHeartbeats 4000000 in
theorem root_any (w : World) (v : Value) (l : List Nd) (hl : Arrs w v l) (hn : l.length ≤ 1000000000) : Calls Try.prog 38 #[v] w (RetR w (rootV l) (checkC l.length)) := by
  obtain ⟨ao, cap, rfl, _⟩ := hl.shape
  have HL := hid hl
  have HN := hid hn
  clear hl
  have HH := hid (Holds.init w)
  obtain ⟨c, hc⟩ : ∃ c, checkC l.length = c := ⟨_, rfl⟩
  have HC := hid hc
  by_cases h0 : c = 0
  · obtain ⟨h, hh, hlh⟩ := check_pow (hc.trans h0)
    subst h0
    have hlog : Nat.log2 l.length = h := by rw [hlh, Nat.log2_two_pow]
    have h1 : (levAt l h).length = 1 := by rw [levAt_len hlh h (Nat.le_refl _), Nat.sub_self]
    obtain ⟨x, hx⟩ : ∃ x, (levAt l h).getD 0 Nd0 = x := ⟨_, rfl⟩
    have HX := hid (show ∀ pf : 0 < (levAt l h).length, (levAt l h)[0]'pf = x from fun pf => by rw [← hx]; simp [pf])
    have hr : rootV l = x := by unfold rootV rootN; rw [if_pos hc, hlog, hx]
    rw [hr, hc]
    have HLH := hid hlh
    have H1 := hid h1
    clear hr hlog hlh hc hx h1
    go_enter Try.func38, Try.ntmps38
    go_wp2_with (first
      | ((first
          | ((with_reducible apply wpL_skip); rfl; skip)
          | (go_at_call 67; (with_reducible refine (check_any _ _ l (HH.out.sl HL.out) hn).mono ?_); rw [HC.out]; rintro e_ w2_ ⟨rfl, hb_⟩; (have hq_ := HH.out.grow hb_); clear HH; have HH := hid hq_; clear hq_ hb_)
          | (go_at_call 68; (with_reducible refine (levels_any _ _ l h (HH.out.sl HL.out) hh HLH.out).mono ?_); intro e_ w2_ hq0_; obtain ⟨lv_, rfl, hb_, al, cl, cs, rfl, hs_, hcs_⟩ := hq0_.get HLH.out; obtain ⟨a0, c0, hi_, ha_⟩ := hcs_ h (Nat.le_refl _); clear hq0_ hcs_; rw [H1.out] at hi_; (have hq_ := HH.out.grow hb_); clear HH; have HH := hid hq_; have HCI := hid (hs_.cell h _ hi_); have HAR := hid (get_as ha_ (by rw [H1.out]; decide) (HX.out _)); clear hq_ hb_ hs_ hi_ ha_)
          | ((with_reducible apply wpL_idxB (j := h) kE125); rfl; rfl; (exact (by omega)); (exact (by omega)); rfl)
          | ((with_reducible apply wpL_loadAt (t := 46) (v := .slice (some a0) 1 c0) kO46 HCI.out); rfl; rfl)
          | ((with_reducible apply wpL_idx (j := 0) kE46); rfl; rfl; rfl; (exact (by decide)); rfl)
          | ((with_reducible apply wpL_loadEl (dst := some 21) (v := x) kA34 HAR.out); rfl; rfl)
          | ((with_reducible apply wpL_storeC (t := 34) (vs := x.cells)); rfl; rfl; (exact kS34); (exact HH.out); (exact .here); (exact Arr.len _); (exact cells_one _); (exact Arr.len _); rfl; (intro w_ hq_; clear HH; have HH := hid hq_; clear hq_))
          | ((with_reducible apply wpL_nilCheck); rfl; rfl)
          | ((with_reducible apply wpL_loadArr (t := 34) kA34 HH.out); rfl; (first | exact .here | exact .there .here | exact .there (.there .here) | exact .there (.there (.there .here)) | exact .there (.there (.there (.there .here))) | exact .there (.there (.there (.there (.there .here)))) | exact .there (.there (.there (.there (.there (.there .here))))) | exact .there (.there (.there (.there (.there (.there (.there .here))))))); rfl)
          | ((with_reducible apply wpL_loadC (t := 34) kA34 HH.out); rfl; (first | exact .here | exact .there .here | exact .there (.there .here) | exact .there (.there (.there .here)) | exact .there (.there (.there (.there .here))) | exact .there (.there (.there (.there (.there .here)))) | exact .there (.there (.there (.there (.there (.there .here))))) | exact .there (.there (.there (.there (.there (.there (.there .here))))))); (first | rfl | exact Arr.len _ | (simp; done)); rfl)
          | ((with_reducible apply wpL_load1 (t := 46) kO46 HH.out); rfl; (first | exact .here | exact .there .here | exact .there (.there .here) | exact .there (.there (.there .here)) | exact .there (.there (.there (.there .here))) | exact .there (.there (.there (.there (.there .here)))) | exact .there (.there (.there (.there (.there (.there .here))))) | exact .there (.there (.there (.there (.there (.there (.there .here))))))); rfl; rfl)
          | ((with_reducible apply wpL_len (t := 125) Try.underlying125); rfl; rfl)
          | ((with_reducible apply wpL_allocC (dst := some 2) kZ34 HH.out); rfl; (intro g2_ w_ hq_; (try simp only [List.set_cons_zero, List.set_cons_succ] at hq_); clear HH; have HH := hid hq_; clear hq_))
          | ((with_reducible apply wpL_storeArr (t := 34) kS34 HH.out); rfl; rfl; (first | exact .here | exact .there .here | exact .there (.there .here) | exact .there (.there (.there .here)) | exact .there (.there (.there (.there .here))) | exact .there (.there (.there (.there (.there .here)))) | exact .there (.there (.there (.there (.there (.there .here))))) | exact .there (.there (.there (.there (.there (.there (.there .here))))))); (first | rfl | exact Arr.len _ | (simp; done)); rfl; (intro w_ hq_; (try simp only [List.set_cons_zero, List.set_cons_succ] at hq_); clear HH; have HH := hid hq_; clear hq_))
          | ((with_reducible apply wpL_storeC (t := 34)); rfl; rfl; (exact kS34); (exact HH.out); (first | exact .here | exact .there .here | exact .there (.there .here) | exact .there (.there (.there .here)) | exact .there (.there (.there (.there .here))) | exact .there (.there (.there (.there (.there .here)))) | exact .there (.there (.there (.there (.there (.there .here))))) | exact .there (.there (.there (.there (.there (.there (.there .here))))))); (first | rfl | exact Arr.len _ | (simp; done)); (first | rfl | (intro u_ hu_; simp only [List.mem_cons, List.not_mem_nil, or_false] at hu_; rcases hu_ with rfl | hu_; rfl) | exact byt_cell1 _ | exact cells_one _ | exact wrd_one _ | exact flat_cell1 _); (first | rfl | exact Arr.len _ | (simp; done)); rfl; (intro w_ hq_; (try simp only [List.set_cons_zero, List.set_cons_succ] at hq_); clear HH; have HH := hid hq_; clear hq_))
          | ((with_reducible apply wpL_move); rfl; rfl)
          | ((with_reducible apply wpL_assign); rfl; rfl)
          | ((with_reducible apply wpL_pick); rfl; rfl; rfl)
          | ((with_reducible apply wpL_not); rfl; rfl)
          | ((with_reducible apply wpL_cmp (b := true)); rfl; rfl; rfl; (first | rfl | assumption | (simp only [cmpB, decide_eq_true_eq, decide_eq_false_iff_not, beq_iff_eq, bne_iff_ne, ne_eq, beq_eq_false_iff_ne, bne_eq_false_iff_eq, gt_iff_lt, ge_iff_le]; omega) | (simp; omega)); rfl)
          | ((with_reducible apply wpL_cmp (b := false)); rfl; rfl; rfl; (first | rfl | assumption | (simp only [cmpB, decide_eq_true_eq, decide_eq_false_iff_not, beq_iff_eq, bne_iff_ne, ne_eq, beq_eq_false_iff_ne, bne_eq_false_iff_eq, gt_iff_lt, ge_iff_le]; omega) | (simp; omega)); rfl)
          | ((with_reducible apply wpL_cmp); rfl; rfl; rfl; rfl; rfl)
          | ((with_reducible apply wpL_arith); rfl; rfl; rfl; (exact IntWalk.i64_in _ (by (try simp only [arithI]); omega)); rfl)); (try simp only [arithI, Act.put, Act.eval, List.setIfInBounds_toArray, List.set_cons_succ, List.set_cons_zero, Array.getD_eq_getD_getElem?, List.getElem?_toArray, List.getElem?_cons_succ, List.getElem?_cons_zero, Option.getD_some])))
    refine bodyPost_ret (res2 rfl (resC kA34 HH.out (by rfl) .here (Arr.len _)) (by rfl)) rfl ?_
    exact RetR.mk rfl rfl HH.out.below
  · have hr : rootV l = Nd0 := by unfold rootV; rw [if_neg (by rw [hc]; exact h0)]
    rw [hr, hc]
    have hcb : (c != 0) = true := by simpa using h0
    clear hr hc h0
    go_enter Try.func38, Try.ntmps38
    go_wp2_with (first
      | ((first
          | ((with_reducible apply wpL_skip); rfl; skip)
          | (go_at_call 67; (with_reducible refine (check_any _ _ l (HH.out.sl HL.out) hn).mono ?_); rw [HC.out]; rintro e_ w2_ ⟨rfl, hb_⟩; (have hq_ := HH.out.grow hb_); clear HH; have HH := hid hq_; clear hq_ hb_)
          | ((with_reducible apply wpList_build (parts := #[]) (v := Nd0.val)); (exact BZ34); rfl)
          | ((with_reducible apply wpL_storeC (t := 34) (vs := Nd0.cells)); rfl; rfl; (exact kS34); (exact HH.out); (exact .here); (exact Arr.len _); (exact cells_one _); (exact Arr.len _); rfl; (intro w_ hq_; clear HH; have HH := hid hq_; clear hq_))
          | ((with_reducible apply wpL_nilCheck); rfl; rfl)
          | ((with_reducible apply wpL_loadArr (t := 34) kA34 HH.out); rfl; (first | exact .here | exact .there .here | exact .there (.there .here) | exact .there (.there (.there .here)) | exact .there (.there (.there (.there .here))) | exact .there (.there (.there (.there (.there .here)))) | exact .there (.there (.there (.there (.there (.there .here))))) | exact .there (.there (.there (.there (.there (.there (.there .here))))))); rfl)
          | ((with_reducible apply wpL_loadC (t := 34) kA34 HH.out); rfl; (first | exact .here | exact .there .here | exact .there (.there .here) | exact .there (.there (.there .here)) | exact .there (.there (.there (.there .here))) | exact .there (.there (.there (.there (.there .here)))) | exact .there (.there (.there (.there (.there (.there .here))))) | exact .there (.there (.there (.there (.there (.there (.there .here))))))); (first | rfl | exact Arr.len _ | (simp; done)); rfl)
          | ((with_reducible apply wpL_load1 (t := 46) kO46 HH.out); rfl; (first | exact .here | exact .there .here | exact .there (.there .here) | exact .there (.there (.there .here)) | exact .there (.there (.there (.there .here))) | exact .there (.there (.there (.there (.there .here)))) | exact .there (.there (.there (.there (.there (.there .here))))) | exact .there (.there (.there (.there (.there (.there (.there .here))))))); rfl; rfl)
          | ((with_reducible apply wpL_len (t := 125) Try.underlying125); rfl; rfl)
          | ((with_reducible apply wpL_allocC (dst := some 2) kZ34 HH.out); rfl; (intro g2_ w_ hq_; (try simp only [List.set_cons_zero, List.set_cons_succ] at hq_); clear HH; have HH := hid hq_; clear hq_))
          | ((with_reducible apply wpL_storeArr (t := 34) kS34 HH.out); rfl; rfl; (first | exact .here | exact .there .here | exact .there (.there .here) | exact .there (.there (.there .here)) | exact .there (.there (.there (.there .here))) | exact .there (.there (.there (.there (.there .here)))) | exact .there (.there (.there (.there (.there (.there .here))))) | exact .there (.there (.there (.there (.there (.there (.there .here))))))); (first | rfl | exact Arr.len _ | (simp; done)); rfl; (intro w_ hq_; (try simp only [List.set_cons_zero, List.set_cons_succ] at hq_); clear HH; have HH := hid hq_; clear hq_))
          | ((with_reducible apply wpL_storeC (t := 34)); rfl; rfl; (exact kS34); (exact HH.out); (first | exact .here | exact .there .here | exact .there (.there .here) | exact .there (.there (.there .here)) | exact .there (.there (.there (.there .here))) | exact .there (.there (.there (.there (.there .here)))) | exact .there (.there (.there (.there (.there (.there .here))))) | exact .there (.there (.there (.there (.there (.there (.there .here))))))); (first | rfl | exact Arr.len _ | (simp; done)); (first | rfl | (intro u_ hu_; simp only [List.mem_cons, List.not_mem_nil, or_false] at hu_; rcases hu_ with rfl | hu_; rfl) | exact byt_cell1 _ | exact cells_one _ | exact wrd_one _ | exact flat_cell1 _); (first | rfl | exact Arr.len _ | (simp; done)); rfl; (intro w_ hq_; (try simp only [List.set_cons_zero, List.set_cons_succ] at hq_); clear HH; have HH := hid hq_; clear hq_))
          | ((with_reducible apply wpL_move); rfl; rfl)
          | ((with_reducible apply wpL_assign); rfl; rfl)
          | ((with_reducible apply wpL_pick); rfl; rfl; rfl)
          | ((with_reducible apply wpL_not); rfl; rfl)
          | ((with_reducible apply wpL_cmp (b := true)); rfl; rfl; rfl; (first | rfl | assumption | (simp only [cmpB, decide_eq_true_eq, decide_eq_false_iff_not, beq_iff_eq, bne_iff_ne, ne_eq, beq_eq_false_iff_ne, bne_eq_false_iff_eq, gt_iff_lt, ge_iff_le]; omega) | (simp; omega)); rfl)
          | ((with_reducible apply wpL_cmp (b := false)); rfl; rfl; rfl; (first | rfl | assumption | (simp only [cmpB, decide_eq_true_eq, decide_eq_false_iff_not, beq_iff_eq, bne_iff_ne, ne_eq, beq_eq_false_iff_ne, bne_eq_false_iff_eq, gt_iff_lt, ge_iff_le]; omega) | (simp; omega)); rfl)
          | ((with_reducible apply wpL_cmp); rfl; rfl; rfl; rfl; rfl)
          | ((with_reducible apply wpL_arith); rfl; rfl; rfl; (exact IntWalk.i64_in _ (by (try simp only [arithI]); omega)); rfl)); (try simp only [arithI, Act.put, Act.eval, List.setIfInBounds_toArray, List.set_cons_succ, List.set_cons_zero, Array.getD_eq_getD_getElem?, List.getElem?_toArray, List.getElem?_cons_succ, List.getElem?_cons_zero, Option.getD_some])))
    refine bodyPost_ret (res2 rfl (resC kA34 HH.out (by rfl) .here (Arr.len _)) (by rfl)) rfl ?_
    exact RetR.mk rfl rfl HH.out.below
end Go.Proofs.Ytgkfopodhikckaa

/- path, Path of merkle. Condition: at most 10^9 leaves. -/
namespace Go.Proofs.Ytgkfopodhikckaa
open Go.RowKit
attribute [local irreducible] wpQuiet wpList
def RetP (w : World) (r : List Nd) (c : Int) (e : Ending) (w' : World) : Prop :=
  ∃ ao cap, e = .returned (.tuple #[.slice ao r.length cap, .int .i64 c]) ∧ Below w.heap.size w w' ∧ Arrs w' (.slice ao r.length cap) r
theorem RetP.mk {w w' : World} {r s : List Nd} {ao : Option Addr} {b c : Int} {cap : Nat} (hr : r = s) (h : b = c) (hb : Below w.heap.size w w') (hl : Arrs w' (.slice ao r.length cap) r) : RetP w s c (.returned (.tuple #[.slice ao r.length cap, .int .i64 b])) w' := by
  subst hr h; exact ⟨ao, cap, rfl, hb, hl⟩
theorem RetP.no {w w' : World} {s : List Nd} {b c : Int} (hs : s = []) (h : b = c) (hb : Below w.heap.size w w') : RetP w s c (.returned (.tuple #[.slice none 0 0, .int .i64 b])) w' := RetP.mk (r := []) hs.symm h hb (Sl.nil _ _)
def RetPO (w : World) (r : List Nd) (c : Int) (e : Ending) (w' : World) : Prop :=
  ∃ ao cap, e = .returned (.tuple #[.slice ao r.length cap, .int .i64 c]) ∧ w'.ownsRow w.heap.size 34 16 (.slice ao r.length cap) r.length (flat r) ∧ Below w.heap.size w w'
theorem RetPO.mk {w w' : World} {r s : List Nd} {ao : Option Addr} {b c : Int} {cap : Nat} (hr : r = s) (h : b = c) (hb : Below w.heap.size w w') (hl : w'.ownsRow w.heap.size 34 16 (.slice ao r.length cap) r.length (flat r)) : RetPO w s c (.returned (.tuple #[.slice ao r.length cap, .int .i64 b])) w' := by
  subst hr h; exact ⟨ao, cap, rfl, hl, hb⟩
theorem RetPO.no {w w' : World} {s : List Nd} {b c : Int} (hs : s = []) (h : b = c) (hb : Below w.heap.size w w') : RetPO w s c (.returned (.tuple #[.slice none 0 0, .int .i64 b])) w' := RetPO.mk (r := []) hs.symm h hb (World.ownsRow_nil _ _ _ _)
end Go.Proofs.Ytgkfopodhikckaa

/- Own and same of the merkle laws; Height and Node of the reference. Condition: at most 10^9 nodes. -/
namespace Go.Proofs.Ytgkfopodhikckaa
open Go.RowKit
attribute [local irreducible] wpQuiet wpList
end Go.Proofs.Ytgkfopodhikckaa

/- Height and Node of the reference. Condition: at most 10^9 nodes. -/
namespace Go.Proofs.Ytgkfopodhikckaa
open Go.RowKit
attribute [local irreducible] wpQuiet wpList
def RetH (w : World) (h : Nat) (c : Int) (e : Ending) (w' : World) : Prop := e = .returned (.tuple #[.int .i64 (h : Int), .int .i64 c]) ∧ Below w.heap.size w w'
theorem RetH.mk {w w' : World} {h k : Nat} {b c : Int} {q : Int} (hq : q = (k : Int)) (hk : k = h) (hb : b = c) (hw : Below w.heap.size w w') : RetH w h c (.returned (.tuple #[.int .i64 q, .int .i64 b])) w' := ⟨by rw [hq, hk, hb], hw⟩
end Go.Proofs.Ytgkfopodhikckaa

/- Node and Root of the reference. Condition: at most 10^9 nodes. -/
namespace Go.Proofs.Ytgkfopodhikckaa
open Go.RowKit
attribute [local irreducible] wpQuiet wpList
theorem upL_half (lev : Nat) : ∀ l : List Nd, (upL lev l).length = l.length / 2
  | [] => rfl
  | [_] => by simp [upL]
  | x :: y :: r => by
    have := upL_half lev r
    simp only [upL, List.length_cons, this]
    omega
theorem levAt_join {l : List Nd} {lev k : Nat} (h : k < (levAt l (lev + 1)).length) : 2 * k + 1 < (levAt l lev).length ∧ (levAt l (lev + 1)).getD k Nd0 = joinN ((lev + 1 : Nat) : Int) ((levAt l lev).getD (2 * k) Nd0) ((levAt l lev).getD (2 * k + 1) Nd0) := by
  have h1 : 2 * k + 1 < (levAt l lev).length := by rw [levAt, upL_half] at h; omega
  refine ⟨h1, ?_⟩
  rw [levAt, List.getD_eq_getElem?_getD, upL_get _ _ _ h1]
  rfl
end Go.Proofs.Ytgkfopodhikckaa

/- Root of the reference. Condition: at most 10^9 nodes. -/
namespace Go.Proofs.Ytgkfopodhikckaa
open Go.RowKit
attribute [local irreducible] wpQuiet wpList
end Go.Proofs.Ytgkfopodhikckaa

/- Path of the reference. Condition: at most 10^9 nodes. -/
namespace Go.Proofs.Ytgkfopodhikckaa
open Go.RowKit
attribute [local irreducible] wpQuiet wpList
end Go.Proofs.Ytgkfopodhikckaa

/- climb of merkle (under way). -/
namespace Go.Proofs.Ytgkfopodhikckaa
open Go.RowKit
attribute [local irreducible] wpQuiet wpList
/-- Left and right by bit k of the index. -/
def pairC (i k : Nat) (c s : Nd) : Nd × Nd := if (i / 2 ^ k) % 2 = 1 then (s, c) else (c, s)
/-- The node after k steps. -/
def curAt (i : Nat) (x : Nd) (p : List Nd) : Nat → Nd
  | 0 => x
  | k + 1 => joinN ((k + 1 : Nat) : Int) (pairC i k (curAt i x p k) (p.getD k Nd0)).1 (pairC i k (curAt i x p k) (p.getD k Nd0)).2
end Go.Proofs.Ytgkfopodhikckaa

/- One operation of a drawn region by what is listed: alloc, load, store of the call's own variables. No condition. -/
namespace Go.Proofs.Ytgkfopodhikckaa
open Go.RowKit
section
variable {P : Program} {w0 w : World} {S : List Nat} {bs bs' : List (Nat × Obj)} {rows : List Row} {a : Act} {dst : Option Tmp} {ty : TypeId} {pos : String} {after : Array Edge} {guard : Option (Nat × Bool)} {R : Value → World → Prop}
theorem Holds.permB (h : Holds w0 S bs rows w) (hp : bs.Perm bs') : Holds w0 S bs' rows w :=
  ⟨h.os, h.tape, h.output, h.size, h.old, fun p hp' => h.blk p (hp.mem_iff.2 hp'), fun p hp' => h.frs p (hp.mem_iff.2 hp'), h.row, (List.Perm.nodup_iff (List.Perm.append_right _ (hp.map _))).1 h.sep, h.inS⟩
theorem ok_alloc {e : TypeId} {zs : List Value} (hz : (P.info? e).map (·.zero) = some (some (.agg zs.toArray))) (hH : Holds w0 S bs rows w)
    (h : ∀ g w', Holds w0 S ((g, objC zs e) :: bs) rows w' → R (.pointer (some ⟨g, 0, none⟩)) w') :
    OpOK P { dst := dst, op := .alloc e, type := ty, pos := pos, after := after, guard := guard } a w R := by
  have hr : (execOp a.eval { dst := dst, op := .alloc e, type := ty, pos := pos, after := after, guard := guard }).run P w = .ok (.value (.pointer (some ⟨w.heap.size, 0, none⟩))) (w.alloc (objC zs e)) := by
    simp only [execOp, Instr.alloc, Sem.run_bind, run_zeroValue hz, Result.andThen_ok, newVar, newRow, run_newObj, Sem.run_pure]
    rfl
  unfold OpOK
  rw [hr]
  exact h _ _ (hH.alloc _)
theorem ok_load {t : TypeId} {n : Nat} (hA : AggT P t n) (hH : Holds w0 S bs rows w) {x : Operand} {g : Nat} {cs : List Value} {e : TypeId}
    (hx : a.eval x = .pointer (some ⟨g, 0, none⟩)) (ho : Own bs g (objC cs e)) (hl : cs.length = n) (h : R (.agg cs.toArray) w) :
    OpOK P { dst := dst, op := .load t x, type := ty, pos := pos, after := after, guard := guard } a w R := by
  have hr := ex_loadPart (dst := dst) (ty := ty) (pos := pos) (after := after) (guard := guard) (ρ := a.eval) hA hH hx ho (j := 0) (vs := cs) (by rw [List.drop_zero, ← hl, List.take_length]) hl
  unfold OpOK
  rw [hr]
  exact h
theorem ok_store {t : TypeId} {x y : Operand} {g : Nat} {vs cs : List Value} {sz : Nat} {e : TypeId}
    (hx : a.eval x = .pointer (some ⟨g, 0, none⟩)) (hy : a.eval y = .agg vs.toArray) (hi : (P.info? t).map (·.size) = some sz)
    (hH : Holds w0 S bs rows w) (ht : Turn bs g (objC cs e) (objC vs e) bs') (hv : vs.length = sz) (h1 : ∀ u ∈ vs, u.oneCell' = true) (hc : cs.length = sz)
    (h : ∀ w', Holds w0 S bs' rows w' → R undef w') :
    OpOK P { dst := dst, op := .store t x y, type := ty, pos := pos, after := after, guard := guard } a w R := by
  have hblk : w.heap[g]? = some (.cells cs.toArray e (0, 0)) := hH.at ht.own
  have hs := run_storeCells_at P g 0 e vs 0 cs.toArray w hblk (by simp; omega) h1
  have hdr : cs.drop sz = [] := List.drop_eq_nil_of_le (by omega)
  simp only [Nat.add_zero, hv, Nat.zero_add, List.take_zero, List.nil_append, hdr, List.append_nil] at hs
  have hvz : (Value.agg vs.toArray).cells.size = sz := by simpa [Value.cells] using hv
  have hcl : (Value.agg vs.toArray).cells.toList = vs := by simp [Value.cells]
  have hr : (execOp a.eval { dst := dst, op := .store t x y, type := ty, pos := pos, after := after, guard := guard }).run P w = .ok .skip (w.setRow g vs.toArray) := by
    simp only [execOp, hx, hy, Instr.storeAt, Instr.sureAddr, storeVar, Sem.run_bind, Sem.run_pure, Result.andThen_ok, run_sizeOf hi, hvz, hcl, ne_eq, not_true_eq_false, if_false, hs]
  unfold OpOK
  rw [hr]
  exact h _ (hH.turn ht (setRow_heap w g cs.toArray _ e (0, 0) hblk) rfl rfl rfl (by simp) fun k _ hk => setRow_other w g k _ hk)
end
end Go.Proofs.Ytgkfopodhikckaa

/- A region that draws its order and that writes the call's own variables: what is held hangs on what is listed and on the slots. Over any program; no condition. -/
namespace Go.Proofs.Ytgkfopodhikckaa
open Go.RowKit
/-- One more is listed. -/
def upd (l : Nat → Bool) (i : Nat) : Nat → Bool := fun j => if j = i then true else l j
/-- A slot is written. -/
def updS (s : Nat → Value) (d : Nat) (v : Value) : Nat → Value := fun t => if t = d then v else s t
def stepS (o : Oper) (s : Nat → Value) (v : Value) : Nat → Value := match o.dst with | some d => updS s d v | none => s
/-- The slots. -/
def slF (a : Act) : Nat → Value := fun t => a.tmps.getD t undef
theorem slF_put {a : Act} {o : Oper} {v : Value} (h : ∀ d, o.dst = some d → d < a.tmps.size) : slF (a.put o.dst v) = stepS o (slF a) v := by
  funext t
  unfold slF stepS
  cases hd : o.dst with
  | none => rfl
  | some d =>
    simp only [updS]
    by_cases ht : t = d
    · subst ht; rw [if_pos rfl]; exact getD_put_self (h _ hd)
    · rw [if_neg ht]; exact getD_put_ne (Ne.symm ht)
def lsF (li : Array Bool) : Nat → Bool := fun i => li.getD i true
theorem lsF_set {li : Array Bool} {i : Nat} (h : i < li.size) : lsF (li.setIfInBounds i true) = upd (lsF li) i := by
  funext j
  unfold lsF upd
  by_cases hj : j = i
  · subst hj; rw [if_pos rfl]; exact getD_set_self h true
  · rw [if_neg hj]; exact getD_set_ne' (Ne.symm hj) true
/-- What is listed is closed under the edges that bind. -/
def closedF (ops : Array Oper) (l : Nat → Bool) : Prop := ∀ i o, ops[i]? = some o → l i = true → ∀ e ∈ o.after, Region.binds .any e = true → l e.on = true
def SatF (ops : Array Oper) (V : Nat → Value → Prop) (a : Act) (i : Nat) : Prop := ∀ o, ops[i]? = some o → V i (match o.dst with | some d => a.tmps.getD d undef | none => undef)
section
variable {P : Program} {w0 w : World} {S : List Nat} {a0 : Act} {Q : Exit → Act → World → Prop} {ops : Array Oper}
structure InvF (ops : Array Oper) (a0 : Act) (J : (Nat → Bool) → (Nat → Value) → World → Prop) (V : Nat → Value → Prop) (li : Array Bool) (a : Act) (w : World) : Prop where
  inv : J (lsF li) (slF a) w
  cl : closedF ops (lsF li)
  def_ : a.defers = a0.defers
  size : a.tmps.size = a0.tmps.size
  fr : ∀ t, (∀ i o, ops[i]? = some o → li.getD i false = true → o.dst ≠ some t) → a.tmps.getD t undef = a0.tmps.getD t undef
  sat : ∀ i, li.getD i false = true → SatF ops V a i
theorem InvF.frD {J : (Nat → Bool) → (Nat → Value) → World → Prop} {V : Nat → Value → Prop} {li : Array Bool} {a : Act} (h : InvF ops a0 J V li a w) : FrD ops a0 a :=
  ⟨h.def_, h.size, fun t ht => h.fr t fun i o ho _ => ht i o ho⟩
theorem wpAny_F {J : (Nat → Bool) → (Nat → Value) → World → Prop} {V : Nat → Value → Prop} (hsh : shapeD a0.tmps.size ops = true)
    (hstep : ∀ i o, ops[i]? = some o → ∀ l a w, closedF ops l → l i = false → J l (slF a) w → FrD ops a0 a → (∀ e ∈ o.after, Region.binds .any e = true → l e.on = true ∧ SatF ops V a e.on) →
      if Region.wanted o (yielded ops a.tmps) then OpOK P o a w (fun v w' => J (upd l i) (stepS o (slF a) v) w' ∧ V i (slotD o v)) else J (upd l i) (stepS o (slF a) undef) w ∧ V i undef)
    (hend : ∀ l a w, (∀ i, l i = true) → J l (slF a) w → FrD ops a0 a → (∀ i, i < ops.size → SatF ops V a i) → Q .normal a w) :
    ∀ (fuel : Nat) (li : Array Bool) (a : Act) (w : World), li.size = ops.size → li.toList.count false ≤ fuel → InvF ops a0 J V li a w → wpAny P .any ops Q fuel li a w := by
  have hall : ∀ (li : Array Bool), li.size = ops.size → Region.ready .any ops li = [] → ∀ i, i < ops.size → li.getD i false = true := by
    intro li hsz hr i
    induction i using Nat.strongRecOn with
    | ind i ih =>
      intro hi
      by_cases h : li.getD i false = true
      · exact h
      · exfalso
        have hm : i ∈ Region.ready .any ops li := by
          refine mem_ready.2 ⟨?_, ops[i], by simp [hi], fun e he hb => ?_⟩
          · simp [hsz, hi] at h ⊢; exact h
          · have := shapeD_back hsh (i := i) (o := ops[i]) (by simp [hi]) e he hb
            exact ih e.on this (by omega)
        rw [hr] at hm
        cases hm
  have htrue : ∀ (li : Array Bool), li.size = ops.size → (∀ i, i < ops.size → li.getD i false = true) → ∀ i, lsF li i = true := by
    intro li hsz h i
    unfold lsF
    by_cases hi : i < ops.size
    · have := h i hi
      have hi' : i < li.size := by omega
      simpa [hi'] using this
    · have hi' : ¬ i < li.size := by omega
      simp [hi']
  intro fuel
  induction fuel with
  | zero =>
    intro li a w hsz hc hinv
    have hnone : ∀ i, i < ops.size → li.getD i false = true := by
      intro i hi
      have hi' : i < li.size := by omega
      have hb : li[i] ≠ false := by
        intro e
        have : false ∈ li.toList := by rw [← e]; simp
        have := List.count_pos_iff.2 this
        omega
      simp [hi', hb]
    refine ⟨?_, hend _ a w (htrue li hsz hnone) hinv.inv hinv.frD fun i hi => hinv.sat i (hnone i hi)⟩
    rw [List.eq_nil_iff_forall_not_mem]
    intro j hj
    obtain ⟨h1, o, ho, _⟩ := mem_ready.1 hj
    have hlt : j < ops.size := (Array.getElem?_eq_some_iff.1 ho).1
    have h2 := hnone j hlt
    have hj' : j < li.size := by omega
    simp [hj'] at h1 h2
    rw [h1] at h2
    cases h2
  | succ fuel ih =>
    intro li a w hsz hc hinv
    refine ⟨fun hr => hend _ a w (htrue li hsz (hall li hsz hr)) hinv.inv hinv.frD fun i hi => hinv.sat i (hall li hsz hr i hi), fun i hi => ?_⟩
    obtain ⟨h1, o, ho, hdeps⟩ := mem_ready.1 hi
    have hlt : i < ops.size := (Array.getElem?_eq_some_iff.1 ho).1
    have hlt' : i < li.size := by omega
    have hfalse : li[i] = false := by simpa [hlt'] using h1
    have hdt : ∀ e ∈ o.after, Region.binds .any e = true → lsF li e.on = true := by
      intro e he hb
      have h3 := hdeps e he hb
      have h4 : e.on < i := shapeD_back hsh ho e he hb
      have h5 : e.on < li.size := by omega
      unfold lsF
      simpa [h5] using h3
    have hs := hstep i o ho (lsF li) a w hinv.cl (by unfold lsF; simpa [hlt'] using hfalse) hinv.inv hinv.frD fun e he hb => ⟨hdt e he hb, hinv.sat e.on (hdeps e he hb)⟩
    have hcount : (li.setIfInBounds i true).toList.count false ≤ fuel := by
      rw [Array.toList_setIfInBounds, List.count_set (by simpa using hlt')]
      have : false ∈ li.toList := by rw [← hfalse]; simp
      have := List.count_pos_iff.2 this
      have e1 : li.toList[i]'(by simpa using hlt') = false := by simpa using hfalse
      rw [e1]
      have e2 : ((true : Bool) == false) = false := rfl
      simp only [beq_self_eq_true, if_true, e2, Bool.false_eq_true, if_false]
      omega
    have hdl : ∀ d, o.dst = some d → d < a.tmps.size := fun d hd => by rw [hinv.size]; exact shapeD_lt hsh ho hd
    have next : ∀ v w', J (upd (lsF li) i) (stepS o (slF a) v) w' → V i (slotD o v) → InvF ops a0 J V (li.setIfInBounds i true) (a.put o.dst v) w' := by
      intro v w' hJ hA
      refine ⟨by rw [lsF_set hlt', slF_put hdl]; exact hJ, ?_, by rw [defers_put]; exact hinv.def_, by rw [size_put]; exact hinv.size, ?_, ?_⟩
      · rw [lsF_set hlt']
        intro j oj hj hlj e he hb
        unfold upd at hlj ⊢
        by_cases hji : j = i
        · subst hji; rw [ho] at hj; cases hj
          split
          · rfl
          · exact hdt e he hb
        · rw [if_neg hji] at hlj
          split
          · rfl
          · exact hinv.cl j oj hj hlj e he hb
      · intro t ht
        have hne : o.dst ≠ some t := ht i o ho (getD_set_self hlt' false)
        have e1 : (a.put o.dst v).tmps.getD t undef = a.tmps.getD t undef := by
          cases hd : o.dst with
          | none => rfl
          | some d => exact getD_put_ne (by intro e; exact hne (by rw [hd, e]))
        rw [e1]
        exact hinv.fr t fun j oj hj hlj => by
          by_cases hij : i = j
          · subst hij; rw [ho] at hj; cases hj; exact hne
          · exact ht j oj hj (by rw [getD_set_ne' hij]; exact hlj)
      · intro j hj
        by_cases hij : i = j
        · subst hij
          intro oj hoj
          rw [ho] at hoj; cases hoj
          unfold slotD at hA
          cases hd : o.dst with
          | none => rw [hd] at hA; exact hA
          | some d =>
            simp only [getD_put_self (hdl d hd)]
            rw [hd] at hA
            exact hA
        · rw [getD_set_ne' hij] at hj
          intro oj hoj
          have h3 := hinv.sat j hj oj hoj
          have hval : (match oj.dst with | some d => (a.put o.dst v).tmps.getD d undef | none => undef) = (match oj.dst with | some d => a.tmps.getD d undef | none => undef) := by
            cases hd : o.dst with
            | none => rfl
            | some d =>
              cases hdj : oj.dst with
              | none => rfl
              | some d' =>
                have := shapeD_ne hsh ho hoj hij hd
                rw [hdj] at this
                exact getD_put_ne (by intro e; exact this (by rw [e]))
          rw [hval]
          exact h3
    unfold wpOp
    simp only [ho]
    by_cases hw : Region.wanted o (yielded ops a.tmps) = true
    · rw [if_pos hw] at hs ⊢
      exact .inl (hs.wp fun v w' ⟨hI, hA⟩ => ih _ _ _ (by simpa using hsz) hcount (next v w' hI hA))
    · rw [if_neg hw] at hs ⊢
      exact ih _ _ _ (by simpa using hsz) hcount (next undef w hs.1 (by unfold slotD; split <;> exact hs.2))
/-- The end, by the slots' values. -/
theorem putsD_of {l : List Oper} {a : Act} (hsh : shapeD a0.tmps.size l.toArray = true) (hF : FrD l.toArray a0 a) :
    a = putsD a0 l (l.map fun (o : Oper) => match o.dst with | some d => a.tmps.getD d undef | none => undef) := by
  let vs : List Value := l.map fun (o : Oper) => match o.dst with | some d => a.tmps.getD d undef | none => undef
  have hvl : vs.length = l.length := by simp [vs]
  show a = putsD a0 l vs
  have h1 : a.tmps = (putsD a0 l vs).tmps := by
    apply Array.ext
    · rw [putsD_size, hF.2.1]
    · intro t ht1 ht2
      have key : a.tmps.getD t undef = (putsD a0 l vs).tmps.getD t undef := by
        by_cases hex : ∃ (i : Nat) (o : Oper), l[i]? = some o ∧ o.dst = some t
        · obtain ⟨i, o, ho, hd⟩ := hex
          have hlt : t < a0.tmps.size := shapeD_lt hsh (i := i) (o := o) (by simpa using ho) hd
          refine (putsD_at l vs a0 i t o (a.tmps.getD t undef) hvl.symm ho ?_ hd hlt fun j o' hj ho' => ?_).symm
          · simp [vs, ho, hd]
          · exact shapeD_ne hsh (i := i) (j := j) (o := o) (o' := o') (by simpa using ho) (by simpa using ho') (Ne.symm hj) hd
        · rw [putsD_get l vs a0 t hvl.symm fun o ho hd => hex ?_]
          · exact hF.2.2 t fun i o ho hd => hex ⟨i, o, by simpa using ho, hd⟩
          · obtain ⟨j, hj, e⟩ := List.mem_iff_getElem.1 ho
            exact ⟨j, o, by rw [List.getElem?_eq_getElem hj, e], hd⟩
      simpa [ht1, ht2] using key
  have h2 : a.defers = (putsD a0 l vs).defers := by rw [putsD_defers, hF.1]
  cases a
  generalize hp : putsD a0 l vs = b at *
  cases b
  simp_all
/-- The slots behind the region. -/
def stepsS : List Oper → (Nat → Value) → List Value → (Nat → Value)
  | o :: l, s, v :: vs => stepsS l (stepS o s v) vs
  | _, s, _ => s
theorem slF_putsD : ∀ (l : List Oper) (vs : List Value) (a : Act), (∀ o ∈ l, ∀ d, o.dst = some d → d < a.tmps.size) → slF (putsD a l vs) = stepsS l (slF a) vs
  | [], vs, a, _ => by cases vs <;> rfl
  | o :: l, [], a, _ => rfl
  | o :: l, v :: vs, a, h => by
    have ih := slF_putsD l vs (a.put o.dst v) fun o' ho' d hd => by rw [size_put]; exact h o' (List.mem_cons_of_mem _ ho') d hd
    rw [slF_put (h o List.mem_cons_self)] at ih
    exact ih
/-- What operation i of the region has to show. -/
def ShowF (P : Program) (l : List Oper) (a0 : Act) (J : (Nat → Bool) → (Nat → Value) → World → Prop) (V : List (Value → Prop)) (i : Nat) (o : Oper) : Prop :=
  ∀ li a w, closedF l.toArray li → li i = false → J li (slF a) w → FrD l.toArray a0 a → (∀ e ∈ o.after, Region.binds .any e = true → li e.on = true ∧ SatF l.toArray (fun i => V.getD i fun _ => True) a e.on) →
    if Region.wanted o (yielded l.toArray a.tmps) then OpOK P o a w (fun v w' => J (upd li i) (stepS o (slF a) v) w' ∧ (V.getD i fun _ => True) (slotD o v)) else J (upd li i) (stepS o (slF a) undef) w ∧ (V.getD i fun _ => True) undef
/-- What holds behind the region: the slots' values, one by one. -/
def endF : List (Value → Prop) → (List Value → Prop) → Prop
  | [], Q => Q []
  | A :: L, Q => ∀ v, A v → endF L fun vs => Q (v :: vs)
theorem endF_get : ∀ (L : List (Value → Prop)) (Q : List Value → Prop), endF L Q → ∀ vs : List Value, vs.length = L.length → (∀ i v, vs[i]? = some v → (L.getD i fun _ => True) v) → Q vs
  | [], Q, h, vs, hl, _ => by
    have : vs = [] := List.eq_nil_of_length_eq_zero (by simpa using hl)
    subst this; exact h
  | A :: L, Q, h, vs, hl, hs => by
    cases vs with
    | nil => simp at hl
    | cons v vs =>
      exact endF_get L (fun vs => Q (v :: vs)) (h v (hs 0 v rfl)) vs (by simpa using hl) fun i u hu => by
        have := hs (i + 1) u (by simpa using hu)
        simpa using this
theorem wp_region_F {id : Nat} {l : List Oper} (V : List (Value → Prop)) (J : (Nat → Bool) → (Nat → Value) → World → Prop) (hm : P.follows .mixedOrders = true)
    (hsh : shapeD a0.tmps.size l.toArray = true) (hlen : V.length = l.length) (h0 : J (fun i => decide (l.length ≤ i)) (slF a0) w.drew)
    (hstep : eachD (ShowF P l a0 J V) 0 l)
    (hend : endF V fun vs => ∀ w', J (fun _ => true) (stepsS l (slF a0) vs) w' → Q .normal (putsD a0 l vs) w') : (Code.region id l.toArray true).wp P Q a0 w := by
  refine wp_region_any hm ?_
  refine wpAny_F (J := J) (V := fun i => V.getD i fun _ => True) hsh (fun i o ho li a w1 hc hi hJ hF hS => ?_) (fun li a w1 hl hJ hF hS => ?_) _ _ _ _ (by simp) ?_ ⟨?_, ?_, rfl, rfl, fun _ _ => rfl, fun i hi => ?_⟩
  · have := eachD_get _ l 0 hstep i o (by simpa using ho) li a w1 hc (by rw [Nat.zero_add]; exact hi) hJ hF hS
    rw [Nat.zero_add] at this
    exact this
  · have e : li = fun _ => true := funext hl
    subst e
    have hp := putsD_of hsh hF
    have hend' := endF_get V _ hend (l.map fun (o : Oper) => match o.dst with | some d => a.tmps.getD d undef | none => undef) (by rw [List.length_map, hlen]) (fun i v hv => by
      have hi : i < l.length := by
        have := (List.getElem?_eq_some_iff.1 hv).1
        simpa using this
      have h3 := hS i (by simpa using hi) l[i] (by simp [hi])
      simp only [List.getElem?_map, List.getElem?_eq_getElem hi, Option.map_some, Option.some.injEq] at hv
      rw [← hv]; exact h3) w1
    rw [← slF_putsD l _ a0 (fun o ho d hd => by
      obtain ⟨j, hj, e⟩ := List.mem_iff_getElem.1 ho
      exact shapeD_lt hsh (i := j) (o := o) (by simp [hj, e]) hd), ← hp] at hend'
    exact hend' hJ
  · rw [Array.toList_replicate, List.count_replicate_self]; exact Nat.le_refl _
  · have e : lsF (Array.replicate l.toArray.size false) = fun i => decide (l.length ≤ i) := by
      funext i
      unfold lsF
      by_cases hi : i < l.length
      · have : ¬ l.length ≤ i := by omega
        simp [hi, this]
      · have : l.length ≤ i := by omega
        simp [hi, this]
    rw [e]; exact h0
  · intro i o ho hl
    exfalso
    unfold lsF at hl
    have hi : i < l.length := by
      have := (Array.getElem?_eq_some_iff.1 ho).1
      simpa using this
    simp [hi] at hl
  · exfalso
    rw [Array.getD_eq_getD_getElem?, Array.getElem?_replicate] at hi
    split at hi <;> simp at hi
/-- The block that a pointer names. -/
def blkF : Value → Nat
  | .pointer (some ad) => ad.block
  | _ => 0
def isPtr (v : Value) : Prop := ∃ g, v = .pointer (some ⟨g, 0, none⟩)
def optB (b : Bool) (p : Nat × Obj) (l : List (Nat × Obj)) : List (Nat × Obj) := match b with | true => p :: l | false => l
def selO (b : Bool) (o o' : Obj) : Obj := match b with | true => o' | false => o
theorem optB_f (p : Nat × Obj) (l : List (Nat × Obj)) : optB false p l = l := rfl
theorem Own.opt {b : Bool} {p : Nat × Obj} {l : List (Nat × Obj)} {g : Nat} {o : Obj} (h : Own l g o) : Own (optB b p l) g o := by
  cases b with
  | true => exact .there h
  | false => exact h
theorem Turn.opt {b : Bool} {p : Nat × Obj} {l l' : List (Nat × Obj)} {g : Nat} {o o' : Obj} (h : Turn l g o o' l') : Turn (optB b p l) g o o' (optB b p l') := by
  cases b with
  | true => exact .there h
  | false => exact h
theorem optB_perm {b : Bool} {p q : Nat × Obj} {l : List (Nat × Obj)} : (q :: optB b p l).Perm (optB b p (q :: l)) := by
  cases b with
  | true => exact List.Perm.swap p q l
  | false => exact List.Perm.refl _
theorem closedF.off {l : Nat → Bool} {i j : Nat} (hc : closedF ops l) (hw : waits ops j i = true) (hi : l i = false) : l j = false := by
  cases hj : l j with
  | false => rfl
  | true =>
    exfalso
    unfold waits at hw
    cases ho : ops[j]? with
    | none => rw [ho] at hw; simp at hw
    | some o =>
      rw [ho] at hw
      simp only [Option.map_some, Option.getD_some, List.any_eq_true, Bool.and_eq_true, decide_eq_true_eq] at hw
      obtain ⟨e, he, hb, rfl⟩ := hw
      rw [hc j o ho hj e (Array.mem_toList_iff.1 he) hb] at hi
      cases hi
end
end Go.Proofs.Ytgkfopodhikckaa

namespace Go.Proofs.Ytgkfopodhikckaa
open Go.RowKit
attribute [local irreducible] wpQuiet wpList
def ClimbRel (w0 : World) (S : List Nat) (bsOf : Nat → List (Nat × Obj)) (rows : List Row) (i : Nat) (x : Nd) (p : List Nd) (g4 g8 : Nat) (kv : Value) (wr : World) : Prop :=
  ∃ k : Nat, k ≤ p.length ∧ kv = .int .i64 k ∧ Holds w0 S ((g8, objC Nd0.cells 34) :: (g4, objC (curAt i x p k).cells 34) :: bsOf k) rows wr
def CJ4 (w0 : World) (S : List Nat) (bs : List (Nat × Obj)) (rows : List Row) (c s : Nd) (l : Nat → Bool) (sl : Nat → Value) (w : World) : Prop :=
  Holds w0 S (optB (l 2) (blkF (sl 11), selO (l 4) (objC Nd0.cells 34) (objC c.cells 34)) (optB (l 3) (blkF (sl 12), selO (l 5) (objC Nd0.cells 34) (objC s.cells 34)) bs)) rows w
def CJ6 (w0 : World) (S : List Nat) (bs : List (Nat × Obj)) (rows : List Row) (c s : Nd) (g11 g12 : Nat) (l : Nat → Bool) (sl : Nat → Value) (w : World) : Prop :=
  Holds w0 S ((g11, selO (l 2) (objC c.cells 34) (objC s.cells 34)) :: (g12, selO (l 3) (objC s.cells 34) (objC c.cells 34)) :: bs) rows w
section
variable {P : Program} {w0 w : World} {S : List Nat} {bs : List (Nat × Obj)} {rows : List Row} {c s : Nd} {l : Nat → Bool} {a : Act}
set_option maxRecDepth 100000 in
theorem cj4_2 {pos : String} {ty : TypeId} {after : Array Edge} {guard : Option (Nat × Bool)} (hJ : CJ4 w0 S bs rows c s l (slF a) w) (h2 : l 2 = false) (h4 : l 4 = false) :
    OpOK Try.prog { dst := some 11, op := .alloc 34, type := ty, pos := pos, after := after, guard := guard } a w (fun v w' => CJ4 w0 S bs rows c s (upd l 2) (updS (slF a) 11 v) w' ∧ isPtr v) := by
  unfold CJ4 at hJ
  rw [h2, optB_f] at hJ
  refine ok_alloc (zs := (Arr.zero 16).cells) kZ34 hJ (fun g w' h' => ?_)
  refine ⟨?_, ⟨g, rfl⟩⟩
  show Holds w0 S ((g, selO (l 4) _ _) :: optB (l 3) _ bs) rows w'
  rw [h4]
  exact h'
set_option maxRecDepth 100000 in
theorem cj4_3 {pos : String} {ty : TypeId} {after : Array Edge} {guard : Option (Nat × Bool)} (hJ : CJ4 w0 S bs rows c s l (slF a) w) (h3 : l 3 = false) (h5 : l 5 = false) :
    OpOK Try.prog { dst := some 12, op := .alloc 34, type := ty, pos := pos, after := after, guard := guard } a w (fun v w' => CJ4 w0 S bs rows c s (upd l 3) (updS (slF a) 12 v) w' ∧ isPtr v) := by
  unfold CJ4 at hJ
  rw [h3, optB_f] at hJ
  refine ok_alloc (zs := (Arr.zero 16).cells) kZ34 hJ (fun g w' h' => ?_)
  refine ⟨?_, ⟨g, rfl⟩⟩
  show Holds w0 S (optB (l 2) _ ((g, selO (l 5) _ _) :: bs)) rows w'
  rw [h5]
  exact h'.permB optB_perm
set_option maxRecDepth 100000 in
theorem cj4_4 {pos : String} {ty : TypeId} {after : Array Edge} {guard : Option (Nat × Bool)} (hJ : CJ4 w0 S bs rows c s l (slF a) w) (h2 : l 2 = true) (h4 : l 4 = false) (e1 : isPtr (a.eval (.tmp 11))) (e2 : a.eval (.tmp 20) = c.val) :
    OpOK Try.prog { dst := none, op := .store 34 (.tmp 11) (.tmp 20), type := ty, pos := pos, after := after, guard := guard } a w (fun v w' => CJ4 w0 S bs rows c s (upd l 4) (slF a) w' ∧ True) := by
  obtain ⟨g, hg⟩ := e1
  have hs : slF a 11 = .pointer (some ⟨g, 0, none⟩) := hg
  unfold CJ4 at hJ
  rw [h2, h4, hs] at hJ
  refine ok_store (vs := c.cells) (cs := Nd0.cells) (e := 34) hg e2 kS34 hJ .here (Arr.len _) (cells_one _) (Arr.len _) fun w' h' => ⟨?_, trivial⟩
  show Holds w0 S (optB (l 2) (blkF (slF a 11), _) (optB (l 3) _ bs)) rows w'
  rw [h2, hs]
  exact h'
set_option maxRecDepth 100000 in
theorem cj4_5 {pos : String} {ty : TypeId} {after : Array Edge} {guard : Option (Nat × Bool)} (hJ : CJ4 w0 S bs rows c s l (slF a) w) (h3 : l 3 = true) (h5 : l 5 = false) (e1 : isPtr (a.eval (.tmp 12))) (e2 : a.eval (.tmp 21) = s.val) :
    OpOK Try.prog { dst := none, op := .store 34 (.tmp 12) (.tmp 21), type := ty, pos := pos, after := after, guard := guard } a w (fun v w' => CJ4 w0 S bs rows c s (upd l 5) (slF a) w' ∧ True) := by
  obtain ⟨g, hg⟩ := e1
  have hs : slF a 12 = .pointer (some ⟨g, 0, none⟩) := hg
  unfold CJ4 at hJ
  rw [h3, h5, hs] at hJ
  refine ok_store (vs := s.cells) (cs := Nd0.cells) (e := 34) hg e2 kS34 hJ (Turn.opt .here) (Arr.len _) (cells_one _) (Arr.len _) fun w' h' => ⟨?_, trivial⟩
  show Holds w0 S (optB (l 2) _ (optB (l 3) (blkF (slF a 12), _) bs)) rows w'
  rw [h3, hs]
  exact h'
set_option maxRecDepth 100000 in
theorem cj6_2 {g11 g12 : Nat} {pos : String} {ty : TypeId} {after : Array Edge} {guard : Option (Nat × Bool)} (hJ : CJ6 w0 S bs rows c s g11 g12 l (slF a) w) (h2 : l 2 = false) (e1 : a.eval (.tmp 11) = .pointer (some ⟨g11, 0, none⟩)) (e2 : a.eval (.tmp 27) = s.val) :
    OpOK Try.prog { dst := none, op := .store 34 (.tmp 11) (.tmp 27), type := ty, pos := pos, after := after, guard := guard } a w (fun v w' => CJ6 w0 S bs rows c s g11 g12 (upd l 2) (slF a) w' ∧ True) := by
  unfold CJ6 at hJ
  rw [h2] at hJ
  exact ok_store (vs := s.cells) (cs := c.cells) (e := 34) e1 e2 kS34 hJ .here (Arr.len _) (cells_one _) (Arr.len _) fun w' h' => ⟨h', trivial⟩
set_option maxRecDepth 100000 in
theorem cj6_3 {g11 g12 : Nat} {pos : String} {ty : TypeId} {after : Array Edge} {guard : Option (Nat × Bool)} (hJ : CJ6 w0 S bs rows c s g11 g12 l (slF a) w) (h3 : l 3 = false) (e1 : a.eval (.tmp 12) = .pointer (some ⟨g12, 0, none⟩)) (e2 : a.eval (.tmp 28) = c.val) :
    OpOK Try.prog { dst := none, op := .store 34 (.tmp 12) (.tmp 28), type := ty, pos := pos, after := after, guard := guard } a w (fun v w' => CJ6 w0 S bs rows c s g11 g12 (upd l 3) (slF a) w' ∧ True) := by
  unfold CJ6 at hJ
  rw [h3] at hJ
  exact ok_store (vs := c.cells) (cs := s.cells) (e := 34) e1 e2 kS34 hJ (.there .here) (Arr.len _) (cells_one _) (Arr.len _) fun w' h' => ⟨h', trivial⟩
end
theorem curAt_succ (i : Nat) (x : Nd) (p : List Nd) (k : Nat) : curAt i x p (k + 1) = joinN ((k : Int) + 1) (pairC i k (curAt i x p k) (p.getD k Nd0)).1 (pairC i k (curAt i x p k) (p.getD k Nd0)).2 := rfl
set_option maxRecDepth 100000 in
set_option maxHeartbeats 4000000 in
theorem climb_any (w0 w : World) (S : List Nat) (bsOf : Nat → List (Nat × Obj)) (rows : List Row) (f : FuncId) (cap : Array Value) (hf : Body Try.prog f) (v : Value) (x : Nd) (p : List Nd) (i : Nat)
    (hp : ∀ bs w1, Holds w0 S bs rows w1 → Arrs w1 v p) (hlen : p.length ≤ 10) (hi : i ≤ 1024) (hH : Holds w0 S (bsOf 0) rows w)
    (hvis : ∀ k, k < p.length → ∀ ex w1, Holds w0 S (ex ++ bsOf k) rows w1 →
      Calls Try.prog f (#[.int .i64 ((k : Int) + 1), (pairC i k (curAt i x p k) (p.getD k Nd0)).1.val, (pairC i k (curAt i x p k) (p.getD k Nd0)).2.val] ++ cap) w1 (fun e w2 => e = .returned (.tuple #[]) ∧ Holds w0 S (ex ++ bsOf (k + 1)) rows w2)) :
    Calls Try.prog 73 #[x.val, .int .i64 i, v, .func (.func f) #[] cap] w (fun e w' => e = .returned (curAt i x p p.length).val ∧ Holds w0 S (bsOf p.length) rows w') := by
  obtain ⟨ao, cap0, rfl, _⟩ := (hp _ _ hH).shape
  have HP := hid hp
  have HV := hid hvis
  have HH := hid hH
  have HI := hid hi
  have HF := hid hf
  clear hp hvis hH
  go_enter Try.func73, Try.ntmps73
  go_wp2_with (first
    | ((first
        | ((with_reducible apply wpL_skip); rfl; skip)
        | ((with_reducible apply wpL_nilCheck); rfl; rfl)
        | ((with_reducible apply wpL_loadArr (t := 34) kA34 HH.out); rfl; (first | exact .here | exact .there .here | exact .there (.there .here) | exact .there (.there (.there .here)) | exact .there (.there (.there (.there .here))) | exact .there (.there (.there (.there (.there .here)))) | exact .there (.there (.there (.there (.there (.there .here))))) | exact .there (.there (.there (.there (.there (.there (.there .here))))))); rfl)
        | ((with_reducible apply wpL_loadC (t := 34) kA34 HH.out); rfl; (first | exact .here | exact .there .here | exact .there (.there .here) | exact .there (.there (.there .here)) | exact .there (.there (.there (.there .here))) | exact .there (.there (.there (.there (.there .here)))) | exact .there (.there (.there (.there (.there (.there .here))))) | exact .there (.there (.there (.there (.there (.there (.there .here))))))); (first | rfl | exact Arr.len _ | (simp; done)); rfl)
        | ((with_reducible apply wpL_len (t := 46) Try.underlying46); rfl; rfl)
        | ((with_reducible apply wpL_boxArr (dst := some 4)); rfl; (exact HH.out); rfl; (intro g4_ w_ hq_; (try simp only [List.set_cons_zero, List.set_cons_succ] at hq_); clear HH; have HH := hid hq_; clear hq_))
        | ((with_reducible apply wpL_allocC (dst := some 8) kZ34 HH.out); rfl; (intro g8_ w_ hq_; (try simp only [List.set_cons_zero, List.set_cons_succ] at hq_); clear HH; have HH := hid hq_; clear hq_))
        | ((with_reducible apply wpL_allocC (dst := some 10) kZ34 HH.out); rfl; (intro g10_ w_ hq_; (try simp only [List.set_cons_zero, List.set_cons_succ] at hq_); clear HH; have HH := hid hq_; clear hq_))
        | ((with_reducible apply wpL_allocC (dst := some 11) kZ34 HH.out); rfl; (intro g11_ w_ hq_; (try simp only [List.set_cons_zero, List.set_cons_succ] at hq_); clear HH; have HH := hid hq_; clear hq_))
        | ((with_reducible apply wpL_allocC (dst := some 12) kZ34 HH.out); rfl; (intro g12_ w_ hq_; (try simp only [List.set_cons_zero, List.set_cons_succ] at hq_); clear HH; have HH := hid hq_; clear hq_))
        | ((with_reducible apply wpL_storeArr (t := 34) kS34 HH.out); rfl; rfl; (first | exact .here | exact .there .here | exact .there (.there .here) | exact .there (.there (.there .here)) | exact .there (.there (.there (.there .here))) | exact .there (.there (.there (.there (.there .here)))) | exact .there (.there (.there (.there (.there (.there .here))))) | exact .there (.there (.there (.there (.there (.there (.there .here))))))); (first | rfl | exact Arr.len _ | (simp; done)); rfl; (intro w_ hq_; (try simp only [List.set_cons_zero, List.set_cons_succ] at hq_); clear HH; have HH := hid hq_; clear hq_))
        | ((with_reducible apply wpL_storeC (t := 34)); rfl; rfl; (exact kS34); (exact HH.out); (first | exact .here | exact .there .here | exact .there (.there .here) | exact .there (.there (.there .here)) | exact .there (.there (.there (.there .here))) | exact .there (.there (.there (.there (.there .here)))) | exact .there (.there (.there (.there (.there (.there .here))))) | exact .there (.there (.there (.there (.there (.there (.there .here))))))); (first | rfl | exact Arr.len _ | (simp; done)); (first | rfl | (intro u_ hu_; simp only [List.mem_cons, List.not_mem_nil, or_false] at hu_; rcases hu_ with rfl | hu_; rfl) | exact byt_cell1 _ | exact cells_one _ | exact wrd_one _ | exact flat_cell1 _); (first | rfl | exact Arr.len _ | (simp; done)); rfl; (intro w_ hq_; (try simp only [List.set_cons_zero, List.set_cons_succ] at hq_); clear HH; have HH := hid hq_; clear hq_))
        | ((with_reducible apply wpL_move); rfl; rfl)
        | ((with_reducible apply wpL_assign); rfl; rfl)
        | ((with_reducible apply wpL_pick); rfl; rfl; rfl)
        | ((with_reducible apply wpL_not); rfl; rfl)
        | ((with_reducible apply wpL_cmp (b := true)); rfl; rfl; rfl; (first | rfl | assumption | (simp only [cmpB, decide_eq_true_eq, decide_eq_false_iff_not, beq_iff_eq, bne_iff_ne, ne_eq, beq_eq_false_iff_ne, bne_eq_false_iff_eq, gt_iff_lt, ge_iff_le]; omega) | (simp; omega)); rfl)
        | ((with_reducible apply wpL_cmp (b := false)); rfl; rfl; rfl; (first | rfl | assumption | (simp only [cmpB, decide_eq_true_eq, decide_eq_false_iff_not, beq_iff_eq, bne_iff_ne, ne_eq, beq_eq_false_iff_ne, bne_eq_false_iff_eq, gt_iff_lt, ge_iff_le]; omega) | (simp; omega)); rfl)
        | ((with_reducible apply wpL_cmp); rfl; rfl; rfl; rfl; rfl)
        | ((with_reducible apply wpL_arith); rfl; rfl; rfl; (exact IntWalk.i64_in _ (by (try simp only [arithI]); omega)); rfl)); (try simp only [arithI, Act.put, Act.eval, List.setIfInBounds_toArray, List.set_cons_succ, List.set_cons_zero, Array.getD_eq_getD_getElem?, List.getElem?_toArray, List.getElem?_cons_succ, List.getElem?_cons_zero, Option.getD_some])))
  go_loopw [15] (ClimbRel w0 S bsOf rows i x p g4_ g8_) (fun kv _ => p.length - (intOf kv).toNat)
  case atStart => exact ⟨0, Nat.zero_le _, rfl, HH.out⟩
  case round =>
    obtain ⟨k, hk, rfl, hr⟩ := hrel
    clear HH
    have HH := hid hr
    clear hr
    by_cases hlt : k < p.length
    · obtain ⟨c, hc⟩ : ∃ c, curAt i x p k = c := ⟨_, rfl⟩
      obtain ⟨s, hs⟩ : ∃ s, p.getD k Nd0 = s := ⟨_, rfl⟩
      have hv := HV.out k hlt
      have hst := curAt_succ i x p k
      rw [hc, hs] at hv hst
      have hh := HH.out
      rw [hc] at hh
      clear HH
      have HH := hid hh
      clear hh hc
      have HS := hid hs
      obtain ⟨ad, cap', e⟩ := (HP.out _ _ HH.out).some (by omega)
      cases e
      have HAR := hid (fun w1 (h1 : ∃ bs, Holds w0 S bs rows w1) => get_as (show Arrs w1 (.slice (some ad) p.length cap0) p from HP.out _ _ h1.choose_spec) hlt (show p[k] = s by rw [← hs]; simp [hlt]))
      clear hs
      go_wp2_with (first
        | ((first
            | ((with_reducible apply wpL_skip); rfl; skip)
            | ((with_reducible apply wpL_idx (dst := some 18) (j := k) kE46); rfl; rfl; rfl; (exact hlt); rfl)
            | ((with_reducible apply wpL_loadEl (dst := some 19) (v := s) kA34 (HAR.out _ ⟨_, HH.out⟩)); rfl; rfl)
            | ((with_reducible apply wpL_nilCheck); rfl; rfl)
            | ((with_reducible apply wpL_loadArr (t := 34) kA34 HH.out); rfl; (first | exact .here | exact .there .here | exact .there (.there .here) | exact .there (.there (.there .here)) | exact .there (.there (.there (.there .here))) | exact .there (.there (.there (.there (.there .here)))) | exact .there (.there (.there (.there (.there (.there .here))))) | exact .there (.there (.there (.there (.there (.there (.there .here))))))); rfl)
            | ((with_reducible apply wpL_loadC (t := 34) kA34 HH.out); rfl; (first | exact .here | exact .there .here | exact .there (.there .here) | exact .there (.there (.there .here)) | exact .there (.there (.there (.there .here))) | exact .there (.there (.there (.there (.there .here)))) | exact .there (.there (.there (.there (.there (.there .here))))) | exact .there (.there (.there (.there (.there (.there (.there .here))))))); (first | rfl | exact Arr.len _ | (simp; done)); rfl)
            | ((with_reducible apply wpL_len (t := 46) Try.underlying46); rfl; rfl)
            | ((with_reducible apply wpL_boxArr (dst := some 4)); rfl; (exact HH.out); rfl; (intro g4_ w_ hq_; (try simp only [List.set_cons_zero, List.set_cons_succ] at hq_); clear HH; have HH := hid hq_; clear hq_))
            | ((with_reducible apply wpL_allocC (dst := some 8) kZ34 HH.out); rfl; (intro g8_ w_ hq_; (try simp only [List.set_cons_zero, List.set_cons_succ] at hq_); clear HH; have HH := hid hq_; clear hq_))
            | ((with_reducible apply wpL_allocC (dst := some 10) kZ34 HH.out); rfl; (intro g10_ w_ hq_; (try simp only [List.set_cons_zero, List.set_cons_succ] at hq_); clear HH; have HH := hid hq_; clear hq_))
            | ((with_reducible apply wpL_allocC (dst := some 11) kZ34 HH.out); rfl; (intro g11_ w_ hq_; (try simp only [List.set_cons_zero, List.set_cons_succ] at hq_); clear HH; have HH := hid hq_; clear hq_))
            | ((with_reducible apply wpL_allocC (dst := some 12) kZ34 HH.out); rfl; (intro g12_ w_ hq_; (try simp only [List.set_cons_zero, List.set_cons_succ] at hq_); clear HH; have HH := hid hq_; clear hq_))
            | ((with_reducible apply wpL_storeArr (t := 34) kS34 HH.out); rfl; rfl; (first | exact .here | exact .there .here | exact .there (.there .here) | exact .there (.there (.there .here)) | exact .there (.there (.there (.there .here))) | exact .there (.there (.there (.there (.there .here)))) | exact .there (.there (.there (.there (.there (.there .here))))) | exact .there (.there (.there (.there (.there (.there (.there .here))))))); (first | rfl | exact Arr.len _ | (simp; done)); rfl; (intro w_ hq_; (try simp only [List.set_cons_zero, List.set_cons_succ] at hq_); clear HH; have HH := hid hq_; clear hq_))
            | ((with_reducible apply wpL_storeC (t := 34)); rfl; rfl; (exact kS34); (exact HH.out); (first | exact .here | exact .there .here | exact .there (.there .here) | exact .there (.there (.there .here)) | exact .there (.there (.there (.there .here))) | exact .there (.there (.there (.there (.there .here)))) | exact .there (.there (.there (.there (.there (.there .here))))) | exact .there (.there (.there (.there (.there (.there (.there .here))))))); (first | rfl | exact Arr.len _ | (simp; done)); (first | rfl | (intro u_ hu_; simp only [List.mem_cons, List.not_mem_nil, or_false] at hu_; rcases hu_ with rfl | hu_; rfl) | exact byt_cell1 _ | exact cells_one _ | exact wrd_one _ | exact flat_cell1 _); (first | rfl | exact Arr.len _ | (simp; done)); rfl; (intro w_ hq_; (try simp only [List.set_cons_zero, List.set_cons_succ] at hq_); clear HH; have HH := hid hq_; clear hq_))
            | ((with_reducible apply wpL_move); rfl; rfl)
            | ((with_reducible apply wpL_assign); rfl; rfl)
            | ((with_reducible apply wpL_pick); rfl; rfl; rfl)
            | ((with_reducible apply wpL_not); rfl; rfl)
            | ((with_reducible apply wpL_cmp (b := true)); rfl; rfl; rfl; (first | rfl | assumption | (simp only [cmpB, decide_eq_true_eq, decide_eq_false_iff_not, beq_iff_eq, bne_iff_ne, ne_eq, beq_eq_false_iff_ne, bne_eq_false_iff_eq, gt_iff_lt, ge_iff_le]; omega) | (simp; omega)); rfl)
            | ((with_reducible apply wpL_cmp (b := false)); rfl; rfl; rfl; (first | rfl | assumption | (simp only [cmpB, decide_eq_true_eq, decide_eq_false_iff_not, beq_iff_eq, bne_iff_ne, ne_eq, beq_eq_false_iff_ne, bne_eq_false_iff_eq, gt_iff_lt, ge_iff_le]; omega) | (simp; omega)); rfl)
            | ((with_reducible apply wpL_cmp); rfl; rfl; rfl; rfl; rfl)
            | ((with_reducible apply wpL_arith); rfl; rfl; rfl; (exact IntWalk.i64_in _ (by (try simp only [arithI]); omega)); rfl)); (try simp only [arithI, Act.put, Act.eval, List.setIfInBounds_toArray, List.set_cons_succ, List.set_cons_zero, Array.getD_eq_getD_getElem?, List.getElem?_toArray, List.getElem?_cons_succ, List.getElem?_cons_zero, Option.getD_some])))
      refine wp_region_F [(fun u_ => u_ = c.val), (fun u_ => u_ = s.val), (isPtr), (isPtr), (fun _ => True), (fun _ => True)] (CJ4 w0 S ((g10_, objC s.cells 34) :: (g8_, objC Nd0.cells 34) :: (g4_, objC c.cells 34) :: bsOf k) rows c s) (by kernel_rfl) (by kernel_rfl) rfl (HH.out.drew) ?_ ?_
      · refine eachD_cons ?_ (eachD_cons ?_ (eachD_cons ?_ (eachD_cons ?_ (eachD_cons ?_ (eachD_cons ?_ (eachD_nil))))))
        · intro li_ a_ w1 hc hi hJ hF hS
          have e4 : a_.eval (.tmp 4) = (.pointer (some ⟨g4_, 0, none⟩)) := (hF.2.2 4 (notDst_of (by kernel_rfl))).trans rfl
          refine wantD (by rfl) ?_
          exact ok_load kA34 hJ e4 (Own.opt (Own.opt (.there (.there .here)))) (Arr.len _) ⟨hJ, rfl⟩
        · intro li_ a_ w1 hc hi hJ hF hS
          have e10 : a_.eval (.tmp 10) = (.pointer (some ⟨g10_, 0, none⟩)) := (hF.2.2 10 (notDst_of (by kernel_rfl))).trans rfl
          refine wantD (by rfl) ?_
          exact ok_load kA34 hJ e10 (Own.opt (Own.opt .here)) (Arr.len _) ⟨hJ, rfl⟩
        · intro li_ a_ w1 hc hi hJ hF hS
          refine wantD (by rfl) ?_
          exact cj4_2 hJ hi (hc.off (j := 4) (by kernel_rfl) hi)
        · intro li_ a_ w1 hc hi hJ hF hS
          refine wantD (by rfl) ?_
          exact cj4_3 hJ hi (hc.off (j := 5) (by kernel_rfl) hi)
        · intro li_ a_ w1 hc hi hJ hF hS
          have l2 : li_ 2 = true := (hS ⟨2, .data⟩ (by simp) rfl).1
          have l0 : li_ 0 = true := (hS ⟨0, .data⟩ (by simp) rfl).1
          have l3 : li_ 3 = true := (hS ⟨3, .phase⟩ (by simp) rfl).1
          have e11 : (isPtr) (a_.eval (.tmp 11)) := (hS ⟨2, .data⟩ (by simp) rfl).2 _ rfl
          have e20 : a_.eval (.tmp 20) = c.val := (hS ⟨0, .data⟩ (by simp) rfl).2 _ rfl
          refine wantD (by rfl) ?_
          exact cj4_4 hJ l2 hi e11 e20
        · intro li_ a_ w1 hc hi hJ hF hS
          have l3 : li_ 3 = true := (hS ⟨3, .data⟩ (by simp) rfl).1
          have l1 : li_ 1 = true := (hS ⟨1, .data⟩ (by simp) rfl).1
          have l4 : li_ 4 = true := (hS ⟨4, .chain⟩ (by simp) rfl).1
          have l0 : li_ 0 = true := (hS ⟨0, .phase⟩ (by simp) rfl).1
          have l2 : li_ 2 = true := (hS ⟨2, .phase⟩ (by simp) rfl).1
          have e12 : (isPtr) (a_.eval (.tmp 12)) := (hS ⟨3, .data⟩ (by simp) rfl).2 _ rfl
          have e21 : a_.eval (.tmp 21) = s.val := (hS ⟨1, .data⟩ (by simp) rfl).2 _ rfl
          refine wantD (by rfl) ?_
          exact cj4_5 hJ l3 hi e12 e21
      intro v0_ h0_ v1_ h1_ v2_ h2_ v3_ h3_ v4_ h4_ v5_ h5_
      intro wq hq_
      have q_ : v0_ = c.val := h0_; clear h0_; subst q_
      have q_ : v1_ = s.val := h1_; clear h1_; subst q_
      obtain ⟨g11_, rfl⟩ := h2_
      obtain ⟨g12_, rfl⟩ := h3_
      clear h4_
      clear h5_
      have HQ := hid hq_; clear hq_
      simp only [putsD, Act.put, List.setIfInBounds_toArray, List.set_cons_succ, List.set_cons_zero]
      have hq2_ : Holds w0 S ((g11_, objC c.cells 34) :: (g12_, objC s.cells 34) :: (g10_, objC s.cells 34) :: (g8_, objC Nd0.cells 34) :: (g4_, objC c.cells 34) :: bsOf k) rows wq := HQ.out
      clear HH HQ
      have HH := hid hq2_
      clear hq2_
      obtain ⟨q, hq1⟩ : ∃ q, i / 2 ^ k = q := ⟨_, rfl⟩
      have hq10 : q ≤ 1024 := by rw [← hq1]; exact Nat.le_trans (Nat.div_le_self _ _) hi
      have HQ1 := hid hq1
      have HB1 := hid (show q < 2 ^ IntKind.i64.bits from Nat.lt_of_lt_of_le (show q < 1025 by omega) (by decide))
      clear hq1
      by_cases hbit : (i / 2 ^ k) % 2 = 1
      · have hpair : pairC i k c s = (s, c) := by unfold pairC; rw [if_pos hbit]
        rw [hpair] at hv hst
        obtain ⟨c2, hc2⟩ : ∃ c2, joinN ((k : Int) + 1) s c = c2 := ⟨_, rfl⟩
        have HC2 := hid hc2
        have HST := hid (show curAt i x p (k + 1) = c2 by rw [hst]; exact hc2)
        have HVIS := hid hv
        have HAND := hid (show q &&& 1 = 1 by rw [Nat.and_one_is_mod, ← HQ1.out]; exact hbit)
        clear hpair hv hst hc2 hbit
        go_wp2_with (first
          | ((first
              | ((with_reducible apply wpL_skip); rfl; skip)
              | ((with_reducible apply wpL_shrI (m := i) (k := k) (r := q)); rfl; rfl; rfl; rfl; (exact (by omega)); (exact HQ1.out); rfl)
              | ((with_reducible apply wpL_and (m := q) (n := 1) (r := 1)); rfl; rfl; rfl; rfl; (exact HB1.out); (exact (by decide)); (exact HAND.out); (exact (by decide)); rfl)
              | ((with_reducible apply wpL_nilCheck); rfl; rfl)
              | ((with_reducible apply wpL_loadArr (t := 34) kA34 HH.out); rfl; (first | exact .here | exact .there .here | exact .there (.there .here) | exact .there (.there (.there .here)) | exact .there (.there (.there (.there .here))) | exact .there (.there (.there (.there (.there .here)))) | exact .there (.there (.there (.there (.there (.there .here))))) | exact .there (.there (.there (.there (.there (.there (.there .here))))))); rfl)
              | ((with_reducible apply wpL_loadC (t := 34) kA34 HH.out); rfl; (first | exact .here | exact .there .here | exact .there (.there .here) | exact .there (.there (.there .here)) | exact .there (.there (.there (.there .here))) | exact .there (.there (.there (.there (.there .here)))) | exact .there (.there (.there (.there (.there (.there .here))))) | exact .there (.there (.there (.there (.there (.there (.there .here))))))); (first | rfl | exact Arr.len _ | (simp; done)); rfl)
              | ((with_reducible apply wpL_len (t := 46) Try.underlying46); rfl; rfl)
              | ((with_reducible apply wpL_boxArr (dst := some 4)); rfl; (exact HH.out); rfl; (intro g4_ w_ hq_; (try simp only [List.set_cons_zero, List.set_cons_succ] at hq_); clear HH; have HH := hid hq_; clear hq_))
              | ((with_reducible apply wpL_allocC (dst := some 8) kZ34 HH.out); rfl; (intro g8_ w_ hq_; (try simp only [List.set_cons_zero, List.set_cons_succ] at hq_); clear HH; have HH := hid hq_; clear hq_))
              | ((with_reducible apply wpL_allocC (dst := some 10) kZ34 HH.out); rfl; (intro g10_ w_ hq_; (try simp only [List.set_cons_zero, List.set_cons_succ] at hq_); clear HH; have HH := hid hq_; clear hq_))
              | ((with_reducible apply wpL_allocC (dst := some 11) kZ34 HH.out); rfl; (intro g11_ w_ hq_; (try simp only [List.set_cons_zero, List.set_cons_succ] at hq_); clear HH; have HH := hid hq_; clear hq_))
              | ((with_reducible apply wpL_allocC (dst := some 12) kZ34 HH.out); rfl; (intro g12_ w_ hq_; (try simp only [List.set_cons_zero, List.set_cons_succ] at hq_); clear HH; have HH := hid hq_; clear hq_))
              | ((with_reducible apply wpL_storeArr (t := 34) kS34 HH.out); rfl; rfl; (first | exact .here | exact .there .here | exact .there (.there .here) | exact .there (.there (.there .here)) | exact .there (.there (.there (.there .here))) | exact .there (.there (.there (.there (.there .here)))) | exact .there (.there (.there (.there (.there (.there .here))))) | exact .there (.there (.there (.there (.there (.there (.there .here))))))); (first | rfl | exact Arr.len _ | (simp; done)); rfl; (intro w_ hq_; (try simp only [List.set_cons_zero, List.set_cons_succ] at hq_); clear HH; have HH := hid hq_; clear hq_))
              | ((with_reducible apply wpL_storeC (t := 34)); rfl; rfl; (exact kS34); (exact HH.out); (first | exact .here | exact .there .here | exact .there (.there .here) | exact .there (.there (.there .here)) | exact .there (.there (.there (.there .here))) | exact .there (.there (.there (.there (.there .here)))) | exact .there (.there (.there (.there (.there (.there .here))))) | exact .there (.there (.there (.there (.there (.there (.there .here))))))); (first | rfl | exact Arr.len _ | (simp; done)); (first | rfl | (intro u_ hu_; simp only [List.mem_cons, List.not_mem_nil, or_false] at hu_; rcases hu_ with rfl | hu_; rfl) | exact byt_cell1 _ | exact cells_one _ | exact wrd_one _ | exact flat_cell1 _); (first | rfl | exact Arr.len _ | (simp; done)); rfl; (intro w_ hq_; (try simp only [List.set_cons_zero, List.set_cons_succ] at hq_); clear HH; have HH := hid hq_; clear hq_))
              | ((with_reducible apply wpL_move); rfl; rfl)
              | ((with_reducible apply wpL_assign); rfl; rfl)
              | ((with_reducible apply wpL_pick); rfl; rfl; rfl)
              | ((with_reducible apply wpL_not); rfl; rfl)
              | ((with_reducible apply wpL_cmp (b := true)); rfl; rfl; rfl; (first | rfl | assumption | (simp only [cmpB, decide_eq_true_eq, decide_eq_false_iff_not, beq_iff_eq, bne_iff_ne, ne_eq, beq_eq_false_iff_ne, bne_eq_false_iff_eq, gt_iff_lt, ge_iff_le]; omega) | (simp; omega)); rfl)
              | ((with_reducible apply wpL_cmp (b := false)); rfl; rfl; rfl; (first | rfl | assumption | (simp only [cmpB, decide_eq_true_eq, decide_eq_false_iff_not, beq_iff_eq, bne_iff_ne, ne_eq, beq_eq_false_iff_ne, bne_eq_false_iff_eq, gt_iff_lt, ge_iff_le]; omega) | (simp; omega)); rfl)
              | ((with_reducible apply wpL_cmp); rfl; rfl; rfl; rfl; rfl)
              | ((with_reducible apply wpL_arith); rfl; rfl; rfl; (exact IntWalk.i64_in _ (by (try simp only [arithI]); omega)); rfl)); (try simp only [arithI, Act.put, Act.eval, List.setIfInBounds_toArray, List.set_cons_succ, List.set_cons_zero, Array.getD_eq_getD_getElem?, List.getElem?_toArray, List.getElem?_cons_succ, List.getElem?_cons_zero, Option.getD_some])))
        refine wp_region_F [(fun u_ => u_ = s.val), (fun u_ => u_ = c.val), (fun _ => True), (fun _ => True)] (CJ6 w0 S ((g10_, objC s.cells 34) :: (g8_, objC Nd0.cells 34) :: (g4_, objC c.cells 34) :: bsOf k) rows c s g11_ g12_) (by kernel_rfl) (by kernel_rfl) rfl (HH.out.drew) ?_ ?_
        · refine eachD_cons ?_ (eachD_cons ?_ (eachD_cons ?_ (eachD_cons ?_ (eachD_nil))))
          · intro li_ a_ w1 hc hi hJ hF hS
            have e10 : a_.eval (.tmp 10) = (.pointer (some ⟨g10_, 0, none⟩)) := (hF.2.2 10 (notDst_of (by kernel_rfl))).trans rfl
            refine wantD (by rfl) ?_
            exact ok_load kA34 hJ e10 (.there (.there .here)) (Arr.len _) ⟨hJ, rfl⟩
          · intro li_ a_ w1 hc hi hJ hF hS
            have e4 : a_.eval (.tmp 4) = (.pointer (some ⟨g4_, 0, none⟩)) := (hF.2.2 4 (notDst_of (by kernel_rfl))).trans rfl
            refine wantD (by rfl) ?_
            exact ok_load kA34 hJ e4 (.there (.there (.there (.there .here)))) (Arr.len _) ⟨hJ, rfl⟩
          · intro li_ a_ w1 hc hi hJ hF hS
            have l0 : li_ 0 = true := (hS ⟨0, .data⟩ (by simp) rfl).1
            have e11 : a_.eval (.tmp 11) = (.pointer (some ⟨g11_, 0, none⟩)) := (hF.2.2 11 (notDst_of (by kernel_rfl))).trans rfl
            have e27 : a_.eval (.tmp 27) = s.val := (hS ⟨0, .data⟩ (by simp) rfl).2 _ rfl
            refine wantD (by rfl) ?_
            exact cj6_2 hJ hi e11 e27
          · intro li_ a_ w1 hc hi hJ hF hS
            have l1 : li_ 1 = true := (hS ⟨1, .data⟩ (by simp) rfl).1
            have l2 : li_ 2 = true := (hS ⟨2, .chain⟩ (by simp) rfl).1
            have l0 : li_ 0 = true := (hS ⟨0, .phase⟩ (by simp) rfl).1
            have e12 : a_.eval (.tmp 12) = (.pointer (some ⟨g12_, 0, none⟩)) := (hF.2.2 12 (notDst_of (by kernel_rfl))).trans rfl
            have e28 : a_.eval (.tmp 28) = c.val := (hS ⟨1, .data⟩ (by simp) rfl).2 _ rfl
            refine wantD (by rfl) ?_
            exact cj6_3 hJ hi e12 e28
        intro v0_ h0_ v1_ h1_ v2_ h2_ v3_ h3_
        intro wq hq_
        have q_ : v0_ = s.val := h0_; clear h0_; subst q_
        have q_ : v1_ = c.val := h1_; clear h1_; subst q_
        clear h2_
        clear h3_
        have HQ := hid hq_; clear hq_
        simp only [putsD, Act.put, List.setIfInBounds_toArray, List.set_cons_succ, List.set_cons_zero]
        have hq3_ : Holds w0 S ((g11_, objC s.cells 34) :: (g12_, objC c.cells 34) :: (g10_, objC s.cells 34) :: (g8_, objC Nd0.cells 34) :: (g4_, objC c.cells 34) :: bsOf k) rows wq := HQ.out
        clear HH HQ
        have HH := hid hq3_
        clear hq3_
        go_wp2_with (first
          | ((first
              | ((with_reducible apply wpL_skip); rfl; skip)
              | ((with_reducible apply wpL_shrI (m := i) (k := k) (r := q)); rfl; rfl; rfl; rfl; (exact (by omega)); (exact HQ1.out); rfl)
              | ((with_reducible apply wpL_and (m := q) (n := 1) (r := 1)); rfl; rfl; rfl; rfl; (exact HB1.out); (exact (by decide)); (exact HAND.out); (exact (by decide)); rfl)
              | ((with_reducible apply wpL_callV (dst := some 34) (f := f) (first := #[]) (cap := cap) (args := #[.int .i64 ((k : Int) + 1), s.val, c.val] ++ cap) hf); go_must (rfl); go_must ((first | rfl | (simp only [Array.empty_append]; rfl))); go_must ((exact HVIS.out [(g11_, objC s.cells 34), (g12_, objC c.cells 34), (g10_, objC s.cells 34), (g8_, objC Nd0.cells 34), (g4_, objC c.cells 34)] _ HH.out)); go_must (rfl); go_must ((rintro e_ w2_ ⟨rfl, hq_⟩; refine ⟨_, rfl, ?_⟩; simp only [List.cons_append, List.nil_append] at hq_; clear HH; have HH := hid hq_; clear hq_)))
              | (go_at_call 37; (with_reducible refine (join_any _ ((k : Int) + 1) s c).mono ?_); rw [HC2.out]; rintro e_ w2_ ⟨rfl, hb_⟩; (have hq_ := HH.out.grow hb_); clear HH; have HH := hid hq_; clear hq_ hb_)
              | ((with_reducible apply wpL_nilCheck); rfl; rfl)
              | ((with_reducible apply wpL_loadArr (t := 34) kA34 HH.out); rfl; (first | exact .here | exact .there .here | exact .there (.there .here) | exact .there (.there (.there .here)) | exact .there (.there (.there (.there .here))) | exact .there (.there (.there (.there (.there .here)))) | exact .there (.there (.there (.there (.there (.there .here))))) | exact .there (.there (.there (.there (.there (.there (.there .here))))))); rfl)
              | ((with_reducible apply wpL_loadC (t := 34) kA34 HH.out); rfl; (first | exact .here | exact .there .here | exact .there (.there .here) | exact .there (.there (.there .here)) | exact .there (.there (.there (.there .here))) | exact .there (.there (.there (.there (.there .here)))) | exact .there (.there (.there (.there (.there (.there .here))))) | exact .there (.there (.there (.there (.there (.there (.there .here))))))); (first | rfl | exact Arr.len _ | (simp; done)); rfl)
              | ((with_reducible apply wpL_len (t := 46) Try.underlying46); rfl; rfl)
              | ((with_reducible apply wpL_boxArr (dst := some 4)); rfl; (exact HH.out); rfl; (intro g4_ w_ hq_; (try simp only [List.set_cons_zero, List.set_cons_succ] at hq_); clear HH; have HH := hid hq_; clear hq_))
              | ((with_reducible apply wpL_allocC (dst := some 8) kZ34 HH.out); rfl; (intro g8_ w_ hq_; (try simp only [List.set_cons_zero, List.set_cons_succ] at hq_); clear HH; have HH := hid hq_; clear hq_))
              | ((with_reducible apply wpL_allocC (dst := some 10) kZ34 HH.out); rfl; (intro g10_ w_ hq_; (try simp only [List.set_cons_zero, List.set_cons_succ] at hq_); clear HH; have HH := hid hq_; clear hq_))
              | ((with_reducible apply wpL_allocC (dst := some 11) kZ34 HH.out); rfl; (intro g11_ w_ hq_; (try simp only [List.set_cons_zero, List.set_cons_succ] at hq_); clear HH; have HH := hid hq_; clear hq_))
              | ((with_reducible apply wpL_allocC (dst := some 12) kZ34 HH.out); rfl; (intro g12_ w_ hq_; (try simp only [List.set_cons_zero, List.set_cons_succ] at hq_); clear HH; have HH := hid hq_; clear hq_))
              | ((with_reducible apply wpL_storeArr (t := 34) kS34 HH.out); rfl; rfl; (first | exact .here | exact .there .here | exact .there (.there .here) | exact .there (.there (.there .here)) | exact .there (.there (.there (.there .here))) | exact .there (.there (.there (.there (.there .here)))) | exact .there (.there (.there (.there (.there (.there .here))))) | exact .there (.there (.there (.there (.there (.there (.there .here))))))); (first | rfl | exact Arr.len _ | (simp; done)); rfl; (intro w_ hq_; (try simp only [List.set_cons_zero, List.set_cons_succ] at hq_); clear HH; have HH := hid hq_; clear hq_))
              | ((with_reducible apply wpL_storeC (t := 34)); rfl; rfl; (exact kS34); (exact HH.out); (first | exact .here | exact .there .here | exact .there (.there .here) | exact .there (.there (.there .here)) | exact .there (.there (.there (.there .here))) | exact .there (.there (.there (.there (.there .here)))) | exact .there (.there (.there (.there (.there (.there .here))))) | exact .there (.there (.there (.there (.there (.there (.there .here))))))); (first | rfl | exact Arr.len _ | (simp; done)); (first | rfl | (intro u_ hu_; simp only [List.mem_cons, List.not_mem_nil, or_false] at hu_; rcases hu_ with rfl | hu_; rfl) | exact byt_cell1 _ | exact cells_one _ | exact wrd_one _ | exact flat_cell1 _); (first | rfl | exact Arr.len _ | (simp; done)); rfl; (intro w_ hq_; (try simp only [List.set_cons_zero, List.set_cons_succ] at hq_); clear HH; have HH := hid hq_; clear hq_))
              | ((with_reducible apply wpL_move); rfl; rfl)
              | ((with_reducible apply wpL_assign); rfl; rfl)
              | ((with_reducible apply wpL_pick); rfl; rfl; rfl)
              | ((with_reducible apply wpL_not); rfl; rfl)
              | ((with_reducible apply wpL_cmp (b := true)); rfl; rfl; rfl; (first | rfl | assumption | (simp only [cmpB, decide_eq_true_eq, decide_eq_false_iff_not, beq_iff_eq, bne_iff_ne, ne_eq, beq_eq_false_iff_ne, bne_eq_false_iff_eq, gt_iff_lt, ge_iff_le]; omega) | (simp; omega)); rfl)
              | ((with_reducible apply wpL_cmp (b := false)); rfl; rfl; rfl; (first | rfl | assumption | (simp only [cmpB, decide_eq_true_eq, decide_eq_false_iff_not, beq_iff_eq, bne_iff_ne, ne_eq, beq_eq_false_iff_ne, bne_eq_false_iff_eq, gt_iff_lt, ge_iff_le]; omega) | (simp; omega)); rfl)
              | ((with_reducible apply wpL_cmp); rfl; rfl; rfl; rfl; rfl)
              | ((with_reducible apply wpL_arith); rfl; rfl; rfl; (exact IntWalk.i64_in _ (by (try simp only [arithI]); omega)); rfl)); (try simp only [arithI, Act.put, Act.eval, List.setIfInBounds_toArray, List.set_cons_succ, List.set_cons_zero, Array.getD_eq_getD_getElem?, List.getElem?_toArray, List.getElem?_cons_succ, List.getElem?_cons_zero, Option.getD_some])))
        go_roundw
        case rel => exact ⟨k + 1, by omega, by go_num, HST.out ▸ HH.out.dropBlk.dropBlk.dropBlk⟩
        case measure => simp [intOf]; omega
      · have hpair : pairC i k c s = (c, s) := by unfold pairC; rw [if_neg hbit]
        rw [hpair] at hv hst
        obtain ⟨c2, hc2⟩ : ∃ c2, joinN ((k : Int) + 1) c s = c2 := ⟨_, rfl⟩
        have HC2 := hid hc2
        have HST := hid (show curAt i x p (k + 1) = c2 by rw [hst]; exact hc2)
        have HVIS := hid hv
        have HAND := hid (show q &&& 1 = 0 by rw [Nat.and_one_is_mod, ← HQ1.out]; omega)
        clear hpair hv hst hc2 hbit
        go_wp2_with (first
          | ((first
              | ((with_reducible apply wpL_skip); rfl; skip)
              | ((with_reducible apply wpL_shrI (m := i) (k := k) (r := q)); rfl; rfl; rfl; rfl; (exact (by omega)); (exact HQ1.out); rfl)
              | ((with_reducible apply wpL_and (m := q) (n := 1) (r := 0)); rfl; rfl; rfl; rfl; (exact HB1.out); (exact (by decide)); (exact HAND.out); (exact (by decide)); rfl)
              | ((with_reducible apply wpL_callV (dst := some 34) (f := f) (first := #[]) (cap := cap) (args := #[.int .i64 ((k : Int) + 1), c.val, s.val] ++ cap) hf); go_must (rfl); go_must ((first | rfl | (simp only [Array.empty_append]; rfl))); go_must ((exact HVIS.out [(g11_, objC c.cells 34), (g12_, objC s.cells 34), (g10_, objC s.cells 34), (g8_, objC Nd0.cells 34), (g4_, objC c.cells 34)] _ HH.out)); go_must (rfl); go_must ((rintro e_ w2_ ⟨rfl, hq_⟩; refine ⟨_, rfl, ?_⟩; simp only [List.cons_append, List.nil_append] at hq_; clear HH; have HH := hid hq_; clear hq_)))
              | (go_at_call 37; (with_reducible refine (join_any _ ((k : Int) + 1) c s).mono ?_); rw [HC2.out]; rintro e_ w2_ ⟨rfl, hb_⟩; (have hq_ := HH.out.grow hb_); clear HH; have HH := hid hq_; clear hq_ hb_)
              | ((with_reducible apply wpL_nilCheck); rfl; rfl)
              | ((with_reducible apply wpL_loadArr (t := 34) kA34 HH.out); rfl; (first | exact .here | exact .there .here | exact .there (.there .here) | exact .there (.there (.there .here)) | exact .there (.there (.there (.there .here))) | exact .there (.there (.there (.there (.there .here)))) | exact .there (.there (.there (.there (.there (.there .here))))) | exact .there (.there (.there (.there (.there (.there (.there .here))))))); rfl)
              | ((with_reducible apply wpL_loadC (t := 34) kA34 HH.out); rfl; (first | exact .here | exact .there .here | exact .there (.there .here) | exact .there (.there (.there .here)) | exact .there (.there (.there (.there .here))) | exact .there (.there (.there (.there (.there .here)))) | exact .there (.there (.there (.there (.there (.there .here))))) | exact .there (.there (.there (.there (.there (.there (.there .here))))))); (first | rfl | exact Arr.len _ | (simp; done)); rfl)
              | ((with_reducible apply wpL_len (t := 46) Try.underlying46); rfl; rfl)
              | ((with_reducible apply wpL_boxArr (dst := some 4)); rfl; (exact HH.out); rfl; (intro g4_ w_ hq_; (try simp only [List.set_cons_zero, List.set_cons_succ] at hq_); clear HH; have HH := hid hq_; clear hq_))
              | ((with_reducible apply wpL_allocC (dst := some 8) kZ34 HH.out); rfl; (intro g8_ w_ hq_; (try simp only [List.set_cons_zero, List.set_cons_succ] at hq_); clear HH; have HH := hid hq_; clear hq_))
              | ((with_reducible apply wpL_allocC (dst := some 10) kZ34 HH.out); rfl; (intro g10_ w_ hq_; (try simp only [List.set_cons_zero, List.set_cons_succ] at hq_); clear HH; have HH := hid hq_; clear hq_))
              | ((with_reducible apply wpL_allocC (dst := some 11) kZ34 HH.out); rfl; (intro g11_ w_ hq_; (try simp only [List.set_cons_zero, List.set_cons_succ] at hq_); clear HH; have HH := hid hq_; clear hq_))
              | ((with_reducible apply wpL_allocC (dst := some 12) kZ34 HH.out); rfl; (intro g12_ w_ hq_; (try simp only [List.set_cons_zero, List.set_cons_succ] at hq_); clear HH; have HH := hid hq_; clear hq_))
              | ((with_reducible apply wpL_storeArr (t := 34) kS34 HH.out); rfl; rfl; (first | exact .here | exact .there .here | exact .there (.there .here) | exact .there (.there (.there .here)) | exact .there (.there (.there (.there .here))) | exact .there (.there (.there (.there (.there .here)))) | exact .there (.there (.there (.there (.there (.there .here))))) | exact .there (.there (.there (.there (.there (.there (.there .here))))))); (first | rfl | exact Arr.len _ | (simp; done)); rfl; (intro w_ hq_; (try simp only [List.set_cons_zero, List.set_cons_succ] at hq_); clear HH; have HH := hid hq_; clear hq_))
              | ((with_reducible apply wpL_storeC (t := 34)); rfl; rfl; (exact kS34); (exact HH.out); (first | exact .here | exact .there .here | exact .there (.there .here) | exact .there (.there (.there .here)) | exact .there (.there (.there (.there .here))) | exact .there (.there (.there (.there (.there .here)))) | exact .there (.there (.there (.there (.there (.there .here))))) | exact .there (.there (.there (.there (.there (.there (.there .here))))))); (first | rfl | exact Arr.len _ | (simp; done)); (first | rfl | (intro u_ hu_; simp only [List.mem_cons, List.not_mem_nil, or_false] at hu_; rcases hu_ with rfl | hu_; rfl) | exact byt_cell1 _ | exact cells_one _ | exact wrd_one _ | exact flat_cell1 _); (first | rfl | exact Arr.len _ | (simp; done)); rfl; (intro w_ hq_; (try simp only [List.set_cons_zero, List.set_cons_succ] at hq_); clear HH; have HH := hid hq_; clear hq_))
              | ((with_reducible apply wpL_move); rfl; rfl)
              | ((with_reducible apply wpL_assign); rfl; rfl)
              | ((with_reducible apply wpL_pick); rfl; rfl; rfl)
              | ((with_reducible apply wpL_not); rfl; rfl)
              | ((with_reducible apply wpL_cmp (b := true)); rfl; rfl; rfl; (first | rfl | assumption | (simp only [cmpB, decide_eq_true_eq, decide_eq_false_iff_not, beq_iff_eq, bne_iff_ne, ne_eq, beq_eq_false_iff_ne, bne_eq_false_iff_eq, gt_iff_lt, ge_iff_le]; omega) | (simp; omega)); rfl)
              | ((with_reducible apply wpL_cmp (b := false)); rfl; rfl; rfl; (first | rfl | assumption | (simp only [cmpB, decide_eq_true_eq, decide_eq_false_iff_not, beq_iff_eq, bne_iff_ne, ne_eq, beq_eq_false_iff_ne, bne_eq_false_iff_eq, gt_iff_lt, ge_iff_le]; omega) | (simp; omega)); rfl)
              | ((with_reducible apply wpL_cmp); rfl; rfl; rfl; rfl; rfl)
              | ((with_reducible apply wpL_arith); rfl; rfl; rfl; (exact IntWalk.i64_in _ (by (try simp only [arithI]); omega)); rfl)); (try simp only [arithI, Act.put, Act.eval, List.setIfInBounds_toArray, List.set_cons_succ, List.set_cons_zero, Array.getD_eq_getD_getElem?, List.getElem?_toArray, List.getElem?_cons_succ, List.getElem?_cons_zero, Option.getD_some])))
        go_roundw
        case rel => exact ⟨k + 1, by omega, by go_num, HST.out ▸ HH.out.dropBlk.dropBlk.dropBlk⟩
        case measure => simp [intOf]; omega
    · obtain rfl : k = p.length := by omega
      go_wp2_with (first
        | ((first
            | ((with_reducible apply wpL_skip); rfl; skip)
            | ((with_reducible apply wpL_nilCheck); rfl; rfl)
            | ((with_reducible apply wpL_loadArr (t := 34) kA34 HH.out); rfl; (first | exact .here | exact .there .here | exact .there (.there .here) | exact .there (.there (.there .here)) | exact .there (.there (.there (.there .here))) | exact .there (.there (.there (.there (.there .here)))) | exact .there (.there (.there (.there (.there (.there .here))))) | exact .there (.there (.there (.there (.there (.there (.there .here))))))); rfl)
            | ((with_reducible apply wpL_loadC (t := 34) kA34 HH.out); rfl; (first | exact .here | exact .there .here | exact .there (.there .here) | exact .there (.there (.there .here)) | exact .there (.there (.there (.there .here))) | exact .there (.there (.there (.there (.there .here)))) | exact .there (.there (.there (.there (.there (.there .here))))) | exact .there (.there (.there (.there (.there (.there (.there .here))))))); (first | rfl | exact Arr.len _ | (simp; done)); rfl)
            | ((with_reducible apply wpL_len (t := 46) Try.underlying46); rfl; rfl)
            | ((with_reducible apply wpL_boxArr (dst := some 4)); rfl; (exact HH.out); rfl; (intro g4_ w_ hq_; (try simp only [List.set_cons_zero, List.set_cons_succ] at hq_); clear HH; have HH := hid hq_; clear hq_))
            | ((with_reducible apply wpL_allocC (dst := some 8) kZ34 HH.out); rfl; (intro g8_ w_ hq_; (try simp only [List.set_cons_zero, List.set_cons_succ] at hq_); clear HH; have HH := hid hq_; clear hq_))
            | ((with_reducible apply wpL_allocC (dst := some 10) kZ34 HH.out); rfl; (intro g10_ w_ hq_; (try simp only [List.set_cons_zero, List.set_cons_succ] at hq_); clear HH; have HH := hid hq_; clear hq_))
            | ((with_reducible apply wpL_allocC (dst := some 11) kZ34 HH.out); rfl; (intro g11_ w_ hq_; (try simp only [List.set_cons_zero, List.set_cons_succ] at hq_); clear HH; have HH := hid hq_; clear hq_))
            | ((with_reducible apply wpL_allocC (dst := some 12) kZ34 HH.out); rfl; (intro g12_ w_ hq_; (try simp only [List.set_cons_zero, List.set_cons_succ] at hq_); clear HH; have HH := hid hq_; clear hq_))
            | ((with_reducible apply wpL_storeArr (t := 34) kS34 HH.out); rfl; rfl; (first | exact .here | exact .there .here | exact .there (.there .here) | exact .there (.there (.there .here)) | exact .there (.there (.there (.there .here))) | exact .there (.there (.there (.there (.there .here)))) | exact .there (.there (.there (.there (.there (.there .here))))) | exact .there (.there (.there (.there (.there (.there (.there .here))))))); (first | rfl | exact Arr.len _ | (simp; done)); rfl; (intro w_ hq_; (try simp only [List.set_cons_zero, List.set_cons_succ] at hq_); clear HH; have HH := hid hq_; clear hq_))
            | ((with_reducible apply wpL_storeC (t := 34)); rfl; rfl; (exact kS34); (exact HH.out); (first | exact .here | exact .there .here | exact .there (.there .here) | exact .there (.there (.there .here)) | exact .there (.there (.there (.there .here))) | exact .there (.there (.there (.there (.there .here)))) | exact .there (.there (.there (.there (.there (.there .here))))) | exact .there (.there (.there (.there (.there (.there (.there .here))))))); (first | rfl | exact Arr.len _ | (simp; done)); (first | rfl | (intro u_ hu_; simp only [List.mem_cons, List.not_mem_nil, or_false] at hu_; rcases hu_ with rfl | hu_; rfl) | exact byt_cell1 _ | exact cells_one _ | exact wrd_one _ | exact flat_cell1 _); (first | rfl | exact Arr.len _ | (simp; done)); rfl; (intro w_ hq_; (try simp only [List.set_cons_zero, List.set_cons_succ] at hq_); clear HH; have HH := hid hq_; clear hq_))
            | ((with_reducible apply wpL_move); rfl; rfl)
            | ((with_reducible apply wpL_assign); rfl; rfl)
            | ((with_reducible apply wpL_pick); rfl; rfl; rfl)
            | ((with_reducible apply wpL_not); rfl; rfl)
            | ((with_reducible apply wpL_cmp (b := true)); rfl; rfl; rfl; (first | rfl | assumption | (simp only [cmpB, decide_eq_true_eq, decide_eq_false_iff_not, beq_iff_eq, bne_iff_ne, ne_eq, beq_eq_false_iff_ne, bne_eq_false_iff_eq, gt_iff_lt, ge_iff_le]; omega) | (simp; omega)); rfl)
            | ((with_reducible apply wpL_cmp (b := false)); rfl; rfl; rfl; (first | rfl | assumption | (simp only [cmpB, decide_eq_true_eq, decide_eq_false_iff_not, beq_iff_eq, bne_iff_ne, ne_eq, beq_eq_false_iff_ne, bne_eq_false_iff_eq, gt_iff_lt, ge_iff_le]; omega) | (simp; omega)); rfl)
            | ((with_reducible apply wpL_cmp); rfl; rfl; rfl; rfl; rfl)
            | ((with_reducible apply wpL_arith); rfl; rfl; rfl; (exact IntWalk.i64_in _ (by (try simp only [arithI]); omega)); rfl)); (try simp only [arithI, Act.put, Act.eval, List.setIfInBounds_toArray, List.set_cons_succ, List.set_cons_zero, Array.getD_eq_getD_getElem?, List.getElem?_toArray, List.getElem?_cons_succ, List.getElem?_cons_zero, Option.getD_some])))
      refine bodyPost_ret (res1 rfl (resC kA34 HH.out (by rfl) .here (Arr.len _))) rfl ?_
      exact ⟨rfl, HH.out.dropBlk.dropBlk⟩
end Go.Proofs.Ytgkfopodhikckaa

