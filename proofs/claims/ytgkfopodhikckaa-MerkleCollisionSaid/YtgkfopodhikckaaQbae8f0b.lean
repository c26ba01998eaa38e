/- The row MerkleCollision. No condition. -/
import Derived.Test.YtgkfopodhikckaaQ0aa9cf5
set_option linter.unusedSimpArgs false
set_option linter.unusedVariables false
/- Collision of the reference. Condition: at most 10^9 nodes. -/
namespace Go.Proofs.Ytgkfopodhikckaa
open Go.RowKit
attribute [local irreducible] wpQuiet wpList
theorem fill_one {place : Nat → Option (Nat × Nat)} {pre mid post : List Value} {i : Nat} {v : Value} {rest : List (Nat × Value)} (hp : place i = some (pre.length, mid.length)) (hv : v.cells.size = mid.length) :
    Instr.fill place (pre ++ mid ++ post).toArray ((i, v) :: rest) = Instr.fill place (pre ++ v.cells.toList ++ post).toArray rest := by
  rw [Instr.fill]
  have hcond : (v.cells.size ≠ mid.length || pre.length + v.cells.size > (pre ++ mid ++ post).toArray.size) = false := by
    simp [hv]
  simp only [hp, hcond, Bool.false_eq_true, if_false]
  have e1 : v.cells.zipIdx.foldl (fun cs (x : Value × Nat) => cs.setIfInBounds (pre.length + x.2) x.1) (pre ++ mid ++ post).toArray = (pre ++ v.cells.toList ++ post).toArray := by
    have := foldl_set v.cells.toList pre mid post 0 pre.length (by omega) (by simp [hv])
    rw [← this, ← Array.foldl_toList, Array.toList_zipIdx]
  have e2 : (fun cs (x : Value × Nat) => match x with | (c, j) => Array.setIfInBounds cs (pre.length + j) c) = (fun (cs : Array Value) (x : Value × Nat) => cs.setIfInBounds (pre.length + x.2) x.1) := rfl
  rw [e2, e1]
set_option maxRecDepth 100000 in
theorem kZ87b : (Try.prog.info? 87).map (·.zero) = some (some (.agg (twoCs 0 zP zP).toArray)) := by kernel_rfl
set_option maxRecDepth 100000 in
theorem BZ87 (w : World) : (Instr.build 87 #[]).run Try.prog w = .ok (.agg (twoCs 0 zP zP).toArray) w := by kernel_rfl
set_option maxRecDepth 100000 in
theorem BT87 (i : Int) (p q : Arr 32) (w : World) : (Instr.build 87 #[(0, .int .i64 i), (1, p.val), (2, q.val)]).run Try.prog w = .ok (.agg (twoCs i p q).toArray) w := by
  have hl : zP.cells.length = 32 := Arr.len _
  have hf : Instr.fill ((#[(0, 1), (1, 32), (33, 32)] : Array (Nat × Nat))[·]?) (twoCs 0 zP zP).toArray [(0, .int .i64 i), (1, p.val), (2, q.val)] = some (twoCs i p q).toArray := by
    have f1 := fill_one (place := ((#[(0, 1), (1, 32), (33, 32)] : Array (Nat × Nat))[·]?)) (pre := []) (mid := [.int .i64 0]) (post := zP.cells ++ zP.cells) (i := 0) (v := .int .i64 i) (rest := [(1, p.val), (2, q.val)]) rfl rfl
    have f2 := fill_one (place := ((#[(0, 1), (1, 32), (33, 32)] : Array (Nat × Nat))[·]?)) (pre := [.int .i64 i]) (mid := zP.cells) (post := zP.cells) (i := 1) (v := p.val) (rest := [(2, q.val)]) (by rw [hl]; rfl) (by rw [arr_size, hl])
    have f3 := fill_one (place := ((#[(0, 1), (1, 32), (33, 32)] : Array (Nat × Nat))[·]?)) (pre := .int .i64 i :: p.cells) (mid := zP.cells) (post := []) (i := 2) (v := q.val) (rest := []) (by rw [hl, List.length_cons, Arr.len]; rfl) (by rw [arr_size, hl])
    have c1 : (Value.int .i64 i).cells.toList = [.int .i64 i] := rfl
    have c2 : ∀ r : Arr 32, r.val.cells.toList = r.cells := fun r => by simp [Arr.val, Value.cells]
    rw [c1] at f1
    rw [c2] at f2 f3
    simp only [List.nil_append, List.cons_append, List.append_nil] at f1 f2 f3
    rw [f1, f2, f3, Instr.fill]
  have hz : ∀ w, (zeroValue 87).run Try.prog w = .ok (.agg (twoCs 0 zP zP).toArray) w := fun w => run_zeroValue kZ87b w
  simp only [Instr.build, Sem.run_bind, hz, Result.andThen_ok, run_underlying Try.underlying87]
  have hf2 : Instr.fill (fun x => [(0, 1), (1, 32), (33, 32)][x]?) (twoCs 0 zP zP).toArray [(0, Value.int .i64 i), (1, p.val), (2, q.val)] = some (twoCs i p q).toArray := by simpa using hf
  simp [run_sizeOf kS3, run_sizeOf kS73, Value.cells]
  rw [hf2]
  simp
def CRel (w : World) (f g : Nat → Arr 32) (n : Nat) (bs : List (Nat × Obj)) (rows : List Row) (kv : Value) (wr : World) : Prop :=
  ∃ m : Nat, m ≤ n ∧ kv = .int .i64 ((m : Int) - 1) ∧ topD f g n = topD f g m ∧ Holds w [] bs rows wr
theorem pairL_at (i : Nat) (x : Nd) (p : List Nd) {n k : Nat} (h : k < n) : ∀ pf : k < (pairL i x p n).length, (pairL i x p n)[k]'pf = pairA i x p k := by
  intro pf; simp [pairL]
set_option maxRecDepth 100000 in
set_option maxHeartbeats 8000000 in
theorem collR_any (w : World) (va vb : Value) (i : Int) (a b : Nd) (pa pb : List Nd) (ha : Arrs w va pa) (hb : Arrs w vb pb) (hna : pa.length ≤ 1000000000) (hnb : pb.length ≤ 1000000000) :
    Calls Try.prog 50 #[.int .i64 i, a.val, va, b.val, vb] w (RetC w (collV i a pa b pb)) := by
  obtain ⟨ua, ca, rfl, _⟩ := ha.shape
  obtain ⟨ub, cb, rfl, _⟩ := hb.shape
  have HPA := hid ha
  have HPB := hid hb
  clear ha hb
  have HH := hid (Holds.init w)
  obtain ⟨ea, hea⟩ : ∃ ea, fromC i pa.length = ea := ⟨_, rfl⟩
  obtain ⟨eb, heb⟩ : ∃ eb, fromC i pb.length = eb := ⟨_, rfl⟩
  obtain ⟨ra, hra⟩ : ∃ ra, fromV a i pa = ra := ⟨_, rfl⟩
  obtain ⟨rb, hrb⟩ : ∃ rb, fromV b i pb = rb := ⟨_, rfl⟩
  obtain ⟨xa, hxa⟩ : ∃ xa, pairsV a i pa = xa := ⟨_, rfl⟩
  obtain ⟨xb, hxb⟩ : ∃ xb, pairsV b i pb = xb := ⟨_, rfl⟩
  have HEA := hid hea
  have HEB := hid heb
  have HRA := hid hra
  have HRB := hid hrb
  have HXA := hid hxa
  have HXB := hid hxb
  by_cases h1 : ea = 0
  · subst h1
    by_cases h2 : eb = 0
    · subst h2
      have hla : xa.length = pa.length := by rw [← hxa]; unfold pairsV; rw [if_pos hea, pairL_len]
      have hlb : xb.length = pb.length := by rw [← hxb]; unfold pairsV; rw [if_pos heb, pairL_len]
      by_cases h3 : pa.length = pb.length
      · by_cases h4 : ra = rb
        · subst h4
          have hok : collOK i a pa b pb := ⟨hea, heb, h3, hra.trans hrb.symm⟩
          obtain ⟨h10, hi0, hi2⟩ := fromC_zero hea
          obtain ⟨j, rfl⟩ : ∃ j : Nat, i = j := ⟨i.toNat, by omega⟩
          obtain ⟨f, hf⟩ : ∃ f, pairA j a pa = f := ⟨_, rfl⟩
          obtain ⟨g, hg⟩ : ∃ g, pairA j b pb = g := ⟨_, rfl⟩
          have HA := hid (show ∀ k, k < xa.length → ∀ pf : k < xa.length, xa[k]'pf = f k from fun k hk => by
            have e : xa = pairL j a pa pa.length := by rw [← hxa]; unfold pairsV; rw [if_pos hea]; rfl
            subst e
            intro pf
            rw [← hf]
            exact pairL_at j a pa (by rw [pairL_len] at hk; exact hk) pf)
          have HB := hid (show ∀ k, k < xb.length → ∀ pf : k < xb.length, xb[k]'pf = g k from fun k hk => by
            have e : xb = pairL j b pb pb.length := by rw [← hxb]; unfold pairsV; rw [if_pos heb]; rfl
            subst e
            intro pf
            rw [← hg]
            exact pairL_at j b pb (by rw [pairL_len] at hk; exact hk) pf)
          have hv : collV (j : Int) a pa b pb = topD f g xa.length := by unfold collV; rw [if_pos hok, hla, ← hf, ← hg]; rfl
          rw [hv]
          have HLEN := hid (show xa.length = xb.length by rw [hla, hlb, h3])
          have hl10 : xa.length ≤ 10 := by rw [hla]; exact h10
          have hl10b : xb.length ≤ 10 := by rw [hlb, ← h3]; exact h10
          have HNE := hid (arrNe ra)
          have hlen : ((xa.length : Int) != (xb.length : Int)) = false := by simp [HLEN.out]
          clear hv hok hea heb hra hrb hxa hxb hi0 hi2 h3 hla hlb hf hg h10
          go_enter Try.func50, Try.ntmps50
          go_wp2_with (first
            | ((first
                | ((with_reducible apply wpL_skip); rfl; skip)
                | ((with_reducible apply wpL_allocC (dst := some 10) (zs := twoCs 0 zP zP) kZ87b HH.out); rfl; (intro g10_ w_ hq_; clear HH; have HH := hid hq_; clear hq_))
                | (go_at_call 55; (have hcall_ := hid (pairs_any _ (.slice ua pa.length ca) a (j:Int) pa (HH.out.sl HPA.out) hna)); (with_reducible refine hcall_.out.mono ?_); clear hcall_; rw [HRA.out, HEA.out, HXA.out]; rintro e_ w2_ ⟨ao1, cap1, rfl, hr_, hb_⟩; (have hq_ := HH.out.addRow hb_ hr_); clear HH; have HH := hid hq_; clear hq_ hb_ hr_)
                | (go_at_call 55; (have hcall_ := hid (pairs_any _ (.slice ub pb.length cb) b (j:Int) pb (HH.out.sl HPB.out) hnb)); (with_reducible refine hcall_.out.mono ?_); clear hcall_; rw [HRB.out, HEB.out, HXB.out]; rintro e_ w2_ ⟨ao2, cap2, rfl, hr_, hb_⟩; (have hq_ := HH.out.addRow hb_ hr_); clear HH; have HH := hid hq_; clear hq_ hb_ hr_)
                | ((with_reducible apply wpL_neqA (b := false) (p := ra) (q := ra) kR41); rfl; rfl; (exact HNE.out); rfl)
                | ((with_reducible apply wpL_nilCheck); rfl; rfl)
                | ((with_reducible apply wpL_loadArr (t := 41) kA41 HH.out); rfl; (first | exact .here | exact .there .here | exact .there (.there .here) | exact .there (.there (.there .here)) | exact .there (.there (.there (.there .here))) | exact .there (.there (.there (.there (.there .here)))) | exact .there (.there (.there (.there (.there (.there .here))))) | exact .there (.there (.there (.there (.there (.there (.there .here))))))); rfl)
                | ((with_reducible apply wpL_loadC (t := 41) kA41 HH.out); rfl; (first | exact .here | exact .there .here | exact .there (.there .here) | exact .there (.there (.there .here)) | exact .there (.there (.there (.there .here))) | exact .there (.there (.there (.there (.there .here)))) | exact .there (.there (.there (.there (.there (.there .here))))) | exact .there (.there (.there (.there (.there (.there (.there .here))))))); (first | rfl | exact Arr.len _ | (simp; done)); rfl)
                | ((with_reducible apply wpL_loadC (t := 73) kA73 HH.out); rfl; (first | exact .here | exact .there .here | exact .there (.there .here) | exact .there (.there (.there .here)) | exact .there (.there (.there (.there .here))) | exact .there (.there (.there (.there (.there .here)))) | exact .there (.there (.there (.there (.there (.there .here))))) | exact .there (.there (.there (.there (.there (.there (.there .here))))))); (first | rfl | exact Arr.len _ | (simp; done)); rfl)
                | ((with_reducible apply wpL_len (t := 98) Try.underlying98); rfl; rfl)
                | ((with_reducible apply wpL_boxArr (dst := some 6)); rfl; (exact HH.out); rfl; (intro g6_ w_ hq_; (try simp only [List.set_cons_zero, List.set_cons_succ] at hq_); clear HH; have HH := hid hq_; clear hq_))
                | ((with_reducible apply wpL_boxArr (dst := some 8)); rfl; (exact HH.out); rfl; (intro g8_ w_ hq_; (try simp only [List.set_cons_zero, List.set_cons_succ] at hq_); clear HH; have HH := hid hq_; clear hq_))
                | ((with_reducible apply wpL_allocC (dst := some 10) kZ87 HH.out); rfl; (intro g10_ w_ hq_; (try simp only [List.set_cons_zero, List.set_cons_succ] at hq_); clear HH; have HH := hid hq_; clear hq_))
                | ((with_reducible apply wpL_allocC (dst := some 13) kZ41 HH.out); rfl; (intro g13_ w_ hq_; (try simp only [List.set_cons_zero, List.set_cons_succ] at hq_); clear HH; have HH := hid hq_; clear hq_))
                | ((with_reducible apply wpL_allocC (dst := some 16) kZ41 HH.out); rfl; (intro g16_ w_ hq_; (try simp only [List.set_cons_zero, List.set_cons_succ] at hq_); clear HH; have HH := hid hq_; clear hq_))
                | ((with_reducible apply wpL_storeArr (t := 41) kS41 HH.out); rfl; rfl; (first | exact .here | exact .there .here | exact .there (.there .here) | exact .there (.there (.there .here)) | exact .there (.there (.there (.there .here))) | exact .there (.there (.there (.there (.there .here)))) | exact .there (.there (.there (.there (.there (.there .here))))) | exact .there (.there (.there (.there (.there (.there (.there .here))))))); (first | rfl | exact Arr.len _ | (simp; done)); rfl; (intro w_ hq_; (try simp only [List.set_cons_zero, List.set_cons_succ] at hq_); clear HH; have HH := hid hq_; clear hq_))
                | ((with_reducible apply wpL_storeC (t := 41)); rfl; rfl; (exact kS41); (exact HH.out); (first | exact .here | exact .there .here | exact .there (.there .here) | exact .there (.there (.there .here)) | exact .there (.there (.there (.there .here))) | exact .there (.there (.there (.there (.there .here)))) | exact .there (.there (.there (.there (.there (.there .here))))) | exact .there (.there (.there (.there (.there (.there (.there .here))))))); (first | rfl | exact Arr.len _ | (simp; done)); (first | rfl | (intro u_ hu_; simp only [List.mem_cons, List.not_mem_nil, or_false] at hu_; rcases hu_ with rfl | hu_; rfl) | exact byt_cell1 _ | exact cells_one _ | exact wrd_one _ | exact flat_cell1 _); (first | rfl | exact Arr.len _ | (simp; done)); rfl; (intro w_ hq_; (try simp only [List.set_cons_zero, List.set_cons_succ] at hq_); clear HH; have HH := hid hq_; clear hq_))
                | ((with_reducible apply wpL_storeC (t := 87)); rfl; rfl; (exact kS87); (exact HH.out); (first | exact .here | exact .there .here | exact .there (.there .here) | exact .there (.there (.there .here)) | exact .there (.there (.there (.there .here))) | exact .there (.there (.there (.there (.there .here)))) | exact .there (.there (.there (.there (.there (.there .here))))) | exact .there (.there (.there (.there (.there (.there (.there .here))))))); (first | rfl | exact Arr.len _ | (simp; done)); (first | rfl | (intro u_ hu_; simp only [List.mem_cons, List.not_mem_nil, or_false] at hu_; rcases hu_ with rfl | hu_; rfl) | exact byt_cell1 _ | exact cells_one _ | exact wrd_one _ | exact flat_cell1 _); (first | rfl | exact Arr.len _ | (simp; done)); rfl; (intro w_ hq_; (try simp only [List.set_cons_zero, List.set_cons_succ] at hq_); clear HH; have HH := hid hq_; clear hq_))
                | ((with_reducible apply wpL_move); rfl; rfl)
                | ((with_reducible apply wpL_assign); rfl; rfl)
                | ((with_reducible apply wpL_pick); rfl; rfl; rfl)
                | ((with_reducible apply wpL_not); rfl; rfl)
                | ((with_reducible apply wpL_cmp (b := true)); rfl; rfl; rfl; (first | rfl | assumption | (simp only [cmpB, decide_eq_true_eq, decide_eq_false_iff_not, beq_iff_eq, bne_iff_ne, ne_eq, beq_eq_false_iff_ne, bne_eq_false_iff_eq, gt_iff_lt, ge_iff_le]; omega) | (simp; omega)); rfl)
                | ((with_reducible apply wpL_cmp (b := false)); rfl; rfl; rfl; (first | rfl | assumption | (simp only [cmpB, decide_eq_true_eq, decide_eq_false_iff_not, beq_iff_eq, bne_iff_ne, ne_eq, beq_eq_false_iff_ne, bne_eq_false_iff_eq, gt_iff_lt, ge_iff_le]; omega) | (simp; omega)); rfl)
                | ((with_reducible apply wpL_cmp); rfl; rfl; rfl; rfl; rfl)
                | ((with_reducible apply wpL_arith); rfl; rfl; rfl; (exact IntWalk.i64_in _ (by (try simp only [arithI]); omega)); rfl)); (try simp only [arithI, Act.put, Act.eval, List.setIfInBounds_toArray, List.set_cons_succ, List.set_cons_zero, Array.getD_eq_getD_getElem?, List.getElem?_toArray, List.getElem?_cons_succ, List.getElem?_cons_zero, Option.getD_some])))
          go_loopw [18] (CRel w f g xa.length [(g16_, objC ra.cells 41), (g13_, objC ra.cells 41), (g10_, objC (twoCs 0 zP zP) 87), (g8_, objC b.cells 41), (g6_, objC a.cells 41)] [rowA 73 ao2 cap2 xb, rowA 73 ao1 cap1 xa]) (fun kv _ => (intOf kv + 1).toNat)
          case atStart => exact ⟨xa.length, Nat.le_refl _, by go_num, rfl, HH.out⟩
          case round =>
            obtain ⟨m, hm, rfl, htop, hr⟩ := hrel
            clear HH
            have HH := hid hr
            have HT := hid htop
            clear hr htop
            by_cases hm0 : 0 < m
            · obtain ⟨k, rfl⟩ : ∃ k, m = k + 1 := ⟨m - 1, by omega⟩
              obtain ⟨ad1, cc1, e⟩ := (HH.out.sl1).some (by omega)
              cases e
              obtain ⟨ad2, cc2, e⟩ := (HH.out.sl0).some (by have := HLEN.out; omega)
              cases e
              obtain ⟨fk, hfk⟩ : ∃ fk, f k = fk := ⟨_, rfl⟩
              obtain ⟨gk, hgk⟩ : ∃ gk, g k = gk := ⟨_, rfl⟩
              have HKA := hid (show k < xa.length by omega)
              have HKB := hid (show k < xb.length by have := HLEN.out; omega)
              have HFK := hid (show ∀ pf : k < xa.length, xa[k]'pf = fk from fun pf => by rw [← hfk]; exact HA.out k HKA.out pf)
              have HGK := hid (show ∀ pf : k < xb.length, xb[k]'pf = gk from fun pf => by rw [← hgk]; exact HB.out k HKB.out pf)
              rw [show ((k + 1 : Nat) : Int) - 1 = (k : Int) by omega]
              have hst := HT.out
              rw [topD, hfk, hgk] at hst
              by_cases hne : gk = fk
              · rw [if_pos hne] at hst
                have HST := hid hst
                have HNE2 := hid (show (!(fk == gk)) = false by rw [hne]; simp)
                clear hst hne hfk hgk
                go_wp2_with (first
                  | ((first
                      | ((with_reducible apply wpL_skip); rfl; skip)
                      | ((with_reducible apply wpL_nilCheck); rfl; rfl)
                      | ((with_reducible apply wpL_loadArr (t := 41) kA41 HH.out); rfl; (first | exact .here | exact .there .here | exact .there (.there .here) | exact .there (.there (.there .here)) | exact .there (.there (.there (.there .here))) | exact .there (.there (.there (.there (.there .here)))) | exact .there (.there (.there (.there (.there (.there .here))))) | exact .there (.there (.there (.there (.there (.there (.there .here))))))); rfl)
                      | ((with_reducible apply wpL_loadC (t := 41) kA41 HH.out); rfl; (first | exact .here | exact .there .here | exact .there (.there .here) | exact .there (.there (.there .here)) | exact .there (.there (.there (.there .here))) | exact .there (.there (.there (.there (.there .here)))) | exact .there (.there (.there (.there (.there (.there .here))))) | exact .there (.there (.there (.there (.there (.there (.there .here))))))); (first | rfl | exact Arr.len _ | (simp; done)); rfl)
                      | ((with_reducible apply wpL_loadC (t := 73) kA73 HH.out); rfl; (first | exact .here | exact .there .here | exact .there (.there .here) | exact .there (.there (.there .here)) | exact .there (.there (.there (.there .here))) | exact .there (.there (.there (.there (.there .here)))) | exact .there (.there (.there (.there (.there (.there .here))))) | exact .there (.there (.there (.there (.there (.there (.there .here))))))); (first | rfl | exact Arr.len _ | (simp; done)); rfl)
                      | ((with_reducible apply wpL_len (t := 98) Try.underlying98); rfl; rfl)
                      | ((with_reducible apply wpL_boxArr (dst := some 6)); rfl; (exact HH.out); rfl; (intro g6_ w_ hq_; (try simp only [List.set_cons_zero, List.set_cons_succ] at hq_); clear HH; have HH := hid hq_; clear hq_))
                      | ((with_reducible apply wpL_boxArr (dst := some 8)); rfl; (exact HH.out); rfl; (intro g8_ w_ hq_; (try simp only [List.set_cons_zero, List.set_cons_succ] at hq_); clear HH; have HH := hid hq_; clear hq_))
                      | ((with_reducible apply wpL_allocC (dst := some 10) kZ87 HH.out); rfl; (intro g10_ w_ hq_; (try simp only [List.set_cons_zero, List.set_cons_succ] at hq_); clear HH; have HH := hid hq_; clear hq_))
                      | ((with_reducible apply wpL_allocC (dst := some 13) kZ41 HH.out); rfl; (intro g13_ w_ hq_; (try simp only [List.set_cons_zero, List.set_cons_succ] at hq_); clear HH; have HH := hid hq_; clear hq_))
                      | ((with_reducible apply wpL_allocC (dst := some 16) kZ41 HH.out); rfl; (intro g16_ w_ hq_; (try simp only [List.set_cons_zero, List.set_cons_succ] at hq_); clear HH; have HH := hid hq_; clear hq_))
                      | ((with_reducible apply wpL_storeArr (t := 41) kS41 HH.out); rfl; rfl; (first | exact .here | exact .there .here | exact .there (.there .here) | exact .there (.there (.there .here)) | exact .there (.there (.there (.there .here))) | exact .there (.there (.there (.there (.there .here)))) | exact .there (.there (.there (.there (.there (.there .here))))) | exact .there (.there (.there (.there (.there (.there (.there .here))))))); (first | rfl | exact Arr.len _ | (simp; done)); rfl; (intro w_ hq_; (try simp only [List.set_cons_zero, List.set_cons_succ] at hq_); clear HH; have HH := hid hq_; clear hq_))
                      | ((with_reducible apply wpL_storeC (t := 41)); rfl; rfl; (exact kS41); (exact HH.out); (first | exact .here | exact .there .here | exact .there (.there .here) | exact .there (.there (.there .here)) | exact .there (.there (.there (.there .here))) | exact .there (.there (.there (.there (.there .here)))) | exact .there (.there (.there (.there (.there (.there .here))))) | exact .there (.there (.there (.there (.there (.there (.there .here))))))); (first | rfl | exact Arr.len _ | (simp; done)); (first | rfl | (intro u_ hu_; simp only [List.mem_cons, List.not_mem_nil, or_false] at hu_; rcases hu_ with rfl | hu_; rfl) | exact byt_cell1 _ | exact cells_one _ | exact wrd_one _ | exact flat_cell1 _); (first | rfl | exact Arr.len _ | (simp; done)); rfl; (intro w_ hq_; (try simp only [List.set_cons_zero, List.set_cons_succ] at hq_); clear HH; have HH := hid hq_; clear hq_))
                      | ((with_reducible apply wpL_storeC (t := 87)); rfl; rfl; (exact kS87); (exact HH.out); (first | exact .here | exact .there .here | exact .there (.there .here) | exact .there (.there (.there .here)) | exact .there (.there (.there (.there .here))) | exact .there (.there (.there (.there (.there .here)))) | exact .there (.there (.there (.there (.there (.there .here))))) | exact .there (.there (.there (.there (.there (.there (.there .here))))))); (first | rfl | exact Arr.len _ | (simp; done)); (first | rfl | (intro u_ hu_; simp only [List.mem_cons, List.not_mem_nil, or_false] at hu_; rcases hu_ with rfl | hu_; rfl) | exact byt_cell1 _ | exact cells_one _ | exact wrd_one _ | exact flat_cell1 _); (first | rfl | exact Arr.len _ | (simp; done)); rfl; (intro w_ hq_; (try simp only [List.set_cons_zero, List.set_cons_succ] at hq_); clear HH; have HH := hid hq_; clear hq_))
                      | ((with_reducible apply wpL_move); rfl; rfl)
                      | ((with_reducible apply wpL_assign); rfl; rfl)
                      | ((with_reducible apply wpL_pick); rfl; rfl; rfl)
                      | ((with_reducible apply wpL_not); rfl; rfl)
                      | ((with_reducible apply wpL_cmp (b := true)); rfl; rfl; rfl; (first | rfl | assumption | (simp only [cmpB, decide_eq_true_eq, decide_eq_false_iff_not, beq_iff_eq, bne_iff_ne, ne_eq, beq_eq_false_iff_ne, bne_eq_false_iff_eq, gt_iff_lt, ge_iff_le]; omega) | (simp; omega)); rfl)
                      | ((with_reducible apply wpL_cmp (b := false)); rfl; rfl; rfl; (first | rfl | assumption | (simp only [cmpB, decide_eq_true_eq, decide_eq_false_iff_not, beq_iff_eq, bne_iff_ne, ne_eq, beq_eq_false_iff_ne, bne_eq_false_iff_eq, gt_iff_lt, ge_iff_le]; omega) | (simp; omega)); rfl)
                      | ((with_reducible apply wpL_cmp); rfl; rfl; rfl; rfl; rfl)
                      | ((with_reducible apply wpL_arith); rfl; rfl; rfl; (exact IntWalk.i64_in _ (by (try simp only [arithI]); omega)); rfl)); (try simp only [arithI, Act.put, Act.eval, List.setIfInBounds_toArray, List.set_cons_succ, List.set_cons_zero, Array.getD_eq_getD_getElem?, List.getElem?_toArray, List.getElem?_cons_succ, List.getElem?_cons_zero, Option.getD_some])))
                refine wp_region_holds (by kernel_rfl) (by kernel_rfl) HH.out ?_
                repeat ((first
                  | ((with_reducible apply wpQ_skip); rfl; skip)
                  | ((with_reducible apply wpQ_index (dst := some 63) kE98 (j := k)); rfl; rfl; rfl; (exact HKA.out); rfl)
                  | ((with_reducible apply wpQ_index (dst := some 67) kE98 (j := k)); rfl; rfl; rfl; (exact HKB.out); rfl)
                  | ((with_reducible apply wpQ_loadEl (dst := some 64) (v := fk) kA73 (fun wq hwq => get_as (show Arrs wq (.slice (some ad1) xa.length cap1) xa from Holds.sl1 hwq) HKA.out (HFK.out _))); rfl; rfl)
                  | ((with_reducible apply wpQ_loadEl (dst := some 68) (v := gk) kA73 (fun wq hwq => get_as (show Arrs wq (.slice (some ad2) xb.length cap2) xb from Holds.sl0 hwq) HKB.out (HGK.out _))); rfl; rfl)
                  | ((with_reducible apply wpQ_neq73 (p := fk) (q := gk) (b := false)); rfl; rfl; (exact HNE2.out); rfl)
                  | ((with_reducible apply wpQ_nilCheck); rfl; rfl)
                  | ((with_reducible apply wpQ_loadArr (t := 41) kA41); rfl; (first | exact .here | exact .there .here | exact .there (.there .here) | exact .there (.there (.there .here)) | exact .there (.there (.there (.there .here))) | exact .there (.there (.there (.there (.there .here)))) | exact .there (.there (.there (.there (.there (.there .here))))) | exact .there (.there (.there (.there (.there (.there (.there .here))))))); rfl)
                  | ((with_reducible apply wpQ_loadC (t := 41) kA41); rfl; (first | exact .here | exact .there .here | exact .there (.there .here) | exact .there (.there (.there .here)) | exact .there (.there (.there (.there .here))) | exact .there (.there (.there (.there (.there .here)))) | exact .there (.there (.there (.there (.there (.there .here))))) | exact .there (.there (.there (.there (.there (.there (.there .here))))))); (first | rfl | exact Arr.len _ | (simp; done)); rfl)
                  | ((with_reducible apply wpQ_loadC (t := 73) kA73); rfl; (first | exact .here | exact .there .here | exact .there (.there .here) | exact .there (.there (.there .here)) | exact .there (.there (.there (.there .here))) | exact .there (.there (.there (.there (.there .here)))) | exact .there (.there (.there (.there (.there (.there .here))))) | exact .there (.there (.there (.there (.there (.there (.there .here))))))); (first | rfl | exact Arr.len _ | (simp; done)); rfl)
                  | ((with_reducible apply wpQ_len (t := 98) Try.underlying98); rfl; rfl)
                  | ((with_reducible apply wpQ_move); rfl; rfl)
                  | ((with_reducible apply wpQ_assign); rfl; rfl)
                  | ((with_reducible apply wpQ_pick); rfl; rfl; rfl)
                  | ((with_reducible apply wpQ_not); rfl; rfl)
                  | ((with_reducible apply wpQ_cmp (b := true)); rfl; rfl; rfl; (first | rfl | assumption | (simp only [cmpB, decide_eq_true_eq, decide_eq_false_iff_not, beq_iff_eq, bne_iff_ne, ne_eq, beq_eq_false_iff_ne, bne_eq_false_iff_eq, gt_iff_lt, ge_iff_le]; omega) | (simp; omega)); rfl)
                  | ((with_reducible apply wpQ_cmp (b := false)); rfl; rfl; rfl; (first | rfl | assumption | (simp only [cmpB, decide_eq_true_eq, decide_eq_false_iff_not, beq_iff_eq, bne_iff_ne, ne_eq, beq_eq_false_iff_ne, bne_eq_false_iff_eq, gt_iff_lt, ge_iff_le]; omega) | (simp; omega)); rfl)
                  | ((with_reducible apply wpQ_cmp); rfl; rfl; rfl; rfl; rfl)
                  | ((with_reducible apply wpQ_arith); rfl; rfl; rfl; (exact IntWalk.i64_in _ (by (try simp only [arithI]); omega)); rfl)); (try simp only [if_true, if_false, Bool.false_eq_true, arithI, Act.put, Act.eval, List.setIfInBounds_toArray, List.set_cons_succ, List.set_cons_zero, Array.getD_eq_getD_getElem?, List.getElem?_toArray, List.getElem?_cons_succ, List.getElem?_cons_zero, Option.getD_some]))
                refine wpQuiet_nil ?_
                intro wq hq_
                have HQ := hid hq_
                clear hq_
                clear HH
                have HH := HQ
                clear HQ
                go_wp2_with (first
                  | ((first
                      | ((with_reducible apply wpL_skip); rfl; skip)
                      | ((with_reducible apply wpL_nilCheck); rfl; rfl)
                      | ((with_reducible apply wpL_loadArr (t := 41) kA41 HH.out); rfl; (first | exact .here | exact .there .here | exact .there (.there .here) | exact .there (.there (.there .here)) | exact .there (.there (.there (.there .here))) | exact .there (.there (.there (.there (.there .here)))) | exact .there (.there (.there (.there (.there (.there .here))))) | exact .there (.there (.there (.there (.there (.there (.there .here))))))); rfl)
                      | ((with_reducible apply wpL_loadC (t := 41) kA41 HH.out); rfl; (first | exact .here | exact .there .here | exact .there (.there .here) | exact .there (.there (.there .here)) | exact .there (.there (.there (.there .here))) | exact .there (.there (.there (.there (.there .here)))) | exact .there (.there (.there (.there (.there (.there .here))))) | exact .there (.there (.there (.there (.there (.there (.there .here))))))); (first | rfl | exact Arr.len _ | (simp; done)); rfl)
                      | ((with_reducible apply wpL_loadC (t := 73) kA73 HH.out); rfl; (first | exact .here | exact .there .here | exact .there (.there .here) | exact .there (.there (.there .here)) | exact .there (.there (.there (.there .here))) | exact .there (.there (.there (.there (.there .here)))) | exact .there (.there (.there (.there (.there (.there .here))))) | exact .there (.there (.there (.there (.there (.there (.there .here))))))); (first | rfl | exact Arr.len _ | (simp; done)); rfl)
                      | ((with_reducible apply wpL_len (t := 98) Try.underlying98); rfl; rfl)
                      | ((with_reducible apply wpL_boxArr (dst := some 6)); rfl; (exact HH.out); rfl; (intro g6_ w_ hq_; (try simp only [List.set_cons_zero, List.set_cons_succ] at hq_); clear HH; have HH := hid hq_; clear hq_))
                      | ((with_reducible apply wpL_boxArr (dst := some 8)); rfl; (exact HH.out); rfl; (intro g8_ w_ hq_; (try simp only [List.set_cons_zero, List.set_cons_succ] at hq_); clear HH; have HH := hid hq_; clear hq_))
                      | ((with_reducible apply wpL_allocC (dst := some 10) kZ87 HH.out); rfl; (intro g10_ w_ hq_; (try simp only [List.set_cons_zero, List.set_cons_succ] at hq_); clear HH; have HH := hid hq_; clear hq_))
                      | ((with_reducible apply wpL_allocC (dst := some 13) kZ41 HH.out); rfl; (intro g13_ w_ hq_; (try simp only [List.set_cons_zero, List.set_cons_succ] at hq_); clear HH; have HH := hid hq_; clear hq_))
                      | ((with_reducible apply wpL_allocC (dst := some 16) kZ41 HH.out); rfl; (intro g16_ w_ hq_; (try simp only [List.set_cons_zero, List.set_cons_succ] at hq_); clear HH; have HH := hid hq_; clear hq_))
                      | ((with_reducible apply wpL_storeArr (t := 41) kS41 HH.out); rfl; rfl; (first | exact .here | exact .there .here | exact .there (.there .here) | exact .there (.there (.there .here)) | exact .there (.there (.there (.there .here))) | exact .there (.there (.there (.there (.there .here)))) | exact .there (.there (.there (.there (.there (.there .here))))) | exact .there (.there (.there (.there (.there (.there (.there .here))))))); (first | rfl | exact Arr.len _ | (simp; done)); rfl; (intro w_ hq_; (try simp only [List.set_cons_zero, List.set_cons_succ] at hq_); clear HH; have HH := hid hq_; clear hq_))
                      | ((with_reducible apply wpL_storeC (t := 41)); rfl; rfl; (exact kS41); (exact HH.out); (first | exact .here | exact .there .here | exact .there (.there .here) | exact .there (.there (.there .here)) | exact .there (.there (.there (.there .here))) | exact .there (.there (.there (.there (.there .here)))) | exact .there (.there (.there (.there (.there (.there .here))))) | exact .there (.there (.there (.there (.there (.there (.there .here))))))); (first | rfl | exact Arr.len _ | (simp; done)); (first | rfl | (intro u_ hu_; simp only [List.mem_cons, List.not_mem_nil, or_false] at hu_; rcases hu_ with rfl | hu_; rfl) | exact byt_cell1 _ | exact cells_one _ | exact wrd_one _ | exact flat_cell1 _); (first | rfl | exact Arr.len _ | (simp; done)); rfl; (intro w_ hq_; (try simp only [List.set_cons_zero, List.set_cons_succ] at hq_); clear HH; have HH := hid hq_; clear hq_))
                      | ((with_reducible apply wpL_storeC (t := 87)); rfl; rfl; (exact kS87); (exact HH.out); (first | exact .here | exact .there .here | exact .there (.there .here) | exact .there (.there (.there .here)) | exact .there (.there (.there (.there .here))) | exact .there (.there (.there (.there (.there .here)))) | exact .there (.there (.there (.there (.there (.there .here))))) | exact .there (.there (.there (.there (.there (.there (.there .here))))))); (first | rfl | exact Arr.len _ | (simp; done)); (first | rfl | (intro u_ hu_; simp only [List.mem_cons, List.not_mem_nil, or_false] at hu_; rcases hu_ with rfl | hu_; rfl) | exact byt_cell1 _ | exact cells_one _ | exact wrd_one _ | exact flat_cell1 _); (first | rfl | exact Arr.len _ | (simp; done)); rfl; (intro w_ hq_; (try simp only [List.set_cons_zero, List.set_cons_succ] at hq_); clear HH; have HH := hid hq_; clear hq_))
                      | ((with_reducible apply wpL_move); rfl; rfl)
                      | ((with_reducible apply wpL_assign); rfl; rfl)
                      | ((with_reducible apply wpL_pick); rfl; rfl; rfl)
                      | ((with_reducible apply wpL_not); rfl; rfl)
                      | ((with_reducible apply wpL_cmp (b := true)); rfl; rfl; rfl; (first | rfl | assumption | (simp only [cmpB, decide_eq_true_eq, decide_eq_false_iff_not, beq_iff_eq, bne_iff_ne, ne_eq, beq_eq_false_iff_ne, bne_eq_false_iff_eq, gt_iff_lt, ge_iff_le]; omega) | (simp; omega)); rfl)
                      | ((with_reducible apply wpL_cmp (b := false)); rfl; rfl; rfl; (first | rfl | assumption | (simp only [cmpB, decide_eq_true_eq, decide_eq_false_iff_not, beq_iff_eq, bne_iff_ne, ne_eq, beq_eq_false_iff_ne, bne_eq_false_iff_eq, gt_iff_lt, ge_iff_le]; omega) | (simp; omega)); rfl)
                      | ((with_reducible apply wpL_cmp); rfl; rfl; rfl; rfl; rfl)
                      | ((with_reducible apply wpL_arith); rfl; rfl; rfl; (exact IntWalk.i64_in _ (by (try simp only [arithI]); omega)); rfl)); (try simp only [arithI, Act.put, Act.eval, List.setIfInBounds_toArray, List.set_cons_succ, List.set_cons_zero, Array.getD_eq_getD_getElem?, List.getElem?_toArray, List.getElem?_cons_succ, List.getElem?_cons_zero, Option.getD_some])))
                go_roundw
                case rel => exact ⟨k, by omega, by go_num, HST.out, HH.out⟩
                case measure => simp [intOf]
              · rw [if_neg hne] at hst
                have HST := hid hst
                have HNE2 := hid (show (!(fk == gk)) = true by rw [Bool.not_eq_true', beq_eq_false_iff_ne]; exact fun e => hne e.symm)
                clear hst hne hfk hgk
                go_wp2_with (first
                  | ((first
                      | ((with_reducible apply wpL_skip); rfl; skip)
                      | ((with_reducible apply wpL_nilCheck); rfl; rfl)
                      | ((with_reducible apply wpL_loadArr (t := 41) kA41 HH.out); rfl; (first | exact .here | exact .there .here | exact .there (.there .here) | exact .there (.there (.there .here)) | exact .there (.there (.there (.there .here))) | exact .there (.there (.there (.there (.there .here)))) | exact .there (.there (.there (.there (.there (.there .here))))) | exact .there (.there (.there (.there (.there (.there (.there .here))))))); rfl)
                      | ((with_reducible apply wpL_loadC (t := 41) kA41 HH.out); rfl; (first | exact .here | exact .there .here | exact .there (.there .here) | exact .there (.there (.there .here)) | exact .there (.there (.there (.there .here))) | exact .there (.there (.there (.there (.there .here)))) | exact .there (.there (.there (.there (.there (.there .here))))) | exact .there (.there (.there (.there (.there (.there (.there .here))))))); (first | rfl | exact Arr.len _ | (simp; done)); rfl)
                      | ((with_reducible apply wpL_loadC (t := 73) kA73 HH.out); rfl; (first | exact .here | exact .there .here | exact .there (.there .here) | exact .there (.there (.there .here)) | exact .there (.there (.there (.there .here))) | exact .there (.there (.there (.there (.there .here)))) | exact .there (.there (.there (.there (.there (.there .here))))) | exact .there (.there (.there (.there (.there (.there (.there .here))))))); (first | rfl | exact Arr.len _ | (simp; done)); rfl)
                      | ((with_reducible apply wpL_len (t := 98) Try.underlying98); rfl; rfl)
                      | ((with_reducible apply wpL_boxArr (dst := some 6)); rfl; (exact HH.out); rfl; (intro g6_ w_ hq_; (try simp only [List.set_cons_zero, List.set_cons_succ] at hq_); clear HH; have HH := hid hq_; clear hq_))
                      | ((with_reducible apply wpL_boxArr (dst := some 8)); rfl; (exact HH.out); rfl; (intro g8_ w_ hq_; (try simp only [List.set_cons_zero, List.set_cons_succ] at hq_); clear HH; have HH := hid hq_; clear hq_))
                      | ((with_reducible apply wpL_allocC (dst := some 10) kZ87 HH.out); rfl; (intro g10_ w_ hq_; (try simp only [List.set_cons_zero, List.set_cons_succ] at hq_); clear HH; have HH := hid hq_; clear hq_))
                      | ((with_reducible apply wpL_allocC (dst := some 13) kZ41 HH.out); rfl; (intro g13_ w_ hq_; (try simp only [List.set_cons_zero, List.set_cons_succ] at hq_); clear HH; have HH := hid hq_; clear hq_))
                      | ((with_reducible apply wpL_allocC (dst := some 16) kZ41 HH.out); rfl; (intro g16_ w_ hq_; (try simp only [List.set_cons_zero, List.set_cons_succ] at hq_); clear HH; have HH := hid hq_; clear hq_))
                      | ((with_reducible apply wpL_storeArr (t := 41) kS41 HH.out); rfl; rfl; (first | exact .here | exact .there .here | exact .there (.there .here) | exact .there (.there (.there .here)) | exact .there (.there (.there (.there .here))) | exact .there (.there (.there (.there (.there .here)))) | exact .there (.there (.there (.there (.there (.there .here))))) | exact .there (.there (.there (.there (.there (.there (.there .here))))))); (first | rfl | exact Arr.len _ | (simp; done)); rfl; (intro w_ hq_; (try simp only [List.set_cons_zero, List.set_cons_succ] at hq_); clear HH; have HH := hid hq_; clear hq_))
                      | ((with_reducible apply wpL_storeC (t := 41)); rfl; rfl; (exact kS41); (exact HH.out); (first | exact .here | exact .there .here | exact .there (.there .here) | exact .there (.there (.there .here)) | exact .there (.there (.there (.there .here))) | exact .there (.there (.there (.there (.there .here)))) | exact .there (.there (.there (.there (.there (.there .here))))) | exact .there (.there (.there (.there (.there (.there (.there .here))))))); (first | rfl | exact Arr.len _ | (simp; done)); (first | rfl | (intro u_ hu_; simp only [List.mem_cons, List.not_mem_nil, or_false] at hu_; rcases hu_ with rfl | hu_; rfl) | exact byt_cell1 _ | exact cells_one _ | exact wrd_one _ | exact flat_cell1 _); (first | rfl | exact Arr.len _ | (simp; done)); rfl; (intro w_ hq_; (try simp only [List.set_cons_zero, List.set_cons_succ] at hq_); clear HH; have HH := hid hq_; clear hq_))
                      | ((with_reducible apply wpL_storeC (t := 87)); rfl; rfl; (exact kS87); (exact HH.out); (first | exact .here | exact .there .here | exact .there (.there .here) | exact .there (.there (.there .here)) | exact .there (.there (.there (.there .here))) | exact .there (.there (.there (.there (.there .here)))) | exact .there (.there (.there (.there (.there (.there .here))))) | exact .there (.there (.there (.there (.there (.there (.there .here))))))); (first | rfl | exact Arr.len _ | (simp; done)); (first | rfl | (intro u_ hu_; simp only [List.mem_cons, List.not_mem_nil, or_false] at hu_; rcases hu_ with rfl | hu_; rfl) | exact byt_cell1 _ | exact cells_one _ | exact wrd_one _ | exact flat_cell1 _); (first | rfl | exact Arr.len _ | (simp; done)); rfl; (intro w_ hq_; (try simp only [List.set_cons_zero, List.set_cons_succ] at hq_); clear HH; have HH := hid hq_; clear hq_))
                      | ((with_reducible apply wpL_move); rfl; rfl)
                      | ((with_reducible apply wpL_assign); rfl; rfl)
                      | ((with_reducible apply wpL_pick); rfl; rfl; rfl)
                      | ((with_reducible apply wpL_not); rfl; rfl)
                      | ((with_reducible apply wpL_cmp (b := true)); rfl; rfl; rfl; (first | rfl | assumption | (simp only [cmpB, decide_eq_true_eq, decide_eq_false_iff_not, beq_iff_eq, bne_iff_ne, ne_eq, beq_eq_false_iff_ne, bne_eq_false_iff_eq, gt_iff_lt, ge_iff_le]; omega) | (simp; omega)); rfl)
                      | ((with_reducible apply wpL_cmp (b := false)); rfl; rfl; rfl; (first | rfl | assumption | (simp only [cmpB, decide_eq_true_eq, decide_eq_false_iff_not, beq_iff_eq, bne_iff_ne, ne_eq, beq_eq_false_iff_ne, bne_eq_false_iff_eq, gt_iff_lt, ge_iff_le]; omega) | (simp; omega)); rfl)
                      | ((with_reducible apply wpL_cmp); rfl; rfl; rfl; rfl; rfl)
                      | ((with_reducible apply wpL_arith); rfl; rfl; rfl; (exact IntWalk.i64_in _ (by (try simp only [arithI]); omega)); rfl)); (try simp only [arithI, Act.put, Act.eval, List.setIfInBounds_toArray, List.set_cons_succ, List.set_cons_zero, Array.getD_eq_getD_getElem?, List.getElem?_toArray, List.getElem?_cons_succ, List.getElem?_cons_zero, Option.getD_some])))
                refine wp_region_holds (by kernel_rfl) (by kernel_rfl) HH.out ?_
                repeat ((first
                  | ((with_reducible apply wpQ_skip); rfl; skip)
                  | ((with_reducible apply wpQ_index (dst := some 63) kE98 (j := k)); rfl; rfl; rfl; (exact HKA.out); rfl)
                  | ((with_reducible apply wpQ_index (dst := some 67) kE98 (j := k)); rfl; rfl; rfl; (exact HKB.out); rfl)
                  | ((with_reducible apply wpQ_loadEl (dst := some 64) (v := fk) kA73 (fun wq hwq => get_as (show Arrs wq (.slice (some ad1) xa.length cap1) xa from Holds.sl1 hwq) HKA.out (HFK.out _))); rfl; rfl)
                  | ((with_reducible apply wpQ_loadEl (dst := some 68) (v := gk) kA73 (fun wq hwq => get_as (show Arrs wq (.slice (some ad2) xb.length cap2) xb from Holds.sl0 hwq) HKB.out (HGK.out _))); rfl; rfl)
                  | ((with_reducible apply wpQ_neq73 (p := fk) (q := gk) (b := true)); rfl; rfl; (exact HNE2.out); rfl)
                  | ((with_reducible apply wpQ_nilCheck); rfl; rfl)
                  | ((with_reducible apply wpQ_loadArr (t := 41) kA41); rfl; (first | exact .here | exact .there .here | exact .there (.there .here) | exact .there (.there (.there .here)) | exact .there (.there (.there (.there .here))) | exact .there (.there (.there (.there (.there .here)))) | exact .there (.there (.there (.there (.there (.there .here))))) | exact .there (.there (.there (.there (.there (.there (.there .here))))))); rfl)
                  | ((with_reducible apply wpQ_loadC (t := 41) kA41); rfl; (first | exact .here | exact .there .here | exact .there (.there .here) | exact .there (.there (.there .here)) | exact .there (.there (.there (.there .here))) | exact .there (.there (.there (.there (.there .here)))) | exact .there (.there (.there (.there (.there (.there .here))))) | exact .there (.there (.there (.there (.there (.there (.there .here))))))); (first | rfl | exact Arr.len _ | (simp; done)); rfl)
                  | ((with_reducible apply wpQ_loadC (t := 73) kA73); rfl; (first | exact .here | exact .there .here | exact .there (.there .here) | exact .there (.there (.there .here)) | exact .there (.there (.there (.there .here))) | exact .there (.there (.there (.there (.there .here)))) | exact .there (.there (.there (.there (.there (.there .here))))) | exact .there (.there (.there (.there (.there (.there (.there .here))))))); (first | rfl | exact Arr.len _ | (simp; done)); rfl)
                  | ((with_reducible apply wpQ_len (t := 98) Try.underlying98); rfl; rfl)
                  | ((with_reducible apply wpQ_move); rfl; rfl)
                  | ((with_reducible apply wpQ_assign); rfl; rfl)
                  | ((with_reducible apply wpQ_pick); rfl; rfl; rfl)
                  | ((with_reducible apply wpQ_not); rfl; rfl)
                  | ((with_reducible apply wpQ_cmp (b := true)); rfl; rfl; rfl; (first | rfl | assumption | (simp only [cmpB, decide_eq_true_eq, decide_eq_false_iff_not, beq_iff_eq, bne_iff_ne, ne_eq, beq_eq_false_iff_ne, bne_eq_false_iff_eq, gt_iff_lt, ge_iff_le]; omega) | (simp; omega)); rfl)
                  | ((with_reducible apply wpQ_cmp (b := false)); rfl; rfl; rfl; (first | rfl | assumption | (simp only [cmpB, decide_eq_true_eq, decide_eq_false_iff_not, beq_iff_eq, bne_iff_ne, ne_eq, beq_eq_false_iff_ne, bne_eq_false_iff_eq, gt_iff_lt, ge_iff_le]; omega) | (simp; omega)); rfl)
                  | ((with_reducible apply wpQ_cmp); rfl; rfl; rfl; rfl; rfl)
                  | ((with_reducible apply wpQ_arith); rfl; rfl; rfl; (exact IntWalk.i64_in _ (by (try simp only [arithI]); omega)); rfl)); (try simp only [if_true, if_false, Bool.false_eq_true, arithI, Act.put, Act.eval, List.setIfInBounds_toArray, List.set_cons_succ, List.set_cons_zero, Array.getD_eq_getD_getElem?, List.getElem?_toArray, List.getElem?_cons_succ, List.getElem?_cons_zero, Option.getD_some]))
                refine wpQuiet_nil ?_
                intro wq hq_
                have HQ := hid hq_
                clear hq_
                clear HH
                have HH := HQ
                clear HQ
                go_wp2_with (first
                  | ((first
                      | ((with_reducible apply wpL_skip); rfl; skip)
                      | ((with_reducible apply wpL_nilCheck); rfl; rfl)
                      | ((with_reducible apply wpL_loadArr (t := 41) kA41 HH.out); rfl; (first | exact .here | exact .there .here | exact .there (.there .here) | exact .there (.there (.there .here)) | exact .there (.there (.there (.there .here))) | exact .there (.there (.there (.there (.there .here)))) | exact .there (.there (.there (.there (.there (.there .here))))) | exact .there (.there (.there (.there (.there (.there (.there .here))))))); rfl)
                      | ((with_reducible apply wpL_loadC (t := 41) kA41 HH.out); rfl; (first | exact .here | exact .there .here | exact .there (.there .here) | exact .there (.there (.there .here)) | exact .there (.there (.there (.there .here))) | exact .there (.there (.there (.there (.there .here)))) | exact .there (.there (.there (.there (.there (.there .here))))) | exact .there (.there (.there (.there (.there (.there (.there .here))))))); (first | rfl | exact Arr.len _ | (simp; done)); rfl)
                      | ((with_reducible apply wpL_loadC (t := 73) kA73 HH.out); rfl; (first | exact .here | exact .there .here | exact .there (.there .here) | exact .there (.there (.there .here)) | exact .there (.there (.there (.there .here))) | exact .there (.there (.there (.there (.there .here)))) | exact .there (.there (.there (.there (.there (.there .here))))) | exact .there (.there (.there (.there (.there (.there (.there .here))))))); (first | rfl | exact Arr.len _ | (simp; done)); rfl)
                      | ((with_reducible apply wpL_len (t := 98) Try.underlying98); rfl; rfl)
                      | ((with_reducible apply wpL_boxArr (dst := some 6)); rfl; (exact HH.out); rfl; (intro g6_ w_ hq_; (try simp only [List.set_cons_zero, List.set_cons_succ] at hq_); clear HH; have HH := hid hq_; clear hq_))
                      | ((with_reducible apply wpL_boxArr (dst := some 8)); rfl; (exact HH.out); rfl; (intro g8_ w_ hq_; (try simp only [List.set_cons_zero, List.set_cons_succ] at hq_); clear HH; have HH := hid hq_; clear hq_))
                      | ((with_reducible apply wpL_allocC (dst := some 10) kZ87 HH.out); rfl; (intro g10_ w_ hq_; (try simp only [List.set_cons_zero, List.set_cons_succ] at hq_); clear HH; have HH := hid hq_; clear hq_))
                      | ((with_reducible apply wpL_allocC (dst := some 13) kZ41 HH.out); rfl; (intro g13_ w_ hq_; (try simp only [List.set_cons_zero, List.set_cons_succ] at hq_); clear HH; have HH := hid hq_; clear hq_))
                      | ((with_reducible apply wpL_allocC (dst := some 16) kZ41 HH.out); rfl; (intro g16_ w_ hq_; (try simp only [List.set_cons_zero, List.set_cons_succ] at hq_); clear HH; have HH := hid hq_; clear hq_))
                      | ((with_reducible apply wpL_storeArr (t := 41) kS41 HH.out); rfl; rfl; (first | exact .here | exact .there .here | exact .there (.there .here) | exact .there (.there (.there .here)) | exact .there (.there (.there (.there .here))) | exact .there (.there (.there (.there (.there .here)))) | exact .there (.there (.there (.there (.there (.there .here))))) | exact .there (.there (.there (.there (.there (.there (.there .here))))))); (first | rfl | exact Arr.len _ | (simp; done)); rfl; (intro w_ hq_; (try simp only [List.set_cons_zero, List.set_cons_succ] at hq_); clear HH; have HH := hid hq_; clear hq_))
                      | ((with_reducible apply wpL_storeC (t := 41)); rfl; rfl; (exact kS41); (exact HH.out); (first | exact .here | exact .there .here | exact .there (.there .here) | exact .there (.there (.there .here)) | exact .there (.there (.there (.there .here))) | exact .there (.there (.there (.there (.there .here)))) | exact .there (.there (.there (.there (.there (.there .here))))) | exact .there (.there (.there (.there (.there (.there (.there .here))))))); (first | rfl | exact Arr.len _ | (simp; done)); (first | rfl | (intro u_ hu_; simp only [List.mem_cons, List.not_mem_nil, or_false] at hu_; rcases hu_ with rfl | hu_; rfl) | exact byt_cell1 _ | exact cells_one _ | exact wrd_one _ | exact flat_cell1 _); (first | rfl | exact Arr.len _ | (simp; done)); rfl; (intro w_ hq_; (try simp only [List.set_cons_zero, List.set_cons_succ] at hq_); clear HH; have HH := hid hq_; clear hq_))
                      | ((with_reducible apply wpL_storeC (t := 87)); rfl; rfl; (exact kS87); (exact HH.out); (first | exact .here | exact .there .here | exact .there (.there .here) | exact .there (.there (.there .here)) | exact .there (.there (.there (.there .here))) | exact .there (.there (.there (.there (.there .here)))) | exact .there (.there (.there (.there (.there (.there .here))))) | exact .there (.there (.there (.there (.there (.there (.there .here))))))); (first | rfl | exact Arr.len _ | (simp; done)); (first | rfl | (intro u_ hu_; simp only [List.mem_cons, List.not_mem_nil, or_false] at hu_; rcases hu_ with rfl | hu_; rfl) | exact byt_cell1 _ | exact cells_one _ | exact wrd_one _ | exact flat_cell1 _); (first | rfl | exact Arr.len _ | (simp; done)); rfl; (intro w_ hq_; (try simp only [List.set_cons_zero, List.set_cons_succ] at hq_); clear HH; have HH := hid hq_; clear hq_))
                      | ((with_reducible apply wpL_move); rfl; rfl)
                      | ((with_reducible apply wpL_assign); rfl; rfl)
                      | ((with_reducible apply wpL_pick); rfl; rfl; rfl)
                      | ((with_reducible apply wpL_not); rfl; rfl)
                      | ((with_reducible apply wpL_cmp (b := true)); rfl; rfl; rfl; (first | rfl | assumption | (simp only [cmpB, decide_eq_true_eq, decide_eq_false_iff_not, beq_iff_eq, bne_iff_ne, ne_eq, beq_eq_false_iff_ne, bne_eq_false_iff_eq, gt_iff_lt, ge_iff_le]; omega) | (simp; omega)); rfl)
                      | ((with_reducible apply wpL_cmp (b := false)); rfl; rfl; rfl; (first | rfl | assumption | (simp only [cmpB, decide_eq_true_eq, decide_eq_false_iff_not, beq_iff_eq, bne_iff_ne, ne_eq, beq_eq_false_iff_ne, bne_eq_false_iff_eq, gt_iff_lt, ge_iff_le]; omega) | (simp; omega)); rfl)
                      | ((with_reducible apply wpL_cmp); rfl; rfl; rfl; rfl; rfl)
                      | ((with_reducible apply wpL_arith); rfl; rfl; rfl; (exact IntWalk.i64_in _ (by (try simp only [arithI]); omega)); rfl)); (try simp only [arithI, Act.put, Act.eval, List.setIfInBounds_toArray, List.set_cons_succ, List.set_cons_zero, Array.getD_eq_getD_getElem?, List.getElem?_toArray, List.getElem?_cons_succ, List.getElem?_cons_zero, Option.getD_some])))
                refine wp_region_tailQ 11 (by kernel_rfl) (by kernel_rfl) (by kernel_rfl) HH.out ?_
                simp only [List.take_succ_cons, List.take_zero, List.drop_succ_cons, List.drop_zero]
                repeat ((first
                  | ((with_reducible apply wpQ_skip); rfl; skip)
                  | ((with_reducible apply wpQ_index (dst := some 74) kE98 (j := k)); rfl; rfl; rfl; (exact HKA.out); rfl)
                  | ((with_reducible apply wpQ_index (dst := some 78) kE98 (j := k)); rfl; rfl; rfl; (exact HKB.out); rfl)
                  | ((with_reducible apply wpQ_loadEl (dst := some 75) (v := fk) kA73 (fun wq hwq => get_as (show Arrs wq (.slice (some ad1) xa.length cap1) xa from Holds.sl1 hwq) HKA.out (HFK.out _))); rfl; rfl)
                  | ((with_reducible apply wpQ_loadEl (dst := some 79) (v := gk) kA73 (fun wq hwq => get_as (show Arrs wq (.slice (some ad2) xb.length cap2) xb from Holds.sl0 hwq) HKB.out (HGK.out _))); rfl; rfl)
                  | ((with_reducible apply wpQ_build (dst := some 80) (v := .agg (twoCs ((k : Int) + 1) fk gk).toArray)); (exact BT87 _ fk gk); rfl)
                  | ((with_reducible apply wpQ_nilCheck); rfl; rfl)
                  | ((with_reducible apply wpQ_loadArr (t := 41) kA41); rfl; (first | exact .here | exact .there .here | exact .there (.there .here) | exact .there (.there (.there .here)) | exact .there (.there (.there (.there .here))) | exact .there (.there (.there (.there (.there .here)))) | exact .there (.there (.there (.there (.there (.there .here))))) | exact .there (.there (.there (.there (.there (.there (.there .here))))))); rfl)
                  | ((with_reducible apply wpQ_loadC (t := 41) kA41); rfl; (first | exact .here | exact .there .here | exact .there (.there .here) | exact .there (.there (.there .here)) | exact .there (.there (.there (.there .here))) | exact .there (.there (.there (.there (.there .here)))) | exact .there (.there (.there (.there (.there (.there .here))))) | exact .there (.there (.there (.there (.there (.there (.there .here))))))); (first | rfl | exact Arr.len _ | (simp; done)); rfl)
                  | ((with_reducible apply wpQ_loadC (t := 73) kA73); rfl; (first | exact .here | exact .there .here | exact .there (.there .here) | exact .there (.there (.there .here)) | exact .there (.there (.there (.there .here))) | exact .there (.there (.there (.there (.there .here)))) | exact .there (.there (.there (.there (.there (.there .here))))) | exact .there (.there (.there (.there (.there (.there (.there .here))))))); (first | rfl | exact Arr.len _ | (simp; done)); rfl)
                  | ((with_reducible apply wpQ_len (t := 98) Try.underlying98); rfl; rfl)
                  | ((with_reducible apply wpQ_move); rfl; rfl)
                  | ((with_reducible apply wpQ_assign); rfl; rfl)
                  | ((with_reducible apply wpQ_pick); rfl; rfl; rfl)
                  | ((with_reducible apply wpQ_not); rfl; rfl)
                  | ((with_reducible apply wpQ_cmp (b := true)); rfl; rfl; rfl; (first | rfl | assumption | (simp only [cmpB, decide_eq_true_eq, decide_eq_false_iff_not, beq_iff_eq, bne_iff_ne, ne_eq, beq_eq_false_iff_ne, bne_eq_false_iff_eq, gt_iff_lt, ge_iff_le]; omega) | (simp; omega)); rfl)
                  | ((with_reducible apply wpQ_cmp (b := false)); rfl; rfl; rfl; (first | rfl | assumption | (simp only [cmpB, decide_eq_true_eq, decide_eq_false_iff_not, beq_iff_eq, bne_iff_ne, ne_eq, beq_eq_false_iff_ne, bne_eq_false_iff_eq, gt_iff_lt, ge_iff_le]; omega) | (simp; omega)); rfl)
                  | ((with_reducible apply wpQ_cmp); rfl; rfl; rfl; rfl; rfl)
                  | ((with_reducible apply wpQ_arith); rfl; rfl; rfl; (exact IntWalk.i64_in _ (by (try simp only [arithI]); omega)); rfl)); (try simp only [if_true, if_false, Bool.false_eq_true, arithI, Act.put, Act.eval, List.setIfInBounds_toArray, List.set_cons_succ, List.set_cons_zero, Array.getD_eq_getD_getElem?, List.getElem?_toArray, List.getElem?_cons_succ, List.getElem?_cons_zero, Option.getD_some]))
                refine wpQuiet_nil ?_
                intro wq hq_
                have HQ := hid hq_
                clear hq_
                clear HH
                have HH := HQ
                clear HQ
                go_wp2_with (first
                  | ((first
                      | ((with_reducible apply wpL_skip); rfl; skip)
                      | ((with_reducible apply wpL_storeC (t := 87) (vs := twoCs ((k : Int) + 1) fk gk)); rfl; rfl; (exact kS87); (exact HH.out); (exact .there (.there .here)); (exact two_len _ _ _); (exact two_one _ _ _); (exact two_len _ _ _); rfl; (intro w_ hq_; clear HH; have HH := hid hq_; clear hq_))
                      | ((with_reducible apply wpL_nilCheck); rfl; rfl)
                      | ((with_reducible apply wpL_loadArr (t := 41) kA41 HH.out); rfl; (first | exact .here | exact .there .here | exact .there (.there .here) | exact .there (.there (.there .here)) | exact .there (.there (.there (.there .here))) | exact .there (.there (.there (.there (.there .here)))) | exact .there (.there (.there (.there (.there (.there .here))))) | exact .there (.there (.there (.there (.there (.there (.there .here))))))); rfl)
                      | ((with_reducible apply wpL_loadC (t := 41) kA41 HH.out); rfl; (first | exact .here | exact .there .here | exact .there (.there .here) | exact .there (.there (.there .here)) | exact .there (.there (.there (.there .here))) | exact .there (.there (.there (.there (.there .here)))) | exact .there (.there (.there (.there (.there (.there .here))))) | exact .there (.there (.there (.there (.there (.there (.there .here))))))); (first | rfl | exact Arr.len _ | (simp; done)); rfl)
                      | ((with_reducible apply wpL_loadC (t := 73) kA73 HH.out); rfl; (first | exact .here | exact .there .here | exact .there (.there .here) | exact .there (.there (.there .here)) | exact .there (.there (.there (.there .here))) | exact .there (.there (.there (.there (.there .here)))) | exact .there (.there (.there (.there (.there (.there .here))))) | exact .there (.there (.there (.there (.there (.there (.there .here))))))); (first | rfl | exact Arr.len _ | (simp; done)); rfl)
                      | ((with_reducible apply wpL_len (t := 98) Try.underlying98); rfl; rfl)
                      | ((with_reducible apply wpL_boxArr (dst := some 6)); rfl; (exact HH.out); rfl; (intro g6_ w_ hq_; (try simp only [List.set_cons_zero, List.set_cons_succ] at hq_); clear HH; have HH := hid hq_; clear hq_))
                      | ((with_reducible apply wpL_boxArr (dst := some 8)); rfl; (exact HH.out); rfl; (intro g8_ w_ hq_; (try simp only [List.set_cons_zero, List.set_cons_succ] at hq_); clear HH; have HH := hid hq_; clear hq_))
                      | ((with_reducible apply wpL_allocC (dst := some 10) kZ87 HH.out); rfl; (intro g10_ w_ hq_; (try simp only [List.set_cons_zero, List.set_cons_succ] at hq_); clear HH; have HH := hid hq_; clear hq_))
                      | ((with_reducible apply wpL_allocC (dst := some 13) kZ41 HH.out); rfl; (intro g13_ w_ hq_; (try simp only [List.set_cons_zero, List.set_cons_succ] at hq_); clear HH; have HH := hid hq_; clear hq_))
                      | ((with_reducible apply wpL_allocC (dst := some 16) kZ41 HH.out); rfl; (intro g16_ w_ hq_; (try simp only [List.set_cons_zero, List.set_cons_succ] at hq_); clear HH; have HH := hid hq_; clear hq_))
                      | ((with_reducible apply wpL_storeArr (t := 41) kS41 HH.out); rfl; rfl; (first | exact .here | exact .there .here | exact .there (.there .here) | exact .there (.there (.there .here)) | exact .there (.there (.there (.there .here))) | exact .there (.there (.there (.there (.there .here)))) | exact .there (.there (.there (.there (.there (.there .here))))) | exact .there (.there (.there (.there (.there (.there (.there .here))))))); (first | rfl | exact Arr.len _ | (simp; done)); rfl; (intro w_ hq_; (try simp only [List.set_cons_zero, List.set_cons_succ] at hq_); clear HH; have HH := hid hq_; clear hq_))
                      | ((with_reducible apply wpL_storeC (t := 41)); rfl; rfl; (exact kS41); (exact HH.out); (first | exact .here | exact .there .here | exact .there (.there .here) | exact .there (.there (.there .here)) | exact .there (.there (.there (.there .here))) | exact .there (.there (.there (.there (.there .here)))) | exact .there (.there (.there (.there (.there (.there .here))))) | exact .there (.there (.there (.there (.there (.there (.there .here))))))); (first | rfl | exact Arr.len _ | (simp; done)); (first | rfl | (intro u_ hu_; simp only [List.mem_cons, List.not_mem_nil, or_false] at hu_; rcases hu_ with rfl | hu_; rfl) | exact byt_cell1 _ | exact cells_one _ | exact wrd_one _ | exact flat_cell1 _); (first | rfl | exact Arr.len _ | (simp; done)); rfl; (intro w_ hq_; (try simp only [List.set_cons_zero, List.set_cons_succ] at hq_); clear HH; have HH := hid hq_; clear hq_))
                      | ((with_reducible apply wpL_storeC (t := 87)); rfl; rfl; (exact kS87); (exact HH.out); (first | exact .here | exact .there .here | exact .there (.there .here) | exact .there (.there (.there .here)) | exact .there (.there (.there (.there .here))) | exact .there (.there (.there (.there (.there .here)))) | exact .there (.there (.there (.there (.there (.there .here))))) | exact .there (.there (.there (.there (.there (.there (.there .here))))))); (first | rfl | exact Arr.len _ | (simp; done)); (first | rfl | (intro u_ hu_; simp only [List.mem_cons, List.not_mem_nil, or_false] at hu_; rcases hu_ with rfl | hu_; rfl) | exact byt_cell1 _ | exact cells_one _ | exact wrd_one _ | exact flat_cell1 _); (first | rfl | exact Arr.len _ | (simp; done)); rfl; (intro w_ hq_; (try simp only [List.set_cons_zero, List.set_cons_succ] at hq_); clear HH; have HH := hid hq_; clear hq_))
                      | ((with_reducible apply wpL_move); rfl; rfl)
                      | ((with_reducible apply wpL_assign); rfl; rfl)
                      | ((with_reducible apply wpL_pick); rfl; rfl; rfl)
                      | ((with_reducible apply wpL_not); rfl; rfl)
                      | ((with_reducible apply wpL_cmp (b := true)); rfl; rfl; rfl; (first | rfl | assumption | (simp only [cmpB, decide_eq_true_eq, decide_eq_false_iff_not, beq_iff_eq, bne_iff_ne, ne_eq, beq_eq_false_iff_ne, bne_eq_false_iff_eq, gt_iff_lt, ge_iff_le]; omega) | (simp; omega)); rfl)
                      | ((with_reducible apply wpL_cmp (b := false)); rfl; rfl; rfl; (first | rfl | assumption | (simp only [cmpB, decide_eq_true_eq, decide_eq_false_iff_not, beq_iff_eq, bne_iff_ne, ne_eq, beq_eq_false_iff_ne, bne_eq_false_iff_eq, gt_iff_lt, ge_iff_le]; omega) | (simp; omega)); rfl)
                      | ((with_reducible apply wpL_cmp); rfl; rfl; rfl; rfl; rfl)
                      | ((with_reducible apply wpL_arith); rfl; rfl; rfl; (exact IntWalk.i64_in _ (by (try simp only [arithI]); omega)); rfl)); (try simp only [arithI, Act.put, Act.eval, List.setIfInBounds_toArray, List.set_cons_succ, List.set_cons_zero, Array.getD_eq_getD_getElem?, List.getElem?_toArray, List.getElem?_cons_succ, List.getElem?_cons_zero, Option.getD_some])))
                refine bodyPost_ret (res2 rfl (resC kA87 HH.out (by rfl) (.there (.there .here)) (two_len _ _ _)) (by rfl)) rfl ?_
                refine ⟨?_, HH.out.dropRow.dropRow.below⟩
                rw [HST.out]
                have e2 : decide ((0 : Int) < ((k + 1 : Nat) : Int)) = true := by rw [decide_eq_true_eq]; omega
                simp only [e2]
                rfl
            · obtain rfl : m = 0 := by omega
              go_wp2_with (first
                | ((first
                    | ((with_reducible apply wpL_skip); rfl; skip)
                    | ((with_reducible apply wpList_build (parts := #[]) (v := .agg (twoCs 0 zP zP).toArray)); (exact BZ87); rfl)
                    | ((with_reducible apply wpL_storeC (t := 87) (vs := twoCs 0 zP zP)); rfl; rfl; (exact kS87); (exact HH.out); (exact .there (.there .here)); (exact two_len _ _ _); (exact two_one _ _ _); (exact two_len _ _ _); rfl; (intro w_ hq_; clear HH; have HH := hid hq_; clear hq_))
                    | ((with_reducible apply wpL_nilCheck); rfl; rfl)
                    | ((with_reducible apply wpL_loadArr (t := 41) kA41 HH.out); rfl; (first | exact .here | exact .there .here | exact .there (.there .here) | exact .there (.there (.there .here)) | exact .there (.there (.there (.there .here))) | exact .there (.there (.there (.there (.there .here)))) | exact .there (.there (.there (.there (.there (.there .here))))) | exact .there (.there (.there (.there (.there (.there (.there .here))))))); rfl)
                    | ((with_reducible apply wpL_loadC (t := 41) kA41 HH.out); rfl; (first | exact .here | exact .there .here | exact .there (.there .here) | exact .there (.there (.there .here)) | exact .there (.there (.there (.there .here))) | exact .there (.there (.there (.there (.there .here)))) | exact .there (.there (.there (.there (.there (.there .here))))) | exact .there (.there (.there (.there (.there (.there (.there .here))))))); (first | rfl | exact Arr.len _ | (simp; done)); rfl)
                    | ((with_reducible apply wpL_loadC (t := 73) kA73 HH.out); rfl; (first | exact .here | exact .there .here | exact .there (.there .here) | exact .there (.there (.there .here)) | exact .there (.there (.there (.there .here))) | exact .there (.there (.there (.there (.there .here)))) | exact .there (.there (.there (.there (.there (.there .here))))) | exact .there (.there (.there (.there (.there (.there (.there .here))))))); (first | rfl | exact Arr.len _ | (simp; done)); rfl)
                    | ((with_reducible apply wpL_len (t := 98) Try.underlying98); rfl; rfl)
                    | ((with_reducible apply wpL_boxArr (dst := some 6)); rfl; (exact HH.out); rfl; (intro g6_ w_ hq_; (try simp only [List.set_cons_zero, List.set_cons_succ] at hq_); clear HH; have HH := hid hq_; clear hq_))
                    | ((with_reducible apply wpL_boxArr (dst := some 8)); rfl; (exact HH.out); rfl; (intro g8_ w_ hq_; (try simp only [List.set_cons_zero, List.set_cons_succ] at hq_); clear HH; have HH := hid hq_; clear hq_))
                    | ((with_reducible apply wpL_allocC (dst := some 10) kZ87 HH.out); rfl; (intro g10_ w_ hq_; (try simp only [List.set_cons_zero, List.set_cons_succ] at hq_); clear HH; have HH := hid hq_; clear hq_))
                    | ((with_reducible apply wpL_allocC (dst := some 13) kZ41 HH.out); rfl; (intro g13_ w_ hq_; (try simp only [List.set_cons_zero, List.set_cons_succ] at hq_); clear HH; have HH := hid hq_; clear hq_))
                    | ((with_reducible apply wpL_allocC (dst := some 16) kZ41 HH.out); rfl; (intro g16_ w_ hq_; (try simp only [List.set_cons_zero, List.set_cons_succ] at hq_); clear HH; have HH := hid hq_; clear hq_))
                    | ((with_reducible apply wpL_storeArr (t := 41) kS41 HH.out); rfl; rfl; (first | exact .here | exact .there .here | exact .there (.there .here) | exact .there (.there (.there .here)) | exact .there (.there (.there (.there .here))) | exact .there (.there (.there (.there (.there .here)))) | exact .there (.there (.there (.there (.there (.there .here))))) | exact .there (.there (.there (.there (.there (.there (.there .here))))))); (first | rfl | exact Arr.len _ | (simp; done)); rfl; (intro w_ hq_; (try simp only [List.set_cons_zero, List.set_cons_succ] at hq_); clear HH; have HH := hid hq_; clear hq_))
                    | ((with_reducible apply wpL_storeC (t := 41)); rfl; rfl; (exact kS41); (exact HH.out); (first | exact .here | exact .there .here | exact .there (.there .here) | exact .there (.there (.there .here)) | exact .there (.there (.there (.there .here))) | exact .there (.there (.there (.there (.there .here)))) | exact .there (.there (.there (.there (.there (.there .here))))) | exact .there (.there (.there (.there (.there (.there (.there .here))))))); (first | rfl | exact Arr.len _ | (simp; done)); (first | rfl | (intro u_ hu_; simp only [List.mem_cons, List.not_mem_nil, or_false] at hu_; rcases hu_ with rfl | hu_; rfl) | exact byt_cell1 _ | exact cells_one _ | exact wrd_one _ | exact flat_cell1 _); (first | rfl | exact Arr.len _ | (simp; done)); rfl; (intro w_ hq_; (try simp only [List.set_cons_zero, List.set_cons_succ] at hq_); clear HH; have HH := hid hq_; clear hq_))
                    | ((with_reducible apply wpL_storeC (t := 87)); rfl; rfl; (exact kS87); (exact HH.out); (first | exact .here | exact .there .here | exact .there (.there .here) | exact .there (.there (.there .here)) | exact .there (.there (.there (.there .here))) | exact .there (.there (.there (.there (.there .here)))) | exact .there (.there (.there (.there (.there (.there .here))))) | exact .there (.there (.there (.there (.there (.there (.there .here))))))); (first | rfl | exact Arr.len _ | (simp; done)); (first | rfl | (intro u_ hu_; simp only [List.mem_cons, List.not_mem_nil, or_false] at hu_; rcases hu_ with rfl | hu_; rfl) | exact byt_cell1 _ | exact cells_one _ | exact wrd_one _ | exact flat_cell1 _); (first | rfl | exact Arr.len _ | (simp; done)); rfl; (intro w_ hq_; (try simp only [List.set_cons_zero, List.set_cons_succ] at hq_); clear HH; have HH := hid hq_; clear hq_))
                    | ((with_reducible apply wpL_move); rfl; rfl)
                    | ((with_reducible apply wpL_assign); rfl; rfl)
                    | ((with_reducible apply wpL_pick); rfl; rfl; rfl)
                    | ((with_reducible apply wpL_not); rfl; rfl)
                    | ((with_reducible apply wpL_cmp (b := true)); rfl; rfl; rfl; (first | rfl | assumption | (simp only [cmpB, decide_eq_true_eq, decide_eq_false_iff_not, beq_iff_eq, bne_iff_ne, ne_eq, beq_eq_false_iff_ne, bne_eq_false_iff_eq, gt_iff_lt, ge_iff_le]; omega) | (simp; omega)); rfl)
                    | ((with_reducible apply wpL_cmp (b := false)); rfl; rfl; rfl; (first | rfl | assumption | (simp only [cmpB, decide_eq_true_eq, decide_eq_false_iff_not, beq_iff_eq, bne_iff_ne, ne_eq, beq_eq_false_iff_ne, bne_eq_false_iff_eq, gt_iff_lt, ge_iff_le]; omega) | (simp; omega)); rfl)
                    | ((with_reducible apply wpL_cmp); rfl; rfl; rfl; rfl; rfl)
                    | ((with_reducible apply wpL_arith); rfl; rfl; rfl; (exact IntWalk.i64_in _ (by (try simp only [arithI]); omega)); rfl)); (try simp only [arithI, Act.put, Act.eval, List.setIfInBounds_toArray, List.set_cons_succ, List.set_cons_zero, Array.getD_eq_getD_getElem?, List.getElem?_toArray, List.getElem?_cons_succ, List.getElem?_cons_zero, Option.getD_some])))
              refine bodyPost_ret (res2 rfl (resC kA87 HH.out (by rfl) (.there (.there .here)) (two_len _ _ _)) (by rfl)) rfl ?_
              refine ⟨?_, HH.out.dropRow.dropRow.below⟩
              rw [HT.out]
              rfl
        · have HNO := hid (show ¬ collOK i a pa b pb from fun h => h4 (by rw [← hra, ← hrb]; exact h.2.2.2))
          have HNE := hid (show (!(ra == rb)) = true by rw [Bool.not_eq_true', beq_eq_false_iff_ne]; exact h4)
          have hlen : ((xa.length : Int) != (xb.length : Int)) = false := by simp [hla, hlb, h3]
          clear hea heb hra hrb hxa hxb h4 h3 hla hlb
          have hv : collV i a pa b pb = (0, zP, zP) := by unfold collV; rw [if_neg HNO.out]
          rw [hv]
          clear hv
          go_enter Try.func50, Try.ntmps50
          go_wp2_with (first
            | ((first
                | ((with_reducible apply wpL_skip); rfl; skip)
                | ((with_reducible apply wpL_allocC (dst := some 10) (zs := twoCs 0 zP zP) kZ87b HH.out); rfl; (intro g10_ w_ hq_; clear HH; have HH := hid hq_; clear hq_))
                | (go_at_call 55; (have hcall_ := hid (pairs_any _ (.slice ua pa.length ca) a i pa (HH.out.sl HPA.out) hna)); (with_reducible refine hcall_.out.mono ?_); clear hcall_; rw [HRA.out, HEA.out, HXA.out]; rintro e_ w2_ ⟨ao1, cap1, rfl, hr_, hb_⟩; (have hq_ := HH.out.addRow hb_ hr_); clear HH; have HH := hid hq_; clear hq_ hb_ hr_)
                | (go_at_call 55; (have hcall_ := hid (pairs_any _ (.slice ub pb.length cb) b i pb (HH.out.sl HPB.out) hnb)); (with_reducible refine hcall_.out.mono ?_); clear hcall_; rw [HRB.out, HEB.out, HXB.out]; rintro e_ w2_ ⟨ao2, cap2, rfl, hr_, hb_⟩; (have hq_ := HH.out.addRow hb_ hr_); clear HH; have HH := hid hq_; clear hq_ hb_ hr_)
                | ((with_reducible apply wpL_neqA (b := true) (p := ra) (q := rb) kR41); rfl; rfl; (exact HNE.out); rfl)
                | ((with_reducible apply wpList_build (parts := #[]) (v := .agg (twoCs 0 zP zP).toArray)); (exact BZ87); rfl)
                | ((with_reducible apply wpL_storeC (t := 87) (vs := twoCs 0 zP zP)); rfl; rfl; (exact kS87); (exact HH.out); (exact .there (.there .here)); (exact two_len _ _ _); (exact two_one _ _ _); (exact two_len _ _ _); rfl; (intro w_ hq_; clear HH; have HH := hid hq_; clear hq_))
                | ((with_reducible apply wpL_nilCheck); rfl; rfl)
                | ((with_reducible apply wpL_loadArr (t := 41) kA41 HH.out); rfl; (first | exact .here | exact .there .here | exact .there (.there .here) | exact .there (.there (.there .here)) | exact .there (.there (.there (.there .here))) | exact .there (.there (.there (.there (.there .here)))) | exact .there (.there (.there (.there (.there (.there .here))))) | exact .there (.there (.there (.there (.there (.there (.there .here))))))); rfl)
                | ((with_reducible apply wpL_loadC (t := 41) kA41 HH.out); rfl; (first | exact .here | exact .there .here | exact .there (.there .here) | exact .there (.there (.there .here)) | exact .there (.there (.there (.there .here))) | exact .there (.there (.there (.there (.there .here)))) | exact .there (.there (.there (.there (.there (.there .here))))) | exact .there (.there (.there (.there (.there (.there (.there .here))))))); (first | rfl | exact Arr.len _ | (simp; done)); rfl)
                | ((with_reducible apply wpL_loadC (t := 73) kA73 HH.out); rfl; (first | exact .here | exact .there .here | exact .there (.there .here) | exact .there (.there (.there .here)) | exact .there (.there (.there (.there .here))) | exact .there (.there (.there (.there (.there .here)))) | exact .there (.there (.there (.there (.there (.there .here))))) | exact .there (.there (.there (.there (.there (.there (.there .here))))))); (first | rfl | exact Arr.len _ | (simp; done)); rfl)
                | ((with_reducible apply wpL_len (t := 98) Try.underlying98); rfl; rfl)
                | ((with_reducible apply wpL_boxArr (dst := some 6)); rfl; (exact HH.out); rfl; (intro g6_ w_ hq_; (try simp only [List.set_cons_zero, List.set_cons_succ] at hq_); clear HH; have HH := hid hq_; clear hq_))
                | ((with_reducible apply wpL_boxArr (dst := some 8)); rfl; (exact HH.out); rfl; (intro g8_ w_ hq_; (try simp only [List.set_cons_zero, List.set_cons_succ] at hq_); clear HH; have HH := hid hq_; clear hq_))
                | ((with_reducible apply wpL_allocC (dst := some 10) kZ87 HH.out); rfl; (intro g10_ w_ hq_; (try simp only [List.set_cons_zero, List.set_cons_succ] at hq_); clear HH; have HH := hid hq_; clear hq_))
                | ((with_reducible apply wpL_allocC (dst := some 13) kZ41 HH.out); rfl; (intro g13_ w_ hq_; (try simp only [List.set_cons_zero, List.set_cons_succ] at hq_); clear HH; have HH := hid hq_; clear hq_))
                | ((with_reducible apply wpL_allocC (dst := some 16) kZ41 HH.out); rfl; (intro g16_ w_ hq_; (try simp only [List.set_cons_zero, List.set_cons_succ] at hq_); clear HH; have HH := hid hq_; clear hq_))
                | ((with_reducible apply wpL_storeArr (t := 41) kS41 HH.out); rfl; rfl; (first | exact .here | exact .there .here | exact .there (.there .here) | exact .there (.there (.there .here)) | exact .there (.there (.there (.there .here))) | exact .there (.there (.there (.there (.there .here)))) | exact .there (.there (.there (.there (.there (.there .here))))) | exact .there (.there (.there (.there (.there (.there (.there .here))))))); (first | rfl | exact Arr.len _ | (simp; done)); rfl; (intro w_ hq_; (try simp only [List.set_cons_zero, List.set_cons_succ] at hq_); clear HH; have HH := hid hq_; clear hq_))
                | ((with_reducible apply wpL_storeC (t := 41)); rfl; rfl; (exact kS41); (exact HH.out); (first | exact .here | exact .there .here | exact .there (.there .here) | exact .there (.there (.there .here)) | exact .there (.there (.there (.there .here))) | exact .there (.there (.there (.there (.there .here)))) | exact .there (.there (.there (.there (.there (.there .here))))) | exact .there (.there (.there (.there (.there (.there (.there .here))))))); (first | rfl | exact Arr.len _ | (simp; done)); (first | rfl | (intro u_ hu_; simp only [List.mem_cons, List.not_mem_nil, or_false] at hu_; rcases hu_ with rfl | hu_; rfl) | exact byt_cell1 _ | exact cells_one _ | exact wrd_one _ | exact flat_cell1 _); (first | rfl | exact Arr.len _ | (simp; done)); rfl; (intro w_ hq_; (try simp only [List.set_cons_zero, List.set_cons_succ] at hq_); clear HH; have HH := hid hq_; clear hq_))
                | ((with_reducible apply wpL_storeC (t := 87)); rfl; rfl; (exact kS87); (exact HH.out); (first | exact .here | exact .there .here | exact .there (.there .here) | exact .there (.there (.there .here)) | exact .there (.there (.there (.there .here))) | exact .there (.there (.there (.there (.there .here)))) | exact .there (.there (.there (.there (.there (.there .here))))) | exact .there (.there (.there (.there (.there (.there (.there .here))))))); (first | rfl | exact Arr.len _ | (simp; done)); (first | rfl | (intro u_ hu_; simp only [List.mem_cons, List.not_mem_nil, or_false] at hu_; rcases hu_ with rfl | hu_; rfl) | exact byt_cell1 _ | exact cells_one _ | exact wrd_one _ | exact flat_cell1 _); (first | rfl | exact Arr.len _ | (simp; done)); rfl; (intro w_ hq_; (try simp only [List.set_cons_zero, List.set_cons_succ] at hq_); clear HH; have HH := hid hq_; clear hq_))
                | ((with_reducible apply wpL_move); rfl; rfl)
                | ((with_reducible apply wpL_assign); rfl; rfl)
                | ((with_reducible apply wpL_pick); rfl; rfl; rfl)
                | ((with_reducible apply wpL_not); rfl; rfl)
                | ((with_reducible apply wpL_cmp (b := true)); rfl; rfl; rfl; (first | rfl | assumption | (simp only [cmpB, decide_eq_true_eq, decide_eq_false_iff_not, beq_iff_eq, bne_iff_ne, ne_eq, beq_eq_false_iff_ne, bne_eq_false_iff_eq, gt_iff_lt, ge_iff_le]; omega) | (simp; omega)); rfl)
                | ((with_reducible apply wpL_cmp (b := false)); rfl; rfl; rfl; (first | rfl | assumption | (simp only [cmpB, decide_eq_true_eq, decide_eq_false_iff_not, beq_iff_eq, bne_iff_ne, ne_eq, beq_eq_false_iff_ne, bne_eq_false_iff_eq, gt_iff_lt, ge_iff_le]; omega) | (simp; omega)); rfl)
                | ((with_reducible apply wpL_cmp); rfl; rfl; rfl; rfl; rfl)
                | ((with_reducible apply wpL_arith); rfl; rfl; rfl; (exact IntWalk.i64_in _ (by (try simp only [arithI]); omega)); rfl)); (try simp only [arithI, Act.put, Act.eval, List.setIfInBounds_toArray, List.set_cons_succ, List.set_cons_zero, Array.getD_eq_getD_getElem?, List.getElem?_toArray, List.getElem?_cons_succ, List.getElem?_cons_zero, Option.getD_some])))
          refine bodyPost_ret (res2 rfl (resC kA87 HH.out (by rfl) (.there (.there .here)) (two_len _ _ _)) (by rfl)) rfl ?_
          exact ⟨rfl, HH.out.dropRow.dropRow.below⟩
      · have HNO := hid (show ¬ collOK i a pa b pb from fun h => h3 h.2.2.1)
        have HNE := hid trivial
        have hlen : ((xa.length : Int) != (xb.length : Int)) = true := by simp [hla, hlb]; omega
        clear hea heb hra hrb hxa hxb h3 hla hlb
        have hv : collV i a pa b pb = (0, zP, zP) := by unfold collV; rw [if_neg HNO.out]
        rw [hv]
        clear hv
        go_enter Try.func50, Try.ntmps50
        go_wp2_with (first
          | ((first
              | ((with_reducible apply wpL_skip); rfl; skip)
              | ((with_reducible apply wpL_allocC (dst := some 10) (zs := twoCs 0 zP zP) kZ87b HH.out); rfl; (intro g10_ w_ hq_; clear HH; have HH := hid hq_; clear hq_))
              | (go_at_call 55; (have hcall_ := hid (pairs_any _ (.slice ua pa.length ca) a i pa (HH.out.sl HPA.out) hna)); (with_reducible refine hcall_.out.mono ?_); clear hcall_; rw [HRA.out, HEA.out, HXA.out]; rintro e_ w2_ ⟨ao1, cap1, rfl, hr_, hb_⟩; (have hq_ := HH.out.addRow hb_ hr_); clear HH; have HH := hid hq_; clear hq_ hb_ hr_)
              | (go_at_call 55; (have hcall_ := hid (pairs_any _ (.slice ub pb.length cb) b i pb (HH.out.sl HPB.out) hnb)); (with_reducible refine hcall_.out.mono ?_); clear hcall_; rw [HRB.out, HEB.out, HXB.out]; rintro e_ w2_ ⟨ao2, cap2, rfl, hr_, hb_⟩; (have hq_ := HH.out.addRow hb_ hr_); clear HH; have HH := hid hq_; clear hq_ hb_ hr_)
              | ((with_reducible apply wpL_neqA (b := true) (p := ra) (q := rb) kR41); rfl; rfl; (exact HNE.out); rfl)
              | ((with_reducible apply wpList_build (parts := #[]) (v := .agg (twoCs 0 zP zP).toArray)); (exact BZ87); rfl)
              | ((with_reducible apply wpL_storeC (t := 87) (vs := twoCs 0 zP zP)); rfl; rfl; (exact kS87); (exact HH.out); (exact .there (.there .here)); (exact two_len _ _ _); (exact two_one _ _ _); (exact two_len _ _ _); rfl; (intro w_ hq_; clear HH; have HH := hid hq_; clear hq_))
              | ((with_reducible apply wpL_nilCheck); rfl; rfl)
              | ((with_reducible apply wpL_loadArr (t := 41) kA41 HH.out); rfl; (first | exact .here | exact .there .here | exact .there (.there .here) | exact .there (.there (.there .here)) | exact .there (.there (.there (.there .here))) | exact .there (.there (.there (.there (.there .here)))) | exact .there (.there (.there (.there (.there (.there .here))))) | exact .there (.there (.there (.there (.there (.there (.there .here))))))); rfl)
              | ((with_reducible apply wpL_loadC (t := 41) kA41 HH.out); rfl; (first | exact .here | exact .there .here | exact .there (.there .here) | exact .there (.there (.there .here)) | exact .there (.there (.there (.there .here))) | exact .there (.there (.there (.there (.there .here)))) | exact .there (.there (.there (.there (.there (.there .here))))) | exact .there (.there (.there (.there (.there (.there (.there .here))))))); (first | rfl | exact Arr.len _ | (simp; done)); rfl)
              | ((with_reducible apply wpL_loadC (t := 73) kA73 HH.out); rfl; (first | exact .here | exact .there .here | exact .there (.there .here) | exact .there (.there (.there .here)) | exact .there (.there (.there (.there .here))) | exact .there (.there (.there (.there (.there .here)))) | exact .there (.there (.there (.there (.there (.there .here))))) | exact .there (.there (.there (.there (.there (.there (.there .here))))))); (first | rfl | exact Arr.len _ | (simp; done)); rfl)
              | ((with_reducible apply wpL_len (t := 98) Try.underlying98); rfl; rfl)
              | ((with_reducible apply wpL_boxArr (dst := some 6)); rfl; (exact HH.out); rfl; (intro g6_ w_ hq_; (try simp only [List.set_cons_zero, List.set_cons_succ] at hq_); clear HH; have HH := hid hq_; clear hq_))
              | ((with_reducible apply wpL_boxArr (dst := some 8)); rfl; (exact HH.out); rfl; (intro g8_ w_ hq_; (try simp only [List.set_cons_zero, List.set_cons_succ] at hq_); clear HH; have HH := hid hq_; clear hq_))
              | ((with_reducible apply wpL_allocC (dst := some 10) kZ87 HH.out); rfl; (intro g10_ w_ hq_; (try simp only [List.set_cons_zero, List.set_cons_succ] at hq_); clear HH; have HH := hid hq_; clear hq_))
              | ((with_reducible apply wpL_allocC (dst := some 13) kZ41 HH.out); rfl; (intro g13_ w_ hq_; (try simp only [List.set_cons_zero, List.set_cons_succ] at hq_); clear HH; have HH := hid hq_; clear hq_))
              | ((with_reducible apply wpL_allocC (dst := some 16) kZ41 HH.out); rfl; (intro g16_ w_ hq_; (try simp only [List.set_cons_zero, List.set_cons_succ] at hq_); clear HH; have HH := hid hq_; clear hq_))
              | ((with_reducible apply wpL_storeArr (t := 41) kS41 HH.out); rfl; rfl; (first | exact .here | exact .there .here | exact .there (.there .here) | exact .there (.there (.there .here)) | exact .there (.there (.there (.there .here))) | exact .there (.there (.there (.there (.there .here)))) | exact .there (.there (.there (.there (.there (.there .here))))) | exact .there (.there (.there (.there (.there (.there (.there .here))))))); (first | rfl | exact Arr.len _ | (simp; done)); rfl; (intro w_ hq_; (try simp only [List.set_cons_zero, List.set_cons_succ] at hq_); clear HH; have HH := hid hq_; clear hq_))
              | ((with_reducible apply wpL_storeC (t := 41)); rfl; rfl; (exact kS41); (exact HH.out); (first | exact .here | exact .there .here | exact .there (.there .here) | exact .there (.there (.there .here)) | exact .there (.there (.there (.there .here))) | exact .there (.there (.there (.there (.there .here)))) | exact .there (.there (.there (.there (.there (.there .here))))) | exact .there (.there (.there (.there (.there (.there (.there .here))))))); (first | rfl | exact Arr.len _ | (simp; done)); (first | rfl | (intro u_ hu_; simp only [List.mem_cons, List.not_mem_nil, or_false] at hu_; rcases hu_ with rfl | hu_; rfl) | exact byt_cell1 _ | exact cells_one _ | exact wrd_one _ | exact flat_cell1 _); (first | rfl | exact Arr.len _ | (simp; done)); rfl; (intro w_ hq_; (try simp only [List.set_cons_zero, List.set_cons_succ] at hq_); clear HH; have HH := hid hq_; clear hq_))
              | ((with_reducible apply wpL_storeC (t := 87)); rfl; rfl; (exact kS87); (exact HH.out); (first | exact .here | exact .there .here | exact .there (.there .here) | exact .there (.there (.there .here)) | exact .there (.there (.there (.there .here))) | exact .there (.there (.there (.there (.there .here)))) | exact .there (.there (.there (.there (.there (.there .here))))) | exact .there (.there (.there (.there (.there (.there (.there .here))))))); (first | rfl | exact Arr.len _ | (simp; done)); (first | rfl | (intro u_ hu_; simp only [List.mem_cons, List.not_mem_nil, or_false] at hu_; rcases hu_ with rfl | hu_; rfl) | exact byt_cell1 _ | exact cells_one _ | exact wrd_one _ | exact flat_cell1 _); (first | rfl | exact Arr.len _ | (simp; done)); rfl; (intro w_ hq_; (try simp only [List.set_cons_zero, List.set_cons_succ] at hq_); clear HH; have HH := hid hq_; clear hq_))
              | ((with_reducible apply wpL_move); rfl; rfl)
              | ((with_reducible apply wpL_assign); rfl; rfl)
              | ((with_reducible apply wpL_pick); rfl; rfl; rfl)
              | ((with_reducible apply wpL_not); rfl; rfl)
              | ((with_reducible apply wpL_cmp (b := true)); rfl; rfl; rfl; (first | rfl | assumption | (simp only [cmpB, decide_eq_true_eq, decide_eq_false_iff_not, beq_iff_eq, bne_iff_ne, ne_eq, beq_eq_false_iff_ne, bne_eq_false_iff_eq, gt_iff_lt, ge_iff_le]; omega) | (simp; omega)); rfl)
              | ((with_reducible apply wpL_cmp (b := false)); rfl; rfl; rfl; (first | rfl | assumption | (simp only [cmpB, decide_eq_true_eq, decide_eq_false_iff_not, beq_iff_eq, bne_iff_ne, ne_eq, beq_eq_false_iff_ne, bne_eq_false_iff_eq, gt_iff_lt, ge_iff_le]; omega) | (simp; omega)); rfl)
              | ((with_reducible apply wpL_cmp); rfl; rfl; rfl; rfl; rfl)
              | ((with_reducible apply wpL_arith); rfl; rfl; rfl; (exact IntWalk.i64_in _ (by (try simp only [arithI]); omega)); rfl)); (try simp only [arithI, Act.put, Act.eval, List.setIfInBounds_toArray, List.set_cons_succ, List.set_cons_zero, Array.getD_eq_getD_getElem?, List.getElem?_toArray, List.getElem?_cons_succ, List.getElem?_cons_zero, Option.getD_some])))
        refine bodyPost_ret (res2 rfl (resC kA87 HH.out (by rfl) (.there (.there .here)) (two_len _ _ _)) (by rfl)) rfl ?_
        exact ⟨rfl, HH.out.dropRow.dropRow.below⟩
    · have HNO := hid (show ¬ collOK i a pa b pb from fun h => h2 (by rw [← heb]; exact h.2.1))
      have HNE := hid trivial
      have h2b : ((eb : Int) != 0) = true := by simpa using h2
      clear hea heb hra hrb hxa hxb h2
      have hv : collV i a pa b pb = (0, zP, zP) := by unfold collV; rw [if_neg HNO.out]
      rw [hv]
      clear hv
      go_enter Try.func50, Try.ntmps50
      go_wp2_with (first
        | ((first
            | ((with_reducible apply wpL_skip); rfl; skip)
            | ((with_reducible apply wpL_allocC (dst := some 10) (zs := twoCs 0 zP zP) kZ87b HH.out); rfl; (intro g10_ w_ hq_; clear HH; have HH := hid hq_; clear hq_))
            | (go_at_call 55; (have hcall_ := hid (pairs_any _ (.slice ua pa.length ca) a i pa (HH.out.sl HPA.out) hna)); (with_reducible refine hcall_.out.mono ?_); clear hcall_; rw [HRA.out, HEA.out, HXA.out]; rintro e_ w2_ ⟨ao1, cap1, rfl, hr_, hb_⟩; (have hq_ := HH.out.addRow hb_ hr_); clear HH; have HH := hid hq_; clear hq_ hb_ hr_)
            | (go_at_call 55; (have hcall_ := hid (pairs_any _ (.slice ub pb.length cb) b i pb (HH.out.sl HPB.out) hnb)); (with_reducible refine hcall_.out.mono ?_); clear hcall_; rw [HRB.out, HEB.out, HXB.out]; rintro e_ w2_ ⟨ao2, cap2, rfl, hr_, hb_⟩; (have hq_ := HH.out.addRow hb_ hr_); clear HH; have HH := hid hq_; clear hq_ hb_ hr_)
            | ((with_reducible apply wpL_neqA (b := true) (p := ra) (q := rb) kR41); rfl; rfl; (exact HNE.out); rfl)
            | ((with_reducible apply wpList_build (parts := #[]) (v := .agg (twoCs 0 zP zP).toArray)); (exact BZ87); rfl)
            | ((with_reducible apply wpL_storeC (t := 87) (vs := twoCs 0 zP zP)); rfl; rfl; (exact kS87); (exact HH.out); (exact .there (.there .here)); (exact two_len _ _ _); (exact two_one _ _ _); (exact two_len _ _ _); rfl; (intro w_ hq_; clear HH; have HH := hid hq_; clear hq_))
            | ((with_reducible apply wpL_nilCheck); rfl; rfl)
            | ((with_reducible apply wpL_loadArr (t := 41) kA41 HH.out); rfl; (first | exact .here | exact .there .here | exact .there (.there .here) | exact .there (.there (.there .here)) | exact .there (.there (.there (.there .here))) | exact .there (.there (.there (.there (.there .here)))) | exact .there (.there (.there (.there (.there (.there .here))))) | exact .there (.there (.there (.there (.there (.there (.there .here))))))); rfl)
            | ((with_reducible apply wpL_loadC (t := 41) kA41 HH.out); rfl; (first | exact .here | exact .there .here | exact .there (.there .here) | exact .there (.there (.there .here)) | exact .there (.there (.there (.there .here))) | exact .there (.there (.there (.there (.there .here)))) | exact .there (.there (.there (.there (.there (.there .here))))) | exact .there (.there (.there (.there (.there (.there (.there .here))))))); (first | rfl | exact Arr.len _ | (simp; done)); rfl)
            | ((with_reducible apply wpL_loadC (t := 73) kA73 HH.out); rfl; (first | exact .here | exact .there .here | exact .there (.there .here) | exact .there (.there (.there .here)) | exact .there (.there (.there (.there .here))) | exact .there (.there (.there (.there (.there .here)))) | exact .there (.there (.there (.there (.there (.there .here))))) | exact .there (.there (.there (.there (.there (.there (.there .here))))))); (first | rfl | exact Arr.len _ | (simp; done)); rfl)
            | ((with_reducible apply wpL_len (t := 98) Try.underlying98); rfl; rfl)
            | ((with_reducible apply wpL_boxArr (dst := some 6)); rfl; (exact HH.out); rfl; (intro g6_ w_ hq_; (try simp only [List.set_cons_zero, List.set_cons_succ] at hq_); clear HH; have HH := hid hq_; clear hq_))
            | ((with_reducible apply wpL_boxArr (dst := some 8)); rfl; (exact HH.out); rfl; (intro g8_ w_ hq_; (try simp only [List.set_cons_zero, List.set_cons_succ] at hq_); clear HH; have HH := hid hq_; clear hq_))
            | ((with_reducible apply wpL_allocC (dst := some 10) kZ87 HH.out); rfl; (intro g10_ w_ hq_; (try simp only [List.set_cons_zero, List.set_cons_succ] at hq_); clear HH; have HH := hid hq_; clear hq_))
            | ((with_reducible apply wpL_allocC (dst := some 13) kZ41 HH.out); rfl; (intro g13_ w_ hq_; (try simp only [List.set_cons_zero, List.set_cons_succ] at hq_); clear HH; have HH := hid hq_; clear hq_))
            | ((with_reducible apply wpL_allocC (dst := some 16) kZ41 HH.out); rfl; (intro g16_ w_ hq_; (try simp only [List.set_cons_zero, List.set_cons_succ] at hq_); clear HH; have HH := hid hq_; clear hq_))
            | ((with_reducible apply wpL_storeArr (t := 41) kS41 HH.out); rfl; rfl; (first | exact .here | exact .there .here | exact .there (.there .here) | exact .there (.there (.there .here)) | exact .there (.there (.there (.there .here))) | exact .there (.there (.there (.there (.there .here)))) | exact .there (.there (.there (.there (.there (.there .here))))) | exact .there (.there (.there (.there (.there (.there (.there .here))))))); (first | rfl | exact Arr.len _ | (simp; done)); rfl; (intro w_ hq_; (try simp only [List.set_cons_zero, List.set_cons_succ] at hq_); clear HH; have HH := hid hq_; clear hq_))
            | ((with_reducible apply wpL_storeC (t := 41)); rfl; rfl; (exact kS41); (exact HH.out); (first | exact .here | exact .there .here | exact .there (.there .here) | exact .there (.there (.there .here)) | exact .there (.there (.there (.there .here))) | exact .there (.there (.there (.there (.there .here)))) | exact .there (.there (.there (.there (.there (.there .here))))) | exact .there (.there (.there (.there (.there (.there (.there .here))))))); (first | rfl | exact Arr.len _ | (simp; done)); (first | rfl | (intro u_ hu_; simp only [List.mem_cons, List.not_mem_nil, or_false] at hu_; rcases hu_ with rfl | hu_; rfl) | exact byt_cell1 _ | exact cells_one _ | exact wrd_one _ | exact flat_cell1 _); (first | rfl | exact Arr.len _ | (simp; done)); rfl; (intro w_ hq_; (try simp only [List.set_cons_zero, List.set_cons_succ] at hq_); clear HH; have HH := hid hq_; clear hq_))
            | ((with_reducible apply wpL_storeC (t := 87)); rfl; rfl; (exact kS87); (exact HH.out); (first | exact .here | exact .there .here | exact .there (.there .here) | exact .there (.there (.there .here)) | exact .there (.there (.there (.there .here))) | exact .there (.there (.there (.there (.there .here)))) | exact .there (.there (.there (.there (.there (.there .here))))) | exact .there (.there (.there (.there (.there (.there (.there .here))))))); (first | rfl | exact Arr.len _ | (simp; done)); (first | rfl | (intro u_ hu_; simp only [List.mem_cons, List.not_mem_nil, or_false] at hu_; rcases hu_ with rfl | hu_; rfl) | exact byt_cell1 _ | exact cells_one _ | exact wrd_one _ | exact flat_cell1 _); (first | rfl | exact Arr.len _ | (simp; done)); rfl; (intro w_ hq_; (try simp only [List.set_cons_zero, List.set_cons_succ] at hq_); clear HH; have HH := hid hq_; clear hq_))
            | ((with_reducible apply wpL_move); rfl; rfl)
            | ((with_reducible apply wpL_assign); rfl; rfl)
            | ((with_reducible apply wpL_pick); rfl; rfl; rfl)
            | ((with_reducible apply wpL_not); rfl; rfl)
            | ((with_reducible apply wpL_cmp (b := true)); rfl; rfl; rfl; (first | rfl | assumption | (simp only [cmpB, decide_eq_true_eq, decide_eq_false_iff_not, beq_iff_eq, bne_iff_ne, ne_eq, beq_eq_false_iff_ne, bne_eq_false_iff_eq, gt_iff_lt, ge_iff_le]; omega) | (simp; omega)); rfl)
            | ((with_reducible apply wpL_cmp (b := false)); rfl; rfl; rfl; (first | rfl | assumption | (simp only [cmpB, decide_eq_true_eq, decide_eq_false_iff_not, beq_iff_eq, bne_iff_ne, ne_eq, beq_eq_false_iff_ne, bne_eq_false_iff_eq, gt_iff_lt, ge_iff_le]; omega) | (simp; omega)); rfl)
            | ((with_reducible apply wpL_cmp); rfl; rfl; rfl; rfl; rfl)
            | ((with_reducible apply wpL_arith); rfl; rfl; rfl; (exact IntWalk.i64_in _ (by (try simp only [arithI]); omega)); rfl)); (try simp only [arithI, Act.put, Act.eval, List.setIfInBounds_toArray, List.set_cons_succ, List.set_cons_zero, Array.getD_eq_getD_getElem?, List.getElem?_toArray, List.getElem?_cons_succ, List.getElem?_cons_zero, Option.getD_some])))
      refine bodyPost_ret (res2 rfl (resC kA87 HH.out (by rfl) (.there (.there .here)) (two_len _ _ _)) (by rfl)) rfl ?_
      exact ⟨rfl, HH.out.dropRow.dropRow.below⟩
  · have HNO := hid (show ¬ collOK i a pa b pb from fun h => h1 (by rw [← hea]; exact h.1))
    have HNE := hid trivial
    have h1b : ((ea : Int) != 0) = true := by simpa using h1
    clear hea heb hra hrb hxa hxb h1
    have hv : collV i a pa b pb = (0, zP, zP) := by unfold collV; rw [if_neg HNO.out]
    rw [hv]
    clear hv
    go_enter Try.func50, Try.ntmps50
    go_wp2_with (first
      | ((first
          | ((with_reducible apply wpL_skip); rfl; skip)
          | ((with_reducible apply wpL_allocC (dst := some 10) (zs := twoCs 0 zP zP) kZ87b HH.out); rfl; (intro g10_ w_ hq_; clear HH; have HH := hid hq_; clear hq_))
          | (go_at_call 55; (have hcall_ := hid (pairs_any _ (.slice ua pa.length ca) a i pa (HH.out.sl HPA.out) hna)); (with_reducible refine hcall_.out.mono ?_); clear hcall_; rw [HRA.out, HEA.out, HXA.out]; rintro e_ w2_ ⟨ao1, cap1, rfl, hr_, hb_⟩; (have hq_ := HH.out.addRow hb_ hr_); clear HH; have HH := hid hq_; clear hq_ hb_ hr_)
          | (go_at_call 55; (have hcall_ := hid (pairs_any _ (.slice ub pb.length cb) b i pb (HH.out.sl HPB.out) hnb)); (with_reducible refine hcall_.out.mono ?_); clear hcall_; rw [HRB.out, HEB.out, HXB.out]; rintro e_ w2_ ⟨ao2, cap2, rfl, hr_, hb_⟩; (have hq_ := HH.out.addRow hb_ hr_); clear HH; have HH := hid hq_; clear hq_ hb_ hr_)
          | ((with_reducible apply wpL_neqA (b := true) (p := ra) (q := rb) kR41); rfl; rfl; (exact HNE.out); rfl)
          | ((with_reducible apply wpList_build (parts := #[]) (v := .agg (twoCs 0 zP zP).toArray)); (exact BZ87); rfl)
          | ((with_reducible apply wpL_storeC (t := 87) (vs := twoCs 0 zP zP)); rfl; rfl; (exact kS87); (exact HH.out); (exact .there (.there .here)); (exact two_len _ _ _); (exact two_one _ _ _); (exact two_len _ _ _); rfl; (intro w_ hq_; clear HH; have HH := hid hq_; clear hq_))
          | ((with_reducible apply wpL_nilCheck); rfl; rfl)
          | ((with_reducible apply wpL_loadArr (t := 41) kA41 HH.out); rfl; (first | exact .here | exact .there .here | exact .there (.there .here) | exact .there (.there (.there .here)) | exact .there (.there (.there (.there .here))) | exact .there (.there (.there (.there (.there .here)))) | exact .there (.there (.there (.there (.there (.there .here))))) | exact .there (.there (.there (.there (.there (.there (.there .here))))))); rfl)
          | ((with_reducible apply wpL_loadC (t := 41) kA41 HH.out); rfl; (first | exact .here | exact .there .here | exact .there (.there .here) | exact .there (.there (.there .here)) | exact .there (.there (.there (.there .here))) | exact .there (.there (.there (.there (.there .here)))) | exact .there (.there (.there (.there (.there (.there .here))))) | exact .there (.there (.there (.there (.there (.there (.there .here))))))); (first | rfl | exact Arr.len _ | (simp; done)); rfl)
          | ((with_reducible apply wpL_loadC (t := 73) kA73 HH.out); rfl; (first | exact .here | exact .there .here | exact .there (.there .here) | exact .there (.there (.there .here)) | exact .there (.there (.there (.there .here))) | exact .there (.there (.there (.there (.there .here)))) | exact .there (.there (.there (.there (.there (.there .here))))) | exact .there (.there (.there (.there (.there (.there (.there .here))))))); (first | rfl | exact Arr.len _ | (simp; done)); rfl)
          | ((with_reducible apply wpL_len (t := 98) Try.underlying98); rfl; rfl)
          | ((with_reducible apply wpL_boxArr (dst := some 6)); rfl; (exact HH.out); rfl; (intro g6_ w_ hq_; (try simp only [List.set_cons_zero, List.set_cons_succ] at hq_); clear HH; have HH := hid hq_; clear hq_))
          | ((with_reducible apply wpL_boxArr (dst := some 8)); rfl; (exact HH.out); rfl; (intro g8_ w_ hq_; (try simp only [List.set_cons_zero, List.set_cons_succ] at hq_); clear HH; have HH := hid hq_; clear hq_))
          | ((with_reducible apply wpL_allocC (dst := some 10) kZ87 HH.out); rfl; (intro g10_ w_ hq_; (try simp only [List.set_cons_zero, List.set_cons_succ] at hq_); clear HH; have HH := hid hq_; clear hq_))
          | ((with_reducible apply wpL_allocC (dst := some 13) kZ41 HH.out); rfl; (intro g13_ w_ hq_; (try simp only [List.set_cons_zero, List.set_cons_succ] at hq_); clear HH; have HH := hid hq_; clear hq_))
          | ((with_reducible apply wpL_allocC (dst := some 16) kZ41 HH.out); rfl; (intro g16_ w_ hq_; (try simp only [List.set_cons_zero, List.set_cons_succ] at hq_); clear HH; have HH := hid hq_; clear hq_))
          | ((with_reducible apply wpL_storeArr (t := 41) kS41 HH.out); rfl; rfl; (first | exact .here | exact .there .here | exact .there (.there .here) | exact .there (.there (.there .here)) | exact .there (.there (.there (.there .here))) | exact .there (.there (.there (.there (.there .here)))) | exact .there (.there (.there (.there (.there (.there .here))))) | exact .there (.there (.there (.there (.there (.there (.there .here))))))); (first | rfl | exact Arr.len _ | (simp; done)); rfl; (intro w_ hq_; (try simp only [List.set_cons_zero, List.set_cons_succ] at hq_); clear HH; have HH := hid hq_; clear hq_))
          | ((with_reducible apply wpL_storeC (t := 41)); rfl; rfl; (exact kS41); (exact HH.out); (first | exact .here | exact .there .here | exact .there (.there .here) | exact .there (.there (.there .here)) | exact .there (.there (.there (.there .here))) | exact .there (.there (.there (.there (.there .here)))) | exact .there (.there (.there (.there (.there (.there .here))))) | exact .there (.there (.there (.there (.there (.there (.there .here))))))); (first | rfl | exact Arr.len _ | (simp; done)); (first | rfl | (intro u_ hu_; simp only [List.mem_cons, List.not_mem_nil, or_false] at hu_; rcases hu_ with rfl | hu_; rfl) | exact byt_cell1 _ | exact cells_one _ | exact wrd_one _ | exact flat_cell1 _); (first | rfl | exact Arr.len _ | (simp; done)); rfl; (intro w_ hq_; (try simp only [List.set_cons_zero, List.set_cons_succ] at hq_); clear HH; have HH := hid hq_; clear hq_))
          | ((with_reducible apply wpL_storeC (t := 87)); rfl; rfl; (exact kS87); (exact HH.out); (first | exact .here | exact .there .here | exact .there (.there .here) | exact .there (.there (.there .here)) | exact .there (.there (.there (.there .here))) | exact .there (.there (.there (.there (.there .here)))) | exact .there (.there (.there (.there (.there (.there .here))))) | exact .there (.there (.there (.there (.there (.there (.there .here))))))); (first | rfl | exact Arr.len _ | (simp; done)); (first | rfl | (intro u_ hu_; simp only [List.mem_cons, List.not_mem_nil, or_false] at hu_; rcases hu_ with rfl | hu_; rfl) | exact byt_cell1 _ | exact cells_one _ | exact wrd_one _ | exact flat_cell1 _); (first | rfl | exact Arr.len _ | (simp; done)); rfl; (intro w_ hq_; (try simp only [List.set_cons_zero, List.set_cons_succ] at hq_); clear HH; have HH := hid hq_; clear hq_))
          | ((with_reducible apply wpL_move); rfl; rfl)
          | ((with_reducible apply wpL_assign); rfl; rfl)
          | ((with_reducible apply wpL_pick); rfl; rfl; rfl)
          | ((with_reducible apply wpL_not); rfl; rfl)
          | ((with_reducible apply wpL_cmp (b := true)); rfl; rfl; rfl; (first | rfl | assumption | (simp only [cmpB, decide_eq_true_eq, decide_eq_false_iff_not, beq_iff_eq, bne_iff_ne, ne_eq, beq_eq_false_iff_ne, bne_eq_false_iff_eq, gt_iff_lt, ge_iff_le]; omega) | (simp; omega)); rfl)
          | ((with_reducible apply wpL_cmp (b := false)); rfl; rfl; rfl; (first | rfl | assumption | (simp only [cmpB, decide_eq_true_eq, decide_eq_false_iff_not, beq_iff_eq, bne_iff_ne, ne_eq, beq_eq_false_iff_ne, bne_eq_false_iff_eq, gt_iff_lt, ge_iff_le]; omega) | (simp; omega)); rfl)
          | ((with_reducible apply wpL_cmp); rfl; rfl; rfl; rfl; rfl)
          | ((with_reducible apply wpL_arith); rfl; rfl; rfl; (exact IntWalk.i64_in _ (by (try simp only [arithI]); omega)); rfl)); (try simp only [arithI, Act.put, Act.eval, List.setIfInBounds_toArray, List.set_cons_succ, List.set_cons_zero, Array.getD_eq_getD_getElem?, List.getElem?_toArray, List.getElem?_cons_succ, List.getElem?_cons_zero, Option.getD_some])))
    refine bodyPost_ret (res2 rfl (resC kA87 HH.out (by rfl) (.there (.there .here)) (two_len _ _ _)) (by rfl)) rfl ?_
    exact ⟨rfl, HH.out.dropRow.dropRow.below⟩
end Go.Proofs.Ytgkfopodhikckaa

/- The law MerkleRoot. Condition: at most 70 leaves. -/
namespace Go.Proofs.Ytgkfopodhikckaa
open Go.RowKit
attribute [local irreducible] wpQuiet wpList
theorem ndsRefl (l : List Nd) : (l == l) = true := beq_self_eq_true _
end Go.Proofs.Ytgkfopodhikckaa

/- The law MerkleCollision. Condition: paths of at most 12 nodes. -/
namespace Go.Proofs.Ytgkfopodhikckaa
open Go.RowKit
attribute [local irreducible] wpQuiet wpList
section
variable {P : Program} {w0 w : World} {S : List Nat} {bs : List (Nat × Obj)} {rows : List Row} {ops : Array Oper} {rest : List Oper} {a : Act} {Q : Exit → Act → World → Prop} {C : World → Prop} {K : Act → Prop} {ρ : Operand → Value} {dst : Option Tmp} {ty : TypeId} {pos : String} {after : Array Edge} {guard : Option (Nat × Bool)}
theorem wpQ_eqBool {t yt : TypeId} {b c r : Bool} {x y : Operand} (ht : P.underlying t = some .bool) (hx : a.eval x = .bool b) (hy : a.eval y = .bool c) (hr : (b == c) = r)
    (hg : Region.wanted { dst := dst, op := .binOp .eql t x y yt, type := ty, pos := pos, after := after, guard := guard } (yielded ops a.tmps) = true)
    (h : wpQuiet P ops C K rest (a.put dst (.bool r))) : wpQuiet P ops C K ({ dst := dst, op := .binOp .eql t x y yt, type := ty, pos := pos, after := after, guard := guard } :: rest) a :=
  wpQuiet_ex hg (fun w _ => ex_eqBool (ρ := a.eval) ht hx hy hr w) h
theorem ex_sliceArrJ {t e : TypeId} {n sz : Nat} (ht : P.underlying t = some (.array n e)) (hz : (P.info? e).map (·.size) = some sz) {x : Operand} {g j : Nat} (hx : ρ x = .pointer (some ⟨g, j, none⟩)) (w : World) :
    (execOp ρ { dst := dst, op := .slice t x none none none, type := ty, pos := pos, after := after, guard := guard }).run P w = .ok (.value (.slice (some ⟨g, j, none⟩) n n)) w := by
  simp [execOp, hx, Instr.sliceAt, Instr.slice, Instr.sliceBounds, Instr.sliceBound, asIntOf, run_underlying ht, run_sizeOf hz, Addr.add, Instr.sureAddr]
theorem wpQ_sliceArrJ {t e : TypeId} {n sz : Nat} (ht : P.underlying t = some (.array n e)) (hz : (P.info? e).map (·.size) = some sz) {x : Operand} {g j : Nat} (hx : a.eval x = .pointer (some ⟨g, j, none⟩))
    (hg : Region.wanted { dst := dst, op := .slice t x none none none, type := ty, pos := pos, after := after, guard := guard } (yielded ops a.tmps) = true)
    (h : wpQuiet P ops C K rest (a.put dst (.slice (some ⟨g, j, none⟩) n n))) : wpQuiet P ops C K ({ dst := dst, op := .slice t x none none none, type := ty, pos := pos, after := after, guard := guard } :: rest) a :=
  wpQuiet_ex hg (fun w _ => ex_sliceArrJ (ρ := a.eval) ht hz hx w) h
/-- Two nodes that lie in a variable, as a slice. -/
theorem arrs_two (hH : Holds w0 S bs rows w) {g j : Nat} {cs : List Value} {e : TypeId} (ho : Own bs g (objC cs e)) {x y : Nd} (hc : (cs.drop j).take 32 = (jn x y).cells) : Arrs w (.slice (some ⟨g, j, none⟩) 2 2) [x, y] := by
  have hf : flat [x, y] = (jn x y).cells := by rw [jn_cells, flat_cons, flat_one]; rfl
  refine ⟨some ⟨g, j, none⟩, 2, rfl, Nat.le_refl _, flat_len _, fun i u hu => ⟨_, rfl, ?_⟩⟩
  rw [hf, ← hc, List.getElem?_take] at hu
  have hadd : (⟨g, j, none⟩ : Addr).add i = ⟨g, j + i, none⟩ := by unfold Addr.add; split <;> simp_all
  split at hu
  · rw [List.getElem?_drop] at hu
    rw [hadd, cell_own hH ho (j + i), List.getElem?_toArray]
    exact hu
  · cases hu
variable {rowsF : (Nat → Bool) → (Nat → Value) → List Row} {ia is_ sl : Nat} {e : TypeId} {zs vs : List Value} {l : Nat → Bool} {s : Nat → Value}
theorem AJ.addRowG {w' : World} {i d : Nat} {E : TypeId} {sz n : Nat} {xs : List Value} {base : List Row} {v : Value} (hJ : AJ w0 S bs rowsF ia is_ sl e zs vs l s w) (h0 : rowsF l s = base) (h1 : rowsF (upd l i) (updS s d v) = ⟨v, E, sz, n, xs⟩ :: base) (h2 : ia ≠ i) (h3 : is_ ≠ i) (h4 : sl ≠ d)
    (hb : Below w.heap.size w w') (hr : w'.ownsRow w.heap.size E sz v n xs) : AJ w0 S bs rowsF ia is_ sl e zs vs (upd l i) (updS s d v) w' := by
  unfold AJ at *
  rw [h0] at hJ
  rw [h1, show upd l i ia = l ia by simp [upd, h2], show upd l i is_ = l is_ by simp [upd, h3], show updS s d v sl = s sl by simp [updS, h4]]
  exact Holds.addRow hJ hb hr
end
def rows2 (na nb : Nat) (xa xb : List Value) : (Nat → Bool) → (Nat → Value) → List Row := fun l s => optR (l 11) ⟨s 36, 34, 16, nb, xb⟩ (optR (l 6) ⟨s 31, 34, 16, na, xa⟩ [])
set_option maxRecDepth 100000 in
set_option maxHeartbeats 8000000 in
theorem law_coll (w : World) (i ib : Int) (a b : Nd) (u v : Value) (pa pb : List Nd) (hu : Arrs w u pa) (hv : Arrs w v pb) : Calls Try.prog 14 #[.agg (claimCs i a u).toArray, .agg (claimCs ib b v).toArray] w (RetB w true) := by
  obtain ⟨ua, ca, rfl, _⟩ := hu.shape
  obtain ⟨ub, cb, rfl, _⟩ := hv.shape
  have HPA := hid hu
  have HPB := hid hv
  clear hu hv
  have HH := hid (Holds.init w)
  by_cases hna : 12 < pa.length
  · go_enter Try.func14, Try.ntmps14
    go_wp2_with (first
      | ((first
          | ((with_reducible apply wpL_skip); rfl; skip)
          | (go_at_call 23; (first | ((have hcall_ := hid (knownM_any _)); (with_reducible refine hcall_.out.mono ?_); clear hcall_) | (with_reducible refine (knownM_any _).mono ?_)); rintro e_ w2_ ⟨rfl, hb_⟩; (have hq_ := HH.out.grow hb_); clear HH; have HH := hid hq_; clear hq_ hb_)
          | ((with_reducible apply wpL_load1 (dst := some 13) (t := 30) (v := .slice ua pa.length ca) kO30 HH.out); rfl; (exact .there .here); (exact claim_path _ _ _); rfl)
          | ((with_reducible apply wpL_load1 (dst := some 19) (t := 30) (v := .slice ub pb.length cb) kO30 HH.out); rfl; (exact .here); (exact claim_path _ _ _); rfl)
          | ((with_reducible apply wpL_nilCheck); rfl; rfl)
          | ((with_reducible apply wpL_fieldAddr); (first | exact kF79_0 | exact kF79_1 | exact kF79_2 | exact kF82_0 | exact kF82_1 | exact kF82_2 | exact kF87_0 | exact kF87_1 | exact kF87_2); rfl; rfl)
          | ((with_reducible apply wpL_load1 (t := 3) kO3 HH.out); rfl; (first | exact .here | exact .there .here | exact .there (.there .here) | exact .there (.there (.there .here)) | exact .there (.there (.there (.there .here))) | exact .there (.there (.there (.there (.there .here)))) | exact .there (.there (.there (.there (.there (.there .here))))) | exact .there (.there (.there (.there (.there (.there (.there .here))))))); rfl; rfl)
          | ((with_reducible apply wpL_load1 (t := 30) kO30 HH.out); rfl; (first | exact .here | exact .there .here | exact .there (.there .here) | exact .there (.there (.there .here)) | exact .there (.there (.there (.there .here))) | exact .there (.there (.there (.there (.there .here)))) | exact .there (.there (.there (.there (.there (.there .here))))) | exact .there (.there (.there (.there (.there (.there (.there .here))))))); rfl; rfl)
          | ((with_reducible apply wpL_loadArr (t := 41) kA41 HH.out); rfl; (first | exact .here | exact .there .here | exact .there (.there .here) | exact .there (.there (.there .here)) | exact .there (.there (.there (.there .here))) | exact .there (.there (.there (.there (.there .here)))) | exact .there (.there (.there (.there (.there (.there .here))))) | exact .there (.there (.there (.there (.there (.there (.there .here))))))); rfl)
          | ((with_reducible apply wpL_loadC (t := 41) kA41 HH.out); rfl; (first | exact .here | exact .there .here | exact .there (.there .here) | exact .there (.there (.there .here)) | exact .there (.there (.there (.there .here))) | exact .there (.there (.there (.there (.there .here)))) | exact .there (.there (.there (.there (.there (.there .here))))) | exact .there (.there (.there (.there (.there (.there (.there .here))))))); (first | rfl | exact Arr.len _ | (simp; done)); rfl)
          | ((with_reducible apply wpL_len (t := 30) Try.underlying30); rfl; rfl)
          | ((with_reducible apply wpL_boxC (dst := some 2)); rfl; (exact HH.out); rfl; (intro g2_ w_ hq_; (try simp only [List.set_cons_zero, List.set_cons_succ] at hq_); clear HH; have HH := hid hq_; clear hq_))
          | ((with_reducible apply wpL_boxC (dst := some 3)); rfl; (exact HH.out); rfl; (intro g3_ w_ hq_; (try simp only [List.set_cons_zero, List.set_cons_succ] at hq_); clear HH; have HH := hid hq_; clear hq_))
          | ((with_reducible apply wpL_allocC (dst := some 5) kZ82 HH.out); rfl; (intro g5_ w_ hq_; (try simp only [List.set_cons_zero, List.set_cons_succ] at hq_); clear HH; have HH := hid hq_; clear hq_))
          | ((with_reducible apply wpL_allocC (dst := some 7) kZ87 HH.out); rfl; (intro g7_ w_ hq_; (try simp only [List.set_cons_zero, List.set_cons_succ] at hq_); clear HH; have HH := hid hq_; clear hq_))
          | ((with_reducible apply wpL_storeC (t := 82)); rfl; rfl; (exact kS82); (exact HH.out); (first | exact .here | exact .there .here | exact .there (.there .here) | exact .there (.there (.there .here)) | exact .there (.there (.there (.there .here))) | exact .there (.there (.there (.there (.there .here)))) | exact .there (.there (.there (.there (.there (.there .here))))) | exact .there (.there (.there (.there (.there (.there (.there .here))))))); (first | rfl | exact Arr.len _ | (simp; done)); (first | rfl | (intro u_ hu_; simp only [List.mem_cons, List.not_mem_nil, or_false] at hu_; rcases hu_ with rfl | hu_; rfl) | exact byt_cell1 _ | exact cells_one _ | exact wrd_one _ | exact flat_cell1 _); (first | rfl | exact Arr.len _ | (simp; done)); rfl; (intro w_ hq_; (try simp only [List.set_cons_zero, List.set_cons_succ] at hq_); clear HH; have HH := hid hq_; clear hq_))
          | ((with_reducible apply wpL_storeC (t := 87)); rfl; rfl; (exact kS87); (exact HH.out); (first | exact .here | exact .there .here | exact .there (.there .here) | exact .there (.there (.there .here)) | exact .there (.there (.there (.there .here))) | exact .there (.there (.there (.there (.there .here)))) | exact .there (.there (.there (.there (.there (.there .here))))) | exact .there (.there (.there (.there (.there (.there (.there .here))))))); (first | rfl | exact Arr.len _ | (simp; done)); (first | rfl | (intro u_ hu_; simp only [List.mem_cons, List.not_mem_nil, or_false] at hu_; rcases hu_ with rfl | hu_; rfl) | exact byt_cell1 _ | exact cells_one _ | exact wrd_one _ | exact flat_cell1 _); (first | rfl | exact Arr.len _ | (simp; done)); rfl; (intro w_ hq_; (try simp only [List.set_cons_zero, List.set_cons_succ] at hq_); clear HH; have HH := hid hq_; clear hq_))
          | ((with_reducible apply wpL_move); rfl; rfl)
          | ((with_reducible apply wpL_assign); rfl; rfl)
          | ((with_reducible apply wpL_pick); rfl; rfl; rfl)
          | ((with_reducible apply wpL_not); rfl; rfl)
          | ((with_reducible apply wpL_cmp (b := true)); rfl; rfl; rfl; (first | rfl | assumption | (simp only [cmpB, decide_eq_true_eq, decide_eq_false_iff_not, beq_iff_eq, bne_iff_ne, ne_eq, beq_eq_false_iff_ne, bne_eq_false_iff_eq, gt_iff_lt, ge_iff_le]; omega) | (simp; omega)); rfl)
          | ((with_reducible apply wpL_cmp (b := false)); rfl; rfl; rfl; (first | rfl | assumption | (simp only [cmpB, decide_eq_true_eq, decide_eq_false_iff_not, beq_iff_eq, bne_iff_ne, ne_eq, beq_eq_false_iff_ne, bne_eq_false_iff_eq, gt_iff_lt, ge_iff_le]; omega) | (simp; omega)); rfl)
          | ((with_reducible apply wpL_cmp); rfl; rfl; rfl; rfl; rfl)
          | ((with_reducible apply wpL_arith); rfl; rfl; rfl; (exact IntWalk.i64_in _ (by (try simp only [arithI]); omega)); rfl)); (try simp only [arithI, Act.put, Act.eval, List.setIfInBounds_toArray, List.set_cons_succ, List.set_cons_zero, Array.getD_eq_getD_getElem?, List.getElem?_toArray, List.getElem?_cons_succ, List.getElem?_cons_zero, Option.getD_some])))
    go_ret
    exact RetB.mk rfl HH.out.below
  · by_cases hnb : 12 < pb.length
    · go_enter Try.func14, Try.ntmps14
      go_wp2_with (first
        | ((first
            | ((with_reducible apply wpL_skip); rfl; skip)
            | (go_at_call 23; (first | ((have hcall_ := hid (knownM_any _)); (with_reducible refine hcall_.out.mono ?_); clear hcall_) | (with_reducible refine (knownM_any _).mono ?_)); rintro e_ w2_ ⟨rfl, hb_⟩; (have hq_ := HH.out.grow hb_); clear HH; have HH := hid hq_; clear hq_ hb_)
            | ((with_reducible apply wpL_load1 (dst := some 13) (t := 30) (v := .slice ua pa.length ca) kO30 HH.out); rfl; (exact .there .here); (exact claim_path _ _ _); rfl)
            | ((with_reducible apply wpL_load1 (dst := some 19) (t := 30) (v := .slice ub pb.length cb) kO30 HH.out); rfl; (exact .here); (exact claim_path _ _ _); rfl)
            | ((with_reducible apply wpL_nilCheck); rfl; rfl)
            | ((with_reducible apply wpL_fieldAddr); (first | exact kF79_0 | exact kF79_1 | exact kF79_2 | exact kF82_0 | exact kF82_1 | exact kF82_2 | exact kF87_0 | exact kF87_1 | exact kF87_2); rfl; rfl)
            | ((with_reducible apply wpL_load1 (t := 3) kO3 HH.out); rfl; (first | exact .here | exact .there .here | exact .there (.there .here) | exact .there (.there (.there .here)) | exact .there (.there (.there (.there .here))) | exact .there (.there (.there (.there (.there .here)))) | exact .there (.there (.there (.there (.there (.there .here))))) | exact .there (.there (.there (.there (.there (.there (.there .here))))))); rfl; rfl)
            | ((with_reducible apply wpL_load1 (t := 30) kO30 HH.out); rfl; (first | exact .here | exact .there .here | exact .there (.there .here) | exact .there (.there (.there .here)) | exact .there (.there (.there (.there .here))) | exact .there (.there (.there (.there (.there .here)))) | exact .there (.there (.there (.there (.there (.there .here))))) | exact .there (.there (.there (.there (.there (.there (.there .here))))))); rfl; rfl)
            | ((with_reducible apply wpL_loadArr (t := 41) kA41 HH.out); rfl; (first | exact .here | exact .there .here | exact .there (.there .here) | exact .there (.there (.there .here)) | exact .there (.there (.there (.there .here))) | exact .there (.there (.there (.there (.there .here)))) | exact .there (.there (.there (.there (.there (.there .here))))) | exact .there (.there (.there (.there (.there (.there (.there .here))))))); rfl)
            | ((with_reducible apply wpL_loadC (t := 41) kA41 HH.out); rfl; (first | exact .here | exact .there .here | exact .there (.there .here) | exact .there (.there (.there .here)) | exact .there (.there (.there (.there .here))) | exact .there (.there (.there (.there (.there .here)))) | exact .there (.there (.there (.there (.there (.there .here))))) | exact .there (.there (.there (.there (.there (.there (.there .here))))))); (first | rfl | exact Arr.len _ | (simp; done)); rfl)
            | ((with_reducible apply wpL_len (t := 30) Try.underlying30); rfl; rfl)
            | ((with_reducible apply wpL_boxC (dst := some 2)); rfl; (exact HH.out); rfl; (intro g2_ w_ hq_; (try simp only [List.set_cons_zero, List.set_cons_succ] at hq_); clear HH; have HH := hid hq_; clear hq_))
            | ((with_reducible apply wpL_boxC (dst := some 3)); rfl; (exact HH.out); rfl; (intro g3_ w_ hq_; (try simp only [List.set_cons_zero, List.set_cons_succ] at hq_); clear HH; have HH := hid hq_; clear hq_))
            | ((with_reducible apply wpL_allocC (dst := some 5) kZ82 HH.out); rfl; (intro g5_ w_ hq_; (try simp only [List.set_cons_zero, List.set_cons_succ] at hq_); clear HH; have HH := hid hq_; clear hq_))
            | ((with_reducible apply wpL_allocC (dst := some 7) kZ87 HH.out); rfl; (intro g7_ w_ hq_; (try simp only [List.set_cons_zero, List.set_cons_succ] at hq_); clear HH; have HH := hid hq_; clear hq_))
            | ((with_reducible apply wpL_storeC (t := 82)); rfl; rfl; (exact kS82); (exact HH.out); (first | exact .here | exact .there .here | exact .there (.there .here) | exact .there (.there (.there .here)) | exact .there (.there (.there (.there .here))) | exact .there (.there (.there (.there (.there .here)))) | exact .there (.there (.there (.there (.there (.there .here))))) | exact .there (.there (.there (.there (.there (.there (.there .here))))))); (first | rfl | exact Arr.len _ | (simp; done)); (first | rfl | (intro u_ hu_; simp only [List.mem_cons, List.not_mem_nil, or_false] at hu_; rcases hu_ with rfl | hu_; rfl) | exact byt_cell1 _ | exact cells_one _ | exact wrd_one _ | exact flat_cell1 _); (first | rfl | exact Arr.len _ | (simp; done)); rfl; (intro w_ hq_; (try simp only [List.set_cons_zero, List.set_cons_succ] at hq_); clear HH; have HH := hid hq_; clear hq_))
            | ((with_reducible apply wpL_storeC (t := 87)); rfl; rfl; (exact kS87); (exact HH.out); (first | exact .here | exact .there .here | exact .there (.there .here) | exact .there (.there (.there .here)) | exact .there (.there (.there (.there .here))) | exact .there (.there (.there (.there (.there .here)))) | exact .there (.there (.there (.there (.there (.there .here))))) | exact .there (.there (.there (.there (.there (.there (.there .here))))))); (first | rfl | exact Arr.len _ | (simp; done)); (first | rfl | (intro u_ hu_; simp only [List.mem_cons, List.not_mem_nil, or_false] at hu_; rcases hu_ with rfl | hu_; rfl) | exact byt_cell1 _ | exact cells_one _ | exact wrd_one _ | exact flat_cell1 _); (first | rfl | exact Arr.len _ | (simp; done)); rfl; (intro w_ hq_; (try simp only [List.set_cons_zero, List.set_cons_succ] at hq_); clear HH; have HH := hid hq_; clear hq_))
            | ((with_reducible apply wpL_move); rfl; rfl)
            | ((with_reducible apply wpL_assign); rfl; rfl)
            | ((with_reducible apply wpL_pick); rfl; rfl; rfl)
            | ((with_reducible apply wpL_not); rfl; rfl)
            | ((with_reducible apply wpL_cmp (b := true)); rfl; rfl; rfl; (first | rfl | assumption | (simp only [cmpB, decide_eq_true_eq, decide_eq_false_iff_not, beq_iff_eq, bne_iff_ne, ne_eq, beq_eq_false_iff_ne, bne_eq_false_iff_eq, gt_iff_lt, ge_iff_le]; omega) | (simp; omega)); rfl)
            | ((with_reducible apply wpL_cmp (b := false)); rfl; rfl; rfl; (first | rfl | assumption | (simp only [cmpB, decide_eq_true_eq, decide_eq_false_iff_not, beq_iff_eq, bne_iff_ne, ne_eq, beq_eq_false_iff_ne, bne_eq_false_iff_eq, gt_iff_lt, ge_iff_le]; omega) | (simp; omega)); rfl)
            | ((with_reducible apply wpL_cmp); rfl; rfl; rfl; rfl; rfl)
            | ((with_reducible apply wpL_arith); rfl; rfl; rfl; (exact IntWalk.i64_in _ (by (try simp only [arithI]); omega)); rfl)); (try simp only [arithI, Act.put, Act.eval, List.setIfInBounds_toArray, List.set_cons_succ, List.set_cons_zero, Array.getD_eq_getD_getElem?, List.getElem?_toArray, List.getElem?_cons_succ, List.getElem?_cons_zero, Option.getD_some])))
      go_ret
      exact RetB.mk rfl HH.out.below
    · obtain ⟨⟨lv, A, B⟩, ho⟩ : ∃ o, collV i a pa b pb = o := ⟨_, rfl⟩
      have HO := hid ho
      clear ho
      obtain ⟨a1, a2, hA⟩ := jn_split A
      obtain ⟨b1, b2, hB⟩ := jn_split B
      have HA := hid (show ((twoCs lv A B).drop (0 + 1)).take 32 = (jn a1 a2).cells by rw [two_a, hA])
      have HB := hid (show ((twoCs lv A B).drop (0 + 33)).take 32 = (jn b1 b2).cells by rw [two_b, hB])
      clear hA hB
      obtain ⟨ok, hok⟩ : ∃ ok, decide (0 < lv) = ok := ⟨_, rfl⟩
      have HOK := hid hok
      clear hok
      have HCO := hid (fun (w1 : World) (va vb : Value) (h1 : Arrs w1 va pa) (h2 : Arrs w1 vb pb) => coll_any w1 va vb i a b pa pb h1 h2 (by omega) (by omega))
      have HCR := hid (fun (w1 : World) (va vb : Value) (h1 : Arrs w1 va pa) (h2 : Arrs w1 vb pb) => collR_any w1 va vb i a b pa pb h1 h2 (by omega) (by omega))
      have hna2 : pa.length ≤ 1000000000 := by omega
      have hnb2 : pb.length ≤ 1000000000 := by omega
      go_enter Try.func14, Try.ntmps14
      go_wp2_with (first
        | ((first
            | ((with_reducible apply wpL_skip); rfl; skip)
            | (go_at_call 23; (first | ((have hcall_ := hid (knownM_any _)); (with_reducible refine hcall_.out.mono ?_); clear hcall_) | (with_reducible refine (knownM_any _).mono ?_)); rintro e_ w2_ ⟨rfl, hb_⟩; (have hq_ := HH.out.grow hb_); clear HH; have HH := hid hq_; clear hq_ hb_)
            | ((with_reducible apply wpL_load1 (dst := some 13) (t := 30) (v := .slice ua pa.length ca) kO30 HH.out); rfl; (exact .there .here); (exact claim_path _ _ _); rfl)
            | ((with_reducible apply wpL_load1 (dst := some 19) (t := 30) (v := .slice ub pb.length cb) kO30 HH.out); rfl; (exact .here); (exact claim_path _ _ _); rfl)
            | ((with_reducible apply wpL_nilCheck); rfl; rfl)
            | ((with_reducible apply wpL_fieldAddr); (first | exact kF79_0 | exact kF79_1 | exact kF79_2 | exact kF82_0 | exact kF82_1 | exact kF82_2 | exact kF87_0 | exact kF87_1 | exact kF87_2); rfl; rfl)
            | ((with_reducible apply wpL_load1 (t := 3) kO3 HH.out); rfl; (first | exact .here | exact .there .here | exact .there (.there .here) | exact .there (.there (.there .here)) | exact .there (.there (.there (.there .here))) | exact .there (.there (.there (.there (.there .here)))) | exact .there (.there (.there (.there (.there (.there .here))))) | exact .there (.there (.there (.there (.there (.there (.there .here))))))); rfl; rfl)
            | ((with_reducible apply wpL_load1 (t := 30) kO30 HH.out); rfl; (first | exact .here | exact .there .here | exact .there (.there .here) | exact .there (.there (.there .here)) | exact .there (.there (.there (.there .here))) | exact .there (.there (.there (.there (.there .here)))) | exact .there (.there (.there (.there (.there (.there .here))))) | exact .there (.there (.there (.there (.there (.there (.there .here))))))); rfl; rfl)
            | ((with_reducible apply wpL_loadArr (t := 41) kA41 HH.out); rfl; (first | exact .here | exact .there .here | exact .there (.there .here) | exact .there (.there (.there .here)) | exact .there (.there (.there (.there .here))) | exact .there (.there (.there (.there (.there .here)))) | exact .there (.there (.there (.there (.there (.there .here))))) | exact .there (.there (.there (.there (.there (.there (.there .here))))))); rfl)
            | ((with_reducible apply wpL_loadC (t := 41) kA41 HH.out); rfl; (first | exact .here | exact .there .here | exact .there (.there .here) | exact .there (.there (.there .here)) | exact .there (.there (.there (.there .here))) | exact .there (.there (.there (.there (.there .here)))) | exact .there (.there (.there (.there (.there (.there .here))))) | exact .there (.there (.there (.there (.there (.there (.there .here))))))); (first | rfl | exact Arr.len _ | (simp; done)); rfl)
            | ((with_reducible apply wpL_len (t := 30) Try.underlying30); rfl; rfl)
            | ((with_reducible apply wpL_boxC (dst := some 2)); rfl; (exact HH.out); rfl; (intro g2_ w_ hq_; (try simp only [List.set_cons_zero, List.set_cons_succ] at hq_); clear HH; have HH := hid hq_; clear hq_))
            | ((with_reducible apply wpL_boxC (dst := some 3)); rfl; (exact HH.out); rfl; (intro g3_ w_ hq_; (try simp only [List.set_cons_zero, List.set_cons_succ] at hq_); clear HH; have HH := hid hq_; clear hq_))
            | ((with_reducible apply wpL_allocC (dst := some 5) kZ82 HH.out); rfl; (intro g5_ w_ hq_; (try simp only [List.set_cons_zero, List.set_cons_succ] at hq_); clear HH; have HH := hid hq_; clear hq_))
            | ((with_reducible apply wpL_allocC (dst := some 7) kZ87 HH.out); rfl; (intro g7_ w_ hq_; (try simp only [List.set_cons_zero, List.set_cons_succ] at hq_); clear HH; have HH := hid hq_; clear hq_))
            | ((with_reducible apply wpL_storeC (t := 82)); rfl; rfl; (exact kS82); (exact HH.out); (first | exact .here | exact .there .here | exact .there (.there .here) | exact .there (.there (.there .here)) | exact .there (.there (.there (.there .here))) | exact .there (.there (.there (.there (.there .here)))) | exact .there (.there (.there (.there (.there (.there .here))))) | exact .there (.there (.there (.there (.there (.there (.there .here))))))); (first | rfl | exact Arr.len _ | (simp; done)); (first | rfl | (intro u_ hu_; simp only [List.mem_cons, List.not_mem_nil, or_false] at hu_; rcases hu_ with rfl | hu_; rfl) | exact byt_cell1 _ | exact cells_one _ | exact wrd_one _ | exact flat_cell1 _); (first | rfl | exact Arr.len _ | (simp; done)); rfl; (intro w_ hq_; (try simp only [List.set_cons_zero, List.set_cons_succ] at hq_); clear HH; have HH := hid hq_; clear hq_))
            | ((with_reducible apply wpL_storeC (t := 87)); rfl; rfl; (exact kS87); (exact HH.out); (first | exact .here | exact .there .here | exact .there (.there .here) | exact .there (.there (.there .here)) | exact .there (.there (.there (.there .here))) | exact .there (.there (.there (.there (.there .here)))) | exact .there (.there (.there (.there (.there (.there .here))))) | exact .there (.there (.there (.there (.there (.there (.there .here))))))); (first | rfl | exact Arr.len _ | (simp; done)); (first | rfl | (intro u_ hu_; simp only [List.mem_cons, List.not_mem_nil, or_false] at hu_; rcases hu_ with rfl | hu_; rfl) | exact byt_cell1 _ | exact cells_one _ | exact wrd_one _ | exact flat_cell1 _); (first | rfl | exact Arr.len _ | (simp; done)); rfl; (intro w_ hq_; (try simp only [List.set_cons_zero, List.set_cons_succ] at hq_); clear HH; have HH := hid hq_; clear hq_))
            | ((with_reducible apply wpL_move); rfl; rfl)
            | ((with_reducible apply wpL_assign); rfl; rfl)
            | ((with_reducible apply wpL_pick); rfl; rfl; rfl)
            | ((with_reducible apply wpL_not); rfl; rfl)
            | ((with_reducible apply wpL_cmp (b := true)); rfl; rfl; rfl; (first | rfl | assumption | (simp only [cmpB, decide_eq_true_eq, decide_eq_false_iff_not, beq_iff_eq, bne_iff_ne, ne_eq, beq_eq_false_iff_ne, bne_eq_false_iff_eq, gt_iff_lt, ge_iff_le]; omega) | (simp; omega)); rfl)
            | ((with_reducible apply wpL_cmp (b := false)); rfl; rfl; rfl; (first | rfl | assumption | (simp only [cmpB, decide_eq_true_eq, decide_eq_false_iff_not, beq_iff_eq, bne_iff_ne, ne_eq, beq_eq_false_iff_ne, bne_eq_false_iff_eq, gt_iff_lt, ge_iff_le]; omega) | (simp; omega)); rfl)
            | ((with_reducible apply wpL_cmp); rfl; rfl; rfl; rfl; rfl)
            | ((with_reducible apply wpL_arith); rfl; rfl; rfl; (exact IntWalk.i64_in _ (by (try simp only [arithI]); omega)); rfl)); (try simp only [arithI, Act.put, Act.eval, List.setIfInBounds_toArray, List.set_cons_succ, List.set_cons_zero, Array.getD_eq_getD_getElem?, List.getElem?_toArray, List.getElem?_cons_succ, List.getElem?_cons_zero, Option.getD_some])))
      refine wp_region_F [(fun u_ => u_ = (.pointer (some ⟨g2_, 0 + 0, none⟩))), (fun u_ => u_ = (.int .i64 i)), (fun u_ => u_ = (.pointer (some ⟨g2_, 0 + 1, none⟩))), (fun u_ => u_ = a.val), (fun u_ => u_ = (.pointer (some ⟨g2_, 0 + 17, none⟩))), (fun u_ => u_ = (.slice ua pa.length ca)), (fun _ => True), (fun u_ => u_ = (.pointer (some ⟨g3_, 0 + 1, none⟩))), (fun u_ => u_ = b.val), (fun u_ => u_ = (.pointer (some ⟨g3_, 0 + 17, none⟩))), (fun u_ => u_ = (.slice ub pb.length cb)), (fun _ => True), (fun u_ => u_ = (.tuple #[.agg (twoCs lv A B).toArray, .bool ok])), (fun u_ => u_ = (.tuple #[.agg (twoCs lv A B).toArray, .bool ok])), (fun u_ => u_ = (.agg (twoCs lv A B).toArray)), (fun u_ => u_ = (.bool ok)), (isPtr), (fun _ => True), (fun u_ => u_ = (.bool ok))] (AJ w [] [(g3_, objC (claimCs ib b (.slice ub pb.length cb)) 79), (g2_, objC (claimCs i a (.slice ua pa.length ca)) 79)] (rows2 pa.length pb.length (flat pa) (flat pb)) 16 17 5 82 (twoCs 0 zP zP) (twoCs lv A B)) (by kernel_rfl) (by kernel_rfl) rfl (HH.out.drew) ?_ ?_
      · refine eachD_cons ?_ (eachD_cons ?_ (eachD_cons ?_ (eachD_cons ?_ (eachD_cons ?_ (eachD_cons ?_ (eachD_cons ?_ (eachD_cons ?_ (eachD_cons ?_ (eachD_cons ?_ (eachD_cons ?_ (eachD_cons ?_ (eachD_cons ?_ (eachD_cons ?_ (eachD_cons ?_ (eachD_cons ?_ (eachD_cons ?_ (eachD_cons ?_ (eachD_cons ?_ (eachD_nil)))))))))))))))))))
        · intro li_ a_ w1 hc hi hJ hF hS
          have e2 : a_.eval (.tmp 2) = (.pointer (some ⟨g2_, 0, none⟩)) := (hF.2.2 2 (notDst_of (by kernel_rfl))).trans rfl
          refine wantD (by rfl) ?_
          exact opF_val rfl (ex_fieldAddr kF79_0 e2 w1) hJ rfl
        · intro li_ a_ w1 hc hi hJ hF hS
          have l0 : li_ 0 = true := (hS ⟨0, .data⟩ (by simp) rfl).1
          have e25 : a_.eval (.tmp 25) = (.pointer (some ⟨g2_, 0 + 0, none⟩)) := (hS ⟨0, .data⟩ (by simp) rfl).2 _ rfl
          refine wantD (by rfl) ?_
          exact opF_val rfl (ex_load1 kO3 hJ e25 (Own.opt (.there .here)) rfl) hJ rfl
        · intro li_ a_ w1 hc hi hJ hF hS
          have e2 : a_.eval (.tmp 2) = (.pointer (some ⟨g2_, 0, none⟩)) := (hF.2.2 2 (notDst_of (by kernel_rfl))).trans rfl
          refine wantD (by rfl) ?_
          exact opF_val rfl (ex_fieldAddr kF79_1 e2 w1) hJ rfl
        · intro li_ a_ w1 hc hi hJ hF hS
          have l2 : li_ 2 = true := (hS ⟨2, .data⟩ (by simp) rfl).1
          have e27 : a_.eval (.tmp 27) = (.pointer (some ⟨g2_, 0 + 1, none⟩)) := (hS ⟨2, .data⟩ (by simp) rfl).2 _ rfl
          refine wantD (by rfl) ?_
          exact opF_val rfl (ex_loadPart kA41 hJ e27 (Own.opt (.there .here)) (claim_leaf _ _ _) (Arr.len _)) hJ rfl
        · intro li_ a_ w1 hc hi hJ hF hS
          have e2 : a_.eval (.tmp 2) = (.pointer (some ⟨g2_, 0, none⟩)) := (hF.2.2 2 (notDst_of (by kernel_rfl))).trans rfl
          refine wantD (by rfl) ?_
          exact opF_val rfl (ex_fieldAddr kF79_2 e2 w1) hJ rfl
        · intro li_ a_ w1 hc hi hJ hF hS
          have l4 : li_ 4 = true := (hS ⟨4, .data⟩ (by simp) rfl).1
          have e29 : a_.eval (.tmp 29) = (.pointer (some ⟨g2_, 0 + 17, none⟩)) := (hS ⟨4, .data⟩ (by simp) rfl).2 _ rfl
          refine wantD (by rfl) ?_
          exact opF_val rfl (ex_load1 kO30 hJ e29 (Own.opt (.there .here)) (claim_path _ _ _)) hJ rfl
        · intro li_ a_ w1 hc hi hJ hF hS
          have l5 : li_ 5 = true := (hS ⟨5, .data⟩ (by simp) rfl).1
          have e30 : a_.eval (.tmp 30) = (.slice ua pa.length ca) := (hS ⟨5, .data⟩ (by simp) rfl).2 _ rfl
          refine wantD (by rfl) ?_
          exact opF_call kB49 rfl ((ownN_any w1 _ pa (by rw [e30]; exact Holds.sl hJ HPA.out) hna2).mono fun e w' ⟨a', c', he, hr, hb⟩ => ⟨_, he, AJ.addRowG (base := []) hJ (by show optR (li_ 11) _ (optR (li_ 6) _ []) = []; rw [hc.off (i := 6) (j := 11) (by kernel_rfl) hi, hi]; rfl) (by show optR (li_ 11) _ _ = _; rw [hc.off (i := 6) (j := 11) (by kernel_rfl) hi]; rfl) (by decide) (by decide) (by decide) hb hr, trivial⟩)
        · intro li_ a_ w1 hc hi hJ hF hS
          have e3 : a_.eval (.tmp 3) = (.pointer (some ⟨g3_, 0, none⟩)) := (hF.2.2 3 (notDst_of (by kernel_rfl))).trans rfl
          refine wantD (by rfl) ?_
          exact opF_val rfl (ex_fieldAddr kF79_1 e3 w1) hJ rfl
        · intro li_ a_ w1 hc hi hJ hF hS
          have l7 : li_ 7 = true := (hS ⟨7, .data⟩ (by simp) rfl).1
          have e32 : a_.eval (.tmp 32) = (.pointer (some ⟨g3_, 0 + 1, none⟩)) := (hS ⟨7, .data⟩ (by simp) rfl).2 _ rfl
          refine wantD (by rfl) ?_
          exact opF_val rfl (ex_loadPart kA41 hJ e32 (Own.opt .here) (claim_leaf _ _ _) (Arr.len _)) hJ rfl
        · intro li_ a_ w1 hc hi hJ hF hS
          have e3 : a_.eval (.tmp 3) = (.pointer (some ⟨g3_, 0, none⟩)) := (hF.2.2 3 (notDst_of (by kernel_rfl))).trans rfl
          refine wantD (by rfl) ?_
          exact opF_val rfl (ex_fieldAddr kF79_2 e3 w1) hJ rfl
        · intro li_ a_ w1 hc hi hJ hF hS
          have l9 : li_ 9 = true := (hS ⟨9, .data⟩ (by simp) rfl).1
          have e34 : a_.eval (.tmp 34) = (.pointer (some ⟨g3_, 0 + 17, none⟩)) := (hS ⟨9, .data⟩ (by simp) rfl).2 _ rfl
          refine wantD (by rfl) ?_
          exact opF_val rfl (ex_load1 kO30 hJ e34 (Own.opt .here) (claim_path _ _ _)) hJ rfl
        · intro li_ a_ w1 hc hi hJ hF hS
          have l10 : li_ 10 = true := (hS ⟨10, .data⟩ (by simp) rfl).1
          have l6 : li_ 6 = true := (hS ⟨6, .chain⟩ (by simp) rfl).1
          have e35 : a_.eval (.tmp 35) = (.slice ub pb.length cb) := (hS ⟨10, .data⟩ (by simp) rfl).2 _ rfl
          refine wantD (by rfl) ?_
          exact opF_call kB49 rfl ((ownN_any w1 _ pb (by rw [e35]; exact Holds.sl hJ HPB.out) hnb2).mono fun e w' ⟨a', c', he, hr, hb⟩ => ⟨_, he, AJ.addRowG (base := [⟨slF a_ 31, 34, 16, pa.length, flat pa⟩]) hJ (by show optR (li_ 11) _ (optR (li_ 6) _ []) = _; rw [hi, l6]; rfl) (by show optR true _ (optR (li_ 6) _ []) = _; rw [l6]; rfl) (by decide) (by decide) (by decide) hb hr, trivial⟩)
        · intro li_ a_ w1 hc hi hJ hF hS
          have l1 : li_ 1 = true := (hS ⟨1, .data⟩ (by simp) rfl).1
          have l3 : li_ 3 = true := (hS ⟨3, .data⟩ (by simp) rfl).1
          have l6 : li_ 6 = true := (hS ⟨6, .data⟩ (by simp) rfl).1
          have l8 : li_ 8 = true := (hS ⟨8, .data⟩ (by simp) rfl).1
          have l11 : li_ 11 = true := (hS ⟨11, .data⟩ (by simp) rfl).1
          have e26 : a_.eval (.tmp 26) = (.int .i64 i) := (hS ⟨1, .data⟩ (by simp) rfl).2 _ rfl
          have e28 : a_.eval (.tmp 28) = a.val := (hS ⟨3, .data⟩ (by simp) rfl).2 _ rfl
          have e33 : a_.eval (.tmp 33) = b.val := (hS ⟨8, .data⟩ (by simp) rfl).2 _ rfl
          refine wantD (by rfl) ?_
          exact opF_call (args := #[.int .i64 i, a.val, a_.eval (.tmp 31), b.val, a_.eval (.tmp 36)]) kB48 (by show #[a_.eval (.tmp 26), a_.eval (.tmp 28), a_.eval (.tmp 31), a_.eval (.tmp 33), a_.eval (.tmp 36)] = _; rw [e26, e28, e33]) ((HCO.out w1 _ _ (Holds.sl1 (rows := []) (show Holds w [] _ (⟨slF a_ 36, 34, 16, pb.length, flat pb⟩ :: ⟨slF a_ 31, 34, 16, pa.length, flat pa⟩ :: []) w1 from by have h := hJ; unfold AJ rows2 at h; rw [l11, l6] at h; exact h)) (Holds.sl0 (rows := [⟨slF a_ 31, 34, 16, pa.length, flat pa⟩]) (show Holds w [] _ (⟨slF a_ 36, 34, 16, pb.length, flat pb⟩ :: ⟨slF a_ 31, 34, 16, pa.length, flat pa⟩ :: []) w1 from by have h := hJ; unfold AJ rows2 at h; rw [l11, l6] at h; exact h))).mono fun e w' ⟨he, hb⟩ => ⟨_, he, AJ.grow hJ hb, by rw [HO.out, ← HOK.out]; rfl⟩)
        · intro li_ a_ w1 hc hi hJ hF hS
          have l12 : li_ 12 = true := (hS ⟨12, .data⟩ (by simp) rfl).1
          have e37 : a_.eval (.tmp 37) = (.tuple #[.agg (twoCs lv A B).toArray, .bool ok]) := (hS ⟨12, .data⟩ (by simp) rfl).2 _ rfl
          refine wantD (by rfl) ?_
          exact opF_val rfl (ex_move rfl w1) hJ e37
        · intro li_ a_ w1 hc hi hJ hF hS
          have l13 : li_ 13 = true := (hS ⟨13, .data⟩ (by simp) rfl).1
          have e24 : a_.eval (.tmp 24) = (.tuple #[.agg (twoCs lv A B).toArray, .bool ok]) := (hS ⟨13, .data⟩ (by simp) rfl).2 _ rfl
          refine wantD (by rfl) ?_
          exact opF_val rfl (ex_extract e24 rfl w1) hJ rfl
        · intro li_ a_ w1 hc hi hJ hF hS
          have l13 : li_ 13 = true := (hS ⟨13, .data⟩ (by simp) rfl).1
          have e24 : a_.eval (.tmp 24) = (.tuple #[.agg (twoCs lv A B).toArray, .bool ok]) := (hS ⟨13, .data⟩ (by simp) rfl).2 _ rfl
          refine wantD (by rfl) ?_
          exact opF_val rfl (ex_extract e24 rfl w1) hJ rfl
        · intro li_ a_ w1 hc hi hJ hF hS
          refine wantD (by rfl) ?_
          exact aj_alloc kZ82b hJ hi (hc.off (j := 17) (by kernel_rfl) hi) (by decide) (fun _ => rfl)
        · intro li_ a_ w1 hc hi hJ hF hS
          have l16 : li_ 16 = true := (hS ⟨16, .data⟩ (by simp) rfl).1
          have l14 : li_ 14 = true := (hS ⟨14, .data⟩ (by simp) rfl).1
          have l12 : li_ 12 = true := (hS ⟨12, .chain⟩ (by simp) rfl).1
          have l0 : li_ 0 = true := (hS ⟨0, .phase⟩ (by simp) rfl).1
          have l1 : li_ 1 = true := (hS ⟨1, .phase⟩ (by simp) rfl).1
          have l2 : li_ 2 = true := (hS ⟨2, .phase⟩ (by simp) rfl).1
          have l3 : li_ 3 = true := (hS ⟨3, .phase⟩ (by simp) rfl).1
          have l4 : li_ 4 = true := (hS ⟨4, .phase⟩ (by simp) rfl).1
          have l5 : li_ 5 = true := (hS ⟨5, .phase⟩ (by simp) rfl).1
          have l6 : li_ 6 = true := (hS ⟨6, .phase⟩ (by simp) rfl).1
          have l7 : li_ 7 = true := (hS ⟨7, .phase⟩ (by simp) rfl).1
          have l8 : li_ 8 = true := (hS ⟨8, .phase⟩ (by simp) rfl).1
          have l9 : li_ 9 = true := (hS ⟨9, .phase⟩ (by simp) rfl).1
          have l10 : li_ 10 = true := (hS ⟨10, .phase⟩ (by simp) rfl).1
          have l11 : li_ 11 = true := (hS ⟨11, .phase⟩ (by simp) rfl).1
          have l13 : li_ 13 = true := (hS ⟨13, .phase⟩ (by simp) rfl).1
          have e5 : (isPtr) (a_.eval (.tmp 5)) := (hS ⟨16, .data⟩ (by simp) rfl).2 _ rfl
          have e38 : a_.eval (.tmp 38) = (.agg (twoCs lv A B).toArray) := (hS ⟨14, .data⟩ (by simp) rfl).2 _ rfl
          refine wantD (by rfl) ?_
          exact aj_store kS82 (two_len _ _ _) (two_len _ _ _) (two_one _ _ _) hJ l16 hi (by decide) e5 e38 rfl
        · intro li_ a_ w1 hc hi hJ hF hS
          have l15 : li_ 15 = true := (hS ⟨15, .data⟩ (by simp) rfl).1
          have l17 : li_ 17 = true := (hS ⟨17, .chain⟩ (by simp) rfl).1
          have l0 : li_ 0 = true := (hS ⟨0, .phase⟩ (by simp) rfl).1
          have l1 : li_ 1 = true := (hS ⟨1, .phase⟩ (by simp) rfl).1
          have l2 : li_ 2 = true := (hS ⟨2, .phase⟩ (by simp) rfl).1
          have l3 : li_ 3 = true := (hS ⟨3, .phase⟩ (by simp) rfl).1
          have l4 : li_ 4 = true := (hS ⟨4, .phase⟩ (by simp) rfl).1
          have l5 : li_ 5 = true := (hS ⟨5, .phase⟩ (by simp) rfl).1
          have l6 : li_ 6 = true := (hS ⟨6, .phase⟩ (by simp) rfl).1
          have l7 : li_ 7 = true := (hS ⟨7, .phase⟩ (by simp) rfl).1
          have l8 : li_ 8 = true := (hS ⟨8, .phase⟩ (by simp) rfl).1
          have l9 : li_ 9 = true := (hS ⟨9, .phase⟩ (by simp) rfl).1
          have l10 : li_ 10 = true := (hS ⟨10, .phase⟩ (by simp) rfl).1
          have l11 : li_ 11 = true := (hS ⟨11, .phase⟩ (by simp) rfl).1
          have l12 : li_ 12 = true := (hS ⟨12, .phase⟩ (by simp) rfl).1
          have l13 : li_ 13 = true := (hS ⟨13, .phase⟩ (by simp) rfl).1
          have l14 : li_ 14 = true := (hS ⟨14, .phase⟩ (by simp) rfl).1
          have l16 : li_ 16 = true := (hS ⟨16, .phase⟩ (by simp) rfl).1
          have e39 : a_.eval (.tmp 39) = (.bool ok) := (hS ⟨15, .data⟩ (by simp) rfl).2 _ rfl
          refine wantD (by rfl) ?_
          exact opF_val rfl (ex_assign rfl w1) hJ e39
      intro v0_ h0_ v1_ h1_ v2_ h2_ v3_ h3_ v4_ h4_ v5_ h5_ v6_ h6_ v7_ h7_ v8_ h8_ v9_ h9_ v10_ h10_ v11_ h11_ v12_ h12_ v13_ h13_ v14_ h14_ v15_ h15_ v16_ h16_ v17_ h17_ v18_ h18_
      intro wq hq_
      have q_ : v0_ = (.pointer (some ⟨g2_, 0 + 0, none⟩)) := h0_; clear h0_; subst q_
      have q_ : v1_ = (.int .i64 i) := h1_; clear h1_; subst q_
      have q_ : v2_ = (.pointer (some ⟨g2_, 0 + 1, none⟩)) := h2_; clear h2_; subst q_
      have q_ : v3_ = a.val := h3_; clear h3_; subst q_
      have q_ : v4_ = (.pointer (some ⟨g2_, 0 + 17, none⟩)) := h4_; clear h4_; subst q_
      have q_ : v5_ = (.slice ua pa.length ca) := h5_; clear h5_; subst q_
      clear h6_
      have q_ : v7_ = (.pointer (some ⟨g3_, 0 + 1, none⟩)) := h7_; clear h7_; subst q_
      have q_ : v8_ = b.val := h8_; clear h8_; subst q_
      have q_ : v9_ = (.pointer (some ⟨g3_, 0 + 17, none⟩)) := h9_; clear h9_; subst q_
      have q_ : v10_ = (.slice ub pb.length cb) := h10_; clear h10_; subst q_
      clear h11_
      have q_ : v12_ = (.tuple #[.agg (twoCs lv A B).toArray, .bool ok]) := h12_; clear h12_; subst q_
      have q_ : v13_ = (.tuple #[.agg (twoCs lv A B).toArray, .bool ok]) := h13_; clear h13_; subst q_
      have q_ : v14_ = (.agg (twoCs lv A B).toArray) := h14_; clear h14_; subst q_
      have q_ : v15_ = (.bool ok) := h15_; clear h15_; subst q_
      obtain ⟨g5_, rfl⟩ := h16_
      clear h17_
      have q_ : v18_ = (.bool ok) := h18_; clear h18_; subst q_
      have HQ := hid hq_; clear hq_
      simp only [putsD, Act.put, List.setIfInBounds_toArray, List.set_cons_succ, List.set_cons_zero]
      have hq2_ : Holds w [] [(g5_, objC (twoCs lv A B) 82), (g3_, objC (claimCs ib b (.slice ub pb.length cb)) 79), (g2_, objC (claimCs i a (.slice ua pa.length ca)) 79)] [] wq := Holds.dropRow (Holds.dropRow HQ.out)
      clear HH HQ
      have HH := hid hq2_
      clear hq2_
      go_wp2_with (first
        | ((first
            | ((with_reducible apply wpL_skip); rfl; skip)
            | ((with_reducible apply wpL_load1 (dst := some 46) (t := 30) (v := .slice ua pa.length ca) kO30 HH.out); rfl; (exact .there (.there .here)); (exact claim_path _ _ _); rfl)
            | ((with_reducible apply wpL_load1 (dst := some 50) (t := 30) (v := .slice ub pb.length cb) kO30 HH.out); rfl; (exact .there .here); (exact claim_path _ _ _); rfl)
            | ((with_reducible apply wpL_loadPA (dst := some 44) (t := 41) (v := a) kA41 HH.out); rfl; (exact .there (.there .here)); (exact claim_leaf _ _ _); rfl)
            | ((with_reducible apply wpL_loadPA (dst := some 48) (t := 41) (v := b) kA41 HH.out); rfl; (exact .there .here); (exact claim_leaf _ _ _); rfl)
            | (go_at_call 50; (have hcall_ := hid (HCR.out _ (.slice ua pa.length ca) (.slice ub pb.length cb) (HH.out.sl HPA.out) (HH.out.sl HPB.out))); (with_reducible refine hcall_.out.mono ?_); clear hcall_; rw [HO.out]; rintro e_ w2_ ⟨rfl, hb_⟩; (have hq_ := HH.out.grow hb_); clear HH; have HH := hid hq_; clear hq_ hb_; simp only [HOK.out])
            | ((with_reducible apply wpL_allocC (dst := some 7) (zs := twoCs 0 zP zP) kZ87b HH.out); rfl; (intro g7_ w_ hq_; clear HH; have HH := hid hq_; clear hq_))
            | ((with_reducible apply wpL_storeC (t := 87) (vs := twoCs lv A B)); rfl; rfl; (exact kS87); (exact HH.out); (exact .here); (exact two_len _ _ _); (exact two_one _ _ _); (exact two_len _ _ _); rfl; (intro w_ hq_; clear HH; have HH := hid hq_; clear hq_))
            | ((with_reducible apply wpL_nilCheck); rfl; rfl)
            | ((with_reducible apply wpL_fieldAddr); (first | exact kF79_0 | exact kF79_1 | exact kF79_2 | exact kF82_0 | exact kF82_1 | exact kF82_2 | exact kF87_0 | exact kF87_1 | exact kF87_2); rfl; rfl)
            | ((with_reducible apply wpL_load1 (t := 3) kO3 HH.out); rfl; (first | exact .here | exact .there .here | exact .there (.there .here) | exact .there (.there (.there .here)) | exact .there (.there (.there (.there .here))) | exact .there (.there (.there (.there (.there .here)))) | exact .there (.there (.there (.there (.there (.there .here))))) | exact .there (.there (.there (.there (.there (.there (.there .here))))))); rfl; rfl)
            | ((with_reducible apply wpL_load1 (t := 30) kO30 HH.out); rfl; (first | exact .here | exact .there .here | exact .there (.there .here) | exact .there (.there (.there .here)) | exact .there (.there (.there (.there .here))) | exact .there (.there (.there (.there (.there .here)))) | exact .there (.there (.there (.there (.there (.there .here))))) | exact .there (.there (.there (.there (.there (.there (.there .here))))))); rfl; rfl)
            | ((with_reducible apply wpL_loadArr (t := 41) kA41 HH.out); rfl; (first | exact .here | exact .there .here | exact .there (.there .here) | exact .there (.there (.there .here)) | exact .there (.there (.there (.there .here))) | exact .there (.there (.there (.there (.there .here)))) | exact .there (.there (.there (.there (.there (.there .here))))) | exact .there (.there (.there (.there (.there (.there (.there .here))))))); rfl)
            | ((with_reducible apply wpL_loadC (t := 41) kA41 HH.out); rfl; (first | exact .here | exact .there .here | exact .there (.there .here) | exact .there (.there (.there .here)) | exact .there (.there (.there (.there .here))) | exact .there (.there (.there (.there (.there .here)))) | exact .there (.there (.there (.there (.there (.there .here))))) | exact .there (.there (.there (.there (.there (.there (.there .here))))))); (first | rfl | exact Arr.len _ | (simp; done)); rfl)
            | ((with_reducible apply wpL_len (t := 30) Try.underlying30); rfl; rfl)
            | ((with_reducible apply wpL_boxC (dst := some 2)); rfl; (exact HH.out); rfl; (intro g2_ w_ hq_; (try simp only [List.set_cons_zero, List.set_cons_succ] at hq_); clear HH; have HH := hid hq_; clear hq_))
            | ((with_reducible apply wpL_boxC (dst := some 3)); rfl; (exact HH.out); rfl; (intro g3_ w_ hq_; (try simp only [List.set_cons_zero, List.set_cons_succ] at hq_); clear HH; have HH := hid hq_; clear hq_))
            | ((with_reducible apply wpL_allocC (dst := some 5) kZ82 HH.out); rfl; (intro g5_ w_ hq_; (try simp only [List.set_cons_zero, List.set_cons_succ] at hq_); clear HH; have HH := hid hq_; clear hq_))
            | ((with_reducible apply wpL_allocC (dst := some 7) kZ87 HH.out); rfl; (intro g7_ w_ hq_; (try simp only [List.set_cons_zero, List.set_cons_succ] at hq_); clear HH; have HH := hid hq_; clear hq_))
            | ((with_reducible apply wpL_storeC (t := 82)); rfl; rfl; (exact kS82); (exact HH.out); (first | exact .here | exact .there .here | exact .there (.there .here) | exact .there (.there (.there .here)) | exact .there (.there (.there (.there .here))) | exact .there (.there (.there (.there (.there .here)))) | exact .there (.there (.there (.there (.there (.there .here))))) | exact .there (.there (.there (.there (.there (.there (.there .here))))))); (first | rfl | exact Arr.len _ | (simp; done)); (first | rfl | (intro u_ hu_; simp only [List.mem_cons, List.not_mem_nil, or_false] at hu_; rcases hu_ with rfl | hu_; rfl) | exact byt_cell1 _ | exact cells_one _ | exact wrd_one _ | exact flat_cell1 _); (first | rfl | exact Arr.len _ | (simp; done)); rfl; (intro w_ hq_; (try simp only [List.set_cons_zero, List.set_cons_succ] at hq_); clear HH; have HH := hid hq_; clear hq_))
            | ((with_reducible apply wpL_storeC (t := 87)); rfl; rfl; (exact kS87); (exact HH.out); (first | exact .here | exact .there .here | exact .there (.there .here) | exact .there (.there (.there .here)) | exact .there (.there (.there (.there .here))) | exact .there (.there (.there (.there (.there .here)))) | exact .there (.there (.there (.there (.there (.there .here))))) | exact .there (.there (.there (.there (.there (.there (.there .here))))))); (first | rfl | exact Arr.len _ | (simp; done)); (first | rfl | (intro u_ hu_; simp only [List.mem_cons, List.not_mem_nil, or_false] at hu_; rcases hu_ with rfl | hu_; rfl) | exact byt_cell1 _ | exact cells_one _ | exact wrd_one _ | exact flat_cell1 _); (first | rfl | exact Arr.len _ | (simp; done)); rfl; (intro w_ hq_; (try simp only [List.set_cons_zero, List.set_cons_succ] at hq_); clear HH; have HH := hid hq_; clear hq_))
            | ((with_reducible apply wpL_move); rfl; rfl)
            | ((with_reducible apply wpL_assign); rfl; rfl)
            | ((with_reducible apply wpL_pick); rfl; rfl; rfl)
            | ((with_reducible apply wpL_not); rfl; rfl)
            | ((with_reducible apply wpL_cmp (b := true)); rfl; rfl; rfl; (first | rfl | assumption | (simp only [cmpB, decide_eq_true_eq, decide_eq_false_iff_not, beq_iff_eq, bne_iff_ne, ne_eq, beq_eq_false_iff_ne, bne_eq_false_iff_eq, gt_iff_lt, ge_iff_le]; omega) | (simp; omega)); rfl)
            | ((with_reducible apply wpL_cmp (b := false)); rfl; rfl; rfl; (first | rfl | assumption | (simp only [cmpB, decide_eq_true_eq, decide_eq_false_iff_not, beq_iff_eq, bne_iff_ne, ne_eq, beq_eq_false_iff_ne, bne_eq_false_iff_eq, gt_iff_lt, ge_iff_le]; omega) | (simp; omega)); rfl)
            | ((with_reducible apply wpL_cmp); rfl; rfl; rfl; rfl; rfl)
            | ((with_reducible apply wpL_arith); rfl; rfl; rfl; (exact IntWalk.i64_in _ (by (try simp only [arithI]); omega)); rfl)); (try simp only [arithI, Act.put, Act.eval, List.setIfInBounds_toArray, List.set_cons_succ, List.set_cons_zero, Array.getD_eq_getD_getElem?, List.getElem?_toArray, List.getElem?_cons_succ, List.getElem?_cons_zero, Option.getD_some])))
      refine wp_region_holds (by kernel_rfl) (by kernel_rfl) HH.out ?_
      repeat ((first
        | ((with_reducible apply wpQ_skip); rfl; skip)
        | ((with_reducible apply wpQ_eqBool (b := ok) (c := ok) (r := true) Try.underlying4); rfl; rfl; (exact (by simp)); rfl)
        | ((with_reducible apply wpQ_cmp (op := .eql) (p := lv) (q := lv) (b := true)); rfl; rfl; rfl; (exact (by simp [cmpB])); rfl)
        | ((with_reducible apply wpQ_sliceArrJ (dst := some 66) Try.underlying80 kS34); rfl; rfl)
        | ((with_reducible apply wpQ_sliceArrJ (dst := some 73) Try.underlying80 kS34); rfl; rfl)
        | ((with_reducible apply wpQ_sliceArrJ (dst := some 68) Try.underlying73 kS41); rfl; rfl)
        | ((with_reducible apply wpQ_sliceArrJ (dst := some 75) Try.underlying73 kS41); rfl; rfl)
        | ((with_reducible apply wpQ_call (dst := some 69) (v := .bool true) (args := #[.slice (some ⟨g5_, 0 + 1, none⟩) 2 2, .slice (some ⟨g7_, 0 + 1, none⟩) 2 2]) kB28); rfl; (intro wq hwq; exact (sameN_any wq _ _ [a1, a2] [a1, a2] (arrs_two hwq (.there .here) HA.out) (arrs_two hwq .here HA.out) (by simp) (by simp)).mono fun e w' ⟨he, hb⟩ => ⟨by rw [he, ndsRefl], hwq.grow hb⟩); rfl)
        | ((with_reducible apply wpQ_call (dst := some 76) (v := .bool true) (args := #[.slice (some ⟨g5_, 0 + 33, none⟩) 2 2, .slice (some ⟨g7_, 0 + 33, none⟩) 2 2]) kB28); rfl; (intro wq hwq; exact (sameN_any wq _ _ [b1, b2] [b1, b2] (arrs_two hwq (.there .here) HB.out) (arrs_two hwq .here HB.out) (by simp) (by simp)).mono fun e w' ⟨he, hb⟩ => ⟨by rw [he, ndsRefl], hwq.grow hb⟩); rfl)
        | ((with_reducible apply wpQ_nilCheck); rfl; rfl)
        | ((with_reducible apply wpQ_fieldAddr); (first | exact kF79_0 | exact kF79_1 | exact kF79_2 | exact kF82_0 | exact kF82_1 | exact kF82_2 | exact kF87_0 | exact kF87_1 | exact kF87_2); rfl; rfl)
        | ((with_reducible apply wpQ_load1 (t := 3) kO3); rfl; (first | exact .here | exact .there .here | exact .there (.there .here) | exact .there (.there (.there .here)) | exact .there (.there (.there (.there .here))) | exact .there (.there (.there (.there (.there .here)))) | exact .there (.there (.there (.there (.there (.there .here))))) | exact .there (.there (.there (.there (.there (.there (.there .here))))))); rfl; rfl)
        | ((with_reducible apply wpQ_load1 (t := 30) kO30); rfl; (first | exact .here | exact .there .here | exact .there (.there .here) | exact .there (.there (.there .here)) | exact .there (.there (.there (.there .here))) | exact .there (.there (.there (.there (.there .here)))) | exact .there (.there (.there (.there (.there (.there .here))))) | exact .there (.there (.there (.there (.there (.there (.there .here))))))); rfl; rfl)
        | ((with_reducible apply wpQ_loadArr (t := 41) kA41); rfl; (first | exact .here | exact .there .here | exact .there (.there .here) | exact .there (.there (.there .here)) | exact .there (.there (.there (.there .here))) | exact .there (.there (.there (.there (.there .here)))) | exact .there (.there (.there (.there (.there (.there .here))))) | exact .there (.there (.there (.there (.there (.there (.there .here))))))); rfl)
        | ((with_reducible apply wpQ_loadC (t := 41) kA41); rfl; (first | exact .here | exact .there .here | exact .there (.there .here) | exact .there (.there (.there .here)) | exact .there (.there (.there (.there .here))) | exact .there (.there (.there (.there (.there .here)))) | exact .there (.there (.there (.there (.there (.there .here))))) | exact .there (.there (.there (.there (.there (.there (.there .here))))))); (first | rfl | exact Arr.len _ | (simp; done)); rfl)
        | ((with_reducible apply wpQ_len (t := 30) Try.underlying30); rfl; rfl)
        | ((with_reducible apply wpQ_move); rfl; rfl)
        | ((with_reducible apply wpQ_assign); rfl; rfl)
        | ((with_reducible apply wpQ_pick); rfl; rfl; rfl)
        | ((with_reducible apply wpQ_not); rfl; rfl)
        | ((with_reducible apply wpQ_cmp (b := true)); rfl; rfl; rfl; (first | rfl | assumption | (simp only [cmpB, decide_eq_true_eq, decide_eq_false_iff_not, beq_iff_eq, bne_iff_ne, ne_eq, beq_eq_false_iff_ne, bne_eq_false_iff_eq, gt_iff_lt, ge_iff_le]; omega) | (simp; omega)); rfl)
        | ((with_reducible apply wpQ_cmp (b := false)); rfl; rfl; rfl; (first | rfl | assumption | (simp only [cmpB, decide_eq_true_eq, decide_eq_false_iff_not, beq_iff_eq, bne_iff_ne, ne_eq, beq_eq_false_iff_ne, bne_eq_false_iff_eq, gt_iff_lt, ge_iff_le]; omega) | (simp; omega)); rfl)
        | ((with_reducible apply wpQ_cmp); rfl; rfl; rfl; rfl; rfl)
        | ((with_reducible apply wpQ_arith); rfl; rfl; rfl; (exact IntWalk.i64_in _ (by (try simp only [arithI]); omega)); rfl)); (try simp only [if_true, if_false, Bool.false_eq_true, arithI, Act.put, Act.eval, List.setIfInBounds_toArray, List.set_cons_succ, List.set_cons_zero, Array.getD_eq_getD_getElem?, List.getElem?_toArray, List.getElem?_cons_succ, List.getElem?_cons_zero, Option.getD_some]))
      refine wpQuiet_nil ?_
      intro wq hq_
      have HQ := hid hq_
      clear hq_
      go_wp2
      go_ret
      exact RetB.mk rfl HQ.out.below
end Go.Proofs.Ytgkfopodhikckaa

namespace Go.Proofs.Ytgkfopodhikckaa
open Go.ChangeShapes Go.WideShapes Go.ChangeAt Go.RowKit
set_option maxRecDepth 100000 in
theorem merkleCollision_lifted (os : Os) (started : os.Started) (H : Type) (enc : TypeId × Value → H) :
    ReturnsInHanded {} Try.checked os 14 .any (Rows.merkleCollisionSpec.pre6 enc Try.prog Try.f14 Rows.merkleCollisionRow.domain false) (Rows.merkleCollisionSpec.post enc Try.prog Try.f14 false true false false) := by
  refine returnsInHanded_of_change_sized (C := Try.checked) Try.own started (by kernel_rfl) Try.func14
    (ChangeSpec.witness6 (enc := enc) (C := Try.checked) false ⟨#[], #[.agg (claimCs 0 (Arr.zero 16) (.slice none 0 0)).toArray, .agg (claimCs 0 (Arr.zero 16) (.slice none 0 0)).toArray], []⟩ 8 (by kernel_rfl) (by kernel_rfl) (by kernel_rfl) (by kernel_rfl)) ?_
  intro W base args ds gs before hval0 hW _ hsz0 _
  have hsz : (DataW.weightsEach Try.prog (Try.f14.params.toList ++ Rows.merkleCollisionSpec.plain.varTypes Try.prog) (ds ++ gs)).all (· ≤ reachBytes) = true := hsz0
  have hval : ∀ (j : Nat) t v, Try.f14.params[j]? = some t → args[j]? = some v → Value.okWide Try.prog W .any base t v := hval0
  have hW' := hW
  obtain ⟨p, q, hA0, hV, rfl, _, _⟩ := hW
  have hA : DataW.TrodAll enc Try.prog W 0 (fun _ => true) true Try.f14.params.toList args.toList ds p := hA0
  rw [Try.params14] at hA hval hsz
  obtain ⟨v0, v1, d0, d1, p0, p1, rfl, rfl, rfl, h0, h1⟩ := trodAll_two hA
  obtain ⟨rfl, rfl⟩ := trodVars_none hV
  obtain ⟨ai, ax, av, ap, aw, ah, rfl⟩ := open_claim (hval 0 79 v0 rfl rfl) h0
  obtain ⟨bi, bx, bv, bp, bw, bh, rfl⟩ := open_claim (hval 1 79 v1 rfl rfl) h1
  refine (law_coll W ai bi ax bx av bv ap bp ah bh).mono fun e W' ⟨he, hb⟩ => ?_
  exact ⟨_, he, post_true (tb := 4) Try.laidOut (readable_of (by kernel_rfl)) (by kernel_rfl) Try.underlying4 hW' rfl rfl hb⟩
theorem MerkleCollision_holds : Rows.MerkleCollisionSaid :=
  OpenClaim.holds_of_wide 14 Try.f14 rfl rfl rfl rfl rfl rfl rfl ⟨rfl, rfl, rfl, rfl, rfl⟩ rfl rfl rfl rfl rfl (by kernel_rfl) Try.func14 (by kernel_rfl)
    (of_decide_eq_true (by kernel_rfl)) (by unfold Func.isWrapper; rw [if_neg (by decide +kernel)]; exact ⟨rfl, rfl⟩)
    (fun os started H enc _ => merkleCollision_lifted os started H enc)
end Go.Proofs.Ytgkfopodhikckaa

