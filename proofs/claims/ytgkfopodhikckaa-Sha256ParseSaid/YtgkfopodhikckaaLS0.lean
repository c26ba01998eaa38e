/- From the walks of the laws to their rows: what is alike. No condition. -/
import Derived.Test.YtgkfopodhikckaaRows
import Derived.Test.YtgkfopodhikckaaF
import Derived.Test.YtgkfopodhikckaaK
import Derived.Test.YtgkfopodhikckaaH10
import Derived.Deep.Matrix
import Derived.ChangeMaps5
set_option linter.unusedSimpArgs false
set_option linter.unusedVariables false
namespace Go.Proofs.Ytgkfopodhikckaa
open Go.ChangeShapes Go.WideShapes Go.ChangeAt Go.RowKit
theorem Try.own : ownKnob Try.prog.godebug = none := by kernel_rfl
theorem Try.laidOut : laidOutB Try.prog = true := by kernel_rfl
theorem cells5 : Try.prog.cellsOf 5 = 1 := by kernel_rfl
theorem bytes5 : Try.prog.bytesOf 5 = 1 := by kernel_rfl
theorem readable_of {ts : List TypeId} (h : (ts.all fun t => Try.prog.readableRec t && decide (t < Try.prog.types.size)) = true) : ∀ t ∈ ts, Try.prog.readableRec t = true ∧ t < Try.prog.types.size := by
  intro t ht
  have := List.all_eq_true.1 h t ht
  simpa using this
theorem open_bslice {H : Type} {enc : TypeId × Value → H} {P : Program} {W : World} {ts e : TypeId} {base : Nat} {fuel : Nat} {v : Value} {x : DataW H × List MemPlace} (hs : P.underlying ts = some (.slice e)) (he : P.underlying e = some (.int .u8))
    (hc1 : P.cellsOf e = 1) (hv : ∃ a len cap, v = .slice a len cap) (h : DataW.trod enc P W base (fun _ => true) true fuel ts v.cells.toList = some x) :
    ∃ l : List UInt8, Sl W v 1 l.length (l.map byt) ∧ (l = [] ∨ ∃ elems spare, x.1 = .slice elems spare ∧ elems.length = l.length) := by
  obtain ⟨ao, len, cap, rfl⟩ := hv
  rcases Deep.open_slice hs h with ⟨hcs, _⟩ | ⟨a, len', cap', m, fu, D, Pl, hcs, _, hle, _, hm, rfl, hx⟩
  · simp [Value.cells] at hcs
    obtain ⟨rfl, rfl, rfl⟩ := hcs
    exact ⟨[], Sl.nil W 1, .inl rfl⟩
  · simp [Value.cells] at hcs
    obtain ⟨rfl, rfl, rfl⟩ := hcs
    simp only [if_true] at hm
    subst hm
    have key : ∀ i, i < len → ∃ b : UInt8, W.cell? (a.add i) = some (byt b) := by
      intro i hi
      obtain ⟨cs', h1, h2⟩ := hx i (by omega)
      obtain ⟨z, hz, _, hw⟩ := DataW.trod_int he h2
      have h0 : (0 : Int) ≤ z ∧ z ≤ 255 := by
        have e1 : IntKind.u8.min = 0 := rfl
        have e2 : IntKind.u8.max = 255 := rfl
        simp only [Lit.wf, Bool.and_eq_true, decide_eq_true_eq] at hw
        omega
      obtain ⟨_, _, h3⟩ := World.cells?_some h1
      rw [hc1, Nat.mul_one] at h3
      have h4 := h3 0 (by omega)
      rw [Deep.add_add, Nat.add_zero, hz] at h4
      refine ⟨UInt8.ofNat z.toNat, ?_⟩
      rw [h4]
      simp only [byt, UInt8.toNat_ofNat', List.getElem?_cons_zero, Option.some.injEq, Value.int.injEq, true_and]
      omega
    obtain ⟨g, hg⟩ := Deep.choose_lt key
    refine ⟨(List.range len).map g, ?_, .inr ⟨_, _, rfl, by simp⟩⟩
    refine ⟨some a, _, by rw [List.length_map, List.length_range], by simpa using hle, by simp, fun j u hu => ⟨a, rfl, ?_⟩⟩
    have hj : j < len := by have := (List.getElem?_eq_some_iff.1 hu).1; simpa using this
    rw [hg j hj, ← hu]
    simp [hj]
set_option maxRecDepth 100000 in
/-- An argument of type []byte. -/
theorem open_bytes22 {H : Type} {enc : TypeId × Value → H} {W : World} {base : Nat} {ts : List TypeId} {ds : List (DataW H)} {j : Nat} {v : Value} {d : DataW H} {p : List MemPlace} (hval : Value.okWide Try.prog W .any base 22 v)
    (h : DataW.Trod enc Try.prog W 0 (fun _ => true) true 22 v d p) (hsz : (DataW.weightsEach Try.prog ts ds).all (· ≤ reachBytes) = true) (ht : ts[j]? = some 22) (hd : ds[j]? = some d) :
    ∃ l : List UInt8, Byts W v l ∧ l.length ≤ 140737488351232 := by
  obtain ⟨fuel, hf⟩ := h
  obtain ⟨l, hl, hlen⟩ := open_bslice Try.underlying22 Try.underlying5 cells5 (okWide_slice Try.underlying22 hval) hf
  refine ⟨l, hl, ?_⟩
  rcases hlen with rfl | ⟨elems, spare, e, he⟩
  · simp
  · simp only at e
    subst e
    have := sized_slice hsz ht hd Try.underlying22
    rw [bytes5, he] at this
    unfold reachBytes at this
    have h2 : l.length * 1 ≤ (l.length + spare.length) * 1 := Nat.mul_le_mul_right _ (Nat.le_add_right _ _)
    omega
set_option maxRecDepth 100000 in
/-- An argument that is an array of bytes. -/
theorem open_arrA {H : Type} {enc : TypeId × Value → H} {W : World} {base : Nat} {n : Nat} {t : TypeId} {v : Value} {d : DataW H} {p : List MemPlace} (ht : Try.prog.underlying t = some (.array n 5)) (hc : Try.prog.cellsOf t = n) (hval : Value.okWide Try.prog W .any base t v)
    (h : DataW.Trod enc Try.prog W 0 (fun _ => true) true t v d p) : ∃ x : Arr n, v = x.val := by
  obtain ⟨fuel, hf⟩ := h
  obtain ⟨x, hx⟩ := open_bytes ht Try.underlying5 hc cells5 hf
  simp only [Value.okWide, ht] at hval
  obtain ⟨cs, rfl, _⟩ := hval
  refine ⟨x, ?_⟩
  simp only [Value.cells] at hx
  unfold Arr.val
  rw [← hx, Array.toArray_toList]
set_option maxRecDepth 100000 in
/-- An argument of type [][]byte. -/
theorem open_pcs {H : Type} {enc : TypeId × Value → H} {W : World} {base : Nat} {v : Value} {d : DataW H} {p : List MemPlace} (hval : Value.okWide Try.prog W .any base 62 v)
    (h : DataW.Trod enc Try.prog W 0 (fun _ => true) true 62 v d p) : ∃ ls : List (List UInt8), Pcs W v ls := by
  obtain ⟨fuel, hf⟩ := h
  obtain ⟨ao, n, c, rfl⟩ := okWide_slice Try.underlying62 hval
  rcases Deep.open_int_rows Try.underlying62 Try.underlying22 Try.underlying5 (by kernel_rfl) cells5 hf with ⟨hcs, _⟩ | ⟨a, len, cap, A, L, C, Z, hcs, _, hle, _, _, hr⟩
  · simp [Value.cells] at hcs
    obtain ⟨rfl, rfl, rfl⟩ := hcs
    exact ⟨[], [], Sl.nil W 1, fun i hi => by simp at hi⟩
  · simp [Value.cells] at hcs
    obtain ⟨rfl, rfl, rfl⟩ := hcs
    have key : ∀ r, r < n → ∃ l : List UInt8, l.length = L r ∧ Byts W (.slice (A r) (L r) (C r)) l := by
      intro r hlt
      obtain ⟨_, h2, _, h4, h5, h6, h7⟩ := hr r (by omega)
      refine ⟨((Z r).take (L r)).map fun z => UInt8.ofNat z.toNat, by simp; omega, _, _, by rw [show (((Z r).take (L r)).map fun z => UInt8.ofNat z.toNat).length = L r by simp; omega], by simp; omega, by simp, fun j u hu => ?_⟩
      have hj : j < L r := by have := (List.getElem?_eq_some_iff.1 hu).1; simp at this; omega
      cases hA : A r with
      | none => have := h6 hA; omega
      | some a' =>
        refine ⟨a', rfl, ?_⟩
        rw [(h7 a' hA).2 j (by omega), ← hu]
        have hz : j < (Z r).length := by omega
        have hw := h5 _ (List.getElem_mem hz)
        have h0 : (0 : Int) ≤ (Z r)[j] ∧ (Z r)[j] ≤ 255 := by
          have e1 : IntKind.u8.min = 0 := rfl
          have e2 : IntKind.u8.max = 255 := rfl
          simp only [Lit.wf, Bool.and_eq_true, decide_eq_true_eq] at hw
          omega
        simp only [List.getElem?_map, List.getElem?_take, if_pos hj, List.getElem?_eq_getElem hz, Option.map_some, List.getD_eq_getElem?_getD, Option.getD_some, byt, UInt8.toNat_ofNat', Option.some.injEq, Value.int.injEq, true_and]
        omega
    have : Inhabited (List UInt8) := ⟨[]⟩
    obtain ⟨g, hg⟩ := Deep.choose_lt key
    refine ⟨(List.range n).map g, (List.range n).map fun r => .slice (A r) (L r) (C r), ⟨some a, c, by simp, by simpa using hle, by simp, fun j u hu => ⟨a, rfl, ?_⟩⟩, fun i hi => ?_⟩
    · have hj : j < n := by have := (List.getElem?_eq_some_iff.1 hu).1; simpa using this
      rw [(hr j (by omega)).1, ← hu]
      simp [hj]
    · have hi' : i < n := by simpa using hi
      refine ⟨.slice (A i) (L i) (C i), by simp [hi'], ?_⟩
      have := (hg i hi').2
      have e : ((List.range n).map g).getD i [] = g i := by simp [List.getD, hi']
      rw [e]
      exact this
/-- An argument that is a byte. -/
theorem byte_of {c : Int} (h : (Lit.int .u8 c).wf = true) : Value.int .u8 c = byt (UInt8.ofNat c.toNat) := by
  have e1 : IntKind.u8.min = 0 := rfl
  have e2 : IntKind.u8.max = 255 := rfl
  simp only [Lit.wf, Bool.and_eq_true, decide_eq_true_eq] at h
  simp only [byt, UInt8.toNat_ofNat', Value.int.injEq, true_and]
  omega
theorem str_of (s : ByteArray) : Value.string s = str s.data.toList := by
  show Value.string s = .string ⟨s.data.toList.toArray⟩
  simp
end Go.Proofs.Ytgkfopodhikckaa
