/- From a law's walk to its row: arguments opened, the post shut. Over any program. No condition. -/
import Derived.ProofKit
import Derived.SizedLaws
import Derived.Deep.Slices
import Derived.Test.YtohdkmgnnncpkaaB
namespace Go.Proofs.Ytohdkmgnnncpkaa
open Go.RowKit Go.ChangeShapes Go.WideShapes
section
variable {H : Type} {enc : TypeId × Value → H} {P : Program} {W W' : World}
/-- All arguments read behind the call as they did. -/
theorem trodAll_below (hl : laidOutB P = true) (hb : Below W.heap.size W W') : ∀ (ts : List TypeId) (vs : List Value) (ds : List (DataW H)) (ps : List MemPlace),
    (∀ t ∈ ts, P.readableRec t = true ∧ t < P.types.size) → DataW.TrodAll enc P W 0 (fun _ => true) true ts vs ds ps → (∀ x ∈ ps, x.block < W.heap.size) →
    DataW.TrodAll enc P W' 0 (fun b => decide (b < W.heap.size)) true ts vs ds ps
  | [], [], [], _, _, h, _ => h
  | t :: ts, v :: vs, d :: ds, _, hr, ⟨p, q, h1, h2, e⟩, hlt => by
    subst e
    exact ⟨p, q, Below.trod hl (hr t (by simp)).1 (hr t (by simp)).2 h1 hb (fun x hx => hlt x (List.mem_append.2 (.inl hx))),
      trodAll_below hl hb ts vs ds q (fun t ht => hr t (by simp [ht])) h2 (fun x hx => hlt x (List.mem_append.2 (.inr hx))), rfl⟩
  | [], _ :: _, _, _, _, h, _ => h.elim
  | [], [], _ :: _, _, _, h, _ => h.elim
  | _ :: _, [], _, _, _, h, _ => h.elim
  | _ :: _, _ :: _, [], _, _, h, _ => h.elim
/-- What a law that returns true has to leave. -/
theorem post_true {f : Func} {s : ChangeSpec} {apart fresh handsOn : Bool} {args : Array Value} {ds gs : List (DataW H)} {before : List MemPlace} {tb : TypeId}
    (hl : laidOutB P = true) (hr : ∀ t ∈ f.params.toList, P.readableRec t = true ∧ t < P.types.size) (hres : f.resultTypes = #[tb]) (htb : P.underlying tb = some .bool)
    (hW : DataW.Whole enc P f.params.toList s.vars apart W args.toList ds gs before) (hvars : s.vars = []) (hfn : s.fn H ds = { results := [.lit (.bool true)], args := ds }) (hb : Below W.heap.size W W') :
    s.post enc P f apart fresh handsOn false W args (.bool true) W' := by
  have hW' := hW
  obtain ⟨p, q, hA, hV, rfl, hz, hd⟩ := hW
  rw [hvars] at hV
  obtain ⟨rfl, rfl⟩ := trodVars_none hV
  rw [List.append_nil] at hW'
  refine ⟨ds, [], p, [], p, [], hW', ?_, ?_, ?_, hb.frame _, fun h => by cases h⟩
  · rw [List.append_nil, hfn, hres]
    exact trodAll_mk1 ⟨1, by simp [DataW.trod, htb, Value.cells]⟩
  · rw [List.append_nil, hfn]
    exact trodAll_below hl hb _ _ _ _ hr hA (fun x hx => hW'.lt x hx)
  · rw [List.append_nil, hfn, hvars]
    rfl
/-- An array of bytes that is read. -/
theorem open_bytes {t e : TypeId} {n : Nat} {base : Nat} {spare : Nat → Bool} {held : Bool} {fuel : Nat} {cs : List Value} {x : DataW H × List MemPlace} (ht : P.underlying t = some (.array n e)) (he : P.underlying e = some (.int .u8))
    (hc : P.cellsOf t = n) (hc1 : P.cellsOf e = 1) (h : DataW.trod enc P W base spare held fuel t cs = some x) : ∃ a : Arr n, cs = a.cells := by
  cases fuel with
  | zero => simp [DataW.trod] at h
  | succ m =>
    rw [DataW.trod_step] at h
    unfold DataW.trodStep at h
    simp only [ht] at h
    split at h
    · rename_i hlen
      rw [hc] at hlen
      simp only [Option.map_eq_some_iff] at h
      obtain ⟨ys, hy, _⟩ := h
      have key : ∀ i, i < n → ∃ b : UInt8, cs[i]? = some (byt b) := by
        intro i hi
        have h1 := mapM_some_get hy i i (by simp [hi])
        have hl := mapM_some_length hy
        have hi' : i < ys.length := by rw [hl]; simpa using hi
        rw [List.getElem?_eq_getElem hi'] at h1
        obtain ⟨z, hz, _, hw⟩ := DataW.trod_int he h1
        rw [hc1, Nat.mul_one] at hz
        have h0 : (0 : Int) ≤ z ∧ z ≤ 255 := by
          have e1 : IntKind.u8.min = 0 := rfl
          have e2 : IntKind.u8.max = 255 := rfl
          simp only [Lit.wf, Bool.and_eq_true, decide_eq_true_eq] at hw
          omega
        refine ⟨UInt8.ofNat z.toNat, ?_⟩
        have h2 : (cs.drop i)[0]? = some (.int .u8 z) := by
          have h3 : ((cs.drop i).take 1)[0]? = some (.int .u8 z) := by rw [hz]; rfl
          rw [List.getElem?_take] at h3
          simpa using h3
        rw [List.getElem?_drop, Nat.add_zero] at h2
        rw [h2]
        simp only [byt, UInt8.toNat_ofNat', Option.some.injEq, Value.int.injEq, true_and]
        omega
      obtain ⟨g, hg⟩ := Deep.choose_lt key
      refine ⟨⟨(List.range n).map g, by simp⟩, ?_⟩
      apply List.ext_getElem?
      intro i
      by_cases hi : i < n
      · rw [hg i hi]; simp [Arr.cells, hi]
      · rw [List.getElem?_eq_none (by omega), List.getElem?_eq_none (by simp [Arr.cells]; omega)]
    · simp at h
theorem flat_of {n : Nat} (f : Nat → Arr n) (len : Nat) (hn : 0 < n) (j : Nat) (u : Value) (h : (flat ((List.range len).map f))[j]? = some u) : j / n < len ∧ (f (j / n)).cells[j % n]? = some u := by
  have hj := (List.getElem?_eq_some_iff.1 h).1
  rw [flat_len] at hj
  simp only [List.length_map, List.length_range] at hj
  have hd : j / n < len := (Nat.div_lt_iff_lt_mul hn).2 hj
  refine ⟨hd, ?_⟩
  have e : j = (j / n) * n + j % n := by rw [Nat.mul_comm]; exact (Nat.div_add_mod j n).symm
  rw [e, flat_get _ _ (by simpa using hd) _ (Nat.mod_lt _ hn)] at h
  simpa using h
/-- A slice of such arrays. -/
theorem open_arrs {ts t e : TypeId} {n : Nat} {base : Nat} {fuel : Nat} {v : Value} {x : DataW H × List MemPlace} (hs : P.underlying ts = some (.slice t)) (ht : P.underlying t = some (.array n e)) (he : P.underlying e = some (.int .u8)) (hn : 0 < n)
    (hc : P.cellsOf t = n) (hc1 : P.cellsOf e = 1) (hv : ∃ a len cap, v = .slice a len cap) (h : DataW.trod enc P W base (fun _ => true) true fuel ts v.cells.toList = some x) :
    ∃ l : List (Arr n), Sl W v n l.length (flat l) ∧ (l = [] ∨ ∃ elems spare, x.1 = .slice elems spare ∧ elems.length = l.length) := by
  obtain ⟨ao, len, cap, rfl⟩ := hv
  rcases Deep.open_slice hs h with ⟨hcs, _⟩ | ⟨a, len', cap', m, fu, D, Pl, hcs, _, hle, _, hm, rfl, hx⟩
  · simp [Value.cells] at hcs
    obtain ⟨rfl, rfl, rfl⟩ := hcs
    exact ⟨[], Sl.nil W n, .inl rfl⟩
  · simp [Value.cells] at hcs
    obtain ⟨rfl, rfl, rfl⟩ := hcs
    simp only [if_true] at hm
    subst hm
    have key : ∀ i, i < len → ∃ y : Arr n, ∀ k u, y.cells[k]? = some u → W.cell? ((a.add (i * n)).add k) = some u := by
      intro i hi
      obtain ⟨cs', h1, h2⟩ := hx i (by omega)
      obtain ⟨y, rfl⟩ := open_bytes ht he hc hc1 h2
      obtain ⟨_, _, h3⟩ := World.cells?_some h1
      rw [hc] at h3
      exact ⟨y, fun k u hk => (h3 k (by have := (List.getElem?_eq_some_iff.1 hk).1; rwa [Arr.len] at this)).trans hk⟩
    have : Inhabited (Arr n) := ⟨Arr.zero n⟩
    obtain ⟨g, hg⟩ := Deep.choose_lt key
    refine ⟨(List.range len).map g, ?_, .inr ⟨_, _, rfl, by simp⟩⟩
    refine ⟨some a, _, by rw [List.length_map, List.length_range], by simpa using hle, flat_len _, fun j u hu => ⟨a, rfl, ?_⟩⟩
    obtain ⟨h1, h2⟩ := flat_of g len hn j u hu
    have h3 := hg _ h1 _ u h2
    rw [Deep.add_add] at h3
    rwa [show j / n * n + j % n = j by rw [Nat.mul_comm]; exact Nat.div_add_mod j n] at h3
end
end Go.Proofs.Ytohdkmgnnncpkaa
