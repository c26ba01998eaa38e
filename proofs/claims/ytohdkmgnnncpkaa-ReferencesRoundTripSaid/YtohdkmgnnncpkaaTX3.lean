/- The Builder's WriteString, Grow; Join with a space. Condition: texts of at most a thousand bytes. -/
import Derived.Test.YtohdkmgnnncpkaaTX2
set_option linter.unusedSimpArgs false
set_option linter.unusedVariables false
namespace Go.Proofs.Ytohdkmgnnncpkaa
open Go.RowKit
section
variable {P : Program} {ops : Array Oper} {rest : List Oper} {a : Act} {ρ : Operand → Value} {dst : Option Tmp} {ty : TypeId} {pos : String} {after : Array Edge} {guard : Option (Nat × Bool)} {w w0 : World} {S : List Nat} {bs : List (Nat × Obj)} {rows : List Row} {Q : Exit → Act → World → Prop} {C : World → Prop} {K : Act → Prop}
theorem wpL_appendS {ao : Option Addr} {ca n : Nat} {l m r : List UInt8} (hH : Holds w0 S bs (⟨.slice ao n ca, 5, 1, n, l.map byt⟩ :: rows) w) (hn : n = l.length) (hr : l ++ m = r) (hb : l.length + m.length ≤ 100000000) {s y : Operand} (hs : a.eval s = .slice ao n ca) (hy : a.eval y = str m)
    (hg : Region.wanted { dst := dst, op := .call { callee := .builtin .append, args := #[s, y], argTypes := #[81, 9] }, type := ty, pos := pos, after := after, guard := guard } (yielded ops a.tmps) = true)
    (h : ∀ ao cap w', Holds w0 S bs (rowB ao cap r :: rows) w' → wpList Try.prog ops Q rest (a.put dst (.slice ao r.length cap)) w') :
    wpList Try.prog ops Q ({ dst := dst, op := .call { callee := .builtin .append, args := #[s, y], argTypes := #[81, 9] }, type := ty, pos := pos, after := after, guard := guard } :: rest) a w := by
  subst hn hr
  obtain ⟨ht, hsz, _, i, z, hi, hz, hsize, hby, hzs⟩ := kE81
  have hz' : i.zero = some (.int .u8 0) := by
    obtain ⟨i', hi', a1, _, _⟩ := info_parts (show (Try.prog.info? 5).map (fun i => (i.zero, i.size, i.bytes)) = some (some (.int .u8 0), 1, 1) from by kernel_rfl)
    rw [hi] at hi'
    cases hi'
    exact a1
  have hms : (⟨m.toArray⟩ : ByteArray).size = m.length := by simp [ByteArray.size]
  have hsc : Lib.strCells ⟨m.toArray⟩ = m.map byt := rfl
  obtain ⟨v', w', hrun, hown, hgr, hnil⟩ := Lib.run_append_own_string (P := Try.prog) w w0.heap.size 81 9 ty 5 i Try.underlying81 Try.underlying9 hi hz' hsize hby _ _ _ hH.own0 ⟨m.toArray⟩ (by rw [hms]; unfold maxLen; omega) (by rw [hms]; omega) hH.size
  rw [hms, hsc, ← List.map_append, ← List.length_append] at hown
  obtain ⟨ao', cap', rfl⟩ := row_shape hown
  have hv : (Value.slice ao l.length ca).ownBlock = (Value.slice ao' (l ++ m).length cap').ownBlock ∨ ∀ k, (Value.slice ao' (l ++ m).length cap').ownBlock = some k → w.heap.size ≤ k := by
    have ho := hH.own0
    rcases ho.2 with ⟨hv0, hn0⟩ | ⟨g, cp, cur, hv0, hbg, hgc, hnc, hcm, hcs, htake⟩
    · refine .inr fun k hk => ?_
      have hl0 : l = [] := List.eq_nil_of_length_eq_zero hn0
      have hown0 : w.ownsRow w.heap.size 5 1 (.slice ao l.length ca) l.length (l.map byt) := by
        rw [hv0, hl0]; exact World.ownsRow_nil _ _ _ _
      obtain ⟨v2, w2, hr2, hown2, _⟩ := Lib.run_append_own_string (P := Try.prog) w w.heap.size 81 9 ty 5 i Try.underlying81 Try.underlying9 hi hz' hsize hby _ _ _ hown0 ⟨m.toArray⟩ (by rw [hms]; unfold maxLen; omega) (by rw [hms]; omega) (Nat.le_refl _)
      rw [hrun] at hr2
      simp only [Result.ok.injEq] at hr2
      obtain ⟨rfl, rfl⟩ := hr2
      exact (hown2.lt k hk).1
    · simp only [Value.slice.injEq, true_and] at hv0
      obtain ⟨rfl, rfl⟩ := hv0
      by_cases hroom : l.length + m.length ≤ ca
      · have hr2 := Lib.run_append_room_string (P := Try.prog) w 81 9 ty 5 i Try.underlying81 Try.underlying9 hi hsize g l.length ca cur hgc ⟨m.toArray⟩ (by rw [hms]; exact hroom) (by rw [hms]; omega)
        rw [hrun] at hr2
        simp only [Result.ok.injEq, Value.slice.injEq] at hr2
        obtain ⟨⟨rfl, _⟩, _⟩ := hr2
        exact .inl rfl
      · have hold : ∀ j u, (l.map byt)[j]? = some u → w.cell? ((⟨g, 0, none⟩ : Addr).add j) = some u := ho.cells (g := g) rfl
        have hr2 := Lib.run_append_grow_string (P := Try.prog) w 81 9 ty 5 i (.int .u8 0) Try.underlying81 Try.underlying9 hi hz' ⟨g, 0, none⟩ l.length ca (l.map byt) (by rw [hsize]; simp) hold ⟨m.toArray⟩ (by rw [hms]; omega) (by rw [hms]; omega) (by rw [hby]; exact growslice_fits (by rw [hms]; omega) (by rw [hms]; omega))
        rw [hrun] at hr2
        simp only [Result.ok.injEq, Value.slice.injEq] at hr2
        obtain ⟨⟨rfl, _⟩, _⟩ := hr2
        exact .inr fun k hk => by simp only [Value.ownBlock, Option.some.injEq] at hk; omega
  refine wpList_ex hg ?_ (h ao' cap' w' ?_)
  · rw [BigFrame.execOp_builtin, BigFrame.builtin_append]
    simp only [List.map_toArray, List.map_cons, List.map_nil, hs, hy, Sem.run_bind]
    unfold str
    rw [hrun]
    rfl
  · exact hH.grownRow hgr hv hown
end
end Go.Proofs.Ytohdkmgnnncpkaa
