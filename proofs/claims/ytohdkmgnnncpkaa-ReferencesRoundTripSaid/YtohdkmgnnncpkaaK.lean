/- What the table of types says of the types that the code uses. No condition. -/
import Derived.Test.YtohdkmgnnncpkaaProg
import Derived.Test.YtohdkmgnnncpkaaV
set_option linter.unusedSimpArgs false
set_option linter.unusedVariables false
namespace Go.Proofs.Ytohdkmgnnncpkaa
open Go.RowKit
section
variable {P : Program} {w0 w : World} {S : List Nat} {bs : List (Nat × Obj)} {rows : List Row} {ops : Array Oper} {rest : List Oper} {a : Act} {Q : Exit → Act → World → Prop} {K : Act → Prop} {dst : Option Tmp} {ty : TypeId} {pos : String} {after : Array Edge} {guard : Option (Nat × Bool)}
/-- A variable that holds an array of bytes is read whole. -/
theorem wpL_loadArr {t : TypeId} {n : Nat} {v : Arr n} (hA : AggT P t n) (hH : Holds w0 S bs rows w) {x : Operand} {g : Nat} {e : TypeId} (hx : a.eval x = .pointer (some ⟨g, 0, none⟩)) (ho : Own bs g (objC v.cells e))
    (hg : Region.wanted { dst := dst, op := .load t x, type := ty, pos := pos, after := after, guard := guard } (yielded ops a.tmps) = true)
    (h : wpList P ops Q rest (a.put dst v.val) w) : wpList P ops Q ({ dst := dst, op := .load t x, type := ty, pos := pos, after := after, guard := guard } :: rest) a w :=
  wpL_loadC hA hH hx ho (Arr.len v) hg h
theorem wpQ_loadArr {t : TypeId} {n : Nat} {v : Arr n} (hA : AggT P t n) {x : Operand} {g : Nat} {e : TypeId} (hx : a.eval x = .pointer (some ⟨g, 0, none⟩)) (ho : Own bs g (objC v.cells e))
    (hg : Region.wanted { dst := dst, op := .load t x, type := ty, pos := pos, after := after, guard := guard } (yielded ops a.tmps) = true)
    (h : wpQuiet P ops (fun w' => Holds w0 S bs rows w') K rest (a.put dst v.val)) : wpQuiet P ops (fun w' => Holds w0 S bs rows w') K ({ dst := dst, op := .load t x, type := ty, pos := pos, after := after, guard := guard } :: rest) a :=
  wpQ_loadC hA hx ho (Arr.len v) hg h
/-- An array of bytes that lies somewhere is read. -/
theorem wpL_loadEl {t : TypeId} {n : Nat} {v : Arr n} {ad : Addr} (hA : AggT P t n) (hc : ∀ j u, v.cells[j]? = some u → w.cell? (ad.add j) = some u) {x : Operand} (hx : a.eval x = .pointer (some ad))
    (hg : Region.wanted { dst := dst, op := .load t x, type := ty, pos := pos, after := after, guard := guard } (yielded ops a.tmps) = true)
    (h : wpList P ops Q rest (a.put dst v.val) w) : wpList P ops Q ({ dst := dst, op := .load t x, type := ty, pos := pos, after := after, guard := guard } :: rest) a w :=
  wpList_load_agg hA (Arr.len v) hc hx hg h
theorem wpQ_loadEl {C : World → Prop} {t : TypeId} {n : Nat} {v : Arr n} {ad : Addr} (hA : AggT P t n) (hc : ∀ w, C w → ∀ j u, v.cells[j]? = some u → w.cell? (ad.add j) = some u) {x : Operand} (hx : a.eval x = .pointer (some ad))
    (hg : Region.wanted { dst := dst, op := .load t x, type := ty, pos := pos, after := after, guard := guard } (yielded ops a.tmps) = true)
    (h : wpQuiet P ops C K rest (a.put dst v.val)) : wpQuiet P ops C K ({ dst := dst, op := .load t x, type := ty, pos := pos, after := after, guard := guard } :: rest) a :=
  wpQ_load_agg hA (Arr.len v) hc hx hg h
theorem wpL_boxArr {n : Nat} {v : Arr n} {e : TypeId} {x : Operand} (hx : a.eval x = v.val) (hH : Holds w0 S bs rows w)
    (hg : Region.wanted { dst := dst, op := .box e x, type := ty, pos := pos, after := after, guard := guard } (yielded ops a.tmps) = true)
    (h : ∀ g w', Holds w0 S ((g, objC v.cells e) :: bs) rows w' → wpList P ops Q rest (a.put dst (.pointer (some ⟨g, 0, none⟩))) w') :
    wpList P ops Q ({ dst := dst, op := .box e x, type := ty, pos := pos, after := after, guard := guard } :: rest) a w := wpL_boxC (cs := v.cells) hx hH hg h
theorem wpL_storeArr {t : TypeId} {n : Nat} {v : Arr n} {x y : Operand} {g : Nat} {cs : List Value} {e : TypeId} {bs' : List (Nat × Obj)} (hi : (P.info? t).map (·.size) = some n)
    (hH : Holds w0 S bs rows w) (hx : a.eval x = .pointer (some ⟨g, 0, none⟩)) (hy : a.eval y = v.val) (ht : Turn bs g (objC cs e) (objC v.cells e) bs') (hc : cs.length = n)
    (hg : Region.wanted { dst := dst, op := .store t x y, type := ty, pos := pos, after := after, guard := guard } (yielded ops a.tmps) = true)
    (h : ∀ w', Holds w0 S bs' rows w' → wpList P ops Q rest (a.put dst undef) w') :
    wpList P ops Q ({ dst := dst, op := .store t x y, type := ty, pos := pos, after := after, guard := guard } :: rest) a w :=
  wpL_storeC hx hy hi hH ht (Arr.len v) (cells_one v) hc hg h
end
theorem kO3 : OneT Try.prog 3 := ⟨_, Try.underlying3, rfl⟩
theorem kS3 : (Try.prog.info? 3).map (·.size) = some 1 := by kernel_rfl
theorem kZ3 : (Try.prog.info? 3).map (·.zero) = some (some (.int .i64 0)) := by kernel_rfl
theorem kO4 : OneT Try.prog 4 := ⟨_, Try.underlying4, rfl⟩
theorem kS4 : (Try.prog.info? 4).map (·.size) = some 1 := by kernel_rfl
theorem kZ4 : (Try.prog.info? 4).map (·.zero) = some (some (.bool false)) := by kernel_rfl
theorem kO5 : OneT Try.prog 5 := ⟨_, Try.underlying5, rfl⟩
theorem kS5 : (Try.prog.info? 5).map (·.size) = some 1 := by kernel_rfl
theorem kO9 : OneT Try.prog 9 := ⟨_, Try.underlying9, rfl⟩
theorem kS9 : (Try.prog.info? 9).map (·.size) = some 1 := by kernel_rfl
theorem kO22 : OneT Try.prog 22 := ⟨_, Try.underlying22, rfl⟩
theorem kS22 : (Try.prog.info? 22).map (·.size) = some 1 := by kernel_rfl
theorem kO24 : OneT Try.prog 24 := ⟨_, Try.underlying24, rfl⟩
theorem kS24 : (Try.prog.info? 24).map (·.size) = some 1 := by kernel_rfl
theorem kZ24 : (Try.prog.info? 24).map (·.zero) = some (some (.slice none 0 0)) := by kernel_rfl
theorem kA33 : AggT Try.prog 33 32 := ⟨_, Try.underlying33, rfl, by kernel_rfl⟩
theorem kS33 : (Try.prog.info? 33).map (·.size) = some 32 := by kernel_rfl
theorem kZ33 : (Try.prog.info? 33).map (·.zero) = some (some (.agg ((Arr.zero 32).cells : List Value).toArray)) := by kernel_rfl
theorem kO37 : OneT Try.prog 37 := ⟨_, Try.underlying37, rfl⟩
theorem kS37 : (Try.prog.info? 37).map (·.size) = some 1 := by kernel_rfl
theorem kA38 : AggT Try.prog 38 32 := ⟨_, Try.underlying38, rfl, by kernel_rfl⟩
theorem kS38 : (Try.prog.info? 38).map (·.size) = some 32 := by kernel_rfl
theorem kZ38 : (Try.prog.info? 38).map (·.zero) = some (some (.agg ((Arr.zero 32).cells : List Value).toArray)) := by kernel_rfl
theorem kO81 : OneT Try.prog 81 := ⟨_, Try.underlying81, rfl⟩
theorem kS81 : (Try.prog.info? 81).map (·.size) = some 1 := by kernel_rfl
theorem kO85 : OneT Try.prog 85 := ⟨_, Try.underlying85, rfl⟩
theorem kS85 : (Try.prog.info? 85).map (·.size) = some 1 := by kernel_rfl
theorem kA87 : AggT Try.prog 87 2 := ⟨_, Try.underlying87, rfl, by kernel_rfl⟩
theorem kS87 : (Try.prog.info? 87).map (·.size) = some 2 := by kernel_rfl
theorem kZ87 : (Try.prog.info? 87).map (·.zero) = some (some (.agg ([.pointer none, .slice none 0 0] : List Value).toArray)) := by kernel_rfl
theorem kR33 : ArrT Try.prog 33 32 := ⟨_, _, Try.underlying33, Try.underlying5, by kernel_rfl, by kernel_rfl⟩
theorem kR38 : ArrT Try.prog 38 32 := ⟨_, _, Try.underlying38, Try.underlying5, by kernel_rfl, by kernel_rfl⟩
theorem kE22 : Elem Try.prog 22 38 32 32 := Elem.mk' (.agg (List.replicate 32 (byt 0 : Value) : List Value).toArray) Try.underlying22 (by kernel_rfl) (by kernel_rfl) (by omega) (by omega)
theorem kE24 : Elem Try.prog 24 33 32 32 := Elem.mk' (.agg (List.replicate 32 (byt 0 : Value) : List Value).toArray) Try.underlying24 (by kernel_rfl) (by kernel_rfl) (by omega) (by omega)
theorem kE61 : Elem Try.prog 61 4 1 1 := Elem.mk' (.bool false) Try.underlying61 (by kernel_rfl) (by kernel_rfl) (by omega) (by omega)
theorem kE75 : Elem Try.prog 75 9 1 16 := Elem.mk' (.string ⟨#[]⟩) Try.underlying75 (by kernel_rfl) (by kernel_rfl) (by omega) (by omega)
theorem kE81 : Elem Try.prog 81 5 1 1 := Elem.mk' (.int .u8 0) Try.underlying81 (by kernel_rfl) (by kernel_rfl) (by omega) (by omega)
theorem kF87_0 : FieldT Try.prog 87 0 0 := ⟨_, _, 0, Try.underlying87, rfl, rfl, by kernel_rfl⟩
theorem kF87_1 : FieldT Try.prog 87 1 1 := ⟨_, _, 0, Try.underlying87, rfl, rfl, by kernel_rfl⟩
theorem kB3 : Body Try.prog 3 := ⟨_, _, Try.func3, rfl, rfl⟩
theorem kB4 : Body Try.prog 4 := ⟨_, _, Try.func4, rfl, rfl⟩
theorem kB5 : Body Try.prog 5 := ⟨_, _, Try.func5, rfl, rfl⟩
theorem kB6 : Body Try.prog 6 := ⟨_, _, Try.func6, rfl, rfl⟩
theorem kB7 : Body Try.prog 7 := ⟨_, _, Try.func7, rfl, rfl⟩
theorem kB8 : Body Try.prog 8 := ⟨_, _, Try.func8, rfl, rfl⟩
theorem kB9 : Body Try.prog 9 := ⟨_, _, Try.func9, rfl, rfl⟩
theorem kB10 : Body Try.prog 10 := ⟨_, _, Try.func10, rfl, rfl⟩
theorem kB11 : Body Try.prog 11 := ⟨_, _, Try.func11, rfl, rfl⟩
theorem kB12 : Body Try.prog 12 := ⟨_, _, Try.func12, rfl, rfl⟩
theorem kB13 : Body Try.prog 13 := ⟨_, _, Try.func13, rfl, rfl⟩
theorem kB14 : Body Try.prog 14 := ⟨_, _, Try.func14, rfl, rfl⟩
theorem kB15 : Body Try.prog 15 := ⟨_, _, Try.func15, rfl, rfl⟩
theorem kB16 : Body Try.prog 16 := ⟨_, _, Try.func16, rfl, rfl⟩
theorem kB17 : Body Try.prog 17 := ⟨_, _, Try.func17, rfl, rfl⟩
theorem kB18 : Body Try.prog 18 := ⟨_, _, Try.func18, rfl, rfl⟩
theorem kB19 : Body Try.prog 19 := ⟨_, _, Try.func19, rfl, rfl⟩
theorem kB20 : Body Try.prog 20 := ⟨_, _, Try.func20, rfl, rfl⟩
theorem kB21 : Body Try.prog 21 := ⟨_, _, Try.func21, rfl, rfl⟩
theorem kB22 : Body Try.prog 22 := ⟨_, _, Try.func22, rfl, rfl⟩
theorem kB23 : Body Try.prog 23 := ⟨_, _, Try.func23, rfl, rfl⟩
theorem kB24 : Body Try.prog 24 := ⟨_, _, Try.func24, rfl, rfl⟩
theorem kB25 : Body Try.prog 25 := ⟨_, _, Try.func25, rfl, rfl⟩
theorem kB26 : Body Try.prog 26 := ⟨_, _, Try.func26, rfl, rfl⟩
theorem kB27 : Body Try.prog 27 := ⟨_, _, Try.func27, rfl, rfl⟩
theorem kB28 : Body Try.prog 28 := ⟨_, _, Try.func28, rfl, rfl⟩
theorem kB29 : Body Try.prog 29 := ⟨_, _, Try.func29, rfl, rfl⟩
theorem kB30 : Body Try.prog 30 := ⟨_, _, Try.func30, rfl, rfl⟩
theorem kB31 : Body Try.prog 31 := ⟨_, _, Try.func31, rfl, rfl⟩
theorem kB32 : Body Try.prog 32 := ⟨_, _, Try.func32, rfl, rfl⟩
theorem kB33 : Body Try.prog 33 := ⟨_, _, Try.func33, rfl, rfl⟩
theorem kB34 : Body Try.prog 34 := ⟨_, _, Try.func34, rfl, rfl⟩
theorem kB35 : Body Try.prog 35 := ⟨_, _, Try.func35, rfl, rfl⟩
theorem kB36 : Body Try.prog 36 := ⟨_, _, Try.func36, rfl, rfl⟩
theorem kB37 : Body Try.prog 37 := ⟨_, _, Try.func37, rfl, rfl⟩
theorem kB38 : Body Try.prog 38 := ⟨_, _, Try.func38, rfl, rfl⟩
theorem kB39 : Body Try.prog 39 := ⟨_, _, Try.func39, rfl, rfl⟩
theorem kB40 : Body Try.prog 40 := ⟨_, _, Try.func40, rfl, rfl⟩
theorem kB41 : Body Try.prog 41 := ⟨_, _, Try.func41, rfl, rfl⟩
theorem kB42 : Body Try.prog 42 := ⟨_, _, Try.func42, rfl, rfl⟩
theorem kB43 : Body Try.prog 43 := ⟨_, _, Try.func43, rfl, rfl⟩
theorem kB44 : Body Try.prog 44 := ⟨_, _, Try.func44, rfl, rfl⟩
theorem kB45 : Body Try.prog 45 := ⟨_, _, Try.func45, rfl, rfl⟩
theorem kB46 : Body Try.prog 46 := ⟨_, _, Try.func46, rfl, rfl⟩
theorem kB47 : Body Try.prog 47 := ⟨_, _, Try.func47, rfl, rfl⟩
theorem kB48 : Body Try.prog 48 := ⟨_, _, Try.func48, rfl, rfl⟩
theorem kB49 : Body Try.prog 49 := ⟨_, _, Try.func49, rfl, rfl⟩
theorem kB50 : Body Try.prog 50 := ⟨_, _, Try.func50, rfl, rfl⟩
theorem kB51 : Body Try.prog 51 := ⟨_, _, Try.func51, rfl, rfl⟩
theorem kB52 : Body Try.prog 52 := ⟨_, _, Try.func52, rfl, rfl⟩
theorem kB53 : Body Try.prog 53 := ⟨_, _, Try.func53, rfl, rfl⟩
theorem kB54 : Body Try.prog 54 := ⟨_, _, Try.func54, rfl, rfl⟩
theorem kB55 : Body Try.prog 55 := ⟨_, _, Try.func55, rfl, rfl⟩
theorem kB56 : Body Try.prog 56 := ⟨_, _, Try.func56, rfl, rfl⟩
theorem kB57 : Body Try.prog 57 := ⟨_, _, Try.func57, rfl, rfl⟩
theorem kB59 : Body Try.prog 59 := ⟨_, _, Try.func59, rfl, rfl⟩
end Go.Proofs.Ytohdkmgnnncpkaa
