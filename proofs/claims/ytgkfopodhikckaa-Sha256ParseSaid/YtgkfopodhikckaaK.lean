/- What the table of types says of the types that the code uses. No condition. -/
import Derived.Test.YtgkfopodhikckaaProg
import Derived.Test.YtgkfopodhikckaaV
set_option linter.unusedSimpArgs false
set_option linter.unusedVariables false
namespace Go.Proofs.Ytgkfopodhikckaa
open Go.RowKit
section
variable {P : Program} {w0 w : World} {S : List Nat} {bs : List (Nat × Obj)} {rows : List Row} {ops : Array Oper} {rest : List Oper} {a : Act} {Q : Exit → Act → World → Prop} {K : Act → Prop} {dst : Option Tmp} {ty : TypeId} {pos : String} {after : Array Edge} {guard : Option (Nat × Bool)}
/-- A variable that holds an array of bytes is read whole. -/
theorem wpL_loadArr {t : TypeId} {n : Nat} {v : Arr n} (hA : AggT P t n) (hH : Holds w0 S bs rows w) {x : Operand} {g : Nat} {e : TypeId} (hx : a.eval x = .pointer (some ⟨g, 0, none⟩)) (ho : Own bs g (objC v.cells e))
    (hg : Region.wanted { dst := dst, op := .load t x, type := ty, pos := pos, after := after, guard := guard } (yielded ops a.tmps) = true)
    (h : wpList P ops Q rest (a.put dst v.val) w) : wpList P ops Q ({ dst := dst, op := .load t x, type := ty, pos := pos, after := after, guard := guard } :: rest) a w :=
  wpL_loadC hA hH hx ho (Arr.len v) hg h
theorem wpQ_loadArr {t : TypeId} {n : Nat} {v : Arr n} (hA : AggT P t n) {x : Operand} {g : Nat} {e : TypeId} (hx : a.eval x = .pointer (some ⟨g, 0, none⟩)) (ho : Own bs g (objC v.cells e))
    (hg : Region.wanted { dst := dst, op := .load t x, type := ty, pos := pos, after := after, guard := guard } (yielded ops a.tmps) = true)
    (h : wpQuiet P ops (fun w' => Holds w0 S bs rows w') K rest (a.put dst v.val)) : wpQuiet P ops (fun w' => Holds w0 S bs rows w') K ({ dst := dst, op := .load t x, type := ty, pos := pos, after := after, guard := guard } :: rest) a :=
  wpQ_loadC hA hx ho (Arr.len v) hg h
theorem wpL_boxArr {n : Nat} {v : Arr n} {e : TypeId} {x : Operand} (hx : a.eval x = v.val) (hH : Holds w0 S bs rows w)
    (hg : Region.wanted { dst := dst, op := .box e x, type := ty, pos := pos, after := after, guard := guard } (yielded ops a.tmps) = true)
    (h : ∀ g w', Holds w0 S ((g, objC v.cells e) :: bs) rows w' → wpList P ops Q rest (a.put dst (.pointer (some ⟨g, 0, none⟩))) w') :
    wpList P ops Q ({ dst := dst, op := .box e x, type := ty, pos := pos, after := after, guard := guard } :: rest) a w := wpL_boxC (cs := v.cells) hx hH hg h
theorem wpL_storeArr {t : TypeId} {n : Nat} {v : Arr n} {x y : Operand} {g : Nat} {cs : List Value} {e : TypeId} {bs' : List (Nat × Obj)} (hi : (P.info? t).map (·.size) = some n)
    (hH : Holds w0 S bs rows w) (hx : a.eval x = .pointer (some ⟨g, 0, none⟩)) (hy : a.eval y = v.val) (ht : Turn bs g (objC cs e) (objC v.cells e) bs') (hc : cs.length = n)
    (hg : Region.wanted { dst := dst, op := .store t x y, type := ty, pos := pos, after := after, guard := guard } (yielded ops a.tmps) = true)
    (h : ∀ w', Holds w0 S bs' rows w' → wpList P ops Q rest (a.put dst undef) w') :
    wpList P ops Q ({ dst := dst, op := .store t x y, type := ty, pos := pos, after := after, guard := guard } :: rest) a w :=
  wpL_storeC hx hy hi hH ht (Arr.len v) (cells_one v) hc hg h
end
theorem kO3 : OneT Try.prog 3 := ⟨_, Try.underlying3, rfl⟩
theorem kS3 : (Try.prog.info? 3).map (·.size) = some 1 := by kernel_rfl
theorem kZ3 : (Try.prog.info? 3).map (·.zero) = some (some (.int .i64 0)) := by kernel_rfl
theorem kO4 : OneT Try.prog 4 := ⟨_, Try.underlying4, rfl⟩
theorem kS4 : (Try.prog.info? 4).map (·.size) = some 1 := by kernel_rfl
theorem kZ4 : (Try.prog.info? 4).map (·.zero) = some (some (.bool false)) := by kernel_rfl
theorem kO5 : OneT Try.prog 5 := ⟨_, Try.underlying5, rfl⟩
theorem kS5 : (Try.prog.info? 5).map (·.size) = some 1 := by kernel_rfl
theorem kO22 : OneT Try.prog 22 := ⟨_, Try.underlying22, rfl⟩
theorem kS22 : (Try.prog.info? 22).map (·.size) = some 1 := by kernel_rfl
theorem kA24 : AggT Try.prog 24 32 := ⟨_, Try.underlying24, rfl, by kernel_rfl⟩
theorem kS24 : (Try.prog.info? 24).map (·.size) = some 32 := by kernel_rfl
theorem kZ24 : (Try.prog.info? 24).map (·.zero) = some (some (.agg ((Arr.zero 32).cells : List Value).toArray)) := by kernel_rfl
theorem kA25 : AggT Try.prog 25 32 := ⟨_, Try.underlying25, rfl, by kernel_rfl⟩
theorem kS25 : (Try.prog.info? 25).map (·.size) = some 32 := by kernel_rfl
theorem kZ25 : (Try.prog.info? 25).map (·.zero) = some (some (.agg ((Arr.zero 32).cells : List Value).toArray)) := by kernel_rfl
theorem kO30 : OneT Try.prog 30 := ⟨_, Try.underlying30, rfl⟩
theorem kS30 : (Try.prog.info? 30).map (·.size) = some 1 := by kernel_rfl
theorem kA33 : AggT Try.prog 33 16 := ⟨_, Try.underlying33, rfl, by kernel_rfl⟩
theorem kS33 : (Try.prog.info? 33).map (·.size) = some 16 := by kernel_rfl
theorem kZ33 : (Try.prog.info? 33).map (·.zero) = some (some (.agg ((Arr.zero 16).cells : List Value).toArray)) := by kernel_rfl
theorem kA34 : AggT Try.prog 34 16 := ⟨_, Try.underlying34, rfl, by kernel_rfl⟩
theorem kS34 : (Try.prog.info? 34).map (·.size) = some 16 := by kernel_rfl
theorem kZ34 : (Try.prog.info? 34).map (·.zero) = some (some (.agg ((Arr.zero 16).cells : List Value).toArray)) := by kernel_rfl
theorem kA37 : AggT Try.prog 37 177 := ⟨_, Try.underlying37, rfl, by kernel_rfl⟩
theorem kS37 : (Try.prog.info? 37).map (·.size) = some 177 := by kernel_rfl
theorem kZ37 : (Try.prog.info? 37).map (·.zero) = some (some (.agg (List.replicate 176 (byt 0 : Value) ++ [.int .i64 0] : List Value).toArray)) := by kernel_rfl
theorem kA41 : AggT Try.prog 41 16 := ⟨_, Try.underlying41, rfl, by kernel_rfl⟩
theorem kS41 : (Try.prog.info? 41).map (·.size) = some 16 := by kernel_rfl
theorem kZ41 : (Try.prog.info? 41).map (·.zero) = some (some (.agg ((Arr.zero 16).cells : List Value).toArray)) := by kernel_rfl
theorem kO46 : OneT Try.prog 46 := ⟨_, Try.underlying46, rfl⟩
theorem kS46 : (Try.prog.info? 46).map (·.size) = some 1 := by kernel_rfl
theorem kA56 : AggT Try.prog 56 16 := ⟨_, Try.underlying56, rfl, by kernel_rfl⟩
theorem kS56 : (Try.prog.info? 56).map (·.size) = some 16 := by kernel_rfl
theorem kZ56 : (Try.prog.info? 56).map (·.zero) = some (some (.agg ((Arr.zero 16).cells : List Value).toArray)) := by kernel_rfl
theorem kA73 : AggT Try.prog 73 32 := ⟨_, Try.underlying73, rfl, by kernel_rfl⟩
theorem kS73 : (Try.prog.info? 73).map (·.size) = some 32 := by kernel_rfl
theorem kZ73 : (Try.prog.info? 73).map (·.zero) = some (some (.agg ((Arr.zero 32).cells : List Value).toArray)) := by kernel_rfl
theorem kA79 : AggT Try.prog 79 18 := ⟨_, Try.underlying79, rfl, by kernel_rfl⟩
theorem kS79 : (Try.prog.info? 79).map (·.size) = some 18 := by kernel_rfl
theorem kA80 : AggT Try.prog 80 32 := ⟨_, Try.underlying80, rfl, by kernel_rfl⟩
theorem kS80 : (Try.prog.info? 80).map (·.size) = some 32 := by kernel_rfl
theorem kZ80 : (Try.prog.info? 80).map (·.zero) = some (some (.agg ((Arr.zero 32).cells : List Value).toArray)) := by kernel_rfl
theorem kA82 : AggT Try.prog 82 65 := ⟨_, Try.underlying82, rfl, by kernel_rfl⟩
theorem kS82 : (Try.prog.info? 82).map (·.size) = some 65 := by kernel_rfl
theorem kZ82 : (Try.prog.info? 82).map (·.zero) = some (some (.agg ([.int .i64 0] ++ List.replicate 64 (byt 0 : Value) : List Value).toArray)) := by kernel_rfl
theorem kA87 : AggT Try.prog 87 65 := ⟨_, Try.underlying87, rfl, by kernel_rfl⟩
theorem kS87 : (Try.prog.info? 87).map (·.size) = some 65 := by kernel_rfl
theorem kZ87 : (Try.prog.info? 87).map (·.zero) = some (some (.agg ([.int .i64 0] ++ List.replicate 64 (byt 0 : Value) : List Value).toArray)) := by kernel_rfl
theorem kO105 : OneT Try.prog 105 := ⟨_, Try.underlying105, rfl⟩
theorem kS105 : (Try.prog.info? 105).map (·.size) = some 1 := by kernel_rfl
theorem kA106 : AggT Try.prog 106 8 := ⟨_, Try.underlying106, rfl, by kernel_rfl⟩
theorem kS106 : (Try.prog.info? 106).map (·.size) = some 8 := by kernel_rfl
theorem kZ106 : (Try.prog.info? 106).map (·.zero) = some (some (.agg ([.int .u32 0, .int .u32 0, .int .u32 0, .int .u32 0, .int .u32 0, .int .u32 0, .int .u32 0, .int .u32 0] : List Value).toArray)) := by kernel_rfl
theorem kA107 : AggT Try.prog 107 64 := ⟨_, Try.underlying107, rfl, by kernel_rfl⟩
theorem kS107 : (Try.prog.info? 107).map (·.size) = some 64 := by kernel_rfl
theorem kZ107 : (Try.prog.info? 107).map (·.zero) = some (some (.agg (List.replicate 64 (.int .u32 0 : Value) : List Value).toArray)) := by kernel_rfl
theorem kA115 : AggT Try.prog 115 8 := ⟨_, Try.underlying115, rfl, by kernel_rfl⟩
theorem kS115 : (Try.prog.info? 115).map (·.size) = some 8 := by kernel_rfl
theorem kZ115 : (Try.prog.info? 115).map (·.zero) = some (some (.agg ([.int .u32 0, .int .u32 0, .int .u32 0, .int .u32 0, .int .u32 0, .int .u32 0, .int .u32 0, .int .u32 0] : List Value).toArray)) := by kernel_rfl
theorem kA118 : AggT Try.prog 118 11 := ⟨_, Try.underlying118, rfl, by kernel_rfl⟩
theorem kS118 : (Try.prog.info? 118).map (·.size) = some 11 := by kernel_rfl
theorem kZ118 : (Try.prog.info? 118).map (·.zero) = some (some (.agg ([.int .u32 0, .int .u32 0, .int .u32 0, .int .u32 0, .int .u32 0, .int .u32 0, .int .u32 0, .int .u32 0, .slice none 0 0, .int .i64 0, .bool false] : List Value).toArray)) := by kernel_rfl
theorem kA131 : AggT Try.prog 131 352 := ⟨_, Try.underlying131, rfl, by kernel_rfl⟩
theorem kS131 : (Try.prog.info? 131).map (·.size) = some 352 := by kernel_rfl
theorem kZ131 : (Try.prog.info? 131).map (·.zero) = some (some (.agg ((Arr.zero 352).cells : List Value).toArray)) := by kernel_rfl
theorem kA138 : AggT Try.prog 138 16 := ⟨_, Try.underlying138, rfl, by kernel_rfl⟩
theorem kS138 : (Try.prog.info? 138).map (·.size) = some 16 := by kernel_rfl
theorem kZ138 : (Try.prog.info? 138).map (·.zero) = some (some (.agg (List.replicate 16 (.int .u32 0 : Value) : List Value).toArray)) := by kernel_rfl
theorem kO142 : OneT Try.prog 142 := ⟨_, Try.underlying142, rfl⟩
theorem kS142 : (Try.prog.info? 142).map (·.size) = some 1 := by kernel_rfl
theorem kA144 : AggT Try.prog 144 2 := ⟨_, Try.underlying144, rfl, by kernel_rfl⟩
theorem kS144 : (Try.prog.info? 144).map (·.size) = some 2 := by kernel_rfl
theorem kZ144 : (Try.prog.info? 144).map (·.zero) = some (some (.agg ([.pointer none, .slice none 0 0] : List Value).toArray)) := by kernel_rfl
theorem kR24 : ArrT Try.prog 24 32 := ⟨_, _, Try.underlying24, Try.underlying5, by kernel_rfl, by kernel_rfl⟩
theorem kR25 : ArrT Try.prog 25 32 := ⟨_, _, Try.underlying25, Try.underlying5, by kernel_rfl, by kernel_rfl⟩
theorem kR33 : ArrT Try.prog 33 16 := ⟨_, _, Try.underlying33, Try.underlying5, by kernel_rfl, by kernel_rfl⟩
theorem kR34 : ArrT Try.prog 34 16 := ⟨_, _, Try.underlying34, Try.underlying5, by kernel_rfl, by kernel_rfl⟩
theorem kR41 : ArrT Try.prog 41 16 := ⟨_, _, Try.underlying41, Try.underlying5, by kernel_rfl, by kernel_rfl⟩
theorem kE22 : Elem Try.prog 22 5 1 1 := Elem.mk' (.int .u8 0) Try.underlying22 (by kernel_rfl) (by kernel_rfl) (by omega) (by omega)
theorem kE30 : Elem Try.prog 30 41 16 16 := Elem.mk' (.agg (List.replicate 16 (byt 0 : Value) : List Value).toArray) Try.underlying30 (by kernel_rfl) (by kernel_rfl) (by omega) (by omega)
theorem kE46 : Elem Try.prog 46 34 16 16 := Elem.mk' (.agg (List.replicate 16 (byt 0 : Value) : List Value).toArray) Try.underlying46 (by kernel_rfl) (by kernel_rfl) (by omega) (by omega)
theorem kE62 : Elem Try.prog 62 22 1 24 := Elem.mk' (.slice none 0 0) Try.underlying62 (by kernel_rfl) (by kernel_rfl) (by omega) (by omega)
theorem kE98 : Elem Try.prog 98 73 32 32 := Elem.mk' (.agg (List.replicate 32 (byt 0 : Value) : List Value).toArray) Try.underlying98 (by kernel_rfl) (by kernel_rfl) (by omega) (by omega)
theorem kE125 : Elem Try.prog 125 46 1 24 := Elem.mk' (.slice none 0 0) Try.underlying125 (by kernel_rfl) (by kernel_rfl) (by omega) (by omega)
theorem kF37_0 : FieldT Try.prog 37 0 0 := ⟨_, _, 175, Try.underlying37, rfl, rfl, by kernel_rfl⟩
theorem kF37_1 : FieldT Try.prog 37 1 176 := ⟨_, _, 0, Try.underlying37, rfl, rfl, by kernel_rfl⟩
theorem kF79_0 : FieldT Try.prog 79 0 0 := ⟨_, _, 0, Try.underlying79, rfl, rfl, by kernel_rfl⟩
theorem kF79_1 : FieldT Try.prog 79 1 1 := ⟨_, _, 15, Try.underlying79, rfl, rfl, by kernel_rfl⟩
theorem kF79_2 : FieldT Try.prog 79 2 17 := ⟨_, _, 0, Try.underlying79, rfl, rfl, by kernel_rfl⟩
theorem kF82_0 : FieldT Try.prog 82 0 0 := ⟨_, _, 0, Try.underlying82, rfl, rfl, by kernel_rfl⟩
theorem kF82_1 : FieldT Try.prog 82 1 1 := ⟨_, _, 31, Try.underlying82, rfl, rfl, by kernel_rfl⟩
theorem kF82_2 : FieldT Try.prog 82 2 33 := ⟨_, _, 31, Try.underlying82, rfl, rfl, by kernel_rfl⟩
theorem kF87_0 : FieldT Try.prog 87 0 0 := ⟨_, _, 0, Try.underlying87, rfl, rfl, by kernel_rfl⟩
theorem kF87_1 : FieldT Try.prog 87 1 1 := ⟨_, _, 31, Try.underlying87, rfl, rfl, by kernel_rfl⟩
theorem kF87_2 : FieldT Try.prog 87 2 33 := ⟨_, _, 31, Try.underlying87, rfl, rfl, by kernel_rfl⟩
theorem kF115_0 : FieldT Try.prog 115 0 0 := ⟨_, _, 0, Try.underlying115, rfl, rfl, by kernel_rfl⟩
theorem kF115_1 : FieldT Try.prog 115 1 1 := ⟨_, _, 0, Try.underlying115, rfl, rfl, by kernel_rfl⟩
theorem kF115_2 : FieldT Try.prog 115 2 2 := ⟨_, _, 0, Try.underlying115, rfl, rfl, by kernel_rfl⟩
theorem kF115_3 : FieldT Try.prog 115 3 3 := ⟨_, _, 0, Try.underlying115, rfl, rfl, by kernel_rfl⟩
theorem kF115_4 : FieldT Try.prog 115 4 4 := ⟨_, _, 0, Try.underlying115, rfl, rfl, by kernel_rfl⟩
theorem kF115_5 : FieldT Try.prog 115 5 5 := ⟨_, _, 0, Try.underlying115, rfl, rfl, by kernel_rfl⟩
theorem kF115_6 : FieldT Try.prog 115 6 6 := ⟨_, _, 0, Try.underlying115, rfl, rfl, by kernel_rfl⟩
theorem kF115_7 : FieldT Try.prog 115 7 7 := ⟨_, _, 0, Try.underlying115, rfl, rfl, by kernel_rfl⟩
theorem kF118_0 : FieldT Try.prog 118 0 0 := ⟨_, _, 7, Try.underlying118, rfl, rfl, by kernel_rfl⟩
theorem kF118_1 : FieldT Try.prog 118 1 8 := ⟨_, _, 0, Try.underlying118, rfl, rfl, by kernel_rfl⟩
theorem kF118_2 : FieldT Try.prog 118 2 9 := ⟨_, _, 0, Try.underlying118, rfl, rfl, by kernel_rfl⟩
theorem kF118_3 : FieldT Try.prog 118 3 10 := ⟨_, _, 0, Try.underlying118, rfl, rfl, by kernel_rfl⟩
theorem kF144_0 : FieldT Try.prog 144 0 0 := ⟨_, _, 0, Try.underlying144, rfl, rfl, by kernel_rfl⟩
theorem kF144_1 : FieldT Try.prog 144 1 1 := ⟨_, _, 0, Try.underlying144, rfl, rfl, by kernel_rfl⟩
theorem kB3 : Body Try.prog 3 := ⟨_, _, Try.func3, rfl, rfl⟩
theorem kB4 : Body Try.prog 4 := ⟨_, _, Try.func4, rfl, rfl⟩
theorem kB5 : Body Try.prog 5 := ⟨_, _, Try.func5, rfl, rfl⟩
theorem kB6 : Body Try.prog 6 := ⟨_, _, Try.func6, rfl, rfl⟩
theorem kB7 : Body Try.prog 7 := ⟨_, _, Try.func7, rfl, rfl⟩
theorem kB8 : Body Try.prog 8 := ⟨_, _, Try.func8, rfl, rfl⟩
theorem kB9 : Body Try.prog 9 := ⟨_, _, Try.func9, rfl, rfl⟩
theorem kB10 : Body Try.prog 10 := ⟨_, _, Try.func10, rfl, rfl⟩
theorem kB11 : Body Try.prog 11 := ⟨_, _, Try.func11, rfl, rfl⟩
theorem kB12 : Body Try.prog 12 := ⟨_, _, Try.func12, rfl, rfl⟩
theorem kB13 : Body Try.prog 13 := ⟨_, _, Try.func13, rfl, rfl⟩
theorem kB14 : Body Try.prog 14 := ⟨_, _, Try.func14, rfl, rfl⟩
theorem kB15 : Body Try.prog 15 := ⟨_, _, Try.func15, rfl, rfl⟩
theorem kB16 : Body Try.prog 16 := ⟨_, _, Try.func16, rfl, rfl⟩
theorem kB17 : Body Try.prog 17 := ⟨_, _, Try.func17, rfl, rfl⟩
theorem kB18 : Body Try.prog 18 := ⟨_, _, Try.func18, rfl, rfl⟩
theorem kB19 : Body Try.prog 19 := ⟨_, _, Try.func19, rfl, rfl⟩
theorem kB20 : Body Try.prog 20 := ⟨_, _, Try.func20, rfl, rfl⟩
theorem kB21 : Body Try.prog 21 := ⟨_, _, Try.func21, rfl, rfl⟩
theorem kB22 : Body Try.prog 22 := ⟨_, _, Try.func22, rfl, rfl⟩
theorem kB23 : Body Try.prog 23 := ⟨_, _, Try.func23, rfl, rfl⟩
theorem kB24 : Body Try.prog 24 := ⟨_, _, Try.func24, rfl, rfl⟩
theorem kB25 : Body Try.prog 25 := ⟨_, _, Try.func25, rfl, rfl⟩
theorem kB26 : Body Try.prog 26 := ⟨_, _, Try.func26, rfl, rfl⟩
theorem kB27 : Body Try.prog 27 := ⟨_, _, Try.func27, rfl, rfl⟩
theorem kB28 : Body Try.prog 28 := ⟨_, _, Try.func28, rfl, rfl⟩
theorem kB29 : Body Try.prog 29 := ⟨_, _, Try.func29, rfl, rfl⟩
theorem kB30 : Body Try.prog 30 := ⟨_, _, Try.func30, rfl, rfl⟩
theorem kB31 : Body Try.prog 31 := ⟨_, _, Try.func31, rfl, rfl⟩
theorem kB32 : Body Try.prog 32 := ⟨_, _, Try.func32, rfl, rfl⟩
theorem kB33 : Body Try.prog 33 := ⟨_, _, Try.func33, rfl, rfl⟩
theorem kB34 : Body Try.prog 34 := ⟨_, _, Try.func34, rfl, rfl⟩
theorem kB35 : Body Try.prog 35 := ⟨_, _, Try.func35, rfl, rfl⟩
theorem kB36 : Body Try.prog 36 := ⟨_, _, Try.func36, rfl, rfl⟩
theorem kB37 : Body Try.prog 37 := ⟨_, _, Try.func37, rfl, rfl⟩
theorem kB38 : Body Try.prog 38 := ⟨_, _, Try.func38, rfl, rfl⟩
theorem kB39 : Body Try.prog 39 := ⟨_, _, Try.func39, rfl, rfl⟩
theorem kB40 : Body Try.prog 40 := ⟨_, _, Try.func40, rfl, rfl⟩
theorem kB41 : Body Try.prog 41 := ⟨_, _, Try.func41, rfl, rfl⟩
theorem kB42 : Body Try.prog 42 := ⟨_, _, Try.func42, rfl, rfl⟩
theorem kB43 : Body Try.prog 43 := ⟨_, _, Try.func43, rfl, rfl⟩
theorem kB44 : Body Try.prog 44 := ⟨_, _, Try.func44, rfl, rfl⟩
theorem kB45 : Body Try.prog 45 := ⟨_, _, Try.func45, rfl, rfl⟩
theorem kB46 : Body Try.prog 46 := ⟨_, _, Try.func46, rfl, rfl⟩
theorem kB47 : Body Try.prog 47 := ⟨_, _, Try.func47, rfl, rfl⟩
theorem kB48 : Body Try.prog 48 := ⟨_, _, Try.func48, rfl, rfl⟩
theorem kB49 : Body Try.prog 49 := ⟨_, _, Try.func49, rfl, rfl⟩
theorem kB50 : Body Try.prog 50 := ⟨_, _, Try.func50, rfl, rfl⟩
theorem kB51 : Body Try.prog 51 := ⟨_, _, Try.func51, rfl, rfl⟩
theorem kB52 : Body Try.prog 52 := ⟨_, _, Try.func52, rfl, rfl⟩
theorem kB53 : Body Try.prog 53 := ⟨_, _, Try.func53, rfl, rfl⟩
theorem kB54 : Body Try.prog 54 := ⟨_, _, Try.func54, rfl, rfl⟩
theorem kB55 : Body Try.prog 55 := ⟨_, _, Try.func55, rfl, rfl⟩
theorem kB56 : Body Try.prog 56 := ⟨_, _, Try.func56, rfl, rfl⟩
theorem kB57 : Body Try.prog 57 := ⟨_, _, Try.func57, rfl, rfl⟩
theorem kB58 : Body Try.prog 58 := ⟨_, _, Try.func58, rfl, rfl⟩
theorem kB59 : Body Try.prog 59 := ⟨_, _, Try.func59, rfl, rfl⟩
theorem kB60 : Body Try.prog 60 := ⟨_, _, Try.func60, rfl, rfl⟩
theorem kB61 : Body Try.prog 61 := ⟨_, _, Try.func61, rfl, rfl⟩
theorem kB62 : Body Try.prog 62 := ⟨_, _, Try.func62, rfl, rfl⟩
theorem kB63 : Body Try.prog 63 := ⟨_, _, Try.func63, rfl, rfl⟩
theorem kB64 : Body Try.prog 64 := ⟨_, _, Try.func64, rfl, rfl⟩
theorem kB65 : Body Try.prog 65 := ⟨_, _, Try.func65, rfl, rfl⟩
theorem kB66 : Body Try.prog 66 := ⟨_, _, Try.func66, rfl, rfl⟩
theorem kB67 : Body Try.prog 67 := ⟨_, _, Try.func67, rfl, rfl⟩
theorem kB68 : Body Try.prog 68 := ⟨_, _, Try.func68, rfl, rfl⟩
theorem kB69 : Body Try.prog 69 := ⟨_, _, Try.func69, rfl, rfl⟩
theorem kB70 : Body Try.prog 70 := ⟨_, _, Try.func70, rfl, rfl⟩
theorem kB71 : Body Try.prog 71 := ⟨_, _, Try.func71, rfl, rfl⟩
theorem kB72 : Body Try.prog 72 := ⟨_, _, Try.func72, rfl, rfl⟩
theorem kB73 : Body Try.prog 73 := ⟨_, _, Try.func73, rfl, rfl⟩
theorem kB74 : Body Try.prog 74 := ⟨_, _, Try.func74, rfl, rfl⟩
theorem kB75 : Body Try.prog 75 := ⟨_, _, Try.func75, rfl, rfl⟩
theorem kB76 : Body Try.prog 76 := ⟨_, _, Try.func76, rfl, rfl⟩
theorem kB77 : Body Try.prog 77 := ⟨_, _, Try.func77, rfl, rfl⟩
theorem kB78 : Body Try.prog 78 := ⟨_, _, Try.func78, rfl, rfl⟩
theorem kB79 : Body Try.prog 79 := ⟨_, _, Try.func79, rfl, rfl⟩
theorem kB80 : Body Try.prog 80 := ⟨_, _, Try.func80, rfl, rfl⟩
theorem kB81 : Body Try.prog 81 := ⟨_, _, Try.func81, rfl, rfl⟩
theorem kB82 : Body Try.prog 82 := ⟨_, _, Try.func82, rfl, rfl⟩
theorem kB83 : Body Try.prog 83 := ⟨_, _, Try.func83, rfl, rfl⟩
theorem kB84 : Body Try.prog 84 := ⟨_, _, Try.func84, rfl, rfl⟩
theorem kB85 : Body Try.prog 85 := ⟨_, _, Try.func85, rfl, rfl⟩
theorem kB86 : Body Try.prog 86 := ⟨_, _, Try.func86, rfl, rfl⟩
theorem kB87 : Body Try.prog 87 := ⟨_, _, Try.func87, rfl, rfl⟩
theorem kB88 : Body Try.prog 88 := ⟨_, _, Try.func88, rfl, rfl⟩
theorem kB89 : Body Try.prog 89 := ⟨_, _, Try.func89, rfl, rfl⟩
theorem kB90 : Body Try.prog 90 := ⟨_, _, Try.func90, rfl, rfl⟩
theorem kB91 : Body Try.prog 91 := ⟨_, _, Try.func91, rfl, rfl⟩
theorem kB92 : Body Try.prog 92 := ⟨_, _, Try.func92, rfl, rfl⟩
theorem kB93 : Body Try.prog 93 := ⟨_, _, Try.func93, rfl, rfl⟩
theorem kB94 : Body Try.prog 94 := ⟨_, _, Try.func94, rfl, rfl⟩
end Go.Proofs.Ytgkfopodhikckaa
