/- Helpers: functions of the program as Lean functions, and what they compute. No condition. -/
import Derived.Test.YtimddfofkpgclaaEvPart2
set_option maxRecDepth 10000
set_option linter.unusedVariables false
set_option linter.unusedSimpArgs false
namespace Go.Ev
open Go
def ir9_b1 : IC := (.seq (.region false 0 [
         ⟨some 100, .bin .lss, [.tmp 99, .tmp 98], none, 0, []⟩]) (.seq (.cond (.tmp 100) (.skip) (.cut [2, 5, 6, 8, 31] (.exit 2))) (.seq (.block 3 (.seq (.region false 0 [
          ⟨some 101, .mov, [.tmp 99], none, 0, []⟩,
          ⟨some 13, .mov, [.tmp 101], none, 0, []⟩]) (.seq (.region true 0 [
          ⟨some 102, .mov, [.tmp 13], none, 0, []⟩,
          ⟨some 103, .bin .quo, [.tmp 102, .cst (.int .i64 64)], none, 0, [0]⟩,
          ⟨some 104, .mov, [.tmp 5], none, 0, []⟩,
          ⟨some 105, .bin .neq, [.tmp 103, .tmp 104], none, 0, [1, 0, 2]⟩,
          ⟨some 106, .mov, [.tmp 105], none, 0, [3, 1, 0, 2]⟩,
          ⟨some 107, .fieldAddr 0 0, [.tmp 8], some (106, true), 0, [4, 3, 1, 0, 2]⟩,
          ⟨some 108, .load false 1, [.tmp 107], some (106, true), 0, [5, 4, 3, 1, 0, 2]⟩,
          ⟨some 109, .mov, [.tmp 13], some (106, true), 0, [4, 3, 1, 0, 2]⟩,
          ⟨some 110, .idxSl 1, [.tmp 108, .tmp 109], some (106, true), 0, [6, 5, 4, 3, 1, 0, 2, 7]⟩,
          ⟨some 111, .load false 1, [.tmp 110], some (106, true), 0, [8, 6, 5, 4, 3, 1, 0, 2, 7]⟩,
          ⟨some 112, .fieldAddr 0 0, [.tmp 2], some (106, true), 0, [4, 3, 1, 0, 2]⟩,
          ⟨some 113, .load false 1, [.tmp 112], some (106, true), 0, [10, 4, 3, 1, 0, 2]⟩,
          ⟨some 114, .mov, [.tmp 13], some (106, true), 0, [4, 3, 1, 0, 2]⟩,
          ⟨some 115, .idxSl 1, [.tmp 113, .tmp 114], some (106, true), 0, [11, 10, 4, 3, 1, 0, 2, 12]⟩,
          ⟨some 116, .load false 1, [.tmp 115], some (106, true), 0, [13, 11, 10, 4, 3, 1, 0, 2, 12]⟩,
          ⟨some 117, .bin .neq, [.tmp 111, .tmp 116], some (106, true), 0, [9, 8, 6, 5, 4, 3, 1, 0, 2, 7, 14, 13, 11, 10, 12]⟩,
          ⟨some 118, .pick, [.tmp 106, .tmp 117, .cst (.bool false)], none, 0, [4, 3, 1, 0, 2, 15, 9, 8, 6, 5, 7, 14, 13, 11, 10, 12]⟩]) (.cond (.tmp 118) (.seq (.region false 0 [
           ⟨some 4, .mov, [.cst (.bool false)], none, 0, []⟩]) (.cut [4] (.ret))) (.skip))))) (.region false 0 [
         ⟨some 119, .bin .add, [.tmp 99, .cst (.int .i64 1)], none, 0, []⟩,
         ⟨some 99, .mov, [.tmp 119], none, 0, []⟩]))))
def ir9_v1 : List Nat := [2, 5, 6, 8, 31, 98, 99]
def ir9_b0 : IC := (.seq (.region false 0 [
      ⟨some 32, .bin .lss, [.tmp 31, .cst (.int .i64 12)], none, 0, []⟩]) (.seq (.cond (.tmp 32) (.skip) (.cut [] (.exit 0))) (.seq (.block 1 (.seq (.region false 0 [
       ⟨some 33, .mov, [.tmp 31], none, 0, []⟩,
       ⟨some 7, .mov, [.tmp 33], none, 0, []⟩]) (.seq (.region true 4 [
       ⟨some 35, .load true 3, [.tmp 6], none, 0, []⟩,
       ⟨some 36, .mov, [.tmp 5], none, 0, []⟩,
       ⟨some 37, .callS 18, [], none, 0, []⟩,
       ⟨some 38, .callS 28, [.tmp 35, .tmp 36, .tmp 37], none, 1, [0, 1, 2]⟩,
       ⟨some 34, .mov, [.tmp 38], none, 2, [3, 0, 1, 2]⟩,
       ⟨some 39, .extract 0, [.tmp 34], none, 2, [4, 3, 0, 1, 2]⟩,
       ⟨some 40, .extract 1, [.tmp 34], none, 2, [4, 3, 0, 1, 2]⟩,
       ⟨some 41, .extract 2, [.tmp 34], none, 2, [4, 3, 0, 1, 2]⟩,
       ⟨some 8, .alloc 25 (.pair (.nil 34 (.int .u32)) (.pair (.nil 3 (.int .i64)) (.pure (.pair (.int .i64) .unit) (0, ())))), [], none, 2, []⟩,
       ⟨some 9, .alloc 36 (.pure (.pair (.int .i64) (.pair (.int .u32) .unit)) (0, (0, ()))), [], none, 3, []⟩,
       ⟨none, .store 3, [.tmp 8, .tmp 39], none, 4, [8, 5, 4, 3, 0, 1, 2, 9]⟩,
       ⟨none, .store 2, [.tmp 9, .tmp 40], none, 4, [9, 6, 4, 3, 0, 1, 2, 10, 8, 5]⟩,
       ⟨some 10, .mov, [.tmp 41], none, 4, [7, 4, 3, 0, 1, 2, 11, 9, 6, 10, 8, 5]⟩]) (.seq (.seq (.region true 0 [
       ⟨some 42, .fieldAddr 1 1, [.tmp 2], none, 0, []⟩,
       ⟨some 43, .load false 1, [.tmp 42], none, 0, [0]⟩,
       ⟨some 44, .mov, [.tmp 5], none, 0, []⟩,
       ⟨some 45, .idxSl 1, [.tmp 43, .tmp 44], none, 0, [1, 0, 2]⟩,
       ⟨some 46, .load false 1, [.tmp 45], none, 0, [3, 1, 0, 2]⟩,
       ⟨some 47, .mov, [.tmp 7], none, 0, []⟩,
       ⟨some 48, .bin .add, [.tmp 46, .tmp 47], none, 0, [4, 3, 1, 0, 2, 5]⟩,
       ⟨some 49, .fieldAddr 2 2, [.tmp 2], none, 0, []⟩,
       ⟨some 50, .load false 1, [.tmp 49], none, 0, [7]⟩,
       ⟨some 51, .bin .eql, [.tmp 48, .tmp 50], none, 0, [6, 4, 3, 1, 0, 2, 5, 8, 7]⟩]) (.cond (.tmp 51) (.seq (.region false 0 [
        ⟨some 52, .mov, [.tmp 10], none, 0, []⟩,
        ⟨some 53, .bin .eql, [.tmp 52, .cst (.int .i64 19)], none, 0, []⟩,
        ⟨some 54, .mov, [.tmp 53], none, 0, []⟩,
        ⟨some 55, .fieldAddr 0 0, [.tmp 8], some (54, true), 0, []⟩,
        ⟨some 56, .load false 1, [.tmp 55], some (54, true), 0, []⟩,
        ⟨some 57, .len, [.tmp 56], some (54, true), 0, []⟩,
        ⟨some 58, .bin .eql, [.tmp 57, .cst (.int .i64 0)], some (54, true), 0, []⟩,
        ⟨some 59, .pick, [.tmp 54, .tmp 58, .cst (.bool false)], none, 0, []⟩,
        ⟨some 4, .mov, [.tmp 59], none, 0, []⟩]) (.cut [4] (.ret))) (.skip))) (.seq (.seq (.region true 1 [
       ⟨some 60, .mov, [.tmp 10], none, 0, []⟩,
       ⟨some 61, .bin .neq, [.tmp 60, .cst (.int .i64 0)], none, 0, [0]⟩,
       ⟨some 62, .mov, [.tmp 61], none, 0, [1, 0]⟩,
       ⟨some 63, .load true 3, [.tmp 2], some (62, false), 0, [2, 1, 0]⟩,
       ⟨some 64, .load true 3, [.tmp 8], some (62, false), 0, [2, 1, 0]⟩,
       ⟨some 65, .callS 23, [.tmp 63, .tmp 64], some (62, false), 0, [3, 2, 1, 0, 4]⟩,
       ⟨some 66, .not, [.tmp 65], some (62, false), 1, [5, 3, 2, 1, 0, 4]⟩,
       ⟨some 67, .pick, [.tmp 62, .cst (.bool true), .tmp 66], none, 1, [2, 1, 0, 6, 5, 3, 4]⟩,
       ⟨some 68, .mov, [.tmp 67], none, 1, [7, 2, 1, 0, 6, 5, 3, 4]⟩,
       ⟨some 69, .fieldAddr 1 1, [.tmp 8], some (68, false), 1, [8, 7, 2, 1, 0, 6, 5, 3, 4]⟩,
       ⟨some 70, .load false 1, [.tmp 69], some (68, false), 1, [9, 8, 7, 2, 1, 0, 6, 5, 3, 4]⟩,
       ⟨some 71, .mov, [.tmp 5], some (68, false), 1, [8, 7, 2, 1, 0, 6, 5, 3, 4]⟩,
       ⟨some 72, .idxSl 1, [.tmp 70, .tmp 71], some (68, false), 1, [10, 9, 8, 7, 2, 1, 0, 6, 5, 3, 4, 11]⟩,
       ⟨some 73, .load false 1, [.tmp 72], some (68, false), 1, [12, 10, 9, 8, 7, 2, 1, 0, 6, 5, 3, 4, 11]⟩,
       ⟨some 74, .fieldAddr 1 1, [.tmp 2], some (68, false), 1, [8, 7, 2, 1, 0, 6, 5, 3, 4]⟩,
       ⟨some 75, .load false 1, [.tmp 74], some (68, false), 1, [14, 8, 7, 2, 1, 0, 6, 5, 3, 4]⟩,
       ⟨some 76, .mov, [.tmp 5], some (68, false), 1, [8, 7, 2, 1, 0, 6, 5, 3, 4]⟩,
       ⟨some 77, .idxSl 1, [.tmp 75, .tmp 76], some (68, false), 1, [15, 14, 8, 7, 2, 1, 0, 6, 5, 3, 4, 16]⟩,
       ⟨some 78, .load false 1, [.tmp 77], some (68, false), 1, [17, 15, 14, 8, 7, 2, 1, 0, 6, 5, 3, 4, 16]⟩,
       ⟨some 79, .mov, [.tmp 7], some (68, false), 1, [8, 7, 2, 1, 0, 6, 5, 3, 4]⟩,
       ⟨some 80, .bin .add, [.tmp 78, .tmp 79], some (68, false), 1, [18, 17, 15, 14, 8, 7, 2, 1, 0, 6, 5, 3, 4, 16, 19]⟩,
       ⟨some 81, .bin .add, [.tmp 80, .cst (.int .i64 1)], some (68, false), 1, [20, 18, 17, 15, 14, 8, 7, 2, 1, 0, 6, 5, 3, 4, 16, 19]⟩,
       ⟨some 82, .bin .neq, [.tmp 73, .tmp 81], some (68, false), 1, [13, 12, 10, 9, 8, 7, 2, 1, 0, 6, 5, 3, 4, 11, 21, 20, 18, 17, 15, 14, 16, 19]⟩,
       ⟨some 83, .pick, [.tmp 68, .cst (.bool true), .tmp 82], none, 1, [8, 7, 2, 1, 0, 6, 5, 3, 4, 22, 13, 12, 10, 9, 11, 21, 20, 18, 17, 15, 14, 16, 19]⟩]) (.cond (.tmp 83) (.seq (.region false 0 [
        ⟨some 4, .mov, [.cst (.bool false)], none, 0, []⟩]) (.cut [4] (.ret))) (.skip))) (.seq (.seq (.region false 1 [
       ⟨some 85, .load true 3, [.tmp 8], none, 0, []⟩,
       ⟨some 86, .mov, [.tmp 5], none, 0, []⟩,
       ⟨some 87, .callS 26, [.tmp 85, .tmp 86], none, 0, []⟩,
       ⟨some 84, .mov, [.tmp 87], none, 0, []⟩,
       ⟨some 88, .extract 0, [.tmp 84], none, 0, []⟩,
       ⟨some 89, .extract 1, [.tmp 84], none, 0, []⟩,
       ⟨some 11, .mov, [.tmp 88], none, 0, []⟩,
       ⟨some 12, .mov, [.tmp 89], none, 0, []⟩]) (.seq (.region false 0 [
       ⟨some 90, .mov, [.tmp 11], none, 0, []⟩,
       ⟨some 91, .not, [.tmp 90], none, 0, []⟩,
       ⟨some 92, .mov, [.tmp 91], none, 0, []⟩,
       ⟨some 93, .mov, [.tmp 12], some (92, false), 0, []⟩,
       ⟨some 94, .bin .neq, [.tmp 93, .cst (.int .i64 0)], some (92, false), 0, []⟩,
       ⟨some 95, .pick, [.tmp 92, .cst (.bool true), .tmp 94], none, 0, []⟩]) (.cond (.tmp 95) (.seq (.region false 0 [
        ⟨some 4, .mov, [.cst (.bool false)], none, 0, []⟩]) (.cut [4] (.ret))) (.skip)))) (.seq (.seq (.region false 0 [
       ⟨some 96, .fieldAddr 0 0, [.tmp 2], none, 0, []⟩,
       ⟨some 97, .load false 1, [.tmp 96], none, 0, []⟩,
       ⟨some 98, .len, [.tmp 97], none, 0, []⟩,
       ⟨some 99, .mov, [.cst (.int .i64 0)], none, 0, []⟩]) (.block 2 (.loop ir9_v1 ir9_b1))) (.region false 0 [
       ⟨some 120, .load true 3, [.tmp 8], none, 0, []⟩,
       ⟨none, .store 3, [.tmp 6, .tmp 120], none, 0, []⟩])))))))) (.region false 0 [
      ⟨some 121, .bin .add, [.tmp 31, .cst (.int .i64 1)], none, 0, []⟩,
      ⟨some 31, .mov, [.tmp 121], none, 0, []⟩]))))
def ir9_v0 : List Nat := [2, 5, 6, 31]
def ir9_bt0 {R : Type} (o1 : St → (Ex → St → Option R) → Option R) : LT R := (.node .nil (.node .nil (.node (.node (.node .nil (.node .nil (.node .nil (.node .nil (.node .nil (.node (.node .nil (.node (.orc o1) .nil)) .nil)))))) .nil) .nil)))
def ir9_t {R : Type} (o0 : St → (Ex → St → Option R) → Option R) : LT R := (.node .nil (.node .nil (.node .nil (.node .nil (.node .nil (.node (.node .nil (.node (.orc o0) .nil)) .nil))))))
def ir9 : IFn :=
  { ntmps := 122, results := [.inl 4], body := (.seq (.region false 1 [
    ⟨some 2, .box 25, [.tmp 0], none, 0, []⟩,
    ⟨some 4, .mov, [.cst (.bool false)], none, 0, []⟩]) (.seq (.seq (.region false 1 [
    ⟨some 14, .callS 11, [], none, 0, []⟩,
    ⟨some 15, .not, [.tmp 14], none, 0, []⟩]) (.cond (.tmp 15) (.seq (.region false 0 [
     ⟨some 4, .mov, [.cst (.bool false)], none, 0, []⟩]) (.cut [4] (.ret))) (.skip))) (.seq (.seq (.region false 2 [
    ⟨some 16, .load true 3, [.tmp 2], none, 0, []⟩,
    ⟨some 17, .callS 12, [.tmp 16], none, 0, []⟩,
    ⟨some 18, .not, [.tmp 17], none, 0, []⟩,
    ⟨some 19, .mov, [.tmp 18], none, 0, []⟩,
    ⟨some 20, .load true 3, [.tmp 2], some (19, false), 0, []⟩,
    ⟨some 21, .callS 16, [.tmp 20], some (19, false), 0, []⟩,
    ⟨some 22, .not, [.tmp 21], some (19, false), 0, []⟩,
    ⟨some 23, .pick, [.tmp 19, .cst (.bool true), .tmp 22], none, 0, []⟩]) (.cond (.tmp 23) (.seq (.region false 0 [
     ⟨some 4, .mov, [.cst (.bool true)], none, 0, []⟩]) (.cut [4] (.ret))) (.skip))) (.seq (.region false 0 [
    ⟨some 24, .mov, [.tmp 1], none, 0, []⟩,
    ⟨some 25, .conv .i64, [.tmp 24], none, 0, []⟩,
    ⟨some 26, .fieldAddr 1 1, [.tmp 2], none, 0, []⟩,
    ⟨some 27, .load false 1, [.tmp 26], none, 0, []⟩,
    ⟨some 28, .len, [.tmp 27], none, 0, []⟩,
    ⟨some 29, .bin .rem, [.tmp 25, .tmp 28], none, 0, []⟩,
    ⟨some 5, .mov, [.tmp 29], none, 0, []⟩]) (.seq (.region false 1 [
    ⟨some 30, .load true 3, [.tmp 2], none, 0, []⟩,
    ⟨some 6, .alloc 25 (.pair (.nil 34 (.int .u32)) (.pair (.nil 3 (.int .i64)) (.pure (.pair (.int .i64) .unit) (0, ())))), [], none, 0, []⟩,
    ⟨none, .store 3, [.tmp 6, .tmp 30], none, 0, []⟩]) (.seq (.seq (.region false 0 [
    ⟨some 31, .mov, [.cst (.int .i64 0)], none, 0, []⟩]) (.block 0 (.loop ir9_v0 ir9_b0))) (.seq (.region false 0 [
    ⟨some 4, .mov, [.cst (.bool true)], none, 0, []⟩]) (.cut [4] (.ret))))))))) }
theorem ir9_bt0ok {R : Type} {summ : Nat → Option Summ} {fu : Nat} {call : Nat → List CV → List Blk → (CV → List Blk → Option R) → Option R} {o1 : St → (Ex → St → Option R) → Option R} (h1 : ∀ T k r, o1 T k = some r → evLoopN (evCode summ fu call ir9_b1) (St.norm ir9_v1) fu T k = some r) : LTok summ fu call (ir9_bt0 o1) ir9_b0 := ⟨trivial, ⟨trivial, ⟨⟨trivial, ⟨trivial, ⟨trivial, ⟨trivial, ⟨trivial, ⟨⟨trivial, h1⟩, trivial⟩⟩⟩⟩⟩⟩, trivial⟩⟩⟩
theorem ir9_tok {R : Type} {summ : Nat → Option Summ} {fu : Nat} {call : Nat → List CV → List Blk → (CV → List Blk → Option R) → Option R} {o0 : St → (Ex → St → Option R) → Option R} (h0 : ∀ T k r, o0 T k = some r → evLoopN (evCode summ fu call ir9_b0) (St.norm ir9_v0) fu T k = some r) : LTok summ fu call (ir9_t o0) ir9.body := ⟨trivial, ⟨trivial, ⟨trivial, ⟨trivial, ⟨trivial, ⟨⟨trivial, h0⟩, trivial⟩⟩⟩⟩⟩⟩


def ir10_b5 : IC := (.cond (.tmp 78) (.seq (.region false 0 [
           ⟨some 79, .mov, [.tmp 15], none, 0, []⟩,
           ⟨some 80, .bin .eql, [.tmp 79, .cst (.int .i64 19)], none, 0, []⟩,
           ⟨some 81, .mov, [.tmp 80], none, 0, []⟩,
           ⟨some 82, .mov, [.tmp 18], some (81, true), 0, []⟩,
           ⟨some 83, .bin .eql, [.tmp 82, .cst (.int .i64 19)], some (81, true), 0, []⟩,
           ⟨some 84, .pick, [.tmp 81, .tmp 83, .cst (.bool false)], none, 0, []⟩,
           ⟨some 85, .mov, [.tmp 84], none, 0, []⟩,
           ⟨some 86, .mov, [.tmp 21], some (85, true), 0, []⟩,
           ⟨some 87, .bin .eql, [.tmp 86, .cst (.int .i64 19)], some (85, true), 0, []⟩,
           ⟨some 88, .pick, [.tmp 85, .tmp 87, .cst (.bool false)], none, 0, []⟩,
           ⟨some 89, .mov, [.tmp 88], none, 0, []⟩,
           ⟨some 90, .mov, [.tmp 24], some (89, true), 0, []⟩,
           ⟨some 91, .bin .eql, [.tmp 90, .cst (.int .i64 19)], some (89, true), 0, []⟩,
           ⟨some 92, .pick, [.tmp 89, .tmp 91, .cst (.bool false)], none, 0, []⟩,
           ⟨some 10, .mov, [.tmp 92], none, 0, []⟩]) (.cut [10] (.ret))) (.skip))
def ir10_v5 : List Nat := [5, 8, 13, 14, 15, 16, 17, 18, 19, 20, 21, 22, 23, 24, 78]
def ir10_b9 : IC := (.seq (.region false 0 [
              ⟨some 173, .bin .lss, [.tmp 172, .tmp 171], none, 0, []⟩]) (.seq (.cond (.tmp 173) (.skip) (.cut [] (.exit 0))) (.seq (.block 1 (.seq (.region false 0 [
               ⟨some 174, .mov, [.tmp 172], none, 0, []⟩,
               ⟨some 25, .mov, [.tmp 174], none, 0, []⟩]) (.seq (.region true 0 [
               ⟨some 175, .fieldAddr 0 0, [.tmp 16], none, 0, []⟩,
               ⟨some 176, .load false 1, [.tmp 175], none, 0, [0]⟩,
               ⟨some 177, .mov, [.tmp 25], none, 0, []⟩,
               ⟨some 178, .idxSl 1, [.tmp 176, .tmp 177], none, 0, [1, 0, 2]⟩,
               ⟨some 179, .load false 1, [.tmp 178], none, 0, [3, 1, 0, 2]⟩,
               ⟨some 180, .fieldAddr 0 0, [.tmp 5], none, 0, []⟩,
               ⟨some 181, .load false 1, [.tmp 180], none, 0, [5]⟩,
               ⟨some 182, .mov, [.tmp 25], none, 0, []⟩,
               ⟨some 183, .idxSl 1, [.tmp 181, .tmp 182], none, 0, [6, 5, 7]⟩,
               ⟨some 184, .load false 1, [.tmp 183], none, 0, [8, 6, 5, 7]⟩,
               ⟨some 185, .load false 1, [.tmp 8], none, 0, []⟩,
               ⟨some 186, .bin .andNot, [.tmp 184, .tmp 185], none, 0, [9, 8, 6, 5, 7, 10]⟩,
               ⟨some 187, .fieldAddr 0 0, [.tmp 13], none, 0, []⟩,
               ⟨some 188, .load false 1, [.tmp 187], none, 0, [12]⟩,
               ⟨some 189, .mov, [.tmp 25], none, 0, []⟩,
               ⟨some 190, .idxSl 1, [.tmp 188, .tmp 189], none, 0, [13, 12, 14]⟩,
               ⟨some 191, .load false 1, [.tmp 190], none, 0, [15, 13, 12, 14]⟩,
               ⟨some 192, .load false 1, [.tmp 8], none, 0, []⟩,
               ⟨some 193, .bin .and, [.tmp 191, .tmp 192], none, 0, [16, 15, 13, 12, 14, 17]⟩,
               ⟨some 194, .bin .or, [.tmp 186, .tmp 193], none, 0, [11, 9, 8, 6, 5, 7, 10, 18, 16, 15, 13, 12, 14, 17]⟩,
               ⟨some 195, .bin .neq, [.tmp 179, .tmp 194], none, 0, [4, 3, 1, 0, 2, 19, 11, 9, 8, 6, 5, 7, 10, 18, 16, 15, 13, 12, 14, 17]⟩]) (.cond (.tmp 195) (.seq (.region false 0 [
                ⟨some 10, .mov, [.cst (.bool false)], none, 0, []⟩]) (.cut [10] (.ret))) (.skip))))) (.region false 0 [
              ⟨some 196, .bin .add, [.tmp 172, .cst (.int .i64 1)], none, 0, []⟩,
              ⟨some 172, .mov, [.tmp 196], none, 0, []⟩]))))
def ir10_v9 : List Nat := [5, 8, 13, 16, 171, 172]
def ir10_b8 : IC := (.seq (.seq (.region false 0 [
            ⟨some 169, .fieldAddr 0 0, [.tmp 5], none, 0, []⟩,
            ⟨some 170, .load false 1, [.tmp 169], none, 0, []⟩,
            ⟨some 171, .len, [.tmp 170], none, 0, []⟩,
            ⟨some 172, .mov, [.cst (.int .i64 0)], none, 0, []⟩]) (.block 0 (.loop ir10_v9 ir10_b9))) (.seq (.region false 0 [
            ⟨some 10, .mov, [.cst (.bool true)], none, 0, []⟩]) (.cut [10] (.ret))))
def ir10_v8 : List Nat := [5, 8, 13, 16]
def ir10_bt8 {R : Type} (o9 : St → (Ex → St → Option R) → Option R) : LT R := (.node (.node .nil (.node (.orc o9) .nil)) .nil)
def ir10_b7 : IC := (.seq (.seq (.region false 5 [
           ⟨some 127, .fieldAddr 1 1, [.tmp 14], none, 0, []⟩,
           ⟨some 128, .load false 1, [.tmp 127], none, 0, []⟩,
           ⟨some 129, .load false 1, [.tmp 8], none, 0, []⟩,
           ⟨some 130, .bin .neq, [.tmp 128, .tmp 129], none, 0, []⟩,
           ⟨some 131, .mov, [.tmp 130], none, 0, []⟩,
           ⟨some 132, .fieldAddr 1 1, [.tmp 17], some (131, false), 0, []⟩,
           ⟨some 133, .load false 1, [.tmp 132], some (131, false), 0, []⟩,
           ⟨some 134, .load false 1, [.tmp 8], some (131, false), 0, []⟩,
           ⟨some 135, .bin .neq, [.tmp 133, .tmp 134], some (131, false), 0, []⟩,
           ⟨some 136, .pick, [.tmp 131, .cst (.bool true), .tmp 135], none, 0, []⟩,
           ⟨some 137, .mov, [.tmp 136], none, 0, []⟩,
           ⟨some 138, .load true 3, [.tmp 19], some (137, false), 0, []⟩,
           ⟨some 139, .load true 3, [.tmp 5], some (137, false), 0, []⟩,
           ⟨some 140, .callS 15, [.tmp 138, .tmp 139], some (137, false), 0, []⟩,
           ⟨some 141, .not, [.tmp 140], some (137, false), 0, []⟩,
           ⟨some 142, .pick, [.tmp 137, .cst (.bool true), .tmp 141], none, 0, []⟩,
           ⟨some 143, .mov, [.tmp 142], none, 0, []⟩,
           ⟨some 144, .load true 3, [.tmp 22], some (143, false), 0, []⟩,
           ⟨some 145, .load true 3, [.tmp 13], some (143, false), 0, []⟩,
           ⟨some 146, .callS 15, [.tmp 144, .tmp 145], some (143, false), 0, []⟩,
           ⟨some 147, .not, [.tmp 146], some (143, false), 0, []⟩,
           ⟨some 148, .pick, [.tmp 143, .cst (.bool true), .tmp 147], none, 0, []⟩,
           ⟨some 149, .mov, [.tmp 148], none, 0, []⟩,
           ⟨some 150, .load true 3, [.tmp 5], some (149, false), 0, []⟩,
           ⟨some 151, .load true 3, [.tmp 13], some (149, false), 0, []⟩,
           ⟨some 152, .callS 23, [.tmp 150, .tmp 151], some (149, false), 0, []⟩,
           ⟨some 153, .not, [.tmp 152], some (149, false), 0, []⟩,
           ⟨some 154, .pick, [.tmp 149, .cst (.bool true), .tmp 153], none, 0, []⟩,
           ⟨some 155, .mov, [.tmp 154], none, 0, []⟩,
           ⟨some 156, .load true 3, [.tmp 5], some (155, false), 0, []⟩,
           ⟨some 157, .load true 3, [.tmp 16], some (155, false), 0, []⟩,
           ⟨some 158, .callS 23, [.tmp 156, .tmp 157], some (155, false), 0, []⟩,
           ⟨some 159, .not, [.tmp 158], some (155, false), 0, []⟩,
           ⟨some 160, .pick, [.tmp 155, .cst (.bool true), .tmp 159], none, 0, []⟩,
           ⟨some 161, .mov, [.tmp 160], none, 0, []⟩,
           ⟨some 162, .fieldAddr 1 1, [.tmp 16], some (161, false), 0, []⟩,
           ⟨some 163, .load false 1, [.tmp 162], some (161, false), 0, []⟩,
           ⟨some 164, .fieldAddr 1 1, [.tmp 13], some (161, false), 0, []⟩,
           ⟨some 165, .load false 1, [.tmp 164], some (161, false), 0, []⟩,
           ⟨some 166, .callS 24, [.tmp 163, .tmp 165], some (161, false), 0, []⟩,
           ⟨some 167, .not, [.tmp 166], some (161, false), 0, []⟩,
           ⟨some 168, .pick, [.tmp 161, .cst (.bool true), .tmp 167], none, 0, []⟩]) (.cond (.tmp 168) (.seq (.region false 0 [
            ⟨some 10, .mov, [.cst (.bool false)], none, 0, []⟩]) (.cut [10] (.ret))) (.skip))) (.cut ir10_v8 ir10_b8))
def ir10_v7 : List Nat := [5, 8, 13, 14, 16, 17, 19, 22]
def ir10_bt7 {R : Type} (o8 : St → (Ex → St → Option R) → Option R) : LT R := (.node .nil (.orc o8))
def ir10_b6 : IC := (.seq (.seq (.region false 0 [
          ⟨some 93, .mov, [.tmp 15], none, 0, []⟩,
          ⟨some 94, .bin .neq, [.tmp 93, .cst (.int .i64 0)], none, 0, []⟩,
          ⟨some 95, .mov, [.tmp 94], none, 0, []⟩,
          ⟨some 96, .mov, [.tmp 18], some (95, false), 0, []⟩,
          ⟨some 97, .bin .neq, [.tmp 96, .cst (.int .i64 18)], some (95, false), 0, []⟩,
          ⟨some 98, .pick, [.tmp 95, .cst (.bool true), .tmp 97], none, 0, []⟩,
          ⟨some 99, .mov, [.tmp 98], none, 0, []⟩,
          ⟨some 100, .mov, [.tmp 21], some (99, false), 0, []⟩,
          ⟨some 101, .bin .neq, [.tmp 100, .cst (.int .i64 18)], some (99, false), 0, []⟩,
          ⟨some 102, .pick, [.tmp 99, .cst (.bool true), .tmp 101], none, 0, []⟩,
          ⟨some 103, .mov, [.tmp 102], none, 0, []⟩,
          ⟨some 104, .mov, [.tmp 24], some (103, false), 0, []⟩,
          ⟨some 105, .bin .neq, [.tmp 104, .cst (.int .i64 0)], some (103, false), 0, []⟩,
          ⟨some 106, .pick, [.tmp 103, .cst (.bool true), .tmp 105], none, 0, []⟩,
          ⟨some 107, .mov, [.tmp 106], none, 0, []⟩,
          ⟨some 108, .fieldAddr 0 0, [.tmp 14], some (107, false), 0, []⟩,
          ⟨some 109, .load false 1, [.tmp 108], some (107, false), 0, []⟩,
          ⟨some 110, .bin .neq, [.tmp 109, .cst (.int .i64 1)], some (107, false), 0, []⟩,
          ⟨some 111, .pick, [.tmp 107, .cst (.bool true), .tmp 110], none, 0, []⟩,
          ⟨some 112, .mov, [.tmp 111], none, 0, []⟩,
          ⟨some 113, .fieldAddr 0 0, [.tmp 17], some (112, false), 0, []⟩,
          ⟨some 114, .load false 1, [.tmp 113], some (112, false), 0, []⟩,
          ⟨some 115, .bin .neq, [.tmp 114, .cst (.int .i64 0)], some (112, false), 0, []⟩,
          ⟨some 116, .pick, [.tmp 112, .cst (.bool true), .tmp 115], none, 0, []⟩,
          ⟨some 117, .mov, [.tmp 116], none, 0, []⟩,
          ⟨some 118, .fieldAddr 0 0, [.tmp 20], some (117, false), 0, []⟩,
          ⟨some 119, .load false 1, [.tmp 118], some (117, false), 0, []⟩,
          ⟨some 120, .bin .neq, [.tmp 119, .cst (.int .i64 0)], some (117, false), 0, []⟩,
          ⟨some 121, .pick, [.tmp 117, .cst (.bool true), .tmp 120], none, 0, []⟩,
          ⟨some 122, .mov, [.tmp 121], none, 0, []⟩,
          ⟨some 123, .fieldAddr 0 0, [.tmp 23], some (122, false), 0, []⟩,
          ⟨some 124, .load false 1, [.tmp 123], some (122, false), 0, []⟩,
          ⟨some 125, .bin .neq, [.tmp 124, .cst (.int .i64 999)], some (122, false), 0, []⟩,
          ⟨some 126, .pick, [.tmp 122, .cst (.bool true), .tmp 125], none, 0, []⟩]) (.cond (.tmp 126) (.seq (.region false 0 [
           ⟨some 10, .mov, [.cst (.bool false)], none, 0, []⟩]) (.cut [10] (.ret))) (.skip))) (.cut ir10_v7 ir10_b7))
def ir10_v6 : List Nat := [5, 8, 13, 14, 15, 16, 17, 18, 19, 20, 21, 22, 23, 24]
def ir10_bt6 {R : Type} (o7 : St → (Ex → St → Option R) → Option R) : LT R := (.node .nil (.orc o7))
def ir10_b4 : IC := (.seq (.seq (.region true 0 [
         ⟨some 67, .load false 1, [.tmp 9], none, 0, []⟩,
         ⟨some 68, .mov, [.tmp 67], none, 0, [0]⟩,
         ⟨some 69, .fieldAddr 1 1, [.tmp 5], some (68, true), 0, [1, 0]⟩,
         ⟨some 70, .load false 1, [.tmp 69], some (68, true), 0, [2, 1, 0]⟩,
         ⟨some 71, .load false 1, [.tmp 11], some (68, true), 0, [1, 0]⟩,
         ⟨some 72, .bin .quo, [.tmp 71, .cst (.int .i64 64)], some (68, true), 0, [4, 1, 0]⟩,
         ⟨some 73, .idxSl 1, [.tmp 70, .tmp 72], some (68, true), 0, [3, 2, 1, 0, 5, 4]⟩,
         ⟨some 74, .load false 1, [.tmp 73], some (68, true), 0, [6, 3, 2, 1, 0, 5, 4]⟩,
         ⟨some 75, .fieldAddr 2 2, [.tmp 5], some (68, true), 0, [1, 0]⟩,
         ⟨some 76, .load false 1, [.tmp 75], some (68, true), 0, [8, 1, 0]⟩,
         ⟨some 77, .bin .eql, [.tmp 74, .tmp 76], some (68, true), 0, [7, 6, 3, 2, 1, 0, 5, 4, 9, 8]⟩,
         ⟨some 78, .pick, [.tmp 68, .tmp 77, .cst (.bool false)], none, 0, [1, 0, 10, 7, 6, 3, 2, 5, 4, 9, 8]⟩]) (.cut ir10_v5 ir10_b5)) (.cut ir10_v6 ir10_b6))
def ir10_v4 : List Nat := [5, 8, 9, 11, 13, 14, 15, 16, 17, 18, 19, 20, 21, 22, 23, 24]
def ir10_bt4 {R : Type} (o5 o6 : St → (Ex → St → Option R) → Option R) : LT R := (.node (.node .nil (.orc o5)) (.orc o6))
def ir10_b3 : IC := (.seq (.region false 2 [
        ⟨some 62, .mov, [.tmp 12], none, 0, []⟩,
        ⟨some 63, .callv, [.tmp 62, .cst (.int .i64 1000)], none, 0, []⟩,
        ⟨some 61, .mov, [.tmp 63], none, 0, []⟩,
        ⟨some 64, .extract 0, [.tmp 61], none, 0, []⟩,
        ⟨some 65, .extract 1, [.tmp 61], none, 0, []⟩,
        ⟨some 66, .extract 2, [.tmp 61], none, 0, []⟩,
        ⟨some 22, .alloc 25 (.pair (.nil 34 (.int .u32)) (.pair (.nil 3 (.int .i64)) (.pure (.pair (.int .i64) .unit) (0, ())))), [], none, 0, []⟩,
        ⟨some 23, .alloc 36 (.pure (.pair (.int .i64) (.pair (.int .u32) .unit)) (0, (0, ()))), [], none, 0, []⟩,
        ⟨none, .store 3, [.tmp 22, .tmp 64], none, 0, []⟩,
        ⟨none, .store 2, [.tmp 23, .tmp 65], none, 0, []⟩,
        ⟨some 24, .mov, [.tmp 66], none, 0, []⟩]) (.cut ir10_v4 ir10_b4))
def ir10_v3 : List Nat := [5, 8, 9, 11, 12, 13, 14, 15, 16, 17, 18, 19, 20, 21]
def ir10_bt3 {R : Type} (o4 : St → (Ex → St → Option R) → Option R) : LT R := (.node .nil (.orc o4))
def ir10_b2 : IC := (.seq (.region false 2 [
       ⟨some 56, .mov, [.tmp 12], none, 0, []⟩,
       ⟨some 57, .callv, [.tmp 56, .cst (.int .i64 0)], none, 0, []⟩,
       ⟨some 55, .mov, [.tmp 57], none, 0, []⟩,
       ⟨some 58, .extract 0, [.tmp 55], none, 0, []⟩,
       ⟨some 59, .extract 1, [.tmp 55], none, 0, []⟩,
       ⟨some 60, .extract 2, [.tmp 55], none, 0, []⟩,
       ⟨some 19, .alloc 25 (.pair (.nil 34 (.int .u32)) (.pair (.nil 3 (.int .i64)) (.pure (.pair (.int .i64) .unit) (0, ())))), [], none, 0, []⟩,
       ⟨some 20, .alloc 36 (.pure (.pair (.int .i64) (.pair (.int .u32) .unit)) (0, (0, ()))), [], none, 0, []⟩,
       ⟨none, .store 3, [.tmp 19, .tmp 58], none, 0, []⟩,
       ⟨none, .store 2, [.tmp 20, .tmp 59], none, 0, []⟩,
       ⟨some 21, .mov, [.tmp 60], none, 0, []⟩]) (.cut ir10_v3 ir10_b3))
def ir10_v2 : List Nat := [5, 8, 9, 11, 12, 13, 14, 15, 16, 17, 18]
def ir10_bt2 {R : Type} (o3 : St → (Ex → St → Option R) → Option R) : LT R := (.node .nil (.orc o3))
def ir10_b1 : IC := (.seq (.region false 2 [
      ⟨some 50, .mov, [.tmp 12], none, 0, []⟩,
      ⟨some 51, .callv, [.tmp 50, .cst (.int .i64 1)], none, 0, []⟩,
      ⟨some 49, .mov, [.tmp 51], none, 0, []⟩,
      ⟨some 52, .extract 0, [.tmp 49], none, 0, []⟩,
      ⟨some 53, .extract 1, [.tmp 49], none, 0, []⟩,
      ⟨some 54, .extract 2, [.tmp 49], none, 0, []⟩,
      ⟨some 16, .alloc 25 (.pair (.nil 34 (.int .u32)) (.pair (.nil 3 (.int .i64)) (.pure (.pair (.int .i64) .unit) (0, ())))), [], none, 0, []⟩,
      ⟨some 17, .alloc 36 (.pure (.pair (.int .i64) (.pair (.int .u32) .unit)) (0, (0, ()))), [], none, 0, []⟩,
      ⟨none, .store 3, [.tmp 16, .tmp 52], none, 0, []⟩,
      ⟨none, .store 2, [.tmp 17, .tmp 53], none, 0, []⟩,
      ⟨some 18, .mov, [.tmp 54], none, 0, []⟩]) (.cut ir10_v2 ir10_b2))
def ir10_v1 : List Nat := [5, 8, 9, 11, 12, 13, 14, 15]
def ir10_bt1 {R : Type} (o2 : St → (Ex → St → Option R) → Option R) : LT R := (.node .nil (.orc o2))
def ir10_b0 : IC := (.seq (.region false 1 [
     ⟨some 36, .mov, [.tmp 1], none, 0, []⟩,
     ⟨some 37, .conv .i64, [.tmp 36], none, 0, []⟩,
     ⟨some 38, .fieldAddr 0 0, [.tmp 5], none, 0, []⟩,
     ⟨some 39, .load false 1, [.tmp 38], none, 0, []⟩,
     ⟨some 40, .len, [.tmp 39], none, 0, []⟩,
     ⟨some 41, .bin .rem, [.tmp 37, .tmp 40], none, 0, []⟩,
     ⟨some 11, .alloc 3 (.int .i64 0), [], none, 0, []⟩,
     ⟨none, .store 1, [.tmp 11, .tmp 41], none, 0, []⟩]) (.seq (.region false 0 [
     ⟨some 42, .mkFunc 31, [.tmp 8, .tmp 9, .tmp 5, .tmp 11, .tmp 7], none, 0, []⟩,
     ⟨some 12, .mov, [.tmp 42], none, 0, []⟩]) (.seq (.region false 2 [
     ⟨some 44, .mov, [.tmp 12], none, 0, []⟩,
     ⟨some 45, .callv, [.tmp 44, .cst (.int .i64 2)], none, 0, []⟩,
     ⟨some 43, .mov, [.tmp 45], none, 0, []⟩,
     ⟨some 46, .extract 0, [.tmp 43], none, 0, []⟩,
     ⟨some 47, .extract 1, [.tmp 43], none, 0, []⟩,
     ⟨some 48, .extract 2, [.tmp 43], none, 0, []⟩,
     ⟨some 13, .alloc 25 (.pair (.nil 34 (.int .u32)) (.pair (.nil 3 (.int .i64)) (.pure (.pair (.int .i64) .unit) (0, ())))), [], none, 0, []⟩,
     ⟨some 14, .alloc 36 (.pure (.pair (.int .i64) (.pair (.int .u32) .unit)) (0, (0, ()))), [], none, 0, []⟩,
     ⟨none, .store 3, [.tmp 13, .tmp 46], none, 0, []⟩,
     ⟨none, .store 2, [.tmp 14, .tmp 47], none, 0, []⟩,
     ⟨some 15, .mov, [.tmp 48], none, 0, []⟩]) (.cut ir10_v1 ir10_b1))))
def ir10_v0 : List Nat := [1, 5, 7, 8, 9]
def ir10_bt0 {R : Type} (o1 : St → (Ex → St → Option R) → Option R) : LT R := (.node .nil (.node .nil (.node .nil (.orc o1))))
def ir10_t {R : Type} (o0 : St → (Ex → St → Option R) → Option R) : LT R := (.node .nil (.node .nil (.node .nil (.orc o0))))
def ir10 : IFn :=
  { ntmps := 197, results := [.inl 10], body := (.seq (.region false 4 [
    ⟨some 5, .box 25, [.tmp 0], none, 0, []⟩,
    ⟨some 7, .box 34, [.tmp 2], none, 0, []⟩,
    ⟨some 8, .box 34, [.tmp 3], none, 0, []⟩,
    ⟨some 9, .box 4, [.tmp 4], none, 0, []⟩,
    ⟨some 10, .mov, [.cst (.bool false)], none, 0, []⟩]) (.seq (.seq (.region false 1 [
    ⟨some 26, .callS 11, [], none, 0, []⟩,
    ⟨some 27, .not, [.tmp 26], none, 0, []⟩]) (.cond (.tmp 27) (.seq (.region false 0 [
     ⟨some 10, .mov, [.cst (.bool false)], none, 0, []⟩]) (.cut [10] (.ret))) (.skip))) (.seq (.seq (.region false 2 [
    ⟨some 28, .load true 3, [.tmp 5], none, 0, []⟩,
    ⟨some 29, .callS 12, [.tmp 28], none, 0, []⟩,
    ⟨some 30, .not, [.tmp 29], none, 0, []⟩,
    ⟨some 31, .mov, [.tmp 30], none, 0, []⟩,
    ⟨some 32, .load true 3, [.tmp 5], some (31, false), 0, []⟩,
    ⟨some 33, .callS 16, [.tmp 32], some (31, false), 0, []⟩,
    ⟨some 34, .not, [.tmp 33], some (31, false), 0, []⟩,
    ⟨some 35, .pick, [.tmp 31, .cst (.bool true), .tmp 34], none, 0, []⟩]) (.cond (.tmp 35) (.seq (.region false 0 [
     ⟨some 10, .mov, [.cst (.bool true)], none, 0, []⟩]) (.cut [10] (.ret))) (.skip))) (.cut ir10_v0 ir10_b0)))) }
theorem ir10_bt8ok {R : Type} {summ : Nat → Option Summ} {fu : Nat} {call : Nat → List CV → List Blk → (CV → List Blk → Option R) → Option R} {o9 : St → (Ex → St → Option R) → Option R} (h9 : ∀ T k r, o9 T k = some r → evLoopN (evCode summ fu call ir10_b9) (St.norm ir10_v9) fu T k = some r) : LTok summ fu call (ir10_bt8 o9) ir10_b8 := ⟨⟨trivial, h9⟩, trivial⟩
theorem ir10_bt7ok {R : Type} {summ : Nat → Option Summ} {fu : Nat} {call : Nat → List CV → List Blk → (CV → List Blk → Option R) → Option R} {o8 : St → (Ex → St → Option R) → Option R} (h8 : ∀ T k r, o8 T k = some r → evCode summ fu call ir10_b8 T k = some r) : LTok summ fu call (ir10_bt7 o8) ir10_b7 := ⟨trivial, h8⟩
theorem ir10_bt6ok {R : Type} {summ : Nat → Option Summ} {fu : Nat} {call : Nat → List CV → List Blk → (CV → List Blk → Option R) → Option R} {o7 : St → (Ex → St → Option R) → Option R} (h7 : ∀ T k r, o7 T k = some r → evCode summ fu call ir10_b7 T k = some r) : LTok summ fu call (ir10_bt6 o7) ir10_b6 := ⟨trivial, h7⟩
theorem ir10_bt4ok {R : Type} {summ : Nat → Option Summ} {fu : Nat} {call : Nat → List CV → List Blk → (CV → List Blk → Option R) → Option R} {o5 o6 : St → (Ex → St → Option R) → Option R} (h5 : ∀ T k r, o5 T k = some r → evCode summ fu call ir10_b5 T k = some r) (h6 : ∀ T k r, o6 T k = some r → evCode summ fu call ir10_b6 T k = some r) : LTok summ fu call (ir10_bt4 o5 o6) ir10_b4 := ⟨⟨trivial, h5⟩, h6⟩
theorem ir10_bt3ok {R : Type} {summ : Nat → Option Summ} {fu : Nat} {call : Nat → List CV → List Blk → (CV → List Blk → Option R) → Option R} {o4 : St → (Ex → St → Option R) → Option R} (h4 : ∀ T k r, o4 T k = some r → evCode summ fu call ir10_b4 T k = some r) : LTok summ fu call (ir10_bt3 o4) ir10_b3 := ⟨trivial, h4⟩
theorem ir10_bt2ok {R : Type} {summ : Nat → Option Summ} {fu : Nat} {call : Nat → List CV → List Blk → (CV → List Blk → Option R) → Option R} {o3 : St → (Ex → St → Option R) → Option R} (h3 : ∀ T k r, o3 T k = some r → evCode summ fu call ir10_b3 T k = some r) : LTok summ fu call (ir10_bt2 o3) ir10_b2 := ⟨trivial, h3⟩
theorem ir10_bt1ok {R : Type} {summ : Nat → Option Summ} {fu : Nat} {call : Nat → List CV → List Blk → (CV → List Blk → Option R) → Option R} {o2 : St → (Ex → St → Option R) → Option R} (h2 : ∀ T k r, o2 T k = some r → evCode summ fu call ir10_b2 T k = some r) : LTok summ fu call (ir10_bt1 o2) ir10_b1 := ⟨trivial, h2⟩
theorem ir10_bt0ok {R : Type} {summ : Nat → Option Summ} {fu : Nat} {call : Nat → List CV → List Blk → (CV → List Blk → Option R) → Option R} {o1 : St → (Ex → St → Option R) → Option R} (h1 : ∀ T k r, o1 T k = some r → evCode summ fu call ir10_b1 T k = some r) : LTok summ fu call (ir10_bt0 o1) ir10_b0 := ⟨trivial, ⟨trivial, ⟨trivial, h1⟩⟩⟩
theorem ir10_tok {R : Type} {summ : Nat → Option Summ} {fu : Nat} {call : Nat → List CV → List Blk → (CV → List Blk → Option R) → Option R} {o0 : St → (Ex → St → Option R) → Option R} (h0 : ∀ T k r, o0 T k = some r → evCode summ fu call ir10_b0 T k = some r) : LTok summ fu call (ir10_t o0) ir10.body := ⟨trivial, ⟨trivial, ⟨trivial, h0⟩⟩⟩


def ir11 : IFn :=
  { ntmps := 52, results := [.inl 0], body := (.seq (.region false 0 [
    ⟨some 0, .mov, [.cst (.bool false)], none, 0, []⟩]) (.seq (.region false 2 [
    ⟨some 12, .callS 13, [.cst (.int .i64 1), .cst (.int .i64 10)], none, 0, []⟩,
    ⟨some 11, .mov, [.tmp 12], none, 0, []⟩,
    ⟨some 13, .extract 0, [.tmp 11], none, 0, []⟩,
    ⟨some 14, .extract 1, [.tmp 11], none, 0, []⟩,
    ⟨some 1, .alloc 25 (.pair (.nil 34 (.int .u32)) (.pair (.nil 3 (.int .i64)) (.pure (.pair (.int .i64) .unit) (0, ())))), [], none, 0, []⟩,
    ⟨none, .store 3, [.tmp 1, .tmp 13], none, 0, []⟩,
    ⟨some 2, .mov, [.tmp 14], none, 0, []⟩]) (.seq (.region true 4 [
    ⟨some 16, .load true 3, [.tmp 1], none, 0, []⟩,
    ⟨some 17, .callS 18, [], none, 0, []⟩,
    ⟨some 18, .callS 19, [.tmp 16, .cst (.int .i64 3), .cst (.int .u32 255), .tmp 17], none, 1, [0, 1]⟩,
    ⟨some 15, .mov, [.tmp 18], none, 2, [2, 0, 1]⟩,
    ⟨some 19, .extract 0, [.tmp 15], none, 2, [3, 2, 0, 1]⟩,
    ⟨some 20, .extract 1, [.tmp 15], none, 2, [3, 2, 0, 1]⟩,
    ⟨some 21, .extract 2, [.tmp 15], none, 2, [3, 2, 0, 1]⟩,
    ⟨some 3, .alloc 25 (.pair (.nil 34 (.int .u32)) (.pair (.nil 3 (.int .i64)) (.pure (.pair (.int .i64) .unit) (0, ())))), [], none, 2, []⟩,
    ⟨some 4, .alloc 36 (.pure (.pair (.int .i64) (.pair (.int .u32) .unit)) (0, (0, ()))), [], none, 3, []⟩,
    ⟨none, .store 3, [.tmp 3, .tmp 19], none, 4, [7, 4, 3, 2, 0, 1, 8]⟩,
    ⟨none, .store 2, [.tmp 4, .tmp 20], none, 4, [8, 5, 3, 2, 0, 1, 9, 7, 4]⟩,
    ⟨some 5, .mov, [.tmp 21], none, 4, [6, 3, 2, 0, 1, 10, 8, 5, 9, 7, 4]⟩]) (.seq (.region false 3 [
    ⟨some 23, .load true 3, [.tmp 3], none, 0, []⟩,
    ⟨some 24, .build [((.int .i64 0), 1), ((.int .u32 0), 1)] [0, 1], [.cst (.int .i64 1), .cst (.int .u32 240)], none, 0, []⟩,
    ⟨some 25, .callS 19, [.tmp 23, .cst (.int .i64 3), .cst (.int .u32 15), .tmp 24], none, 0, []⟩,
    ⟨some 22, .mov, [.tmp 25], none, 0, []⟩,
    ⟨some 26, .extract 0, [.tmp 22], none, 0, []⟩,
    ⟨some 27, .extract 1, [.tmp 22], none, 0, []⟩,
    ⟨some 28, .extract 2, [.tmp 22], none, 0, []⟩,
    ⟨some 6, .alloc 25 (.pair (.nil 34 (.int .u32)) (.pair (.nil 3 (.int .i64)) (.pure (.pair (.int .i64) .unit) (0, ())))), [], none, 0, []⟩,
    ⟨some 7, .alloc 36 (.pure (.pair (.int .i64) (.pair (.int .u32) .unit)) (0, (0, ()))), [], none, 0, []⟩,
    ⟨none, .store 3, [.tmp 6, .tmp 26], none, 0, []⟩,
    ⟨none, .store 2, [.tmp 7, .tmp 27], none, 0, []⟩,
    ⟨some 8, .mov, [.tmp 28], none, 0, []⟩]) (.seq (.region false 1 [
    ⟨some 30, .load true 3, [.tmp 6], none, 0, []⟩,
    ⟨some 31, .callS 25, [.tmp 30, .cst (.int .i64 3)], none, 0, []⟩,
    ⟨some 29, .mov, [.tmp 31], none, 0, []⟩,
    ⟨some 32, .extract 0, [.tmp 29], none, 0, []⟩,
    ⟨some 33, .extract 1, [.tmp 29], none, 0, []⟩,
    ⟨some 9, .mov, [.tmp 32], none, 0, []⟩,
    ⟨some 10, .mov, [.tmp 33], none, 0, []⟩]) (.seq (.region false 0 [
    ⟨some 34, .mov, [.tmp 2], none, 0, []⟩,
    ⟨some 35, .bin .eql, [.tmp 34, .cst (.int .i64 0)], none, 0, []⟩,
    ⟨some 36, .mov, [.tmp 35], none, 0, []⟩,
    ⟨some 37, .mov, [.tmp 5], some (36, true), 0, []⟩,
    ⟨some 38, .bin .eql, [.tmp 37, .cst (.int .i64 0)], some (36, true), 0, []⟩,
    ⟨some 39, .pick, [.tmp 36, .tmp 38, .cst (.bool false)], none, 0, []⟩,
    ⟨some 40, .mov, [.tmp 39], none, 0, []⟩,
    ⟨some 41, .mov, [.tmp 8], some (40, true), 0, []⟩,
    ⟨some 42, .bin .eql, [.tmp 41, .cst (.int .i64 18)], some (40, true), 0, []⟩,
    ⟨some 43, .pick, [.tmp 40, .tmp 42, .cst (.bool false)], none, 0, []⟩,
    ⟨some 44, .mov, [.tmp 43], none, 0, []⟩,
    ⟨some 45, .mov, [.tmp 9], some (44, true), 0, []⟩,
    ⟨some 46, .bin .eql, [.tmp 45, .cst (.int .u32 15)], some (44, true), 0, []⟩,
    ⟨some 47, .pick, [.tmp 44, .tmp 46, .cst (.bool false)], none, 0, []⟩,
    ⟨some 48, .mov, [.tmp 47], none, 0, []⟩,
    ⟨some 49, .mov, [.tmp 10], some (48, true), 0, []⟩,
    ⟨some 50, .bin .eql, [.tmp 49, .cst (.int .i64 0)], some (48, true), 0, []⟩,
    ⟨some 51, .pick, [.tmp 48, .tmp 50, .cst (.bool false)], none, 0, []⟩,
    ⟨some 0, .mov, [.tmp 51], none, 0, []⟩]) (.cut [0] (.ret)))))))) }


def ir12 : IFn :=
  { ntmps := 13, results := [.inl 2], body := (.seq (.region false 1 [
    ⟨some 1, .box 25, [.tmp 0], none, 0, []⟩,
    ⟨some 2, .mov, [.cst (.bool false)], none, 0, []⟩]) (.seq (.region false 0 [
    ⟨some 3, .fieldAddr 1 1, [.tmp 1], none, 0, []⟩,
    ⟨some 4, .load false 1, [.tmp 3], none, 0, []⟩,
    ⟨some 5, .len, [.tmp 4], none, 0, []⟩,
    ⟨some 6, .bin .leq, [.tmp 5, .cst (.int .i64 70)], none, 0, []⟩,
    ⟨some 7, .mov, [.tmp 6], none, 0, []⟩,
    ⟨some 8, .fieldAddr 0 0, [.tmp 1], some (7, true), 0, []⟩,
    ⟨some 9, .load false 1, [.tmp 8], some (7, true), 0, []⟩,
    ⟨some 10, .len, [.tmp 9], some (7, true), 0, []⟩,
    ⟨some 11, .bin .leq, [.tmp 10, .cst (.int .i64 4480)], some (7, true), 0, []⟩,
    ⟨some 12, .pick, [.tmp 7, .tmp 11, .cst (.bool false)], none, 0, []⟩,
    ⟨some 2, .mov, [.tmp 12], none, 0, []⟩]) (.cut [2] (.ret)))) }


def ir13 : IFn :=
  { ntmps := 29, results := [.inr (4, true, 3), .inl 5], body := (.seq (.region false 1 [
    ⟨some 4, .alloc 25 (.pair (.nil 34 (.int .u32)) (.pair (.nil 3 (.int .i64)) (.pure (.pair (.int .i64) .unit) (0, ())))), [], none, 0, []⟩,
    ⟨some 5, .mov, [.cst (.int .i64 0)], none, 0, []⟩]) (.seq (.seq (.region false 0 [
    ⟨some 6, .mov, [.tmp 0], none, 0, []⟩,
    ⟨some 7, .bin .lss, [.tmp 6, .cst (.int .i64 1)], none, 0, []⟩,
    ⟨some 8, .mov, [.tmp 7], none, 0, []⟩,
    ⟨some 9, .mov, [.tmp 0], some (8, false), 0, []⟩,
    ⟨some 10, .bin .gtr, [.tmp 9, .cst (.int .i64 64)], some (8, false), 0, []⟩,
    ⟨some 11, .pick, [.tmp 8, .cst (.bool true), .tmp 10], none, 0, []⟩,
    ⟨some 12, .mov, [.tmp 11], none, 0, []⟩,
    ⟨some 13, .mov, [.tmp 1], some (12, false), 0, []⟩,
    ⟨some 14, .bin .lss, [.tmp 13, .cst (.int .i64 1)], some (12, false), 0, []⟩,
    ⟨some 15, .pick, [.tmp 12, .cst (.bool true), .tmp 14], none, 0, []⟩,
    ⟨some 16, .mov, [.tmp 15], none, 0, []⟩,
    ⟨some 17, .mov, [.tmp 1], some (16, false), 0, []⟩,
    ⟨some 18, .bin .gtr, [.tmp 17, .cst (.int .i64 1000000)], some (16, false), 0, []⟩,
    ⟨some 19, .pick, [.tmp 16, .cst (.bool true), .tmp 18], none, 0, []⟩]) (.cond (.tmp 19) (.seq (.region false 0 [
     ⟨some 20, .build [((.nil 34 (.int .u32)), 1), ((.nil 3 (.int .i64)), 1), ((.int .i64 0), 1)] [], [], none, 0, []⟩,
     ⟨none, .store 3, [.tmp 4, .tmp 20], none, 0, []⟩,
     ⟨some 5, .mov, [.cst (.int .i64 2)], none, 0, []⟩]) (.cut [4, 5] (.ret))) (.skip))) (.seq (.region true 3 [
    ⟨some 21, .buildSl 34 (.int .u32) 1, [.cst (.int .u32 4294967295)], none, 0, []⟩,
    ⟨some 22, .mov, [.tmp 0], none, 1, []⟩,
    ⟨some 23, .bin .mul, [.tmp 22, .cst (.int .i64 64)], none, 1, [1]⟩,
    ⟨some 24, .callS 32, [.tmp 21, .tmp 23], none, 1, [0, 2, 1]⟩,
    ⟨some 25, .mov, [.tmp 0], none, 2, []⟩,
    ⟨some 26, .mkSlice 3 (.int .i64) 8, [.tmp 25, .tmp 25], none, 2, [4]⟩,
    ⟨some 27, .mov, [.tmp 1], none, 3, []⟩,
    ⟨some 28, .build [((.nil 34 (.int .u32)), 1), ((.nil 3 (.int .i64)), 1), ((.int .i64 0), 1)] [0, 1, 2], [.tmp 24, .tmp 26, .tmp 27], none, 3, [3, 0, 2, 1, 5, 4, 6]⟩,
    ⟨none, .store 3, [.tmp 4, .tmp 28], none, 3, [7, 3, 0, 2, 1, 5, 4, 6]⟩,
    ⟨some 5, .mov, [.cst (.int .i64 0)], none, 3, [8, 7, 3, 0, 2, 1, 5, 4, 6]⟩]) (.cut [4, 5] (.ret))))) }


def ir15_b0 : IC := (.seq (.seq (.region false 0 [
      ⟨some 30, .mov, [.tmp 5], none, 0, []⟩,
      ⟨some 31, .fieldAddr 0 0, [.tmp 2], none, 0, []⟩,
      ⟨some 32, .load false 1, [.tmp 31], none, 0, []⟩,
      ⟨some 33, .len, [.tmp 32], none, 0, []⟩,
      ⟨some 34, .bin .lss, [.tmp 30, .tmp 33], none, 0, []⟩]) (.cond (.tmp 34) (.skip) (.cut [2, 3] (.exit 0)))) (.seq (.block 1 (.seq (.region true 0 [
       ⟨some 37, .fieldAddr 0 0, [.tmp 2], none, 0, []⟩,
       ⟨some 38, .load false 1, [.tmp 37], none, 0, [0]⟩,
       ⟨some 39, .mov, [.tmp 5], none, 0, []⟩,
       ⟨some 40, .idxSl 1, [.tmp 38, .tmp 39], none, 0, [1, 0, 2]⟩,
       ⟨some 41, .load false 1, [.tmp 40], none, 0, [3, 1, 0, 2]⟩,
       ⟨some 42, .fieldAddr 0 0, [.tmp 3], none, 0, []⟩,
       ⟨some 43, .load false 1, [.tmp 42], none, 0, [5]⟩,
       ⟨some 44, .mov, [.tmp 5], none, 0, []⟩,
       ⟨some 45, .idxSl 1, [.tmp 43, .tmp 44], none, 0, [6, 5, 7]⟩,
       ⟨some 46, .load false 1, [.tmp 45], none, 0, [8, 6, 5, 7]⟩,
       ⟨some 47, .bin .neq, [.tmp 41, .tmp 46], none, 0, [4, 3, 1, 0, 2, 9, 8, 6, 5, 7]⟩]) (.cond (.tmp 47) (.seq (.region false 0 [
        ⟨some 4, .mov, [.cst (.bool false)], none, 0, []⟩]) (.cut [4] (.ret))) (.skip)))) (.region false 0 [
      ⟨some 35, .mov, [.tmp 5], none, 0, []⟩,
      ⟨some 36, .bin .add, [.tmp 35, .cst (.int .i64 1)], none, 0, []⟩,
      ⟨some 5, .mov, [.tmp 36], none, 0, []⟩])))
def ir15_v0 : List Nat := [2, 3, 5]
def ir15_b1 : IC := (.seq (.seq (.region false 0 [
      ⟨some 48, .mov, [.tmp 6], none, 0, []⟩,
      ⟨some 49, .fieldAddr 1 1, [.tmp 2], none, 0, []⟩,
      ⟨some 50, .load false 1, [.tmp 49], none, 0, []⟩,
      ⟨some 51, .len, [.tmp 50], none, 0, []⟩,
      ⟨some 52, .bin .lss, [.tmp 48, .tmp 51], none, 0, []⟩]) (.cond (.tmp 52) (.skip) (.cut [] (.exit 2)))) (.seq (.block 3 (.seq (.region true 0 [
       ⟨some 55, .fieldAddr 1 1, [.tmp 2], none, 0, []⟩,
       ⟨some 56, .load false 1, [.tmp 55], none, 0, [0]⟩,
       ⟨some 57, .mov, [.tmp 6], none, 0, []⟩,
       ⟨some 58, .idxSl 1, [.tmp 56, .tmp 57], none, 0, [1, 0, 2]⟩,
       ⟨some 59, .load false 1, [.tmp 58], none, 0, [3, 1, 0, 2]⟩,
       ⟨some 60, .fieldAddr 1 1, [.tmp 3], none, 0, []⟩,
       ⟨some 61, .load false 1, [.tmp 60], none, 0, [5]⟩,
       ⟨some 62, .mov, [.tmp 6], none, 0, []⟩,
       ⟨some 63, .idxSl 1, [.tmp 61, .tmp 62], none, 0, [6, 5, 7]⟩,
       ⟨some 64, .load false 1, [.tmp 63], none, 0, [8, 6, 5, 7]⟩,
       ⟨some 65, .bin .neq, [.tmp 59, .tmp 64], none, 0, [4, 3, 1, 0, 2, 9, 8, 6, 5, 7]⟩]) (.cond (.tmp 65) (.seq (.region false 0 [
        ⟨some 4, .mov, [.cst (.bool false)], none, 0, []⟩]) (.cut [4] (.ret))) (.skip)))) (.region false 0 [
      ⟨some 53, .mov, [.tmp 6], none, 0, []⟩,
      ⟨some 54, .bin .add, [.tmp 53, .cst (.int .i64 1)], none, 0, []⟩,
      ⟨some 6, .mov, [.tmp 54], none, 0, []⟩])))
def ir15_v1 : List Nat := [2, 3, 6]
def ir15_t {R : Type} (o0 o1 : St → (Ex → St → Option R) → Option R) : LT R := (.node .nil (.node .nil (.node (.node .nil (.node (.orc o0) .nil)) (.node (.node .nil (.node (.orc o1) .nil)) .nil))))
def ir15 : IFn :=
  { ntmps := 66, results := [.inl 4], body := (.seq (.region false 2 [
    ⟨some 2, .box 25, [.tmp 0], none, 0, []⟩,
    ⟨some 3, .box 25, [.tmp 1], none, 0, []⟩,
    ⟨some 4, .mov, [.cst (.bool false)], none, 0, []⟩]) (.seq (.seq (.region false 0 [
    ⟨some 7, .fieldAddr 2 2, [.tmp 2], none, 0, []⟩,
    ⟨some 8, .load false 1, [.tmp 7], none, 0, []⟩,
    ⟨some 9, .fieldAddr 2 2, [.tmp 3], none, 0, []⟩,
    ⟨some 10, .load false 1, [.tmp 9], none, 0, []⟩,
    ⟨some 11, .bin .neq, [.tmp 8, .tmp 10], none, 0, []⟩,
    ⟨some 12, .mov, [.tmp 11], none, 0, []⟩,
    ⟨some 13, .fieldAddr 0 0, [.tmp 2], some (12, false), 0, []⟩,
    ⟨some 14, .load false 1, [.tmp 13], some (12, false), 0, []⟩,
    ⟨some 15, .len, [.tmp 14], some (12, false), 0, []⟩,
    ⟨some 16, .fieldAddr 0 0, [.tmp 3], some (12, false), 0, []⟩,
    ⟨some 17, .load false 1, [.tmp 16], some (12, false), 0, []⟩,
    ⟨some 18, .len, [.tmp 17], some (12, false), 0, []⟩,
    ⟨some 19, .bin .neq, [.tmp 15, .tmp 18], some (12, false), 0, []⟩,
    ⟨some 20, .pick, [.tmp 12, .cst (.bool true), .tmp 19], none, 0, []⟩,
    ⟨some 21, .mov, [.tmp 20], none, 0, []⟩,
    ⟨some 22, .fieldAddr 1 1, [.tmp 2], some (21, false), 0, []⟩,
    ⟨some 23, .load false 1, [.tmp 22], some (21, false), 0, []⟩,
    ⟨some 24, .len, [.tmp 23], some (21, false), 0, []⟩,
    ⟨some 25, .fieldAddr 1 1, [.tmp 3], some (21, false), 0, []⟩,
    ⟨some 26, .load false 1, [.tmp 25], some (21, false), 0, []⟩,
    ⟨some 27, .len, [.tmp 26], some (21, false), 0, []⟩,
    ⟨some 28, .bin .neq, [.tmp 24, .tmp 27], some (21, false), 0, []⟩,
    ⟨some 29, .pick, [.tmp 21, .cst (.bool true), .tmp 28], none, 0, []⟩]) (.cond (.tmp 29) (.seq (.region false 0 [
     ⟨some 4, .mov, [.cst (.bool false)], none, 0, []⟩]) (.cut [4] (.ret))) (.skip))) (.seq (.seq (.region false 0 [
    ⟨some 5, .mov, [.cst (.int .i64 0)], none, 0, []⟩]) (.block 0 (.loop ir15_v0 ir15_b0))) (.seq (.seq (.region false 0 [
    ⟨some 6, .mov, [.cst (.int .i64 0)], none, 0, []⟩]) (.block 2 (.loop ir15_v1 ir15_b1))) (.seq (.region false 0 [
    ⟨some 4, .mov, [.cst (.bool true)], none, 0, []⟩]) (.cut [4] (.ret))))))) }
theorem ir15_tok {R : Type} {summ : Nat → Option Summ} {fu : Nat} {call : Nat → List CV → List Blk → (CV → List Blk → Option R) → Option R} {o0 o1 : St → (Ex → St → Option R) → Option R} (h0 : ∀ T k r, o0 T k = some r → evLoopN (evCode summ fu call ir15_b0) (St.norm ir15_v0) fu T k = some r) (h1 : ∀ T k r, o1 T k = some r → evLoopN (evCode summ fu call ir15_b1) (St.norm ir15_v1) fu T k = some r) : LTok summ fu call (ir15_t o0 o1) ir15.body := ⟨trivial, ⟨trivial, ⟨⟨trivial, h0⟩, ⟨⟨trivial, h1⟩, trivial⟩⟩⟩⟩


def ir16 : IFn :=
  { ntmps := 36, results := [.inl 2], body := (.seq (.region false 1 [
    ⟨some 1, .box 25, [.tmp 0], none, 0, []⟩,
    ⟨some 2, .mov, [.cst (.bool false)], none, 0, []⟩]) (.seq (.region false 0 [
    ⟨some 4, .fieldAddr 1 1, [.tmp 1], none, 0, []⟩,
    ⟨some 5, .load false 1, [.tmp 4], none, 0, []⟩,
    ⟨some 6, .len, [.tmp 5], none, 0, []⟩,
    ⟨some 3, .mov, [.tmp 6], none, 0, []⟩]) (.seq (.seq (.region false 0 [
    ⟨some 7, .mov, [.tmp 3], none, 0, []⟩,
    ⟨some 8, .bin .lss, [.tmp 7, .cst (.int .i64 1)], none, 0, []⟩,
    ⟨some 9, .mov, [.tmp 8], none, 0, []⟩,
    ⟨some 10, .mov, [.tmp 3], some (9, false), 0, []⟩,
    ⟨some 11, .bin .gtr, [.tmp 10, .cst (.int .i64 64)], some (9, false), 0, []⟩,
    ⟨some 12, .pick, [.tmp 9, .cst (.bool true), .tmp 11], none, 0, []⟩,
    ⟨some 13, .mov, [.tmp 12], none, 0, []⟩,
    ⟨some 14, .fieldAddr 0 0, [.tmp 1], some (13, false), 0, []⟩,
    ⟨some 15, .load false 1, [.tmp 14], some (13, false), 0, []⟩,
    ⟨some 16, .len, [.tmp 15], some (13, false), 0, []⟩,
    ⟨some 17, .mov, [.tmp 3], some (13, false), 0, []⟩,
    ⟨some 18, .bin .mul, [.tmp 17, .cst (.int .i64 64)], some (13, false), 0, []⟩,
    ⟨some 19, .bin .neq, [.tmp 16, .tmp 18], some (13, false), 0, []⟩,
    ⟨some 20, .pick, [.tmp 13, .cst (.bool true), .tmp 19], none, 0, []⟩,
    ⟨some 21, .mov, [.tmp 20], none, 0, []⟩,
    ⟨some 22, .fieldAddr 2 2, [.tmp 1], some (21, false), 0, []⟩,
    ⟨some 23, .load false 1, [.tmp 22], some (21, false), 0, []⟩,
    ⟨some 24, .bin .lss, [.tmp 23, .cst (.int .i64 1)], some (21, false), 0, []⟩,
    ⟨some 25, .pick, [.tmp 21, .cst (.bool true), .tmp 24], none, 0, []⟩,
    ⟨some 26, .mov, [.tmp 25], none, 0, []⟩,
    ⟨some 27, .fieldAddr 2 2, [.tmp 1], some (26, false), 0, []⟩,
    ⟨some 28, .load false 1, [.tmp 27], some (26, false), 0, []⟩,
    ⟨some 29, .bin .gtr, [.tmp 28, .cst (.int .i64 1000000)], some (26, false), 0, []⟩,
    ⟨some 30, .pick, [.tmp 26, .cst (.bool true), .tmp 29], none, 0, []⟩]) (.cond (.tmp 30) (.seq (.region false 0 [
     ⟨some 2, .mov, [.cst (.bool false)], none, 0, []⟩]) (.cut [2] (.ret))) (.skip))) (.seq (.region false 0 [
    ⟨some 31, .fieldAddr 1 1, [.tmp 1], none, 0, []⟩,
    ⟨some 32, .load false 1, [.tmp 31], none, 0, []⟩,
    ⟨some 33, .mkFunc 35, [.tmp 1], none, 0, []⟩,
    ⟨some 34, .call 34, [.tmp 32, .tmp 33], none, 0, []⟩,
    ⟨some 35, .not, [.tmp 34], none, 0, []⟩,
    ⟨some 2, .mov, [.tmp 35], none, 0, []⟩]) (.cut [2] (.ret)))))) }


def ir18 : IFn :=
  { ntmps := 2, results := [.inr (0, true, 2)], body := (.seq (.region false 1 [
    ⟨some 0, .alloc 36 (.pure (.pair (.int .i64) (.pair (.int .u32) .unit)) (0, (0, ()))), [], none, 0, []⟩]) (.seq (.region false 0 [
    ⟨some 1, .build [((.int .i64 0), 1), ((.int .u32 0), 1)] [0], [.cst (.int .i64 1099511627776)], none, 0, []⟩,
    ⟨none, .store 2, [.tmp 0, .tmp 1], none, 0, []⟩]) (.cut [0] (.ret)))) }


def ir19 : IFn :=
  { ntmps := 31, results := [.inr (8, true, 3), .inr (9, true, 2), .inl 10], body := (.seq (.region false 6 [
    ⟨some 4, .box 25, [.tmp 0], none, 0, []⟩,
    ⟨some 5, .box 3, [.tmp 1], none, 0, []⟩,
    ⟨some 6, .box 34, [.tmp 2], none, 0, []⟩,
    ⟨some 7, .box 36, [.tmp 3], none, 0, []⟩,
    ⟨some 8, .alloc 25 (.pair (.nil 34 (.int .u32)) (.pair (.nil 3 (.int .i64)) (.pure (.pair (.int .i64) .unit) (0, ())))), [], none, 0, []⟩,
    ⟨some 9, .alloc 36 (.pure (.pair (.int .i64) (.pair (.int .u32) .unit)) (0, (0, ()))), [], none, 0, []⟩,
    ⟨some 10, .mov, [.cst (.int .i64 0)], none, 0, []⟩]) (.seq (.seq (.region false 1 [
    ⟨some 12, .load true 3, [.tmp 4], none, 0, []⟩,
    ⟨some 13, .load true 2, [.tmp 7], none, 0, []⟩,
    ⟨some 14, .load false 1, [.tmp 5], none, 0, []⟩,
    ⟨some 15, .fieldAddr 0 0, [.tmp 4], none, 0, []⟩,
    ⟨some 16, .load false 1, [.tmp 15], none, 0, []⟩,
    ⟨some 17, .len, [.tmp 16], none, 0, []⟩,
    ⟨some 18, .callS 36, [.tmp 12, .tmp 13, .tmp 14, .tmp 17], none, 0, []⟩,
    ⟨some 11, .mov, [.tmp 18], none, 0, []⟩]) (.seq (.region false 0 [
    ⟨some 19, .mov, [.tmp 11], none, 0, []⟩,
    ⟨some 20, .bin .neq, [.tmp 19, .cst (.int .i64 0)], none, 0, []⟩]) (.cond (.tmp 20) (.seq (.region false 0 [
     ⟨some 21, .build [((.nil 34 (.int .u32)), 1), ((.nil 3 (.int .i64)), 1), ((.int .i64 0), 1)] [], [], none, 0, []⟩,
     ⟨some 22, .build [((.int .i64 0), 1), ((.int .u32 0), 1)] [], [], none, 0, []⟩,
     ⟨some 23, .mov, [.tmp 11], none, 0, []⟩,
     ⟨none, .store 3, [.tmp 8, .tmp 21], none, 0, []⟩,
     ⟨none, .store 2, [.tmp 9, .tmp 22], none, 0, []⟩,
     ⟨some 10, .mov, [.tmp 23], none, 0, []⟩]) (.cut [8, 9, 10] (.ret))) (.skip)))) (.seq (.region false 0 [
    ⟨some 24, .load true 3, [.tmp 4], none, 0, []⟩,
    ⟨some 25, .load true 2, [.tmp 7], none, 0, []⟩,
    ⟨some 26, .mkFunc 38, [.tmp 5, .tmp 6], none, 0, []⟩,
    ⟨some 27, .call 37, [.tmp 24, .tmp 25, .tmp 26], none, 0, []⟩,
    ⟨some 28, .extract 0, [.tmp 27], none, 0, []⟩,
    ⟨some 29, .extract 1, [.tmp 27], none, 0, []⟩,
    ⟨some 30, .extract 2, [.tmp 27], none, 0, []⟩,
    ⟨none, .store 3, [.tmp 8, .tmp 28], none, 0, []⟩,
    ⟨none, .store 2, [.tmp 9, .tmp 29], none, 0, []⟩,
    ⟨some 10, .mov, [.tmp 30], none, 0, []⟩]) (.cut [8, 9, 10] (.ret))))) }


def ir23 : IFn :=
  { ntmps := 28, results := [.inl 4], body := (.seq (.region false 2 [
    ⟨some 2, .box 25, [.tmp 0], none, 0, []⟩,
    ⟨some 3, .box 25, [.tmp 1], none, 0, []⟩,
    ⟨some 4, .mov, [.cst (.bool false)], none, 0, []⟩]) (.seq (.region false 0 [
    ⟨some 5, .fieldAddr 0 0, [.tmp 2], none, 0, []⟩,
    ⟨some 6, .load false 1, [.tmp 5], none, 0, []⟩,
    ⟨some 7, .len, [.tmp 6], none, 0, []⟩,
    ⟨some 8, .fieldAddr 0 0, [.tmp 3], none, 0, []⟩,
    ⟨some 9, .load false 1, [.tmp 8], none, 0, []⟩,
    ⟨some 10, .len, [.tmp 9], none, 0, []⟩,
    ⟨some 11, .bin .eql, [.tmp 7, .tmp 10], none, 0, []⟩,
    ⟨some 12, .mov, [.tmp 11], none, 0, []⟩,
    ⟨some 13, .fieldAddr 1 1, [.tmp 2], some (12, true), 0, []⟩,
    ⟨some 14, .load false 1, [.tmp 13], some (12, true), 0, []⟩,
    ⟨some 15, .len, [.tmp 14], some (12, true), 0, []⟩,
    ⟨some 16, .fieldAddr 1 1, [.tmp 3], some (12, true), 0, []⟩,
    ⟨some 17, .load false 1, [.tmp 16], some (12, true), 0, []⟩,
    ⟨some 18, .len, [.tmp 17], some (12, true), 0, []⟩,
    ⟨some 19, .bin .eql, [.tmp 15, .tmp 18], some (12, true), 0, []⟩,
    ⟨some 20, .pick, [.tmp 12, .tmp 19, .cst (.bool false)], none, 0, []⟩,
    ⟨some 21, .mov, [.tmp 20], none, 0, []⟩,
    ⟨some 22, .fieldAddr 2 2, [.tmp 2], some (21, true), 0, []⟩,
    ⟨some 23, .load false 1, [.tmp 22], some (21, true), 0, []⟩,
    ⟨some 24, .fieldAddr 2 2, [.tmp 3], some (21, true), 0, []⟩,
    ⟨some 25, .load false 1, [.tmp 24], some (21, true), 0, []⟩,
    ⟨some 26, .bin .eql, [.tmp 23, .tmp 25], some (21, true), 0, []⟩,
    ⟨some 27, .pick, [.tmp 21, .tmp 26, .cst (.bool false)], none, 0, []⟩,
    ⟨some 4, .mov, [.tmp 27], none, 0, []⟩]) (.cut [4] (.ret)))) }


def ir24_b0 : IC := (.seq (.region false 0 [
      ⟨some 14, .bin .lss, [.tmp 13, .tmp 12], none, 0, []⟩]) (.seq (.cond (.tmp 14) (.skip) (.cut [] (.exit 0))) (.seq (.block 1 (.seq (.region false 0 [
       ⟨some 15, .mov, [.tmp 13], none, 0, []⟩,
       ⟨some 5, .mov, [.tmp 15], none, 0, []⟩]) (.seq (.region true 0 [
       ⟨some 16, .mov, [.tmp 0], none, 0, []⟩,
       ⟨some 17, .mov, [.tmp 5], none, 0, []⟩,
       ⟨some 18, .idxSl 1, [.tmp 16, .tmp 17], none, 0, [0, 1]⟩,
       ⟨some 19, .load false 1, [.tmp 18], none, 0, [2, 0, 1]⟩,
       ⟨some 20, .mov, [.tmp 1], none, 0, []⟩,
       ⟨some 21, .mov, [.tmp 5], none, 0, []⟩,
       ⟨some 22, .idxSl 1, [.tmp 20, .tmp 21], none, 0, [4, 5]⟩,
       ⟨some 23, .load false 1, [.tmp 22], none, 0, [6, 4, 5]⟩,
       ⟨some 24, .bin .neq, [.tmp 19, .tmp 23], none, 0, [3, 2, 0, 1, 7, 6, 4, 5]⟩]) (.cond (.tmp 24) (.seq (.region false 0 [
        ⟨some 4, .mov, [.cst (.bool false)], none, 0, []⟩]) (.cut [4] (.ret))) (.skip))))) (.region false 0 [
      ⟨some 25, .bin .add, [.tmp 13, .cst (.int .i64 1)], none, 0, []⟩,
      ⟨some 13, .mov, [.tmp 25], none, 0, []⟩]))))
def ir24_v0 : List Nat := [0, 1, 12, 13]
def ir24_t {R : Type} (o0 : St → (Ex → St → Option R) → Option R) : LT R := (.node .nil (.node .nil (.node (.node .nil (.node (.orc o0) .nil)) .nil)))
def ir24 : IFn :=
  { ntmps := 26, results := [.inl 4], body := (.seq (.region false 0 [
    ⟨some 4, .mov, [.cst (.bool false)], none, 0, []⟩]) (.seq (.seq (.region false 0 [
    ⟨some 6, .mov, [.tmp 0], none, 0, []⟩,
    ⟨some 7, .len, [.tmp 6], none, 0, []⟩,
    ⟨some 8, .mov, [.tmp 1], none, 0, []⟩,
    ⟨some 9, .len, [.tmp 8], none, 0, []⟩,
    ⟨some 10, .bin .neq, [.tmp 7, .tmp 9], none, 0, []⟩]) (.cond (.tmp 10) (.seq (.region false 0 [
     ⟨some 4, .mov, [.cst (.bool false)], none, 0, []⟩]) (.cut [4] (.ret))) (.skip))) (.seq (.seq (.region false 0 [
    ⟨some 11, .mov, [.tmp 0], none, 0, []⟩,
    ⟨some 12, .len, [.tmp 11], none, 0, []⟩,
    ⟨some 13, .mov, [.cst (.int .i64 0)], none, 0, []⟩]) (.block 0 (.loop ir24_v0 ir24_b0))) (.seq (.region false 0 [
    ⟨some 4, .mov, [.cst (.bool true)], none, 0, []⟩]) (.cut [4] (.ret)))))) }
theorem ir24_tok {R : Type} {summ : Nat → Option Summ} {fu : Nat} {call : Nat → List CV → List Blk → (CV → List Blk → Option R) → Option R} {o0 : St → (Ex → St → Option R) → Option R} (h0 : ∀ T k r, o0 T k = some r → evLoopN (evCode summ fu call ir24_b0) (St.norm ir24_v0) fu T k = some r) : LTok summ fu call (ir24_t o0) ir24.body := ⟨trivial, ⟨trivial, ⟨⟨trivial, h0⟩, trivial⟩⟩⟩


def ir25 : IFn :=
  { ntmps := 25, results := [.inl 4, .inl 5], body := (.seq (.region false 1 [
    ⟨some 2, .box 25, [.tmp 0], none, 0, []⟩,
    ⟨some 4, .mov, [.cst (.int .u32 0)], none, 0, []⟩,
    ⟨some 5, .mov, [.cst (.int .i64 0)], none, 0, []⟩]) (.seq (.block 0 (.seq (.region false 1 [
     ⟨some 7, .load true 3, [.tmp 2], none, 0, []⟩,
     ⟨some 8, .callS 16, [.tmp 7], none, 0, []⟩,
     ⟨some 9, .not, [.tmp 8], none, 0, []⟩,
     ⟨some 6, .mov, [.tmp 9], none, 0, []⟩]) (.cond (.tmp 6) (.seq (.region false 0 [
      ⟨some 4, .mov, [.cst (.int .u32 0)], none, 0, []⟩,
      ⟨some 5, .mov, [.cst (.int .i64 1)], none, 0, []⟩]) (.cut [4, 5] (.ret))) (.seq (.region false 0 [
      ⟨some 11, .mov, [.tmp 1], none, 0, []⟩,
      ⟨some 12, .bin .lss, [.tmp 11, .cst (.int .i64 0)], none, 0, []⟩,
      ⟨some 13, .mov, [.tmp 12], none, 0, []⟩,
      ⟨some 14, .mov, [.tmp 1], some (13, false), 0, []⟩,
      ⟨some 15, .fieldAddr 0 0, [.tmp 2], some (13, false), 0, []⟩,
      ⟨some 16, .load false 1, [.tmp 15], some (13, false), 0, []⟩,
      ⟨some 17, .len, [.tmp 16], some (13, false), 0, []⟩,
      ⟨some 18, .bin .geq, [.tmp 14, .tmp 17], some (13, false), 0, []⟩,
      ⟨some 19, .pick, [.tmp 13, .cst (.bool true), .tmp 18], none, 0, []⟩,
      ⟨some 10, .mov, [.tmp 19], none, 0, []⟩]) (.cond (.tmp 10) (.seq (.region false 0 [
       ⟨some 4, .mov, [.cst (.int .u32 0)], none, 0, []⟩,
       ⟨some 5, .mov, [.cst (.int .i64 2)], none, 0, []⟩]) (.cut [4, 5] (.ret))) (.skip)))))) (.seq (.region false 0 [
    ⟨some 20, .fieldAddr 0 0, [.tmp 2], none, 0, []⟩,
    ⟨some 21, .load false 1, [.tmp 20], none, 0, []⟩,
    ⟨some 22, .mov, [.tmp 1], none, 0, []⟩,
    ⟨some 23, .idxSl 1, [.tmp 21, .tmp 22], none, 0, []⟩,
    ⟨some 24, .load false 1, [.tmp 23], none, 0, []⟩,
    ⟨some 4, .mov, [.tmp 24], none, 0, []⟩,
    ⟨some 5, .mov, [.cst (.int .i64 0)], none, 0, []⟩]) (.cut [4, 5] (.ret))))) }


def ir26 : IFn :=
  { ntmps := 25, results := [.inl 4, .inl 5], body := (.seq (.region false 1 [
    ⟨some 2, .box 25, [.tmp 0], none, 0, []⟩,
    ⟨some 4, .mov, [.cst (.bool false)], none, 0, []⟩,
    ⟨some 5, .mov, [.cst (.int .i64 0)], none, 0, []⟩]) (.seq (.block 0 (.seq (.region false 1 [
     ⟨some 7, .load true 3, [.tmp 2], none, 0, []⟩,
     ⟨some 8, .callS 16, [.tmp 7], none, 0, []⟩,
     ⟨some 9, .not, [.tmp 8], none, 0, []⟩,
     ⟨some 6, .mov, [.tmp 9], none, 0, []⟩]) (.cond (.tmp 6) (.seq (.region false 0 [
      ⟨some 4, .mov, [.cst (.bool false)], none, 0, []⟩,
      ⟨some 5, .mov, [.cst (.int .i64 1)], none, 0, []⟩]) (.cut [4, 5] (.ret))) (.seq (.region false 0 [
      ⟨some 11, .mov, [.tmp 1], none, 0, []⟩,
      ⟨some 12, .bin .lss, [.tmp 11, .cst (.int .i64 0)], none, 0, []⟩,
      ⟨some 13, .mov, [.tmp 12], none, 0, []⟩,
      ⟨some 14, .mov, [.tmp 1], some (13, false), 0, []⟩,
      ⟨some 15, .fieldAddr 1 1, [.tmp 2], some (13, false), 0, []⟩,
      ⟨some 16, .load false 1, [.tmp 15], some (13, false), 0, []⟩,
      ⟨some 17, .len, [.tmp 16], some (13, false), 0, []⟩,
      ⟨some 18, .bin .geq, [.tmp 14, .tmp 17], some (13, false), 0, []⟩,
      ⟨some 19, .pick, [.tmp 13, .cst (.bool true), .tmp 18], none, 0, []⟩,
      ⟨some 10, .mov, [.tmp 19], none, 0, []⟩]) (.cond (.tmp 10) (.seq (.region false 0 [
       ⟨some 4, .mov, [.cst (.bool false)], none, 0, []⟩,
       ⟨some 5, .mov, [.cst (.int .i64 2)], none, 0, []⟩]) (.cut [4, 5] (.ret))) (.skip)))))) (.seq (.region false 0 [
    ⟨some 20, .load true 3, [.tmp 2], none, 0, []⟩,
    ⟨some 21, .mov, [.tmp 1], none, 0, []⟩,
    ⟨some 22, .call 43, [.tmp 20, .tmp 21], none, 0, []⟩,
    ⟨some 23, .call 42, [.tmp 22, .cst (.clo 44 (.pure .unit ()))], none, 0, []⟩,
    ⟨some 24, .not, [.tmp 23], none, 0, []⟩,
    ⟨some 4, .mov, [.tmp 24], none, 0, []⟩,
    ⟨some 5, .mov, [.cst (.int .i64 0)], none, 0, []⟩]) (.cut [4, 5] (.ret))))) }


def ir28 : IFn :=
  { ntmps := 39, results := [.inr (6, true, 3), .inr (7, true, 2), .inl 8], body := (.seq (.region false 5 [
    ⟨some 3, .box 25, [.tmp 0], none, 0, []⟩,
    ⟨some 4, .box 3, [.tmp 1], none, 0, []⟩,
    ⟨some 5, .box 36, [.tmp 2], none, 0, []⟩,
    ⟨some 6, .alloc 25 (.pair (.nil 34 (.int .u32)) (.pair (.nil 3 (.int .i64)) (.pure (.pair (.int .i64) .unit) (0, ())))), [], none, 0, []⟩,
    ⟨some 7, .alloc 36 (.pure (.pair (.int .i64) (.pair (.int .u32) .unit)) (0, (0, ()))), [], none, 0, []⟩,
    ⟨some 8, .mov, [.cst (.int .i64 0)], none, 0, []⟩]) (.seq (.seq (.region false 1 [
    ⟨some 10, .load true 3, [.tmp 3], none, 0, []⟩,
    ⟨some 11, .load true 2, [.tmp 5], none, 0, []⟩,
    ⟨some 12, .load false 1, [.tmp 4], none, 0, []⟩,
    ⟨some 13, .fieldAddr 1 1, [.tmp 3], none, 0, []⟩,
    ⟨some 14, .load false 1, [.tmp 13], none, 0, []⟩,
    ⟨some 15, .len, [.tmp 14], none, 0, []⟩,
    ⟨some 16, .callS 36, [.tmp 10, .tmp 11, .tmp 12, .tmp 15], none, 0, []⟩,
    ⟨some 9, .mov, [.tmp 16], none, 0, []⟩]) (.seq (.region false 0 [
    ⟨some 17, .mov, [.tmp 9], none, 0, []⟩,
    ⟨some 18, .bin .neq, [.tmp 17, .cst (.int .i64 0)], none, 0, []⟩]) (.cond (.tmp 18) (.seq (.region false 0 [
     ⟨some 19, .build [((.nil 34 (.int .u32)), 1), ((.nil 3 (.int .i64)), 1), ((.int .i64 0), 1)] [], [], none, 0, []⟩,
     ⟨some 20, .build [((.int .i64 0), 1), ((.int .u32 0), 1)] [], [], none, 0, []⟩,
     ⟨some 21, .mov, [.tmp 9], none, 0, []⟩,
     ⟨none, .store 3, [.tmp 6, .tmp 19], none, 0, []⟩,
     ⟨none, .store 2, [.tmp 7, .tmp 20], none, 0, []⟩,
     ⟨some 8, .mov, [.tmp 21], none, 0, []⟩]) (.cut [6, 7, 8] (.ret))) (.skip)))) (.seq (.seq (.region true 0 [
    ⟨some 22, .fieldAddr 1 1, [.tmp 3], none, 0, []⟩,
    ⟨some 23, .load false 1, [.tmp 22], none, 0, [0]⟩,
    ⟨some 24, .load false 1, [.tmp 4], none, 0, []⟩,
    ⟨some 25, .idxSl 1, [.tmp 23, .tmp 24], none, 0, [1, 0, 2]⟩,
    ⟨some 26, .load false 1, [.tmp 25], none, 0, [3, 1, 0, 2]⟩,
    ⟨some 27, .fieldAddr 2 2, [.tmp 3], none, 0, []⟩,
    ⟨some 28, .load false 1, [.tmp 27], none, 0, [5]⟩,
    ⟨some 29, .bin .eql, [.tmp 26, .tmp 28], none, 0, [4, 3, 1, 0, 2, 6, 5]⟩]) (.cond (.tmp 29) (.seq (.region false 0 [
     ⟨some 30, .build [((.nil 34 (.int .u32)), 1), ((.nil 3 (.int .i64)), 1), ((.int .i64 0), 1)] [], [], none, 0, []⟩,
     ⟨some 31, .build [((.int .i64 0), 1), ((.int .u32 0), 1)] [], [], none, 0, []⟩,
     ⟨none, .store 3, [.tmp 6, .tmp 30], none, 0, []⟩,
     ⟨none, .store 2, [.tmp 7, .tmp 31], none, 0, []⟩,
     ⟨some 8, .mov, [.cst (.int .i64 19)], none, 0, []⟩]) (.cut [6, 7, 8] (.ret))) (.skip))) (.seq (.region false 0 [
    ⟨some 32, .load true 3, [.tmp 3], none, 0, []⟩,
    ⟨some 33, .load true 2, [.tmp 5], none, 0, []⟩,
    ⟨some 34, .mkFunc 45, [.tmp 4], none, 0, []⟩,
    ⟨some 35, .call 37, [.tmp 32, .tmp 33, .tmp 34], none, 0, []⟩,
    ⟨some 36, .extract 0, [.tmp 35], none, 0, []⟩,
    ⟨some 37, .extract 1, [.tmp 35], none, 0, []⟩,
    ⟨some 38, .extract 2, [.tmp 35], none, 0, []⟩,
    ⟨none, .store 3, [.tmp 6, .tmp 36], none, 0, []⟩,
    ⟨none, .store 2, [.tmp 7, .tmp 37], none, 0, []⟩,
    ⟨some 8, .mov, [.tmp 38], none, 0, []⟩]) (.cut [6, 7, 8] (.ret)))))) }


def ir30_b1 : IC := (.seq (.seq (.region false 0 [
        ⟨some 48, .mov, [.tmp 12], none, 0, []⟩,
        ⟨some 49, .bin .neq, [.tmp 48, .cst (.int .i64 0)], none, 0, []⟩]) (.cond (.tmp 49) (.seq (.region true 0 [
         ⟨some 50, .load true 3, [.tmp 11], none, 0, []⟩,
         ⟨some 51, .load true 2, [.tmp 5], none, 0, []⟩,
         ⟨some 52, .mov, [.tmp 12], none, 0, []⟩,
         ⟨none, .store 3, [.tmp 6, .tmp 50], none, 0, [0]⟩,
         ⟨none, .store 2, [.tmp 7, .tmp 51], none, 0, [1, 3, 0]⟩,
         ⟨some 8, .mov, [.tmp 52], none, 0, [2, 4, 1, 3, 0]⟩]) (.cut [6, 7, 8] (.ret))) (.skip))) (.seq (.seq (.region false 1 [
        ⟨some 53, .load true 3, [.tmp 3], none, 0, []⟩,
        ⟨some 54, .load true 3, [.tmp 11], none, 0, []⟩,
        ⟨some 55, .callS 23, [.tmp 53, .tmp 54], none, 0, []⟩,
        ⟨some 56, .not, [.tmp 55], none, 0, []⟩]) (.cond (.tmp 56) (.seq (.region true 0 [
         ⟨some 57, .load true 3, [.tmp 11], none, 0, []⟩,
         ⟨some 58, .load true 2, [.tmp 5], none, 0, []⟩,
         ⟨none, .store 3, [.tmp 6, .tmp 57], none, 0, [0]⟩,
         ⟨none, .store 2, [.tmp 7, .tmp 58], none, 0, [1, 2, 0]⟩,
         ⟨some 8, .mov, [.cst (.int .i64 3)], none, 0, [3, 1, 2, 0]⟩]) (.cut [6, 7, 8] (.ret))) (.skip))) (.region false 0 [
        ⟨some 59, .load true 3, [.tmp 11], none, 0, []⟩,
        ⟨none, .store 3, [.tmp 3, .tmp 59], none, 0, []⟩])))
def ir30_v1 : List Nat := [3, 5, 6, 7, 11, 12, 14, 15, 16]
def ir30_b0 : IC := (.seq (.region false 0 [
      ⟨some 17, .bin .lss, [.tmp 16, .tmp 15], none, 0, []⟩]) (.seq (.cond (.tmp 17) (.skip) (.cut [3, 5, 6, 7] (.exit 0))) (.seq (.block 1 (.seq (.region false 1 [
       ⟨some 18, .idxSl 3, [.tmp 14, .tmp 16], none, 0, []⟩,
       ⟨some 19, .load true 3, [.tmp 18], none, 0, []⟩,
       ⟨some 10, .alloc 78 (.pure (.pair .bool (.pair (.int .u16) (.pair (.int .u32) .unit))) (false, (0, (0, ())))), [], none, 0, []⟩,
       ⟨none, .store 3, [.tmp 10, .tmp 19], none, 0, []⟩]) (.seq (.region false 1 [
       ⟨some 11, .alloc 25 (.pair (.nil 34 (.int .u32)) (.pair (.nil 3 (.int .i64)) (.pure (.pair (.int .i64) .unit) (0, ())))), [], none, 0, []⟩]) (.seq (.region false 0 [
       ⟨some 12, .mov, [.cst (.int .i64 0)], none, 0, []⟩]) (.seq (.region false 0 [
       ⟨some 20, .fieldAddr 1 1, [.tmp 10], none, 0, []⟩,
       ⟨some 21, .load false 1, [.tmp 20], none, 0, []⟩,
       ⟨some 22, .conv .i64, [.tmp 21], none, 0, []⟩,
       ⟨some 23, .fieldAddr 0 0, [.tmp 3], none, 0, []⟩,
       ⟨some 24, .load false 1, [.tmp 23], none, 0, []⟩,
       ⟨some 25, .len, [.tmp 24], none, 0, []⟩,
       ⟨some 26, .bin .rem, [.tmp 22, .tmp 25], none, 0, []⟩,
       ⟨some 13, .mov, [.tmp 26], none, 0, []⟩]) (.seq (.seq (.region false 0 [
       ⟨some 27, .fieldAddr 0 0, [.tmp 10], none, 0, []⟩,
       ⟨some 28, .load false 1, [.tmp 27], none, 0, []⟩]) (.cond (.tmp 28) (.region false 1 [
        ⟨some 30, .load true 3, [.tmp 3], none, 0, []⟩,
        ⟨some 31, .mov, [.tmp 13], none, 0, []⟩,
        ⟨some 32, .bin .quo, [.tmp 31, .cst (.int .i64 64)], none, 0, []⟩,
        ⟨some 33, .load true 2, [.tmp 5], none, 0, []⟩,
        ⟨some 34, .callS 28, [.tmp 30, .tmp 32, .tmp 33], none, 0, []⟩,
        ⟨some 29, .mov, [.tmp 34], none, 0, []⟩,
        ⟨some 35, .extract 0, [.tmp 29], none, 0, []⟩,
        ⟨some 36, .extract 1, [.tmp 29], none, 0, []⟩,
        ⟨some 37, .extract 2, [.tmp 29], none, 0, []⟩,
        ⟨none, .store 3, [.tmp 11, .tmp 35], none, 0, []⟩,
        ⟨none, .store 2, [.tmp 5, .tmp 36], none, 0, []⟩,
        ⟨some 12, .mov, [.tmp 37], none, 0, []⟩]) (.region false 1 [
        ⟨some 39, .load true 3, [.tmp 3], none, 0, []⟩,
        ⟨some 40, .mov, [.tmp 13], none, 0, []⟩,
        ⟨some 41, .fieldAddr 2 2, [.tmp 10], none, 0, []⟩,
        ⟨some 42, .load false 1, [.tmp 41], none, 0, []⟩,
        ⟨some 43, .load true 2, [.tmp 5], none, 0, []⟩,
        ⟨some 44, .callS 19, [.tmp 39, .tmp 40, .tmp 42, .tmp 43], none, 0, []⟩,
        ⟨some 38, .mov, [.tmp 44], none, 0, []⟩,
        ⟨some 45, .extract 0, [.tmp 38], none, 0, []⟩,
        ⟨some 46, .extract 1, [.tmp 38], none, 0, []⟩,
        ⟨some 47, .extract 2, [.tmp 38], none, 0, []⟩,
        ⟨none, .store 3, [.tmp 11, .tmp 45], none, 0, []⟩,
        ⟨none, .store 2, [.tmp 5, .tmp 46], none, 0, []⟩,
        ⟨some 12, .mov, [.tmp 47], none, 0, []⟩]))) (.cut ir30_v1 ir30_b1))))))) (.region false 0 [
      ⟨some 60, .bin .add, [.tmp 16, .cst (.int .i64 1)], none, 0, []⟩,
      ⟨some 16, .mov, [.tmp 60], none, 0, []⟩]))))
def ir30_v0 : List Nat := [3, 5, 6, 7, 14, 15, 16]
def ir30_bt0 {R : Type} (o1 : St → (Ex → St → Option R) → Option R) : LT R := (.node .nil (.node .nil (.node (.node (.node .nil (.node .nil (.node .nil (.node .nil (.node .nil (.orc o1)))))) .nil) .nil)))
def ir30_t {R : Type} (o0 : St → (Ex → St → Option R) → Option R) : LT R := (.node .nil (.node (.node .nil (.node (.orc o0) .nil)) .nil))
def ir30 : IFn :=
  { ntmps := 63, results := [.inr (6, true, 3), .inr (7, true, 2), .inl 8], body := (.seq (.region false 4 [
    ⟨some 3, .box 25, [.tmp 0], none, 0, []⟩,
    ⟨some 5, .box 36, [.tmp 2], none, 0, []⟩,
    ⟨some 6, .alloc 25 (.pair (.nil 34 (.int .u32)) (.pair (.nil 3 (.int .i64)) (.pure (.pair (.int .i64) .unit) (0, ())))), [], none, 0, []⟩,
    ⟨some 7, .alloc 36 (.pure (.pair (.int .i64) (.pair (.int .u32) .unit)) (0, (0, ()))), [], none, 0, []⟩,
    ⟨some 8, .mov, [.cst (.int .i64 0)], none, 0, []⟩]) (.seq (.seq (.region false 0 [
    ⟨some 14, .mov, [.tmp 1], none, 0, []⟩,
    ⟨some 15, .len, [.tmp 14], none, 0, []⟩,
    ⟨some 16, .mov, [.cst (.int .i64 0)], none, 0, []⟩]) (.block 0 (.loop ir30_v0 ir30_b0))) (.seq (.region true 0 [
    ⟨some 61, .load true 3, [.tmp 3], none, 0, []⟩,
    ⟨some 62, .load true 2, [.tmp 5], none, 0, []⟩,
    ⟨none, .store 3, [.tmp 6, .tmp 61], none, 0, [0]⟩,
    ⟨none, .store 2, [.tmp 7, .tmp 62], none, 0, [1, 2, 0]⟩,
    ⟨some 8, .mov, [.cst (.int .i64 0)], none, 0, [3, 1, 2, 0]⟩]) (.cut [6, 7, 8] (.ret))))) }
theorem ir30_bt0ok {R : Type} {summ : Nat → Option Summ} {fu : Nat} {call : Nat → List CV → List Blk → (CV → List Blk → Option R) → Option R} {o1 : St → (Ex → St → Option R) → Option R} (h1 : ∀ T k r, o1 T k = some r → evCode summ fu call ir30_b1 T k = some r) : LTok summ fu call (ir30_bt0 o1) ir30_b0 := ⟨trivial, ⟨trivial, ⟨⟨trivial, ⟨trivial, ⟨trivial, ⟨trivial, ⟨trivial, h1⟩⟩⟩⟩⟩, trivial⟩⟩⟩
theorem ir30_tok {R : Type} {summ : Nat → Option Summ} {fu : Nat} {call : Nat → List CV → List Blk → (CV → List Blk → Option R) → Option R} {o0 : St → (Ex → St → Option R) → Option R} (h0 : ∀ T k r, o0 T k = some r → evLoopN (evCode summ fu call ir30_b0) (St.norm ir30_v0) fu T k = some r) : LTok summ fu call (ir30_t o0) ir30.body := ⟨trivial, ⟨⟨trivial, h0⟩, trivial⟩⟩


def ir31_b0 : IC := (.seq (.region false 2 [
    ⟨some 7, .alloc 25 (.pair (.nil 34 (.int .u32)) (.pair (.nil 3 (.int .i64)) (.pure (.pair (.int .i64) .unit) (0, ())))), [], none, 0, []⟩,
    ⟨some 8, .alloc 36 (.pure (.pair (.int .i64) (.pair (.int .u32) .unit)) (0, (0, ()))), [], none, 0, []⟩,
    ⟨some 9, .mov, [.cst (.int .i64 0)], none, 0, []⟩]) (.seq (.region false 1 [
    ⟨some 11, .mov, [.tmp 0], none, 0, []⟩,
    ⟨some 12, .load false 1, [.tmp 1], none, 0, []⟩,
    ⟨some 13, .build [((.int .i64 0), 1), ((.int .u32 0), 1)] [0, 1], [.tmp 11, .tmp 12], none, 0, []⟩,
    ⟨some 10, .alloc 36 (.pure (.pair (.int .i64) (.pair (.int .u32) .unit)) (0, (0, ()))), [], none, 0, []⟩,
    ⟨none, .store 2, [.tmp 10, .tmp 13], none, 0, []⟩]) (.seq (.seq (.region false 0 [
    ⟨some 14, .load false 1, [.tmp 2], none, 0, []⟩]) (.cond (.tmp 14) (.seq (.region false 1 [
     ⟨some 15, .load true 3, [.tmp 3], none, 0, []⟩,
     ⟨some 16, .load false 1, [.tmp 4], none, 0, []⟩,
     ⟨some 17, .bin .quo, [.tmp 16, .cst (.int .i64 64)], none, 0, []⟩,
     ⟨some 18, .load true 2, [.tmp 10], none, 0, []⟩,
     ⟨some 19, .callS 28, [.tmp 15, .tmp 17, .tmp 18], none, 0, []⟩,
     ⟨some 20, .extract 0, [.tmp 19], none, 0, []⟩,
     ⟨some 21, .extract 1, [.tmp 19], none, 0, []⟩,
     ⟨some 22, .extract 2, [.tmp 19], none, 0, []⟩,
     ⟨none, .store 3, [.tmp 7, .tmp 20], none, 0, []⟩,
     ⟨none, .store 2, [.tmp 8, .tmp 21], none, 0, []⟩,
     ⟨some 9, .mov, [.tmp 22], none, 0, []⟩]) (.cut [7, 8, 9] (.ret))) (.skip))) (.seq (.region false 1 [
    ⟨some 23, .load true 3, [.tmp 3], none, 0, []⟩,
    ⟨some 24, .load false 1, [.tmp 4], none, 0, []⟩,
    ⟨some 25, .load false 1, [.tmp 5], none, 0, []⟩,
    ⟨some 26, .load true 2, [.tmp 10], none, 0, []⟩,
    ⟨some 27, .callS 19, [.tmp 23, .tmp 24, .tmp 25, .tmp 26], none, 0, []⟩,
    ⟨some 28, .extract 0, [.tmp 27], none, 0, []⟩,
    ⟨some 29, .extract 1, [.tmp 27], none, 0, []⟩,
    ⟨some 30, .extract 2, [.tmp 27], none, 0, []⟩,
    ⟨none, .store 3, [.tmp 7, .tmp 28], none, 0, []⟩,
    ⟨none, .store 2, [.tmp 8, .tmp 29], none, 0, []⟩,
    ⟨some 9, .mov, [.tmp 30], none, 0, []⟩]) (.cut [7, 8, 9] (.ret))))))
def ir31_v0 : List Nat := [0, 1, 2, 3, 4, 5]
def ir31_t {R : Type} (o0 : St → (Ex → St → Option R) → Option R) : LT R := (.orc o0)
def ir31 : IFn :=
  { ntmps := 31, results := [.inr (7, true, 3), .inr (8, true, 2), .inl 9], body := (.cut ir31_v0 ir31_b0) }
theorem ir31_tok {R : Type} {summ : Nat → Option Summ} {fu : Nat} {call : Nat → List CV → List Blk → (CV → List Blk → Option R) → Option R} {o0 : St → (Ex → St → Option R) → Option R} (h0 : ∀ T k r, o0 T k = some r → evCode summ fu call ir31_b0 T k = some r) : LTok summ fu call (ir31_t o0) ir31.body := h0


def ir32_b2 : IC := (.seq (.seq (.region false 0 [
        ⟨some 34, .mov, [.tmp 8], none, 0, []⟩,
        ⟨some 35, .mov, [.tmp 7], none, 0, []⟩,
        ⟨some 36, .len, [.tmp 35], none, 0, []⟩,
        ⟨some 37, .bin .lss, [.tmp 34, .tmp 36], none, 0, []⟩]) (.cond (.tmp 37) (.skip) (.cut [7] (.exit 0)))) (.block 1 (.region true 0 [
         ⟨some 38, .mov, [.tmp 8], none, 0, []⟩,
         ⟨some 39, .mov, [.tmp 7], none, 0, []⟩,
         ⟨some 40, .mov, [.tmp 8], none, 0, []⟩,
         ⟨some 41, .slice 1 true false, [.tmp 39, .tmp 40], none, 0, [1, 2]⟩,
         ⟨some 42, .mov, [.tmp 7], none, 0, []⟩,
         ⟨some 43, .mov, [.tmp 8], none, 0, []⟩,
         ⟨some 44, .slice 1 false true, [.tmp 42, .tmp 43], none, 0, [4, 5]⟩,
         ⟨some 45, .copy (.int .u32), [.tmp 41, .tmp 44], none, 0, [3, 1, 2, 6, 4, 5]⟩,
         ⟨some 46, .bin .add, [.tmp 38, .tmp 45], none, 0, [0, 7, 3, 1, 2, 6, 4, 5]⟩,
         ⟨some 8, .mov, [.tmp 46], none, 0, [8, 0, 7, 3, 1, 2, 6, 4, 5]⟩])))
def ir32_v2 : List Nat := [7, 8]
def ir32_b1 : IC := (.seq (.region false 1 [
      ⟨some 28, .mov, [.tmp 6], none, 0, []⟩,
      ⟨some 29, .conv .i64, [.tmp 28], none, 0, []⟩,
      ⟨some 30, .mkSlice 34 (.int .u32) 4, [.tmp 29, .tmp 29], none, 0, []⟩,
      ⟨some 7, .mov, [.tmp 30], none, 0, []⟩]) (.seq (.region false 0 [
      ⟨some 31, .mov, [.tmp 7], none, 0, []⟩,
      ⟨some 32, .mov, [.tmp 0], none, 0, []⟩,
      ⟨some 33, .copy (.int .u32), [.tmp 31, .tmp 32], none, 0, []⟩,
      ⟨some 8, .mov, [.tmp 33], none, 0, []⟩]) (.seq (.block 0 (.loop ir32_v2 ir32_b2)) (.seq (.region false 0 [
      ⟨some 47, .mov, [.tmp 7], none, 0, []⟩,
      ⟨some 4, .mov, [.tmp 47], none, 0, []⟩]) (.cut [4] (.ret))))))
def ir32_v1 : List Nat := [0, 6]
def ir32_bt1 {R : Type} (o2 : St → (Ex → St → Option R) → Option R) : LT R := (.node .nil (.node .nil (.node (.node (.orc o2) .nil) .nil)))
def ir32_b0 : IC := (.seq (.region false 1 [
     ⟨some 13, .mov, [.tmp 0], none, 0, []⟩,
     ⟨some 14, .len, [.tmp 13], none, 0, []⟩,
     ⟨some 15, .conv .u64, [.tmp 14], none, 0, []⟩,
     ⟨some 16, .mov, [.tmp 1], none, 0, []⟩,
     ⟨some 17, .conv .u64, [.tmp 16], none, 0, []⟩,
     ⟨some 18, .callS 46, [.tmp 15, .tmp 17], none, 0, []⟩,
     ⟨some 12, .mov, [.tmp 18], none, 0, []⟩,
     ⟨some 19, .extract 0, [.tmp 12], none, 0, []⟩,
     ⟨some 20, .extract 1, [.tmp 12], none, 0, []⟩,
     ⟨some 5, .mov, [.tmp 19], none, 0, []⟩,
     ⟨some 6, .mov, [.tmp 20], none, 0, []⟩]) (.seq (.seq (.region false 0 [
     ⟨some 21, .mov, [.tmp 5], none, 0, []⟩,
     ⟨some 22, .bin .gtr, [.tmp 21, .cst (.int .u64 0)], none, 0, []⟩,
     ⟨some 23, .mov, [.tmp 22], none, 0, []⟩,
     ⟨some 24, .mov, [.tmp 6], some (23, false), 0, []⟩,
     ⟨some 25, .bin .gtr, [.tmp 24, .cst (.int .u64 9223372036854775807)], some (23, false), 0, []⟩,
     ⟨some 26, .pick, [.tmp 23, .cst (.bool true), .tmp 25], none, 0, []⟩]) (.cond (.tmp 26) (.region false 0 [
      ⟨some 27, .bad, [], none, 0, []⟩,
      ⟨none, .bad, [], none, 0, []⟩]) (.skip))) (.cut ir32_v1 ir32_b1)))
def ir32_v0 : List Nat := [0, 1]
def ir32_bt0 {R : Type} (o1 : St → (Ex → St → Option R) → Option R) : LT R := (.node .nil (.node .nil (.orc o1)))
def ir32_t {R : Type} (o0 : St → (Ex → St → Option R) → Option R) : LT R := (.node .nil (.node .nil (.orc o0)))
def ir32 : IFn :=
  { ntmps := 48, results := [.inl 4], body := (.seq (.region false 0 [
    ⟨some 4, .mov, [.cst (.nil 34 (.int .u32))], none, 0, []⟩]) (.seq (.seq (.region false 0 [
    ⟨some 9, .mov, [.tmp 1], none, 0, []⟩,
    ⟨some 10, .bin .lss, [.tmp 9, .cst (.int .i64 0)], none, 0, []⟩]) (.cond (.tmp 10) (.region false 0 [
     ⟨some 11, .bad, [], none, 0, []⟩,
     ⟨none, .bad, [], none, 0, []⟩]) (.skip))) (.cut ir32_v0 ir32_b0))) }
theorem ir32_bt1ok {R : Type} {summ : Nat → Option Summ} {fu : Nat} {call : Nat → List CV → List Blk → (CV → List Blk → Option R) → Option R} {o2 : St → (Ex → St → Option R) → Option R} (h2 : ∀ T k r, o2 T k = some r → evLoopN (evCode summ fu call ir32_b2) (St.norm ir32_v2) fu T k = some r) : LTok summ fu call (ir32_bt1 o2) ir32_b1 := ⟨trivial, ⟨trivial, ⟨h2, trivial⟩⟩⟩
theorem ir32_bt0ok {R : Type} {summ : Nat → Option Summ} {fu : Nat} {call : Nat → List CV → List Blk → (CV → List Blk → Option R) → Option R} {o1 : St → (Ex → St → Option R) → Option R} (h1 : ∀ T k r, o1 T k = some r → evCode summ fu call ir32_b1 T k = some r) : LTok summ fu call (ir32_bt0 o1) ir32_b0 := ⟨trivial, ⟨trivial, h1⟩⟩
theorem ir32_tok {R : Type} {summ : Nat → Option Summ} {fu : Nat} {call : Nat → List CV → List Blk → (CV → List Blk → Option R) → Option R} {o0 : St → (Ex → St → Option R) → Option R} (h0 : ∀ T k r, o0 T k = some r → evCode summ fu call ir32_b0 T k = some r) : LTok summ fu call (ir32_t o0) ir32.body := ⟨trivial, ⟨trivial, h0⟩⟩


def ir34 : IFn :=
  { ntmps := 9, results := [.inl 4], body := (.seq (.region false 0 [
    ⟨some 4, .mov, [.cst (.bool false)], none, 0, []⟩]) (.seq (.region false 0 [
    ⟨some 5, .mov, [.tmp 0], none, 0, []⟩,
    ⟨some 6, .mov, [.tmp 1], none, 0, []⟩,
    ⟨some 7, .call 47, [.tmp 5, .tmp 6], none, 0, []⟩,
    ⟨some 8, .bin .geq, [.tmp 7, .cst (.int .i64 0)], none, 0, []⟩,
    ⟨some 4, .mov, [.tmp 8], none, 0, []⟩]) (.cut [4] (.ret)))) }


def ir35 : IFn :=
  { ntmps := 12, results := [.inl 3], body := (.seq (.region false 0 [
    ⟨some 3, .mov, [.cst (.bool false)], none, 0, []⟩]) (.seq (.region false 0 [
    ⟨some 4, .mov, [.tmp 0], none, 0, []⟩,
    ⟨some 5, .bin .lss, [.tmp 4, .cst (.int .i64 0)], none, 0, []⟩,
    ⟨some 6, .mov, [.tmp 5], none, 0, []⟩,
    ⟨some 7, .mov, [.tmp 0], some (6, false), 0, []⟩,
    ⟨some 8, .fieldAddr 2 2, [.tmp 1], some (6, false), 0, []⟩,
    ⟨some 9, .load false 1, [.tmp 8], some (6, false), 0, []⟩,
    ⟨some 10, .bin .gtr, [.tmp 7, .tmp 9], some (6, false), 0, []⟩,
    ⟨some 11, .pick, [.tmp 6, .cst (.bool true), .tmp 10], none, 0, []⟩,
    ⟨some 3, .mov, [.tmp 11], none, 0, []⟩]) (.cut [3] (.ret)))) }


def ir36 : IFn :=
  { ntmps := 31, results := [.inl 8], body := (.seq (.region false 2 [
    ⟨some 4, .box 25, [.tmp 0], none, 0, []⟩,
    ⟨some 5, .box 36, [.tmp 1], none, 0, []⟩,
    ⟨some 8, .mov, [.cst (.int .i64 0)], none, 0, []⟩]) (.seq (.block 0 (.seq (.region false 1 [
     ⟨some 10, .load true 3, [.tmp 4], none, 0, []⟩,
     ⟨some 11, .callS 16, [.tmp 10], none, 0, []⟩,
     ⟨some 12, .not, [.tmp 11], none, 0, []⟩,
     ⟨some 13, .mov, [.tmp 12], none, 0, []⟩,
     ⟨some 14, .fieldAddr 0 0, [.tmp 5], some (13, false), 0, []⟩,
     ⟨some 15, .load false 1, [.tmp 14], some (13, false), 0, []⟩,
     ⟨some 16, .bin .lss, [.tmp 15, .cst (.int .i64 0)], some (13, false), 0, []⟩,
     ⟨some 17, .pick, [.tmp 13, .cst (.bool true), .tmp 16], none, 0, []⟩,
     ⟨some 18, .mov, [.tmp 17], none, 0, []⟩,
     ⟨some 19, .fieldAddr 0 0, [.tmp 5], some (18, false), 0, []⟩,
     ⟨some 20, .load false 1, [.tmp 19], some (18, false), 0, []⟩,
     ⟨some 21, .bin .gtr, [.tmp 20, .cst (.int .i64 1099511627776)], some (18, false), 0, []⟩,
     ⟨some 22, .pick, [.tmp 18, .cst (.bool true), .tmp 21], none, 0, []⟩,
     ⟨some 9, .mov, [.tmp 22], none, 0, []⟩]) (.cond (.tmp 9) (.seq (.region false 0 [
      ⟨some 8, .mov, [.cst (.int .i64 1)], none, 0, []⟩]) (.cut [8] (.ret))) (.seq (.region false 0 [
      ⟨some 24, .mov, [.tmp 2], none, 0, []⟩,
      ⟨some 25, .bin .lss, [.tmp 24, .cst (.int .i64 0)], none, 0, []⟩,
      ⟨some 26, .mov, [.tmp 25], none, 0, []⟩,
      ⟨some 27, .mov, [.tmp 2], some (26, false), 0, []⟩,
      ⟨some 28, .mov, [.tmp 3], some (26, false), 0, []⟩,
      ⟨some 29, .bin .geq, [.tmp 27, .tmp 28], some (26, false), 0, []⟩,
      ⟨some 30, .pick, [.tmp 26, .cst (.bool true), .tmp 29], none, 0, []⟩,
      ⟨some 23, .mov, [.tmp 30], none, 0, []⟩]) (.cond (.tmp 23) (.seq (.region false 0 [
       ⟨some 8, .mov, [.cst (.int .i64 2)], none, 0, []⟩]) (.cut [8] (.ret))) (.skip)))))) (.seq (.region false 0 [
    ⟨some 8, .mov, [.cst (.int .i64 0)], none, 0, []⟩]) (.cut [8] (.ret))))) }


def ir37 : IFn :=
  { ntmps := 44, results := [.inr (6, true, 3), .inr (7, true, 2), .inl 8], body := (.seq (.region false 4 [
    ⟨some 3, .box 25, [.tmp 0], none, 0, []⟩,
    ⟨some 4, .box 36, [.tmp 1], none, 0, []⟩,
    ⟨some 6, .alloc 25 (.pair (.nil 34 (.int .u32)) (.pair (.nil 3 (.int .i64)) (.pure (.pair (.int .i64) .unit) (0, ())))), [], none, 0, []⟩,
    ⟨some 7, .alloc 36 (.pure (.pair (.int .i64) (.pair (.int .u32) .unit)) (0, (0, ()))), [], none, 0, []⟩,
    ⟨some 8, .mov, [.cst (.int .i64 0)], none, 0, []⟩]) (.seq (.region true 3 [
    ⟨some 10, .fieldAddr 0 0, [.tmp 3], none, 0, []⟩,
    ⟨some 11, .load false 1, [.tmp 10], none, 0, [0]⟩,
    ⟨some 12, .callS 21, [.tmp 11], none, 0, [1, 0]⟩,
    ⟨some 13, .fieldAddr 1 1, [.tmp 3], none, 1, []⟩,
    ⟨some 14, .load false 1, [.tmp 13], none, 1, [3]⟩,
    ⟨some 15, .callS 48, [.tmp 14], none, 1, [4, 3, 2, 1, 0]⟩,
    ⟨some 16, .fieldAddr 2 2, [.tmp 3], none, 2, []⟩,
    ⟨some 17, .load false 1, [.tmp 16], none, 2, [6]⟩,
    ⟨some 18, .build [((.nil 34 (.int .u32)), 1), ((.nil 3 (.int .i64)), 1), ((.int .i64 0), 1)] [0, 1, 2], [.tmp 12, .tmp 15, .tmp 17], none, 2, [2, 1, 0, 5, 4, 3, 7, 6]⟩,
    ⟨some 9, .alloc 25 (.pair (.nil 34 (.int .u32)) (.pair (.nil 3 (.int .i64)) (.pure (.pair (.int .i64) .unit) (0, ())))), [], none, 2, []⟩,
    ⟨none, .store 3, [.tmp 9, .tmp 18], none, 3, [9, 8, 2, 1, 0, 5, 4, 3, 7, 6]⟩]) (.seq (.seq (.region false 0 [
    ⟨some 19, .fieldAddr 0 0, [.tmp 4], none, 0, []⟩,
    ⟨some 20, .load false 1, [.tmp 19], none, 0, []⟩]) (.block 0 (.seq (.region false 0 [
     ⟨some 22, .bin .eql, [.tmp 20, .cst (.int .i64 0)], none, 0, []⟩,
     ⟨some 21, .mov, [.tmp 22], none, 0, []⟩]) (.cond (.tmp 21) (.seq (.region true 0 [
      ⟨some 23, .load true 3, [.tmp 9], none, 0, []⟩,
      ⟨some 24, .load true 2, [.tmp 4], none, 0, []⟩,
      ⟨none, .store 3, [.tmp 6, .tmp 23], none, 0, [0]⟩,
      ⟨none, .store 2, [.tmp 7, .tmp 24], none, 0, [1, 2, 0]⟩,
      ⟨some 8, .mov, [.cst (.int .i64 18)], none, 0, [3, 1, 2, 0]⟩]) (.cut [6, 7, 8] (.ret))) (.seq (.region false 0 [
      ⟨some 26, .bin .eql, [.tmp 20, .cst (.int .i64 1)], none, 0, []⟩,
      ⟨some 25, .mov, [.tmp 26], none, 0, []⟩]) (.cond (.tmp 25) (.seq (.region false 0 [
       ⟨some 27, .fieldAddr 0 0, [.tmp 4], none, 0, []⟩,
       ⟨none, .store 1, [.tmp 27, .cst (.int .i64 0)], none, 0, []⟩]) (.seq (.region false 0 [
       ⟨some 28, .mov, [.tmp 2], none, 0, []⟩,
       ⟨some 29, .load true 3, [.tmp 9], none, 0, []⟩,
       ⟨some 30, .fieldAddr 1 1, [.tmp 4], none, 0, []⟩,
       ⟨some 31, .load false 1, [.tmp 30], none, 0, []⟩,
       ⟨some 32, .callv, [.tmp 28, .tmp 29, .tmp 31], none, 0, []⟩]) (.seq (.region true 0 [
       ⟨some 33, .load true 3, [.tmp 9], none, 0, []⟩,
       ⟨some 34, .load true 2, [.tmp 4], none, 0, []⟩,
       ⟨none, .store 3, [.tmp 6, .tmp 33], none, 0, [0]⟩,
       ⟨none, .store 2, [.tmp 7, .tmp 34], none, 0, [1, 2, 0]⟩,
       ⟨some 8, .mov, [.cst (.int .i64 18)], none, 0, [3, 1, 2, 0]⟩]) (.cut [6, 7, 8] (.ret))))) (.skip))))))) (.seq (.region false 0 [
    ⟨some 35, .fieldAddr 0 0, [.tmp 4], none, 0, []⟩,
    ⟨some 36, .load false 1, [.tmp 35], none, 0, []⟩,
    ⟨some 37, .bin .sub, [.tmp 36, .cst (.int .i64 1)], none, 0, []⟩,
    ⟨some 38, .fieldAddr 0 0, [.tmp 4], none, 0, []⟩,
    ⟨none, .store 1, [.tmp 38, .tmp 37], none, 0, []⟩]) (.seq (.region false 0 [
    ⟨some 39, .mov, [.tmp 2], none, 0, []⟩,
    ⟨some 40, .load true 3, [.tmp 9], none, 0, []⟩,
    ⟨some 41, .callv, [.tmp 39, .tmp 40, .cst (.int .u32 4294967295)], none, 0, []⟩]) (.seq (.region true 0 [
    ⟨some 42, .load true 3, [.tmp 9], none, 0, []⟩,
    ⟨some 43, .load true 2, [.tmp 4], none, 0, []⟩,
    ⟨none, .store 3, [.tmp 6, .tmp 42], none, 0, [0]⟩,
    ⟨none, .store 2, [.tmp 7, .tmp 43], none, 0, [1, 2, 0]⟩,
    ⟨some 8, .mov, [.cst (.int .i64 0)], none, 0, [3, 1, 2, 0]⟩]) (.cut [6, 7, 8] (.ret)))))))) }


def ir38 : IFn :=
  { ntmps := 16, results := [], body := (.seq (.region false 1 [
    ⟨some 4, .box 25, [.tmp 0], none, 0, []⟩]) (.region true 0 [
    ⟨some 6, .fieldAddr 0 0, [.tmp 4], none, 0, []⟩,
    ⟨some 7, .load false 1, [.tmp 6], none, 0, [0]⟩,
    ⟨some 8, .load false 1, [.tmp 2], none, 0, []⟩,
    ⟨some 9, .idxSl 1, [.tmp 7, .tmp 8], none, 0, [1, 0, 2]⟩,
    ⟨some 10, .load false 1, [.tmp 9], none, 0, [3, 1, 0, 2]⟩,
    ⟨some 11, .mov, [.tmp 1], none, 0, []⟩,
    ⟨some 12, .load false 1, [.tmp 3], none, 0, []⟩,
    ⟨some 13, .bin .andNot, [.tmp 11, .tmp 12], none, 0, [5, 6]⟩,
    ⟨some 14, .bin .andNot, [.tmp 10, .tmp 13], none, 0, [4, 3, 1, 0, 2, 7, 5, 6]⟩,
    ⟨some 15, .idxSl 1, [.tmp 7, .tmp 8], none, 0, [1, 0, 2, 3, 4, 5, 6, 7, 8]⟩,
    ⟨none, .store 1, [.tmp 15, .tmp 14], none, 0, [9, 1, 0, 2, 3, 4, 5, 6, 7, 8]⟩])) }


def ir42 : IFn :=
  { ntmps := 9, results := [.inl 4], body := (.seq (.region false 0 [
    ⟨some 4, .mov, [.cst (.bool false)], none, 0, []⟩]) (.seq (.region false 0 [
    ⟨some 5, .mov, [.tmp 0], none, 0, []⟩,
    ⟨some 6, .mov, [.tmp 1], none, 0, []⟩,
    ⟨some 7, .call 49, [.tmp 5, .tmp 6], none, 0, []⟩,
    ⟨some 8, .bin .geq, [.tmp 7, .cst (.int .i64 0)], none, 0, []⟩,
    ⟨some 4, .mov, [.tmp 8], none, 0, []⟩]) (.cut [4] (.ret)))) }


def ir43 : IFn :=
  { ntmps := 13, results := [.inl 4], body := (.seq (.region false 1 [
    ⟨some 2, .box 25, [.tmp 0], none, 0, []⟩,
    ⟨some 4, .mov, [.cst (.nil 34 (.int .u32))], none, 0, []⟩]) (.seq (.region false 0 [
    ⟨some 5, .fieldAddr 0 0, [.tmp 2], none, 0, []⟩,
    ⟨some 6, .load false 1, [.tmp 5], none, 0, []⟩,
    ⟨some 7, .mov, [.tmp 1], none, 0, []⟩,
    ⟨some 8, .bin .mul, [.tmp 7, .cst (.int .i64 64)], none, 0, []⟩,
    ⟨some 9, .mov, [.tmp 1], none, 0, []⟩,
    ⟨some 10, .bin .add, [.tmp 9, .cst (.int .i64 1)], none, 0, []⟩,
    ⟨some 11, .bin .mul, [.tmp 10, .cst (.int .i64 64)], none, 0, []⟩,
    ⟨some 12, .slice 1 true true, [.tmp 6, .tmp 8, .tmp 11], none, 0, []⟩,
    ⟨some 4, .mov, [.tmp 12], none, 0, []⟩]) (.cut [4] (.ret)))) }


def ir44 : IFn :=
  { ntmps := 5, results := [.inl 2], body := (.seq (.region false 0 [
    ⟨some 2, .mov, [.cst (.bool false)], none, 0, []⟩]) (.seq (.region false 0 [
    ⟨some 3, .mov, [.tmp 0], none, 0, []⟩,
    ⟨some 4, .bin .neq, [.tmp 3, .cst (.int .u32 4294967295)], none, 0, []⟩,
    ⟨some 2, .mov, [.tmp 4], none, 0, []⟩]) (.cut [2] (.ret)))) }


def ir45_b0 : IC := (.seq (.region false 0 [
      ⟨some 13, .bin .lss, [.tmp 12, .tmp 11], none, 0, []⟩]) (.seq (.cond (.tmp 13) (.skip) (.cut [2, 3] (.exit 0))) (.seq (.block 1 (.seq (.region false 0 [
       ⟨some 14, .mov, [.tmp 12], none, 0, []⟩,
       ⟨some 6, .mov, [.tmp 14], none, 0, []⟩]) (.region false 0 [
       ⟨some 15, .mov, [.tmp 5], none, 0, []⟩,
       ⟨some 16, .mov, [.tmp 6], none, 0, []⟩,
       ⟨some 17, .idxSl 1, [.tmp 15, .tmp 16], none, 0, []⟩,
       ⟨some 18, .load false 1, [.tmp 17], none, 0, []⟩,
       ⟨some 19, .mov, [.tmp 1], none, 0, []⟩,
       ⟨some 20, .bin .or, [.tmp 18, .tmp 19], none, 0, []⟩,
       ⟨some 21, .idxSl 1, [.tmp 15, .tmp 16], none, 0, []⟩,
       ⟨none, .store 1, [.tmp 21, .tmp 20], none, 0, []⟩]))) (.region false 0 [
      ⟨some 22, .bin .add, [.tmp 12, .cst (.int .i64 1)], none, 0, []⟩,
      ⟨some 12, .mov, [.tmp 22], none, 0, []⟩]))))
def ir45_v0 : List Nat := [1, 2, 3, 5, 11, 12]
def ir45_t {R : Type} (o0 : St → (Ex → St → Option R) → Option R) : LT R := (.node .nil (.node .nil (.node (.node .nil (.node (.orc o0) .nil)) .nil)))
def ir45 : IFn :=
  { ntmps := 30, results := [], body := (.seq (.region false 1 [
    ⟨some 3, .box 25, [.tmp 0], none, 0, []⟩]) (.seq (.region false 0 [
    ⟨some 7, .load true 3, [.tmp 3], none, 0, []⟩,
    ⟨some 8, .load false 1, [.tmp 2], none, 0, []⟩,
    ⟨some 9, .call 43, [.tmp 7, .tmp 8], none, 0, []⟩,
    ⟨some 5, .mov, [.tmp 9], none, 0, []⟩]) (.seq (.seq (.region false 0 [
    ⟨some 10, .mov, [.tmp 5], none, 0, []⟩,
    ⟨some 11, .len, [.tmp 10], none, 0, []⟩,
    ⟨some 12, .mov, [.cst (.int .i64 0)], none, 0, []⟩]) (.block 0 (.loop ir45_v0 ir45_b0))) (.region false 0 [
    ⟨some 23, .fieldAddr 1 1, [.tmp 3], none, 0, []⟩,
    ⟨some 24, .load false 1, [.tmp 23], none, 0, []⟩,
    ⟨some 25, .load false 1, [.tmp 2], none, 0, []⟩,
    ⟨some 26, .idxSl 1, [.tmp 24, .tmp 25], none, 0, []⟩,
    ⟨some 27, .load false 1, [.tmp 26], none, 0, []⟩,
    ⟨some 28, .bin .add, [.tmp 27, .cst (.int .i64 1)], none, 0, []⟩,
    ⟨some 29, .idxSl 1, [.tmp 24, .tmp 25], none, 0, []⟩,
    ⟨none, .store 1, [.tmp 29, .tmp 28], none, 0, []⟩])))) }
theorem ir45_tok {R : Type} {summ : Nat → Option Summ} {fu : Nat} {call : Nat → List CV → List Blk → (CV → List Blk → Option R) → Option R} {o0 : St → (Ex → St → Option R) → Option R} (h0 : ∀ T k r, o0 T k = some r → evLoopN (evCode summ fu call ir45_b0) (St.norm ir45_v0) fu T k = some r) : LTok summ fu call (ir45_t o0) ir45.body := ⟨trivial, ⟨trivial, ⟨⟨trivial, h0⟩, trivial⟩⟩⟩


def ir46 : IFn :=
  { ntmps := 30, results := [.inl 4, .inl 5], body := (.seq (.region false 0 [
    ⟨some 4, .mov, [.cst (.int .u64 0)], none, 0, []⟩,
    ⟨some 5, .mov, [.cst (.int .u64 0)], none, 0, []⟩]) (.seq (.cond (.cst (.bool false)) (.seq (.region false 1 [
     ⟨some 11, .mov, [.tmp 0], none, 0, []⟩,
     ⟨some 12, .conv .u32, [.tmp 11], none, 0, []⟩,
     ⟨some 13, .mov, [.tmp 1], none, 0, []⟩,
     ⟨some 14, .conv .u32, [.tmp 13], none, 0, []⟩,
     ⟨some 15, .callS 50, [.tmp 12, .tmp 14], none, 0, []⟩,
     ⟨some 10, .mov, [.tmp 15], none, 0, []⟩,
     ⟨some 16, .extract 0, [.tmp 10], none, 0, []⟩,
     ⟨some 17, .extract 1, [.tmp 10], none, 0, []⟩,
     ⟨some 6, .mov, [.tmp 16], none, 0, []⟩,
     ⟨some 7, .mov, [.tmp 17], none, 0, []⟩]) (.seq (.region false 0 [
     ⟨some 18, .mov, [.tmp 6], none, 0, []⟩,
     ⟨some 19, .conv .u64, [.tmp 18], none, 0, []⟩,
     ⟨some 20, .mov, [.tmp 7], none, 0, []⟩,
     ⟨some 21, .conv .u64, [.tmp 20], none, 0, []⟩,
     ⟨some 4, .mov, [.tmp 19], none, 0, []⟩,
     ⟨some 5, .mov, [.tmp 21], none, 0, []⟩]) (.cut [4, 5] (.ret)))) (.skip)) (.seq (.region false 1 [
    ⟨some 23, .mov, [.tmp 0], none, 0, []⟩,
    ⟨some 24, .mov, [.tmp 1], none, 0, []⟩,
    ⟨some 25, .callS 51, [.tmp 23, .tmp 24], none, 0, []⟩,
    ⟨some 22, .mov, [.tmp 25], none, 0, []⟩,
    ⟨some 26, .extract 0, [.tmp 22], none, 0, []⟩,
    ⟨some 27, .extract 1, [.tmp 22], none, 0, []⟩,
    ⟨some 8, .mov, [.tmp 26], none, 0, []⟩,
    ⟨some 9, .mov, [.tmp 27], none, 0, []⟩]) (.seq (.region false 0 [
    ⟨some 28, .mov, [.tmp 8], none, 0, []⟩,
    ⟨some 29, .mov, [.tmp 9], none, 0, []⟩,
    ⟨some 4, .mov, [.tmp 28], none, 0, []⟩,
    ⟨some 5, .mov, [.tmp 29], none, 0, []⟩]) (.cut [4, 5] (.ret)))))) }


def ir47_b0 : IC := (.seq (.region false 0 [
      ⟨some 9, .bin .lss, [.tmp 8, .tmp 7], none, 0, []⟩]) (.seq (.cond (.tmp 9) (.skip) (.cut [] (.exit 0))) (.seq (.block 1 (.seq (.region false 0 [
       ⟨some 10, .mov, [.tmp 8], none, 0, []⟩,
       ⟨some 5, .mov, [.tmp 10], none, 0, []⟩]) (.seq (.region false 0 [
       ⟨some 11, .mov, [.tmp 1], none, 0, []⟩,
       ⟨some 12, .mov, [.tmp 0], none, 0, []⟩,
       ⟨some 13, .mov, [.tmp 5], none, 0, []⟩,
       ⟨some 14, .idxSl 1, [.tmp 12, .tmp 13], none, 0, []⟩,
       ⟨some 15, .load false 1, [.tmp 14], none, 0, []⟩,
       ⟨some 16, .callv, [.tmp 11, .tmp 15], none, 0, []⟩]) (.cond (.tmp 16) (.seq (.region false 0 [
        ⟨some 17, .mov, [.tmp 5], none, 0, []⟩,
        ⟨some 4, .mov, [.tmp 17], none, 0, []⟩]) (.cut [4] (.ret))) (.skip))))) (.region false 0 [
      ⟨some 18, .bin .add, [.tmp 8, .cst (.int .i64 1)], none, 0, []⟩,
      ⟨some 8, .mov, [.tmp 18], none, 0, []⟩]))))
def ir47_v0 : List Nat := [0, 1, 7, 8]
def ir47_t {R : Type} (o0 : St → (Ex → St → Option R) → Option R) : LT R := (.node .nil (.node (.node .nil (.node (.orc o0) .nil)) .nil))
def ir47 : IFn :=
  { ntmps := 19, results := [.inl 4], body := (.seq (.region false 0 [
    ⟨some 4, .mov, [.cst (.int .i64 0)], none, 0, []⟩]) (.seq (.seq (.region false 0 [
    ⟨some 6, .mov, [.tmp 0], none, 0, []⟩,
    ⟨some 7, .len, [.tmp 6], none, 0, []⟩,
    ⟨some 8, .mov, [.cst (.int .i64 0)], none, 0, []⟩]) (.block 0 (.loop ir47_v0 ir47_b0))) (.seq (.region false 0 [
    ⟨some 4, .mov, [.cst (.int .i64 (-1))], none, 0, []⟩]) (.cut [4] (.ret))))) }
theorem ir47_tok {R : Type} {summ : Nat → Option Summ} {fu : Nat} {call : Nat → List CV → List Blk → (CV → List Blk → Option R) → Option R} {o0 : St → (Ex → St → Option R) → Option R} (h0 : ∀ T k r, o0 T k = some r → evLoopN (evCode summ fu call ir47_b0) (St.norm ir47_v0) fu T k = some r) : LTok summ fu call (ir47_t o0) ir47.body := ⟨trivial, ⟨⟨trivial, h0⟩, trivial⟩⟩


def ir49_b0 : IC := (.seq (.region false 0 [
      ⟨some 9, .bin .lss, [.tmp 8, .tmp 7], none, 0, []⟩]) (.seq (.cond (.tmp 9) (.skip) (.cut [] (.exit 0))) (.seq (.block 1 (.seq (.region false 0 [
       ⟨some 10, .mov, [.tmp 8], none, 0, []⟩,
       ⟨some 5, .mov, [.tmp 10], none, 0, []⟩]) (.seq (.region false 0 [
       ⟨some 11, .mov, [.tmp 1], none, 0, []⟩,
       ⟨some 12, .mov, [.tmp 0], none, 0, []⟩,
       ⟨some 13, .mov, [.tmp 5], none, 0, []⟩,
       ⟨some 14, .idxSl 1, [.tmp 12, .tmp 13], none, 0, []⟩,
       ⟨some 15, .load false 1, [.tmp 14], none, 0, []⟩,
       ⟨some 16, .callv, [.tmp 11, .tmp 15], none, 0, []⟩]) (.cond (.tmp 16) (.seq (.region false 0 [
        ⟨some 17, .mov, [.tmp 5], none, 0, []⟩,
        ⟨some 4, .mov, [.tmp 17], none, 0, []⟩]) (.cut [4] (.ret))) (.skip))))) (.region false 0 [
      ⟨some 18, .bin .add, [.tmp 8, .cst (.int .i64 1)], none, 0, []⟩,
      ⟨some 8, .mov, [.tmp 18], none, 0, []⟩]))))
def ir49_v0 : List Nat := [0, 1, 7, 8]
def ir49_t {R : Type} (o0 : St → (Ex → St → Option R) → Option R) : LT R := (.node .nil (.node (.node .nil (.node (.orc o0) .nil)) .nil))
def ir49 : IFn :=
  { ntmps := 19, results := [.inl 4], body := (.seq (.region false 0 [
    ⟨some 4, .mov, [.cst (.int .i64 0)], none, 0, []⟩]) (.seq (.seq (.region false 0 [
    ⟨some 6, .mov, [.tmp 0], none, 0, []⟩,
    ⟨some 7, .len, [.tmp 6], none, 0, []⟩,
    ⟨some 8, .mov, [.cst (.int .i64 0)], none, 0, []⟩]) (.block 0 (.loop ir49_v0 ir49_b0))) (.seq (.region false 0 [
    ⟨some 4, .mov, [.cst (.int .i64 (-1))], none, 0, []⟩]) (.cut [4] (.ret))))) }
theorem ir49_tok {R : Type} {summ : Nat → Option Summ} {fu : Nat} {call : Nat → List CV → List Blk → (CV → List Blk → Option R) → Option R} {o0 : St → (Ex → St → Option R) → Option R} (h0 : ∀ T k r, o0 T k = some r → evLoopN (evCode summ fu call ir49_b0) (St.norm ir49_v0) fu T k = some r) : LTok summ fu call (ir49_t o0) ir49.body := ⟨trivial, ⟨⟨trivial, h0⟩, trivial⟩⟩


def ir50 : IFn :=
  { ntmps := 17, results := [.inl 4, .inl 5], body := (.seq (.region false 0 [
    ⟨some 4, .mov, [.cst (.int .u32 0)], none, 0, []⟩,
    ⟨some 5, .mov, [.cst (.int .u32 0)], none, 0, []⟩]) (.seq (.region false 0 [
    ⟨some 7, .mov, [.tmp 0], none, 0, []⟩,
    ⟨some 8, .conv .u64, [.tmp 7], none, 0, []⟩,
    ⟨some 9, .mov, [.tmp 1], none, 0, []⟩,
    ⟨some 10, .conv .u64, [.tmp 9], none, 0, []⟩,
    ⟨some 11, .bin .mul, [.tmp 8, .tmp 10], none, 0, []⟩,
    ⟨some 6, .mov, [.tmp 11], none, 0, []⟩]) (.seq (.region false 0 [
    ⟨some 12, .mov, [.tmp 6], none, 0, []⟩,
    ⟨some 13, .bin .shr, [.tmp 12, .cst (.int .u64 32)], none, 0, []⟩,
    ⟨some 14, .conv .u32, [.tmp 13], none, 0, []⟩,
    ⟨some 15, .mov, [.tmp 6], none, 0, []⟩,
    ⟨some 16, .conv .u32, [.tmp 15], none, 0, []⟩,
    ⟨some 4, .mov, [.tmp 14], none, 0, []⟩,
    ⟨some 5, .mov, [.tmp 16], none, 0, []⟩]) (.cut [4, 5] (.ret))))) }


def ir51 : IFn :=
  { ntmps := 51, results := [.inl 4, .inl 5], body := (.seq (.region false 0 [
    ⟨some 4, .mov, [.cst (.int .u64 0)], none, 0, []⟩,
    ⟨some 5, .mov, [.cst (.int .u64 0)], none, 0, []⟩]) (.seq (.region false 0 [
    ⟨some 14, .mov, [.tmp 0], none, 0, []⟩,
    ⟨some 15, .bin .and, [.tmp 14, .cst (.int .u64 4294967295)], none, 0, []⟩,
    ⟨some 6, .mov, [.tmp 15], none, 0, []⟩]) (.seq (.region false 0 [
    ⟨some 16, .mov, [.tmp 0], none, 0, []⟩,
    ⟨some 17, .bin .shr, [.tmp 16, .cst (.int .u64 32)], none, 0, []⟩,
    ⟨some 7, .mov, [.tmp 17], none, 0, []⟩]) (.seq (.region false 0 [
    ⟨some 18, .mov, [.tmp 1], none, 0, []⟩,
    ⟨some 19, .bin .and, [.tmp 18, .cst (.int .u64 4294967295)], none, 0, []⟩,
    ⟨some 8, .mov, [.tmp 19], none, 0, []⟩]) (.seq (.region false 0 [
    ⟨some 20, .mov, [.tmp 1], none, 0, []⟩,
    ⟨some 21, .bin .shr, [.tmp 20, .cst (.int .u64 32)], none, 0, []⟩,
    ⟨some 9, .mov, [.tmp 21], none, 0, []⟩]) (.seq (.region false 0 [
    ⟨some 22, .mov, [.tmp 6], none, 0, []⟩,
    ⟨some 23, .mov, [.tmp 8], none, 0, []⟩,
    ⟨some 24, .bin .mul, [.tmp 22, .tmp 23], none, 0, []⟩,
    ⟨some 10, .mov, [.tmp 24], none, 0, []⟩]) (.seq (.region false 0 [
    ⟨some 25, .mov, [.tmp 7], none, 0, []⟩,
    ⟨some 26, .mov, [.tmp 8], none, 0, []⟩,
    ⟨some 27, .bin .mul, [.tmp 25, .tmp 26], none, 0, []⟩,
    ⟨some 28, .mov, [.tmp 10], none, 0, []⟩,
    ⟨some 29, .bin .shr, [.tmp 28, .cst (.int .u64 32)], none, 0, []⟩,
    ⟨some 30, .bin .add, [.tmp 27, .tmp 29], none, 0, []⟩,
    ⟨some 11, .mov, [.tmp 30], none, 0, []⟩]) (.seq (.region false 0 [
    ⟨some 31, .mov, [.tmp 11], none, 0, []⟩,
    ⟨some 32, .bin .and, [.tmp 31, .cst (.int .u64 4294967295)], none, 0, []⟩,
    ⟨some 12, .mov, [.tmp 32], none, 0, []⟩]) (.seq (.region false 0 [
    ⟨some 33, .mov, [.tmp 11], none, 0, []⟩,
    ⟨some 34, .bin .shr, [.tmp 33, .cst (.int .u64 32)], none, 0, []⟩,
    ⟨some 13, .mov, [.tmp 34], none, 0, []⟩]) (.seq (.region false 0 [
    ⟨some 35, .mov, [.tmp 12], none, 0, []⟩,
    ⟨some 36, .mov, [.tmp 6], none, 0, []⟩,
    ⟨some 37, .mov, [.tmp 9], none, 0, []⟩,
    ⟨some 38, .bin .mul, [.tmp 36, .tmp 37], none, 0, []⟩,
    ⟨some 39, .bin .add, [.tmp 35, .tmp 38], none, 0, []⟩,
    ⟨some 12, .mov, [.tmp 39], none, 0, []⟩]) (.seq (.region false 0 [
    ⟨some 40, .mov, [.tmp 7], none, 0, []⟩,
    ⟨some 41, .mov, [.tmp 9], none, 0, []⟩,
    ⟨some 42, .bin .mul, [.tmp 40, .tmp 41], none, 0, []⟩,
    ⟨some 43, .mov, [.tmp 13], none, 0, []⟩,
    ⟨some 44, .bin .add, [.tmp 42, .tmp 43], none, 0, []⟩,
    ⟨some 45, .mov, [.tmp 12], none, 0, []⟩,
    ⟨some 46, .bin .shr, [.tmp 45, .cst (.int .u64 32)], none, 0, []⟩,
    ⟨some 47, .bin .add, [.tmp 44, .tmp 46], none, 0, []⟩,
    ⟨some 4, .mov, [.tmp 47], none, 0, []⟩]) (.seq (.region false 0 [
    ⟨some 48, .mov, [.tmp 0], none, 0, []⟩,
    ⟨some 49, .mov, [.tmp 1], none, 0, []⟩,
    ⟨some 50, .bin .mul, [.tmp 48, .tmp 49], none, 0, []⟩,
    ⟨some 5, .mov, [.tmp 50], none, 0, []⟩]) (.cut [4, 5] (.ret)))))))))))))) }


def fns : Nat → Option IFn
  | 9 => some ir9
  | 10 => some ir10
  | 11 => some ir11
  | 12 => some ir12
  | 13 => some ir13
  | 15 => some ir15
  | 16 => some ir16
  | 18 => some ir18
  | 19 => some ir19
  | 23 => some ir23
  | 24 => some ir24
  | 25 => some ir25
  | 26 => some ir26
  | 28 => some ir28
  | 30 => some ir30
  | 31 => some ir31
  | 32 => some ir32
  | 34 => some ir34
  | 35 => some ir35
  | 36 => some ir36
  | 37 => some ir37
  | 38 => some ir38
  | 42 => some ir42
  | 43 => some ir43
  | 44 => some ir44
  | 45 => some ir45
  | 46 => some ir46
  | 47 => some ir47
  | 49 => some ir49
  | 50 => some ir50
  | 51 => some ir51
  | _ => none
end Go.Ev
namespace Go.Ev
open Go
set_option maxRecDepth 100000
set_option maxHeartbeats 4000000
set_option linter.unusedVariables false
noncomputable section

def sm_50 : Nat → Option Summ := fun f => none


def F_50 (a0 : Int) (a1 : Int) : Option (Int × Int × Unit) :=
  some (IntKind.wrap IntKind.u32 (Int.fdiv (IntKind.wrap IntKind.u64 (IntKind.wrap IntKind.u64 a0 * IntKind.wrap IntKind.u64 a1)) (4294967296 : Int)), IntKind.wrap IntKind.u32 (IntKind.wrap IntKind.u64 (IntKind.wrap IntKind.u64 a0 * IntKind.wrap IntKind.u64 a1)), PUnit.unit)
theorem fn_50 (a0 : Int) (a1 : Int) : evFnL sm_50 FU (ovr noO (evFn sm_50 fns FU 0)) .nil ir50 (ofH [(.int .u32), (.int .u32)] (a0, a1, ())) [] (pureK [(.int .u32), (.int .u32)]) = F_50 a0 a1 := by kernel_rfl
def Sp.p_50 (a0 : Int) (a1 : Int) : Bool := (F_50 a0 a1).isSome
def Sp.v_50 (a0 : Int) (a1 : Int) : Int × Int × Unit := (F_50 a0 a1).getD (dfH [(.int .u32), (.int .u32)])
def s_50 : Summ := shN [(.int .u32), (.int .u32)] [(.int .u32), (.int .u32)] (fun x => Sp.p_50 x.1 x.2.1) (fun x => Sp.v_50 x.1 x.2.1)
theorem pv_50 (a0 : Int) (a1 : Int) {y : Int × Int × Unit} (h : F_50 a0 a1 = some y) : Sp.p_50 a0 a1 = true ∧ Sp.v_50 a0 a1 = y := ⟨by rw [Sp.p_50, h]; rfl, by rw [Sp.v_50, h]; rfl⟩
theorem run_50 (x : HDen [(.int .u32), (.int .u32)]) (y : HDen [(.int .u32), (.int .u32)]) (h : F_50 x.1 x.2.1 = some y) : evFn sm_50 fns FU 1 50 (ofH [(.int .u32), (.int .u32)] x) [] (pureK [(.int .u32), (.int .u32)]) = some y :=
  evFnL_sound (fn := ir50) (t := .nil) (o := noO) rfl noO_ok trivial ((fn_50 _ _).trans h)
end
end Go.Ev
namespace Go.Ev
open Go
set_option maxRecDepth 100000
set_option maxHeartbeats 4000000
set_option linter.unusedVariables false
noncomputable section

def sm_51 : Nat → Option Summ := fun f => none


def F_51 (a0 : Int) (a1 : Int) : Option (Int × Int × Unit) :=
  some (IntKind.wrap IntKind.u64 (IntKind.wrap IntKind.u64 (IntKind.wrap IntKind.u64 (Int.fdiv a0 (4294967296 : Int) * Int.fdiv a1 (4294967296 : Int)) + Int.fdiv (IntKind.wrap IntKind.u64 (IntKind.wrap IntKind.u64 (Int.fdiv a0 (4294967296 : Int) * Sp.andI IntKind.u64 a1 (4294967295 : Int)) + Int.fdiv (IntKind.wrap IntKind.u64 (Sp.andI IntKind.u64 a0 (4294967295 : Int) * Sp.andI IntKind.u64 a1 (4294967295 : Int))) (4294967296 : Int))) (4294967296 : Int)) + Int.fdiv (IntKind.wrap IntKind.u64 (Sp.andI IntKind.u64 (IntKind.wrap IntKind.u64 (IntKind.wrap IntKind.u64 (Int.fdiv a0 (4294967296 : Int) * Sp.andI IntKind.u64 a1 (4294967295 : Int)) + Int.fdiv (IntKind.wrap IntKind.u64 (Sp.andI IntKind.u64 a0 (4294967295 : Int) * Sp.andI IntKind.u64 a1 (4294967295 : Int))) (4294967296 : Int))) (4294967295 : Int) + IntKind.wrap IntKind.u64 (Sp.andI IntKind.u64 a0 (4294967295 : Int) * Int.fdiv a1 (4294967296 : Int)))) (4294967296 : Int)), IntKind.wrap IntKind.u64 (a0 * a1), PUnit.unit)
theorem fn_51 (a0 : Int) (a1 : Int) : evFnL sm_51 FU (ovr noO (evFn sm_51 fns FU 0)) .nil ir51 (ofH [(.int .u64), (.int .u64)] (a0, a1, ())) [] (pureK [(.int .u64), (.int .u64)]) = F_51 a0 a1 := by kernel_rfl
def Sp.p_51 (a0 : Int) (a1 : Int) : Bool := (F_51 a0 a1).isSome
def Sp.v_51 (a0 : Int) (a1 : Int) : Int × Int × Unit := (F_51 a0 a1).getD (dfH [(.int .u64), (.int .u64)])
def s_51 : Summ := shN [(.int .u64), (.int .u64)] [(.int .u64), (.int .u64)] (fun x => Sp.p_51 x.1 x.2.1) (fun x => Sp.v_51 x.1 x.2.1)
theorem pv_51 (a0 : Int) (a1 : Int) {y : Int × Int × Unit} (h : F_51 a0 a1 = some y) : Sp.p_51 a0 a1 = true ∧ Sp.v_51 a0 a1 = y := ⟨by rw [Sp.p_51, h]; rfl, by rw [Sp.v_51, h]; rfl⟩
theorem run_51 (x : HDen [(.int .u64), (.int .u64)]) (y : HDen [(.int .u64), (.int .u64)]) (h : F_51 x.1 x.2.1 = some y) : evFn sm_51 fns FU 1 51 (ofH [(.int .u64), (.int .u64)] x) [] (pureK [(.int .u64), (.int .u64)]) = some y :=
  evFnL_sound (fn := ir51) (t := .nil) (o := noO) rfl noO_ok trivial ((fn_51 _ _).trans h)
end
end Go.Ev
namespace Go.Ev
open Go
set_option maxRecDepth 100000
set_option maxHeartbeats 4000000
set_option linter.unusedVariables false
noncomputable section

def sm_46 : Nat → Option Summ := fun f => bif Nat.beq f 50 then some s_50 else bif Nat.beq f 51 then some s_51 else none


def F_46 (a0 : Int) (a1 : Int) : Option (Int × Int × Unit) :=
  gd (Sp.p_51 a0 a1) (some (Prod.fst (Sp.v_51 a0 a1), Prod.fst (Prod.snd (Sp.v_51 a0 a1)), PUnit.unit))
theorem fn_46 (a0 : Int) (a1 : Int) : evFnL sm_46 FU (ovr noO (evFn sm_46 fns FU 0)) .nil ir46 (ofH [(.int .u64), (.int .u64)] (a0, a1, ())) [] (pureK [(.int .u64), (.int .u64)]) = F_46 a0 a1 := by kernel_rfl
def Sp.p_46 (a0 : Int) (a1 : Int) : Bool := (F_46 a0 a1).isSome
def Sp.v_46 (a0 : Int) (a1 : Int) : Int × Int × Unit := (F_46 a0 a1).getD (dfH [(.int .u64), (.int .u64)])
def s_46 : Summ := shN [(.int .u64), (.int .u64)] [(.int .u64), (.int .u64)] (fun x => Sp.p_46 x.1 x.2.1) (fun x => Sp.v_46 x.1 x.2.1)
theorem pv_46 (a0 : Int) (a1 : Int) {y : Int × Int × Unit} (h : F_46 a0 a1 = some y) : Sp.p_46 a0 a1 = true ∧ Sp.v_46 a0 a1 = y := ⟨by rw [Sp.p_46, h]; rfl, by rw [Sp.v_46, h]; rfl⟩
theorem run_46 (x : HDen [(.int .u64), (.int .u64)]) (y : HDen [(.int .u64), (.int .u64)]) (h : F_46 x.1 x.2.1 = some y) : evFn sm_46 fns FU 1 46 (ofH [(.int .u64), (.int .u64)] x) [] (pureK [(.int .u64), (.int .u64)]) = some y :=
  evFnL_sound (fn := ir46) (t := .nil) (o := noO) rfl noO_ok trivial ((fn_46 _ _).trans h)
end
end Go.Ev
namespace Go.Ev
open Go
set_option maxRecDepth 100000
set_option maxHeartbeats 4000000
set_option linter.unusedVariables false
noncomputable section

def sm_32 : Nat → Option Summ := fun f => bif Nat.beq f 46 then some s_46 else none
def T_32_2 (p0 : Int) (p1 : List Int) : St := St.mk [jk, jk, jk, jk, jk, jk, jk, CV.whole (0 : Nat), CV.int IntKind.i64 p0, jk, jk, jk, jk, jk, jk, jk, jk, jk, jk, jk, jk, jk, jk, jk, jk, jk, jk, jk, jk, jk, jk, jk, jk, jk, jk, jk, jk, jk, jk, jk, jk, jk, jk, jk, jk, jk, jk, jk] [Blk.vec (34 : Nat) (Ty.int IntKind.u32) p1] (0 : Nat)
def X_32_2_0 (p1 : List Int) : St := St.mk [jk, jk, jk, jk, jk, jk, jk, CV.whole (0 : Nat), jk, jk, jk, jk, jk, jk, jk, jk, jk, jk, jk, jk, jk, jk, jk, jk, jk, jk, jk, jk, jk, jk, jk, jk, jk, jk, jk, jk, jk, jk, jk, jk, jk, jk, jk, jk, jk, jk, jk, jk] [Blk.vec (34 : Nat) (Ty.int IntKind.u32) p1] (0 : Nat)
inductive Sp.E_32_2 where
  | e0 (p1 : List Int)
def Sp.B_32_2 {R : Type} (r : Option Sp.E_32_2) (k0 : (List Int) → Option R) : Option R := match r with
  | none => none
  | some (.e0 p1) => k0 p1
def Sp.L_32_2 : Nat → (Int) → (List Int) → Option Sp.E_32_2
  | 0, _, _ => none
  | m + 1, p0, p1 => bif decide (p0 < (↑(List.length p1) : Int)) then gd (sl3 p0 (↑(List.length p1) : Int) (↑(List.length p1) : Int)) (gd (sl3 (0 : Int) p0 (↑(List.length p1) : Int)) (gd (decide ((0 : Nat) + (Int.toNat p0 - (0 : Nat)) ≤ List.length p1) && (decide (Int.toNat p0 + (Int.toNat (↑(List.length p1) : Int) - Int.toNat p0) ≤ List.length p1) && decide ((0 : Nat) < List.length p1))) (Sp.L_32_2 m (IntKind.wrap IntKind.i64 (p0 + (↑(Nat.min (List.length (List.take (Int.toNat p0 - (0 : Nat)) (List.drop (0 : Nat) p1))) (Int.toNat (↑(List.length p1) : Int) - Int.toNat p0)) : Int))) (over p1 (Int.toNat p0) (List.take (Int.toNat (↑(List.length p1) : Int) - Int.toNat p0) (List.take (Int.toNat p0 - (0 : Nat)) (List.drop (0 : Nat) p1))))))) else some (Sp.E_32_2.e0 p1)
def G_32_2 {R : Type} (p0 : Int) (p1 : List Int) (k : Ex → St → Option R) : Option R := Sp.B_32_2 (Sp.L_32_2 FU p0 p1) (fun p1 => k (Ex.exit (0 : Nat)) (X_32_2_0 p1))
def o_32_2 {R : Type} (G : (Int) → (List Int) → (Ex → St → Option R) → Option R) : St → (Ex → St → Option R) → Option R := fun T k => match T.sl.getD 7 .junk, T.sl.getD 8 .junk, T.hp with
  | CV.whole (0 : Nat), CV.int IntKind.i64 p0, ((Blk.vec (34 : Nat) (Ty.int IntKind.u32) p1) :: []) => gd (shapeOK T 48 [7, 8] (0 : Nat)) (G p0 p1 k)
  | _, _, _ => none
theorem o_32_2_inv {R : Type} {G : (Int) → (List Int) → (Ex → St → Option R) → Option R} {T : St} {k : Ex → St → Option R} {r : R} (h : o_32_2 G T k = some r) : ∃ p0 p1, T = T_32_2 p0 p1 ∧ G p0 p1 k = some r := by
  unfold o_32_2 at h
  split at h
  · obtain ⟨hs, h'⟩ := gd_some h
    refine ⟨_, _, (st_of (asg := [(7, _), (8, _)]) hs ⟨by assumption, by assumption, trivial⟩ (by assumption)).trans ?_, h'⟩
    kernel_rfl
  · cases h
def T_32_1 (p0 : List Int) (p1 : Int) : St := St.mk [CV.pure (Ty.slice (Ty.int IntKind.u32)) p0, jk, jk, jk, jk, jk, CV.int IntKind.u64 p1, jk, jk, jk, jk, jk, jk, jk, jk, jk, jk, jk, jk, jk, jk, jk, jk, jk, jk, jk, jk, jk, jk, jk, jk, jk, jk, jk, jk, jk, jk, jk, jk, jk, jk, jk, jk, jk, jk, jk, jk, jk] [] (0 : Nat)
def X_32_1_0 (y5 : List Int) : St := St.mk [jk, jk, jk, jk, CV.whole (0 : Nat), jk, jk, jk, jk, jk, jk, jk, jk, jk, jk, jk, jk, jk, jk, jk, jk, jk, jk, jk, jk, jk, jk, jk, jk, jk, jk, jk, jk, jk, jk, jk, jk, jk, jk, jk, jk, jk, jk, jk, jk, jk, jk, jk] [Blk.vec (34 : Nat) (Ty.int IntKind.u32) y5] (0 : Nat)
inductive Sp.E_32_1 where
  | e0 (y5 : List Int)
def Sp.B_32_1 {R : Type} (r : Option Sp.E_32_1) (k0 : (List Int) → Option R) : Option R := match r with
  | none => none
  | some (.e0 y5) => k0 y5
def Sp.J_32_1 (p0 : List Int) (p1 : Int) : Option Sp.E_32_1 :=
  gd (decide ((0 : Int) ≤ IntKind.wrap IntKind.i64 p1) && (IntKind.wrap IntKind.i64 p1 == IntKind.wrap IntKind.i64 p1 && room (Int.toNat (IntKind.wrap IntKind.i64 p1)) (4 : Nat))) (gd (decide ((0 : Nat) + List.length (List.replicate (Int.toNat (IntKind.wrap IntKind.i64 p1)) (0 : Int)) ≤ List.length (List.replicate (Int.toNat (IntKind.wrap IntKind.i64 p1)) (0 : Int))) && decide ((0 : Nat) < List.length (List.replicate (Int.toNat (IntKind.wrap IntKind.i64 p1)) (0 : Int)))) (Sp.B_32_2 (Sp.L_32_2 (4611686018427387904 : Nat) (↑(Nat.min (List.length p0) (List.length (List.replicate (Int.toNat (IntKind.wrap IntKind.i64 p1)) (0 : Int)))) : Int) (over (List.replicate (Int.toNat (IntKind.wrap IntKind.i64 p1)) (0 : Int)) (0 : Nat) (List.take (List.length (List.replicate (Int.toNat (IntKind.wrap IntKind.i64 p1)) (0 : Int))) p0))) fun (y5 : List Int) => some (Sp.E_32_1.e0 y5)))
def G_32_1 {R : Type} (p0 : List Int) (p1 : Int) (k : Ex → St → Option R) : Option R := Sp.B_32_1 (Sp.J_32_1 p0 p1) (fun y5 => k Ex.ret (X_32_1_0 y5))
def o_32_1 {R : Type} (G : (List Int) → (Int) → (Ex → St → Option R) → Option R) : St → (Ex → St → Option R) → Option R := fun T k => match T.sl.getD 0 .junk, T.sl.getD 6 .junk, T.hp with
  | CV.pure (Ty.slice (Ty.int IntKind.u32)) p0, CV.int IntKind.u64 p1, [] => gd (shapeOK T 48 [0, 6] (0 : Nat)) (G p0 p1 k)
  | _, _, _ => none
theorem o_32_1_inv {R : Type} {G : (List Int) → (Int) → (Ex → St → Option R) → Option R} {T : St} {k : Ex → St → Option R} {r : R} (h : o_32_1 G T k = some r) : ∃ p0 p1, T = T_32_1 p0 p1 ∧ G p0 p1 k = some r := by
  unfold o_32_1 at h
  split at h
  · obtain ⟨hs, h'⟩ := gd_some h
    refine ⟨_, _, (st_of (asg := [(0, _), (6, _)]) hs ⟨by assumption, by assumption, trivial⟩ (by assumption)).trans ?_, h'⟩
    kernel_rfl
  · cases h
def T_32_0 (p0 : List Int) (p1 : Int) : St := St.mk [CV.pure (Ty.slice (Ty.int IntKind.u32)) p0, CV.int IntKind.i64 p1, jk, jk, jk, jk, jk, jk, jk, jk, jk, jk, jk, jk, jk, jk, jk, jk, jk, jk, jk, jk, jk, jk, jk, jk, jk, jk, jk, jk, jk, jk, jk, jk, jk, jk, jk, jk, jk, jk, jk, jk, jk, jk, jk, jk, jk, jk] [] (0 : Nat)
def X_32_0_0 (y1 : List Int) : St := St.mk [jk, jk, jk, jk, CV.whole (0 : Nat), jk, jk, jk, jk, jk, jk, jk, jk, jk, jk, jk, jk, jk, jk, jk, jk, jk, jk, jk, jk, jk, jk, jk, jk, jk, jk, jk, jk, jk, jk, jk, jk, jk, jk, jk, jk, jk, jk, jk, jk, jk, jk, jk] [Blk.vec (34 : Nat) (Ty.int IntKind.u32) y1] (0 : Nat)
inductive Sp.E_32_0 where
  | e0 (y1 : List Int)
def Sp.B_32_0 {R : Type} (r : Option Sp.E_32_0) (k0 : (List Int) → Option R) : Option R := match r with
  | none => none
  | some (.e0 y1) => k0 y1
def Sp.J_32_0 (p0 : List Int) (p1 : Int) : Option Sp.E_32_0 :=
  gd (Sp.p_46 (IntKind.wrap IntKind.u64 (↑(List.length p0) : Int)) (IntKind.wrap IntKind.u64 p1)) (bif decide (Prod.fst (Sp.v_46 (IntKind.wrap IntKind.u64 (↑(List.length p0) : Int)) (IntKind.wrap IntKind.u64 p1)) > (0 : Int)) then none else bif decide (Prod.fst (Prod.snd (Sp.v_46 (IntKind.wrap IntKind.u64 (↑(List.length p0) : Int)) (IntKind.wrap IntKind.u64 p1))) > (9223372036854775807 : Int)) then none else Sp.B_32_1 (Sp.J_32_1 p0 (Prod.fst (Prod.snd (Sp.v_46 (IntKind.wrap IntKind.u64 (↑(List.length p0) : Int)) (IntKind.wrap IntKind.u64 p1))))) fun (y1 : List Int) => some (Sp.E_32_0.e0 y1))
def G_32_0 {R : Type} (p0 : List Int) (p1 : Int) (k : Ex → St → Option R) : Option R := Sp.B_32_0 (Sp.J_32_0 p0 p1) (fun y1 => k Ex.ret (X_32_0_0 y1))
def o_32_0 {R : Type} (G : (List Int) → (Int) → (Ex → St → Option R) → Option R) : St → (Ex → St → Option R) → Option R := fun T k => match T.sl.getD 0 .junk, T.sl.getD 1 .junk, T.hp with
  | CV.pure (Ty.slice (Ty.int IntKind.u32)) p0, CV.int IntKind.i64 p1, [] => gd (shapeOK T 48 [0, 1] (0 : Nat)) (G p0 p1 k)
  | _, _, _ => none
theorem o_32_0_inv {R : Type} {G : (List Int) → (Int) → (Ex → St → Option R) → Option R} {T : St} {k : Ex → St → Option R} {r : R} (h : o_32_0 G T k = some r) : ∃ p0 p1, T = T_32_0 p0 p1 ∧ G p0 p1 k = some r := by
  unfold o_32_0 at h
  split at h
  · obtain ⟨hs, h'⟩ := gd_some h
    refine ⟨_, _, (st_of (asg := [(0, _), (1, _)]) hs ⟨by assumption, by assumption, trivial⟩ (by assumption)).trans ?_, h'⟩
    kernel_rfl
  · cases h
def O_32_32_2 {R : Type} : St → (Ex → St → Option R) → Option R := fun T k => o_32_2 G_32_2 T k
def O_32_32_1 {R : Type} : St → (Ex → St → Option R) → Option R := fun T k => o_32_1 G_32_1 T k
def O_32_32_0 {R : Type} : St → (Ex → St → Option R) → Option R := fun T k => o_32_0 G_32_0 T k
theorem body_32_2 {R : Type} (K0 : St → Option R) (K1 : Ex → St → Option R) (p0 : Int) (p1 : List Int) : evLB (evCodeL sm_32 FU (ovr noO (evFn sm_32 fns FU 0)) .nil ir32_b2) (St.norm ir32_v2) (T_32_2 p0 p1) K0 K1 =
  bif decide (p0 < (↑(List.length p1) : Int)) then gd (sl3 p0 (↑(List.length p1) : Int) (↑(List.length p1) : Int)) (gd (sl3 (0 : Int) p0 (↑(List.length p1) : Int)) (gd (decide ((0 : Nat) + (Int.toNat p0 - (0 : Nat)) ≤ List.length p1) && (decide (Int.toNat p0 + (Int.toNat (↑(List.length p1) : Int) - Int.toNat p0) ≤ List.length p1) && decide ((0 : Nat) < List.length p1))) (K0 (T_32_2 (IntKind.wrap IntKind.i64 (p0 + (↑(Nat.min (List.length (List.take (Int.toNat p0 - (0 : Nat)) (List.drop (0 : Nat) p1))) (Int.toNat (↑(List.length p1) : Int) - Int.toNat p0)) : Int))) (over p1 (Int.toNat p0) (List.take (Int.toNat (↑(List.length p1) : Int) - Int.toNat p0) (List.take (Int.toNat p0 - (0 : Nat)) (List.drop (0 : Nat) p1)))))))) else K1 (Ex.exit (0 : Nat)) (X_32_2_0 p1) := by kernel_rfl
theorem Bgd_32_2 {R : Type} {c : Bool} {x : Option R} {y : Option Sp.E_32_2} {k0 : (List Int) → Option R} (h : x = Sp.B_32_2 y k0) : gd c x = Sp.B_32_2 (gd c y) k0 := by cases c; rfl; exact h
theorem Bcond_32_2 {R : Type} {c : Bool} {x x' : Option R} {y y' : Option Sp.E_32_2} {k0 : (List Int) → Option R} (h : x = Sp.B_32_2 y k0) (h' : x' = Sp.B_32_2 y' k0) : (bif c then x else x') = Sp.B_32_2 (bif c then y else y') k0 := by cases c; exact h'; exact h
theorem loop_32_2 {R : Type} (k : Ex → St → Option R) : ∀ (m : Nat) (p0 : Int) (p1 : List Int), evLoopN (evCodeL sm_32 FU (ovr noO (evFn sm_32 fns FU 0)) .nil ir32_b2) (St.norm ir32_v2) m (T_32_2 p0 p1) k = Sp.B_32_2 (Sp.L_32_2 m p0 p1) (fun p1 => k (Ex.exit (0 : Nat)) (X_32_2_0 p1))
  | 0, _, _ => rfl
  | m + 1, p0, p1 => by
    rw [evLoopN_succ, body_32_2, Sp.L_32_2]
    repeat' first | apply Bgd_32_2 | apply Bcond_32_2 | exact loop_32_2 k m _ _ | rfl
theorem ok_32_2 {R : Type} (T : St) (k : Ex → St → Option R) (r : R) (h0 : o_32_2 G_32_2 T k = some r) : evLoopN (evCode sm_32 FU (evFn sm_32 fns FU 0) ir32_b2) (St.norm ir32_v2) FU T k = some r := by
  obtain ⟨p0, p1, rfl, h⟩ := o_32_2_inv h0
  refine evLoopN_L (t := .nil) noO_ok trivial _ _ _ _ ?_
  rw [loop_32_2]
  exact h
theorem OK_32_32_2 {R : Type} (T : St) (k : Ex → St → Option R) (r : R) (h : O_32_32_2 T k = some r) : evLoopN (evCode sm_32 FU (evFn sm_32 fns FU 0) ir32_b2) (St.norm ir32_v2) FU T k = some r := ok_32_2 T k r h
theorem body_32_1 {R : Type} (K1 : Ex → St → Option R) (p0 : List Int) (p1 : Int) : evJ (evCodeL sm_32 FU (ovr noO (evFn sm_32 fns FU 0)) (ir32_bt1 O_32_32_2) ir32_b1) (T_32_1 p0 p1) K1 =
  gd (decide ((0 : Int) ≤ IntKind.wrap IntKind.i64 p1) && (IntKind.wrap IntKind.i64 p1 == IntKind.wrap IntKind.i64 p1 && room (Int.toNat (IntKind.wrap IntKind.i64 p1)) (4 : Nat))) (gd (decide ((0 : Nat) + List.length (List.replicate (Int.toNat (IntKind.wrap IntKind.i64 p1)) (0 : Int)) ≤ List.length (List.replicate (Int.toNat (IntKind.wrap IntKind.i64 p1)) (0 : Int))) && decide ((0 : Nat) < List.length (List.replicate (Int.toNat (IntKind.wrap IntKind.i64 p1)) (0 : Int)))) (Sp.B_32_2 (Sp.L_32_2 (4611686018427387904 : Nat) (↑(Nat.min (List.length p0) (List.length (List.replicate (Int.toNat (IntKind.wrap IntKind.i64 p1)) (0 : Int)))) : Int) (over (List.replicate (Int.toNat (IntKind.wrap IntKind.i64 p1)) (0 : Int)) (0 : Nat) (List.take (List.length (List.replicate (Int.toNat (IntKind.wrap IntKind.i64 p1)) (0 : Int))) p0))) fun (y5 : List Int) => K1 Ex.ret (X_32_1_0 y5))) := by kernel_rfl
theorem Bgd_32_1 {R : Type} {c : Bool} {x : Option R} {y : Option Sp.E_32_1} {k0 : (List Int) → Option R} (h : x = Sp.B_32_1 y k0) : gd c x = Sp.B_32_1 (gd c y) k0 := by cases c; rfl; exact h
theorem Bcond_32_1 {R : Type} {c : Bool} {x x' : Option R} {y y' : Option Sp.E_32_1} {k0 : (List Int) → Option R} (h : x = Sp.B_32_1 y k0) (h' : x' = Sp.B_32_1 y' k0) : (bif c then x else x') = Sp.B_32_1 (bif c then y else y') k0 := by cases c; exact h'; exact h
theorem Bin_32_1_32_2 {R : Type} {r : Option Sp.E_32_2} {k0 : (List Int) → Option R} {f0 : (List Int) → Option R} {g0 : (List Int) → Option Sp.E_32_1} (h0 : ∀ z0, f0 z0 = Sp.B_32_1 (g0 z0) k0) : Sp.B_32_2 r f0 = Sp.B_32_1 (Sp.B_32_2 r g0) k0 := by
  cases r with
  | none => rfl
  | some e => cases e with
    | e0 z0 => exact h0 _
theorem loop_32_1 {R : Type} (k : Ex → St → Option R) (p0 : List Int) (p1 : Int) : evJ (evCodeL sm_32 FU (ovr noO (evFn sm_32 fns FU 0)) (ir32_bt1 O_32_32_2) ir32_b1) (T_32_1 p0 p1) k = Sp.B_32_1 (Sp.J_32_1 p0 p1) (fun y5 => k Ex.ret (X_32_1_0 y5)) := by
  rw [body_32_1, Sp.J_32_1]
  repeat' first | apply Bgd_32_1 | apply Bcond_32_1 | (apply Bin_32_1_32_2 <;> intros) | rfl
theorem ok_32_1 {R : Type} (T : St) (k : Ex → St → Option R) (r : R) (h0 : o_32_1 G_32_1 T k = some r) : evCode sm_32 FU (evFn sm_32 fns FU 0) ir32_b1 T k = some r := by
  obtain ⟨p0, p1, rfl, h⟩ := o_32_1_inv h0
  refine bodyL_sound (t := (ir32_bt1 O_32_32_2)) noO_ok (ir32_bt1ok (fun T k r => OK_32_32_2 T k r)) ((loop_32_1 k _ _).trans h)
theorem OK_32_32_1 {R : Type} (T : St) (k : Ex → St → Option R) (r : R) (h : O_32_32_1 T k = some r) : evCode sm_32 FU (evFn sm_32 fns FU 0) ir32_b1 T k = some r := ok_32_1 T k r h
theorem body_32_0 {R : Type} (K1 : Ex → St → Option R) (p0 : List Int) (p1 : Int) : evJ (evCodeL sm_32 FU (ovr noO (evFn sm_32 fns FU 0)) (ir32_bt0 O_32_32_1) ir32_b0) (T_32_0 p0 p1) K1 =
  gd (Sp.p_46 (IntKind.wrap IntKind.u64 (↑(List.length p0) : Int)) (IntKind.wrap IntKind.u64 p1)) (bif decide (Prod.fst (Sp.v_46 (IntKind.wrap IntKind.u64 (↑(List.length p0) : Int)) (IntKind.wrap IntKind.u64 p1)) > (0 : Int)) then none else bif decide (Prod.fst (Prod.snd (Sp.v_46 (IntKind.wrap IntKind.u64 (↑(List.length p0) : Int)) (IntKind.wrap IntKind.u64 p1))) > (9223372036854775807 : Int)) then none else Sp.B_32_1 (Sp.J_32_1 p0 (Prod.fst (Prod.snd (Sp.v_46 (IntKind.wrap IntKind.u64 (↑(List.length p0) : Int)) (IntKind.wrap IntKind.u64 p1))))) fun (y1 : List Int) => K1 Ex.ret (X_32_0_0 y1)) := by kernel_rfl
theorem Bgd_32_0 {R : Type} {c : Bool} {x : Option R} {y : Option Sp.E_32_0} {k0 : (List Int) → Option R} (h : x = Sp.B_32_0 y k0) : gd c x = Sp.B_32_0 (gd c y) k0 := by cases c; rfl; exact h
theorem Bcond_32_0 {R : Type} {c : Bool} {x x' : Option R} {y y' : Option Sp.E_32_0} {k0 : (List Int) → Option R} (h : x = Sp.B_32_0 y k0) (h' : x' = Sp.B_32_0 y' k0) : (bif c then x else x') = Sp.B_32_0 (bif c then y else y') k0 := by cases c; exact h'; exact h
theorem Bin_32_0_32_1 {R : Type} {r : Option Sp.E_32_1} {k0 : (List Int) → Option R} {f0 : (List Int) → Option R} {g0 : (List Int) → Option Sp.E_32_0} (h0 : ∀ z0, f0 z0 = Sp.B_32_0 (g0 z0) k0) : Sp.B_32_1 r f0 = Sp.B_32_0 (Sp.B_32_1 r g0) k0 := by
  cases r with
  | none => rfl
  | some e => cases e with
    | e0 z0 => exact h0 _
theorem loop_32_0 {R : Type} (k : Ex → St → Option R) (p0 : List Int) (p1 : Int) : evJ (evCodeL sm_32 FU (ovr noO (evFn sm_32 fns FU 0)) (ir32_bt0 O_32_32_1) ir32_b0) (T_32_0 p0 p1) k = Sp.B_32_0 (Sp.J_32_0 p0 p1) (fun y1 => k Ex.ret (X_32_0_0 y1)) := by
  rw [body_32_0, Sp.J_32_0]
  repeat' first | apply Bgd_32_0 | apply Bcond_32_0 | (apply Bin_32_0_32_1 <;> intros) | rfl
theorem ok_32_0 {R : Type} (T : St) (k : Ex → St → Option R) (r : R) (h0 : o_32_0 G_32_0 T k = some r) : evCode sm_32 FU (evFn sm_32 fns FU 0) ir32_b0 T k = some r := by
  obtain ⟨p0, p1, rfl, h⟩ := o_32_0_inv h0
  refine bodyL_sound (t := (ir32_bt0 O_32_32_1)) noO_ok (ir32_bt0ok (fun T k r => OK_32_32_1 T k r)) ((loop_32_0 k _ _).trans h)
theorem OK_32_32_0 {R : Type} (T : St) (k : Ex → St → Option R) (r : R) (h : O_32_32_0 T k = some r) : evCode sm_32 FU (evFn sm_32 fns FU 0) ir32_b0 T k = some r := ok_32_0 T k r h
def F_32 (a0 : (List Int)) (a1 : Int) : Option ((List Int) × Unit) :=
  bif decide (a1 < (0 : Int)) then none else Sp.B_32_0 (Sp.J_32_0 a0 a1) fun (y1 : List Int) => some (y1, PUnit.unit)
theorem fn_32 (a0 : (List Int)) (a1 : Int) : evFnL sm_32 FU (ovr noO (evFn sm_32 fns FU 0)) (ir32_t O_32_32_0) ir32 (ofH [(.slice (.int .u32)), (.int .i64)] (a0, a1, ())) [] (pureK [(.slice (.int .u32))]) = F_32 a0 a1 := by kernel_rfl
def Sp.p_32 (a0 : (List Int)) (a1 : Int) : Bool := (F_32 a0 a1).isSome
def Sp.v_32 (a0 : (List Int)) (a1 : Int) : (List Int) × Unit := (F_32 a0 a1).getD (dfH [(.slice (.int .u32))])
def s_32 : Summ := shS [(.slice (.int .u32)), (.int .i64)] [(.slice (.int .u32))] (fun x => Sp.p_32 x.1 x.2.1) (fun x => Sp.v_32 x.1 x.2.1)
theorem pv_32 (a0 : (List Int)) (a1 : Int) {y : (List Int) × Unit} (h : F_32 a0 a1 = some y) : Sp.p_32 a0 a1 = true ∧ Sp.v_32 a0 a1 = y := ⟨by rw [Sp.p_32, h]; rfl, by rw [Sp.v_32, h]; rfl⟩
theorem run_32 (x : HDen [(.slice (.int .u32)), (.int .i64)]) (y : HDen [(.slice (.int .u32))]) (h : F_32 x.1 x.2.1 = some y) : evFn sm_32 fns FU 1 32 (ofH [(.slice (.int .u32)), (.int .i64)] x) [] (pureK [(.slice (.int .u32))]) = some y :=
  evFnL_sound (fn := ir32) (t := (ir32_t O_32_32_0)) (o := noO) rfl noO_ok (ir32_tok (fun T k r => OK_32_32_0 T k r)) ((fn_32 _ _).trans h)
end
end Go.Ev
namespace Go.Ev
open Go
set_option maxRecDepth 100000
set_option maxHeartbeats 4000000
set_option linter.unusedVariables false
noncomputable section

def sm_13 : Nat → Option Summ := fun f => bif Nat.beq f 32 then some s_32 else none


def F_13 (a0 : Int) (a1 : Int) : Option (((List Int) × ((List Int) × (Int × Unit))) × Int × Unit) :=
  bif decide (a0 < (1 : Int)) then some (([], [], (0 : Int), PUnit.unit), (2 : Int), PUnit.unit) else bif decide (a0 > (64 : Int)) then some (([], [], (0 : Int), PUnit.unit), (2 : Int), PUnit.unit) else bif decide (a1 < (1 : Int)) then some (([], [], (0 : Int), PUnit.unit), (2 : Int), PUnit.unit) else bif decide (a1 > (1000000 : Int)) then some (([], [], (0 : Int), PUnit.unit), (2 : Int), PUnit.unit) else gd (Sp.p_32 [(4294967295 : Int)] (IntKind.wrap IntKind.i64 (a0 * (64 : Int)))) (gd (decide ((0 : Int) ≤ a0) && (a0 == a0 && room (Int.toNat a0) (8 : Nat))) (some ((Prod.fst (Sp.v_32 [(4294967295 : Int)] (IntKind.wrap IntKind.i64 (a0 * (64 : Int)))), List.replicate (Int.toNat a0) (0 : Int), a1, PUnit.unit), (0 : Int), PUnit.unit)))
theorem fn_13 (a0 : Int) (a1 : Int) : evFnL sm_13 FU (ovr noO (evFn sm_13 fns FU 0)) .nil ir13 (ofH [(.int .i64), (.int .i64)] (a0, a1, ())) [] (pureK [(.pair (.slice (.int .u32)) (.pair (.slice (.int .i64)) (.pair (.int .i64) .unit))), (.int .i64)]) = F_13 a0 a1 := by kernel_rfl
def Sp.p_13 (a0 : Int) (a1 : Int) : Bool := (F_13 a0 a1).isSome
def Sp.v_13 (a0 : Int) (a1 : Int) : ((List Int) × ((List Int) × (Int × Unit))) × Int × Unit := (F_13 a0 a1).getD (dfH [(.pair (.slice (.int .u32)) (.pair (.slice (.int .i64)) (.pair (.int .i64) .unit))), (.int .i64)])
def s_13 : Summ := shS [(.int .i64), (.int .i64)] [(.pair (.slice (.int .u32)) (.pair (.slice (.int .i64)) (.pair (.int .i64) .unit))), (.int .i64)] (fun x => Sp.p_13 x.1 x.2.1) (fun x => Sp.v_13 x.1 x.2.1)
theorem pv_13 (a0 : Int) (a1 : Int) {y : ((List Int) × ((List Int) × (Int × Unit))) × Int × Unit} (h : F_13 a0 a1 = some y) : Sp.p_13 a0 a1 = true ∧ Sp.v_13 a0 a1 = y := ⟨by rw [Sp.p_13, h]; rfl, by rw [Sp.v_13, h]; rfl⟩
theorem run_13 (x : HDen [(.int .i64), (.int .i64)]) (y : HDen [(.pair (.slice (.int .u32)) (.pair (.slice (.int .i64)) (.pair (.int .i64) .unit))), (.int .i64)]) (h : F_13 x.1 x.2.1 = some y) : evFn sm_13 fns FU 1 13 (ofH [(.int .i64), (.int .i64)] x) [] (pureK [(.pair (.slice (.int .u32)) (.pair (.slice (.int .i64)) (.pair (.int .i64) .unit))), (.int .i64)]) = some y :=
  evFnL_sound (fn := ir13) (t := .nil) (o := noO) rfl noO_ok trivial ((fn_13 _ _).trans h)
end
end Go.Ev
namespace Go.Ev
open Go
set_option maxRecDepth 100000
set_option maxHeartbeats 4000000
set_option linter.unusedVariables false
noncomputable section

def sm_18 : Nat → Option Summ := fun f => none


def F_18  : Option ((Int × (Int × Unit)) × Unit) :=
  some (((1099511627776 : Int), (0 : Int), PUnit.unit), PUnit.unit)
theorem fn_18  : evFnL sm_18 FU (ovr noO (evFn sm_18 fns FU 0)) .nil ir18 (ofH [] (())) [] (pureK [(.pair (.int .i64) (.pair (.int .u32) .unit))]) = F_18 := by kernel_rfl
def Sp.p_18  : Bool := (F_18).isSome
def Sp.v_18  : (Int × (Int × Unit)) × Unit := (F_18).getD (dfH [(.pair (.int .i64) (.pair (.int .u32) .unit))])
def s_18 : Summ := shN [] [(.pair (.int .i64) (.pair (.int .u32) .unit))] (fun x => Sp.p_18 ) (fun x => Sp.v_18 )
theorem pv_18  {y : (Int × (Int × Unit)) × Unit} (h : F_18 = some y) : Sp.p_18 = true ∧ Sp.v_18 = y := ⟨by rw [Sp.p_18, h]; rfl, by rw [Sp.v_18, h]; rfl⟩
theorem run_18 (x : HDen []) (y : HDen [(.pair (.int .i64) (.pair (.int .u32) .unit))]) (h : F_18  = some y) : evFn sm_18 fns FU 1 18 (ofH [] x) [] (pureK [(.pair (.int .i64) (.pair (.int .u32) .unit))]) = some y :=
  evFnL_sound (fn := ir18) (t := .nil) (o := noO) rfl noO_ok trivial ((fn_18).trans h)
end
end Go.Ev
namespace Go.Ev
open Go
set_option maxRecDepth 100000
set_option maxHeartbeats 4000000
set_option linter.unusedVariables false
noncomputable section

def sm_16 : Nat → Option Summ := fun f => none
def T_16_47_0_0 (p0 : List Int) (p1 : Int) (p2 : Int) (p3 : List Int × List Int × Int × PUnit) : St := St.mk [CV.pure (Ty.slice (Ty.int IntKind.i64)) p0, CV.clo (35 : Nat) (CV.pair (CV.ptr (0 : Nat) []) (CV.pure Ty.unit PUnit.unit)), jk, jk, jk, jk, jk, CV.int IntKind.i64 p1, CV.int IntKind.i64 p2, jk, jk, jk, jk, jk, jk, jk, jk, jk, jk] [Blk.mem (CV.pure (Ty.pair (Ty.slice (Ty.int IntKind.u32)) (Ty.pair (Ty.slice (Ty.int IntKind.i64)) (Ty.pair (Ty.int IntKind.i64) Ty.unit))) p3)] (1 : Nat)
def X_16_47_0_0_0 (p2 : Int) (p3 : List Int × List Int × Int × PUnit) : St := St.mk [jk, jk, jk, jk, CV.int IntKind.i64 p2, jk, jk, jk, jk, jk, jk, jk, jk, jk, jk, jk, jk, jk, jk] [Blk.mem (CV.pure (Ty.pair (Ty.slice (Ty.int IntKind.u32)) (Ty.pair (Ty.slice (Ty.int IntKind.i64)) (Ty.pair (Ty.int IntKind.i64) Ty.unit))) p3)] (1 : Nat)
def X_16_47_0_0_1 (p3 : List Int × List Int × Int × PUnit) : St := St.mk [jk, jk, jk, jk, jk, jk, jk, jk, jk, jk, jk, jk, jk, jk, jk, jk, jk, jk, jk] [Blk.mem (CV.pure (Ty.pair (Ty.slice (Ty.int IntKind.u32)) (Ty.pair (Ty.slice (Ty.int IntKind.i64)) (Ty.pair (Ty.int IntKind.i64) Ty.unit))) p3)] (1 : Nat)
inductive Sp.E_16_47_0_0 where
  | e0 (p2 : Int) (p3 : List Int × List Int × Int × PUnit)
  | e1 (p3 : List Int × List Int × Int × PUnit)
def Sp.B_16_47_0_0 {R : Type} (r : Option Sp.E_16_47_0_0) (k0 : (Int) → (List Int × List Int × Int × PUnit) → Option R) (k1 : (List Int × List Int × Int × PUnit) → Option R) : Option R := match r with
  | none => none
  | some (.e0 p2 p3) => k0 p2 p3
  | some (.e1 p3) => k1 p3
def Sp.L_16_47_0_0 : Nat → (List Int) → (Int) → (Int) → (List Int × List Int × Int × PUnit) → Option Sp.E_16_47_0_0
  | 0, _, _, _, _ => none
  | m + 1, p0, p1, p2, p3 => bif decide (p2 < p1) then gd (inB p2 (List.length p0)) (bif decide (List.getD p0 (Int.toNat p2) (0 : Int) < (0 : Int)) then some (Sp.E_16_47_0_0.e0 p2 p3) else bif decide (List.getD p0 (Int.toNat p2) (0 : Int) > Prod.fst (Prod.snd (Prod.snd p3))) then some (Sp.E_16_47_0_0.e0 p2 p3) else Sp.L_16_47_0_0 m p0 p1 (IntKind.wrap IntKind.i64 (p2 + (1 : Int))) p3) else some (Sp.E_16_47_0_0.e1 p3)
def G_16_47_0_0 {R : Type} (p0 : List Int) (p1 : Int) (p2 : Int) (p3 : List Int × List Int × Int × PUnit) (k : Ex → St → Option R) : Option R := Sp.B_16_47_0_0 (Sp.L_16_47_0_0 FU p0 p1 p2 p3) (fun p2 p3 => k Ex.ret (X_16_47_0_0_0 p2 p3)) (fun p3 => k (Ex.exit (0 : Nat)) (X_16_47_0_0_1 p3))
def o_16_47_0_0 {R : Type} (G : (List Int) → (Int) → (Int) → (List Int × List Int × Int × PUnit) → (Ex → St → Option R) → Option R) : St → (Ex → St → Option R) → Option R := fun T k => match T.sl.getD 0 .junk, T.sl.getD 1 .junk, T.sl.getD 7 .junk, T.sl.getD 8 .junk, T.hp with
  | CV.pure (Ty.slice (Ty.int IntKind.i64)) p0, CV.clo (35 : Nat) (CV.pair (CV.ptr (0 : Nat) []) (CV.pure Ty.unit PUnit.unit)), CV.int IntKind.i64 p1, CV.int IntKind.i64 p2, ((Blk.mem (CV.pure (Ty.pair (Ty.slice (Ty.int IntKind.u32)) (Ty.pair (Ty.slice (Ty.int IntKind.i64)) (Ty.pair (Ty.int IntKind.i64) Ty.unit))) p3)) :: []) => gd (shapeOK T 19 [0, 1, 7, 8] (1 : Nat)) (G p0 p1 p2 p3 k)
  | _, _, _, _, _ => none
theorem o_16_47_0_0_inv {R : Type} {G : (List Int) → (Int) → (Int) → (List Int × List Int × Int × PUnit) → (Ex → St → Option R) → Option R} {T : St} {k : Ex → St → Option R} {r : R} (h : o_16_47_0_0 G T k = some r) : ∃ p0 p1 p2 p3, T = T_16_47_0_0 p0 p1 p2 p3 ∧ G p0 p1 p2 p3 k = some r := by
  unfold o_16_47_0_0 at h
  split at h
  · obtain ⟨hs, h'⟩ := gd_some h
    refine ⟨_, _, _, _, (st_of (asg := [(0, _), (1, _), (7, _), (8, _)]) hs ⟨by assumption, by assumption, by assumption, by assumption, trivial⟩ (by assumption)).trans ?_, h'⟩
    kernel_rfl
  · cases h
def O_16_47_0 {R : Type} : St → (Ex → St → Option R) → Option R := fun T k => o_16_47_0_0 G_16_47_0_0 T k
def g_16_47 {R : Type} : List CV → List Blk → (CV → List Blk → Option R) → Option R := evFnL sm_16 FU (ovr noO (evFn sm_16 fns FU 2)) (ir47_t O_16_47_0) ir47
def g_16_34 {R : Type} : List CV → List Blk → (CV → List Blk → Option R) → Option R := evFnL sm_16 FU (ovr (fun f' => bif Nat.beq f' 47 then some (g_16_47) else none) (evFn sm_16 fns FU 3)) .nil ir34
theorem body_16_47_0_0 {R : Type} (K0 : St → Option R) (K1 : Ex → St → Option R) (p0 : List Int) (p1 : Int) (p2 : Int) (p3 : List Int × List Int × Int × PUnit) : evLB (evCodeL sm_16 FU (ovr noO (evFn sm_16 fns FU 2)) .nil ir47_b0) (St.norm ir47_v0) (T_16_47_0_0 p0 p1 p2 p3) K0 K1 =
  bif decide (p2 < p1) then gd (inB p2 (List.length p0)) (bif decide (List.getD p0 (Int.toNat p2) (0 : Int) < (0 : Int)) then K1 Ex.ret (X_16_47_0_0_0 p2 p3) else bif decide (List.getD p0 (Int.toNat p2) (0 : Int) > Prod.fst (Prod.snd (Prod.snd p3))) then K1 Ex.ret (X_16_47_0_0_0 p2 p3) else K0 (T_16_47_0_0 p0 p1 (IntKind.wrap IntKind.i64 (p2 + (1 : Int))) p3)) else K1 (Ex.exit (0 : Nat)) (X_16_47_0_0_1 p3) := by kernel_rfl
theorem Bgd_16_47_0_0 {R : Type} {c : Bool} {x : Option R} {y : Option Sp.E_16_47_0_0} {k0 : (Int) → (List Int × List Int × Int × PUnit) → Option R} {k1 : (List Int × List Int × Int × PUnit) → Option R} (h : x = Sp.B_16_47_0_0 y k0 k1) : gd c x = Sp.B_16_47_0_0 (gd c y) k0 k1 := by cases c; rfl; exact h
theorem Bcond_16_47_0_0 {R : Type} {c : Bool} {x x' : Option R} {y y' : Option Sp.E_16_47_0_0} {k0 : (Int) → (List Int × List Int × Int × PUnit) → Option R} {k1 : (List Int × List Int × Int × PUnit) → Option R} (h : x = Sp.B_16_47_0_0 y k0 k1) (h' : x' = Sp.B_16_47_0_0 y' k0 k1) : (bif c then x else x') = Sp.B_16_47_0_0 (bif c then y else y') k0 k1 := by cases c; exact h'; exact h
theorem loop_16_47_0_0 {R : Type} (k : Ex → St → Option R) : ∀ (m : Nat) (p0 : List Int) (p1 : Int) (p2 : Int) (p3 : List Int × List Int × Int × PUnit), evLoopN (evCodeL sm_16 FU (ovr noO (evFn sm_16 fns FU 2)) .nil ir47_b0) (St.norm ir47_v0) m (T_16_47_0_0 p0 p1 p2 p3) k = Sp.B_16_47_0_0 (Sp.L_16_47_0_0 m p0 p1 p2 p3) (fun p2 p3 => k Ex.ret (X_16_47_0_0_0 p2 p3)) (fun p3 => k (Ex.exit (0 : Nat)) (X_16_47_0_0_1 p3))
  | 0, _, _, _, _ => rfl
  | m + 1, p0, p1, p2, p3 => by
    rw [evLoopN_succ, body_16_47_0_0, Sp.L_16_47_0_0]
    repeat' first | apply Bgd_16_47_0_0 | apply Bcond_16_47_0_0 | exact loop_16_47_0_0 k m _ _ _ _ | rfl
theorem ok_16_47_0_0 {R : Type} (T : St) (k : Ex → St → Option R) (r : R) (h0 : o_16_47_0_0 G_16_47_0_0 T k = some r) : evLoopN (evCode sm_16 FU (evFn sm_16 fns FU 2) ir47_b0) (St.norm ir47_v0) FU T k = some r := by
  obtain ⟨p0, p1, p2, p3, rfl, h⟩ := o_16_47_0_0_inv h0
  refine evLoopN_L (t := .nil) noO_ok trivial _ _ _ _ ?_
  rw [loop_16_47_0_0]
  exact h
theorem OK_16_47_0 {R : Type} (T : St) (k : Ex → St → Option R) (r : R) (h : O_16_47_0 T k = some r) : evLoopN (evCode sm_16 FU (evFn sm_16 fns FU 2) ir47_b0) (St.norm ir47_v0) FU T k = some r := ok_16_47_0_0 T k r h
theorem g_16_47_ok {R : Type} (args : List CV) (hp : List Blk) (k : CV → List Blk → Option R) (r : R) (h : g_16_47 args hp k = some r) : evFn sm_16 fns FU 3 47 args hp k = some r :=
  evFnL_sound (fn := ir47) (t := (ir47_t O_16_47_0)) (o := noO) rfl noO_ok (ir47_tok (fun T k r => OK_16_47_0 T k r)) h
theorem ov_16_34_ok {R : Type} : OvrOK (R := R) (fun f' => bif Nat.beq f' 47 then some (g_16_47) else none) (evFn sm_16 fns FU 3) := by
  intro f' g h args hp k r hg
  dsimp only at h
  by_cases h47 : f' = 47
  · subst h47
    injection h with h
    subst h
    exact evFn_le 0 (g_16_47_ok _ _ _ _ hg)
  rw [nbeq_ne h47, cond_false] at h
  cases h
theorem g_16_34_ok {R : Type} (args : List CV) (hp : List Blk) (k : CV → List Blk → Option R) (r : R) (h : g_16_34 args hp k = some r) : evFn sm_16 fns FU 4 34 args hp k = some r :=
  evFnL_sound (fn := ir34) (t := .nil) (o := (fun f' => bif Nat.beq f' 47 then some (g_16_47) else none)) rfl ov_16_34_ok trivial h
theorem ov_16_16_ok {R : Type} : OvrOK (R := R) (fun f' => bif Nat.beq f' 34 then some (g_16_34) else none) (evFn sm_16 fns FU 4) := by
  intro f' g h args hp k r hg
  dsimp only at h
  by_cases h34 : f' = 34
  · subst h34
    injection h with h
    subst h
    exact evFn_le 0 (g_16_34_ok _ _ _ _ hg)
  rw [nbeq_ne h34, cond_false] at h
  cases h
def F_16 (a0 : ((List Int) × ((List Int) × (Int × Unit)))) : Option (Bool × Unit) :=
  bif decide ((↑(List.length (Prod.fst (Prod.snd a0))) : Int) < (1 : Int)) then some (false, PUnit.unit) else bif decide ((↑(List.length (Prod.fst (Prod.snd a0))) : Int) > (64 : Int)) then some (false, PUnit.unit) else bif (↑(List.length (Prod.fst a0)) : Int) != IntKind.wrap IntKind.i64 ((↑(List.length (Prod.fst (Prod.snd a0))) : Int) * (64 : Int)) then some (false, PUnit.unit) else bif decide (Prod.fst (Prod.snd (Prod.snd a0)) < (1 : Int)) then some (false, PUnit.unit) else bif decide (Prod.fst (Prod.snd (Prod.snd a0)) > (1000000 : Int)) then some (false, PUnit.unit) else Sp.B_16_47_0_0 (Sp.L_16_47_0_0 (4611686018427387904 : Nat) (Prod.fst (Prod.snd a0)) (↑(List.length (Prod.fst (Prod.snd a0))) : Int) (0 : Int) a0) (fun (y23 : Int) (y24 : List Int × List Int × Int × PUnit) => some (!decide (y23 ≥ (0 : Int)), PUnit.unit)) fun (y25 : List Int × List Int × Int × PUnit) => some (true, PUnit.unit)
theorem fn_16 (a0 : ((List Int) × ((List Int) × (Int × Unit)))) : evFnL sm_16 FU (ovr (fun f' => bif Nat.beq f' 34 then some (g_16_34) else none) (evFn sm_16 fns FU 4)) .nil ir16 (ofH [(.pair (.slice (.int .u32)) (.pair (.slice (.int .i64)) (.pair (.int .i64) .unit)))] (a0, ())) [] (pureK [.bool]) = F_16 a0 := by kernel_rfl
def Sp.p_16 (a0 : ((List Int) × ((List Int) × (Int × Unit)))) : Bool := (F_16 a0).isSome
def Sp.v_16 (a0 : ((List Int) × ((List Int) × (Int × Unit)))) : Bool × Unit := (F_16 a0).getD (dfH [.bool])
def s_16 : Summ := shN [(.pair (.slice (.int .u32)) (.pair (.slice (.int .i64)) (.pair (.int .i64) .unit)))] [.bool] (fun x => Sp.p_16 x.1) (fun x => Sp.v_16 x.1)
theorem pv_16 (a0 : ((List Int) × ((List Int) × (Int × Unit)))) {y : Bool × Unit} (h : F_16 a0 = some y) : Sp.p_16 a0 = true ∧ Sp.v_16 a0 = y := ⟨by rw [Sp.p_16, h]; rfl, by rw [Sp.v_16, h]; rfl⟩
theorem run_16 (x : HDen [(.pair (.slice (.int .u32)) (.pair (.slice (.int .i64)) (.pair (.int .i64) .unit)))]) (y : HDen [.bool]) (h : F_16 x.1 = some y) : evFn sm_16 fns FU 5 16 (ofH [(.pair (.slice (.int .u32)) (.pair (.slice (.int .i64)) (.pair (.int .i64) .unit)))] x) [] (pureK [.bool]) = some y :=
  evFnL_sound (fn := ir16) (t := .nil) (o := (fun f' => bif Nat.beq f' 34 then some (g_16_34) else none)) rfl ov_16_16_ok trivial ((fn_16 _).trans h)
end
end Go.Ev
namespace Go.Ev
open Go
set_option maxRecDepth 100000
set_option maxHeartbeats 4000000
set_option linter.unusedVariables false
noncomputable section

def sm_36 : Nat → Option Summ := fun f => bif Nat.beq f 16 then some s_16 else none


def F_36 (a0 : ((List Int) × ((List Int) × (Int × Unit)))) (a1 : (Int × (Int × Unit))) (a2 : Int) (a3 : Int) : Option (Int × Unit) :=
  gd (Sp.p_16 a0) (bif !Prod.fst (Sp.v_16 a0) then some ((1 : Int), PUnit.unit) else bif decide (Prod.fst a1 < (0 : Int)) then some ((1 : Int), PUnit.unit) else bif decide (Prod.fst a1 > (1099511627776 : Int)) then some ((1 : Int), PUnit.unit) else bif decide (a2 < (0 : Int)) then some ((2 : Int), PUnit.unit) else bif decide (a2 ≥ a3) then some ((2 : Int), PUnit.unit) else some ((0 : Int), PUnit.unit))
theorem fn_36 (a0 : ((List Int) × ((List Int) × (Int × Unit)))) (a1 : (Int × (Int × Unit))) (a2 : Int) (a3 : Int) : evFnL sm_36 FU (ovr noO (evFn sm_36 fns FU 0)) .nil ir36 (ofH [(.pair (.slice (.int .u32)) (.pair (.slice (.int .i64)) (.pair (.int .i64) .unit))), (.pair (.int .i64) (.pair (.int .u32) .unit)), (.int .i64), (.int .i64)] (a0, a1, a2, a3, ())) [] (pureK [(.int .i64)]) = F_36 a0 a1 a2 a3 := by kernel_rfl
def Sp.p_36 (a0 : ((List Int) × ((List Int) × (Int × Unit)))) (a1 : (Int × (Int × Unit))) (a2 : Int) (a3 : Int) : Bool := (F_36 a0 a1 a2 a3).isSome
def Sp.v_36 (a0 : ((List Int) × ((List Int) × (Int × Unit)))) (a1 : (Int × (Int × Unit))) (a2 : Int) (a3 : Int) : Int × Unit := (F_36 a0 a1 a2 a3).getD (dfH [(.int .i64)])
def s_36 : Summ := shN [(.pair (.slice (.int .u32)) (.pair (.slice (.int .i64)) (.pair (.int .i64) .unit))), (.pair (.int .i64) (.pair (.int .u32) .unit)), (.int .i64), (.int .i64)] [(.int .i64)] (fun x => Sp.p_36 x.1 x.2.1 x.2.2.1 x.2.2.2.1) (fun x => Sp.v_36 x.1 x.2.1 x.2.2.1 x.2.2.2.1)
theorem pv_36 (a0 : ((List Int) × ((List Int) × (Int × Unit)))) (a1 : (Int × (Int × Unit))) (a2 : Int) (a3 : Int) {y : Int × Unit} (h : F_36 a0 a1 a2 a3 = some y) : Sp.p_36 a0 a1 a2 a3 = true ∧ Sp.v_36 a0 a1 a2 a3 = y := ⟨by rw [Sp.p_36, h]; rfl, by rw [Sp.v_36, h]; rfl⟩
theorem run_36 (x : HDen [(.pair (.slice (.int .u32)) (.pair (.slice (.int .i64)) (.pair (.int .i64) .unit))), (.pair (.int .i64) (.pair (.int .u32) .unit)), (.int .i64), (.int .i64)]) (y : HDen [(.int .i64)]) (h : F_36 x.1 x.2.1 x.2.2.1 x.2.2.2.1 = some y) : evFn sm_36 fns FU 1 36 (ofH [(.pair (.slice (.int .u32)) (.pair (.slice (.int .i64)) (.pair (.int .i64) .unit))), (.pair (.int .i64) (.pair (.int .u32) .unit)), (.int .i64), (.int .i64)] x) [] (pureK [(.int .i64)]) = some y :=
  evFnL_sound (fn := ir36) (t := .nil) (o := noO) rfl noO_ok trivial ((fn_36 _ _ _ _).trans h)
end
end Go.Ev
namespace Go.Ev
open Go
set_option maxRecDepth 100000
set_option maxHeartbeats 4000000
set_option linter.unusedVariables false
noncomputable section

abbrev s19_21 : Summ := vecS (.int .u32) 34 4
abbrev s19_48 : Summ := vecS (.int .i64) 3 8
def sm_19 : Nat → Option Summ := fun f => bif Nat.beq f 21 then some s19_21 else bif Nat.beq f 36 then some s_36 else bif Nat.beq f 48 then some s19_48 else none


def F_19 (a0 : ((List Int) × ((List Int) × (Int × Unit)))) (a1 : Int) (a2 : Int) (a3 : (Int × (Int × Unit))) : Option (((List Int) × ((List Int) × (Int × Unit))) × (Int × (Int × Unit)) × Int × Unit) :=
  gd (Sp.p_36 a0 a3 a1 (↑(List.length (Prod.fst a0)) : Int)) (bif Prod.fst (Sp.v_36 a0 a3 a1 (↑(List.length (Prod.fst a0)) : Int)) != (0 : Int) then some (([], [], (0 : Int), PUnit.unit), ((0 : Int), (0 : Int), PUnit.unit), Prod.fst (Sp.v_36 a0 a3 a1 (↑(List.length (Prod.fst a0)) : Int)), PUnit.unit) else gd (room (List.length (Prod.fst a0)) (4 : Nat)) (gd (room (List.length (Prod.fst (Prod.snd a0))) (8 : Nat)) (bif Prod.fst a3 == (0 : Int) then some ((Prod.fst a0, Prod.fst (Prod.snd a0), Prod.fst (Prod.snd (Prod.snd a0)), PUnit.unit), a3, (18 : Int), PUnit.unit) else bif Prod.fst a3 == (1 : Int) then gd (inB a1 (List.length (Prod.fst a0))) (gd (decide (Int.toNat a1 < List.length (Prod.fst a0)) && true) (gd (inB a1 (List.length (Prod.fst a0))) (gd (decide (Int.toNat a1 < List.length (Prod.fst a0)) && true && true) (some ((List.set (Prod.fst a0) (Int.toNat a1) (Sp.andnI IntKind.u32 (List.getD (Prod.fst a0) (Int.toNat a1) (0 : Int)) (Sp.andnI IntKind.u32 (Prod.fst (Prod.snd a3)) a2)), Prod.fst (Prod.snd a0), Prod.fst (Prod.snd (Prod.snd a0)), PUnit.unit), ((0 : Int), Prod.snd a3), (18 : Int), PUnit.unit))))) else gd (inB a1 (List.length (Prod.fst a0))) (gd (decide (Int.toNat a1 < List.length (Prod.fst a0)) && true) (gd (inB a1 (List.length (Prod.fst a0))) (gd (decide (Int.toNat a1 < List.length (Prod.fst a0)) && true && true) (some ((List.set (Prod.fst a0) (Int.toNat a1) (Sp.andnI IntKind.u32 (List.getD (Prod.fst a0) (Int.toNat a1) (0 : Int)) (Sp.andnI IntKind.u32 (4294967295 : Int) a2)), Prod.fst (Prod.snd a0), Prod.fst (Prod.snd (Prod.snd a0)), PUnit.unit), (IntKind.wrap IntKind.i64 (Prod.fst a3 - (1 : Int)), Prod.snd a3), (0 : Int), PUnit.unit))))))))
theorem fn_19 (a0 : ((List Int) × ((List Int) × (Int × Unit)))) (a1 : Int) (a2 : Int) (a3 : (Int × (Int × Unit))) : evFnL sm_19 FU (ovr noO (evFn sm_19 fns FU 3)) .nil ir19 (ofH [(.pair (.slice (.int .u32)) (.pair (.slice (.int .i64)) (.pair (.int .i64) .unit))), (.int .i64), (.int .u32), (.pair (.int .i64) (.pair (.int .u32) .unit))] (a0, a1, a2, a3, ())) [] (pureK [(.pair (.slice (.int .u32)) (.pair (.slice (.int .i64)) (.pair (.int .i64) .unit))), (.pair (.int .i64) (.pair (.int .u32) .unit)), (.int .i64)]) = F_19 a0 a1 a2 a3 := by kernel_rfl
def Sp.p_19 (a0 : ((List Int) × ((List Int) × (Int × Unit)))) (a1 : Int) (a2 : Int) (a3 : (Int × (Int × Unit))) : Bool := (F_19 a0 a1 a2 a3).isSome
def Sp.v_19 (a0 : ((List Int) × ((List Int) × (Int × Unit)))) (a1 : Int) (a2 : Int) (a3 : (Int × (Int × Unit))) : ((List Int) × ((List Int) × (Int × Unit))) × (Int × (Int × Unit)) × Int × Unit := (F_19 a0 a1 a2 a3).getD (dfH [(.pair (.slice (.int .u32)) (.pair (.slice (.int .i64)) (.pair (.int .i64) .unit))), (.pair (.int .i64) (.pair (.int .u32) .unit)), (.int .i64)])
def s_19 : Summ := shS [(.pair (.slice (.int .u32)) (.pair (.slice (.int .i64)) (.pair (.int .i64) .unit))), (.int .i64), (.int .u32), (.pair (.int .i64) (.pair (.int .u32) .unit))] [(.pair (.slice (.int .u32)) (.pair (.slice (.int .i64)) (.pair (.int .i64) .unit))), (.pair (.int .i64) (.pair (.int .u32) .unit)), (.int .i64)] (fun x => Sp.p_19 x.1 x.2.1 x.2.2.1 x.2.2.2.1) (fun x => Sp.v_19 x.1 x.2.1 x.2.2.1 x.2.2.2.1)
theorem pv_19 (a0 : ((List Int) × ((List Int) × (Int × Unit)))) (a1 : Int) (a2 : Int) (a3 : (Int × (Int × Unit))) {y : ((List Int) × ((List Int) × (Int × Unit))) × (Int × (Int × Unit)) × Int × Unit} (h : F_19 a0 a1 a2 a3 = some y) : Sp.p_19 a0 a1 a2 a3 = true ∧ Sp.v_19 a0 a1 a2 a3 = y := ⟨by rw [Sp.p_19, h]; rfl, by rw [Sp.v_19, h]; rfl⟩
theorem run_19 (x : HDen [(.pair (.slice (.int .u32)) (.pair (.slice (.int .i64)) (.pair (.int .i64) .unit))), (.int .i64), (.int .u32), (.pair (.int .i64) (.pair (.int .u32) .unit))]) (y : HDen [(.pair (.slice (.int .u32)) (.pair (.slice (.int .i64)) (.pair (.int .i64) .unit))), (.pair (.int .i64) (.pair (.int .u32) .unit)), (.int .i64)]) (h : F_19 x.1 x.2.1 x.2.2.1 x.2.2.2.1 = some y) : evFn sm_19 fns FU 4 19 (ofH [(.pair (.slice (.int .u32)) (.pair (.slice (.int .i64)) (.pair (.int .i64) .unit))), (.int .i64), (.int .u32), (.pair (.int .i64) (.pair (.int .u32) .unit))] x) [] (pureK [(.pair (.slice (.int .u32)) (.pair (.slice (.int .i64)) (.pair (.int .i64) .unit))), (.pair (.int .i64) (.pair (.int .u32) .unit)), (.int .i64)]) = some y :=
  evFnL_sound (fn := ir19) (t := .nil) (o := noO) rfl noO_ok trivial ((fn_19 _ _ _ _).trans h)
end
end Go.Ev
namespace Go.Ev
open Go
set_option maxRecDepth 100000
set_option maxHeartbeats 4000000
set_option linter.unusedVariables false
noncomputable section

def sm_25 : Nat → Option Summ := fun f => bif Nat.beq f 16 then some s_16 else none


def F_25 (a0 : ((List Int) × ((List Int) × (Int × Unit)))) (a1 : Int) : Option (Int × Int × Unit) :=
  gd (Sp.p_16 a0) (bif !Prod.fst (Sp.v_16 a0) then some ((0 : Int), (1 : Int), PUnit.unit) else bif decide (a1 < (0 : Int)) then some ((0 : Int), (2 : Int), PUnit.unit) else bif decide (a1 ≥ (↑(List.length (Prod.fst a0)) : Int)) then some ((0 : Int), (2 : Int), PUnit.unit) else gd (inB a1 (List.length (Prod.fst a0))) (some (List.getD (Prod.fst a0) (Int.toNat a1) (0 : Int), (0 : Int), PUnit.unit)))
theorem fn_25 (a0 : ((List Int) × ((List Int) × (Int × Unit)))) (a1 : Int) : evFnL sm_25 FU (ovr noO (evFn sm_25 fns FU 0)) .nil ir25 (ofH [(.pair (.slice (.int .u32)) (.pair (.slice (.int .i64)) (.pair (.int .i64) .unit))), (.int .i64)] (a0, a1, ())) [] (pureK [(.int .u32), (.int .i64)]) = F_25 a0 a1 := by kernel_rfl
def Sp.p_25 (a0 : ((List Int) × ((List Int) × (Int × Unit)))) (a1 : Int) : Bool := (F_25 a0 a1).isSome
def Sp.v_25 (a0 : ((List Int) × ((List Int) × (Int × Unit)))) (a1 : Int) : Int × Int × Unit := (F_25 a0 a1).getD (dfH [(.int .u32), (.int .i64)])
def s_25 : Summ := shN [(.pair (.slice (.int .u32)) (.pair (.slice (.int .i64)) (.pair (.int .i64) .unit))), (.int .i64)] [(.int .u32), (.int .i64)] (fun x => Sp.p_25 x.1 x.2.1) (fun x => Sp.v_25 x.1 x.2.1)
theorem pv_25 (a0 : ((List Int) × ((List Int) × (Int × Unit)))) (a1 : Int) {y : Int × Int × Unit} (h : F_25 a0 a1 = some y) : Sp.p_25 a0 a1 = true ∧ Sp.v_25 a0 a1 = y := ⟨by rw [Sp.p_25, h]; rfl, by rw [Sp.v_25, h]; rfl⟩
theorem run_25 (x : HDen [(.pair (.slice (.int .u32)) (.pair (.slice (.int .i64)) (.pair (.int .i64) .unit))), (.int .i64)]) (y : HDen [(.int .u32), (.int .i64)]) (h : F_25 x.1 x.2.1 = some y) : evFn sm_25 fns FU 1 25 (ofH [(.pair (.slice (.int .u32)) (.pair (.slice (.int .i64)) (.pair (.int .i64) .unit))), (.int .i64)] x) [] (pureK [(.int .u32), (.int .i64)]) = some y :=
  evFnL_sound (fn := ir25) (t := .nil) (o := noO) rfl noO_ok trivial ((fn_25 _ _).trans h)
end
end Go.Ev
namespace Go.Ev
open Go
set_option maxRecDepth 100000
set_option maxHeartbeats 4000000
set_option linter.unusedVariables false
noncomputable section

def sm_11 : Nat → Option Summ := fun f => bif Nat.beq f 13 then some s_13 else bif Nat.beq f 18 then some s_18 else bif Nat.beq f 19 then some s_19 else bif Nat.beq f 25 then some s_25 else none


def F_11  : Option (Bool × Unit) :=
  gd (Sp.p_13 (1 : Int) (10 : Int)) (gd Sp.p_18 (gd (Sp.p_19 (Prod.fst (Sp.v_13 (1 : Int) (10 : Int))) (3 : Int) (255 : Int) (Prod.fst Sp.v_18)) (gd (Sp.p_19 (Prod.fst (Sp.v_19 (Prod.fst (Sp.v_13 (1 : Int) (10 : Int))) (3 : Int) (255 : Int) (Prod.fst Sp.v_18))) (3 : Int) (15 : Int) ((1 : Int), (240 : Int), PUnit.unit)) (gd (Sp.p_25 (Prod.fst (Sp.v_19 (Prod.fst (Sp.v_19 (Prod.fst (Sp.v_13 (1 : Int) (10 : Int))) (3 : Int) (255 : Int) (Prod.fst Sp.v_18))) (3 : Int) (15 : Int) ((1 : Int), (240 : Int), PUnit.unit))) (3 : Int)) (bif Prod.fst (Prod.snd (Sp.v_13 (1 : Int) (10 : Int))) == (0 : Int) then bif Prod.fst (Prod.snd (Prod.snd (Sp.v_19 (Prod.fst (Sp.v_13 (1 : Int) (10 : Int))) (3 : Int) (255 : Int) (Prod.fst Sp.v_18)))) == (0 : Int) then bif Prod.fst (Prod.snd (Prod.snd (Sp.v_19 (Prod.fst (Sp.v_19 (Prod.fst (Sp.v_13 (1 : Int) (10 : Int))) (3 : Int) (255 : Int) (Prod.fst Sp.v_18))) (3 : Int) (15 : Int) ((1 : Int), (240 : Int), PUnit.unit)))) == (18 : Int) then bif Prod.fst (Sp.v_25 (Prod.fst (Sp.v_19 (Prod.fst (Sp.v_19 (Prod.fst (Sp.v_13 (1 : Int) (10 : Int))) (3 : Int) (255 : Int) (Prod.fst Sp.v_18))) (3 : Int) (15 : Int) ((1 : Int), (240 : Int), PUnit.unit))) (3 : Int)) == (15 : Int) then some (Prod.fst (Prod.snd (Sp.v_25 (Prod.fst (Sp.v_19 (Prod.fst (Sp.v_19 (Prod.fst (Sp.v_13 (1 : Int) (10 : Int))) (3 : Int) (255 : Int) (Prod.fst Sp.v_18))) (3 : Int) (15 : Int) ((1 : Int), (240 : Int), PUnit.unit))) (3 : Int))) == (0 : Int), PUnit.unit) else some (false, PUnit.unit) else some (false, PUnit.unit) else some (false, PUnit.unit) else some (false, PUnit.unit))))))
theorem fn_11  : evFnL sm_11 FU (ovr noO (evFn sm_11 fns FU 0)) .nil ir11 (ofH [] (())) [] (pureK [.bool]) = F_11 := by kernel_rfl
def Sp.p_11  : Bool := (F_11).isSome
def Sp.v_11  : Bool × Unit := (F_11).getD (dfH [.bool])
def s_11 : Summ := shN [] [.bool] (fun x => Sp.p_11 ) (fun x => Sp.v_11 )
theorem pv_11  {y : Bool × Unit} (h : F_11 = some y) : Sp.p_11 = true ∧ Sp.v_11 = y := ⟨by rw [Sp.p_11, h]; rfl, by rw [Sp.v_11, h]; rfl⟩
theorem run_11 (x : HDen []) (y : HDen [.bool]) (h : F_11  = some y) : evFn sm_11 fns FU 1 11 (ofH [] x) [] (pureK [.bool]) = some y :=
  evFnL_sound (fn := ir11) (t := .nil) (o := noO) rfl noO_ok trivial ((fn_11).trans h)
end
end Go.Ev
namespace Go.Ev
open Go
set_option maxRecDepth 100000
set_option maxHeartbeats 4000000
set_option linter.unusedVariables false
noncomputable section

def sm_12 : Nat → Option Summ := fun f => none


def F_12 (a0 : ((List Int) × ((List Int) × (Int × Unit)))) : Option (Bool × Unit) :=
  bif decide ((↑(List.length (Prod.fst (Prod.snd a0))) : Int) ≤ (70 : Int)) then some (decide ((↑(List.length (Prod.fst a0)) : Int) ≤ (4480 : Int)), PUnit.unit) else some (false, PUnit.unit)
theorem fn_12 (a0 : ((List Int) × ((List Int) × (Int × Unit)))) : evFnL sm_12 FU (ovr noO (evFn sm_12 fns FU 0)) .nil ir12 (ofH [(.pair (.slice (.int .u32)) (.pair (.slice (.int .i64)) (.pair (.int .i64) .unit)))] (a0, ())) [] (pureK [.bool]) = F_12 a0 := by kernel_rfl
def Sp.p_12 (a0 : ((List Int) × ((List Int) × (Int × Unit)))) : Bool := (F_12 a0).isSome
def Sp.v_12 (a0 : ((List Int) × ((List Int) × (Int × Unit)))) : Bool × Unit := (F_12 a0).getD (dfH [.bool])
def s_12 : Summ := shN [(.pair (.slice (.int .u32)) (.pair (.slice (.int .i64)) (.pair (.int .i64) .unit)))] [.bool] (fun x => Sp.p_12 x.1) (fun x => Sp.v_12 x.1)
theorem pv_12 (a0 : ((List Int) × ((List Int) × (Int × Unit)))) {y : Bool × Unit} (h : F_12 a0 = some y) : Sp.p_12 a0 = true ∧ Sp.v_12 a0 = y := ⟨by rw [Sp.p_12, h]; rfl, by rw [Sp.v_12, h]; rfl⟩
theorem run_12 (x : HDen [(.pair (.slice (.int .u32)) (.pair (.slice (.int .i64)) (.pair (.int .i64) .unit)))]) (y : HDen [.bool]) (h : F_12 x.1 = some y) : evFn sm_12 fns FU 1 12 (ofH [(.pair (.slice (.int .u32)) (.pair (.slice (.int .i64)) (.pair (.int .i64) .unit)))] x) [] (pureK [.bool]) = some y :=
  evFnL_sound (fn := ir12) (t := .nil) (o := noO) rfl noO_ok trivial ((fn_12 _).trans h)
end
end Go.Ev
namespace Go.Ev
open Go
set_option maxRecDepth 100000
set_option maxHeartbeats 4000000
set_option linter.unusedVariables false
noncomputable section

def sm_15 : Nat → Option Summ := fun f => none
def T_15_0 (p0 : Int) (p1 : List Int × List Int × Int × PUnit) (p2 : List Int × List Int × Int × PUnit) : St := St.mk [jk, jk, CV.ptr (0 : Nat) [], CV.ptr (1 : Nat) [], jk, CV.int IntKind.i64 p0, jk, jk, jk, jk, jk, jk, jk, jk, jk, jk, jk, jk, jk, jk, jk, jk, jk, jk, jk, jk, jk, jk, jk, jk, jk, jk, jk, jk, jk, jk, jk, jk, jk, jk, jk, jk, jk, jk, jk, jk, jk, jk, jk, jk, jk, jk, jk, jk, jk, jk, jk, jk, jk, jk, jk, jk, jk, jk, jk, jk] [Blk.mem (CV.pure (Ty.pair (Ty.slice (Ty.int IntKind.u32)) (Ty.pair (Ty.slice (Ty.int IntKind.i64)) (Ty.pair (Ty.int IntKind.i64) Ty.unit))) p1), Blk.mem (CV.pure (Ty.pair (Ty.slice (Ty.int IntKind.u32)) (Ty.pair (Ty.slice (Ty.int IntKind.i64)) (Ty.pair (Ty.int IntKind.i64) Ty.unit))) p2)] (0 : Nat)
def X_15_0_0 : St := St.mk [jk, jk, jk, jk, CV.bool false, jk, jk, jk, jk, jk, jk, jk, jk, jk, jk, jk, jk, jk, jk, jk, jk, jk, jk, jk, jk, jk, jk, jk, jk, jk, jk, jk, jk, jk, jk, jk, jk, jk, jk, jk, jk, jk, jk, jk, jk, jk, jk, jk, jk, jk, jk, jk, jk, jk, jk, jk, jk, jk, jk, jk, jk, jk, jk, jk, jk, jk] [] (0 : Nat)
def X_15_0_1 (p1 : List Int × List Int × Int × PUnit) (p2 : List Int × List Int × Int × PUnit) : St := St.mk [jk, jk, CV.ptr (0 : Nat) [], CV.ptr (1 : Nat) [], jk, jk, jk, jk, jk, jk, jk, jk, jk, jk, jk, jk, jk, jk, jk, jk, jk, jk, jk, jk, jk, jk, jk, jk, jk, jk, jk, jk, jk, jk, jk, jk, jk, jk, jk, jk, jk, jk, jk, jk, jk, jk, jk, jk, jk, jk, jk, jk, jk, jk, jk, jk, jk, jk, jk, jk, jk, jk, jk, jk, jk, jk] [Blk.mem (CV.pure (Ty.pair (Ty.slice (Ty.int IntKind.u32)) (Ty.pair (Ty.slice (Ty.int IntKind.i64)) (Ty.pair (Ty.int IntKind.i64) Ty.unit))) p1), Blk.mem (CV.pure (Ty.pair (Ty.slice (Ty.int IntKind.u32)) (Ty.pair (Ty.slice (Ty.int IntKind.i64)) (Ty.pair (Ty.int IntKind.i64) Ty.unit))) p2)] (0 : Nat)
inductive Sp.E_15_0 where
  | e0
  | e1 (p1 : List Int × List Int × Int × PUnit) (p2 : List Int × List Int × Int × PUnit)
def Sp.B_15_0 {R : Type} (r : Option Sp.E_15_0) (k0 : Option R) (k1 : (List Int × List Int × Int × PUnit) → (List Int × List Int × Int × PUnit) → Option R) : Option R := match r with
  | none => none
  | some (.e0) => k0
  | some (.e1 p1 p2) => k1 p1 p2
def Sp.L_15_0 : Nat → (Int) → (List Int × List Int × Int × PUnit) → (List Int × List Int × Int × PUnit) → Option Sp.E_15_0
  | 0, _, _, _ => none
  | m + 1, p0, p1, p2 => bif decide (p0 < (↑(List.length (Prod.fst p1)) : Int)) then gd (inB p0 (List.length (Prod.fst p1))) (gd (inB p0 (List.length (Prod.fst p2))) (bif List.getD (Prod.fst p1) (Int.toNat p0) (0 : Int) != List.getD (Prod.fst p2) (Int.toNat p0) (0 : Int) then some (Sp.E_15_0.e0) else Sp.L_15_0 m (IntKind.wrap IntKind.i64 (p0 + (1 : Int))) p1 p2)) else some (Sp.E_15_0.e1 p1 p2)
def G_15_0 {R : Type} (p0 : Int) (p1 : List Int × List Int × Int × PUnit) (p2 : List Int × List Int × Int × PUnit) (k : Ex → St → Option R) : Option R := Sp.B_15_0 (Sp.L_15_0 FU p0 p1 p2) (k Ex.ret (X_15_0_0)) (fun p1 p2 => k (Ex.exit (0 : Nat)) (X_15_0_1 p1 p2))
def o_15_0 {R : Type} (G : (Int) → (List Int × List Int × Int × PUnit) → (List Int × List Int × Int × PUnit) → (Ex → St → Option R) → Option R) : St → (Ex → St → Option R) → Option R := fun T k => match T.sl.getD 2 .junk, T.sl.getD 3 .junk, T.sl.getD 5 .junk, T.hp with
  | CV.ptr (0 : Nat) [], CV.ptr (1 : Nat) [], CV.int IntKind.i64 p0, ((Blk.mem (CV.pure (Ty.pair (Ty.slice (Ty.int IntKind.u32)) (Ty.pair (Ty.slice (Ty.int IntKind.i64)) (Ty.pair (Ty.int IntKind.i64) Ty.unit))) p1)) :: (Blk.mem (CV.pure (Ty.pair (Ty.slice (Ty.int IntKind.u32)) (Ty.pair (Ty.slice (Ty.int IntKind.i64)) (Ty.pair (Ty.int IntKind.i64) Ty.unit))) p2)) :: []) => gd (shapeOK T 66 [2, 3, 5] (0 : Nat)) (G p0 p1 p2 k)
  | _, _, _, _ => none
theorem o_15_0_inv {R : Type} {G : (Int) → (List Int × List Int × Int × PUnit) → (List Int × List Int × Int × PUnit) → (Ex → St → Option R) → Option R} {T : St} {k : Ex → St → Option R} {r : R} (h : o_15_0 G T k = some r) : ∃ p0 p1 p2, T = T_15_0 p0 p1 p2 ∧ G p0 p1 p2 k = some r := by
  unfold o_15_0 at h
  split at h
  · obtain ⟨hs, h'⟩ := gd_some h
    refine ⟨_, _, _, (st_of (asg := [(2, _), (3, _), (5, _)]) hs ⟨by assumption, by assumption, by assumption, trivial⟩ (by assumption)).trans ?_, h'⟩
    kernel_rfl
  · cases h
def T_15_1 (p0 : Int) (p1 : List Int × List Int × Int × PUnit) (p2 : List Int × List Int × Int × PUnit) : St := St.mk [jk, jk, CV.ptr (0 : Nat) [], CV.ptr (1 : Nat) [], jk, jk, CV.int IntKind.i64 p0, jk, jk, jk, jk, jk, jk, jk, jk, jk, jk, jk, jk, jk, jk, jk, jk, jk, jk, jk, jk, jk, jk, jk, jk, jk, jk, jk, jk, jk, jk, jk, jk, jk, jk, jk, jk, jk, jk, jk, jk, jk, jk, jk, jk, jk, jk, jk, jk, jk, jk, jk, jk, jk, jk, jk, jk, jk, jk, jk] [Blk.mem (CV.pure (Ty.pair (Ty.slice (Ty.int IntKind.u32)) (Ty.pair (Ty.slice (Ty.int IntKind.i64)) (Ty.pair (Ty.int IntKind.i64) Ty.unit))) p1), Blk.mem (CV.pure (Ty.pair (Ty.slice (Ty.int IntKind.u32)) (Ty.pair (Ty.slice (Ty.int IntKind.i64)) (Ty.pair (Ty.int IntKind.i64) Ty.unit))) p2)] (0 : Nat)
def X_15_1_0 : St := St.mk [jk, jk, jk, jk, CV.bool false, jk, jk, jk, jk, jk, jk, jk, jk, jk, jk, jk, jk, jk, jk, jk, jk, jk, jk, jk, jk, jk, jk, jk, jk, jk, jk, jk, jk, jk, jk, jk, jk, jk, jk, jk, jk, jk, jk, jk, jk, jk, jk, jk, jk, jk, jk, jk, jk, jk, jk, jk, jk, jk, jk, jk, jk, jk, jk, jk, jk, jk] [] (0 : Nat)
def X_15_1_1 : St := St.mk [jk, jk, jk, jk, jk, jk, jk, jk, jk, jk, jk, jk, jk, jk, jk, jk, jk, jk, jk, jk, jk, jk, jk, jk, jk, jk, jk, jk, jk, jk, jk, jk, jk, jk, jk, jk, jk, jk, jk, jk, jk, jk, jk, jk, jk, jk, jk, jk, jk, jk, jk, jk, jk, jk, jk, jk, jk, jk, jk, jk, jk, jk, jk, jk, jk, jk] [] (0 : Nat)
inductive Sp.E_15_1 where
  | e0
  | e1
def Sp.B_15_1 {R : Type} (r : Option Sp.E_15_1) (k0 : Option R) (k1 : Option R) : Option R := match r with
  | none => none
  | some (.e0) => k0
  | some (.e1) => k1
def Sp.L_15_1 : Nat → (Int) → (List Int × List Int × Int × PUnit) → (List Int × List Int × Int × PUnit) → Option Sp.E_15_1
  | 0, _, _, _ => none
  | m + 1, p0, p1, p2 => bif decide (p0 < (↑(List.length (Prod.fst (Prod.snd p1))) : Int)) then gd (inB p0 (List.length (Prod.fst (Prod.snd p1)))) (gd (inB p0 (List.length (Prod.fst (Prod.snd p2)))) (bif List.getD (Prod.fst (Prod.snd p1)) (Int.toNat p0) (0 : Int) != List.getD (Prod.fst (Prod.snd p2)) (Int.toNat p0) (0 : Int) then some (Sp.E_15_1.e0) else Sp.L_15_1 m (IntKind.wrap IntKind.i64 (p0 + (1 : Int))) p1 p2)) else some (Sp.E_15_1.e1)
def G_15_1 {R : Type} (p0 : Int) (p1 : List Int × List Int × Int × PUnit) (p2 : List Int × List Int × Int × PUnit) (k : Ex → St → Option R) : Option R := Sp.B_15_1 (Sp.L_15_1 FU p0 p1 p2) (k Ex.ret (X_15_1_0)) (k (Ex.exit (2 : Nat)) (X_15_1_1))
def o_15_1 {R : Type} (G : (Int) → (List Int × List Int × Int × PUnit) → (List Int × List Int × Int × PUnit) → (Ex → St → Option R) → Option R) : St → (Ex → St → Option R) → Option R := fun T k => match T.sl.getD 2 .junk, T.sl.getD 3 .junk, T.sl.getD 6 .junk, T.hp with
  | CV.ptr (0 : Nat) [], CV.ptr (1 : Nat) [], CV.int IntKind.i64 p0, ((Blk.mem (CV.pure (Ty.pair (Ty.slice (Ty.int IntKind.u32)) (Ty.pair (Ty.slice (Ty.int IntKind.i64)) (Ty.pair (Ty.int IntKind.i64) Ty.unit))) p1)) :: (Blk.mem (CV.pure (Ty.pair (Ty.slice (Ty.int IntKind.u32)) (Ty.pair (Ty.slice (Ty.int IntKind.i64)) (Ty.pair (Ty.int IntKind.i64) Ty.unit))) p2)) :: []) => gd (shapeOK T 66 [2, 3, 6] (0 : Nat)) (G p0 p1 p2 k)
  | _, _, _, _ => none
theorem o_15_1_inv {R : Type} {G : (Int) → (List Int × List Int × Int × PUnit) → (List Int × List Int × Int × PUnit) → (Ex → St → Option R) → Option R} {T : St} {k : Ex → St → Option R} {r : R} (h : o_15_1 G T k = some r) : ∃ p0 p1 p2, T = T_15_1 p0 p1 p2 ∧ G p0 p1 p2 k = some r := by
  unfold o_15_1 at h
  split at h
  · obtain ⟨hs, h'⟩ := gd_some h
    refine ⟨_, _, _, (st_of (asg := [(2, _), (3, _), (6, _)]) hs ⟨by assumption, by assumption, by assumption, trivial⟩ (by assumption)).trans ?_, h'⟩
    kernel_rfl
  · cases h
def O_15_15_0 {R : Type} : St → (Ex → St → Option R) → Option R := fun T k => o_15_0 G_15_0 T k
def O_15_15_1 {R : Type} : St → (Ex → St → Option R) → Option R := fun T k => o_15_1 G_15_1 T k
theorem body_15_0 {R : Type} (K0 : St → Option R) (K1 : Ex → St → Option R) (p0 : Int) (p1 : List Int × List Int × Int × PUnit) (p2 : List Int × List Int × Int × PUnit) : evLB (evCodeL sm_15 FU (ovr noO (evFn sm_15 fns FU 0)) .nil ir15_b0) (St.norm ir15_v0) (T_15_0 p0 p1 p2) K0 K1 =
  bif decide (p0 < (↑(List.length (Prod.fst p1)) : Int)) then gd (inB p0 (List.length (Prod.fst p1))) (gd (inB p0 (List.length (Prod.fst p2))) (bif List.getD (Prod.fst p1) (Int.toNat p0) (0 : Int) != List.getD (Prod.fst p2) (Int.toNat p0) (0 : Int) then K1 Ex.ret X_15_0_0 else K0 (T_15_0 (IntKind.wrap IntKind.i64 (p0 + (1 : Int))) p1 p2))) else K1 (Ex.exit (0 : Nat)) (X_15_0_1 p1 p2) := by kernel_rfl
theorem Bgd_15_0 {R : Type} {c : Bool} {x : Option R} {y : Option Sp.E_15_0} {k0 : Option R} {k1 : (List Int × List Int × Int × PUnit) → (List Int × List Int × Int × PUnit) → Option R} (h : x = Sp.B_15_0 y k0 k1) : gd c x = Sp.B_15_0 (gd c y) k0 k1 := by cases c; rfl; exact h
theorem Bcond_15_0 {R : Type} {c : Bool} {x x' : Option R} {y y' : Option Sp.E_15_0} {k0 : Option R} {k1 : (List Int × List Int × Int × PUnit) → (List Int × List Int × Int × PUnit) → Option R} (h : x = Sp.B_15_0 y k0 k1) (h' : x' = Sp.B_15_0 y' k0 k1) : (bif c then x else x') = Sp.B_15_0 (bif c then y else y') k0 k1 := by cases c; exact h'; exact h
theorem loop_15_0 {R : Type} (k : Ex → St → Option R) : ∀ (m : Nat) (p0 : Int) (p1 : List Int × List Int × Int × PUnit) (p2 : List Int × List Int × Int × PUnit), evLoopN (evCodeL sm_15 FU (ovr noO (evFn sm_15 fns FU 0)) .nil ir15_b0) (St.norm ir15_v0) m (T_15_0 p0 p1 p2) k = Sp.B_15_0 (Sp.L_15_0 m p0 p1 p2) (k Ex.ret (X_15_0_0)) (fun p1 p2 => k (Ex.exit (0 : Nat)) (X_15_0_1 p1 p2))
  | 0, _, _, _ => rfl
  | m + 1, p0, p1, p2 => by
    rw [evLoopN_succ, body_15_0, Sp.L_15_0]
    repeat' first | apply Bgd_15_0 | apply Bcond_15_0 | exact loop_15_0 k m _ _ _ | rfl
theorem ok_15_0 {R : Type} (T : St) (k : Ex → St → Option R) (r : R) (h0 : o_15_0 G_15_0 T k = some r) : evLoopN (evCode sm_15 FU (evFn sm_15 fns FU 0) ir15_b0) (St.norm ir15_v0) FU T k = some r := by
  obtain ⟨p0, p1, p2, rfl, h⟩ := o_15_0_inv h0
  refine evLoopN_L (t := .nil) noO_ok trivial _ _ _ _ ?_
  rw [loop_15_0]
  exact h
theorem OK_15_15_0 {R : Type} (T : St) (k : Ex → St → Option R) (r : R) (h : O_15_15_0 T k = some r) : evLoopN (evCode sm_15 FU (evFn sm_15 fns FU 0) ir15_b0) (St.norm ir15_v0) FU T k = some r := ok_15_0 T k r h
theorem body_15_1 {R : Type} (K0 : St → Option R) (K1 : Ex → St → Option R) (p0 : Int) (p1 : List Int × List Int × Int × PUnit) (p2 : List Int × List Int × Int × PUnit) : evLB (evCodeL sm_15 FU (ovr noO (evFn sm_15 fns FU 0)) .nil ir15_b1) (St.norm ir15_v1) (T_15_1 p0 p1 p2) K0 K1 =
  bif decide (p0 < (↑(List.length (Prod.fst (Prod.snd p1))) : Int)) then gd (inB p0 (List.length (Prod.fst (Prod.snd p1)))) (gd (inB p0 (List.length (Prod.fst (Prod.snd p2)))) (bif List.getD (Prod.fst (Prod.snd p1)) (Int.toNat p0) (0 : Int) != List.getD (Prod.fst (Prod.snd p2)) (Int.toNat p0) (0 : Int) then K1 Ex.ret X_15_1_0 else K0 (T_15_1 (IntKind.wrap IntKind.i64 (p0 + (1 : Int))) p1 p2))) else K1 (Ex.exit (2 : Nat)) X_15_1_1 := by kernel_rfl
theorem Bgd_15_1 {R : Type} {c : Bool} {x : Option R} {y : Option Sp.E_15_1} {k0 : Option R} {k1 : Option R} (h : x = Sp.B_15_1 y k0 k1) : gd c x = Sp.B_15_1 (gd c y) k0 k1 := by cases c; rfl; exact h
theorem Bcond_15_1 {R : Type} {c : Bool} {x x' : Option R} {y y' : Option Sp.E_15_1} {k0 : Option R} {k1 : Option R} (h : x = Sp.B_15_1 y k0 k1) (h' : x' = Sp.B_15_1 y' k0 k1) : (bif c then x else x') = Sp.B_15_1 (bif c then y else y') k0 k1 := by cases c; exact h'; exact h
theorem loop_15_1 {R : Type} (k : Ex → St → Option R) : ∀ (m : Nat) (p0 : Int) (p1 : List Int × List Int × Int × PUnit) (p2 : List Int × List Int × Int × PUnit), evLoopN (evCodeL sm_15 FU (ovr noO (evFn sm_15 fns FU 0)) .nil ir15_b1) (St.norm ir15_v1) m (T_15_1 p0 p1 p2) k = Sp.B_15_1 (Sp.L_15_1 m p0 p1 p2) (k Ex.ret (X_15_1_0)) (k (Ex.exit (2 : Nat)) (X_15_1_1))
  | 0, _, _, _ => rfl
  | m + 1, p0, p1, p2 => by
    rw [evLoopN_succ, body_15_1, Sp.L_15_1]
    repeat' first | apply Bgd_15_1 | apply Bcond_15_1 | exact loop_15_1 k m _ _ _ | rfl
theorem ok_15_1 {R : Type} (T : St) (k : Ex → St → Option R) (r : R) (h0 : o_15_1 G_15_1 T k = some r) : evLoopN (evCode sm_15 FU (evFn sm_15 fns FU 0) ir15_b1) (St.norm ir15_v1) FU T k = some r := by
  obtain ⟨p0, p1, p2, rfl, h⟩ := o_15_1_inv h0
  refine evLoopN_L (t := .nil) noO_ok trivial _ _ _ _ ?_
  rw [loop_15_1]
  exact h
theorem OK_15_15_1 {R : Type} (T : St) (k : Ex → St → Option R) (r : R) (h : O_15_15_1 T k = some r) : evLoopN (evCode sm_15 FU (evFn sm_15 fns FU 0) ir15_b1) (St.norm ir15_v1) FU T k = some r := ok_15_1 T k r h
def F_15 (a0 : ((List Int) × ((List Int) × (Int × Unit)))) (a1 : ((List Int) × ((List Int) × (Int × Unit)))) : Option (Bool × Unit) :=
  bif Prod.fst (Prod.snd (Prod.snd a0)) != Prod.fst (Prod.snd (Prod.snd a1)) then some (false, PUnit.unit) else bif (↑(List.length (Prod.fst a0)) : Int) != (↑(List.length (Prod.fst a1)) : Int) then some (false, PUnit.unit) else bif (↑(List.length (Prod.fst (Prod.snd a0))) : Int) != (↑(List.length (Prod.fst (Prod.snd a1))) : Int) then some (false, PUnit.unit) else Sp.B_15_0 (Sp.L_15_0 (4611686018427387904 : Nat) (0 : Int) a0 a1) (some (false, PUnit.unit)) fun (y2 y3 : List Int × List Int × Int × PUnit) => Sp.B_15_1 (Sp.L_15_1 (4611686018427387904 : Nat) (0 : Int) y2 y3) (some (false, PUnit.unit)) (some (true, PUnit.unit))
theorem fn_15 (a0 : ((List Int) × ((List Int) × (Int × Unit)))) (a1 : ((List Int) × ((List Int) × (Int × Unit)))) : evFnL sm_15 FU (ovr noO (evFn sm_15 fns FU 0)) (ir15_t O_15_15_0 O_15_15_1) ir15 (ofH [(.pair (.slice (.int .u32)) (.pair (.slice (.int .i64)) (.pair (.int .i64) .unit))), (.pair (.slice (.int .u32)) (.pair (.slice (.int .i64)) (.pair (.int .i64) .unit)))] (a0, a1, ())) [] (pureK [.bool]) = F_15 a0 a1 := by kernel_rfl
def Sp.p_15 (a0 : ((List Int) × ((List Int) × (Int × Unit)))) (a1 : ((List Int) × ((List Int) × (Int × Unit)))) : Bool := (F_15 a0 a1).isSome
def Sp.v_15 (a0 : ((List Int) × ((List Int) × (Int × Unit)))) (a1 : ((List Int) × ((List Int) × (Int × Unit)))) : Bool × Unit := (F_15 a0 a1).getD (dfH [.bool])
def s_15 : Summ := shN [(.pair (.slice (.int .u32)) (.pair (.slice (.int .i64)) (.pair (.int .i64) .unit))), (.pair (.slice (.int .u32)) (.pair (.slice (.int .i64)) (.pair (.int .i64) .unit)))] [.bool] (fun x => Sp.p_15 x.1 x.2.1) (fun x => Sp.v_15 x.1 x.2.1)
theorem pv_15 (a0 : ((List Int) × ((List Int) × (Int × Unit)))) (a1 : ((List Int) × ((List Int) × (Int × Unit)))) {y : Bool × Unit} (h : F_15 a0 a1 = some y) : Sp.p_15 a0 a1 = true ∧ Sp.v_15 a0 a1 = y := ⟨by rw [Sp.p_15, h]; rfl, by rw [Sp.v_15, h]; rfl⟩
theorem run_15 (x : HDen [(.pair (.slice (.int .u32)) (.pair (.slice (.int .i64)) (.pair (.int .i64) .unit))), (.pair (.slice (.int .u32)) (.pair (.slice (.int .i64)) (.pair (.int .i64) .unit)))]) (y : HDen [.bool]) (h : F_15 x.1 x.2.1 = some y) : evFn sm_15 fns FU 1 15 (ofH [(.pair (.slice (.int .u32)) (.pair (.slice (.int .i64)) (.pair (.int .i64) .unit))), (.pair (.slice (.int .u32)) (.pair (.slice (.int .i64)) (.pair (.int .i64) .unit)))] x) [] (pureK [.bool]) = some y :=
  evFnL_sound (fn := ir15) (t := (ir15_t O_15_15_0 O_15_15_1)) (o := noO) rfl noO_ok (ir15_tok (fun T k r => OK_15_15_0 T k r) (fun T k r => OK_15_15_1 T k r)) ((fn_15 _ _).trans h)
end
end Go.Ev
namespace Go.Ev
open Go
set_option maxRecDepth 100000
set_option maxHeartbeats 4000000
set_option linter.unusedVariables false
noncomputable section

def sm_23 : Nat → Option Summ := fun f => none


def F_23 (a0 : ((List Int) × ((List Int) × (Int × Unit)))) (a1 : ((List Int) × ((List Int) × (Int × Unit)))) : Option (Bool × Unit) :=
  bif (↑(List.length (Prod.fst a0)) : Int) == (↑(List.length (Prod.fst a1)) : Int) then bif (↑(List.length (Prod.fst (Prod.snd a0))) : Int) == (↑(List.length (Prod.fst (Prod.snd a1))) : Int) then some (Prod.fst (Prod.snd (Prod.snd a0)) == Prod.fst (Prod.snd (Prod.snd a1)), PUnit.unit) else some (false, PUnit.unit) else some (false, PUnit.unit)
theorem fn_23 (a0 : ((List Int) × ((List Int) × (Int × Unit)))) (a1 : ((List Int) × ((List Int) × (Int × Unit)))) : evFnL sm_23 FU (ovr noO (evFn sm_23 fns FU 0)) .nil ir23 (ofH [(.pair (.slice (.int .u32)) (.pair (.slice (.int .i64)) (.pair (.int .i64) .unit))), (.pair (.slice (.int .u32)) (.pair (.slice (.int .i64)) (.pair (.int .i64) .unit)))] (a0, a1, ())) [] (pureK [.bool]) = F_23 a0 a1 := by kernel_rfl
def Sp.p_23 (a0 : ((List Int) × ((List Int) × (Int × Unit)))) (a1 : ((List Int) × ((List Int) × (Int × Unit)))) : Bool := (F_23 a0 a1).isSome
def Sp.v_23 (a0 : ((List Int) × ((List Int) × (Int × Unit)))) (a1 : ((List Int) × ((List Int) × (Int × Unit)))) : Bool × Unit := (F_23 a0 a1).getD (dfH [.bool])
def s_23 : Summ := shN [(.pair (.slice (.int .u32)) (.pair (.slice (.int .i64)) (.pair (.int .i64) .unit))), (.pair (.slice (.int .u32)) (.pair (.slice (.int .i64)) (.pair (.int .i64) .unit)))] [.bool] (fun x => Sp.p_23 x.1 x.2.1) (fun x => Sp.v_23 x.1 x.2.1)
theorem pv_23 (a0 : ((List Int) × ((List Int) × (Int × Unit)))) (a1 : ((List Int) × ((List Int) × (Int × Unit)))) {y : Bool × Unit} (h : F_23 a0 a1 = some y) : Sp.p_23 a0 a1 = true ∧ Sp.v_23 a0 a1 = y := ⟨by rw [Sp.p_23, h]; rfl, by rw [Sp.v_23, h]; rfl⟩
theorem run_23 (x : HDen [(.pair (.slice (.int .u32)) (.pair (.slice (.int .i64)) (.pair (.int .i64) .unit))), (.pair (.slice (.int .u32)) (.pair (.slice (.int .i64)) (.pair (.int .i64) .unit)))]) (y : HDen [.bool]) (h : F_23 x.1 x.2.1 = some y) : evFn sm_23 fns FU 1 23 (ofH [(.pair (.slice (.int .u32)) (.pair (.slice (.int .i64)) (.pair (.int .i64) .unit))), (.pair (.slice (.int .u32)) (.pair (.slice (.int .i64)) (.pair (.int .i64) .unit)))] x) [] (pureK [.bool]) = some y :=
  evFnL_sound (fn := ir23) (t := .nil) (o := noO) rfl noO_ok trivial ((fn_23 _ _).trans h)
end
end Go.Ev
namespace Go.Ev
open Go
set_option maxRecDepth 100000
set_option maxHeartbeats 4000000
set_option linter.unusedVariables false
noncomputable section

def sm_24 : Nat → Option Summ := fun f => none
def T_24_0 (p0 : List Int) (p1 : List Int) (p2 : Int) (p3 : Int) : St := St.mk [CV.pure (Ty.slice (Ty.int IntKind.i64)) p0, CV.pure (Ty.slice (Ty.int IntKind.i64)) p1, jk, jk, jk, jk, jk, jk, jk, jk, jk, jk, CV.int IntKind.i64 p2, CV.int IntKind.i64 p3, jk, jk, jk, jk, jk, jk, jk, jk, jk, jk, jk, jk] [] (0 : Nat)
def X_24_0_0 : St := St.mk [jk, jk, jk, jk, CV.bool false, jk, jk, jk, jk, jk, jk, jk, jk, jk, jk, jk, jk, jk, jk, jk, jk, jk, jk, jk, jk, jk] [] (0 : Nat)
def X_24_0_1 : St := St.mk [jk, jk, jk, jk, jk, jk, jk, jk, jk, jk, jk, jk, jk, jk, jk, jk, jk, jk, jk, jk, jk, jk, jk, jk, jk, jk] [] (0 : Nat)
inductive Sp.E_24_0 where
  | e0
  | e1
def Sp.B_24_0 {R : Type} (r : Option Sp.E_24_0) (k0 : Option R) (k1 : Option R) : Option R := match r with
  | none => none
  | some (.e0) => k0
  | some (.e1) => k1
def Sp.L_24_0 : Nat → (List Int) → (List Int) → (Int) → (Int) → Option Sp.E_24_0
  | 0, _, _, _, _ => none
  | m + 1, p0, p1, p2, p3 => bif decide (p3 < p2) then gd (inB p3 (List.length p0)) (gd (inB p3 (List.length p1)) (bif List.getD p0 (Int.toNat p3) (0 : Int) != List.getD p1 (Int.toNat p3) (0 : Int) then some (Sp.E_24_0.e0) else Sp.L_24_0 m p0 p1 p2 (IntKind.wrap IntKind.i64 (p3 + (1 : Int))))) else some (Sp.E_24_0.e1)
def G_24_0 {R : Type} (p0 : List Int) (p1 : List Int) (p2 : Int) (p3 : Int) (k : Ex → St → Option R) : Option R := Sp.B_24_0 (Sp.L_24_0 FU p0 p1 p2 p3) (k Ex.ret (X_24_0_0)) (k (Ex.exit (0 : Nat)) (X_24_0_1))
def o_24_0 {R : Type} (G : (List Int) → (List Int) → (Int) → (Int) → (Ex → St → Option R) → Option R) : St → (Ex → St → Option R) → Option R := fun T k => match T.sl.getD 0 .junk, T.sl.getD 1 .junk, T.sl.getD 12 .junk, T.sl.getD 13 .junk, T.hp with
  | CV.pure (Ty.slice (Ty.int IntKind.i64)) p0, CV.pure (Ty.slice (Ty.int IntKind.i64)) p1, CV.int IntKind.i64 p2, CV.int IntKind.i64 p3, [] => gd (shapeOK T 26 [0, 1, 12, 13] (0 : Nat)) (G p0 p1 p2 p3 k)
  | _, _, _, _, _ => none
theorem o_24_0_inv {R : Type} {G : (List Int) → (List Int) → (Int) → (Int) → (Ex → St → Option R) → Option R} {T : St} {k : Ex → St → Option R} {r : R} (h : o_24_0 G T k = some r) : ∃ p0 p1 p2 p3, T = T_24_0 p0 p1 p2 p3 ∧ G p0 p1 p2 p3 k = some r := by
  unfold o_24_0 at h
  split at h
  · obtain ⟨hs, h'⟩ := gd_some h
    refine ⟨_, _, _, _, (st_of (asg := [(0, _), (1, _), (12, _), (13, _)]) hs ⟨by assumption, by assumption, by assumption, by assumption, trivial⟩ (by assumption)).trans ?_, h'⟩
    kernel_rfl
  · cases h
def O_24_24_0 {R : Type} : St → (Ex → St → Option R) → Option R := fun T k => o_24_0 G_24_0 T k
theorem body_24_0 {R : Type} (K0 : St → Option R) (K1 : Ex → St → Option R) (p0 : List Int) (p1 : List Int) (p2 : Int) (p3 : Int) : evLB (evCodeL sm_24 FU (ovr noO (evFn sm_24 fns FU 0)) .nil ir24_b0) (St.norm ir24_v0) (T_24_0 p0 p1 p2 p3) K0 K1 =
  bif decide (p3 < p2) then gd (inB p3 (List.length p0)) (gd (inB p3 (List.length p1)) (bif List.getD p0 (Int.toNat p3) (0 : Int) != List.getD p1 (Int.toNat p3) (0 : Int) then K1 Ex.ret X_24_0_0 else K0 (T_24_0 p0 p1 p2 (IntKind.wrap IntKind.i64 (p3 + (1 : Int)))))) else K1 (Ex.exit (0 : Nat)) X_24_0_1 := by kernel_rfl
theorem Bgd_24_0 {R : Type} {c : Bool} {x : Option R} {y : Option Sp.E_24_0} {k0 : Option R} {k1 : Option R} (h : x = Sp.B_24_0 y k0 k1) : gd c x = Sp.B_24_0 (gd c y) k0 k1 := by cases c; rfl; exact h
theorem Bcond_24_0 {R : Type} {c : Bool} {x x' : Option R} {y y' : Option Sp.E_24_0} {k0 : Option R} {k1 : Option R} (h : x = Sp.B_24_0 y k0 k1) (h' : x' = Sp.B_24_0 y' k0 k1) : (bif c then x else x') = Sp.B_24_0 (bif c then y else y') k0 k1 := by cases c; exact h'; exact h
theorem loop_24_0 {R : Type} (k : Ex → St → Option R) : ∀ (m : Nat) (p0 : List Int) (p1 : List Int) (p2 : Int) (p3 : Int), evLoopN (evCodeL sm_24 FU (ovr noO (evFn sm_24 fns FU 0)) .nil ir24_b0) (St.norm ir24_v0) m (T_24_0 p0 p1 p2 p3) k = Sp.B_24_0 (Sp.L_24_0 m p0 p1 p2 p3) (k Ex.ret (X_24_0_0)) (k (Ex.exit (0 : Nat)) (X_24_0_1))
  | 0, _, _, _, _ => rfl
  | m + 1, p0, p1, p2, p3 => by
    rw [evLoopN_succ, body_24_0, Sp.L_24_0]
    repeat' first | apply Bgd_24_0 | apply Bcond_24_0 | exact loop_24_0 k m _ _ _ _ | rfl
theorem ok_24_0 {R : Type} (T : St) (k : Ex → St → Option R) (r : R) (h0 : o_24_0 G_24_0 T k = some r) : evLoopN (evCode sm_24 FU (evFn sm_24 fns FU 0) ir24_b0) (St.norm ir24_v0) FU T k = some r := by
  obtain ⟨p0, p1, p2, p3, rfl, h⟩ := o_24_0_inv h0
  refine evLoopN_L (t := .nil) noO_ok trivial _ _ _ _ ?_
  rw [loop_24_0]
  exact h
theorem OK_24_24_0 {R : Type} (T : St) (k : Ex → St → Option R) (r : R) (h : O_24_24_0 T k = some r) : evLoopN (evCode sm_24 FU (evFn sm_24 fns FU 0) ir24_b0) (St.norm ir24_v0) FU T k = some r := ok_24_0 T k r h
def F_24 (a0 : (List Int)) (a1 : (List Int)) : Option (Bool × Unit) :=
  bif (↑(List.length a0) : Int) != (↑(List.length a1) : Int) then some (false, PUnit.unit) else Sp.B_24_0 (Sp.L_24_0 (4611686018427387904 : Nat) a0 a1 (↑(List.length a0) : Int) (0 : Int)) (some (false, PUnit.unit)) (some (true, PUnit.unit))
theorem fn_24 (a0 : (List Int)) (a1 : (List Int)) : evFnL sm_24 FU (ovr noO (evFn sm_24 fns FU 0)) (ir24_t O_24_24_0) ir24 (ofH [(.slice (.int .i64)), (.slice (.int .i64))] (a0, a1, ())) [] (pureK [.bool]) = F_24 a0 a1 := by kernel_rfl
def Sp.p_24 (a0 : (List Int)) (a1 : (List Int)) : Bool := (F_24 a0 a1).isSome
def Sp.v_24 (a0 : (List Int)) (a1 : (List Int)) : Bool × Unit := (F_24 a0 a1).getD (dfH [.bool])
def s_24 : Summ := shN [(.slice (.int .i64)), (.slice (.int .i64))] [.bool] (fun x => Sp.p_24 x.1 x.2.1) (fun x => Sp.v_24 x.1 x.2.1)
theorem pv_24 (a0 : (List Int)) (a1 : (List Int)) {y : Bool × Unit} (h : F_24 a0 a1 = some y) : Sp.p_24 a0 a1 = true ∧ Sp.v_24 a0 a1 = y := ⟨by rw [Sp.p_24, h]; rfl, by rw [Sp.v_24, h]; rfl⟩
theorem run_24 (x : HDen [(.slice (.int .i64)), (.slice (.int .i64))]) (y : HDen [.bool]) (h : F_24 x.1 x.2.1 = some y) : evFn sm_24 fns FU 1 24 (ofH [(.slice (.int .i64)), (.slice (.int .i64))] x) [] (pureK [.bool]) = some y :=
  evFnL_sound (fn := ir24) (t := (ir24_t O_24_24_0)) (o := noO) rfl noO_ok (ir24_tok (fun T k r => OK_24_24_0 T k r)) ((fn_24 _ _).trans h)
end
end Go.Ev
namespace Go.Ev
open Go
set_option maxRecDepth 100000
set_option maxHeartbeats 4000000
set_option linter.unusedVariables false
noncomputable section

abbrev s28_21 : Summ := vecS (.int .u32) 34 4
abbrev s28_48 : Summ := vecS (.int .i64) 3 8
def sm_28 : Nat → Option Summ := fun f => bif Nat.beq f 21 then some s28_21 else bif Nat.beq f 36 then some s_36 else bif Nat.beq f 48 then some s28_48 else none
def T_28_45_0_0 (p0 : Int) (p1 : Nat) (p2 : Nat) (p3 : Int) (p4 : Int) (p5 : List Int × List Int × Int × PUnit) (p6 : Int) (p7 : Int × Int × PUnit) (p8 : Int × PUnit) (p9 : Int × Int × PUnit) (p10 : List Int × List Int × Int × PUnit) (p11 : Int × Int × PUnit) (p12 : Int × PUnit) (p13 : Int × Int × PUnit) (p14 : List Int) (p15 : List Int) (p16 : Int × PUnit) (p17 : Int × PUnit) : St := St.mk [jk, CV.int IntKind.u32 p0, CV.ptr (1 : Nat) [], CV.ptr (12 : Nat) [], jk, CV.sub (9 : Nat) [] (1 : Nat) p1 p2 none, jk, jk, jk, jk, jk, CV.int IntKind.i64 p3, CV.int IntKind.i64 p4, jk, jk, jk, jk, jk, jk, jk, jk, jk, jk, jk, jk, jk, jk, jk, jk, jk] [Blk.mem (CV.pure (Ty.pair (Ty.slice (Ty.int IntKind.u32)) (Ty.pair (Ty.slice (Ty.int IntKind.i64)) (Ty.pair (Ty.int IntKind.i64) Ty.unit))) p5), Blk.mem (CV.int IntKind.i64 p6), Blk.mem (CV.pure (Ty.pair (Ty.int IntKind.i64) (Ty.pair (Ty.int IntKind.u32) Ty.unit)) p7), Blk.mem (CV.pair (CV.nil (34 : Nat) (Ty.int IntKind.u32)) (CV.pair (CV.nil (3 : Nat) (Ty.int IntKind.i64)) (CV.pure (Ty.pair (Ty.int IntKind.i64) Ty.unit) p8))), Blk.mem (CV.pure (Ty.pair (Ty.int IntKind.i64) (Ty.pair (Ty.int IntKind.u32) Ty.unit)) p9), Blk.mem (CV.pure (Ty.pair (Ty.slice (Ty.int IntKind.u32)) (Ty.pair (Ty.slice (Ty.int IntKind.i64)) (Ty.pair (Ty.int IntKind.i64) Ty.unit))) p10), Blk.mem (CV.pure (Ty.pair (Ty.int IntKind.i64) (Ty.pair (Ty.int IntKind.u32) Ty.unit)) p11), Blk.mem (CV.pair (CV.nil (34 : Nat) (Ty.int IntKind.u32)) (CV.pair (CV.nil (3 : Nat) (Ty.int IntKind.i64)) (CV.pure (Ty.pair (Ty.int IntKind.i64) Ty.unit) p12))), Blk.mem (CV.pure (Ty.pair (Ty.int IntKind.i64) (Ty.pair (Ty.int IntKind.u32) Ty.unit)) p13), Blk.vec (34 : Nat) (Ty.int IntKind.u32) p14, Blk.vec (3 : Nat) (Ty.int IntKind.i64) p15, Blk.mem (CV.pair (CV.whole (9 : Nat)) (CV.pair (CV.whole (10 : Nat)) (CV.pure (Ty.pair (Ty.int IntKind.i64) Ty.unit) p16))), Blk.mem (CV.pair (CV.whole (9 : Nat)) (CV.pair (CV.whole (10 : Nat)) (CV.pure (Ty.pair (Ty.int IntKind.i64) Ty.unit) p17)))] (12 : Nat)
def X_28_45_0_0_0 (p5 : List Int × List Int × Int × PUnit) (p6 : Int) (p7 : Int × Int × PUnit) (p8 : Int × PUnit) (p9 : Int × Int × PUnit) (p10 : List Int × List Int × Int × PUnit) (p11 : Int × Int × PUnit) (p12 : Int × PUnit) (p13 : Int × Int × PUnit) (p14 : List Int) (p15 : List Int) (p16 : Int × PUnit) (p17 : Int × PUnit) : St := St.mk [jk, jk, CV.ptr (1 : Nat) [], CV.ptr (12 : Nat) [], jk, jk, jk, jk, jk, jk, jk, jk, jk, jk, jk, jk, jk, jk, jk, jk, jk, jk, jk, jk, jk, jk, jk, jk, jk, jk] [Blk.mem (CV.pure (Ty.pair (Ty.slice (Ty.int IntKind.u32)) (Ty.pair (Ty.slice (Ty.int IntKind.i64)) (Ty.pair (Ty.int IntKind.i64) Ty.unit))) p5), Blk.mem (CV.int IntKind.i64 p6), Blk.mem (CV.pure (Ty.pair (Ty.int IntKind.i64) (Ty.pair (Ty.int IntKind.u32) Ty.unit)) p7), Blk.mem (CV.pair (CV.nil (34 : Nat) (Ty.int IntKind.u32)) (CV.pair (CV.nil (3 : Nat) (Ty.int IntKind.i64)) (CV.pure (Ty.pair (Ty.int IntKind.i64) Ty.unit) p8))), Blk.mem (CV.pure (Ty.pair (Ty.int IntKind.i64) (Ty.pair (Ty.int IntKind.u32) Ty.unit)) p9), Blk.mem (CV.pure (Ty.pair (Ty.slice (Ty.int IntKind.u32)) (Ty.pair (Ty.slice (Ty.int IntKind.i64)) (Ty.pair (Ty.int IntKind.i64) Ty.unit))) p10), Blk.mem (CV.pure (Ty.pair (Ty.int IntKind.i64) (Ty.pair (Ty.int IntKind.u32) Ty.unit)) p11), Blk.mem (CV.pair (CV.nil (34 : Nat) (Ty.int IntKind.u32)) (CV.pair (CV.nil (3 : Nat) (Ty.int IntKind.i64)) (CV.pure (Ty.pair (Ty.int IntKind.i64) Ty.unit) p12))), Blk.mem (CV.pure (Ty.pair (Ty.int IntKind.i64) (Ty.pair (Ty.int IntKind.u32) Ty.unit)) p13), Blk.vec (34 : Nat) (Ty.int IntKind.u32) p14, Blk.vec (3 : Nat) (Ty.int IntKind.i64) p15, Blk.mem (CV.pair (CV.whole (9 : Nat)) (CV.pair (CV.whole (10 : Nat)) (CV.pure (Ty.pair (Ty.int IntKind.i64) Ty.unit) p16))), Blk.mem (CV.pair (CV.whole (9 : Nat)) (CV.pair (CV.whole (10 : Nat)) (CV.pure (Ty.pair (Ty.int IntKind.i64) Ty.unit) p17)))] (12 : Nat)
inductive Sp.E_28_45_0_0 where
  | e0 (p5 : List Int × List Int × Int × PUnit) (p6 : Int) (p7 : Int × Int × PUnit) (p8 : Int × PUnit) (p9 : Int × Int × PUnit) (p10 : List Int × List Int × Int × PUnit) (p11 : Int × Int × PUnit) (p12 : Int × PUnit) (p13 : Int × Int × PUnit) (p14 : List Int) (p15 : List Int) (p16 : Int × PUnit) (p17 : Int × PUnit)
def Sp.B_28_45_0_0 {R : Type} (r : Option Sp.E_28_45_0_0) (k0 : (List Int × List Int × Int × PUnit) → (Int) → (Int × Int × PUnit) → (Int × PUnit) → (Int × Int × PUnit) → (List Int × List Int × Int × PUnit) → (Int × Int × PUnit) → (Int × PUnit) → (Int × Int × PUnit) → (List Int) → (List Int) → (Int × PUnit) → (Int × PUnit) → Option R) : Option R := match r with
  | none => none
  | some (.e0 p5 p6 p7 p8 p9 p10 p11 p12 p13 p14 p15 p16 p17) => k0 p5 p6 p7 p8 p9 p10 p11 p12 p13 p14 p15 p16 p17
def Sp.L_28_45_0_0 : Nat → (Int) → (Nat) → (Nat) → (Int) → (Int) → (List Int × List Int × Int × PUnit) → (Int) → (Int × Int × PUnit) → (Int × PUnit) → (Int × Int × PUnit) → (List Int × List Int × Int × PUnit) → (Int × Int × PUnit) → (Int × PUnit) → (Int × Int × PUnit) → (List Int) → (List Int) → (Int × PUnit) → (Int × PUnit) → Option Sp.E_28_45_0_0
  | 0, _, _, _, _, _, _, _, _, _, _, _, _, _, _, _, _, _, _ => none
  | m + 1, p0, p1, p2, p3, p4, p5, p6, p7, p8, p9, p10, p11, p12, p13, p14, p15, p16, p17 => bif decide (p4 < p3) then gd (inB p4 p2) (gd (decide (p1 + Int.toNat p4 < List.length p14) && true) (gd (inB p4 p2) (gd (decide (p1 + Int.toNat p4 < List.length p14) && true && true) (Sp.L_28_45_0_0 m p0 p1 p2 p3 (IntKind.wrap IntKind.i64 (p4 + (1 : Int))) p5 p6 p7 p8 p9 p10 p11 p12 p13 (List.set p14 (p1 + Int.toNat p4) (Sp.orI IntKind.u32 (List.getD p14 (p1 + Int.toNat p4) (0 : Int)) p0)) p15 p16 p17)))) else some (Sp.E_28_45_0_0.e0 p5 p6 p7 p8 p9 p10 p11 p12 p13 p14 p15 p16 p17)
def G_28_45_0_0 {R : Type} (p0 : Int) (p1 : Nat) (p2 : Nat) (p3 : Int) (p4 : Int) (p5 : List Int × List Int × Int × PUnit) (p6 : Int) (p7 : Int × Int × PUnit) (p8 : Int × PUnit) (p9 : Int × Int × PUnit) (p10 : List Int × List Int × Int × PUnit) (p11 : Int × Int × PUnit) (p12 : Int × PUnit) (p13 : Int × Int × PUnit) (p14 : List Int) (p15 : List Int) (p16 : Int × PUnit) (p17 : Int × PUnit) (k : Ex → St → Option R) : Option R := Sp.B_28_45_0_0 (Sp.L_28_45_0_0 FU p0 p1 p2 p3 p4 p5 p6 p7 p8 p9 p10 p11 p12 p13 p14 p15 p16 p17) (fun p5 p6 p7 p8 p9 p10 p11 p12 p13 p14 p15 p16 p17 => k (Ex.exit (0 : Nat)) (X_28_45_0_0_0 p5 p6 p7 p8 p9 p10 p11 p12 p13 p14 p15 p16 p17))
def o_28_45_0_0 {R : Type} (G : (Int) → (Nat) → (Nat) → (Int) → (Int) → (List Int × List Int × Int × PUnit) → (Int) → (Int × Int × PUnit) → (Int × PUnit) → (Int × Int × PUnit) → (List Int × List Int × Int × PUnit) → (Int × Int × PUnit) → (Int × PUnit) → (Int × Int × PUnit) → (List Int) → (List Int) → (Int × PUnit) → (Int × PUnit) → (Ex → St → Option R) → Option R) : St → (Ex → St → Option R) → Option R := fun T k => match T.sl.getD 1 .junk, T.sl.getD 2 .junk, T.sl.getD 3 .junk, T.sl.getD 5 .junk, T.sl.getD 11 .junk, T.sl.getD 12 .junk, T.hp with
  | CV.int IntKind.u32 p0, CV.ptr (1 : Nat) [], CV.ptr (12 : Nat) [], CV.sub (9 : Nat) [] (1 : Nat) p1 p2 none, CV.int IntKind.i64 p3, CV.int IntKind.i64 p4, ((Blk.mem (CV.pure (Ty.pair (Ty.slice (Ty.int IntKind.u32)) (Ty.pair (Ty.slice (Ty.int IntKind.i64)) (Ty.pair (Ty.int IntKind.i64) Ty.unit))) p5)) :: (Blk.mem (CV.int IntKind.i64 p6)) :: (Blk.mem (CV.pure (Ty.pair (Ty.int IntKind.i64) (Ty.pair (Ty.int IntKind.u32) Ty.unit)) p7)) :: (Blk.mem (CV.pair (CV.nil (34 : Nat) (Ty.int IntKind.u32)) (CV.pair (CV.nil (3 : Nat) (Ty.int IntKind.i64)) (CV.pure (Ty.pair (Ty.int IntKind.i64) Ty.unit) p8)))) :: (Blk.mem (CV.pure (Ty.pair (Ty.int IntKind.i64) (Ty.pair (Ty.int IntKind.u32) Ty.unit)) p9)) :: (Blk.mem (CV.pure (Ty.pair (Ty.slice (Ty.int IntKind.u32)) (Ty.pair (Ty.slice (Ty.int IntKind.i64)) (Ty.pair (Ty.int IntKind.i64) Ty.unit))) p10)) :: (Blk.mem (CV.pure (Ty.pair (Ty.int IntKind.i64) (Ty.pair (Ty.int IntKind.u32) Ty.unit)) p11)) :: (Blk.mem (CV.pair (CV.nil (34 : Nat) (Ty.int IntKind.u32)) (CV.pair (CV.nil (3 : Nat) (Ty.int IntKind.i64)) (CV.pure (Ty.pair (Ty.int IntKind.i64) Ty.unit) p12)))) :: (Blk.mem (CV.pure (Ty.pair (Ty.int IntKind.i64) (Ty.pair (Ty.int IntKind.u32) Ty.unit)) p13)) :: (Blk.vec (34 : Nat) (Ty.int IntKind.u32) p14) :: (Blk.vec (3 : Nat) (Ty.int IntKind.i64) p15) :: (Blk.mem (CV.pair (CV.whole (9 : Nat)) (CV.pair (CV.whole (10 : Nat)) (CV.pure (Ty.pair (Ty.int IntKind.i64) Ty.unit) p16)))) :: (Blk.mem (CV.pair (CV.whole (9 : Nat)) (CV.pair (CV.whole (10 : Nat)) (CV.pure (Ty.pair (Ty.int IntKind.i64) Ty.unit) p17)))) :: []) => gd (shapeOK T 30 [1, 2, 3, 5, 11, 12] (12 : Nat)) (G p0 p1 p2 p3 p4 p5 p6 p7 p8 p9 p10 p11 p12 p13 p14 p15 p16 p17 k)
  | _, _, _, _, _, _, _ => none
theorem o_28_45_0_0_inv {R : Type} {G : (Int) → (Nat) → (Nat) → (Int) → (Int) → (List Int × List Int × Int × PUnit) → (Int) → (Int × Int × PUnit) → (Int × PUnit) → (Int × Int × PUnit) → (List Int × List Int × Int × PUnit) → (Int × Int × PUnit) → (Int × PUnit) → (Int × Int × PUnit) → (List Int) → (List Int) → (Int × PUnit) → (Int × PUnit) → (Ex → St → Option R) → Option R} {T : St} {k : Ex → St → Option R} {r : R} (h : o_28_45_0_0 G T k = some r) : ∃ p0 p1 p2 p3 p4 p5 p6 p7 p8 p9 p10 p11 p12 p13 p14 p15 p16 p17, T = T_28_45_0_0 p0 p1 p2 p3 p4 p5 p6 p7 p8 p9 p10 p11 p12 p13 p14 p15 p16 p17 ∧ G p0 p1 p2 p3 p4 p5 p6 p7 p8 p9 p10 p11 p12 p13 p14 p15 p16 p17 k = some r := by
  unfold o_28_45_0_0 at h
  split at h
  · obtain ⟨hs, h'⟩ := gd_some h
    refine ⟨_, _, _, _, _, _, _, _, _, _, _, _, _, _, _, _, _, _, (st_of (asg := [(1, _), (2, _), (3, _), (5, _), (11, _), (12, _)]) hs ⟨by assumption, by assumption, by assumption, by assumption, by assumption, by assumption, trivial⟩ (by assumption)).trans ?_, h'⟩
    kernel_rfl
  · cases h
def O_28_45_0 {R : Type} : St → (Ex → St → Option R) → Option R := fun T k => o_28_45_0_0 G_28_45_0_0 T k
def g_28_45 {R : Type} : List CV → List Blk → (CV → List Blk → Option R) → Option R := evFnL sm_28 FU (ovr noO (evFn sm_28 fns FU 1)) (ir45_t O_28_45_0) ir45
def g_28_37 {R : Type} : List CV → List Blk → (CV → List Blk → Option R) → Option R := evFnL sm_28 FU (ovr (fun f' => bif Nat.beq f' 45 then some (g_28_45) else none) (evFn sm_28 fns FU 2)) .nil ir37
theorem body_28_45_0_0 {R : Type} (K0 : St → Option R) (K1 : Ex → St → Option R) (p0 : Int) (p1 : Nat) (p2 : Nat) (p3 : Int) (p4 : Int) (p5 : List Int × List Int × Int × PUnit) (p6 : Int) (p7 : Int × Int × PUnit) (p8 : Int × PUnit) (p9 : Int × Int × PUnit) (p10 : List Int × List Int × Int × PUnit) (p11 : Int × Int × PUnit) (p12 : Int × PUnit) (p13 : Int × Int × PUnit) (p14 : List Int) (p15 : List Int) (p16 : Int × PUnit) (p17 : Int × PUnit) : evLB (evCodeL sm_28 FU (ovr noO (evFn sm_28 fns FU 1)) .nil ir45_b0) (St.norm ir45_v0) (T_28_45_0_0 p0 p1 p2 p3 p4 p5 p6 p7 p8 p9 p10 p11 p12 p13 p14 p15 p16 p17) K0 K1 =
  bif decide (p4 < p3) then gd (inB p4 p2) (gd (decide (p1 + Int.toNat p4 < List.length p14) && true) (gd (inB p4 p2) (gd (decide (p1 + Int.toNat p4 < List.length p14) && true && true) (K0 (T_28_45_0_0 p0 p1 p2 p3 (IntKind.wrap IntKind.i64 (p4 + (1 : Int))) p5 p6 p7 p8 p9 p10 p11 p12 p13 (List.set p14 (p1 + Int.toNat p4) (Sp.orI IntKind.u32 (List.getD p14 (p1 + Int.toNat p4) (0 : Int)) p0)) p15 p16 p17))))) else K1 (Ex.exit (0 : Nat)) (X_28_45_0_0_0 p5 p6 p7 p8 p9 p10 p11 p12 p13 p14 p15 p16 p17) := by kernel_rfl
theorem Bgd_28_45_0_0 {R : Type} {c : Bool} {x : Option R} {y : Option Sp.E_28_45_0_0} {k0 : (List Int × List Int × Int × PUnit) → (Int) → (Int × Int × PUnit) → (Int × PUnit) → (Int × Int × PUnit) → (List Int × List Int × Int × PUnit) → (Int × Int × PUnit) → (Int × PUnit) → (Int × Int × PUnit) → (List Int) → (List Int) → (Int × PUnit) → (Int × PUnit) → Option R} (h : x = Sp.B_28_45_0_0 y k0) : gd c x = Sp.B_28_45_0_0 (gd c y) k0 := by cases c; rfl; exact h
theorem Bcond_28_45_0_0 {R : Type} {c : Bool} {x x' : Option R} {y y' : Option Sp.E_28_45_0_0} {k0 : (List Int × List Int × Int × PUnit) → (Int) → (Int × Int × PUnit) → (Int × PUnit) → (Int × Int × PUnit) → (List Int × List Int × Int × PUnit) → (Int × Int × PUnit) → (Int × PUnit) → (Int × Int × PUnit) → (List Int) → (List Int) → (Int × PUnit) → (Int × PUnit) → Option R} (h : x = Sp.B_28_45_0_0 y k0) (h' : x' = Sp.B_28_45_0_0 y' k0) : (bif c then x else x') = Sp.B_28_45_0_0 (bif c then y else y') k0 := by cases c; exact h'; exact h
theorem loop_28_45_0_0 {R : Type} (k : Ex → St → Option R) : ∀ (m : Nat) (p0 : Int) (p1 : Nat) (p2 : Nat) (p3 : Int) (p4 : Int) (p5 : List Int × List Int × Int × PUnit) (p6 : Int) (p7 : Int × Int × PUnit) (p8 : Int × PUnit) (p9 : Int × Int × PUnit) (p10 : List Int × List Int × Int × PUnit) (p11 : Int × Int × PUnit) (p12 : Int × PUnit) (p13 : Int × Int × PUnit) (p14 : List Int) (p15 : List Int) (p16 : Int × PUnit) (p17 : Int × PUnit), evLoopN (evCodeL sm_28 FU (ovr noO (evFn sm_28 fns FU 1)) .nil ir45_b0) (St.norm ir45_v0) m (T_28_45_0_0 p0 p1 p2 p3 p4 p5 p6 p7 p8 p9 p10 p11 p12 p13 p14 p15 p16 p17) k = Sp.B_28_45_0_0 (Sp.L_28_45_0_0 m p0 p1 p2 p3 p4 p5 p6 p7 p8 p9 p10 p11 p12 p13 p14 p15 p16 p17) (fun p5 p6 p7 p8 p9 p10 p11 p12 p13 p14 p15 p16 p17 => k (Ex.exit (0 : Nat)) (X_28_45_0_0_0 p5 p6 p7 p8 p9 p10 p11 p12 p13 p14 p15 p16 p17))
  | 0, _, _, _, _, _, _, _, _, _, _, _, _, _, _, _, _, _, _ => rfl
  | m + 1, p0, p1, p2, p3, p4, p5, p6, p7, p8, p9, p10, p11, p12, p13, p14, p15, p16, p17 => by
    rw [evLoopN_succ, body_28_45_0_0, Sp.L_28_45_0_0]
    repeat' first | apply Bgd_28_45_0_0 | apply Bcond_28_45_0_0 | exact loop_28_45_0_0 k m _ _ _ _ _ _ _ _ _ _ _ _ _ _ _ _ _ _ | rfl
theorem ok_28_45_0_0 {R : Type} (T : St) (k : Ex → St → Option R) (r : R) (h0 : o_28_45_0_0 G_28_45_0_0 T k = some r) : evLoopN (evCode sm_28 FU (evFn sm_28 fns FU 1) ir45_b0) (St.norm ir45_v0) FU T k = some r := by
  obtain ⟨p0, p1, p2, p3, p4, p5, p6, p7, p8, p9, p10, p11, p12, p13, p14, p15, p16, p17, rfl, h⟩ := o_28_45_0_0_inv h0
  refine evLoopN_L (t := .nil) noO_ok trivial _ _ _ _ ?_
  rw [loop_28_45_0_0]
  exact h
theorem OK_28_45_0 {R : Type} (T : St) (k : Ex → St → Option R) (r : R) (h : O_28_45_0 T k = some r) : evLoopN (evCode sm_28 FU (evFn sm_28 fns FU 1) ir45_b0) (St.norm ir45_v0) FU T k = some r := ok_28_45_0_0 T k r h
theorem g_28_45_ok {R : Type} (args : List CV) (hp : List Blk) (k : CV → List Blk → Option R) (r : R) (h : g_28_45 args hp k = some r) : evFn sm_28 fns FU 2 45 args hp k = some r :=
  evFnL_sound (fn := ir45) (t := (ir45_t O_28_45_0)) (o := noO) rfl noO_ok (ir45_tok (fun T k r => OK_28_45_0 T k r)) h
theorem ov_28_37_ok {R : Type} : OvrOK (R := R) (fun f' => bif Nat.beq f' 45 then some (g_28_45) else none) (evFn sm_28 fns FU 2) := by
  intro f' g h args hp k r hg
  dsimp only at h
  by_cases h45 : f' = 45
  · subst h45
    injection h with h
    subst h
    exact evFn_le 0 (g_28_45_ok _ _ _ _ hg)
  rw [nbeq_ne h45, cond_false] at h
  cases h
theorem g_28_37_ok {R : Type} (args : List CV) (hp : List Blk) (k : CV → List Blk → Option R) (r : R) (h : g_28_37 args hp k = some r) : evFn sm_28 fns FU 3 37 args hp k = some r :=
  evFnL_sound (fn := ir37) (t := .nil) (o := (fun f' => bif Nat.beq f' 45 then some (g_28_45) else none)) rfl ov_28_37_ok trivial h
theorem ov_28_28_ok {R : Type} : OvrOK (R := R) (fun f' => bif Nat.beq f' 37 then some (g_28_37) else bif Nat.beq f' 45 then some (g_28_45) else none) (evFn sm_28 fns FU 3) := by
  intro f' g h args hp k r hg
  dsimp only at h
  by_cases h37 : f' = 37
  · subst h37
    injection h with h
    subst h
    exact evFn_le 0 (g_28_37_ok _ _ _ _ hg)
  rw [nbeq_ne h37, cond_false] at h
  by_cases h45 : f' = 45
  · subst h45
    injection h with h
    subst h
    exact evFn_le 1 (g_28_45_ok _ _ _ _ hg)
  rw [nbeq_ne h45, cond_false] at h
  cases h
def F_28 (a0 : ((List Int) × ((List Int) × (Int × Unit)))) (a1 : Int) (a2 : (Int × (Int × Unit))) : Option (((List Int) × ((List Int) × (Int × Unit))) × (Int × (Int × Unit)) × Int × Unit) :=
  gd (Sp.p_36 a0 a2 a1 (↑(List.length (Prod.fst (Prod.snd a0))) : Int)) (bif Prod.fst (Sp.v_36 a0 a2 a1 (↑(List.length (Prod.fst (Prod.snd a0))) : Int)) != (0 : Int) then some (([], [], (0 : Int), PUnit.unit), ((0 : Int), (0 : Int), PUnit.unit), Prod.fst (Sp.v_36 a0 a2 a1 (↑(List.length (Prod.fst (Prod.snd a0))) : Int)), PUnit.unit) else gd (inB a1 (List.length (Prod.fst (Prod.snd a0)))) (bif List.getD (Prod.fst (Prod.snd a0)) (Int.toNat a1) (0 : Int) == Prod.fst (Prod.snd (Prod.snd a0)) then some (([], [], (0 : Int), PUnit.unit), ((0 : Int), (0 : Int), PUnit.unit), (19 : Int), PUnit.unit) else gd (room (List.length (Prod.fst a0)) (4 : Nat)) (gd (room (List.length (Prod.fst (Prod.snd a0))) (8 : Nat)) (bif Prod.fst a2 == (0 : Int) then some ((Prod.fst a0, Prod.fst (Prod.snd a0), Prod.fst (Prod.snd (Prod.snd a0)), PUnit.unit), a2, (18 : Int), PUnit.unit) else bif Prod.fst a2 == (1 : Int) then gd (sl3 (IntKind.wrap IntKind.i64 (a1 * (64 : Int))) (IntKind.wrap IntKind.i64 (IntKind.wrap IntKind.i64 (a1 + (1 : Int)) * (64 : Int))) (↑(List.length (Prod.fst a0)) : Int)) (Sp.B_28_45_0_0 (Sp.L_28_45_0_0 (4611686018427387904 : Nat) (Prod.fst (Prod.snd a2)) (Int.toNat (IntKind.wrap IntKind.i64 (a1 * (64 : Int)))) (Int.toNat (IntKind.wrap IntKind.i64 (IntKind.wrap IntKind.i64 (a1 + (1 : Int)) * (64 : Int))) - Int.toNat (IntKind.wrap IntKind.i64 (a1 * (64 : Int)))) (↑(Int.toNat (IntKind.wrap IntKind.i64 (IntKind.wrap IntKind.i64 (a1 + (1 : Int)) * (64 : Int))) - Int.toNat (IntKind.wrap IntKind.i64 (a1 * (64 : Int)))) : Int) (0 : Int) a0 a1 a2 ((0 : Int), PUnit.unit) ((0 : Int), (0 : Int), PUnit.unit) a0 ((0 : Int), Prod.snd a2) ((0 : Int), PUnit.unit) ((0 : Int), (0 : Int), PUnit.unit) (Prod.fst a0) (Prod.fst (Prod.snd a0)) (Prod.fst (Prod.snd (Prod.snd a0)), PUnit.unit) (Prod.fst (Prod.snd (Prod.snd a0)), PUnit.unit)) fun (y26 : List Int × List Int × Int × PUnit) (y27 : Int) (y28 : Int × Int × PUnit) (y29 : Int × PUnit) (y30 : Int × Int × PUnit) (y31 : List Int × List Int × Int × PUnit) (y32 : Int × Int × PUnit) (y33 : Int × PUnit) (y34 : Int × Int × PUnit) (y35 y36 : List Int) (y37 y38 : Int × PUnit) => gd (inB y27 (List.length y36)) (gd (decide (Int.toNat y27 < List.length y36) && true) (gd (inB y27 (List.length y36)) (gd (decide (Int.toNat y27 < List.length y36) && true && true) (some ((y35, List.set y36 (Int.toNat y27) (IntKind.wrap IntKind.i64 (List.getD y36 (Int.toNat y27) (0 : Int) + (1 : Int))), y37), y32, (18 : Int), PUnit.unit)))))) else gd (sl3 (IntKind.wrap IntKind.i64 (a1 * (64 : Int))) (IntKind.wrap IntKind.i64 (IntKind.wrap IntKind.i64 (a1 + (1 : Int)) * (64 : Int))) (↑(List.length (Prod.fst a0)) : Int)) (Sp.B_28_45_0_0 (Sp.L_28_45_0_0 (4611686018427387904 : Nat) (4294967295 : Int) (Int.toNat (IntKind.wrap IntKind.i64 (a1 * (64 : Int)))) (Int.toNat (IntKind.wrap IntKind.i64 (IntKind.wrap IntKind.i64 (a1 + (1 : Int)) * (64 : Int))) - Int.toNat (IntKind.wrap IntKind.i64 (a1 * (64 : Int)))) (↑(Int.toNat (IntKind.wrap IntKind.i64 (IntKind.wrap IntKind.i64 (a1 + (1 : Int)) * (64 : Int))) - Int.toNat (IntKind.wrap IntKind.i64 (a1 * (64 : Int)))) : Int) (0 : Int) a0 a1 a2 ((0 : Int), PUnit.unit) ((0 : Int), (0 : Int), PUnit.unit) a0 (IntKind.wrap IntKind.i64 (Prod.fst a2 - (1 : Int)), Prod.snd a2) ((0 : Int), PUnit.unit) ((0 : Int), (0 : Int), PUnit.unit) (Prod.fst a0) (Prod.fst (Prod.snd a0)) (Prod.fst (Prod.snd (Prod.snd a0)), PUnit.unit) (Prod.fst (Prod.snd (Prod.snd a0)), PUnit.unit)) fun (y39 : List Int × List Int × Int × PUnit) (y40 : Int) (y41 : Int × Int × PUnit) (y42 : Int × PUnit) (y43 : Int × Int × PUnit) (y44 : List Int × List Int × Int × PUnit) (y45 : Int × Int × PUnit) (y46 : Int × PUnit) (y47 : Int × Int × PUnit) (y48 y49 : List Int) (y50 y51 : Int × PUnit) => gd (inB y40 (List.length y49)) (gd (decide (Int.toNat y40 < List.length y49) && true) (gd (inB y40 (List.length y49)) (gd (decide (Int.toNat y40 < List.length y49) && true && true) (some ((y48, List.set y49 (Int.toNat y40) (IntKind.wrap IntKind.i64 (List.getD y49 (Int.toNat y40) (0 : Int) + (1 : Int))), y50), y45, (0 : Int), PUnit.unit))))))))))
theorem fn_28 (a0 : ((List Int) × ((List Int) × (Int × Unit)))) (a1 : Int) (a2 : (Int × (Int × Unit))) : evFnL sm_28 FU (ovr (fun f' => bif Nat.beq f' 37 then some (g_28_37) else bif Nat.beq f' 45 then some (g_28_45) else none) (evFn sm_28 fns FU 3)) .nil ir28 (ofH [(.pair (.slice (.int .u32)) (.pair (.slice (.int .i64)) (.pair (.int .i64) .unit))), (.int .i64), (.pair (.int .i64) (.pair (.int .u32) .unit))] (a0, a1, a2, ())) [] (pureK [(.pair (.slice (.int .u32)) (.pair (.slice (.int .i64)) (.pair (.int .i64) .unit))), (.pair (.int .i64) (.pair (.int .u32) .unit)), (.int .i64)]) = F_28 a0 a1 a2 := by kernel_rfl
def Sp.p_28 (a0 : ((List Int) × ((List Int) × (Int × Unit)))) (a1 : Int) (a2 : (Int × (Int × Unit))) : Bool := (F_28 a0 a1 a2).isSome
def Sp.v_28 (a0 : ((List Int) × ((List Int) × (Int × Unit)))) (a1 : Int) (a2 : (Int × (Int × Unit))) : ((List Int) × ((List Int) × (Int × Unit))) × (Int × (Int × Unit)) × Int × Unit := (F_28 a0 a1 a2).getD (dfH [(.pair (.slice (.int .u32)) (.pair (.slice (.int .i64)) (.pair (.int .i64) .unit))), (.pair (.int .i64) (.pair (.int .u32) .unit)), (.int .i64)])
def s_28 : Summ := shS [(.pair (.slice (.int .u32)) (.pair (.slice (.int .i64)) (.pair (.int .i64) .unit))), (.int .i64), (.pair (.int .i64) (.pair (.int .u32) .unit))] [(.pair (.slice (.int .u32)) (.pair (.slice (.int .i64)) (.pair (.int .i64) .unit))), (.pair (.int .i64) (.pair (.int .u32) .unit)), (.int .i64)] (fun x => Sp.p_28 x.1 x.2.1 x.2.2.1) (fun x => Sp.v_28 x.1 x.2.1 x.2.2.1)
theorem pv_28 (a0 : ((List Int) × ((List Int) × (Int × Unit)))) (a1 : Int) (a2 : (Int × (Int × Unit))) {y : ((List Int) × ((List Int) × (Int × Unit))) × (Int × (Int × Unit)) × Int × Unit} (h : F_28 a0 a1 a2 = some y) : Sp.p_28 a0 a1 a2 = true ∧ Sp.v_28 a0 a1 a2 = y := ⟨by rw [Sp.p_28, h]; rfl, by rw [Sp.v_28, h]; rfl⟩
theorem run_28 (x : HDen [(.pair (.slice (.int .u32)) (.pair (.slice (.int .i64)) (.pair (.int .i64) .unit))), (.int .i64), (.pair (.int .i64) (.pair (.int .u32) .unit))]) (y : HDen [(.pair (.slice (.int .u32)) (.pair (.slice (.int .i64)) (.pair (.int .i64) .unit))), (.pair (.int .i64) (.pair (.int .u32) .unit)), (.int .i64)]) (h : F_28 x.1 x.2.1 x.2.2.1 = some y) : evFn sm_28 fns FU 4 28 (ofH [(.pair (.slice (.int .u32)) (.pair (.slice (.int .i64)) (.pair (.int .i64) .unit))), (.int .i64), (.pair (.int .i64) (.pair (.int .u32) .unit))] x) [] (pureK [(.pair (.slice (.int .u32)) (.pair (.slice (.int .i64)) (.pair (.int .i64) .unit))), (.pair (.int .i64) (.pair (.int .u32) .unit)), (.int .i64)]) = some y :=
  evFnL_sound (fn := ir28) (t := .nil) (o := (fun f' => bif Nat.beq f' 37 then some (g_28_37) else bif Nat.beq f' 45 then some (g_28_45) else none)) rfl ov_28_28_ok trivial ((fn_28 _ _ _).trans h)
end
end Go.Ev
