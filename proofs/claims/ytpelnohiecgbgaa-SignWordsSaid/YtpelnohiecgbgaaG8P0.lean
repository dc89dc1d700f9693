/- Helpers: functions of the program as Lean functions, and what they compute. No condition. -/
import Derived.Test.YtpelnohiecgbgaaEvPart2
set_option maxRecDepth 10000
set_option linter.unusedVariables false
set_option linter.unusedSimpArgs false
namespace Go.Ev
open Go
def ir4_b0 : IC := (.seq (.region false 0 [
      ⟨some 28, .bin .lss, [.tmp 27, .tmp 26], none, 0, []⟩]) (.seq (.cond (.tmp 28) (.skip) (.cut [2, 3, 5, 7, 8, 9] (.exit 0))) (.seq (.block 1 (.seq (.region false 0 [
       ⟨some 29, .mov, [.tmp 27], none, 0, []⟩,
       ⟨some 10, .mov, [.tmp 29], none, 0, []⟩]) (.seq (.seq (.region false 0 [
       ⟨some 30, .mov, [.tmp 5], none, 0, []⟩,
       ⟨some 31, .mov, [.tmp 10], none, 0, []⟩,
       ⟨some 32, .idxSl 1, [.tmp 30, .tmp 31], none, 0, []⟩,
       ⟨some 33, .load false 1, [.tmp 32], none, 0, []⟩,
       ⟨some 34, .bin .lss, [.tmp 33, .cst (.int .i64 0)], none, 0, []⟩,
       ⟨some 35, .mov, [.tmp 34], none, 0, []⟩,
       ⟨some 36, .mov, [.tmp 5], some (35, false), 0, []⟩,
       ⟨some 37, .mov, [.tmp 10], some (35, false), 0, []⟩,
       ⟨some 38, .idxSl 1, [.tmp 36, .tmp 37], some (35, false), 0, []⟩,
       ⟨some 39, .load false 1, [.tmp 38], some (35, false), 0, []⟩,
       ⟨some 40, .bin .gtr, [.tmp 39, .cst (.int .i64 15)], some (35, false), 0, []⟩,
       ⟨some 41, .pick, [.tmp 35, .cst (.bool true), .tmp 40], none, 0, []⟩]) (.cond (.tmp 41) (.seq (.region false 0 [
        ⟨some 4, .mov, [.cst (.bool false)], none, 0, []⟩]) (.cut [4] (.ret))) (.skip))) (.seq (.region true 0 [
       ⟨some 42, .mov, [.tmp 7], none, 0, []⟩,
       ⟨some 43, .mov, [.tmp 42], none, 0, [0]⟩,
       ⟨some 44, .mov, [.tmp 5], some (43, false), 0, [1, 0]⟩,
       ⟨some 45, .mov, [.tmp 10], some (43, false), 0, [1, 0]⟩,
       ⟨some 46, .idxSl 1, [.tmp 44, .tmp 45], some (43, false), 0, [2, 1, 0, 3]⟩,
       ⟨some 47, .load false 1, [.tmp 46], some (43, false), 0, [4, 2, 1, 0, 3]⟩,
       ⟨some 48, .mov, [.tmp 6], some (43, false), 0, [1, 0]⟩,
       ⟨some 49, .mov, [.tmp 10], some (43, false), 0, [1, 0]⟩,
       ⟨some 50, .idxSl 1, [.tmp 48, .tmp 49], some (43, false), 0, [6, 1, 0, 7]⟩,
       ⟨some 51, .load false 1, [.tmp 50], some (43, false), 0, [8, 6, 1, 0, 7]⟩,
       ⟨some 52, .bin .lss, [.tmp 47, .tmp 51], some (43, false), 0, [5, 4, 2, 1, 0, 3, 9, 8, 6, 7]⟩,
       ⟨some 53, .pick, [.tmp 43, .cst (.bool true), .tmp 52], none, 0, [1, 0, 10, 5, 4, 2, 3, 9, 8, 6, 7]⟩,
       ⟨some 54, .mov, [.tmp 8], none, 0, []⟩,
       ⟨some 55, .mov, [.tmp 54], none, 0, [12, 1, 0]⟩,
       ⟨some 56, .mov, [.tmp 5], some (55, false), 0, [13, 12, 1, 0]⟩,
       ⟨some 57, .mov, [.tmp 10], some (55, false), 0, [13, 12, 1, 0]⟩,
       ⟨some 58, .idxSl 1, [.tmp 56, .tmp 57], some (55, false), 0, [14, 13, 12, 1, 0, 15]⟩,
       ⟨some 59, .load false 1, [.tmp 58], some (55, false), 0, [16, 14, 13, 12, 1, 0, 15]⟩,
       ⟨some 60, .mov, [.tmp 6], some (55, false), 0, [13, 12, 1, 0]⟩,
       ⟨some 61, .mov, [.tmp 10], some (55, false), 0, [13, 12, 1, 0]⟩,
       ⟨some 62, .idxSl 1, [.tmp 60, .tmp 61], some (55, false), 0, [18, 13, 12, 1, 0, 19]⟩,
       ⟨some 63, .load false 1, [.tmp 62], some (55, false), 0, [20, 18, 13, 12, 1, 0, 19]⟩,
       ⟨some 64, .bin .gtr, [.tmp 59, .tmp 63], some (55, false), 0, [17, 16, 14, 13, 12, 1, 0, 15, 21, 20, 18, 19]⟩,
       ⟨some 65, .pick, [.tmp 55, .cst (.bool true), .tmp 64], none, 0, [13, 12, 1, 0, 22, 17, 16, 14, 15, 21, 20, 18, 19]⟩,
       ⟨some 7, .mov, [.tmp 53], none, 0, [11, 1, 0, 10, 5, 4, 2, 3, 9, 8, 6, 7, 13, 12]⟩,
       ⟨some 8, .mov, [.tmp 65], none, 0, [23, 13, 12, 1, 0, 22, 17, 16, 14, 15, 21, 20, 18, 19, 24, 11, 10, 5, 4, 2, 3, 9, 8, 6, 7]⟩]) (.seq (.region false 0 [
       ⟨some 66, .mov, [.tmp 10], none, 0, []⟩,
       ⟨some 67, .bin .lss, [.tmp 66, .cst (.int .i64 64)], none, 0, []⟩]) (.cond (.tmp 67) (.region false 0 [
        ⟨some 68, .mov, [.tmp 9], none, 0, []⟩,
        ⟨some 69, .mov, [.tmp 5], none, 0, []⟩,
        ⟨some 70, .mov, [.tmp 10], none, 0, []⟩,
        ⟨some 71, .idxSl 1, [.tmp 69, .tmp 70], none, 0, []⟩,
        ⟨some 72, .load false 1, [.tmp 71], none, 0, []⟩,
        ⟨some 73, .bin .sub, [.cst (.int .i64 15), .tmp 72], none, 0, []⟩,
        ⟨some 74, .bin .add, [.tmp 68, .tmp 73], none, 0, []⟩,
        ⟨some 9, .mov, [.tmp 74], none, 0, []⟩]) (.skip))))))) (.region false 0 [
      ⟨some 75, .bin .add, [.tmp 27, .cst (.int .i64 1)], none, 0, []⟩,
      ⟨some 27, .mov, [.tmp 75], none, 0, []⟩]))))
def ir4_v0 : List Nat := [2, 3, 5, 6, 7, 8, 9, 26, 27]
def ir4_t {R : Type} (o0 : St → (Ex → St → Option R) → Option R) : LT R := (.node .nil (.node .nil (.node .nil (.node .nil (.node .nil (.node (.node .nil (.node (.orc o0) .nil)) .nil))))))
def ir4 : IFn :=
  { ntmps := 115, results := [.inl 4], body := (.seq (.region false 2 [
    ⟨some 2, .box 25, [.tmp 0], none, 0, []⟩,
    ⟨some 3, .box 25, [.tmp 1], none, 0, []⟩,
    ⟨some 4, .mov, [.cst (.bool false)], none, 0, []⟩]) (.seq (.seq (.region false 1 [
    ⟨some 11, .callS 10, [], none, 0, []⟩,
    ⟨some 12, .not, [.tmp 11], none, 0, []⟩]) (.cond (.tmp 12) (.seq (.region false 0 [
     ⟨some 4, .mov, [.cst (.bool false)], none, 0, []⟩]) (.cut [4] (.ret))) (.skip))) (.seq (.region true 2 [
    ⟨some 13, .load true 32, [.tmp 2], none, 0, []⟩,
    ⟨some 14, .callS 13, [.tmp 13], none, 0, [0]⟩,
    ⟨some 15, .load true 32, [.tmp 3], none, 1, []⟩,
    ⟨some 16, .callS 13, [.tmp 15], none, 1, [2, 1, 0]⟩,
    ⟨some 5, .mov, [.tmp 14], none, 2, [1, 0, 3, 2]⟩,
    ⟨some 6, .mov, [.tmp 16], none, 2, [3, 2, 1, 0, 4]⟩]) (.seq (.seq (.region false 0 [
    ⟨some 17, .mov, [.tmp 5], none, 0, []⟩,
    ⟨some 18, .len, [.tmp 17], none, 0, []⟩,
    ⟨some 19, .bin .neq, [.tmp 18, .cst (.int .i64 67)], none, 0, []⟩,
    ⟨some 20, .mov, [.tmp 19], none, 0, []⟩,
    ⟨some 21, .mov, [.tmp 6], some (20, false), 0, []⟩,
    ⟨some 22, .len, [.tmp 21], some (20, false), 0, []⟩,
    ⟨some 23, .bin .neq, [.tmp 22, .cst (.int .i64 67)], some (20, false), 0, []⟩,
    ⟨some 24, .pick, [.tmp 20, .cst (.bool true), .tmp 23], none, 0, []⟩]) (.cond (.tmp 24) (.seq (.region false 0 [
     ⟨some 4, .mov, [.cst (.bool false)], none, 0, []⟩]) (.cut [4] (.ret))) (.skip))) (.seq (.region false 0 [
    ⟨some 7, .mov, [.cst (.bool false)], none, 0, []⟩,
    ⟨some 8, .mov, [.cst (.bool false)], none, 0, []⟩,
    ⟨some 9, .mov, [.cst (.int .i64 0)], none, 0, []⟩]) (.seq (.seq (.region false 0 [
    ⟨some 25, .mov, [.tmp 5], none, 0, []⟩,
    ⟨some 26, .len, [.tmp 25], none, 0, []⟩,
    ⟨some 27, .mov, [.cst (.int .i64 0)], none, 0, []⟩]) (.block 0 (.loop ir4_v0 ir4_b0))) (.seq (.region true 0 [
    ⟨some 76, .mov, [.tmp 9], none, 0, []⟩,
    ⟨some 77, .mov, [.tmp 5], none, 0, []⟩,
    ⟨some 78, .idxSl 1, [.tmp 77, .cst (.int .i64 64)], none, 0, [1]⟩,
    ⟨some 79, .load false 1, [.tmp 78], none, 0, [2, 1]⟩,
    ⟨some 80, .bin .mul, [.cst (.int .i64 256), .tmp 79], none, 0, [3, 2, 1]⟩,
    ⟨some 81, .mov, [.tmp 5], none, 0, []⟩,
    ⟨some 82, .idxSl 1, [.tmp 81, .cst (.int .i64 65)], none, 0, [5]⟩,
    ⟨some 83, .load false 1, [.tmp 82], none, 0, [6, 5]⟩,
    ⟨some 84, .bin .mul, [.cst (.int .i64 16), .tmp 83], none, 0, [7, 6, 5]⟩,
    ⟨some 85, .bin .add, [.tmp 80, .tmp 84], none, 0, [4, 3, 2, 1, 8, 7, 6, 5]⟩,
    ⟨some 86, .mov, [.tmp 5], none, 0, []⟩,
    ⟨some 87, .idxSl 1, [.tmp 86, .cst (.int .i64 66)], none, 0, [10]⟩,
    ⟨some 88, .load false 1, [.tmp 87], none, 0, [11, 10]⟩,
    ⟨some 89, .bin .add, [.tmp 85, .tmp 88], none, 0, [9, 4, 3, 2, 1, 8, 7, 6, 5, 12, 11, 10]⟩,
    ⟨some 90, .bin .eql, [.tmp 76, .tmp 89], none, 0, [0, 13, 9, 4, 3, 2, 1, 8, 7, 6, 5, 12, 11, 10]⟩,
    ⟨some 91, .mov, [.tmp 90], none, 0, [14, 0, 13, 9, 4, 3, 2, 1, 8, 7, 6, 5, 12, 11, 10]⟩,
    ⟨some 92, .load true 32, [.tmp 2], some (91, true), 0, [15, 14, 0, 13, 9, 4, 3, 2, 1, 8, 7, 6, 5, 12, 11, 10]⟩,
    ⟨some 93, .load true 32, [.tmp 3], some (91, true), 0, [15, 14, 0, 13, 9, 4, 3, 2, 1, 8, 7, 6, 5, 12, 11, 10]⟩,
    ⟨some 94, .eqb false (.arr 32 (.int .u8)), [.tmp 92, .tmp 93], some (91, true), 0, [16, 15, 14, 0, 13, 9, 4, 3, 2, 1, 8, 7, 6, 5, 12, 11, 10, 17]⟩,
    ⟨some 95, .mov, [.tmp 94], some (91, true), 0, [18, 16, 15, 14, 0, 13, 9, 4, 3, 2, 1, 8, 7, 6, 5, 12, 11, 10, 17]⟩,
    ⟨some 96, .mov, [.tmp 7], some (95, true), 0, [19, 18, 16, 15, 14, 0, 13, 9, 4, 3, 2, 1, 8, 7, 6, 5, 12, 11, 10, 17]⟩,
    ⟨some 97, .not, [.tmp 96], some (95, true), 0, [20, 19, 18, 16, 15, 14, 0, 13, 9, 4, 3, 2, 1, 8, 7, 6, 5, 12, 11, 10, 17]⟩,
    ⟨some 98, .pick, [.tmp 95, .tmp 97, .cst (.bool false)], some (91, true), 0, [19, 18, 16, 15, 14, 0, 13, 9, 4, 3, 2, 1, 8, 7, 6, 5, 12, 11, 10, 17, 21, 20]⟩,
    ⟨some 99, .mov, [.tmp 98], some (91, true), 0, [22, 19, 18, 16, 15, 14, 0, 13, 9, 4, 3, 2, 1, 8, 7, 6, 5, 12, 11, 10, 17, 21, 20]⟩,
    ⟨some 100, .mov, [.tmp 8], some (99, true), 0, [23, 22, 19, 18, 16, 15, 14, 0, 13, 9, 4, 3, 2, 1, 8, 7, 6, 5, 12, 11, 10, 17, 21, 20]⟩,
    ⟨some 101, .not, [.tmp 100], some (99, true), 0, [24, 23, 22, 19, 18, 16, 15, 14, 0, 13, 9, 4, 3, 2, 1, 8, 7, 6, 5, 12, 11, 10, 17, 21, 20]⟩,
    ⟨some 102, .pick, [.tmp 99, .tmp 101, .cst (.bool false)], some (91, true), 0, [23, 22, 19, 18, 16, 15, 14, 0, 13, 9, 4, 3, 2, 1, 8, 7, 6, 5, 12, 11, 10, 17, 21, 20, 25, 24]⟩,
    ⟨some 103, .mov, [.tmp 102], some (91, true), 0, [26, 23, 22, 19, 18, 16, 15, 14, 0, 13, 9, 4, 3, 2, 1, 8, 7, 6, 5, 12, 11, 10, 17, 21, 20, 25, 24]⟩,
    ⟨some 104, .load true 32, [.tmp 2], some (103, false), 0, [27, 26, 23, 22, 19, 18, 16, 15, 14, 0, 13, 9, 4, 3, 2, 1, 8, 7, 6, 5, 12, 11, 10, 17, 21, 20, 25, 24]⟩,
    ⟨some 105, .load true 32, [.tmp 3], some (103, false), 0, [27, 26, 23, 22, 19, 18, 16, 15, 14, 0, 13, 9, 4, 3, 2, 1, 8, 7, 6, 5, 12, 11, 10, 17, 21, 20, 25, 24]⟩,
    ⟨some 106, .eqb true (.arr 32 (.int .u8)), [.tmp 104, .tmp 105], some (103, false), 0, [28, 27, 26, 23, 22, 19, 18, 16, 15, 14, 0, 13, 9, 4, 3, 2, 1, 8, 7, 6, 5, 12, 11, 10, 17, 21, 20, 25, 24, 29]⟩,
    ⟨some 107, .mov, [.tmp 106], some (103, false), 0, [30, 28, 27, 26, 23, 22, 19, 18, 16, 15, 14, 0, 13, 9, 4, 3, 2, 1, 8, 7, 6, 5, 12, 11, 10, 17, 21, 20, 25, 24, 29]⟩,
    ⟨some 108, .mov, [.tmp 7], some (107, true), 0, [31, 30, 28, 27, 26, 23, 22, 19, 18, 16, 15, 14, 0, 13, 9, 4, 3, 2, 1, 8, 7, 6, 5, 12, 11, 10, 17, 21, 20, 25, 24, 29]⟩,
    ⟨some 109, .pick, [.tmp 107, .tmp 108, .cst (.bool false)], some (103, false), 0, [31, 30, 28, 27, 26, 23, 22, 19, 18, 16, 15, 14, 0, 13, 9, 4, 3, 2, 1, 8, 7, 6, 5, 12, 11, 10, 17, 21, 20, 25, 24, 29, 32]⟩,
    ⟨some 110, .mov, [.tmp 109], some (103, false), 0, [33, 31, 30, 28, 27, 26, 23, 22, 19, 18, 16, 15, 14, 0, 13, 9, 4, 3, 2, 1, 8, 7, 6, 5, 12, 11, 10, 17, 21, 20, 25, 24, 29, 32]⟩,
    ⟨some 111, .mov, [.tmp 8], some (110, true), 0, [34, 33, 31, 30, 28, 27, 26, 23, 22, 19, 18, 16, 15, 14, 0, 13, 9, 4, 3, 2, 1, 8, 7, 6, 5, 12, 11, 10, 17, 21, 20, 25, 24, 29, 32]⟩,
    ⟨some 112, .pick, [.tmp 110, .tmp 111, .cst (.bool false)], some (103, false), 0, [34, 33, 31, 30, 28, 27, 26, 23, 22, 19, 18, 16, 15, 14, 0, 13, 9, 4, 3, 2, 1, 8, 7, 6, 5, 12, 11, 10, 17, 21, 20, 25, 24, 29, 32, 35]⟩,
    ⟨some 113, .pick, [.tmp 103, .cst (.bool true), .tmp 112], some (91, true), 0, [27, 26, 23, 22, 19, 18, 16, 15, 14, 0, 13, 9, 4, 3, 2, 1, 8, 7, 6, 5, 12, 11, 10, 17, 21, 20, 25, 24, 36, 34, 33, 31, 30, 28, 29, 32, 35]⟩,
    ⟨some 114, .pick, [.tmp 91, .tmp 113, .cst (.bool false)], none, 0, [15, 14, 0, 13, 9, 4, 3, 2, 1, 8, 7, 6, 5, 12, 11, 10, 37, 27, 26, 23, 22, 19, 18, 16, 17, 21, 20, 25, 24, 36, 34, 33, 31, 30, 28, 29, 32, 35]⟩,
    ⟨some 4, .mov, [.tmp 114], none, 0, [38, 15, 14, 0, 13, 9, 4, 3, 2, 1, 8, 7, 6, 5, 12, 11, 10, 37, 27, 26, 23, 22, 19, 18, 16, 17, 21, 20, 25, 24, 36, 34, 33, 31, 30, 28, 29, 32, 35]⟩]) (.cut [4] (.ret))))))))) }
theorem ir4_tok {R : Type} {summ : Nat → Option Summ} {fu : Nat} {call : Nat → List CV → List Blk → (CV → List Blk → Option R) → Option R} {o0 : St → (Ex → St → Option R) → Option R} (h0 : ∀ T k r, o0 T k = some r → evLoopN (evCode summ fu call ir4_b0) (St.norm ir4_v0) fu T k = some r) : LTok summ fu call (ir4_t o0) ir4.body := ⟨trivial, ⟨trivial, ⟨trivial, ⟨trivial, ⟨trivial, ⟨⟨trivial, h0⟩, trivial⟩⟩⟩⟩⟩⟩


def ir5 : IFn :=
  { ntmps := 91, results := [.inl 8], body := (.seq (.region false 1 [
    ⟨some 4, .box 25, [.tmp 0], none, 0, []⟩,
    ⟨some 8, .mov, [.cst (.bool false)], none, 0, []⟩]) (.seq (.seq (.region false 1 [
    ⟨some 15, .callS 10, [], none, 0, []⟩,
    ⟨some 16, .not, [.tmp 15], none, 0, []⟩]) (.cond (.tmp 16) (.seq (.region false 0 [
     ⟨some 8, .mov, [.cst (.bool false)], none, 0, []⟩]) (.cut [8] (.ret))) (.skip))) (.seq (.seq (.region true 3 [
    ⟨some 17, .load true 32, [.tmp 4], none, 0, []⟩,
    ⟨some 18, .callS 13, [.tmp 17], none, 0, [0]⟩,
    ⟨some 19, .load true 32, [.tmp 4], none, 1, []⟩,
    ⟨some 20, .callS 15, [.tmp 19], none, 1, [2, 1, 0]⟩,
    ⟨some 21, .callS 14, [.tmp 18, .tmp 20], none, 2, [1, 0, 3, 2]⟩,
    ⟨some 22, .not, [.tmp 21], none, 3, [4, 1, 0, 3, 2]⟩]) (.cond (.tmp 22) (.seq (.region false 0 [
     ⟨some 8, .mov, [.cst (.bool false)], none, 0, []⟩]) (.cut [8] (.ret))) (.skip))) (.seq (.region false 2 [
    ⟨some 24, .load true 32, [.tmp 4], none, 0, []⟩,
    ⟨some 25, .mov, [.tmp 1], none, 0, []⟩,
    ⟨some 26, .mov, [.tmp 3], none, 0, []⟩,
    ⟨some 27, .callS 16, [.tmp 24, .tmp 25, .tmp 26], none, 0, []⟩,
    ⟨some 23, .mov, [.tmp 27], none, 0, []⟩,
    ⟨some 28, .extract 0, [.tmp 23], none, 0, []⟩,
    ⟨some 29, .extract 1, [.tmp 23], none, 0, []⟩,
    ⟨some 9, .alloc 25 (.pure (.arr 32 (.int .u8)) (List.replicate 32 (Ty.dflt (.int .u8)))), [], none, 0, []⟩,
    ⟨none, .store 32, [.tmp 9, .tmp 28], none, 0, []⟩,
    ⟨some 10, .mov, [.tmp 29], none, 0, []⟩]) (.seq (.seq (.region false 0 [
    ⟨some 30, .mov, [.tmp 1], none, 0, []⟩,
    ⟨some 31, .bin .lss, [.tmp 30, .cst (.int .i64 0)], none, 0, []⟩,
    ⟨some 32, .mov, [.tmp 31], none, 0, []⟩,
    ⟨some 33, .mov, [.tmp 1], some (32, false), 0, []⟩,
    ⟨some 34, .mov, [.tmp 3], some (32, false), 0, []⟩,
    ⟨some 35, .bin .gtr, [.tmp 33, .tmp 34], some (32, false), 0, []⟩,
    ⟨some 36, .pick, [.tmp 32, .cst (.bool true), .tmp 35], none, 0, []⟩,
    ⟨some 37, .mov, [.tmp 36], none, 0, []⟩,
    ⟨some 38, .mov, [.tmp 3], some (37, false), 0, []⟩,
    ⟨some 39, .bin .gtr, [.tmp 38, .cst (.int .i64 15)], some (37, false), 0, []⟩,
    ⟨some 40, .pick, [.tmp 37, .cst (.bool true), .tmp 39], none, 0, []⟩]) (.cond (.tmp 40) (.seq (.region false 0 [
     ⟨some 41, .mov, [.tmp 10], none, 0, []⟩,
     ⟨some 42, .bin .eql, [.tmp 41, .cst (.int .i64 2)], none, 0, []⟩,
     ⟨some 43, .mov, [.tmp 42], none, 0, []⟩,
     ⟨some 44, .load true 32, [.tmp 9], some (43, true), 0, []⟩,
     ⟨some 45, .mov, [.cst (.pure (.arr 32 (.int .u8)) (List.replicate 32 (Ty.dflt (.int .u8))))], some (43, true), 0, []⟩,
     ⟨some 46, .eqb false (.arr 32 (.int .u8)), [.tmp 44, .tmp 45], some (43, true), 0, []⟩,
     ⟨some 47, .pick, [.tmp 43, .tmp 46, .cst (.bool false)], none, 0, []⟩,
     ⟨some 8, .mov, [.tmp 47], none, 0, []⟩]) (.cut [8] (.ret))) (.skip))) (.seq (.seq (.region true 1 [
    ⟨some 48, .mov, [.tmp 10], none, 0, []⟩,
    ⟨some 49, .bin .neq, [.tmp 48, .cst (.int .i64 0)], none, 0, [0]⟩,
    ⟨some 50, .mov, [.tmp 49], none, 0, [1, 0]⟩,
    ⟨some 51, .load true 32, [.tmp 9], some (50, false), 0, [2, 1, 0]⟩,
    ⟨some 52, .load true 32, [.tmp 4], some (50, false), 0, [2, 1, 0]⟩,
    ⟨some 53, .mov, [.tmp 1], some (50, false), 0, [2, 1, 0]⟩,
    ⟨some 54, .mov, [.tmp 3], some (50, false), 0, [2, 1, 0]⟩,
    ⟨some 55, .callS 17, [.tmp 52, .tmp 53, .tmp 54], some (50, false), 0, [4, 2, 1, 0, 5, 6]⟩,
    ⟨some 56, .eqb true (.arr 32 (.int .u8)), [.tmp 51, .tmp 55], some (50, false), 1, [3, 2, 1, 0, 7, 4, 5, 6]⟩,
    ⟨some 57, .pick, [.tmp 50, .cst (.bool true), .tmp 56], none, 1, [2, 1, 0, 8, 3, 7, 4, 5, 6]⟩]) (.cond (.tmp 57) (.seq (.region false 0 [
     ⟨some 8, .mov, [.cst (.bool false)], none, 0, []⟩]) (.cut [8] (.ret))) (.skip))) (.seq (.seq (.region false 0 [
    ⟨some 58, .mov, [.tmp 2], none, 0, []⟩,
    ⟨some 59, .mov, [.tmp 1], none, 0, []⟩,
    ⟨some 60, .bin .lss, [.tmp 58, .tmp 59], none, 0, []⟩,
    ⟨some 61, .mov, [.tmp 60], none, 0, []⟩,
    ⟨some 62, .mov, [.tmp 2], some (61, false), 0, []⟩,
    ⟨some 63, .mov, [.tmp 3], some (61, false), 0, []⟩,
    ⟨some 64, .bin .gtr, [.tmp 62, .tmp 63], some (61, false), 0, []⟩,
    ⟨some 65, .pick, [.tmp 61, .cst (.bool true), .tmp 64], none, 0, []⟩]) (.cond (.tmp 65) (.seq (.region false 0 [
     ⟨some 8, .mov, [.cst (.bool true)], none, 0, []⟩]) (.cut [8] (.ret))) (.skip))) (.seq (.region false 2 [
    ⟨some 67, .load true 32, [.tmp 4], none, 0, []⟩,
    ⟨some 68, .mov, [.tmp 1], none, 0, []⟩,
    ⟨some 69, .mov, [.tmp 2], none, 0, []⟩,
    ⟨some 70, .callS 16, [.tmp 67, .tmp 68, .tmp 69], none, 0, []⟩,
    ⟨some 66, .mov, [.tmp 70], none, 0, []⟩,
    ⟨some 71, .extract 0, [.tmp 66], none, 0, []⟩,
    ⟨some 72, .extract 1, [.tmp 66], none, 0, []⟩,
    ⟨some 11, .alloc 25 (.pure (.arr 32 (.int .u8)) (List.replicate 32 (Ty.dflt (.int .u8)))), [], none, 0, []⟩,
    ⟨none, .store 32, [.tmp 11, .tmp 71], none, 0, []⟩,
    ⟨some 12, .mov, [.tmp 72], none, 0, []⟩]) (.seq (.region false 2 [
    ⟨some 74, .load true 32, [.tmp 11], none, 0, []⟩,
    ⟨some 75, .mov, [.tmp 2], none, 0, []⟩,
    ⟨some 76, .mov, [.tmp 3], none, 0, []⟩,
    ⟨some 77, .callS 16, [.tmp 74, .tmp 75, .tmp 76], none, 0, []⟩,
    ⟨some 73, .mov, [.tmp 77], none, 0, []⟩,
    ⟨some 78, .extract 0, [.tmp 73], none, 0, []⟩,
    ⟨some 79, .extract 1, [.tmp 73], none, 0, []⟩,
    ⟨some 13, .alloc 25 (.pure (.arr 32 (.int .u8)) (List.replicate 32 (Ty.dflt (.int .u8)))), [], none, 0, []⟩,
    ⟨none, .store 32, [.tmp 13, .tmp 78], none, 0, []⟩,
    ⟨some 14, .mov, [.tmp 79], none, 0, []⟩]) (.seq (.region false 0 [
    ⟨some 80, .mov, [.tmp 12], none, 0, []⟩,
    ⟨some 81, .bin .eql, [.tmp 80, .cst (.int .i64 0)], none, 0, []⟩,
    ⟨some 82, .mov, [.tmp 81], none, 0, []⟩,
    ⟨some 83, .mov, [.tmp 14], some (82, true), 0, []⟩,
    ⟨some 84, .bin .eql, [.tmp 83, .cst (.int .i64 0)], some (82, true), 0, []⟩,
    ⟨some 85, .pick, [.tmp 82, .tmp 84, .cst (.bool false)], none, 0, []⟩,
    ⟨some 86, .mov, [.tmp 85], none, 0, []⟩,
    ⟨some 87, .load true 32, [.tmp 13], some (86, true), 0, []⟩,
    ⟨some 88, .load true 32, [.tmp 9], some (86, true), 0, []⟩,
    ⟨some 89, .eqb false (.arr 32 (.int .u8)), [.tmp 87, .tmp 88], some (86, true), 0, []⟩,
    ⟨some 90, .pick, [.tmp 86, .tmp 89, .cst (.bool false)], none, 0, []⟩,
    ⟨some 8, .mov, [.tmp 90], none, 0, []⟩]) (.cut [8] (.ret)))))))))))) }


def ir7_b0 : IC := (.seq (.region false 1 [
      ⟨some 24, .mov, [.tmp 8], none, 0, []⟩,
      ⟨some 25, .bin .eql, [.tmp 24, .cst (.int .i64 2)], none, 0, []⟩,
      ⟨some 26, .mov, [.tmp 25], none, 0, []⟩,
      ⟨some 27, .load true 3, [.tmp 7], some (26, true), 0, []⟩,
      ⟨some 28, .build [((.int .i64 0), 1), ((.nil 25 (.arr 32 (.int .u8))), 1), ((.nil 25 (.arr 32 (.int .u8))), 1)] [], [], some (26, true), 0, []⟩,
      ⟨some 29, .callS 21, [.tmp 27, .tmp 28], some (26, true), 0, []⟩,
      ⟨some 30, .pick, [.tmp 26, .tmp 29, .cst (.bool false)], none, 0, []⟩,
      ⟨some 6, .mov, [.tmp 30], none, 0, []⟩]) (.cut [6] (.ret)))
def ir7_v0 : List Nat := [7, 8]
def ir7_t {R : Type} (o0 : St → (Ex → St → Option R) → Option R) : LT R := (.node .nil (.node .nil (.node .nil (.node (.node .nil (.node (.orc o0) .nil)) .nil))))
def ir7 : IFn :=
  { ntmps := 48, results := [.inl 6], body := (.seq (.region false 2 [
    ⟨some 3, .box 25, [.tmp 0], none, 0, []⟩,
    ⟨some 4, .box 25, [.tmp 1], none, 0, []⟩,
    ⟨some 6, .mov, [.cst (.bool false)], none, 0, []⟩]) (.seq (.seq (.region false 1 [
    ⟨some 9, .callS 10, [], none, 0, []⟩,
    ⟨some 10, .not, [.tmp 9], none, 0, []⟩]) (.cond (.tmp 10) (.seq (.region false 0 [
     ⟨some 6, .mov, [.cst (.bool false)], none, 0, []⟩]) (.cut [6] (.ret))) (.skip))) (.seq (.region false 2 [
    ⟨some 12, .load true 32, [.tmp 3], none, 0, []⟩,
    ⟨some 13, .mov, [.tmp 2], none, 0, []⟩,
    ⟨some 14, .load true 32, [.tmp 4], none, 0, []⟩,
    ⟨some 15, .callS 20, [.tmp 12, .tmp 13, .tmp 14], none, 0, []⟩,
    ⟨some 11, .mov, [.tmp 15], none, 0, []⟩,
    ⟨some 16, .extract 0, [.tmp 11], none, 0, []⟩,
    ⟨some 17, .extract 1, [.tmp 11], none, 0, []⟩,
    ⟨some 7, .alloc 39 (.pair (.int .i64 0) (.pair (.nil 25 (.arr 32 (.int .u8))) (.pair (.nil 25 (.arr 32 (.int .u8))) (.pure .unit ())))), [], none, 0, []⟩,
    ⟨none, .store 3, [.tmp 7, .tmp 16], none, 0, []⟩,
    ⟨some 8, .mov, [.tmp 17], none, 0, []⟩]) (.seq (.seq (.region false 0 [
    ⟨some 18, .mov, [.tmp 2], none, 0, []⟩,
    ⟨some 19, .bin .lss, [.tmp 18, .cst (.int .i64 0)], none, 0, []⟩,
    ⟨some 20, .mov, [.tmp 19], none, 0, []⟩,
    ⟨some 21, .mov, [.tmp 2], some (20, false), 0, []⟩,
    ⟨some 22, .bin .gtr, [.tmp 21, .cst (.int .i64 3)], some (20, false), 0, []⟩,
    ⟨some 23, .pick, [.tmp 20, .cst (.bool true), .tmp 22], none, 0, []⟩]) (.cond (.tmp 23) (.cut ir7_v0 ir7_b0) (.skip))) (.seq (.region true 4 [
    ⟨some 31, .mov, [.tmp 8], none, 0, []⟩,
    ⟨some 32, .bin .eql, [.tmp 31, .cst (.int .i64 0)], none, 0, [0]⟩,
    ⟨some 33, .mov, [.tmp 32], none, 0, [1, 0]⟩,
    ⟨some 34, .load true 3, [.tmp 7], some (33, true), 0, [2, 1, 0]⟩,
    ⟨some 35, .load true 32, [.tmp 3], some (33, true), 0, [2, 1, 0]⟩,
    ⟨some 36, .mov, [.tmp 2], some (33, true), 0, [2, 1, 0]⟩,
    ⟨some 37, .load true 32, [.tmp 4], some (33, true), 0, [2, 1, 0]⟩,
    ⟨some 38, .callS 22, [.tmp 35, .tmp 36, .tmp 37], some (33, true), 0, [4, 2, 1, 0, 5, 6]⟩,
    ⟨some 39, .callS 21, [.tmp 34, .tmp 38], some (33, true), 1, [3, 2, 1, 0, 7, 4, 5, 6]⟩,
    ⟨some 40, .pick, [.tmp 33, .tmp 39, .cst (.bool false)], none, 2, [2, 1, 0, 8, 3, 7, 4, 5, 6]⟩,
    ⟨some 41, .mov, [.tmp 40], none, 2, [9, 2, 1, 0, 8, 3, 7, 4, 5, 6]⟩,
    ⟨some 42, .load true 32, [.tmp 3], some (41, true), 2, [10, 9, 2, 1, 0, 8, 3, 7, 4, 5, 6]⟩,
    ⟨some 43, .callS 23, [.tmp 42], some (41, true), 2, [11, 10, 9, 2, 1, 0, 8, 3, 7, 4, 5, 6]⟩,
    ⟨some 44, .load true 32, [.tmp 3], some (41, true), 3, [10, 9, 2, 1, 0, 8, 3, 7, 4, 5, 6]⟩,
    ⟨some 45, .callS 24, [.tmp 44], some (41, true), 3, [13, 10, 9, 2, 1, 0, 8, 3, 7, 4, 5, 6, 12, 11]⟩,
    ⟨some 46, .eqb false (.arr 32 (.int .u8)), [.tmp 43, .tmp 45], some (41, true), 4, [12, 11, 10, 9, 2, 1, 0, 8, 3, 7, 4, 5, 6, 14, 13]⟩,
    ⟨some 47, .pick, [.tmp 41, .tmp 46, .cst (.bool false)], none, 4, [10, 9, 2, 1, 0, 8, 3, 7, 4, 5, 6, 15, 12, 11, 14, 13]⟩,
    ⟨some 6, .mov, [.tmp 47], none, 4, [16, 10, 9, 2, 1, 0, 8, 3, 7, 4, 5, 6, 15, 12, 11, 14, 13]⟩]) (.cut [6] (.ret))))))) }
theorem ir7_tok {R : Type} {summ : Nat → Option Summ} {fu : Nat} {call : Nat → List CV → List Blk → (CV → List Blk → Option R) → Option R} {o0 : St → (Ex → St → Option R) → Option R} (h0 : ∀ T k r, o0 T k = some r → evCode summ fu call ir7_b0 T k = some r) : LTok summ fu call (ir7_t o0) ir7.body := ⟨trivial, ⟨trivial, ⟨trivial, ⟨⟨trivial, ⟨h0, trivial⟩⟩, trivial⟩⟩⟩⟩


def ir8_b0 : IC := (.seq (.region false 2 [
     ⟨some 72, .mov, [.tmp 1], none, 0, []⟩,
     ⟨some 73, .callS 27, [.tmp 72], none, 0, []⟩,
     ⟨some 71, .mov, [.tmp 73], none, 0, []⟩,
     ⟨some 74, .extract 0, [.tmp 71], none, 0, []⟩,
     ⟨some 75, .extract 1, [.tmp 71], none, 0, []⟩,
     ⟨some 9, .alloc 39 (.pair (.int .i64 0) (.pair (.nil 25 (.arr 32 (.int .u8))) (.pair (.nil 25 (.arr 32 (.int .u8))) (.pure .unit ())))), [], none, 0, []⟩,
     ⟨none, .store 3, [.tmp 9, .tmp 74], none, 0, []⟩,
     ⟨some 10, .mov, [.tmp 75], none, 0, []⟩]) (.seq (.region false 2 [
     ⟨some 77, .mov, [.tmp 1], none, 0, []⟩,
     ⟨some 78, .callS 30, [.tmp 77], none, 0, []⟩,
     ⟨some 76, .mov, [.tmp 78], none, 0, []⟩,
     ⟨some 79, .extract 0, [.tmp 76], none, 0, []⟩,
     ⟨some 80, .extract 1, [.tmp 76], none, 0, []⟩,
     ⟨some 11, .alloc 39 (.pair (.int .i64 0) (.pair (.nil 25 (.arr 32 (.int .u8))) (.pair (.nil 25 (.arr 32 (.int .u8))) (.pure .unit ())))), [], none, 0, []⟩,
     ⟨none, .store 3, [.tmp 11, .tmp 79], none, 0, []⟩,
     ⟨some 12, .mov, [.tmp 80], none, 0, []⟩]) (.seq (.seq (.region false 0 [
     ⟨some 81, .mov, [.tmp 12], none, 0, []⟩,
     ⟨some 82, .not, [.tmp 81], none, 0, []⟩]) (.cond (.tmp 82) (.seq (.region false 1 [
      ⟨some 83, .mov, [.tmp 10], none, 0, []⟩,
      ⟨some 84, .bin .eql, [.tmp 83, .cst (.int .i64 3)], none, 0, []⟩,
      ⟨some 85, .mov, [.tmp 84], none, 0, []⟩,
      ⟨some 86, .load true 3, [.tmp 9], some (85, true), 0, []⟩,
      ⟨some 87, .build [((.int .i64 0), 1), ((.nil 25 (.arr 32 (.int .u8))), 1), ((.nil 25 (.arr 32 (.int .u8))), 1)] [], [], some (85, true), 0, []⟩,
      ⟨some 88, .callS 21, [.tmp 86, .tmp 87], some (85, true), 0, []⟩,
      ⟨some 89, .pick, [.tmp 85, .tmp 88, .cst (.bool false)], none, 0, []⟩,
      ⟨some 4, .mov, [.tmp 89], none, 0, []⟩]) (.cut [4] (.ret))) (.skip))) (.seq (.region false 1 [
     ⟨some 91, .load true 3, [.tmp 9], none, 0, []⟩,
     ⟨some 92, .callS 25, [.tmp 91], none, 0, []⟩,
     ⟨some 90, .mov, [.tmp 92], none, 0, []⟩,
     ⟨some 93, .extract 0, [.tmp 90], none, 0, []⟩,
     ⟨some 94, .extract 1, [.tmp 90], none, 0, []⟩,
     ⟨some 13, .mov, [.tmp 93], none, 0, []⟩,
     ⟨some 14, .mov, [.tmp 94], none, 0, []⟩]) (.seq (.region false 2 [
     ⟨some 95, .mov, [.tmp 10], none, 0, []⟩,
     ⟨some 96, .bin .eql, [.tmp 95, .cst (.int .i64 0)], none, 0, []⟩,
     ⟨some 97, .mov, [.tmp 96], none, 0, []⟩,
     ⟨some 98, .load true 3, [.tmp 9], some (97, true), 0, []⟩,
     ⟨some 99, .load true 3, [.tmp 11], some (97, true), 0, []⟩,
     ⟨some 100, .callS 21, [.tmp 98, .tmp 99], some (97, true), 0, []⟩,
     ⟨some 101, .pick, [.tmp 97, .tmp 100, .cst (.bool false)], none, 0, []⟩,
     ⟨some 102, .mov, [.tmp 101], none, 0, []⟩,
     ⟨some 103, .mov, [.tmp 14], some (102, true), 0, []⟩,
     ⟨some 104, .bin .eql, [.tmp 103, .cst (.int .i64 0)], some (102, true), 0, []⟩,
     ⟨some 105, .pick, [.tmp 102, .tmp 104, .cst (.bool false)], none, 0, []⟩,
     ⟨some 106, .mov, [.tmp 105], none, 0, []⟩,
     ⟨some 107, .mov, [.tmp 13], some (106, true), 0, []⟩,
     ⟨some 108, .mov, [.tmp 1], some (106, true), 0, []⟩,
     ⟨some 109, .callS 28, [.tmp 107, .tmp 108], some (106, true), 0, []⟩,
     ⟨some 110, .pick, [.tmp 106, .tmp 109, .cst (.bool false)], none, 0, []⟩,
     ⟨some 4, .mov, [.tmp 110], none, 0, []⟩]) (.cut [4] (.ret)))))))
def ir8_v0 : List Nat := [1]
def ir8_t {R : Type} (o0 : St → (Ex → St → Option R) → Option R) : LT R := (.node .nil (.node .nil (.node .nil (.node .nil (.node .nil (.orc o0))))))
def ir8 : IFn :=
  { ntmps := 111, results := [.inl 4], body := (.seq (.region false 1 [
    ⟨some 2, .box 39, [.tmp 0], none, 0, []⟩,
    ⟨some 4, .mov, [.cst (.bool false)], none, 0, []⟩]) (.seq (.seq (.region false 1 [
    ⟨some 15, .callS 10, [], none, 0, []⟩,
    ⟨some 16, .not, [.tmp 15], none, 0, []⟩]) (.cond (.tmp 16) (.seq (.region false 0 [
     ⟨some 4, .mov, [.cst (.bool false)], none, 0, []⟩]) (.cut [4] (.ret))) (.skip))) (.seq (.seq (.region false 0 [
    ⟨some 17, .fieldAddr 1 1, [.tmp 2], none, 0, []⟩,
    ⟨some 18, .load false 1, [.tmp 17], none, 0, []⟩,
    ⟨some 19, .len, [.tmp 18], none, 0, []⟩,
    ⟨some 20, .bin .gtr, [.tmp 19, .cst (.int .i64 100)], none, 0, []⟩,
    ⟨some 21, .mov, [.tmp 20], none, 0, []⟩,
    ⟨some 22, .fieldAddr 2 2, [.tmp 2], some (21, false), 0, []⟩,
    ⟨some 23, .load false 1, [.tmp 22], some (21, false), 0, []⟩,
    ⟨some 24, .len, [.tmp 23], some (21, false), 0, []⟩,
    ⟨some 25, .bin .gtr, [.tmp 24, .cst (.int .i64 100)], some (21, false), 0, []⟩,
    ⟨some 26, .pick, [.tmp 21, .cst (.bool true), .tmp 25], none, 0, []⟩,
    ⟨some 27, .mov, [.tmp 26], none, 0, []⟩,
    ⟨some 28, .mov, [.tmp 1], some (27, false), 0, []⟩,
    ⟨some 29, .len, [.tmp 28], some (27, false), 0, []⟩,
    ⟨some 30, .bin .gtr, [.tmp 29, .cst (.int .i64 1000)], some (27, false), 0, []⟩,
    ⟨some 31, .pick, [.tmp 27, .cst (.bool true), .tmp 30], none, 0, []⟩]) (.cond (.tmp 31) (.seq (.region false 0 [
     ⟨some 4, .mov, [.cst (.bool true)], none, 0, []⟩]) (.cut [4] (.ret))) (.skip))) (.seq (.region false 1 [
    ⟨some 33, .load true 3, [.tmp 2], none, 0, []⟩,
    ⟨some 34, .callS 25, [.tmp 33], none, 0, []⟩,
    ⟨some 32, .mov, [.tmp 34], none, 0, []⟩,
    ⟨some 35, .extract 0, [.tmp 32], none, 0, []⟩,
    ⟨some 36, .extract 1, [.tmp 32], none, 0, []⟩,
    ⟨some 5, .mov, [.tmp 35], none, 0, []⟩,
    ⟨some 6, .mov, [.tmp 36], none, 0, []⟩]) (.seq (.seq (.region false 1 [
    ⟨some 37, .load true 3, [.tmp 2], none, 0, []⟩,
    ⟨some 38, .callS 26, [.tmp 37], none, 0, []⟩,
    ⟨some 39, .not, [.tmp 38], none, 0, []⟩]) (.cond (.tmp 39) (.seq (.region false 0 [
     ⟨some 40, .mov, [.tmp 6], none, 0, []⟩,
     ⟨some 41, .bin .neq, [.tmp 40, .cst (.int .i64 1)], none, 0, []⟩,
     ⟨some 42, .mov, [.tmp 41], none, 0, []⟩,
     ⟨some 43, .mov, [.tmp 5], some (42, false), 0, []⟩,
     ⟨some 44, .len, [.tmp 43], some (42, false), 0, []⟩,
     ⟨some 45, .bin .neq, [.tmp 44, .cst (.int .i64 0)], some (42, false), 0, []⟩,
     ⟨some 46, .pick, [.tmp 42, .cst (.bool true), .tmp 45], none, 0, []⟩]) (.cond (.tmp 46) (.seq (.region false 0 [
      ⟨some 4, .mov, [.cst (.bool false)], none, 0, []⟩]) (.cut [4] (.ret))) (.skip))) (.seq (.region false 2 [
     ⟨some 48, .mov, [.tmp 5], none, 0, []⟩,
     ⟨some 49, .callS 27, [.tmp 48], none, 0, []⟩,
     ⟨some 47, .mov, [.tmp 49], none, 0, []⟩,
     ⟨some 50, .extract 0, [.tmp 47], none, 0, []⟩,
     ⟨some 51, .extract 1, [.tmp 47], none, 0, []⟩,
     ⟨some 7, .alloc 39 (.pair (.int .i64 0) (.pair (.nil 25 (.arr 32 (.int .u8))) (.pair (.nil 25 (.arr 32 (.int .u8))) (.pure .unit ())))), [], none, 0, []⟩,
     ⟨none, .store 3, [.tmp 7, .tmp 50], none, 0, []⟩,
     ⟨some 8, .mov, [.tmp 51], none, 0, []⟩]) (.seq (.region false 3 [
     ⟨some 52, .mov, [.tmp 6], none, 0, []⟩,
     ⟨some 53, .bin .neq, [.tmp 52, .cst (.int .i64 0)], none, 0, []⟩,
     ⟨some 54, .mov, [.tmp 53], none, 0, []⟩,
     ⟨some 55, .mov, [.tmp 5], some (54, false), 0, []⟩,
     ⟨some 56, .load true 3, [.tmp 2], some (54, false), 0, []⟩,
     ⟨some 57, .callS 29, [.tmp 56], some (54, false), 0, []⟩,
     ⟨some 58, .callS 28, [.tmp 55, .tmp 57], some (54, false), 0, []⟩,
     ⟨some 59, .not, [.tmp 58], some (54, false), 0, []⟩,
     ⟨some 60, .pick, [.tmp 54, .cst (.bool true), .tmp 59], none, 0, []⟩,
     ⟨some 61, .mov, [.tmp 60], none, 0, []⟩,
     ⟨some 62, .mov, [.tmp 8], some (61, false), 0, []⟩,
     ⟨some 63, .bin .neq, [.tmp 62, .cst (.int .i64 0)], some (61, false), 0, []⟩,
     ⟨some 64, .pick, [.tmp 61, .cst (.bool true), .tmp 63], none, 0, []⟩,
     ⟨some 65, .mov, [.tmp 64], none, 0, []⟩,
     ⟨some 66, .load true 3, [.tmp 7], some (65, false), 0, []⟩,
     ⟨some 67, .load true 3, [.tmp 2], some (65, false), 0, []⟩,
     ⟨some 68, .callS 21, [.tmp 66, .tmp 67], some (65, false), 0, []⟩,
     ⟨some 69, .not, [.tmp 68], some (65, false), 0, []⟩,
     ⟨some 70, .pick, [.tmp 65, .cst (.bool true), .tmp 69], none, 0, []⟩]) (.cond (.tmp 70) (.seq (.region false 0 [
      ⟨some 4, .mov, [.cst (.bool false)], none, 0, []⟩]) (.cut [4] (.ret))) (.skip)))))) (.cut ir8_v0 ir8_b0)))))) }
theorem ir8_tok {R : Type} {summ : Nat → Option Summ} {fu : Nat} {call : Nat → List CV → List Blk → (CV → List Blk → Option R) → Option R} {o0 : St → (Ex → St → Option R) → Option R} (h0 : ∀ T k r, o0 T k = some r → evCode summ fu call ir8_b0 T k = some r) : LTok summ fu call (ir8_t o0) ir8.body := ⟨trivial, ⟨trivial, ⟨trivial, ⟨trivial, ⟨trivial, h0⟩⟩⟩⟩⟩


def ir10 : IFn :=
  { ntmps := 71, results := [.inl 0], body := (.seq (.region false 0 [
    ⟨some 0, .mov, [.cst (.bool false)], none, 0, []⟩]) (.seq (.region false 5 [
    ⟨some 4, .buildSl 5 (.int .u8) 3, [.cst (.int .u8 97), .cst (.int .u8 98), .cst (.int .u8 99)], none, 0, []⟩,
    ⟨some 5, .mark, [.tmp 4], none, 0, []⟩,
    ⟨some 6, .callS 11, [.tmp 5], none, 0, []⟩,
    ⟨some 7, .callS 11, [.cst (.nil 5 (.int .u8))], none, 0, []⟩,
    ⟨some 1, .alloc 25 (.pure (.arr 32 (.int .u8)) (List.replicate 32 (Ty.dflt (.int .u8)))), [], none, 0, []⟩,
    ⟨some 2, .alloc 25 (.pure (.arr 32 (.int .u8)) (List.replicate 32 (Ty.dflt (.int .u8)))), [], none, 0, []⟩,
    ⟨none, .store 32, [.tmp 1, .tmp 6], none, 0, []⟩,
    ⟨none, .store 32, [.tmp 2, .tmp 7], none, 0, []⟩]) (.seq (.region false 1 [
    ⟨some 8, .mov, [.cst (.pure (.arr 32 (.int .u8)) (List.replicate 32 (Ty.dflt (.int .u8))))], none, 0, []⟩,
    ⟨some 9, .callS 13, [.tmp 8], none, 0, []⟩,
    ⟨some 3, .mov, [.tmp 9], none, 0, []⟩]) (.seq (.region false 0 [
    ⟨some 10, .idxArr 32 1, [.tmp 1, .cst (.int .i64 0)], none, 0, []⟩,
    ⟨some 11, .load false 1, [.tmp 10], none, 0, []⟩,
    ⟨some 12, .bin .eql, [.tmp 11, .cst (.int .u8 186)], none, 0, []⟩,
    ⟨some 13, .mov, [.tmp 12], none, 0, []⟩,
    ⟨some 14, .idxArr 32 1, [.tmp 1, .cst (.int .i64 1)], some (13, true), 0, []⟩,
    ⟨some 15, .load false 1, [.tmp 14], some (13, true), 0, []⟩,
    ⟨some 16, .bin .eql, [.tmp 15, .cst (.int .u8 120)], some (13, true), 0, []⟩,
    ⟨some 17, .pick, [.tmp 13, .tmp 16, .cst (.bool false)], none, 0, []⟩,
    ⟨some 18, .mov, [.tmp 17], none, 0, []⟩,
    ⟨some 19, .idxArr 32 1, [.tmp 1, .cst (.int .i64 2)], some (18, true), 0, []⟩,
    ⟨some 20, .load false 1, [.tmp 19], some (18, true), 0, []⟩,
    ⟨some 21, .bin .eql, [.tmp 20, .cst (.int .u8 22)], some (18, true), 0, []⟩,
    ⟨some 22, .pick, [.tmp 18, .tmp 21, .cst (.bool false)], none, 0, []⟩,
    ⟨some 23, .mov, [.tmp 22], none, 0, []⟩,
    ⟨some 24, .idxArr 32 1, [.tmp 1, .cst (.int .i64 3)], some (23, true), 0, []⟩,
    ⟨some 25, .load false 1, [.tmp 24], some (23, true), 0, []⟩,
    ⟨some 26, .bin .eql, [.tmp 25, .cst (.int .u8 191)], some (23, true), 0, []⟩,
    ⟨some 27, .pick, [.tmp 23, .tmp 26, .cst (.bool false)], none, 0, []⟩,
    ⟨some 28, .mov, [.tmp 27], none, 0, []⟩,
    ⟨some 29, .idxArr 32 1, [.tmp 2, .cst (.int .i64 0)], some (28, true), 0, []⟩,
    ⟨some 30, .load false 1, [.tmp 29], some (28, true), 0, []⟩,
    ⟨some 31, .bin .eql, [.tmp 30, .cst (.int .u8 227)], some (28, true), 0, []⟩,
    ⟨some 32, .pick, [.tmp 28, .tmp 31, .cst (.bool false)], none, 0, []⟩,
    ⟨some 33, .mov, [.tmp 32], none, 0, []⟩,
    ⟨some 34, .idxArr 32 1, [.tmp 2, .cst (.int .i64 1)], some (33, true), 0, []⟩,
    ⟨some 35, .load false 1, [.tmp 34], some (33, true), 0, []⟩,
    ⟨some 36, .bin .eql, [.tmp 35, .cst (.int .u8 176)], some (33, true), 0, []⟩,
    ⟨some 37, .pick, [.tmp 33, .tmp 36, .cst (.bool false)], none, 0, []⟩,
    ⟨some 38, .mov, [.tmp 37], none, 0, []⟩,
    ⟨some 39, .idxArr 32 1, [.tmp 2, .cst (.int .i64 2)], some (38, true), 0, []⟩,
    ⟨some 40, .load false 1, [.tmp 39], some (38, true), 0, []⟩,
    ⟨some 41, .bin .eql, [.tmp 40, .cst (.int .u8 196)], some (38, true), 0, []⟩,
    ⟨some 42, .pick, [.tmp 38, .tmp 41, .cst (.bool false)], none, 0, []⟩,
    ⟨some 43, .mov, [.tmp 42], none, 0, []⟩,
    ⟨some 44, .idxArr 32 1, [.tmp 2, .cst (.int .i64 3)], some (43, true), 0, []⟩,
    ⟨some 45, .load false 1, [.tmp 44], some (43, true), 0, []⟩,
    ⟨some 46, .bin .eql, [.tmp 45, .cst (.int .u8 66)], some (43, true), 0, []⟩,
    ⟨some 47, .pick, [.tmp 43, .tmp 46, .cst (.bool false)], none, 0, []⟩,
    ⟨some 48, .mov, [.tmp 47], none, 0, []⟩,
    ⟨some 49, .mov, [.tmp 3], some (48, true), 0, []⟩,
    ⟨some 50, .len, [.tmp 49], some (48, true), 0, []⟩,
    ⟨some 51, .bin .eql, [.tmp 50, .cst (.int .i64 67)], some (48, true), 0, []⟩,
    ⟨some 52, .pick, [.tmp 48, .tmp 51, .cst (.bool false)], none, 0, []⟩,
    ⟨some 53, .mov, [.tmp 52], none, 0, []⟩,
    ⟨some 54, .mov, [.tmp 3], some (53, true), 0, []⟩,
    ⟨some 55, .idxSl 1, [.tmp 54, .cst (.int .i64 64)], some (53, true), 0, []⟩,
    ⟨some 56, .load false 1, [.tmp 55], some (53, true), 0, []⟩,
    ⟨some 57, .bin .eql, [.tmp 56, .cst (.int .i64 3)], some (53, true), 0, []⟩,
    ⟨some 58, .pick, [.tmp 53, .tmp 57, .cst (.bool false)], none, 0, []⟩,
    ⟨some 59, .mov, [.tmp 58], none, 0, []⟩,
    ⟨some 60, .mov, [.tmp 3], some (59, true), 0, []⟩,
    ⟨some 61, .idxSl 1, [.tmp 60, .cst (.int .i64 65)], some (59, true), 0, []⟩,
    ⟨some 62, .load false 1, [.tmp 61], some (59, true), 0, []⟩,
    ⟨some 63, .bin .eql, [.tmp 62, .cst (.int .i64 12)], some (59, true), 0, []⟩,
    ⟨some 64, .pick, [.tmp 59, .tmp 63, .cst (.bool false)], none, 0, []⟩,
    ⟨some 65, .mov, [.tmp 64], none, 0, []⟩,
    ⟨some 66, .mov, [.tmp 3], some (65, true), 0, []⟩,
    ⟨some 67, .idxSl 1, [.tmp 66, .cst (.int .i64 66)], some (65, true), 0, []⟩,
    ⟨some 68, .load false 1, [.tmp 67], some (65, true), 0, []⟩,
    ⟨some 69, .bin .eql, [.tmp 68, .cst (.int .i64 0)], some (65, true), 0, []⟩,
    ⟨some 70, .pick, [.tmp 65, .tmp 69, .cst (.bool false)], none, 0, []⟩,
    ⟨some 0, .mov, [.tmp 70], none, 0, []⟩]) (.cut [0] (.ret)))))) }


def ir11_b0 : IC := (.seq (.seq (.region false 0 [
      ⟨some 17, .mov, [.tmp 5], none, 0, []⟩,
      ⟨some 18, .len, [.tmp 17], none, 0, []⟩,
      ⟨some 19, .bin .geq, [.tmp 18, .cst (.int .i64 64)], none, 0, []⟩]) (.cond (.tmp 19) (.skip) (.cut [0, 2, 3, 4, 5] (.exit 0)))) (.block 1 (.seq (.region false 0 [
       ⟨some 20, .mov, [.tmp 5], none, 0, []⟩,
       ⟨some 21, .slice 1 false true, [.tmp 20, .cst (.int .i64 64)], none, 0, []⟩,
       ⟨some 22, .call 33, [.tmp 3, .tmp 4, .tmp 21], none, 0, []⟩]) (.region false 0 [
       ⟨some 23, .mov, [.tmp 5], none, 0, []⟩,
       ⟨some 24, .slice 1 true false, [.tmp 23, .cst (.int .i64 64)], none, 0, []⟩,
       ⟨some 5, .mov, [.tmp 24], none, 0, []⟩]))))
def ir11_v0 : List Nat := [0, 2, 3, 4, 5]
def ir11_b2 : IC := (.seq (.seq (.region false 0 [
       ⟨some 50, .mov, [.tmp 10], none, 0, []⟩,
       ⟨some 51, .mov, [.tmp 8], none, 0, []⟩,
       ⟨some 52, .bin .lss, [.tmp 50, .tmp 51], none, 0, []⟩]) (.cond (.tmp 52) (.skip) (.cut [2, 3] (.exit 2)))) (.seq (.block 3 (.region false 0 [
        ⟨some 55, .mov, [.tmp 10], none, 0, []⟩,
        ⟨some 56, .mov, [.tmp 10], none, 0, []⟩,
        ⟨some 57, .bin .add, [.tmp 56, .cst (.int .i64 64)], none, 0, []⟩,
        ⟨some 58, .sliceArr 128 (.int .u8) true true, [.tmp 6, .tmp 55, .tmp 57], none, 0, []⟩,
        ⟨some 59, .call 33, [.tmp 3, .tmp 4, .tmp 58], none, 0, []⟩])) (.region false 0 [
       ⟨some 53, .mov, [.tmp 10], none, 0, []⟩,
       ⟨some 54, .bin .add, [.tmp 53, .cst (.int .i64 64)], none, 0, []⟩,
       ⟨some 10, .mov, [.tmp 54], none, 0, []⟩])))
def ir11_v2 : List Nat := [2, 3, 4, 6, 8, 10]
def ir11_b3 : IC := (.seq (.region false 0 [
       ⟨some 62, .bin .lss, [.tmp 61, .cst (.int .i64 8)], none, 0, []⟩]) (.seq (.cond (.tmp 62) (.skip) (.cut [2, 11] (.exit 4))) (.seq (.block 5 (.seq (.region false 0 [
        ⟨some 63, .mov, [.tmp 61], none, 0, []⟩,
        ⟨some 64, .index 8 (.int .u32), [.tmp 60, .tmp 61], none, 0, []⟩,
        ⟨some 12, .mov, [.tmp 63], none, 0, []⟩,
        ⟨some 13, .mov, [.tmp 64], none, 0, []⟩]) (.region false 0 [
        ⟨some 65, .mov, [.tmp 12], none, 0, []⟩,
        ⟨some 66, .bin .mul, [.cst (.int .i64 4), .tmp 65], none, 0, []⟩,
        ⟨some 67, .sliceArr 32 (.int .u8) true false, [.tmp 11, .tmp 66], none, 0, []⟩,
        ⟨some 68, .mov, [.tmp 13], none, 0, []⟩,
        ⟨some 69, .call 34, [.tmp 67, .tmp 68], none, 0, []⟩]))) (.region false 0 [
       ⟨some 70, .bin .add, [.tmp 61, .cst (.int .i64 1)], none, 0, []⟩,
       ⟨some 61, .mov, [.tmp 70], none, 0, []⟩]))))
def ir11_v3 : List Nat := [2, 11, 60, 61]
def ir11_b1 : IC := (.seq (.region false 0 [
     ⟨some 33, .mov, [.tmp 0], none, 0, []⟩,
     ⟨some 34, .len, [.tmp 33], none, 0, []⟩,
     ⟨some 35, .conv .u64, [.tmp 34], none, 0, []⟩,
     ⟨some 36, .bin .mul, [.tmp 35, .cst (.int .u64 8)], none, 0, []⟩,
     ⟨some 9, .mov, [.tmp 36], none, 0, []⟩]) (.seq (.region false 0 [
     ⟨some 37, .mov, [.tmp 8], none, 0, []⟩,
     ⟨some 38, .bin .sub, [.tmp 37, .cst (.int .i64 8)], none, 0, []⟩,
     ⟨some 39, .sliceArr 128 (.int .u8) true false, [.tmp 6, .tmp 38], none, 0, []⟩,
     ⟨some 40, .mov, [.tmp 9], none, 0, []⟩,
     ⟨some 41, .bin .shr, [.tmp 40, .cst (.int .u64 32)], none, 0, []⟩,
     ⟨some 42, .conv .u32, [.tmp 41], none, 0, []⟩,
     ⟨some 43, .call 34, [.tmp 39, .tmp 42], none, 0, []⟩]) (.seq (.region false 0 [
     ⟨some 44, .mov, [.tmp 8], none, 0, []⟩,
     ⟨some 45, .bin .sub, [.tmp 44, .cst (.int .i64 4)], none, 0, []⟩,
     ⟨some 46, .sliceArr 128 (.int .u8) true false, [.tmp 6, .tmp 45], none, 0, []⟩,
     ⟨some 47, .mov, [.tmp 9], none, 0, []⟩,
     ⟨some 48, .conv .u32, [.tmp 47], none, 0, []⟩,
     ⟨some 49, .call 34, [.tmp 46, .tmp 48], none, 0, []⟩]) (.seq (.seq (.region false 0 [
     ⟨some 10, .mov, [.cst (.int .i64 0)], none, 0, []⟩]) (.block 2 (.loop ir11_v2 ir11_b2))) (.seq (.region false 1 [
     ⟨some 11, .alloc 25 (.pure (.arr 32 (.int .u8)) (List.replicate 32 (Ty.dflt (.int .u8)))), [], none, 0, []⟩]) (.seq (.seq (.region false 0 [
     ⟨some 60, .load true 8, [.tmp 3], none, 0, []⟩,
     ⟨some 61, .mov, [.cst (.int .i64 0)], none, 0, []⟩]) (.block 4 (.loop ir11_v3 ir11_b3))) (.seq (.region false 0 [
     ⟨some 71, .load true 32, [.tmp 11], none, 0, []⟩,
     ⟨none, .store 32, [.tmp 2, .tmp 71], none, 0, []⟩]) (.cut [2] (.ret)))))))))
def ir11_v1 : List Nat := [0, 2, 3, 4, 6, 8]
def ir11_bt1 {R : Type} (o2 o3 : St → (Ex → St → Option R) → Option R) : LT R := (.node .nil (.node .nil (.node .nil (.node (.node .nil (.node (.orc o2) .nil)) (.node .nil (.node (.node .nil (.node (.orc o3) .nil)) .nil))))))
def ir11_t {R : Type} (o0 o1 : St → (Ex → St → Option R) → Option R) : LT R := (.node .nil (.node .nil (.node .nil (.node .nil (.node (.node (.orc o0) .nil) (.node .nil (.node .nil (.node .nil (.node .nil (.node .nil (.orc o1)))))))))))
def ir11 : IFn :=
  { ntmps := 72, results := [.inr (2, true, 32)], body := (.seq (.region false 1 [
    ⟨some 2, .alloc 25 (.pure (.arr 32 (.int .u8)) (List.replicate 32 (Ty.dflt (.int .u8)))), [], none, 0, []⟩]) (.seq (.region false 1 [
    ⟨some 14, .buildArr 8 (.int .u32), [.cst (.int .u32 1779033703), .cst (.int .u32 3144134277), .cst (.int .u32 1013904242), .cst (.int .u32 2773480762), .cst (.int .u32 1359893119), .cst (.int .u32 2600822924), .cst (.int .u32 528734635), .cst (.int .u32 1541459225)], none, 0, []⟩,
    ⟨some 3, .alloc 60 (.pure (.arr 8 (.int .u32)) (List.replicate 8 (Ty.dflt (.int .u32)))), [], none, 0, []⟩,
    ⟨none, .store 8, [.tmp 3, .tmp 14], none, 0, []⟩]) (.seq (.region false 2 [
    ⟨some 15, .callS 32, [], none, 0, []⟩,
    ⟨some 4, .alloc 61 (.pure (.arr 64 (.int .u32)) (List.replicate 64 (Ty.dflt (.int .u32)))), [], none, 0, []⟩,
    ⟨none, .store 64, [.tmp 4, .tmp 15], none, 0, []⟩]) (.seq (.region false 0 [
    ⟨some 16, .mov, [.tmp 0], none, 0, []⟩,
    ⟨some 5, .mov, [.tmp 16], none, 0, []⟩]) (.seq (.block 0 (.loop ir11_v0 ir11_b0)) (.seq (.region false 1 [
    ⟨some 6, .alloc 66 (.pure (.arr 128 (.int .u8)) (List.replicate 128 (Ty.dflt (.int .u8)))), [], none, 0, []⟩]) (.seq (.region false 0 [
    ⟨some 25, .sliceArr 128 (.int .u8) false false, [.tmp 6], none, 0, []⟩,
    ⟨some 26, .mov, [.tmp 5], none, 0, []⟩,
    ⟨some 27, .copy (.int .u8), [.tmp 25, .tmp 26], none, 0, []⟩,
    ⟨some 7, .mov, [.tmp 27], none, 0, []⟩]) (.seq (.region false 0 [
    ⟨some 28, .mov, [.tmp 7], none, 0, []⟩,
    ⟨some 29, .idxArr 128 1, [.tmp 6, .tmp 28], none, 0, []⟩,
    ⟨none, .store 1, [.tmp 29, .cst (.int .u8 128)], none, 0, []⟩]) (.seq (.region false 0 [
    ⟨some 8, .mov, [.cst (.int .i64 64)], none, 0, []⟩]) (.seq (.seq (.region false 0 [
    ⟨some 30, .mov, [.tmp 7], none, 0, []⟩,
    ⟨some 31, .bin .add, [.tmp 30, .cst (.int .i64 9)], none, 0, []⟩,
    ⟨some 32, .bin .gtr, [.tmp 31, .cst (.int .i64 64)], none, 0, []⟩]) (.cond (.tmp 32) (.region false 0 [
     ⟨some 8, .mov, [.cst (.int .i64 128)], none, 0, []⟩]) (.skip))) (.cut ir11_v1 ir11_b1))))))))))) }
theorem ir11_bt1ok {R : Type} {summ : Nat → Option Summ} {fu : Nat} {call : Nat → List CV → List Blk → (CV → List Blk → Option R) → Option R} {o2 o3 : St → (Ex → St → Option R) → Option R} (h2 : ∀ T k r, o2 T k = some r → evLoopN (evCode summ fu call ir11_b2) (St.norm ir11_v2) fu T k = some r) (h3 : ∀ T k r, o3 T k = some r → evLoopN (evCode summ fu call ir11_b3) (St.norm ir11_v3) fu T k = some r) : LTok summ fu call (ir11_bt1 o2 o3) ir11_b1 := ⟨trivial, ⟨trivial, ⟨trivial, ⟨⟨trivial, h2⟩, ⟨trivial, ⟨⟨trivial, h3⟩, trivial⟩⟩⟩⟩⟩⟩
theorem ir11_tok {R : Type} {summ : Nat → Option Summ} {fu : Nat} {call : Nat → List CV → List Blk → (CV → List Blk → Option R) → Option R} {o0 o1 : St → (Ex → St → Option R) → Option R} (h0 : ∀ T k r, o0 T k = some r → evLoopN (evCode summ fu call ir11_b0) (St.norm ir11_v0) fu T k = some r) (h1 : ∀ T k r, o1 T k = some r → evCode summ fu call ir11_b1 T k = some r) : LTok summ fu call (ir11_t o0 o1) ir11.body := ⟨trivial, ⟨trivial, ⟨trivial, ⟨trivial, ⟨h0, ⟨trivial, ⟨trivial, ⟨trivial, ⟨trivial, ⟨trivial, h1⟩⟩⟩⟩⟩⟩⟩⟩⟩⟩


def ir12_b0 : IC := (.seq (.seq (.region false 0 [
      ⟨some 11, .mov, [.tmp 5], none, 0, []⟩,
      ⟨some 12, .mov, [.tmp 4], none, 0, []⟩,
      ⟨some 13, .len, [.tmp 12], none, 0, []⟩,
      ⟨some 14, .bin .lss, [.tmp 11, .tmp 13], none, 0, []⟩]) (.cond (.tmp 14) (.skip) (.cut [2, 3] (.exit 0)))) (.seq (.block 1 (.region true 1 [
       ⟨some 17, .load true 8, [.tmp 3], none, 0, []⟩,
       ⟨some 18, .mov, [.tmp 4], none, 0, []⟩,
       ⟨some 19, .mov, [.tmp 5], none, 0, []⟩,
       ⟨some 20, .mov, [.tmp 5], none, 0, []⟩,
       ⟨some 21, .bin .add, [.tmp 20, .cst (.int .i64 64)], none, 0, [3]⟩,
       ⟨some 22, .slice 1 true true, [.tmp 18, .tmp 19, .tmp 21], none, 0, [1, 2, 4, 3]⟩,
       ⟨some 23, .callS 36, [.tmp 17, .tmp 22], none, 0, [0, 5, 1, 2, 4, 3]⟩,
       ⟨none, .store 8, [.tmp 3, .tmp 23], none, 1, [6, 0, 5, 1, 2, 4, 3]⟩])) (.region false 0 [
      ⟨some 15, .mov, [.tmp 5], none, 0, []⟩,
      ⟨some 16, .bin .add, [.tmp 15, .cst (.int .i64 64)], none, 0, []⟩,
      ⟨some 5, .mov, [.tmp 16], none, 0, []⟩])))
def ir12_v0 : List Nat := [2, 3, 4, 5]
def ir12_b1 : IC := (.seq (.seq (.region false 0 [
      ⟨some 24, .mov, [.tmp 7], none, 0, []⟩,
      ⟨some 25, .bin .lss, [.tmp 24, .cst (.int .i64 32)], none, 0, []⟩]) (.cond (.tmp 25) (.skip) (.cut [2, 6] (.exit 2)))) (.seq (.block 3 (.region false 0 [
       ⟨some 28, .mov, [.tmp 7], none, 0, []⟩,
       ⟨some 29, .mov, [.tmp 7], none, 0, []⟩,
       ⟨some 30, .bin .quo, [.tmp 29, .cst (.int .i64 4)], none, 0, []⟩,
       ⟨some 31, .idxArr 8 1, [.tmp 3, .tmp 30], none, 0, []⟩,
       ⟨some 32, .load false 1, [.tmp 31], none, 0, []⟩,
       ⟨some 33, .mov, [.tmp 7], none, 0, []⟩,
       ⟨some 34, .bin .rem, [.tmp 33, .cst (.int .i64 4)], none, 0, []⟩,
       ⟨some 35, .bin .mul, [.tmp 34, .cst (.int .i64 8)], none, 0, []⟩,
       ⟨some 36, .bin .sub, [.cst (.int .i64 24), .tmp 35], none, 0, []⟩,
       ⟨some 37, .conv .u64, [.tmp 36], none, 0, []⟩,
       ⟨some 38, .bin .shr, [.tmp 32, .tmp 37], none, 0, []⟩,
       ⟨some 39, .conv .u8, [.tmp 38], none, 0, []⟩,
       ⟨some 40, .idxArr 32 1, [.tmp 6, .tmp 28], none, 0, []⟩,
       ⟨none, .store 1, [.tmp 40, .tmp 39], none, 0, []⟩])) (.region false 0 [
      ⟨some 26, .mov, [.tmp 7], none, 0, []⟩,
      ⟨some 27, .bin .add, [.tmp 26, .cst (.int .i64 1)], none, 0, []⟩,
      ⟨some 7, .mov, [.tmp 27], none, 0, []⟩])))
def ir12_v1 : List Nat := [2, 3, 6, 7]
def ir12_t {R : Type} (o0 o1 : St → (Ex → St → Option R) → Option R) : LT R := (.node .nil (.node .nil (.node .nil (.node (.node .nil (.node (.orc o0) .nil)) (.node .nil (.node (.node .nil (.node (.orc o1) .nil)) .nil))))))
def ir12 : IFn :=
  { ntmps := 42, results := [.inr (2, true, 32)], body := (.seq (.region false 1 [
    ⟨some 2, .alloc 25 (.pure (.arr 32 (.int .u8)) (List.replicate 32 (Ty.dflt (.int .u8)))), [], none, 0, []⟩]) (.seq (.region false 1 [
    ⟨some 8, .buildArr 8 (.int .u32), [.cst (.int .u32 1779033703), .cst (.int .u32 3144134277), .cst (.int .u32 1013904242), .cst (.int .u32 2773480762), .cst (.int .u32 1359893119), .cst (.int .u32 2600822924), .cst (.int .u32 528734635), .cst (.int .u32 1541459225)], none, 0, []⟩,
    ⟨some 3, .alloc 60 (.pure (.arr 8 (.int .u32)) (List.replicate 8 (Ty.dflt (.int .u32)))), [], none, 0, []⟩,
    ⟨none, .store 8, [.tmp 3, .tmp 8], none, 0, []⟩]) (.seq (.region false 1 [
    ⟨some 9, .mov, [.tmp 0], none, 0, []⟩,
    ⟨some 10, .callS 35, [.tmp 9], none, 0, []⟩,
    ⟨some 4, .mov, [.tmp 10], none, 0, []⟩]) (.seq (.seq (.region false 0 [
    ⟨some 5, .mov, [.cst (.int .i64 0)], none, 0, []⟩]) (.block 0 (.loop ir12_v0 ir12_b0))) (.seq (.region false 1 [
    ⟨some 6, .alloc 25 (.pure (.arr 32 (.int .u8)) (List.replicate 32 (Ty.dflt (.int .u8)))), [], none, 0, []⟩]) (.seq (.seq (.region false 0 [
    ⟨some 7, .mov, [.cst (.int .i64 0)], none, 0, []⟩]) (.block 2 (.loop ir12_v1 ir12_b1))) (.seq (.region false 0 [
    ⟨some 41, .load true 32, [.tmp 6], none, 0, []⟩,
    ⟨none, .store 32, [.tmp 2, .tmp 41], none, 0, []⟩]) (.cut [2] (.ret))))))))) }
theorem ir12_tok {R : Type} {summ : Nat → Option Summ} {fu : Nat} {call : Nat → List CV → List Blk → (CV → List Blk → Option R) → Option R} {o0 o1 : St → (Ex → St → Option R) → Option R} (h0 : ∀ T k r, o0 T k = some r → evLoopN (evCode summ fu call ir12_b0) (St.norm ir12_v0) fu T k = some r) (h1 : ∀ T k r, o1 T k = some r → evLoopN (evCode summ fu call ir12_b1) (St.norm ir12_v1) fu T k = some r) : LTok summ fu call (ir12_t o0 o1) ir12.body := ⟨trivial, ⟨trivial, ⟨trivial, ⟨⟨trivial, h0⟩, ⟨trivial, ⟨⟨trivial, h1⟩, trivial⟩⟩⟩⟩⟩⟩


def ir13_b1 : IC := (.seq (.region false 0 [
         ⟨some 21, .bin .lss, [.tmp 20, .cst (.int .i64 2)], none, 0, []⟩]) (.seq (.cond (.tmp 21) (.skip) (.cut [3, 4, 9, 10] (.exit 2))) (.seq (.block 3 (.seq (.region false 0 [
          ⟨some 22, .index 2 (.int .i64), [.tmp 19, .tmp 20], none, 0, []⟩,
          ⟨some 8, .mov, [.tmp 22], none, 0, []⟩]) (.seq (.region false 2 [
          ⟨some 23, .mov, [.tmp 3], none, 0, []⟩,
          ⟨some 24, .mov, [.tmp 8], none, 0, []⟩,
          ⟨some 25, .buildSl 3 (.int .i64) 1, [.tmp 24], none, 0, []⟩,
          ⟨some 26, .append 3 (.int .i64) 8, [.tmp 23, .tmp 25], none, 0, []⟩,
          ⟨some 3, .mov, [.tmp 26], none, 0, []⟩]) (.region false 0 [
          ⟨some 27, .mov, [.tmp 4], none, 0, []⟩,
          ⟨some 28, .mov, [.tmp 8], none, 0, []⟩,
          ⟨some 29, .bin .sub, [.cst (.int .i64 15), .tmp 28], none, 0, []⟩,
          ⟨some 30, .bin .add, [.tmp 27, .tmp 29], none, 0, []⟩,
          ⟨some 4, .mov, [.tmp 30], none, 0, []⟩])))) (.region false 0 [
         ⟨some 31, .bin .add, [.tmp 20, .cst (.int .i64 1)], none, 0, []⟩,
         ⟨some 20, .mov, [.tmp 31], none, 0, []⟩]))))
def ir13_v1 : List Nat := [3, 4, 9, 10, 19, 20]
def ir13_b0 : IC := (.seq (.region false 0 [
      ⟨some 11, .bin .lss, [.tmp 10, .cst (.int .i64 32)], none, 0, []⟩]) (.seq (.cond (.tmp 11) (.skip) (.cut [3, 4] (.exit 0))) (.seq (.block 1 (.seq (.region false 0 [
       ⟨some 12, .index 32 (.int .u8), [.tmp 9, .tmp 10], none, 0, []⟩,
       ⟨some 6, .mov, [.tmp 12], none, 0, []⟩]) (.seq (.region false 0 [
       ⟨some 13, .mov, [.tmp 6], none, 0, []⟩,
       ⟨some 14, .bin .shr, [.tmp 13, .cst (.int .u64 4)], none, 0, []⟩,
       ⟨some 15, .conv .i64, [.tmp 14], none, 0, []⟩,
       ⟨some 16, .mov, [.tmp 6], none, 0, []⟩,
       ⟨some 17, .bin .and, [.tmp 16, .cst (.int .u8 15)], none, 0, []⟩,
       ⟨some 18, .conv .i64, [.tmp 17], none, 0, []⟩,
       ⟨some 19, .buildArr 2 (.int .i64), [.tmp 15, .tmp 18], none, 0, []⟩,
       ⟨some 20, .mov, [.cst (.int .i64 0)], none, 0, []⟩]) (.block 2 (.loop ir13_v1 ir13_b1))))) (.region false 0 [
      ⟨some 32, .bin .add, [.tmp 10, .cst (.int .i64 1)], none, 0, []⟩,
      ⟨some 10, .mov, [.tmp 32], none, 0, []⟩]))))
def ir13_v0 : List Nat := [3, 4, 9, 10]
def ir13_bt0 {R : Type} (o1 : St → (Ex → St → Option R) → Option R) : LT R := (.node .nil (.node .nil (.node (.node (.node .nil (.node .nil (.node (.orc o1) .nil))) .nil) .nil)))
def ir13_t {R : Type} (o0 : St → (Ex → St → Option R) → Option R) : LT R := (.node .nil (.node .nil (.node .nil (.node (.node .nil (.node (.orc o0) .nil)) .nil))))
def ir13 : IFn :=
  { ntmps := 43, results := [.inl 2], body := (.seq (.region false 1 [
    ⟨some 1, .box 25, [.tmp 0], none, 0, []⟩,
    ⟨some 2, .mov, [.cst (.nil 3 (.int .i64))], none, 0, []⟩]) (.seq (.region false 0 [
    ⟨some 3, .mov, [.cst (.nil 3 (.int .i64))], none, 0, []⟩]) (.seq (.region false 0 [
    ⟨some 4, .mov, [.cst (.int .i64 0)], none, 0, []⟩]) (.seq (.seq (.region false 0 [
    ⟨some 9, .load true 32, [.tmp 1], none, 0, []⟩,
    ⟨some 10, .mov, [.cst (.int .i64 0)], none, 0, []⟩]) (.block 0 (.loop ir13_v0 ir13_b0))) (.seq (.region false 2 [
    ⟨some 33, .mov, [.tmp 3], none, 0, []⟩,
    ⟨some 34, .mov, [.tmp 4], none, 0, []⟩,
    ⟨some 35, .bin .shr, [.tmp 34, .cst (.int .u64 8)], none, 0, []⟩,
    ⟨some 36, .mov, [.tmp 4], none, 0, []⟩,
    ⟨some 37, .bin .shr, [.tmp 36, .cst (.int .u64 4)], none, 0, []⟩,
    ⟨some 38, .bin .and, [.tmp 37, .cst (.int .i64 15)], none, 0, []⟩,
    ⟨some 39, .mov, [.tmp 4], none, 0, []⟩,
    ⟨some 40, .bin .and, [.tmp 39, .cst (.int .i64 15)], none, 0, []⟩,
    ⟨some 41, .buildSl 3 (.int .i64) 3, [.tmp 35, .tmp 38, .tmp 40], none, 0, []⟩,
    ⟨some 42, .append 3 (.int .i64) 8, [.tmp 33, .tmp 41], none, 0, []⟩,
    ⟨some 2, .mov, [.tmp 42], none, 0, []⟩]) (.cut [2] (.ret))))))) }
theorem ir13_bt0ok {R : Type} {summ : Nat → Option Summ} {fu : Nat} {call : Nat → List CV → List Blk → (CV → List Blk → Option R) → Option R} {o1 : St → (Ex → St → Option R) → Option R} (h1 : ∀ T k r, o1 T k = some r → evLoopN (evCode summ fu call ir13_b1) (St.norm ir13_v1) fu T k = some r) : LTok summ fu call (ir13_bt0 o1) ir13_b0 := ⟨trivial, ⟨trivial, ⟨⟨trivial, ⟨trivial, h1⟩⟩, trivial⟩⟩⟩
theorem ir13_tok {R : Type} {summ : Nat → Option Summ} {fu : Nat} {call : Nat → List CV → List Blk → (CV → List Blk → Option R) → Option R} {o0 : St → (Ex → St → Option R) → Option R} (h0 : ∀ T k r, o0 T k = some r → evLoopN (evCode summ fu call ir13_b0) (St.norm ir13_v0) fu T k = some r) : LTok summ fu call (ir13_t o0) ir13.body := ⟨trivial, ⟨trivial, ⟨trivial, ⟨⟨trivial, h0⟩, trivial⟩⟩⟩⟩


def ir14_b0 : IC := (.seq (.region false 0 [
      ⟨some 14, .bin .lss, [.tmp 13, .tmp 12], none, 0, []⟩]) (.seq (.cond (.tmp 14) (.skip) (.cut [] (.exit 0))) (.seq (.block 1 (.seq (.region false 0 [
       ⟨some 15, .mov, [.tmp 13], none, 0, []⟩,
       ⟨some 5, .mov, [.tmp 15], none, 0, []⟩]) (.seq (.region true 0 [
       ⟨some 16, .mov, [.tmp 0], none, 0, []⟩,
       ⟨some 17, .mov, [.tmp 5], none, 0, []⟩,
       ⟨some 18, .idxSl 1, [.tmp 16, .tmp 17], none, 0, [0, 1]⟩,
       ⟨some 19, .load false 1, [.tmp 18], none, 0, [2, 0, 1]⟩,
       ⟨some 20, .mov, [.tmp 1], none, 0, []⟩,
       ⟨some 21, .mov, [.tmp 5], none, 0, []⟩,
       ⟨some 22, .idxSl 1, [.tmp 20, .tmp 21], none, 0, [4, 5]⟩,
       ⟨some 23, .load false 1, [.tmp 22], none, 0, [6, 4, 5]⟩,
       ⟨some 24, .bin .neq, [.tmp 19, .tmp 23], none, 0, [3, 2, 0, 1, 7, 6, 4, 5]⟩]) (.cond (.tmp 24) (.seq (.region false 0 [
        ⟨some 4, .mov, [.cst (.bool false)], none, 0, []⟩]) (.cut [4] (.ret))) (.skip))))) (.region false 0 [
      ⟨some 25, .bin .add, [.tmp 13, .cst (.int .i64 1)], none, 0, []⟩,
      ⟨some 13, .mov, [.tmp 25], none, 0, []⟩]))))
def ir14_v0 : List Nat := [0, 1, 12, 13]
def ir14_t {R : Type} (o0 : St → (Ex → St → Option R) → Option R) : LT R := (.node .nil (.node .nil (.node (.node .nil (.node (.orc o0) .nil)) .nil)))
def ir14 : IFn :=
  { ntmps := 26, results := [.inl 4], body := (.seq (.region false 0 [
    ⟨some 4, .mov, [.cst (.bool false)], none, 0, []⟩]) (.seq (.seq (.region false 0 [
    ⟨some 6, .mov, [.tmp 0], none, 0, []⟩,
    ⟨some 7, .len, [.tmp 6], none, 0, []⟩,
    ⟨some 8, .mov, [.tmp 1], none, 0, []⟩,
    ⟨some 9, .len, [.tmp 8], none, 0, []⟩,
    ⟨some 10, .bin .neq, [.tmp 7, .tmp 9], none, 0, []⟩]) (.cond (.tmp 10) (.seq (.region false 0 [
     ⟨some 4, .mov, [.cst (.bool false)], none, 0, []⟩]) (.cut [4] (.ret))) (.skip))) (.seq (.seq (.region false 0 [
    ⟨some 11, .mov, [.tmp 0], none, 0, []⟩,
    ⟨some 12, .len, [.tmp 11], none, 0, []⟩,
    ⟨some 13, .mov, [.cst (.int .i64 0)], none, 0, []⟩]) (.block 0 (.loop ir14_v0 ir14_b0))) (.seq (.region false 0 [
    ⟨some 4, .mov, [.cst (.bool true)], none, 0, []⟩]) (.cut [4] (.ret)))))) }
theorem ir14_tok {R : Type} {summ : Nat → Option Summ} {fu : Nat} {call : Nat → List CV → List Blk → (CV → List Blk → Option R) → Option R} {o0 : St → (Ex → St → Option R) → Option R} (h0 : ∀ T k r, o0 T k = some r → evLoopN (evCode summ fu call ir14_b0) (St.norm ir14_v0) fu T k = some r) : LTok summ fu call (ir14_t o0) ir14.body := ⟨trivial, ⟨trivial, ⟨⟨trivial, h0⟩, trivial⟩⟩⟩


def ir15_b0 : IC := (.seq (.seq (.region false 0 [
      ⟨some 7, .mov, [.tmp 5], none, 0, []⟩,
      ⟨some 8, .bin .lss, [.tmp 7, .cst (.int .i64 64)], none, 0, []⟩]) (.cond (.tmp 8) (.skip) (.cut [3, 4] (.exit 0)))) (.seq (.block 1 (.seq (.region false 0 [
       ⟨some 11, .mov, [.tmp 5], none, 0, []⟩,
       ⟨some 12, .bin .quo, [.tmp 11, .cst (.int .i64 2)], none, 0, []⟩,
       ⟨some 13, .idxArr 32 1, [.tmp 1, .tmp 12], none, 0, []⟩,
       ⟨some 14, .load false 1, [.tmp 13], none, 0, []⟩,
       ⟨some 15, .bin .shr, [.tmp 14, .cst (.int .u64 4)], none, 0, []⟩,
       ⟨some 16, .conv .i64, [.tmp 15], none, 0, []⟩,
       ⟨some 6, .mov, [.tmp 16], none, 0, []⟩]) (.seq (.seq (.region false 0 [
       ⟨some 17, .mov, [.tmp 5], none, 0, []⟩,
       ⟨some 18, .bin .rem, [.tmp 17, .cst (.int .i64 2)], none, 0, []⟩,
       ⟨some 19, .bin .eql, [.tmp 18, .cst (.int .i64 1)], none, 0, []⟩]) (.cond (.tmp 19) (.region false 0 [
        ⟨some 20, .mov, [.tmp 5], none, 0, []⟩,
        ⟨some 21, .bin .quo, [.tmp 20, .cst (.int .i64 2)], none, 0, []⟩,
        ⟨some 22, .idxArr 32 1, [.tmp 1, .tmp 21], none, 0, []⟩,
        ⟨some 23, .load false 1, [.tmp 22], none, 0, []⟩,
        ⟨some 24, .bin .and, [.tmp 23, .cst (.int .u8 15)], none, 0, []⟩,
        ⟨some 25, .conv .i64, [.tmp 24], none, 0, []⟩,
        ⟨some 6, .mov, [.tmp 25], none, 0, []⟩]) (.skip))) (.seq (.region false 2 [
       ⟨some 26, .mov, [.tmp 3], none, 0, []⟩,
       ⟨some 27, .mov, [.tmp 6], none, 0, []⟩,
       ⟨some 28, .buildSl 3 (.int .i64) 1, [.tmp 27], none, 0, []⟩,
       ⟨some 29, .append 3 (.int .i64) 8, [.tmp 26, .tmp 28], none, 0, []⟩,
       ⟨some 3, .mov, [.tmp 29], none, 0, []⟩]) (.region false 0 [
       ⟨some 30, .mov, [.tmp 4], none, 0, []⟩,
       ⟨some 31, .bin .add, [.tmp 30, .cst (.int .i64 15)], none, 0, []⟩,
       ⟨some 32, .mov, [.tmp 6], none, 0, []⟩,
       ⟨some 33, .bin .sub, [.tmp 31, .tmp 32], none, 0, []⟩,
       ⟨some 4, .mov, [.tmp 33], none, 0, []⟩]))))) (.region false 0 [
      ⟨some 9, .mov, [.tmp 5], none, 0, []⟩,
      ⟨some 10, .bin .add, [.tmp 9, .cst (.int .i64 1)], none, 0, []⟩,
      ⟨some 5, .mov, [.tmp 10], none, 0, []⟩])))
def ir15_v0 : List Nat := [1, 3, 4, 5]
def ir15_t {R : Type} (o0 : St → (Ex → St → Option R) → Option R) : LT R := (.node .nil (.node .nil (.node .nil (.node (.node .nil (.node (.orc o0) .nil)) .nil))))
def ir15 : IFn :=
  { ntmps := 44, results := [.inl 2], body := (.seq (.region false 1 [
    ⟨some 1, .box 25, [.tmp 0], none, 0, []⟩,
    ⟨some 2, .mov, [.cst (.nil 3 (.int .i64))], none, 0, []⟩]) (.seq (.region false 0 [
    ⟨some 3, .mov, [.cst (.nil 3 (.int .i64))], none, 0, []⟩]) (.seq (.region false 0 [
    ⟨some 4, .mov, [.cst (.int .i64 0)], none, 0, []⟩]) (.seq (.seq (.region false 0 [
    ⟨some 5, .mov, [.cst (.int .i64 0)], none, 0, []⟩]) (.block 0 (.loop ir15_v0 ir15_b0))) (.seq (.region false 2 [
    ⟨some 34, .mov, [.tmp 3], none, 0, []⟩,
    ⟨some 35, .mov, [.tmp 4], none, 0, []⟩,
    ⟨some 36, .bin .quo, [.tmp 35, .cst (.int .i64 256)], none, 0, []⟩,
    ⟨some 37, .mov, [.tmp 4], none, 0, []⟩,
    ⟨some 38, .bin .quo, [.tmp 37, .cst (.int .i64 16)], none, 0, []⟩,
    ⟨some 39, .bin .rem, [.tmp 38, .cst (.int .i64 16)], none, 0, []⟩,
    ⟨some 40, .mov, [.tmp 4], none, 0, []⟩,
    ⟨some 41, .bin .rem, [.tmp 40, .cst (.int .i64 16)], none, 0, []⟩,
    ⟨some 42, .buildSl 3 (.int .i64) 3, [.tmp 36, .tmp 39, .tmp 41], none, 0, []⟩,
    ⟨some 43, .append 3 (.int .i64) 8, [.tmp 34, .tmp 42], none, 0, []⟩,
    ⟨some 2, .mov, [.tmp 43], none, 0, []⟩]) (.cut [2] (.ret))))))) }
theorem ir15_tok {R : Type} {summ : Nat → Option Summ} {fu : Nat} {call : Nat → List CV → List Blk → (CV → List Blk → Option R) → Option R} {o0 : St → (Ex → St → Option R) → Option R} (h0 : ∀ T k r, o0 T k = some r → evLoopN (evCode summ fu call ir15_b0) (St.norm ir15_v0) fu T k = some r) : LTok summ fu call (ir15_t o0) ir15.body := ⟨trivial, ⟨trivial, ⟨trivial, ⟨⟨trivial, h0⟩, trivial⟩⟩⟩⟩


def ir16 : IFn :=
  { ntmps := 24, results := [.inr (6, true, 32), .inl 7], body := (.seq (.region false 2 [
    ⟨some 3, .box 25, [.tmp 0], none, 0, []⟩,
    ⟨some 6, .alloc 25 (.pure (.arr 32 (.int .u8)) (List.replicate 32 (Ty.dflt (.int .u8)))), [], none, 0, []⟩,
    ⟨some 7, .mov, [.cst (.int .i64 0)], none, 0, []⟩]) (.seq (.seq (.region false 0 [
    ⟨some 8, .mov, [.tmp 1], none, 0, []⟩,
    ⟨some 9, .bin .lss, [.tmp 8, .cst (.int .i64 0)], none, 0, []⟩,
    ⟨some 10, .mov, [.tmp 9], none, 0, []⟩,
    ⟨some 11, .mov, [.tmp 1], some (10, false), 0, []⟩,
    ⟨some 12, .mov, [.tmp 2], some (10, false), 0, []⟩,
    ⟨some 13, .bin .gtr, [.tmp 11, .tmp 12], some (10, false), 0, []⟩,
    ⟨some 14, .pick, [.tmp 10, .cst (.bool true), .tmp 13], none, 0, []⟩,
    ⟨some 15, .mov, [.tmp 14], none, 0, []⟩,
    ⟨some 16, .mov, [.tmp 2], some (15, false), 0, []⟩,
    ⟨some 17, .bin .gtr, [.tmp 16, .cst (.int .i64 15)], some (15, false), 0, []⟩,
    ⟨some 18, .pick, [.tmp 15, .cst (.bool true), .tmp 17], none, 0, []⟩]) (.cond (.tmp 18) (.seq (.region false 0 [
     ⟨some 19, .mov, [.cst (.pure (.arr 32 (.int .u8)) (List.replicate 32 (Ty.dflt (.int .u8))))], none, 0, []⟩,
     ⟨none, .store 32, [.tmp 6, .tmp 19], none, 0, []⟩,
     ⟨some 7, .mov, [.cst (.int .i64 2)], none, 0, []⟩]) (.cut [6, 7] (.ret))) (.skip))) (.seq (.region false 1 [
    ⟨some 20, .load true 32, [.tmp 3], none, 0, []⟩,
    ⟨some 21, .mov, [.tmp 1], none, 0, []⟩,
    ⟨some 22, .mov, [.tmp 2], none, 0, []⟩,
    ⟨some 23, .callS 37, [.tmp 20, .tmp 21, .tmp 22], none, 0, []⟩,
    ⟨none, .store 32, [.tmp 6, .tmp 23], none, 0, []⟩,
    ⟨some 7, .mov, [.cst (.int .i64 0)], none, 0, []⟩]) (.cut [6, 7] (.ret))))) }


def ir17_b0 : IC := (.seq (.seq (.region false 0 [
      ⟨some 9, .mov, [.tmp 7], none, 0, []⟩,
      ⟨some 10, .mov, [.tmp 2], none, 0, []⟩,
      ⟨some 11, .bin .lss, [.tmp 9, .tmp 10], none, 0, []⟩]) (.cond (.tmp 11) (.skip) (.cut [3, 6] (.exit 0)))) (.seq (.block 1 (.region false 3 [
       ⟨some 14, .mov, [.tmp 7], none, 0, []⟩,
       ⟨some 15, .conv .u8, [.tmp 14], none, 0, []⟩,
       ⟨some 16, .buildSl 5 (.int .u8) 1, [.tmp 15], none, 0, []⟩,
       ⟨some 17, .sliceArr 32 (.int .u8) false false, [.tmp 3], none, 0, []⟩,
       ⟨some 18, .append 5 (.int .u8) 1, [.tmp 16, .tmp 17], none, 0, []⟩,
       ⟨some 19, .callS 12, [.tmp 18], none, 0, []⟩,
       ⟨none, .store 32, [.tmp 3, .tmp 19], none, 0, []⟩])) (.region false 0 [
      ⟨some 12, .mov, [.tmp 7], none, 0, []⟩,
      ⟨some 13, .bin .add, [.tmp 12, .cst (.int .i64 1)], none, 0, []⟩,
      ⟨some 7, .mov, [.tmp 13], none, 0, []⟩])))
def ir17_v0 : List Nat := [2, 3, 6, 7]
def ir17_t {R : Type} (o0 : St → (Ex → St → Option R) → Option R) : LT R := (.node .nil (.node (.node .nil (.node (.orc o0) .nil)) .nil))
def ir17 : IFn :=
  { ntmps := 21, results := [.inr (6, true, 32)], body := (.seq (.region false 2 [
    ⟨some 3, .box 25, [.tmp 0], none, 0, []⟩,
    ⟨some 6, .alloc 25 (.pure (.arr 32 (.int .u8)) (List.replicate 32 (Ty.dflt (.int .u8)))), [], none, 0, []⟩]) (.seq (.seq (.region false 0 [
    ⟨some 8, .mov, [.tmp 1], none, 0, []⟩,
    ⟨some 7, .mov, [.tmp 8], none, 0, []⟩]) (.block 0 (.loop ir17_v0 ir17_b0))) (.seq (.region false 0 [
    ⟨some 20, .load true 32, [.tmp 3], none, 0, []⟩,
    ⟨none, .store 32, [.tmp 6, .tmp 20], none, 0, []⟩]) (.cut [6] (.ret))))) }
theorem ir17_tok {R : Type} {summ : Nat → Option Summ} {fu : Nat} {call : Nat → List CV → List Blk → (CV → List Blk → Option R) → Option R} {o0 : St → (Ex → St → Option R) → Option R} (h0 : ∀ T k r, o0 T k = some r → evLoopN (evCode summ fu call ir17_b0) (St.norm ir17_v0) fu T k = some r) : LTok summ fu call (ir17_t o0) ir17.body := ⟨trivial, ⟨⟨trivial, h0⟩, trivial⟩⟩


def ir18_b0 : IC := (.seq (.region false 0 [
      ⟨some 20, .bin .lss, [.tmp 19, .tmp 18], none, 0, []⟩]) (.seq (.cond (.tmp 20) (.skip) (.cut [3, 5, 7] (.exit 0))) (.seq (.block 1 (.seq (.region false 0 [
       ⟨some 21, .mov, [.tmp 19], none, 0, []⟩,
       ⟨some 22, .idxSl 1, [.tmp 17, .tmp 19], none, 0, []⟩,
       ⟨some 23, .load false 1, [.tmp 22], none, 0, []⟩,
       ⟨some 8, .mov, [.tmp 21], none, 0, []⟩,
       ⟨some 9, .mov, [.tmp 23], none, 0, []⟩]) (.region false 3 [
       ⟨some 24, .mov, [.tmp 7], none, 0, []⟩,
       ⟨some 25, .fieldAddr 1 1, [.tmp 5], none, 0, []⟩,
       ⟨some 26, .load false 1, [.tmp 25], none, 0, []⟩,
       ⟨some 27, .mov, [.tmp 8], none, 0, []⟩,
       ⟨some 28, .idxSl 32, [.tmp 26, .tmp 27], none, 0, []⟩,
       ⟨some 29, .load true 32, [.tmp 28], none, 0, []⟩,
       ⟨some 30, .mov, [.tmp 9], none, 0, []⟩,
       ⟨some 31, .callS 37, [.tmp 29, .tmp 30, .cst (.int .i64 15)], none, 0, []⟩,
       ⟨some 32, .buildSl 25 (.arr 32 (.int .u8)) 1, [.tmp 31], none, 0, []⟩,
       ⟨some 33, .append 25 (.arr 32 (.int .u8)) 32, [.tmp 24, .tmp 32], none, 0, []⟩,
       ⟨some 7, .mov, [.tmp 33], none, 0, []⟩]))) (.region false 0 [
      ⟨some 34, .bin .add, [.tmp 19, .cst (.int .i64 1)], none, 0, []⟩,
      ⟨some 19, .mov, [.tmp 34], none, 0, []⟩]))))
def ir18_v0 : List Nat := [3, 5, 7, 17, 18, 19]
def ir18_b1 : IC := (.seq (.region false 0 [
      ⟨some 41, .bin .lss, [.tmp 40, .tmp 39], none, 0, []⟩]) (.seq (.cond (.tmp 41) (.skip) (.cut [3, 10] (.exit 2))) (.seq (.block 3 (.seq (.region false 1 [
       ⟨some 42, .mov, [.tmp 40], none, 0, []⟩,
       ⟨some 43, .idxSl 32, [.tmp 38, .tmp 40], none, 0, []⟩,
       ⟨some 44, .load true 32, [.tmp 43], none, 0, []⟩,
       ⟨some 12, .alloc 25 (.pure (.arr 32 (.int .u8)) (List.replicate 32 (Ty.dflt (.int .u8)))), [], none, 0, []⟩,
       ⟨some 11, .mov, [.tmp 42], none, 0, []⟩,
       ⟨none, .store 32, [.tmp 12, .tmp 44], none, 0, []⟩]) (.seq (.region false 0 [
       ⟨some 45, .fieldAddr 0 0, [.tmp 5], none, 0, []⟩,
       ⟨some 46, .load false 1, [.tmp 45], none, 0, []⟩,
       ⟨some 47, .mov, [.tmp 11], none, 0, []⟩,
       ⟨some 48, .bin .shr, [.tmp 46, .tmp 47], none, 0, []⟩,
       ⟨some 49, .bin .and, [.tmp 48, .cst (.int .i64 1)], none, 0, []⟩,
       ⟨some 50, .bin .eql, [.tmp 49, .cst (.int .i64 1)], none, 0, []⟩]) (.cond (.tmp 50) (.region false 1 [
        ⟨some 51, .load true 32, [.tmp 12], none, 0, []⟩,
        ⟨some 52, .load true 32, [.tmp 10], none, 0, []⟩,
        ⟨some 53, .callS 40, [.tmp 51, .tmp 52], none, 0, []⟩,
        ⟨none, .store 32, [.tmp 10, .tmp 53], none, 0, []⟩]) (.region false 1 [
        ⟨some 54, .load true 32, [.tmp 10], none, 0, []⟩,
        ⟨some 55, .load true 32, [.tmp 12], none, 0, []⟩,
        ⟨some 56, .callS 40, [.tmp 54, .tmp 55], none, 0, []⟩,
        ⟨none, .store 32, [.tmp 10, .tmp 56], none, 0, []⟩]))))) (.region false 0 [
      ⟨some 57, .bin .add, [.tmp 40, .cst (.int .i64 1)], none, 0, []⟩,
      ⟨some 40, .mov, [.tmp 57], none, 0, []⟩]))))
def ir18_v1 : List Nat := [3, 5, 10, 38, 39, 40]
def ir18_t {R : Type} (o0 o1 : St → (Ex → St → Option R) → Option R) : LT R := (.node .nil (.node .nil (.node .nil (.node (.node .nil (.node (.orc o0) .nil)) (.node .nil (.node (.node .nil (.node (.orc o1) .nil)) .nil))))))
def ir18 : IFn :=
  { ntmps := 61, results := [.inl 6], body := (.seq (.region false 3 [
    ⟨some 3, .box 25, [.tmp 0], none, 0, []⟩,
    ⟨some 4, .box 25, [.tmp 1], none, 0, []⟩,
    ⟨some 5, .box 39, [.tmp 2], none, 0, []⟩,
    ⟨some 6, .mov, [.cst (.bool false)], none, 0, []⟩]) (.seq (.seq (.region false 1 [
    ⟨some 13, .load true 3, [.tmp 5], none, 0, []⟩,
    ⟨some 14, .callS 38, [.tmp 13], none, 0, []⟩,
    ⟨some 15, .not, [.tmp 14], none, 0, []⟩]) (.cond (.tmp 15) (.seq (.region false 0 [
     ⟨some 6, .mov, [.cst (.bool false)], none, 0, []⟩]) (.cut [6] (.ret))) (.skip))) (.seq (.region false 0 [
    ⟨some 7, .mov, [.cst (.nil 25 (.arr 32 (.int .u8)))], none, 0, []⟩]) (.seq (.seq (.region false 1 [
    ⟨some 16, .load true 32, [.tmp 4], none, 0, []⟩,
    ⟨some 17, .callS 13, [.tmp 16], none, 0, []⟩,
    ⟨some 18, .len, [.tmp 17], none, 0, []⟩,
    ⟨some 19, .mov, [.cst (.int .i64 0)], none, 0, []⟩]) (.block 0 (.loop ir18_v0 ir18_b0))) (.seq (.region false 2 [
    ⟨some 35, .mov, [.tmp 7], none, 0, []⟩,
    ⟨some 36, .callS 39, [.tmp 35], none, 0, []⟩,
    ⟨some 10, .alloc 25 (.pure (.arr 32 (.int .u8)) (List.replicate 32 (Ty.dflt (.int .u8)))), [], none, 0, []⟩,
    ⟨none, .store 32, [.tmp 10, .tmp 36], none, 0, []⟩]) (.seq (.seq (.region false 0 [
    ⟨some 37, .fieldAddr 2 2, [.tmp 5], none, 0, []⟩,
    ⟨some 38, .load false 1, [.tmp 37], none, 0, []⟩,
    ⟨some 39, .len, [.tmp 38], none, 0, []⟩,
    ⟨some 40, .mov, [.cst (.int .i64 0)], none, 0, []⟩]) (.block 2 (.loop ir18_v1 ir18_b1))) (.seq (.region false 0 [
    ⟨some 58, .load true 32, [.tmp 10], none, 0, []⟩,
    ⟨some 59, .load true 32, [.tmp 3], none, 0, []⟩,
    ⟨some 60, .eqb false (.arr 32 (.int .u8)), [.tmp 58, .tmp 59], none, 0, []⟩,
    ⟨some 6, .mov, [.tmp 60], none, 0, []⟩]) (.cut [6] (.ret))))))))) }
theorem ir18_tok {R : Type} {summ : Nat → Option Summ} {fu : Nat} {call : Nat → List CV → List Blk → (CV → List Blk → Option R) → Option R} {o0 o1 : St → (Ex → St → Option R) → Option R} (h0 : ∀ T k r, o0 T k = some r → evLoopN (evCode summ fu call ir18_b0) (St.norm ir18_v0) fu T k = some r) (h1 : ∀ T k r, o1 T k = some r → evLoopN (evCode summ fu call ir18_b1) (St.norm ir18_v1) fu T k = some r) : LTok summ fu call (ir18_t o0 o1) ir18.body := ⟨trivial, ⟨trivial, ⟨trivial, ⟨⟨trivial, h0⟩, ⟨trivial, ⟨⟨trivial, h1⟩, trivial⟩⟩⟩⟩⟩⟩


def ir19_b0 : IC := (.seq (.seq (.region false 0 [
      ⟨some 16, .mov, [.tmp 9], none, 0, []⟩,
      ⟨some 17, .bin .lss, [.tmp 16, .cst (.int .i64 67)], none, 0, []⟩]) (.cond (.tmp 17) (.skip) (.cut [3, 5, 8] (.exit 0)))) (.seq (.block 1 (.region true 3 [
       ⟨some 20, .mov, [.tmp 8], none, 0, []⟩,
       ⟨some 21, .fieldAddr 1 1, [.tmp 5], none, 0, []⟩,
       ⟨some 22, .load false 1, [.tmp 21], none, 0, [1]⟩,
       ⟨some 23, .mov, [.tmp 9], none, 0, []⟩,
       ⟨some 24, .idxSl 32, [.tmp 22, .tmp 23], none, 0, [2, 1, 3]⟩,
       ⟨some 25, .load true 32, [.tmp 24], none, 0, [4, 2, 1, 3]⟩,
       ⟨some 26, .mov, [.tmp 7], none, 0, []⟩,
       ⟨some 27, .mov, [.tmp 9], none, 0, []⟩,
       ⟨some 28, .idxSl 1, [.tmp 26, .tmp 27], none, 0, [6, 7]⟩,
       ⟨some 29, .load false 1, [.tmp 28], none, 0, [8, 6, 7]⟩,
       ⟨some 30, .callS 17, [.tmp 25, .tmp 29, .cst (.int .i64 15)], none, 0, [5, 4, 2, 1, 3, 9, 8, 6, 7]⟩,
       ⟨some 31, .buildSl 25 (.arr 32 (.int .u8)) 1, [.tmp 30], none, 1, [10, 5, 4, 2, 1, 3, 9, 8, 6, 7]⟩,
       ⟨some 32, .append 25 (.arr 32 (.int .u8)) 32, [.tmp 20, .tmp 31], none, 2, [0, 11, 10, 5, 4, 2, 1, 3, 9, 8, 6, 7]⟩,
       ⟨some 8, .mov, [.tmp 32], none, 3, [12, 0, 11, 10, 5, 4, 2, 1, 3, 9, 8, 6, 7]⟩])) (.region false 0 [
      ⟨some 18, .mov, [.tmp 9], none, 0, []⟩,
      ⟨some 19, .bin .add, [.tmp 18, .cst (.int .i64 1)], none, 0, []⟩,
      ⟨some 9, .mov, [.tmp 19], none, 0, []⟩])))
def ir19_v0 : List Nat := [3, 5, 7, 8, 9]
def ir19_b1 : IC := (.seq (.seq (.region false 0 [
     ⟨some 51, .fieldAddr 0 0, [.tmp 5], none, 0, []⟩,
     ⟨some 52, .load false 1, [.tmp 51], none, 0, []⟩,
     ⟨some 53, .bin .quo, [.tmp 52, .cst (.int .i64 2)], none, 0, []⟩,
     ⟨some 54, .bin .eql, [.tmp 53, .cst (.int .i64 1)], none, 0, []⟩]) (.cond (.tmp 54) (.region true 1 [
      ⟨some 55, .fieldAddr 2 2, [.tmp 5], none, 0, []⟩,
      ⟨some 56, .load false 1, [.tmp 55], none, 0, [0]⟩,
      ⟨some 57, .idxSl 32, [.tmp 56, .cst (.int .i64 1)], none, 0, [1, 0]⟩,
      ⟨some 58, .load true 32, [.tmp 57], none, 0, [2, 1, 0]⟩,
      ⟨some 59, .load true 32, [.tmp 10], none, 0, []⟩,
      ⟨some 60, .callS 42, [.tmp 58, .tmp 59], none, 0, [3, 2, 1, 0, 4]⟩,
      ⟨none, .store 32, [.tmp 10, .tmp 60], none, 1, [5, 3, 2, 1, 0, 4]⟩]) (.region true 1 [
      ⟨some 61, .load true 32, [.tmp 10], none, 0, []⟩,
      ⟨some 62, .fieldAddr 2 2, [.tmp 5], none, 0, []⟩,
      ⟨some 63, .load false 1, [.tmp 62], none, 0, [1]⟩,
      ⟨some 64, .idxSl 32, [.tmp 63, .cst (.int .i64 1)], none, 0, [2, 1]⟩,
      ⟨some 65, .load true 32, [.tmp 64], none, 0, [3, 2, 1]⟩,
      ⟨some 66, .callS 42, [.tmp 61, .tmp 65], none, 0, [0, 4, 3, 2, 1]⟩,
      ⟨none, .store 32, [.tmp 10, .tmp 66], none, 1, [5, 0, 4, 3, 2, 1]⟩]))) (.seq (.region false 0 [
     ⟨some 67, .load true 32, [.tmp 10], none, 0, []⟩,
     ⟨some 68, .load true 32, [.tmp 3], none, 0, []⟩,
     ⟨some 69, .eqb false (.arr 32 (.int .u8)), [.tmp 67, .tmp 68], none, 0, []⟩,
     ⟨some 6, .mov, [.tmp 69], none, 0, []⟩]) (.cut [6] (.ret))))
def ir19_v1 : List Nat := [3, 5, 10]
def ir19_t {R : Type} (o0 o1 : St → (Ex → St → Option R) → Option R) : LT R := (.node .nil (.node .nil (.node .nil (.node .nil (.node (.node .nil (.node (.orc o0) .nil)) (.node .nil (.node .nil (.orc o1))))))))
def ir19 : IFn :=
  { ntmps := 70, results := [.inl 6], body := (.seq (.region false 3 [
    ⟨some 3, .box 25, [.tmp 0], none, 0, []⟩,
    ⟨some 4, .box 25, [.tmp 1], none, 0, []⟩,
    ⟨some 5, .box 39, [.tmp 2], none, 0, []⟩,
    ⟨some 6, .mov, [.cst (.bool false)], none, 0, []⟩]) (.seq (.seq (.region false 1 [
    ⟨some 11, .load true 3, [.tmp 5], none, 0, []⟩,
    ⟨some 12, .callS 26, [.tmp 11], none, 0, []⟩,
    ⟨some 13, .not, [.tmp 12], none, 0, []⟩]) (.cond (.tmp 13) (.seq (.region false 0 [
     ⟨some 6, .mov, [.cst (.bool false)], none, 0, []⟩]) (.cut [6] (.ret))) (.skip))) (.seq (.region false 1 [
    ⟨some 14, .load true 32, [.tmp 4], none, 0, []⟩,
    ⟨some 15, .callS 15, [.tmp 14], none, 0, []⟩,
    ⟨some 7, .mov, [.tmp 15], none, 0, []⟩]) (.seq (.region false 0 [
    ⟨some 8, .mov, [.cst (.nil 25 (.arr 32 (.int .u8)))], none, 0, []⟩]) (.seq (.seq (.region false 0 [
    ⟨some 9, .mov, [.cst (.int .i64 0)], none, 0, []⟩]) (.block 0 (.loop ir19_v0 ir19_b0))) (.seq (.region false 2 [
    ⟨some 33, .mov, [.tmp 8], none, 0, []⟩,
    ⟨some 34, .callS 41, [.tmp 33], none, 0, []⟩,
    ⟨some 10, .alloc 25 (.pure (.arr 32 (.int .u8)) (List.replicate 32 (Ty.dflt (.int .u8)))), [], none, 0, []⟩,
    ⟨none, .store 32, [.tmp 10, .tmp 34], none, 0, []⟩]) (.seq (.seq (.region false 0 [
    ⟨some 35, .fieldAddr 0 0, [.tmp 5], none, 0, []⟩,
    ⟨some 36, .load false 1, [.tmp 35], none, 0, []⟩,
    ⟨some 37, .bin .rem, [.tmp 36, .cst (.int .i64 2)], none, 0, []⟩,
    ⟨some 38, .bin .eql, [.tmp 37, .cst (.int .i64 1)], none, 0, []⟩]) (.cond (.tmp 38) (.region true 1 [
     ⟨some 39, .fieldAddr 2 2, [.tmp 5], none, 0, []⟩,
     ⟨some 40, .load false 1, [.tmp 39], none, 0, [0]⟩,
     ⟨some 41, .idxSl 32, [.tmp 40, .cst (.int .i64 0)], none, 0, [1, 0]⟩,
     ⟨some 42, .load true 32, [.tmp 41], none, 0, [2, 1, 0]⟩,
     ⟨some 43, .load true 32, [.tmp 10], none, 0, []⟩,
     ⟨some 44, .callS 42, [.tmp 42, .tmp 43], none, 0, [3, 2, 1, 0, 4]⟩,
     ⟨none, .store 32, [.tmp 10, .tmp 44], none, 1, [5, 3, 2, 1, 0, 4]⟩]) (.region true 1 [
     ⟨some 45, .load true 32, [.tmp 10], none, 0, []⟩,
     ⟨some 46, .fieldAddr 2 2, [.tmp 5], none, 0, []⟩,
     ⟨some 47, .load false 1, [.tmp 46], none, 0, [1]⟩,
     ⟨some 48, .idxSl 32, [.tmp 47, .cst (.int .i64 0)], none, 0, [2, 1]⟩,
     ⟨some 49, .load true 32, [.tmp 48], none, 0, [3, 2, 1]⟩,
     ⟨some 50, .callS 42, [.tmp 45, .tmp 49], none, 0, [0, 4, 3, 2, 1]⟩,
     ⟨none, .store 32, [.tmp 10, .tmp 50], none, 1, [5, 0, 4, 3, 2, 1]⟩]))) (.cut ir19_v1 ir19_b1)))))))) }
theorem ir19_tok {R : Type} {summ : Nat → Option Summ} {fu : Nat} {call : Nat → List CV → List Blk → (CV → List Blk → Option R) → Option R} {o0 o1 : St → (Ex → St → Option R) → Option R} (h0 : ∀ T k r, o0 T k = some r → evLoopN (evCode summ fu call ir19_b0) (St.norm ir19_v0) fu T k = some r) (h1 : ∀ T k r, o1 T k = some r → evCode summ fu call ir19_b1 T k = some r) : LTok summ fu call (ir19_t o0 o1) ir19.body := ⟨trivial, ⟨trivial, ⟨trivial, ⟨trivial, ⟨⟨trivial, h0⟩, ⟨trivial, ⟨trivial, h1⟩⟩⟩⟩⟩⟩⟩


def ir20_b0 : IC := (.seq (.region false 0 [
      ⟨some 25, .bin .lss, [.tmp 24, .tmp 23], none, 0, []⟩]) (.seq (.cond (.tmp 25) (.skip) (.cut [1, 3, 6, 8] (.exit 0))) (.seq (.block 1 (.seq (.region false 0 [
       ⟨some 26, .mov, [.tmp 24], none, 0, []⟩,
       ⟨some 27, .idxSl 1, [.tmp 22, .tmp 24], none, 0, []⟩,
       ⟨some 28, .load false 1, [.tmp 27], none, 0, []⟩,
       ⟨some 9, .mov, [.tmp 26], none, 0, []⟩,
       ⟨some 10, .mov, [.tmp 28], none, 0, []⟩]) (.region true 4 [
       ⟨some 29, .fieldAddr 1 1, [.tmp 8], none, 0, []⟩,
       ⟨some 30, .load false 1, [.tmp 29], none, 0, [0]⟩,
       ⟨some 31, .load true 32, [.tmp 3], none, 0, []⟩,
       ⟨some 32, .mov, [.tmp 1], none, 0, []⟩,
       ⟨some 33, .mov, [.tmp 9], none, 0, []⟩,
       ⟨some 34, .callS 43, [.tmp 31, .tmp 32, .tmp 33], none, 0, [2, 3, 4]⟩,
       ⟨some 35, .mov, [.tmp 10], none, 1, []⟩,
       ⟨some 36, .callS 37, [.tmp 34, .cst (.int .i64 0), .tmp 35], none, 1, [5, 2, 3, 4, 6]⟩,
       ⟨some 37, .buildSl 25 (.arr 32 (.int .u8)) 1, [.tmp 36], none, 2, [7, 5, 2, 3, 4, 6]⟩,
       ⟨some 38, .append 25 (.arr 32 (.int .u8)) 32, [.tmp 30, .tmp 37], none, 3, [1, 0, 8, 7, 5, 2, 3, 4, 6]⟩,
       ⟨some 39, .fieldAddr 1 1, [.tmp 8], none, 4, [0, 1, 2, 3, 4, 5, 6, 7, 8, 9]⟩,
       ⟨none, .store 1, [.tmp 39, .tmp 38], none, 4, [10, 0, 1, 2, 3, 4, 5, 6, 7, 8, 9]⟩]))) (.region false 0 [
      ⟨some 40, .bin .add, [.tmp 24, .cst (.int .i64 1)], none, 0, []⟩,
      ⟨some 24, .mov, [.tmp 40], none, 0, []⟩]))))
def ir20_v0 : List Nat := [1, 3, 6, 8, 22, 23, 24]
def ir20_t {R : Type} (o0 : St → (Ex → St → Option R) → Option R) : LT R := (.node .nil (.node .nil (.node .nil (.node (.node .nil (.node (.orc o0) .nil)) .nil))))
def ir20 : IFn :=
  { ntmps := 59, results := [.inr (6, true, 3), .inl 7], body := (.seq (.region false 3 [
    ⟨some 3, .box 25, [.tmp 0], none, 0, []⟩,
    ⟨some 5, .box 25, [.tmp 2], none, 0, []⟩,
    ⟨some 6, .alloc 39 (.pair (.int .i64 0) (.pair (.nil 25 (.arr 32 (.int .u8))) (.pair (.nil 25 (.arr 32 (.int .u8))) (.pure .unit ())))), [], none, 0, []⟩,
    ⟨some 7, .mov, [.cst (.int .i64 0)], none, 0, []⟩]) (.seq (.seq (.region false 0 [
    ⟨some 12, .mov, [.tmp 1], none, 0, []⟩,
    ⟨some 13, .bin .lss, [.tmp 12, .cst (.int .i64 0)], none, 0, []⟩,
    ⟨some 14, .mov, [.tmp 13], none, 0, []⟩,
    ⟨some 15, .mov, [.tmp 1], some (14, false), 0, []⟩,
    ⟨some 16, .bin .geq, [.tmp 15, .cst (.int .i64 4)], some (14, false), 0, []⟩,
    ⟨some 17, .pick, [.tmp 14, .cst (.bool true), .tmp 16], none, 0, []⟩]) (.cond (.tmp 17) (.seq (.region false 0 [
     ⟨some 18, .build [((.int .i64 0), 1), ((.nil 25 (.arr 32 (.int .u8))), 1), ((.nil 25 (.arr 32 (.int .u8))), 1)] [], [], none, 0, []⟩,
     ⟨none, .store 3, [.tmp 6, .tmp 18], none, 0, []⟩,
     ⟨some 7, .mov, [.cst (.int .i64 2)], none, 0, []⟩]) (.cut [6, 7] (.ret))) (.skip))) (.seq (.region false 1 [
    ⟨some 19, .mov, [.tmp 1], none, 0, []⟩,
    ⟨some 20, .build [((.int .i64 0), 1), ((.nil 25 (.arr 32 (.int .u8))), 1), ((.nil 25 (.arr 32 (.int .u8))), 1)] [0], [.tmp 19], none, 0, []⟩,
    ⟨some 8, .alloc 39 (.pair (.int .i64 0) (.pair (.nil 25 (.arr 32 (.int .u8))) (.pair (.nil 25 (.arr 32 (.int .u8))) (.pure .unit ())))), [], none, 0, []⟩,
    ⟨none, .store 3, [.tmp 8, .tmp 20], none, 0, []⟩]) (.seq (.seq (.region false 1 [
    ⟨some 21, .load true 32, [.tmp 5], none, 0, []⟩,
    ⟨some 22, .callS 13, [.tmp 21], none, 0, []⟩,
    ⟨some 23, .len, [.tmp 22], none, 0, []⟩,
    ⟨some 24, .mov, [.cst (.int .i64 0)], none, 0, []⟩]) (.block 0 (.loop ir20_v0 ir20_b0))) (.seq (.region false 0 [
    ⟨some 41, .mov, [.tmp 1], none, 0, []⟩,
    ⟨some 42, .bin .xor, [.tmp 41, .cst (.int .i64 2)], none, 0, []⟩,
    ⟨some 43, .bin .andNot, [.tmp 42, .cst (.int .i64 1)], none, 0, []⟩,
    ⟨some 11, .mov, [.tmp 43], none, 0, []⟩]) (.seq (.region true 5 [
    ⟨some 44, .load true 32, [.tmp 3], none, 0, []⟩,
    ⟨some 45, .mov, [.tmp 1], none, 0, []⟩,
    ⟨some 46, .bin .xor, [.tmp 45, .cst (.int .i64 1)], none, 0, [1]⟩,
    ⟨some 47, .callS 44, [.tmp 44, .tmp 46], none, 0, [0, 2, 1]⟩,
    ⟨some 48, .load true 32, [.tmp 3], none, 1, []⟩,
    ⟨some 49, .mov, [.tmp 11], none, 1, []⟩,
    ⟨some 50, .callS 44, [.tmp 48, .tmp 49], none, 1, [4, 5, 3, 0, 2, 1]⟩,
    ⟨some 51, .load true 32, [.tmp 3], none, 2, []⟩,
    ⟨some 52, .mov, [.tmp 11], none, 2, []⟩,
    ⟨some 53, .bin .add, [.tmp 52, .cst (.int .i64 1)], none, 2, [8]⟩,
    ⟨some 54, .callS 44, [.tmp 51, .tmp 53], none, 2, [7, 9, 8, 6, 4, 5, 3, 0, 2, 1]⟩,
    ⟨some 55, .callS 40, [.tmp 50, .tmp 54], none, 3, [6, 4, 5, 3, 0, 2, 1, 10, 7, 9, 8]⟩,
    ⟨some 56, .buildSl 25 (.arr 32 (.int .u8)) 2, [.tmp 47, .tmp 55], none, 4, [3, 0, 2, 1, 11, 6, 4, 5, 10, 7, 9, 8]⟩,
    ⟨some 57, .fieldAddr 2 2, [.tmp 8], none, 5, [0, 1, 2, 3, 4, 5, 6, 7, 8, 9, 10, 11, 12]⟩,
    ⟨none, .store 1, [.tmp 57, .tmp 56], none, 5, [13, 0, 1, 2, 3, 4, 5, 6, 7, 8, 9, 10, 11, 12]⟩]) (.seq (.region false 0 [
    ⟨some 58, .load true 3, [.tmp 8], none, 0, []⟩,
    ⟨none, .store 3, [.tmp 6, .tmp 58], none, 0, []⟩,
    ⟨some 7, .mov, [.cst (.int .i64 0)], none, 0, []⟩]) (.cut [6, 7] (.ret))))))))) }
theorem ir20_tok {R : Type} {summ : Nat → Option Summ} {fu : Nat} {call : Nat → List CV → List Blk → (CV → List Blk → Option R) → Option R} {o0 : St → (Ex → St → Option R) → Option R} (h0 : ∀ T k r, o0 T k = some r → evLoopN (evCode summ fu call ir20_b0) (St.norm ir20_v0) fu T k = some r) : LTok summ fu call (ir20_t o0) ir20.body := ⟨trivial, ⟨trivial, ⟨trivial, ⟨⟨trivial, h0⟩, trivial⟩⟩⟩⟩


def ir21_b0 : IC := (.seq (.seq (.region false 0 [
      ⟨some 30, .mov, [.tmp 5], none, 0, []⟩,
      ⟨some 31, .fieldAddr 1 1, [.tmp 2], none, 0, []⟩,
      ⟨some 32, .load false 1, [.tmp 31], none, 0, []⟩,
      ⟨some 33, .len, [.tmp 32], none, 0, []⟩,
      ⟨some 34, .bin .lss, [.tmp 30, .tmp 33], none, 0, []⟩]) (.cond (.tmp 34) (.skip) (.cut [2, 3] (.exit 0)))) (.seq (.block 1 (.seq (.region true 0 [
       ⟨some 37, .fieldAddr 1 1, [.tmp 2], none, 0, []⟩,
       ⟨some 38, .load false 1, [.tmp 37], none, 0, [0]⟩,
       ⟨some 39, .mov, [.tmp 5], none, 0, []⟩,
       ⟨some 40, .idxSl 32, [.tmp 38, .tmp 39], none, 0, [1, 0, 2]⟩,
       ⟨some 41, .load true 32, [.tmp 40], none, 0, [3, 1, 0, 2]⟩,
       ⟨some 42, .fieldAddr 1 1, [.tmp 3], none, 0, []⟩,
       ⟨some 43, .load false 1, [.tmp 42], none, 0, [5]⟩,
       ⟨some 44, .mov, [.tmp 5], none, 0, []⟩,
       ⟨some 45, .idxSl 32, [.tmp 43, .tmp 44], none, 0, [6, 5, 7]⟩,
       ⟨some 46, .load true 32, [.tmp 45], none, 0, [8, 6, 5, 7]⟩,
       ⟨some 47, .eqb true (.arr 32 (.int .u8)), [.tmp 41, .tmp 46], none, 0, [4, 3, 1, 0, 2, 9, 8, 6, 5, 7]⟩]) (.cond (.tmp 47) (.seq (.region false 0 [
        ⟨some 4, .mov, [.cst (.bool false)], none, 0, []⟩]) (.cut [4] (.ret))) (.skip)))) (.region false 0 [
      ⟨some 35, .mov, [.tmp 5], none, 0, []⟩,
      ⟨some 36, .bin .add, [.tmp 35, .cst (.int .i64 1)], none, 0, []⟩,
      ⟨some 5, .mov, [.tmp 36], none, 0, []⟩])))
def ir21_v0 : List Nat := [2, 3, 5]
def ir21_b1 : IC := (.seq (.seq (.region false 0 [
      ⟨some 48, .mov, [.tmp 6], none, 0, []⟩,
      ⟨some 49, .fieldAddr 2 2, [.tmp 2], none, 0, []⟩,
      ⟨some 50, .load false 1, [.tmp 49], none, 0, []⟩,
      ⟨some 51, .len, [.tmp 50], none, 0, []⟩,
      ⟨some 52, .bin .lss, [.tmp 48, .tmp 51], none, 0, []⟩]) (.cond (.tmp 52) (.skip) (.cut [] (.exit 2)))) (.seq (.block 3 (.seq (.region true 0 [
       ⟨some 55, .fieldAddr 2 2, [.tmp 2], none, 0, []⟩,
       ⟨some 56, .load false 1, [.tmp 55], none, 0, [0]⟩,
       ⟨some 57, .mov, [.tmp 6], none, 0, []⟩,
       ⟨some 58, .idxSl 32, [.tmp 56, .tmp 57], none, 0, [1, 0, 2]⟩,
       ⟨some 59, .load true 32, [.tmp 58], none, 0, [3, 1, 0, 2]⟩,
       ⟨some 60, .fieldAddr 2 2, [.tmp 3], none, 0, []⟩,
       ⟨some 61, .load false 1, [.tmp 60], none, 0, [5]⟩,
       ⟨some 62, .mov, [.tmp 6], none, 0, []⟩,
       ⟨some 63, .idxSl 32, [.tmp 61, .tmp 62], none, 0, [6, 5, 7]⟩,
       ⟨some 64, .load true 32, [.tmp 63], none, 0, [8, 6, 5, 7]⟩,
       ⟨some 65, .eqb true (.arr 32 (.int .u8)), [.tmp 59, .tmp 64], none, 0, [4, 3, 1, 0, 2, 9, 8, 6, 5, 7]⟩]) (.cond (.tmp 65) (.seq (.region false 0 [
        ⟨some 4, .mov, [.cst (.bool false)], none, 0, []⟩]) (.cut [4] (.ret))) (.skip)))) (.region false 0 [
      ⟨some 53, .mov, [.tmp 6], none, 0, []⟩,
      ⟨some 54, .bin .add, [.tmp 53, .cst (.int .i64 1)], none, 0, []⟩,
      ⟨some 6, .mov, [.tmp 54], none, 0, []⟩])))
def ir21_v1 : List Nat := [2, 3, 6]
def ir21_t {R : Type} (o0 o1 : St → (Ex → St → Option R) → Option R) : LT R := (.node .nil (.node .nil (.node (.node .nil (.node (.orc o0) .nil)) (.node (.node .nil (.node (.orc o1) .nil)) .nil))))
def ir21 : IFn :=
  { ntmps := 66, results := [.inl 4], body := (.seq (.region false 2 [
    ⟨some 2, .box 39, [.tmp 0], none, 0, []⟩,
    ⟨some 3, .box 39, [.tmp 1], none, 0, []⟩,
    ⟨some 4, .mov, [.cst (.bool false)], none, 0, []⟩]) (.seq (.seq (.region false 0 [
    ⟨some 7, .fieldAddr 0 0, [.tmp 2], none, 0, []⟩,
    ⟨some 8, .load false 1, [.tmp 7], none, 0, []⟩,
    ⟨some 9, .fieldAddr 0 0, [.tmp 3], none, 0, []⟩,
    ⟨some 10, .load false 1, [.tmp 9], none, 0, []⟩,
    ⟨some 11, .bin .neq, [.tmp 8, .tmp 10], none, 0, []⟩,
    ⟨some 12, .mov, [.tmp 11], none, 0, []⟩,
    ⟨some 13, .fieldAddr 1 1, [.tmp 2], some (12, false), 0, []⟩,
    ⟨some 14, .load false 1, [.tmp 13], some (12, false), 0, []⟩,
    ⟨some 15, .len, [.tmp 14], some (12, false), 0, []⟩,
    ⟨some 16, .fieldAddr 1 1, [.tmp 3], some (12, false), 0, []⟩,
    ⟨some 17, .load false 1, [.tmp 16], some (12, false), 0, []⟩,
    ⟨some 18, .len, [.tmp 17], some (12, false), 0, []⟩,
    ⟨some 19, .bin .neq, [.tmp 15, .tmp 18], some (12, false), 0, []⟩,
    ⟨some 20, .pick, [.tmp 12, .cst (.bool true), .tmp 19], none, 0, []⟩,
    ⟨some 21, .mov, [.tmp 20], none, 0, []⟩,
    ⟨some 22, .fieldAddr 2 2, [.tmp 2], some (21, false), 0, []⟩,
    ⟨some 23, .load false 1, [.tmp 22], some (21, false), 0, []⟩,
    ⟨some 24, .len, [.tmp 23], some (21, false), 0, []⟩,
    ⟨some 25, .fieldAddr 2 2, [.tmp 3], some (21, false), 0, []⟩,
    ⟨some 26, .load false 1, [.tmp 25], some (21, false), 0, []⟩,
    ⟨some 27, .len, [.tmp 26], some (21, false), 0, []⟩,
    ⟨some 28, .bin .neq, [.tmp 24, .tmp 27], some (21, false), 0, []⟩,
    ⟨some 29, .pick, [.tmp 21, .cst (.bool true), .tmp 28], none, 0, []⟩]) (.cond (.tmp 29) (.seq (.region false 0 [
     ⟨some 4, .mov, [.cst (.bool false)], none, 0, []⟩]) (.cut [4] (.ret))) (.skip))) (.seq (.seq (.region false 0 [
    ⟨some 5, .mov, [.cst (.int .i64 0)], none, 0, []⟩]) (.block 0 (.loop ir21_v0 ir21_b0))) (.seq (.seq (.region false 0 [
    ⟨some 6, .mov, [.cst (.int .i64 0)], none, 0, []⟩]) (.block 2 (.loop ir21_v1 ir21_b1))) (.seq (.region false 0 [
    ⟨some 4, .mov, [.cst (.bool true)], none, 0, []⟩]) (.cut [4] (.ret))))))) }
theorem ir21_tok {R : Type} {summ : Nat → Option Summ} {fu : Nat} {call : Nat → List CV → List Blk → (CV → List Blk → Option R) → Option R} {o0 o1 : St → (Ex → St → Option R) → Option R} (h0 : ∀ T k r, o0 T k = some r → evLoopN (evCode summ fu call ir21_b0) (St.norm ir21_v0) fu T k = some r) (h1 : ∀ T k r, o1 T k = some r → evLoopN (evCode summ fu call ir21_b1) (St.norm ir21_v1) fu T k = some r) : LTok summ fu call (ir21_t o0 o1) ir21.body := ⟨trivial, ⟨trivial, ⟨⟨trivial, h0⟩, ⟨⟨trivial, h1⟩, trivial⟩⟩⟩⟩


def ir22_b0 : IC := (.seq (.seq (.region false 0 [
      ⟨some 15, .mov, [.tmp 9], none, 0, []⟩,
      ⟨some 16, .bin .lss, [.tmp 15, .cst (.int .i64 67)], none, 0, []⟩]) (.cond (.tmp 16) (.skip) (.cut [1, 3, 6, 8] (.exit 0)))) (.seq (.block 1 (.region true 4 [
       ⟨some 19, .fieldAddr 1 1, [.tmp 8], none, 0, []⟩,
       ⟨some 20, .load false 1, [.tmp 19], none, 0, [0]⟩,
       ⟨some 21, .load true 32, [.tmp 3], none, 0, []⟩,
       ⟨some 22, .mov, [.tmp 1], none, 0, []⟩,
       ⟨some 23, .mov, [.tmp 9], none, 0, []⟩,
       ⟨some 24, .callS 45, [.tmp 21, .tmp 22, .tmp 23], none, 0, [2, 3, 4]⟩,
       ⟨some 25, .mov, [.tmp 7], none, 1, []⟩,
       ⟨some 26, .mov, [.tmp 9], none, 1, []⟩,
       ⟨some 27, .idxSl 1, [.tmp 25, .tmp 26], none, 1, [6, 7]⟩,
       ⟨some 28, .load false 1, [.tmp 27], none, 1, [8, 6, 7]⟩,
       ⟨some 29, .callS 17, [.tmp 24, .cst (.int .i64 0), .tmp 28], none, 1, [5, 2, 3, 4, 9, 8, 6, 7]⟩,
       ⟨some 30, .buildSl 25 (.arr 32 (.int .u8)) 1, [.tmp 29], none, 2, [10, 5, 2, 3, 4, 9, 8, 6, 7]⟩,
       ⟨some 31, .append 25 (.arr 32 (.int .u8)) 32, [.tmp 20, .tmp 30], none, 3, [1, 0, 11, 10, 5, 2, 3, 4, 9, 8, 6, 7]⟩,
       ⟨some 32, .fieldAddr 1 1, [.tmp 8], none, 4, [0, 1, 2, 3, 4, 5, 6, 7, 8, 9, 10, 11, 12]⟩,
       ⟨none, .store 1, [.tmp 32, .tmp 31], none, 4, [13, 0, 1, 2, 3, 4, 5, 6, 7, 8, 9, 10, 11, 12]⟩])) (.region false 0 [
      ⟨some 17, .mov, [.tmp 9], none, 0, []⟩,
      ⟨some 18, .bin .add, [.tmp 17, .cst (.int .i64 1)], none, 0, []⟩,
      ⟨some 9, .mov, [.tmp 18], none, 0, []⟩])))
def ir22_v0 : List Nat := [1, 3, 6, 7, 8, 9]
def ir22_t {R : Type} (o0 : St → (Ex → St → Option R) → Option R) : LT R := (.node .nil (.node .nil (.node .nil (.node (.node .nil (.node (.orc o0) .nil)) .nil))))
def ir22 : IFn :=
  { ntmps := 54, results := [.inr (6, true, 3)], body := (.seq (.region false 3 [
    ⟨some 3, .box 25, [.tmp 0], none, 0, []⟩,
    ⟨some 5, .box 25, [.tmp 2], none, 0, []⟩,
    ⟨some 6, .alloc 39 (.pair (.int .i64 0) (.pair (.nil 25 (.arr 32 (.int .u8))) (.pair (.nil 25 (.arr 32 (.int .u8))) (.pure .unit ())))), [], none, 0, []⟩]) (.seq (.region false 1 [
    ⟨some 11, .load true 32, [.tmp 5], none, 0, []⟩,
    ⟨some 12, .callS 15, [.tmp 11], none, 0, []⟩,
    ⟨some 7, .mov, [.tmp 12], none, 0, []⟩]) (.seq (.region false 1 [
    ⟨some 13, .mov, [.tmp 1], none, 0, []⟩,
    ⟨some 14, .build [((.int .i64 0), 1), ((.nil 25 (.arr 32 (.int .u8))), 1), ((.nil 25 (.arr 32 (.int .u8))), 1)] [0], [.tmp 13], none, 0, []⟩,
    ⟨some 8, .alloc 39 (.pair (.int .i64 0) (.pair (.nil 25 (.arr 32 (.int .u8))) (.pair (.nil 25 (.arr 32 (.int .u8))) (.pure .unit ())))), [], none, 0, []⟩,
    ⟨none, .store 3, [.tmp 8, .tmp 14], none, 0, []⟩]) (.seq (.seq (.region false 0 [
    ⟨some 9, .mov, [.cst (.int .i64 0)], none, 0, []⟩]) (.block 0 (.loop ir22_v0 ir22_b0))) (.seq (.region false 0 [
    ⟨some 33, .mov, [.tmp 1], none, 0, []⟩,
    ⟨some 34, .bin .quo, [.tmp 33, .cst (.int .i64 2)], none, 0, []⟩,
    ⟨some 35, .bin .mul, [.tmp 34, .cst (.int .i64 2)], none, 0, []⟩,
    ⟨some 36, .bin .sub, [.cst (.int .i64 2), .tmp 35], none, 0, []⟩,
    ⟨some 10, .mov, [.tmp 36], none, 0, []⟩]) (.seq (.region true 5 [
    ⟨some 37, .mov, [.tmp 1], none, 0, []⟩,
    ⟨some 38, .fieldAddr 1 1, [.tmp 8], none, 0, []⟩,
    ⟨some 39, .load false 1, [.tmp 38], none, 0, [1]⟩,
    ⟨some 40, .load true 32, [.tmp 3], none, 0, []⟩,
    ⟨some 41, .mov, [.tmp 1], none, 0, []⟩,
    ⟨some 42, .bin .xor, [.tmp 41, .cst (.int .i64 1)], none, 0, [4]⟩,
    ⟨some 43, .callS 46, [.tmp 40, .tmp 42], none, 0, [3, 5, 4]⟩,
    ⟨some 44, .load true 32, [.tmp 3], none, 1, []⟩,
    ⟨some 45, .mov, [.tmp 10], none, 1, []⟩,
    ⟨some 46, .callS 46, [.tmp 44, .tmp 45], none, 1, [7, 8, 6, 3, 5, 4]⟩,
    ⟨some 47, .load true 32, [.tmp 3], none, 2, []⟩,
    ⟨some 48, .mov, [.tmp 10], none, 2, []⟩,
    ⟨some 49, .bin .add, [.tmp 48, .cst (.int .i64 1)], none, 2, [11]⟩,
    ⟨some 50, .callS 46, [.tmp 47, .tmp 49], none, 2, [10, 12, 11, 9, 7, 8, 6, 3, 5, 4]⟩,
    ⟨some 51, .callS 42, [.tmp 46, .tmp 50], none, 3, [9, 7, 8, 6, 3, 5, 4, 13, 10, 12, 11]⟩,
    ⟨some 52, .buildSl 25 (.arr 32 (.int .u8)) 2, [.tmp 43, .tmp 51], none, 4, [6, 3, 5, 4, 14, 9, 7, 8, 13, 10, 12, 11]⟩,
    ⟨some 53, .build [((.int .i64 0), 1), ((.nil 25 (.arr 32 (.int .u8))), 1), ((.nil 25 (.arr 32 (.int .u8))), 1)] [0, 1, 2], [.tmp 37, .tmp 39, .tmp 52], none, 5, [0, 2, 1, 15, 6, 3, 5, 4, 14, 9, 7, 8, 13, 10, 12, 11]⟩,
    ⟨none, .store 3, [.tmp 6, .tmp 53], none, 5, [16, 0, 2, 1, 15, 6, 3, 5, 4, 14, 9, 7, 8, 13, 10, 12, 11]⟩]) (.cut [6] (.ret)))))))) }
theorem ir22_tok {R : Type} {summ : Nat → Option Summ} {fu : Nat} {call : Nat → List CV → List Blk → (CV → List Blk → Option R) → Option R} {o0 : St → (Ex → St → Option R) → Option R} (h0 : ∀ T k r, o0 T k = some r → evLoopN (evCode summ fu call ir22_b0) (St.norm ir22_v0) fu T k = some r) : LTok summ fu call (ir22_t o0) ir22.body := ⟨trivial, ⟨trivial, ⟨trivial, ⟨⟨trivial, h0⟩, trivial⟩⟩⟩⟩


def ir23 : IFn :=
  { ntmps := 14, results := [.inr (2, true, 32)], body := (.seq (.region false 2 [
    ⟨some 1, .box 25, [.tmp 0], none, 0, []⟩,
    ⟨some 2, .alloc 25 (.pure (.arr 32 (.int .u8)) (List.replicate 32 (Ty.dflt (.int .u8)))), [], none, 0, []⟩]) (.seq (.region true 7 [
    ⟨some 3, .load true 32, [.tmp 1], none, 0, []⟩,
    ⟨some 4, .callS 44, [.tmp 3, .cst (.int .i64 0)], none, 0, [0]⟩,
    ⟨some 5, .load true 32, [.tmp 1], none, 1, []⟩,
    ⟨some 6, .callS 44, [.tmp 5, .cst (.int .i64 1)], none, 1, [2, 1, 0]⟩,
    ⟨some 7, .callS 40, [.tmp 4, .tmp 6], none, 2, [1, 0, 3, 2]⟩,
    ⟨some 8, .load true 32, [.tmp 1], none, 3, []⟩,
    ⟨some 9, .callS 44, [.tmp 8, .cst (.int .i64 2)], none, 3, [5, 4, 1, 0, 3, 2]⟩,
    ⟨some 10, .load true 32, [.tmp 1], none, 4, []⟩,
    ⟨some 11, .callS 44, [.tmp 10, .cst (.int .i64 3)], none, 4, [7, 6, 5, 4, 1, 0, 3, 2]⟩,
    ⟨some 12, .callS 40, [.tmp 9, .tmp 11], none, 5, [6, 5, 4, 1, 0, 3, 2, 8, 7]⟩,
    ⟨some 13, .callS 40, [.tmp 7, .tmp 12], none, 6, [4, 1, 0, 3, 2, 9, 6, 5, 8, 7]⟩,
    ⟨none, .store 32, [.tmp 2, .tmp 13], none, 7, [10, 4, 1, 0, 3, 2, 9, 6, 5, 8, 7]⟩]) (.cut [2] (.ret)))) }


def ir24 : IFn :=
  { ntmps := 14, results := [.inr (2, true, 32)], body := (.seq (.region false 2 [
    ⟨some 1, .box 25, [.tmp 0], none, 0, []⟩,
    ⟨some 2, .alloc 25 (.pure (.arr 32 (.int .u8)) (List.replicate 32 (Ty.dflt (.int .u8)))), [], none, 0, []⟩]) (.seq (.region true 7 [
    ⟨some 3, .load true 32, [.tmp 1], none, 0, []⟩,
    ⟨some 4, .callS 46, [.tmp 3, .cst (.int .i64 0)], none, 0, [0]⟩,
    ⟨some 5, .load true 32, [.tmp 1], none, 1, []⟩,
    ⟨some 6, .callS 46, [.tmp 5, .cst (.int .i64 1)], none, 1, [2, 1, 0]⟩,
    ⟨some 7, .callS 42, [.tmp 4, .tmp 6], none, 2, [1, 0, 3, 2]⟩,
    ⟨some 8, .load true 32, [.tmp 1], none, 3, []⟩,
    ⟨some 9, .callS 46, [.tmp 8, .cst (.int .i64 2)], none, 3, [5, 4, 1, 0, 3, 2]⟩,
    ⟨some 10, .load true 32, [.tmp 1], none, 4, []⟩,
    ⟨some 11, .callS 46, [.tmp 10, .cst (.int .i64 3)], none, 4, [7, 6, 5, 4, 1, 0, 3, 2]⟩,
    ⟨some 12, .callS 42, [.tmp 9, .tmp 11], none, 5, [6, 5, 4, 1, 0, 3, 2, 8, 7]⟩,
    ⟨some 13, .callS 42, [.tmp 7, .tmp 12], none, 6, [4, 1, 0, 3, 2, 9, 6, 5, 8, 7]⟩,
    ⟨none, .store 32, [.tmp 2, .tmp 13], none, 7, [10, 4, 1, 0, 3, 2, 9, 6, 5, 8, 7]⟩]) (.cut [2] (.ret)))) }


def ir25_b2 : IC := (.seq (.seq (.region false 0 [
            ⟨some 33, .mov, [.tmp 9], none, 0, []⟩,
            ⟨some 34, .bin .lss, [.tmp 33, .cst (.int .i64 32)], none, 0, []⟩]) (.cond (.tmp 34) (.skip) (.cut [4, 21, 22, 23, 27, 28, 29] (.exit 4)))) (.seq (.block 5 (.region false 3 [
             ⟨some 37, .mov, [.tmp 4], none, 0, []⟩,
             ⟨some 38, .mov, [.tmp 9], none, 0, []⟩,
             ⟨some 39, .sliceArr 32 (.int .u8) true false, [.tmp 8, .tmp 38], none, 0, []⟩,
             ⟨some 40, .callS 47, [.tmp 39], none, 0, []⟩,
             ⟨some 41, .buildSl 53 (.int .u32) 1, [.tmp 40], none, 0, []⟩,
             ⟨some 42, .append 53 (.int .u32) 4, [.tmp 37, .tmp 41], none, 0, []⟩,
             ⟨some 4, .mov, [.tmp 42], none, 0, []⟩])) (.region false 0 [
            ⟨some 35, .mov, [.tmp 9], none, 0, []⟩,
            ⟨some 36, .bin .add, [.tmp 35, .cst (.int .i64 4)], none, 0, []⟩,
            ⟨some 9, .mov, [.tmp 36], none, 0, []⟩])))
def ir25_v2 : List Nat := [4, 8, 9, 21, 22, 23, 27, 28, 29]
def ir25_b1 : IC := (.seq (.region false 0 [
         ⟨some 30, .bin .lss, [.tmp 29, .tmp 28], none, 0, []⟩]) (.seq (.cond (.tmp 30) (.skip) (.cut [4, 21, 22, 23] (.exit 2))) (.seq (.block 3 (.seq (.region false 1 [
          ⟨some 31, .idxSl 32, [.tmp 27, .tmp 29], none, 0, []⟩,
          ⟨some 32, .load true 32, [.tmp 31], none, 0, []⟩,
          ⟨some 8, .alloc 25 (.pure (.arr 32 (.int .u8)) (List.replicate 32 (Ty.dflt (.int .u8)))), [], none, 0, []⟩,
          ⟨none, .store 32, [.tmp 8, .tmp 32], none, 0, []⟩]) (.seq (.region false 0 [
          ⟨some 9, .mov, [.cst (.int .i64 0)], none, 0, []⟩]) (.block 4 (.loop ir25_v2 ir25_b2))))) (.region false 0 [
         ⟨some 43, .bin .add, [.tmp 29, .cst (.int .i64 1)], none, 0, []⟩,
         ⟨some 29, .mov, [.tmp 43], none, 0, []⟩]))))
def ir25_v1 : List Nat := [4, 21, 22, 23, 27, 28, 29]
def ir25_bt1 {R : Type} (o2 : St → (Ex → St → Option R) → Option R) : LT R := (.node .nil (.node .nil (.node (.node (.node .nil (.node .nil (.node (.orc o2) .nil))) .nil) .nil)))
def ir25_b0 : IC := (.seq (.region false 0 [
      ⟨some 24, .bin .lss, [.tmp 23, .tmp 22], none, 0, []⟩]) (.seq (.cond (.tmp 24) (.skip) (.cut [4] (.exit 0))) (.seq (.block 1 (.seq (.region false 0 [
       ⟨some 25, .idxSl 1, [.tmp 21, .tmp 23], none, 0, []⟩,
       ⟨some 26, .load false 1, [.tmp 25], none, 0, []⟩,
       ⟨some 6, .mov, [.tmp 26], none, 0, []⟩]) (.seq (.region false 0 [
       ⟨some 27, .mov, [.tmp 6], none, 0, []⟩,
       ⟨some 28, .len, [.tmp 27], none, 0, []⟩,
       ⟨some 29, .mov, [.cst (.int .i64 0)], none, 0, []⟩]) (.block 2 (.loop ir25_v1 ir25_b1))))) (.region false 0 [
      ⟨some 44, .bin .add, [.tmp 23, .cst (.int .i64 1)], none, 0, []⟩,
      ⟨some 23, .mov, [.tmp 44], none, 0, []⟩]))))
def ir25_v0 : List Nat := [4, 21, 22, 23]
def ir25_bt0 {R : Type} (o1 : St → (Ex → St → Option R) → Option R) : LT R := (.node .nil (.node .nil (.node (.node (.node .nil (.node .nil (.node (.orc o1) .nil))) .nil) .nil)))
def ir25_t {R : Type} (o0 : St → (Ex → St → Option R) → Option R) : LT R := (.node .nil (.node .nil (.node .nil (.node (.node .nil (.node (.orc o0) .nil)) .nil))))
def ir25 : IFn :=
  { ntmps := 46, results := [.inl 2, .inl 3], body := (.seq (.region false 1 [
    ⟨some 1, .box 39, [.tmp 0], none, 0, []⟩,
    ⟨some 2, .mov, [.cst (.nil 53 (.int .u32))], none, 0, []⟩,
    ⟨some 3, .mov, [.cst (.int .i64 0)], none, 0, []⟩]) (.seq (.seq (.region false 1 [
    ⟨some 10, .load true 3, [.tmp 1], none, 0, []⟩,
    ⟨some 11, .callS 38, [.tmp 10], none, 0, []⟩,
    ⟨some 12, .not, [.tmp 11], none, 0, []⟩]) (.cond (.tmp 12) (.seq (.region false 0 [
     ⟨some 2, .mov, [.cst (.nil 53 (.int .u32))], none, 0, []⟩,
     ⟨some 3, .mov, [.cst (.int .i64 1)], none, 0, []⟩]) (.cut [2, 3] (.ret))) (.skip))) (.seq (.region false 1 [
    ⟨some 13, .fieldAddr 0 0, [.tmp 1], none, 0, []⟩,
    ⟨some 14, .load false 1, [.tmp 13], none, 0, []⟩,
    ⟨some 15, .conv .u32, [.tmp 14], none, 0, []⟩,
    ⟨some 16, .buildSl 53 (.int .u32) 1, [.tmp 15], none, 0, []⟩,
    ⟨some 4, .mov, [.tmp 16], none, 0, []⟩]) (.seq (.seq (.region false 1 [
    ⟨some 17, .fieldAddr 1 1, [.tmp 1], none, 0, []⟩,
    ⟨some 18, .load false 1, [.tmp 17], none, 0, []⟩,
    ⟨some 19, .fieldAddr 2 2, [.tmp 1], none, 0, []⟩,
    ⟨some 20, .load false 1, [.tmp 19], none, 0, []⟩,
    ⟨some 21, .buildSl 37 (.slice (.arr 32 (.int .u8))) 2, [.tmp 18, .tmp 20], none, 0, []⟩,
    ⟨some 22, .len, [.tmp 21], none, 0, []⟩,
    ⟨some 23, .mov, [.cst (.int .i64 0)], none, 0, []⟩]) (.block 0 (.loop ir25_v0 ir25_b0))) (.seq (.region false 0 [
    ⟨some 45, .mov, [.tmp 4], none, 0, []⟩,
    ⟨some 2, .mov, [.tmp 45], none, 0, []⟩,
    ⟨some 3, .mov, [.cst (.int .i64 0)], none, 0, []⟩]) (.cut [2, 3] (.ret))))))) }
theorem ir25_bt1ok {R : Type} {summ : Nat → Option Summ} {fu : Nat} {call : Nat → List CV → List Blk → (CV → List Blk → Option R) → Option R} {o2 : St → (Ex → St → Option R) → Option R} (h2 : ∀ T k r, o2 T k = some r → evLoopN (evCode summ fu call ir25_b2) (St.norm ir25_v2) fu T k = some r) : LTok summ fu call (ir25_bt1 o2) ir25_b1 := ⟨trivial, ⟨trivial, ⟨⟨trivial, ⟨trivial, h2⟩⟩, trivial⟩⟩⟩
theorem ir25_bt0ok {R : Type} {summ : Nat → Option Summ} {fu : Nat} {call : Nat → List CV → List Blk → (CV → List Blk → Option R) → Option R} {o1 : St → (Ex → St → Option R) → Option R} (h1 : ∀ T k r, o1 T k = some r → evLoopN (evCode summ fu call ir25_b1) (St.norm ir25_v1) fu T k = some r) : LTok summ fu call (ir25_bt0 o1) ir25_b0 := ⟨trivial, ⟨trivial, ⟨⟨trivial, ⟨trivial, h1⟩⟩, trivial⟩⟩⟩
theorem ir25_tok {R : Type} {summ : Nat → Option Summ} {fu : Nat} {call : Nat → List CV → List Blk → (CV → List Blk → Option R) → Option R} {o0 : St → (Ex → St → Option R) → Option R} (h0 : ∀ T k r, o0 T k = some r → evLoopN (evCode summ fu call ir25_b0) (St.norm ir25_v0) fu T k = some r) : LTok summ fu call (ir25_t o0) ir25.body := ⟨trivial, ⟨trivial, ⟨trivial, ⟨⟨trivial, h0⟩, trivial⟩⟩⟩⟩


def ir26 : IFn :=
  { ntmps := 23, results := [.inl 2], body := (.seq (.region false 1 [
    ⟨some 1, .box 39, [.tmp 0], none, 0, []⟩,
    ⟨some 2, .mov, [.cst (.bool false)], none, 0, []⟩]) (.seq (.region false 0 [
    ⟨some 3, .fieldAddr 0 0, [.tmp 1], none, 0, []⟩,
    ⟨some 4, .load false 1, [.tmp 3], none, 0, []⟩,
    ⟨some 5, .bin .geq, [.tmp 4, .cst (.int .i64 0)], none, 0, []⟩,
    ⟨some 6, .mov, [.tmp 5], none, 0, []⟩,
    ⟨some 7, .fieldAddr 0 0, [.tmp 1], some (6, true), 0, []⟩,
    ⟨some 8, .load false 1, [.tmp 7], some (6, true), 0, []⟩,
    ⟨some 9, .bin .leq, [.tmp 8, .cst (.int .i64 3)], some (6, true), 0, []⟩,
    ⟨some 10, .pick, [.tmp 6, .tmp 9, .cst (.bool false)], none, 0, []⟩,
    ⟨some 11, .mov, [.tmp 10], none, 0, []⟩,
    ⟨some 12, .fieldAddr 1 1, [.tmp 1], some (11, true), 0, []⟩,
    ⟨some 13, .load false 1, [.tmp 12], some (11, true), 0, []⟩,
    ⟨some 14, .len, [.tmp 13], some (11, true), 0, []⟩,
    ⟨some 15, .bin .eql, [.tmp 14, .cst (.int .i64 67)], some (11, true), 0, []⟩,
    ⟨some 16, .pick, [.tmp 11, .tmp 15, .cst (.bool false)], none, 0, []⟩,
    ⟨some 17, .mov, [.tmp 16], none, 0, []⟩,
    ⟨some 18, .fieldAddr 2 2, [.tmp 1], some (17, true), 0, []⟩,
    ⟨some 19, .load false 1, [.tmp 18], some (17, true), 0, []⟩,
    ⟨some 20, .len, [.tmp 19], some (17, true), 0, []⟩,
    ⟨some 21, .bin .eql, [.tmp 20, .cst (.int .i64 2)], some (17, true), 0, []⟩,
    ⟨some 22, .pick, [.tmp 17, .tmp 21, .cst (.bool false)], none, 0, []⟩,
    ⟨some 2, .mov, [.tmp 22], none, 0, []⟩]) (.cut [2] (.ret)))) }


def ir27_b1 : IC := (.seq (.region false 0 [
         ⟨some 27, .bin .lss, [.tmp 26, .cst (.int .i64 8)], none, 0, []⟩]) (.seq (.cond (.tmp 27) (.skip) (.cut [0, 2, 4, 5, 6, 23] (.exit 2))) (.seq (.block 3 (.seq (.region false 0 [
          ⟨some 28, .mov, [.tmp 26], none, 0, []⟩,
          ⟨some 7, .mov, [.tmp 28], none, 0, []⟩]) (.seq (.region true 0 [
          ⟨some 29, .mov, [.tmp 7], none, 0, []⟩,
          ⟨some 30, .bin .mul, [.cst (.int .i64 4), .tmp 29], none, 0, [0]⟩,
          ⟨some 31, .sliceArr 32 (.int .u8) true false, [.tmp 6, .tmp 30], none, 0, [1, 0]⟩,
          ⟨some 32, .mov, [.tmp 0], none, 0, []⟩,
          ⟨some 33, .mov, [.tmp 5], none, 0, []⟩,
          ⟨some 34, .bin .mul, [.cst (.int .i64 8), .tmp 33], none, 0, [4]⟩,
          ⟨some 35, .bin .add, [.cst (.int .i64 1), .tmp 34], none, 0, [5, 4]⟩,
          ⟨some 36, .mov, [.tmp 7], none, 0, []⟩,
          ⟨some 37, .bin .add, [.tmp 35, .tmp 36], none, 0, [6, 5, 4, 7]⟩,
          ⟨some 38, .idxSl 1, [.tmp 32, .tmp 37], none, 0, [3, 8, 6, 5, 4, 7]⟩,
          ⟨some 39, .load false 1, [.tmp 38], none, 0, [9, 3, 8, 6, 5, 4, 7]⟩]) (.region false 0 [
          ⟨some 40, .call 34, [.tmp 31, .tmp 39], none, 0, [2, 1, 0, 10, 9, 3, 8, 6, 5, 4, 7]⟩])))) (.region false 0 [
         ⟨some 41, .bin .add, [.tmp 26, .cst (.int .i64 1)], none, 0, []⟩,
         ⟨some 26, .mov, [.tmp 41], none, 0, []⟩]))))
def ir27_v1 : List Nat := [0, 2, 4, 5, 6, 23, 26]
def ir27_b0 : IC := (.seq (.region false 0 [
      ⟨some 24, .bin .lss, [.tmp 23, .cst (.int .i64 69)], none, 0, []⟩]) (.seq (.cond (.tmp 24) (.skip) (.cut [2, 4] (.exit 0))) (.seq (.block 1 (.seq (.region false 0 [
       ⟨some 25, .mov, [.tmp 23], none, 0, []⟩,
       ⟨some 5, .mov, [.tmp 25], none, 0, []⟩]) (.seq (.region false 1 [
       ⟨some 6, .alloc 25 (.pure (.arr 32 (.int .u8)) (List.replicate 32 (Ty.dflt (.int .u8)))), [], none, 0, []⟩]) (.seq (.seq (.region false 0 [
       ⟨some 26, .mov, [.cst (.int .i64 0)], none, 0, []⟩]) (.block 2 (.loop ir27_v1 ir27_b1))) (.seq (.region false 0 [
       ⟨some 42, .mov, [.tmp 5], none, 0, []⟩,
       ⟨some 43, .bin .lss, [.tmp 42, .cst (.int .i64 67)], none, 0, []⟩]) (.cond (.tmp 43) (.region false 2 [
        ⟨some 44, .fieldAddr 1 1, [.tmp 4], none, 0, []⟩,
        ⟨some 45, .load false 1, [.tmp 44], none, 0, []⟩,
        ⟨some 46, .load true 32, [.tmp 6], none, 0, []⟩,
        ⟨some 47, .buildSl 25 (.arr 32 (.int .u8)) 1, [.tmp 46], none, 0, []⟩,
        ⟨some 48, .append 25 (.arr 32 (.int .u8)) 32, [.tmp 45, .tmp 47], none, 0, []⟩,
        ⟨some 49, .fieldAddr 1 1, [.tmp 4], none, 0, []⟩,
        ⟨none, .store 1, [.tmp 49, .tmp 48], none, 0, []⟩]) (.region false 2 [
        ⟨some 50, .fieldAddr 2 2, [.tmp 4], none, 0, []⟩,
        ⟨some 51, .load false 1, [.tmp 50], none, 0, []⟩,
        ⟨some 52, .load true 32, [.tmp 6], none, 0, []⟩,
        ⟨some 53, .buildSl 25 (.arr 32 (.int .u8)) 1, [.tmp 52], none, 0, []⟩,
        ⟨some 54, .append 25 (.arr 32 (.int .u8)) 32, [.tmp 51, .tmp 53], none, 0, []⟩,
        ⟨some 55, .fieldAddr 2 2, [.tmp 4], none, 0, []⟩,
        ⟨none, .store 1, [.tmp 55, .tmp 54], none, 0, []⟩]))))))) (.region false 0 [
      ⟨some 56, .bin .add, [.tmp 23, .cst (.int .i64 1)], none, 0, []⟩,
      ⟨some 23, .mov, [.tmp 56], none, 0, []⟩]))))
def ir27_v0 : List Nat := [0, 2, 4, 23]
def ir27_bt0 {R : Type} (o1 : St → (Ex → St → Option R) → Option R) : LT R := (.node .nil (.node .nil (.node (.node (.node .nil (.node .nil (.node (.node .nil (.node (.orc o1) .nil)) .nil))) .nil) .nil)))
def ir27_t {R : Type} (o0 : St → (Ex → St → Option R) → Option R) : LT R := (.node .nil (.node .nil (.node .nil (.node (.node .nil (.node (.orc o0) .nil)) .nil))))
def ir27 : IFn :=
  { ntmps := 58, results := [.inr (2, true, 3), .inl 3], body := (.seq (.region false 1 [
    ⟨some 2, .alloc 39 (.pair (.int .i64 0) (.pair (.nil 25 (.arr 32 (.int .u8))) (.pair (.nil 25 (.arr 32 (.int .u8))) (.pure .unit ())))), [], none, 0, []⟩,
    ⟨some 3, .mov, [.cst (.int .i64 0)], none, 0, []⟩]) (.seq (.seq (.region false 0 [
    ⟨some 8, .mov, [.tmp 0], none, 0, []⟩,
    ⟨some 9, .len, [.tmp 8], none, 0, []⟩,
    ⟨some 10, .bin .neq, [.tmp 9, .cst (.int .i64 553)], none, 0, []⟩,
    ⟨some 11, .mov, [.tmp 10], none, 0, []⟩,
    ⟨some 12, .mov, [.tmp 0], some (11, false), 0, []⟩,
    ⟨some 13, .idxSl 1, [.tmp 12, .cst (.int .i64 0)], some (11, false), 0, []⟩,
    ⟨some 14, .load false 1, [.tmp 13], some (11, false), 0, []⟩,
    ⟨some 15, .bin .geq, [.tmp 14, .cst (.int .u32 4)], some (11, false), 0, []⟩,
    ⟨some 16, .pick, [.tmp 11, .cst (.bool true), .tmp 15], none, 0, []⟩]) (.cond (.tmp 16) (.seq (.region false 0 [
     ⟨some 17, .build [((.int .i64 0), 1), ((.nil 25 (.arr 32 (.int .u8))), 1), ((.nil 25 (.arr 32 (.int .u8))), 1)] [], [], none, 0, []⟩,
     ⟨none, .store 3, [.tmp 2, .tmp 17], none, 0, []⟩,
     ⟨some 3, .mov, [.cst (.int .i64 3)], none, 0, []⟩]) (.cut [2, 3] (.ret))) (.skip))) (.seq (.region false 1 [
    ⟨some 18, .mov, [.tmp 0], none, 0, []⟩,
    ⟨some 19, .idxSl 1, [.tmp 18, .cst (.int .i64 0)], none, 0, []⟩,
    ⟨some 20, .load false 1, [.tmp 19], none, 0, []⟩,
    ⟨some 21, .conv .i64, [.tmp 20], none, 0, []⟩,
    ⟨some 22, .build [((.int .i64 0), 1), ((.nil 25 (.arr 32 (.int .u8))), 1), ((.nil 25 (.arr 32 (.int .u8))), 1)] [0], [.tmp 21], none, 0, []⟩,
    ⟨some 4, .alloc 39 (.pair (.int .i64 0) (.pair (.nil 25 (.arr 32 (.int .u8))) (.pair (.nil 25 (.arr 32 (.int .u8))) (.pure .unit ())))), [], none, 0, []⟩,
    ⟨none, .store 3, [.tmp 4, .tmp 22], none, 0, []⟩]) (.seq (.seq (.region false 0 [
    ⟨some 23, .mov, [.cst (.int .i64 0)], none, 0, []⟩]) (.block 0 (.loop ir27_v0 ir27_b0))) (.seq (.region false 0 [
    ⟨some 57, .load true 3, [.tmp 4], none, 0, []⟩,
    ⟨none, .store 3, [.tmp 2, .tmp 57], none, 0, []⟩,
    ⟨some 3, .mov, [.cst (.int .i64 0)], none, 0, []⟩]) (.cut [2, 3] (.ret))))))) }
theorem ir27_bt0ok {R : Type} {summ : Nat → Option Summ} {fu : Nat} {call : Nat → List CV → List Blk → (CV → List Blk → Option R) → Option R} {o1 : St → (Ex → St → Option R) → Option R} (h1 : ∀ T k r, o1 T k = some r → evLoopN (evCode summ fu call ir27_b1) (St.norm ir27_v1) fu T k = some r) : LTok summ fu call (ir27_bt0 o1) ir27_b0 := ⟨trivial, ⟨trivial, ⟨⟨trivial, ⟨trivial, ⟨⟨trivial, h1⟩, trivial⟩⟩⟩, trivial⟩⟩⟩
theorem ir27_tok {R : Type} {summ : Nat → Option Summ} {fu : Nat} {call : Nat → List CV → List Blk → (CV → List Blk → Option R) → Option R} {o0 : St → (Ex → St → Option R) → Option R} (h0 : ∀ T k r, o0 T k = some r → evLoopN (evCode summ fu call ir27_b0) (St.norm ir27_v0) fu T k = some r) : LTok summ fu call (ir27_t o0) ir27.body := ⟨trivial, ⟨trivial, ⟨trivial, ⟨⟨trivial, h0⟩, trivial⟩⟩⟩⟩


def ir28_b0 : IC := (.seq (.region false 0 [
      ⟨some 14, .bin .lss, [.tmp 13, .tmp 12], none, 0, []⟩]) (.seq (.cond (.tmp 14) (.skip) (.cut [] (.exit 0))) (.seq (.block 1 (.seq (.region false 0 [
       ⟨some 15, .mov, [.tmp 13], none, 0, []⟩,
       ⟨some 5, .mov, [.tmp 15], none, 0, []⟩]) (.seq (.region true 0 [
       ⟨some 16, .mov, [.tmp 0], none, 0, []⟩,
       ⟨some 17, .mov, [.tmp 5], none, 0, []⟩,
       ⟨some 18, .idxSl 1, [.tmp 16, .tmp 17], none, 0, [0, 1]⟩,
       ⟨some 19, .load false 1, [.tmp 18], none, 0, [2, 0, 1]⟩,
       ⟨some 20, .mov, [.tmp 1], none, 0, []⟩,
       ⟨some 21, .mov, [.tmp 5], none, 0, []⟩,
       ⟨some 22, .idxSl 1, [.tmp 20, .tmp 21], none, 0, [4, 5]⟩,
       ⟨some 23, .load false 1, [.tmp 22], none, 0, [6, 4, 5]⟩,
       ⟨some 24, .bin .neq, [.tmp 19, .tmp 23], none, 0, [3, 2, 0, 1, 7, 6, 4, 5]⟩]) (.cond (.tmp 24) (.seq (.region false 0 [
        ⟨some 4, .mov, [.cst (.bool false)], none, 0, []⟩]) (.cut [4] (.ret))) (.skip))))) (.region false 0 [
      ⟨some 25, .bin .add, [.tmp 13, .cst (.int .i64 1)], none, 0, []⟩,
      ⟨some 13, .mov, [.tmp 25], none, 0, []⟩]))))
def ir28_v0 : List Nat := [0, 1, 12, 13]
def ir28_t {R : Type} (o0 : St → (Ex → St → Option R) → Option R) : LT R := (.node .nil (.node .nil (.node (.node .nil (.node (.orc o0) .nil)) .nil)))
def ir28 : IFn :=
  { ntmps := 26, results := [.inl 4], body := (.seq (.region false 0 [
    ⟨some 4, .mov, [.cst (.bool false)], none, 0, []⟩]) (.seq (.seq (.region false 0 [
    ⟨some 6, .mov, [.tmp 0], none, 0, []⟩,
    ⟨some 7, .len, [.tmp 6], none, 0, []⟩,
    ⟨some 8, .mov, [.tmp 1], none, 0, []⟩,
    ⟨some 9, .len, [.tmp 8], none, 0, []⟩,
    ⟨some 10, .bin .neq, [.tmp 7, .tmp 9], none, 0, []⟩]) (.cond (.tmp 10) (.seq (.region false 0 [
     ⟨some 4, .mov, [.cst (.bool false)], none, 0, []⟩]) (.cut [4] (.ret))) (.skip))) (.seq (.seq (.region false 0 [
    ⟨some 11, .mov, [.tmp 0], none, 0, []⟩,
    ⟨some 12, .len, [.tmp 11], none, 0, []⟩,
    ⟨some 13, .mov, [.cst (.int .i64 0)], none, 0, []⟩]) (.block 0 (.loop ir28_v0 ir28_b0))) (.seq (.region false 0 [
    ⟨some 4, .mov, [.cst (.bool true)], none, 0, []⟩]) (.cut [4] (.ret)))))) }
theorem ir28_tok {R : Type} {summ : Nat → Option Summ} {fu : Nat} {call : Nat → List CV → List Blk → (CV → List Blk → Option R) → Option R} {o0 : St → (Ex → St → Option R) → Option R} (h0 : ∀ T k r, o0 T k = some r → evLoopN (evCode summ fu call ir28_b0) (St.norm ir28_v0) fu T k = some r) : LTok summ fu call (ir28_t o0) ir28.body := ⟨trivial, ⟨trivial, ⟨⟨trivial, h0⟩, trivial⟩⟩⟩


def ir29_b0 : IC := (.seq (.seq (.region false 0 [
      ⟨some 10, .mov, [.tmp 4], none, 0, []⟩,
      ⟨some 11, .bin .lss, [.tmp 10, .cst (.int .i64 67)], none, 0, []⟩]) (.cond (.tmp 11) (.skip) (.cut [1, 3] (.exit 0)))) (.seq (.block 1 (.region false 2 [
       ⟨some 14, .mov, [.tmp 3], none, 0, []⟩,
       ⟨some 15, .fieldAddr 1 1, [.tmp 1], none, 0, []⟩,
       ⟨some 16, .load false 1, [.tmp 15], none, 0, []⟩,
       ⟨some 17, .mov, [.tmp 4], none, 0, []⟩,
       ⟨some 18, .idxSl 32, [.tmp 16, .tmp 17], none, 0, []⟩,
       ⟨some 19, .load true 32, [.tmp 18], none, 0, []⟩,
       ⟨some 20, .callS 48, [.tmp 19], none, 0, []⟩,
       ⟨some 21, .append 53 (.int .u32) 4, [.tmp 14, .tmp 20], none, 0, []⟩,
       ⟨some 3, .mov, [.tmp 21], none, 0, []⟩])) (.region false 0 [
      ⟨some 12, .mov, [.tmp 4], none, 0, []⟩,
      ⟨some 13, .bin .add, [.tmp 12, .cst (.int .i64 1)], none, 0, []⟩,
      ⟨some 4, .mov, [.tmp 13], none, 0, []⟩])))
def ir29_v0 : List Nat := [1, 3, 4]
def ir29_b1 : IC := (.seq (.seq (.region false 0 [
      ⟨some 22, .mov, [.tmp 5], none, 0, []⟩,
      ⟨some 23, .bin .lss, [.tmp 22, .cst (.int .i64 2)], none, 0, []⟩]) (.cond (.tmp 23) (.skip) (.cut [3] (.exit 2)))) (.seq (.block 3 (.region false 2 [
       ⟨some 26, .mov, [.tmp 3], none, 0, []⟩,
       ⟨some 27, .fieldAddr 2 2, [.tmp 1], none, 0, []⟩,
       ⟨some 28, .load false 1, [.tmp 27], none, 0, []⟩,
       ⟨some 29, .mov, [.tmp 5], none, 0, []⟩,
       ⟨some 30, .idxSl 32, [.tmp 28, .tmp 29], none, 0, []⟩,
       ⟨some 31, .load true 32, [.tmp 30], none, 0, []⟩,
       ⟨some 32, .callS 48, [.tmp 31], none, 0, []⟩,
       ⟨some 33, .append 53 (.int .u32) 4, [.tmp 26, .tmp 32], none, 0, []⟩,
       ⟨some 3, .mov, [.tmp 33], none, 0, []⟩])) (.region false 0 [
      ⟨some 24, .mov, [.tmp 5], none, 0, []⟩,
      ⟨some 25, .bin .add, [.tmp 24, .cst (.int .i64 1)], none, 0, []⟩,
      ⟨some 5, .mov, [.tmp 25], none, 0, []⟩])))
def ir29_v1 : List Nat := [1, 3, 5]
def ir29_t {R : Type} (o0 o1 : St → (Ex → St → Option R) → Option R) : LT R := (.node .nil (.node .nil (.node (.node .nil (.node (.orc o0) .nil)) (.node (.node .nil (.node (.orc o1) .nil)) .nil))))
def ir29 : IFn :=
  { ntmps := 35, results := [.inl 2], body := (.seq (.region false 1 [
    ⟨some 1, .box 39, [.tmp 0], none, 0, []⟩,
    ⟨some 2, .mov, [.cst (.nil 53 (.int .u32))], none, 0, []⟩]) (.seq (.region false 1 [
    ⟨some 6, .fieldAddr 0 0, [.tmp 1], none, 0, []⟩,
    ⟨some 7, .load false 1, [.tmp 6], none, 0, []⟩,
    ⟨some 8, .conv .u32, [.tmp 7], none, 0, []⟩,
    ⟨some 9, .buildSl 53 (.int .u32) 1, [.tmp 8], none, 0, []⟩,
    ⟨some 3, .mov, [.tmp 9], none, 0, []⟩]) (.seq (.seq (.region false 0 [
    ⟨some 4, .mov, [.cst (.int .i64 0)], none, 0, []⟩]) (.block 0 (.loop ir29_v0 ir29_b0))) (.seq (.seq (.region false 0 [
    ⟨some 5, .mov, [.cst (.int .i64 0)], none, 0, []⟩]) (.block 2 (.loop ir29_v1 ir29_b1))) (.seq (.region false 0 [
    ⟨some 34, .mov, [.tmp 3], none, 0, []⟩,
    ⟨some 2, .mov, [.tmp 34], none, 0, []⟩]) (.cut [2] (.ret))))))) }
theorem ir29_tok {R : Type} {summ : Nat → Option Summ} {fu : Nat} {call : Nat → List CV → List Blk → (CV → List Blk → Option R) → Option R} {o0 o1 : St → (Ex → St → Option R) → Option R} (h0 : ∀ T k r, o0 T k = some r → evLoopN (evCode summ fu call ir29_b0) (St.norm ir29_v0) fu T k = some r) (h1 : ∀ T k r, o1 T k = some r → evLoopN (evCode summ fu call ir29_b1) (St.norm ir29_v1) fu T k = some r) : LTok summ fu call (ir29_t o0 o1) ir29.body := ⟨trivial, ⟨trivial, ⟨⟨trivial, h0⟩, ⟨⟨trivial, h1⟩, trivial⟩⟩⟩⟩


def ir30_b1 : IC := (.seq (.seq (.region false 0 [
         ⟨some 27, .mov, [.tmp 7], none, 0, []⟩,
         ⟨some 28, .bin .lss, [.tmp 27, .cst (.int .i64 32)], none, 0, []⟩]) (.cond (.tmp 28) (.skip) (.cut [0, 2, 4, 5, 6] (.exit 2)))) (.seq (.block 3 (.region false 0 [
          ⟨some 31, .mov, [.tmp 7], none, 0, []⟩,
          ⟨some 32, .mov, [.tmp 0], none, 0, []⟩,
          ⟨some 33, .mov, [.tmp 5], none, 0, []⟩,
          ⟨some 34, .bin .mul, [.cst (.int .i64 8), .tmp 33], none, 0, []⟩,
          ⟨some 35, .bin .add, [.cst (.int .i64 1), .tmp 34], none, 0, []⟩,
          ⟨some 36, .mov, [.tmp 7], none, 0, []⟩,
          ⟨some 37, .bin .quo, [.tmp 36, .cst (.int .i64 4)], none, 0, []⟩,
          ⟨some 38, .bin .add, [.tmp 35, .tmp 37], none, 0, []⟩,
          ⟨some 39, .idxSl 1, [.tmp 32, .tmp 38], none, 0, []⟩,
          ⟨some 40, .load false 1, [.tmp 39], none, 0, []⟩,
          ⟨some 41, .mov, [.tmp 7], none, 0, []⟩,
          ⟨some 42, .bin .rem, [.tmp 41, .cst (.int .i64 4)], none, 0, []⟩,
          ⟨some 43, .bin .mul, [.tmp 42, .cst (.int .i64 8)], none, 0, []⟩,
          ⟨some 44, .bin .sub, [.cst (.int .i64 24), .tmp 43], none, 0, []⟩,
          ⟨some 45, .conv .u64, [.tmp 44], none, 0, []⟩,
          ⟨some 46, .bin .shr, [.tmp 40, .tmp 45], none, 0, []⟩,
          ⟨some 47, .conv .u8, [.tmp 46], none, 0, []⟩,
          ⟨some 48, .idxArr 32 1, [.tmp 6, .tmp 31], none, 0, []⟩,
          ⟨none, .store 1, [.tmp 48, .tmp 47], none, 0, []⟩])) (.region false 0 [
         ⟨some 29, .mov, [.tmp 7], none, 0, []⟩,
         ⟨some 30, .bin .add, [.tmp 29, .cst (.int .i64 1)], none, 0, []⟩,
         ⟨some 7, .mov, [.tmp 30], none, 0, []⟩])))
def ir30_v1 : List Nat := [0, 2, 4, 5, 6, 7]
def ir30_b0 : IC := (.seq (.seq (.region false 0 [
      ⟨some 23, .mov, [.tmp 5], none, 0, []⟩,
      ⟨some 24, .bin .lss, [.tmp 23, .cst (.int .i64 69)], none, 0, []⟩]) (.cond (.tmp 24) (.skip) (.cut [2, 4] (.exit 0)))) (.seq (.block 1 (.seq (.region false 1 [
       ⟨some 6, .alloc 25 (.pure (.arr 32 (.int .u8)) (List.replicate 32 (Ty.dflt (.int .u8)))), [], none, 0, []⟩]) (.seq (.seq (.region false 0 [
       ⟨some 7, .mov, [.cst (.int .i64 0)], none, 0, []⟩]) (.block 2 (.loop ir30_v1 ir30_b1))) (.seq (.region false 0 [
       ⟨some 49, .mov, [.tmp 5], none, 0, []⟩,
       ⟨some 50, .bin .lss, [.tmp 49, .cst (.int .i64 67)], none, 0, []⟩]) (.cond (.tmp 50) (.region false 2 [
        ⟨some 51, .fieldAddr 1 1, [.tmp 4], none, 0, []⟩,
        ⟨some 52, .load false 1, [.tmp 51], none, 0, []⟩,
        ⟨some 53, .load true 32, [.tmp 6], none, 0, []⟩,
        ⟨some 54, .buildSl 25 (.arr 32 (.int .u8)) 1, [.tmp 53], none, 0, []⟩,
        ⟨some 55, .append 25 (.arr 32 (.int .u8)) 32, [.tmp 52, .tmp 54], none, 0, []⟩,
        ⟨some 56, .fieldAddr 1 1, [.tmp 4], none, 0, []⟩,
        ⟨none, .store 1, [.tmp 56, .tmp 55], none, 0, []⟩]) (.region false 2 [
        ⟨some 57, .fieldAddr 2 2, [.tmp 4], none, 0, []⟩,
        ⟨some 58, .load false 1, [.tmp 57], none, 0, []⟩,
        ⟨some 59, .load true 32, [.tmp 6], none, 0, []⟩,
        ⟨some 60, .buildSl 25 (.arr 32 (.int .u8)) 1, [.tmp 59], none, 0, []⟩,
        ⟨some 61, .append 25 (.arr 32 (.int .u8)) 32, [.tmp 58, .tmp 60], none, 0, []⟩,
        ⟨some 62, .fieldAddr 2 2, [.tmp 4], none, 0, []⟩,
        ⟨none, .store 1, [.tmp 62, .tmp 61], none, 0, []⟩])))))) (.region false 0 [
      ⟨some 25, .mov, [.tmp 5], none, 0, []⟩,
      ⟨some 26, .bin .add, [.tmp 25, .cst (.int .i64 1)], none, 0, []⟩,
      ⟨some 5, .mov, [.tmp 26], none, 0, []⟩])))
def ir30_v0 : List Nat := [0, 2, 4, 5]
def ir30_bt0 {R : Type} (o1 : St → (Ex → St → Option R) → Option R) : LT R := (.node .nil (.node (.node (.node .nil (.node (.node .nil (.node (.orc o1) .nil)) .nil)) .nil) .nil))
def ir30_t {R : Type} (o0 : St → (Ex → St → Option R) → Option R) : LT R := (.node .nil (.node .nil (.node .nil (.node (.node .nil (.node (.orc o0) .nil)) .nil))))
def ir30 : IFn :=
  { ntmps := 64, results := [.inr (2, true, 3), .inl 3], body := (.seq (.region false 1 [
    ⟨some 2, .alloc 39 (.pair (.int .i64 0) (.pair (.nil 25 (.arr 32 (.int .u8))) (.pair (.nil 25 (.arr 32 (.int .u8))) (.pure .unit ())))), [], none, 0, []⟩,
    ⟨some 3, .mov, [.cst (.bool false)], none, 0, []⟩]) (.seq (.seq (.region false 0 [
    ⟨some 8, .mov, [.tmp 0], none, 0, []⟩,
    ⟨some 9, .len, [.tmp 8], none, 0, []⟩,
    ⟨some 10, .bin .neq, [.tmp 9, .cst (.int .i64 553)], none, 0, []⟩,
    ⟨some 11, .mov, [.tmp 10], none, 0, []⟩,
    ⟨some 12, .mov, [.tmp 0], some (11, false), 0, []⟩,
    ⟨some 13, .idxSl 1, [.tmp 12, .cst (.int .i64 0)], some (11, false), 0, []⟩,
    ⟨some 14, .load false 1, [.tmp 13], some (11, false), 0, []⟩,
    ⟨some 15, .bin .gtr, [.tmp 14, .cst (.int .u32 3)], some (11, false), 0, []⟩,
    ⟨some 16, .pick, [.tmp 11, .cst (.bool true), .tmp 15], none, 0, []⟩]) (.cond (.tmp 16) (.seq (.region false 0 [
     ⟨some 17, .build [((.int .i64 0), 1), ((.nil 25 (.arr 32 (.int .u8))), 1), ((.nil 25 (.arr 32 (.int .u8))), 1)] [], [], none, 0, []⟩,
     ⟨none, .store 3, [.tmp 2, .tmp 17], none, 0, []⟩,
     ⟨some 3, .mov, [.cst (.bool false)], none, 0, []⟩]) (.cut [2, 3] (.ret))) (.skip))) (.seq (.region false 1 [
    ⟨some 18, .mov, [.tmp 0], none, 0, []⟩,
    ⟨some 19, .idxSl 1, [.tmp 18, .cst (.int .i64 0)], none, 0, []⟩,
    ⟨some 20, .load false 1, [.tmp 19], none, 0, []⟩,
    ⟨some 21, .conv .i64, [.tmp 20], none, 0, []⟩,
    ⟨some 22, .build [((.int .i64 0), 1), ((.nil 25 (.arr 32 (.int .u8))), 1), ((.nil 25 (.arr 32 (.int .u8))), 1)] [0], [.tmp 21], none, 0, []⟩,
    ⟨some 4, .alloc 39 (.pair (.int .i64 0) (.pair (.nil 25 (.arr 32 (.int .u8))) (.pair (.nil 25 (.arr 32 (.int .u8))) (.pure .unit ())))), [], none, 0, []⟩,
    ⟨none, .store 3, [.tmp 4, .tmp 22], none, 0, []⟩]) (.seq (.seq (.region false 0 [
    ⟨some 5, .mov, [.cst (.int .i64 0)], none, 0, []⟩]) (.block 0 (.loop ir30_v0 ir30_b0))) (.seq (.region false 0 [
    ⟨some 63, .load true 3, [.tmp 4], none, 0, []⟩,
    ⟨none, .store 3, [.tmp 2, .tmp 63], none, 0, []⟩,
    ⟨some 3, .mov, [.cst (.bool true)], none, 0, []⟩]) (.cut [2, 3] (.ret))))))) }
theorem ir30_bt0ok {R : Type} {summ : Nat → Option Summ} {fu : Nat} {call : Nat → List CV → List Blk → (CV → List Blk → Option R) → Option R} {o1 : St → (Ex → St → Option R) → Option R} (h1 : ∀ T k r, o1 T k = some r → evLoopN (evCode summ fu call ir30_b1) (St.norm ir30_v1) fu T k = some r) : LTok summ fu call (ir30_bt0 o1) ir30_b0 := ⟨trivial, ⟨⟨trivial, ⟨⟨trivial, h1⟩, trivial⟩⟩, trivial⟩⟩
theorem ir30_tok {R : Type} {summ : Nat → Option Summ} {fu : Nat} {call : Nat → List CV → List Blk → (CV → List Blk → Option R) → Option R} {o0 : St → (Ex → St → Option R) → Option R} (h0 : ∀ T k r, o0 T k = some r → evLoopN (evCode summ fu call ir30_b0) (St.norm ir30_v0) fu T k = some r) : LTok summ fu call (ir30_t o0) ir30.body := ⟨trivial, ⟨trivial, ⟨trivial, ⟨⟨trivial, h0⟩, trivial⟩⟩⟩⟩


def ir32 : IFn :=
  { ntmps := 2, results := [.inr (0, true, 64)], body := (.seq (.region false 1 [
    ⟨some 0, .alloc 61 (.pure (.arr 64 (.int .u32)) (List.replicate 64 (Ty.dflt (.int .u32)))), [], none, 0, []⟩]) (.seq (.region false 0 [
    ⟨some 1, .buildArr 64 (.int .u32), [.cst (.int .u32 1116352408), .cst (.int .u32 1899447441), .cst (.int .u32 3049323471), .cst (.int .u32 3921009573), .cst (.int .u32 961987163), .cst (.int .u32 1508970993), .cst (.int .u32 2453635748), .cst (.int .u32 2870763221), .cst (.int .u32 3624381080), .cst (.int .u32 310598401), .cst (.int .u32 607225278), .cst (.int .u32 1426881987), .cst (.int .u32 1925078388), .cst (.int .u32 2162078206), .cst (.int .u32 2614888103), .cst (.int .u32 3248222580), .cst (.int .u32 3835390401), .cst (.int .u32 4022224774), .cst (.int .u32 264347078), .cst (.int .u32 604807628), .cst (.int .u32 770255983), .cst (.int .u32 1249150122), .cst (.int .u32 1555081692), .cst (.int .u32 1996064986), .cst (.int .u32 2554220882), .cst (.int .u32 2821834349), .cst (.int .u32 2952996808), .cst (.int .u32 3210313671), .cst (.int .u32 3336571891), .cst (.int .u32 3584528711), .cst (.int .u32 113926993), .cst (.int .u32 338241895), .cst (.int .u32 666307205), .cst (.int .u32 773529912), .cst (.int .u32 1294757372), .cst (.int .u32 1396182291), .cst (.int .u32 1695183700), .cst (.int .u32 1986661051), .cst (.int .u32 2177026350), .cst (.int .u32 2456956037), .cst (.int .u32 2730485921), .cst (.int .u32 2820302411), .cst (.int .u32 3259730800), .cst (.int .u32 3345764771), .cst (.int .u32 3516065817), .cst (.int .u32 3600352804), .cst (.int .u32 4094571909), .cst (.int .u32 275423344), .cst (.int .u32 430227734), .cst (.int .u32 506948616), .cst (.int .u32 659060556), .cst (.int .u32 883997877), .cst (.int .u32 958139571), .cst (.int .u32 1322822218), .cst (.int .u32 1537002063), .cst (.int .u32 1747873779), .cst (.int .u32 1955562222), .cst (.int .u32 2024104815), .cst (.int .u32 2227730452), .cst (.int .u32 2361852424), .cst (.int .u32 2428436474), .cst (.int .u32 2756734187), .cst (.int .u32 3204031479), .cst (.int .u32 3329325298)], none, 0, []⟩,
    ⟨none, .store 64, [.tmp 0, .tmp 1], none, 0, []⟩]) (.cut [0] (.ret)))) }


def ir33_b0 : IC := (.seq (.region false 0 [
      ⟨some 21, .bin .lss, [.tmp 20, .cst (.int .i64 16)], none, 0, []⟩]) (.seq (.cond (.tmp 21) (.skip) (.cut [0, 1, 6] (.exit 0))) (.seq (.block 1 (.seq (.region false 0 [
       ⟨some 22, .mov, [.tmp 20], none, 0, []⟩,
       ⟨some 7, .mov, [.tmp 22], none, 0, []⟩]) (.region false 1 [
       ⟨some 23, .mov, [.tmp 7], none, 0, []⟩,
       ⟨some 24, .mov, [.tmp 2], none, 0, []⟩,
       ⟨some 25, .mov, [.tmp 7], none, 0, []⟩,
       ⟨some 26, .bin .mul, [.cst (.int .i64 4), .tmp 25], none, 0, []⟩,
       ⟨some 27, .slice 1 true false, [.tmp 24, .tmp 26], none, 0, []⟩,
       ⟨some 28, .callS 47, [.tmp 27], none, 0, []⟩,
       ⟨some 29, .idxArr 64 1, [.tmp 6, .tmp 23], none, 0, []⟩,
       ⟨none, .store 1, [.tmp 29, .tmp 28], none, 0, []⟩]))) (.region false 0 [
      ⟨some 30, .bin .add, [.tmp 20, .cst (.int .i64 1)], none, 0, []⟩,
      ⟨some 20, .mov, [.tmp 30], none, 0, []⟩]))))
def ir33_v0 : List Nat := [0, 1, 2, 6, 20]
def ir33_b1 : IC := (.seq (.seq (.region false 0 [
      ⟨some 31, .mov, [.tmp 8], none, 0, []⟩,
      ⟨some 32, .bin .lss, [.tmp 31, .cst (.int .i64 64)], none, 0, []⟩]) (.cond (.tmp 32) (.skip) (.cut [0, 1, 6] (.exit 2)))) (.seq (.block 3 (.seq (.region true 0 [
       ⟨some 35, .mov, [.tmp 8], none, 0, []⟩,
       ⟨some 36, .bin .sub, [.tmp 35, .cst (.int .i64 15)], none, 0, [0]⟩,
       ⟨some 37, .idxArr 64 1, [.tmp 6, .tmp 36], none, 0, [1, 0]⟩,
       ⟨some 38, .load false 1, [.tmp 37], none, 0, [2, 1, 0]⟩,
       ⟨some 39, .mov, [.tmp 8], none, 0, []⟩,
       ⟨some 40, .bin .sub, [.tmp 39, .cst (.int .i64 2)], none, 0, [4]⟩,
       ⟨some 41, .idxArr 64 1, [.tmp 6, .tmp 40], none, 0, [5, 4]⟩,
       ⟨some 42, .load false 1, [.tmp 41], none, 0, [6, 5, 4]⟩,
       ⟨some 9, .mov, [.tmp 38], none, 0, [3, 2, 1, 0]⟩,
       ⟨some 10, .mov, [.tmp 42], none, 0, [7, 6, 5, 4, 8, 3, 2, 1, 0]⟩]) (.seq (.region false 2 [
       ⟨some 43, .mov, [.tmp 9], none, 0, []⟩,
       ⟨some 44, .callS 49, [.tmp 43, .cst (.int .i64 7)], none, 0, []⟩,
       ⟨some 45, .mov, [.tmp 9], none, 0, []⟩,
       ⟨some 46, .callS 49, [.tmp 45, .cst (.int .i64 18)], none, 0, []⟩,
       ⟨some 47, .bin .xor, [.tmp 44, .tmp 46], none, 0, []⟩,
       ⟨some 48, .mov, [.tmp 9], none, 0, []⟩,
       ⟨some 49, .bin .shr, [.tmp 48, .cst (.int .u64 3)], none, 0, []⟩,
       ⟨some 50, .bin .xor, [.tmp 47, .tmp 49], none, 0, []⟩,
       ⟨some 11, .mov, [.tmp 50], none, 0, []⟩]) (.seq (.region false 2 [
       ⟨some 51, .mov, [.tmp 10], none, 0, []⟩,
       ⟨some 52, .callS 49, [.tmp 51, .cst (.int .i64 17)], none, 0, []⟩,
       ⟨some 53, .mov, [.tmp 10], none, 0, []⟩,
       ⟨some 54, .callS 49, [.tmp 53, .cst (.int .i64 19)], none, 0, []⟩,
       ⟨some 55, .bin .xor, [.tmp 52, .tmp 54], none, 0, []⟩,
       ⟨some 56, .mov, [.tmp 10], none, 0, []⟩,
       ⟨some 57, .bin .shr, [.tmp 56, .cst (.int .u64 10)], none, 0, []⟩,
       ⟨some 58, .bin .xor, [.tmp 55, .tmp 57], none, 0, []⟩,
       ⟨some 12, .mov, [.tmp 58], none, 0, []⟩]) (.region true 0 [
       ⟨some 59, .mov, [.tmp 8], none, 0, []⟩,
       ⟨some 60, .mov, [.tmp 12], none, 0, []⟩,
       ⟨some 61, .mov, [.tmp 8], none, 0, []⟩,
       ⟨some 62, .bin .sub, [.tmp 61, .cst (.int .i64 7)], none, 0, [2]⟩,
       ⟨some 63, .idxArr 64 1, [.tmp 6, .tmp 62], none, 0, [3, 2]⟩,
       ⟨some 64, .load false 1, [.tmp 63], none, 0, [4, 3, 2]⟩,
       ⟨some 65, .bin .add, [.tmp 60, .tmp 64], none, 0, [1, 5, 4, 3, 2]⟩,
       ⟨some 66, .mov, [.tmp 11], none, 0, []⟩,
       ⟨some 67, .bin .add, [.tmp 65, .tmp 66], none, 0, [6, 1, 5, 4, 3, 2, 7]⟩,
       ⟨some 68, .mov, [.tmp 8], none, 0, []⟩,
       ⟨some 69, .bin .sub, [.tmp 68, .cst (.int .i64 16)], none, 0, [9]⟩,
       ⟨some 70, .idxArr 64 1, [.tmp 6, .tmp 69], none, 0, [10, 9]⟩,
       ⟨some 71, .load false 1, [.tmp 70], none, 0, [11, 10, 9]⟩,
       ⟨some 72, .bin .add, [.tmp 67, .tmp 71], none, 0, [8, 6, 1, 5, 4, 3, 2, 7, 12, 11, 10, 9]⟩,
       ⟨some 73, .idxArr 64 1, [.tmp 6, .tmp 59], none, 0, [0, 1, 2, 3, 4, 5, 6, 7, 8, 9, 10, 11, 12, 13]⟩,
       ⟨none, .store 1, [.tmp 73, .tmp 72], none, 0, [14, 0, 1, 2, 3, 4, 5, 6, 7, 8, 9, 10, 11, 12, 13]⟩]))))) (.region false 0 [
      ⟨some 33, .mov, [.tmp 8], none, 0, []⟩,
      ⟨some 34, .bin .add, [.tmp 33, .cst (.int .i64 1)], none, 0, []⟩,
      ⟨some 8, .mov, [.tmp 34], none, 0, []⟩])))
def ir33_v1 : List Nat := [0, 1, 6, 8]
def ir33_b2 : IC := (.seq (.region false 0 [
      ⟨some 78, .bin .lss, [.tmp 77, .cst (.int .i64 64)], none, 0, []⟩]) (.seq (.cond (.tmp 78) (.skip) (.cut [0, 13] (.exit 4))) (.seq (.block 5 (.seq (.region false 0 [
       ⟨some 79, .mov, [.tmp 77], none, 0, []⟩,
       ⟨some 14, .mov, [.tmp 79], none, 0, []⟩]) (.seq (.region true 0 [
       ⟨some 80, .idxArr 8 1, [.tmp 13, .cst (.int .i64 0)], none, 0, []⟩,
       ⟨some 81, .load false 1, [.tmp 80], none, 0, [0]⟩,
       ⟨some 82, .idxArr 8 1, [.tmp 13, .cst (.int .i64 4)], none, 0, []⟩,
       ⟨some 83, .load false 1, [.tmp 82], none, 0, [2]⟩,
       ⟨some 15, .mov, [.tmp 81], none, 0, [1, 0]⟩,
       ⟨some 16, .mov, [.tmp 83], none, 0, [3, 2, 4, 1, 0]⟩]) (.seq (.region true 3 [
       ⟨some 84, .idxArr 8 1, [.tmp 13, .cst (.int .i64 7)], none, 0, []⟩,
       ⟨some 85, .load false 1, [.tmp 84], none, 0, [0]⟩,
       ⟨some 86, .mov, [.tmp 16], none, 0, []⟩,
       ⟨some 87, .callS 49, [.tmp 86, .cst (.int .i64 6)], none, 0, [2]⟩,
       ⟨some 88, .mov, [.tmp 16], none, 1, []⟩,
       ⟨some 89, .callS 49, [.tmp 88, .cst (.int .i64 11)], none, 1, [4, 3, 2]⟩,
       ⟨some 90, .bin .xor, [.tmp 87, .tmp 89], none, 2, [3, 2, 5, 4]⟩,
       ⟨some 91, .mov, [.tmp 16], none, 2, []⟩,
       ⟨some 92, .callS 49, [.tmp 91, .cst (.int .i64 25)], none, 2, [7, 5, 4, 3, 2]⟩,
       ⟨some 93, .bin .xor, [.tmp 90, .tmp 92], none, 3, [6, 3, 2, 5, 4, 8, 7]⟩,
       ⟨some 94, .bin .add, [.tmp 85, .tmp 93], none, 3, [1, 0, 9, 6, 3, 2, 5, 4, 8, 7]⟩,
       ⟨some 95, .mov, [.tmp 16], none, 3, []⟩,
       ⟨some 96, .idxArr 8 1, [.tmp 13, .cst (.int .i64 5)], none, 3, []⟩,
       ⟨some 97, .load false 1, [.tmp 96], none, 3, [12]⟩,
       ⟨some 98, .bin .and, [.tmp 95, .tmp 97], none, 3, [11, 13, 12]⟩,
       ⟨some 99, .mov, [.tmp 16], none, 3, []⟩,
       ⟨some 100, .bnot, [.tmp 99], none, 3, [15]⟩,
       ⟨some 101, .idxArr 8 1, [.tmp 13, .cst (.int .i64 6)], none, 3, []⟩,
       ⟨some 102, .load false 1, [.tmp 101], none, 3, [17]⟩,
       ⟨some 103, .bin .and, [.tmp 100, .tmp 102], none, 3, [16, 15, 18, 17]⟩,
       ⟨some 104, .bin .xor, [.tmp 98, .tmp 103], none, 3, [14, 11, 13, 12, 19, 16, 15, 18, 17]⟩,
       ⟨some 105, .bin .add, [.tmp 94, .tmp 104], none, 3, [10, 1, 0, 9, 6, 3, 2, 5, 4, 8, 7, 20, 14, 11, 13, 12, 19, 16, 15, 18, 17]⟩,
       ⟨some 106, .mov, [.tmp 1], none, 3, []⟩,
       ⟨some 107, .mov, [.tmp 14], none, 3, []⟩,
       ⟨some 108, .nilck, [.tmp 106], none, 3, [22]⟩,
       ⟨some 109, .idxArr 64 1, [.tmp 108, .tmp 107], none, 3, [24, 22, 23]⟩,
       ⟨some 110, .load false 1, [.tmp 109], none, 3, [25, 24, 22, 23]⟩,
       ⟨some 111, .bin .add, [.tmp 105, .tmp 110], none, 3, [21, 10, 1, 0, 9, 6, 3, 2, 5, 4, 8, 7, 20, 14, 11, 13, 12, 19, 16, 15, 18, 17, 26, 25, 24, 22, 23]⟩,
       ⟨some 112, .mov, [.tmp 14], none, 3, []⟩,
       ⟨some 113, .idxArr 64 1, [.tmp 6, .tmp 112], none, 3, [28]⟩,
       ⟨some 114, .load false 1, [.tmp 113], none, 3, [29, 28]⟩,
       ⟨some 115, .bin .add, [.tmp 111, .tmp 114], none, 3, [27, 21, 10, 1, 0, 9, 6, 3, 2, 5, 4, 8, 7, 20, 14, 11, 13, 12, 19, 16, 15, 18, 17, 26, 25, 24, 22, 23, 30, 29, 28]⟩,
       ⟨some 17, .mov, [.tmp 115], none, 3, [31, 27, 21, 10, 1, 0, 9, 6, 3, 2, 5, 4, 8, 7, 20, 14, 11, 13, 12, 19, 16, 15, 18, 17, 26, 25, 24, 22, 23, 30, 29, 28]⟩]) (.seq (.region true 3 [
       ⟨some 116, .mov, [.tmp 15], none, 0, []⟩,
       ⟨some 117, .callS 49, [.tmp 116, .cst (.int .i64 2)], none, 0, [0]⟩,
       ⟨some 118, .mov, [.tmp 15], none, 1, []⟩,
       ⟨some 119, .callS 49, [.tmp 118, .cst (.int .i64 13)], none, 1, [2, 1, 0]⟩,
       ⟨some 120, .bin .xor, [.tmp 117, .tmp 119], none, 2, [1, 0, 3, 2]⟩,
       ⟨some 121, .mov, [.tmp 15], none, 2, []⟩,
       ⟨some 122, .callS 49, [.tmp 121, .cst (.int .i64 22)], none, 2, [5, 3, 2, 1, 0]⟩,
       ⟨some 123, .bin .xor, [.tmp 120, .tmp 122], none, 3, [4, 1, 0, 3, 2, 6, 5]⟩,
       ⟨some 124, .mov, [.tmp 15], none, 3, []⟩,
       ⟨some 125, .idxArr 8 1, [.tmp 13, .cst (.int .i64 1)], none, 3, []⟩,
       ⟨some 126, .load false 1, [.tmp 125], none, 3, [9]⟩,
       ⟨some 127, .bin .and, [.tmp 124, .tmp 126], none, 3, [8, 10, 9]⟩,
       ⟨some 128, .mov, [.tmp 15], none, 3, []⟩,
       ⟨some 129, .idxArr 8 1, [.tmp 13, .cst (.int .i64 2)], none, 3, []⟩,
       ⟨some 130, .load false 1, [.tmp 129], none, 3, [13]⟩,
       ⟨some 131, .bin .and, [.tmp 128, .tmp 130], none, 3, [12, 14, 13]⟩,
       ⟨some 132, .bin .xor, [.tmp 127, .tmp 131], none, 3, [11, 8, 10, 9, 15, 12, 14, 13]⟩,
       ⟨some 133, .idxArr 8 1, [.tmp 13, .cst (.int .i64 1)], none, 3, []⟩,
       ⟨some 134, .load false 1, [.tmp 133], none, 3, [17]⟩,
       ⟨some 135, .idxArr 8 1, [.tmp 13, .cst (.int .i64 2)], none, 3, []⟩,
       ⟨some 136, .load false 1, [.tmp 135], none, 3, [19]⟩,
       ⟨some 137, .bin .and, [.tmp 134, .tmp 136], none, 3, [18, 17, 20, 19]⟩,
       ⟨some 138, .bin .xor, [.tmp 132, .tmp 137], none, 3, [16, 11, 8, 10, 9, 15, 12, 14, 13, 21, 18, 17, 20, 19]⟩,
       ⟨some 139, .bin .add, [.tmp 123, .tmp 138], none, 3, [7, 4, 1, 0, 3, 2, 6, 5, 22, 16, 11, 8, 10, 9, 15, 12, 14, 13, 21, 18, 17, 20, 19]⟩,
       ⟨some 18, .mov, [.tmp 139], none, 3, [23, 7, 4, 1, 0, 3, 2, 6, 5, 22, 16, 11, 8, 10, 9, 15, 12, 14, 13, 21, 18, 17, 20, 19]⟩]) (.region false 0 [
       ⟨some 140, .mov, [.tmp 17], none, 0, []⟩,
       ⟨some 141, .mov, [.tmp 18], none, 0, []⟩,
       ⟨some 142, .bin .add, [.tmp 140, .tmp 141], none, 0, []⟩,
       ⟨some 143, .idxArr 8 1, [.tmp 13, .cst (.int .i64 0)], none, 0, []⟩,
       ⟨some 144, .load false 1, [.tmp 143], none, 0, []⟩,
       ⟨some 145, .idxArr 8 1, [.tmp 13, .cst (.int .i64 1)], none, 0, []⟩,
       ⟨some 146, .load false 1, [.tmp 145], none, 0, []⟩,
       ⟨some 147, .idxArr 8 1, [.tmp 13, .cst (.int .i64 2)], none, 0, []⟩,
       ⟨some 148, .load false 1, [.tmp 147], none, 0, []⟩,
       ⟨some 149, .idxArr 8 1, [.tmp 13, .cst (.int .i64 3)], none, 0, []⟩,
       ⟨some 150, .load false 1, [.tmp 149], none, 0, []⟩,
       ⟨some 151, .mov, [.tmp 17], none, 0, []⟩,
       ⟨some 152, .bin .add, [.tmp 150, .tmp 151], none, 0, []⟩,
       ⟨some 153, .idxArr 8 1, [.tmp 13, .cst (.int .i64 4)], none, 0, []⟩,
       ⟨some 154, .load false 1, [.tmp 153], none, 0, []⟩,
       ⟨some 155, .idxArr 8 1, [.tmp 13, .cst (.int .i64 5)], none, 0, []⟩,
       ⟨some 156, .load false 1, [.tmp 155], none, 0, []⟩,
       ⟨some 157, .idxArr 8 1, [.tmp 13, .cst (.int .i64 6)], none, 0, []⟩,
       ⟨some 158, .load false 1, [.tmp 157], none, 0, []⟩,
       ⟨some 159, .buildArr 8 (.int .u32), [.tmp 142, .tmp 144, .tmp 146, .tmp 148, .tmp 152, .tmp 154, .tmp 156, .tmp 158], none, 0, []⟩,
       ⟨none, .store 8, [.tmp 13, .tmp 159], none, 0, []⟩])))))) (.region false 0 [
      ⟨some 160, .bin .add, [.tmp 77, .cst (.int .i64 1)], none, 0, []⟩,
      ⟨some 77, .mov, [.tmp 160], none, 0, []⟩]))))
def ir33_v2 : List Nat := [0, 1, 6, 13, 77]
def ir33_b3 : IC := (.seq (.region false 0 [
      ⟨some 162, .bin .lss, [.tmp 161, .cst (.int .i64 8)], none, 0, []⟩]) (.seq (.cond (.tmp 162) (.skip) (.cut [] (.exit 6))) (.seq (.block 7 (.seq (.region false 0 [
       ⟨some 163, .mov, [.tmp 161], none, 0, []⟩,
       ⟨some 19, .mov, [.tmp 163], none, 0, []⟩]) (.region true 0 [
       ⟨some 164, .mov, [.tmp 0], none, 0, []⟩,
       ⟨some 165, .mov, [.tmp 19], none, 0, []⟩,
       ⟨some 166, .nilck, [.tmp 164], none, 0, [0]⟩,
       ⟨some 167, .idxArr 8 1, [.tmp 166, .tmp 165], none, 0, [2, 0, 1]⟩,
       ⟨some 168, .load false 1, [.tmp 167], none, 0, [3, 2, 0, 1]⟩,
       ⟨some 169, .mov, [.tmp 19], none, 0, []⟩,
       ⟨some 170, .idxArr 8 1, [.tmp 13, .tmp 169], none, 0, [5]⟩,
       ⟨some 171, .load false 1, [.tmp 170], none, 0, [6, 5]⟩,
       ⟨some 172, .bin .add, [.tmp 168, .tmp 171], none, 0, [4, 3, 2, 0, 1, 7, 6, 5]⟩,
       ⟨some 173, .nilck, [.tmp 164], none, 0, [0]⟩,
       ⟨some 174, .idxArr 8 1, [.tmp 173, .tmp 165], none, 0, [9, 0, 1, 2, 3, 4, 5, 6, 7, 8]⟩,
       ⟨none, .store 1, [.tmp 174, .tmp 172], none, 0, [10, 9, 0, 1, 2, 3, 4, 5, 6, 7, 8]⟩]))) (.region false 0 [
      ⟨some 175, .bin .add, [.tmp 161, .cst (.int .i64 1)], none, 0, []⟩,
      ⟨some 161, .mov, [.tmp 175], none, 0, []⟩]))))
def ir33_v3 : List Nat := [0, 13, 161]
def ir33_t {R : Type} (o0 o1 o2 o3 : St → (Ex → St → Option R) → Option R) : LT R := (.node .nil (.node (.node .nil (.node (.orc o0) .nil)) (.node (.node .nil (.node (.orc o1) .nil)) (.node .nil (.node (.node .nil (.node (.orc o2) .nil)) (.node .nil (.node (.orc o3) .nil)))))))
def ir33 : IFn :=
  { ntmps := 176, results := [], body := (.seq (.region false 1 [
    ⟨some 6, .alloc 61 (.pure (.arr 64 (.int .u32)) (List.replicate 64 (Ty.dflt (.int .u32)))), [], none, 0, []⟩]) (.seq (.seq (.region false 0 [
    ⟨some 20, .mov, [.cst (.int .i64 0)], none, 0, []⟩]) (.block 0 (.loop ir33_v0 ir33_b0))) (.seq (.seq (.region false 0 [
    ⟨some 8, .mov, [.cst (.int .i64 16)], none, 0, []⟩]) (.block 2 (.loop ir33_v1 ir33_b1))) (.seq (.region false 1 [
    ⟨some 74, .mov, [.tmp 0], none, 0, []⟩,
    ⟨some 75, .nilck, [.tmp 74], none, 0, []⟩,
    ⟨some 76, .load true 8, [.tmp 75], none, 0, []⟩,
    ⟨some 13, .alloc 60 (.pure (.arr 8 (.int .u32)) (List.replicate 8 (Ty.dflt (.int .u32)))), [], none, 0, []⟩,
    ⟨none, .store 8, [.tmp 13, .tmp 76], none, 0, []⟩]) (.seq (.seq (.region false 0 [
    ⟨some 77, .mov, [.cst (.int .i64 0)], none, 0, []⟩]) (.block 4 (.loop ir33_v2 ir33_b2))) (.seq (.region false 0 [
    ⟨some 161, .mov, [.cst (.int .i64 0)], none, 0, []⟩]) (.block 6 (.loop ir33_v3 ir33_b3)))))))) }
theorem ir33_tok {R : Type} {summ : Nat → Option Summ} {fu : Nat} {call : Nat → List CV → List Blk → (CV → List Blk → Option R) → Option R} {o0 o1 o2 o3 : St → (Ex → St → Option R) → Option R} (h0 : ∀ T k r, o0 T k = some r → evLoopN (evCode summ fu call ir33_b0) (St.norm ir33_v0) fu T k = some r) (h1 : ∀ T k r, o1 T k = some r → evLoopN (evCode summ fu call ir33_b1) (St.norm ir33_v1) fu T k = some r) (h2 : ∀ T k r, o2 T k = some r → evLoopN (evCode summ fu call ir33_b2) (St.norm ir33_v2) fu T k = some r) (h3 : ∀ T k r, o3 T k = some r → evLoopN (evCode summ fu call ir33_b3) (St.norm ir33_v3) fu T k = some r) : LTok summ fu call (ir33_t o0 o1 o2 o3) ir33.body := ⟨trivial, ⟨⟨trivial, h0⟩, ⟨⟨trivial, h1⟩, ⟨trivial, ⟨⟨trivial, h2⟩, ⟨trivial, h3⟩⟩⟩⟩⟩⟩


def ir34 : IFn :=
  { ntmps := 23, results := [], body := (.region false 0 [
    ⟨some 4, .mov, [.tmp 0], none, 0, []⟩,
    ⟨some 5, .mov, [.tmp 0], none, 0, []⟩,
    ⟨some 6, .mov, [.tmp 0], none, 0, []⟩,
    ⟨some 7, .mov, [.tmp 0], none, 0, []⟩,
    ⟨some 8, .mov, [.tmp 1], none, 0, []⟩,
    ⟨some 9, .bin .shr, [.tmp 8, .cst (.int .u64 24)], none, 0, []⟩,
    ⟨some 10, .conv .u8, [.tmp 9], none, 0, []⟩,
    ⟨some 11, .mov, [.tmp 1], none, 0, []⟩,
    ⟨some 12, .bin .shr, [.tmp 11, .cst (.int .u64 16)], none, 0, []⟩,
    ⟨some 13, .conv .u8, [.tmp 12], none, 0, []⟩,
    ⟨some 14, .mov, [.tmp 1], none, 0, []⟩,
    ⟨some 15, .bin .shr, [.tmp 14, .cst (.int .u64 8)], none, 0, []⟩,
    ⟨some 16, .conv .u8, [.tmp 15], none, 0, []⟩,
    ⟨some 17, .mov, [.tmp 1], none, 0, []⟩,
    ⟨some 18, .conv .u8, [.tmp 17], none, 0, []⟩,
    ⟨some 19, .idxSl 1, [.tmp 4, .cst (.int .i64 0)], none, 0, []⟩,
    ⟨none, .store 1, [.tmp 19, .tmp 10], none, 0, []⟩,
    ⟨some 20, .idxSl 1, [.tmp 5, .cst (.int .i64 1)], none, 0, []⟩,
    ⟨none, .store 1, [.tmp 20, .tmp 13], none, 0, []⟩,
    ⟨some 21, .idxSl 1, [.tmp 6, .cst (.int .i64 2)], none, 0, []⟩,
    ⟨none, .store 1, [.tmp 21, .tmp 16], none, 0, []⟩,
    ⟨some 22, .idxSl 1, [.tmp 7, .cst (.int .i64 3)], none, 0, []⟩,
    ⟨none, .store 1, [.tmp 22, .tmp 18], none, 0, []⟩]) }


def ir35_b0 : IC := (.seq (.seq (.region false 0 [
      ⟨some 12, .mov, [.tmp 3], none, 0, []⟩,
      ⟨some 13, .len, [.tmp 12], none, 0, []⟩,
      ⟨some 14, .bin .rem, [.tmp 13, .cst (.int .i64 64)], none, 0, []⟩,
      ⟨some 15, .bin .neq, [.tmp 14, .cst (.int .i64 56)], none, 0, []⟩]) (.cond (.tmp 15) (.skip) (.cut [0, 3] (.exit 0)))) (.block 1 (.region false 2 [
       ⟨some 16, .mov, [.tmp 3], none, 0, []⟩,
       ⟨some 17, .buildSl 5 (.int .u8) 1, [.cst (.int .u8 0)], none, 0, []⟩,
       ⟨some 18, .append 5 (.int .u8) 1, [.tmp 16, .tmp 17], none, 0, []⟩,
       ⟨some 3, .mov, [.tmp 18], none, 0, []⟩])))
def ir35_v0 : List Nat := [0, 3]
def ir35_b1 : IC := (.seq (.seq (.region false 0 [
      ⟨some 23, .mov, [.tmp 5], none, 0, []⟩,
      ⟨some 24, .bin .geq, [.tmp 23, .cst (.int .i64 0)], none, 0, []⟩]) (.cond (.tmp 24) (.skip) (.cut [3] (.exit 2)))) (.seq (.block 3 (.region false 2 [
       ⟨some 27, .mov, [.tmp 3], none, 0, []⟩,
       ⟨some 28, .mov, [.tmp 4], none, 0, []⟩,
       ⟨some 29, .mov, [.tmp 5], none, 0, []⟩,
       ⟨some 30, .conv .u64, [.tmp 29], none, 0, []⟩,
       ⟨some 31, .bin .shr, [.tmp 28, .tmp 30], none, 0, []⟩,
       ⟨some 32, .conv .u8, [.tmp 31], none, 0, []⟩,
       ⟨some 33, .buildSl 5 (.int .u8) 1, [.tmp 32], none, 0, []⟩,
       ⟨some 34, .append 5 (.int .u8) 1, [.tmp 27, .tmp 33], none, 0, []⟩,
       ⟨some 3, .mov, [.tmp 34], none, 0, []⟩])) (.region false 0 [
      ⟨some 25, .mov, [.tmp 5], none, 0, []⟩,
      ⟨some 26, .bin .sub, [.tmp 25, .cst (.int .i64 8)], none, 0, []⟩,
      ⟨some 5, .mov, [.tmp 26], none, 0, []⟩])))
def ir35_v1 : List Nat := [3, 4, 5]
def ir35_t {R : Type} (o0 o1 : St → (Ex → St → Option R) → Option R) : LT R := (.node .nil (.node .nil (.node .nil (.node (.node (.orc o0) .nil) (.node .nil (.node (.node .nil (.node (.orc o1) .nil)) .nil))))))
def ir35 : IFn :=
  { ntmps := 36, results := [.inl 2], body := (.seq (.region false 0 [
    ⟨some 2, .mov, [.cst (.nil 5 (.int .u8))], none, 0, []⟩]) (.seq (.region false 2 [
    ⟨some 6, .buildSl 5 (.int .u8) 0, [], none, 0, []⟩,
    ⟨some 7, .mov, [.tmp 0], none, 0, []⟩,
    ⟨some 8, .append 5 (.int .u8) 1, [.tmp 6, .tmp 7], none, 0, []⟩,
    ⟨some 3, .mov, [.tmp 8], none, 0, []⟩]) (.seq (.region false 2 [
    ⟨some 9, .mov, [.tmp 3], none, 0, []⟩,
    ⟨some 10, .buildSl 5 (.int .u8) 1, [.cst (.int .u8 128)], none, 0, []⟩,
    ⟨some 11, .append 5 (.int .u8) 1, [.tmp 9, .tmp 10], none, 0, []⟩,
    ⟨some 3, .mov, [.tmp 11], none, 0, []⟩]) (.seq (.block 0 (.loop ir35_v0 ir35_b0)) (.seq (.region false 0 [
    ⟨some 19, .mov, [.tmp 0], none, 0, []⟩,
    ⟨some 20, .len, [.tmp 19], none, 0, []⟩,
    ⟨some 21, .conv .u64, [.tmp 20], none, 0, []⟩,
    ⟨some 22, .bin .mul, [.tmp 21, .cst (.int .u64 8)], none, 0, []⟩,
    ⟨some 4, .mov, [.tmp 22], none, 0, []⟩]) (.seq (.seq (.region false 0 [
    ⟨some 5, .mov, [.cst (.int .i64 56)], none, 0, []⟩]) (.block 2 (.loop ir35_v1 ir35_b1))) (.seq (.region false 0 [
    ⟨some 35, .mov, [.tmp 3], none, 0, []⟩,
    ⟨some 2, .mov, [.tmp 35], none, 0, []⟩]) (.cut [2] (.ret))))))))) }
theorem ir35_tok {R : Type} {summ : Nat → Option Summ} {fu : Nat} {call : Nat → List CV → List Blk → (CV → List Blk → Option R) → Option R} {o0 o1 : St → (Ex → St → Option R) → Option R} (h0 : ∀ T k r, o0 T k = some r → evLoopN (evCode summ fu call ir35_b0) (St.norm ir35_v0) fu T k = some r) (h1 : ∀ T k r, o1 T k = some r → evLoopN (evCode summ fu call ir35_b1) (St.norm ir35_v1) fu T k = some r) : LTok summ fu call (ir35_t o0 o1) ir35.body := ⟨trivial, ⟨trivial, ⟨trivial, ⟨h0, ⟨trivial, ⟨⟨trivial, h1⟩, trivial⟩⟩⟩⟩⟩⟩


def ir36_b0 : IC := (.seq (.seq (.region false 0 [
      ⟨some 22, .mov, [.tmp 6], none, 0, []⟩,
      ⟨some 23, .bin .lss, [.tmp 22, .cst (.int .i64 16)], none, 0, []⟩]) (.cond (.tmp 23) (.skip) (.cut [2, 4, 5] (.exit 0)))) (.seq (.block 1 (.region true 0 [
       ⟨some 26, .mov, [.tmp 6], none, 0, []⟩,
       ⟨some 27, .mov, [.tmp 1], none, 0, []⟩,
       ⟨some 28, .mov, [.tmp 6], none, 0, []⟩,
       ⟨some 29, .bin .mul, [.cst (.int .i64 4), .tmp 28], none, 0, [2]⟩,
       ⟨some 30, .idxSl 1, [.tmp 27, .tmp 29], none, 0, [1, 3, 2]⟩,
       ⟨some 31, .load false 1, [.tmp 30], none, 0, [4, 1, 3, 2]⟩,
       ⟨some 32, .conv .u32, [.tmp 31], none, 0, [5, 4, 1, 3, 2]⟩,
       ⟨some 33, .bin .shl, [.tmp 32, .cst (.int .u64 24)], none, 0, [6, 5, 4, 1, 3, 2]⟩,
       ⟨some 34, .mov, [.tmp 1], none, 0, []⟩,
       ⟨some 35, .mov, [.tmp 6], none, 0, []⟩,
       ⟨some 36, .bin .mul, [.cst (.int .i64 4), .tmp 35], none, 0, [9]⟩,
       ⟨some 37, .bin .add, [.tmp 36, .cst (.int .i64 1)], none, 0, [10, 9]⟩,
       ⟨some 38, .idxSl 1, [.tmp 34, .tmp 37], none, 0, [8, 11, 10, 9]⟩,
       ⟨some 39, .load false 1, [.tmp 38], none, 0, [12, 8, 11, 10, 9]⟩,
       ⟨some 40, .conv .u32, [.tmp 39], none, 0, [13, 12, 8, 11, 10, 9]⟩,
       ⟨some 41, .bin .shl, [.tmp 40, .cst (.int .u64 16)], none, 0, [14, 13, 12, 8, 11, 10, 9]⟩,
       ⟨some 42, .bin .or, [.tmp 33, .tmp 41], none, 0, [7, 6, 5, 4, 1, 3, 2, 15, 14, 13, 12, 8, 11, 10, 9]⟩,
       ⟨some 43, .mov, [.tmp 1], none, 0, []⟩,
       ⟨some 44, .mov, [.tmp 6], none, 0, []⟩,
       ⟨some 45, .bin .mul, [.cst (.int .i64 4), .tmp 44], none, 0, [18]⟩,
       ⟨some 46, .bin .add, [.tmp 45, .cst (.int .i64 2)], none, 0, [19, 18]⟩,
       ⟨some 47, .idxSl 1, [.tmp 43, .tmp 46], none, 0, [17, 20, 19, 18]⟩,
       ⟨some 48, .load false 1, [.tmp 47], none, 0, [21, 17, 20, 19, 18]⟩,
       ⟨some 49, .conv .u32, [.tmp 48], none, 0, [22, 21, 17, 20, 19, 18]⟩,
       ⟨some 50, .bin .shl, [.tmp 49, .cst (.int .u64 8)], none, 0, [23, 22, 21, 17, 20, 19, 18]⟩,
       ⟨some 51, .bin .or, [.tmp 42, .tmp 50], none, 0, [16, 7, 6, 5, 4, 1, 3, 2, 15, 14, 13, 12, 8, 11, 10, 9, 24, 23, 22, 21, 17, 20, 19, 18]⟩,
       ⟨some 52, .mov, [.tmp 1], none, 0, []⟩,
       ⟨some 53, .mov, [.tmp 6], none, 0, []⟩,
       ⟨some 54, .bin .mul, [.cst (.int .i64 4), .tmp 53], none, 0, [27]⟩,
       ⟨some 55, .bin .add, [.tmp 54, .cst (.int .i64 3)], none, 0, [28, 27]⟩,
       ⟨some 56, .idxSl 1, [.tmp 52, .tmp 55], none, 0, [26, 29, 28, 27]⟩,
       ⟨some 57, .load false 1, [.tmp 56], none, 0, [30, 26, 29, 28, 27]⟩,
       ⟨some 58, .conv .u32, [.tmp 57], none, 0, [31, 30, 26, 29, 28, 27]⟩,
       ⟨some 59, .bin .or, [.tmp 51, .tmp 58], none, 0, [25, 16, 7, 6, 5, 4, 1, 3, 2, 15, 14, 13, 12, 8, 11, 10, 9, 24, 23, 22, 21, 17, 20, 19, 18, 32, 31, 30, 26, 29, 28, 27]⟩,
       ⟨some 60, .idxArr 64 1, [.tmp 5, .tmp 26], none, 0, [0, 1, 2, 3, 4, 5, 6, 7, 8, 9, 10, 11, 12, 13, 14, 15, 16, 17, 18, 19, 20, 21, 22, 23, 24, 25, 26, 27, 28, 29, 30, 31, 32, 33]⟩,
       ⟨none, .store 1, [.tmp 60, .tmp 59], none, 0, [34, 0, 1, 2, 3, 4, 5, 6, 7, 8, 9, 10, 11, 12, 13, 14, 15, 16, 17, 18, 19, 20, 21, 22, 23, 24, 25, 26, 27, 28, 29, 30, 31, 32, 33]⟩])) (.region false 0 [
      ⟨some 24, .mov, [.tmp 6], none, 0, []⟩,
      ⟨some 25, .bin .add, [.tmp 24, .cst (.int .i64 1)], none, 0, []⟩,
      ⟨some 6, .mov, [.tmp 25], none, 0, []⟩])))
def ir36_v0 : List Nat := [1, 2, 4, 5, 6]
def ir36_b1 : IC := (.seq (.seq (.region false 0 [
      ⟨some 61, .mov, [.tmp 7], none, 0, []⟩,
      ⟨some 62, .bin .lss, [.tmp 61, .cst (.int .i64 64)], none, 0, []⟩]) (.cond (.tmp 62) (.skip) (.cut [2, 4, 5] (.exit 2)))) (.seq (.block 3 (.seq (.region true 0 [
       ⟨some 65, .mov, [.tmp 7], none, 0, []⟩,
       ⟨some 66, .bin .sub, [.tmp 65, .cst (.int .i64 15)], none, 0, [0]⟩,
       ⟨some 67, .idxArr 64 1, [.tmp 5, .tmp 66], none, 0, [1, 0]⟩,
       ⟨some 68, .load false 1, [.tmp 67], none, 0, [2, 1, 0]⟩,
       ⟨some 69, .mov, [.tmp 7], none, 0, []⟩,
       ⟨some 70, .bin .sub, [.tmp 69, .cst (.int .i64 2)], none, 0, [4]⟩,
       ⟨some 71, .idxArr 64 1, [.tmp 5, .tmp 70], none, 0, [5, 4]⟩,
       ⟨some 72, .load false 1, [.tmp 71], none, 0, [6, 5, 4]⟩,
       ⟨some 8, .mov, [.tmp 68], none, 0, [3, 2, 1, 0]⟩,
       ⟨some 9, .mov, [.tmp 72], none, 0, [7, 6, 5, 4, 8, 3, 2, 1, 0]⟩]) (.region true 4 [
       ⟨some 73, .mov, [.tmp 7], none, 0, []⟩,
       ⟨some 74, .mov, [.tmp 9], none, 0, []⟩,
       ⟨some 75, .callS 50, [.tmp 74, .cst (.int .u64 17)], none, 0, [1]⟩,
       ⟨some 76, .mov, [.tmp 9], none, 1, []⟩,
       ⟨some 77, .callS 50, [.tmp 76, .cst (.int .u64 19)], none, 1, [3, 2, 1]⟩,
       ⟨some 78, .bin .xor, [.tmp 75, .tmp 77], none, 2, [2, 1, 4, 3]⟩,
       ⟨some 79, .mov, [.tmp 9], none, 2, []⟩,
       ⟨some 80, .bin .shr, [.tmp 79, .cst (.int .u64 10)], none, 2, [6]⟩,
       ⟨some 81, .bin .xor, [.tmp 78, .tmp 80], none, 2, [5, 2, 1, 4, 3, 7, 6]⟩,
       ⟨some 82, .mov, [.tmp 7], none, 2, []⟩,
       ⟨some 83, .bin .sub, [.tmp 82, .cst (.int .i64 7)], none, 2, [9]⟩,
       ⟨some 84, .idxArr 64 1, [.tmp 5, .tmp 83], none, 2, [10, 9]⟩,
       ⟨some 85, .load false 1, [.tmp 84], none, 2, [11, 10, 9]⟩,
       ⟨some 86, .bin .add, [.tmp 81, .tmp 85], none, 2, [8, 5, 2, 1, 4, 3, 7, 6, 12, 11, 10, 9]⟩,
       ⟨some 87, .mov, [.tmp 8], none, 2, []⟩,
       ⟨some 88, .callS 50, [.tmp 87, .cst (.int .u64 7)], none, 2, [14, 4, 3, 2, 1]⟩,
       ⟨some 89, .mov, [.tmp 8], none, 3, []⟩,
       ⟨some 90, .callS 50, [.tmp 89, .cst (.int .u64 18)], none, 3, [16, 15, 14, 4, 3, 2, 1]⟩,
       ⟨some 91, .bin .xor, [.tmp 88, .tmp 90], none, 4, [15, 14, 4, 3, 2, 1, 17, 16]⟩,
       ⟨some 92, .mov, [.tmp 8], none, 4, []⟩,
       ⟨some 93, .bin .shr, [.tmp 92, .cst (.int .u64 3)], none, 4, [19]⟩,
       ⟨some 94, .bin .xor, [.tmp 91, .tmp 93], none, 4, [18, 15, 14, 4, 3, 2, 1, 17, 16, 20, 19]⟩,
       ⟨some 95, .bin .add, [.tmp 86, .tmp 94], none, 4, [13, 8, 5, 2, 1, 4, 3, 7, 6, 12, 11, 10, 9, 21, 18, 15, 14, 17, 16, 20, 19]⟩,
       ⟨some 96, .mov, [.tmp 7], none, 4, []⟩,
       ⟨some 97, .bin .sub, [.tmp 96, .cst (.int .i64 16)], none, 4, [23]⟩,
       ⟨some 98, .idxArr 64 1, [.tmp 5, .tmp 97], none, 4, [24, 23]⟩,
       ⟨some 99, .load false 1, [.tmp 98], none, 4, [25, 24, 23]⟩,
       ⟨some 100, .bin .add, [.tmp 95, .tmp 99], none, 4, [22, 13, 8, 5, 2, 1, 4, 3, 7, 6, 12, 11, 10, 9, 21, 18, 15, 14, 17, 16, 20, 19, 26, 25, 24, 23]⟩,
       ⟨some 101, .idxArr 64 1, [.tmp 5, .tmp 73], none, 4, [0, 1, 2, 3, 4, 5, 6, 7, 8, 9, 10, 11, 12, 13, 14, 15, 16, 17, 18, 19, 20, 21, 22, 23, 24, 25, 26, 27]⟩,
       ⟨none, .store 1, [.tmp 101, .tmp 100], none, 4, [28, 0, 1, 2, 3, 4, 5, 6, 7, 8, 9, 10, 11, 12, 13, 14, 15, 16, 17, 18, 19, 20, 21, 22, 23, 24, 25, 26, 27]⟩]))) (.region false 0 [
      ⟨some 63, .mov, [.tmp 7], none, 0, []⟩,
      ⟨some 64, .bin .add, [.tmp 63, .cst (.int .i64 1)], none, 0, []⟩,
      ⟨some 7, .mov, [.tmp 64], none, 0, []⟩])))
def ir36_v1 : List Nat := [2, 4, 5, 7]
def ir36_b2 : IC := (.seq (.seq (.region false 0 [
      ⟨some 104, .mov, [.tmp 12], none, 0, []⟩,
      ⟨some 105, .bin .lss, [.tmp 104, .cst (.int .i64 64)], none, 0, []⟩]) (.cond (.tmp 105) (.skip) (.cut [2, 4, 11] (.exit 4)))) (.seq (.block 5 (.seq (.region true 0 [
       ⟨some 108, .idxArr 8 1, [.tmp 11, .cst (.int .i64 0)], none, 0, []⟩,
       ⟨some 109, .load false 1, [.tmp 108], none, 0, [0]⟩,
       ⟨some 110, .idxArr 8 1, [.tmp 11, .cst (.int .i64 1)], none, 0, []⟩,
       ⟨some 111, .load false 1, [.tmp 110], none, 0, [2]⟩,
       ⟨some 112, .idxArr 8 1, [.tmp 11, .cst (.int .i64 2)], none, 0, []⟩,
       ⟨some 113, .load false 1, [.tmp 112], none, 0, [4]⟩,
       ⟨some 114, .idxArr 8 1, [.tmp 11, .cst (.int .i64 4)], none, 0, []⟩,
       ⟨some 115, .load false 1, [.tmp 114], none, 0, [6]⟩,
       ⟨some 116, .idxArr 8 1, [.tmp 11, .cst (.int .i64 5)], none, 0, []⟩,
       ⟨some 117, .load false 1, [.tmp 116], none, 0, [8]⟩,
       ⟨some 118, .idxArr 8 1, [.tmp 11, .cst (.int .i64 6)], none, 0, []⟩,
       ⟨some 119, .load false 1, [.tmp 118], none, 0, [10]⟩,
       ⟨some 13, .mov, [.tmp 109], none, 0, [1, 0]⟩,
       ⟨some 14, .mov, [.tmp 111], none, 0, [3, 2, 12, 1, 0]⟩,
       ⟨some 15, .mov, [.tmp 113], none, 0, [5, 4, 13, 3, 2, 12, 1, 0]⟩,
       ⟨some 16, .mov, [.tmp 115], none, 0, [7, 6, 14, 5, 4, 13, 3, 2, 12, 1, 0]⟩,
       ⟨some 17, .mov, [.tmp 117], none, 0, [9, 8, 15, 7, 6, 14, 5, 4, 13, 3, 2, 12, 1, 0]⟩,
       ⟨some 18, .mov, [.tmp 119], none, 0, [11, 10, 16, 9, 8, 15, 7, 6, 14, 5, 4, 13, 3, 2, 12, 1, 0]⟩]) (.seq (.region true 3 [
       ⟨some 120, .idxArr 8 1, [.tmp 11, .cst (.int .i64 7)], none, 0, []⟩,
       ⟨some 121, .load false 1, [.tmp 120], none, 0, [0]⟩,
       ⟨some 122, .mov, [.tmp 16], none, 0, []⟩,
       ⟨some 123, .callS 50, [.tmp 122, .cst (.int .u64 6)], none, 0, [2]⟩,
       ⟨some 124, .mov, [.tmp 16], none, 1, []⟩,
       ⟨some 125, .callS 50, [.tmp 124, .cst (.int .u64 11)], none, 1, [4, 3, 2]⟩,
       ⟨some 126, .bin .xor, [.tmp 123, .tmp 125], none, 2, [3, 2, 5, 4]⟩,
       ⟨some 127, .mov, [.tmp 16], none, 2, []⟩,
       ⟨some 128, .callS 50, [.tmp 127, .cst (.int .u64 25)], none, 2, [7, 5, 4, 3, 2]⟩,
       ⟨some 129, .bin .xor, [.tmp 126, .tmp 128], none, 3, [6, 3, 2, 5, 4, 8, 7]⟩,
       ⟨some 130, .bin .add, [.tmp 121, .tmp 129], none, 3, [1, 0, 9, 6, 3, 2, 5, 4, 8, 7]⟩,
       ⟨some 131, .mov, [.tmp 16], none, 3, []⟩,
       ⟨some 132, .mov, [.tmp 17], none, 3, []⟩,
       ⟨some 133, .bin .and, [.tmp 131, .tmp 132], none, 3, [11, 12]⟩,
       ⟨some 134, .mov, [.tmp 16], none, 3, []⟩,
       ⟨some 135, .bnot, [.tmp 134], none, 3, [14]⟩,
       ⟨some 136, .mov, [.tmp 18], none, 3, []⟩,
       ⟨some 137, .bin .and, [.tmp 135, .tmp 136], none, 3, [15, 14, 16]⟩,
       ⟨some 138, .bin .xor, [.tmp 133, .tmp 137], none, 3, [13, 11, 12, 17, 15, 14, 16]⟩,
       ⟨some 139, .bin .add, [.tmp 130, .tmp 138], none, 3, [10, 1, 0, 9, 6, 3, 2, 5, 4, 8, 7, 18, 13, 11, 12, 17, 15, 14, 16]⟩,
       ⟨some 140, .mov, [.tmp 12], none, 3, []⟩,
       ⟨some 141, .idxArr 64 1, [.tmp 10, .tmp 140], none, 3, [20]⟩,
       ⟨some 142, .load false 1, [.tmp 141], none, 3, [21, 20]⟩,
       ⟨some 143, .bin .add, [.tmp 139, .tmp 142], none, 3, [19, 10, 1, 0, 9, 6, 3, 2, 5, 4, 8, 7, 18, 13, 11, 12, 17, 15, 14, 16, 22, 21, 20]⟩,
       ⟨some 144, .mov, [.tmp 12], none, 3, []⟩,
       ⟨some 145, .idxArr 64 1, [.tmp 5, .tmp 144], none, 3, [24]⟩,
       ⟨some 146, .load false 1, [.tmp 145], none, 3, [25, 24]⟩,
       ⟨some 147, .bin .add, [.tmp 143, .tmp 146], none, 3, [23, 19, 10, 1, 0, 9, 6, 3, 2, 5, 4, 8, 7, 18, 13, 11, 12, 17, 15, 14, 16, 22, 21, 20, 26, 25, 24]⟩,
       ⟨some 19, .mov, [.tmp 147], none, 3, [27, 23, 19, 10, 1, 0, 9, 6, 3, 2, 5, 4, 8, 7, 18, 13, 11, 12, 17, 15, 14, 16, 22, 21, 20, 26, 25, 24]⟩]) (.seq (.region false 3 [
       ⟨some 148, .mov, [.tmp 13], none, 0, []⟩,
       ⟨some 149, .callS 50, [.tmp 148, .cst (.int .u64 2)], none, 0, []⟩,
       ⟨some 150, .mov, [.tmp 13], none, 0, []⟩,
       ⟨some 151, .callS 50, [.tmp 150, .cst (.int .u64 13)], none, 0, []⟩,
       ⟨some 152, .bin .xor, [.tmp 149, .tmp 151], none, 0, []⟩,
       ⟨some 153, .mov, [.tmp 13], none, 0, []⟩,
       ⟨some 154, .callS 50, [.tmp 153, .cst (.int .u64 22)], none, 0, []⟩,
       ⟨some 155, .bin .xor, [.tmp 152, .tmp 154], none, 0, []⟩,
       ⟨some 156, .mov, [.tmp 13], none, 0, []⟩,
       ⟨some 157, .mov, [.tmp 14], none, 0, []⟩,
       ⟨some 158, .bin .and, [.tmp 156, .tmp 157], none, 0, []⟩,
       ⟨some 159, .mov, [.tmp 13], none, 0, []⟩,
       ⟨some 160, .mov, [.tmp 15], none, 0, []⟩,
       ⟨some 161, .bin .and, [.tmp 159, .tmp 160], none, 0, []⟩,
       ⟨some 162, .bin .xor, [.tmp 158, .tmp 161], none, 0, []⟩,
       ⟨some 163, .mov, [.tmp 14], none, 0, []⟩,
       ⟨some 164, .mov, [.tmp 15], none, 0, []⟩,
       ⟨some 165, .bin .and, [.tmp 163, .tmp 164], none, 0, []⟩,
       ⟨some 166, .bin .xor, [.tmp 162, .tmp 165], none, 0, []⟩,
       ⟨some 167, .bin .add, [.tmp 155, .tmp 166], none, 0, []⟩,
       ⟨some 20, .mov, [.tmp 167], none, 0, []⟩]) (.region false 0 [
       ⟨some 168, .mov, [.tmp 19], none, 0, []⟩,
       ⟨some 169, .mov, [.tmp 20], none, 0, []⟩,
       ⟨some 170, .bin .add, [.tmp 168, .tmp 169], none, 0, []⟩,
       ⟨some 171, .mov, [.tmp 13], none, 0, []⟩,
       ⟨some 172, .mov, [.tmp 14], none, 0, []⟩,
       ⟨some 173, .mov, [.tmp 15], none, 0, []⟩,
       ⟨some 174, .idxArr 8 1, [.tmp 11, .cst (.int .i64 3)], none, 0, []⟩,
       ⟨some 175, .load false 1, [.tmp 174], none, 0, []⟩,
       ⟨some 176, .mov, [.tmp 19], none, 0, []⟩,
       ⟨some 177, .bin .add, [.tmp 175, .tmp 176], none, 0, []⟩,
       ⟨some 178, .mov, [.tmp 16], none, 0, []⟩,
       ⟨some 179, .mov, [.tmp 17], none, 0, []⟩,
       ⟨some 180, .mov, [.tmp 18], none, 0, []⟩,
       ⟨some 181, .buildArr 8 (.int .u32), [.tmp 170, .tmp 171, .tmp 172, .tmp 173, .tmp 177, .tmp 178, .tmp 179, .tmp 180], none, 0, []⟩,
       ⟨none, .store 8, [.tmp 11, .tmp 181], none, 0, []⟩]))))) (.region false 0 [
      ⟨some 106, .mov, [.tmp 12], none, 0, []⟩,
      ⟨some 107, .bin .add, [.tmp 106, .cst (.int .i64 1)], none, 0, []⟩,
      ⟨some 12, .mov, [.tmp 107], none, 0, []⟩])))
def ir36_v2 : List Nat := [2, 4, 5, 10, 11, 12]
def ir36_b3 : IC := (.seq (.seq (.region false 0 [
      ⟨some 182, .mov, [.tmp 21], none, 0, []⟩,
      ⟨some 183, .bin .lss, [.tmp 182, .cst (.int .i64 8)], none, 0, []⟩]) (.cond (.tmp 183) (.skip) (.cut [2, 4] (.exit 6)))) (.seq (.block 7 (.region true 0 [
       ⟨some 186, .mov, [.tmp 21], none, 0, []⟩,
       ⟨some 187, .mov, [.tmp 21], none, 0, []⟩,
       ⟨some 188, .idxArr 8 1, [.tmp 2, .tmp 187], none, 0, [1]⟩,
       ⟨some 189, .load false 1, [.tmp 188], none, 0, [2, 1]⟩,
       ⟨some 190, .mov, [.tmp 21], none, 0, []⟩,
       ⟨some 191, .idxArr 8 1, [.tmp 11, .tmp 190], none, 0, [4]⟩,
       ⟨some 192, .load false 1, [.tmp 191], none, 0, [5, 4]⟩,
       ⟨some 193, .bin .add, [.tmp 189, .tmp 192], none, 0, [3, 2, 1, 6, 5, 4]⟩,
       ⟨some 194, .idxArr 8 1, [.tmp 2, .tmp 186], none, 0, [0, 1, 2, 3, 4, 5, 6, 7]⟩,
       ⟨none, .store 1, [.tmp 194, .tmp 193], none, 0, [8, 0, 1, 2, 3, 4, 5, 6, 7]⟩])) (.region false 0 [
      ⟨some 184, .mov, [.tmp 21], none, 0, []⟩,
      ⟨some 185, .bin .add, [.tmp 184, .cst (.int .i64 1)], none, 0, []⟩,
      ⟨some 21, .mov, [.tmp 185], none, 0, []⟩])))
def ir36_v3 : List Nat := [2, 4, 11, 21]
def ir36_t {R : Type} (o0 o1 o2 o3 : St → (Ex → St → Option R) → Option R) : LT R := (.node .nil (.node .nil (.node (.node .nil (.node (.orc o0) .nil)) (.node (.node .nil (.node (.orc o1) .nil)) (.node .nil (.node .nil (.node (.node .nil (.node (.orc o2) .nil)) (.node (.node .nil (.node (.orc o3) .nil)) .nil))))))))
def ir36 : IFn :=
  { ntmps := 196, results := [.inr (4, true, 8)], body := (.seq (.region false 2 [
    ⟨some 2, .box 60, [.tmp 0], none, 0, []⟩,
    ⟨some 4, .alloc 60 (.pure (.arr 8 (.int .u32)) (List.replicate 8 (Ty.dflt (.int .u32)))), [], none, 0, []⟩]) (.seq (.region false 1 [
    ⟨some 5, .alloc 61 (.pure (.arr 64 (.int .u32)) (List.replicate 64 (Ty.dflt (.int .u32)))), [], none, 0, []⟩]) (.seq (.seq (.region false 0 [
    ⟨some 6, .mov, [.cst (.int .i64 0)], none, 0, []⟩]) (.block 0 (.loop ir36_v0 ir36_b0))) (.seq (.seq (.region false 0 [
    ⟨some 7, .mov, [.cst (.int .i64 16)], none, 0, []⟩]) (.block 2 (.loop ir36_v1 ir36_b1))) (.seq (.region false 2 [
    ⟨some 102, .callS 51, [], none, 0, []⟩,
    ⟨some 10, .alloc 61 (.pure (.arr 64 (.int .u32)) (List.replicate 64 (Ty.dflt (.int .u32)))), [], none, 0, []⟩,
    ⟨none, .store 64, [.tmp 10, .tmp 102], none, 0, []⟩]) (.seq (.region false 1 [
    ⟨some 103, .load true 8, [.tmp 2], none, 0, []⟩,
    ⟨some 11, .alloc 60 (.pure (.arr 8 (.int .u32)) (List.replicate 8 (Ty.dflt (.int .u32)))), [], none, 0, []⟩,
    ⟨none, .store 8, [.tmp 11, .tmp 103], none, 0, []⟩]) (.seq (.seq (.region false 0 [
    ⟨some 12, .mov, [.cst (.int .i64 0)], none, 0, []⟩]) (.block 4 (.loop ir36_v2 ir36_b2))) (.seq (.seq (.region false 0 [
    ⟨some 21, .mov, [.cst (.int .i64 0)], none, 0, []⟩]) (.block 6 (.loop ir36_v3 ir36_b3))) (.seq (.region false 0 [
    ⟨some 195, .load true 8, [.tmp 2], none, 0, []⟩,
    ⟨none, .store 8, [.tmp 4, .tmp 195], none, 0, []⟩]) (.cut [4] (.ret))))))))))) }
theorem ir36_tok {R : Type} {summ : Nat → Option Summ} {fu : Nat} {call : Nat → List CV → List Blk → (CV → List Blk → Option R) → Option R} {o0 o1 o2 o3 : St → (Ex → St → Option R) → Option R} (h0 : ∀ T k r, o0 T k = some r → evLoopN (evCode summ fu call ir36_b0) (St.norm ir36_v0) fu T k = some r) (h1 : ∀ T k r, o1 T k = some r → evLoopN (evCode summ fu call ir36_b1) (St.norm ir36_v1) fu T k = some r) (h2 : ∀ T k r, o2 T k = some r → evLoopN (evCode summ fu call ir36_b2) (St.norm ir36_v2) fu T k = some r) (h3 : ∀ T k r, o3 T k = some r → evLoopN (evCode summ fu call ir36_b3) (St.norm ir36_v3) fu T k = some r) : LTok summ fu call (ir36_t o0 o1 o2 o3) ir36.body := ⟨trivial, ⟨trivial, ⟨⟨trivial, h0⟩, ⟨⟨trivial, h1⟩, ⟨trivial, ⟨trivial, ⟨⟨trivial, h2⟩, ⟨⟨trivial, h3⟩, trivial⟩⟩⟩⟩⟩⟩⟩⟩


def ir37_b0 : IC := (.seq (.seq (.region false 0 [
      ⟨some 9, .mov, [.tmp 7], none, 0, []⟩,
      ⟨some 10, .mov, [.tmp 2], none, 0, []⟩,
      ⟨some 11, .bin .lss, [.tmp 9, .tmp 10], none, 0, []⟩]) (.cond (.tmp 11) (.skip) (.cut [3, 6] (.exit 0)))) (.seq (.block 1 (.region false 3 [
       ⟨some 14, .mov, [.tmp 7], none, 0, []⟩,
       ⟨some 15, .conv .u8, [.tmp 14], none, 0, []⟩,
       ⟨some 16, .buildSl 5 (.int .u8) 1, [.tmp 15], none, 0, []⟩,
       ⟨some 17, .sliceArr 32 (.int .u8) false false, [.tmp 3], none, 0, []⟩,
       ⟨some 18, .append 5 (.int .u8) 1, [.tmp 16, .tmp 17], none, 0, []⟩,
       ⟨some 19, .callS 11, [.tmp 18], none, 0, []⟩,
       ⟨none, .store 32, [.tmp 3, .tmp 19], none, 0, []⟩])) (.region false 0 [
      ⟨some 12, .mov, [.tmp 7], none, 0, []⟩,
      ⟨some 13, .bin .add, [.tmp 12, .cst (.int .i64 1)], none, 0, []⟩,
      ⟨some 7, .mov, [.tmp 13], none, 0, []⟩])))
def ir37_v0 : List Nat := [2, 3, 6, 7]
def ir37_t {R : Type} (o0 : St → (Ex → St → Option R) → Option R) : LT R := (.node .nil (.node (.node .nil (.node (.orc o0) .nil)) .nil))
def ir37 : IFn :=
  { ntmps := 21, results := [.inr (6, true, 32)], body := (.seq (.region false 2 [
    ⟨some 3, .box 25, [.tmp 0], none, 0, []⟩,
    ⟨some 6, .alloc 25 (.pure (.arr 32 (.int .u8)) (List.replicate 32 (Ty.dflt (.int .u8)))), [], none, 0, []⟩]) (.seq (.seq (.region false 0 [
    ⟨some 8, .mov, [.tmp 1], none, 0, []⟩,
    ⟨some 7, .mov, [.tmp 8], none, 0, []⟩]) (.block 0 (.loop ir37_v0 ir37_b0))) (.seq (.region false 0 [
    ⟨some 20, .load true 32, [.tmp 3], none, 0, []⟩,
    ⟨none, .store 32, [.tmp 6, .tmp 20], none, 0, []⟩]) (.cut [6] (.ret))))) }
theorem ir37_tok {R : Type} {summ : Nat → Option Summ} {fu : Nat} {call : Nat → List CV → List Blk → (CV → List Blk → Option R) → Option R} {o0 : St → (Ex → St → Option R) → Option R} (h0 : ∀ T k r, o0 T k = some r → evLoopN (evCode summ fu call ir37_b0) (St.norm ir37_v0) fu T k = some r) : LTok summ fu call (ir37_t o0) ir37.body := ⟨trivial, ⟨⟨trivial, h0⟩, trivial⟩⟩


def ir38 : IFn :=
  { ntmps := 23, results := [.inl 2], body := (.seq (.region false 1 [
    ⟨some 1, .box 39, [.tmp 0], none, 0, []⟩,
    ⟨some 2, .mov, [.cst (.bool false)], none, 0, []⟩]) (.seq (.region false 0 [
    ⟨some 3, .fieldAddr 0 0, [.tmp 1], none, 0, []⟩,
    ⟨some 4, .load false 1, [.tmp 3], none, 0, []⟩,
    ⟨some 5, .bin .geq, [.tmp 4, .cst (.int .i64 0)], none, 0, []⟩,
    ⟨some 6, .mov, [.tmp 5], none, 0, []⟩,
    ⟨some 7, .fieldAddr 0 0, [.tmp 1], some (6, true), 0, []⟩,
    ⟨some 8, .load false 1, [.tmp 7], some (6, true), 0, []⟩,
    ⟨some 9, .bin .lss, [.tmp 8, .cst (.int .i64 4)], some (6, true), 0, []⟩,
    ⟨some 10, .pick, [.tmp 6, .tmp 9, .cst (.bool false)], none, 0, []⟩,
    ⟨some 11, .mov, [.tmp 10], none, 0, []⟩,
    ⟨some 12, .fieldAddr 1 1, [.tmp 1], some (11, true), 0, []⟩,
    ⟨some 13, .load false 1, [.tmp 12], some (11, true), 0, []⟩,
    ⟨some 14, .len, [.tmp 13], some (11, true), 0, []⟩,
    ⟨some 15, .bin .eql, [.tmp 14, .cst (.int .i64 67)], some (11, true), 0, []⟩,
    ⟨some 16, .pick, [.tmp 11, .tmp 15, .cst (.bool false)], none, 0, []⟩,
    ⟨some 17, .mov, [.tmp 16], none, 0, []⟩,
    ⟨some 18, .fieldAddr 2 2, [.tmp 1], some (17, true), 0, []⟩,
    ⟨some 19, .load false 1, [.tmp 18], some (17, true), 0, []⟩,
    ⟨some 20, .len, [.tmp 19], some (17, true), 0, []⟩,
    ⟨some 21, .bin .eql, [.tmp 20, .cst (.int .i64 2)], some (17, true), 0, []⟩,
    ⟨some 22, .pick, [.tmp 17, .tmp 21, .cst (.bool false)], none, 0, []⟩,
    ⟨some 2, .mov, [.tmp 22], none, 0, []⟩]) (.cut [2] (.ret)))) }


def ir39_b0 : IC := (.seq (.region false 0 [
      ⟨some 9, .bin .lss, [.tmp 8, .tmp 7], none, 0, []⟩]) (.seq (.cond (.tmp 9) (.skip) (.cut [2, 3] (.exit 0))) (.seq (.block 1 (.seq (.region false 1 [
       ⟨some 10, .idxSl 32, [.tmp 6, .tmp 8], none, 0, []⟩,
       ⟨some 11, .load true 32, [.tmp 10], none, 0, []⟩,
       ⟨some 5, .alloc 25 (.pure (.arr 32 (.int .u8)) (List.replicate 32 (Ty.dflt (.int .u8)))), [], none, 0, []⟩,
       ⟨none, .store 32, [.tmp 5, .tmp 11], none, 0, []⟩]) (.region false 1 [
       ⟨some 12, .mov, [.tmp 3], none, 0, []⟩,
       ⟨some 13, .sliceArr 32 (.int .u8) false false, [.tmp 5], none, 0, []⟩,
       ⟨some 14, .append 5 (.int .u8) 1, [.tmp 12, .tmp 13], none, 0, []⟩,
       ⟨some 3, .mov, [.tmp 14], none, 0, []⟩]))) (.region false 0 [
      ⟨some 15, .bin .add, [.tmp 8, .cst (.int .i64 1)], none, 0, []⟩,
      ⟨some 8, .mov, [.tmp 15], none, 0, []⟩]))))
def ir39_v0 : List Nat := [2, 3, 6, 7, 8]
def ir39_t {R : Type} (o0 : St → (Ex → St → Option R) → Option R) : LT R := (.node .nil (.node .nil (.node (.node .nil (.node (.orc o0) .nil)) .nil)))
def ir39 : IFn :=
  { ntmps := 18, results := [.inr (2, true, 32)], body := (.seq (.region false 1 [
    ⟨some 2, .alloc 25 (.pure (.arr 32 (.int .u8)) (List.replicate 32 (Ty.dflt (.int .u8)))), [], none, 0, []⟩]) (.seq (.region false 0 [
    ⟨some 3, .mov, [.cst (.nil 5 (.int .u8))], none, 0, []⟩]) (.seq (.seq (.region false 0 [
    ⟨some 6, .mov, [.tmp 0], none, 0, []⟩,
    ⟨some 7, .len, [.tmp 6], none, 0, []⟩,
    ⟨some 8, .mov, [.cst (.int .i64 0)], none, 0, []⟩]) (.block 0 (.loop ir39_v0 ir39_b0))) (.seq (.region false 1 [
    ⟨some 16, .mov, [.tmp 3], none, 0, []⟩,
    ⟨some 17, .callS 11, [.tmp 16], none, 0, []⟩,
    ⟨none, .store 32, [.tmp 2, .tmp 17], none, 0, []⟩]) (.cut [2] (.ret)))))) }
theorem ir39_tok {R : Type} {summ : Nat → Option Summ} {fu : Nat} {call : Nat → List CV → List Blk → (CV → List Blk → Option R) → Option R} {o0 : St → (Ex → St → Option R) → Option R} (h0 : ∀ T k r, o0 T k = some r → evLoopN (evCode summ fu call ir39_b0) (St.norm ir39_v0) fu T k = some r) : LTok summ fu call (ir39_t o0) ir39.body := ⟨trivial, ⟨trivial, ⟨⟨trivial, h0⟩, trivial⟩⟩⟩


def ir40 : IFn :=
  { ntmps := 13, results := [.inr (4, true, 32)], body := (.seq (.region false 3 [
    ⟨some 2, .box 25, [.tmp 0], none, 0, []⟩,
    ⟨some 3, .box 25, [.tmp 1], none, 0, []⟩,
    ⟨some 4, .alloc 25 (.pure (.arr 32 (.int .u8)) (List.replicate 32 (Ty.dflt (.int .u8)))), [], none, 0, []⟩]) (.seq (.region false 2 [
    ⟨some 6, .buildSl 5 (.int .u8) 1, [.cst (.int .u8 255)], none, 0, []⟩,
    ⟨some 7, .sliceArr 32 (.int .u8) false false, [.tmp 2], none, 0, []⟩,
    ⟨some 8, .append 5 (.int .u8) 1, [.tmp 6, .tmp 7], none, 0, []⟩,
    ⟨some 5, .mov, [.tmp 8], none, 0, []⟩]) (.seq (.region false 2 [
    ⟨some 9, .mov, [.tmp 5], none, 0, []⟩,
    ⟨some 10, .sliceArr 32 (.int .u8) false false, [.tmp 3], none, 0, []⟩,
    ⟨some 11, .append 5 (.int .u8) 1, [.tmp 9, .tmp 10], none, 0, []⟩,
    ⟨some 12, .callS 11, [.tmp 11], none, 0, []⟩,
    ⟨none, .store 32, [.tmp 4, .tmp 12], none, 0, []⟩]) (.cut [4] (.ret))))) }


def ir41_b0 : IC := (.seq (.seq (.region false 0 [
      ⟨some 5, .mov, [.tmp 4], none, 0, []⟩,
      ⟨some 6, .mov, [.tmp 0], none, 0, []⟩,
      ⟨some 7, .len, [.tmp 6], none, 0, []⟩,
      ⟨some 8, .bin .lss, [.tmp 5, .tmp 7], none, 0, []⟩]) (.cond (.tmp 8) (.skip) (.cut [2, 3] (.exit 0)))) (.seq (.block 1 (.region false 1 [
       ⟨some 11, .mov, [.tmp 3], none, 0, []⟩,
       ⟨some 12, .mov, [.tmp 0], none, 0, []⟩,
       ⟨some 13, .mov, [.tmp 4], none, 0, []⟩,
       ⟨some 14, .idxSl 32, [.tmp 12, .tmp 13], none, 0, []⟩,
       ⟨some 15, .sliceArr 32 (.int .u8) false false, [.tmp 14], none, 0, []⟩,
       ⟨some 16, .append 5 (.int .u8) 1, [.tmp 11, .tmp 15], none, 0, []⟩,
       ⟨some 3, .mov, [.tmp 16], none, 0, []⟩])) (.region false 0 [
      ⟨some 9, .mov, [.tmp 4], none, 0, []⟩,
      ⟨some 10, .bin .add, [.tmp 9, .cst (.int .i64 1)], none, 0, []⟩,
      ⟨some 4, .mov, [.tmp 10], none, 0, []⟩])))
def ir41_v0 : List Nat := [0, 2, 3, 4]
def ir41_t {R : Type} (o0 : St → (Ex → St → Option R) → Option R) : LT R := (.node .nil (.node .nil (.node (.node .nil (.node (.orc o0) .nil)) .nil)))
def ir41 : IFn :=
  { ntmps := 19, results := [.inr (2, true, 32)], body := (.seq (.region false 1 [
    ⟨some 2, .alloc 25 (.pure (.arr 32 (.int .u8)) (List.replicate 32 (Ty.dflt (.int .u8)))), [], none, 0, []⟩]) (.seq (.region false 0 [
    ⟨some 3, .mov, [.cst (.nil 5 (.int .u8))], none, 0, []⟩]) (.seq (.seq (.region false 0 [
    ⟨some 4, .mov, [.cst (.int .i64 0)], none, 0, []⟩]) (.block 0 (.loop ir41_v0 ir41_b0))) (.seq (.region false 1 [
    ⟨some 17, .mov, [.tmp 3], none, 0, []⟩,
    ⟨some 18, .callS 12, [.tmp 17], none, 0, []⟩,
    ⟨none, .store 32, [.tmp 2, .tmp 18], none, 0, []⟩]) (.cut [2] (.ret)))))) }
theorem ir41_tok {R : Type} {summ : Nat → Option Summ} {fu : Nat} {call : Nat → List CV → List Blk → (CV → List Blk → Option R) → Option R} {o0 : St → (Ex → St → Option R) → Option R} (h0 : ∀ T k r, o0 T k = some r → evLoopN (evCode summ fu call ir41_b0) (St.norm ir41_v0) fu T k = some r) : LTok summ fu call (ir41_t o0) ir41.body := ⟨trivial, ⟨trivial, ⟨⟨trivial, h0⟩, trivial⟩⟩⟩


def ir42 : IFn :=
  { ntmps := 11, results := [.inr (4, true, 32)], body := (.seq (.region false 3 [
    ⟨some 2, .box 25, [.tmp 0], none, 0, []⟩,
    ⟨some 3, .box 25, [.tmp 1], none, 0, []⟩,
    ⟨some 4, .alloc 25 (.pure (.arr 32 (.int .u8)) (List.replicate 32 (Ty.dflt (.int .u8)))), [], none, 0, []⟩]) (.seq (.region true 4 [
    ⟨some 5, .buildSl 5 (.int .u8) 1, [.cst (.int .u8 255)], none, 0, []⟩,
    ⟨some 6, .sliceArr 32 (.int .u8) false false, [.tmp 2], none, 1, []⟩,
    ⟨some 7, .append 5 (.int .u8) 1, [.tmp 5, .tmp 6], none, 1, [0, 1]⟩,
    ⟨some 8, .sliceArr 32 (.int .u8) false false, [.tmp 3], none, 2, []⟩,
    ⟨some 9, .append 5 (.int .u8) 1, [.tmp 7, .tmp 8], none, 2, [2, 0, 1, 3]⟩,
    ⟨some 10, .callS 12, [.tmp 9], none, 3, [4, 2, 0, 1, 3]⟩,
    ⟨none, .store 32, [.tmp 4, .tmp 10], none, 4, [5, 4, 2, 0, 1, 3]⟩]) (.cut [4] (.ret)))) }


def ir43 : IFn :=
  { ntmps := 15, results := [.inr (6, true, 32)], body := (.seq (.region false 2 [
    ⟨some 3, .box 25, [.tmp 0], none, 0, []⟩,
    ⟨some 6, .alloc 25 (.pure (.arr 32 (.int .u8)) (List.replicate 32 (Ty.dflt (.int .u8)))), [], none, 0, []⟩]) (.seq (.region false 3 [
    ⟨some 7, .sliceArr 32 (.int .u8) false false, [.tmp 3], none, 0, []⟩,
    ⟨some 8, .mov, [.tmp 1], none, 0, []⟩,
    ⟨some 9, .conv .u8, [.tmp 8], none, 0, []⟩,
    ⟨some 10, .mov, [.tmp 2], none, 0, []⟩,
    ⟨some 11, .conv .u8, [.tmp 10], none, 0, []⟩,
    ⟨some 12, .buildSl 5 (.int .u8) 2, [.tmp 9, .tmp 11], none, 0, []⟩,
    ⟨some 13, .append 5 (.int .u8) 1, [.tmp 7, .tmp 12], none, 0, []⟩,
    ⟨some 14, .callS 11, [.tmp 13], none, 0, []⟩,
    ⟨none, .store 32, [.tmp 6, .tmp 14], none, 0, []⟩]) (.cut [6] (.ret)))) }


def ir44_b0 : IC := (.seq (.region false 0 [
      ⟨some 8, .bin .lss, [.tmp 7, .cst (.int .i64 67)], none, 0, []⟩]) (.seq (.cond (.tmp 8) (.skip) (.cut [4, 5] (.exit 0))) (.seq (.block 1 (.seq (.region false 0 [
       ⟨some 9, .mov, [.tmp 7], none, 0, []⟩,
       ⟨some 6, .mov, [.tmp 9], none, 0, []⟩]) (.region false 4 [
       ⟨some 10, .mov, [.tmp 5], none, 0, []⟩,
       ⟨some 11, .load true 32, [.tmp 2], none, 0, []⟩,
       ⟨some 12, .mov, [.tmp 1], none, 0, []⟩,
       ⟨some 13, .mov, [.tmp 6], none, 0, []⟩,
       ⟨some 14, .callS 43, [.tmp 11, .tmp 12, .tmp 13], none, 0, []⟩,
       ⟨some 15, .callS 37, [.tmp 14, .cst (.int .i64 0), .cst (.int .i64 15)], none, 0, []⟩,
       ⟨some 16, .buildSl 25 (.arr 32 (.int .u8)) 1, [.tmp 15], none, 0, []⟩,
       ⟨some 17, .append 25 (.arr 32 (.int .u8)) 32, [.tmp 10, .tmp 16], none, 0, []⟩,
       ⟨some 5, .mov, [.tmp 17], none, 0, []⟩]))) (.region false 0 [
      ⟨some 18, .bin .add, [.tmp 7, .cst (.int .i64 1)], none, 0, []⟩,
      ⟨some 7, .mov, [.tmp 18], none, 0, []⟩]))))
def ir44_v0 : List Nat := [1, 2, 4, 5, 7]
def ir44_t {R : Type} (o0 : St → (Ex → St → Option R) → Option R) : LT R := (.node .nil (.node .nil (.node (.node .nil (.node (.orc o0) .nil)) .nil)))
def ir44 : IFn :=
  { ntmps := 21, results := [.inr (4, true, 32)], body := (.seq (.region false 2 [
    ⟨some 2, .box 25, [.tmp 0], none, 0, []⟩,
    ⟨some 4, .alloc 25 (.pure (.arr 32 (.int .u8)) (List.replicate 32 (Ty.dflt (.int .u8)))), [], none, 0, []⟩]) (.seq (.region false 0 [
    ⟨some 5, .mov, [.cst (.nil 25 (.arr 32 (.int .u8)))], none, 0, []⟩]) (.seq (.seq (.region false 0 [
    ⟨some 7, .mov, [.cst (.int .i64 0)], none, 0, []⟩]) (.block 0 (.loop ir44_v0 ir44_b0))) (.seq (.region false 1 [
    ⟨some 19, .mov, [.tmp 5], none, 0, []⟩,
    ⟨some 20, .callS 39, [.tmp 19], none, 0, []⟩,
    ⟨none, .store 32, [.tmp 4, .tmp 20], none, 0, []⟩]) (.cut [4] (.ret)))))) }
theorem ir44_tok {R : Type} {summ : Nat → Option Summ} {fu : Nat} {call : Nat → List CV → List Blk → (CV → List Blk → Option R) → Option R} {o0 : St → (Ex → St → Option R) → Option R} (h0 : ∀ T k r, o0 T k = some r → evLoopN (evCode summ fu call ir44_b0) (St.norm ir44_v0) fu T k = some r) : LTok summ fu call (ir44_t o0) ir44.body := ⟨trivial, ⟨trivial, ⟨⟨trivial, h0⟩, trivial⟩⟩⟩


def ir45 : IFn :=
  { ntmps := 17, results := [.inr (6, true, 32)], body := (.seq (.region false 2 [
    ⟨some 3, .box 25, [.tmp 0], none, 0, []⟩,
    ⟨some 6, .alloc 25 (.pure (.arr 32 (.int .u8)) (List.replicate 32 (Ty.dflt (.int .u8)))), [], none, 0, []⟩]) (.seq (.region false 5 [
    ⟨some 7, .buildSl 5 (.int .u8) 0, [], none, 0, []⟩,
    ⟨some 8, .sliceArr 32 (.int .u8) false false, [.tmp 3], none, 0, []⟩,
    ⟨some 9, .append 5 (.int .u8) 1, [.tmp 7, .tmp 8], none, 0, []⟩,
    ⟨some 10, .mov, [.tmp 1], none, 0, []⟩,
    ⟨some 11, .conv .u8, [.tmp 10], none, 0, []⟩,
    ⟨some 12, .mov, [.tmp 2], none, 0, []⟩,
    ⟨some 13, .conv .u8, [.tmp 12], none, 0, []⟩,
    ⟨some 14, .buildSl 5 (.int .u8) 2, [.tmp 11, .tmp 13], none, 0, []⟩,
    ⟨some 15, .append 5 (.int .u8) 1, [.tmp 9, .tmp 14], none, 0, []⟩,
    ⟨some 16, .callS 12, [.tmp 15], none, 0, []⟩,
    ⟨none, .store 32, [.tmp 6, .tmp 16], none, 0, []⟩]) (.cut [6] (.ret)))) }


def ir46_b0 : IC := (.seq (.seq (.region false 0 [
      ⟨some 7, .mov, [.tmp 6], none, 0, []⟩,
      ⟨some 8, .bin .lss, [.tmp 7, .cst (.int .i64 67)], none, 0, []⟩]) (.cond (.tmp 8) (.skip) (.cut [4, 5] (.exit 0)))) (.seq (.block 1 (.region false 4 [
       ⟨some 11, .mov, [.tmp 5], none, 0, []⟩,
       ⟨some 12, .load true 32, [.tmp 2], none, 0, []⟩,
       ⟨some 13, .mov, [.tmp 1], none, 0, []⟩,
       ⟨some 14, .mov, [.tmp 6], none, 0, []⟩,
       ⟨some 15, .callS 45, [.tmp 12, .tmp 13, .tmp 14], none, 0, []⟩,
       ⟨some 16, .callS 17, [.tmp 15, .cst (.int .i64 0), .cst (.int .i64 15)], none, 0, []⟩,
       ⟨some 17, .buildSl 25 (.arr 32 (.int .u8)) 1, [.tmp 16], none, 0, []⟩,
       ⟨some 18, .append 25 (.arr 32 (.int .u8)) 32, [.tmp 11, .tmp 17], none, 0, []⟩,
       ⟨some 5, .mov, [.tmp 18], none, 0, []⟩])) (.region false 0 [
      ⟨some 9, .mov, [.tmp 6], none, 0, []⟩,
      ⟨some 10, .bin .add, [.tmp 9, .cst (.int .i64 1)], none, 0, []⟩,
      ⟨some 6, .mov, [.tmp 10], none, 0, []⟩])))
def ir46_v0 : List Nat := [1, 2, 4, 5, 6]
def ir46_t {R : Type} (o0 : St → (Ex → St → Option R) → Option R) : LT R := (.node .nil (.node .nil (.node (.node .nil (.node (.orc o0) .nil)) .nil)))
def ir46 : IFn :=
  { ntmps := 21, results := [.inr (4, true, 32)], body := (.seq (.region false 2 [
    ⟨some 2, .box 25, [.tmp 0], none, 0, []⟩,
    ⟨some 4, .alloc 25 (.pure (.arr 32 (.int .u8)) (List.replicate 32 (Ty.dflt (.int .u8)))), [], none, 0, []⟩]) (.seq (.region false 0 [
    ⟨some 5, .mov, [.cst (.nil 25 (.arr 32 (.int .u8)))], none, 0, []⟩]) (.seq (.seq (.region false 0 [
    ⟨some 6, .mov, [.cst (.int .i64 0)], none, 0, []⟩]) (.block 0 (.loop ir46_v0 ir46_b0))) (.seq (.region false 1 [
    ⟨some 19, .mov, [.tmp 5], none, 0, []⟩,
    ⟨some 20, .callS 41, [.tmp 19], none, 0, []⟩,
    ⟨none, .store 32, [.tmp 4, .tmp 20], none, 0, []⟩]) (.cut [4] (.ret)))))) }
theorem ir46_tok {R : Type} {summ : Nat → Option Summ} {fu : Nat} {call : Nat → List CV → List Blk → (CV → List Blk → Option R) → Option R} {o0 : St → (Ex → St → Option R) → Option R} (h0 : ∀ T k r, o0 T k = some r → evLoopN (evCode summ fu call ir46_b0) (St.norm ir46_v0) fu T k = some r) : LTok summ fu call (ir46_t o0) ir46.body := ⟨trivial, ⟨trivial, ⟨⟨trivial, h0⟩, trivial⟩⟩⟩


def ir47 : IFn :=
  { ntmps := 25, results := [.inl 2], body := (.seq (.region false 0 [
    ⟨some 2, .mov, [.cst (.int .u32 0)], none, 0, []⟩]) (.seq (.region true 0 [
    ⟨some 3, .mov, [.tmp 0], none, 0, []⟩,
    ⟨some 4, .idxSl 1, [.tmp 3, .cst (.int .i64 0)], none, 0, [0]⟩,
    ⟨some 5, .load false 1, [.tmp 4], none, 0, [1, 0]⟩,
    ⟨some 6, .conv .u32, [.tmp 5], none, 0, [2, 1, 0]⟩,
    ⟨some 7, .bin .shl, [.tmp 6, .cst (.int .u64 24)], none, 0, [3, 2, 1, 0]⟩,
    ⟨some 8, .mov, [.tmp 0], none, 0, []⟩,
    ⟨some 9, .idxSl 1, [.tmp 8, .cst (.int .i64 1)], none, 0, [5]⟩,
    ⟨some 10, .load false 1, [.tmp 9], none, 0, [6, 5]⟩,
    ⟨some 11, .conv .u32, [.tmp 10], none, 0, [7, 6, 5]⟩,
    ⟨some 12, .bin .shl, [.tmp 11, .cst (.int .u64 16)], none, 0, [8, 7, 6, 5]⟩,
    ⟨some 13, .bin .or, [.tmp 7, .tmp 12], none, 0, [4, 3, 2, 1, 0, 9, 8, 7, 6, 5]⟩,
    ⟨some 14, .mov, [.tmp 0], none, 0, []⟩,
    ⟨some 15, .idxSl 1, [.tmp 14, .cst (.int .i64 2)], none, 0, [11]⟩,
    ⟨some 16, .load false 1, [.tmp 15], none, 0, [12, 11]⟩,
    ⟨some 17, .conv .u32, [.tmp 16], none, 0, [13, 12, 11]⟩,
    ⟨some 18, .bin .shl, [.tmp 17, .cst (.int .u64 8)], none, 0, [14, 13, 12, 11]⟩,
    ⟨some 19, .bin .or, [.tmp 13, .tmp 18], none, 0, [10, 4, 3, 2, 1, 0, 9, 8, 7, 6, 5, 15, 14, 13, 12, 11]⟩,
    ⟨some 20, .mov, [.tmp 0], none, 0, []⟩,
    ⟨some 21, .idxSl 1, [.tmp 20, .cst (.int .i64 3)], none, 0, [17]⟩,
    ⟨some 22, .load false 1, [.tmp 21], none, 0, [18, 17]⟩,
    ⟨some 23, .conv .u32, [.tmp 22], none, 0, [19, 18, 17]⟩,
    ⟨some 24, .bin .or, [.tmp 19, .tmp 23], none, 0, [16, 10, 4, 3, 2, 1, 0, 9, 8, 7, 6, 5, 15, 14, 13, 12, 11, 20, 19, 18, 17]⟩,
    ⟨some 2, .mov, [.tmp 24], none, 0, [21, 16, 10, 4, 3, 2, 1, 0, 9, 8, 7, 6, 5, 15, 14, 13, 12, 11, 20, 19, 18, 17]⟩]) (.cut [2] (.ret)))) }


def ir48_b0 : IC := (.seq (.seq (.region false 0 [
      ⟨some 5, .mov, [.tmp 4], none, 0, []⟩,
      ⟨some 6, .bin .lss, [.tmp 5, .cst (.int .i64 32)], none, 0, []⟩]) (.cond (.tmp 6) (.skip) (.cut [3] (.exit 0)))) (.seq (.block 1 (.region true 2 [
       ⟨some 9, .mov, [.tmp 3], none, 0, []⟩,
       ⟨some 10, .mov, [.tmp 4], none, 0, []⟩,
       ⟨some 11, .idxArr 32 1, [.tmp 1, .tmp 10], none, 0, [1]⟩,
       ⟨some 12, .load false 1, [.tmp 11], none, 0, [2, 1]⟩,
       ⟨some 13, .conv .u32, [.tmp 12], none, 0, [3, 2, 1]⟩,
       ⟨some 14, .bin .shl, [.tmp 13, .cst (.int .u64 24)], none, 0, [4, 3, 2, 1]⟩,
       ⟨some 15, .mov, [.tmp 4], none, 0, []⟩,
       ⟨some 16, .bin .add, [.tmp 15, .cst (.int .i64 1)], none, 0, [6]⟩,
       ⟨some 17, .idxArr 32 1, [.tmp 1, .tmp 16], none, 0, [7, 6]⟩,
       ⟨some 18, .load false 1, [.tmp 17], none, 0, [8, 7, 6]⟩,
       ⟨some 19, .conv .u32, [.tmp 18], none, 0, [9, 8, 7, 6]⟩,
       ⟨some 20, .bin .shl, [.tmp 19, .cst (.int .u64 16)], none, 0, [10, 9, 8, 7, 6]⟩,
       ⟨some 21, .bin .or, [.tmp 14, .tmp 20], none, 0, [5, 4, 3, 2, 1, 11, 10, 9, 8, 7, 6]⟩,
       ⟨some 22, .mov, [.tmp 4], none, 0, []⟩,
       ⟨some 23, .bin .add, [.tmp 22, .cst (.int .i64 2)], none, 0, [13]⟩,
       ⟨some 24, .idxArr 32 1, [.tmp 1, .tmp 23], none, 0, [14, 13]⟩,
       ⟨some 25, .load false 1, [.tmp 24], none, 0, [15, 14, 13]⟩,
       ⟨some 26, .conv .u32, [.tmp 25], none, 0, [16, 15, 14, 13]⟩,
       ⟨some 27, .bin .shl, [.tmp 26, .cst (.int .u64 8)], none, 0, [17, 16, 15, 14, 13]⟩,
       ⟨some 28, .bin .or, [.tmp 21, .tmp 27], none, 0, [12, 5, 4, 3, 2, 1, 11, 10, 9, 8, 7, 6, 18, 17, 16, 15, 14, 13]⟩,
       ⟨some 29, .mov, [.tmp 4], none, 0, []⟩,
       ⟨some 30, .bin .add, [.tmp 29, .cst (.int .i64 3)], none, 0, [20]⟩,
       ⟨some 31, .idxArr 32 1, [.tmp 1, .tmp 30], none, 0, [21, 20]⟩,
       ⟨some 32, .load false 1, [.tmp 31], none, 0, [22, 21, 20]⟩,
       ⟨some 33, .conv .u32, [.tmp 32], none, 0, [23, 22, 21, 20]⟩,
       ⟨some 34, .bin .or, [.tmp 28, .tmp 33], none, 0, [19, 12, 5, 4, 3, 2, 1, 11, 10, 9, 8, 7, 6, 18, 17, 16, 15, 14, 13, 24, 23, 22, 21, 20]⟩,
       ⟨some 35, .buildSl 53 (.int .u32) 1, [.tmp 34], none, 0, [25, 19, 12, 5, 4, 3, 2, 1, 11, 10, 9, 8, 7, 6, 18, 17, 16, 15, 14, 13, 24, 23, 22, 21, 20]⟩,
       ⟨some 36, .append 53 (.int .u32) 4, [.tmp 9, .tmp 35], none, 1, [0, 26, 25, 19, 12, 5, 4, 3, 2, 1, 11, 10, 9, 8, 7, 6, 18, 17, 16, 15, 14, 13, 24, 23, 22, 21, 20]⟩,
       ⟨some 3, .mov, [.tmp 36], none, 2, [27, 0, 26, 25, 19, 12, 5, 4, 3, 2, 1, 11, 10, 9, 8, 7, 6, 18, 17, 16, 15, 14, 13, 24, 23, 22, 21, 20]⟩])) (.region false 0 [
      ⟨some 7, .mov, [.tmp 4], none, 0, []⟩,
      ⟨some 8, .bin .add, [.tmp 7, .cst (.int .i64 4)], none, 0, []⟩,
      ⟨some 4, .mov, [.tmp 8], none, 0, []⟩])))
def ir48_v0 : List Nat := [1, 3, 4]
def ir48_t {R : Type} (o0 : St → (Ex → St → Option R) → Option R) : LT R := (.node .nil (.node .nil (.node (.node .nil (.node (.orc o0) .nil)) .nil)))
def ir48 : IFn :=
  { ntmps := 38, results := [.inl 2], body := (.seq (.region false 1 [
    ⟨some 1, .box 25, [.tmp 0], none, 0, []⟩,
    ⟨some 2, .mov, [.cst (.nil 53 (.int .u32))], none, 0, []⟩]) (.seq (.region false 0 [
    ⟨some 3, .mov, [.cst (.nil 53 (.int .u32))], none, 0, []⟩]) (.seq (.seq (.region false 0 [
    ⟨some 4, .mov, [.cst (.int .i64 0)], none, 0, []⟩]) (.block 0 (.loop ir48_v0 ir48_b0))) (.seq (.region false 0 [
    ⟨some 37, .mov, [.tmp 3], none, 0, []⟩,
    ⟨some 2, .mov, [.tmp 37], none, 0, []⟩]) (.cut [2] (.ret)))))) }
theorem ir48_tok {R : Type} {summ : Nat → Option Summ} {fu : Nat} {call : Nat → List CV → List Blk → (CV → List Blk → Option R) → Option R} {o0 : St → (Ex → St → Option R) → Option R} (h0 : ∀ T k r, o0 T k = some r → evLoopN (evCode summ fu call ir48_b0) (St.norm ir48_v0) fu T k = some r) : LTok summ fu call (ir48_t o0) ir48.body := ⟨trivial, ⟨trivial, ⟨⟨trivial, h0⟩, trivial⟩⟩⟩


def ir49 : IFn :=
  { ntmps := 9, results := [.inl 4], body := (.seq (.region false 0 [
    ⟨some 4, .mov, [.cst (.int .u32 0)], none, 0, []⟩]) (.seq (.region false 1 [
    ⟨some 5, .mov, [.tmp 0], none, 0, []⟩,
    ⟨some 6, .mov, [.tmp 1], none, 0, []⟩,
    ⟨some 7, .neg, [.tmp 6], none, 0, []⟩,
    ⟨some 8, .callS 52, [.tmp 5, .tmp 7], none, 0, []⟩,
    ⟨some 4, .mov, [.tmp 8], none, 0, []⟩]) (.cut [4] (.ret)))) }


def ir50 : IFn :=
  { ntmps := 13, results := [.inl 4], body := (.seq (.region false 0 [
    ⟨some 4, .mov, [.cst (.int .u32 0)], none, 0, []⟩]) (.seq (.region false 0 [
    ⟨some 5, .mov, [.tmp 0], none, 0, []⟩,
    ⟨some 6, .mov, [.tmp 1], none, 0, []⟩,
    ⟨some 7, .bin .shr, [.tmp 5, .tmp 6], none, 0, []⟩,
    ⟨some 8, .mov, [.tmp 0], none, 0, []⟩,
    ⟨some 9, .mov, [.tmp 1], none, 0, []⟩,
    ⟨some 10, .bin .sub, [.cst (.int .u64 32), .tmp 9], none, 0, []⟩,
    ⟨some 11, .bin .shl, [.tmp 8, .tmp 10], none, 0, []⟩,
    ⟨some 12, .bin .or, [.tmp 7, .tmp 11], none, 0, []⟩,
    ⟨some 4, .mov, [.tmp 12], none, 0, []⟩]) (.cut [4] (.ret)))) }


def ir51 : IFn :=
  { ntmps := 2, results := [.inr (0, true, 64)], body := (.seq (.region false 1 [
    ⟨some 0, .alloc 61 (.pure (.arr 64 (.int .u32)) (List.replicate 64 (Ty.dflt (.int .u32)))), [], none, 0, []⟩]) (.seq (.region false 0 [
    ⟨some 1, .buildArr 64 (.int .u32), [.cst (.int .u32 1116352408), .cst (.int .u32 1899447441), .cst (.int .u32 3049323471), .cst (.int .u32 3921009573), .cst (.int .u32 961987163), .cst (.int .u32 1508970993), .cst (.int .u32 2453635748), .cst (.int .u32 2870763221), .cst (.int .u32 3624381080), .cst (.int .u32 310598401), .cst (.int .u32 607225278), .cst (.int .u32 1426881987), .cst (.int .u32 1925078388), .cst (.int .u32 2162078206), .cst (.int .u32 2614888103), .cst (.int .u32 3248222580), .cst (.int .u32 3835390401), .cst (.int .u32 4022224774), .cst (.int .u32 264347078), .cst (.int .u32 604807628), .cst (.int .u32 770255983), .cst (.int .u32 1249150122), .cst (.int .u32 1555081692), .cst (.int .u32 1996064986), .cst (.int .u32 2554220882), .cst (.int .u32 2821834349), .cst (.int .u32 2952996808), .cst (.int .u32 3210313671), .cst (.int .u32 3336571891), .cst (.int .u32 3584528711), .cst (.int .u32 113926993), .cst (.int .u32 338241895), .cst (.int .u32 666307205), .cst (.int .u32 773529912), .cst (.int .u32 1294757372), .cst (.int .u32 1396182291), .cst (.int .u32 1695183700), .cst (.int .u32 1986661051), .cst (.int .u32 2177026350), .cst (.int .u32 2456956037), .cst (.int .u32 2730485921), .cst (.int .u32 2820302411), .cst (.int .u32 3259730800), .cst (.int .u32 3345764771), .cst (.int .u32 3516065817), .cst (.int .u32 3600352804), .cst (.int .u32 4094571909), .cst (.int .u32 275423344), .cst (.int .u32 430227734), .cst (.int .u32 506948616), .cst (.int .u32 659060556), .cst (.int .u32 883997877), .cst (.int .u32 958139571), .cst (.int .u32 1322822218), .cst (.int .u32 1537002063), .cst (.int .u32 1747873779), .cst (.int .u32 1955562222), .cst (.int .u32 2024104815), .cst (.int .u32 2227730452), .cst (.int .u32 2361852424), .cst (.int .u32 2428436474), .cst (.int .u32 2756734187), .cst (.int .u32 3204031479), .cst (.int .u32 3329325298)], none, 0, []⟩,
    ⟨none, .store 64, [.tmp 0, .tmp 1], none, 0, []⟩]) (.cut [0] (.ret)))) }


def ir52 : IFn :=
  { ntmps := 17, results := [.inl 4], body := (.seq (.region false 0 [
    ⟨some 4, .mov, [.cst (.int .u32 0)], none, 0, []⟩]) (.seq (.region false 0 [
    ⟨some 6, .mov, [.tmp 1], none, 0, []⟩,
    ⟨some 7, .conv .u64, [.tmp 6], none, 0, []⟩,
    ⟨some 8, .bin .and, [.tmp 7, .cst (.int .u64 31)], none, 0, []⟩,
    ⟨some 5, .mov, [.tmp 8], none, 0, []⟩]) (.seq (.region false 0 [
    ⟨some 9, .mov, [.tmp 0], none, 0, []⟩,
    ⟨some 10, .mov, [.tmp 5], none, 0, []⟩,
    ⟨some 11, .bin .shl, [.tmp 9, .tmp 10], none, 0, []⟩,
    ⟨some 12, .mov, [.tmp 0], none, 0, []⟩,
    ⟨some 13, .mov, [.tmp 5], none, 0, []⟩,
    ⟨some 14, .bin .sub, [.cst (.int .u64 32), .tmp 13], none, 0, []⟩,
    ⟨some 15, .bin .shr, [.tmp 12, .tmp 14], none, 0, []⟩,
    ⟨some 16, .bin .or, [.tmp 11, .tmp 15], none, 0, []⟩,
    ⟨some 4, .mov, [.tmp 16], none, 0, []⟩]) (.cut [4] (.ret))))) }


def fns : Nat → Option IFn
  | 4 => some ir4
  | 5 => some ir5
  | 7 => some ir7
  | 8 => some ir8
  | 10 => some ir10
  | 11 => some ir11
  | 12 => some ir12
  | 13 => some ir13
  | 14 => some ir14
  | 15 => some ir15
  | 16 => some ir16
  | 17 => some ir17
  | 18 => some ir18
  | 19 => some ir19
  | 20 => some ir20
  | 21 => some ir21
  | 22 => some ir22
  | 23 => some ir23
  | 24 => some ir24
  | 25 => some ir25
  | 26 => some ir26
  | 27 => some ir27
  | 28 => some ir28
  | 29 => some ir29
  | 30 => some ir30
  | 32 => some ir32
  | 33 => some ir33
  | 34 => some ir34
  | 35 => some ir35
  | 36 => some ir36
  | 37 => some ir37
  | 38 => some ir38
  | 39 => some ir39
  | 40 => some ir40
  | 41 => some ir41
  | 42 => some ir42
  | 43 => some ir43
  | 44 => some ir44
  | 45 => some ir45
  | 46 => some ir46
  | 47 => some ir47
  | 48 => some ir48
  | 49 => some ir49
  | 50 => some ir50
  | 51 => some ir51
  | 52 => some ir52
  | _ => none
end Go.Ev
namespace Go.Ev
open Go
set_option maxRecDepth 100000
set_option maxHeartbeats 4000000
set_option linter.unusedVariables false
noncomputable section

def sm_32 : Nat → Option Summ := fun f => none


def F_32  : Option ((List Int) × Unit) :=
  some ([(1116352408 : Int), (1899447441 : Int), (3049323471 : Int), (3921009573 : Int), (961987163 : Int), (1508970993 : Int), (2453635748 : Int), (2870763221 : Int), (3624381080 : Int), (310598401 : Int), (607225278 : Int), (1426881987 : Int), (1925078388 : Int), (2162078206 : Int), (2614888103 : Int), (3248222580 : Int), (3835390401 : Int), (4022224774 : Int), (264347078 : Int), (604807628 : Int), (770255983 : Int), (1249150122 : Int), (1555081692 : Int), (1996064986 : Int), (2554220882 : Int), (2821834349 : Int), (2952996808 : Int), (3210313671 : Int), (3336571891 : Int), (3584528711 : Int), (113926993 : Int), (338241895 : Int), (666307205 : Int), (773529912 : Int), (1294757372 : Int), (1396182291 : Int), (1695183700 : Int), (1986661051 : Int), (2177026350 : Int), (2456956037 : Int), (2730485921 : Int), (2820302411 : Int), (3259730800 : Int), (3345764771 : Int), (3516065817 : Int), (3600352804 : Int), (4094571909 : Int), (275423344 : Int), (430227734 : Int), (506948616 : Int), (659060556 : Int), (883997877 : Int), (958139571 : Int), (1322822218 : Int), (1537002063 : Int), (1747873779 : Int), (1955562222 : Int), (2024104815 : Int), (2227730452 : Int), (2361852424 : Int), (2428436474 : Int), (2756734187 : Int), (3204031479 : Int), (3329325298 : Int)], PUnit.unit)
theorem fn_32  : evFnL sm_32 FU (ovr noO (evFn sm_32 fns FU 0)) .nil ir32 (ofH [] (())) [] (pureK [(.arr 64 (.int .u32))]) = F_32 := by kernel_rfl
def Sp.p_32  : Bool := (F_32).isSome
def Sp.v_32  : (List Int) × Unit := (F_32).getD (dfH [(.arr 64 (.int .u32))])
def s_32 : Summ := shN [] [(.arr 64 (.int .u32))] (fun x => Sp.p_32 ) (fun x => Sp.v_32 )
theorem pv_32  {y : (List Int) × Unit} (h : F_32 = some y) : Sp.p_32 = true ∧ Sp.v_32 = y := ⟨by rw [Sp.p_32, h]; rfl, by rw [Sp.v_32, h]; rfl⟩
theorem run_32 (x : HDen []) (y : HDen [(.arr 64 (.int .u32))]) (h : F_32  = some y) : evFn sm_32 fns FU 1 32 (ofH [] x) [] (pureK [(.arr 64 (.int .u32))]) = some y :=
  evFnL_sound (fn := ir32) (t := .nil) (o := noO) rfl noO_ok trivial ((fn_32).trans h)
end
end Go.Ev
namespace Go.Ev
open Go
set_option maxRecDepth 100000
set_option maxHeartbeats 4000000
set_option linter.unusedVariables false
noncomputable section

def sm_47 : Nat → Option Summ := fun f => none


def F_47 (a0 : (List Int)) : Option (Int × Unit) :=
  gd (inB (0 : Int) (List.length a0)) (gd (inB (1 : Int) (List.length a0)) (gd (inB (2 : Int) (List.length a0)) (gd (inB (3 : Int) (List.length a0)) (some (Sp.orI IntKind.u32 (Sp.orI IntKind.u32 (Sp.orI IntKind.u32 (IntKind.wrap IntKind.u32 (IntKind.wrap IntKind.u32 (List.getD a0 (0 : Nat) (0 : Int)) * (16777216 : Int))) (IntKind.wrap IntKind.u32 (IntKind.wrap IntKind.u32 (List.getD a0 (1 : Nat) (0 : Int)) * (65536 : Int)))) (IntKind.wrap IntKind.u32 (IntKind.wrap IntKind.u32 (List.getD a0 (2 : Nat) (0 : Int)) * (256 : Int)))) (IntKind.wrap IntKind.u32 (List.getD a0 (3 : Nat) (0 : Int))), PUnit.unit)))))
theorem fn_47 (a0 : (List Int)) : evFnL sm_47 FU (ovr noO (evFn sm_47 fns FU 0)) .nil ir47 (ofH [(.slice (.int .u8))] (a0, ())) [] (pureK [(.int .u32)]) = F_47 a0 := by kernel_rfl
def Sp.p_47 (a0 : (List Int)) : Bool := (F_47 a0).isSome
def Sp.v_47 (a0 : (List Int)) : Int × Unit := (F_47 a0).getD (dfH [(.int .u32)])
def s_47 : Summ := shN [(.slice (.int .u8))] [(.int .u32)] (fun x => Sp.p_47 x.1) (fun x => Sp.v_47 x.1)
theorem pv_47 (a0 : (List Int)) {y : Int × Unit} (h : F_47 a0 = some y) : Sp.p_47 a0 = true ∧ Sp.v_47 a0 = y := ⟨by rw [Sp.p_47, h]; rfl, by rw [Sp.v_47, h]; rfl⟩
theorem run_47 (x : HDen [(.slice (.int .u8))]) (y : HDen [(.int .u32)]) (h : F_47 x.1 = some y) : evFn sm_47 fns FU 1 47 (ofH [(.slice (.int .u8))] x) [] (pureK [(.int .u32)]) = some y :=
  evFnL_sound (fn := ir47) (t := .nil) (o := noO) rfl noO_ok trivial ((fn_47 _).trans h)
end
end Go.Ev
namespace Go.Ev
open Go
set_option maxRecDepth 100000
set_option maxHeartbeats 4000000
set_option linter.unusedVariables false
noncomputable section

def sm_52 : Nat → Option Summ := fun f => none


def F_52 (a0 : Int) (a1 : Int) : Option (Int × Unit) :=
  gd (decide ((0 : Int) ≤ IntKind.wrap IntKind.u64 ((32 : Int) - Sp.andI IntKind.u64 (IntKind.wrap IntKind.u64 a1) (31 : Int)))) (some (Sp.orI IntKind.u32 (IntKind.wrap IntKind.u32 (a0 * (2 : Int) ^ Nat.min (Int.toNat (Sp.andI IntKind.u64 (IntKind.wrap IntKind.u64 a1) (31 : Int))) (32 : Nat))) (Int.fdiv a0 ((2 : Int) ^ Nat.min (Int.toNat (IntKind.wrap IntKind.u64 ((32 : Int) - Sp.andI IntKind.u64 (IntKind.wrap IntKind.u64 a1) (31 : Int)))) (32 : Nat))), PUnit.unit))
theorem fn_52 (a0 : Int) (a1 : Int) : evFnL sm_52 FU (ovr noO (evFn sm_52 fns FU 0)) .nil ir52 (ofH [(.int .u32), (.int .i64)] (a0, a1, ())) [] (pureK [(.int .u32)]) = F_52 a0 a1 := by kernel_rfl
def Sp.p_52 (a0 : Int) (a1 : Int) : Bool := (F_52 a0 a1).isSome
def Sp.v_52 (a0 : Int) (a1 : Int) : Int × Unit := (F_52 a0 a1).getD (dfH [(.int .u32)])
def s_52 : Summ := shN [(.int .u32), (.int .i64)] [(.int .u32)] (fun x => Sp.p_52 x.1 x.2.1) (fun x => Sp.v_52 x.1 x.2.1)
theorem pv_52 (a0 : Int) (a1 : Int) {y : Int × Unit} (h : F_52 a0 a1 = some y) : Sp.p_52 a0 a1 = true ∧ Sp.v_52 a0 a1 = y := ⟨by rw [Sp.p_52, h]; rfl, by rw [Sp.v_52, h]; rfl⟩
theorem run_52 (x : HDen [(.int .u32), (.int .i64)]) (y : HDen [(.int .u32)]) (h : F_52 x.1 x.2.1 = some y) : evFn sm_52 fns FU 1 52 (ofH [(.int .u32), (.int .i64)] x) [] (pureK [(.int .u32)]) = some y :=
  evFnL_sound (fn := ir52) (t := .nil) (o := noO) rfl noO_ok trivial ((fn_52 _ _).trans h)
end
end Go.Ev
namespace Go.Ev
open Go
set_option maxRecDepth 100000
set_option maxHeartbeats 4000000
set_option linter.unusedVariables false
noncomputable section

def sm_49 : Nat → Option Summ := fun f => bif Nat.beq f 52 then some s_52 else none


def F_49 (a0 : Int) (a1 : Int) : Option (Int × Unit) :=
  gd (Sp.p_52 a0 (IntKind.wrap IntKind.i64 ((0 : Int) - a1))) (some (Prod.fst (Sp.v_52 a0 (IntKind.wrap IntKind.i64 ((0 : Int) - a1))), PUnit.unit))
theorem fn_49 (a0 : Int) (a1 : Int) : evFnL sm_49 FU (ovr noO (evFn sm_49 fns FU 0)) .nil ir49 (ofH [(.int .u32), (.int .i64)] (a0, a1, ())) [] (pureK [(.int .u32)]) = F_49 a0 a1 := by kernel_rfl
def Sp.p_49 (a0 : Int) (a1 : Int) : Bool := (F_49 a0 a1).isSome
def Sp.v_49 (a0 : Int) (a1 : Int) : Int × Unit := (F_49 a0 a1).getD (dfH [(.int .u32)])
def s_49 : Summ := shN [(.int .u32), (.int .i64)] [(.int .u32)] (fun x => Sp.p_49 x.1 x.2.1) (fun x => Sp.v_49 x.1 x.2.1)
theorem pv_49 (a0 : Int) (a1 : Int) {y : Int × Unit} (h : F_49 a0 a1 = some y) : Sp.p_49 a0 a1 = true ∧ Sp.v_49 a0 a1 = y := ⟨by rw [Sp.p_49, h]; rfl, by rw [Sp.v_49, h]; rfl⟩
theorem run_49 (x : HDen [(.int .u32), (.int .i64)]) (y : HDen [(.int .u32)]) (h : F_49 x.1 x.2.1 = some y) : evFn sm_49 fns FU 1 49 (ofH [(.int .u32), (.int .i64)] x) [] (pureK [(.int .u32)]) = some y :=
  evFnL_sound (fn := ir49) (t := .nil) (o := noO) rfl noO_ok trivial ((fn_49 _ _).trans h)
end
end Go.Ev
