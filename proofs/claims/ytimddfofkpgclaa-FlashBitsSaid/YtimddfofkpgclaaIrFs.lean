/- Helpers: what functions compute, proved by the evaluator. No condition. -/
import Derived.Test.YtimddfofkpgclaaEvPart2
set_option maxRecDepth 10000
set_option linter.unusedVariables false
set_option linter.unusedSimpArgs false
namespace Go.Ev
open Go
def ir3 : IFn :=
  { ntmps := 48, results := [.inl 6], body := (.seq (.region false 1 [
    ⟨some 5, .box 25, [.tmp 2], none, 0, []⟩,
    ⟨some 6, .mov, [.cst (.bool false)], none, 0, []⟩]) (.seq (.seq (.region false 0 [
    ⟨some 11, .call 11, [], none, 0, []⟩,
    ⟨some 12, .not, [.tmp 11], none, 0, []⟩]) (.cond (.tmp 12) (.seq (.region false 0 [
     ⟨some 6, .mov, [.cst (.bool false)], none, 0, []⟩]) (.ret)) (.skip))) (.seq (.seq (.region false 0 [
    ⟨some 13, .load true 3, [.tmp 5], none, 0, []⟩,
    ⟨some 14, .call 12, [.tmp 13], none, 0, []⟩,
    ⟨some 15, .not, [.tmp 14], none, 0, []⟩]) (.cond (.tmp 15) (.seq (.region false 0 [
     ⟨some 6, .mov, [.cst (.bool true)], none, 0, []⟩]) (.ret)) (.skip))) (.seq (.region false 2 [
    ⟨some 17, .mov, [.tmp 0], none, 0, []⟩,
    ⟨some 18, .mov, [.tmp 1], none, 0, []⟩,
    ⟨some 19, .callS 13, [.tmp 17, .tmp 18], none, 0, []⟩,
    ⟨some 16, .mov, [.tmp 19], none, 0, []⟩,
    ⟨some 20, .extract 0, [.tmp 16], none, 0, []⟩,
    ⟨some 21, .extract 1, [.tmp 16], none, 0, []⟩,
    ⟨some 7, .alloc 25 (.pair (.nil 34 (.int .u32)) (.pair (.nil 3 (.int .i64)) (.pure (.pair (.int .i64) .unit) (0, ())))), [], none, 0, []⟩,
    ⟨none, .store 3, [.tmp 7, .tmp 20], none, 0, []⟩,
    ⟨some 8, .mov, [.tmp 21], none, 0, []⟩]) (.seq (.region false 2 [
    ⟨some 23, .mov, [.tmp 0], none, 0, []⟩,
    ⟨some 24, .mov, [.tmp 1], none, 0, []⟩,
    ⟨some 25, .callS 14, [.tmp 23, .tmp 24], none, 0, []⟩,
    ⟨some 22, .mov, [.tmp 25], none, 0, []⟩,
    ⟨some 26, .extract 0, [.tmp 22], none, 0, []⟩,
    ⟨some 27, .extract 1, [.tmp 22], none, 0, []⟩,
    ⟨some 9, .alloc 25 (.pair (.nil 34 (.int .u32)) (.pair (.nil 3 (.int .i64)) (.pure (.pair (.int .i64) .unit) (0, ())))), [], none, 0, []⟩,
    ⟨none, .store 3, [.tmp 9, .tmp 26], none, 0, []⟩,
    ⟨some 10, .mov, [.tmp 27], none, 0, []⟩]) (.seq (.region true 4 [
    ⟨some 28, .mov, [.tmp 8], none, 0, []⟩,
    ⟨some 29, .mov, [.tmp 10], none, 0, []⟩,
    ⟨some 30, .bin .eql, [.tmp 28, .tmp 29], none, 0, [0, 1]⟩,
    ⟨some 31, .mov, [.tmp 30], none, 0, [2, 0, 1]⟩,
    ⟨some 32, .load true 3, [.tmp 7], some (31, true), 0, [3, 2, 0, 1]⟩,
    ⟨some 33, .load true 3, [.tmp 9], some (31, true), 0, [3, 2, 0, 1]⟩,
    ⟨some 34, .callS 15, [.tmp 32, .tmp 33], some (31, true), 0, [4, 3, 2, 0, 1, 5]⟩,
    ⟨some 35, .pick, [.tmp 31, .tmp 34, .cst (.bool false)], none, 1, [3, 2, 0, 1, 6, 4, 5]⟩,
    ⟨some 36, .mov, [.tmp 35], none, 1, [7, 3, 2, 0, 1, 6, 4, 5]⟩,
    ⟨some 37, .load true 3, [.tmp 5], some (36, true), 1, [8, 7, 3, 2, 0, 1, 6, 4, 5]⟩,
    ⟨some 38, .callS 16, [.tmp 37], some (36, true), 1, [9, 8, 7, 3, 2, 0, 1, 6, 4, 5]⟩,
    ⟨some 39, .load true 3, [.tmp 5], some (36, true), 2, [8, 7, 3, 2, 0, 1, 6, 4, 5]⟩,
    ⟨some 40, .callS 17, [.tmp 39], some (36, true), 2, [11, 8, 7, 3, 2, 0, 1, 6, 4, 5, 10, 9]⟩,
    ⟨some 41, .eqb false .bool, [.tmp 38, .tmp 40], some (36, true), 3, [10, 9, 8, 7, 3, 2, 0, 1, 6, 4, 5, 12, 11]⟩,
    ⟨some 42, .pick, [.tmp 36, .tmp 41, .cst (.bool false)], none, 3, [8, 7, 3, 2, 0, 1, 6, 4, 5, 13, 10, 9, 12, 11]⟩,
    ⟨some 43, .mov, [.tmp 42], none, 3, [14, 8, 7, 3, 2, 0, 1, 6, 4, 5, 13, 10, 9, 12, 11]⟩,
    ⟨some 44, .callS 18, [], some (43, true), 3, [15, 14, 8, 7, 3, 2, 0, 1, 6, 4, 5, 13, 10, 9, 12, 11]⟩,
    ⟨some 45, .build [((.int .i64 0), 1), ((.int .u32 0), 1)] [0], [.cst (.int .i64 1099511627776)], some (43, true), 4, [15, 14, 8, 7, 3, 2, 0, 1, 6, 4, 5, 13, 10, 9, 12, 11]⟩,
    ⟨some 46, .eqb false (.pair (.int .i64) (.pair (.int .u32) .unit)), [.tmp 44, .tmp 45], some (43, true), 4, [16, 15, 14, 8, 7, 3, 2, 0, 1, 6, 4, 5, 13, 10, 9, 12, 11, 17]⟩,
    ⟨some 47, .pick, [.tmp 43, .tmp 46, .cst (.bool false)], none, 4, [15, 14, 8, 7, 3, 2, 0, 1, 6, 4, 5, 13, 10, 9, 12, 11, 18, 16, 17]⟩,
    ⟨some 6, .mov, [.tmp 47], none, 4, [19, 15, 14, 8, 7, 3, 2, 0, 1, 6, 4, 5, 13, 10, 9, 12, 11, 18, 16, 17]⟩]) (.ret))))))) }


def ir4 : IFn :=
  { ntmps := 51, results := [.inl 8], body := (.seq (.region false 2 [
    ⟨some 4, .box 25, [.tmp 0], none, 0, []⟩,
    ⟨some 7, .box 36, [.tmp 3], none, 0, []⟩,
    ⟨some 8, .mov, [.cst (.bool false)], none, 0, []⟩]) (.seq (.seq (.region false 0 [
    ⟨some 15, .call 11, [], none, 0, []⟩,
    ⟨some 16, .not, [.tmp 15], none, 0, []⟩]) (.cond (.tmp 16) (.seq (.region false 0 [
     ⟨some 8, .mov, [.cst (.bool false)], none, 0, []⟩]) (.ret)) (.skip))) (.seq (.seq (.region false 0 [
    ⟨some 17, .load true 3, [.tmp 4], none, 0, []⟩,
    ⟨some 18, .call 12, [.tmp 17], none, 0, []⟩,
    ⟨some 19, .not, [.tmp 18], none, 0, []⟩]) (.cond (.tmp 19) (.seq (.region false 0 [
     ⟨some 8, .mov, [.cst (.bool true)], none, 0, []⟩]) (.ret)) (.skip))) (.seq (.region false 3 [
    ⟨some 21, .load true 3, [.tmp 4], none, 0, []⟩,
    ⟨some 22, .mov, [.tmp 1], none, 0, []⟩,
    ⟨some 23, .mov, [.tmp 2], none, 0, []⟩,
    ⟨some 24, .load true 2, [.tmp 7], none, 0, []⟩,
    ⟨some 25, .callS 19, [.tmp 21, .tmp 22, .tmp 23, .tmp 24], none, 0, []⟩,
    ⟨some 20, .mov, [.tmp 25], none, 0, []⟩,
    ⟨some 26, .extract 0, [.tmp 20], none, 0, []⟩,
    ⟨some 27, .extract 1, [.tmp 20], none, 0, []⟩,
    ⟨some 28, .extract 2, [.tmp 20], none, 0, []⟩,
    ⟨some 9, .alloc 25 (.pair (.nil 34 (.int .u32)) (.pair (.nil 3 (.int .i64)) (.pure (.pair (.int .i64) .unit) (0, ())))), [], none, 0, []⟩,
    ⟨some 10, .alloc 36 (.pure (.pair (.int .i64) (.pair (.int .u32) .unit)) (0, (0, ()))), [], none, 0, []⟩,
    ⟨none, .store 3, [.tmp 9, .tmp 26], none, 0, []⟩,
    ⟨none, .store 2, [.tmp 10, .tmp 27], none, 0, []⟩,
    ⟨some 11, .mov, [.tmp 28], none, 0, []⟩]) (.seq (.region false 3 [
    ⟨some 30, .load true 3, [.tmp 4], none, 0, []⟩,
    ⟨some 31, .mov, [.tmp 1], none, 0, []⟩,
    ⟨some 32, .mov, [.tmp 2], none, 0, []⟩,
    ⟨some 33, .load true 2, [.tmp 7], none, 0, []⟩,
    ⟨some 34, .callS 20, [.tmp 30, .tmp 31, .tmp 32, .tmp 33], none, 0, []⟩,
    ⟨some 29, .mov, [.tmp 34], none, 0, []⟩,
    ⟨some 35, .extract 0, [.tmp 29], none, 0, []⟩,
    ⟨some 36, .extract 1, [.tmp 29], none, 0, []⟩,
    ⟨some 37, .extract 2, [.tmp 29], none, 0, []⟩,
    ⟨some 12, .alloc 25 (.pair (.nil 34 (.int .u32)) (.pair (.nil 3 (.int .i64)) (.pure (.pair (.int .i64) .unit) (0, ())))), [], none, 0, []⟩,
    ⟨some 13, .alloc 36 (.pure (.pair (.int .i64) (.pair (.int .u32) .unit)) (0, (0, ()))), [], none, 0, []⟩,
    ⟨none, .store 3, [.tmp 12, .tmp 35], none, 0, []⟩,
    ⟨none, .store 2, [.tmp 13, .tmp 36], none, 0, []⟩,
    ⟨some 14, .mov, [.tmp 37], none, 0, []⟩]) (.seq (.region false 1 [
    ⟨some 38, .load true 3, [.tmp 9], none, 0, []⟩,
    ⟨some 39, .load true 3, [.tmp 12], none, 0, []⟩,
    ⟨some 40, .callS 15, [.tmp 38, .tmp 39], none, 0, []⟩,
    ⟨some 41, .mov, [.tmp 40], none, 0, []⟩,
    ⟨some 42, .load true 2, [.tmp 10], some (41, true), 0, []⟩,
    ⟨some 43, .load true 2, [.tmp 13], some (41, true), 0, []⟩,
    ⟨some 44, .eqb false (.pair (.int .i64) (.pair (.int .u32) .unit)), [.tmp 42, .tmp 43], some (41, true), 0, []⟩,
    ⟨some 45, .pick, [.tmp 41, .tmp 44, .cst (.bool false)], none, 0, []⟩,
    ⟨some 46, .mov, [.tmp 45], none, 0, []⟩,
    ⟨some 47, .mov, [.tmp 11], some (46, true), 0, []⟩,
    ⟨some 48, .mov, [.tmp 14], some (46, true), 0, []⟩,
    ⟨some 49, .bin .eql, [.tmp 47, .tmp 48], some (46, true), 0, []⟩,
    ⟨some 50, .pick, [.tmp 46, .tmp 49, .cst (.bool false)], none, 0, []⟩,
    ⟨some 8, .mov, [.tmp 50], none, 0, []⟩]) (.ret))))))) }


def ir5_b0 : IC := (.seq (.region false 0 [
      ⟨some 114, .bin .lss, [.tmp 113, .tmp 112], none, 0, []⟩]) (.seq (.cond (.tmp 114) (.skip) (.exit 0)) (.seq (.block 1 (.seq (.region false 0 [
       ⟨some 115, .mov, [.tmp 113], none, 0, []⟩,
       ⟨some 14, .mov, [.tmp 115], none, 0, []⟩]) (.seq (.region true 0 [
       ⟨some 116, .mov, [.tmp 14], none, 0, []⟩,
       ⟨some 117, .mov, [.tmp 9], none, 0, []⟩,
       ⟨some 118, .bin .neq, [.tmp 116, .tmp 117], none, 0, [0, 1]⟩,
       ⟨some 119, .mov, [.tmp 118], none, 0, [2, 0, 1]⟩,
       ⟨some 120, .fieldAddr 0 0, [.tmp 11], some (119, true), 0, [3, 2, 0, 1]⟩,
       ⟨some 121, .load false 1, [.tmp 120], some (119, true), 0, [4, 3, 2, 0, 1]⟩,
       ⟨some 122, .mov, [.tmp 14], some (119, true), 0, [3, 2, 0, 1]⟩,
       ⟨some 123, .idxSl 1, [.tmp 121, .tmp 122], some (119, true), 0, [5, 4, 3, 2, 0, 1, 6]⟩,
       ⟨some 124, .load false 1, [.tmp 123], some (119, true), 0, [7, 5, 4, 3, 2, 0, 1, 6]⟩,
       ⟨some 125, .fieldAddr 0 0, [.tmp 4], some (119, true), 0, [3, 2, 0, 1]⟩,
       ⟨some 126, .load false 1, [.tmp 125], some (119, true), 0, [9, 3, 2, 0, 1]⟩,
       ⟨some 127, .mov, [.tmp 14], some (119, true), 0, [3, 2, 0, 1]⟩,
       ⟨some 128, .idxSl 1, [.tmp 126, .tmp 127], some (119, true), 0, [10, 9, 3, 2, 0, 1, 11]⟩,
       ⟨some 129, .load false 1, [.tmp 128], some (119, true), 0, [12, 10, 9, 3, 2, 0, 1, 11]⟩,
       ⟨some 130, .bin .neq, [.tmp 124, .tmp 129], some (119, true), 0, [8, 7, 5, 4, 3, 2, 0, 1, 6, 13, 12, 10, 9, 11]⟩,
       ⟨some 131, .pick, [.tmp 119, .tmp 130, .cst (.bool false)], none, 0, [3, 2, 0, 1, 14, 8, 7, 5, 4, 6, 13, 12, 10, 9, 11]⟩]) (.cond (.tmp 131) (.seq (.region false 0 [
        ⟨some 8, .mov, [.cst (.bool false)], none, 0, []⟩]) (.ret)) (.skip))))) (.region false 0 [
      ⟨some 132, .bin .add, [.tmp 113, .cst (.int .i64 1)], none, 0, []⟩,
      ⟨some 113, .mov, [.tmp 132], none, 0, []⟩]))))
def ir5_v0 : List Nat := [2, 4, 9, 11, 112, 113]
def ir5_t {R : Type} (o0 : St → (Ex → St → Option R) → Option R) : LT R := (.node .nil (.node .nil (.node .nil (.node .nil (.node .nil (.node .nil (.node .nil (.node .nil (.node .nil (.node .nil (.node (.node .nil (.node (.orc o0) .nil)) .nil)))))))))))
def ir5 : IFn :=
  { ntmps := 162, results := [.inl 8], body := (.seq (.region false 2 [
    ⟨some 4, .box 25, [.tmp 0], none, 0, []⟩,
    ⟨some 7, .box 36, [.tmp 3], none, 0, []⟩,
    ⟨some 8, .mov, [.cst (.bool false)], none, 0, []⟩]) (.seq (.seq (.region false 0 [
    ⟨some 21, .call 11, [], none, 0, []⟩,
    ⟨some 22, .not, [.tmp 21], none, 0, []⟩]) (.cond (.tmp 22) (.seq (.region false 0 [
     ⟨some 8, .mov, [.cst (.bool false)], none, 0, []⟩]) (.ret)) (.skip))) (.seq (.seq (.region false 1 [
    ⟨some 23, .load true 3, [.tmp 4], none, 0, []⟩,
    ⟨some 24, .call 12, [.tmp 23], none, 0, []⟩,
    ⟨some 25, .not, [.tmp 24], none, 0, []⟩,
    ⟨some 26, .mov, [.tmp 25], none, 0, []⟩,
    ⟨some 27, .load true 3, [.tmp 4], some (26, false), 0, []⟩,
    ⟨some 28, .callS 16, [.tmp 27], some (26, false), 0, []⟩,
    ⟨some 29, .not, [.tmp 28], some (26, false), 0, []⟩,
    ⟨some 30, .pick, [.tmp 26, .cst (.bool true), .tmp 29], none, 0, []⟩]) (.cond (.tmp 30) (.seq (.region false 0 [
     ⟨some 8, .mov, [.cst (.bool true)], none, 0, []⟩]) (.ret)) (.skip))) (.seq (.region false 0 [
    ⟨some 31, .mov, [.tmp 1], none, 0, []⟩,
    ⟨some 32, .conv .i64, [.tmp 31], none, 0, []⟩,
    ⟨some 33, .fieldAddr 0 0, [.tmp 4], none, 0, []⟩,
    ⟨some 34, .load false 1, [.tmp 33], none, 0, []⟩,
    ⟨some 35, .len, [.tmp 34], none, 0, []⟩,
    ⟨some 36, .bin .rem, [.tmp 32, .tmp 35], none, 0, []⟩,
    ⟨some 9, .mov, [.tmp 36], none, 0, []⟩]) (.seq (.region false 1 [
    ⟨some 37, .fieldAddr 0 0, [.tmp 4], none, 0, []⟩,
    ⟨some 38, .load false 1, [.tmp 37], none, 0, []⟩,
    ⟨some 39, .callS 21, [.tmp 38], none, 0, []⟩,
    ⟨some 10, .mov, [.tmp 39], none, 0, []⟩]) (.seq (.region false 3 [
    ⟨some 41, .load true 3, [.tmp 4], none, 0, []⟩,
    ⟨some 42, .mov, [.tmp 9], none, 0, []⟩,
    ⟨some 43, .mov, [.tmp 2], none, 0, []⟩,
    ⟨some 44, .load true 2, [.tmp 7], none, 0, []⟩,
    ⟨some 45, .callS 19, [.tmp 41, .tmp 42, .tmp 43, .tmp 44], none, 0, []⟩,
    ⟨some 40, .mov, [.tmp 45], none, 0, []⟩,
    ⟨some 46, .extract 0, [.tmp 40], none, 0, []⟩,
    ⟨some 47, .extract 1, [.tmp 40], none, 0, []⟩,
    ⟨some 48, .extract 2, [.tmp 40], none, 0, []⟩,
    ⟨some 11, .alloc 25 (.pair (.nil 34 (.int .u32)) (.pair (.nil 3 (.int .i64)) (.pure (.pair (.int .i64) .unit) (0, ())))), [], none, 0, []⟩,
    ⟨some 12, .alloc 36 (.pure (.pair (.int .i64) (.pair (.int .u32) .unit)) (0, (0, ()))), [], none, 0, []⟩,
    ⟨none, .store 3, [.tmp 11, .tmp 46], none, 0, []⟩,
    ⟨none, .store 2, [.tmp 12, .tmp 47], none, 0, []⟩,
    ⟨some 13, .mov, [.tmp 48], none, 0, []⟩]) (.seq (.seq (.region false 1 [
    ⟨some 49, .mov, [.tmp 10], none, 0, []⟩,
    ⟨some 50, .fieldAddr 0 0, [.tmp 4], none, 0, []⟩,
    ⟨some 51, .load false 1, [.tmp 50], none, 0, []⟩,
    ⟨some 52, .callS 22, [.tmp 49, .tmp 51], none, 0, []⟩,
    ⟨some 53, .not, [.tmp 52], none, 0, []⟩]) (.cond (.tmp 53) (.seq (.region false 0 [
     ⟨some 8, .mov, [.cst (.bool false)], none, 0, []⟩]) (.ret)) (.skip))) (.seq (.seq (.region false 0 [
    ⟨some 54, .mov, [.tmp 13], none, 0, []⟩,
    ⟨some 55, .bin .neq, [.tmp 54, .cst (.int .i64 0)], none, 0, []⟩,
    ⟨some 56, .mov, [.tmp 55], none, 0, []⟩,
    ⟨some 57, .mov, [.tmp 13], some (56, true), 0, []⟩,
    ⟨some 58, .bin .neq, [.tmp 57, .cst (.int .i64 18)], some (56, true), 0, []⟩,
    ⟨some 59, .pick, [.tmp 56, .tmp 58, .cst (.bool false)], none, 0, []⟩]) (.cond (.tmp 59) (.seq (.region false 0 [
     ⟨some 60, .mov, [.tmp 13], none, 0, []⟩,
     ⟨some 61, .bin .eql, [.tmp 60, .cst (.int .i64 1)], none, 0, []⟩,
     ⟨some 62, .mov, [.tmp 61], none, 0, []⟩,
     ⟨some 63, .fieldAddr 0 0, [.tmp 7], some (62, true), 0, []⟩,
     ⟨some 64, .load false 1, [.tmp 63], some (62, true), 0, []⟩,
     ⟨some 65, .bin .lss, [.tmp 64, .cst (.int .i64 0)], some (62, true), 0, []⟩,
     ⟨some 66, .mov, [.tmp 65], some (62, true), 0, []⟩,
     ⟨some 67, .fieldAddr 0 0, [.tmp 7], some (66, false), 0, []⟩,
     ⟨some 68, .load false 1, [.tmp 67], some (66, false), 0, []⟩,
     ⟨some 69, .bin .gtr, [.tmp 68, .cst (.int .i64 1099511627776)], some (66, false), 0, []⟩,
     ⟨some 70, .pick, [.tmp 66, .cst (.bool true), .tmp 69], some (62, true), 0, []⟩,
     ⟨some 71, .pick, [.tmp 62, .tmp 70, .cst (.bool false)], none, 0, []⟩,
     ⟨some 8, .mov, [.tmp 71], none, 0, []⟩]) (.ret)) (.skip))) (.seq (.seq (.region true 2 [
    ⟨some 72, .load true 3, [.tmp 4], none, 0, []⟩,
    ⟨some 73, .load true 3, [.tmp 11], none, 0, []⟩,
    ⟨some 74, .callS 23, [.tmp 72, .tmp 73], none, 0, [0, 1]⟩,
    ⟨some 75, .not, [.tmp 74], none, 1, [2, 0, 1]⟩,
    ⟨some 76, .mov, [.tmp 75], none, 1, [3, 2, 0, 1]⟩,
    ⟨some 77, .fieldAddr 0 0, [.tmp 11], some (76, false), 1, [4, 3, 2, 0, 1]⟩,
    ⟨some 78, .load false 1, [.tmp 77], some (76, false), 1, [5, 4, 3, 2, 0, 1]⟩,
    ⟨some 79, .mov, [.tmp 9], some (76, false), 1, [4, 3, 2, 0, 1]⟩,
    ⟨some 80, .idxSl 1, [.tmp 78, .tmp 79], some (76, false), 1, [6, 5, 4, 3, 2, 0, 1, 7]⟩,
    ⟨some 81, .load false 1, [.tmp 80], some (76, false), 1, [8, 6, 5, 4, 3, 2, 0, 1, 7]⟩,
    ⟨some 82, .fieldAddr 0 0, [.tmp 4], some (76, false), 1, [4, 3, 2, 0, 1]⟩,
    ⟨some 83, .load false 1, [.tmp 82], some (76, false), 1, [10, 4, 3, 2, 0, 1]⟩,
    ⟨some 84, .mov, [.tmp 9], some (76, false), 1, [4, 3, 2, 0, 1]⟩,
    ⟨some 85, .idxSl 1, [.tmp 83, .tmp 84], some (76, false), 1, [11, 10, 4, 3, 2, 0, 1, 12]⟩,
    ⟨some 86, .load false 1, [.tmp 85], some (76, false), 1, [13, 11, 10, 4, 3, 2, 0, 1, 12]⟩,
    ⟨some 87, .bin .andNot, [.tmp 81, .tmp 86], some (76, false), 1, [9, 8, 6, 5, 4, 3, 2, 0, 1, 7, 14, 13, 11, 10, 12]⟩,
    ⟨some 88, .bin .neq, [.tmp 87, .cst (.int .u32 0)], some (76, false), 1, [15, 9, 8, 6, 5, 4, 3, 2, 0, 1, 7, 14, 13, 11, 10, 12]⟩,
    ⟨some 89, .pick, [.tmp 76, .cst (.bool true), .tmp 88], none, 1, [4, 3, 2, 0, 1, 16, 15, 9, 8, 6, 5, 7, 14, 13, 11, 10, 12]⟩,
    ⟨some 90, .mov, [.tmp 89], none, 1, [17, 4, 3, 2, 0, 1, 16, 15, 9, 8, 6, 5, 7, 14, 13, 11, 10, 12]⟩,
    ⟨some 91, .fieldAddr 1 1, [.tmp 4], some (90, false), 1, [18, 17, 4, 3, 2, 0, 1, 16, 15, 9, 8, 6, 5, 7, 14, 13, 11, 10, 12]⟩,
    ⟨some 92, .load false 1, [.tmp 91], some (90, false), 1, [19, 18, 17, 4, 3, 2, 0, 1, 16, 15, 9, 8, 6, 5, 7, 14, 13, 11, 10, 12]⟩,
    ⟨some 93, .fieldAddr 1 1, [.tmp 11], some (90, false), 1, [18, 17, 4, 3, 2, 0, 1, 16, 15, 9, 8, 6, 5, 7, 14, 13, 11, 10, 12]⟩,
    ⟨some 94, .load false 1, [.tmp 93], some (90, false), 1, [21, 18, 17, 4, 3, 2, 0, 1, 16, 15, 9, 8, 6, 5, 7, 14, 13, 11, 10, 12]⟩,
    ⟨some 95, .callS 24, [.tmp 92, .tmp 94], some (90, false), 1, [20, 19, 18, 17, 4, 3, 2, 0, 1, 16, 15, 9, 8, 6, 5, 7, 14, 13, 11, 10, 12, 22, 21]⟩,
    ⟨some 96, .not, [.tmp 95], some (90, false), 2, [23, 20, 19, 18, 17, 4, 3, 2, 0, 1, 16, 15, 9, 8, 6, 5, 7, 14, 13, 11, 10, 12, 22, 21]⟩,
    ⟨some 97, .pick, [.tmp 90, .cst (.bool true), .tmp 96], none, 2, [18, 17, 4, 3, 2, 0, 1, 16, 15, 9, 8, 6, 5, 7, 14, 13, 11, 10, 12, 24, 23, 20, 19, 22, 21]⟩]) (.cond (.tmp 97) (.seq (.region false 0 [
     ⟨some 8, .mov, [.cst (.bool false)], none, 0, []⟩]) (.ret)) (.skip))) (.seq (.seq (.region false 0 [
    ⟨some 98, .mov, [.tmp 13], none, 0, []⟩,
    ⟨some 99, .bin .eql, [.tmp 98, .cst (.int .i64 0)], none, 0, []⟩,
    ⟨some 100, .mov, [.tmp 99], none, 0, []⟩,
    ⟨some 101, .fieldAddr 0 0, [.tmp 11], some (100, true), 0, []⟩,
    ⟨some 102, .load false 1, [.tmp 101], some (100, true), 0, []⟩,
    ⟨some 103, .mov, [.tmp 9], some (100, true), 0, []⟩,
    ⟨some 104, .idxSl 1, [.tmp 102, .tmp 103], some (100, true), 0, []⟩,
    ⟨some 105, .load false 1, [.tmp 104], some (100, true), 0, []⟩,
    ⟨some 106, .mov, [.tmp 2], some (100, true), 0, []⟩,
    ⟨some 107, .bin .andNot, [.tmp 105, .tmp 106], some (100, true), 0, []⟩,
    ⟨some 108, .bin .neq, [.tmp 107, .cst (.int .u32 0)], some (100, true), 0, []⟩,
    ⟨some 109, .pick, [.tmp 100, .tmp 108, .cst (.bool false)], none, 0, []⟩]) (.cond (.tmp 109) (.seq (.region false 0 [
     ⟨some 8, .mov, [.cst (.bool false)], none, 0, []⟩]) (.ret)) (.skip))) (.seq (.seq (.region false 0 [
    ⟨some 110, .fieldAddr 0 0, [.tmp 4], none, 0, []⟩,
    ⟨some 111, .load false 1, [.tmp 110], none, 0, []⟩,
    ⟨some 112, .len, [.tmp 111], none, 0, []⟩,
    ⟨some 113, .mov, [.cst (.int .i64 0)], none, 0, []⟩]) (.block 0 (.loop ir5_v0 ir5_b0))) (.seq (.region true 4 [
    ⟨some 134, .load true 3, [.tmp 11], none, 0, []⟩,
    ⟨some 135, .mov, [.tmp 9], none, 0, []⟩,
    ⟨some 136, .mov, [.tmp 2], none, 0, []⟩,
    ⟨some 137, .callS 18, [], none, 0, []⟩,
    ⟨some 138, .callS 19, [.tmp 134, .tmp 135, .tmp 136, .tmp 137], none, 1, [0, 1, 2, 3]⟩,
    ⟨some 133, .mov, [.tmp 138], none, 2, [4, 0, 1, 2, 3]⟩,
    ⟨some 139, .extract 0, [.tmp 133], none, 2, [5, 4, 0, 1, 2, 3]⟩,
    ⟨some 140, .extract 1, [.tmp 133], none, 2, [5, 4, 0, 1, 2, 3]⟩,
    ⟨some 141, .extract 2, [.tmp 133], none, 2, [5, 4, 0, 1, 2, 3]⟩,
    ⟨some 15, .alloc 25 (.pair (.nil 34 (.int .u32)) (.pair (.nil 3 (.int .i64)) (.pure (.pair (.int .i64) .unit) (0, ())))), [], none, 2, []⟩,
    ⟨some 16, .alloc 36 (.pure (.pair (.int .i64) (.pair (.int .u32) .unit)) (0, (0, ()))), [], none, 3, []⟩,
    ⟨none, .store 3, [.tmp 15, .tmp 139], none, 4, [9, 6, 5, 4, 0, 1, 2, 3, 10]⟩,
    ⟨none, .store 2, [.tmp 16, .tmp 140], none, 4, [10, 7, 5, 4, 0, 1, 2, 3, 11, 9, 6]⟩,
    ⟨some 17, .mov, [.tmp 141], none, 4, [8, 5, 4, 0, 1, 2, 3, 12, 10, 7, 11, 9, 6]⟩]) (.seq (.region true 4 [
    ⟨some 143, .load true 3, [.tmp 4], none, 0, []⟩,
    ⟨some 144, .mov, [.tmp 9], none, 0, []⟩,
    ⟨some 145, .mov, [.tmp 2], none, 0, []⟩,
    ⟨some 146, .callS 18, [], none, 0, []⟩,
    ⟨some 147, .callS 19, [.tmp 143, .tmp 144, .tmp 145, .tmp 146], none, 1, [0, 1, 2, 3]⟩,
    ⟨some 142, .mov, [.tmp 147], none, 2, [4, 0, 1, 2, 3]⟩,
    ⟨some 148, .extract 0, [.tmp 142], none, 2, [5, 4, 0, 1, 2, 3]⟩,
    ⟨some 149, .extract 1, [.tmp 142], none, 2, [5, 4, 0, 1, 2, 3]⟩,
    ⟨some 150, .extract 2, [.tmp 142], none, 2, [5, 4, 0, 1, 2, 3]⟩,
    ⟨some 18, .alloc 25 (.pair (.nil 34 (.int .u32)) (.pair (.nil 3 (.int .i64)) (.pure (.pair (.int .i64) .unit) (0, ())))), [], none, 2, []⟩,
    ⟨some 19, .alloc 36 (.pure (.pair (.int .i64) (.pair (.int .u32) .unit)) (0, (0, ()))), [], none, 3, []⟩,
    ⟨none, .store 3, [.tmp 18, .tmp 148], none, 4, [9, 6, 5, 4, 0, 1, 2, 3, 10]⟩,
    ⟨none, .store 2, [.tmp 19, .tmp 149], none, 4, [10, 7, 5, 4, 0, 1, 2, 3, 11, 9, 6]⟩,
    ⟨some 20, .mov, [.tmp 150], none, 4, [8, 5, 4, 0, 1, 2, 3, 12, 10, 7, 11, 9, 6]⟩]) (.seq (.region false 1 [
    ⟨some 151, .mov, [.tmp 17], none, 0, []⟩,
    ⟨some 152, .bin .eql, [.tmp 151, .cst (.int .i64 0)], none, 0, []⟩,
    ⟨some 153, .mov, [.tmp 152], none, 0, []⟩,
    ⟨some 154, .mov, [.tmp 20], some (153, true), 0, []⟩,
    ⟨some 155, .bin .eql, [.tmp 154, .cst (.int .i64 0)], some (153, true), 0, []⟩,
    ⟨some 156, .pick, [.tmp 153, .tmp 155, .cst (.bool false)], none, 0, []⟩,
    ⟨some 157, .mov, [.tmp 156], none, 0, []⟩,
    ⟨some 158, .load true 3, [.tmp 15], some (157, true), 0, []⟩,
    ⟨some 159, .load true 3, [.tmp 18], some (157, true), 0, []⟩,
    ⟨some 160, .callS 15, [.tmp 158, .tmp 159], some (157, true), 0, []⟩,
    ⟨some 161, .pick, [.tmp 157, .tmp 160, .cst (.bool false)], none, 0, []⟩,
    ⟨some 8, .mov, [.tmp 161], none, 0, []⟩]) (.ret))))))))))))))) }
theorem ir5_tok {R : Type} {summ : Nat → Option Summ} {fu : Nat} {call : Nat → List CV → List Blk → (CV → List Blk → Option R) → Option R} {o0 : St → (Ex → St → Option R) → Option R} (h0 : ∀ T k r, o0 T k = some r → evLoopN (evCode summ fu call ir5_b0) (St.norm ir5_v0) fu T k = some r) : LTok summ fu call (ir5_t o0) ir5.body := ⟨trivial, ⟨trivial, ⟨trivial, ⟨trivial, ⟨trivial, ⟨trivial, ⟨trivial, ⟨trivial, ⟨trivial, ⟨trivial, ⟨⟨trivial, h0⟩, trivial⟩⟩⟩⟩⟩⟩⟩⟩⟩⟩⟩


def ir6 : IFn :=
  { ntmps := 95, results := [.inl 6], body := (.seq (.region false 1 [
    ⟨some 3, .box 25, [.tmp 0], none, 0, []⟩,
    ⟨some 6, .mov, [.cst (.bool false)], none, 0, []⟩]) (.seq (.seq (.region false 0 [
    ⟨some 11, .call 11, [], none, 0, []⟩,
    ⟨some 12, .not, [.tmp 11], none, 0, []⟩]) (.cond (.tmp 12) (.seq (.region false 0 [
     ⟨some 6, .mov, [.cst (.bool false)], none, 0, []⟩]) (.ret)) (.skip))) (.seq (.seq (.region false 0 [
    ⟨some 13, .load true 3, [.tmp 3], none, 0, []⟩,
    ⟨some 14, .call 12, [.tmp 13], none, 0, []⟩,
    ⟨some 15, .not, [.tmp 14], none, 0, []⟩]) (.cond (.tmp 15) (.seq (.region false 0 [
     ⟨some 6, .mov, [.cst (.bool true)], none, 0, []⟩]) (.ret)) (.skip))) (.seq (.region false 1 [
    ⟨some 17, .load true 3, [.tmp 3], none, 0, []⟩,
    ⟨some 18, .mov, [.tmp 1], none, 0, []⟩,
    ⟨some 19, .callS 25, [.tmp 17, .tmp 18], none, 0, []⟩,
    ⟨some 16, .mov, [.tmp 19], none, 0, []⟩,
    ⟨some 20, .extract 0, [.tmp 16], none, 0, []⟩,
    ⟨some 21, .extract 1, [.tmp 16], none, 0, []⟩,
    ⟨some 7, .mov, [.tmp 20], none, 0, []⟩,
    ⟨some 8, .mov, [.tmp 21], none, 0, []⟩]) (.seq (.region false 1 [
    ⟨some 23, .load true 3, [.tmp 3], none, 0, []⟩,
    ⟨some 24, .mov, [.tmp 2], none, 0, []⟩,
    ⟨some 25, .callS 26, [.tmp 23, .tmp 24], none, 0, []⟩,
    ⟨some 22, .mov, [.tmp 25], none, 0, []⟩,
    ⟨some 26, .extract 0, [.tmp 22], none, 0, []⟩,
    ⟨some 27, .extract 1, [.tmp 22], none, 0, []⟩,
    ⟨some 9, .mov, [.tmp 26], none, 0, []⟩,
    ⟨some 10, .mov, [.tmp 27], none, 0, []⟩]) (.seq (.seq (.region false 1 [
    ⟨some 28, .load true 3, [.tmp 3], none, 0, []⟩,
    ⟨some 29, .callS 17, [.tmp 28], none, 0, []⟩,
    ⟨some 30, .not, [.tmp 29], none, 0, []⟩]) (.cond (.tmp 30) (.seq (.region false 0 [
     ⟨some 31, .mov, [.tmp 7], none, 0, []⟩,
     ⟨some 32, .bin .eql, [.tmp 31, .cst (.int .u32 0)], none, 0, []⟩,
     ⟨some 33, .mov, [.tmp 32], none, 0, []⟩,
     ⟨some 34, .mov, [.tmp 8], some (33, true), 0, []⟩,
     ⟨some 35, .bin .eql, [.tmp 34, .cst (.int .i64 1)], some (33, true), 0, []⟩,
     ⟨some 36, .pick, [.tmp 33, .tmp 35, .cst (.bool false)], none, 0, []⟩,
     ⟨some 37, .mov, [.tmp 36], none, 0, []⟩,
     ⟨some 38, .mov, [.tmp 9], some (37, true), 0, []⟩,
     ⟨some 39, .not, [.tmp 38], some (37, true), 0, []⟩,
     ⟨some 40, .pick, [.tmp 37, .tmp 39, .cst (.bool false)], none, 0, []⟩,
     ⟨some 41, .mov, [.tmp 40], none, 0, []⟩,
     ⟨some 42, .mov, [.tmp 10], some (41, true), 0, []⟩,
     ⟨some 43, .bin .eql, [.tmp 42, .cst (.int .i64 1)], some (41, true), 0, []⟩,
     ⟨some 44, .pick, [.tmp 41, .tmp 43, .cst (.bool false)], none, 0, []⟩,
     ⟨some 6, .mov, [.tmp 44], none, 0, []⟩]) (.ret)) (.skip))) (.seq (.seq (.region false 0 [
    ⟨some 45, .mov, [.tmp 1], none, 0, []⟩,
    ⟨some 46, .bin .lss, [.tmp 45, .cst (.int .i64 0)], none, 0, []⟩,
    ⟨some 47, .mov, [.tmp 46], none, 0, []⟩,
    ⟨some 48, .mov, [.tmp 1], some (47, false), 0, []⟩,
    ⟨some 49, .fieldAddr 0 0, [.tmp 3], some (47, false), 0, []⟩,
    ⟨some 50, .load false 1, [.tmp 49], some (47, false), 0, []⟩,
    ⟨some 51, .len, [.tmp 50], some (47, false), 0, []⟩,
    ⟨some 52, .bin .geq, [.tmp 48, .tmp 51], some (47, false), 0, []⟩,
    ⟨some 53, .pick, [.tmp 47, .cst (.bool true), .tmp 52], none, 0, []⟩]) (.cond (.tmp 53) (.seq (.region false 0 [
     ⟨some 54, .mov, [.tmp 7], none, 0, []⟩,
     ⟨some 55, .bin .neq, [.tmp 54, .cst (.int .u32 0)], none, 0, []⟩,
     ⟨some 56, .mov, [.tmp 55], none, 0, []⟩,
     ⟨some 57, .mov, [.tmp 8], some (56, false), 0, []⟩,
     ⟨some 58, .bin .neq, [.tmp 57, .cst (.int .i64 2)], some (56, false), 0, []⟩,
     ⟨some 59, .pick, [.tmp 56, .cst (.bool true), .tmp 58], none, 0, []⟩]) (.cond (.tmp 59) (.seq (.region false 0 [
      ⟨some 6, .mov, [.cst (.bool false)], none, 0, []⟩]) (.ret)) (.skip))) (.seq (.region false 0 [
     ⟨some 60, .mov, [.tmp 7], none, 0, []⟩,
     ⟨some 61, .fieldAddr 0 0, [.tmp 3], none, 0, []⟩,
     ⟨some 62, .load false 1, [.tmp 61], none, 0, []⟩,
     ⟨some 63, .mov, [.tmp 1], none, 0, []⟩,
     ⟨some 64, .idxSl 1, [.tmp 62, .tmp 63], none, 0, []⟩,
     ⟨some 65, .load false 1, [.tmp 64], none, 0, []⟩,
     ⟨some 66, .bin .neq, [.tmp 60, .tmp 65], none, 0, []⟩,
     ⟨some 67, .mov, [.tmp 66], none, 0, []⟩,
     ⟨some 68, .mov, [.tmp 8], some (67, false), 0, []⟩,
     ⟨some 69, .bin .neq, [.tmp 68, .cst (.int .i64 0)], some (67, false), 0, []⟩,
     ⟨some 70, .pick, [.tmp 67, .cst (.bool true), .tmp 69], none, 0, []⟩]) (.cond (.tmp 70) (.seq (.region false 0 [
      ⟨some 6, .mov, [.cst (.bool false)], none, 0, []⟩]) (.ret)) (.skip))))) (.seq (.seq (.region false 0 [
    ⟨some 71, .mov, [.tmp 2], none, 0, []⟩,
    ⟨some 72, .bin .lss, [.tmp 71, .cst (.int .i64 0)], none, 0, []⟩,
    ⟨some 73, .mov, [.tmp 72], none, 0, []⟩,
    ⟨some 74, .mov, [.tmp 2], some (73, false), 0, []⟩,
    ⟨some 75, .fieldAddr 1 1, [.tmp 3], some (73, false), 0, []⟩,
    ⟨some 76, .load false 1, [.tmp 75], some (73, false), 0, []⟩,
    ⟨some 77, .len, [.tmp 76], some (73, false), 0, []⟩,
    ⟨some 78, .bin .geq, [.tmp 74, .tmp 77], some (73, false), 0, []⟩,
    ⟨some 79, .pick, [.tmp 73, .cst (.bool true), .tmp 78], none, 0, []⟩]) (.cond (.tmp 79) (.seq (.region false 0 [
     ⟨some 80, .mov, [.tmp 9], none, 0, []⟩,
     ⟨some 81, .not, [.tmp 80], none, 0, []⟩,
     ⟨some 82, .mov, [.tmp 81], none, 0, []⟩,
     ⟨some 83, .mov, [.tmp 10], some (82, true), 0, []⟩,
     ⟨some 84, .bin .eql, [.tmp 83, .cst (.int .i64 2)], some (82, true), 0, []⟩,
     ⟨some 85, .pick, [.tmp 82, .tmp 84, .cst (.bool false)], none, 0, []⟩,
     ⟨some 6, .mov, [.tmp 85], none, 0, []⟩]) (.ret)) (.skip))) (.seq (.region false 1 [
    ⟨some 86, .mov, [.tmp 10], none, 0, []⟩,
    ⟨some 87, .bin .eql, [.tmp 86, .cst (.int .i64 0)], none, 0, []⟩,
    ⟨some 88, .mov, [.tmp 87], none, 0, []⟩,
    ⟨some 89, .mov, [.tmp 9], some (88, true), 0, []⟩,
    ⟨some 90, .load true 3, [.tmp 3], some (88, true), 0, []⟩,
    ⟨some 91, .mov, [.tmp 2], some (88, true), 0, []⟩,
    ⟨some 92, .callS 27, [.tmp 90, .tmp 91], some (88, true), 0, []⟩,
    ⟨some 93, .eqb false .bool, [.tmp 89, .tmp 92], some (88, true), 0, []⟩,
    ⟨some 94, .pick, [.tmp 88, .tmp 93, .cst (.bool false)], none, 0, []⟩,
    ⟨some 6, .mov, [.tmp 94], none, 0, []⟩]) (.ret)))))))))) }


def ir7 : IFn :=
  { ntmps := 47, results := [.inl 6], body := (.seq (.region false 2 [
    ⟨some 3, .box 25, [.tmp 0], none, 0, []⟩,
    ⟨some 5, .box 36, [.tmp 2], none, 0, []⟩,
    ⟨some 6, .mov, [.cst (.bool false)], none, 0, []⟩]) (.seq (.seq (.region false 0 [
    ⟨some 13, .call 11, [], none, 0, []⟩,
    ⟨some 14, .not, [.tmp 13], none, 0, []⟩]) (.cond (.tmp 14) (.seq (.region false 0 [
     ⟨some 6, .mov, [.cst (.bool false)], none, 0, []⟩]) (.ret)) (.skip))) (.seq (.seq (.region false 0 [
    ⟨some 15, .load true 3, [.tmp 3], none, 0, []⟩,
    ⟨some 16, .call 12, [.tmp 15], none, 0, []⟩,
    ⟨some 17, .not, [.tmp 16], none, 0, []⟩]) (.cond (.tmp 17) (.seq (.region false 0 [
     ⟨some 6, .mov, [.cst (.bool true)], none, 0, []⟩]) (.ret)) (.skip))) (.seq (.region false 3 [
    ⟨some 19, .load true 3, [.tmp 3], none, 0, []⟩,
    ⟨some 20, .mov, [.tmp 1], none, 0, []⟩,
    ⟨some 21, .load true 2, [.tmp 5], none, 0, []⟩,
    ⟨some 22, .callS 28, [.tmp 19, .tmp 20, .tmp 21], none, 0, []⟩,
    ⟨some 18, .mov, [.tmp 22], none, 0, []⟩,
    ⟨some 23, .extract 0, [.tmp 18], none, 0, []⟩,
    ⟨some 24, .extract 1, [.tmp 18], none, 0, []⟩,
    ⟨some 25, .extract 2, [.tmp 18], none, 0, []⟩,
    ⟨some 7, .alloc 25 (.pair (.nil 34 (.int .u32)) (.pair (.nil 3 (.int .i64)) (.pure (.pair (.int .i64) .unit) (0, ())))), [], none, 0, []⟩,
    ⟨some 8, .alloc 36 (.pure (.pair (.int .i64) (.pair (.int .u32) .unit)) (0, (0, ()))), [], none, 0, []⟩,
    ⟨none, .store 3, [.tmp 7, .tmp 23], none, 0, []⟩,
    ⟨none, .store 2, [.tmp 8, .tmp 24], none, 0, []⟩,
    ⟨some 9, .mov, [.tmp 25], none, 0, []⟩]) (.seq (.region false 3 [
    ⟨some 27, .load true 3, [.tmp 3], none, 0, []⟩,
    ⟨some 28, .mov, [.tmp 1], none, 0, []⟩,
    ⟨some 29, .load true 2, [.tmp 5], none, 0, []⟩,
    ⟨some 30, .callS 29, [.tmp 27, .tmp 28, .tmp 29], none, 0, []⟩,
    ⟨some 26, .mov, [.tmp 30], none, 0, []⟩,
    ⟨some 31, .extract 0, [.tmp 26], none, 0, []⟩,
    ⟨some 32, .extract 1, [.tmp 26], none, 0, []⟩,
    ⟨some 33, .extract 2, [.tmp 26], none, 0, []⟩,
    ⟨some 10, .alloc 25 (.pair (.nil 34 (.int .u32)) (.pair (.nil 3 (.int .i64)) (.pure (.pair (.int .i64) .unit) (0, ())))), [], none, 0, []⟩,
    ⟨some 11, .alloc 36 (.pure (.pair (.int .i64) (.pair (.int .u32) .unit)) (0, (0, ()))), [], none, 0, []⟩,
    ⟨none, .store 3, [.tmp 10, .tmp 31], none, 0, []⟩,
    ⟨none, .store 2, [.tmp 11, .tmp 32], none, 0, []⟩,
    ⟨some 12, .mov, [.tmp 33], none, 0, []⟩]) (.seq (.region false 1 [
    ⟨some 34, .load true 3, [.tmp 7], none, 0, []⟩,
    ⟨some 35, .load true 3, [.tmp 10], none, 0, []⟩,
    ⟨some 36, .callS 15, [.tmp 34, .tmp 35], none, 0, []⟩,
    ⟨some 37, .mov, [.tmp 36], none, 0, []⟩,
    ⟨some 38, .load true 2, [.tmp 8], some (37, true), 0, []⟩,
    ⟨some 39, .load true 2, [.tmp 11], some (37, true), 0, []⟩,
    ⟨some 40, .eqb false (.pair (.int .i64) (.pair (.int .u32) .unit)), [.tmp 38, .tmp 39], some (37, true), 0, []⟩,
    ⟨some 41, .pick, [.tmp 37, .tmp 40, .cst (.bool false)], none, 0, []⟩,
    ⟨some 42, .mov, [.tmp 41], none, 0, []⟩,
    ⟨some 43, .mov, [.tmp 9], some (42, true), 0, []⟩,
    ⟨some 44, .mov, [.tmp 12], some (42, true), 0, []⟩,
    ⟨some 45, .bin .eql, [.tmp 43, .tmp 44], some (42, true), 0, []⟩,
    ⟨some 46, .pick, [.tmp 42, .tmp 45, .cst (.bool false)], none, 0, []⟩,
    ⟨some 6, .mov, [.tmp 46], none, 0, []⟩]) (.ret))))))) }


def ir8 : IFn :=
  { ntmps := 127, results := [.inl 8], body := (.seq (.region false 1 [
    ⟨some 4, .box 25, [.tmp 0], none, 0, []⟩,
    ⟨some 8, .mov, [.cst (.bool false)], none, 0, []⟩]) (.seq (.seq (.region false 0 [
    ⟨some 22, .call 11, [], none, 0, []⟩,
    ⟨some 23, .not, [.tmp 22], none, 0, []⟩]) (.cond (.tmp 23) (.seq (.region false 0 [
     ⟨some 8, .mov, [.cst (.bool false)], none, 0, []⟩]) (.ret)) (.skip))) (.seq (.seq (.region false 1 [
    ⟨some 24, .load true 3, [.tmp 4], none, 0, []⟩,
    ⟨some 25, .call 12, [.tmp 24], none, 0, []⟩,
    ⟨some 26, .not, [.tmp 25], none, 0, []⟩,
    ⟨some 27, .mov, [.tmp 26], none, 0, []⟩,
    ⟨some 28, .load true 3, [.tmp 4], some (27, false), 0, []⟩,
    ⟨some 29, .callS 16, [.tmp 28], some (27, false), 0, []⟩,
    ⟨some 30, .not, [.tmp 29], some (27, false), 0, []⟩,
    ⟨some 31, .pick, [.tmp 27, .cst (.bool true), .tmp 30], none, 0, []⟩,
    ⟨some 32, .mov, [.tmp 31], none, 0, []⟩,
    ⟨some 33, .mov, [.tmp 1], some (32, false), 0, []⟩,
    ⟨some 34, .len, [.tmp 33], some (32, false), 0, []⟩,
    ⟨some 35, .bin .lss, [.tmp 34, .cst (.int .i64 1)], some (32, false), 0, []⟩,
    ⟨some 36, .pick, [.tmp 32, .cst (.bool true), .tmp 35], none, 0, []⟩,
    ⟨some 37, .mov, [.tmp 36], none, 0, []⟩,
    ⟨some 38, .mov, [.tmp 1], some (37, false), 0, []⟩,
    ⟨some 39, .len, [.tmp 38], some (37, false), 0, []⟩,
    ⟨some 40, .bin .gtr, [.tmp 39, .cst (.int .i64 40)], some (37, false), 0, []⟩,
    ⟨some 41, .pick, [.tmp 37, .cst (.bool true), .tmp 40], none, 0, []⟩]) (.cond (.tmp 41) (.seq (.region false 0 [
     ⟨some 8, .mov, [.cst (.bool true)], none, 0, []⟩]) (.ret)) (.skip))) (.seq (.region false 0 [
    ⟨some 42, .mov, [.tmp 2], none, 0, []⟩,
    ⟨some 43, .conv .i64, [.tmp 42], none, 0, []⟩,
    ⟨some 44, .mov, [.tmp 1], none, 0, []⟩,
    ⟨some 45, .len, [.tmp 44], none, 0, []⟩,
    ⟨some 46, .bin .rem, [.tmp 43, .tmp 45], none, 0, []⟩,
    ⟨some 9, .mov, [.tmp 46], none, 0, []⟩]) (.seq (.region true 4 [
    ⟨some 48, .load true 3, [.tmp 4], none, 0, []⟩,
    ⟨some 49, .mov, [.tmp 1], none, 0, []⟩,
    ⟨some 50, .mov, [.tmp 9], none, 0, []⟩,
    ⟨some 51, .bin .add, [.tmp 50, .cst (.int .i64 1)], none, 0, [2]⟩,
    ⟨some 52, .slice 3 false true, [.tmp 49, .tmp 51], none, 0, [1, 3, 2]⟩,
    ⟨some 53, .callS 18, [], none, 0, []⟩,
    ⟨some 54, .callS 30, [.tmp 48, .tmp 52, .tmp 53], none, 1, [0, 4, 1, 3, 2, 5]⟩,
    ⟨some 47, .mov, [.tmp 54], none, 2, [6, 0, 4, 1, 3, 2, 5]⟩,
    ⟨some 55, .extract 0, [.tmp 47], none, 2, [7, 6, 0, 4, 1, 3, 2, 5]⟩,
    ⟨some 56, .extract 1, [.tmp 47], none, 2, [7, 6, 0, 4, 1, 3, 2, 5]⟩,
    ⟨some 57, .extract 2, [.tmp 47], none, 2, [7, 6, 0, 4, 1, 3, 2, 5]⟩,
    ⟨some 10, .alloc 25 (.pair (.nil 34 (.int .u32)) (.pair (.nil 3 (.int .i64)) (.pure (.pair (.int .i64) .unit) (0, ())))), [], none, 2, []⟩,
    ⟨some 11, .alloc 36 (.pure (.pair (.int .i64) (.pair (.int .u32) .unit)) (0, (0, ()))), [], none, 3, []⟩,
    ⟨none, .store 3, [.tmp 10, .tmp 55], none, 4, [11, 8, 7, 6, 0, 4, 1, 3, 2, 5, 12]⟩,
    ⟨none, .store 2, [.tmp 11, .tmp 56], none, 4, [12, 9, 7, 6, 0, 4, 1, 3, 2, 5, 13, 11, 8]⟩,
    ⟨some 12, .mov, [.tmp 57], none, 4, [10, 7, 6, 0, 4, 1, 3, 2, 5, 14, 12, 9, 13, 11, 8]⟩]) (.seq (.seq (.region false 0 [
    ⟨some 58, .mov, [.tmp 12], none, 0, []⟩,
    ⟨some 59, .bin .neq, [.tmp 58, .cst (.int .i64 0)], none, 0, []⟩]) (.cond (.tmp 59) (.seq (.region false 0 [
     ⟨some 60, .mov, [.tmp 12], none, 0, []⟩,
     ⟨some 61, .bin .eql, [.tmp 60, .cst (.int .i64 19)], none, 0, []⟩,
     ⟨some 62, .mov, [.tmp 61], none, 0, []⟩,
     ⟨some 63, .fieldAddr 0 0, [.tmp 10], some (62, true), 0, []⟩,
     ⟨some 64, .load false 1, [.tmp 63], some (62, true), 0, []⟩,
     ⟨some 65, .len, [.tmp 64], some (62, true), 0, []⟩,
     ⟨some 66, .bin .eql, [.tmp 65, .cst (.int .i64 0)], some (62, true), 0, []⟩,
     ⟨some 67, .pick, [.tmp 62, .tmp 66, .cst (.bool false)], none, 0, []⟩,
     ⟨some 8, .mov, [.tmp 67], none, 0, []⟩]) (.ret)) (.skip))) (.seq (.region false 3 [
    ⟨some 69, .load true 3, [.tmp 4], none, 0, []⟩,
    ⟨some 70, .mov, [.tmp 1], none, 0, []⟩,
    ⟨some 71, .mov, [.tmp 9], none, 0, []⟩,
    ⟨some 72, .bin .add, [.tmp 71, .cst (.int .i64 1)], none, 0, []⟩,
    ⟨some 73, .mov, [.tmp 3], none, 0, []⟩,
    ⟨some 74, .build [((.int .i64 0), 1), ((.int .u32 0), 1)] [0, 1], [.tmp 72, .tmp 73], none, 0, []⟩,
    ⟨some 75, .callS 30, [.tmp 69, .tmp 70, .tmp 74], none, 0, []⟩,
    ⟨some 68, .mov, [.tmp 75], none, 0, []⟩,
    ⟨some 76, .extract 0, [.tmp 68], none, 0, []⟩,
    ⟨some 77, .extract 1, [.tmp 68], none, 0, []⟩,
    ⟨some 78, .extract 2, [.tmp 68], none, 0, []⟩,
    ⟨some 13, .alloc 25 (.pair (.nil 34 (.int .u32)) (.pair (.nil 3 (.int .i64)) (.pure (.pair (.int .i64) .unit) (0, ())))), [], none, 0, []⟩,
    ⟨some 14, .alloc 36 (.pure (.pair (.int .i64) (.pair (.int .u32) .unit)) (0, (0, ()))), [], none, 0, []⟩,
    ⟨none, .store 3, [.tmp 13, .tmp 76], none, 0, []⟩,
    ⟨none, .store 2, [.tmp 14, .tmp 77], none, 0, []⟩,
    ⟨some 15, .mov, [.tmp 78], none, 0, []⟩]) (.seq (.region true 3 [
    ⟨some 80, .load true 3, [.tmp 4], none, 0, []⟩,
    ⟨some 81, .mov, [.tmp 1], none, 0, []⟩,
    ⟨some 82, .mov, [.tmp 9], none, 0, []⟩,
    ⟨some 83, .slice 3 false true, [.tmp 81, .tmp 82], none, 0, [1, 2]⟩,
    ⟨some 84, .mov, [.tmp 9], none, 0, []⟩,
    ⟨some 85, .bin .add, [.tmp 84, .cst (.int .i64 1)], none, 0, [4]⟩,
    ⟨some 86, .mov, [.tmp 3], none, 0, []⟩,
    ⟨some 87, .build [((.int .i64 0), 1), ((.int .u32 0), 1)] [0, 1], [.tmp 85, .tmp 86], none, 0, [5, 4, 6]⟩,
    ⟨some 88, .callS 30, [.tmp 80, .tmp 83, .tmp 87], none, 0, [0, 3, 1, 2, 7, 5, 4, 6]⟩,
    ⟨some 79, .mov, [.tmp 88], none, 1, [8, 0, 3, 1, 2, 7, 5, 4, 6]⟩,
    ⟨some 89, .extract 0, [.tmp 79], none, 1, [9, 8, 0, 3, 1, 2, 7, 5, 4, 6]⟩,
    ⟨some 90, .extract 1, [.tmp 79], none, 1, [9, 8, 0, 3, 1, 2, 7, 5, 4, 6]⟩,
    ⟨some 91, .extract 2, [.tmp 79], none, 1, [9, 8, 0, 3, 1, 2, 7, 5, 4, 6]⟩,
    ⟨some 16, .alloc 25 (.pair (.nil 34 (.int .u32)) (.pair (.nil 3 (.int .i64)) (.pure (.pair (.int .i64) .unit) (0, ())))), [], none, 1, []⟩,
    ⟨some 17, .alloc 36 (.pure (.pair (.int .i64) (.pair (.int .u32) .unit)) (0, (0, ()))), [], none, 2, []⟩,
    ⟨none, .store 3, [.tmp 16, .tmp 89], none, 3, [13, 10, 9, 8, 0, 3, 1, 2, 7, 5, 4, 6, 14]⟩,
    ⟨none, .store 2, [.tmp 17, .tmp 90], none, 3, [14, 11, 9, 8, 0, 3, 1, 2, 7, 5, 4, 6, 15, 13, 10]⟩,
    ⟨some 18, .mov, [.tmp 91], none, 3, [12, 9, 8, 0, 3, 1, 2, 7, 5, 4, 6, 16, 14, 11, 15, 13, 10]⟩]) (.seq (.seq (.region false 0 [
    ⟨some 92, .mov, [.tmp 15], none, 0, []⟩,
    ⟨some 93, .bin .neq, [.tmp 92, .cst (.int .i64 18)], none, 0, []⟩,
    ⟨some 94, .mov, [.tmp 93], none, 0, []⟩,
    ⟨some 95, .mov, [.tmp 18], some (94, false), 0, []⟩,
    ⟨some 96, .bin .neq, [.tmp 95, .cst (.int .i64 0)], some (94, false), 0, []⟩,
    ⟨some 97, .pick, [.tmp 94, .cst (.bool true), .tmp 96], none, 0, []⟩,
    ⟨some 98, .mov, [.tmp 97], none, 0, []⟩,
    ⟨some 99, .fieldAddr 0 0, [.tmp 14], some (98, false), 0, []⟩,
    ⟨some 100, .load false 1, [.tmp 99], some (98, false), 0, []⟩,
    ⟨some 101, .bin .neq, [.tmp 100, .cst (.int .i64 0)], some (98, false), 0, []⟩,
    ⟨some 102, .pick, [.tmp 98, .cst (.bool true), .tmp 101], none, 0, []⟩,
    ⟨some 103, .mov, [.tmp 102], none, 0, []⟩,
    ⟨some 104, .fieldAddr 0 0, [.tmp 17], some (103, false), 0, []⟩,
    ⟨some 105, .load false 1, [.tmp 104], some (103, false), 0, []⟩,
    ⟨some 106, .bin .neq, [.tmp 105, .cst (.int .i64 1)], some (103, false), 0, []⟩,
    ⟨some 107, .pick, [.tmp 103, .cst (.bool true), .tmp 106], none, 0, []⟩]) (.cond (.tmp 107) (.seq (.region false 0 [
     ⟨some 8, .mov, [.cst (.bool false)], none, 0, []⟩]) (.ret)) (.skip))) (.seq (.region true 3 [
    ⟨some 109, .load true 3, [.tmp 16], none, 0, []⟩,
    ⟨some 110, .mov, [.tmp 1], none, 0, []⟩,
    ⟨some 111, .mov, [.tmp 9], none, 0, []⟩,
    ⟨some 112, .mov, [.tmp 9], none, 0, []⟩,
    ⟨some 113, .bin .add, [.tmp 112, .cst (.int .i64 1)], none, 0, [3]⟩,
    ⟨some 114, .slice 3 true true, [.tmp 110, .tmp 111, .tmp 113], none, 0, [1, 2, 4, 3]⟩,
    ⟨some 115, .load true 2, [.tmp 17], none, 0, []⟩,
    ⟨some 116, .callS 30, [.tmp 109, .tmp 114, .tmp 115], none, 0, [0, 5, 1, 2, 4, 3, 6]⟩,
    ⟨some 108, .mov, [.tmp 116], none, 1, [7, 0, 5, 1, 2, 4, 3, 6]⟩,
    ⟨some 117, .extract 0, [.tmp 108], none, 1, [8, 7, 0, 5, 1, 2, 4, 3, 6]⟩,
    ⟨some 118, .extract 1, [.tmp 108], none, 1, [8, 7, 0, 5, 1, 2, 4, 3, 6]⟩,
    ⟨some 119, .extract 2, [.tmp 108], none, 1, [8, 7, 0, 5, 1, 2, 4, 3, 6]⟩,
    ⟨some 19, .alloc 25 (.pair (.nil 34 (.int .u32)) (.pair (.nil 3 (.int .i64)) (.pure (.pair (.int .i64) .unit) (0, ())))), [], none, 1, []⟩,
    ⟨some 20, .alloc 36 (.pure (.pair (.int .i64) (.pair (.int .u32) .unit)) (0, (0, ()))), [], none, 2, []⟩,
    ⟨none, .store 3, [.tmp 19, .tmp 117], none, 3, [12, 9, 8, 7, 0, 5, 1, 2, 4, 3, 6, 13]⟩,
    ⟨none, .store 2, [.tmp 20, .tmp 118], none, 3, [13, 10, 8, 7, 0, 5, 1, 2, 4, 3, 6, 14, 12, 9]⟩,
    ⟨some 21, .mov, [.tmp 119], none, 3, [11, 8, 7, 0, 5, 1, 2, 4, 3, 6, 15, 13, 10, 14, 12, 9]⟩]) (.seq (.region false 1 [
    ⟨some 120, .mov, [.tmp 21], none, 0, []⟩,
    ⟨some 121, .bin .eql, [.tmp 120, .cst (.int .i64 18)], none, 0, []⟩,
    ⟨some 122, .mov, [.tmp 121], none, 0, []⟩,
    ⟨some 123, .load true 3, [.tmp 19], some (122, true), 0, []⟩,
    ⟨some 124, .load true 3, [.tmp 13], some (122, true), 0, []⟩,
    ⟨some 125, .callS 15, [.tmp 123, .tmp 124], some (122, true), 0, []⟩,
    ⟨some 126, .pick, [.tmp 122, .tmp 125, .cst (.bool false)], none, 0, []⟩,
    ⟨some 8, .mov, [.tmp 126], none, 0, []⟩]) (.ret)))))))))))) }


def ir9_b1 : IC := (.seq (.region false 0 [
         ⟨some 100, .bin .lss, [.tmp 99, .tmp 98], none, 0, []⟩]) (.seq (.cond (.tmp 100) (.skip) (.exit 2)) (.seq (.block 3 (.seq (.region false 0 [
          ⟨some 101, .mov, [.tmp 99], none, 0, []⟩,
          ⟨some 13, .mov, [.tmp 101], none, 0, []⟩]) (.seq (.region true 0 [
          ⟨some 102, .mov, [.tmp 13], none, 0, []⟩,
          ⟨some 103, .bin .quo, [.tmp 102, .cst (.int .i64 64)], none, 0, [0]⟩,
          ⟨some 104, .mov, [.tmp 5], none, 0, []⟩,
          ⟨some 105, .bin .neq, [.tmp 103, .tmp 104], none, 0, [1, 0, 2]⟩,
          ⟨some 106, .mov, [.tmp 105], none, 0, [3, 1, 0, 2]⟩,
          ⟨some 107, .fieldAddr 0 0, [.tmp 8], some (106, true), 0, [4, 3, 1, 0, 2]⟩,
          ⟨some 108, .load false 1, [.tmp 107], some (106, true), 0, [5, 4, 3, 1, 0, 2]⟩,
          ⟨some 109, .mov, [.tmp 13], some (106, true), 0, [4, 3, 1, 0, 2]⟩,
          ⟨some 110, .idxSl 1, [.tmp 108, .tmp 109], some (106, true), 0, [6, 5, 4, 3, 1, 0, 2, 7]⟩,
          ⟨some 111, .load false 1, [.tmp 110], some (106, true), 0, [8, 6, 5, 4, 3, 1, 0, 2, 7]⟩,
          ⟨some 112, .fieldAddr 0 0, [.tmp 2], some (106, true), 0, [4, 3, 1, 0, 2]⟩,
          ⟨some 113, .load false 1, [.tmp 112], some (106, true), 0, [10, 4, 3, 1, 0, 2]⟩,
          ⟨some 114, .mov, [.tmp 13], some (106, true), 0, [4, 3, 1, 0, 2]⟩,
          ⟨some 115, .idxSl 1, [.tmp 113, .tmp 114], some (106, true), 0, [11, 10, 4, 3, 1, 0, 2, 12]⟩,
          ⟨some 116, .load false 1, [.tmp 115], some (106, true), 0, [13, 11, 10, 4, 3, 1, 0, 2, 12]⟩,
          ⟨some 117, .bin .neq, [.tmp 111, .tmp 116], some (106, true), 0, [9, 8, 6, 5, 4, 3, 1, 0, 2, 7, 14, 13, 11, 10, 12]⟩,
          ⟨some 118, .pick, [.tmp 106, .tmp 117, .cst (.bool false)], none, 0, [4, 3, 1, 0, 2, 15, 9, 8, 6, 5, 7, 14, 13, 11, 10, 12]⟩]) (.cond (.tmp 118) (.seq (.region false 0 [
           ⟨some 4, .mov, [.cst (.bool false)], none, 0, []⟩]) (.ret)) (.skip))))) (.region false 0 [
         ⟨some 119, .bin .add, [.tmp 99, .cst (.int .i64 1)], none, 0, []⟩,
         ⟨some 99, .mov, [.tmp 119], none, 0, []⟩]))))
def ir9_v1 : List Nat := [2, 5, 6, 8, 31, 98, 99]
def ir9_b0 : IC := (.seq (.region false 0 [
      ⟨some 32, .bin .lss, [.tmp 31, .cst (.int .i64 12)], none, 0, []⟩]) (.seq (.cond (.tmp 32) (.skip) (.exit 0)) (.seq (.block 1 (.seq (.region false 0 [
       ⟨some 33, .mov, [.tmp 31], none, 0, []⟩,
       ⟨some 7, .mov, [.tmp 33], none, 0, []⟩]) (.seq (.region true 4 [
       ⟨some 35, .load true 3, [.tmp 6], none, 0, []⟩,
       ⟨some 36, .mov, [.tmp 5], none, 0, []⟩,
       ⟨some 37, .callS 18, [], none, 0, []⟩,
       ⟨some 38, .callS 28, [.tmp 35, .tmp 36, .tmp 37], none, 1, [0, 1, 2]⟩,
       ⟨some 34, .mov, [.tmp 38], none, 2, [3, 0, 1, 2]⟩,
       ⟨some 39, .extract 0, [.tmp 34], none, 2, [4, 3, 0, 1, 2]⟩,
       ⟨some 40, .extract 1, [.tmp 34], none, 2, [4, 3, 0, 1, 2]⟩,
       ⟨some 41, .extract 2, [.tmp 34], none, 2, [4, 3, 0, 1, 2]⟩,
       ⟨some 8, .alloc 25 (.pair (.nil 34 (.int .u32)) (.pair (.nil 3 (.int .i64)) (.pure (.pair (.int .i64) .unit) (0, ())))), [], none, 2, []⟩,
       ⟨some 9, .alloc 36 (.pure (.pair (.int .i64) (.pair (.int .u32) .unit)) (0, (0, ()))), [], none, 3, []⟩,
       ⟨none, .store 3, [.tmp 8, .tmp 39], none, 4, [8, 5, 4, 3, 0, 1, 2, 9]⟩,
       ⟨none, .store 2, [.tmp 9, .tmp 40], none, 4, [9, 6, 4, 3, 0, 1, 2, 10, 8, 5]⟩,
       ⟨some 10, .mov, [.tmp 41], none, 4, [7, 4, 3, 0, 1, 2, 11, 9, 6, 10, 8, 5]⟩]) (.seq (.seq (.region true 0 [
       ⟨some 42, .fieldAddr 1 1, [.tmp 2], none, 0, []⟩,
       ⟨some 43, .load false 1, [.tmp 42], none, 0, [0]⟩,
       ⟨some 44, .mov, [.tmp 5], none, 0, []⟩,
       ⟨some 45, .idxSl 1, [.tmp 43, .tmp 44], none, 0, [1, 0, 2]⟩,
       ⟨some 46, .load false 1, [.tmp 45], none, 0, [3, 1, 0, 2]⟩,
       ⟨some 47, .mov, [.tmp 7], none, 0, []⟩,
       ⟨some 48, .bin .add, [.tmp 46, .tmp 47], none, 0, [4, 3, 1, 0, 2, 5]⟩,
       ⟨some 49, .fieldAddr 2 2, [.tmp 2], none, 0, []⟩,
       ⟨some 50, .load false 1, [.tmp 49], none, 0, [7]⟩,
       ⟨some 51, .bin .eql, [.tmp 48, .tmp 50], none, 0, [6, 4, 3, 1, 0, 2, 5, 8, 7]⟩]) (.cond (.tmp 51) (.seq (.region false 0 [
        ⟨some 52, .mov, [.tmp 10], none, 0, []⟩,
        ⟨some 53, .bin .eql, [.tmp 52, .cst (.int .i64 19)], none, 0, []⟩,
        ⟨some 54, .mov, [.tmp 53], none, 0, []⟩,
        ⟨some 55, .fieldAddr 0 0, [.tmp 8], some (54, true), 0, []⟩,
        ⟨some 56, .load false 1, [.tmp 55], some (54, true), 0, []⟩,
        ⟨some 57, .len, [.tmp 56], some (54, true), 0, []⟩,
        ⟨some 58, .bin .eql, [.tmp 57, .cst (.int .i64 0)], some (54, true), 0, []⟩,
        ⟨some 59, .pick, [.tmp 54, .tmp 58, .cst (.bool false)], none, 0, []⟩,
        ⟨some 4, .mov, [.tmp 59], none, 0, []⟩]) (.ret)) (.skip))) (.seq (.seq (.region true 1 [
       ⟨some 60, .mov, [.tmp 10], none, 0, []⟩,
       ⟨some 61, .bin .neq, [.tmp 60, .cst (.int .i64 0)], none, 0, [0]⟩,
       ⟨some 62, .mov, [.tmp 61], none, 0, [1, 0]⟩,
       ⟨some 63, .load true 3, [.tmp 2], some (62, false), 0, [2, 1, 0]⟩,
       ⟨some 64, .load true 3, [.tmp 8], some (62, false), 0, [2, 1, 0]⟩,
       ⟨some 65, .callS 23, [.tmp 63, .tmp 64], some (62, false), 0, [3, 2, 1, 0, 4]⟩,
       ⟨some 66, .not, [.tmp 65], some (62, false), 1, [5, 3, 2, 1, 0, 4]⟩,
       ⟨some 67, .pick, [.tmp 62, .cst (.bool true), .tmp 66], none, 1, [2, 1, 0, 6, 5, 3, 4]⟩,
       ⟨some 68, .mov, [.tmp 67], none, 1, [7, 2, 1, 0, 6, 5, 3, 4]⟩,
       ⟨some 69, .fieldAddr 1 1, [.tmp 8], some (68, false), 1, [8, 7, 2, 1, 0, 6, 5, 3, 4]⟩,
       ⟨some 70, .load false 1, [.tmp 69], some (68, false), 1, [9, 8, 7, 2, 1, 0, 6, 5, 3, 4]⟩,
       ⟨some 71, .mov, [.tmp 5], some (68, false), 1, [8, 7, 2, 1, 0, 6, 5, 3, 4]⟩,
       ⟨some 72, .idxSl 1, [.tmp 70, .tmp 71], some (68, false), 1, [10, 9, 8, 7, 2, 1, 0, 6, 5, 3, 4, 11]⟩,
       ⟨some 73, .load false 1, [.tmp 72], some (68, false), 1, [12, 10, 9, 8, 7, 2, 1, 0, 6, 5, 3, 4, 11]⟩,
       ⟨some 74, .fieldAddr 1 1, [.tmp 2], some (68, false), 1, [8, 7, 2, 1, 0, 6, 5, 3, 4]⟩,
       ⟨some 75, .load false 1, [.tmp 74], some (68, false), 1, [14, 8, 7, 2, 1, 0, 6, 5, 3, 4]⟩,
       ⟨some 76, .mov, [.tmp 5], some (68, false), 1, [8, 7, 2, 1, 0, 6, 5, 3, 4]⟩,
       ⟨some 77, .idxSl 1, [.tmp 75, .tmp 76], some (68, false), 1, [15, 14, 8, 7, 2, 1, 0, 6, 5, 3, 4, 16]⟩,
       ⟨some 78, .load false 1, [.tmp 77], some (68, false), 1, [17, 15, 14, 8, 7, 2, 1, 0, 6, 5, 3, 4, 16]⟩,
       ⟨some 79, .mov, [.tmp 7], some (68, false), 1, [8, 7, 2, 1, 0, 6, 5, 3, 4]⟩,
       ⟨some 80, .bin .add, [.tmp 78, .tmp 79], some (68, false), 1, [18, 17, 15, 14, 8, 7, 2, 1, 0, 6, 5, 3, 4, 16, 19]⟩,
       ⟨some 81, .bin .add, [.tmp 80, .cst (.int .i64 1)], some (68, false), 1, [20, 18, 17, 15, 14, 8, 7, 2, 1, 0, 6, 5, 3, 4, 16, 19]⟩,
       ⟨some 82, .bin .neq, [.tmp 73, .tmp 81], some (68, false), 1, [13, 12, 10, 9, 8, 7, 2, 1, 0, 6, 5, 3, 4, 11, 21, 20, 18, 17, 15, 14, 16, 19]⟩,
       ⟨some 83, .pick, [.tmp 68, .cst (.bool true), .tmp 82], none, 1, [8, 7, 2, 1, 0, 6, 5, 3, 4, 22, 13, 12, 10, 9, 11, 21, 20, 18, 17, 15, 14, 16, 19]⟩]) (.cond (.tmp 83) (.seq (.region false 0 [
        ⟨some 4, .mov, [.cst (.bool false)], none, 0, []⟩]) (.ret)) (.skip))) (.seq (.seq (.region false 1 [
       ⟨some 85, .load true 3, [.tmp 8], none, 0, []⟩,
       ⟨some 86, .mov, [.tmp 5], none, 0, []⟩,
       ⟨some 87, .callS 26, [.tmp 85, .tmp 86], none, 0, []⟩,
       ⟨some 84, .mov, [.tmp 87], none, 0, []⟩,
       ⟨some 88, .extract 0, [.tmp 84], none, 0, []⟩,
       ⟨some 89, .extract 1, [.tmp 84], none, 0, []⟩,
       ⟨some 11, .mov, [.tmp 88], none, 0, []⟩,
       ⟨some 12, .mov, [.tmp 89], none, 0, []⟩]) (.seq (.region false 0 [
       ⟨some 90, .mov, [.tmp 11], none, 0, []⟩,
       ⟨some 91, .not, [.tmp 90], none, 0, []⟩,
       ⟨some 92, .mov, [.tmp 91], none, 0, []⟩,
       ⟨some 93, .mov, [.tmp 12], some (92, false), 0, []⟩,
       ⟨some 94, .bin .neq, [.tmp 93, .cst (.int .i64 0)], some (92, false), 0, []⟩,
       ⟨some 95, .pick, [.tmp 92, .cst (.bool true), .tmp 94], none, 0, []⟩]) (.cond (.tmp 95) (.seq (.region false 0 [
        ⟨some 4, .mov, [.cst (.bool false)], none, 0, []⟩]) (.ret)) (.skip)))) (.seq (.seq (.region false 0 [
       ⟨some 96, .fieldAddr 0 0, [.tmp 2], none, 0, []⟩,
       ⟨some 97, .load false 1, [.tmp 96], none, 0, []⟩,
       ⟨some 98, .len, [.tmp 97], none, 0, []⟩,
       ⟨some 99, .mov, [.cst (.int .i64 0)], none, 0, []⟩]) (.block 2 (.loop ir9_v1 ir9_b1))) (.region false 0 [
       ⟨some 120, .load true 3, [.tmp 8], none, 0, []⟩,
       ⟨none, .store 3, [.tmp 6, .tmp 120], none, 0, []⟩])))))))) (.region false 0 [
      ⟨some 121, .bin .add, [.tmp 31, .cst (.int .i64 1)], none, 0, []⟩,
      ⟨some 31, .mov, [.tmp 121], none, 0, []⟩]))))
def ir9_v0 : List Nat := [2, 5, 6, 31]
def ir9_bt0 {R : Type} (o1 : St → (Ex → St → Option R) → Option R) : LT R := (.node .nil (.node .nil (.node (.node (.node .nil (.node .nil (.node .nil (.node .nil (.node .nil (.node (.node .nil (.node (.orc o1) .nil)) .nil)))))) .nil) .nil)))
def ir9_t {R : Type} (o0 : St → (Ex → St → Option R) → Option R) : LT R := (.node .nil (.node .nil (.node .nil (.node .nil (.node .nil (.node (.node .nil (.node (.orc o0) .nil)) .nil))))))
def ir9 : IFn :=
  { ntmps := 122, results := [.inl 4], body := (.seq (.region false 1 [
    ⟨some 2, .box 25, [.tmp 0], none, 0, []⟩,
    ⟨some 4, .mov, [.cst (.bool false)], none, 0, []⟩]) (.seq (.seq (.region false 0 [
    ⟨some 14, .call 11, [], none, 0, []⟩,
    ⟨some 15, .not, [.tmp 14], none, 0, []⟩]) (.cond (.tmp 15) (.seq (.region false 0 [
     ⟨some 4, .mov, [.cst (.bool false)], none, 0, []⟩]) (.ret)) (.skip))) (.seq (.seq (.region false 1 [
    ⟨some 16, .load true 3, [.tmp 2], none, 0, []⟩,
    ⟨some 17, .call 12, [.tmp 16], none, 0, []⟩,
    ⟨some 18, .not, [.tmp 17], none, 0, []⟩,
    ⟨some 19, .mov, [.tmp 18], none, 0, []⟩,
    ⟨some 20, .load true 3, [.tmp 2], some (19, false), 0, []⟩,
    ⟨some 21, .callS 16, [.tmp 20], some (19, false), 0, []⟩,
    ⟨some 22, .not, [.tmp 21], some (19, false), 0, []⟩,
    ⟨some 23, .pick, [.tmp 19, .cst (.bool true), .tmp 22], none, 0, []⟩]) (.cond (.tmp 23) (.seq (.region false 0 [
     ⟨some 4, .mov, [.cst (.bool true)], none, 0, []⟩]) (.ret)) (.skip))) (.seq (.region false 0 [
    ⟨some 24, .mov, [.tmp 1], none, 0, []⟩,
    ⟨some 25, .conv .i64, [.tmp 24], none, 0, []⟩,
    ⟨some 26, .fieldAddr 1 1, [.tmp 2], none, 0, []⟩,
    ⟨some 27, .load false 1, [.tmp 26], none, 0, []⟩,
    ⟨some 28, .len, [.tmp 27], none, 0, []⟩,
    ⟨some 29, .bin .rem, [.tmp 25, .tmp 28], none, 0, []⟩,
    ⟨some 5, .mov, [.tmp 29], none, 0, []⟩]) (.seq (.region false 1 [
    ⟨some 30, .load true 3, [.tmp 2], none, 0, []⟩,
    ⟨some 6, .alloc 25 (.pair (.nil 34 (.int .u32)) (.pair (.nil 3 (.int .i64)) (.pure (.pair (.int .i64) .unit) (0, ())))), [], none, 0, []⟩,
    ⟨none, .store 3, [.tmp 6, .tmp 30], none, 0, []⟩]) (.seq (.seq (.region false 0 [
    ⟨some 31, .mov, [.cst (.int .i64 0)], none, 0, []⟩]) (.block 0 (.loop ir9_v0 ir9_b0))) (.seq (.region false 0 [
    ⟨some 4, .mov, [.cst (.bool true)], none, 0, []⟩]) (.ret)))))))) }
theorem ir9_bt0ok {R : Type} {summ : Nat → Option Summ} {fu : Nat} {call : Nat → List CV → List Blk → (CV → List Blk → Option R) → Option R} {o1 : St → (Ex → St → Option R) → Option R} (h1 : ∀ T k r, o1 T k = some r → evLoopN (evCode summ fu call ir9_b1) (St.norm ir9_v1) fu T k = some r) : LTok summ fu call (ir9_bt0 o1) ir9_b0 := ⟨trivial, ⟨trivial, ⟨⟨trivial, ⟨trivial, ⟨trivial, ⟨trivial, ⟨trivial, ⟨⟨trivial, h1⟩, trivial⟩⟩⟩⟩⟩⟩, trivial⟩⟩⟩
theorem ir9_tok {R : Type} {summ : Nat → Option Summ} {fu : Nat} {call : Nat → List CV → List Blk → (CV → List Blk → Option R) → Option R} {o0 : St → (Ex → St → Option R) → Option R} (h0 : ∀ T k r, o0 T k = some r → evLoopN (evCode summ fu call ir9_b0) (St.norm ir9_v0) fu T k = some r) : LTok summ fu call (ir9_t o0) ir9.body := ⟨trivial, ⟨trivial, ⟨trivial, ⟨trivial, ⟨trivial, ⟨⟨trivial, h0⟩, trivial⟩⟩⟩⟩⟩⟩


def ir10_b0 : IC := (.seq (.region false 0 [
      ⟨some 173, .bin .lss, [.tmp 172, .tmp 171], none, 0, []⟩]) (.seq (.cond (.tmp 173) (.skip) (.exit 0)) (.seq (.block 1 (.seq (.region false 0 [
       ⟨some 174, .mov, [.tmp 172], none, 0, []⟩,
       ⟨some 25, .mov, [.tmp 174], none, 0, []⟩]) (.seq (.region true 0 [
       ⟨some 175, .fieldAddr 0 0, [.tmp 16], none, 0, []⟩,
       ⟨some 176, .load false 1, [.tmp 175], none, 0, [0]⟩,
       ⟨some 177, .mov, [.tmp 25], none, 0, []⟩,
       ⟨some 178, .idxSl 1, [.tmp 176, .tmp 177], none, 0, [1, 0, 2]⟩,
       ⟨some 179, .load false 1, [.tmp 178], none, 0, [3, 1, 0, 2]⟩,
       ⟨some 180, .fieldAddr 0 0, [.tmp 5], none, 0, []⟩,
       ⟨some 181, .load false 1, [.tmp 180], none, 0, [5]⟩,
       ⟨some 182, .mov, [.tmp 25], none, 0, []⟩,
       ⟨some 183, .idxSl 1, [.tmp 181, .tmp 182], none, 0, [6, 5, 7]⟩,
       ⟨some 184, .load false 1, [.tmp 183], none, 0, [8, 6, 5, 7]⟩,
       ⟨some 185, .load false 1, [.tmp 8], none, 0, []⟩,
       ⟨some 186, .bin .andNot, [.tmp 184, .tmp 185], none, 0, [9, 8, 6, 5, 7, 10]⟩,
       ⟨some 187, .fieldAddr 0 0, [.tmp 13], none, 0, []⟩,
       ⟨some 188, .load false 1, [.tmp 187], none, 0, [12]⟩,
       ⟨some 189, .mov, [.tmp 25], none, 0, []⟩,
       ⟨some 190, .idxSl 1, [.tmp 188, .tmp 189], none, 0, [13, 12, 14]⟩,
       ⟨some 191, .load false 1, [.tmp 190], none, 0, [15, 13, 12, 14]⟩,
       ⟨some 192, .load false 1, [.tmp 8], none, 0, []⟩,
       ⟨some 193, .bin .and, [.tmp 191, .tmp 192], none, 0, [16, 15, 13, 12, 14, 17]⟩,
       ⟨some 194, .bin .or, [.tmp 186, .tmp 193], none, 0, [11, 9, 8, 6, 5, 7, 10, 18, 16, 15, 13, 12, 14, 17]⟩,
       ⟨some 195, .bin .neq, [.tmp 179, .tmp 194], none, 0, [4, 3, 1, 0, 2, 19, 11, 9, 8, 6, 5, 7, 10, 18, 16, 15, 13, 12, 14, 17]⟩]) (.cond (.tmp 195) (.seq (.region false 0 [
        ⟨some 10, .mov, [.cst (.bool false)], none, 0, []⟩]) (.ret)) (.skip))))) (.region false 0 [
      ⟨some 196, .bin .add, [.tmp 172, .cst (.int .i64 1)], none, 0, []⟩,
      ⟨some 172, .mov, [.tmp 196], none, 0, []⟩]))))
def ir10_v0 : List Nat := [5, 8, 13, 16, 171, 172]
def ir10_t {R : Type} (o0 : St → (Ex → St → Option R) → Option R) : LT R := (.node .nil (.node .nil (.node .nil (.node .nil (.node .nil (.node .nil (.node .nil (.node .nil (.node .nil (.node .nil (.node .nil (.node .nil (.node (.node .nil (.node (.orc o0) .nil)) .nil)))))))))))))
def ir10 : IFn :=
  { ntmps := 197, results := [.inl 10], body := (.seq (.region false 4 [
    ⟨some 5, .box 25, [.tmp 0], none, 0, []⟩,
    ⟨some 7, .box 34, [.tmp 2], none, 0, []⟩,
    ⟨some 8, .box 34, [.tmp 3], none, 0, []⟩,
    ⟨some 9, .box 4, [.tmp 4], none, 0, []⟩,
    ⟨some 10, .mov, [.cst (.bool false)], none, 0, []⟩]) (.seq (.seq (.region false 0 [
    ⟨some 26, .call 11, [], none, 0, []⟩,
    ⟨some 27, .not, [.tmp 26], none, 0, []⟩]) (.cond (.tmp 27) (.seq (.region false 0 [
     ⟨some 10, .mov, [.cst (.bool false)], none, 0, []⟩]) (.ret)) (.skip))) (.seq (.seq (.region false 1 [
    ⟨some 28, .load true 3, [.tmp 5], none, 0, []⟩,
    ⟨some 29, .call 12, [.tmp 28], none, 0, []⟩,
    ⟨some 30, .not, [.tmp 29], none, 0, []⟩,
    ⟨some 31, .mov, [.tmp 30], none, 0, []⟩,
    ⟨some 32, .load true 3, [.tmp 5], some (31, false), 0, []⟩,
    ⟨some 33, .callS 16, [.tmp 32], some (31, false), 0, []⟩,
    ⟨some 34, .not, [.tmp 33], some (31, false), 0, []⟩,
    ⟨some 35, .pick, [.tmp 31, .cst (.bool true), .tmp 34], none, 0, []⟩]) (.cond (.tmp 35) (.seq (.region false 0 [
     ⟨some 10, .mov, [.cst (.bool true)], none, 0, []⟩]) (.ret)) (.skip))) (.seq (.region false 1 [
    ⟨some 36, .mov, [.tmp 1], none, 0, []⟩,
    ⟨some 37, .conv .i64, [.tmp 36], none, 0, []⟩,
    ⟨some 38, .fieldAddr 0 0, [.tmp 5], none, 0, []⟩,
    ⟨some 39, .load false 1, [.tmp 38], none, 0, []⟩,
    ⟨some 40, .len, [.tmp 39], none, 0, []⟩,
    ⟨some 41, .bin .rem, [.tmp 37, .tmp 40], none, 0, []⟩,
    ⟨some 11, .alloc 3 (.int .i64 0), [], none, 0, []⟩,
    ⟨none, .store 1, [.tmp 11, .tmp 41], none, 0, []⟩]) (.seq (.region false 0 [
    ⟨some 42, .mkFunc 31, [.tmp 8, .tmp 9, .tmp 5, .tmp 11, .tmp 7], none, 0, []⟩,
    ⟨some 12, .mov, [.tmp 42], none, 0, []⟩]) (.seq (.region false 2 [
    ⟨some 44, .mov, [.tmp 12], none, 0, []⟩,
    ⟨some 45, .callv, [.tmp 44, .cst (.int .i64 2)], none, 0, []⟩,
    ⟨some 43, .mov, [.tmp 45], none, 0, []⟩,
    ⟨some 46, .extract 0, [.tmp 43], none, 0, []⟩,
    ⟨some 47, .extract 1, [.tmp 43], none, 0, []⟩,
    ⟨some 48, .extract 2, [.tmp 43], none, 0, []⟩,
    ⟨some 13, .alloc 25 (.pair (.nil 34 (.int .u32)) (.pair (.nil 3 (.int .i64)) (.pure (.pair (.int .i64) .unit) (0, ())))), [], none, 0, []⟩,
    ⟨some 14, .alloc 36 (.pure (.pair (.int .i64) (.pair (.int .u32) .unit)) (0, (0, ()))), [], none, 0, []⟩,
    ⟨none, .store 3, [.tmp 13, .tmp 46], none, 0, []⟩,
    ⟨none, .store 2, [.tmp 14, .tmp 47], none, 0, []⟩,
    ⟨some 15, .mov, [.tmp 48], none, 0, []⟩]) (.seq (.region false 2 [
    ⟨some 50, .mov, [.tmp 12], none, 0, []⟩,
    ⟨some 51, .callv, [.tmp 50, .cst (.int .i64 1)], none, 0, []⟩,
    ⟨some 49, .mov, [.tmp 51], none, 0, []⟩,
    ⟨some 52, .extract 0, [.tmp 49], none, 0, []⟩,
    ⟨some 53, .extract 1, [.tmp 49], none, 0, []⟩,
    ⟨some 54, .extract 2, [.tmp 49], none, 0, []⟩,
    ⟨some 16, .alloc 25 (.pair (.nil 34 (.int .u32)) (.pair (.nil 3 (.int .i64)) (.pure (.pair (.int .i64) .unit) (0, ())))), [], none, 0, []⟩,
    ⟨some 17, .alloc 36 (.pure (.pair (.int .i64) (.pair (.int .u32) .unit)) (0, (0, ()))), [], none, 0, []⟩,
    ⟨none, .store 3, [.tmp 16, .tmp 52], none, 0, []⟩,
    ⟨none, .store 2, [.tmp 17, .tmp 53], none, 0, []⟩,
    ⟨some 18, .mov, [.tmp 54], none, 0, []⟩]) (.seq (.region false 2 [
    ⟨some 56, .mov, [.tmp 12], none, 0, []⟩,
    ⟨some 57, .callv, [.tmp 56, .cst (.int .i64 0)], none, 0, []⟩,
    ⟨some 55, .mov, [.tmp 57], none, 0, []⟩,
    ⟨some 58, .extract 0, [.tmp 55], none, 0, []⟩,
    ⟨some 59, .extract 1, [.tmp 55], none, 0, []⟩,
    ⟨some 60, .extract 2, [.tmp 55], none, 0, []⟩,
    ⟨some 19, .alloc 25 (.pair (.nil 34 (.int .u32)) (.pair (.nil 3 (.int .i64)) (.pure (.pair (.int .i64) .unit) (0, ())))), [], none, 0, []⟩,
    ⟨some 20, .alloc 36 (.pure (.pair (.int .i64) (.pair (.int .u32) .unit)) (0, (0, ()))), [], none, 0, []⟩,
    ⟨none, .store 3, [.tmp 19, .tmp 58], none, 0, []⟩,
    ⟨none, .store 2, [.tmp 20, .tmp 59], none, 0, []⟩,
    ⟨some 21, .mov, [.tmp 60], none, 0, []⟩]) (.seq (.region false 2 [
    ⟨some 62, .mov, [.tmp 12], none, 0, []⟩,
    ⟨some 63, .callv, [.tmp 62, .cst (.int .i64 1000)], none, 0, []⟩,
    ⟨some 61, .mov, [.tmp 63], none, 0, []⟩,
    ⟨some 64, .extract 0, [.tmp 61], none, 0, []⟩,
    ⟨some 65, .extract 1, [.tmp 61], none, 0, []⟩,
    ⟨some 66, .extract 2, [.tmp 61], none, 0, []⟩,
    ⟨some 22, .alloc 25 (.pair (.nil 34 (.int .u32)) (.pair (.nil 3 (.int .i64)) (.pure (.pair (.int .i64) .unit) (0, ())))), [], none, 0, []⟩,
    ⟨some 23, .alloc 36 (.pure (.pair (.int .i64) (.pair (.int .u32) .unit)) (0, (0, ()))), [], none, 0, []⟩,
    ⟨none, .store 3, [.tmp 22, .tmp 64], none, 0, []⟩,
    ⟨none, .store 2, [.tmp 23, .tmp 65], none, 0, []⟩,
    ⟨some 24, .mov, [.tmp 66], none, 0, []⟩]) (.seq (.seq (.region true 0 [
    ⟨some 67, .load false 1, [.tmp 9], none, 0, []⟩,
    ⟨some 68, .mov, [.tmp 67], none, 0, [0]⟩,
    ⟨some 69, .fieldAddr 1 1, [.tmp 5], some (68, true), 0, [1, 0]⟩,
    ⟨some 70, .load false 1, [.tmp 69], some (68, true), 0, [2, 1, 0]⟩,
    ⟨some 71, .load false 1, [.tmp 11], some (68, true), 0, [1, 0]⟩,
    ⟨some 72, .bin .quo, [.tmp 71, .cst (.int .i64 64)], some (68, true), 0, [4, 1, 0]⟩,
    ⟨some 73, .idxSl 1, [.tmp 70, .tmp 72], some (68, true), 0, [3, 2, 1, 0, 5, 4]⟩,
    ⟨some 74, .load false 1, [.tmp 73], some (68, true), 0, [6, 3, 2, 1, 0, 5, 4]⟩,
    ⟨some 75, .fieldAddr 2 2, [.tmp 5], some (68, true), 0, [1, 0]⟩,
    ⟨some 76, .load false 1, [.tmp 75], some (68, true), 0, [8, 1, 0]⟩,
    ⟨some 77, .bin .eql, [.tmp 74, .tmp 76], some (68, true), 0, [7, 6, 3, 2, 1, 0, 5, 4, 9, 8]⟩,
    ⟨some 78, .pick, [.tmp 68, .tmp 77, .cst (.bool false)], none, 0, [1, 0, 10, 7, 6, 3, 2, 5, 4, 9, 8]⟩]) (.cond (.tmp 78) (.seq (.region false 0 [
     ⟨some 79, .mov, [.tmp 15], none, 0, []⟩,
     ⟨some 80, .bin .eql, [.tmp 79, .cst (.int .i64 19)], none, 0, []⟩,
     ⟨some 81, .mov, [.tmp 80], none, 0, []⟩,
     ⟨some 82, .mov, [.tmp 18], some (81, true), 0, []⟩,
     ⟨some 83, .bin .eql, [.tmp 82, .cst (.int .i64 19)], some (81, true), 0, []⟩,
     ⟨some 84, .pick, [.tmp 81, .tmp 83, .cst (.bool false)], none, 0, []⟩,
     ⟨some 85, .mov, [.tmp 84], none, 0, []⟩,
     ⟨some 86, .mov, [.tmp 21], some (85, true), 0, []⟩,
     ⟨some 87, .bin .eql, [.tmp 86, .cst (.int .i64 19)], some (85, true), 0, []⟩,
     ⟨some 88, .pick, [.tmp 85, .tmp 87, .cst (.bool false)], none, 0, []⟩,
     ⟨some 89, .mov, [.tmp 88], none, 0, []⟩,
     ⟨some 90, .mov, [.tmp 24], some (89, true), 0, []⟩,
     ⟨some 91, .bin .eql, [.tmp 90, .cst (.int .i64 19)], some (89, true), 0, []⟩,
     ⟨some 92, .pick, [.tmp 89, .tmp 91, .cst (.bool false)], none, 0, []⟩,
     ⟨some 10, .mov, [.tmp 92], none, 0, []⟩]) (.ret)) (.skip))) (.seq (.seq (.region false 0 [
    ⟨some 93, .mov, [.tmp 15], none, 0, []⟩,
    ⟨some 94, .bin .neq, [.tmp 93, .cst (.int .i64 0)], none, 0, []⟩,
    ⟨some 95, .mov, [.tmp 94], none, 0, []⟩,
    ⟨some 96, .mov, [.tmp 18], some (95, false), 0, []⟩,
    ⟨some 97, .bin .neq, [.tmp 96, .cst (.int .i64 18)], some (95, false), 0, []⟩,
    ⟨some 98, .pick, [.tmp 95, .cst (.bool true), .tmp 97], none, 0, []⟩,
    ⟨some 99, .mov, [.tmp 98], none, 0, []⟩,
    ⟨some 100, .mov, [.tmp 21], some (99, false), 0, []⟩,
    ⟨some 101, .bin .neq, [.tmp 100, .cst (.int .i64 18)], some (99, false), 0, []⟩,
    ⟨some 102, .pick, [.tmp 99, .cst (.bool true), .tmp 101], none, 0, []⟩,
    ⟨some 103, .mov, [.tmp 102], none, 0, []⟩,
    ⟨some 104, .mov, [.tmp 24], some (103, false), 0, []⟩,
    ⟨some 105, .bin .neq, [.tmp 104, .cst (.int .i64 0)], some (103, false), 0, []⟩,
    ⟨some 106, .pick, [.tmp 103, .cst (.bool true), .tmp 105], none, 0, []⟩,
    ⟨some 107, .mov, [.tmp 106], none, 0, []⟩,
    ⟨some 108, .fieldAddr 0 0, [.tmp 14], some (107, false), 0, []⟩,
    ⟨some 109, .load false 1, [.tmp 108], some (107, false), 0, []⟩,
    ⟨some 110, .bin .neq, [.tmp 109, .cst (.int .i64 1)], some (107, false), 0, []⟩,
    ⟨some 111, .pick, [.tmp 107, .cst (.bool true), .tmp 110], none, 0, []⟩,
    ⟨some 112, .mov, [.tmp 111], none, 0, []⟩,
    ⟨some 113, .fieldAddr 0 0, [.tmp 17], some (112, false), 0, []⟩,
    ⟨some 114, .load false 1, [.tmp 113], some (112, false), 0, []⟩,
    ⟨some 115, .bin .neq, [.tmp 114, .cst (.int .i64 0)], some (112, false), 0, []⟩,
    ⟨some 116, .pick, [.tmp 112, .cst (.bool true), .tmp 115], none, 0, []⟩,
    ⟨some 117, .mov, [.tmp 116], none, 0, []⟩,
    ⟨some 118, .fieldAddr 0 0, [.tmp 20], some (117, false), 0, []⟩,
    ⟨some 119, .load false 1, [.tmp 118], some (117, false), 0, []⟩,
    ⟨some 120, .bin .neq, [.tmp 119, .cst (.int .i64 0)], some (117, false), 0, []⟩,
    ⟨some 121, .pick, [.tmp 117, .cst (.bool true), .tmp 120], none, 0, []⟩,
    ⟨some 122, .mov, [.tmp 121], none, 0, []⟩,
    ⟨some 123, .fieldAddr 0 0, [.tmp 23], some (122, false), 0, []⟩,
    ⟨some 124, .load false 1, [.tmp 123], some (122, false), 0, []⟩,
    ⟨some 125, .bin .neq, [.tmp 124, .cst (.int .i64 999)], some (122, false), 0, []⟩,
    ⟨some 126, .pick, [.tmp 122, .cst (.bool true), .tmp 125], none, 0, []⟩]) (.cond (.tmp 126) (.seq (.region false 0 [
     ⟨some 10, .mov, [.cst (.bool false)], none, 0, []⟩]) (.ret)) (.skip))) (.seq (.seq (.region false 5 [
    ⟨some 127, .fieldAddr 1 1, [.tmp 14], none, 0, []⟩,
    ⟨some 128, .load false 1, [.tmp 127], none, 0, []⟩,
    ⟨some 129, .load false 1, [.tmp 8], none, 0, []⟩,
    ⟨some 130, .bin .neq, [.tmp 128, .tmp 129], none, 0, []⟩,
    ⟨some 131, .mov, [.tmp 130], none, 0, []⟩,
    ⟨some 132, .fieldAddr 1 1, [.tmp 17], some (131, false), 0, []⟩,
    ⟨some 133, .load false 1, [.tmp 132], some (131, false), 0, []⟩,
    ⟨some 134, .load false 1, [.tmp 8], some (131, false), 0, []⟩,
    ⟨some 135, .bin .neq, [.tmp 133, .tmp 134], some (131, false), 0, []⟩,
    ⟨some 136, .pick, [.tmp 131, .cst (.bool true), .tmp 135], none, 0, []⟩,
    ⟨some 137, .mov, [.tmp 136], none, 0, []⟩,
    ⟨some 138, .load true 3, [.tmp 19], some (137, false), 0, []⟩,
    ⟨some 139, .load true 3, [.tmp 5], some (137, false), 0, []⟩,
    ⟨some 140, .callS 15, [.tmp 138, .tmp 139], some (137, false), 0, []⟩,
    ⟨some 141, .not, [.tmp 140], some (137, false), 0, []⟩,
    ⟨some 142, .pick, [.tmp 137, .cst (.bool true), .tmp 141], none, 0, []⟩,
    ⟨some 143, .mov, [.tmp 142], none, 0, []⟩,
    ⟨some 144, .load true 3, [.tmp 22], some (143, false), 0, []⟩,
    ⟨some 145, .load true 3, [.tmp 13], some (143, false), 0, []⟩,
    ⟨some 146, .callS 15, [.tmp 144, .tmp 145], some (143, false), 0, []⟩,
    ⟨some 147, .not, [.tmp 146], some (143, false), 0, []⟩,
    ⟨some 148, .pick, [.tmp 143, .cst (.bool true), .tmp 147], none, 0, []⟩,
    ⟨some 149, .mov, [.tmp 148], none, 0, []⟩,
    ⟨some 150, .load true 3, [.tmp 5], some (149, false), 0, []⟩,
    ⟨some 151, .load true 3, [.tmp 13], some (149, false), 0, []⟩,
    ⟨some 152, .callS 23, [.tmp 150, .tmp 151], some (149, false), 0, []⟩,
    ⟨some 153, .not, [.tmp 152], some (149, false), 0, []⟩,
    ⟨some 154, .pick, [.tmp 149, .cst (.bool true), .tmp 153], none, 0, []⟩,
    ⟨some 155, .mov, [.tmp 154], none, 0, []⟩,
    ⟨some 156, .load true 3, [.tmp 5], some (155, false), 0, []⟩,
    ⟨some 157, .load true 3, [.tmp 16], some (155, false), 0, []⟩,
    ⟨some 158, .callS 23, [.tmp 156, .tmp 157], some (155, false), 0, []⟩,
    ⟨some 159, .not, [.tmp 158], some (155, false), 0, []⟩,
    ⟨some 160, .pick, [.tmp 155, .cst (.bool true), .tmp 159], none, 0, []⟩,
    ⟨some 161, .mov, [.tmp 160], none, 0, []⟩,
    ⟨some 162, .fieldAddr 1 1, [.tmp 16], some (161, false), 0, []⟩,
    ⟨some 163, .load false 1, [.tmp 162], some (161, false), 0, []⟩,
    ⟨some 164, .fieldAddr 1 1, [.tmp 13], some (161, false), 0, []⟩,
    ⟨some 165, .load false 1, [.tmp 164], some (161, false), 0, []⟩,
    ⟨some 166, .callS 24, [.tmp 163, .tmp 165], some (161, false), 0, []⟩,
    ⟨some 167, .not, [.tmp 166], some (161, false), 0, []⟩,
    ⟨some 168, .pick, [.tmp 161, .cst (.bool true), .tmp 167], none, 0, []⟩]) (.cond (.tmp 168) (.seq (.region false 0 [
     ⟨some 10, .mov, [.cst (.bool false)], none, 0, []⟩]) (.ret)) (.skip))) (.seq (.seq (.region false 0 [
    ⟨some 169, .fieldAddr 0 0, [.tmp 5], none, 0, []⟩,
    ⟨some 170, .load false 1, [.tmp 169], none, 0, []⟩,
    ⟨some 171, .len, [.tmp 170], none, 0, []⟩,
    ⟨some 172, .mov, [.cst (.int .i64 0)], none, 0, []⟩]) (.block 0 (.loop ir10_v0 ir10_b0))) (.seq (.region false 0 [
    ⟨some 10, .mov, [.cst (.bool true)], none, 0, []⟩]) (.ret))))))))))))))) }
theorem ir10_tok {R : Type} {summ : Nat → Option Summ} {fu : Nat} {call : Nat → List CV → List Blk → (CV → List Blk → Option R) → Option R} {o0 : St → (Ex → St → Option R) → Option R} (h0 : ∀ T k r, o0 T k = some r → evLoopN (evCode summ fu call ir10_b0) (St.norm ir10_v0) fu T k = some r) : LTok summ fu call (ir10_t o0) ir10.body := ⟨trivial, ⟨trivial, ⟨trivial, ⟨trivial, ⟨trivial, ⟨trivial, ⟨trivial, ⟨trivial, ⟨trivial, ⟨trivial, ⟨trivial, ⟨trivial, ⟨⟨trivial, h0⟩, trivial⟩⟩⟩⟩⟩⟩⟩⟩⟩⟩⟩⟩⟩


def ir11 : IFn :=
  { ntmps := 52, results := [.inl 0], body := (.seq (.region false 0 [
    ⟨some 0, .mov, [.cst (.bool false)], none, 0, []⟩]) (.seq (.region false 2 [
    ⟨some 12, .callS 13, [.cst (.int .i64 1), .cst (.int .i64 10)], none, 0, []⟩,
    ⟨some 11, .mov, [.tmp 12], none, 0, []⟩,
    ⟨some 13, .extract 0, [.tmp 11], none, 0, []⟩,
    ⟨some 14, .extract 1, [.tmp 11], none, 0, []⟩,
    ⟨some 1, .alloc 25 (.pair (.nil 34 (.int .u32)) (.pair (.nil 3 (.int .i64)) (.pure (.pair (.int .i64) .unit) (0, ())))), [], none, 0, []⟩,
    ⟨none, .store 3, [.tmp 1, .tmp 13], none, 0, []⟩,
    ⟨some 2, .mov, [.tmp 14], none, 0, []⟩]) (.seq (.region true 4 [
    ⟨some 16, .load true 3, [.tmp 1], none, 0, []⟩,
    ⟨some 17, .callS 18, [], none, 0, []⟩,
    ⟨some 18, .callS 19, [.tmp 16, .cst (.int .i64 3), .cst (.int .u32 255), .tmp 17], none, 1, [0, 1]⟩,
    ⟨some 15, .mov, [.tmp 18], none, 2, [2, 0, 1]⟩,
    ⟨some 19, .extract 0, [.tmp 15], none, 2, [3, 2, 0, 1]⟩,
    ⟨some 20, .extract 1, [.tmp 15], none, 2, [3, 2, 0, 1]⟩,
    ⟨some 21, .extract 2, [.tmp 15], none, 2, [3, 2, 0, 1]⟩,
    ⟨some 3, .alloc 25 (.pair (.nil 34 (.int .u32)) (.pair (.nil 3 (.int .i64)) (.pure (.pair (.int .i64) .unit) (0, ())))), [], none, 2, []⟩,
    ⟨some 4, .alloc 36 (.pure (.pair (.int .i64) (.pair (.int .u32) .unit)) (0, (0, ()))), [], none, 3, []⟩,
    ⟨none, .store 3, [.tmp 3, .tmp 19], none, 4, [7, 4, 3, 2, 0, 1, 8]⟩,
    ⟨none, .store 2, [.tmp 4, .tmp 20], none, 4, [8, 5, 3, 2, 0, 1, 9, 7, 4]⟩,
    ⟨some 5, .mov, [.tmp 21], none, 4, [6, 3, 2, 0, 1, 10, 8, 5, 9, 7, 4]⟩]) (.seq (.region false 3 [
    ⟨some 23, .load true 3, [.tmp 3], none, 0, []⟩,
    ⟨some 24, .build [((.int .i64 0), 1), ((.int .u32 0), 1)] [0, 1], [.cst (.int .i64 1), .cst (.int .u32 240)], none, 0, []⟩,
    ⟨some 25, .callS 19, [.tmp 23, .cst (.int .i64 3), .cst (.int .u32 15), .tmp 24], none, 0, []⟩,
    ⟨some 22, .mov, [.tmp 25], none, 0, []⟩,
    ⟨some 26, .extract 0, [.tmp 22], none, 0, []⟩,
    ⟨some 27, .extract 1, [.tmp 22], none, 0, []⟩,
    ⟨some 28, .extract 2, [.tmp 22], none, 0, []⟩,
    ⟨some 6, .alloc 25 (.pair (.nil 34 (.int .u32)) (.pair (.nil 3 (.int .i64)) (.pure (.pair (.int .i64) .unit) (0, ())))), [], none, 0, []⟩,
    ⟨some 7, .alloc 36 (.pure (.pair (.int .i64) (.pair (.int .u32) .unit)) (0, (0, ()))), [], none, 0, []⟩,
    ⟨none, .store 3, [.tmp 6, .tmp 26], none, 0, []⟩,
    ⟨none, .store 2, [.tmp 7, .tmp 27], none, 0, []⟩,
    ⟨some 8, .mov, [.tmp 28], none, 0, []⟩]) (.seq (.region false 1 [
    ⟨some 30, .load true 3, [.tmp 6], none, 0, []⟩,
    ⟨some 31, .callS 25, [.tmp 30, .cst (.int .i64 3)], none, 0, []⟩,
    ⟨some 29, .mov, [.tmp 31], none, 0, []⟩,
    ⟨some 32, .extract 0, [.tmp 29], none, 0, []⟩,
    ⟨some 33, .extract 1, [.tmp 29], none, 0, []⟩,
    ⟨some 9, .mov, [.tmp 32], none, 0, []⟩,
    ⟨some 10, .mov, [.tmp 33], none, 0, []⟩]) (.seq (.region false 0 [
    ⟨some 34, .mov, [.tmp 2], none, 0, []⟩,
    ⟨some 35, .bin .eql, [.tmp 34, .cst (.int .i64 0)], none, 0, []⟩,
    ⟨some 36, .mov, [.tmp 35], none, 0, []⟩,
    ⟨some 37, .mov, [.tmp 5], some (36, true), 0, []⟩,
    ⟨some 38, .bin .eql, [.tmp 37, .cst (.int .i64 0)], some (36, true), 0, []⟩,
    ⟨some 39, .pick, [.tmp 36, .tmp 38, .cst (.bool false)], none, 0, []⟩,
    ⟨some 40, .mov, [.tmp 39], none, 0, []⟩,
    ⟨some 41, .mov, [.tmp 8], some (40, true), 0, []⟩,
    ⟨some 42, .bin .eql, [.tmp 41, .cst (.int .i64 18)], some (40, true), 0, []⟩,
    ⟨some 43, .pick, [.tmp 40, .tmp 42, .cst (.bool false)], none, 0, []⟩,
    ⟨some 44, .mov, [.tmp 43], none, 0, []⟩,
    ⟨some 45, .mov, [.tmp 9], some (44, true), 0, []⟩,
    ⟨some 46, .bin .eql, [.tmp 45, .cst (.int .u32 15)], some (44, true), 0, []⟩,
    ⟨some 47, .pick, [.tmp 44, .tmp 46, .cst (.bool false)], none, 0, []⟩,
    ⟨some 48, .mov, [.tmp 47], none, 0, []⟩,
    ⟨some 49, .mov, [.tmp 10], some (48, true), 0, []⟩,
    ⟨some 50, .bin .eql, [.tmp 49, .cst (.int .i64 0)], some (48, true), 0, []⟩,
    ⟨some 51, .pick, [.tmp 48, .tmp 50, .cst (.bool false)], none, 0, []⟩,
    ⟨some 0, .mov, [.tmp 51], none, 0, []⟩]) (.ret))))))) }


def ir12 : IFn :=
  { ntmps := 13, results := [.inl 2], body := (.seq (.region false 1 [
    ⟨some 1, .box 25, [.tmp 0], none, 0, []⟩,
    ⟨some 2, .mov, [.cst (.bool false)], none, 0, []⟩]) (.seq (.region false 0 [
    ⟨some 3, .fieldAddr 1 1, [.tmp 1], none, 0, []⟩,
    ⟨some 4, .load false 1, [.tmp 3], none, 0, []⟩,
    ⟨some 5, .len, [.tmp 4], none, 0, []⟩,
    ⟨some 6, .bin .leq, [.tmp 5, .cst (.int .i64 70)], none, 0, []⟩,
    ⟨some 7, .mov, [.tmp 6], none, 0, []⟩,
    ⟨some 8, .fieldAddr 0 0, [.tmp 1], some (7, true), 0, []⟩,
    ⟨some 9, .load false 1, [.tmp 8], some (7, true), 0, []⟩,
    ⟨some 10, .len, [.tmp 9], some (7, true), 0, []⟩,
    ⟨some 11, .bin .leq, [.tmp 10, .cst (.int .i64 4480)], some (7, true), 0, []⟩,
    ⟨some 12, .pick, [.tmp 7, .tmp 11, .cst (.bool false)], none, 0, []⟩,
    ⟨some 2, .mov, [.tmp 12], none, 0, []⟩]) (.ret))) }


def ir13 : IFn :=
  { ntmps := 29, results := [.inr (4, true, 3), .inl 5], body := (.seq (.region false 1 [
    ⟨some 4, .alloc 25 (.pair (.nil 34 (.int .u32)) (.pair (.nil 3 (.int .i64)) (.pure (.pair (.int .i64) .unit) (0, ())))), [], none, 0, []⟩,
    ⟨some 5, .mov, [.cst (.int .i64 0)], none, 0, []⟩]) (.seq (.seq (.region false 0 [
    ⟨some 6, .mov, [.tmp 0], none, 0, []⟩,
    ⟨some 7, .bin .lss, [.tmp 6, .cst (.int .i64 1)], none, 0, []⟩,
    ⟨some 8, .mov, [.tmp 7], none, 0, []⟩,
    ⟨some 9, .mov, [.tmp 0], some (8, false), 0, []⟩,
    ⟨some 10, .bin .gtr, [.tmp 9, .cst (.int .i64 64)], some (8, false), 0, []⟩,
    ⟨some 11, .pick, [.tmp 8, .cst (.bool true), .tmp 10], none, 0, []⟩,
    ⟨some 12, .mov, [.tmp 11], none, 0, []⟩,
    ⟨some 13, .mov, [.tmp 1], some (12, false), 0, []⟩,
    ⟨some 14, .bin .lss, [.tmp 13, .cst (.int .i64 1)], some (12, false), 0, []⟩,
    ⟨some 15, .pick, [.tmp 12, .cst (.bool true), .tmp 14], none, 0, []⟩,
    ⟨some 16, .mov, [.tmp 15], none, 0, []⟩,
    ⟨some 17, .mov, [.tmp 1], some (16, false), 0, []⟩,
    ⟨some 18, .bin .gtr, [.tmp 17, .cst (.int .i64 1000000)], some (16, false), 0, []⟩,
    ⟨some 19, .pick, [.tmp 16, .cst (.bool true), .tmp 18], none, 0, []⟩]) (.cond (.tmp 19) (.seq (.region false 0 [
     ⟨some 20, .build [((.nil 34 (.int .u32)), 1), ((.nil 3 (.int .i64)), 1), ((.int .i64 0), 1)] [], [], none, 0, []⟩,
     ⟨none, .store 3, [.tmp 4, .tmp 20], none, 0, []⟩,
     ⟨some 5, .mov, [.cst (.int .i64 2)], none, 0, []⟩]) (.ret)) (.skip))) (.seq (.region true 3 [
    ⟨some 21, .buildSl 34 (.int .u32) 1, [.cst (.int .u32 4294967295)], none, 0, []⟩,
    ⟨some 22, .mov, [.tmp 0], none, 1, []⟩,
    ⟨some 23, .bin .mul, [.tmp 22, .cst (.int .i64 64)], none, 1, [1]⟩,
    ⟨some 24, .callS 32, [.tmp 21, .tmp 23], none, 1, [0, 2, 1]⟩,
    ⟨some 25, .mov, [.tmp 0], none, 2, []⟩,
    ⟨some 26, .mkSlice 3 (.int .i64) 8, [.tmp 25, .tmp 25], none, 2, [4]⟩,
    ⟨some 27, .mov, [.tmp 1], none, 3, []⟩,
    ⟨some 28, .build [((.nil 34 (.int .u32)), 1), ((.nil 3 (.int .i64)), 1), ((.int .i64 0), 1)] [0, 1, 2], [.tmp 24, .tmp 26, .tmp 27], none, 3, [3, 0, 2, 1, 5, 4, 6]⟩,
    ⟨none, .store 3, [.tmp 4, .tmp 28], none, 3, [7, 3, 0, 2, 1, 5, 4, 6]⟩,
    ⟨some 5, .mov, [.cst (.int .i64 0)], none, 3, [8, 7, 3, 0, 2, 1, 5, 4, 6]⟩]) (.ret)))) }


def ir14_b1 : IC := (.seq (.seq (.region false 0 [
         ⟨some 33, .mov, [.tmp 8], none, 0, []⟩,
         ⟨some 34, .bin .lss, [.tmp 33, .cst (.int .i64 64)], none, 0, []⟩]) (.cond (.tmp 34) (.skip) (.exit 2))) (.seq (.block 3 (.region false 2 [
          ⟨some 37, .fieldAddr 0 0, [.tmp 6], none, 0, []⟩,
          ⟨some 38, .load false 1, [.tmp 37], none, 0, []⟩,
          ⟨some 39, .buildSl 34 (.int .u32) 1, [.cst (.int .u32 4294967295)], none, 0, []⟩,
          ⟨some 40, .append 34 (.int .u32) 4, [.tmp 38, .tmp 39], none, 0, []⟩,
          ⟨some 41, .fieldAddr 0 0, [.tmp 6], none, 0, []⟩,
          ⟨none, .store 1, [.tmp 41, .tmp 40], none, 0, []⟩])) (.region false 0 [
         ⟨some 35, .mov, [.tmp 8], none, 0, []⟩,
         ⟨some 36, .bin .add, [.tmp 35, .cst (.int .i64 1)], none, 0, []⟩,
         ⟨some 8, .mov, [.tmp 36], none, 0, []⟩])))
def ir14_v1 : List Nat := [0, 4, 6, 7, 8]
def ir14_b0 : IC := (.seq (.seq (.region false 0 [
      ⟨some 23, .mov, [.tmp 7], none, 0, []⟩,
      ⟨some 24, .mov, [.tmp 0], none, 0, []⟩,
      ⟨some 25, .bin .lss, [.tmp 23, .tmp 24], none, 0, []⟩]) (.cond (.tmp 25) (.skip) (.exit 0))) (.seq (.block 1 (.seq (.region false 2 [
       ⟨some 28, .fieldAddr 1 1, [.tmp 6], none, 0, []⟩,
       ⟨some 29, .load false 1, [.tmp 28], none, 0, []⟩,
       ⟨some 30, .buildSl 3 (.int .i64) 1, [.cst (.int .i64 0)], none, 0, []⟩,
       ⟨some 31, .append 3 (.int .i64) 8, [.tmp 29, .tmp 30], none, 0, []⟩,
       ⟨some 32, .fieldAddr 1 1, [.tmp 6], none, 0, []⟩,
       ⟨none, .store 1, [.tmp 32, .tmp 31], none, 0, []⟩]) (.seq (.region false 0 [
       ⟨some 8, .mov, [.cst (.int .i64 0)], none, 0, []⟩]) (.block 2 (.loop ir14_v1 ir14_b1))))) (.region false 0 [
      ⟨some 26, .mov, [.tmp 7], none, 0, []⟩,
      ⟨some 27, .bin .add, [.tmp 26, .cst (.int .i64 1)], none, 0, []⟩,
      ⟨some 7, .mov, [.tmp 27], none, 0, []⟩])))
def ir14_v0 : List Nat := [0, 4, 6, 7]
def ir14_bt0 {R : Type} (o1 : St → (Ex → St → Option R) → Option R) : LT R := (.node .nil (.node (.node (.node .nil (.node .nil (.node (.orc o1) .nil))) .nil) .nil))
def ir14_t {R : Type} (o0 : St → (Ex → St → Option R) → Option R) : LT R := (.node .nil (.node .nil (.node .nil (.node (.node .nil (.node (.orc o0) .nil)) .nil))))
def ir14 : IFn :=
  { ntmps := 43, results := [.inr (4, true, 3), .inl 5], body := (.seq (.region false 1 [
    ⟨some 4, .alloc 25 (.pair (.nil 34 (.int .u32)) (.pair (.nil 3 (.int .i64)) (.pure (.pair (.int .i64) .unit) (0, ())))), [], none, 0, []⟩,
    ⟨some 5, .mov, [.cst (.int .i64 0)], none, 0, []⟩]) (.seq (.seq (.region false 0 [
    ⟨some 9, .mov, [.tmp 0], none, 0, []⟩,
    ⟨some 10, .bin .lss, [.tmp 9, .cst (.int .i64 1)], none, 0, []⟩,
    ⟨some 11, .mov, [.tmp 10], none, 0, []⟩,
    ⟨some 12, .mov, [.tmp 0], some (11, false), 0, []⟩,
    ⟨some 13, .bin .gtr, [.tmp 12, .cst (.int .i64 64)], some (11, false), 0, []⟩,
    ⟨some 14, .pick, [.tmp 11, .cst (.bool true), .tmp 13], none, 0, []⟩,
    ⟨some 15, .mov, [.tmp 14], none, 0, []⟩,
    ⟨some 16, .mov, [.tmp 1], some (15, false), 0, []⟩,
    ⟨some 17, .call 33, [.tmp 16], some (15, false), 0, []⟩,
    ⟨some 18, .not, [.tmp 17], some (15, false), 0, []⟩,
    ⟨some 19, .pick, [.tmp 15, .cst (.bool true), .tmp 18], none, 0, []⟩]) (.cond (.tmp 19) (.seq (.region false 0 [
     ⟨some 20, .build [((.nil 34 (.int .u32)), 1), ((.nil 3 (.int .i64)), 1), ((.int .i64 0), 1)] [], [], none, 0, []⟩,
     ⟨none, .store 3, [.tmp 4, .tmp 20], none, 0, []⟩,
     ⟨some 5, .mov, [.cst (.int .i64 2)], none, 0, []⟩]) (.ret)) (.skip))) (.seq (.region false 1 [
    ⟨some 21, .mov, [.tmp 1], none, 0, []⟩,
    ⟨some 22, .build [((.nil 34 (.int .u32)), 1), ((.nil 3 (.int .i64)), 1), ((.int .i64 0), 1)] [2], [.tmp 21], none, 0, []⟩,
    ⟨some 6, .alloc 25 (.pair (.nil 34 (.int .u32)) (.pair (.nil 3 (.int .i64)) (.pure (.pair (.int .i64) .unit) (0, ())))), [], none, 0, []⟩,
    ⟨none, .store 3, [.tmp 6, .tmp 22], none, 0, []⟩]) (.seq (.seq (.region false 0 [
    ⟨some 7, .mov, [.cst (.int .i64 0)], none, 0, []⟩]) (.block 0 (.loop ir14_v0 ir14_b0))) (.seq (.region false 0 [
    ⟨some 42, .load true 3, [.tmp 6], none, 0, []⟩,
    ⟨none, .store 3, [.tmp 4, .tmp 42], none, 0, []⟩,
    ⟨some 5, .mov, [.cst (.int .i64 0)], none, 0, []⟩]) (.ret)))))) }
theorem ir14_bt0ok {R : Type} {summ : Nat → Option Summ} {fu : Nat} {call : Nat → List CV → List Blk → (CV → List Blk → Option R) → Option R} {o1 : St → (Ex → St → Option R) → Option R} (h1 : ∀ T k r, o1 T k = some r → evLoopN (evCode summ fu call ir14_b1) (St.norm ir14_v1) fu T k = some r) : LTok summ fu call (ir14_bt0 o1) ir14_b0 := ⟨trivial, ⟨⟨trivial, ⟨trivial, h1⟩⟩, trivial⟩⟩
theorem ir14_tok {R : Type} {summ : Nat → Option Summ} {fu : Nat} {call : Nat → List CV → List Blk → (CV → List Blk → Option R) → Option R} {o0 : St → (Ex → St → Option R) → Option R} (h0 : ∀ T k r, o0 T k = some r → evLoopN (evCode summ fu call ir14_b0) (St.norm ir14_v0) fu T k = some r) : LTok summ fu call (ir14_t o0) ir14.body := ⟨trivial, ⟨trivial, ⟨trivial, ⟨⟨trivial, h0⟩, trivial⟩⟩⟩⟩


def ir15_b0 : IC := (.seq (.seq (.region false 0 [
      ⟨some 30, .mov, [.tmp 5], none, 0, []⟩,
      ⟨some 31, .fieldAddr 0 0, [.tmp 2], none, 0, []⟩,
      ⟨some 32, .load false 1, [.tmp 31], none, 0, []⟩,
      ⟨some 33, .len, [.tmp 32], none, 0, []⟩,
      ⟨some 34, .bin .lss, [.tmp 30, .tmp 33], none, 0, []⟩]) (.cond (.tmp 34) (.skip) (.exit 0))) (.seq (.block 1 (.seq (.region true 0 [
       ⟨some 37, .fieldAddr 0 0, [.tmp 2], none, 0, []⟩,
       ⟨some 38, .load false 1, [.tmp 37], none, 0, [0]⟩,
       ⟨some 39, .mov, [.tmp 5], none, 0, []⟩,
       ⟨some 40, .idxSl 1, [.tmp 38, .tmp 39], none, 0, [1, 0, 2]⟩,
       ⟨some 41, .load false 1, [.tmp 40], none, 0, [3, 1, 0, 2]⟩,
       ⟨some 42, .fieldAddr 0 0, [.tmp 3], none, 0, []⟩,
       ⟨some 43, .load false 1, [.tmp 42], none, 0, [5]⟩,
       ⟨some 44, .mov, [.tmp 5], none, 0, []⟩,
       ⟨some 45, .idxSl 1, [.tmp 43, .tmp 44], none, 0, [6, 5, 7]⟩,
       ⟨some 46, .load false 1, [.tmp 45], none, 0, [8, 6, 5, 7]⟩,
       ⟨some 47, .bin .neq, [.tmp 41, .tmp 46], none, 0, [4, 3, 1, 0, 2, 9, 8, 6, 5, 7]⟩]) (.cond (.tmp 47) (.seq (.region false 0 [
        ⟨some 4, .mov, [.cst (.bool false)], none, 0, []⟩]) (.ret)) (.skip)))) (.region false 0 [
      ⟨some 35, .mov, [.tmp 5], none, 0, []⟩,
      ⟨some 36, .bin .add, [.tmp 35, .cst (.int .i64 1)], none, 0, []⟩,
      ⟨some 5, .mov, [.tmp 36], none, 0, []⟩])))
def ir15_v0 : List Nat := [2, 3, 5]
def ir15_b1 : IC := (.seq (.seq (.region false 0 [
      ⟨some 48, .mov, [.tmp 6], none, 0, []⟩,
      ⟨some 49, .fieldAddr 1 1, [.tmp 2], none, 0, []⟩,
      ⟨some 50, .load false 1, [.tmp 49], none, 0, []⟩,
      ⟨some 51, .len, [.tmp 50], none, 0, []⟩,
      ⟨some 52, .bin .lss, [.tmp 48, .tmp 51], none, 0, []⟩]) (.cond (.tmp 52) (.skip) (.exit 2))) (.seq (.block 3 (.seq (.region true 0 [
       ⟨some 55, .fieldAddr 1 1, [.tmp 2], none, 0, []⟩,
       ⟨some 56, .load false 1, [.tmp 55], none, 0, [0]⟩,
       ⟨some 57, .mov, [.tmp 6], none, 0, []⟩,
       ⟨some 58, .idxSl 1, [.tmp 56, .tmp 57], none, 0, [1, 0, 2]⟩,
       ⟨some 59, .load false 1, [.tmp 58], none, 0, [3, 1, 0, 2]⟩,
       ⟨some 60, .fieldAddr 1 1, [.tmp 3], none, 0, []⟩,
       ⟨some 61, .load false 1, [.tmp 60], none, 0, [5]⟩,
       ⟨some 62, .mov, [.tmp 6], none, 0, []⟩,
       ⟨some 63, .idxSl 1, [.tmp 61, .tmp 62], none, 0, [6, 5, 7]⟩,
       ⟨some 64, .load false 1, [.tmp 63], none, 0, [8, 6, 5, 7]⟩,
       ⟨some 65, .bin .neq, [.tmp 59, .tmp 64], none, 0, [4, 3, 1, 0, 2, 9, 8, 6, 5, 7]⟩]) (.cond (.tmp 65) (.seq (.region false 0 [
        ⟨some 4, .mov, [.cst (.bool false)], none, 0, []⟩]) (.ret)) (.skip)))) (.region false 0 [
      ⟨some 53, .mov, [.tmp 6], none, 0, []⟩,
      ⟨some 54, .bin .add, [.tmp 53, .cst (.int .i64 1)], none, 0, []⟩,
      ⟨some 6, .mov, [.tmp 54], none, 0, []⟩])))
def ir15_v1 : List Nat := [2, 3, 6]
def ir15_t {R : Type} (o0 o1 : St → (Ex → St → Option R) → Option R) : LT R := (.node .nil (.node .nil (.node (.node .nil (.node (.orc o0) .nil)) (.node (.node .nil (.node (.orc o1) .nil)) .nil))))
def ir15 : IFn :=
  { ntmps := 66, results := [.inl 4], body := (.seq (.region false 2 [
    ⟨some 2, .box 25, [.tmp 0], none, 0, []⟩,
    ⟨some 3, .box 25, [.tmp 1], none, 0, []⟩,
    ⟨some 4, .mov, [.cst (.bool false)], none, 0, []⟩]) (.seq (.seq (.region false 0 [
    ⟨some 7, .fieldAddr 2 2, [.tmp 2], none, 0, []⟩,
    ⟨some 8, .load false 1, [.tmp 7], none, 0, []⟩,
    ⟨some 9, .fieldAddr 2 2, [.tmp 3], none, 0, []⟩,
    ⟨some 10, .load false 1, [.tmp 9], none, 0, []⟩,
    ⟨some 11, .bin .neq, [.tmp 8, .tmp 10], none, 0, []⟩,
    ⟨some 12, .mov, [.tmp 11], none, 0, []⟩,
    ⟨some 13, .fieldAddr 0 0, [.tmp 2], some (12, false), 0, []⟩,
    ⟨some 14, .load false 1, [.tmp 13], some (12, false), 0, []⟩,
    ⟨some 15, .len, [.tmp 14], some (12, false), 0, []⟩,
    ⟨some 16, .fieldAddr 0 0, [.tmp 3], some (12, false), 0, []⟩,
    ⟨some 17, .load false 1, [.tmp 16], some (12, false), 0, []⟩,
    ⟨some 18, .len, [.tmp 17], some (12, false), 0, []⟩,
    ⟨some 19, .bin .neq, [.tmp 15, .tmp 18], some (12, false), 0, []⟩,
    ⟨some 20, .pick, [.tmp 12, .cst (.bool true), .tmp 19], none, 0, []⟩,
    ⟨some 21, .mov, [.tmp 20], none, 0, []⟩,
    ⟨some 22, .fieldAddr 1 1, [.tmp 2], some (21, false), 0, []⟩,
    ⟨some 23, .load false 1, [.tmp 22], some (21, false), 0, []⟩,
    ⟨some 24, .len, [.tmp 23], some (21, false), 0, []⟩,
    ⟨some 25, .fieldAddr 1 1, [.tmp 3], some (21, false), 0, []⟩,
    ⟨some 26, .load false 1, [.tmp 25], some (21, false), 0, []⟩,
    ⟨some 27, .len, [.tmp 26], some (21, false), 0, []⟩,
    ⟨some 28, .bin .neq, [.tmp 24, .tmp 27], some (21, false), 0, []⟩,
    ⟨some 29, .pick, [.tmp 21, .cst (.bool true), .tmp 28], none, 0, []⟩]) (.cond (.tmp 29) (.seq (.region false 0 [
     ⟨some 4, .mov, [.cst (.bool false)], none, 0, []⟩]) (.ret)) (.skip))) (.seq (.seq (.region false 0 [
    ⟨some 5, .mov, [.cst (.int .i64 0)], none, 0, []⟩]) (.block 0 (.loop ir15_v0 ir15_b0))) (.seq (.seq (.region false 0 [
    ⟨some 6, .mov, [.cst (.int .i64 0)], none, 0, []⟩]) (.block 2 (.loop ir15_v1 ir15_b1))) (.seq (.region false 0 [
    ⟨some 4, .mov, [.cst (.bool true)], none, 0, []⟩]) (.ret)))))) }
theorem ir15_tok {R : Type} {summ : Nat → Option Summ} {fu : Nat} {call : Nat → List CV → List Blk → (CV → List Blk → Option R) → Option R} {o0 o1 : St → (Ex → St → Option R) → Option R} (h0 : ∀ T k r, o0 T k = some r → evLoopN (evCode summ fu call ir15_b0) (St.norm ir15_v0) fu T k = some r) (h1 : ∀ T k r, o1 T k = some r → evLoopN (evCode summ fu call ir15_b1) (St.norm ir15_v1) fu T k = some r) : LTok summ fu call (ir15_t o0 o1) ir15.body := ⟨trivial, ⟨trivial, ⟨⟨trivial, h0⟩, ⟨⟨trivial, h1⟩, trivial⟩⟩⟩⟩


def ir16 : IFn :=
  { ntmps := 36, results := [.inl 2], body := (.seq (.region false 1 [
    ⟨some 1, .box 25, [.tmp 0], none, 0, []⟩,
    ⟨some 2, .mov, [.cst (.bool false)], none, 0, []⟩]) (.seq (.region false 0 [
    ⟨some 4, .fieldAddr 1 1, [.tmp 1], none, 0, []⟩,
    ⟨some 5, .load false 1, [.tmp 4], none, 0, []⟩,
    ⟨some 6, .len, [.tmp 5], none, 0, []⟩,
    ⟨some 3, .mov, [.tmp 6], none, 0, []⟩]) (.seq (.seq (.region false 0 [
    ⟨some 7, .mov, [.tmp 3], none, 0, []⟩,
    ⟨some 8, .bin .lss, [.tmp 7, .cst (.int .i64 1)], none, 0, []⟩,
    ⟨some 9, .mov, [.tmp 8], none, 0, []⟩,
    ⟨some 10, .mov, [.tmp 3], some (9, false), 0, []⟩,
    ⟨some 11, .bin .gtr, [.tmp 10, .cst (.int .i64 64)], some (9, false), 0, []⟩,
    ⟨some 12, .pick, [.tmp 9, .cst (.bool true), .tmp 11], none, 0, []⟩,
    ⟨some 13, .mov, [.tmp 12], none, 0, []⟩,
    ⟨some 14, .fieldAddr 0 0, [.tmp 1], some (13, false), 0, []⟩,
    ⟨some 15, .load false 1, [.tmp 14], some (13, false), 0, []⟩,
    ⟨some 16, .len, [.tmp 15], some (13, false), 0, []⟩,
    ⟨some 17, .mov, [.tmp 3], some (13, false), 0, []⟩,
    ⟨some 18, .bin .mul, [.tmp 17, .cst (.int .i64 64)], some (13, false), 0, []⟩,
    ⟨some 19, .bin .neq, [.tmp 16, .tmp 18], some (13, false), 0, []⟩,
    ⟨some 20, .pick, [.tmp 13, .cst (.bool true), .tmp 19], none, 0, []⟩,
    ⟨some 21, .mov, [.tmp 20], none, 0, []⟩,
    ⟨some 22, .fieldAddr 2 2, [.tmp 1], some (21, false), 0, []⟩,
    ⟨some 23, .load false 1, [.tmp 22], some (21, false), 0, []⟩,
    ⟨some 24, .bin .lss, [.tmp 23, .cst (.int .i64 1)], some (21, false), 0, []⟩,
    ⟨some 25, .pick, [.tmp 21, .cst (.bool true), .tmp 24], none, 0, []⟩,
    ⟨some 26, .mov, [.tmp 25], none, 0, []⟩,
    ⟨some 27, .fieldAddr 2 2, [.tmp 1], some (26, false), 0, []⟩,
    ⟨some 28, .load false 1, [.tmp 27], some (26, false), 0, []⟩,
    ⟨some 29, .bin .gtr, [.tmp 28, .cst (.int .i64 1000000)], some (26, false), 0, []⟩,
    ⟨some 30, .pick, [.tmp 26, .cst (.bool true), .tmp 29], none, 0, []⟩]) (.cond (.tmp 30) (.seq (.region false 0 [
     ⟨some 2, .mov, [.cst (.bool false)], none, 0, []⟩]) (.ret)) (.skip))) (.seq (.region false 0 [
    ⟨some 31, .fieldAddr 1 1, [.tmp 1], none, 0, []⟩,
    ⟨some 32, .load false 1, [.tmp 31], none, 0, []⟩,
    ⟨some 33, .mkFunc 35, [.tmp 1], none, 0, []⟩,
    ⟨some 34, .call 34, [.tmp 32, .tmp 33], none, 0, []⟩,
    ⟨some 35, .not, [.tmp 34], none, 0, []⟩,
    ⟨some 2, .mov, [.tmp 35], none, 0, []⟩]) (.ret))))) }


def ir17_b0 : IC := (.seq (.seq (.region false 0 [
      ⟨some 28, .mov, [.tmp 4], none, 0, []⟩,
      ⟨some 29, .mov, [.tmp 3], none, 0, []⟩,
      ⟨some 30, .bin .lss, [.tmp 28, .tmp 29], none, 0, []⟩]) (.cond (.tmp 30) (.skip) (.exit 0))) (.seq (.block 1 (.seq (.region true 0 [
       ⟨some 33, .fieldAddr 1 1, [.tmp 1], none, 0, []⟩,
       ⟨some 34, .load false 1, [.tmp 33], none, 0, [0]⟩,
       ⟨some 35, .mov, [.tmp 4], none, 0, []⟩,
       ⟨some 36, .idxSl 1, [.tmp 34, .tmp 35], none, 0, [1, 0, 2]⟩,
       ⟨some 37, .load false 1, [.tmp 36], none, 0, [3, 1, 0, 2]⟩,
       ⟨some 38, .bin .lss, [.tmp 37, .cst (.int .i64 0)], none, 0, [4, 3, 1, 0, 2]⟩,
       ⟨some 39, .mov, [.tmp 38], none, 0, [5, 4, 3, 1, 0, 2]⟩,
       ⟨some 40, .fieldAddr 1 1, [.tmp 1], some (39, false), 0, [6, 5, 4, 3, 1, 0, 2]⟩,
       ⟨some 41, .load false 1, [.tmp 40], some (39, false), 0, [7, 6, 5, 4, 3, 1, 0, 2]⟩,
       ⟨some 42, .mov, [.tmp 4], some (39, false), 0, [6, 5, 4, 3, 1, 0, 2]⟩,
       ⟨some 43, .idxSl 1, [.tmp 41, .tmp 42], some (39, false), 0, [8, 7, 6, 5, 4, 3, 1, 0, 2, 9]⟩,
       ⟨some 44, .load false 1, [.tmp 43], some (39, false), 0, [10, 8, 7, 6, 5, 4, 3, 1, 0, 2, 9]⟩,
       ⟨some 45, .fieldAddr 2 2, [.tmp 1], some (39, false), 0, [6, 5, 4, 3, 1, 0, 2]⟩,
       ⟨some 46, .load false 1, [.tmp 45], some (39, false), 0, [12, 6, 5, 4, 3, 1, 0, 2]⟩,
       ⟨some 47, .bin .gtr, [.tmp 44, .tmp 46], some (39, false), 0, [11, 10, 8, 7, 6, 5, 4, 3, 1, 0, 2, 9, 13, 12]⟩,
       ⟨some 48, .pick, [.tmp 39, .cst (.bool true), .tmp 47], none, 0, [6, 5, 4, 3, 1, 0, 2, 14, 11, 10, 8, 7, 9, 13, 12]⟩]) (.cond (.tmp 48) (.seq (.region false 0 [
        ⟨some 2, .mov, [.cst (.bool false)], none, 0, []⟩]) (.ret)) (.skip)))) (.region false 0 [
      ⟨some 31, .mov, [.tmp 4], none, 0, []⟩,
      ⟨some 32, .bin .add, [.tmp 31, .cst (.int .i64 1)], none, 0, []⟩,
      ⟨some 4, .mov, [.tmp 32], none, 0, []⟩])))
def ir17_v0 : List Nat := [1, 3, 4]
def ir17_t {R : Type} (o0 : St → (Ex → St → Option R) → Option R) : LT R := (.node .nil (.node .nil (.node .nil (.node (.node .nil (.node (.orc o0) .nil)) .nil))))
def ir17 : IFn :=
  { ntmps := 49, results := [.inl 2], body := (.seq (.region false 1 [
    ⟨some 1, .box 25, [.tmp 0], none, 0, []⟩,
    ⟨some 2, .mov, [.cst (.bool false)], none, 0, []⟩]) (.seq (.region false 0 [
    ⟨some 5, .fieldAddr 1 1, [.tmp 1], none, 0, []⟩,
    ⟨some 6, .load false 1, [.tmp 5], none, 0, []⟩,
    ⟨some 7, .len, [.tmp 6], none, 0, []⟩,
    ⟨some 3, .mov, [.tmp 7], none, 0, []⟩]) (.seq (.seq (.region false 0 [
    ⟨some 8, .mov, [.tmp 3], none, 0, []⟩,
    ⟨some 9, .bin .lss, [.tmp 8, .cst (.int .i64 1)], none, 0, []⟩,
    ⟨some 10, .mov, [.tmp 9], none, 0, []⟩,
    ⟨some 11, .mov, [.tmp 3], some (10, false), 0, []⟩,
    ⟨some 12, .bin .gtr, [.tmp 11, .cst (.int .i64 64)], some (10, false), 0, []⟩,
    ⟨some 13, .pick, [.tmp 10, .cst (.bool true), .tmp 12], none, 0, []⟩,
    ⟨some 14, .mov, [.tmp 13], none, 0, []⟩,
    ⟨some 15, .fieldAddr 0 0, [.tmp 1], some (14, false), 0, []⟩,
    ⟨some 16, .load false 1, [.tmp 15], some (14, false), 0, []⟩,
    ⟨some 17, .len, [.tmp 16], some (14, false), 0, []⟩,
    ⟨some 18, .mov, [.tmp 3], some (14, false), 0, []⟩,
    ⟨some 19, .bin .mul, [.tmp 18, .cst (.int .i64 64)], some (14, false), 0, []⟩,
    ⟨some 20, .bin .neq, [.tmp 17, .tmp 19], some (14, false), 0, []⟩,
    ⟨some 21, .pick, [.tmp 14, .cst (.bool true), .tmp 20], none, 0, []⟩,
    ⟨some 22, .mov, [.tmp 21], none, 0, []⟩,
    ⟨some 23, .fieldAddr 2 2, [.tmp 1], some (22, false), 0, []⟩,
    ⟨some 24, .load false 1, [.tmp 23], some (22, false), 0, []⟩,
    ⟨some 25, .call 33, [.tmp 24], some (22, false), 0, []⟩,
    ⟨some 26, .not, [.tmp 25], some (22, false), 0, []⟩,
    ⟨some 27, .pick, [.tmp 22, .cst (.bool true), .tmp 26], none, 0, []⟩]) (.cond (.tmp 27) (.seq (.region false 0 [
     ⟨some 2, .mov, [.cst (.bool false)], none, 0, []⟩]) (.ret)) (.skip))) (.seq (.seq (.region false 0 [
    ⟨some 4, .mov, [.cst (.int .i64 0)], none, 0, []⟩]) (.block 0 (.loop ir17_v0 ir17_b0))) (.seq (.region false 0 [
    ⟨some 2, .mov, [.cst (.bool true)], none, 0, []⟩]) (.ret)))))) }
theorem ir17_tok {R : Type} {summ : Nat → Option Summ} {fu : Nat} {call : Nat → List CV → List Blk → (CV → List Blk → Option R) → Option R} {o0 : St → (Ex → St → Option R) → Option R} (h0 : ∀ T k r, o0 T k = some r → evLoopN (evCode summ fu call ir17_b0) (St.norm ir17_v0) fu T k = some r) : LTok summ fu call (ir17_t o0) ir17.body := ⟨trivial, ⟨trivial, ⟨trivial, ⟨⟨trivial, h0⟩, trivial⟩⟩⟩⟩


def ir18 : IFn :=
  { ntmps := 2, results := [.inr (0, true, 2)], body := (.seq (.region false 1 [
    ⟨some 0, .alloc 36 (.pure (.pair (.int .i64) (.pair (.int .u32) .unit)) (0, (0, ()))), [], none, 0, []⟩]) (.seq (.region false 0 [
    ⟨some 1, .build [((.int .i64 0), 1), ((.int .u32 0), 1)] [0], [.cst (.int .i64 1099511627776)], none, 0, []⟩,
    ⟨none, .store 2, [.tmp 0, .tmp 1], none, 0, []⟩]) (.ret))) }


def ir19 : IFn :=
  { ntmps := 31, results := [.inr (8, true, 3), .inr (9, true, 2), .inl 10], body := (.seq (.region false 6 [
    ⟨some 4, .box 25, [.tmp 0], none, 0, []⟩,
    ⟨some 5, .box 3, [.tmp 1], none, 0, []⟩,
    ⟨some 6, .box 34, [.tmp 2], none, 0, []⟩,
    ⟨some 7, .box 36, [.tmp 3], none, 0, []⟩,
    ⟨some 8, .alloc 25 (.pair (.nil 34 (.int .u32)) (.pair (.nil 3 (.int .i64)) (.pure (.pair (.int .i64) .unit) (0, ())))), [], none, 0, []⟩,
    ⟨some 9, .alloc 36 (.pure (.pair (.int .i64) (.pair (.int .u32) .unit)) (0, (0, ()))), [], none, 0, []⟩,
    ⟨some 10, .mov, [.cst (.int .i64 0)], none, 0, []⟩]) (.seq (.seq (.region false 0 [
    ⟨some 12, .load true 3, [.tmp 4], none, 0, []⟩,
    ⟨some 13, .load true 2, [.tmp 7], none, 0, []⟩,
    ⟨some 14, .load false 1, [.tmp 5], none, 0, []⟩,
    ⟨some 15, .fieldAddr 0 0, [.tmp 4], none, 0, []⟩,
    ⟨some 16, .load false 1, [.tmp 15], none, 0, []⟩,
    ⟨some 17, .len, [.tmp 16], none, 0, []⟩,
    ⟨some 18, .call 36, [.tmp 12, .tmp 13, .tmp 14, .tmp 17], none, 0, []⟩,
    ⟨some 11, .mov, [.tmp 18], none, 0, []⟩]) (.seq (.region false 0 [
    ⟨some 19, .mov, [.tmp 11], none, 0, []⟩,
    ⟨some 20, .bin .neq, [.tmp 19, .cst (.int .i64 0)], none, 0, []⟩]) (.cond (.tmp 20) (.seq (.region false 0 [
     ⟨some 21, .build [((.nil 34 (.int .u32)), 1), ((.nil 3 (.int .i64)), 1), ((.int .i64 0), 1)] [], [], none, 0, []⟩,
     ⟨some 22, .build [((.int .i64 0), 1), ((.int .u32 0), 1)] [], [], none, 0, []⟩,
     ⟨some 23, .mov, [.tmp 11], none, 0, []⟩,
     ⟨none, .store 3, [.tmp 8, .tmp 21], none, 0, []⟩,
     ⟨none, .store 2, [.tmp 9, .tmp 22], none, 0, []⟩,
     ⟨some 10, .mov, [.tmp 23], none, 0, []⟩]) (.ret)) (.skip)))) (.seq (.region false 0 [
    ⟨some 24, .load true 3, [.tmp 4], none, 0, []⟩,
    ⟨some 25, .load true 2, [.tmp 7], none, 0, []⟩,
    ⟨some 26, .mkFunc 38, [.tmp 5, .tmp 6], none, 0, []⟩,
    ⟨some 27, .call 37, [.tmp 24, .tmp 25, .tmp 26], none, 0, []⟩,
    ⟨some 28, .extract 0, [.tmp 27], none, 0, []⟩,
    ⟨some 29, .extract 1, [.tmp 27], none, 0, []⟩,
    ⟨some 30, .extract 2, [.tmp 27], none, 0, []⟩,
    ⟨none, .store 3, [.tmp 8, .tmp 28], none, 0, []⟩,
    ⟨none, .store 2, [.tmp 9, .tmp 29], none, 0, []⟩,
    ⟨some 10, .mov, [.tmp 30], none, 0, []⟩]) (.ret)))) }


def ir20 : IFn :=
  { ntmps := 61, results := [.inr (8, true, 3), .inr (9, true, 2), .inl 10], body := (.seq (.region false 4 [
    ⟨some 4, .box 25, [.tmp 0], none, 0, []⟩,
    ⟨some 7, .box 36, [.tmp 3], none, 0, []⟩,
    ⟨some 8, .alloc 25 (.pair (.nil 34 (.int .u32)) (.pair (.nil 3 (.int .i64)) (.pure (.pair (.int .i64) .unit) (0, ())))), [], none, 0, []⟩,
    ⟨some 9, .alloc 36 (.pure (.pair (.int .i64) (.pair (.int .u32) .unit)) (0, (0, ()))), [], none, 0, []⟩,
    ⟨some 10, .mov, [.cst (.int .i64 0)], none, 0, []⟩]) (.seq (.seq (.region false 1 [
    ⟨some 15, .load true 3, [.tmp 4], none, 0, []⟩,
    ⟨some 16, .callS 17, [.tmp 15], none, 0, []⟩,
    ⟨some 17, .not, [.tmp 16], none, 0, []⟩,
    ⟨some 18, .mov, [.tmp 17], none, 0, []⟩,
    ⟨some 19, .load true 2, [.tmp 7], some (18, false), 0, []⟩,
    ⟨some 20, .call 39, [.tmp 19], some (18, false), 0, []⟩,
    ⟨some 21, .not, [.tmp 20], some (18, false), 0, []⟩,
    ⟨some 22, .pick, [.tmp 18, .cst (.bool true), .tmp 21], none, 0, []⟩]) (.cond (.tmp 22) (.seq (.region false 0 [
     ⟨some 23, .build [((.nil 34 (.int .u32)), 1), ((.nil 3 (.int .i64)), 1), ((.int .i64 0), 1)] [], [], none, 0, []⟩,
     ⟨some 24, .build [((.int .i64 0), 1), ((.int .u32 0), 1)] [], [], none, 0, []⟩,
     ⟨none, .store 3, [.tmp 8, .tmp 23], none, 0, []⟩,
     ⟨none, .store 2, [.tmp 9, .tmp 24], none, 0, []⟩,
     ⟨some 10, .mov, [.cst (.int .i64 1)], none, 0, []⟩]) (.ret)) (.skip))) (.seq (.seq (.region false 0 [
    ⟨some 25, .mov, [.tmp 1], none, 0, []⟩,
    ⟨some 26, .bin .lss, [.tmp 25, .cst (.int .i64 0)], none, 0, []⟩,
    ⟨some 27, .mov, [.tmp 26], none, 0, []⟩,
    ⟨some 28, .mov, [.tmp 1], some (27, false), 0, []⟩,
    ⟨some 29, .fieldAddr 0 0, [.tmp 4], some (27, false), 0, []⟩,
    ⟨some 30, .load false 1, [.tmp 29], some (27, false), 0, []⟩,
    ⟨some 31, .len, [.tmp 30], some (27, false), 0, []⟩,
    ⟨some 32, .bin .geq, [.tmp 28, .tmp 31], some (27, false), 0, []⟩,
    ⟨some 33, .pick, [.tmp 27, .cst (.bool true), .tmp 32], none, 0, []⟩]) (.cond (.tmp 33) (.seq (.region false 0 [
     ⟨some 34, .build [((.nil 34 (.int .u32)), 1), ((.nil 3 (.int .i64)), 1), ((.int .i64 0), 1)] [], [], none, 0, []⟩,
     ⟨some 35, .build [((.int .i64 0), 1), ((.int .u32 0), 1)] [], [], none, 0, []⟩,
     ⟨none, .store 3, [.tmp 8, .tmp 34], none, 0, []⟩,
     ⟨none, .store 2, [.tmp 9, .tmp 35], none, 0, []⟩,
     ⟨some 10, .mov, [.cst (.int .i64 2)], none, 0, []⟩]) (.ret)) (.skip))) (.seq (.region false 1 [
    ⟨some 37, .load true 2, [.tmp 7], none, 0, []⟩,
    ⟨some 38, .call 40, [.tmp 37], none, 0, []⟩,
    ⟨some 36, .mov, [.tmp 38], none, 0, []⟩,
    ⟨some 39, .extract 0, [.tmp 36], none, 0, []⟩,
    ⟨some 40, .extract 1, [.tmp 36], none, 0, []⟩,
    ⟨some 41, .extract 2, [.tmp 36], none, 0, []⟩,
    ⟨some 12, .alloc 36 (.pure (.pair (.int .i64) (.pair (.int .u32) .unit)) (0, (0, ()))), [], none, 0, []⟩,
    ⟨some 11, .mov, [.tmp 39], none, 0, []⟩,
    ⟨none, .store 2, [.tmp 12, .tmp 40], none, 0, []⟩,
    ⟨some 13, .mov, [.tmp 41], none, 0, []⟩]) (.seq (.region false 1 [
    ⟨some 42, .load true 3, [.tmp 4], none, 0, []⟩,
    ⟨some 43, .call 41, [.tmp 42], none, 0, []⟩,
    ⟨some 14, .alloc 25 (.pair (.nil 34 (.int .u32)) (.pair (.nil 3 (.int .i64)) (.pure (.pair (.int .i64) .unit) (0, ())))), [], none, 0, []⟩,
    ⟨none, .store 3, [.tmp 14, .tmp 43], none, 0, []⟩]) (.seq (.region true 0 [
    ⟨some 44, .fieldAddr 0 0, [.tmp 14], none, 0, []⟩,
    ⟨some 45, .load false 1, [.tmp 44], none, 0, [0]⟩,
    ⟨some 46, .mov, [.tmp 1], none, 0, []⟩,
    ⟨some 47, .fieldAddr 0 0, [.tmp 4], none, 0, []⟩,
    ⟨some 48, .load false 1, [.tmp 47], none, 0, [3]⟩,
    ⟨some 49, .mov, [.tmp 1], none, 0, []⟩,
    ⟨some 50, .idxSl 1, [.tmp 48, .tmp 49], none, 0, [4, 3, 5]⟩,
    ⟨some 51, .load false 1, [.tmp 50], none, 0, [6, 4, 3, 5]⟩,
    ⟨some 52, .mov, [.tmp 2], none, 0, []⟩,
    ⟨some 53, .mov, [.tmp 11], none, 0, []⟩,
    ⟨some 54, .bin .xor, [.cst (.int .u32 4294967295), .tmp 53], none, 0, [9]⟩,
    ⟨some 55, .bin .or, [.tmp 52, .tmp 54], none, 0, [8, 10, 9]⟩,
    ⟨some 56, .bin .and, [.tmp 51, .tmp 55], none, 0, [7, 6, 4, 3, 5, 11, 8, 10, 9]⟩,
    ⟨some 57, .idxSl 1, [.tmp 45, .tmp 46], none, 0, [1, 0, 2, 3, 4, 5, 6, 7, 8, 9, 10, 11, 12]⟩,
    ⟨none, .store 1, [.tmp 57, .tmp 56], none, 0, [13, 1, 0, 2, 3, 4, 5, 6, 7, 8, 9, 10, 11, 12]⟩]) (.seq (.region true 0 [
    ⟨some 58, .load true 3, [.tmp 14], none, 0, []⟩,
    ⟨some 59, .load true 2, [.tmp 12], none, 0, []⟩,
    ⟨some 60, .mov, [.tmp 13], none, 0, []⟩,
    ⟨none, .store 3, [.tmp 8, .tmp 58], none, 0, [0]⟩,
    ⟨none, .store 2, [.tmp 9, .tmp 59], none, 0, [1, 3, 0]⟩,
    ⟨some 10, .mov, [.tmp 60], none, 0, [2, 4, 1, 3, 0]⟩]) (.ret)))))))) }


def ir21 : IFn :=
  { ntmps := 8, results := [.inl 2], body := (.seq (.region false 0 [
    ⟨some 2, .mov, [.cst (.nil 34 (.int .u32))], none, 0, []⟩]) (.seq (.seq (.region false 0 [
    ⟨some 3, .mov, [.tmp 0], none, 0, []⟩,
    ⟨some 4, .bad, [], none, 0, []⟩]) (.cond (.tmp 4) (.seq (.region false 0 [
     ⟨some 2, .mov, [.cst (.nil 34 (.int .u32))], none, 0, []⟩]) (.ret)) (.skip))) (.seq (.region false 2 [
    ⟨some 5, .buildSl 34 (.int .u32) 0, [], none, 0, []⟩,
    ⟨some 6, .mov, [.tmp 0], none, 0, []⟩,
    ⟨some 7, .append 34 (.int .u32) 4, [.tmp 5, .tmp 6], none, 0, []⟩,
    ⟨some 2, .mov, [.tmp 7], none, 0, []⟩]) (.ret)))) }


def ir22_b0 : IC := (.seq (.region false 0 [
      ⟨some 14, .bin .lss, [.tmp 13, .tmp 12], none, 0, []⟩]) (.seq (.cond (.tmp 14) (.skip) (.exit 0)) (.seq (.block 1 (.seq (.region false 0 [
       ⟨some 15, .mov, [.tmp 13], none, 0, []⟩,
       ⟨some 5, .mov, [.tmp 15], none, 0, []⟩]) (.seq (.region true 0 [
       ⟨some 16, .mov, [.tmp 0], none, 0, []⟩,
       ⟨some 17, .mov, [.tmp 5], none, 0, []⟩,
       ⟨some 18, .idxSl 1, [.tmp 16, .tmp 17], none, 0, [0, 1]⟩,
       ⟨some 19, .load false 1, [.tmp 18], none, 0, [2, 0, 1]⟩,
       ⟨some 20, .mov, [.tmp 1], none, 0, []⟩,
       ⟨some 21, .mov, [.tmp 5], none, 0, []⟩,
       ⟨some 22, .idxSl 1, [.tmp 20, .tmp 21], none, 0, [4, 5]⟩,
       ⟨some 23, .load false 1, [.tmp 22], none, 0, [6, 4, 5]⟩,
       ⟨some 24, .bin .neq, [.tmp 19, .tmp 23], none, 0, [3, 2, 0, 1, 7, 6, 4, 5]⟩]) (.cond (.tmp 24) (.seq (.region false 0 [
        ⟨some 4, .mov, [.cst (.bool false)], none, 0, []⟩]) (.ret)) (.skip))))) (.region false 0 [
      ⟨some 25, .bin .add, [.tmp 13, .cst (.int .i64 1)], none, 0, []⟩,
      ⟨some 13, .mov, [.tmp 25], none, 0, []⟩]))))
def ir22_v0 : List Nat := [0, 1, 12, 13]
def ir22_t {R : Type} (o0 : St → (Ex → St → Option R) → Option R) : LT R := (.node .nil (.node .nil (.node (.node .nil (.node (.orc o0) .nil)) .nil)))
def ir22 : IFn :=
  { ntmps := 26, results := [.inl 4], body := (.seq (.region false 0 [
    ⟨some 4, .mov, [.cst (.bool false)], none, 0, []⟩]) (.seq (.seq (.region false 0 [
    ⟨some 6, .mov, [.tmp 0], none, 0, []⟩,
    ⟨some 7, .len, [.tmp 6], none, 0, []⟩,
    ⟨some 8, .mov, [.tmp 1], none, 0, []⟩,
    ⟨some 9, .len, [.tmp 8], none, 0, []⟩,
    ⟨some 10, .bin .neq, [.tmp 7, .tmp 9], none, 0, []⟩]) (.cond (.tmp 10) (.seq (.region false 0 [
     ⟨some 4, .mov, [.cst (.bool false)], none, 0, []⟩]) (.ret)) (.skip))) (.seq (.seq (.region false 0 [
    ⟨some 11, .mov, [.tmp 0], none, 0, []⟩,
    ⟨some 12, .len, [.tmp 11], none, 0, []⟩,
    ⟨some 13, .mov, [.cst (.int .i64 0)], none, 0, []⟩]) (.block 0 (.loop ir22_v0 ir22_b0))) (.seq (.region false 0 [
    ⟨some 4, .mov, [.cst (.bool true)], none, 0, []⟩]) (.ret))))) }
theorem ir22_tok {R : Type} {summ : Nat → Option Summ} {fu : Nat} {call : Nat → List CV → List Blk → (CV → List Blk → Option R) → Option R} {o0 : St → (Ex → St → Option R) → Option R} (h0 : ∀ T k r, o0 T k = some r → evLoopN (evCode summ fu call ir22_b0) (St.norm ir22_v0) fu T k = some r) : LTok summ fu call (ir22_t o0) ir22.body := ⟨trivial, ⟨trivial, ⟨⟨trivial, h0⟩, trivial⟩⟩⟩


def ir23 : IFn :=
  { ntmps := 28, results := [.inl 4], body := (.seq (.region false 2 [
    ⟨some 2, .box 25, [.tmp 0], none, 0, []⟩,
    ⟨some 3, .box 25, [.tmp 1], none, 0, []⟩,
    ⟨some 4, .mov, [.cst (.bool false)], none, 0, []⟩]) (.seq (.region false 0 [
    ⟨some 5, .fieldAddr 0 0, [.tmp 2], none, 0, []⟩,
    ⟨some 6, .load false 1, [.tmp 5], none, 0, []⟩,
    ⟨some 7, .len, [.tmp 6], none, 0, []⟩,
    ⟨some 8, .fieldAddr 0 0, [.tmp 3], none, 0, []⟩,
    ⟨some 9, .load false 1, [.tmp 8], none, 0, []⟩,
    ⟨some 10, .len, [.tmp 9], none, 0, []⟩,
    ⟨some 11, .bin .eql, [.tmp 7, .tmp 10], none, 0, []⟩,
    ⟨some 12, .mov, [.tmp 11], none, 0, []⟩,
    ⟨some 13, .fieldAddr 1 1, [.tmp 2], some (12, true), 0, []⟩,
    ⟨some 14, .load false 1, [.tmp 13], some (12, true), 0, []⟩,
    ⟨some 15, .len, [.tmp 14], some (12, true), 0, []⟩,
    ⟨some 16, .fieldAddr 1 1, [.tmp 3], some (12, true), 0, []⟩,
    ⟨some 17, .load false 1, [.tmp 16], some (12, true), 0, []⟩,
    ⟨some 18, .len, [.tmp 17], some (12, true), 0, []⟩,
    ⟨some 19, .bin .eql, [.tmp 15, .tmp 18], some (12, true), 0, []⟩,
    ⟨some 20, .pick, [.tmp 12, .tmp 19, .cst (.bool false)], none, 0, []⟩,
    ⟨some 21, .mov, [.tmp 20], none, 0, []⟩,
    ⟨some 22, .fieldAddr 2 2, [.tmp 2], some (21, true), 0, []⟩,
    ⟨some 23, .load false 1, [.tmp 22], some (21, true), 0, []⟩,
    ⟨some 24, .fieldAddr 2 2, [.tmp 3], some (21, true), 0, []⟩,
    ⟨some 25, .load false 1, [.tmp 24], some (21, true), 0, []⟩,
    ⟨some 26, .bin .eql, [.tmp 23, .tmp 25], some (21, true), 0, []⟩,
    ⟨some 27, .pick, [.tmp 21, .tmp 26, .cst (.bool false)], none, 0, []⟩,
    ⟨some 4, .mov, [.tmp 27], none, 0, []⟩]) (.ret))) }


def ir24_b0 : IC := (.seq (.region false 0 [
      ⟨some 14, .bin .lss, [.tmp 13, .tmp 12], none, 0, []⟩]) (.seq (.cond (.tmp 14) (.skip) (.exit 0)) (.seq (.block 1 (.seq (.region false 0 [
       ⟨some 15, .mov, [.tmp 13], none, 0, []⟩,
       ⟨some 5, .mov, [.tmp 15], none, 0, []⟩]) (.seq (.region true 0 [
       ⟨some 16, .mov, [.tmp 0], none, 0, []⟩,
       ⟨some 17, .mov, [.tmp 5], none, 0, []⟩,
       ⟨some 18, .idxSl 1, [.tmp 16, .tmp 17], none, 0, [0, 1]⟩,
       ⟨some 19, .load false 1, [.tmp 18], none, 0, [2, 0, 1]⟩,
       ⟨some 20, .mov, [.tmp 1], none, 0, []⟩,
       ⟨some 21, .mov, [.tmp 5], none, 0, []⟩,
       ⟨some 22, .idxSl 1, [.tmp 20, .tmp 21], none, 0, [4, 5]⟩,
       ⟨some 23, .load false 1, [.tmp 22], none, 0, [6, 4, 5]⟩,
       ⟨some 24, .bin .neq, [.tmp 19, .tmp 23], none, 0, [3, 2, 0, 1, 7, 6, 4, 5]⟩]) (.cond (.tmp 24) (.seq (.region false 0 [
        ⟨some 4, .mov, [.cst (.bool false)], none, 0, []⟩]) (.ret)) (.skip))))) (.region false 0 [
      ⟨some 25, .bin .add, [.tmp 13, .cst (.int .i64 1)], none, 0, []⟩,
      ⟨some 13, .mov, [.tmp 25], none, 0, []⟩]))))
def ir24_v0 : List Nat := [0, 1, 12, 13]
def ir24_t {R : Type} (o0 : St → (Ex → St → Option R) → Option R) : LT R := (.node .nil (.node .nil (.node (.node .nil (.node (.orc o0) .nil)) .nil)))
def ir24 : IFn :=
  { ntmps := 26, results := [.inl 4], body := (.seq (.region false 0 [
    ⟨some 4, .mov, [.cst (.bool false)], none, 0, []⟩]) (.seq (.seq (.region false 0 [
    ⟨some 6, .mov, [.tmp 0], none, 0, []⟩,
    ⟨some 7, .len, [.tmp 6], none, 0, []⟩,
    ⟨some 8, .mov, [.tmp 1], none, 0, []⟩,
    ⟨some 9, .len, [.tmp 8], none, 0, []⟩,
    ⟨some 10, .bin .neq, [.tmp 7, .tmp 9], none, 0, []⟩]) (.cond (.tmp 10) (.seq (.region false 0 [
     ⟨some 4, .mov, [.cst (.bool false)], none, 0, []⟩]) (.ret)) (.skip))) (.seq (.seq (.region false 0 [
    ⟨some 11, .mov, [.tmp 0], none, 0, []⟩,
    ⟨some 12, .len, [.tmp 11], none, 0, []⟩,
    ⟨some 13, .mov, [.cst (.int .i64 0)], none, 0, []⟩]) (.block 0 (.loop ir24_v0 ir24_b0))) (.seq (.region false 0 [
    ⟨some 4, .mov, [.cst (.bool true)], none, 0, []⟩]) (.ret))))) }
theorem ir24_tok {R : Type} {summ : Nat → Option Summ} {fu : Nat} {call : Nat → List CV → List Blk → (CV → List Blk → Option R) → Option R} {o0 : St → (Ex → St → Option R) → Option R} (h0 : ∀ T k r, o0 T k = some r → evLoopN (evCode summ fu call ir24_b0) (St.norm ir24_v0) fu T k = some r) : LTok summ fu call (ir24_t o0) ir24.body := ⟨trivial, ⟨trivial, ⟨⟨trivial, h0⟩, trivial⟩⟩⟩


def ir25 : IFn :=
  { ntmps := 25, results := [.inl 4, .inl 5], body := (.seq (.region false 1 [
    ⟨some 2, .box 25, [.tmp 0], none, 0, []⟩,
    ⟨some 4, .mov, [.cst (.int .u32 0)], none, 0, []⟩,
    ⟨some 5, .mov, [.cst (.int .i64 0)], none, 0, []⟩]) (.seq (.block 0 (.seq (.region false 1 [
     ⟨some 7, .load true 3, [.tmp 2], none, 0, []⟩,
     ⟨some 8, .callS 16, [.tmp 7], none, 0, []⟩,
     ⟨some 9, .not, [.tmp 8], none, 0, []⟩,
     ⟨some 6, .mov, [.tmp 9], none, 0, []⟩]) (.cond (.tmp 6) (.seq (.region false 0 [
      ⟨some 4, .mov, [.cst (.int .u32 0)], none, 0, []⟩,
      ⟨some 5, .mov, [.cst (.int .i64 1)], none, 0, []⟩]) (.ret)) (.seq (.region false 0 [
      ⟨some 11, .mov, [.tmp 1], none, 0, []⟩,
      ⟨some 12, .bin .lss, [.tmp 11, .cst (.int .i64 0)], none, 0, []⟩,
      ⟨some 13, .mov, [.tmp 12], none, 0, []⟩,
      ⟨some 14, .mov, [.tmp 1], some (13, false), 0, []⟩,
      ⟨some 15, .fieldAddr 0 0, [.tmp 2], some (13, false), 0, []⟩,
      ⟨some 16, .load false 1, [.tmp 15], some (13, false), 0, []⟩,
      ⟨some 17, .len, [.tmp 16], some (13, false), 0, []⟩,
      ⟨some 18, .bin .geq, [.tmp 14, .tmp 17], some (13, false), 0, []⟩,
      ⟨some 19, .pick, [.tmp 13, .cst (.bool true), .tmp 18], none, 0, []⟩,
      ⟨some 10, .mov, [.tmp 19], none, 0, []⟩]) (.cond (.tmp 10) (.seq (.region false 0 [
       ⟨some 4, .mov, [.cst (.int .u32 0)], none, 0, []⟩,
       ⟨some 5, .mov, [.cst (.int .i64 2)], none, 0, []⟩]) (.ret)) (.skip)))))) (.seq (.region false 0 [
    ⟨some 20, .fieldAddr 0 0, [.tmp 2], none, 0, []⟩,
    ⟨some 21, .load false 1, [.tmp 20], none, 0, []⟩,
    ⟨some 22, .mov, [.tmp 1], none, 0, []⟩,
    ⟨some 23, .idxSl 1, [.tmp 21, .tmp 22], none, 0, []⟩,
    ⟨some 24, .load false 1, [.tmp 23], none, 0, []⟩,
    ⟨some 4, .mov, [.tmp 24], none, 0, []⟩,
    ⟨some 5, .mov, [.cst (.int .i64 0)], none, 0, []⟩]) (.ret)))) }


def ir26 : IFn :=
  { ntmps := 25, results := [.inl 4, .inl 5], body := (.seq (.region false 1 [
    ⟨some 2, .box 25, [.tmp 0], none, 0, []⟩,
    ⟨some 4, .mov, [.cst (.bool false)], none, 0, []⟩,
    ⟨some 5, .mov, [.cst (.int .i64 0)], none, 0, []⟩]) (.seq (.block 0 (.seq (.region false 1 [
     ⟨some 7, .load true 3, [.tmp 2], none, 0, []⟩,
     ⟨some 8, .callS 16, [.tmp 7], none, 0, []⟩,
     ⟨some 9, .not, [.tmp 8], none, 0, []⟩,
     ⟨some 6, .mov, [.tmp 9], none, 0, []⟩]) (.cond (.tmp 6) (.seq (.region false 0 [
      ⟨some 4, .mov, [.cst (.bool false)], none, 0, []⟩,
      ⟨some 5, .mov, [.cst (.int .i64 1)], none, 0, []⟩]) (.ret)) (.seq (.region false 0 [
      ⟨some 11, .mov, [.tmp 1], none, 0, []⟩,
      ⟨some 12, .bin .lss, [.tmp 11, .cst (.int .i64 0)], none, 0, []⟩,
      ⟨some 13, .mov, [.tmp 12], none, 0, []⟩,
      ⟨some 14, .mov, [.tmp 1], some (13, false), 0, []⟩,
      ⟨some 15, .fieldAddr 1 1, [.tmp 2], some (13, false), 0, []⟩,
      ⟨some 16, .load false 1, [.tmp 15], some (13, false), 0, []⟩,
      ⟨some 17, .len, [.tmp 16], some (13, false), 0, []⟩,
      ⟨some 18, .bin .geq, [.tmp 14, .tmp 17], some (13, false), 0, []⟩,
      ⟨some 19, .pick, [.tmp 13, .cst (.bool true), .tmp 18], none, 0, []⟩,
      ⟨some 10, .mov, [.tmp 19], none, 0, []⟩]) (.cond (.tmp 10) (.seq (.region false 0 [
       ⟨some 4, .mov, [.cst (.bool false)], none, 0, []⟩,
       ⟨some 5, .mov, [.cst (.int .i64 2)], none, 0, []⟩]) (.ret)) (.skip)))))) (.seq (.region false 0 [
    ⟨some 20, .load true 3, [.tmp 2], none, 0, []⟩,
    ⟨some 21, .mov, [.tmp 1], none, 0, []⟩,
    ⟨some 22, .call 43, [.tmp 20, .tmp 21], none, 0, []⟩,
    ⟨some 23, .call 42, [.tmp 22, .cst (.clo 44 (.pure .unit ()))], none, 0, []⟩,
    ⟨some 24, .not, [.tmp 23], none, 0, []⟩,
    ⟨some 4, .mov, [.tmp 24], none, 0, []⟩,
    ⟨some 5, .mov, [.cst (.int .i64 0)], none, 0, []⟩]) (.ret)))) }


def ir27_b0 : IC := (.seq (.seq (.region false 0 [
      ⟨some 6, .mov, [.tmp 5], none, 0, []⟩,
      ⟨some 7, .bin .lss, [.tmp 6, .cst (.int .i64 64)], none, 0, []⟩]) (.cond (.tmp 7) (.skip) (.exit 0))) (.seq (.block 1 (.seq (.region false 0 [
       ⟨some 10, .fieldAddr 0 0, [.tmp 2], none, 0, []⟩,
       ⟨some 11, .load false 1, [.tmp 10], none, 0, []⟩,
       ⟨some 12, .mov, [.tmp 1], none, 0, []⟩,
       ⟨some 13, .bin .mul, [.tmp 12, .cst (.int .i64 64)], none, 0, []⟩,
       ⟨some 14, .mov, [.tmp 5], none, 0, []⟩,
       ⟨some 15, .bin .add, [.tmp 13, .tmp 14], none, 0, []⟩,
       ⟨some 16, .idxSl 1, [.tmp 11, .tmp 15], none, 0, []⟩,
       ⟨some 17, .load false 1, [.tmp 16], none, 0, []⟩,
       ⟨some 18, .bin .neq, [.tmp 17, .cst (.int .u32 4294967295)], none, 0, []⟩]) (.cond (.tmp 18) (.seq (.region false 0 [
        ⟨some 4, .mov, [.cst (.bool false)], none, 0, []⟩]) (.ret)) (.skip)))) (.region false 0 [
      ⟨some 8, .mov, [.tmp 5], none, 0, []⟩,
      ⟨some 9, .bin .add, [.tmp 8, .cst (.int .i64 1)], none, 0, []⟩,
      ⟨some 5, .mov, [.tmp 9], none, 0, []⟩])))
def ir27_v0 : List Nat := [1, 2, 5]
def ir27_t {R : Type} (o0 : St → (Ex → St → Option R) → Option R) : LT R := (.node .nil (.node (.node .nil (.node (.orc o0) .nil)) .nil))
def ir27 : IFn :=
  { ntmps := 19, results := [.inl 4], body := (.seq (.region false 1 [
    ⟨some 2, .box 25, [.tmp 0], none, 0, []⟩,
    ⟨some 4, .mov, [.cst (.bool false)], none, 0, []⟩]) (.seq (.seq (.region false 0 [
    ⟨some 5, .mov, [.cst (.int .i64 0)], none, 0, []⟩]) (.block 0 (.loop ir27_v0 ir27_b0))) (.seq (.region false 0 [
    ⟨some 4, .mov, [.cst (.bool true)], none, 0, []⟩]) (.ret)))) }
theorem ir27_tok {R : Type} {summ : Nat → Option Summ} {fu : Nat} {call : Nat → List CV → List Blk → (CV → List Blk → Option R) → Option R} {o0 : St → (Ex → St → Option R) → Option R} (h0 : ∀ T k r, o0 T k = some r → evLoopN (evCode summ fu call ir27_b0) (St.norm ir27_v0) fu T k = some r) : LTok summ fu call (ir27_t o0) ir27.body := ⟨trivial, ⟨⟨trivial, h0⟩, trivial⟩⟩


def ir28 : IFn :=
  { ntmps := 39, results := [.inr (6, true, 3), .inr (7, true, 2), .inl 8], body := (.seq (.region false 5 [
    ⟨some 3, .box 25, [.tmp 0], none, 0, []⟩,
    ⟨some 4, .box 3, [.tmp 1], none, 0, []⟩,
    ⟨some 5, .box 36, [.tmp 2], none, 0, []⟩,
    ⟨some 6, .alloc 25 (.pair (.nil 34 (.int .u32)) (.pair (.nil 3 (.int .i64)) (.pure (.pair (.int .i64) .unit) (0, ())))), [], none, 0, []⟩,
    ⟨some 7, .alloc 36 (.pure (.pair (.int .i64) (.pair (.int .u32) .unit)) (0, (0, ()))), [], none, 0, []⟩,
    ⟨some 8, .mov, [.cst (.int .i64 0)], none, 0, []⟩]) (.seq (.seq (.region false 0 [
    ⟨some 10, .load true 3, [.tmp 3], none, 0, []⟩,
    ⟨some 11, .load true 2, [.tmp 5], none, 0, []⟩,
    ⟨some 12, .load false 1, [.tmp 4], none, 0, []⟩,
    ⟨some 13, .fieldAddr 1 1, [.tmp 3], none, 0, []⟩,
    ⟨some 14, .load false 1, [.tmp 13], none, 0, []⟩,
    ⟨some 15, .len, [.tmp 14], none, 0, []⟩,
    ⟨some 16, .call 36, [.tmp 10, .tmp 11, .tmp 12, .tmp 15], none, 0, []⟩,
    ⟨some 9, .mov, [.tmp 16], none, 0, []⟩]) (.seq (.region false 0 [
    ⟨some 17, .mov, [.tmp 9], none, 0, []⟩,
    ⟨some 18, .bin .neq, [.tmp 17, .cst (.int .i64 0)], none, 0, []⟩]) (.cond (.tmp 18) (.seq (.region false 0 [
     ⟨some 19, .build [((.nil 34 (.int .u32)), 1), ((.nil 3 (.int .i64)), 1), ((.int .i64 0), 1)] [], [], none, 0, []⟩,
     ⟨some 20, .build [((.int .i64 0), 1), ((.int .u32 0), 1)] [], [], none, 0, []⟩,
     ⟨some 21, .mov, [.tmp 9], none, 0, []⟩,
     ⟨none, .store 3, [.tmp 6, .tmp 19], none, 0, []⟩,
     ⟨none, .store 2, [.tmp 7, .tmp 20], none, 0, []⟩,
     ⟨some 8, .mov, [.tmp 21], none, 0, []⟩]) (.ret)) (.skip)))) (.seq (.seq (.region true 0 [
    ⟨some 22, .fieldAddr 1 1, [.tmp 3], none, 0, []⟩,
    ⟨some 23, .load false 1, [.tmp 22], none, 0, [0]⟩,
    ⟨some 24, .load false 1, [.tmp 4], none, 0, []⟩,
    ⟨some 25, .idxSl 1, [.tmp 23, .tmp 24], none, 0, [1, 0, 2]⟩,
    ⟨some 26, .load false 1, [.tmp 25], none, 0, [3, 1, 0, 2]⟩,
    ⟨some 27, .fieldAddr 2 2, [.tmp 3], none, 0, []⟩,
    ⟨some 28, .load false 1, [.tmp 27], none, 0, [5]⟩,
    ⟨some 29, .bin .eql, [.tmp 26, .tmp 28], none, 0, [4, 3, 1, 0, 2, 6, 5]⟩]) (.cond (.tmp 29) (.seq (.region false 0 [
     ⟨some 30, .build [((.nil 34 (.int .u32)), 1), ((.nil 3 (.int .i64)), 1), ((.int .i64 0), 1)] [], [], none, 0, []⟩,
     ⟨some 31, .build [((.int .i64 0), 1), ((.int .u32 0), 1)] [], [], none, 0, []⟩,
     ⟨none, .store 3, [.tmp 6, .tmp 30], none, 0, []⟩,
     ⟨none, .store 2, [.tmp 7, .tmp 31], none, 0, []⟩,
     ⟨some 8, .mov, [.cst (.int .i64 19)], none, 0, []⟩]) (.ret)) (.skip))) (.seq (.region false 0 [
    ⟨some 32, .load true 3, [.tmp 3], none, 0, []⟩,
    ⟨some 33, .load true 2, [.tmp 5], none, 0, []⟩,
    ⟨some 34, .mkFunc 45, [.tmp 4], none, 0, []⟩,
    ⟨some 35, .call 37, [.tmp 32, .tmp 33, .tmp 34], none, 0, []⟩,
    ⟨some 36, .extract 0, [.tmp 35], none, 0, []⟩,
    ⟨some 37, .extract 1, [.tmp 35], none, 0, []⟩,
    ⟨some 38, .extract 2, [.tmp 35], none, 0, []⟩,
    ⟨none, .store 3, [.tmp 6, .tmp 36], none, 0, []⟩,
    ⟨none, .store 2, [.tmp 7, .tmp 37], none, 0, []⟩,
    ⟨some 8, .mov, [.tmp 38], none, 0, []⟩]) (.ret))))) }


def ir29_b0 : IC := (.seq (.seq (.region false 0 [
       ⟨some 63, .mov, [.tmp 13], none, 0, []⟩,
       ⟨some 64, .bin .lss, [.tmp 63, .cst (.int .i64 64)], none, 0, []⟩]) (.cond (.tmp 64) (.skip) (.exit 0))) (.seq (.block 1 (.region true 0 [
        ⟨some 67, .fieldAddr 0 0, [.tmp 12], none, 0, []⟩,
        ⟨some 68, .load false 1, [.tmp 67], none, 0, [0]⟩,
        ⟨some 69, .mov, [.tmp 1], none, 0, []⟩,
        ⟨some 70, .bin .mul, [.tmp 69, .cst (.int .i64 64)], none, 0, [2]⟩,
        ⟨some 71, .mov, [.tmp 13], none, 0, []⟩,
        ⟨some 72, .bin .add, [.tmp 70, .tmp 71], none, 0, [3, 2, 4]⟩,
        ⟨some 73, .fieldAddr 0 0, [.tmp 12], none, 0, []⟩,
        ⟨some 74, .load false 1, [.tmp 73], none, 0, [6]⟩,
        ⟨some 75, .mov, [.tmp 1], none, 0, []⟩,
        ⟨some 76, .bin .mul, [.tmp 75, .cst (.int .i64 64)], none, 0, [8]⟩,
        ⟨some 77, .mov, [.tmp 13], none, 0, []⟩,
        ⟨some 78, .bin .add, [.tmp 76, .tmp 77], none, 0, [9, 8, 10]⟩,
        ⟨some 79, .idxSl 1, [.tmp 74, .tmp 78], none, 0, [7, 6, 11, 9, 8, 10]⟩,
        ⟨some 80, .load false 1, [.tmp 79], none, 0, [12, 7, 6, 11, 9, 8, 10]⟩,
        ⟨some 81, .mov, [.tmp 9], none, 0, []⟩,
        ⟨some 82, .bin .or, [.tmp 80, .tmp 81], none, 0, [13, 12, 7, 6, 11, 9, 8, 10, 14]⟩,
        ⟨some 83, .idxSl 1, [.tmp 68, .tmp 72], none, 0, [1, 0, 5, 3, 2, 4, 6, 7, 8, 9, 10, 11, 12, 13, 14, 15]⟩,
        ⟨none, .store 1, [.tmp 83, .tmp 82], none, 0, [16, 1, 0, 5, 3, 2, 4, 6, 7, 8, 9, 10, 11, 12, 13, 14, 15]⟩])) (.region false 0 [
       ⟨some 65, .mov, [.tmp 13], none, 0, []⟩,
       ⟨some 66, .bin .add, [.tmp 65, .cst (.int .i64 1)], none, 0, []⟩,
       ⟨some 13, .mov, [.tmp 66], none, 0, []⟩])))
def ir29_v0 : List Nat := [1, 6, 7, 9, 10, 11, 12, 13]
def ir29_t {R : Type} (o0 : St → (Ex → St → Option R) → Option R) : LT R := (.node .nil (.node .nil (.node .nil (.node .nil (.node .nil (.node .nil (.node (.node .nil (.node (.node .nil (.node .nil (.node (.orc o0) .nil))) .nil)) .nil)))))))
def ir29 : IFn :=
  { ntmps := 87, results := [.inr (6, true, 3), .inr (7, true, 2), .inl 8], body := (.seq (.region false 4 [
    ⟨some 3, .box 25, [.tmp 0], none, 0, []⟩,
    ⟨some 5, .box 36, [.tmp 2], none, 0, []⟩,
    ⟨some 6, .alloc 25 (.pair (.nil 34 (.int .u32)) (.pair (.nil 3 (.int .i64)) (.pure (.pair (.int .i64) .unit) (0, ())))), [], none, 0, []⟩,
    ⟨some 7, .alloc 36 (.pure (.pair (.int .i64) (.pair (.int .u32) .unit)) (0, (0, ()))), [], none, 0, []⟩,
    ⟨some 8, .mov, [.cst (.int .i64 0)], none, 0, []⟩]) (.seq (.seq (.region false 1 [
    ⟨some 14, .load true 3, [.tmp 3], none, 0, []⟩,
    ⟨some 15, .callS 17, [.tmp 14], none, 0, []⟩,
    ⟨some 16, .not, [.tmp 15], none, 0, []⟩,
    ⟨some 17, .mov, [.tmp 16], none, 0, []⟩,
    ⟨some 18, .load true 2, [.tmp 5], some (17, false), 0, []⟩,
    ⟨some 19, .call 39, [.tmp 18], some (17, false), 0, []⟩,
    ⟨some 20, .not, [.tmp 19], some (17, false), 0, []⟩,
    ⟨some 21, .pick, [.tmp 17, .cst (.bool true), .tmp 20], none, 0, []⟩]) (.cond (.tmp 21) (.seq (.region false 0 [
     ⟨some 22, .build [((.nil 34 (.int .u32)), 1), ((.nil 3 (.int .i64)), 1), ((.int .i64 0), 1)] [], [], none, 0, []⟩,
     ⟨some 23, .build [((.int .i64 0), 1), ((.int .u32 0), 1)] [], [], none, 0, []⟩,
     ⟨none, .store 3, [.tmp 6, .tmp 22], none, 0, []⟩,
     ⟨none, .store 2, [.tmp 7, .tmp 23], none, 0, []⟩,
     ⟨some 8, .mov, [.cst (.int .i64 1)], none, 0, []⟩]) (.ret)) (.skip))) (.seq (.seq (.region false 0 [
    ⟨some 24, .mov, [.tmp 1], none, 0, []⟩,
    ⟨some 25, .bin .lss, [.tmp 24, .cst (.int .i64 0)], none, 0, []⟩,
    ⟨some 26, .mov, [.tmp 25], none, 0, []⟩,
    ⟨some 27, .mov, [.tmp 1], some (26, false), 0, []⟩,
    ⟨some 28, .fieldAddr 1 1, [.tmp 3], some (26, false), 0, []⟩,
    ⟨some 29, .load false 1, [.tmp 28], some (26, false), 0, []⟩,
    ⟨some 30, .len, [.tmp 29], some (26, false), 0, []⟩,
    ⟨some 31, .bin .geq, [.tmp 27, .tmp 30], some (26, false), 0, []⟩,
    ⟨some 32, .pick, [.tmp 26, .cst (.bool true), .tmp 31], none, 0, []⟩]) (.cond (.tmp 32) (.seq (.region false 0 [
     ⟨some 33, .build [((.nil 34 (.int .u32)), 1), ((.nil 3 (.int .i64)), 1), ((.int .i64 0), 1)] [], [], none, 0, []⟩,
     ⟨some 34, .build [((.int .i64 0), 1), ((.int .u32 0), 1)] [], [], none, 0, []⟩,
     ⟨none, .store 3, [.tmp 6, .tmp 33], none, 0, []⟩,
     ⟨none, .store 2, [.tmp 7, .tmp 34], none, 0, []⟩,
     ⟨some 8, .mov, [.cst (.int .i64 2)], none, 0, []⟩]) (.ret)) (.skip))) (.seq (.seq (.region true 0 [
    ⟨some 35, .fieldAddr 1 1, [.tmp 3], none, 0, []⟩,
    ⟨some 36, .load false 1, [.tmp 35], none, 0, [0]⟩,
    ⟨some 37, .mov, [.tmp 1], none, 0, []⟩,
    ⟨some 38, .idxSl 1, [.tmp 36, .tmp 37], none, 0, [1, 0, 2]⟩,
    ⟨some 39, .load false 1, [.tmp 38], none, 0, [3, 1, 0, 2]⟩,
    ⟨some 40, .fieldAddr 2 2, [.tmp 3], none, 0, []⟩,
    ⟨some 41, .load false 1, [.tmp 40], none, 0, [5]⟩,
    ⟨some 42, .bin .eql, [.tmp 39, .tmp 41], none, 0, [4, 3, 1, 0, 2, 6, 5]⟩]) (.cond (.tmp 42) (.seq (.region false 0 [
     ⟨some 43, .build [((.nil 34 (.int .u32)), 1), ((.nil 3 (.int .i64)), 1), ((.int .i64 0), 1)] [], [], none, 0, []⟩,
     ⟨some 44, .build [((.int .i64 0), 1), ((.int .u32 0), 1)] [], [], none, 0, []⟩,
     ⟨none, .store 3, [.tmp 6, .tmp 43], none, 0, []⟩,
     ⟨none, .store 2, [.tmp 7, .tmp 44], none, 0, []⟩,
     ⟨some 8, .mov, [.cst (.int .i64 19)], none, 0, []⟩]) (.ret)) (.skip))) (.seq (.region false 1 [
    ⟨some 46, .load true 2, [.tmp 5], none, 0, []⟩,
    ⟨some 47, .call 40, [.tmp 46], none, 0, []⟩,
    ⟨some 45, .mov, [.tmp 47], none, 0, []⟩,
    ⟨some 48, .extract 0, [.tmp 45], none, 0, []⟩,
    ⟨some 49, .extract 1, [.tmp 45], none, 0, []⟩,
    ⟨some 50, .extract 2, [.tmp 45], none, 0, []⟩,
    ⟨some 10, .alloc 36 (.pure (.pair (.int .i64) (.pair (.int .u32) .unit)) (0, (0, ()))), [], none, 0, []⟩,
    ⟨some 9, .mov, [.tmp 48], none, 0, []⟩,
    ⟨none, .store 2, [.tmp 10, .tmp 49], none, 0, []⟩,
    ⟨some 11, .mov, [.tmp 50], none, 0, []⟩]) (.seq (.region false 1 [
    ⟨some 51, .load true 3, [.tmp 3], none, 0, []⟩,
    ⟨some 52, .call 41, [.tmp 51], none, 0, []⟩,
    ⟨some 12, .alloc 25 (.pair (.nil 34 (.int .u32)) (.pair (.nil 3 (.int .i64)) (.pure (.pair (.int .i64) .unit) (0, ())))), [], none, 0, []⟩,
    ⟨none, .store 3, [.tmp 12, .tmp 52], none, 0, []⟩]) (.seq (.seq (.region false 0 [
    ⟨some 53, .fieldAddr 0 0, [.tmp 5], none, 0, []⟩,
    ⟨some 54, .load false 1, [.tmp 53], none, 0, []⟩,
    ⟨some 55, .bin .gtr, [.tmp 54, .cst (.int .i64 0)], none, 0, []⟩]) (.cond (.tmp 55) (.seq (.region false 0 [
     ⟨some 56, .fieldAddr 1 1, [.tmp 12], none, 0, []⟩,
     ⟨some 57, .load false 1, [.tmp 56], none, 0, []⟩,
     ⟨some 58, .mov, [.tmp 1], none, 0, []⟩,
     ⟨some 59, .idxSl 1, [.tmp 57, .tmp 58], none, 0, []⟩,
     ⟨some 60, .load false 1, [.tmp 59], none, 0, []⟩,
     ⟨some 61, .bin .add, [.tmp 60, .cst (.int .i64 1)], none, 0, []⟩,
     ⟨some 62, .idxSl 1, [.tmp 57, .tmp 58], none, 0, []⟩,
     ⟨none, .store 1, [.tmp 62, .tmp 61], none, 0, []⟩]) (.seq (.region false 0 [
     ⟨some 13, .mov, [.cst (.int .i64 0)], none, 0, []⟩]) (.block 0 (.loop ir29_v0 ir29_b0)))) (.skip))) (.seq (.region true 0 [
    ⟨some 84, .load true 3, [.tmp 12], none, 0, []⟩,
    ⟨some 85, .load true 2, [.tmp 10], none, 0, []⟩,
    ⟨some 86, .mov, [.tmp 11], none, 0, []⟩,
    ⟨none, .store 3, [.tmp 6, .tmp 84], none, 0, [0]⟩,
    ⟨none, .store 2, [.tmp 7, .tmp 85], none, 0, [1, 3, 0]⟩,
    ⟨some 8, .mov, [.tmp 86], none, 0, [2, 4, 1, 3, 0]⟩]) (.ret))))))))) }
theorem ir29_tok {R : Type} {summ : Nat → Option Summ} {fu : Nat} {call : Nat → List CV → List Blk → (CV → List Blk → Option R) → Option R} {o0 : St → (Ex → St → Option R) → Option R} (h0 : ∀ T k r, o0 T k = some r → evLoopN (evCode summ fu call ir29_b0) (St.norm ir29_v0) fu T k = some r) : LTok summ fu call (ir29_t o0) ir29.body := ⟨trivial, ⟨trivial, ⟨trivial, ⟨trivial, ⟨trivial, ⟨trivial, ⟨⟨trivial, ⟨⟨trivial, ⟨trivial, h0⟩⟩, trivial⟩⟩, trivial⟩⟩⟩⟩⟩⟩⟩


def ir30_b0 : IC := (.seq (.region false 0 [
      ⟨some 17, .bin .lss, [.tmp 16, .tmp 15], none, 0, []⟩]) (.seq (.cond (.tmp 17) (.skip) (.exit 0)) (.seq (.block 1 (.seq (.region false 1 [
       ⟨some 18, .idxSl 3, [.tmp 14, .tmp 16], none, 0, []⟩,
       ⟨some 19, .load true 3, [.tmp 18], none, 0, []⟩,
       ⟨some 10, .alloc 78 (.pure (.pair .bool (.pair (.int .u16) (.pair (.int .u32) .unit))) (false, (0, (0, ())))), [], none, 0, []⟩,
       ⟨none, .store 3, [.tmp 10, .tmp 19], none, 0, []⟩]) (.seq (.region false 1 [
       ⟨some 11, .alloc 25 (.pair (.nil 34 (.int .u32)) (.pair (.nil 3 (.int .i64)) (.pure (.pair (.int .i64) .unit) (0, ())))), [], none, 0, []⟩]) (.seq (.region false 0 [
       ⟨some 12, .mov, [.cst (.int .i64 0)], none, 0, []⟩]) (.seq (.region false 0 [
       ⟨some 20, .fieldAddr 1 1, [.tmp 10], none, 0, []⟩,
       ⟨some 21, .load false 1, [.tmp 20], none, 0, []⟩,
       ⟨some 22, .conv .i64, [.tmp 21], none, 0, []⟩,
       ⟨some 23, .fieldAddr 0 0, [.tmp 3], none, 0, []⟩,
       ⟨some 24, .load false 1, [.tmp 23], none, 0, []⟩,
       ⟨some 25, .len, [.tmp 24], none, 0, []⟩,
       ⟨some 26, .bin .rem, [.tmp 22, .tmp 25], none, 0, []⟩,
       ⟨some 13, .mov, [.tmp 26], none, 0, []⟩]) (.seq (.seq (.region false 0 [
       ⟨some 27, .fieldAddr 0 0, [.tmp 10], none, 0, []⟩,
       ⟨some 28, .load false 1, [.tmp 27], none, 0, []⟩]) (.cond (.tmp 28) (.region false 1 [
        ⟨some 30, .load true 3, [.tmp 3], none, 0, []⟩,
        ⟨some 31, .mov, [.tmp 13], none, 0, []⟩,
        ⟨some 32, .bin .quo, [.tmp 31, .cst (.int .i64 64)], none, 0, []⟩,
        ⟨some 33, .load true 2, [.tmp 5], none, 0, []⟩,
        ⟨some 34, .callS 28, [.tmp 30, .tmp 32, .tmp 33], none, 0, []⟩,
        ⟨some 29, .mov, [.tmp 34], none, 0, []⟩,
        ⟨some 35, .extract 0, [.tmp 29], none, 0, []⟩,
        ⟨some 36, .extract 1, [.tmp 29], none, 0, []⟩,
        ⟨some 37, .extract 2, [.tmp 29], none, 0, []⟩,
        ⟨none, .store 3, [.tmp 11, .tmp 35], none, 0, []⟩,
        ⟨none, .store 2, [.tmp 5, .tmp 36], none, 0, []⟩,
        ⟨some 12, .mov, [.tmp 37], none, 0, []⟩]) (.region false 1 [
        ⟨some 39, .load true 3, [.tmp 3], none, 0, []⟩,
        ⟨some 40, .mov, [.tmp 13], none, 0, []⟩,
        ⟨some 41, .fieldAddr 2 2, [.tmp 10], none, 0, []⟩,
        ⟨some 42, .load false 1, [.tmp 41], none, 0, []⟩,
        ⟨some 43, .load true 2, [.tmp 5], none, 0, []⟩,
        ⟨some 44, .callS 19, [.tmp 39, .tmp 40, .tmp 42, .tmp 43], none, 0, []⟩,
        ⟨some 38, .mov, [.tmp 44], none, 0, []⟩,
        ⟨some 45, .extract 0, [.tmp 38], none, 0, []⟩,
        ⟨some 46, .extract 1, [.tmp 38], none, 0, []⟩,
        ⟨some 47, .extract 2, [.tmp 38], none, 0, []⟩,
        ⟨none, .store 3, [.tmp 11, .tmp 45], none, 0, []⟩,
        ⟨none, .store 2, [.tmp 5, .tmp 46], none, 0, []⟩,
        ⟨some 12, .mov, [.tmp 47], none, 0, []⟩]))) (.seq (.seq (.region false 0 [
       ⟨some 48, .mov, [.tmp 12], none, 0, []⟩,
       ⟨some 49, .bin .neq, [.tmp 48, .cst (.int .i64 0)], none, 0, []⟩]) (.cond (.tmp 49) (.seq (.region true 0 [
        ⟨some 50, .load true 3, [.tmp 11], none, 0, []⟩,
        ⟨some 51, .load true 2, [.tmp 5], none, 0, []⟩,
        ⟨some 52, .mov, [.tmp 12], none, 0, []⟩,
        ⟨none, .store 3, [.tmp 6, .tmp 50], none, 0, [0]⟩,
        ⟨none, .store 2, [.tmp 7, .tmp 51], none, 0, [1, 3, 0]⟩,
        ⟨some 8, .mov, [.tmp 52], none, 0, [2, 4, 1, 3, 0]⟩]) (.ret)) (.skip))) (.seq (.seq (.region false 1 [
       ⟨some 53, .load true 3, [.tmp 3], none, 0, []⟩,
       ⟨some 54, .load true 3, [.tmp 11], none, 0, []⟩,
       ⟨some 55, .callS 23, [.tmp 53, .tmp 54], none, 0, []⟩,
       ⟨some 56, .not, [.tmp 55], none, 0, []⟩]) (.cond (.tmp 56) (.seq (.region true 0 [
        ⟨some 57, .load true 3, [.tmp 11], none, 0, []⟩,
        ⟨some 58, .load true 2, [.tmp 5], none, 0, []⟩,
        ⟨none, .store 3, [.tmp 6, .tmp 57], none, 0, [0]⟩,
        ⟨none, .store 2, [.tmp 7, .tmp 58], none, 0, [1, 2, 0]⟩,
        ⟨some 8, .mov, [.cst (.int .i64 3)], none, 0, [3, 1, 2, 0]⟩]) (.ret)) (.skip))) (.region false 0 [
       ⟨some 59, .load true 3, [.tmp 11], none, 0, []⟩,
       ⟨none, .store 3, [.tmp 3, .tmp 59], none, 0, []⟩]))))))))) (.region false 0 [
      ⟨some 60, .bin .add, [.tmp 16, .cst (.int .i64 1)], none, 0, []⟩,
      ⟨some 16, .mov, [.tmp 60], none, 0, []⟩]))))
def ir30_v0 : List Nat := [3, 5, 6, 7, 14, 15, 16]
def ir30_t {R : Type} (o0 : St → (Ex → St → Option R) → Option R) : LT R := (.node .nil (.node (.node .nil (.node (.orc o0) .nil)) .nil))
def ir30 : IFn :=
  { ntmps := 63, results := [.inr (6, true, 3), .inr (7, true, 2), .inl 8], body := (.seq (.region false 4 [
    ⟨some 3, .box 25, [.tmp 0], none, 0, []⟩,
    ⟨some 5, .box 36, [.tmp 2], none, 0, []⟩,
    ⟨some 6, .alloc 25 (.pair (.nil 34 (.int .u32)) (.pair (.nil 3 (.int .i64)) (.pure (.pair (.int .i64) .unit) (0, ())))), [], none, 0, []⟩,
    ⟨some 7, .alloc 36 (.pure (.pair (.int .i64) (.pair (.int .u32) .unit)) (0, (0, ()))), [], none, 0, []⟩,
    ⟨some 8, .mov, [.cst (.int .i64 0)], none, 0, []⟩]) (.seq (.seq (.region false 0 [
    ⟨some 14, .mov, [.tmp 1], none, 0, []⟩,
    ⟨some 15, .len, [.tmp 14], none, 0, []⟩,
    ⟨some 16, .mov, [.cst (.int .i64 0)], none, 0, []⟩]) (.block 0 (.loop ir30_v0 ir30_b0))) (.seq (.region true 0 [
    ⟨some 61, .load true 3, [.tmp 3], none, 0, []⟩,
    ⟨some 62, .load true 2, [.tmp 5], none, 0, []⟩,
    ⟨none, .store 3, [.tmp 6, .tmp 61], none, 0, [0]⟩,
    ⟨none, .store 2, [.tmp 7, .tmp 62], none, 0, [1, 2, 0]⟩,
    ⟨some 8, .mov, [.cst (.int .i64 0)], none, 0, [3, 1, 2, 0]⟩]) (.ret)))) }
theorem ir30_tok {R : Type} {summ : Nat → Option Summ} {fu : Nat} {call : Nat → List CV → List Blk → (CV → List Blk → Option R) → Option R} {o0 : St → (Ex → St → Option R) → Option R} (h0 : ∀ T k r, o0 T k = some r → evLoopN (evCode summ fu call ir30_b0) (St.norm ir30_v0) fu T k = some r) : LTok summ fu call (ir30_t o0) ir30.body := ⟨trivial, ⟨⟨trivial, h0⟩, trivial⟩⟩


def ir31 : IFn :=
  { ntmps := 31, results := [.inr (7, true, 3), .inr (8, true, 2), .inl 9], body := (.seq (.region false 2 [
    ⟨some 7, .alloc 25 (.pair (.nil 34 (.int .u32)) (.pair (.nil 3 (.int .i64)) (.pure (.pair (.int .i64) .unit) (0, ())))), [], none, 0, []⟩,
    ⟨some 8, .alloc 36 (.pure (.pair (.int .i64) (.pair (.int .u32) .unit)) (0, (0, ()))), [], none, 0, []⟩,
    ⟨some 9, .mov, [.cst (.int .i64 0)], none, 0, []⟩]) (.seq (.region false 1 [
    ⟨some 11, .mov, [.tmp 0], none, 0, []⟩,
    ⟨some 12, .load false 1, [.tmp 1], none, 0, []⟩,
    ⟨some 13, .build [((.int .i64 0), 1), ((.int .u32 0), 1)] [0, 1], [.tmp 11, .tmp 12], none, 0, []⟩,
    ⟨some 10, .alloc 36 (.pure (.pair (.int .i64) (.pair (.int .u32) .unit)) (0, (0, ()))), [], none, 0, []⟩,
    ⟨none, .store 2, [.tmp 10, .tmp 13], none, 0, []⟩]) (.seq (.seq (.region false 0 [
    ⟨some 14, .load false 1, [.tmp 2], none, 0, []⟩]) (.cond (.tmp 14) (.seq (.region false 1 [
     ⟨some 15, .load true 3, [.tmp 3], none, 0, []⟩,
     ⟨some 16, .load false 1, [.tmp 4], none, 0, []⟩,
     ⟨some 17, .bin .quo, [.tmp 16, .cst (.int .i64 64)], none, 0, []⟩,
     ⟨some 18, .load true 2, [.tmp 10], none, 0, []⟩,
     ⟨some 19, .callS 28, [.tmp 15, .tmp 17, .tmp 18], none, 0, []⟩,
     ⟨some 20, .extract 0, [.tmp 19], none, 0, []⟩,
     ⟨some 21, .extract 1, [.tmp 19], none, 0, []⟩,
     ⟨some 22, .extract 2, [.tmp 19], none, 0, []⟩,
     ⟨none, .store 3, [.tmp 7, .tmp 20], none, 0, []⟩,
     ⟨none, .store 2, [.tmp 8, .tmp 21], none, 0, []⟩,
     ⟨some 9, .mov, [.tmp 22], none, 0, []⟩]) (.ret)) (.skip))) (.seq (.region false 1 [
    ⟨some 23, .load true 3, [.tmp 3], none, 0, []⟩,
    ⟨some 24, .load false 1, [.tmp 4], none, 0, []⟩,
    ⟨some 25, .load false 1, [.tmp 5], none, 0, []⟩,
    ⟨some 26, .load true 2, [.tmp 10], none, 0, []⟩,
    ⟨some 27, .callS 19, [.tmp 23, .tmp 24, .tmp 25, .tmp 26], none, 0, []⟩,
    ⟨some 28, .extract 0, [.tmp 27], none, 0, []⟩,
    ⟨some 29, .extract 1, [.tmp 27], none, 0, []⟩,
    ⟨some 30, .extract 2, [.tmp 27], none, 0, []⟩,
    ⟨none, .store 3, [.tmp 7, .tmp 28], none, 0, []⟩,
    ⟨none, .store 2, [.tmp 8, .tmp 29], none, 0, []⟩,
    ⟨some 9, .mov, [.tmp 30], none, 0, []⟩]) (.ret))))) }


def ir32_b0 : IC := (.seq (.seq (.region false 0 [
      ⟨some 34, .mov, [.tmp 8], none, 0, []⟩,
      ⟨some 35, .mov, [.tmp 7], none, 0, []⟩,
      ⟨some 36, .len, [.tmp 35], none, 0, []⟩,
      ⟨some 37, .bin .lss, [.tmp 34, .tmp 36], none, 0, []⟩]) (.cond (.tmp 37) (.skip) (.exit 0))) (.block 1 (.region true 0 [
       ⟨some 38, .mov, [.tmp 8], none, 0, []⟩,
       ⟨some 39, .mov, [.tmp 7], none, 0, []⟩,
       ⟨some 40, .mov, [.tmp 8], none, 0, []⟩,
       ⟨some 41, .slice 1 true false, [.tmp 39, .tmp 40], none, 0, [1, 2]⟩,
       ⟨some 42, .mov, [.tmp 7], none, 0, []⟩,
       ⟨some 43, .mov, [.tmp 8], none, 0, []⟩,
       ⟨some 44, .slice 1 false true, [.tmp 42, .tmp 43], none, 0, [4, 5]⟩,
       ⟨some 45, .copy (.int .u32), [.tmp 41, .tmp 44], none, 0, [3, 1, 2, 6, 4, 5]⟩,
       ⟨some 46, .bin .add, [.tmp 38, .tmp 45], none, 0, [0, 7, 3, 1, 2, 6, 4, 5]⟩,
       ⟨some 8, .mov, [.tmp 46], none, 0, [8, 0, 7, 3, 1, 2, 6, 4, 5]⟩])))
def ir32_v0 : List Nat := [7, 8]
def ir32_t {R : Type} (o0 : St → (Ex → St → Option R) → Option R) : LT R := (.node .nil (.node .nil (.node .nil (.node .nil (.node .nil (.node .nil (.node (.node (.orc o0) .nil) .nil)))))))
def ir32 : IFn :=
  { ntmps := 48, results := [.inl 4], body := (.seq (.region false 0 [
    ⟨some 4, .mov, [.cst (.nil 34 (.int .u32))], none, 0, []⟩]) (.seq (.seq (.region false 0 [
    ⟨some 9, .mov, [.tmp 1], none, 0, []⟩,
    ⟨some 10, .bin .lss, [.tmp 9, .cst (.int .i64 0)], none, 0, []⟩]) (.cond (.tmp 10) (.region false 0 [
     ⟨some 11, .bad, [], none, 0, []⟩,
     ⟨none, .bad, [], none, 0, []⟩]) (.skip))) (.seq (.region false 0 [
    ⟨some 13, .mov, [.tmp 0], none, 0, []⟩,
    ⟨some 14, .len, [.tmp 13], none, 0, []⟩,
    ⟨some 15, .conv .u64, [.tmp 14], none, 0, []⟩,
    ⟨some 16, .mov, [.tmp 1], none, 0, []⟩,
    ⟨some 17, .conv .u64, [.tmp 16], none, 0, []⟩,
    ⟨some 18, .call 46, [.tmp 15, .tmp 17], none, 0, []⟩,
    ⟨some 12, .mov, [.tmp 18], none, 0, []⟩,
    ⟨some 19, .extract 0, [.tmp 12], none, 0, []⟩,
    ⟨some 20, .extract 1, [.tmp 12], none, 0, []⟩,
    ⟨some 5, .mov, [.tmp 19], none, 0, []⟩,
    ⟨some 6, .mov, [.tmp 20], none, 0, []⟩]) (.seq (.seq (.region false 0 [
    ⟨some 21, .mov, [.tmp 5], none, 0, []⟩,
    ⟨some 22, .bin .gtr, [.tmp 21, .cst (.int .u64 0)], none, 0, []⟩,
    ⟨some 23, .mov, [.tmp 22], none, 0, []⟩,
    ⟨some 24, .mov, [.tmp 6], some (23, false), 0, []⟩,
    ⟨some 25, .bin .gtr, [.tmp 24, .cst (.int .u64 9223372036854775807)], some (23, false), 0, []⟩,
    ⟨some 26, .pick, [.tmp 23, .cst (.bool true), .tmp 25], none, 0, []⟩]) (.cond (.tmp 26) (.region false 0 [
     ⟨some 27, .bad, [], none, 0, []⟩,
     ⟨none, .bad, [], none, 0, []⟩]) (.skip))) (.seq (.region false 1 [
    ⟨some 28, .mov, [.tmp 6], none, 0, []⟩,
    ⟨some 29, .conv .i64, [.tmp 28], none, 0, []⟩,
    ⟨some 30, .mkSlice 34 (.int .u32) 4, [.tmp 29, .tmp 29], none, 0, []⟩,
    ⟨some 7, .mov, [.tmp 30], none, 0, []⟩]) (.seq (.region false 0 [
    ⟨some 31, .mov, [.tmp 7], none, 0, []⟩,
    ⟨some 32, .mov, [.tmp 0], none, 0, []⟩,
    ⟨some 33, .copy (.int .u32), [.tmp 31, .tmp 32], none, 0, []⟩,
    ⟨some 8, .mov, [.tmp 33], none, 0, []⟩]) (.seq (.block 0 (.loop ir32_v0 ir32_b0)) (.seq (.region false 0 [
    ⟨some 47, .mov, [.tmp 7], none, 0, []⟩,
    ⟨some 4, .mov, [.tmp 47], none, 0, []⟩]) (.ret))))))))) }
theorem ir32_tok {R : Type} {summ : Nat → Option Summ} {fu : Nat} {call : Nat → List CV → List Blk → (CV → List Blk → Option R) → Option R} {o0 : St → (Ex → St → Option R) → Option R} (h0 : ∀ T k r, o0 T k = some r → evLoopN (evCode summ fu call ir32_b0) (St.norm ir32_v0) fu T k = some r) : LTok summ fu call (ir32_t o0) ir32.body := ⟨trivial, ⟨trivial, ⟨trivial, ⟨trivial, ⟨trivial, ⟨trivial, ⟨h0, trivial⟩⟩⟩⟩⟩⟩⟩


def ir33 : IFn :=
  { ntmps := 9, results := [.inl 2], body := (.seq (.region false 0 [
    ⟨some 2, .mov, [.cst (.bool false)], none, 0, []⟩]) (.seq (.region false 0 [
    ⟨some 3, .mov, [.tmp 0], none, 0, []⟩,
    ⟨some 4, .bin .geq, [.tmp 3, .cst (.int .i64 1)], none, 0, []⟩,
    ⟨some 5, .mov, [.tmp 4], none, 0, []⟩,
    ⟨some 6, .mov, [.tmp 0], some (5, true), 0, []⟩,
    ⟨some 7, .bin .leq, [.tmp 6, .cst (.int .i64 1000000)], some (5, true), 0, []⟩,
    ⟨some 8, .pick, [.tmp 5, .tmp 7, .cst (.bool false)], none, 0, []⟩,
    ⟨some 2, .mov, [.tmp 8], none, 0, []⟩]) (.ret))) }


def ir34 : IFn :=
  { ntmps := 9, results := [.inl 4], body := (.seq (.region false 0 [
    ⟨some 4, .mov, [.cst (.bool false)], none, 0, []⟩]) (.seq (.region false 0 [
    ⟨some 5, .mov, [.tmp 0], none, 0, []⟩,
    ⟨some 6, .mov, [.tmp 1], none, 0, []⟩,
    ⟨some 7, .call 47, [.tmp 5, .tmp 6], none, 0, []⟩,
    ⟨some 8, .bin .geq, [.tmp 7, .cst (.int .i64 0)], none, 0, []⟩,
    ⟨some 4, .mov, [.tmp 8], none, 0, []⟩]) (.ret))) }


def ir35 : IFn :=
  { ntmps := 12, results := [.inl 3], body := (.seq (.region false 0 [
    ⟨some 3, .mov, [.cst (.bool false)], none, 0, []⟩]) (.seq (.region false 0 [
    ⟨some 4, .mov, [.tmp 0], none, 0, []⟩,
    ⟨some 5, .bin .lss, [.tmp 4, .cst (.int .i64 0)], none, 0, []⟩,
    ⟨some 6, .mov, [.tmp 5], none, 0, []⟩,
    ⟨some 7, .mov, [.tmp 0], some (6, false), 0, []⟩,
    ⟨some 8, .fieldAddr 2 2, [.tmp 1], some (6, false), 0, []⟩,
    ⟨some 9, .load false 1, [.tmp 8], some (6, false), 0, []⟩,
    ⟨some 10, .bin .gtr, [.tmp 7, .tmp 9], some (6, false), 0, []⟩,
    ⟨some 11, .pick, [.tmp 6, .cst (.bool true), .tmp 10], none, 0, []⟩,
    ⟨some 3, .mov, [.tmp 11], none, 0, []⟩]) (.ret))) }


def ir36 : IFn :=
  { ntmps := 31, results := [.inl 8], body := (.seq (.region false 2 [
    ⟨some 4, .box 25, [.tmp 0], none, 0, []⟩,
    ⟨some 5, .box 36, [.tmp 1], none, 0, []⟩,
    ⟨some 8, .mov, [.cst (.int .i64 0)], none, 0, []⟩]) (.seq (.block 0 (.seq (.region false 1 [
     ⟨some 10, .load true 3, [.tmp 4], none, 0, []⟩,
     ⟨some 11, .callS 16, [.tmp 10], none, 0, []⟩,
     ⟨some 12, .not, [.tmp 11], none, 0, []⟩,
     ⟨some 13, .mov, [.tmp 12], none, 0, []⟩,
     ⟨some 14, .fieldAddr 0 0, [.tmp 5], some (13, false), 0, []⟩,
     ⟨some 15, .load false 1, [.tmp 14], some (13, false), 0, []⟩,
     ⟨some 16, .bin .lss, [.tmp 15, .cst (.int .i64 0)], some (13, false), 0, []⟩,
     ⟨some 17, .pick, [.tmp 13, .cst (.bool true), .tmp 16], none, 0, []⟩,
     ⟨some 18, .mov, [.tmp 17], none, 0, []⟩,
     ⟨some 19, .fieldAddr 0 0, [.tmp 5], some (18, false), 0, []⟩,
     ⟨some 20, .load false 1, [.tmp 19], some (18, false), 0, []⟩,
     ⟨some 21, .bin .gtr, [.tmp 20, .cst (.int .i64 1099511627776)], some (18, false), 0, []⟩,
     ⟨some 22, .pick, [.tmp 18, .cst (.bool true), .tmp 21], none, 0, []⟩,
     ⟨some 9, .mov, [.tmp 22], none, 0, []⟩]) (.cond (.tmp 9) (.seq (.region false 0 [
      ⟨some 8, .mov, [.cst (.int .i64 1)], none, 0, []⟩]) (.ret)) (.seq (.region false 0 [
      ⟨some 24, .mov, [.tmp 2], none, 0, []⟩,
      ⟨some 25, .bin .lss, [.tmp 24, .cst (.int .i64 0)], none, 0, []⟩,
      ⟨some 26, .mov, [.tmp 25], none, 0, []⟩,
      ⟨some 27, .mov, [.tmp 2], some (26, false), 0, []⟩,
      ⟨some 28, .mov, [.tmp 3], some (26, false), 0, []⟩,
      ⟨some 29, .bin .geq, [.tmp 27, .tmp 28], some (26, false), 0, []⟩,
      ⟨some 30, .pick, [.tmp 26, .cst (.bool true), .tmp 29], none, 0, []⟩,
      ⟨some 23, .mov, [.tmp 30], none, 0, []⟩]) (.cond (.tmp 23) (.seq (.region false 0 [
       ⟨some 8, .mov, [.cst (.int .i64 2)], none, 0, []⟩]) (.ret)) (.skip)))))) (.seq (.region false 0 [
    ⟨some 8, .mov, [.cst (.int .i64 0)], none, 0, []⟩]) (.ret)))) }


def ir37 : IFn :=
  { ntmps := 44, results := [.inr (6, true, 3), .inr (7, true, 2), .inl 8], body := (.seq (.region false 4 [
    ⟨some 3, .box 25, [.tmp 0], none, 0, []⟩,
    ⟨some 4, .box 36, [.tmp 1], none, 0, []⟩,
    ⟨some 6, .alloc 25 (.pair (.nil 34 (.int .u32)) (.pair (.nil 3 (.int .i64)) (.pure (.pair (.int .i64) .unit) (0, ())))), [], none, 0, []⟩,
    ⟨some 7, .alloc 36 (.pure (.pair (.int .i64) (.pair (.int .u32) .unit)) (0, (0, ()))), [], none, 0, []⟩,
    ⟨some 8, .mov, [.cst (.int .i64 0)], none, 0, []⟩]) (.seq (.region true 3 [
    ⟨some 10, .fieldAddr 0 0, [.tmp 3], none, 0, []⟩,
    ⟨some 11, .load false 1, [.tmp 10], none, 0, [0]⟩,
    ⟨some 12, .callS 21, [.tmp 11], none, 0, [1, 0]⟩,
    ⟨some 13, .fieldAddr 1 1, [.tmp 3], none, 1, []⟩,
    ⟨some 14, .load false 1, [.tmp 13], none, 1, [3]⟩,
    ⟨some 15, .callS 48, [.tmp 14], none, 1, [4, 3, 2, 1, 0]⟩,
    ⟨some 16, .fieldAddr 2 2, [.tmp 3], none, 2, []⟩,
    ⟨some 17, .load false 1, [.tmp 16], none, 2, [6]⟩,
    ⟨some 18, .build [((.nil 34 (.int .u32)), 1), ((.nil 3 (.int .i64)), 1), ((.int .i64 0), 1)] [0, 1, 2], [.tmp 12, .tmp 15, .tmp 17], none, 2, [2, 1, 0, 5, 4, 3, 7, 6]⟩,
    ⟨some 9, .alloc 25 (.pair (.nil 34 (.int .u32)) (.pair (.nil 3 (.int .i64)) (.pure (.pair (.int .i64) .unit) (0, ())))), [], none, 2, []⟩,
    ⟨none, .store 3, [.tmp 9, .tmp 18], none, 3, [9, 8, 2, 1, 0, 5, 4, 3, 7, 6]⟩]) (.seq (.seq (.region false 0 [
    ⟨some 19, .fieldAddr 0 0, [.tmp 4], none, 0, []⟩,
    ⟨some 20, .load false 1, [.tmp 19], none, 0, []⟩]) (.block 0 (.seq (.region false 0 [
     ⟨some 22, .bin .eql, [.tmp 20, .cst (.int .i64 0)], none, 0, []⟩,
     ⟨some 21, .mov, [.tmp 22], none, 0, []⟩]) (.cond (.tmp 21) (.seq (.region true 0 [
      ⟨some 23, .load true 3, [.tmp 9], none, 0, []⟩,
      ⟨some 24, .load true 2, [.tmp 4], none, 0, []⟩,
      ⟨none, .store 3, [.tmp 6, .tmp 23], none, 0, [0]⟩,
      ⟨none, .store 2, [.tmp 7, .tmp 24], none, 0, [1, 2, 0]⟩,
      ⟨some 8, .mov, [.cst (.int .i64 18)], none, 0, [3, 1, 2, 0]⟩]) (.ret)) (.seq (.region false 0 [
      ⟨some 26, .bin .eql, [.tmp 20, .cst (.int .i64 1)], none, 0, []⟩,
      ⟨some 25, .mov, [.tmp 26], none, 0, []⟩]) (.cond (.tmp 25) (.seq (.region false 0 [
       ⟨some 27, .fieldAddr 0 0, [.tmp 4], none, 0, []⟩,
       ⟨none, .store 1, [.tmp 27, .cst (.int .i64 0)], none, 0, []⟩]) (.seq (.region false 0 [
       ⟨some 28, .mov, [.tmp 2], none, 0, []⟩,
       ⟨some 29, .load true 3, [.tmp 9], none, 0, []⟩,
       ⟨some 30, .fieldAddr 1 1, [.tmp 4], none, 0, []⟩,
       ⟨some 31, .load false 1, [.tmp 30], none, 0, []⟩,
       ⟨some 32, .callv, [.tmp 28, .tmp 29, .tmp 31], none, 0, []⟩]) (.seq (.region true 0 [
       ⟨some 33, .load true 3, [.tmp 9], none, 0, []⟩,
       ⟨some 34, .load true 2, [.tmp 4], none, 0, []⟩,
       ⟨none, .store 3, [.tmp 6, .tmp 33], none, 0, [0]⟩,
       ⟨none, .store 2, [.tmp 7, .tmp 34], none, 0, [1, 2, 0]⟩,
       ⟨some 8, .mov, [.cst (.int .i64 18)], none, 0, [3, 1, 2, 0]⟩]) (.ret)))) (.skip))))))) (.seq (.region false 0 [
    ⟨some 35, .fieldAddr 0 0, [.tmp 4], none, 0, []⟩,
    ⟨some 36, .load false 1, [.tmp 35], none, 0, []⟩,
    ⟨some 37, .bin .sub, [.tmp 36, .cst (.int .i64 1)], none, 0, []⟩,
    ⟨some 38, .fieldAddr 0 0, [.tmp 4], none, 0, []⟩,
    ⟨none, .store 1, [.tmp 38, .tmp 37], none, 0, []⟩]) (.seq (.region false 0 [
    ⟨some 39, .mov, [.tmp 2], none, 0, []⟩,
    ⟨some 40, .load true 3, [.tmp 9], none, 0, []⟩,
    ⟨some 41, .callv, [.tmp 39, .tmp 40, .cst (.int .u32 4294967295)], none, 0, []⟩]) (.seq (.region true 0 [
    ⟨some 42, .load true 3, [.tmp 9], none, 0, []⟩,
    ⟨some 43, .load true 2, [.tmp 4], none, 0, []⟩,
    ⟨none, .store 3, [.tmp 6, .tmp 42], none, 0, [0]⟩,
    ⟨none, .store 2, [.tmp 7, .tmp 43], none, 0, [1, 2, 0]⟩,
    ⟨some 8, .mov, [.cst (.int .i64 0)], none, 0, [3, 1, 2, 0]⟩]) (.ret))))))) }


def ir38 : IFn :=
  { ntmps := 16, results := [], body := (.seq (.region false 1 [
    ⟨some 4, .box 25, [.tmp 0], none, 0, []⟩]) (.region true 0 [
    ⟨some 6, .fieldAddr 0 0, [.tmp 4], none, 0, []⟩,
    ⟨some 7, .load false 1, [.tmp 6], none, 0, [0]⟩,
    ⟨some 8, .load false 1, [.tmp 2], none, 0, []⟩,
    ⟨some 9, .idxSl 1, [.tmp 7, .tmp 8], none, 0, [1, 0, 2]⟩,
    ⟨some 10, .load false 1, [.tmp 9], none, 0, [3, 1, 0, 2]⟩,
    ⟨some 11, .mov, [.tmp 1], none, 0, []⟩,
    ⟨some 12, .load false 1, [.tmp 3], none, 0, []⟩,
    ⟨some 13, .bin .andNot, [.tmp 11, .tmp 12], none, 0, [5, 6]⟩,
    ⟨some 14, .bin .andNot, [.tmp 10, .tmp 13], none, 0, [4, 3, 1, 0, 2, 7, 5, 6]⟩,
    ⟨some 15, .idxSl 1, [.tmp 7, .tmp 8], none, 0, [1, 0, 2, 3, 4, 5, 6, 7, 8]⟩,
    ⟨none, .store 1, [.tmp 15, .tmp 14], none, 0, [9, 1, 0, 2, 3, 4, 5, 6, 7, 8]⟩])) }


def ir39 : IFn :=
  { ntmps := 11, results := [.inl 2], body := (.seq (.region false 1 [
    ⟨some 1, .box 36, [.tmp 0], none, 0, []⟩,
    ⟨some 2, .mov, [.cst (.bool false)], none, 0, []⟩]) (.seq (.region false 0 [
    ⟨some 3, .fieldAddr 0 0, [.tmp 1], none, 0, []⟩,
    ⟨some 4, .load false 1, [.tmp 3], none, 0, []⟩,
    ⟨some 5, .bin .geq, [.tmp 4, .cst (.int .i64 0)], none, 0, []⟩,
    ⟨some 6, .mov, [.tmp 5], none, 0, []⟩,
    ⟨some 7, .fieldAddr 0 0, [.tmp 1], some (6, true), 0, []⟩,
    ⟨some 8, .load false 1, [.tmp 7], some (6, true), 0, []⟩,
    ⟨some 9, .bin .leq, [.tmp 8, .cst (.int .i64 1099511627776)], some (6, true), 0, []⟩,
    ⟨some 10, .pick, [.tmp 6, .tmp 9, .cst (.bool false)], none, 0, []⟩,
    ⟨some 2, .mov, [.tmp 10], none, 0, []⟩]) (.ret))) }


def ir40 : IFn :=
  { ntmps := 23, results := [.inl 2, .inr (3, true, 2), .inl 4], body := (.seq (.region false 2 [
    ⟨some 1, .box 36, [.tmp 0], none, 0, []⟩,
    ⟨some 2, .mov, [.cst (.int .u32 0)], none, 0, []⟩,
    ⟨some 3, .alloc 36 (.pure (.pair (.int .i64) (.pair (.int .u32) .unit)) (0, (0, ()))), [], none, 0, []⟩,
    ⟨some 4, .mov, [.cst (.int .i64 0)], none, 0, []⟩]) (.seq (.region false 0 [
    ⟨some 5, .mov, [.cst (.int .u32 4294967295)], none, 0, []⟩]) (.seq (.region false 0 [
    ⟨some 6, .mov, [.cst (.int .i64 0)], none, 0, []⟩]) (.seq (.seq (.region false 0 [
    ⟨some 7, .fieldAddr 0 0, [.tmp 1], none, 0, []⟩,
    ⟨some 8, .load false 1, [.tmp 7], none, 0, []⟩,
    ⟨some 9, .bin .lss, [.tmp 8, .cst (.int .i64 2)], none, 0, []⟩]) (.cond (.tmp 9) (.region false 0 [
     ⟨some 10, .fieldAddr 1 1, [.tmp 1], none, 0, []⟩,
     ⟨some 11, .load false 1, [.tmp 10], none, 0, []⟩,
     ⟨some 5, .mov, [.tmp 11], none, 0, []⟩,
     ⟨some 6, .mov, [.cst (.int .i64 18)], none, 0, []⟩]) (.skip))) (.seq (.seq (.region false 0 [
    ⟨some 12, .fieldAddr 0 0, [.tmp 1], none, 0, []⟩,
    ⟨some 13, .load false 1, [.tmp 12], none, 0, []⟩,
    ⟨some 14, .bin .lss, [.tmp 13, .cst (.int .i64 1)], none, 0, []⟩]) (.cond (.tmp 14) (.region false 0 [
     ⟨some 5, .mov, [.cst (.int .u32 0)], none, 0, []⟩]) (.skip))) (.seq (.region false 0 [
    ⟨some 15, .fieldAddr 0 0, [.tmp 1], none, 0, []⟩,
    ⟨some 16, .load false 1, [.tmp 15], none, 0, []⟩,
    ⟨some 17, .bin .sub, [.tmp 16, .cst (.int .i64 1)], none, 0, []⟩,
    ⟨some 18, .max, [.cst (.int .i64 0), .tmp 17], none, 0, []⟩,
    ⟨some 19, .fieldAddr 0 0, [.tmp 1], none, 0, []⟩,
    ⟨none, .store 1, [.tmp 19, .tmp 18], none, 0, []⟩]) (.seq (.region true 0 [
    ⟨some 20, .mov, [.tmp 5], none, 0, []⟩,
    ⟨some 21, .load true 2, [.tmp 1], none, 0, []⟩,
    ⟨some 22, .mov, [.tmp 6], none, 0, []⟩,
    ⟨some 2, .mov, [.tmp 20], none, 0, [0]⟩,
    ⟨none, .store 2, [.tmp 3, .tmp 21], none, 0, [1, 3, 0]⟩,
    ⟨some 4, .mov, [.tmp 22], none, 0, [2, 4, 1, 3, 0]⟩]) (.ret)))))))) }


def ir41_b0 : IC := (.seq (.seq (.region false 0 [
      ⟨some 9, .mov, [.tmp 4], none, 0, []⟩,
      ⟨some 10, .fieldAddr 0 0, [.tmp 1], none, 0, []⟩,
      ⟨some 11, .load false 1, [.tmp 10], none, 0, []⟩,
      ⟨some 12, .len, [.tmp 11], none, 0, []⟩,
      ⟨some 13, .bin .lss, [.tmp 9, .tmp 12], none, 0, []⟩]) (.cond (.tmp 13) (.skip) (.exit 0))) (.seq (.block 1 (.region true 2 [
       ⟨some 16, .fieldAddr 0 0, [.tmp 3], none, 0, []⟩,
       ⟨some 17, .load false 1, [.tmp 16], none, 0, [0]⟩,
       ⟨some 18, .fieldAddr 0 0, [.tmp 1], none, 0, []⟩,
       ⟨some 19, .load false 1, [.tmp 18], none, 0, [2]⟩,
       ⟨some 20, .mov, [.tmp 4], none, 0, []⟩,
       ⟨some 21, .idxSl 1, [.tmp 19, .tmp 20], none, 0, [3, 2, 4]⟩,
       ⟨some 22, .load false 1, [.tmp 21], none, 0, [5, 3, 2, 4]⟩,
       ⟨some 23, .buildSl 34 (.int .u32) 1, [.tmp 22], none, 0, [6, 5, 3, 2, 4]⟩,
       ⟨some 24, .append 34 (.int .u32) 4, [.tmp 17, .tmp 23], none, 1, [1, 0, 7, 6, 5, 3, 2, 4]⟩,
       ⟨some 25, .fieldAddr 0 0, [.tmp 3], none, 2, [0, 1, 2, 3, 4, 5, 6, 7, 8]⟩,
       ⟨none, .store 1, [.tmp 25, .tmp 24], none, 2, [9, 0, 1, 2, 3, 4, 5, 6, 7, 8]⟩])) (.region false 0 [
      ⟨some 14, .mov, [.tmp 4], none, 0, []⟩,
      ⟨some 15, .bin .add, [.tmp 14, .cst (.int .i64 1)], none, 0, []⟩,
      ⟨some 4, .mov, [.tmp 15], none, 0, []⟩])))
def ir41_v0 : List Nat := [1, 2, 3, 4]
def ir41_b1 : IC := (.seq (.seq (.region false 0 [
      ⟨some 26, .mov, [.tmp 5], none, 0, []⟩,
      ⟨some 27, .fieldAddr 1 1, [.tmp 1], none, 0, []⟩,
      ⟨some 28, .load false 1, [.tmp 27], none, 0, []⟩,
      ⟨some 29, .len, [.tmp 28], none, 0, []⟩,
      ⟨some 30, .bin .lss, [.tmp 26, .tmp 29], none, 0, []⟩]) (.cond (.tmp 30) (.skip) (.exit 2))) (.seq (.block 3 (.region true 2 [
       ⟨some 33, .fieldAddr 1 1, [.tmp 3], none, 0, []⟩,
       ⟨some 34, .load false 1, [.tmp 33], none, 0, [0]⟩,
       ⟨some 35, .fieldAddr 1 1, [.tmp 1], none, 0, []⟩,
       ⟨some 36, .load false 1, [.tmp 35], none, 0, [2]⟩,
       ⟨some 37, .mov, [.tmp 5], none, 0, []⟩,
       ⟨some 38, .idxSl 1, [.tmp 36, .tmp 37], none, 0, [3, 2, 4]⟩,
       ⟨some 39, .load false 1, [.tmp 38], none, 0, [5, 3, 2, 4]⟩,
       ⟨some 40, .buildSl 3 (.int .i64) 1, [.tmp 39], none, 0, [6, 5, 3, 2, 4]⟩,
       ⟨some 41, .append 3 (.int .i64) 8, [.tmp 34, .tmp 40], none, 1, [1, 0, 7, 6, 5, 3, 2, 4]⟩,
       ⟨some 42, .fieldAddr 1 1, [.tmp 3], none, 2, [0, 1, 2, 3, 4, 5, 6, 7, 8]⟩,
       ⟨none, .store 1, [.tmp 42, .tmp 41], none, 2, [9, 0, 1, 2, 3, 4, 5, 6, 7, 8]⟩])) (.region false 0 [
      ⟨some 31, .mov, [.tmp 5], none, 0, []⟩,
      ⟨some 32, .bin .add, [.tmp 31, .cst (.int .i64 1)], none, 0, []⟩,
      ⟨some 5, .mov, [.tmp 32], none, 0, []⟩])))
def ir41_v1 : List Nat := [1, 2, 3, 5]
def ir41_t {R : Type} (o0 o1 : St → (Ex → St → Option R) → Option R) : LT R := (.node .nil (.node .nil (.node (.node .nil (.node (.orc o0) .nil)) (.node (.node .nil (.node (.orc o1) .nil)) .nil))))
def ir41 : IFn :=
  { ntmps := 44, results := [.inr (2, true, 3)], body := (.seq (.region false 2 [
    ⟨some 1, .box 25, [.tmp 0], none, 0, []⟩,
    ⟨some 2, .alloc 25 (.pair (.nil 34 (.int .u32)) (.pair (.nil 3 (.int .i64)) (.pure (.pair (.int .i64) .unit) (0, ())))), [], none, 0, []⟩]) (.seq (.region false 1 [
    ⟨some 6, .fieldAddr 2 2, [.tmp 1], none, 0, []⟩,
    ⟨some 7, .load false 1, [.tmp 6], none, 0, []⟩,
    ⟨some 8, .build [((.nil 34 (.int .u32)), 1), ((.nil 3 (.int .i64)), 1), ((.int .i64 0), 1)] [2], [.tmp 7], none, 0, []⟩,
    ⟨some 3, .alloc 25 (.pair (.nil 34 (.int .u32)) (.pair (.nil 3 (.int .i64)) (.pure (.pair (.int .i64) .unit) (0, ())))), [], none, 0, []⟩,
    ⟨none, .store 3, [.tmp 3, .tmp 8], none, 0, []⟩]) (.seq (.seq (.region false 0 [
    ⟨some 4, .mov, [.cst (.int .i64 0)], none, 0, []⟩]) (.block 0 (.loop ir41_v0 ir41_b0))) (.seq (.seq (.region false 0 [
    ⟨some 5, .mov, [.cst (.int .i64 0)], none, 0, []⟩]) (.block 2 (.loop ir41_v1 ir41_b1))) (.seq (.region false 0 [
    ⟨some 43, .load true 3, [.tmp 3], none, 0, []⟩,
    ⟨none, .store 3, [.tmp 2, .tmp 43], none, 0, []⟩]) (.ret)))))) }
theorem ir41_tok {R : Type} {summ : Nat → Option Summ} {fu : Nat} {call : Nat → List CV → List Blk → (CV → List Blk → Option R) → Option R} {o0 o1 : St → (Ex → St → Option R) → Option R} (h0 : ∀ T k r, o0 T k = some r → evLoopN (evCode summ fu call ir41_b0) (St.norm ir41_v0) fu T k = some r) (h1 : ∀ T k r, o1 T k = some r → evLoopN (evCode summ fu call ir41_b1) (St.norm ir41_v1) fu T k = some r) : LTok summ fu call (ir41_t o0 o1) ir41.body := ⟨trivial, ⟨trivial, ⟨⟨trivial, h0⟩, ⟨⟨trivial, h1⟩, trivial⟩⟩⟩⟩


def ir42 : IFn :=
  { ntmps := 9, results := [.inl 4], body := (.seq (.region false 0 [
    ⟨some 4, .mov, [.cst (.bool false)], none, 0, []⟩]) (.seq (.region false 0 [
    ⟨some 5, .mov, [.tmp 0], none, 0, []⟩,
    ⟨some 6, .mov, [.tmp 1], none, 0, []⟩,
    ⟨some 7, .call 49, [.tmp 5, .tmp 6], none, 0, []⟩,
    ⟨some 8, .bin .geq, [.tmp 7, .cst (.int .i64 0)], none, 0, []⟩,
    ⟨some 4, .mov, [.tmp 8], none, 0, []⟩]) (.ret))) }


def ir43 : IFn :=
  { ntmps := 13, results := [.inl 4], body := (.seq (.region false 1 [
    ⟨some 2, .box 25, [.tmp 0], none, 0, []⟩,
    ⟨some 4, .mov, [.cst (.nil 34 (.int .u32))], none, 0, []⟩]) (.seq (.region false 0 [
    ⟨some 5, .fieldAddr 0 0, [.tmp 2], none, 0, []⟩,
    ⟨some 6, .load false 1, [.tmp 5], none, 0, []⟩,
    ⟨some 7, .mov, [.tmp 1], none, 0, []⟩,
    ⟨some 8, .bin .mul, [.tmp 7, .cst (.int .i64 64)], none, 0, []⟩,
    ⟨some 9, .mov, [.tmp 1], none, 0, []⟩,
    ⟨some 10, .bin .add, [.tmp 9, .cst (.int .i64 1)], none, 0, []⟩,
    ⟨some 11, .bin .mul, [.tmp 10, .cst (.int .i64 64)], none, 0, []⟩,
    ⟨some 12, .slice 1 true true, [.tmp 6, .tmp 8, .tmp 11], none, 0, []⟩,
    ⟨some 4, .mov, [.tmp 12], none, 0, []⟩]) (.ret))) }


def ir44 : IFn :=
  { ntmps := 5, results := [.inl 2], body := (.seq (.region false 0 [
    ⟨some 2, .mov, [.cst (.bool false)], none, 0, []⟩]) (.seq (.region false 0 [
    ⟨some 3, .mov, [.tmp 0], none, 0, []⟩,
    ⟨some 4, .bin .neq, [.tmp 3, .cst (.int .u32 4294967295)], none, 0, []⟩,
    ⟨some 2, .mov, [.tmp 4], none, 0, []⟩]) (.ret))) }


def ir45_b0 : IC := (.seq (.region false 0 [
      ⟨some 13, .bin .lss, [.tmp 12, .tmp 11], none, 0, []⟩]) (.seq (.cond (.tmp 13) (.skip) (.exit 0)) (.seq (.block 1 (.seq (.region false 0 [
       ⟨some 14, .mov, [.tmp 12], none, 0, []⟩,
       ⟨some 6, .mov, [.tmp 14], none, 0, []⟩]) (.region false 0 [
       ⟨some 15, .mov, [.tmp 5], none, 0, []⟩,
       ⟨some 16, .mov, [.tmp 6], none, 0, []⟩,
       ⟨some 17, .idxSl 1, [.tmp 15, .tmp 16], none, 0, []⟩,
       ⟨some 18, .load false 1, [.tmp 17], none, 0, []⟩,
       ⟨some 19, .mov, [.tmp 1], none, 0, []⟩,
       ⟨some 20, .bin .or, [.tmp 18, .tmp 19], none, 0, []⟩,
       ⟨some 21, .idxSl 1, [.tmp 15, .tmp 16], none, 0, []⟩,
       ⟨none, .store 1, [.tmp 21, .tmp 20], none, 0, []⟩]))) (.region false 0 [
      ⟨some 22, .bin .add, [.tmp 12, .cst (.int .i64 1)], none, 0, []⟩,
      ⟨some 12, .mov, [.tmp 22], none, 0, []⟩]))))
def ir45_v0 : List Nat := [1, 2, 3, 5, 11, 12]
def ir45_t {R : Type} (o0 : St → (Ex → St → Option R) → Option R) : LT R := (.node .nil (.node .nil (.node (.node .nil (.node (.orc o0) .nil)) .nil)))
def ir45 : IFn :=
  { ntmps := 30, results := [], body := (.seq (.region false 1 [
    ⟨some 3, .box 25, [.tmp 0], none, 0, []⟩]) (.seq (.region false 0 [
    ⟨some 7, .load true 3, [.tmp 3], none, 0, []⟩,
    ⟨some 8, .load false 1, [.tmp 2], none, 0, []⟩,
    ⟨some 9, .call 43, [.tmp 7, .tmp 8], none, 0, []⟩,
    ⟨some 5, .mov, [.tmp 9], none, 0, []⟩]) (.seq (.seq (.region false 0 [
    ⟨some 10, .mov, [.tmp 5], none, 0, []⟩,
    ⟨some 11, .len, [.tmp 10], none, 0, []⟩,
    ⟨some 12, .mov, [.cst (.int .i64 0)], none, 0, []⟩]) (.block 0 (.loop ir45_v0 ir45_b0))) (.region false 0 [
    ⟨some 23, .fieldAddr 1 1, [.tmp 3], none, 0, []⟩,
    ⟨some 24, .load false 1, [.tmp 23], none, 0, []⟩,
    ⟨some 25, .load false 1, [.tmp 2], none, 0, []⟩,
    ⟨some 26, .idxSl 1, [.tmp 24, .tmp 25], none, 0, []⟩,
    ⟨some 27, .load false 1, [.tmp 26], none, 0, []⟩,
    ⟨some 28, .bin .add, [.tmp 27, .cst (.int .i64 1)], none, 0, []⟩,
    ⟨some 29, .idxSl 1, [.tmp 24, .tmp 25], none, 0, []⟩,
    ⟨none, .store 1, [.tmp 29, .tmp 28], none, 0, []⟩])))) }
theorem ir45_tok {R : Type} {summ : Nat → Option Summ} {fu : Nat} {call : Nat → List CV → List Blk → (CV → List Blk → Option R) → Option R} {o0 : St → (Ex → St → Option R) → Option R} (h0 : ∀ T k r, o0 T k = some r → evLoopN (evCode summ fu call ir45_b0) (St.norm ir45_v0) fu T k = some r) : LTok summ fu call (ir45_t o0) ir45.body := ⟨trivial, ⟨trivial, ⟨⟨trivial, h0⟩, trivial⟩⟩⟩


def ir46 : IFn :=
  { ntmps := 30, results := [.inl 4, .inl 5], body := (.seq (.region false 0 [
    ⟨some 4, .mov, [.cst (.int .u64 0)], none, 0, []⟩,
    ⟨some 5, .mov, [.cst (.int .u64 0)], none, 0, []⟩]) (.seq (.cond (.cst (.bool false)) (.seq (.region false 0 [
     ⟨some 11, .mov, [.tmp 0], none, 0, []⟩,
     ⟨some 12, .conv .u32, [.tmp 11], none, 0, []⟩,
     ⟨some 13, .mov, [.tmp 1], none, 0, []⟩,
     ⟨some 14, .conv .u32, [.tmp 13], none, 0, []⟩,
     ⟨some 15, .call 50, [.tmp 12, .tmp 14], none, 0, []⟩,
     ⟨some 10, .mov, [.tmp 15], none, 0, []⟩,
     ⟨some 16, .extract 0, [.tmp 10], none, 0, []⟩,
     ⟨some 17, .extract 1, [.tmp 10], none, 0, []⟩,
     ⟨some 6, .mov, [.tmp 16], none, 0, []⟩,
     ⟨some 7, .mov, [.tmp 17], none, 0, []⟩]) (.seq (.region false 0 [
     ⟨some 18, .mov, [.tmp 6], none, 0, []⟩,
     ⟨some 19, .conv .u64, [.tmp 18], none, 0, []⟩,
     ⟨some 20, .mov, [.tmp 7], none, 0, []⟩,
     ⟨some 21, .conv .u64, [.tmp 20], none, 0, []⟩,
     ⟨some 4, .mov, [.tmp 19], none, 0, []⟩,
     ⟨some 5, .mov, [.tmp 21], none, 0, []⟩]) (.ret))) (.skip)) (.seq (.region false 0 [
    ⟨some 23, .mov, [.tmp 0], none, 0, []⟩,
    ⟨some 24, .mov, [.tmp 1], none, 0, []⟩,
    ⟨some 25, .call 51, [.tmp 23, .tmp 24], none, 0, []⟩,
    ⟨some 22, .mov, [.tmp 25], none, 0, []⟩,
    ⟨some 26, .extract 0, [.tmp 22], none, 0, []⟩,
    ⟨some 27, .extract 1, [.tmp 22], none, 0, []⟩,
    ⟨some 8, .mov, [.tmp 26], none, 0, []⟩,
    ⟨some 9, .mov, [.tmp 27], none, 0, []⟩]) (.seq (.region false 0 [
    ⟨some 28, .mov, [.tmp 8], none, 0, []⟩,
    ⟨some 29, .mov, [.tmp 9], none, 0, []⟩,
    ⟨some 4, .mov, [.tmp 28], none, 0, []⟩,
    ⟨some 5, .mov, [.tmp 29], none, 0, []⟩]) (.ret))))) }


def ir47_b0 : IC := (.seq (.region false 0 [
      ⟨some 9, .bin .lss, [.tmp 8, .tmp 7], none, 0, []⟩]) (.seq (.cond (.tmp 9) (.skip) (.exit 0)) (.seq (.block 1 (.seq (.region false 0 [
       ⟨some 10, .mov, [.tmp 8], none, 0, []⟩,
       ⟨some 5, .mov, [.tmp 10], none, 0, []⟩]) (.seq (.region false 0 [
       ⟨some 11, .mov, [.tmp 1], none, 0, []⟩,
       ⟨some 12, .mov, [.tmp 0], none, 0, []⟩,
       ⟨some 13, .mov, [.tmp 5], none, 0, []⟩,
       ⟨some 14, .idxSl 1, [.tmp 12, .tmp 13], none, 0, []⟩,
       ⟨some 15, .load false 1, [.tmp 14], none, 0, []⟩,
       ⟨some 16, .callv, [.tmp 11, .tmp 15], none, 0, []⟩]) (.cond (.tmp 16) (.seq (.region false 0 [
        ⟨some 17, .mov, [.tmp 5], none, 0, []⟩,
        ⟨some 4, .mov, [.tmp 17], none, 0, []⟩]) (.ret)) (.skip))))) (.region false 0 [
      ⟨some 18, .bin .add, [.tmp 8, .cst (.int .i64 1)], none, 0, []⟩,
      ⟨some 8, .mov, [.tmp 18], none, 0, []⟩]))))
def ir47_v0 : List Nat := [0, 1, 7, 8]
def ir47_t {R : Type} (o0 : St → (Ex → St → Option R) → Option R) : LT R := (.node .nil (.node (.node .nil (.node (.orc o0) .nil)) .nil))
def ir47 : IFn :=
  { ntmps := 19, results := [.inl 4], body := (.seq (.region false 0 [
    ⟨some 4, .mov, [.cst (.int .i64 0)], none, 0, []⟩]) (.seq (.seq (.region false 0 [
    ⟨some 6, .mov, [.tmp 0], none, 0, []⟩,
    ⟨some 7, .len, [.tmp 6], none, 0, []⟩,
    ⟨some 8, .mov, [.cst (.int .i64 0)], none, 0, []⟩]) (.block 0 (.loop ir47_v0 ir47_b0))) (.seq (.region false 0 [
    ⟨some 4, .mov, [.cst (.int .i64 (-1))], none, 0, []⟩]) (.ret)))) }
theorem ir47_tok {R : Type} {summ : Nat → Option Summ} {fu : Nat} {call : Nat → List CV → List Blk → (CV → List Blk → Option R) → Option R} {o0 : St → (Ex → St → Option R) → Option R} (h0 : ∀ T k r, o0 T k = some r → evLoopN (evCode summ fu call ir47_b0) (St.norm ir47_v0) fu T k = some r) : LTok summ fu call (ir47_t o0) ir47.body := ⟨trivial, ⟨⟨trivial, h0⟩, trivial⟩⟩


def ir48 : IFn :=
  { ntmps := 8, results := [.inl 2], body := (.seq (.region false 0 [
    ⟨some 2, .mov, [.cst (.nil 3 (.int .i64))], none, 0, []⟩]) (.seq (.seq (.region false 0 [
    ⟨some 3, .mov, [.tmp 0], none, 0, []⟩,
    ⟨some 4, .bad, [], none, 0, []⟩]) (.cond (.tmp 4) (.seq (.region false 0 [
     ⟨some 2, .mov, [.cst (.nil 3 (.int .i64))], none, 0, []⟩]) (.ret)) (.skip))) (.seq (.region false 2 [
    ⟨some 5, .buildSl 3 (.int .i64) 0, [], none, 0, []⟩,
    ⟨some 6, .mov, [.tmp 0], none, 0, []⟩,
    ⟨some 7, .append 3 (.int .i64) 8, [.tmp 5, .tmp 6], none, 0, []⟩,
    ⟨some 2, .mov, [.tmp 7], none, 0, []⟩]) (.ret)))) }


def ir49_b0 : IC := (.seq (.region false 0 [
      ⟨some 9, .bin .lss, [.tmp 8, .tmp 7], none, 0, []⟩]) (.seq (.cond (.tmp 9) (.skip) (.exit 0)) (.seq (.block 1 (.seq (.region false 0 [
       ⟨some 10, .mov, [.tmp 8], none, 0, []⟩,
       ⟨some 5, .mov, [.tmp 10], none, 0, []⟩]) (.seq (.region false 0 [
       ⟨some 11, .mov, [.tmp 1], none, 0, []⟩,
       ⟨some 12, .mov, [.tmp 0], none, 0, []⟩,
       ⟨some 13, .mov, [.tmp 5], none, 0, []⟩,
       ⟨some 14, .idxSl 1, [.tmp 12, .tmp 13], none, 0, []⟩,
       ⟨some 15, .load false 1, [.tmp 14], none, 0, []⟩,
       ⟨some 16, .callv, [.tmp 11, .tmp 15], none, 0, []⟩]) (.cond (.tmp 16) (.seq (.region false 0 [
        ⟨some 17, .mov, [.tmp 5], none, 0, []⟩,
        ⟨some 4, .mov, [.tmp 17], none, 0, []⟩]) (.ret)) (.skip))))) (.region false 0 [
      ⟨some 18, .bin .add, [.tmp 8, .cst (.int .i64 1)], none, 0, []⟩,
      ⟨some 8, .mov, [.tmp 18], none, 0, []⟩]))))
def ir49_v0 : List Nat := [0, 1, 7, 8]
def ir49_t {R : Type} (o0 : St → (Ex → St → Option R) → Option R) : LT R := (.node .nil (.node (.node .nil (.node (.orc o0) .nil)) .nil))
def ir49 : IFn :=
  { ntmps := 19, results := [.inl 4], body := (.seq (.region false 0 [
    ⟨some 4, .mov, [.cst (.int .i64 0)], none, 0, []⟩]) (.seq (.seq (.region false 0 [
    ⟨some 6, .mov, [.tmp 0], none, 0, []⟩,
    ⟨some 7, .len, [.tmp 6], none, 0, []⟩,
    ⟨some 8, .mov, [.cst (.int .i64 0)], none, 0, []⟩]) (.block 0 (.loop ir49_v0 ir49_b0))) (.seq (.region false 0 [
    ⟨some 4, .mov, [.cst (.int .i64 (-1))], none, 0, []⟩]) (.ret)))) }
theorem ir49_tok {R : Type} {summ : Nat → Option Summ} {fu : Nat} {call : Nat → List CV → List Blk → (CV → List Blk → Option R) → Option R} {o0 : St → (Ex → St → Option R) → Option R} (h0 : ∀ T k r, o0 T k = some r → evLoopN (evCode summ fu call ir49_b0) (St.norm ir49_v0) fu T k = some r) : LTok summ fu call (ir49_t o0) ir49.body := ⟨trivial, ⟨⟨trivial, h0⟩, trivial⟩⟩


def ir50 : IFn :=
  { ntmps := 17, results := [.inl 4, .inl 5], body := (.seq (.region false 0 [
    ⟨some 4, .mov, [.cst (.int .u32 0)], none, 0, []⟩,
    ⟨some 5, .mov, [.cst (.int .u32 0)], none, 0, []⟩]) (.seq (.region false 0 [
    ⟨some 7, .mov, [.tmp 0], none, 0, []⟩,
    ⟨some 8, .conv .u64, [.tmp 7], none, 0, []⟩,
    ⟨some 9, .mov, [.tmp 1], none, 0, []⟩,
    ⟨some 10, .conv .u64, [.tmp 9], none, 0, []⟩,
    ⟨some 11, .bin .mul, [.tmp 8, .tmp 10], none, 0, []⟩,
    ⟨some 6, .mov, [.tmp 11], none, 0, []⟩]) (.seq (.region false 0 [
    ⟨some 12, .mov, [.tmp 6], none, 0, []⟩,
    ⟨some 13, .bin .shr, [.tmp 12, .cst (.int .u64 32)], none, 0, []⟩,
    ⟨some 14, .conv .u32, [.tmp 13], none, 0, []⟩,
    ⟨some 15, .mov, [.tmp 6], none, 0, []⟩,
    ⟨some 16, .conv .u32, [.tmp 15], none, 0, []⟩,
    ⟨some 4, .mov, [.tmp 14], none, 0, []⟩,
    ⟨some 5, .mov, [.tmp 16], none, 0, []⟩]) (.ret)))) }


def ir51 : IFn :=
  { ntmps := 51, results := [.inl 4, .inl 5], body := (.seq (.region false 0 [
    ⟨some 4, .mov, [.cst (.int .u64 0)], none, 0, []⟩,
    ⟨some 5, .mov, [.cst (.int .u64 0)], none, 0, []⟩]) (.seq (.region false 0 [
    ⟨some 14, .mov, [.tmp 0], none, 0, []⟩,
    ⟨some 15, .bin .and, [.tmp 14, .cst (.int .u64 4294967295)], none, 0, []⟩,
    ⟨some 6, .mov, [.tmp 15], none, 0, []⟩]) (.seq (.region false 0 [
    ⟨some 16, .mov, [.tmp 0], none, 0, []⟩,
    ⟨some 17, .bin .shr, [.tmp 16, .cst (.int .u64 32)], none, 0, []⟩,
    ⟨some 7, .mov, [.tmp 17], none, 0, []⟩]) (.seq (.region false 0 [
    ⟨some 18, .mov, [.tmp 1], none, 0, []⟩,
    ⟨some 19, .bin .and, [.tmp 18, .cst (.int .u64 4294967295)], none, 0, []⟩,
    ⟨some 8, .mov, [.tmp 19], none, 0, []⟩]) (.seq (.region false 0 [
    ⟨some 20, .mov, [.tmp 1], none, 0, []⟩,
    ⟨some 21, .bin .shr, [.tmp 20, .cst (.int .u64 32)], none, 0, []⟩,
    ⟨some 9, .mov, [.tmp 21], none, 0, []⟩]) (.seq (.region false 0 [
    ⟨some 22, .mov, [.tmp 6], none, 0, []⟩,
    ⟨some 23, .mov, [.tmp 8], none, 0, []⟩,
    ⟨some 24, .bin .mul, [.tmp 22, .tmp 23], none, 0, []⟩,
    ⟨some 10, .mov, [.tmp 24], none, 0, []⟩]) (.seq (.region false 0 [
    ⟨some 25, .mov, [.tmp 7], none, 0, []⟩,
    ⟨some 26, .mov, [.tmp 8], none, 0, []⟩,
    ⟨some 27, .bin .mul, [.tmp 25, .tmp 26], none, 0, []⟩,
    ⟨some 28, .mov, [.tmp 10], none, 0, []⟩,
    ⟨some 29, .bin .shr, [.tmp 28, .cst (.int .u64 32)], none, 0, []⟩,
    ⟨some 30, .bin .add, [.tmp 27, .tmp 29], none, 0, []⟩,
    ⟨some 11, .mov, [.tmp 30], none, 0, []⟩]) (.seq (.region false 0 [
    ⟨some 31, .mov, [.tmp 11], none, 0, []⟩,
    ⟨some 32, .bin .and, [.tmp 31, .cst (.int .u64 4294967295)], none, 0, []⟩,
    ⟨some 12, .mov, [.tmp 32], none, 0, []⟩]) (.seq (.region false 0 [
    ⟨some 33, .mov, [.tmp 11], none, 0, []⟩,
    ⟨some 34, .bin .shr, [.tmp 33, .cst (.int .u64 32)], none, 0, []⟩,
    ⟨some 13, .mov, [.tmp 34], none, 0, []⟩]) (.seq (.region false 0 [
    ⟨some 35, .mov, [.tmp 12], none, 0, []⟩,
    ⟨some 36, .mov, [.tmp 6], none, 0, []⟩,
    ⟨some 37, .mov, [.tmp 9], none, 0, []⟩,
    ⟨some 38, .bin .mul, [.tmp 36, .tmp 37], none, 0, []⟩,
    ⟨some 39, .bin .add, [.tmp 35, .tmp 38], none, 0, []⟩,
    ⟨some 12, .mov, [.tmp 39], none, 0, []⟩]) (.seq (.region false 0 [
    ⟨some 40, .mov, [.tmp 7], none, 0, []⟩,
    ⟨some 41, .mov, [.tmp 9], none, 0, []⟩,
    ⟨some 42, .bin .mul, [.tmp 40, .tmp 41], none, 0, []⟩,
    ⟨some 43, .mov, [.tmp 13], none, 0, []⟩,
    ⟨some 44, .bin .add, [.tmp 42, .tmp 43], none, 0, []⟩,
    ⟨some 45, .mov, [.tmp 12], none, 0, []⟩,
    ⟨some 46, .bin .shr, [.tmp 45, .cst (.int .u64 32)], none, 0, []⟩,
    ⟨some 47, .bin .add, [.tmp 44, .tmp 46], none, 0, []⟩,
    ⟨some 4, .mov, [.tmp 47], none, 0, []⟩]) (.seq (.region false 0 [
    ⟨some 48, .mov, [.tmp 0], none, 0, []⟩,
    ⟨some 49, .mov, [.tmp 1], none, 0, []⟩,
    ⟨some 50, .bin .mul, [.tmp 48, .tmp 49], none, 0, []⟩,
    ⟨some 5, .mov, [.tmp 50], none, 0, []⟩]) (.ret))))))))))))) }


def fns : Nat → Option IFn
  | 3 => some ir3
  | 4 => some ir4
  | 5 => some ir5
  | 6 => some ir6
  | 7 => some ir7
  | 8 => some ir8
  | 9 => some ir9
  | 10 => some ir10
  | 11 => some ir11
  | 12 => some ir12
  | 13 => some ir13
  | 14 => some ir14
  | 15 => some ir15
  | 16 => some ir16
  | 17 => some ir17
  | 18 => some ir18
  | 19 => some ir19
  | 20 => some ir20
  | 21 => some ir21
  | 22 => some ir22
  | 23 => some ir23
  | 24 => some ir24
  | 25 => some ir25
  | 26 => some ir26
  | 27 => some ir27
  | 28 => some ir28
  | 29 => some ir29
  | 30 => some ir30
  | 31 => some ir31
  | 32 => some ir32
  | 33 => some ir33
  | 34 => some ir34
  | 35 => some ir35
  | 36 => some ir36
  | 37 => some ir37
  | 38 => some ir38
  | 39 => some ir39
  | 40 => some ir40
  | 41 => some ir41
  | 42 => some ir42
  | 43 => some ir43
  | 44 => some ir44
  | 45 => some ir45
  | 46 => some ir46
  | 47 => some ir47
  | 48 => some ir48
  | 49 => some ir49
  | 50 => some ir50
  | 51 => some ir51
  | _ => none
end Go.Ev
