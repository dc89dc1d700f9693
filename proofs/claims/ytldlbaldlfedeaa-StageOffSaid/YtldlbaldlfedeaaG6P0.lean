/- Helpers: functions of the program as Lean functions, and what they compute. No condition. -/
import Derived.Test.YtldlbaldlfedeaaEvPart2
import Derived.Test.YtldlbaldlfedeaaProg
set_option maxRecDepth 10000
set_option linter.unusedVariables false
set_option linter.unusedSimpArgs false
namespace Go.Ev
open Go
def ir5_b2 : IC := (.seq (.region false 0 [
        ⟨some 100, .bin .lss, [.tmp 99, .tmp 98], none, 0, []⟩]) (.seq (.cond (.tmp 100) (.skip) (.cut [] (.exit 0))) (.seq (.block 1 (.seq (.region false 0 [
         ⟨some 101, .mov, [.tmp 99], none, 0, []⟩,
         ⟨some 13, .mov, [.tmp 101], none, 0, []⟩]) (.seq (.region true 1 [
         ⟨some 102, .mov, [.tmp 11], none, 0, []⟩,
         ⟨some 103, .mov, [.tmp 13], none, 0, []⟩,
         ⟨some 104, .idxSl 1, [.tmp 102, .tmp 103], none, 0, [0, 1]⟩,
         ⟨some 105, .load false 1, [.tmp 104], none, 0, [2, 0, 1]⟩,
         ⟨some 106, .mov, [.tmp 13], none, 0, []⟩,
         ⟨some 107, .mov, [.tmp 1], none, 0, []⟩,
         ⟨some 108, .mov, [.tmp 3], none, 0, []⟩,
         ⟨some 109, .callS 21, [.tmp 106, .tmp 107, .tmp 108], none, 0, [4, 5, 6]⟩,
         ⟨some 110, .eqb true .bool, [.tmp 105, .tmp 109], none, 1, [3, 2, 0, 1, 7, 4, 5, 6]⟩]) (.cond (.tmp 110) (.seq (.region false 0 [
          ⟨some 8, .mov, [.cst (.bool false)], none, 0, []⟩]) (.cut [8] (.ret))) (.skip))))) (.region false 0 [
        ⟨some 111, .bin .add, [.tmp 99, .cst (.int .i64 1)], none, 0, []⟩,
        ⟨some 99, .mov, [.tmp 111], none, 0, []⟩]))))
def ir5_v2 : List Nat := [1, 3, 11, 98, 99]
def ir5_b1 : IC := (.seq (.seq (.region false 0 [
      ⟨some 76, .mov, [.tmp 2], none, 0, []⟩,
      ⟨some 77, .bin .lss, [.tmp 76, .cst (.int .i64 1)], none, 0, []⟩,
      ⟨some 78, .mov, [.tmp 77], none, 0, []⟩,
      ⟨some 79, .mov, [.tmp 2], some (78, false), 0, []⟩,
      ⟨some 80, .bin .gtr, [.tmp 79, .cst (.int .i64 16)], some (78, false), 0, []⟩,
      ⟨some 81, .pick, [.tmp 78, .cst (.bool true), .tmp 80], none, 0, []⟩]) (.cond (.tmp 81) (.seq (.region false 0 [
       ⟨some 82, .mov, [.tmp 12], none, 0, []⟩,
       ⟨some 83, .bin .eql, [.tmp 82, .cst (.int .i64 2)], none, 0, []⟩,
       ⟨some 84, .mov, [.tmp 83], none, 0, []⟩,
       ⟨some 85, .mov, [.tmp 11], some (84, true), 0, []⟩,
       ⟨some 86, .len, [.tmp 85], some (84, true), 0, []⟩,
       ⟨some 87, .bin .eql, [.tmp 86, .cst (.int .i64 0)], some (84, true), 0, []⟩,
       ⟨some 88, .pick, [.tmp 84, .tmp 87, .cst (.bool false)], none, 0, []⟩,
       ⟨some 8, .mov, [.tmp 88], none, 0, []⟩]) (.cut [8] (.ret))) (.skip))) (.seq (.seq (.region false 0 [
      ⟨some 89, .mov, [.tmp 12], none, 0, []⟩,
      ⟨some 90, .bin .neq, [.tmp 89, .cst (.int .i64 0)], none, 0, []⟩,
      ⟨some 91, .mov, [.tmp 90], none, 0, []⟩,
      ⟨some 92, .mov, [.tmp 11], some (91, false), 0, []⟩,
      ⟨some 93, .len, [.tmp 92], some (91, false), 0, []⟩,
      ⟨some 94, .mov, [.tmp 2], some (91, false), 0, []⟩,
      ⟨some 95, .bin .neq, [.tmp 93, .tmp 94], some (91, false), 0, []⟩,
      ⟨some 96, .pick, [.tmp 91, .cst (.bool true), .tmp 95], none, 0, []⟩]) (.cond (.tmp 96) (.seq (.region false 0 [
       ⟨some 8, .mov, [.cst (.bool false)], none, 0, []⟩]) (.cut [8] (.ret))) (.skip))) (.seq (.seq (.region false 0 [
      ⟨some 97, .mov, [.tmp 11], none, 0, []⟩,
      ⟨some 98, .len, [.tmp 97], none, 0, []⟩,
      ⟨some 99, .mov, [.cst (.int .i64 0)], none, 0, []⟩]) (.block 0 (.loop ir5_v2 ir5_b2))) (.seq (.region false 0 [
      ⟨some 8, .mov, [.cst (.bool true)], none, 0, []⟩]) (.cut [8] (.ret))))))
def ir5_v1 : List Nat := [1, 2, 3, 11, 12]
def ir5_bt1 {R : Type} (o2 : St → (Ex → St → Option R) → Option R) : LT R := (.node .nil (.node .nil (.node (.node .nil (.node (.orc o2) .nil)) .nil)))
def ir5_b0 : IC := (.seq (.region false 1 [
     ⟨some 25, .load true 3, [.tmp 4], none, 0, []⟩,
     ⟨some 26, .mov, [.tmp 1], none, 0, []⟩,
     ⟨some 27, .callS 16, [.tmp 25, .tmp 26], none, 0, []⟩,
     ⟨some 24, .mov, [.tmp 27], none, 0, []⟩,
     ⟨some 28, .extract 0, [.tmp 24], none, 0, []⟩,
     ⟨some 29, .extract 1, [.tmp 24], none, 0, []⟩,
     ⟨some 9, .mov, [.tmp 28], none, 0, []⟩,
     ⟨some 10, .mov, [.tmp 29], none, 0, []⟩]) (.seq (.region false 1 [
     ⟨some 31, .mov, [.tmp 2], none, 0, []⟩,
     ⟨some 32, .mov, [.tmp 1], none, 0, []⟩,
     ⟨some 33, .mov, [.tmp 3], none, 0, []⟩,
     ⟨some 34, .callS 17, [.tmp 31, .tmp 32, .tmp 33], none, 0, []⟩,
     ⟨some 30, .mov, [.tmp 34], none, 0, []⟩,
     ⟨some 35, .extract 0, [.tmp 30], none, 0, []⟩,
     ⟨some 36, .extract 1, [.tmp 30], none, 0, []⟩,
     ⟨some 11, .mov, [.tmp 35], none, 0, []⟩,
     ⟨some 12, .mov, [.tmp 36], none, 0, []⟩]) (.seq (.seq (.region false 1 [
     ⟨some 37, .mov, [.tmp 1], none, 0, []⟩,
     ⟨some 38, .callS 18, [.tmp 37], none, 0, []⟩,
     ⟨some 39, .not, [.tmp 38], none, 0, []⟩]) (.cond (.tmp 39) (.seq (.region false 0 [
      ⟨some 40, .mov, [.tmp 10], none, 0, []⟩,
      ⟨some 41, .bin .eql, [.tmp 40, .cst (.int .i64 1)], none, 0, []⟩,
      ⟨some 42, .mov, [.tmp 41], none, 0, []⟩,
      ⟨some 43, .mov, [.tmp 9], some (42, true), 0, []⟩,
      ⟨some 44, .len, [.tmp 43], some (42, true), 0, []⟩,
      ⟨some 45, .bin .eql, [.tmp 44, .cst (.int .i64 0)], some (42, true), 0, []⟩,
      ⟨some 46, .pick, [.tmp 42, .tmp 45, .cst (.bool false)], none, 0, []⟩,
      ⟨some 47, .mov, [.tmp 46], none, 0, []⟩,
      ⟨some 48, .mov, [.tmp 12], some (47, true), 0, []⟩,
      ⟨some 49, .bin .eql, [.tmp 48, .cst (.int .i64 1)], some (47, true), 0, []⟩,
      ⟨some 50, .pick, [.tmp 47, .tmp 49, .cst (.bool false)], none, 0, []⟩,
      ⟨some 51, .mov, [.tmp 50], none, 0, []⟩,
      ⟨some 52, .mov, [.tmp 11], some (51, true), 0, []⟩,
      ⟨some 53, .len, [.tmp 52], some (51, true), 0, []⟩,
      ⟨some 54, .bin .eql, [.tmp 53, .cst (.int .i64 0)], some (51, true), 0, []⟩,
      ⟨some 55, .pick, [.tmp 51, .tmp 54, .cst (.bool false)], none, 0, []⟩,
      ⟨some 8, .mov, [.tmp 55], none, 0, []⟩]) (.cut [8] (.ret))) (.skip))) (.seq (.seq (.region false 1 [
     ⟨some 56, .load true 3, [.tmp 4], none, 0, []⟩,
     ⟨some 57, .callS 11, [.tmp 56], none, 0, []⟩,
     ⟨some 58, .not, [.tmp 57], none, 0, []⟩]) (.cond (.tmp 58) (.seq (.region false 0 [
      ⟨some 59, .mov, [.tmp 10], none, 0, []⟩,
      ⟨some 60, .bin .neq, [.tmp 59, .cst (.int .i64 1)], none, 0, []⟩,
      ⟨some 61, .mov, [.tmp 60], none, 0, []⟩,
      ⟨some 62, .mov, [.tmp 9], some (61, false), 0, []⟩,
      ⟨some 63, .len, [.tmp 62], some (61, false), 0, []⟩,
      ⟨some 64, .bin .neq, [.tmp 63, .cst (.int .i64 0)], some (61, false), 0, []⟩,
      ⟨some 65, .pick, [.tmp 61, .cst (.bool true), .tmp 64], none, 0, []⟩]) (.cond (.tmp 65) (.seq (.region false 0 [
       ⟨some 8, .mov, [.cst (.bool false)], none, 0, []⟩]) (.cut [8] (.ret))) (.skip))) (.seq (.region false 2 [
      ⟨some 66, .mov, [.tmp 10], none, 0, []⟩,
      ⟨some 67, .bin .neq, [.tmp 66, .cst (.int .i64 0)], none, 0, []⟩,
      ⟨some 68, .mov, [.tmp 67], none, 0, []⟩,
      ⟨some 69, .mov, [.tmp 9], some (68, false), 0, []⟩,
      ⟨some 70, .load true 3, [.tmp 4], some (68, false), 0, []⟩,
      ⟨some 71, .mov, [.tmp 1], some (68, false), 0, []⟩,
      ⟨some 72, .callS 20, [.tmp 70, .tmp 71], some (68, false), 0, []⟩,
      ⟨some 73, .callS 19, [.tmp 69, .tmp 72], some (68, false), 0, []⟩,
      ⟨some 74, .not, [.tmp 73], some (68, false), 0, []⟩,
      ⟨some 75, .pick, [.tmp 68, .cst (.bool true), .tmp 74], none, 0, []⟩]) (.cond (.tmp 75) (.seq (.region false 0 [
       ⟨some 8, .mov, [.cst (.bool false)], none, 0, []⟩]) (.cut [8] (.ret))) (.skip))))) (.cut ir5_v1 ir5_b1)))))
def ir5_v0 : List Nat := [1, 2, 3, 4]
def ir5_bt0 {R : Type} (o1 : St → (Ex → St → Option R) → Option R) : LT R := (.node .nil (.node .nil (.node .nil (.node .nil (.orc o1)))))
def ir5_t {R : Type} (o0 : St → (Ex → St → Option R) → Option R) : LT R := (.node .nil (.node .nil (.node .nil (.orc o0))))
def ir5 : IFn :=
  { ntmps := 112, results := [.inl 8], body := (.seq (.region false 1 [
    ⟨some 4, .box 23, [.tmp 0], none, 0, []⟩,
    ⟨some 8, .mov, [.cst (.bool false)], none, 0, []⟩]) (.seq (.seq (.region false 1 [
    ⟨some 14, .callS 7, [], none, 0, []⟩,
    ⟨some 15, .not, [.tmp 14], none, 0, []⟩]) (.cond (.tmp 15) (.seq (.region false 0 [
     ⟨some 8, .mov, [.cst (.bool false)], none, 0, []⟩]) (.cut [8] (.ret))) (.skip))) (.seq (.seq (.region false 0 [
    ⟨some 16, .mov, [.tmp 1], none, 0, []⟩,
    ⟨some 17, .len, [.tmp 16], none, 0, []⟩,
    ⟨some 18, .bin .gtr, [.tmp 17, .cst (.int .i64 100)], none, 0, []⟩,
    ⟨some 19, .mov, [.tmp 18], none, 0, []⟩,
    ⟨some 20, .mov, [.tmp 1], some (19, true), 0, []⟩,
    ⟨some 21, .len, [.tmp 20], some (19, true), 0, []⟩,
    ⟨some 22, .bin .leq, [.tmp 21, .cst (.int .i64 1000)], some (19, true), 0, []⟩,
    ⟨some 23, .pick, [.tmp 19, .tmp 22, .cst (.bool false)], none, 0, []⟩]) (.cond (.tmp 23) (.seq (.region false 0 [
     ⟨some 8, .mov, [.cst (.bool true)], none, 0, []⟩]) (.cut [8] (.ret))) (.skip))) (.cut ir5_v0 ir5_b0)))) }
theorem ir5_bt1ok {R : Type} {summ : Nat → Option Summ} {fu : Nat} {call : Nat → List CV → List Blk → (CV → List Blk → Option R) → Option R} {o2 : St → (Ex → St → Option R) → Option R} (h2 : ∀ T k r, o2 T k = some r → evLoopN (evCode summ fu call ir5_b2) (St.norm ir5_v2) fu T k = some r) : LTok summ fu call (ir5_bt1 o2) ir5_b1 := ⟨trivial, ⟨trivial, ⟨⟨trivial, h2⟩, trivial⟩⟩⟩
theorem ir5_bt0ok {R : Type} {summ : Nat → Option Summ} {fu : Nat} {call : Nat → List CV → List Blk → (CV → List Blk → Option R) → Option R} {o1 : St → (Ex → St → Option R) → Option R} (h1 : ∀ T k r, o1 T k = some r → evCode summ fu call ir5_b1 T k = some r) : LTok summ fu call (ir5_bt0 o1) ir5_b0 := ⟨trivial, ⟨trivial, ⟨trivial, ⟨trivial, h1⟩⟩⟩⟩
theorem ir5_tok {R : Type} {summ : Nat → Option Summ} {fu : Nat} {call : Nat → List CV → List Blk → (CV → List Blk → Option R) → Option R} {o0 : St → (Ex → St → Option R) → Option R} (h0 : ∀ T k r, o0 T k = some r → evCode summ fu call ir5_b0 T k = some r) : LTok summ fu call (ir5_t o0) ir5.body := ⟨trivial, ⟨trivial, ⟨trivial, h0⟩⟩⟩


def ir6 : IFn :=
  { ntmps := 76, results := [.inl 8], body := (.seq (.region false 1 [
    ⟨some 4, .box 23, [.tmp 0], none, 0, []⟩,
    ⟨some 8, .mov, [.cst (.bool false)], none, 0, []⟩]) (.seq (.seq (.region false 1 [
    ⟨some 15, .callS 7, [], none, 0, []⟩,
    ⟨some 16, .not, [.tmp 15], none, 0, []⟩]) (.cond (.tmp 16) (.seq (.region false 0 [
     ⟨some 8, .mov, [.cst (.bool false)], none, 0, []⟩]) (.cut [8] (.ret))) (.skip))) (.seq (.seq (.region false 0 [
    ⟨some 17, .mov, [.tmp 1], none, 0, []⟩,
    ⟨some 18, .len, [.tmp 17], none, 0, []⟩,
    ⟨some 19, .bin .gtr, [.tmp 18, .cst (.int .i64 100)], none, 0, []⟩]) (.cond (.tmp 19) (.seq (.region false 0 [
     ⟨some 8, .mov, [.cst (.bool true)], none, 0, []⟩]) (.cut [8] (.ret))) (.skip))) (.seq (.region false 1 [
    ⟨some 21, .load true 3, [.tmp 4], none, 0, []⟩,
    ⟨some 22, .mov, [.tmp 1], none, 0, []⟩,
    ⟨some 23, .callS 16, [.tmp 21, .tmp 22], none, 0, []⟩,
    ⟨some 20, .mov, [.tmp 23], none, 0, []⟩,
    ⟨some 24, .extract 0, [.tmp 20], none, 0, []⟩,
    ⟨some 25, .extract 1, [.tmp 20], none, 0, []⟩,
    ⟨some 9, .mov, [.tmp 24], none, 0, []⟩,
    ⟨some 10, .mov, [.tmp 25], none, 0, []⟩]) (.seq (.seq (.region false 0 [
    ⟨some 26, .mov, [.tmp 10], none, 0, []⟩,
    ⟨some 27, .bin .neq, [.tmp 26, .cst (.int .i64 0)], none, 0, []⟩]) (.cond (.tmp 27) (.seq (.region false 0 [
     ⟨some 28, .mov, [.tmp 9], none, 0, []⟩,
     ⟨some 29, .len, [.tmp 28], none, 0, []⟩,
     ⟨some 30, .bin .eql, [.tmp 29, .cst (.int .i64 0)], none, 0, []⟩,
     ⟨some 8, .mov, [.tmp 30], none, 0, []⟩]) (.cut [8] (.ret))) (.skip))) (.seq (.region false 1 [
    ⟨some 32, .mov, [.tmp 2], none, 0, []⟩,
    ⟨some 33, .mov, [.tmp 9], none, 0, []⟩,
    ⟨some 34, .mov, [.tmp 3], none, 0, []⟩,
    ⟨some 35, .callS 17, [.tmp 32, .tmp 33, .tmp 34], none, 0, []⟩,
    ⟨some 31, .mov, [.tmp 35], none, 0, []⟩,
    ⟨some 36, .extract 0, [.tmp 31], none, 0, []⟩,
    ⟨some 37, .extract 1, [.tmp 31], none, 0, []⟩,
    ⟨some 11, .mov, [.tmp 36], none, 0, []⟩,
    ⟨some 12, .mov, [.tmp 37], none, 0, []⟩]) (.seq (.seq (.region false 0 [
    ⟨some 38, .mov, [.tmp 12], none, 0, []⟩,
    ⟨some 39, .bin .neq, [.tmp 38, .cst (.int .i64 0)], none, 0, []⟩]) (.cond (.tmp 39) (.seq (.region false 0 [
     ⟨some 40, .mov, [.tmp 2], none, 0, []⟩,
     ⟨some 41, .bin .lss, [.tmp 40, .cst (.int .i64 1)], none, 0, []⟩,
     ⟨some 42, .mov, [.tmp 41], none, 0, []⟩,
     ⟨some 43, .mov, [.tmp 2], some (42, false), 0, []⟩,
     ⟨some 44, .bin .gtr, [.tmp 43, .cst (.int .i64 16)], some (42, false), 0, []⟩,
     ⟨some 45, .pick, [.tmp 42, .cst (.bool true), .tmp 44], none, 0, []⟩,
     ⟨some 8, .mov, [.tmp 45], none, 0, []⟩]) (.cut [8] (.ret))) (.skip))) (.seq (.seq (.region false 0 [
    ⟨some 46, .fieldAddr 0 0, [.tmp 4], none, 0, []⟩,
    ⟨some 47, .load false 1, [.tmp 46], none, 0, []⟩,
    ⟨some 48, .not, [.tmp 47], none, 0, []⟩]) (.cond (.tmp 48) (.seq (.region false 1 [
     ⟨some 49, .mov, [.tmp 11], none, 0, []⟩,
     ⟨some 50, .callS 22, [.tmp 49, .cst (.bool true)], none, 0, []⟩,
     ⟨some 51, .not, [.tmp 50], none, 0, []⟩,
     ⟨some 52, .mov, [.tmp 51], none, 0, []⟩,
     ⟨some 53, .mov, [.tmp 9], some (52, true), 0, []⟩,
     ⟨some 54, .call 23, [.tmp 53, .cst (.clo 24 (.pure .unit ()))], some (52, true), 0, []⟩,
     ⟨some 55, .not, [.tmp 54], some (52, true), 0, []⟩,
     ⟨some 56, .pick, [.tmp 52, .tmp 55, .cst (.bool false)], none, 0, []⟩,
     ⟨some 8, .mov, [.tmp 56], none, 0, []⟩]) (.cut [8] (.ret))) (.skip))) (.seq (.region false 1 [
    ⟨some 58, .mov, [.tmp 2], none, 0, []⟩,
    ⟨some 59, .mov, [.tmp 1], none, 0, []⟩,
    ⟨some 60, .mov, [.tmp 3], none, 0, []⟩,
    ⟨some 61, .callS 17, [.tmp 58, .tmp 59, .tmp 60], none, 0, []⟩,
    ⟨some 57, .mov, [.tmp 61], none, 0, []⟩,
    ⟨some 62, .extract 0, [.tmp 57], none, 0, []⟩,
    ⟨some 63, .extract 1, [.tmp 57], none, 0, []⟩,
    ⟨some 13, .mov, [.tmp 62], none, 0, []⟩,
    ⟨some 14, .mov, [.tmp 63], none, 0, []⟩]) (.seq (.region false 2 [
    ⟨some 64, .mov, [.tmp 14], none, 0, []⟩,
    ⟨some 65, .bin .eql, [.tmp 64, .cst (.int .i64 0)], none, 0, []⟩,
    ⟨some 66, .mov, [.tmp 65], none, 0, []⟩,
    ⟨some 67, .mov, [.tmp 11], some (66, true), 0, []⟩,
    ⟨some 68, .mov, [.tmp 13], some (66, true), 0, []⟩,
    ⟨some 69, .callS 25, [.tmp 67, .tmp 68], some (66, true), 0, []⟩,
    ⟨some 70, .pick, [.tmp 66, .tmp 69, .cst (.bool false)], none, 0, []⟩,
    ⟨some 71, .mov, [.tmp 70], none, 0, []⟩,
    ⟨some 72, .mov, [.tmp 9], some (71, true), 0, []⟩,
    ⟨some 73, .mov, [.tmp 1], some (71, true), 0, []⟩,
    ⟨some 74, .callS 19, [.tmp 72, .tmp 73], some (71, true), 0, []⟩,
    ⟨some 75, .pick, [.tmp 71, .tmp 74, .cst (.bool false)], none, 0, []⟩,
    ⟨some 8, .mov, [.tmp 75], none, 0, []⟩]) (.cut [8] (.ret)))))))))))) }


def ir7 : IFn :=
  { ntmps := 35, results := [.inl 0], body := (.seq (.region false 0 [
    ⟨some 0, .mov, [.cst (.bool false)], none, 0, []⟩]) (.seq (.region false 3 [
    ⟨some 6, .callS 9, [], none, 0, []⟩,
    ⟨some 7, .build [((.int .i64 0), 1), ((.int .i64 0), 1), ((.bool false), 1)] [], [], none, 0, []⟩,
    ⟨some 8, .build [((.int .i64 0), 1), ((.int .i64 0), 1), ((.int .i64 0), 1), ((.bool false), 1), ((.bool false), 1)] [0], [.cst (.int .i64 1)], none, 0, []⟩,
    ⟨some 9, .callS 8, [.tmp 6, .cst (.bool true), .tmp 7, .tmp 8, .cst (.int .i64 100)], none, 0, []⟩,
    ⟨some 5, .mov, [.tmp 9], none, 0, []⟩,
    ⟨some 10, .extract 0, [.tmp 5], none, 0, []⟩,
    ⟨some 11, .extract 1, [.tmp 5], none, 0, []⟩,
    ⟨some 1, .alloc 23 (.pure (.pair .bool (.pair (.int .i64) (.pair (.int .i64) .unit))) (false, (0, (0, ())))), [], none, 0, []⟩,
    ⟨none, .store 3, [.tmp 1, .tmp 10], none, 0, []⟩,
    ⟨some 2, .mov, [.tmp 11], none, 0, []⟩]) (.seq (.region false 2 [
    ⟨some 13, .load true 3, [.tmp 1], none, 0, []⟩,
    ⟨some 14, .build [((.int .i64 0), 1), ((.int .i64 0), 1), ((.bool false), 1)] [0, 2], [.cst (.int .i64 5), .cst (.bool true)], none, 0, []⟩,
    ⟨some 15, .build [((.int .i64 0), 1), ((.int .i64 0), 1), ((.int .i64 0), 1), ((.bool false), 1), ((.bool false), 1)] [0], [.cst (.int .i64 1)], none, 0, []⟩,
    ⟨some 16, .callS 8, [.tmp 13, .cst (.bool true), .tmp 14, .tmp 15, .cst (.int .i64 200)], none, 0, []⟩,
    ⟨some 12, .mov, [.tmp 16], none, 0, []⟩,
    ⟨some 17, .extract 0, [.tmp 12], none, 0, []⟩,
    ⟨some 18, .extract 1, [.tmp 12], none, 0, []⟩,
    ⟨some 3, .alloc 23 (.pure (.pair .bool (.pair (.int .i64) (.pair (.int .i64) .unit))) (false, (0, (0, ())))), [], none, 0, []⟩,
    ⟨none, .store 3, [.tmp 3, .tmp 17], none, 0, []⟩,
    ⟨some 4, .mov, [.tmp 18], none, 0, []⟩]) (.seq (.region false 0 [
    ⟨some 19, .mov, [.tmp 2], none, 0, []⟩,
    ⟨some 20, .bin .eql, [.tmp 19, .cst (.int .i64 0)], none, 0, []⟩,
    ⟨some 21, .mov, [.tmp 20], none, 0, []⟩,
    ⟨some 22, .load true 3, [.tmp 1], some (21, true), 0, []⟩,
    ⟨some 23, .build [((.bool false), 1), ((.int .i64 0), 1), ((.int .i64 0), 1)] [0, 2], [.cst (.bool true), .cst (.int .i64 100)], some (21, true), 0, []⟩,
    ⟨some 24, .eqb false (.pair .bool (.pair (.int .i64) (.pair (.int .i64) .unit))), [.tmp 22, .tmp 23], some (21, true), 0, []⟩,
    ⟨some 25, .pick, [.tmp 21, .tmp 24, .cst (.bool false)], none, 0, []⟩,
    ⟨some 26, .mov, [.tmp 25], none, 0, []⟩,
    ⟨some 27, .mov, [.tmp 4], some (26, true), 0, []⟩,
    ⟨some 28, .bin .eql, [.tmp 27, .cst (.int .i64 0)], some (26, true), 0, []⟩,
    ⟨some 29, .pick, [.tmp 26, .tmp 28, .cst (.bool false)], none, 0, []⟩,
    ⟨some 30, .mov, [.tmp 29], none, 0, []⟩,
    ⟨some 31, .load true 3, [.tmp 3], some (30, true), 0, []⟩,
    ⟨some 32, .build [((.bool false), 1), ((.int .i64 0), 1), ((.int .i64 0), 1)] [1, 2], [.cst (.int .i64 2), .cst (.int .i64 200)], some (30, true), 0, []⟩,
    ⟨some 33, .eqb false (.pair .bool (.pair (.int .i64) (.pair (.int .i64) .unit))), [.tmp 31, .tmp 32], some (30, true), 0, []⟩,
    ⟨some 34, .pick, [.tmp 30, .tmp 33, .cst (.bool false)], none, 0, []⟩,
    ⟨some 0, .mov, [.tmp 34], none, 0, []⟩]) (.cut [0] (.ret)))))) }


def ir8 : IFn :=
  { ntmps := 58, results := [.inr (10, true, 3), .inl 11], body := (.seq (.region false 4 [
    ⟨some 5, .box 23, [.tmp 0], none, 0, []⟩,
    ⟨some 7, .box 25, [.tmp 2], none, 0, []⟩,
    ⟨some 8, .box 27, [.tmp 3], none, 0, []⟩,
    ⟨some 10, .alloc 23 (.pure (.pair .bool (.pair (.int .i64) (.pair (.int .i64) .unit))) (false, (0, (0, ())))), [], none, 0, []⟩,
    ⟨some 11, .mov, [.cst (.int .i64 0)], none, 0, []⟩]) (.seq (.block 0 (.seq (.region false 3 [
     ⟨some 14, .load true 3, [.tmp 5], none, 0, []⟩,
     ⟨some 15, .callS 10, [.tmp 14], none, 0, []⟩,
     ⟨some 16, .not, [.tmp 15], none, 0, []⟩,
     ⟨some 17, .mov, [.tmp 16], none, 0, []⟩,
     ⟨some 18, .load true 3, [.tmp 7], some (17, false), 0, []⟩,
     ⟨some 19, .callS 13, [.tmp 18], some (17, false), 0, []⟩,
     ⟨some 20, .not, [.tmp 19], some (17, false), 0, []⟩,
     ⟨some 21, .pick, [.tmp 17, .cst (.bool true), .tmp 20], none, 0, []⟩,
     ⟨some 22, .mov, [.tmp 21], none, 0, []⟩,
     ⟨some 23, .load true 5, [.tmp 8], some (22, false), 0, []⟩,
     ⟨some 24, .callS 14, [.tmp 23], some (22, false), 0, []⟩,
     ⟨some 25, .not, [.tmp 24], some (22, false), 0, []⟩,
     ⟨some 26, .pick, [.tmp 22, .cst (.bool true), .tmp 25], none, 0, []⟩,
     ⟨some 13, .mov, [.tmp 26], none, 0, []⟩]) (.cond (.tmp 13) (.seq (.region false 0 [
      ⟨some 27, .build [((.bool false), 1), ((.int .i64 0), 1), ((.int .i64 0), 1)] [], [], none, 0, []⟩,
      ⟨none, .store 3, [.tmp 10, .tmp 27], none, 0, []⟩,
      ⟨some 11, .mov, [.cst (.int .i64 1)], none, 0, []⟩]) (.cut [10, 11] (.ret))) (.seq (.region false 1 [
      ⟨some 29, .mov, [.tmp 4], none, 0, []⟩,
      ⟨some 30, .callS 26, [.tmp 29], none, 0, []⟩,
      ⟨some 31, .not, [.tmp 30], none, 0, []⟩,
      ⟨some 28, .mov, [.tmp 31], none, 0, []⟩]) (.cond (.tmp 28) (.seq (.region false 0 [
       ⟨some 32, .build [((.bool false), 1), ((.int .i64 0), 1), ((.int .i64 0), 1)] [], [], none, 0, []⟩,
       ⟨none, .store 3, [.tmp 10, .tmp 32], none, 0, []⟩,
       ⟨some 11, .mov, [.cst (.int .i64 2)], none, 0, []⟩]) (.cut [10, 11] (.ret))) (.seq (.region false 0 [
       ⟨some 34, .mov, [.tmp 4], none, 0, []⟩,
       ⟨some 35, .fieldAddr 2 2, [.tmp 5], none, 0, []⟩,
       ⟨some 36, .load false 1, [.tmp 35], none, 0, []⟩,
       ⟨some 37, .bin .lss, [.tmp 34, .tmp 36], none, 0, []⟩,
       ⟨some 33, .mov, [.tmp 37], none, 0, []⟩]) (.cond (.tmp 33) (.seq (.region false 0 [
        ⟨some 38, .build [((.bool false), 1), ((.int .i64 0), 1), ((.int .i64 0), 1)] [], [], none, 0, []⟩,
        ⟨none, .store 3, [.tmp 10, .tmp 38], none, 0, []⟩,
        ⟨some 11, .mov, [.cst (.int .i64 16)], none, 0, []⟩]) (.cut [10, 11] (.ret))) (.skip)))))))) (.seq (.region true 2 [
    ⟨some 39, .mov, [.tmp 1], none, 0, []⟩,
    ⟨some 40, .load true 3, [.tmp 7], none, 0, []⟩,
    ⟨some 41, .load true 5, [.tmp 8], none, 0, []⟩,
    ⟨some 42, .callS 27, [.tmp 39, .tmp 40, .tmp 41], none, 0, [0, 1, 2]⟩,
    ⟨some 43, .fieldAddr 2 2, [.tmp 5], none, 1, []⟩,
    ⟨some 44, .load false 1, [.tmp 43], none, 1, [4]⟩,
    ⟨some 45, .build [((.bool false), 1), ((.int .i64 0), 1), ((.int .i64 0), 1)] [1, 2], [.tmp 42, .tmp 44], none, 1, [3, 0, 1, 2, 5, 4]⟩,
    ⟨some 12, .alloc 23 (.pure (.pair .bool (.pair (.int .i64) (.pair (.int .i64) .unit))) (false, (0, (0, ())))), [], none, 1, []⟩,
    ⟨none, .store 3, [.tmp 12, .tmp 45], none, 2, [7, 6, 3, 0, 1, 2, 5, 4]⟩]) (.seq (.region false 0 [
    ⟨some 46, .fieldAddr 1 1, [.tmp 12], none, 0, []⟩,
    ⟨some 47, .load false 1, [.tmp 46], none, 0, []⟩,
    ⟨some 48, .bin .eql, [.tmp 47, .cst (.int .i64 0)], none, 0, []⟩,
    ⟨some 49, .fieldAddr 0 0, [.tmp 12], none, 0, []⟩,
    ⟨none, .store 1, [.tmp 49, .tmp 48], none, 0, []⟩]) (.seq (.seq (.region false 0 [
    ⟨some 50, .fieldAddr 0 0, [.tmp 12], none, 0, []⟩,
    ⟨some 51, .load false 1, [.tmp 50], none, 0, []⟩,
    ⟨some 52, .fieldAddr 0 0, [.tmp 5], none, 0, []⟩,
    ⟨some 53, .load false 1, [.tmp 52], none, 0, []⟩,
    ⟨some 54, .eqb true .bool, [.tmp 51, .tmp 53], none, 0, []⟩]) (.cond (.tmp 54) (.region false 0 [
     ⟨some 55, .mov, [.tmp 4], none, 0, []⟩,
     ⟨some 56, .fieldAddr 2 2, [.tmp 12], none, 0, []⟩,
     ⟨none, .store 1, [.tmp 56, .tmp 55], none, 0, []⟩]) (.skip))) (.seq (.region false 0 [
    ⟨some 57, .load true 3, [.tmp 12], none, 0, []⟩,
    ⟨none, .store 3, [.tmp 10, .tmp 57], none, 0, []⟩,
    ⟨some 11, .mov, [.cst (.int .i64 0)], none, 0, []⟩]) (.cut [10, 11] (.ret)))))))) }


def ir9 : IFn :=
  { ntmps := 2, results := [.inr (0, true, 3)], body := (.seq (.region false 1 [
    ⟨some 0, .alloc 23 (.pure (.pair .bool (.pair (.int .i64) (.pair (.int .i64) .unit))) (false, (0, (0, ())))), [], none, 0, []⟩]) (.seq (.region false 0 [
    ⟨some 1, .build [((.bool false), 1), ((.int .i64 0), 1), ((.int .i64 0), 1)] [1], [.cst (.int .i64 1)], none, 0, []⟩,
    ⟨none, .store 3, [.tmp 0, .tmp 1], none, 0, []⟩]) (.cut [0] (.ret)))) }


def ir10 : IFn :=
  { ntmps := 24, results := [.inl 2], body := (.seq (.region false 1 [
    ⟨some 1, .box 23, [.tmp 0], none, 0, []⟩,
    ⟨some 2, .mov, [.cst (.bool false)], none, 0, []⟩]) (.seq (.region false 1 [
    ⟨some 3, .fieldAddr 1 1, [.tmp 1], none, 0, []⟩,
    ⟨some 4, .load false 1, [.tmp 3], none, 0, []⟩,
    ⟨some 5, .bin .geq, [.tmp 4, .cst (.int .i64 0)], none, 0, []⟩,
    ⟨some 6, .mov, [.tmp 5], none, 0, []⟩,
    ⟨some 7, .fieldAddr 1 1, [.tmp 1], some (6, true), 0, []⟩,
    ⟨some 8, .load false 1, [.tmp 7], some (6, true), 0, []⟩,
    ⟨some 9, .bin .leq, [.tmp 8, .cst (.int .i64 3)], some (6, true), 0, []⟩,
    ⟨some 10, .pick, [.tmp 6, .tmp 9, .cst (.bool false)], none, 0, []⟩,
    ⟨some 11, .mov, [.tmp 10], none, 0, []⟩,
    ⟨some 12, .fieldAddr 0 0, [.tmp 1], some (11, true), 0, []⟩,
    ⟨some 13, .load false 1, [.tmp 12], some (11, true), 0, []⟩,
    ⟨some 14, .fieldAddr 1 1, [.tmp 1], some (11, true), 0, []⟩,
    ⟨some 15, .load false 1, [.tmp 14], some (11, true), 0, []⟩,
    ⟨some 16, .bin .eql, [.tmp 15, .cst (.int .i64 0)], some (11, true), 0, []⟩,
    ⟨some 17, .eqb false .bool, [.tmp 13, .tmp 16], some (11, true), 0, []⟩,
    ⟨some 18, .pick, [.tmp 11, .tmp 17, .cst (.bool false)], none, 0, []⟩,
    ⟨some 19, .mov, [.tmp 18], none, 0, []⟩,
    ⟨some 20, .fieldAddr 2 2, [.tmp 1], some (19, true), 0, []⟩,
    ⟨some 21, .load false 1, [.tmp 20], some (19, true), 0, []⟩,
    ⟨some 22, .callS 26, [.tmp 21], some (19, true), 0, []⟩,
    ⟨some 23, .pick, [.tmp 19, .tmp 22, .cst (.bool false)], none, 0, []⟩,
    ⟨some 2, .mov, [.tmp 23], none, 0, []⟩]) (.cut [2] (.ret)))) }


def ir11 : IFn :=
  { ntmps := 29, results := [.inl 2], body := (.seq (.region false 1 [
    ⟨some 1, .box 23, [.tmp 0], none, 0, []⟩,
    ⟨some 2, .mov, [.cst (.bool false)], none, 0, []⟩]) (.seq (.region false 0 [
    ⟨some 3, .fieldAddr 1 1, [.tmp 1], none, 0, []⟩,
    ⟨some 4, .load false 1, [.tmp 3], none, 0, []⟩,
    ⟨some 5, .bin .geq, [.tmp 4, .cst (.int .i64 0)], none, 0, []⟩,
    ⟨some 6, .mov, [.tmp 5], none, 0, []⟩,
    ⟨some 7, .fieldAddr 1 1, [.tmp 1], some (6, true), 0, []⟩,
    ⟨some 8, .load false 1, [.tmp 7], some (6, true), 0, []⟩,
    ⟨some 9, .bin .leq, [.tmp 8, .cst (.int .i64 3)], some (6, true), 0, []⟩,
    ⟨some 10, .pick, [.tmp 6, .tmp 9, .cst (.bool false)], none, 0, []⟩,
    ⟨some 11, .mov, [.tmp 10], none, 0, []⟩,
    ⟨some 12, .fieldAddr 0 0, [.tmp 1], some (11, true), 0, []⟩,
    ⟨some 13, .load false 1, [.tmp 12], some (11, true), 0, []⟩,
    ⟨some 14, .fieldAddr 1 1, [.tmp 1], some (11, true), 0, []⟩,
    ⟨some 15, .load false 1, [.tmp 14], some (11, true), 0, []⟩,
    ⟨some 16, .bin .eql, [.tmp 15, .cst (.int .i64 0)], some (11, true), 0, []⟩,
    ⟨some 17, .eqb false .bool, [.tmp 13, .tmp 16], some (11, true), 0, []⟩,
    ⟨some 18, .pick, [.tmp 11, .tmp 17, .cst (.bool false)], none, 0, []⟩,
    ⟨some 19, .mov, [.tmp 18], none, 0, []⟩,
    ⟨some 20, .fieldAddr 2 2, [.tmp 1], some (19, true), 0, []⟩,
    ⟨some 21, .load false 1, [.tmp 20], some (19, true), 0, []⟩,
    ⟨some 22, .bin .geq, [.tmp 21, .cst (.int .i64 0)], some (19, true), 0, []⟩,
    ⟨some 23, .pick, [.tmp 19, .tmp 22, .cst (.bool false)], none, 0, []⟩,
    ⟨some 24, .mov, [.tmp 23], none, 0, []⟩,
    ⟨some 25, .fieldAddr 2 2, [.tmp 1], some (24, true), 0, []⟩,
    ⟨some 26, .load false 1, [.tmp 25], some (24, true), 0, []⟩,
    ⟨some 27, .bin .leq, [.tmp 26, .cst (.int .i64 1099511627776)], some (24, true), 0, []⟩,
    ⟨some 28, .pick, [.tmp 24, .tmp 27, .cst (.bool false)], none, 0, []⟩,
    ⟨some 2, .mov, [.tmp 28], none, 0, []⟩]) (.cut [2] (.ret)))) }


def ir13 : IFn :=
  { ntmps := 30, results := [.inl 2], body := (.seq (.region false 1 [
    ⟨some 1, .box 25, [.tmp 0], none, 0, []⟩,
    ⟨some 2, .mov, [.cst (.bool false)], none, 0, []⟩]) (.seq (.region false 2 [
    ⟨some 3, .fieldAddr 0 0, [.tmp 1], none, 0, []⟩,
    ⟨some 4, .load false 1, [.tmp 3], none, 0, []⟩,
    ⟨some 5, .callS 28, [.tmp 4, .cst (.int .i64 0), .cst (.int .i64 5)], none, 0, []⟩,
    ⟨some 6, .mov, [.tmp 5], none, 0, []⟩,
    ⟨some 7, .fieldAddr 1 1, [.tmp 1], some (6, true), 0, []⟩,
    ⟨some 8, .load false 1, [.tmp 7], some (6, true), 0, []⟩,
    ⟨some 9, .callS 28, [.tmp 8, .cst (.int .i64 0), .cst (.int .i64 1000)], some (6, true), 0, []⟩,
    ⟨some 10, .pick, [.tmp 6, .tmp 9, .cst (.bool false)], none, 0, []⟩,
    ⟨some 11, .mov, [.tmp 10], none, 0, []⟩,
    ⟨some 12, .fieldAddr 0 0, [.tmp 1], some (11, true), 0, []⟩,
    ⟨some 13, .load false 1, [.tmp 12], some (11, true), 0, []⟩,
    ⟨some 14, .bin .eql, [.tmp 13, .cst (.int .i64 0)], some (11, true), 0, []⟩,
    ⟨some 15, .mov, [.tmp 14], some (11, true), 0, []⟩,
    ⟨some 16, .fieldAddr 1 1, [.tmp 1], some (15, false), 0, []⟩,
    ⟨some 17, .load false 1, [.tmp 16], some (15, false), 0, []⟩,
    ⟨some 18, .bin .eql, [.tmp 17, .cst (.int .i64 0)], some (15, false), 0, []⟩,
    ⟨some 19, .pick, [.tmp 15, .cst (.bool true), .tmp 18], some (11, true), 0, []⟩,
    ⟨some 20, .pick, [.tmp 11, .tmp 19, .cst (.bool false)], none, 0, []⟩,
    ⟨some 21, .mov, [.tmp 20], none, 0, []⟩,
    ⟨some 22, .fieldAddr 2 2, [.tmp 1], some (21, true), 0, []⟩,
    ⟨some 23, .load false 1, [.tmp 22], some (21, true), 0, []⟩,
    ⟨some 24, .mov, [.tmp 23], some (21, true), 0, []⟩,
    ⟨some 25, .fieldAddr 0 0, [.tmp 1], some (24, false), 0, []⟩,
    ⟨some 26, .load false 1, [.tmp 25], some (24, false), 0, []⟩,
    ⟨some 27, .bin .lss, [.tmp 26, .cst (.int .i64 5)], some (24, false), 0, []⟩,
    ⟨some 28, .pick, [.tmp 24, .cst (.bool true), .tmp 27], some (21, true), 0, []⟩,
    ⟨some 29, .pick, [.tmp 21, .tmp 28, .cst (.bool false)], none, 0, []⟩,
    ⟨some 2, .mov, [.tmp 29], none, 0, []⟩]) (.cut [2] (.ret)))) }


def ir14 : IFn :=
  { ntmps := 47, results := [.inl 2], body := (.seq (.region false 1 [
    ⟨some 1, .box 27, [.tmp 0], none, 0, []⟩,
    ⟨some 2, .mov, [.cst (.bool false)], none, 0, []⟩]) (.seq (.region false 2 [
    ⟨some 3, .fieldAddr 0 0, [.tmp 1], none, 0, []⟩,
    ⟨some 4, .load false 1, [.tmp 3], none, 0, []⟩,
    ⟨some 5, .callS 29, [.tmp 4], none, 0, []⟩,
    ⟨some 6, .mov, [.tmp 5], none, 0, []⟩,
    ⟨some 7, .fieldAddr 1 1, [.tmp 1], some (6, true), 0, []⟩,
    ⟨some 8, .load false 1, [.tmp 7], some (6, true), 0, []⟩,
    ⟨some 9, .callS 30, [.tmp 8], some (6, true), 0, []⟩,
    ⟨some 10, .pick, [.tmp 6, .tmp 9, .cst (.bool false)], none, 0, []⟩,
    ⟨some 11, .mov, [.tmp 10], none, 0, []⟩,
    ⟨some 12, .fieldAddr 3 3, [.tmp 1], some (11, true), 0, []⟩,
    ⟨some 13, .load false 1, [.tmp 12], some (11, true), 0, []⟩,
    ⟨some 14, .mov, [.tmp 13], some (11, true), 0, []⟩,
    ⟨some 15, .fieldAddr 1 1, [.tmp 1], some (14, false), 0, []⟩,
    ⟨some 16, .load false 1, [.tmp 15], some (14, false), 0, []⟩,
    ⟨some 17, .bin .eql, [.tmp 16, .cst (.int .i64 0)], some (14, false), 0, []⟩,
    ⟨some 18, .pick, [.tmp 14, .cst (.bool true), .tmp 17], some (11, true), 0, []⟩,
    ⟨some 19, .pick, [.tmp 11, .tmp 18, .cst (.bool false)], none, 0, []⟩,
    ⟨some 20, .mov, [.tmp 19], none, 0, []⟩,
    ⟨some 21, .fieldAddr 2 2, [.tmp 1], some (20, true), 0, []⟩,
    ⟨some 22, .load false 1, [.tmp 21], some (20, true), 0, []⟩,
    ⟨some 23, .bin .geq, [.tmp 22, .cst (.int .i64 0)], some (20, true), 0, []⟩,
    ⟨some 24, .pick, [.tmp 20, .tmp 23, .cst (.bool false)], none, 0, []⟩,
    ⟨some 25, .mov, [.tmp 24], none, 0, []⟩,
    ⟨some 26, .fieldAddr 2 2, [.tmp 1], some (25, true), 0, []⟩,
    ⟨some 27, .load false 1, [.tmp 26], some (25, true), 0, []⟩,
    ⟨some 28, .bin .leq, [.tmp 27, .cst (.int .i64 7)], some (25, true), 0, []⟩,
    ⟨some 29, .pick, [.tmp 25, .tmp 28, .cst (.bool false)], none, 0, []⟩,
    ⟨some 30, .mov, [.tmp 29], none, 0, []⟩,
    ⟨some 31, .fieldAddr 4 4, [.tmp 1], some (30, true), 0, []⟩,
    ⟨some 32, .load false 1, [.tmp 31], some (30, true), 0, []⟩,
    ⟨some 33, .fieldAddr 2 2, [.tmp 1], some (30, true), 0, []⟩,
    ⟨some 34, .load false 1, [.tmp 33], some (30, true), 0, []⟩,
    ⟨some 35, .bin .eql, [.tmp 34, .cst (.int .i64 7)], some (30, true), 0, []⟩,
    ⟨some 36, .eqb false .bool, [.tmp 32, .tmp 35], some (30, true), 0, []⟩,
    ⟨some 37, .pick, [.tmp 30, .tmp 36, .cst (.bool false)], none, 0, []⟩,
    ⟨some 38, .mov, [.tmp 37], none, 0, []⟩,
    ⟨some 39, .fieldAddr 3 3, [.tmp 1], some (38, true), 0, []⟩,
    ⟨some 40, .load false 1, [.tmp 39], some (38, true), 0, []⟩,
    ⟨some 41, .mov, [.tmp 40], some (38, true), 0, []⟩,
    ⟨some 42, .fieldAddr 4 4, [.tmp 1], some (41, true), 0, []⟩,
    ⟨some 43, .load false 1, [.tmp 42], some (41, true), 0, []⟩,
    ⟨some 44, .pick, [.tmp 41, .tmp 43, .cst (.bool false)], some (38, true), 0, []⟩,
    ⟨some 45, .not, [.tmp 44], some (38, true), 0, []⟩,
    ⟨some 46, .pick, [.tmp 38, .tmp 45, .cst (.bool false)], none, 0, []⟩,
    ⟨some 2, .mov, [.tmp 46], none, 0, []⟩]) (.cut [2] (.ret)))) }


def ir16 : IFn :=
  { ntmps := 18, results := [.inl 4, .inl 5], body := (.seq (.region false 1 [
    ⟨some 2, .box 23, [.tmp 0], none, 0, []⟩,
    ⟨some 4, .mov, [.cst (.nil 49 (.pair (.int .i64) (.pair (.int .i64) (.pair .bool .unit))))], none, 0, []⟩,
    ⟨some 5, .mov, [.cst (.int .i64 0)], none, 0, []⟩]) (.seq (.seq (.region false 2 [
    ⟨some 6, .load true 3, [.tmp 2], none, 0, []⟩,
    ⟨some 7, .callS 10, [.tmp 6], none, 0, []⟩,
    ⟨some 8, .not, [.tmp 7], none, 0, []⟩,
    ⟨some 9, .mov, [.tmp 8], none, 0, []⟩,
    ⟨some 10, .mov, [.tmp 1], some (9, false), 0, []⟩,
    ⟨some 11, .callS 32, [.tmp 10], some (9, false), 0, []⟩,
    ⟨some 12, .not, [.tmp 11], some (9, false), 0, []⟩,
    ⟨some 13, .pick, [.tmp 9, .cst (.bool true), .tmp 12], none, 0, []⟩]) (.cond (.tmp 13) (.seq (.region false 0 [
     ⟨some 4, .mov, [.cst (.nil 49 (.pair (.int .i64) (.pair (.int .i64) (.pair .bool .unit))))], none, 0, []⟩,
     ⟨some 5, .mov, [.cst (.int .i64 1)], none, 0, []⟩]) (.cut [4, 5] (.ret))) (.skip))) (.seq (.region false 1 [
    ⟨some 14, .mov, [.tmp 1], none, 0, []⟩,
    ⟨some 15, .callS 34, [.tmp 14], none, 0, []⟩,
    ⟨some 16, .mkFunc 35, [.tmp 2], none, 0, []⟩,
    ⟨some 17, .call 33, [.tmp 15, .tmp 16], none, 0, []⟩,
    ⟨some 4, .mov, [.tmp 17], none, 0, []⟩,
    ⟨some 5, .mov, [.cst (.int .i64 0)], none, 0, []⟩]) (.cut [4, 5] (.ret))))) }


def ir17_b0 : IC := (.seq (.region false 0 [
      ⟨some 27, .bin .lss, [.tmp 26, .tmp 25], none, 0, []⟩]) (.seq (.cond (.tmp 27) (.skip) (.cut [8] (.exit 1))) (.seq (.block 2 (.seq (.region false 1 [
       ⟨some 28, .idxSl 3, [.tmp 24, .tmp 26], none, 0, []⟩,
       ⟨some 29, .load true 3, [.tmp 28], none, 0, []⟩,
       ⟨some 10, .alloc 49 (.pure (.pair (.int .i64) (.pair (.int .i64) (.pair .bool .unit))) (0, (0, (false, ())))), [], none, 0, []⟩,
       ⟨none, .store 3, [.tmp 10, .tmp 29], none, 0, []⟩]) (.seq (.region false 0 [
       ⟨some 30, .fieldAddr 1 1, [.tmp 10], none, 0, []⟩,
       ⟨some 31, .load false 1, [.tmp 30], none, 0, []⟩,
       ⟨some 32, .mov, [.tmp 0], none, 0, []⟩,
       ⟨some 33, .bin .lss, [.tmp 31, .tmp 32], none, 0, []⟩,
       ⟨some 34, .mov, [.tmp 33], none, 0, []⟩,
       ⟨some 35, .fieldAddr 0 0, [.tmp 10], some (34, true), 0, []⟩,
       ⟨some 36, .load false 1, [.tmp 35], some (34, true), 0, []⟩,
       ⟨some 37, .mov, [.tmp 2], some (34, true), 0, []⟩,
       ⟨some 38, .bin .leq, [.tmp 36, .tmp 37], some (34, true), 0, []⟩,
       ⟨some 39, .pick, [.tmp 34, .tmp 38, .cst (.bool false)], none, 0, []⟩]) (.cond (.tmp 39) (.region false 0 [
        ⟨some 40, .mov, [.tmp 8], none, 0, []⟩,
        ⟨some 41, .fieldAddr 1 1, [.tmp 10], none, 0, []⟩,
        ⟨some 42, .load false 1, [.tmp 41], none, 0, []⟩,
        ⟨some 43, .fieldAddr 2 2, [.tmp 10], none, 0, []⟩,
        ⟨some 44, .load false 1, [.tmp 43], none, 0, []⟩,
        ⟨some 45, .idxSl 1, [.tmp 40, .tmp 42], none, 0, []⟩,
        ⟨none, .store 1, [.tmp 45, .tmp 44], none, 0, []⟩]) (.skip))))) (.region false 0 [
      ⟨some 46, .bin .add, [.tmp 26, .cst (.int .i64 1)], none, 0, []⟩,
      ⟨some 26, .mov, [.tmp 46], none, 0, []⟩]))))
def ir17_v0 : List Nat := [0, 2, 8, 24, 25, 26]
def ir17_t {R : Type} (o0 : St → (Ex → St → Option R) → Option R) : LT R := (.node .nil (.node .nil (.node .nil (.node (.node .nil (.node (.orc o0) .nil)) .nil))))
def ir17 : IFn :=
  { ntmps := 48, results := [.inl 6, .inl 7], body := (.seq (.region false 0 [
    ⟨some 6, .mov, [.cst (.nil 4 .bool)], none, 0, []⟩,
    ⟨some 7, .mov, [.cst (.int .i64 0)], none, 0, []⟩]) (.seq (.block 0 (.seq (.region false 1 [
     ⟨some 12, .mov, [.tmp 1], none, 0, []⟩,
     ⟨some 13, .callS 32, [.tmp 12], none, 0, []⟩,
     ⟨some 14, .not, [.tmp 13], none, 0, []⟩,
     ⟨some 11, .mov, [.tmp 14], none, 0, []⟩]) (.cond (.tmp 11) (.seq (.region false 0 [
      ⟨some 6, .mov, [.cst (.nil 4 .bool)], none, 0, []⟩,
      ⟨some 7, .mov, [.cst (.int .i64 1)], none, 0, []⟩]) (.cut [6, 7] (.ret))) (.seq (.region false 0 [
      ⟨some 16, .mov, [.tmp 0], none, 0, []⟩,
      ⟨some 17, .bin .lss, [.tmp 16, .cst (.int .i64 1)], none, 0, []⟩,
      ⟨some 18, .mov, [.tmp 17], none, 0, []⟩,
      ⟨some 19, .mov, [.tmp 0], some (18, false), 0, []⟩,
      ⟨some 20, .bin .gtr, [.tmp 19, .cst (.int .i64 16)], some (18, false), 0, []⟩,
      ⟨some 21, .pick, [.tmp 18, .cst (.bool true), .tmp 20], none, 0, []⟩,
      ⟨some 15, .mov, [.tmp 21], none, 0, []⟩]) (.cond (.tmp 15) (.seq (.region false 0 [
       ⟨some 6, .mov, [.cst (.nil 4 .bool)], none, 0, []⟩,
       ⟨some 7, .mov, [.cst (.int .i64 2)], none, 0, []⟩]) (.cut [6, 7] (.ret))) (.skip)))))) (.seq (.region false 1 [
    ⟨some 22, .mov, [.tmp 0], none, 0, []⟩,
    ⟨some 23, .mkSlice 4 .bool 1, [.tmp 22, .tmp 22], none, 0, []⟩,
    ⟨some 8, .mov, [.tmp 23], none, 0, []⟩]) (.seq (.seq (.region false 0 [
    ⟨some 24, .mov, [.tmp 1], none, 0, []⟩,
    ⟨some 25, .len, [.tmp 24], none, 0, []⟩,
    ⟨some 26, .mov, [.cst (.int .i64 0)], none, 0, []⟩]) (.block 1 (.loop ir17_v0 ir17_b0))) (.seq (.region false 0 [
    ⟨some 47, .mov, [.tmp 8], none, 0, []⟩,
    ⟨some 6, .mov, [.tmp 47], none, 0, []⟩,
    ⟨some 7, .mov, [.cst (.int .i64 0)], none, 0, []⟩]) (.cut [6, 7] (.ret))))))) }
theorem ir17_tok {R : Type} {summ : Nat → Option Summ} {fu : Nat} {call : Nat → List CV → List Blk → (CV → List Blk → Option R) → Option R} {o0 : St → (Ex → St → Option R) → Option R} (h0 : ∀ T k r, o0 T k = some r → evLoopN (evCode summ fu call ir17_b0) (St.norm ir17_v0) fu T k = some r) : LTok summ fu call (ir17_t o0) ir17.body := ⟨trivial, ⟨trivial, ⟨trivial, ⟨⟨trivial, h0⟩, trivial⟩⟩⟩⟩


def ir18_b0 : IC := (.seq (.seq (.region false 0 [
      ⟨some 7, .mov, [.tmp 3], none, 0, []⟩,
      ⟨some 8, .mov, [.tmp 0], none, 0, []⟩,
      ⟨some 9, .len, [.tmp 8], none, 0, []⟩,
      ⟨some 10, .bin .lss, [.tmp 7, .tmp 9], none, 0, []⟩]) (.cond (.tmp 10) (.skip) (.cut [] (.exit 0)))) (.seq (.block 1 (.seq (.region true 0 [
       ⟨some 13, .mov, [.tmp 0], none, 0, []⟩,
       ⟨some 14, .mov, [.tmp 3], none, 0, []⟩,
       ⟨some 15, .idxSl 3, [.tmp 13, .tmp 14], none, 0, [0, 1]⟩,
       ⟨some 16, .fieldAddr 0 0, [.tmp 15], none, 0, [2, 0, 1]⟩,
       ⟨some 17, .load false 1, [.tmp 16], none, 0, [3, 2, 0, 1]⟩,
       ⟨some 18, .bin .lss, [.tmp 17, .cst (.int .i64 0)], none, 0, [4, 3, 2, 0, 1]⟩,
       ⟨some 19, .mov, [.tmp 18], none, 0, [5, 4, 3, 2, 0, 1]⟩,
       ⟨some 20, .mov, [.tmp 0], some (19, false), 0, [6, 5, 4, 3, 2, 0, 1]⟩,
       ⟨some 21, .mov, [.tmp 3], some (19, false), 0, [6, 5, 4, 3, 2, 0, 1]⟩,
       ⟨some 22, .idxSl 3, [.tmp 20, .tmp 21], some (19, false), 0, [7, 6, 5, 4, 3, 2, 0, 1, 8]⟩,
       ⟨some 23, .fieldAddr 0 0, [.tmp 22], some (19, false), 0, [9, 7, 6, 5, 4, 3, 2, 0, 1, 8]⟩,
       ⟨some 24, .load false 1, [.tmp 23], some (19, false), 0, [10, 9, 7, 6, 5, 4, 3, 2, 0, 1, 8]⟩,
       ⟨some 25, .bin .gtr, [.tmp 24, .cst (.int .i64 1099511627776)], some (19, false), 0, [11, 10, 9, 7, 6, 5, 4, 3, 2, 0, 1, 8]⟩,
       ⟨some 26, .pick, [.tmp 19, .cst (.bool true), .tmp 25], none, 0, [6, 5, 4, 3, 2, 0, 1, 12, 11, 10, 9, 7, 8]⟩,
       ⟨some 27, .mov, [.tmp 26], none, 0, [13, 6, 5, 4, 3, 2, 0, 1, 12, 11, 10, 9, 7, 8]⟩,
       ⟨some 28, .mov, [.tmp 0], some (27, false), 0, [14, 13, 6, 5, 4, 3, 2, 0, 1, 12, 11, 10, 9, 7, 8]⟩,
       ⟨some 29, .mov, [.tmp 3], some (27, false), 0, [14, 13, 6, 5, 4, 3, 2, 0, 1, 12, 11, 10, 9, 7, 8]⟩,
       ⟨some 30, .idxSl 3, [.tmp 28, .tmp 29], some (27, false), 0, [15, 14, 13, 6, 5, 4, 3, 2, 0, 1, 12, 11, 10, 9, 7, 8, 16]⟩,
       ⟨some 31, .fieldAddr 1 1, [.tmp 30], some (27, false), 0, [17, 15, 14, 13, 6, 5, 4, 3, 2, 0, 1, 12, 11, 10, 9, 7, 8, 16]⟩,
       ⟨some 32, .load false 1, [.tmp 31], some (27, false), 0, [18, 17, 15, 14, 13, 6, 5, 4, 3, 2, 0, 1, 12, 11, 10, 9, 7, 8, 16]⟩,
       ⟨some 33, .bin .lss, [.tmp 32, .cst (.int .i64 0)], some (27, false), 0, [19, 18, 17, 15, 14, 13, 6, 5, 4, 3, 2, 0, 1, 12, 11, 10, 9, 7, 8, 16]⟩,
       ⟨some 34, .pick, [.tmp 27, .cst (.bool true), .tmp 33], none, 0, [14, 13, 6, 5, 4, 3, 2, 0, 1, 12, 11, 10, 9, 7, 8, 20, 19, 18, 17, 15, 16]⟩,
       ⟨some 35, .mov, [.tmp 34], none, 0, [21, 14, 13, 6, 5, 4, 3, 2, 0, 1, 12, 11, 10, 9, 7, 8, 20, 19, 18, 17, 15, 16]⟩,
       ⟨some 36, .mov, [.tmp 0], some (35, false), 0, [22, 21, 14, 13, 6, 5, 4, 3, 2, 0, 1, 12, 11, 10, 9, 7, 8, 20, 19, 18, 17, 15, 16]⟩,
       ⟨some 37, .mov, [.tmp 3], some (35, false), 0, [22, 21, 14, 13, 6, 5, 4, 3, 2, 0, 1, 12, 11, 10, 9, 7, 8, 20, 19, 18, 17, 15, 16]⟩,
       ⟨some 38, .idxSl 3, [.tmp 36, .tmp 37], some (35, false), 0, [23, 22, 21, 14, 13, 6, 5, 4, 3, 2, 0, 1, 12, 11, 10, 9, 7, 8, 20, 19, 18, 17, 15, 16, 24]⟩,
       ⟨some 39, .fieldAddr 1 1, [.tmp 38], some (35, false), 0, [25, 23, 22, 21, 14, 13, 6, 5, 4, 3, 2, 0, 1, 12, 11, 10, 9, 7, 8, 20, 19, 18, 17, 15, 16, 24]⟩,
       ⟨some 40, .load false 1, [.tmp 39], some (35, false), 0, [26, 25, 23, 22, 21, 14, 13, 6, 5, 4, 3, 2, 0, 1, 12, 11, 10, 9, 7, 8, 20, 19, 18, 17, 15, 16, 24]⟩,
       ⟨some 41, .bin .geq, [.tmp 40, .cst (.int .i64 16)], some (35, false), 0, [27, 26, 25, 23, 22, 21, 14, 13, 6, 5, 4, 3, 2, 0, 1, 12, 11, 10, 9, 7, 8, 20, 19, 18, 17, 15, 16, 24]⟩,
       ⟨some 42, .pick, [.tmp 35, .cst (.bool true), .tmp 41], none, 0, [22, 21, 14, 13, 6, 5, 4, 3, 2, 0, 1, 12, 11, 10, 9, 7, 8, 20, 19, 18, 17, 15, 16, 28, 27, 26, 25, 23, 24]⟩,
       ⟨some 43, .mov, [.tmp 42], none, 0, [29, 22, 21, 14, 13, 6, 5, 4, 3, 2, 0, 1, 12, 11, 10, 9, 7, 8, 20, 19, 18, 17, 15, 16, 28, 27, 26, 25, 23, 24]⟩,
       ⟨some 44, .mov, [.tmp 3], some (43, false), 0, [30, 29, 22, 21, 14, 13, 6, 5, 4, 3, 2, 0, 1, 12, 11, 10, 9, 7, 8, 20, 19, 18, 17, 15, 16, 28, 27, 26, 25, 23, 24]⟩,
       ⟨some 45, .bin .gtr, [.tmp 44, .cst (.int .i64 0)], some (43, false), 0, [31, 30, 29, 22, 21, 14, 13, 6, 5, 4, 3, 2, 0, 1, 12, 11, 10, 9, 7, 8, 20, 19, 18, 17, 15, 16, 28, 27, 26, 25, 23, 24]⟩,
       ⟨some 46, .mov, [.tmp 45], some (43, false), 0, [32, 31, 30, 29, 22, 21, 14, 13, 6, 5, 4, 3, 2, 0, 1, 12, 11, 10, 9, 7, 8, 20, 19, 18, 17, 15, 16, 28, 27, 26, 25, 23, 24]⟩,
       ⟨some 47, .mov, [.tmp 0], some (46, true), 0, [33, 32, 31, 30, 29, 22, 21, 14, 13, 6, 5, 4, 3, 2, 0, 1, 12, 11, 10, 9, 7, 8, 20, 19, 18, 17, 15, 16, 28, 27, 26, 25, 23, 24]⟩,
       ⟨some 48, .mov, [.tmp 3], some (46, true), 0, [33, 32, 31, 30, 29, 22, 21, 14, 13, 6, 5, 4, 3, 2, 0, 1, 12, 11, 10, 9, 7, 8, 20, 19, 18, 17, 15, 16, 28, 27, 26, 25, 23, 24]⟩,
       ⟨some 49, .idxSl 3, [.tmp 47, .tmp 48], some (46, true), 0, [34, 33, 32, 31, 30, 29, 22, 21, 14, 13, 6, 5, 4, 3, 2, 0, 1, 12, 11, 10, 9, 7, 8, 20, 19, 18, 17, 15, 16, 28, 27, 26, 25, 23, 24, 35]⟩,
       ⟨some 50, .fieldAddr 0 0, [.tmp 49], some (46, true), 0, [36, 34, 33, 32, 31, 30, 29, 22, 21, 14, 13, 6, 5, 4, 3, 2, 0, 1, 12, 11, 10, 9, 7, 8, 20, 19, 18, 17, 15, 16, 28, 27, 26, 25, 23, 24, 35]⟩,
       ⟨some 51, .load false 1, [.tmp 50], some (46, true), 0, [37, 36, 34, 33, 32, 31, 30, 29, 22, 21, 14, 13, 6, 5, 4, 3, 2, 0, 1, 12, 11, 10, 9, 7, 8, 20, 19, 18, 17, 15, 16, 28, 27, 26, 25, 23, 24, 35]⟩,
       ⟨some 52, .mov, [.tmp 0], some (46, true), 0, [33, 32, 31, 30, 29, 22, 21, 14, 13, 6, 5, 4, 3, 2, 0, 1, 12, 11, 10, 9, 7, 8, 20, 19, 18, 17, 15, 16, 28, 27, 26, 25, 23, 24]⟩,
       ⟨some 53, .mov, [.tmp 3], some (46, true), 0, [33, 32, 31, 30, 29, 22, 21, 14, 13, 6, 5, 4, 3, 2, 0, 1, 12, 11, 10, 9, 7, 8, 20, 19, 18, 17, 15, 16, 28, 27, 26, 25, 23, 24]⟩,
       ⟨some 54, .bin .sub, [.tmp 53, .cst (.int .i64 1)], some (46, true), 0, [40, 33, 32, 31, 30, 29, 22, 21, 14, 13, 6, 5, 4, 3, 2, 0, 1, 12, 11, 10, 9, 7, 8, 20, 19, 18, 17, 15, 16, 28, 27, 26, 25, 23, 24]⟩,
       ⟨some 55, .idxSl 3, [.tmp 52, .tmp 54], some (46, true), 0, [39, 33, 32, 31, 30, 29, 22, 21, 14, 13, 6, 5, 4, 3, 2, 0, 1, 12, 11, 10, 9, 7, 8, 20, 19, 18, 17, 15, 16, 28, 27, 26, 25, 23, 24, 41, 40]⟩,
       ⟨some 56, .fieldAddr 0 0, [.tmp 55], some (46, true), 0, [42, 39, 33, 32, 31, 30, 29, 22, 21, 14, 13, 6, 5, 4, 3, 2, 0, 1, 12, 11, 10, 9, 7, 8, 20, 19, 18, 17, 15, 16, 28, 27, 26, 25, 23, 24, 41, 40]⟩,
       ⟨some 57, .load false 1, [.tmp 56], some (46, true), 0, [43, 42, 39, 33, 32, 31, 30, 29, 22, 21, 14, 13, 6, 5, 4, 3, 2, 0, 1, 12, 11, 10, 9, 7, 8, 20, 19, 18, 17, 15, 16, 28, 27, 26, 25, 23, 24, 41, 40]⟩,
       ⟨some 58, .bin .lss, [.tmp 51, .tmp 57], some (46, true), 0, [38, 37, 36, 34, 33, 32, 31, 30, 29, 22, 21, 14, 13, 6, 5, 4, 3, 2, 0, 1, 12, 11, 10, 9, 7, 8, 20, 19, 18, 17, 15, 16, 28, 27, 26, 25, 23, 24, 35, 44, 43, 42, 39, 41, 40]⟩,
       ⟨some 59, .pick, [.tmp 46, .tmp 58, .cst (.bool false)], some (43, false), 0, [33, 32, 31, 30, 29, 22, 21, 14, 13, 6, 5, 4, 3, 2, 0, 1, 12, 11, 10, 9, 7, 8, 20, 19, 18, 17, 15, 16, 28, 27, 26, 25, 23, 24, 45, 38, 37, 36, 34, 35, 44, 43, 42, 39, 41, 40]⟩,
       ⟨some 60, .pick, [.tmp 43, .cst (.bool true), .tmp 59], none, 0, [30, 29, 22, 21, 14, 13, 6, 5, 4, 3, 2, 0, 1, 12, 11, 10, 9, 7, 8, 20, 19, 18, 17, 15, 16, 28, 27, 26, 25, 23, 24, 46, 33, 32, 31, 45, 38, 37, 36, 34, 35, 44, 43, 42, 39, 41, 40]⟩]) (.cond (.tmp 60) (.seq (.region false 0 [
        ⟨some 2, .mov, [.cst (.bool false)], none, 0, []⟩]) (.cut [2] (.ret))) (.skip)))) (.region false 0 [
      ⟨some 11, .mov, [.tmp 3], none, 0, []⟩,
      ⟨some 12, .bin .add, [.tmp 11, .cst (.int .i64 1)], none, 0, []⟩,
      ⟨some 3, .mov, [.tmp 12], none, 0, []⟩])))
def ir18_v0 : List Nat := [0, 3]
def ir18_t {R : Type} (o0 : St → (Ex → St → Option R) → Option R) : LT R := (.node .nil (.node .nil (.node (.node .nil (.node (.orc o0) .nil)) .nil)))
def ir18 : IFn :=
  { ntmps := 61, results := [.inl 2], body := (.seq (.region false 0 [
    ⟨some 2, .mov, [.cst (.bool false)], none, 0, []⟩]) (.seq (.seq (.region false 0 [
    ⟨some 4, .mov, [.tmp 0], none, 0, []⟩,
    ⟨some 5, .len, [.tmp 4], none, 0, []⟩,
    ⟨some 6, .bin .gtr, [.tmp 5, .cst (.int .i64 1000)], none, 0, []⟩]) (.cond (.tmp 6) (.seq (.region false 0 [
     ⟨some 2, .mov, [.cst (.bool false)], none, 0, []⟩]) (.cut [2] (.ret))) (.skip))) (.seq (.seq (.region false 0 [
    ⟨some 3, .mov, [.cst (.int .i64 0)], none, 0, []⟩]) (.block 0 (.loop ir18_v0 ir18_b0))) (.seq (.region false 0 [
    ⟨some 2, .mov, [.cst (.bool true)], none, 0, []⟩]) (.cut [2] (.ret)))))) }
theorem ir18_tok {R : Type} {summ : Nat → Option Summ} {fu : Nat} {call : Nat → List CV → List Blk → (CV → List Blk → Option R) → Option R} {o0 : St → (Ex → St → Option R) → Option R} (h0 : ∀ T k r, o0 T k = some r → evLoopN (evCode summ fu call ir18_b0) (St.norm ir18_v0) fu T k = some r) : LTok summ fu call (ir18_t o0) ir18.body := ⟨trivial, ⟨trivial, ⟨⟨trivial, h0⟩, trivial⟩⟩⟩


def ir19_b0 : IC := (.seq (.region false 0 [
      ⟨some 14, .bin .lss, [.tmp 13, .tmp 12], none, 0, []⟩]) (.seq (.cond (.tmp 14) (.skip) (.cut [] (.exit 0))) (.seq (.block 1 (.seq (.region false 0 [
       ⟨some 15, .mov, [.tmp 13], none, 0, []⟩,
       ⟨some 5, .mov, [.tmp 15], none, 0, []⟩]) (.seq (.region true 0 [
       ⟨some 16, .mov, [.tmp 0], none, 0, []⟩,
       ⟨some 17, .mov, [.tmp 5], none, 0, []⟩,
       ⟨some 18, .idxSl 3, [.tmp 16, .tmp 17], none, 0, [0, 1]⟩,
       ⟨some 19, .load true 3, [.tmp 18], none, 0, [2, 0, 1]⟩,
       ⟨some 20, .mov, [.tmp 1], none, 0, []⟩,
       ⟨some 21, .mov, [.tmp 5], none, 0, []⟩,
       ⟨some 22, .idxSl 3, [.tmp 20, .tmp 21], none, 0, [4, 5]⟩,
       ⟨some 23, .load true 3, [.tmp 22], none, 0, [6, 4, 5]⟩,
       ⟨some 24, .eqb true (.pair (.int .i64) (.pair (.int .i64) (.pair .bool .unit))), [.tmp 19, .tmp 23], none, 0, [3, 2, 0, 1, 7, 6, 4, 5]⟩]) (.cond (.tmp 24) (.seq (.region false 0 [
        ⟨some 4, .mov, [.cst (.bool false)], none, 0, []⟩]) (.cut [4] (.ret))) (.skip))))) (.region false 0 [
      ⟨some 25, .bin .add, [.tmp 13, .cst (.int .i64 1)], none, 0, []⟩,
      ⟨some 13, .mov, [.tmp 25], none, 0, []⟩]))))
def ir19_v0 : List Nat := [0, 1, 12, 13]
def ir19_t {R : Type} (o0 : St → (Ex → St → Option R) → Option R) : LT R := (.node .nil (.node .nil (.node (.node .nil (.node (.orc o0) .nil)) .nil)))
def ir19 : IFn :=
  { ntmps := 26, results := [.inl 4], body := (.seq (.region false 0 [
    ⟨some 4, .mov, [.cst (.bool false)], none, 0, []⟩]) (.seq (.seq (.region false 0 [
    ⟨some 6, .mov, [.tmp 0], none, 0, []⟩,
    ⟨some 7, .len, [.tmp 6], none, 0, []⟩,
    ⟨some 8, .mov, [.tmp 1], none, 0, []⟩,
    ⟨some 9, .len, [.tmp 8], none, 0, []⟩,
    ⟨some 10, .bin .neq, [.tmp 7, .tmp 9], none, 0, []⟩]) (.cond (.tmp 10) (.seq (.region false 0 [
     ⟨some 4, .mov, [.cst (.bool false)], none, 0, []⟩]) (.cut [4] (.ret))) (.skip))) (.seq (.seq (.region false 0 [
    ⟨some 11, .mov, [.tmp 0], none, 0, []⟩,
    ⟨some 12, .len, [.tmp 11], none, 0, []⟩,
    ⟨some 13, .mov, [.cst (.int .i64 0)], none, 0, []⟩]) (.block 0 (.loop ir19_v0 ir19_b0))) (.seq (.region false 0 [
    ⟨some 4, .mov, [.cst (.bool true)], none, 0, []⟩]) (.cut [4] (.ret)))))) }
theorem ir19_tok {R : Type} {summ : Nat → Option Summ} {fu : Nat} {call : Nat → List CV → List Blk → (CV → List Blk → Option R) → Option R} {o0 : St → (Ex → St → Option R) → Option R} (h0 : ∀ T k r, o0 T k = some r → evLoopN (evCode summ fu call ir19_b0) (St.norm ir19_v0) fu T k = some r) : LTok summ fu call (ir19_t o0) ir19.body := ⟨trivial, ⟨trivial, ⟨⟨trivial, h0⟩, trivial⟩⟩⟩


def ir20_b0 : IC := (.seq (.seq (.region false 0 [
      ⟨some 7, .mov, [.tmp 6], none, 0, []⟩,
      ⟨some 8, .mov, [.tmp 1], none, 0, []⟩,
      ⟨some 9, .len, [.tmp 8], none, 0, []⟩,
      ⟨some 10, .bin .lss, [.tmp 7, .tmp 9], none, 0, []⟩]) (.cond (.tmp 10) (.skip) (.cut [5] (.exit 0)))) (.seq (.block 1 (.seq (.region false 0 [
       ⟨some 13, .fieldAddr 0 0, [.tmp 2], none, 0, []⟩,
       ⟨some 14, .load false 1, [.tmp 13], none, 0, []⟩,
       ⟨some 15, .mov, [.tmp 14], none, 0, []⟩,
       ⟨some 16, .mov, [.tmp 1], some (15, false), 0, []⟩,
       ⟨some 17, .mov, [.tmp 6], some (15, false), 0, []⟩,
       ⟨some 18, .idxSl 3, [.tmp 16, .tmp 17], some (15, false), 0, []⟩,
       ⟨some 19, .fieldAddr 2 2, [.tmp 18], some (15, false), 0, []⟩,
       ⟨some 20, .load false 1, [.tmp 19], some (15, false), 0, []⟩,
       ⟨some 21, .not, [.tmp 20], some (15, false), 0, []⟩,
       ⟨some 22, .pick, [.tmp 15, .cst (.bool true), .tmp 21], none, 0, []⟩]) (.cond (.tmp 22) (.region false 2 [
        ⟨some 23, .mov, [.tmp 5], none, 0, []⟩,
        ⟨some 24, .mov, [.tmp 1], none, 0, []⟩,
        ⟨some 25, .mov, [.tmp 6], none, 0, []⟩,
        ⟨some 26, .idxSl 3, [.tmp 24, .tmp 25], none, 0, []⟩,
        ⟨some 27, .load true 3, [.tmp 26], none, 0, []⟩,
        ⟨some 28, .buildSl 49 (.pair (.int .i64) (.pair (.int .i64) (.pair .bool .unit))) 1, [.tmp 27], none, 0, []⟩,
        ⟨some 29, .append 49 (.pair (.int .i64) (.pair (.int .i64) (.pair .bool .unit))) 24, [.tmp 23, .tmp 28], none, 0, []⟩,
        ⟨some 5, .mov, [.tmp 29], none, 0, []⟩]) (.skip)))) (.region false 0 [
      ⟨some 11, .mov, [.tmp 6], none, 0, []⟩,
      ⟨some 12, .bin .add, [.tmp 11, .cst (.int .i64 1)], none, 0, []⟩,
      ⟨some 6, .mov, [.tmp 12], none, 0, []⟩])))
def ir20_v0 : List Nat := [1, 2, 5, 6]
def ir20_t {R : Type} (o0 : St → (Ex → St → Option R) → Option R) : LT R := (.node .nil (.node .nil (.node (.node .nil (.node (.orc o0) .nil)) .nil)))
def ir20 : IFn :=
  { ntmps := 31, results := [.inl 4], body := (.seq (.region false 1 [
    ⟨some 2, .box 23, [.tmp 0], none, 0, []⟩,
    ⟨some 4, .mov, [.cst (.nil 49 (.pair (.int .i64) (.pair (.int .i64) (.pair .bool .unit))))], none, 0, []⟩]) (.seq (.region false 0 [
    ⟨some 5, .mov, [.cst (.nil 49 (.pair (.int .i64) (.pair (.int .i64) (.pair .bool .unit))))], none, 0, []⟩]) (.seq (.seq (.region false 0 [
    ⟨some 6, .mov, [.cst (.int .i64 0)], none, 0, []⟩]) (.block 0 (.loop ir20_v0 ir20_b0))) (.seq (.region false 0 [
    ⟨some 30, .mov, [.tmp 5], none, 0, []⟩,
    ⟨some 4, .mov, [.tmp 30], none, 0, []⟩]) (.cut [4] (.ret)))))) }
theorem ir20_tok {R : Type} {summ : Nat → Option Summ} {fu : Nat} {call : Nat → List CV → List Blk → (CV → List Blk → Option R) → Option R} {o0 : St → (Ex → St → Option R) → Option R} (h0 : ∀ T k r, o0 T k = some r → evLoopN (evCode summ fu call ir20_b0) (St.norm ir20_v0) fu T k = some r) : LTok summ fu call (ir20_t o0) ir20.body := ⟨trivial, ⟨trivial, ⟨⟨trivial, h0⟩, trivial⟩⟩⟩


def ir21_b0 : IC := (.seq (.seq (.region false 0 [
      ⟨some 9, .mov, [.tmp 8], none, 0, []⟩,
      ⟨some 10, .mov, [.tmp 1], none, 0, []⟩,
      ⟨some 11, .len, [.tmp 10], none, 0, []⟩,
      ⟨some 12, .bin .lss, [.tmp 9, .tmp 11], none, 0, []⟩]) (.cond (.tmp 12) (.skip) (.cut [7] (.exit 0)))) (.seq (.block 1 (.seq (.region false 0 [
       ⟨some 15, .mov, [.tmp 1], none, 0, []⟩,
       ⟨some 16, .mov, [.tmp 8], none, 0, []⟩,
       ⟨some 17, .idxSl 3, [.tmp 15, .tmp 16], none, 0, []⟩,
       ⟨some 18, .fieldAddr 1 1, [.tmp 17], none, 0, []⟩,
       ⟨some 19, .load false 1, [.tmp 18], none, 0, []⟩,
       ⟨some 20, .mov, [.tmp 0], none, 0, []⟩,
       ⟨some 21, .bin .eql, [.tmp 19, .tmp 20], none, 0, []⟩,
       ⟨some 22, .mov, [.tmp 21], none, 0, []⟩,
       ⟨some 23, .mov, [.tmp 1], some (22, true), 0, []⟩,
       ⟨some 24, .mov, [.tmp 8], some (22, true), 0, []⟩,
       ⟨some 25, .idxSl 3, [.tmp 23, .tmp 24], some (22, true), 0, []⟩,
       ⟨some 26, .fieldAddr 0 0, [.tmp 25], some (22, true), 0, []⟩,
       ⟨some 27, .load false 1, [.tmp 26], some (22, true), 0, []⟩,
       ⟨some 28, .mov, [.tmp 2], some (22, true), 0, []⟩,
       ⟨some 29, .bin .leq, [.tmp 27, .tmp 28], some (22, true), 0, []⟩,
       ⟨some 30, .pick, [.tmp 22, .tmp 29, .cst (.bool false)], none, 0, []⟩]) (.cond (.tmp 30) (.region false 0 [
        ⟨some 31, .mov, [.tmp 1], none, 0, []⟩,
        ⟨some 32, .mov, [.tmp 8], none, 0, []⟩,
        ⟨some 33, .idxSl 3, [.tmp 31, .tmp 32], none, 0, []⟩,
        ⟨some 34, .fieldAddr 2 2, [.tmp 33], none, 0, []⟩,
        ⟨some 35, .load false 1, [.tmp 34], none, 0, []⟩,
        ⟨some 7, .mov, [.tmp 35], none, 0, []⟩]) (.skip)))) (.region false 0 [
      ⟨some 13, .mov, [.tmp 8], none, 0, []⟩,
      ⟨some 14, .bin .add, [.tmp 13, .cst (.int .i64 1)], none, 0, []⟩,
      ⟨some 8, .mov, [.tmp 14], none, 0, []⟩])))
def ir21_v0 : List Nat := [0, 1, 2, 7, 8]
def ir21_t {R : Type} (o0 : St → (Ex → St → Option R) → Option R) : LT R := (.node .nil (.node .nil (.node (.node .nil (.node (.orc o0) .nil)) .nil)))
def ir21 : IFn :=
  { ntmps := 37, results := [.inl 6], body := (.seq (.region false 0 [
    ⟨some 6, .mov, [.cst (.bool false)], none, 0, []⟩]) (.seq (.region false 0 [
    ⟨some 7, .mov, [.cst (.bool false)], none, 0, []⟩]) (.seq (.seq (.region false 0 [
    ⟨some 8, .mov, [.cst (.int .i64 0)], none, 0, []⟩]) (.block 0 (.loop ir21_v0 ir21_b0))) (.seq (.region false 0 [
    ⟨some 36, .mov, [.tmp 7], none, 0, []⟩,
    ⟨some 6, .mov, [.tmp 36], none, 0, []⟩]) (.cut [6] (.ret)))))) }
theorem ir21_tok {R : Type} {summ : Nat → Option Summ} {fu : Nat} {call : Nat → List CV → List Blk → (CV → List Blk → Option R) → Option R} {o0 : St → (Ex → St → Option R) → Option R} (h0 : ∀ T k r, o0 T k = some r → evLoopN (evCode summ fu call ir21_b0) (St.norm ir21_v0) fu T k = some r) : LTok summ fu call (ir21_t o0) ir21.body := ⟨trivial, ⟨trivial, ⟨⟨trivial, h0⟩, trivial⟩⟩⟩


def ir22 : IFn :=
  { ntmps := 9, results := [.inl 4], body := (.seq (.region false 0 [
    ⟨some 4, .mov, [.cst (.bool false)], none, 0, []⟩]) (.seq (.region false 1 [
    ⟨some 5, .mov, [.tmp 0], none, 0, []⟩,
    ⟨some 6, .mov, [.tmp 1], none, 0, []⟩,
    ⟨some 7, .callS 36, [.tmp 5, .tmp 6], none, 0, []⟩,
    ⟨some 8, .bin .geq, [.tmp 7, .cst (.int .i64 0)], none, 0, []⟩,
    ⟨some 4, .mov, [.tmp 8], none, 0, []⟩]) (.cut [4] (.ret)))) }


def ir23 : IFn :=
  { ntmps := 9, results := [.inl 4], body := (.seq (.region false 0 [
    ⟨some 4, .mov, [.cst (.bool false)], none, 0, []⟩]) (.seq (.region false 0 [
    ⟨some 5, .mov, [.tmp 0], none, 0, []⟩,
    ⟨some 6, .mov, [.tmp 1], none, 0, []⟩,
    ⟨some 7, .call 37, [.tmp 5, .tmp 6], none, 0, []⟩,
    ⟨some 8, .bin .geq, [.tmp 7, .cst (.int .i64 0)], none, 0, []⟩,
    ⟨some 4, .mov, [.tmp 8], none, 0, []⟩]) (.cut [4] (.ret)))) }


def ir24 : IFn :=
  { ntmps := 5, results := [.inl 2], body := (.seq (.region false 1 [
    ⟨some 1, .box 49, [.tmp 0], none, 0, []⟩,
    ⟨some 2, .mov, [.cst (.bool false)], none, 0, []⟩]) (.seq (.region false 0 [
    ⟨some 3, .fieldAddr 2 2, [.tmp 1], none, 0, []⟩,
    ⟨some 4, .load false 1, [.tmp 3], none, 0, []⟩,
    ⟨some 2, .mov, [.tmp 4], none, 0, []⟩]) (.cut [2] (.ret)))) }


def ir25_b0 : IC := (.seq (.region false 0 [
      ⟨some 14, .bin .lss, [.tmp 13, .tmp 12], none, 0, []⟩]) (.seq (.cond (.tmp 14) (.skip) (.cut [] (.exit 0))) (.seq (.block 1 (.seq (.region false 0 [
       ⟨some 15, .mov, [.tmp 13], none, 0, []⟩,
       ⟨some 5, .mov, [.tmp 15], none, 0, []⟩]) (.seq (.region true 0 [
       ⟨some 16, .mov, [.tmp 0], none, 0, []⟩,
       ⟨some 17, .mov, [.tmp 5], none, 0, []⟩,
       ⟨some 18, .idxSl 1, [.tmp 16, .tmp 17], none, 0, [0, 1]⟩,
       ⟨some 19, .load false 1, [.tmp 18], none, 0, [2, 0, 1]⟩,
       ⟨some 20, .mov, [.tmp 1], none, 0, []⟩,
       ⟨some 21, .mov, [.tmp 5], none, 0, []⟩,
       ⟨some 22, .idxSl 1, [.tmp 20, .tmp 21], none, 0, [4, 5]⟩,
       ⟨some 23, .load false 1, [.tmp 22], none, 0, [6, 4, 5]⟩,
       ⟨some 24, .eqb true .bool, [.tmp 19, .tmp 23], none, 0, [3, 2, 0, 1, 7, 6, 4, 5]⟩]) (.cond (.tmp 24) (.seq (.region false 0 [
        ⟨some 4, .mov, [.cst (.bool false)], none, 0, []⟩]) (.cut [4] (.ret))) (.skip))))) (.region false 0 [
      ⟨some 25, .bin .add, [.tmp 13, .cst (.int .i64 1)], none, 0, []⟩,
      ⟨some 13, .mov, [.tmp 25], none, 0, []⟩]))))
def ir25_v0 : List Nat := [0, 1, 12, 13]
def ir25_t {R : Type} (o0 : St → (Ex → St → Option R) → Option R) : LT R := (.node .nil (.node .nil (.node (.node .nil (.node (.orc o0) .nil)) .nil)))
def ir25 : IFn :=
  { ntmps := 26, results := [.inl 4], body := (.seq (.region false 0 [
    ⟨some 4, .mov, [.cst (.bool false)], none, 0, []⟩]) (.seq (.seq (.region false 0 [
    ⟨some 6, .mov, [.tmp 0], none, 0, []⟩,
    ⟨some 7, .len, [.tmp 6], none, 0, []⟩,
    ⟨some 8, .mov, [.tmp 1], none, 0, []⟩,
    ⟨some 9, .len, [.tmp 8], none, 0, []⟩,
    ⟨some 10, .bin .neq, [.tmp 7, .tmp 9], none, 0, []⟩]) (.cond (.tmp 10) (.seq (.region false 0 [
     ⟨some 4, .mov, [.cst (.bool false)], none, 0, []⟩]) (.cut [4] (.ret))) (.skip))) (.seq (.seq (.region false 0 [
    ⟨some 11, .mov, [.tmp 0], none, 0, []⟩,
    ⟨some 12, .len, [.tmp 11], none, 0, []⟩,
    ⟨some 13, .mov, [.cst (.int .i64 0)], none, 0, []⟩]) (.block 0 (.loop ir25_v0 ir25_b0))) (.seq (.region false 0 [
    ⟨some 4, .mov, [.cst (.bool true)], none, 0, []⟩]) (.cut [4] (.ret)))))) }
theorem ir25_tok {R : Type} {summ : Nat → Option Summ} {fu : Nat} {call : Nat → List CV → List Blk → (CV → List Blk → Option R) → Option R} {o0 : St → (Ex → St → Option R) → Option R} (h0 : ∀ T k r, o0 T k = some r → evLoopN (evCode summ fu call ir25_b0) (St.norm ir25_v0) fu T k = some r) : LTok summ fu call (ir25_t o0) ir25.body := ⟨trivial, ⟨trivial, ⟨⟨trivial, h0⟩, trivial⟩⟩⟩


def ir26 : IFn :=
  { ntmps := 9, results := [.inl 2], body := (.seq (.region false 0 [
    ⟨some 2, .mov, [.cst (.bool false)], none, 0, []⟩]) (.seq (.region false 0 [
    ⟨some 3, .mov, [.tmp 0], none, 0, []⟩,
    ⟨some 4, .bin .geq, [.tmp 3, .cst (.int .i64 0)], none, 0, []⟩,
    ⟨some 5, .mov, [.tmp 4], none, 0, []⟩,
    ⟨some 6, .mov, [.tmp 0], some (5, true), 0, []⟩,
    ⟨some 7, .bin .leq, [.tmp 6, .cst (.int .i64 1099511627776)], some (5, true), 0, []⟩,
    ⟨some 8, .pick, [.tmp 5, .tmp 7, .cst (.bool false)], none, 0, []⟩,
    ⟨some 2, .mov, [.tmp 8], none, 0, []⟩]) (.cut [2] (.ret)))) }


def ir27 : IFn :=
  { ntmps := 16, results := [.inl 6], body := (.seq (.region false 2 [
    ⟨some 4, .box 25, [.tmp 1], none, 0, []⟩,
    ⟨some 5, .box 27, [.tmp 2], none, 0, []⟩,
    ⟨some 6, .mov, [.cst (.int .i64 0)], none, 0, []⟩]) (.seq (.block 0 (.seq (.region false 0 [
     ⟨some 8, .mov, [.tmp 0], none, 0, []⟩,
     ⟨some 9, .not, [.tmp 8], none, 0, []⟩,
     ⟨some 7, .mov, [.tmp 9], none, 0, []⟩]) (.cond (.tmp 7) (.seq (.region false 0 [
      ⟨some 6, .mov, [.cst (.int .i64 1)], none, 0, []⟩]) (.cut [6] (.ret))) (.seq (.region false 0 [
      ⟨some 11, .fieldAddr 2 2, [.tmp 4], none, 0, []⟩,
      ⟨some 12, .load false 1, [.tmp 11], none, 0, []⟩,
      ⟨some 10, .mov, [.tmp 12], none, 0, []⟩]) (.cond (.tmp 10) (.seq (.region false 0 [
       ⟨some 6, .mov, [.cst (.int .i64 2)], none, 0, []⟩]) (.cut [6] (.ret))) (.seq (.region false 0 [
       ⟨some 14, .fieldAddr 4 4, [.tmp 5], none, 0, []⟩,
       ⟨some 15, .load false 1, [.tmp 14], none, 0, []⟩,
       ⟨some 13, .mov, [.tmp 15], none, 0, []⟩]) (.cond (.tmp 13) (.seq (.region false 0 [
        ⟨some 6, .mov, [.cst (.int .i64 3)], none, 0, []⟩]) (.cut [6] (.ret))) (.skip)))))))) (.seq (.region false 0 [
    ⟨some 6, .mov, [.cst (.int .i64 0)], none, 0, []⟩]) (.cut [6] (.ret))))) }


def ir28 : IFn :=
  { ntmps := 15, results := [.inl 6], body := (.seq (.region false 0 [
    ⟨some 6, .mov, [.cst (.bool false)], none, 0, []⟩]) (.seq (.region false 0 [
    ⟨some 7, .mov, [.tmp 0], none, 0, []⟩,
    ⟨some 8, .mov, [.tmp 1], none, 0, []⟩,
    ⟨some 9, .bin .geq, [.tmp 7, .tmp 8], none, 0, []⟩,
    ⟨some 10, .mov, [.tmp 9], none, 0, []⟩,
    ⟨some 11, .mov, [.tmp 0], some (10, true), 0, []⟩,
    ⟨some 12, .mov, [.tmp 2], some (10, true), 0, []⟩,
    ⟨some 13, .bin .leq, [.tmp 11, .tmp 12], some (10, true), 0, []⟩,
    ⟨some 14, .pick, [.tmp 10, .tmp 13, .cst (.bool false)], none, 0, []⟩,
    ⟨some 6, .mov, [.tmp 14], none, 0, []⟩]) (.cut [6] (.ret)))) }


def ir29 : IFn :=
  { ntmps := 9, results := [.inl 2], body := (.seq (.region false 0 [
    ⟨some 2, .mov, [.cst (.bool false)], none, 0, []⟩]) (.seq (.region false 0 [
    ⟨some 3, .mov, [.tmp 0], none, 0, []⟩,
    ⟨some 4, .bin .geq, [.tmp 3, .cst (.int .i64 1)], none, 0, []⟩,
    ⟨some 5, .mov, [.tmp 4], none, 0, []⟩,
    ⟨some 6, .mov, [.tmp 0], some (5, true), 0, []⟩,
    ⟨some 7, .bin .leq, [.tmp 6, .cst (.int .i64 65535)], some (5, true), 0, []⟩,
    ⟨some 8, .pick, [.tmp 5, .tmp 7, .cst (.bool false)], none, 0, []⟩,
    ⟨some 2, .mov, [.tmp 8], none, 0, []⟩]) (.cut [2] (.ret)))) }


def ir30 : IFn :=
  { ntmps := 9, results := [.inl 2], body := (.seq (.region false 0 [
    ⟨some 2, .mov, [.cst (.bool false)], none, 0, []⟩]) (.seq (.region false 0 [
    ⟨some 3, .mov, [.tmp 0], none, 0, []⟩,
    ⟨some 4, .bin .geq, [.tmp 3, .cst (.int .i64 0)], none, 0, []⟩,
    ⟨some 5, .mov, [.tmp 4], none, 0, []⟩,
    ⟨some 6, .mov, [.tmp 0], some (5, true), 0, []⟩,
    ⟨some 7, .bin .leq, [.tmp 6, .cst (.int .i64 1099511627776)], some (5, true), 0, []⟩,
    ⟨some 8, .pick, [.tmp 5, .tmp 7, .cst (.bool false)], none, 0, []⟩,
    ⟨some 2, .mov, [.tmp 8], none, 0, []⟩]) (.cut [2] (.ret)))) }


def ir32_b0 : IC := (.seq (.region false 0 [
      ⟨some 12, .bin .lss, [.tmp 11, .tmp 10], none, 0, []⟩]) (.seq (.cond (.tmp 12) (.skip) (.cut [] (.exit 0))) (.seq (.block 1 (.seq (.region false 1 [
       ⟨some 13, .idxSl 3, [.tmp 9, .tmp 11], none, 0, []⟩,
       ⟨some 14, .load true 3, [.tmp 13], none, 0, []⟩,
       ⟨some 5, .alloc 49 (.pure (.pair (.int .i64) (.pair (.int .i64) (.pair .bool .unit))) (0, (0, (false, ())))), [], none, 0, []⟩,
       ⟨none, .store 3, [.tmp 5, .tmp 14], none, 0, []⟩]) (.seq (.seq (.region false 1 [
       ⟨some 15, .fieldAddr 0 0, [.tmp 5], none, 0, []⟩,
       ⟨some 16, .load false 1, [.tmp 15], none, 0, []⟩,
       ⟨some 17, .callS 26, [.tmp 16], none, 0, []⟩,
       ⟨some 18, .not, [.tmp 17], none, 0, []⟩,
       ⟨some 19, .mov, [.tmp 18], none, 0, []⟩,
       ⟨some 20, .fieldAddr 0 0, [.tmp 5], some (19, false), 0, []⟩,
       ⟨some 21, .load false 1, [.tmp 20], some (19, false), 0, []⟩,
       ⟨some 22, .mov, [.tmp 3], some (19, false), 0, []⟩,
       ⟨some 23, .bin .lss, [.tmp 21, .tmp 22], some (19, false), 0, []⟩,
       ⟨some 24, .pick, [.tmp 19, .cst (.bool true), .tmp 23], none, 0, []⟩,
       ⟨some 25, .mov, [.tmp 24], none, 0, []⟩,
       ⟨some 26, .fieldAddr 1 1, [.tmp 5], some (25, false), 0, []⟩,
       ⟨some 27, .load false 1, [.tmp 26], some (25, false), 0, []⟩,
       ⟨some 28, .bin .lss, [.tmp 27, .cst (.int .i64 0)], some (25, false), 0, []⟩,
       ⟨some 29, .pick, [.tmp 25, .cst (.bool true), .tmp 28], none, 0, []⟩,
       ⟨some 30, .mov, [.tmp 29], none, 0, []⟩,
       ⟨some 31, .fieldAddr 1 1, [.tmp 5], some (30, false), 0, []⟩,
       ⟨some 32, .load false 1, [.tmp 31], some (30, false), 0, []⟩,
       ⟨some 33, .bin .geq, [.tmp 32, .cst (.int .i64 16)], some (30, false), 0, []⟩,
       ⟨some 34, .pick, [.tmp 30, .cst (.bool true), .tmp 33], none, 0, []⟩]) (.cond (.tmp 34) (.seq (.region false 0 [
        ⟨some 2, .mov, [.cst (.bool false)], none, 0, []⟩]) (.cut [2] (.ret))) (.skip))) (.region false 0 [
       ⟨some 35, .fieldAddr 0 0, [.tmp 5], none, 0, []⟩,
       ⟨some 36, .load false 1, [.tmp 35], none, 0, []⟩,
       ⟨some 3, .mov, [.tmp 36], none, 0, []⟩])))) (.region false 0 [
      ⟨some 37, .bin .add, [.tmp 11, .cst (.int .i64 1)], none, 0, []⟩,
      ⟨some 11, .mov, [.tmp 37], none, 0, []⟩]))))
def ir32_v0 : List Nat := [3, 9, 10, 11]
def ir32_t {R : Type} (o0 : St → (Ex → St → Option R) → Option R) : LT R := (.node .nil (.node .nil (.node .nil (.node (.node .nil (.node (.orc o0) .nil)) .nil))))
def ir32 : IFn :=
  { ntmps := 38, results := [.inl 2], body := (.seq (.region false 0 [
    ⟨some 2, .mov, [.cst (.bool false)], none, 0, []⟩]) (.seq (.seq (.region false 0 [
    ⟨some 6, .mov, [.tmp 0], none, 0, []⟩,
    ⟨some 7, .len, [.tmp 6], none, 0, []⟩,
    ⟨some 8, .bin .gtr, [.tmp 7, .cst (.int .i64 1000)], none, 0, []⟩]) (.cond (.tmp 8) (.seq (.region false 0 [
     ⟨some 2, .mov, [.cst (.bool false)], none, 0, []⟩]) (.cut [2] (.ret))) (.skip))) (.seq (.region false 0 [
    ⟨some 3, .mov, [.cst (.int .i64 0)], none, 0, []⟩]) (.seq (.seq (.region false 0 [
    ⟨some 9, .mov, [.tmp 0], none, 0, []⟩,
    ⟨some 10, .len, [.tmp 9], none, 0, []⟩,
    ⟨some 11, .mov, [.cst (.int .i64 0)], none, 0, []⟩]) (.block 0 (.loop ir32_v0 ir32_b0))) (.seq (.region false 0 [
    ⟨some 2, .mov, [.cst (.bool true)], none, 0, []⟩]) (.cut [2] (.ret))))))) }
theorem ir32_tok {R : Type} {summ : Nat → Option Summ} {fu : Nat} {call : Nat → List CV → List Blk → (CV → List Blk → Option R) → Option R} {o0 : St → (Ex → St → Option R) → Option R} (h0 : ∀ T k r, o0 T k = some r → evLoopN (evCode summ fu call ir32_b0) (St.norm ir32_v0) fu T k = some r) : LTok summ fu call (ir32_t o0) ir32.body := ⟨trivial, ⟨trivial, ⟨trivial, ⟨⟨trivial, h0⟩, trivial⟩⟩⟩⟩


def ir33_b0 : IC := (.seq (.seq (.region false 0 [
      ⟨some 16, .mov, [.tmp 6], none, 0, []⟩,
      ⟨some 17, .mov, [.tmp 0], none, 0, []⟩,
      ⟨some 18, .len, [.tmp 17], none, 0, []⟩,
      ⟨some 19, .bin .lss, [.tmp 16, .tmp 18], none, 0, []⟩]) (.cond (.tmp 19) (.skip) (.cut [0, 5] (.exit 0)))) (.seq (.block 1 (.seq (.region false 1 [
       ⟨some 22, .mov, [.tmp 0], none, 0, []⟩,
       ⟨some 23, .mov, [.tmp 6], none, 0, []⟩,
       ⟨some 24, .idxSl 3, [.tmp 22, .tmp 23], none, 0, []⟩,
       ⟨some 25, .load true 3, [.tmp 24], none, 0, []⟩,
       ⟨some 7, .alloc 49 (.pure (.pair (.int .i64) (.pair (.int .i64) (.pair .bool .unit))) (0, (0, (false, ())))), [], none, 0, []⟩,
       ⟨none, .store 3, [.tmp 7, .tmp 25], none, 0, []⟩]) (.seq (.region false 0 [
       ⟨some 26, .mov, [.tmp 1], none, 0, []⟩,
       ⟨some 27, .load true 3, [.tmp 7], none, 0, []⟩,
       ⟨some 28, .callv, [.tmp 26, .tmp 27], none, 0, []⟩,
       ⟨some 29, .not, [.tmp 28], none, 0, []⟩]) (.cond (.tmp 29) (.seq (.region false 0 [
        ⟨some 30, .mov, [.tmp 0], none, 0, []⟩,
        ⟨some 31, .mov, [.tmp 5], none, 0, []⟩,
        ⟨some 32, .load true 3, [.tmp 7], none, 0, []⟩,
        ⟨some 33, .idxSl 3, [.tmp 30, .tmp 31], none, 0, []⟩,
        ⟨none, .store 3, [.tmp 33, .tmp 32], none, 0, []⟩]) (.region false 0 [
        ⟨some 34, .mov, [.tmp 5], none, 0, []⟩,
        ⟨some 35, .bin .add, [.tmp 34, .cst (.int .i64 1)], none, 0, []⟩,
        ⟨some 5, .mov, [.tmp 35], none, 0, []⟩])) (.skip))))) (.region false 0 [
      ⟨some 20, .mov, [.tmp 6], none, 0, []⟩,
      ⟨some 21, .bin .add, [.tmp 20, .cst (.int .i64 1)], none, 0, []⟩,
      ⟨some 6, .mov, [.tmp 21], none, 0, []⟩])))
def ir33_v0 : List Nat := [0, 1, 5, 6]
def ir33_t {R : Type} (o0 : St → (Ex → St → Option R) → Option R) : LT R := (.node .nil (.node .nil (.node .nil (.node (.node .nil (.node (.orc o0) .nil)) .nil))))
def ir33 : IFn :=
  { ntmps := 42, results := [.inl 4], body := (.seq (.region false 0 [
    ⟨some 4, .mov, [.cst (.nil 49 (.pair (.int .i64) (.pair (.int .i64) (.pair .bool .unit))))], none, 0, []⟩]) (.seq (.region false 0 [
    ⟨some 8, .mov, [.tmp 0], none, 0, []⟩,
    ⟨some 9, .mov, [.tmp 1], none, 0, []⟩,
    ⟨some 10, .call 37, [.tmp 8, .tmp 9], none, 0, []⟩,
    ⟨some 5, .mov, [.tmp 10], none, 0, []⟩]) (.seq (.seq (.region false 0 [
    ⟨some 11, .mov, [.tmp 5], none, 0, []⟩,
    ⟨some 12, .bin .eql, [.tmp 11, .cst (.int .i64 (-1))], none, 0, []⟩]) (.cond (.tmp 12) (.seq (.region false 0 [
     ⟨some 13, .mov, [.tmp 0], none, 0, []⟩,
     ⟨some 4, .mov, [.tmp 13], none, 0, []⟩]) (.cut [4] (.ret))) (.skip))) (.seq (.seq (.region false 0 [
    ⟨some 14, .mov, [.tmp 5], none, 0, []⟩,
    ⟨some 15, .bin .add, [.tmp 14, .cst (.int .i64 1)], none, 0, []⟩,
    ⟨some 6, .mov, [.tmp 15], none, 0, []⟩]) (.block 0 (.loop ir33_v0 ir33_b0))) (.seq (.region false 0 [
    ⟨some 36, .mov, [.tmp 0], none, 0, []⟩,
    ⟨some 37, .mov, [.tmp 5], none, 0, []⟩,
    ⟨some 38, .slice 3 true false, [.tmp 36, .tmp 37], none, 0, []⟩,
    ⟨none, .clear (.pair (.int .i64) (.pair (.int .i64) (.pair .bool .unit))), [.tmp 38], none, 0, []⟩]) (.seq (.region false 0 [
    ⟨some 39, .mov, [.tmp 0], none, 0, []⟩,
    ⟨some 40, .mov, [.tmp 5], none, 0, []⟩,
    ⟨some 41, .slice 3 false true, [.tmp 39, .tmp 40], none, 0, []⟩,
    ⟨some 4, .mov, [.tmp 41], none, 0, []⟩]) (.cut [4] (.ret)))))))) }
theorem ir33_tok {R : Type} {summ : Nat → Option Summ} {fu : Nat} {call : Nat → List CV → List Blk → (CV → List Blk → Option R) → Option R} {o0 : St → (Ex → St → Option R) → Option R} (h0 : ∀ T k r, o0 T k = some r → evLoopN (evCode summ fu call ir33_b0) (St.norm ir33_v0) fu T k = some r) : LTok summ fu call (ir33_t o0) ir33.body := ⟨trivial, ⟨trivial, ⟨trivial, ⟨⟨trivial, h0⟩, trivial⟩⟩⟩⟩


def ir35 : IFn :=
  { ntmps := 11, results := [.inl 3], body := (.seq (.region false 1 [
    ⟨some 2, .box 49, [.tmp 0], none, 0, []⟩,
    ⟨some 3, .mov, [.cst (.bool false)], none, 0, []⟩]) (.seq (.region false 0 [
    ⟨some 4, .fieldAddr 2 2, [.tmp 2], none, 0, []⟩,
    ⟨some 5, .load false 1, [.tmp 4], none, 0, []⟩,
    ⟨some 6, .mov, [.tmp 5], none, 0, []⟩,
    ⟨some 7, .fieldAddr 0 0, [.tmp 1], some (6, true), 0, []⟩,
    ⟨some 8, .load false 1, [.tmp 7], some (6, true), 0, []⟩,
    ⟨some 9, .not, [.tmp 8], some (6, true), 0, []⟩,
    ⟨some 10, .pick, [.tmp 6, .tmp 9, .cst (.bool false)], none, 0, []⟩,
    ⟨some 3, .mov, [.tmp 10], none, 0, []⟩]) (.cut [3] (.ret)))) }


def ir36_b0 : IC := (.seq (.region false 0 [
      ⟨some 9, .bin .lss, [.tmp 8, .tmp 7], none, 0, []⟩]) (.seq (.cond (.tmp 9) (.skip) (.cut [] (.exit 0))) (.seq (.block 1 (.seq (.region false 0 [
       ⟨some 10, .mov, [.tmp 8], none, 0, []⟩,
       ⟨some 5, .mov, [.tmp 10], none, 0, []⟩]) (.seq (.region false 0 [
       ⟨some 11, .mov, [.tmp 1], none, 0, []⟩,
       ⟨some 12, .mov, [.tmp 0], none, 0, []⟩,
       ⟨some 13, .mov, [.tmp 5], none, 0, []⟩,
       ⟨some 14, .idxSl 1, [.tmp 12, .tmp 13], none, 0, []⟩,
       ⟨some 15, .load false 1, [.tmp 14], none, 0, []⟩,
       ⟨some 16, .eqb false .bool, [.tmp 11, .tmp 15], none, 0, []⟩]) (.cond (.tmp 16) (.seq (.region false 0 [
        ⟨some 17, .mov, [.tmp 5], none, 0, []⟩,
        ⟨some 4, .mov, [.tmp 17], none, 0, []⟩]) (.cut [4] (.ret))) (.skip))))) (.region false 0 [
      ⟨some 18, .bin .add, [.tmp 8, .cst (.int .i64 1)], none, 0, []⟩,
      ⟨some 8, .mov, [.tmp 18], none, 0, []⟩]))))
def ir36_v0 : List Nat := [0, 1, 7, 8]
def ir36_t {R : Type} (o0 : St → (Ex → St → Option R) → Option R) : LT R := (.node .nil (.node (.node .nil (.node (.orc o0) .nil)) .nil))
def ir36 : IFn :=
  { ntmps := 19, results := [.inl 4], body := (.seq (.region false 0 [
    ⟨some 4, .mov, [.cst (.int .i64 0)], none, 0, []⟩]) (.seq (.seq (.region false 0 [
    ⟨some 6, .mov, [.tmp 0], none, 0, []⟩,
    ⟨some 7, .len, [.tmp 6], none, 0, []⟩,
    ⟨some 8, .mov, [.cst (.int .i64 0)], none, 0, []⟩]) (.block 0 (.loop ir36_v0 ir36_b0))) (.seq (.region false 0 [
    ⟨some 4, .mov, [.cst (.int .i64 (-1))], none, 0, []⟩]) (.cut [4] (.ret))))) }
theorem ir36_tok {R : Type} {summ : Nat → Option Summ} {fu : Nat} {call : Nat → List CV → List Blk → (CV → List Blk → Option R) → Option R} {o0 : St → (Ex → St → Option R) → Option R} (h0 : ∀ T k r, o0 T k = some r → evLoopN (evCode summ fu call ir36_b0) (St.norm ir36_v0) fu T k = some r) : LTok summ fu call (ir36_t o0) ir36.body := ⟨trivial, ⟨⟨trivial, h0⟩, trivial⟩⟩


def ir37_b0 : IC := (.seq (.region false 0 [
      ⟨some 9, .bin .lss, [.tmp 8, .tmp 7], none, 0, []⟩]) (.seq (.cond (.tmp 9) (.skip) (.cut [] (.exit 0))) (.seq (.block 1 (.seq (.region false 0 [
       ⟨some 10, .mov, [.tmp 8], none, 0, []⟩,
       ⟨some 5, .mov, [.tmp 10], none, 0, []⟩]) (.seq (.region false 0 [
       ⟨some 11, .mov, [.tmp 1], none, 0, []⟩,
       ⟨some 12, .mov, [.tmp 0], none, 0, []⟩,
       ⟨some 13, .mov, [.tmp 5], none, 0, []⟩,
       ⟨some 14, .idxSl 3, [.tmp 12, .tmp 13], none, 0, []⟩,
       ⟨some 15, .load true 3, [.tmp 14], none, 0, []⟩,
       ⟨some 16, .callv, [.tmp 11, .tmp 15], none, 0, []⟩]) (.cond (.tmp 16) (.seq (.region false 0 [
        ⟨some 17, .mov, [.tmp 5], none, 0, []⟩,
        ⟨some 4, .mov, [.tmp 17], none, 0, []⟩]) (.cut [4] (.ret))) (.skip))))) (.region false 0 [
      ⟨some 18, .bin .add, [.tmp 8, .cst (.int .i64 1)], none, 0, []⟩,
      ⟨some 8, .mov, [.tmp 18], none, 0, []⟩]))))
def ir37_v0 : List Nat := [0, 1, 7, 8]
def ir37_t {R : Type} (o0 : St → (Ex → St → Option R) → Option R) : LT R := (.node .nil (.node (.node .nil (.node (.orc o0) .nil)) .nil))
def ir37 : IFn :=
  { ntmps := 19, results := [.inl 4], body := (.seq (.region false 0 [
    ⟨some 4, .mov, [.cst (.int .i64 0)], none, 0, []⟩]) (.seq (.seq (.region false 0 [
    ⟨some 6, .mov, [.tmp 0], none, 0, []⟩,
    ⟨some 7, .len, [.tmp 6], none, 0, []⟩,
    ⟨some 8, .mov, [.cst (.int .i64 0)], none, 0, []⟩]) (.block 0 (.loop ir37_v0 ir37_b0))) (.seq (.region false 0 [
    ⟨some 4, .mov, [.cst (.int .i64 (-1))], none, 0, []⟩]) (.cut [4] (.ret))))) }
theorem ir37_tok {R : Type} {summ : Nat → Option Summ} {fu : Nat} {call : Nat → List CV → List Blk → (CV → List Blk → Option R) → Option R} {o0 : St → (Ex → St → Option R) → Option R} (h0 : ∀ T k r, o0 T k = some r → evLoopN (evCode summ fu call ir37_b0) (St.norm ir37_v0) fu T k = some r) : LTok summ fu call (ir37_t o0) ir37.body := ⟨trivial, ⟨⟨trivial, h0⟩, trivial⟩⟩


def fns : Nat → Option IFn
  | 5 => some ir5
  | 6 => some ir6
  | 7 => some ir7
  | 8 => some ir8
  | 9 => some ir9
  | 10 => some ir10
  | 11 => some ir11
  | 13 => some ir13
  | 14 => some ir14
  | 16 => some ir16
  | 17 => some ir17
  | 18 => some ir18
  | 19 => some ir19
  | 20 => some ir20
  | 21 => some ir21
  | 22 => some ir22
  | 23 => some ir23
  | 24 => some ir24
  | 25 => some ir25
  | 26 => some ir26
  | 27 => some ir27
  | 28 => some ir28
  | 29 => some ir29
  | 30 => some ir30
  | 32 => some ir32
  | 33 => some ir33
  | 35 => some ir35
  | 36 => some ir36
  | 37 => some ir37
  | _ => none
end Go.Ev
namespace Go.Ev
open Go
set_option maxRecDepth 100000
set_option maxHeartbeats 4000000
set_option linter.unusedVariables false
noncomputable section

def sm_26 : Nat → Option Summ := fun f => none


def F_26 (a0 : Int) : Option (Bool × Unit) :=
  bif decide (a0 ≥ (0 : Int)) then some (decide (a0 ≤ (1099511627776 : Int)), PUnit.unit) else some (false, PUnit.unit)
theorem fn_26 (a0 : Int) : evFnL sm_26 FU (ovr noO (evFn sm_26 fns FU 0)) .nil ir26 (ofH [(.int .i64)] (a0, ())) [] (pureK [.bool]) = F_26 a0 := by kernel_rfl
def Sp.p_26 (a0 : Int) : Bool := (F_26 a0).isSome
def Sp.v_26 (a0 : Int) : Bool × Unit := (F_26 a0).getD (dfH [.bool])
def s_26 : Summ := shN [(.int .i64)] [.bool] (fun x => Sp.p_26 x.1) (fun x => Sp.v_26 x.1)
theorem pv_26 (a0 : Int) {y : Bool × Unit} (h : F_26 a0 = some y) : Sp.p_26 a0 = true ∧ Sp.v_26 a0 = y := ⟨by rw [Sp.p_26, h]; rfl, by rw [Sp.v_26, h]; rfl⟩
theorem run_26 (x : HDen [(.int .i64)]) (y : HDen [.bool]) (h : F_26 x.1 = some y) : evFn sm_26 fns FU 1 26 (ofH [(.int .i64)] x) [] (pureK [.bool]) = some y :=
  evFnL_sound (fn := ir26) (t := .nil) (o := noO) rfl noO_ok trivial ((fn_26 _).trans h)
end
end Go.Ev
namespace Go.Ev
open Go
set_option maxRecDepth 100000
set_option maxHeartbeats 4000000
set_option linter.unusedVariables false
noncomputable section

def sm_10 : Nat → Option Summ := fun f => bif Nat.beq f 26 then some s_26 else none


def F_10 (a0 : (Bool × (Int × (Int × Unit)))) : Option (Bool × Unit) :=
  bif decide (Prod.fst (Prod.snd a0) ≥ (0 : Int)) then bif decide (Prod.fst (Prod.snd a0) ≤ (3 : Int)) then bif Prod.fst a0 == (Prod.fst (Prod.snd a0) == (0 : Int)) then gd (Sp.p_26 (Prod.fst (Prod.snd (Prod.snd a0)))) (some (Prod.fst (Sp.v_26 (Prod.fst (Prod.snd (Prod.snd a0)))), PUnit.unit)) else some (false, PUnit.unit) else some (false, PUnit.unit) else some (false, PUnit.unit)
theorem fn_10 (a0 : (Bool × (Int × (Int × Unit)))) : evFnL sm_10 FU (ovr noO (evFn sm_10 fns FU 0)) .nil ir10 (ofH [(.pair .bool (.pair (.int .i64) (.pair (.int .i64) .unit)))] (a0, ())) [] (pureK [.bool]) = F_10 a0 := by kernel_rfl
def Sp.p_10 (a0 : (Bool × (Int × (Int × Unit)))) : Bool := (F_10 a0).isSome
def Sp.v_10 (a0 : (Bool × (Int × (Int × Unit)))) : Bool × Unit := (F_10 a0).getD (dfH [.bool])
def s_10 : Summ := shN [(.pair .bool (.pair (.int .i64) (.pair (.int .i64) .unit)))] [.bool] (fun x => Sp.p_10 x.1) (fun x => Sp.v_10 x.1)
theorem pv_10 (a0 : (Bool × (Int × (Int × Unit)))) {y : Bool × Unit} (h : F_10 a0 = some y) : Sp.p_10 a0 = true ∧ Sp.v_10 a0 = y := ⟨by rw [Sp.p_10, h]; rfl, by rw [Sp.v_10, h]; rfl⟩
theorem run_10 (x : HDen [(.pair .bool (.pair (.int .i64) (.pair (.int .i64) .unit)))]) (y : HDen [.bool]) (h : F_10 x.1 = some y) : evFn sm_10 fns FU 1 10 (ofH [(.pair .bool (.pair (.int .i64) (.pair (.int .i64) .unit)))] x) [] (pureK [.bool]) = some y :=
  evFnL_sound (fn := ir10) (t := .nil) (o := noO) rfl noO_ok trivial ((fn_10 _).trans h)
end
end Go.Ev
namespace Go.Ev
open Go
set_option maxRecDepth 100000
set_option maxHeartbeats 4000000
set_option linter.unusedVariables false
noncomputable section

def sm_28 : Nat → Option Summ := fun f => none


def F_28 (a0 : Int) (a1 : Int) (a2 : Int) : Option (Bool × Unit) :=
  bif decide (a0 ≥ a1) then some (decide (a0 ≤ a2), PUnit.unit) else some (false, PUnit.unit)
theorem fn_28 (a0 : Int) (a1 : Int) (a2 : Int) : evFnL sm_28 FU (ovr noO (evFn sm_28 fns FU 0)) .nil ir28 (ofH [(.int .i64), (.int .i64), (.int .i64)] (a0, a1, a2, ())) [] (pureK [.bool]) = F_28 a0 a1 a2 := by kernel_rfl
def Sp.p_28 (a0 : Int) (a1 : Int) (a2 : Int) : Bool := (F_28 a0 a1 a2).isSome
def Sp.v_28 (a0 : Int) (a1 : Int) (a2 : Int) : Bool × Unit := (F_28 a0 a1 a2).getD (dfH [.bool])
def s_28 : Summ := shN [(.int .i64), (.int .i64), (.int .i64)] [.bool] (fun x => Sp.p_28 x.1 x.2.1 x.2.2.1) (fun x => Sp.v_28 x.1 x.2.1 x.2.2.1)
theorem pv_28 (a0 : Int) (a1 : Int) (a2 : Int) {y : Bool × Unit} (h : F_28 a0 a1 a2 = some y) : Sp.p_28 a0 a1 a2 = true ∧ Sp.v_28 a0 a1 a2 = y := ⟨by rw [Sp.p_28, h]; rfl, by rw [Sp.v_28, h]; rfl⟩
theorem run_28 (x : HDen [(.int .i64), (.int .i64), (.int .i64)]) (y : HDen [.bool]) (h : F_28 x.1 x.2.1 x.2.2.1 = some y) : evFn sm_28 fns FU 1 28 (ofH [(.int .i64), (.int .i64), (.int .i64)] x) [] (pureK [.bool]) = some y :=
  evFnL_sound (fn := ir28) (t := .nil) (o := noO) rfl noO_ok trivial ((fn_28 _ _ _).trans h)
end
end Go.Ev
namespace Go.Ev
open Go
set_option maxRecDepth 100000
set_option maxHeartbeats 4000000
set_option linter.unusedVariables false
noncomputable section

def sm_13 : Nat → Option Summ := fun f => bif Nat.beq f 28 then some s_28 else none


def F_13 (a0 : (Int × (Int × (Bool × Unit)))) : Option (Bool × Unit) :=
  gd (Sp.p_28 (Prod.fst a0) (0 : Int) (5 : Int)) (bif Prod.fst (Sp.v_28 (Prod.fst a0) (0 : Int) (5 : Int)) then gd (Sp.p_28 (Prod.fst (Prod.snd a0)) (0 : Int) (1000 : Int)) (bif Prod.fst (Sp.v_28 (Prod.fst (Prod.snd a0)) (0 : Int) (1000 : Int)) then bif Prod.fst a0 == (0 : Int) then bif Prod.fst (Prod.snd (Prod.snd a0)) then some (true, PUnit.unit) else some (decide (Prod.fst a0 < (5 : Int)), PUnit.unit) else bif Prod.fst (Prod.snd a0) == (0 : Int) then bif Prod.fst (Prod.snd (Prod.snd a0)) then some (true, PUnit.unit) else some (decide (Prod.fst a0 < (5 : Int)), PUnit.unit) else some (false, PUnit.unit) else some (false, PUnit.unit)) else some (false, PUnit.unit))
theorem fn_13 (a0 : (Int × (Int × (Bool × Unit)))) : evFnL sm_13 FU (ovr noO (evFn sm_13 fns FU 0)) .nil ir13 (ofH [(.pair (.int .i64) (.pair (.int .i64) (.pair .bool .unit)))] (a0, ())) [] (pureK [.bool]) = F_13 a0 := by kernel_rfl
def Sp.p_13 (a0 : (Int × (Int × (Bool × Unit)))) : Bool := (F_13 a0).isSome
def Sp.v_13 (a0 : (Int × (Int × (Bool × Unit)))) : Bool × Unit := (F_13 a0).getD (dfH [.bool])
def s_13 : Summ := shN [(.pair (.int .i64) (.pair (.int .i64) (.pair .bool .unit)))] [.bool] (fun x => Sp.p_13 x.1) (fun x => Sp.v_13 x.1)
theorem pv_13 (a0 : (Int × (Int × (Bool × Unit)))) {y : Bool × Unit} (h : F_13 a0 = some y) : Sp.p_13 a0 = true ∧ Sp.v_13 a0 = y := ⟨by rw [Sp.p_13, h]; rfl, by rw [Sp.v_13, h]; rfl⟩
theorem run_13 (x : HDen [(.pair (.int .i64) (.pair (.int .i64) (.pair .bool .unit)))]) (y : HDen [.bool]) (h : F_13 x.1 = some y) : evFn sm_13 fns FU 1 13 (ofH [(.pair (.int .i64) (.pair (.int .i64) (.pair .bool .unit)))] x) [] (pureK [.bool]) = some y :=
  evFnL_sound (fn := ir13) (t := .nil) (o := noO) rfl noO_ok trivial ((fn_13 _).trans h)
end
end Go.Ev
namespace Go.Ev
open Go
set_option maxRecDepth 100000
set_option maxHeartbeats 4000000
set_option linter.unusedVariables false
noncomputable section

def sm_29 : Nat → Option Summ := fun f => none


def F_29 (a0 : Int) : Option (Bool × Unit) :=
  bif decide (a0 ≥ (1 : Int)) then some (decide (a0 ≤ (65535 : Int)), PUnit.unit) else some (false, PUnit.unit)
theorem fn_29 (a0 : Int) : evFnL sm_29 FU (ovr noO (evFn sm_29 fns FU 0)) .nil ir29 (ofH [(.int .i64)] (a0, ())) [] (pureK [.bool]) = F_29 a0 := by kernel_rfl
def Sp.p_29 (a0 : Int) : Bool := (F_29 a0).isSome
def Sp.v_29 (a0 : Int) : Bool × Unit := (F_29 a0).getD (dfH [.bool])
def s_29 : Summ := shN [(.int .i64)] [.bool] (fun x => Sp.p_29 x.1) (fun x => Sp.v_29 x.1)
theorem pv_29 (a0 : Int) {y : Bool × Unit} (h : F_29 a0 = some y) : Sp.p_29 a0 = true ∧ Sp.v_29 a0 = y := ⟨by rw [Sp.p_29, h]; rfl, by rw [Sp.v_29, h]; rfl⟩
theorem run_29 (x : HDen [(.int .i64)]) (y : HDen [.bool]) (h : F_29 x.1 = some y) : evFn sm_29 fns FU 1 29 (ofH [(.int .i64)] x) [] (pureK [.bool]) = some y :=
  evFnL_sound (fn := ir29) (t := .nil) (o := noO) rfl noO_ok trivial ((fn_29 _).trans h)
end
end Go.Ev
namespace Go.Ev
open Go
set_option maxRecDepth 100000
set_option maxHeartbeats 4000000
set_option linter.unusedVariables false
noncomputable section

def sm_30 : Nat → Option Summ := fun f => none


def F_30 (a0 : Int) : Option (Bool × Unit) :=
  bif decide (a0 ≥ (0 : Int)) then some (decide (a0 ≤ (1099511627776 : Int)), PUnit.unit) else some (false, PUnit.unit)
theorem fn_30 (a0 : Int) : evFnL sm_30 FU (ovr noO (evFn sm_30 fns FU 0)) .nil ir30 (ofH [(.int .i64)] (a0, ())) [] (pureK [.bool]) = F_30 a0 := by kernel_rfl
def Sp.p_30 (a0 : Int) : Bool := (F_30 a0).isSome
def Sp.v_30 (a0 : Int) : Bool × Unit := (F_30 a0).getD (dfH [.bool])
def s_30 : Summ := shN [(.int .i64)] [.bool] (fun x => Sp.p_30 x.1) (fun x => Sp.v_30 x.1)
theorem pv_30 (a0 : Int) {y : Bool × Unit} (h : F_30 a0 = some y) : Sp.p_30 a0 = true ∧ Sp.v_30 a0 = y := ⟨by rw [Sp.p_30, h]; rfl, by rw [Sp.v_30, h]; rfl⟩
theorem run_30 (x : HDen [(.int .i64)]) (y : HDen [.bool]) (h : F_30 x.1 = some y) : evFn sm_30 fns FU 1 30 (ofH [(.int .i64)] x) [] (pureK [.bool]) = some y :=
  evFnL_sound (fn := ir30) (t := .nil) (o := noO) rfl noO_ok trivial ((fn_30 _).trans h)
end
end Go.Ev
namespace Go.Ev
open Go
set_option maxRecDepth 100000
set_option maxHeartbeats 4000000
set_option linter.unusedVariables false
noncomputable section

def sm_14 : Nat → Option Summ := fun f => bif Nat.beq f 29 then some s_29 else bif Nat.beq f 30 then some s_30 else none


def F_14 (a0 : (Int × (Int × (Int × (Bool × (Bool × Unit)))))) : Option (Bool × Unit) :=
  gd (Sp.p_29 (Prod.fst a0)) (bif Prod.fst (Sp.v_29 (Prod.fst a0)) then gd (Sp.p_30 (Prod.fst (Prod.snd a0))) (bif Prod.fst (Sp.v_30 (Prod.fst (Prod.snd a0))) then bif Prod.fst (Prod.snd (Prod.snd (Prod.snd a0))) then bif decide (Prod.fst (Prod.snd (Prod.snd a0)) ≥ (0 : Int)) then bif decide (Prod.fst (Prod.snd (Prod.snd a0)) ≤ (7 : Int)) then bif Prod.fst (Prod.snd (Prod.snd (Prod.snd (Prod.snd a0)))) == (Prod.fst (Prod.snd (Prod.snd a0)) == (7 : Int)) then bif Prod.fst (Prod.snd (Prod.snd (Prod.snd a0))) then some (!Prod.fst (Prod.snd (Prod.snd (Prod.snd (Prod.snd a0)))), PUnit.unit) else some (true, PUnit.unit) else some (false, PUnit.unit) else some (false, PUnit.unit) else some (false, PUnit.unit) else bif Prod.fst (Prod.snd a0) == (0 : Int) then bif decide (Prod.fst (Prod.snd (Prod.snd a0)) ≥ (0 : Int)) then bif decide (Prod.fst (Prod.snd (Prod.snd a0)) ≤ (7 : Int)) then bif Prod.fst (Prod.snd (Prod.snd (Prod.snd (Prod.snd a0)))) == (Prod.fst (Prod.snd (Prod.snd a0)) == (7 : Int)) then bif Prod.fst (Prod.snd (Prod.snd (Prod.snd a0))) then some (!Prod.fst (Prod.snd (Prod.snd (Prod.snd (Prod.snd a0)))), PUnit.unit) else some (true, PUnit.unit) else some (false, PUnit.unit) else some (false, PUnit.unit) else some (false, PUnit.unit) else some (false, PUnit.unit) else some (false, PUnit.unit)) else some (false, PUnit.unit))
theorem fn_14 (a0 : (Int × (Int × (Int × (Bool × (Bool × Unit)))))) : evFnL sm_14 FU (ovr noO (evFn sm_14 fns FU 0)) .nil ir14 (ofH [(.pair (.int .i64) (.pair (.int .i64) (.pair (.int .i64) (.pair .bool (.pair .bool .unit)))))] (a0, ())) [] (pureK [.bool]) = F_14 a0 := by kernel_rfl
def Sp.p_14 (a0 : (Int × (Int × (Int × (Bool × (Bool × Unit)))))) : Bool := (F_14 a0).isSome
def Sp.v_14 (a0 : (Int × (Int × (Int × (Bool × (Bool × Unit)))))) : Bool × Unit := (F_14 a0).getD (dfH [.bool])
def s_14 : Summ := shN [(.pair (.int .i64) (.pair (.int .i64) (.pair (.int .i64) (.pair .bool (.pair .bool .unit)))))] [.bool] (fun x => Sp.p_14 x.1) (fun x => Sp.v_14 x.1)
theorem pv_14 (a0 : (Int × (Int × (Int × (Bool × (Bool × Unit)))))) {y : Bool × Unit} (h : F_14 a0 = some y) : Sp.p_14 a0 = true ∧ Sp.v_14 a0 = y := ⟨by rw [Sp.p_14, h]; rfl, by rw [Sp.v_14, h]; rfl⟩
theorem run_14 (x : HDen [(.pair (.int .i64) (.pair (.int .i64) (.pair (.int .i64) (.pair .bool (.pair .bool .unit)))))]) (y : HDen [.bool]) (h : F_14 x.1 = some y) : evFn sm_14 fns FU 1 14 (ofH [(.pair (.int .i64) (.pair (.int .i64) (.pair (.int .i64) (.pair .bool (.pair .bool .unit)))))] x) [] (pureK [.bool]) = some y :=
  evFnL_sound (fn := ir14) (t := .nil) (o := noO) rfl noO_ok trivial ((fn_14 _).trans h)
end
end Go.Ev
namespace Go.Ev
open Go
set_option maxRecDepth 100000
set_option maxHeartbeats 4000000
set_option linter.unusedVariables false
noncomputable section

def sm_27 : Nat → Option Summ := fun f => none


def F_27 (a0 : Bool) (a1 : (Int × (Int × (Bool × Unit)))) (a2 : (Int × (Int × (Int × (Bool × (Bool × Unit)))))) : Option (Int × Unit) :=
  bif !a0 then some ((1 : Int), PUnit.unit) else bif Prod.fst (Prod.snd (Prod.snd a1)) then some ((2 : Int), PUnit.unit) else bif Prod.fst (Prod.snd (Prod.snd (Prod.snd (Prod.snd a2)))) then some ((3 : Int), PUnit.unit) else some ((0 : Int), PUnit.unit)
theorem fn_27 (a0 : Bool) (a1 : (Int × (Int × (Bool × Unit)))) (a2 : (Int × (Int × (Int × (Bool × (Bool × Unit)))))) : evFnL sm_27 FU (ovr noO (evFn sm_27 fns FU 0)) .nil ir27 (ofH [.bool, (.pair (.int .i64) (.pair (.int .i64) (.pair .bool .unit))), (.pair (.int .i64) (.pair (.int .i64) (.pair (.int .i64) (.pair .bool (.pair .bool .unit)))))] (a0, a1, a2, ())) [] (pureK [(.int .i64)]) = F_27 a0 a1 a2 := by kernel_rfl
def Sp.p_27 (a0 : Bool) (a1 : (Int × (Int × (Bool × Unit)))) (a2 : (Int × (Int × (Int × (Bool × (Bool × Unit)))))) : Bool := (F_27 a0 a1 a2).isSome
def Sp.v_27 (a0 : Bool) (a1 : (Int × (Int × (Bool × Unit)))) (a2 : (Int × (Int × (Int × (Bool × (Bool × Unit)))))) : Int × Unit := (F_27 a0 a1 a2).getD (dfH [(.int .i64)])
def s_27 : Summ := shN [.bool, (.pair (.int .i64) (.pair (.int .i64) (.pair .bool .unit))), (.pair (.int .i64) (.pair (.int .i64) (.pair (.int .i64) (.pair .bool (.pair .bool .unit)))))] [(.int .i64)] (fun x => Sp.p_27 x.1 x.2.1 x.2.2.1) (fun x => Sp.v_27 x.1 x.2.1 x.2.2.1)
theorem pv_27 (a0 : Bool) (a1 : (Int × (Int × (Bool × Unit)))) (a2 : (Int × (Int × (Int × (Bool × (Bool × Unit)))))) {y : Int × Unit} (h : F_27 a0 a1 a2 = some y) : Sp.p_27 a0 a1 a2 = true ∧ Sp.v_27 a0 a1 a2 = y := ⟨by rw [Sp.p_27, h]; rfl, by rw [Sp.v_27, h]; rfl⟩
theorem run_27 (x : HDen [.bool, (.pair (.int .i64) (.pair (.int .i64) (.pair .bool .unit))), (.pair (.int .i64) (.pair (.int .i64) (.pair (.int .i64) (.pair .bool (.pair .bool .unit)))))]) (y : HDen [(.int .i64)]) (h : F_27 x.1 x.2.1 x.2.2.1 = some y) : evFn sm_27 fns FU 1 27 (ofH [.bool, (.pair (.int .i64) (.pair (.int .i64) (.pair .bool .unit))), (.pair (.int .i64) (.pair (.int .i64) (.pair (.int .i64) (.pair .bool (.pair .bool .unit)))))] x) [] (pureK [(.int .i64)]) = some y :=
  evFnL_sound (fn := ir27) (t := .nil) (o := noO) rfl noO_ok trivial ((fn_27 _ _ _).trans h)
end
end Go.Ev
namespace Go.Ev
open Go
set_option maxRecDepth 100000
set_option maxHeartbeats 4000000
set_option linter.unusedVariables false
noncomputable section

def sm_8 : Nat → Option Summ := fun f => bif Nat.beq f 10 then some s_10 else bif Nat.beq f 13 then some s_13 else bif Nat.beq f 14 then some s_14 else bif Nat.beq f 26 then some s_26 else bif Nat.beq f 27 then some s_27 else none


def F_8 (a0 : (Bool × (Int × (Int × Unit)))) (a1 : Bool) (a2 : (Int × (Int × (Bool × Unit)))) (a3 : (Int × (Int × (Int × (Bool × (Bool × Unit)))))) (a4 : Int) : Option ((Bool × (Int × (Int × Unit))) × Int × Unit) :=
  gd (Sp.p_10 a0) (bif !Prod.fst (Sp.v_10 a0) then some ((false, (0 : Int), (0 : Int), PUnit.unit), (1 : Int), PUnit.unit) else gd (Sp.p_13 a2) (bif !Prod.fst (Sp.v_13 a2) then some ((false, (0 : Int), (0 : Int), PUnit.unit), (1 : Int), PUnit.unit) else gd (Sp.p_14 a3) (bif !Prod.fst (Sp.v_14 a3) then some ((false, (0 : Int), (0 : Int), PUnit.unit), (1 : Int), PUnit.unit) else gd (Sp.p_26 a4) (bif !Prod.fst (Sp.v_26 a4) then some ((false, (0 : Int), (0 : Int), PUnit.unit), (2 : Int), PUnit.unit) else bif decide (a4 < Prod.fst (Prod.snd (Prod.snd a0))) then some ((false, (0 : Int), (0 : Int), PUnit.unit), (16 : Int), PUnit.unit) else gd (Sp.p_27 a1 a2 a3) (bif !(Prod.fst (Sp.v_27 a1 a2 a3) == (0 : Int)) == Prod.fst a0 then some ((Prod.fst (Sp.v_27 a1 a2 a3) == (0 : Int), Prod.fst (Sp.v_27 a1 a2 a3), a4, PUnit.unit), (0 : Int), PUnit.unit) else some ((Prod.fst (Sp.v_27 a1 a2 a3) == (0 : Int), Prod.fst (Sp.v_27 a1 a2 a3), Prod.fst (Prod.snd (Prod.snd a0)), PUnit.unit), (0 : Int), PUnit.unit))))))
theorem fn_8 (a0 : (Bool × (Int × (Int × Unit)))) (a1 : Bool) (a2 : (Int × (Int × (Bool × Unit)))) (a3 : (Int × (Int × (Int × (Bool × (Bool × Unit)))))) (a4 : Int) : evFnL sm_8 FU (ovr noO (evFn sm_8 fns FU 0)) .nil ir8 (ofH [(.pair .bool (.pair (.int .i64) (.pair (.int .i64) .unit))), .bool, (.pair (.int .i64) (.pair (.int .i64) (.pair .bool .unit))), (.pair (.int .i64) (.pair (.int .i64) (.pair (.int .i64) (.pair .bool (.pair .bool .unit))))), (.int .i64)] (a0, a1, a2, a3, a4, ())) [] (pureK [(.pair .bool (.pair (.int .i64) (.pair (.int .i64) .unit))), (.int .i64)]) = F_8 a0 a1 a2 a3 a4 := by kernel_rfl
def Sp.p_8 (a0 : (Bool × (Int × (Int × Unit)))) (a1 : Bool) (a2 : (Int × (Int × (Bool × Unit)))) (a3 : (Int × (Int × (Int × (Bool × (Bool × Unit)))))) (a4 : Int) : Bool := (F_8 a0 a1 a2 a3 a4).isSome
def Sp.v_8 (a0 : (Bool × (Int × (Int × Unit)))) (a1 : Bool) (a2 : (Int × (Int × (Bool × Unit)))) (a3 : (Int × (Int × (Int × (Bool × (Bool × Unit)))))) (a4 : Int) : (Bool × (Int × (Int × Unit))) × Int × Unit := (F_8 a0 a1 a2 a3 a4).getD (dfH [(.pair .bool (.pair (.int .i64) (.pair (.int .i64) .unit))), (.int .i64)])
def s_8 : Summ := shN [(.pair .bool (.pair (.int .i64) (.pair (.int .i64) .unit))), .bool, (.pair (.int .i64) (.pair (.int .i64) (.pair .bool .unit))), (.pair (.int .i64) (.pair (.int .i64) (.pair (.int .i64) (.pair .bool (.pair .bool .unit))))), (.int .i64)] [(.pair .bool (.pair (.int .i64) (.pair (.int .i64) .unit))), (.int .i64)] (fun x => Sp.p_8 x.1 x.2.1 x.2.2.1 x.2.2.2.1 x.2.2.2.2.1) (fun x => Sp.v_8 x.1 x.2.1 x.2.2.1 x.2.2.2.1 x.2.2.2.2.1)
theorem pv_8 (a0 : (Bool × (Int × (Int × Unit)))) (a1 : Bool) (a2 : (Int × (Int × (Bool × Unit)))) (a3 : (Int × (Int × (Int × (Bool × (Bool × Unit)))))) (a4 : Int) {y : (Bool × (Int × (Int × Unit))) × Int × Unit} (h : F_8 a0 a1 a2 a3 a4 = some y) : Sp.p_8 a0 a1 a2 a3 a4 = true ∧ Sp.v_8 a0 a1 a2 a3 a4 = y := ⟨by rw [Sp.p_8, h]; rfl, by rw [Sp.v_8, h]; rfl⟩
theorem run_8 (x : HDen [(.pair .bool (.pair (.int .i64) (.pair (.int .i64) .unit))), .bool, (.pair (.int .i64) (.pair (.int .i64) (.pair .bool .unit))), (.pair (.int .i64) (.pair (.int .i64) (.pair (.int .i64) (.pair .bool (.pair .bool .unit))))), (.int .i64)]) (y : HDen [(.pair .bool (.pair (.int .i64) (.pair (.int .i64) .unit))), (.int .i64)]) (h : F_8 x.1 x.2.1 x.2.2.1 x.2.2.2.1 x.2.2.2.2.1 = some y) : evFn sm_8 fns FU 1 8 (ofH [(.pair .bool (.pair (.int .i64) (.pair (.int .i64) .unit))), .bool, (.pair (.int .i64) (.pair (.int .i64) (.pair .bool .unit))), (.pair (.int .i64) (.pair (.int .i64) (.pair (.int .i64) (.pair .bool (.pair .bool .unit))))), (.int .i64)] x) [] (pureK [(.pair .bool (.pair (.int .i64) (.pair (.int .i64) .unit))), (.int .i64)]) = some y :=
  evFnL_sound (fn := ir8) (t := .nil) (o := noO) rfl noO_ok trivial ((fn_8 _ _ _ _ _).trans h)
end
end Go.Ev
namespace Go.Ev
open Go
set_option maxRecDepth 100000
set_option maxHeartbeats 4000000
set_option linter.unusedVariables false
noncomputable section

def sm_9 : Nat → Option Summ := fun f => none


def F_9  : Option ((Bool × (Int × (Int × Unit))) × Unit) :=
  some ((false, (1 : Int), (0 : Int), PUnit.unit), PUnit.unit)
theorem fn_9  : evFnL sm_9 FU (ovr noO (evFn sm_9 fns FU 0)) .nil ir9 (ofH [] (())) [] (pureK [(.pair .bool (.pair (.int .i64) (.pair (.int .i64) .unit)))]) = F_9 := by kernel_rfl
def Sp.p_9  : Bool := (F_9).isSome
def Sp.v_9  : (Bool × (Int × (Int × Unit))) × Unit := (F_9).getD (dfH [(.pair .bool (.pair (.int .i64) (.pair (.int .i64) .unit)))])
def s_9 : Summ := shN [] [(.pair .bool (.pair (.int .i64) (.pair (.int .i64) .unit)))] (fun x => Sp.p_9 ) (fun x => Sp.v_9 )
theorem pv_9  {y : (Bool × (Int × (Int × Unit))) × Unit} (h : F_9 = some y) : Sp.p_9 = true ∧ Sp.v_9 = y := ⟨by rw [Sp.p_9, h]; rfl, by rw [Sp.v_9, h]; rfl⟩
theorem run_9 (x : HDen []) (y : HDen [(.pair .bool (.pair (.int .i64) (.pair (.int .i64) .unit)))]) (h : F_9  = some y) : evFn sm_9 fns FU 1 9 (ofH [] x) [] (pureK [(.pair .bool (.pair (.int .i64) (.pair (.int .i64) .unit)))]) = some y :=
  evFnL_sound (fn := ir9) (t := .nil) (o := noO) rfl noO_ok trivial ((fn_9).trans h)
end
end Go.Ev
namespace Go.Ev
open Go
set_option maxRecDepth 100000
set_option maxHeartbeats 4000000
set_option linter.unusedVariables false
noncomputable section

def sm_7 : Nat → Option Summ := fun f => bif Nat.beq f 8 then some s_8 else bif Nat.beq f 9 then some s_9 else none


def F_7  : Option (Bool × Unit) :=
  gd Sp.p_9 (gd (Sp.p_8 (Prod.fst Sp.v_9) true ((0 : Int), (0 : Int), false, PUnit.unit) ((1 : Int), (0 : Int), (0 : Int), false, false, PUnit.unit) (100 : Int)) (gd (Sp.p_8 (Prod.fst (Sp.v_8 (Prod.fst Sp.v_9) true ((0 : Int), (0 : Int), false, PUnit.unit) ((1 : Int), (0 : Int), (0 : Int), false, false, PUnit.unit) (100 : Int))) true ((5 : Int), (0 : Int), true, PUnit.unit) ((1 : Int), (0 : Int), (0 : Int), false, false, PUnit.unit) (200 : Int)) (bif Prod.fst (Prod.snd (Sp.v_8 (Prod.fst Sp.v_9) true ((0 : Int), (0 : Int), false, PUnit.unit) ((1 : Int), (0 : Int), (0 : Int), false, false, PUnit.unit) (100 : Int))) == (0 : Int) then bif Ty.beq (Ty.pair Ty.bool (Ty.pair (Ty.int IntKind.i64) (Ty.pair (Ty.int IntKind.i64) Ty.unit))) (Prod.fst (Sp.v_8 (Prod.fst Sp.v_9) true ((0 : Int), (0 : Int), false, PUnit.unit) ((1 : Int), (0 : Int), (0 : Int), false, false, PUnit.unit) (100 : Int))) (true, (0 : Int), (100 : Int), PUnit.unit) then bif Prod.fst (Prod.snd (Sp.v_8 (Prod.fst (Sp.v_8 (Prod.fst Sp.v_9) true ((0 : Int), (0 : Int), false, PUnit.unit) ((1 : Int), (0 : Int), (0 : Int), false, false, PUnit.unit) (100 : Int))) true ((5 : Int), (0 : Int), true, PUnit.unit) ((1 : Int), (0 : Int), (0 : Int), false, false, PUnit.unit) (200 : Int))) == (0 : Int) then some (Ty.beq (Ty.pair Ty.bool (Ty.pair (Ty.int IntKind.i64) (Ty.pair (Ty.int IntKind.i64) Ty.unit))) (Prod.fst (Sp.v_8 (Prod.fst (Sp.v_8 (Prod.fst Sp.v_9) true ((0 : Int), (0 : Int), false, PUnit.unit) ((1 : Int), (0 : Int), (0 : Int), false, false, PUnit.unit) (100 : Int))) true ((5 : Int), (0 : Int), true, PUnit.unit) ((1 : Int), (0 : Int), (0 : Int), false, false, PUnit.unit) (200 : Int))) (false, (2 : Int), (200 : Int), PUnit.unit), PUnit.unit) else some (false, PUnit.unit) else some (false, PUnit.unit) else some (false, PUnit.unit))))
theorem fn_7  : evFnL sm_7 FU (ovr noO (evFn sm_7 fns FU 0)) .nil ir7 (ofH [] (())) [] (pureK [.bool]) = F_7 := by kernel_rfl
def Sp.p_7  : Bool := (F_7).isSome
def Sp.v_7  : Bool × Unit := (F_7).getD (dfH [.bool])
def s_7 : Summ := shN [] [.bool] (fun x => Sp.p_7 ) (fun x => Sp.v_7 )
theorem pv_7  {y : Bool × Unit} (h : F_7 = some y) : Sp.p_7 = true ∧ Sp.v_7 = y := ⟨by rw [Sp.p_7, h]; rfl, by rw [Sp.v_7, h]; rfl⟩
theorem run_7 (x : HDen []) (y : HDen [.bool]) (h : F_7  = some y) : evFn sm_7 fns FU 1 7 (ofH [] x) [] (pureK [.bool]) = some y :=
  evFnL_sound (fn := ir7) (t := .nil) (o := noO) rfl noO_ok trivial ((fn_7).trans h)
end
end Go.Ev
namespace Go.Ev
open Go
set_option maxRecDepth 100000
set_option maxHeartbeats 4000000
set_option linter.unusedVariables false
noncomputable section

def sm_32 : Nat → Option Summ := fun f => bif Nat.beq f 26 then some s_26 else none
def T_32_0 (p0 : Int) (p1 : List (Int × Int × Bool × PUnit)) (p2 : Int) (p3 : Int) : St := St.mk [jk, jk, jk, CV.int IntKind.i64 p0, jk, jk, jk, jk, jk, CV.pure (Ty.slice (Ty.pair (Ty.int IntKind.i64) (Ty.pair (Ty.int IntKind.i64) (Ty.pair Ty.bool Ty.unit)))) p1, CV.int IntKind.i64 p2, CV.int IntKind.i64 p3, jk, jk, jk, jk, jk, jk, jk, jk, jk, jk, jk, jk, jk, jk, jk, jk, jk, jk, jk, jk, jk, jk, jk, jk, jk, jk] [] (0 : Nat)
def X_32_0_0 : St := St.mk [jk, jk, CV.bool false, jk, jk, jk, jk, jk, jk, jk, jk, jk, jk, jk, jk, jk, jk, jk, jk, jk, jk, jk, jk, jk, jk, jk, jk, jk, jk, jk, jk, jk, jk, jk, jk, jk, jk, jk] [] (0 : Nat)
def X_32_0_1 : St := St.mk [jk, jk, jk, jk, jk, jk, jk, jk, jk, jk, jk, jk, jk, jk, jk, jk, jk, jk, jk, jk, jk, jk, jk, jk, jk, jk, jk, jk, jk, jk, jk, jk, jk, jk, jk, jk, jk, jk] [] (0 : Nat)
inductive Sp.E_32_0 where
  | e0
  | e1
def Sp.B_32_0 {R : Type} (r : Option Sp.E_32_0) (k0 : Option R) (k1 : Option R) : Option R := match r with
  | none => none
  | some (.e0) => k0
  | some (.e1) => k1
def Sp.L_32_0 : Nat → (Int) → (List (Int × Int × Bool × PUnit)) → (Int) → (Int) → Option Sp.E_32_0
  | 0, _, _, _, _ => none
  | m + 1, p0, p1, p2, p3 => bif decide (p3 < p2) then gd (inB p3 (List.length p1)) (gd (Sp.p_26 (Prod.fst (List.getD p1 (Int.toNat p3) (Ty.dflt (Ty.pair (Ty.int IntKind.i64) (Ty.pair (Ty.int IntKind.i64) (Ty.pair Ty.bool Ty.unit))))))) (bif !Prod.fst (Sp.v_26 (Prod.fst (List.getD p1 (Int.toNat p3) (Ty.dflt (Ty.pair (Ty.int IntKind.i64) (Ty.pair (Ty.int IntKind.i64) (Ty.pair Ty.bool Ty.unit))))))) then some (Sp.E_32_0.e0) else bif decide (Prod.fst (List.getD p1 (Int.toNat p3) (Ty.dflt (Ty.pair (Ty.int IntKind.i64) (Ty.pair (Ty.int IntKind.i64) (Ty.pair Ty.bool Ty.unit))))) < p0) then some (Sp.E_32_0.e0) else bif decide (Prod.fst (Prod.snd (List.getD p1 (Int.toNat p3) (Ty.dflt (Ty.pair (Ty.int IntKind.i64) (Ty.pair (Ty.int IntKind.i64) (Ty.pair Ty.bool Ty.unit)))))) < (0 : Int)) then some (Sp.E_32_0.e0) else bif decide (Prod.fst (Prod.snd (List.getD p1 (Int.toNat p3) (Ty.dflt (Ty.pair (Ty.int IntKind.i64) (Ty.pair (Ty.int IntKind.i64) (Ty.pair Ty.bool Ty.unit)))))) ≥ (16 : Int)) then some (Sp.E_32_0.e0) else Sp.L_32_0 m (Prod.fst (List.getD p1 (Int.toNat p3) (Ty.dflt (Ty.pair (Ty.int IntKind.i64) (Ty.pair (Ty.int IntKind.i64) (Ty.pair Ty.bool Ty.unit)))))) p1 p2 (IntKind.wrap IntKind.i64 (p3 + (1 : Int))))) else some (Sp.E_32_0.e1)
def G_32_0 {R : Type} (p0 : Int) (p1 : List (Int × Int × Bool × PUnit)) (p2 : Int) (p3 : Int) (k : Ex → St → Option R) : Option R := Sp.B_32_0 (Sp.L_32_0 FU p0 p1 p2 p3) (k Ex.ret (X_32_0_0)) (k (Ex.exit (0 : Nat)) (X_32_0_1))
def o_32_0 {R : Type} (G : (Int) → (List (Int × Int × Bool × PUnit)) → (Int) → (Int) → (Ex → St → Option R) → Option R) : St → (Ex → St → Option R) → Option R := fun T k => match T.sl.getD 3 .junk, T.sl.getD 9 .junk, T.sl.getD 10 .junk, T.sl.getD 11 .junk, T.hp with
  | CV.int IntKind.i64 p0, CV.pure (Ty.slice (Ty.pair (Ty.int IntKind.i64) (Ty.pair (Ty.int IntKind.i64) (Ty.pair Ty.bool Ty.unit)))) p1, CV.int IntKind.i64 p2, CV.int IntKind.i64 p3, [] => gd (shapeOK T 38 [3, 9, 10, 11] (0 : Nat)) (G p0 p1 p2 p3 k)
  | _, _, _, _, _ => none
theorem o_32_0_inv {R : Type} {G : (Int) → (List (Int × Int × Bool × PUnit)) → (Int) → (Int) → (Ex → St → Option R) → Option R} {T : St} {k : Ex → St → Option R} {r : R} (h : o_32_0 G T k = some r) : ∃ p0 p1 p2 p3, T = T_32_0 p0 p1 p2 p3 ∧ G p0 p1 p2 p3 k = some r := by
  unfold o_32_0 at h
  split at h
  · obtain ⟨hs, h'⟩ := gd_some h
    refine ⟨_, _, _, _, (st_of (asg := [(3, _), (9, _), (10, _), (11, _)]) hs ⟨by assumption, by assumption, by assumption, by assumption, trivial⟩ (by assumption)).trans ?_, h'⟩
    kernel_rfl
  · cases h
def O_32_32_0 {R : Type} : St → (Ex → St → Option R) → Option R := fun T k => o_32_0 G_32_0 T k
theorem body_32_0 {R : Type} (K0 : St → Option R) (K1 : Ex → St → Option R) (p0 : Int) (p1 : List (Int × Int × Bool × PUnit)) (p2 : Int) (p3 : Int) : evLB (evCodeL sm_32 FU (ovr noO (evFn sm_32 fns FU 0)) .nil ir32_b0) (St.norm ir32_v0) (T_32_0 p0 p1 p2 p3) K0 K1 =
  bif decide (p3 < p2) then gd (inB p3 (List.length p1)) (gd (Sp.p_26 (Prod.fst (List.getD p1 (Int.toNat p3) (Ty.dflt (Ty.pair (Ty.int IntKind.i64) (Ty.pair (Ty.int IntKind.i64) (Ty.pair Ty.bool Ty.unit))))))) (bif !Prod.fst (Sp.v_26 (Prod.fst (List.getD p1 (Int.toNat p3) (Ty.dflt (Ty.pair (Ty.int IntKind.i64) (Ty.pair (Ty.int IntKind.i64) (Ty.pair Ty.bool Ty.unit))))))) then K1 Ex.ret X_32_0_0 else bif decide (Prod.fst (List.getD p1 (Int.toNat p3) (Ty.dflt (Ty.pair (Ty.int IntKind.i64) (Ty.pair (Ty.int IntKind.i64) (Ty.pair Ty.bool Ty.unit))))) < p0) then K1 Ex.ret X_32_0_0 else bif decide (Prod.fst (Prod.snd (List.getD p1 (Int.toNat p3) (Ty.dflt (Ty.pair (Ty.int IntKind.i64) (Ty.pair (Ty.int IntKind.i64) (Ty.pair Ty.bool Ty.unit)))))) < (0 : Int)) then K1 Ex.ret X_32_0_0 else bif decide (Prod.fst (Prod.snd (List.getD p1 (Int.toNat p3) (Ty.dflt (Ty.pair (Ty.int IntKind.i64) (Ty.pair (Ty.int IntKind.i64) (Ty.pair Ty.bool Ty.unit)))))) ≥ (16 : Int)) then K1 Ex.ret X_32_0_0 else K0 (T_32_0 (Prod.fst (List.getD p1 (Int.toNat p3) (Ty.dflt (Ty.pair (Ty.int IntKind.i64) (Ty.pair (Ty.int IntKind.i64) (Ty.pair Ty.bool Ty.unit)))))) p1 p2 (IntKind.wrap IntKind.i64 (p3 + (1 : Int)))))) else K1 (Ex.exit (0 : Nat)) X_32_0_1 := by kernel_rfl
theorem Bgd_32_0 {R : Type} {c : Bool} {x : Option R} {y : Option Sp.E_32_0} {k0 : Option R} {k1 : Option R} (h : x = Sp.B_32_0 y k0 k1) : gd c x = Sp.B_32_0 (gd c y) k0 k1 := by cases c; rfl; exact h
theorem Bcond_32_0 {R : Type} {c : Bool} {x x' : Option R} {y y' : Option Sp.E_32_0} {k0 : Option R} {k1 : Option R} (h : x = Sp.B_32_0 y k0 k1) (h' : x' = Sp.B_32_0 y' k0 k1) : (bif c then x else x') = Sp.B_32_0 (bif c then y else y') k0 k1 := by cases c; exact h'; exact h
theorem loop_32_0 {R : Type} (k : Ex → St → Option R) : ∀ (m : Nat) (p0 : Int) (p1 : List (Int × Int × Bool × PUnit)) (p2 : Int) (p3 : Int), evLoopN (evCodeL sm_32 FU (ovr noO (evFn sm_32 fns FU 0)) .nil ir32_b0) (St.norm ir32_v0) m (T_32_0 p0 p1 p2 p3) k = Sp.B_32_0 (Sp.L_32_0 m p0 p1 p2 p3) (k Ex.ret (X_32_0_0)) (k (Ex.exit (0 : Nat)) (X_32_0_1))
  | 0, _, _, _, _ => rfl
  | m + 1, p0, p1, p2, p3 => by
    rw [evLoopN_succ, body_32_0, Sp.L_32_0]
    repeat' first | apply Bgd_32_0 | apply Bcond_32_0 | exact loop_32_0 k m _ _ _ _ | rfl
theorem ok_32_0 {R : Type} (T : St) (k : Ex → St → Option R) (r : R) (h0 : o_32_0 G_32_0 T k = some r) : evLoopN (evCode sm_32 FU (evFn sm_32 fns FU 0) ir32_b0) (St.norm ir32_v0) FU T k = some r := by
  obtain ⟨p0, p1, p2, p3, rfl, h⟩ := o_32_0_inv h0
  refine evLoopN_L (t := .nil) noO_ok trivial _ _ _ _ ?_
  rw [loop_32_0]
  exact h
theorem OK_32_32_0 {R : Type} (T : St) (k : Ex → St → Option R) (r : R) (h : O_32_32_0 T k = some r) : evLoopN (evCode sm_32 FU (evFn sm_32 fns FU 0) ir32_b0) (St.norm ir32_v0) FU T k = some r := ok_32_0 T k r h
def F_32 (a0 : (List (Int × (Int × (Bool × Unit))))) : Option (Bool × Unit) :=
  bif decide ((↑(List.length a0) : Int) > (1000 : Int)) then some (false, PUnit.unit) else Sp.B_32_0 (Sp.L_32_0 (4611686018427387904 : Nat) (0 : Int) a0 (↑(List.length a0) : Int) (0 : Int)) (some (false, PUnit.unit)) (some (true, PUnit.unit))
theorem fn_32 (a0 : (List (Int × (Int × (Bool × Unit))))) : evFnL sm_32 FU (ovr noO (evFn sm_32 fns FU 0)) (ir32_t O_32_32_0) ir32 (ofH [(.slice (.pair (.int .i64) (.pair (.int .i64) (.pair .bool .unit))))] (a0, ())) [] (pureK [.bool]) = F_32 a0 := by kernel_rfl
def Sp.p_32 (a0 : (List (Int × (Int × (Bool × Unit))))) : Bool := (F_32 a0).isSome
def Sp.v_32 (a0 : (List (Int × (Int × (Bool × Unit))))) : Bool × Unit := (F_32 a0).getD (dfH [.bool])
def s_32 : Summ := shN [(.slice (.pair (.int .i64) (.pair (.int .i64) (.pair .bool .unit))))] [.bool] (fun x => Sp.p_32 x.1) (fun x => Sp.v_32 x.1)
theorem pv_32 (a0 : (List (Int × (Int × (Bool × Unit))))) {y : Bool × Unit} (h : F_32 a0 = some y) : Sp.p_32 a0 = true ∧ Sp.v_32 a0 = y := ⟨by rw [Sp.p_32, h]; rfl, by rw [Sp.v_32, h]; rfl⟩
theorem run_32 (x : HDen [(.slice (.pair (.int .i64) (.pair (.int .i64) (.pair .bool .unit))))]) (y : HDen [.bool]) (h : F_32 x.1 = some y) : evFn sm_32 fns FU 1 32 (ofH [(.slice (.pair (.int .i64) (.pair (.int .i64) (.pair .bool .unit))))] x) [] (pureK [.bool]) = some y :=
  evFnL_sound (fn := ir32) (t := (ir32_t O_32_32_0)) (o := noO) rfl noO_ok (ir32_tok (fun T k r => OK_32_32_0 T k r)) ((fn_32 _).trans h)
end
end Go.Ev
namespace Go.Ev
open Go
set_option maxRecDepth 100000
set_option maxHeartbeats 4000000
set_option linter.unusedVariables false
noncomputable section

abbrev s16_34 : Summ := vecS (.pair (.int .i64) (.pair (.int .i64) (.pair .bool .unit))) 49 24
def sm_16 : Nat → Option Summ := fun f => bif Nat.beq f 10 then some s_10 else bif Nat.beq f 32 then some s_32 else bif Nat.beq f 34 then some s16_34 else none
def T_16_37_0_0 (p0 : Int) (p1 : Int) (p2 : Bool × Int × Int × PUnit) (p3 : List (Int × Int × Bool × PUnit)) : St := St.mk [CV.whole (1 : Nat), CV.clo (35 : Nat) (CV.pair (CV.ptr (0 : Nat) []) (CV.pure Ty.unit PUnit.unit)), jk, jk, jk, jk, jk, CV.int IntKind.i64 p0, CV.int IntKind.i64 p1, jk, jk, jk, jk, jk, jk, jk, jk, jk, jk] [Blk.mem (CV.pure (Ty.pair Ty.bool (Ty.pair (Ty.int IntKind.i64) (Ty.pair (Ty.int IntKind.i64) Ty.unit))) p2), Blk.vec (49 : Nat) (Ty.pair (Ty.int IntKind.i64) (Ty.pair (Ty.int IntKind.i64) (Ty.pair Ty.bool Ty.unit))) p3] (2 : Nat)
def X_16_37_0_0_0 (p1 : Int) (p2 : Bool × Int × Int × PUnit) (p3 : List (Int × Int × Bool × PUnit)) : St := St.mk [jk, jk, jk, jk, CV.int IntKind.i64 p1, jk, jk, jk, jk, jk, jk, jk, jk, jk, jk, jk, jk, jk, jk] [Blk.mem (CV.pure (Ty.pair Ty.bool (Ty.pair (Ty.int IntKind.i64) (Ty.pair (Ty.int IntKind.i64) Ty.unit))) p2), Blk.vec (49 : Nat) (Ty.pair (Ty.int IntKind.i64) (Ty.pair (Ty.int IntKind.i64) (Ty.pair Ty.bool Ty.unit))) p3] (2 : Nat)
def X_16_37_0_0_1 (p2 : Bool × Int × Int × PUnit) (p3 : List (Int × Int × Bool × PUnit)) : St := St.mk [jk, jk, jk, jk, jk, jk, jk, jk, jk, jk, jk, jk, jk, jk, jk, jk, jk, jk, jk] [Blk.mem (CV.pure (Ty.pair Ty.bool (Ty.pair (Ty.int IntKind.i64) (Ty.pair (Ty.int IntKind.i64) Ty.unit))) p2), Blk.vec (49 : Nat) (Ty.pair (Ty.int IntKind.i64) (Ty.pair (Ty.int IntKind.i64) (Ty.pair Ty.bool Ty.unit))) p3] (2 : Nat)
inductive Sp.E_16_37_0_0 where
  | e0 (p1 : Int) (p2 : Bool × Int × Int × PUnit) (p3 : List (Int × Int × Bool × PUnit))
  | e1 (p2 : Bool × Int × Int × PUnit) (p3 : List (Int × Int × Bool × PUnit))
def Sp.B_16_37_0_0 {R : Type} (r : Option Sp.E_16_37_0_0) (k0 : (Int) → (Bool × Int × Int × PUnit) → (List (Int × Int × Bool × PUnit)) → Option R) (k1 : (Bool × Int × Int × PUnit) → (List (Int × Int × Bool × PUnit)) → Option R) : Option R := match r with
  | none => none
  | some (.e0 p1 p2 p3) => k0 p1 p2 p3
  | some (.e1 p2 p3) => k1 p2 p3
def Sp.L_16_37_0_0 : Nat → (Int) → (Int) → (Bool × Int × Int × PUnit) → (List (Int × Int × Bool × PUnit)) → Option Sp.E_16_37_0_0
  | 0, _, _, _, _ => none
  | m + 1, p0, p1, p2, p3 => bif decide (p1 < p0) then gd (inB p1 (List.length p3)) (gd (decide (Int.toNat p1 < List.length p3) && true) (bif Prod.fst (Prod.snd (Prod.snd (List.getD p3 (Int.toNat p1) (Ty.dflt (Ty.pair (Ty.int IntKind.i64) (Ty.pair (Ty.int IntKind.i64) (Ty.pair Ty.bool Ty.unit))))))) then bif !Prod.fst p2 then some (Sp.E_16_37_0_0.e0 p1 p2 p3) else Sp.L_16_37_0_0 m p0 (IntKind.wrap IntKind.i64 (p1 + (1 : Int))) p2 p3 else Sp.L_16_37_0_0 m p0 (IntKind.wrap IntKind.i64 (p1 + (1 : Int))) p2 p3)) else some (Sp.E_16_37_0_0.e1 p2 p3)
def G_16_37_0_0 {R : Type} (p0 : Int) (p1 : Int) (p2 : Bool × Int × Int × PUnit) (p3 : List (Int × Int × Bool × PUnit)) (k : Ex → St → Option R) : Option R := Sp.B_16_37_0_0 (Sp.L_16_37_0_0 FU p0 p1 p2 p3) (fun p1 p2 p3 => k Ex.ret (X_16_37_0_0_0 p1 p2 p3)) (fun p2 p3 => k (Ex.exit (0 : Nat)) (X_16_37_0_0_1 p2 p3))
def o_16_37_0_0 {R : Type} (G : (Int) → (Int) → (Bool × Int × Int × PUnit) → (List (Int × Int × Bool × PUnit)) → (Ex → St → Option R) → Option R) : St → (Ex → St → Option R) → Option R := fun T k => match T.sl.getD 0 .junk, T.sl.getD 1 .junk, T.sl.getD 7 .junk, T.sl.getD 8 .junk, T.hp with
  | CV.whole (1 : Nat), CV.clo (35 : Nat) (CV.pair (CV.ptr (0 : Nat) []) (CV.pure Ty.unit PUnit.unit)), CV.int IntKind.i64 p0, CV.int IntKind.i64 p1, ((Blk.mem (CV.pure (Ty.pair Ty.bool (Ty.pair (Ty.int IntKind.i64) (Ty.pair (Ty.int IntKind.i64) Ty.unit))) p2)) :: (Blk.vec (49 : Nat) (Ty.pair (Ty.int IntKind.i64) (Ty.pair (Ty.int IntKind.i64) (Ty.pair Ty.bool Ty.unit))) p3) :: []) => gd (shapeOK T 19 [0, 1, 7, 8] (2 : Nat)) (G p0 p1 p2 p3 k)
  | _, _, _, _, _ => none
theorem o_16_37_0_0_inv {R : Type} {G : (Int) → (Int) → (Bool × Int × Int × PUnit) → (List (Int × Int × Bool × PUnit)) → (Ex → St → Option R) → Option R} {T : St} {k : Ex → St → Option R} {r : R} (h : o_16_37_0_0 G T k = some r) : ∃ p0 p1 p2 p3, T = T_16_37_0_0 p0 p1 p2 p3 ∧ G p0 p1 p2 p3 k = some r := by
  unfold o_16_37_0_0 at h
  split at h
  · obtain ⟨hs, h'⟩ := gd_some h
    refine ⟨_, _, _, _, (st_of (asg := [(0, _), (1, _), (7, _), (8, _)]) hs ⟨by assumption, by assumption, by assumption, by assumption, trivial⟩ (by assumption)).trans ?_, h'⟩
    kernel_rfl
  · cases h
def T_16_33_0_0 (p0 : Int) (p1 : Int) (p2 : Bool × Int × Int × PUnit) (p3 : List (Int × Int × Bool × PUnit)) : St := St.mk [CV.whole (1 : Nat), CV.clo (35 : Nat) (CV.pair (CV.ptr (0 : Nat) []) (CV.pure Ty.unit PUnit.unit)), jk, jk, jk, CV.int IntKind.i64 p0, CV.int IntKind.i64 p1, jk, jk, jk, jk, jk, jk, jk, jk, jk, jk, jk, jk, jk, jk, jk, jk, jk, jk, jk, jk, jk, jk, jk, jk, jk, jk, jk, jk, jk, jk, jk, jk, jk, jk, jk] [Blk.mem (CV.pure (Ty.pair Ty.bool (Ty.pair (Ty.int IntKind.i64) (Ty.pair (Ty.int IntKind.i64) Ty.unit))) p2), Blk.vec (49 : Nat) (Ty.pair (Ty.int IntKind.i64) (Ty.pair (Ty.int IntKind.i64) (Ty.pair Ty.bool Ty.unit))) p3] (2 : Nat)
def X_16_33_0_0_0 (p0 : Int) (p2 : Bool × Int × Int × PUnit) (p3 : List (Int × Int × Bool × PUnit)) : St := St.mk [CV.whole (1 : Nat), jk, jk, jk, jk, CV.int IntKind.i64 p0, jk, jk, jk, jk, jk, jk, jk, jk, jk, jk, jk, jk, jk, jk, jk, jk, jk, jk, jk, jk, jk, jk, jk, jk, jk, jk, jk, jk, jk, jk, jk, jk, jk, jk, jk, jk] [Blk.mem (CV.pure (Ty.pair Ty.bool (Ty.pair (Ty.int IntKind.i64) (Ty.pair (Ty.int IntKind.i64) Ty.unit))) p2), Blk.vec (49 : Nat) (Ty.pair (Ty.int IntKind.i64) (Ty.pair (Ty.int IntKind.i64) (Ty.pair Ty.bool Ty.unit))) p3] (2 : Nat)
inductive Sp.E_16_33_0_0 where
  | e0 (p0 : Int) (p2 : Bool × Int × Int × PUnit) (p3 : List (Int × Int × Bool × PUnit))
def Sp.B_16_33_0_0 {R : Type} (r : Option Sp.E_16_33_0_0) (k0 : (Int) → (Bool × Int × Int × PUnit) → (List (Int × Int × Bool × PUnit)) → Option R) : Option R := match r with
  | none => none
  | some (.e0 p0 p2 p3) => k0 p0 p2 p3
def Sp.L_16_33_0_0 : Nat → (Int) → (Int) → (Bool × Int × Int × PUnit) → (List (Int × Int × Bool × PUnit)) → Option Sp.E_16_33_0_0
  | 0, _, _, _, _ => none
  | m + 1, p0, p1, p2, p3 => bif decide (p1 < (↑(List.length p3) : Int)) then gd (inB p1 (List.length p3)) (gd (decide (Int.toNat p1 < List.length p3) && true) (bif Prod.fst (Prod.snd (Prod.snd (List.getD p3 (Int.toNat p1) (Ty.dflt (Ty.pair (Ty.int IntKind.i64) (Ty.pair (Ty.int IntKind.i64) (Ty.pair Ty.bool Ty.unit))))))) then bif !!Prod.fst p2 then gd (inB p0 (List.length p3)) (gd (decide (Int.toNat p0 < List.length p3) && true && true) (Sp.L_16_33_0_0 m (IntKind.wrap IntKind.i64 (p0 + (1 : Int))) (IntKind.wrap IntKind.i64 (p1 + (1 : Int))) p2 (List.set p3 (Int.toNat p0) (List.getD p3 (Int.toNat p1) (Ty.dflt (Ty.pair (Ty.int IntKind.i64) (Ty.pair (Ty.int IntKind.i64) (Ty.pair Ty.bool Ty.unit)))))))) else Sp.L_16_33_0_0 m p0 (IntKind.wrap IntKind.i64 (p1 + (1 : Int))) p2 p3 else gd (inB p0 (List.length p3)) (gd (decide (Int.toNat p0 < List.length p3) && true && true) (Sp.L_16_33_0_0 m (IntKind.wrap IntKind.i64 (p0 + (1 : Int))) (IntKind.wrap IntKind.i64 (p1 + (1 : Int))) p2 (List.set p3 (Int.toNat p0) (List.getD p3 (Int.toNat p1) (Ty.dflt (Ty.pair (Ty.int IntKind.i64) (Ty.pair (Ty.int IntKind.i64) (Ty.pair Ty.bool Ty.unit)))))))))) else some (Sp.E_16_33_0_0.e0 p0 p2 p3)
def G_16_33_0_0 {R : Type} (p0 : Int) (p1 : Int) (p2 : Bool × Int × Int × PUnit) (p3 : List (Int × Int × Bool × PUnit)) (k : Ex → St → Option R) : Option R := Sp.B_16_33_0_0 (Sp.L_16_33_0_0 FU p0 p1 p2 p3) (fun p0 p2 p3 => k (Ex.exit (0 : Nat)) (X_16_33_0_0_0 p0 p2 p3))
def o_16_33_0_0 {R : Type} (G : (Int) → (Int) → (Bool × Int × Int × PUnit) → (List (Int × Int × Bool × PUnit)) → (Ex → St → Option R) → Option R) : St → (Ex → St → Option R) → Option R := fun T k => match T.sl.getD 0 .junk, T.sl.getD 1 .junk, T.sl.getD 5 .junk, T.sl.getD 6 .junk, T.hp with
  | CV.whole (1 : Nat), CV.clo (35 : Nat) (CV.pair (CV.ptr (0 : Nat) []) (CV.pure Ty.unit PUnit.unit)), CV.int IntKind.i64 p0, CV.int IntKind.i64 p1, ((Blk.mem (CV.pure (Ty.pair Ty.bool (Ty.pair (Ty.int IntKind.i64) (Ty.pair (Ty.int IntKind.i64) Ty.unit))) p2)) :: (Blk.vec (49 : Nat) (Ty.pair (Ty.int IntKind.i64) (Ty.pair (Ty.int IntKind.i64) (Ty.pair Ty.bool Ty.unit))) p3) :: []) => gd (shapeOK T 42 [0, 1, 5, 6] (2 : Nat)) (G p0 p1 p2 p3 k)
  | _, _, _, _, _ => none
theorem o_16_33_0_0_inv {R : Type} {G : (Int) → (Int) → (Bool × Int × Int × PUnit) → (List (Int × Int × Bool × PUnit)) → (Ex → St → Option R) → Option R} {T : St} {k : Ex → St → Option R} {r : R} (h : o_16_33_0_0 G T k = some r) : ∃ p0 p1 p2 p3, T = T_16_33_0_0 p0 p1 p2 p3 ∧ G p0 p1 p2 p3 k = some r := by
  unfold o_16_33_0_0 at h
  split at h
  · obtain ⟨hs, h'⟩ := gd_some h
    refine ⟨_, _, _, _, (st_of (asg := [(0, _), (1, _), (5, _), (6, _)]) hs ⟨by assumption, by assumption, by assumption, by assumption, trivial⟩ (by assumption)).trans ?_, h'⟩
    kernel_rfl
  · cases h
def O_16_37_0 {R : Type} : St → (Ex → St → Option R) → Option R := fun T k => o_16_37_0_0 G_16_37_0_0 T k
def O_16_33_0 {R : Type} : St → (Ex → St → Option R) → Option R := fun T k => o_16_33_0_0 G_16_33_0_0 T k
def g_16_37 {R : Type} : List CV → List Blk → (CV → List Blk → Option R) → Option R := evFnL sm_16 FU (ovr noO (evFn sm_16 fns FU 1)) (ir37_t O_16_37_0) ir37
def g_16_33 {R : Type} : List CV → List Blk → (CV → List Blk → Option R) → Option R := evFnL sm_16 FU (ovr (fun f' => bif Nat.beq f' 37 then some (g_16_37) else none) (evFn sm_16 fns FU 2)) (ir33_t O_16_33_0) ir33
theorem body_16_37_0_0 {R : Type} (K0 : St → Option R) (K1 : Ex → St → Option R) (p0 : Int) (p1 : Int) (p2 : Bool × Int × Int × PUnit) (p3 : List (Int × Int × Bool × PUnit)) : evLB (evCodeL sm_16 FU (ovr noO (evFn sm_16 fns FU 1)) .nil ir37_b0) (St.norm ir37_v0) (T_16_37_0_0 p0 p1 p2 p3) K0 K1 =
  bif decide (p1 < p0) then gd (inB p1 (List.length p3)) (gd (decide (Int.toNat p1 < List.length p3) && true) (bif Prod.fst (Prod.snd (Prod.snd (List.getD p3 (Int.toNat p1) (Ty.dflt (Ty.pair (Ty.int IntKind.i64) (Ty.pair (Ty.int IntKind.i64) (Ty.pair Ty.bool Ty.unit))))))) then bif !Prod.fst p2 then K1 Ex.ret (X_16_37_0_0_0 p1 p2 p3) else K0 (T_16_37_0_0 p0 (IntKind.wrap IntKind.i64 (p1 + (1 : Int))) p2 p3) else K0 (T_16_37_0_0 p0 (IntKind.wrap IntKind.i64 (p1 + (1 : Int))) p2 p3))) else K1 (Ex.exit (0 : Nat)) (X_16_37_0_0_1 p2 p3) := by kernel_rfl
theorem Bgd_16_37_0_0 {R : Type} {c : Bool} {x : Option R} {y : Option Sp.E_16_37_0_0} {k0 : (Int) → (Bool × Int × Int × PUnit) → (List (Int × Int × Bool × PUnit)) → Option R} {k1 : (Bool × Int × Int × PUnit) → (List (Int × Int × Bool × PUnit)) → Option R} (h : x = Sp.B_16_37_0_0 y k0 k1) : gd c x = Sp.B_16_37_0_0 (gd c y) k0 k1 := by cases c; rfl; exact h
theorem Bcond_16_37_0_0 {R : Type} {c : Bool} {x x' : Option R} {y y' : Option Sp.E_16_37_0_0} {k0 : (Int) → (Bool × Int × Int × PUnit) → (List (Int × Int × Bool × PUnit)) → Option R} {k1 : (Bool × Int × Int × PUnit) → (List (Int × Int × Bool × PUnit)) → Option R} (h : x = Sp.B_16_37_0_0 y k0 k1) (h' : x' = Sp.B_16_37_0_0 y' k0 k1) : (bif c then x else x') = Sp.B_16_37_0_0 (bif c then y else y') k0 k1 := by cases c; exact h'; exact h
theorem loop_16_37_0_0 {R : Type} (k : Ex → St → Option R) : ∀ (m : Nat) (p0 : Int) (p1 : Int) (p2 : Bool × Int × Int × PUnit) (p3 : List (Int × Int × Bool × PUnit)), evLoopN (evCodeL sm_16 FU (ovr noO (evFn sm_16 fns FU 1)) .nil ir37_b0) (St.norm ir37_v0) m (T_16_37_0_0 p0 p1 p2 p3) k = Sp.B_16_37_0_0 (Sp.L_16_37_0_0 m p0 p1 p2 p3) (fun p1 p2 p3 => k Ex.ret (X_16_37_0_0_0 p1 p2 p3)) (fun p2 p3 => k (Ex.exit (0 : Nat)) (X_16_37_0_0_1 p2 p3))
  | 0, _, _, _, _ => rfl
  | m + 1, p0, p1, p2, p3 => by
    rw [evLoopN_succ, body_16_37_0_0, Sp.L_16_37_0_0]
    repeat' first | apply Bgd_16_37_0_0 | apply Bcond_16_37_0_0 | exact loop_16_37_0_0 k m _ _ _ _ | rfl
theorem ok_16_37_0_0 {R : Type} (T : St) (k : Ex → St → Option R) (r : R) (h0 : o_16_37_0_0 G_16_37_0_0 T k = some r) : evLoopN (evCode sm_16 FU (evFn sm_16 fns FU 1) ir37_b0) (St.norm ir37_v0) FU T k = some r := by
  obtain ⟨p0, p1, p2, p3, rfl, h⟩ := o_16_37_0_0_inv h0
  refine evLoopN_L (t := .nil) noO_ok trivial _ _ _ _ ?_
  rw [loop_16_37_0_0]
  exact h
theorem OK_16_37_0 {R : Type} (T : St) (k : Ex → St → Option R) (r : R) (h : O_16_37_0 T k = some r) : evLoopN (evCode sm_16 FU (evFn sm_16 fns FU 1) ir37_b0) (St.norm ir37_v0) FU T k = some r := ok_16_37_0_0 T k r h
theorem g_16_37_ok {R : Type} (args : List CV) (hp : List Blk) (k : CV → List Blk → Option R) (r : R) (h : g_16_37 args hp k = some r) : evFn sm_16 fns FU 2 37 args hp k = some r :=
  evFnL_sound (fn := ir37) (t := (ir37_t O_16_37_0)) (o := noO) rfl noO_ok (ir37_tok (fun T k r => OK_16_37_0 T k r)) h
theorem ov_16_33_ok {R : Type} : OvrOK (R := R) (fun f' => bif Nat.beq f' 37 then some (g_16_37) else none) (evFn sm_16 fns FU 2) := by
  intro f' g h args hp k r hg
  dsimp only at h
  by_cases h37 : f' = 37
  · subst h37
    injection h with h
    subst h
    exact evFn_le 0 (g_16_37_ok _ _ _ _ hg)
  rw [nbeq_ne h37, cond_false] at h
  cases h
theorem body_16_33_0_0 {R : Type} (K0 : St → Option R) (K1 : Ex → St → Option R) (p0 : Int) (p1 : Int) (p2 : Bool × Int × Int × PUnit) (p3 : List (Int × Int × Bool × PUnit)) : evLB (evCodeL sm_16 FU (ovr (fun f' => bif Nat.beq f' 37 then some (g_16_37) else none) (evFn sm_16 fns FU 2)) .nil ir33_b0) (St.norm ir33_v0) (T_16_33_0_0 p0 p1 p2 p3) K0 K1 =
  bif decide (p1 < (↑(List.length p3) : Int)) then gd (inB p1 (List.length p3)) (gd (decide (Int.toNat p1 < List.length p3) && true) (bif Prod.fst (Prod.snd (Prod.snd (List.getD p3 (Int.toNat p1) (Ty.dflt (Ty.pair (Ty.int IntKind.i64) (Ty.pair (Ty.int IntKind.i64) (Ty.pair Ty.bool Ty.unit))))))) then bif !!Prod.fst p2 then gd (inB p0 (List.length p3)) (gd (decide (Int.toNat p0 < List.length p3) && true && true) (K0 (T_16_33_0_0 (IntKind.wrap IntKind.i64 (p0 + (1 : Int))) (IntKind.wrap IntKind.i64 (p1 + (1 : Int))) p2 (List.set p3 (Int.toNat p0) (List.getD p3 (Int.toNat p1) (Ty.dflt (Ty.pair (Ty.int IntKind.i64) (Ty.pair (Ty.int IntKind.i64) (Ty.pair Ty.bool Ty.unit))))))))) else K0 (T_16_33_0_0 p0 (IntKind.wrap IntKind.i64 (p1 + (1 : Int))) p2 p3) else gd (inB p0 (List.length p3)) (gd (decide (Int.toNat p0 < List.length p3) && true && true) (K0 (T_16_33_0_0 (IntKind.wrap IntKind.i64 (p0 + (1 : Int))) (IntKind.wrap IntKind.i64 (p1 + (1 : Int))) p2 (List.set p3 (Int.toNat p0) (List.getD p3 (Int.toNat p1) (Ty.dflt (Ty.pair (Ty.int IntKind.i64) (Ty.pair (Ty.int IntKind.i64) (Ty.pair Ty.bool Ty.unit))))))))))) else K1 (Ex.exit (0 : Nat)) (X_16_33_0_0_0 p0 p2 p3) := by kernel_rfl
theorem Bgd_16_33_0_0 {R : Type} {c : Bool} {x : Option R} {y : Option Sp.E_16_33_0_0} {k0 : (Int) → (Bool × Int × Int × PUnit) → (List (Int × Int × Bool × PUnit)) → Option R} (h : x = Sp.B_16_33_0_0 y k0) : gd c x = Sp.B_16_33_0_0 (gd c y) k0 := by cases c; rfl; exact h
theorem Bcond_16_33_0_0 {R : Type} {c : Bool} {x x' : Option R} {y y' : Option Sp.E_16_33_0_0} {k0 : (Int) → (Bool × Int × Int × PUnit) → (List (Int × Int × Bool × PUnit)) → Option R} (h : x = Sp.B_16_33_0_0 y k0) (h' : x' = Sp.B_16_33_0_0 y' k0) : (bif c then x else x') = Sp.B_16_33_0_0 (bif c then y else y') k0 := by cases c; exact h'; exact h
theorem loop_16_33_0_0 {R : Type} (k : Ex → St → Option R) : ∀ (m : Nat) (p0 : Int) (p1 : Int) (p2 : Bool × Int × Int × PUnit) (p3 : List (Int × Int × Bool × PUnit)), evLoopN (evCodeL sm_16 FU (ovr (fun f' => bif Nat.beq f' 37 then some (g_16_37) else none) (evFn sm_16 fns FU 2)) .nil ir33_b0) (St.norm ir33_v0) m (T_16_33_0_0 p0 p1 p2 p3) k = Sp.B_16_33_0_0 (Sp.L_16_33_0_0 m p0 p1 p2 p3) (fun p0 p2 p3 => k (Ex.exit (0 : Nat)) (X_16_33_0_0_0 p0 p2 p3))
  | 0, _, _, _, _ => rfl
  | m + 1, p0, p1, p2, p3 => by
    rw [evLoopN_succ, body_16_33_0_0, Sp.L_16_33_0_0]
    repeat' first | apply Bgd_16_33_0_0 | apply Bcond_16_33_0_0 | exact loop_16_33_0_0 k m _ _ _ _ | rfl
theorem ok_16_33_0_0 {R : Type} (T : St) (k : Ex → St → Option R) (r : R) (h0 : o_16_33_0_0 G_16_33_0_0 T k = some r) : evLoopN (evCode sm_16 FU (evFn sm_16 fns FU 2) ir33_b0) (St.norm ir33_v0) FU T k = some r := by
  obtain ⟨p0, p1, p2, p3, rfl, h⟩ := o_16_33_0_0_inv h0
  refine evLoopN_L (t := .nil) ov_16_33_ok trivial _ _ _ _ ?_
  rw [loop_16_33_0_0]
  exact h
theorem OK_16_33_0 {R : Type} (T : St) (k : Ex → St → Option R) (r : R) (h : O_16_33_0 T k = some r) : evLoopN (evCode sm_16 FU (evFn sm_16 fns FU 2) ir33_b0) (St.norm ir33_v0) FU T k = some r := ok_16_33_0_0 T k r h
theorem g_16_33_ok {R : Type} (args : List CV) (hp : List Blk) (k : CV → List Blk → Option R) (r : R) (h : g_16_33 args hp k = some r) : evFn sm_16 fns FU 3 33 args hp k = some r :=
  evFnL_sound (fn := ir33) (t := (ir33_t O_16_33_0)) (o := (fun f' => bif Nat.beq f' 37 then some (g_16_37) else none)) rfl ov_16_33_ok (ir33_tok (fun T k r => OK_16_33_0 T k r)) h
theorem ov_16_16_ok {R : Type} : OvrOK (R := R) (fun f' => bif Nat.beq f' 33 then some (g_16_33) else none) (evFn sm_16 fns FU 3) := by
  intro f' g h args hp k r hg
  dsimp only at h
  by_cases h33 : f' = 33
  · subst h33
    injection h with h
    subst h
    exact evFn_le 0 (g_16_33_ok _ _ _ _ hg)
  rw [nbeq_ne h33, cond_false] at h
  cases h
def F_16 (a0 : (Bool × (Int × (Int × Unit)))) (a1 : (List (Int × (Int × (Bool × Unit))))) : Option ((List (Int × (Int × (Bool × Unit)))) × Int × Unit) :=
  gd (Sp.p_10 a0) (bif !Prod.fst (Sp.v_10 a0) then some ([], (1 : Int), PUnit.unit) else gd (Sp.p_32 a1) (bif !Prod.fst (Sp.v_32 a1) then some ([], (1 : Int), PUnit.unit) else gd (room (List.length a1) (24 : Nat)) (Sp.B_16_37_0_0 (Sp.L_16_37_0_0 (4611686018427387904 : Nat) (↑(List.length a1) : Int) (0 : Int) a0 a1) (fun (y8 : Int) (y9 : Bool × Int × Int × PUnit) (y10 : List (Int × Int × Bool × PUnit)) => bif y8 == (-1 : Int) then some (y10, (0 : Int), PUnit.unit) else Sp.B_16_33_0_0 (Sp.L_16_33_0_0 (4611686018427387904 : Nat) y8 (IntKind.wrap IntKind.i64 (y8 + (1 : Int))) y9 y10) fun (y11 : Int) (y12 : Bool × Int × Int × PUnit) (y13 : List (Int × Int × Bool × PUnit)) => gd (sl3 y11 (↑(List.length y13) : Int) (↑(List.length y13) : Int)) (gd (decide (Int.toNat y11 + (Int.toNat (↑(List.length y13) : Int) - Int.toNat y11) ≤ List.length y13) && decide ((0 : Nat) < List.length y13)) (gd (sl3 (0 : Int) y11 (↑(List.length (over y13 (Int.toNat y11) (List.replicate (Int.toNat (↑(List.length y13) : Int) - Int.toNat y11) (Ty.dflt (Ty.pair (Ty.int IntKind.i64) (Ty.pair (Ty.int IntKind.i64) (Ty.pair Ty.bool Ty.unit))))))) : Int)) (gd (decide ((0 : Nat) + (Int.toNat y11 - (0 : Nat)) ≤ List.length (over y13 (Int.toNat y11) (List.replicate (Int.toNat (↑(List.length y13) : Int) - Int.toNat y11) (Ty.dflt (Ty.pair (Ty.int IntKind.i64) (Ty.pair (Ty.int IntKind.i64) (Ty.pair Ty.bool Ty.unit))))))) && true) (some (List.take (Int.toNat y11 - (0 : Nat)) (List.drop (0 : Nat) (over y13 (Int.toNat y11) (List.replicate (Int.toNat (↑(List.length y13) : Int) - Int.toNat y11) (Ty.dflt (Ty.pair (Ty.int IntKind.i64) (Ty.pair (Ty.int IntKind.i64) (Ty.pair Ty.bool Ty.unit))))))), (0 : Int), PUnit.unit)))))) fun (y14 : Bool × Int × Int × PUnit) (y15 : List (Int × Int × Bool × PUnit)) => some (y15, (0 : Int), PUnit.unit))))
theorem fn_16 (a0 : (Bool × (Int × (Int × Unit)))) (a1 : (List (Int × (Int × (Bool × Unit))))) : evFnL sm_16 FU (ovr (fun f' => bif Nat.beq f' 33 then some (g_16_33) else none) (evFn sm_16 fns FU 3)) .nil ir16 (ofH [(.pair .bool (.pair (.int .i64) (.pair (.int .i64) .unit))), (.slice (.pair (.int .i64) (.pair (.int .i64) (.pair .bool .unit))))] (a0, a1, ())) [] (pureK [(.slice (.pair (.int .i64) (.pair (.int .i64) (.pair .bool .unit)))), (.int .i64)]) = F_16 a0 a1 := by kernel_rfl
def Sp.p_16 (a0 : (Bool × (Int × (Int × Unit)))) (a1 : (List (Int × (Int × (Bool × Unit))))) : Bool := (F_16 a0 a1).isSome
def Sp.v_16 (a0 : (Bool × (Int × (Int × Unit)))) (a1 : (List (Int × (Int × (Bool × Unit))))) : (List (Int × (Int × (Bool × Unit)))) × Int × Unit := (F_16 a0 a1).getD (dfH [(.slice (.pair (.int .i64) (.pair (.int .i64) (.pair .bool .unit)))), (.int .i64)])
def s_16 : Summ := shS [(.pair .bool (.pair (.int .i64) (.pair (.int .i64) .unit))), (.slice (.pair (.int .i64) (.pair (.int .i64) (.pair .bool .unit))))] [(.slice (.pair (.int .i64) (.pair (.int .i64) (.pair .bool .unit)))), (.int .i64)] (fun x => Sp.p_16 x.1 x.2.1) (fun x => Sp.v_16 x.1 x.2.1)
theorem pv_16 (a0 : (Bool × (Int × (Int × Unit)))) (a1 : (List (Int × (Int × (Bool × Unit))))) {y : (List (Int × (Int × (Bool × Unit)))) × Int × Unit} (h : F_16 a0 a1 = some y) : Sp.p_16 a0 a1 = true ∧ Sp.v_16 a0 a1 = y := ⟨by rw [Sp.p_16, h]; rfl, by rw [Sp.v_16, h]; rfl⟩
theorem run_16 (x : HDen [(.pair .bool (.pair (.int .i64) (.pair (.int .i64) .unit))), (.slice (.pair (.int .i64) (.pair (.int .i64) (.pair .bool .unit))))]) (y : HDen [(.slice (.pair (.int .i64) (.pair (.int .i64) (.pair .bool .unit)))), (.int .i64)]) (h : F_16 x.1 x.2.1 = some y) : evFn sm_16 fns FU 4 16 (ofH [(.pair .bool (.pair (.int .i64) (.pair (.int .i64) .unit))), (.slice (.pair (.int .i64) (.pair (.int .i64) (.pair .bool .unit))))] x) [] (pureK [(.slice (.pair (.int .i64) (.pair (.int .i64) (.pair .bool .unit)))), (.int .i64)]) = some y :=
  evFnL_sound (fn := ir16) (t := .nil) (o := (fun f' => bif Nat.beq f' 33 then some (g_16_33) else none)) rfl ov_16_16_ok trivial ((fn_16 _ _).trans h)
end
end Go.Ev
namespace Go.Ev
open Go
set_option maxRecDepth 100000
set_option maxHeartbeats 4000000
set_option linter.unusedVariables false
noncomputable section

def sm_17 : Nat → Option Summ := fun f => bif Nat.beq f 32 then some s_32 else none
def T_17_0 (p0 : Int) (p1 : Int) (p2 : List (Int × Int × Bool × PUnit)) (p3 : Int) (p4 : Int) (p5 : List Bool) : St := St.mk [CV.int IntKind.i64 p0, jk, CV.int IntKind.i64 p1, jk, jk, jk, jk, jk, CV.whole (0 : Nat), jk, jk, jk, jk, jk, jk, jk, jk, jk, jk, jk, jk, jk, jk, jk, CV.pure (Ty.slice (Ty.pair (Ty.int IntKind.i64) (Ty.pair (Ty.int IntKind.i64) (Ty.pair Ty.bool Ty.unit)))) p2, CV.int IntKind.i64 p3, CV.int IntKind.i64 p4, jk, jk, jk, jk, jk, jk, jk, jk, jk, jk, jk, jk, jk, jk, jk, jk, jk, jk, jk, jk, jk] [Blk.vec (4 : Nat) Ty.bool p5] (0 : Nat)
def X_17_0_0 (p5 : List Bool) : St := St.mk [jk, jk, jk, jk, jk, jk, jk, jk, CV.whole (0 : Nat), jk, jk, jk, jk, jk, jk, jk, jk, jk, jk, jk, jk, jk, jk, jk, jk, jk, jk, jk, jk, jk, jk, jk, jk, jk, jk, jk, jk, jk, jk, jk, jk, jk, jk, jk, jk, jk, jk, jk] [Blk.vec (4 : Nat) Ty.bool p5] (0 : Nat)
inductive Sp.E_17_0 where
  | e0 (p5 : List Bool)
def Sp.B_17_0 {R : Type} (r : Option Sp.E_17_0) (k0 : (List Bool) → Option R) : Option R := match r with
  | none => none
  | some (.e0 p5) => k0 p5
def Sp.L_17_0 : Nat → (Int) → (Int) → (List (Int × Int × Bool × PUnit)) → (Int) → (Int) → (List Bool) → Option Sp.E_17_0
  | 0, _, _, _, _, _, _ => none
  | m + 1, p0, p1, p2, p3, p4, p5 => bif decide (p4 < p3) then gd (inB p4 (List.length p2)) (bif decide (Prod.fst (Prod.snd (List.getD p2 (Int.toNat p4) (Ty.dflt (Ty.pair (Ty.int IntKind.i64) (Ty.pair (Ty.int IntKind.i64) (Ty.pair Ty.bool Ty.unit)))))) < p0) then bif decide (Prod.fst (List.getD p2 (Int.toNat p4) (Ty.dflt (Ty.pair (Ty.int IntKind.i64) (Ty.pair (Ty.int IntKind.i64) (Ty.pair Ty.bool Ty.unit))))) ≤ p1) then gd (inB (Prod.fst (Prod.snd (List.getD p2 (Int.toNat p4) (Ty.dflt (Ty.pair (Ty.int IntKind.i64) (Ty.pair (Ty.int IntKind.i64) (Ty.pair Ty.bool Ty.unit))))))) (List.length p5)) (gd (decide (Int.toNat (Prod.fst (Prod.snd (List.getD p2 (Int.toNat p4) (Ty.dflt (Ty.pair (Ty.int IntKind.i64) (Ty.pair (Ty.int IntKind.i64) (Ty.pair Ty.bool Ty.unit))))))) < List.length p5) && true && true) (Sp.L_17_0 m p0 p1 p2 p3 (IntKind.wrap IntKind.i64 (p4 + (1 : Int))) (List.set p5 (Int.toNat (Prod.fst (Prod.snd (List.getD p2 (Int.toNat p4) (Ty.dflt (Ty.pair (Ty.int IntKind.i64) (Ty.pair (Ty.int IntKind.i64) (Ty.pair Ty.bool Ty.unit)))))))) (Prod.fst (Prod.snd (Prod.snd (List.getD p2 (Int.toNat p4) (Ty.dflt (Ty.pair (Ty.int IntKind.i64) (Ty.pair (Ty.int IntKind.i64) (Ty.pair Ty.bool Ty.unit))))))))))) else Sp.L_17_0 m p0 p1 p2 p3 (IntKind.wrap IntKind.i64 (p4 + (1 : Int))) p5 else Sp.L_17_0 m p0 p1 p2 p3 (IntKind.wrap IntKind.i64 (p4 + (1 : Int))) p5) else some (Sp.E_17_0.e0 p5)
def G_17_0 {R : Type} (p0 : Int) (p1 : Int) (p2 : List (Int × Int × Bool × PUnit)) (p3 : Int) (p4 : Int) (p5 : List Bool) (k : Ex → St → Option R) : Option R := Sp.B_17_0 (Sp.L_17_0 FU p0 p1 p2 p3 p4 p5) (fun p5 => k (Ex.exit (1 : Nat)) (X_17_0_0 p5))
def o_17_0 {R : Type} (G : (Int) → (Int) → (List (Int × Int × Bool × PUnit)) → (Int) → (Int) → (List Bool) → (Ex → St → Option R) → Option R) : St → (Ex → St → Option R) → Option R := fun T k => match T.sl.getD 0 .junk, T.sl.getD 2 .junk, T.sl.getD 8 .junk, T.sl.getD 24 .junk, T.sl.getD 25 .junk, T.sl.getD 26 .junk, T.hp with
  | CV.int IntKind.i64 p0, CV.int IntKind.i64 p1, CV.whole (0 : Nat), CV.pure (Ty.slice (Ty.pair (Ty.int IntKind.i64) (Ty.pair (Ty.int IntKind.i64) (Ty.pair Ty.bool Ty.unit)))) p2, CV.int IntKind.i64 p3, CV.int IntKind.i64 p4, ((Blk.vec (4 : Nat) Ty.bool p5) :: []) => gd (shapeOK T 48 [0, 2, 8, 24, 25, 26] (0 : Nat)) (G p0 p1 p2 p3 p4 p5 k)
  | _, _, _, _, _, _, _ => none
theorem o_17_0_inv {R : Type} {G : (Int) → (Int) → (List (Int × Int × Bool × PUnit)) → (Int) → (Int) → (List Bool) → (Ex → St → Option R) → Option R} {T : St} {k : Ex → St → Option R} {r : R} (h : o_17_0 G T k = some r) : ∃ p0 p1 p2 p3 p4 p5, T = T_17_0 p0 p1 p2 p3 p4 p5 ∧ G p0 p1 p2 p3 p4 p5 k = some r := by
  unfold o_17_0 at h
  split at h
  · obtain ⟨hs, h'⟩ := gd_some h
    refine ⟨_, _, _, _, _, _, (st_of (asg := [(0, _), (2, _), (8, _), (24, _), (25, _), (26, _)]) hs ⟨by assumption, by assumption, by assumption, by assumption, by assumption, by assumption, trivial⟩ (by assumption)).trans ?_, h'⟩
    kernel_rfl
  · cases h
def O_17_17_0 {R : Type} : St → (Ex → St → Option R) → Option R := fun T k => o_17_0 G_17_0 T k
theorem body_17_0 {R : Type} (K0 : St → Option R) (K1 : Ex → St → Option R) (p0 : Int) (p1 : Int) (p2 : List (Int × Int × Bool × PUnit)) (p3 : Int) (p4 : Int) (p5 : List Bool) : evLB (evCodeL sm_17 FU (ovr noO (evFn sm_17 fns FU 0)) .nil ir17_b0) (St.norm ir17_v0) (T_17_0 p0 p1 p2 p3 p4 p5) K0 K1 =
  bif decide (p4 < p3) then gd (inB p4 (List.length p2)) (bif decide (Prod.fst (Prod.snd (List.getD p2 (Int.toNat p4) (Ty.dflt (Ty.pair (Ty.int IntKind.i64) (Ty.pair (Ty.int IntKind.i64) (Ty.pair Ty.bool Ty.unit)))))) < p0) then bif decide (Prod.fst (List.getD p2 (Int.toNat p4) (Ty.dflt (Ty.pair (Ty.int IntKind.i64) (Ty.pair (Ty.int IntKind.i64) (Ty.pair Ty.bool Ty.unit))))) ≤ p1) then gd (inB (Prod.fst (Prod.snd (List.getD p2 (Int.toNat p4) (Ty.dflt (Ty.pair (Ty.int IntKind.i64) (Ty.pair (Ty.int IntKind.i64) (Ty.pair Ty.bool Ty.unit))))))) (List.length p5)) (gd (decide (Int.toNat (Prod.fst (Prod.snd (List.getD p2 (Int.toNat p4) (Ty.dflt (Ty.pair (Ty.int IntKind.i64) (Ty.pair (Ty.int IntKind.i64) (Ty.pair Ty.bool Ty.unit))))))) < List.length p5) && true && true) (K0 (T_17_0 p0 p1 p2 p3 (IntKind.wrap IntKind.i64 (p4 + (1 : Int))) (List.set p5 (Int.toNat (Prod.fst (Prod.snd (List.getD p2 (Int.toNat p4) (Ty.dflt (Ty.pair (Ty.int IntKind.i64) (Ty.pair (Ty.int IntKind.i64) (Ty.pair Ty.bool Ty.unit)))))))) (Prod.fst (Prod.snd (Prod.snd (List.getD p2 (Int.toNat p4) (Ty.dflt (Ty.pair (Ty.int IntKind.i64) (Ty.pair (Ty.int IntKind.i64) (Ty.pair Ty.bool Ty.unit)))))))))))) else K0 (T_17_0 p0 p1 p2 p3 (IntKind.wrap IntKind.i64 (p4 + (1 : Int))) p5) else K0 (T_17_0 p0 p1 p2 p3 (IntKind.wrap IntKind.i64 (p4 + (1 : Int))) p5)) else K1 (Ex.exit (1 : Nat)) (X_17_0_0 p5) := by kernel_rfl
theorem Bgd_17_0 {R : Type} {c : Bool} {x : Option R} {y : Option Sp.E_17_0} {k0 : (List Bool) → Option R} (h : x = Sp.B_17_0 y k0) : gd c x = Sp.B_17_0 (gd c y) k0 := by cases c; rfl; exact h
theorem Bcond_17_0 {R : Type} {c : Bool} {x x' : Option R} {y y' : Option Sp.E_17_0} {k0 : (List Bool) → Option R} (h : x = Sp.B_17_0 y k0) (h' : x' = Sp.B_17_0 y' k0) : (bif c then x else x') = Sp.B_17_0 (bif c then y else y') k0 := by cases c; exact h'; exact h
theorem loop_17_0 {R : Type} (k : Ex → St → Option R) : ∀ (m : Nat) (p0 : Int) (p1 : Int) (p2 : List (Int × Int × Bool × PUnit)) (p3 : Int) (p4 : Int) (p5 : List Bool), evLoopN (evCodeL sm_17 FU (ovr noO (evFn sm_17 fns FU 0)) .nil ir17_b0) (St.norm ir17_v0) m (T_17_0 p0 p1 p2 p3 p4 p5) k = Sp.B_17_0 (Sp.L_17_0 m p0 p1 p2 p3 p4 p5) (fun p5 => k (Ex.exit (1 : Nat)) (X_17_0_0 p5))
  | 0, _, _, _, _, _, _ => rfl
  | m + 1, p0, p1, p2, p3, p4, p5 => by
    rw [evLoopN_succ, body_17_0, Sp.L_17_0]
    repeat' first | apply Bgd_17_0 | apply Bcond_17_0 | exact loop_17_0 k m _ _ _ _ _ _ | rfl
theorem ok_17_0 {R : Type} (T : St) (k : Ex → St → Option R) (r : R) (h0 : o_17_0 G_17_0 T k = some r) : evLoopN (evCode sm_17 FU (evFn sm_17 fns FU 0) ir17_b0) (St.norm ir17_v0) FU T k = some r := by
  obtain ⟨p0, p1, p2, p3, p4, p5, rfl, h⟩ := o_17_0_inv h0
  refine evLoopN_L (t := .nil) noO_ok trivial _ _ _ _ ?_
  rw [loop_17_0]
  exact h
theorem OK_17_17_0 {R : Type} (T : St) (k : Ex → St → Option R) (r : R) (h : O_17_17_0 T k = some r) : evLoopN (evCode sm_17 FU (evFn sm_17 fns FU 0) ir17_b0) (St.norm ir17_v0) FU T k = some r := ok_17_0 T k r h
def F_17 (a0 : Int) (a1 : (List (Int × (Int × (Bool × Unit))))) (a2 : Int) : Option ((List Bool) × Int × Unit) :=
  gd (Sp.p_32 a1) (bif !Prod.fst (Sp.v_32 a1) then some ([], (1 : Int), PUnit.unit) else bif decide (a0 < (1 : Int)) then some ([], (2 : Int), PUnit.unit) else bif decide (a0 > (16 : Int)) then some ([], (2 : Int), PUnit.unit) else gd (decide ((0 : Int) ≤ a0) && (a0 == a0 && room (Int.toNat a0) (1 : Nat))) (Sp.B_17_0 (Sp.L_17_0 (4611686018427387904 : Nat) a0 a2 a1 (↑(List.length a1) : Int) (0 : Int) (List.replicate (Int.toNat a0) false)) fun (y1 : List Bool) => some (y1, (0 : Int), PUnit.unit)))
theorem fn_17 (a0 : Int) (a1 : (List (Int × (Int × (Bool × Unit))))) (a2 : Int) : evFnL sm_17 FU (ovr noO (evFn sm_17 fns FU 0)) (ir17_t O_17_17_0) ir17 (ofH [(.int .i64), (.slice (.pair (.int .i64) (.pair (.int .i64) (.pair .bool .unit)))), (.int .i64)] (a0, a1, a2, ())) [] (pureK [(.slice .bool), (.int .i64)]) = F_17 a0 a1 a2 := by kernel_rfl
def Sp.p_17 (a0 : Int) (a1 : (List (Int × (Int × (Bool × Unit))))) (a2 : Int) : Bool := (F_17 a0 a1 a2).isSome
def Sp.v_17 (a0 : Int) (a1 : (List (Int × (Int × (Bool × Unit))))) (a2 : Int) : (List Bool) × Int × Unit := (F_17 a0 a1 a2).getD (dfH [(.slice .bool), (.int .i64)])
def s_17 : Summ := shS [(.int .i64), (.slice (.pair (.int .i64) (.pair (.int .i64) (.pair .bool .unit)))), (.int .i64)] [(.slice .bool), (.int .i64)] (fun x => Sp.p_17 x.1 x.2.1 x.2.2.1) (fun x => Sp.v_17 x.1 x.2.1 x.2.2.1)
theorem pv_17 (a0 : Int) (a1 : (List (Int × (Int × (Bool × Unit))))) (a2 : Int) {y : (List Bool) × Int × Unit} (h : F_17 a0 a1 a2 = some y) : Sp.p_17 a0 a1 a2 = true ∧ Sp.v_17 a0 a1 a2 = y := ⟨by rw [Sp.p_17, h]; rfl, by rw [Sp.v_17, h]; rfl⟩
theorem run_17 (x : HDen [(.int .i64), (.slice (.pair (.int .i64) (.pair (.int .i64) (.pair .bool .unit)))), (.int .i64)]) (y : HDen [(.slice .bool), (.int .i64)]) (h : F_17 x.1 x.2.1 x.2.2.1 = some y) : evFn sm_17 fns FU 1 17 (ofH [(.int .i64), (.slice (.pair (.int .i64) (.pair (.int .i64) (.pair .bool .unit)))), (.int .i64)] x) [] (pureK [(.slice .bool), (.int .i64)]) = some y :=
  evFnL_sound (fn := ir17) (t := (ir17_t O_17_17_0)) (o := noO) rfl noO_ok (ir17_tok (fun T k r => OK_17_17_0 T k r)) ((fn_17 _ _ _).trans h)
end
end Go.Ev
namespace Go.Ev
open Go
set_option maxRecDepth 100000
set_option maxHeartbeats 4000000
set_option linter.unusedVariables false
noncomputable section

def sm_19 : Nat → Option Summ := fun f => none
def T_19_0 (p0 : List (Int × Int × Bool × PUnit)) (p1 : List (Int × Int × Bool × PUnit)) (p2 : Int) (p3 : Int) : St := St.mk [CV.pure (Ty.slice (Ty.pair (Ty.int IntKind.i64) (Ty.pair (Ty.int IntKind.i64) (Ty.pair Ty.bool Ty.unit)))) p0, CV.pure (Ty.slice (Ty.pair (Ty.int IntKind.i64) (Ty.pair (Ty.int IntKind.i64) (Ty.pair Ty.bool Ty.unit)))) p1, jk, jk, jk, jk, jk, jk, jk, jk, jk, jk, CV.int IntKind.i64 p2, CV.int IntKind.i64 p3, jk, jk, jk, jk, jk, jk, jk, jk, jk, jk, jk, jk] [] (0 : Nat)
def X_19_0_0 : St := St.mk [jk, jk, jk, jk, CV.bool false, jk, jk, jk, jk, jk, jk, jk, jk, jk, jk, jk, jk, jk, jk, jk, jk, jk, jk, jk, jk, jk] [] (0 : Nat)
def X_19_0_1 : St := St.mk [jk, jk, jk, jk, jk, jk, jk, jk, jk, jk, jk, jk, jk, jk, jk, jk, jk, jk, jk, jk, jk, jk, jk, jk, jk, jk] [] (0 : Nat)
inductive Sp.E_19_0 where
  | e0
  | e1
def Sp.B_19_0 {R : Type} (r : Option Sp.E_19_0) (k0 : Option R) (k1 : Option R) : Option R := match r with
  | none => none
  | some (.e0) => k0
  | some (.e1) => k1
def Sp.L_19_0 : Nat → (List (Int × Int × Bool × PUnit)) → (List (Int × Int × Bool × PUnit)) → (Int) → (Int) → Option Sp.E_19_0
  | 0, _, _, _, _ => none
  | m + 1, p0, p1, p2, p3 => bif decide (p3 < p2) then gd (inB p3 (List.length p0)) (gd (inB p3 (List.length p1)) (bif !Ty.beq (Ty.pair (Ty.int IntKind.i64) (Ty.pair (Ty.int IntKind.i64) (Ty.pair Ty.bool Ty.unit))) (List.getD p0 (Int.toNat p3) (Ty.dflt (Ty.pair (Ty.int IntKind.i64) (Ty.pair (Ty.int IntKind.i64) (Ty.pair Ty.bool Ty.unit))))) (List.getD p1 (Int.toNat p3) (Ty.dflt (Ty.pair (Ty.int IntKind.i64) (Ty.pair (Ty.int IntKind.i64) (Ty.pair Ty.bool Ty.unit))))) then some (Sp.E_19_0.e0) else Sp.L_19_0 m p0 p1 p2 (IntKind.wrap IntKind.i64 (p3 + (1 : Int))))) else some (Sp.E_19_0.e1)
def G_19_0 {R : Type} (p0 : List (Int × Int × Bool × PUnit)) (p1 : List (Int × Int × Bool × PUnit)) (p2 : Int) (p3 : Int) (k : Ex → St → Option R) : Option R := Sp.B_19_0 (Sp.L_19_0 FU p0 p1 p2 p3) (k Ex.ret (X_19_0_0)) (k (Ex.exit (0 : Nat)) (X_19_0_1))
def o_19_0 {R : Type} (G : (List (Int × Int × Bool × PUnit)) → (List (Int × Int × Bool × PUnit)) → (Int) → (Int) → (Ex → St → Option R) → Option R) : St → (Ex → St → Option R) → Option R := fun T k => match T.sl.getD 0 .junk, T.sl.getD 1 .junk, T.sl.getD 12 .junk, T.sl.getD 13 .junk, T.hp with
  | CV.pure (Ty.slice (Ty.pair (Ty.int IntKind.i64) (Ty.pair (Ty.int IntKind.i64) (Ty.pair Ty.bool Ty.unit)))) p0, CV.pure (Ty.slice (Ty.pair (Ty.int IntKind.i64) (Ty.pair (Ty.int IntKind.i64) (Ty.pair Ty.bool Ty.unit)))) p1, CV.int IntKind.i64 p2, CV.int IntKind.i64 p3, [] => gd (shapeOK T 26 [0, 1, 12, 13] (0 : Nat)) (G p0 p1 p2 p3 k)
  | _, _, _, _, _ => none
theorem o_19_0_inv {R : Type} {G : (List (Int × Int × Bool × PUnit)) → (List (Int × Int × Bool × PUnit)) → (Int) → (Int) → (Ex → St → Option R) → Option R} {T : St} {k : Ex → St → Option R} {r : R} (h : o_19_0 G T k = some r) : ∃ p0 p1 p2 p3, T = T_19_0 p0 p1 p2 p3 ∧ G p0 p1 p2 p3 k = some r := by
  unfold o_19_0 at h
  split at h
  · obtain ⟨hs, h'⟩ := gd_some h
    refine ⟨_, _, _, _, (st_of (asg := [(0, _), (1, _), (12, _), (13, _)]) hs ⟨by assumption, by assumption, by assumption, by assumption, trivial⟩ (by assumption)).trans ?_, h'⟩
    kernel_rfl
  · cases h
def O_19_19_0 {R : Type} : St → (Ex → St → Option R) → Option R := fun T k => o_19_0 G_19_0 T k
theorem body_19_0 {R : Type} (K0 : St → Option R) (K1 : Ex → St → Option R) (p0 : List (Int × Int × Bool × PUnit)) (p1 : List (Int × Int × Bool × PUnit)) (p2 : Int) (p3 : Int) : evLB (evCodeL sm_19 FU (ovr noO (evFn sm_19 fns FU 0)) .nil ir19_b0) (St.norm ir19_v0) (T_19_0 p0 p1 p2 p3) K0 K1 =
  bif decide (p3 < p2) then gd (inB p3 (List.length p0)) (gd (inB p3 (List.length p1)) (bif !Ty.beq (Ty.pair (Ty.int IntKind.i64) (Ty.pair (Ty.int IntKind.i64) (Ty.pair Ty.bool Ty.unit))) (List.getD p0 (Int.toNat p3) (Ty.dflt (Ty.pair (Ty.int IntKind.i64) (Ty.pair (Ty.int IntKind.i64) (Ty.pair Ty.bool Ty.unit))))) (List.getD p1 (Int.toNat p3) (Ty.dflt (Ty.pair (Ty.int IntKind.i64) (Ty.pair (Ty.int IntKind.i64) (Ty.pair Ty.bool Ty.unit))))) then K1 Ex.ret X_19_0_0 else K0 (T_19_0 p0 p1 p2 (IntKind.wrap IntKind.i64 (p3 + (1 : Int)))))) else K1 (Ex.exit (0 : Nat)) X_19_0_1 := by kernel_rfl
theorem Bgd_19_0 {R : Type} {c : Bool} {x : Option R} {y : Option Sp.E_19_0} {k0 : Option R} {k1 : Option R} (h : x = Sp.B_19_0 y k0 k1) : gd c x = Sp.B_19_0 (gd c y) k0 k1 := by cases c; rfl; exact h
theorem Bcond_19_0 {R : Type} {c : Bool} {x x' : Option R} {y y' : Option Sp.E_19_0} {k0 : Option R} {k1 : Option R} (h : x = Sp.B_19_0 y k0 k1) (h' : x' = Sp.B_19_0 y' k0 k1) : (bif c then x else x') = Sp.B_19_0 (bif c then y else y') k0 k1 := by cases c; exact h'; exact h
theorem loop_19_0 {R : Type} (k : Ex → St → Option R) : ∀ (m : Nat) (p0 : List (Int × Int × Bool × PUnit)) (p1 : List (Int × Int × Bool × PUnit)) (p2 : Int) (p3 : Int), evLoopN (evCodeL sm_19 FU (ovr noO (evFn sm_19 fns FU 0)) .nil ir19_b0) (St.norm ir19_v0) m (T_19_0 p0 p1 p2 p3) k = Sp.B_19_0 (Sp.L_19_0 m p0 p1 p2 p3) (k Ex.ret (X_19_0_0)) (k (Ex.exit (0 : Nat)) (X_19_0_1))
  | 0, _, _, _, _ => rfl
  | m + 1, p0, p1, p2, p3 => by
    rw [evLoopN_succ, body_19_0, Sp.L_19_0]
    repeat' first | apply Bgd_19_0 | apply Bcond_19_0 | exact loop_19_0 k m _ _ _ _ | rfl
theorem ok_19_0 {R : Type} (T : St) (k : Ex → St → Option R) (r : R) (h0 : o_19_0 G_19_0 T k = some r) : evLoopN (evCode sm_19 FU (evFn sm_19 fns FU 0) ir19_b0) (St.norm ir19_v0) FU T k = some r := by
  obtain ⟨p0, p1, p2, p3, rfl, h⟩ := o_19_0_inv h0
  refine evLoopN_L (t := .nil) noO_ok trivial _ _ _ _ ?_
  rw [loop_19_0]
  exact h
theorem OK_19_19_0 {R : Type} (T : St) (k : Ex → St → Option R) (r : R) (h : O_19_19_0 T k = some r) : evLoopN (evCode sm_19 FU (evFn sm_19 fns FU 0) ir19_b0) (St.norm ir19_v0) FU T k = some r := ok_19_0 T k r h
def F_19 (a0 : (List (Int × (Int × (Bool × Unit))))) (a1 : (List (Int × (Int × (Bool × Unit))))) : Option (Bool × Unit) :=
  bif (↑(List.length a0) : Int) != (↑(List.length a1) : Int) then some (false, PUnit.unit) else Sp.B_19_0 (Sp.L_19_0 (4611686018427387904 : Nat) a0 a1 (↑(List.length a0) : Int) (0 : Int)) (some (false, PUnit.unit)) (some (true, PUnit.unit))
theorem fn_19 (a0 : (List (Int × (Int × (Bool × Unit))))) (a1 : (List (Int × (Int × (Bool × Unit))))) : evFnL sm_19 FU (ovr noO (evFn sm_19 fns FU 0)) (ir19_t O_19_19_0) ir19 (ofH [(.slice (.pair (.int .i64) (.pair (.int .i64) (.pair .bool .unit)))), (.slice (.pair (.int .i64) (.pair (.int .i64) (.pair .bool .unit))))] (a0, a1, ())) [] (pureK [.bool]) = F_19 a0 a1 := by kernel_rfl
def Sp.p_19 (a0 : (List (Int × (Int × (Bool × Unit))))) (a1 : (List (Int × (Int × (Bool × Unit))))) : Bool := (F_19 a0 a1).isSome
def Sp.v_19 (a0 : (List (Int × (Int × (Bool × Unit))))) (a1 : (List (Int × (Int × (Bool × Unit))))) : Bool × Unit := (F_19 a0 a1).getD (dfH [.bool])
def s_19 : Summ := shN [(.slice (.pair (.int .i64) (.pair (.int .i64) (.pair .bool .unit)))), (.slice (.pair (.int .i64) (.pair (.int .i64) (.pair .bool .unit))))] [.bool] (fun x => Sp.p_19 x.1 x.2.1) (fun x => Sp.v_19 x.1 x.2.1)
theorem pv_19 (a0 : (List (Int × (Int × (Bool × Unit))))) (a1 : (List (Int × (Int × (Bool × Unit))))) {y : Bool × Unit} (h : F_19 a0 a1 = some y) : Sp.p_19 a0 a1 = true ∧ Sp.v_19 a0 a1 = y := ⟨by rw [Sp.p_19, h]; rfl, by rw [Sp.v_19, h]; rfl⟩
theorem run_19 (x : HDen [(.slice (.pair (.int .i64) (.pair (.int .i64) (.pair .bool .unit)))), (.slice (.pair (.int .i64) (.pair (.int .i64) (.pair .bool .unit))))]) (y : HDen [.bool]) (h : F_19 x.1 x.2.1 = some y) : evFn sm_19 fns FU 1 19 (ofH [(.slice (.pair (.int .i64) (.pair (.int .i64) (.pair .bool .unit)))), (.slice (.pair (.int .i64) (.pair (.int .i64) (.pair .bool .unit))))] x) [] (pureK [.bool]) = some y :=
  evFnL_sound (fn := ir19) (t := (ir19_t O_19_19_0)) (o := noO) rfl noO_ok (ir19_tok (fun T k r => OK_19_19_0 T k r)) ((fn_19 _ _).trans h)
end
end Go.Ev
namespace Go.Ev
open Go
set_option maxRecDepth 100000
set_option maxHeartbeats 4000000
set_option linter.unusedVariables false
noncomputable section

def sm_36 : Nat → Option Summ := fun f => none
def T_36_0 (p0 : List Bool) (p1 : Bool) (p2 : Int) (p3 : Int) : St := St.mk [CV.pure (Ty.slice Ty.bool) p0, CV.bool p1, jk, jk, jk, jk, jk, CV.int IntKind.i64 p2, CV.int IntKind.i64 p3, jk, jk, jk, jk, jk, jk, jk, jk, jk, jk] [] (0 : Nat)
def X_36_0_0 (p3 : Int) : St := St.mk [jk, jk, jk, jk, CV.int IntKind.i64 p3, jk, jk, jk, jk, jk, jk, jk, jk, jk, jk, jk, jk, jk, jk] [] (0 : Nat)
def X_36_0_1 : St := St.mk [jk, jk, jk, jk, jk, jk, jk, jk, jk, jk, jk, jk, jk, jk, jk, jk, jk, jk, jk] [] (0 : Nat)
inductive Sp.E_36_0 where
  | e0 (p3 : Int)
  | e1
def Sp.B_36_0 {R : Type} (r : Option Sp.E_36_0) (k0 : (Int) → Option R) (k1 : Option R) : Option R := match r with
  | none => none
  | some (.e0 p3) => k0 p3
  | some (.e1) => k1
def Sp.L_36_0 : Nat → (List Bool) → (Bool) → (Int) → (Int) → Option Sp.E_36_0
  | 0, _, _, _, _ => none
  | m + 1, p0, p1, p2, p3 => bif decide (p3 < p2) then gd (inB p3 (List.length p0)) (bif p1 == List.getD p0 (Int.toNat p3) false then some (Sp.E_36_0.e0 p3) else Sp.L_36_0 m p0 p1 p2 (IntKind.wrap IntKind.i64 (p3 + (1 : Int)))) else some (Sp.E_36_0.e1)
def G_36_0 {R : Type} (p0 : List Bool) (p1 : Bool) (p2 : Int) (p3 : Int) (k : Ex → St → Option R) : Option R := Sp.B_36_0 (Sp.L_36_0 FU p0 p1 p2 p3) (fun p3 => k Ex.ret (X_36_0_0 p3)) (k (Ex.exit (0 : Nat)) (X_36_0_1))
def o_36_0 {R : Type} (G : (List Bool) → (Bool) → (Int) → (Int) → (Ex → St → Option R) → Option R) : St → (Ex → St → Option R) → Option R := fun T k => match T.sl.getD 0 .junk, T.sl.getD 1 .junk, T.sl.getD 7 .junk, T.sl.getD 8 .junk, T.hp with
  | CV.pure (Ty.slice Ty.bool) p0, CV.bool p1, CV.int IntKind.i64 p2, CV.int IntKind.i64 p3, [] => gd (shapeOK T 19 [0, 1, 7, 8] (0 : Nat)) (G p0 p1 p2 p3 k)
  | _, _, _, _, _ => none
theorem o_36_0_inv {R : Type} {G : (List Bool) → (Bool) → (Int) → (Int) → (Ex → St → Option R) → Option R} {T : St} {k : Ex → St → Option R} {r : R} (h : o_36_0 G T k = some r) : ∃ p0 p1 p2 p3, T = T_36_0 p0 p1 p2 p3 ∧ G p0 p1 p2 p3 k = some r := by
  unfold o_36_0 at h
  split at h
  · obtain ⟨hs, h'⟩ := gd_some h
    refine ⟨_, _, _, _, (st_of (asg := [(0, _), (1, _), (7, _), (8, _)]) hs ⟨by assumption, by assumption, by assumption, by assumption, trivial⟩ (by assumption)).trans ?_, h'⟩
    kernel_rfl
  · cases h
def O_36_36_0 {R : Type} : St → (Ex → St → Option R) → Option R := fun T k => o_36_0 G_36_0 T k
theorem body_36_0 {R : Type} (K0 : St → Option R) (K1 : Ex → St → Option R) (p0 : List Bool) (p1 : Bool) (p2 : Int) (p3 : Int) : evLB (evCodeL sm_36 FU (ovr noO (evFn sm_36 fns FU 0)) .nil ir36_b0) (St.norm ir36_v0) (T_36_0 p0 p1 p2 p3) K0 K1 =
  bif decide (p3 < p2) then gd (inB p3 (List.length p0)) (bif p1 == List.getD p0 (Int.toNat p3) false then K1 Ex.ret (X_36_0_0 p3) else K0 (T_36_0 p0 p1 p2 (IntKind.wrap IntKind.i64 (p3 + (1 : Int))))) else K1 (Ex.exit (0 : Nat)) X_36_0_1 := by kernel_rfl
theorem Bgd_36_0 {R : Type} {c : Bool} {x : Option R} {y : Option Sp.E_36_0} {k0 : (Int) → Option R} {k1 : Option R} (h : x = Sp.B_36_0 y k0 k1) : gd c x = Sp.B_36_0 (gd c y) k0 k1 := by cases c; rfl; exact h
theorem Bcond_36_0 {R : Type} {c : Bool} {x x' : Option R} {y y' : Option Sp.E_36_0} {k0 : (Int) → Option R} {k1 : Option R} (h : x = Sp.B_36_0 y k0 k1) (h' : x' = Sp.B_36_0 y' k0 k1) : (bif c then x else x') = Sp.B_36_0 (bif c then y else y') k0 k1 := by cases c; exact h'; exact h
theorem loop_36_0 {R : Type} (k : Ex → St → Option R) : ∀ (m : Nat) (p0 : List Bool) (p1 : Bool) (p2 : Int) (p3 : Int), evLoopN (evCodeL sm_36 FU (ovr noO (evFn sm_36 fns FU 0)) .nil ir36_b0) (St.norm ir36_v0) m (T_36_0 p0 p1 p2 p3) k = Sp.B_36_0 (Sp.L_36_0 m p0 p1 p2 p3) (fun p3 => k Ex.ret (X_36_0_0 p3)) (k (Ex.exit (0 : Nat)) (X_36_0_1))
  | 0, _, _, _, _ => rfl
  | m + 1, p0, p1, p2, p3 => by
    rw [evLoopN_succ, body_36_0, Sp.L_36_0]
    repeat' first | apply Bgd_36_0 | apply Bcond_36_0 | exact loop_36_0 k m _ _ _ _ | rfl
theorem ok_36_0 {R : Type} (T : St) (k : Ex → St → Option R) (r : R) (h0 : o_36_0 G_36_0 T k = some r) : evLoopN (evCode sm_36 FU (evFn sm_36 fns FU 0) ir36_b0) (St.norm ir36_v0) FU T k = some r := by
  obtain ⟨p0, p1, p2, p3, rfl, h⟩ := o_36_0_inv h0
  refine evLoopN_L (t := .nil) noO_ok trivial _ _ _ _ ?_
  rw [loop_36_0]
  exact h
theorem OK_36_36_0 {R : Type} (T : St) (k : Ex → St → Option R) (r : R) (h : O_36_36_0 T k = some r) : evLoopN (evCode sm_36 FU (evFn sm_36 fns FU 0) ir36_b0) (St.norm ir36_v0) FU T k = some r := ok_36_0 T k r h
def F_36 (a0 : (List Bool)) (a1 : Bool) : Option (Int × Unit) :=
  Sp.B_36_0 (Sp.L_36_0 (4611686018427387904 : Nat) a0 a1 (↑(List.length a0) : Int) (0 : Int)) (fun (y1 : Int) => some (y1, PUnit.unit)) (some ((-1 : Int), PUnit.unit))
theorem fn_36 (a0 : (List Bool)) (a1 : Bool) : evFnL sm_36 FU (ovr noO (evFn sm_36 fns FU 0)) (ir36_t O_36_36_0) ir36 (ofH [(.slice .bool), .bool] (a0, a1, ())) [] (pureK [(.int .i64)]) = F_36 a0 a1 := by kernel_rfl
def Sp.p_36 (a0 : (List Bool)) (a1 : Bool) : Bool := (F_36 a0 a1).isSome
def Sp.v_36 (a0 : (List Bool)) (a1 : Bool) : Int × Unit := (F_36 a0 a1).getD (dfH [(.int .i64)])
def s_36 : Summ := shN [(.slice .bool), .bool] [(.int .i64)] (fun x => Sp.p_36 x.1 x.2.1) (fun x => Sp.v_36 x.1 x.2.1)
theorem pv_36 (a0 : (List Bool)) (a1 : Bool) {y : Int × Unit} (h : F_36 a0 a1 = some y) : Sp.p_36 a0 a1 = true ∧ Sp.v_36 a0 a1 = y := ⟨by rw [Sp.p_36, h]; rfl, by rw [Sp.v_36, h]; rfl⟩
theorem run_36 (x : HDen [(.slice .bool), .bool]) (y : HDen [(.int .i64)]) (h : F_36 x.1 x.2.1 = some y) : evFn sm_36 fns FU 1 36 (ofH [(.slice .bool), .bool] x) [] (pureK [(.int .i64)]) = some y :=
  evFnL_sound (fn := ir36) (t := (ir36_t O_36_36_0)) (o := noO) rfl noO_ok (ir36_tok (fun T k r => OK_36_36_0 T k r)) ((fn_36 _ _).trans h)
end
end Go.Ev
namespace Go.Ev
open Go
set_option maxRecDepth 100000
set_option maxHeartbeats 4000000
set_option linter.unusedVariables false
noncomputable section

def sm_22 : Nat → Option Summ := fun f => bif Nat.beq f 36 then some s_36 else none


def F_22 (a0 : (List Bool)) (a1 : Bool) : Option (Bool × Unit) :=
  gd (Sp.p_36 a0 a1) (some (decide (Prod.fst (Sp.v_36 a0 a1) ≥ (0 : Int)), PUnit.unit))
theorem fn_22 (a0 : (List Bool)) (a1 : Bool) : evFnL sm_22 FU (ovr noO (evFn sm_22 fns FU 0)) .nil ir22 (ofH [(.slice .bool), .bool] (a0, a1, ())) [] (pureK [.bool]) = F_22 a0 a1 := by kernel_rfl
def Sp.p_22 (a0 : (List Bool)) (a1 : Bool) : Bool := (F_22 a0 a1).isSome
def Sp.v_22 (a0 : (List Bool)) (a1 : Bool) : Bool × Unit := (F_22 a0 a1).getD (dfH [.bool])
def s_22 : Summ := shN [(.slice .bool), .bool] [.bool] (fun x => Sp.p_22 x.1 x.2.1) (fun x => Sp.v_22 x.1 x.2.1)
theorem pv_22 (a0 : (List Bool)) (a1 : Bool) {y : Bool × Unit} (h : F_22 a0 a1 = some y) : Sp.p_22 a0 a1 = true ∧ Sp.v_22 a0 a1 = y := ⟨by rw [Sp.p_22, h]; rfl, by rw [Sp.v_22, h]; rfl⟩
theorem run_22 (x : HDen [(.slice .bool), .bool]) (y : HDen [.bool]) (h : F_22 x.1 x.2.1 = some y) : evFn sm_22 fns FU 1 22 (ofH [(.slice .bool), .bool] x) [] (pureK [.bool]) = some y :=
  evFnL_sound (fn := ir22) (t := .nil) (o := noO) rfl noO_ok trivial ((fn_22 _ _).trans h)
end
end Go.Ev
namespace Go.Ev
open Go
set_option maxRecDepth 100000
set_option maxHeartbeats 4000000
set_option linter.unusedVariables false
noncomputable section

def sm_25 : Nat → Option Summ := fun f => none
def T_25_0 (p0 : List Bool) (p1 : List Bool) (p2 : Int) (p3 : Int) : St := St.mk [CV.pure (Ty.slice Ty.bool) p0, CV.pure (Ty.slice Ty.bool) p1, jk, jk, jk, jk, jk, jk, jk, jk, jk, jk, CV.int IntKind.i64 p2, CV.int IntKind.i64 p3, jk, jk, jk, jk, jk, jk, jk, jk, jk, jk, jk, jk] [] (0 : Nat)
def X_25_0_0 : St := St.mk [jk, jk, jk, jk, CV.bool false, jk, jk, jk, jk, jk, jk, jk, jk, jk, jk, jk, jk, jk, jk, jk, jk, jk, jk, jk, jk, jk] [] (0 : Nat)
def X_25_0_1 : St := St.mk [jk, jk, jk, jk, jk, jk, jk, jk, jk, jk, jk, jk, jk, jk, jk, jk, jk, jk, jk, jk, jk, jk, jk, jk, jk, jk] [] (0 : Nat)
inductive Sp.E_25_0 where
  | e0
  | e1
def Sp.B_25_0 {R : Type} (r : Option Sp.E_25_0) (k0 : Option R) (k1 : Option R) : Option R := match r with
  | none => none
  | some (.e0) => k0
  | some (.e1) => k1
def Sp.L_25_0 : Nat → (List Bool) → (List Bool) → (Int) → (Int) → Option Sp.E_25_0
  | 0, _, _, _, _ => none
  | m + 1, p0, p1, p2, p3 => bif decide (p3 < p2) then gd (inB p3 (List.length p0)) (gd (inB p3 (List.length p1)) (bif !List.getD p0 (Int.toNat p3) false == List.getD p1 (Int.toNat p3) false then some (Sp.E_25_0.e0) else Sp.L_25_0 m p0 p1 p2 (IntKind.wrap IntKind.i64 (p3 + (1 : Int))))) else some (Sp.E_25_0.e1)
def G_25_0 {R : Type} (p0 : List Bool) (p1 : List Bool) (p2 : Int) (p3 : Int) (k : Ex → St → Option R) : Option R := Sp.B_25_0 (Sp.L_25_0 FU p0 p1 p2 p3) (k Ex.ret (X_25_0_0)) (k (Ex.exit (0 : Nat)) (X_25_0_1))
def o_25_0 {R : Type} (G : (List Bool) → (List Bool) → (Int) → (Int) → (Ex → St → Option R) → Option R) : St → (Ex → St → Option R) → Option R := fun T k => match T.sl.getD 0 .junk, T.sl.getD 1 .junk, T.sl.getD 12 .junk, T.sl.getD 13 .junk, T.hp with
  | CV.pure (Ty.slice Ty.bool) p0, CV.pure (Ty.slice Ty.bool) p1, CV.int IntKind.i64 p2, CV.int IntKind.i64 p3, [] => gd (shapeOK T 26 [0, 1, 12, 13] (0 : Nat)) (G p0 p1 p2 p3 k)
  | _, _, _, _, _ => none
theorem o_25_0_inv {R : Type} {G : (List Bool) → (List Bool) → (Int) → (Int) → (Ex → St → Option R) → Option R} {T : St} {k : Ex → St → Option R} {r : R} (h : o_25_0 G T k = some r) : ∃ p0 p1 p2 p3, T = T_25_0 p0 p1 p2 p3 ∧ G p0 p1 p2 p3 k = some r := by
  unfold o_25_0 at h
  split at h
  · obtain ⟨hs, h'⟩ := gd_some h
    refine ⟨_, _, _, _, (st_of (asg := [(0, _), (1, _), (12, _), (13, _)]) hs ⟨by assumption, by assumption, by assumption, by assumption, trivial⟩ (by assumption)).trans ?_, h'⟩
    kernel_rfl
  · cases h
def O_25_25_0 {R : Type} : St → (Ex → St → Option R) → Option R := fun T k => o_25_0 G_25_0 T k
theorem body_25_0 {R : Type} (K0 : St → Option R) (K1 : Ex → St → Option R) (p0 : List Bool) (p1 : List Bool) (p2 : Int) (p3 : Int) : evLB (evCodeL sm_25 FU (ovr noO (evFn sm_25 fns FU 0)) .nil ir25_b0) (St.norm ir25_v0) (T_25_0 p0 p1 p2 p3) K0 K1 =
  bif decide (p3 < p2) then gd (inB p3 (List.length p0)) (gd (inB p3 (List.length p1)) (bif !List.getD p0 (Int.toNat p3) false == List.getD p1 (Int.toNat p3) false then K1 Ex.ret X_25_0_0 else K0 (T_25_0 p0 p1 p2 (IntKind.wrap IntKind.i64 (p3 + (1 : Int)))))) else K1 (Ex.exit (0 : Nat)) X_25_0_1 := by kernel_rfl
theorem Bgd_25_0 {R : Type} {c : Bool} {x : Option R} {y : Option Sp.E_25_0} {k0 : Option R} {k1 : Option R} (h : x = Sp.B_25_0 y k0 k1) : gd c x = Sp.B_25_0 (gd c y) k0 k1 := by cases c; rfl; exact h
theorem Bcond_25_0 {R : Type} {c : Bool} {x x' : Option R} {y y' : Option Sp.E_25_0} {k0 : Option R} {k1 : Option R} (h : x = Sp.B_25_0 y k0 k1) (h' : x' = Sp.B_25_0 y' k0 k1) : (bif c then x else x') = Sp.B_25_0 (bif c then y else y') k0 k1 := by cases c; exact h'; exact h
theorem loop_25_0 {R : Type} (k : Ex → St → Option R) : ∀ (m : Nat) (p0 : List Bool) (p1 : List Bool) (p2 : Int) (p3 : Int), evLoopN (evCodeL sm_25 FU (ovr noO (evFn sm_25 fns FU 0)) .nil ir25_b0) (St.norm ir25_v0) m (T_25_0 p0 p1 p2 p3) k = Sp.B_25_0 (Sp.L_25_0 m p0 p1 p2 p3) (k Ex.ret (X_25_0_0)) (k (Ex.exit (0 : Nat)) (X_25_0_1))
  | 0, _, _, _, _ => rfl
  | m + 1, p0, p1, p2, p3 => by
    rw [evLoopN_succ, body_25_0, Sp.L_25_0]
    repeat' first | apply Bgd_25_0 | apply Bcond_25_0 | exact loop_25_0 k m _ _ _ _ | rfl
theorem ok_25_0 {R : Type} (T : St) (k : Ex → St → Option R) (r : R) (h0 : o_25_0 G_25_0 T k = some r) : evLoopN (evCode sm_25 FU (evFn sm_25 fns FU 0) ir25_b0) (St.norm ir25_v0) FU T k = some r := by
  obtain ⟨p0, p1, p2, p3, rfl, h⟩ := o_25_0_inv h0
  refine evLoopN_L (t := .nil) noO_ok trivial _ _ _ _ ?_
  rw [loop_25_0]
  exact h
theorem OK_25_25_0 {R : Type} (T : St) (k : Ex → St → Option R) (r : R) (h : O_25_25_0 T k = some r) : evLoopN (evCode sm_25 FU (evFn sm_25 fns FU 0) ir25_b0) (St.norm ir25_v0) FU T k = some r := ok_25_0 T k r h
def F_25 (a0 : (List Bool)) (a1 : (List Bool)) : Option (Bool × Unit) :=
  bif (↑(List.length a0) : Int) != (↑(List.length a1) : Int) then some (false, PUnit.unit) else Sp.B_25_0 (Sp.L_25_0 (4611686018427387904 : Nat) a0 a1 (↑(List.length a0) : Int) (0 : Int)) (some (false, PUnit.unit)) (some (true, PUnit.unit))
theorem fn_25 (a0 : (List Bool)) (a1 : (List Bool)) : evFnL sm_25 FU (ovr noO (evFn sm_25 fns FU 0)) (ir25_t O_25_25_0) ir25 (ofH [(.slice .bool), (.slice .bool)] (a0, a1, ())) [] (pureK [.bool]) = F_25 a0 a1 := by kernel_rfl
def Sp.p_25 (a0 : (List Bool)) (a1 : (List Bool)) : Bool := (F_25 a0 a1).isSome
def Sp.v_25 (a0 : (List Bool)) (a1 : (List Bool)) : Bool × Unit := (F_25 a0 a1).getD (dfH [.bool])
def s_25 : Summ := shN [(.slice .bool), (.slice .bool)] [.bool] (fun x => Sp.p_25 x.1 x.2.1) (fun x => Sp.v_25 x.1 x.2.1)
theorem pv_25 (a0 : (List Bool)) (a1 : (List Bool)) {y : Bool × Unit} (h : F_25 a0 a1 = some y) : Sp.p_25 a0 a1 = true ∧ Sp.v_25 a0 a1 = y := ⟨by rw [Sp.p_25, h]; rfl, by rw [Sp.v_25, h]; rfl⟩
theorem run_25 (x : HDen [(.slice .bool), (.slice .bool)]) (y : HDen [.bool]) (h : F_25 x.1 x.2.1 = some y) : evFn sm_25 fns FU 1 25 (ofH [(.slice .bool), (.slice .bool)] x) [] (pureK [.bool]) = some y :=
  evFnL_sound (fn := ir25) (t := (ir25_t O_25_25_0)) (o := noO) rfl noO_ok (ir25_tok (fun T k r => OK_25_25_0 T k r)) ((fn_25 _ _).trans h)
end
end Go.Ev
namespace Go.Ev
open Go
set_option maxRecDepth 100000
set_option maxHeartbeats 4000000
set_option linter.unusedVariables false
noncomputable section

def sm_6 : Nat → Option Summ := fun f => bif Nat.beq f 7 then some s_7 else bif Nat.beq f 16 then some s_16 else bif Nat.beq f 17 then some s_17 else bif Nat.beq f 19 then some s_19 else bif Nat.beq f 22 then some s_22 else bif Nat.beq f 25 then some s_25 else none
def T_6_37_0_0 (p0 : List (Int × Int × Bool × PUnit)) (p1 : Int) (p2 : Int) (p3 : Bool × Int × Int × PUnit) : St := St.mk [CV.pure (Ty.slice (Ty.pair (Ty.int IntKind.i64) (Ty.pair (Ty.int IntKind.i64) (Ty.pair Ty.bool Ty.unit)))) p0, CV.clo (24 : Nat) (CV.pure Ty.unit PUnit.unit), jk, jk, jk, jk, jk, CV.int IntKind.i64 p1, CV.int IntKind.i64 p2, jk, jk, jk, jk, jk, jk, jk, jk, jk, jk] [Blk.mem (CV.pure (Ty.pair Ty.bool (Ty.pair (Ty.int IntKind.i64) (Ty.pair (Ty.int IntKind.i64) Ty.unit))) p3)] (1 : Nat)
def X_6_37_0_0_0 (p2 : Int) (p3 : Bool × Int × Int × PUnit) : St := St.mk [jk, jk, jk, jk, CV.int IntKind.i64 p2, jk, jk, jk, jk, jk, jk, jk, jk, jk, jk, jk, jk, jk, jk] [Blk.mem (CV.pure (Ty.pair Ty.bool (Ty.pair (Ty.int IntKind.i64) (Ty.pair (Ty.int IntKind.i64) Ty.unit))) p3)] (1 : Nat)
def X_6_37_0_0_1 (p3 : Bool × Int × Int × PUnit) : St := St.mk [jk, jk, jk, jk, jk, jk, jk, jk, jk, jk, jk, jk, jk, jk, jk, jk, jk, jk, jk] [Blk.mem (CV.pure (Ty.pair Ty.bool (Ty.pair (Ty.int IntKind.i64) (Ty.pair (Ty.int IntKind.i64) Ty.unit))) p3)] (1 : Nat)
inductive Sp.E_6_37_0_0 where
  | e0 (p2 : Int) (p3 : Bool × Int × Int × PUnit)
  | e1 (p3 : Bool × Int × Int × PUnit)
def Sp.B_6_37_0_0 {R : Type} (r : Option Sp.E_6_37_0_0) (k0 : (Int) → (Bool × Int × Int × PUnit) → Option R) (k1 : (Bool × Int × Int × PUnit) → Option R) : Option R := match r with
  | none => none
  | some (.e0 p2 p3) => k0 p2 p3
  | some (.e1 p3) => k1 p3
def Sp.L_6_37_0_0 : Nat → (List (Int × Int × Bool × PUnit)) → (Int) → (Int) → (Bool × Int × Int × PUnit) → Option Sp.E_6_37_0_0
  | 0, _, _, _, _ => none
  | m + 1, p0, p1, p2, p3 => bif decide (p2 < p1) then gd (inB p2 (List.length p0)) (bif Prod.fst (Prod.snd (Prod.snd (List.getD p0 (Int.toNat p2) (Ty.dflt (Ty.pair (Ty.int IntKind.i64) (Ty.pair (Ty.int IntKind.i64) (Ty.pair Ty.bool Ty.unit))))))) then some (Sp.E_6_37_0_0.e0 p2 p3) else Sp.L_6_37_0_0 m p0 p1 (IntKind.wrap IntKind.i64 (p2 + (1 : Int))) p3) else some (Sp.E_6_37_0_0.e1 p3)
def G_6_37_0_0 {R : Type} (p0 : List (Int × Int × Bool × PUnit)) (p1 : Int) (p2 : Int) (p3 : Bool × Int × Int × PUnit) (k : Ex → St → Option R) : Option R := Sp.B_6_37_0_0 (Sp.L_6_37_0_0 FU p0 p1 p2 p3) (fun p2 p3 => k Ex.ret (X_6_37_0_0_0 p2 p3)) (fun p3 => k (Ex.exit (0 : Nat)) (X_6_37_0_0_1 p3))
def o_6_37_0_0 {R : Type} (G : (List (Int × Int × Bool × PUnit)) → (Int) → (Int) → (Bool × Int × Int × PUnit) → (Ex → St → Option R) → Option R) : St → (Ex → St → Option R) → Option R := fun T k => match T.sl.getD 0 .junk, T.sl.getD 1 .junk, T.sl.getD 7 .junk, T.sl.getD 8 .junk, T.hp with
  | CV.pure (Ty.slice (Ty.pair (Ty.int IntKind.i64) (Ty.pair (Ty.int IntKind.i64) (Ty.pair Ty.bool Ty.unit)))) p0, CV.clo (24 : Nat) (CV.pure Ty.unit PUnit.unit), CV.int IntKind.i64 p1, CV.int IntKind.i64 p2, ((Blk.mem (CV.pure (Ty.pair Ty.bool (Ty.pair (Ty.int IntKind.i64) (Ty.pair (Ty.int IntKind.i64) Ty.unit))) p3)) :: []) => gd (shapeOK T 19 [0, 1, 7, 8] (1 : Nat)) (G p0 p1 p2 p3 k)
  | _, _, _, _, _ => none
theorem o_6_37_0_0_inv {R : Type} {G : (List (Int × Int × Bool × PUnit)) → (Int) → (Int) → (Bool × Int × Int × PUnit) → (Ex → St → Option R) → Option R} {T : St} {k : Ex → St → Option R} {r : R} (h : o_6_37_0_0 G T k = some r) : ∃ p0 p1 p2 p3, T = T_6_37_0_0 p0 p1 p2 p3 ∧ G p0 p1 p2 p3 k = some r := by
  unfold o_6_37_0_0 at h
  split at h
  · obtain ⟨hs, h'⟩ := gd_some h
    refine ⟨_, _, _, _, (st_of (asg := [(0, _), (1, _), (7, _), (8, _)]) hs ⟨by assumption, by assumption, by assumption, by assumption, trivial⟩ (by assumption)).trans ?_, h'⟩
    kernel_rfl
  · cases h
def O_6_37_0 {R : Type} : St → (Ex → St → Option R) → Option R := fun T k => o_6_37_0_0 G_6_37_0_0 T k
def g_6_37 {R : Type} : List CV → List Blk → (CV → List Blk → Option R) → Option R := evFnL sm_6 FU (ovr noO (evFn sm_6 fns FU 1)) (ir37_t O_6_37_0) ir37
def g_6_23 {R : Type} : List CV → List Blk → (CV → List Blk → Option R) → Option R := evFnL sm_6 FU (ovr (fun f' => bif Nat.beq f' 37 then some (g_6_37) else none) (evFn sm_6 fns FU 2)) .nil ir23
theorem body_6_37_0_0 {R : Type} (K0 : St → Option R) (K1 : Ex → St → Option R) (p0 : List (Int × Int × Bool × PUnit)) (p1 : Int) (p2 : Int) (p3 : Bool × Int × Int × PUnit) : evLB (evCodeL sm_6 FU (ovr noO (evFn sm_6 fns FU 1)) .nil ir37_b0) (St.norm ir37_v0) (T_6_37_0_0 p0 p1 p2 p3) K0 K1 =
  bif decide (p2 < p1) then gd (inB p2 (List.length p0)) (bif Prod.fst (Prod.snd (Prod.snd (List.getD p0 (Int.toNat p2) (Ty.dflt (Ty.pair (Ty.int IntKind.i64) (Ty.pair (Ty.int IntKind.i64) (Ty.pair Ty.bool Ty.unit))))))) then K1 Ex.ret (X_6_37_0_0_0 p2 p3) else K0 (T_6_37_0_0 p0 p1 (IntKind.wrap IntKind.i64 (p2 + (1 : Int))) p3)) else K1 (Ex.exit (0 : Nat)) (X_6_37_0_0_1 p3) := by kernel_rfl
theorem Bgd_6_37_0_0 {R : Type} {c : Bool} {x : Option R} {y : Option Sp.E_6_37_0_0} {k0 : (Int) → (Bool × Int × Int × PUnit) → Option R} {k1 : (Bool × Int × Int × PUnit) → Option R} (h : x = Sp.B_6_37_0_0 y k0 k1) : gd c x = Sp.B_6_37_0_0 (gd c y) k0 k1 := by cases c; rfl; exact h
theorem Bcond_6_37_0_0 {R : Type} {c : Bool} {x x' : Option R} {y y' : Option Sp.E_6_37_0_0} {k0 : (Int) → (Bool × Int × Int × PUnit) → Option R} {k1 : (Bool × Int × Int × PUnit) → Option R} (h : x = Sp.B_6_37_0_0 y k0 k1) (h' : x' = Sp.B_6_37_0_0 y' k0 k1) : (bif c then x else x') = Sp.B_6_37_0_0 (bif c then y else y') k0 k1 := by cases c; exact h'; exact h
theorem loop_6_37_0_0 {R : Type} (k : Ex → St → Option R) : ∀ (m : Nat) (p0 : List (Int × Int × Bool × PUnit)) (p1 : Int) (p2 : Int) (p3 : Bool × Int × Int × PUnit), evLoopN (evCodeL sm_6 FU (ovr noO (evFn sm_6 fns FU 1)) .nil ir37_b0) (St.norm ir37_v0) m (T_6_37_0_0 p0 p1 p2 p3) k = Sp.B_6_37_0_0 (Sp.L_6_37_0_0 m p0 p1 p2 p3) (fun p2 p3 => k Ex.ret (X_6_37_0_0_0 p2 p3)) (fun p3 => k (Ex.exit (0 : Nat)) (X_6_37_0_0_1 p3))
  | 0, _, _, _, _ => rfl
  | m + 1, p0, p1, p2, p3 => by
    rw [evLoopN_succ, body_6_37_0_0, Sp.L_6_37_0_0]
    repeat' first | apply Bgd_6_37_0_0 | apply Bcond_6_37_0_0 | exact loop_6_37_0_0 k m _ _ _ _ | rfl
theorem ok_6_37_0_0 {R : Type} (T : St) (k : Ex → St → Option R) (r : R) (h0 : o_6_37_0_0 G_6_37_0_0 T k = some r) : evLoopN (evCode sm_6 FU (evFn sm_6 fns FU 1) ir37_b0) (St.norm ir37_v0) FU T k = some r := by
  obtain ⟨p0, p1, p2, p3, rfl, h⟩ := o_6_37_0_0_inv h0
  refine evLoopN_L (t := .nil) noO_ok trivial _ _ _ _ ?_
  rw [loop_6_37_0_0]
  exact h
theorem OK_6_37_0 {R : Type} (T : St) (k : Ex → St → Option R) (r : R) (h : O_6_37_0 T k = some r) : evLoopN (evCode sm_6 FU (evFn sm_6 fns FU 1) ir37_b0) (St.norm ir37_v0) FU T k = some r := ok_6_37_0_0 T k r h
theorem g_6_37_ok {R : Type} (args : List CV) (hp : List Blk) (k : CV → List Blk → Option R) (r : R) (h : g_6_37 args hp k = some r) : evFn sm_6 fns FU 2 37 args hp k = some r :=
  evFnL_sound (fn := ir37) (t := (ir37_t O_6_37_0)) (o := noO) rfl noO_ok (ir37_tok (fun T k r => OK_6_37_0 T k r)) h
theorem ov_6_23_ok {R : Type} : OvrOK (R := R) (fun f' => bif Nat.beq f' 37 then some (g_6_37) else none) (evFn sm_6 fns FU 2) := by
  intro f' g h args hp k r hg
  dsimp only at h
  by_cases h37 : f' = 37
  · subst h37
    injection h with h
    subst h
    exact evFn_le 0 (g_6_37_ok _ _ _ _ hg)
  rw [nbeq_ne h37, cond_false] at h
  cases h
theorem g_6_23_ok {R : Type} (args : List CV) (hp : List Blk) (k : CV → List Blk → Option R) (r : R) (h : g_6_23 args hp k = some r) : evFn sm_6 fns FU 3 23 args hp k = some r :=
  evFnL_sound (fn := ir23) (t := .nil) (o := (fun f' => bif Nat.beq f' 37 then some (g_6_37) else none)) rfl ov_6_23_ok trivial h
theorem ov_6_6_ok {R : Type} : OvrOK (R := R) (fun f' => bif Nat.beq f' 23 then some (g_6_23) else none) (evFn sm_6 fns FU 3) := by
  intro f' g h args hp k r hg
  dsimp only at h
  by_cases h23 : f' = 23
  · subst h23
    injection h with h
    subst h
    exact evFn_le 0 (g_6_23_ok _ _ _ _ hg)
  rw [nbeq_ne h23, cond_false] at h
  cases h
def F_6 (a0 : (Bool × (Int × (Int × Unit)))) (a1 : (List (Int × (Int × (Bool × Unit))))) (a2 : Int) (a3 : Int) : Option (Bool) :=
  gd Sp.p_7 (bif !Prod.fst Sp.v_7 then some false else bif decide ((↑(List.length a1) : Int) > (100 : Int)) then some true else gd (Sp.p_16 a0 a1) (bif Prod.fst (Prod.snd (Sp.v_16 a0 a1)) != (0 : Int) then some ((↑(List.length (Prod.fst (Sp.v_16 a0 a1))) : Int) == (0 : Int)) else gd (Sp.p_17 a2 (Prod.fst (Sp.v_16 a0 a1)) a3) (bif Prod.fst (Prod.snd (Sp.v_17 a2 (Prod.fst (Sp.v_16 a0 a1)) a3)) != (0 : Int) then bif decide (a2 < (1 : Int)) then some true else some (decide (a2 > (16 : Int))) else bif !Prod.fst a0 then gd (Sp.p_22 (Prod.fst (Sp.v_17 a2 (Prod.fst (Sp.v_16 a0 a1)) a3)) true) (bif !Prod.fst (Sp.v_22 (Prod.fst (Sp.v_17 a2 (Prod.fst (Sp.v_16 a0 a1)) a3)) true) then Sp.B_6_37_0_0 (Sp.L_6_37_0_0 (4611686018427387904 : Nat) (Prod.fst (Sp.v_16 a0 a1)) (↑(List.length (Prod.fst (Sp.v_16 a0 a1))) : Int) (0 : Int) a0) (fun (y7 : Int) (y8 : Bool × Int × Int × PUnit) => some !decide (y7 ≥ (0 : Int))) fun (y9 : Bool × Int × Int × PUnit) => some true else some false) else gd (Sp.p_17 a2 a1 a3) (bif Prod.fst (Prod.snd (Sp.v_17 a2 a1 a3)) == (0 : Int) then gd (Sp.p_25 (Prod.fst (Sp.v_17 a2 (Prod.fst (Sp.v_16 a0 a1)) a3)) (Prod.fst (Sp.v_17 a2 a1 a3))) (bif Prod.fst (Sp.v_25 (Prod.fst (Sp.v_17 a2 (Prod.fst (Sp.v_16 a0 a1)) a3)) (Prod.fst (Sp.v_17 a2 a1 a3))) then gd (Sp.p_19 (Prod.fst (Sp.v_16 a0 a1)) a1) (some (Prod.fst (Sp.v_19 (Prod.fst (Sp.v_16 a0 a1)) a1))) else some false) else some false))))
theorem fn_6 (a0 : (Bool × (Int × (Int × Unit)))) (a1 : (List (Int × (Int × (Bool × Unit))))) (a2 : Int) (a3 : Int) : evFnL sm_6 FU (ovr (fun f' => bif Nat.beq f' 23 then some (g_6_23) else none) (evFn sm_6 fns FU 3)) .nil ir6 (ofH [(.pair .bool (.pair (.int .i64) (.pair (.int .i64) .unit))), (.slice (.pair (.int .i64) (.pair (.int .i64) (.pair .bool .unit)))), (.int .i64), (.int .i64)] (a0, a1, a2, a3, ())) [] bk = F_6 a0 a1 a2 a3 := by kernel_rfl
theorem run_6 (a0 : (Bool × (Int × (Int × Unit)))) (a1 : (List (Int × (Int × (Bool × Unit))))) (a2 : Int) (a3 : Int) {b : Bool} (h : F_6 a0 a1 a2 a3 = some b) : evFn sm_6 fns FU 4 6 (ofH [(.pair .bool (.pair (.int .i64) (.pair (.int .i64) .unit))), (.slice (.pair (.int .i64) (.pair (.int .i64) (.pair .bool .unit)))), (.int .i64), (.int .i64)] (a0, a1, a2, a3, ())) [] bk = some b :=
  evFnL_sound (fn := ir6) (t := .nil) (o := (fun f' => bif Nat.beq f' 23 then some (g_6_23) else none)) rfl ov_6_6_ok trivial ((fn_6 _ _ _ _).trans h)
end
end Go.Ev
namespace Go.Proofs
open Go.Shelf
def Try.clone34_ren : Go.Shelf.Ren := ⟨fun | 41 => 34 | n => n, fun | 22 => 40 | 23 => 49 | 4 => 4 | n => n, fun | n => n⟩
theorem Try.clone34 : Go.Proofs.SlLaysE0.n41 Try.prog Try.clone34_ren := {
  mixed := by kernel_rfl
  f41 := ⟨Try.f34.name, by decide, Try.func34.trans (congrArg some (by kernel_rfl))⟩
  t4 := Try.underlying4
  a4 := Try.isAgg4
  z4 := Try.sizeOf4
  v4 := Try.zeroValue4
  t22 := Try.underlying40
  a22 := Try.isAgg40
  z22 := Try.sizeOf40
  v22 := Try.zeroValue40 }
end Go.Proofs
namespace Go.Ev
open Go Go.Proofs Go.RowKit
set_option maxRecDepth 100000
set_option maxHeartbeats 4000000
def smB : Nat → Bool := fun f => [7, 8, 9, 10, 11, 12, 13, 14, 15, 16, 17, 18, 19, 20, 21, 22, 24, 25, 26, 27, 28, 29, 30, 31, 32, 34, 36].contains f
theorem hm0 : Try.prog.follows .mixedOrders = true := by kernel_rfl
theorem key5 : fnKey Try.prog smB 5 = ir5.key := by kernel_rfl
theorem key6 : fnKey Try.prog smB 6 = ir6.key := by kernel_rfl
theorem key7 : fnKey Try.prog smB 7 = ir7.key := by kernel_rfl
theorem key8 : fnKey Try.prog smB 8 = ir8.key := by kernel_rfl
theorem key9 : fnKey Try.prog smB 9 = ir9.key := by kernel_rfl
theorem key10 : fnKey Try.prog smB 10 = ir10.key := by kernel_rfl
theorem key11 : fnKey Try.prog smB 11 = ir11.key := by kernel_rfl
theorem key13 : fnKey Try.prog smB 13 = ir13.key := by kernel_rfl
theorem key14 : fnKey Try.prog smB 14 = ir14.key := by kernel_rfl
theorem key16 : fnKey Try.prog smB 16 = ir16.key := by kernel_rfl
theorem key17 : fnKey Try.prog smB 17 = ir17.key := by kernel_rfl
theorem key18 : fnKey Try.prog smB 18 = ir18.key := by kernel_rfl
theorem key19 : fnKey Try.prog smB 19 = ir19.key := by kernel_rfl
theorem key20 : fnKey Try.prog smB 20 = ir20.key := by kernel_rfl
theorem key21 : fnKey Try.prog smB 21 = ir21.key := by kernel_rfl
theorem key22 : fnKey Try.prog smB 22 = ir22.key := by kernel_rfl
theorem key23 : fnKey Try.prog smB 23 = ir23.key := by kernel_rfl
theorem key24 : fnKey Try.prog smB 24 = ir24.key := by kernel_rfl
theorem key25 : fnKey Try.prog smB 25 = ir25.key := by kernel_rfl
theorem key26 : fnKey Try.prog smB 26 = ir26.key := by kernel_rfl
theorem key27 : fnKey Try.prog smB 27 = ir27.key := by kernel_rfl
theorem key28 : fnKey Try.prog smB 28 = ir28.key := by kernel_rfl
theorem key29 : fnKey Try.prog smB 29 = ir29.key := by kernel_rfl
theorem key30 : fnKey Try.prog smB 30 = ir30.key := by kernel_rfl
theorem key32 : fnKey Try.prog smB 32 = ir32.key := by kernel_rfl
theorem key33 : fnKey Try.prog smB 33 = ir33.key := by kernel_rfl
theorem key35 : fnKey Try.prog smB 35 = ir35.key := by kernel_rfl
theorem key36 : fnKey Try.prog smB 36 = ir36.key := by kernel_rfl
theorem key37 : fnKey Try.prog smB 37 = ir37.key := by kernel_rfl
theorem fns_ok : FnsOK Try.prog smB fns := by
  intro f fn h
  unfold fns at h
  split at h
  · simp only [Option.some.injEq] at h; subst h; exact key5
  · simp only [Option.some.injEq] at h; subst h; exact key6
  · simp only [Option.some.injEq] at h; subst h; exact key7
  · simp only [Option.some.injEq] at h; subst h; exact key8
  · simp only [Option.some.injEq] at h; subst h; exact key9
  · simp only [Option.some.injEq] at h; subst h; exact key10
  · simp only [Option.some.injEq] at h; subst h; exact key11
  · simp only [Option.some.injEq] at h; subst h; exact key13
  · simp only [Option.some.injEq] at h; subst h; exact key14
  · simp only [Option.some.injEq] at h; subst h; exact key16
  · simp only [Option.some.injEq] at h; subst h; exact key17
  · simp only [Option.some.injEq] at h; subst h; exact key18
  · simp only [Option.some.injEq] at h; subst h; exact key19
  · simp only [Option.some.injEq] at h; subst h; exact key20
  · simp only [Option.some.injEq] at h; subst h; exact key21
  · simp only [Option.some.injEq] at h; subst h; exact key22
  · simp only [Option.some.injEq] at h; subst h; exact key23
  · simp only [Option.some.injEq] at h; subst h; exact key24
  · simp only [Option.some.injEq] at h; subst h; exact key25
  · simp only [Option.some.injEq] at h; subst h; exact key26
  · simp only [Option.some.injEq] at h; subst h; exact key27
  · simp only [Option.some.injEq] at h; subst h; exact key28
  · simp only [Option.some.injEq] at h; subst h; exact key29
  · simp only [Option.some.injEq] at h; subst h; exact key30
  · simp only [Option.some.injEq] at h; subst h; exact key32
  · simp only [Option.some.injEq] at h; subst h; exact key33
  · simp only [Option.some.injEq] at h; subst h; exact key35
  · simp only [Option.some.injEq] at h; subst h; exact key36
  · simp only [Option.some.injEq] at h; subst h; exact key37
  · cases h
theorem info34 : ∃ i, Try.prog.info? 49 = some i ∧ i.zero = some (.agg #[.int .i64 0, .int .i64 0, .bool false]) ∧ i.size = 3 ∧ i.bytes = 24 := ⟨_, rfl, by kernel_rfl, by kernel_rfl, by kernel_rfl⟩
theorem sok_34 : SummOK Try.prog 34 (vecS (.pair (.int .i64) (.pair (.int .i64) (.pair .bool .unit))) 49 24) := by
  obtain ⟨i, hi, h0, h1, h2⟩ := info34
  exact clone_vec (by kernel_rfl) (by decide)
    (fun b off n c news w hl hn hb hc h3 => AnyE.slices_Clone Try.clone34 i _ 3 24 hi h0 h1 h2 (by kernel_rfl) (by decide) Try.sizeOf49 b off n c news w hl hn hb hc h3)
    (fun n c w => AnyE.slices_Clone_nil Try.clone34 n c w)
    (fun a c w => clone_zero Try.clone34 i _ 3 24 hi h0 h1 h2 (by kernel_rfl) (by decide) Try.sizeOf49 a c w)
theorem smok_26 : ∀ f s, sm_26 f = some s → SummOK Try.prog f s := by
  intro f s h
  unfold sm_26 at h
  cases h
theorem call_26 {R : Type} (n base : Nat) : CallOK Try.prog base (evFn (R := R) sm_26 fns FU n) := ev_sound hm0 smok_26 (fun f s h => (smok_26 f s h).2.1) fns_ok n
theorem sok_26 : SummOK Try.prog 26 s_26 := summ_shN (by decide) (fun _ => rfl) (fun _ => rfl) (call_26 1) (by kernel_rfl) run_26
theorem smok_10 : ∀ f s, sm_10 f = some s → SummOK Try.prog f s := by
  intro f s h
  unfold sm_10 at h
  by_cases h26 : f = 26
  · subst h26
    injection h with h
    subst h
    exact sok_26
  rw [nbeq_ne h26, cond_false] at h
  cases h
theorem call_10 {R : Type} (n base : Nat) : CallOK Try.prog base (evFn (R := R) sm_10 fns FU n) := ev_sound hm0 smok_10 (fun f s h => (smok_10 f s h).2.1) fns_ok n
theorem sok_10 : SummOK Try.prog 10 s_10 := summ_shN (by decide) (fun _ => rfl) (fun _ => rfl) (call_10 1) (by kernel_rfl) run_10
theorem smok_28 : ∀ f s, sm_28 f = some s → SummOK Try.prog f s := by
  intro f s h
  unfold sm_28 at h
  cases h
theorem call_28 {R : Type} (n base : Nat) : CallOK Try.prog base (evFn (R := R) sm_28 fns FU n) := ev_sound hm0 smok_28 (fun f s h => (smok_28 f s h).2.1) fns_ok n
theorem sok_28 : SummOK Try.prog 28 s_28 := summ_shN (by decide) (fun _ => rfl) (fun _ => rfl) (call_28 1) (by kernel_rfl) run_28
theorem smok_13 : ∀ f s, sm_13 f = some s → SummOK Try.prog f s := by
  intro f s h
  unfold sm_13 at h
  by_cases h28 : f = 28
  · subst h28
    injection h with h
    subst h
    exact sok_28
  rw [nbeq_ne h28, cond_false] at h
  cases h
theorem call_13 {R : Type} (n base : Nat) : CallOK Try.prog base (evFn (R := R) sm_13 fns FU n) := ev_sound hm0 smok_13 (fun f s h => (smok_13 f s h).2.1) fns_ok n
theorem sok_13 : SummOK Try.prog 13 s_13 := summ_shN (by decide) (fun _ => rfl) (fun _ => rfl) (call_13 1) (by kernel_rfl) run_13
theorem smok_29 : ∀ f s, sm_29 f = some s → SummOK Try.prog f s := by
  intro f s h
  unfold sm_29 at h
  cases h
theorem call_29 {R : Type} (n base : Nat) : CallOK Try.prog base (evFn (R := R) sm_29 fns FU n) := ev_sound hm0 smok_29 (fun f s h => (smok_29 f s h).2.1) fns_ok n
theorem sok_29 : SummOK Try.prog 29 s_29 := summ_shN (by decide) (fun _ => rfl) (fun _ => rfl) (call_29 1) (by kernel_rfl) run_29
theorem smok_30 : ∀ f s, sm_30 f = some s → SummOK Try.prog f s := by
  intro f s h
  unfold sm_30 at h
  cases h
theorem call_30 {R : Type} (n base : Nat) : CallOK Try.prog base (evFn (R := R) sm_30 fns FU n) := ev_sound hm0 smok_30 (fun f s h => (smok_30 f s h).2.1) fns_ok n
theorem sok_30 : SummOK Try.prog 30 s_30 := summ_shN (by decide) (fun _ => rfl) (fun _ => rfl) (call_30 1) (by kernel_rfl) run_30
theorem smok_14 : ∀ f s, sm_14 f = some s → SummOK Try.prog f s := by
  intro f s h
  unfold sm_14 at h
  by_cases h29 : f = 29
  · subst h29
    injection h with h
    subst h
    exact sok_29
  rw [nbeq_ne h29, cond_false] at h
  by_cases h30 : f = 30
  · subst h30
    injection h with h
    subst h
    exact sok_30
  rw [nbeq_ne h30, cond_false] at h
  cases h
theorem call_14 {R : Type} (n base : Nat) : CallOK Try.prog base (evFn (R := R) sm_14 fns FU n) := ev_sound hm0 smok_14 (fun f s h => (smok_14 f s h).2.1) fns_ok n
theorem sok_14 : SummOK Try.prog 14 s_14 := summ_shN (by decide) (fun _ => rfl) (fun _ => rfl) (call_14 1) (by kernel_rfl) run_14
theorem smok_27 : ∀ f s, sm_27 f = some s → SummOK Try.prog f s := by
  intro f s h
  unfold sm_27 at h
  cases h
theorem call_27 {R : Type} (n base : Nat) : CallOK Try.prog base (evFn (R := R) sm_27 fns FU n) := ev_sound hm0 smok_27 (fun f s h => (smok_27 f s h).2.1) fns_ok n
theorem sok_27 : SummOK Try.prog 27 s_27 := summ_shN (by decide) (fun _ => rfl) (fun _ => rfl) (call_27 1) (by kernel_rfl) run_27
theorem smok_8 : ∀ f s, sm_8 f = some s → SummOK Try.prog f s := by
  intro f s h
  unfold sm_8 at h
  by_cases h10 : f = 10
  · subst h10
    injection h with h
    subst h
    exact sok_10
  rw [nbeq_ne h10, cond_false] at h
  by_cases h13 : f = 13
  · subst h13
    injection h with h
    subst h
    exact sok_13
  rw [nbeq_ne h13, cond_false] at h
  by_cases h14 : f = 14
  · subst h14
    injection h with h
    subst h
    exact sok_14
  rw [nbeq_ne h14, cond_false] at h
  by_cases h26 : f = 26
  · subst h26
    injection h with h
    subst h
    exact sok_26
  rw [nbeq_ne h26, cond_false] at h
  by_cases h27 : f = 27
  · subst h27
    injection h with h
    subst h
    exact sok_27
  rw [nbeq_ne h27, cond_false] at h
  cases h
theorem call_8 {R : Type} (n base : Nat) : CallOK Try.prog base (evFn (R := R) sm_8 fns FU n) := ev_sound hm0 smok_8 (fun f s h => (smok_8 f s h).2.1) fns_ok n
theorem sok_8 : SummOK Try.prog 8 s_8 := summ_shN (by decide) (fun _ => rfl) (fun _ => rfl) (call_8 1) (by kernel_rfl) run_8
theorem smok_9 : ∀ f s, sm_9 f = some s → SummOK Try.prog f s := by
  intro f s h
  unfold sm_9 at h
  cases h
theorem call_9 {R : Type} (n base : Nat) : CallOK Try.prog base (evFn (R := R) sm_9 fns FU n) := ev_sound hm0 smok_9 (fun f s h => (smok_9 f s h).2.1) fns_ok n
theorem sok_9 : SummOK Try.prog 9 s_9 := summ_shN (by decide) (fun _ => rfl) (fun _ => rfl) (call_9 1) (by kernel_rfl) run_9
theorem smok_7 : ∀ f s, sm_7 f = some s → SummOK Try.prog f s := by
  intro f s h
  unfold sm_7 at h
  by_cases h8 : f = 8
  · subst h8
    injection h with h
    subst h
    exact sok_8
  rw [nbeq_ne h8, cond_false] at h
  by_cases h9 : f = 9
  · subst h9
    injection h with h
    subst h
    exact sok_9
  rw [nbeq_ne h9, cond_false] at h
  cases h
theorem call_7 {R : Type} (n base : Nat) : CallOK Try.prog base (evFn (R := R) sm_7 fns FU n) := ev_sound hm0 smok_7 (fun f s h => (smok_7 f s h).2.1) fns_ok n
theorem sok_7 : SummOK Try.prog 7 s_7 := summ_shN (by decide) (fun _ => rfl) (fun _ => rfl) (call_7 1) (by kernel_rfl) run_7
theorem smok_32 : ∀ f s, sm_32 f = some s → SummOK Try.prog f s := by
  intro f s h
  unfold sm_32 at h
  by_cases h26 : f = 26
  · subst h26
    injection h with h
    subst h
    exact sok_26
  rw [nbeq_ne h26, cond_false] at h
  cases h
theorem call_32 {R : Type} (n base : Nat) : CallOK Try.prog base (evFn (R := R) sm_32 fns FU n) := ev_sound hm0 smok_32 (fun f s h => (smok_32 f s h).2.1) fns_ok n
theorem sok_32 : SummOK Try.prog 32 s_32 := summ_shN (by decide) (fun _ => rfl) (fun _ => rfl) (call_32 1) (by kernel_rfl) run_32
theorem smok_16 : ∀ f s, sm_16 f = some s → SummOK Try.prog f s := by
  intro f s h
  unfold sm_16 at h
  by_cases h10 : f = 10
  · subst h10
    injection h with h
    subst h
    exact sok_10
  rw [nbeq_ne h10, cond_false] at h
  by_cases h32 : f = 32
  · subst h32
    injection h with h
    subst h
    exact sok_32
  rw [nbeq_ne h32, cond_false] at h
  by_cases h34 : f = 34
  · subst h34
    injection h with h
    subst h
    exact sok_34
  rw [nbeq_ne h34, cond_false] at h
  cases h
theorem call_16 {R : Type} (n base : Nat) : CallOK Try.prog base (evFn (R := R) sm_16 fns FU n) := ev_sound hm0 smok_16 (fun f s h => (smok_16 f s h).2.1) fns_ok n
theorem sok_16 : SummOK Try.prog 16 s_16 := summ_sh (fun _ => rfl) (fun _ => rfl) (call_16 4) (by kernel_rfl) run_16
theorem smok_17 : ∀ f s, sm_17 f = some s → SummOK Try.prog f s := by
  intro f s h
  unfold sm_17 at h
  by_cases h32 : f = 32
  · subst h32
    injection h with h
    subst h
    exact sok_32
  rw [nbeq_ne h32, cond_false] at h
  cases h
theorem call_17 {R : Type} (n base : Nat) : CallOK Try.prog base (evFn (R := R) sm_17 fns FU n) := ev_sound hm0 smok_17 (fun f s h => (smok_17 f s h).2.1) fns_ok n
theorem sok_17 : SummOK Try.prog 17 s_17 := summ_sh (fun _ => rfl) (fun _ => rfl) (call_17 1) (by kernel_rfl) run_17
theorem smok_19 : ∀ f s, sm_19 f = some s → SummOK Try.prog f s := by
  intro f s h
  unfold sm_19 at h
  cases h
theorem call_19 {R : Type} (n base : Nat) : CallOK Try.prog base (evFn (R := R) sm_19 fns FU n) := ev_sound hm0 smok_19 (fun f s h => (smok_19 f s h).2.1) fns_ok n
theorem sok_19 : SummOK Try.prog 19 s_19 := summ_shN (by decide) (fun _ => rfl) (fun _ => rfl) (call_19 1) (by kernel_rfl) run_19
theorem smok_36 : ∀ f s, sm_36 f = some s → SummOK Try.prog f s := by
  intro f s h
  unfold sm_36 at h
  cases h
theorem call_36 {R : Type} (n base : Nat) : CallOK Try.prog base (evFn (R := R) sm_36 fns FU n) := ev_sound hm0 smok_36 (fun f s h => (smok_36 f s h).2.1) fns_ok n
theorem sok_36 : SummOK Try.prog 36 s_36 := summ_shN (by decide) (fun _ => rfl) (fun _ => rfl) (call_36 1) (by kernel_rfl) run_36
theorem smok_22 : ∀ f s, sm_22 f = some s → SummOK Try.prog f s := by
  intro f s h
  unfold sm_22 at h
  by_cases h36 : f = 36
  · subst h36
    injection h with h
    subst h
    exact sok_36
  rw [nbeq_ne h36, cond_false] at h
  cases h
theorem call_22 {R : Type} (n base : Nat) : CallOK Try.prog base (evFn (R := R) sm_22 fns FU n) := ev_sound hm0 smok_22 (fun f s h => (smok_22 f s h).2.1) fns_ok n
theorem sok_22 : SummOK Try.prog 22 s_22 := summ_shN (by decide) (fun _ => rfl) (fun _ => rfl) (call_22 1) (by kernel_rfl) run_22
theorem smok_25 : ∀ f s, sm_25 f = some s → SummOK Try.prog f s := by
  intro f s h
  unfold sm_25 at h
  cases h
theorem call_25 {R : Type} (n base : Nat) : CallOK Try.prog base (evFn (R := R) sm_25 fns FU n) := ev_sound hm0 smok_25 (fun f s h => (smok_25 f s h).2.1) fns_ok n
theorem sok_25 : SummOK Try.prog 25 s_25 := summ_shN (by decide) (fun _ => rfl) (fun _ => rfl) (call_25 1) (by kernel_rfl) run_25
theorem smok_6 : ∀ f s, sm_6 f = some s → SummOK Try.prog f s := by
  intro f s h
  unfold sm_6 at h
  by_cases h7 : f = 7
  · subst h7
    injection h with h
    subst h
    exact sok_7
  rw [nbeq_ne h7, cond_false] at h
  by_cases h16 : f = 16
  · subst h16
    injection h with h
    subst h
    exact sok_16
  rw [nbeq_ne h16, cond_false] at h
  by_cases h17 : f = 17
  · subst h17
    injection h with h
    subst h
    exact sok_17
  rw [nbeq_ne h17, cond_false] at h
  by_cases h19 : f = 19
  · subst h19
    injection h with h
    subst h
    exact sok_19
  rw [nbeq_ne h19, cond_false] at h
  by_cases h22 : f = 22
  · subst h22
    injection h with h
    subst h
    exact sok_22
  rw [nbeq_ne h22, cond_false] at h
  by_cases h25 : f = 25
  · subst h25
    injection h with h
    subst h
    exact sok_25
  rw [nbeq_ne h25, cond_false] at h
  cases h
theorem call_6 {R : Type} (n base : Nat) : CallOK Try.prog base (evFn (R := R) sm_6 fns FU n) := ev_sound hm0 smok_6 (fun f s h => (smok_6 f s h).2.1) fns_ok n
end Go.Ev
