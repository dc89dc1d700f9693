/- Helpers: functions of the program as Lean functions, and what they compute. No condition. -/
import Derived.Test.YtajplaebcbojgaaE4P2
import Derived.Test.YtajplaebcbojgaaProg
set_option maxRecDepth 10000
set_option linter.unusedVariables false
set_option linter.unusedSimpArgs false
namespace Go.Ev
open Go
def jl (n : Nat) : List CV := List.replicate n .junk
abbrev op0 (d : Nat) (op : IOp) (args : List Opd) : IOper := ⟨some d, op, args, none, 0, []⟩
def ir4_b0 : IC := (.seq (.region false 2 [ op0 55 .mov [.tmp 1], op0 56 (.callS 7) [.tmp 55], op0 54 .mov [.tmp 56], op0 57 (.extract 0) [.tmp 54], op0 58 (.extract 1) [.tmp 54], ⟨some 10, .alloc 24 (.pair (.int .i64 0) (.pair (.int .i64 0) (.pair (.int .i64 0) (.pair (.int .i64 0) (.pair (.int .i64 0) (.pair (.nil 3 (.int .i64)) (.pure (.pair (.int .i64) .unit) (0, ())))))))), [], none, 0, []⟩, ⟨none, .store 7, [.tmp 10, .tmp 57], none, 0, []⟩, op0 11 .mov [.tmp 58]]) (.seq (.seq (.region false 0 [ op0 59 .mov [.tmp 11], op0 60 (.bin .neq) [.tmp 59, .cst (.int .i64 0)]]) (.cond (.tmp 60) (.seq (.region false 0 [ op0 61 .mov [.tmp 11], op0 62 (.bin .eql) [.tmp 61, .cst (.int .i64 3)], op0 4 .mov [.tmp 62]]) (.cut [4] (.ret))) (.skip))) (.seq (.region false 1 [ op0 64 (.load true 7) [.tmp 10], op0 65 (.callS 6) [.tmp 64], op0 63 .mov [.tmp 65], op0 66 (.extract 0) [.tmp 63], op0 67 (.extract 1) [.tmp 63], op0 12 .mov [.tmp 66], op0 13 .mov [.tmp 67]]) (.seq (.region false 1 [ op0 68 .mov [.tmp 13], op0 69 (.bin .eql) [.tmp 68, .cst (.int .i64 0)], op0 70 .mov [.tmp 69], ⟨some 71, .mov, [.tmp 12], some (70, true), 0, []⟩, ⟨some 72, .mov, [.tmp 1], some (70, true), 0, []⟩, ⟨some 73, .callS 9, [.tmp 71, .tmp 72], some (70, true), 0, []⟩, op0 74 .pick [.tmp 70, .tmp 73, .cst (.bool false)], op0 4 .mov [.tmp 74]]) (.cut [4] (.ret))))))
def ir4_v0 : List Nat := [1]
def ir4_t {R : Type} (o0 : St → (Ex → St → Option R) → Option R) : LT R := (.node .nil (.node .nil (.node .nil (.orc o0))))
def ir4 : IFn := { ntmps := 75, results := [.inl 4], body := (.seq (.region false 1 [ op0 2 (.box 24) [.tmp 0], op0 4 .mov [.cst (.bool false)]]) (.seq (.seq (.region false 1 [ op0 14 (.callS 5) [], op0 15 .not [.tmp 14], op0 16 .mov [.tmp 15], ⟨some 17, .fieldAddr 5 5, [.tmp 2], some (16, false), 0, []⟩, ⟨some 18, .load false 1, [.tmp 17], some (16, false), 0, []⟩, ⟨some 19, .len, [.tmp 18], some (16, false), 0, []⟩, ⟨some 20, .bin .gtr, [.tmp 19, .cst (.int .i64 100)], some (16, false), 0, []⟩, op0 21 .pick [.tmp 16, .cst (.bool true), .tmp 20], op0 22 .mov [.tmp 21], ⟨some 23, .mov, [.tmp 1], some (22, false), 0, []⟩, ⟨some 24, .len, [.tmp 23], some (22, false), 0, []⟩, ⟨some 25, .bin .gtr, [.tmp 24, .cst (.int .i64 100)], some (22, false), 0, []⟩, op0 26 .pick [.tmp 22, .cst (.bool true), .tmp 25]]) (.cond (.tmp 26) (.seq (.region false 1 [ op0 27 (.callS 5) [], op0 4 .mov [.tmp 27]]) (.cut [4] (.ret))) (.skip))) (.seq (.seq (.region false 1 [ op0 29 (.load true 7) [.tmp 2], op0 30 (.callS 6) [.tmp 29], op0 28 .mov [.tmp 30], op0 31 (.extract 0) [.tmp 28], op0 32 (.extract 1) [.tmp 28], op0 5 .mov [.tmp 31], op0 6 .mov [.tmp 32]]) (.seq (.region false 0 [ op0 33 .mov [.tmp 6], op0 34 (.bin .eql) [.tmp 33, .cst (.int .i64 0)]]) (.cond (.tmp 34) (.seq (.region false 2 [ op0 36 .mov [.tmp 5], op0 37 (.callS 7) [.tmp 36], op0 35 .mov [.tmp 37], op0 38 (.extract 0) [.tmp 35], op0 39 (.extract 1) [.tmp 35], ⟨some 7, .alloc 24 (.pair (.int .i64 0) (.pair (.int .i64 0) (.pair (.int .i64 0) (.pair (.int .i64 0) (.pair (.int .i64 0) (.pair (.nil 3 (.int .i64)) (.pure (.pair (.int .i64) .unit) (0, ())))))))), [], none, 0, []⟩, ⟨none, .store 7, [.tmp 7, .tmp 38], none, 0, []⟩, op0 8 .mov [.tmp 39]]) (.seq (.region false 1 [ op0 40 (.load true 7) [.tmp 2], ⟨some 9, .alloc 24 (.pair (.int .i64 0) (.pair (.int .i64 0) (.pair (.int .i64 0) (.pair (.int .i64 0) (.pair (.int .i64 0) (.pair (.nil 3 (.int .i64)) (.pure (.pair (.int .i64) .unit) (0, ())))))))), [], none, 0, []⟩, ⟨none, .store 7, [.tmp 9, .tmp 40], none, 0, []⟩]) (.seq (.region true 0 [ op0 41 (.fieldAddr 0 0) [.tmp 2], ⟨some 42, .load false 1, [.tmp 41], none, 0, [0]⟩, ⟨some 43, .bin .and, [.tmp 42, .cst (.int .i64 22)], none, 0, [1, 0]⟩, op0 44 (.fieldAddr 1 1) [.tmp 9], ⟨none, .store 1, [.tmp 44, .cst (.int .i64 0)], none, 0, [3]⟩, ⟨some 45, .fieldAddr 0 0, [.tmp 9], none, 0, [0, 1, 2, 3, 4]⟩, ⟨none, .store 1, [.tmp 45, .tmp 43], none, 0, [5, 0, 1, 2, 3, 4]⟩]) (.seq (.region false 1 [ op0 46 .mov [.tmp 8], op0 47 (.bin .neq) [.tmp 46, .cst (.int .i64 0)], op0 48 .mov [.tmp 47], ⟨some 49, .load true 7, [.tmp 7], some (48, false), 0, []⟩, ⟨some 50, .load true 7, [.tmp 9], some (48, false), 0, []⟩, ⟨some 51, .callS 12, [.tmp 49, .tmp 50], some (48, false), 0, []⟩, ⟨some 52, .not, [.tmp 51], some (48, false), 0, []⟩, op0 53 .pick [.tmp 48, .cst (.bool true), .tmp 52]]) (.cond (.tmp 53) (.seq (.region false 0 [ op0 4 .mov [.cst (.bool false)]]) (.cut [4] (.ret))) (.skip)))))) (.skip)))) (.cut ir4_v0 ir4_b0)))) }
theorem ir4_tok {R : Type} {summ : Nat → Option Summ} {fu : Nat} {call : Nat → List CV → List Blk → (CV → List Blk → Option R) → Option R} {o0 : St → (Ex → St → Option R) → Option R} (h0 : ∀ T k r, o0 T k = some r → evCode summ fu call ir4_b0 T k = some r) : LTok summ fu call (ir4_t o0) ir4.body := ⟨trivial, ⟨trivial, ⟨trivial, h0⟩⟩⟩


def ir5 : IFn := { ntmps := 16, results := [.inl 0], body := (.seq (.region false 0 [ op0 0 .mov [.cst (.bool false)]]) (.seq (.region false 2 [ ⟨some 4, .buildSl 3 (.int .i64) 1, [.cst (.int .i64 5)], none, 0, []⟩, ⟨some 5, .build [((.int .i64 0), 1), ((.int .i64 0), 1), ((.int .i64 0), 1), ((.int .i64 0), 1), ((.int .i64 0), 1), ((.nil 3 (.int .i64)), 1), ((.int .i64 0), 1)] [0, 2, 4, 5, 6], [.cst (.int .i64 6), .cst (.int .i64 2), .cst (.int .i64 3), .tmp 4, .cst (.int .i64 9)], none, 0, []⟩, op0 6 (.callS 6) [.tmp 5], op0 3 .mov [.tmp 6], op0 7 (.extract 0) [.tmp 3], op0 8 (.extract 1) [.tmp 3], op0 1 .mov [.tmp 7], op0 2 .mov [.tmp 8]]) (.seq (.region false 2 [ op0 9 .mov [.tmp 2], op0 10 (.bin .eql) [.tmp 9, .cst (.int .i64 0)], op0 11 .mov [.tmp 10], ⟨some 12, .mov, [.tmp 1], some (11, true), 0, []⟩, ⟨some 13, .buildSl 34 (.int .u32) 5, [.cst (.int .u32 50332166), .cst (.int .u32 9), .cst (.int .u32 1), .cst (.int .u32 256), .cst (.int .u32 5)], some (11, true), 0, []⟩, ⟨some 14, .callS 9, [.tmp 12, .tmp 13], some (11, true), 0, []⟩, op0 15 .pick [.tmp 11, .tmp 14, .cst (.bool false)], op0 0 .mov [.tmp 15]]) (.cut [0] (.ret))))) }


def ir6_b0 : IC := (.seq (.region false 0 [ op0 79 (.bin .lss) [.tmp 78, .tmp 77]]) (.seq (.cond (.tmp 79) (.skip) (.cut [4] (.exit 0))) (.seq (.block 1 (.seq (.region false 0 [ op0 80 (.idxSl 1) [.tmp 76, .tmp 78], op0 81 (.load false 1) [.tmp 80], op0 7 .mov [.tmp 81]]) (.seq (.region false 0 [ op0 82 .mov [.tmp 7], op0 83 (.bin .add) [.tmp 82, .cst (.int .i64 1099511627776)], op0 8 .mov [.tmp 83]]) (.seq (.region false 0 [ op0 84 .mov [.tmp 5], op0 85 .mov [.tmp 8], op0 86 (.bin .shr) [.tmp 85, .cst (.int .u64 32)], op0 87 .callv [.tmp 84, .tmp 86]]) (.region false 0 [ op0 88 .mov [.tmp 5], op0 89 .mov [.tmp 8], op0 90 (.bin .and) [.tmp 89, .cst (.int .i64 4294967295)], op0 91 .callv [.tmp 88, .tmp 90]]))))) (.region false 0 [ op0 92 (.bin .add) [.tmp 78, .cst (.int .i64 1)], op0 78 .mov [.tmp 92]]))))
def ir6_v0 : List Nat := [4, 5, 76, 77, 78]
def ir6_t {R : Type} (o0 : St → (Ex → St → Option R) → Option R) : LT R := (.node .nil (.node .nil (.node .nil (.node .nil (.node .nil (.node .nil (.node .nil (.node (.node .nil (.node (.orc o0) .nil)) .nil))))))))
def ir6 : IFn := { ntmps := 94, results := [.inl 2, .inl 3], body := (.seq (.region false 1 [ op0 1 (.box 24) [.tmp 0], op0 2 .mov [.cst (.nil 34 (.int .u32))], op0 3 .mov [.cst (.int .i64 0)]]) (.seq (.seq (.region false 5 [ op0 9 (.fieldAddr 0 0) [.tmp 1], op0 10 (.load false 1) [.tmp 9], op0 11 (.callS 13) [.tmp 10, .cst (.int .i64 31)], op0 12 .not [.tmp 11], op0 13 .mov [.tmp 12], ⟨some 14, .fieldAddr 2 2, [.tmp 1], some (13, false), 0, []⟩, ⟨some 15, .load false 1, [.tmp 14], some (13, false), 0, []⟩, ⟨some 16, .callS 13, [.tmp 15, .cst (.int .i64 2)], some (13, false), 0, []⟩, ⟨some 17, .not, [.tmp 16], some (13, false), 0, []⟩, op0 18 .pick [.tmp 13, .cst (.bool true), .tmp 17], op0 19 .mov [.tmp 18], ⟨some 20, .fieldAddr 3 3, [.tmp 1], some (19, false), 0, []⟩, ⟨some 21, .load false 1, [.tmp 20], some (19, false), 0, []⟩, ⟨some 22, .callS 13, [.tmp 21, .cst (.int .i64 254)], some (19, false), 0, []⟩, ⟨some 23, .not, [.tmp 22], some (19, false), 0, []⟩, op0 24 .pick [.tmp 19, .cst (.bool true), .tmp 23], op0 25 .mov [.tmp 24], ⟨some 26, .fieldAddr 4 4, [.tmp 1], some (25, false), 0, []⟩, ⟨some 27, .load false 1, [.tmp 26], some (25, false), 0, []⟩, ⟨some 28, .callS 13, [.tmp 27, .cst (.int .i64 255)], some (25, false), 0, []⟩, ⟨some 29, .not, [.tmp 28], some (25, false), 0, []⟩, op0 30 .pick [.tmp 25, .cst (.bool true), .tmp 29], op0 31 .mov [.tmp 30], ⟨some 32, .fieldAddr 6 6, [.tmp 1], some (31, false), 0, []⟩, ⟨some 33, .load false 1, [.tmp 32], some (31, false), 0, []⟩, ⟨some 34, .callS 13, [.tmp 33, .cst (.int .i64 1073741824)], some (31, false), 0, []⟩, ⟨some 35, .not, [.tmp 34], some (31, false), 0, []⟩, op0 36 .pick [.tmp 31, .cst (.bool true), .tmp 35], op0 37 .mov [.tmp 36], ⟨some 38, .fieldAddr 5 5, [.tmp 1], some (37, false), 0, []⟩, ⟨some 39, .load false 1, [.tmp 38], some (37, false), 0, []⟩, ⟨some 40, .len, [.tmp 39], some (37, false), 0, []⟩, ⟨some 41, .bin .gtr, [.tmp 40, .cst (.int .i64 8)], some (37, false), 0, []⟩, op0 42 .pick [.tmp 37, .cst (.bool true), .tmp 41], op0 43 .mov [.tmp 42], ⟨some 44, .fieldAddr 5 5, [.tmp 1], some (43, false), 0, []⟩, ⟨some 45, .load false 1, [.tmp 44], some (43, false), 0, []⟩, ⟨some 46, .call 14, [.tmp 45, .cst (.clo 15 (.pure .unit ()))], some (43, false), 0, []⟩, op0 47 .pick [.tmp 43, .cst (.bool true), .tmp 46]]) (.cond (.tmp 47) (.seq (.region false 0 [ op0 2 .mov [.cst (.nil 34 (.int .u32))], op0 3 .mov [.cst (.int .i64 1)]]) (.cut [2, 3] (.ret))) (.skip))) (.seq (.region false 1 [ ⟨some 4, .alloc 25 (.nil 34 (.int .u32)), [], none, 0, []⟩]) (.seq (.region false 0 [ op0 48 (.mkFunc 17) [.tmp 4], op0 5 .mov [.tmp 48]]) (.seq (.region false 0 [ op0 49 .mov [.tmp 5], op0 50 (.fieldAddr 0 0) [.tmp 1], op0 51 (.load false 1) [.tmp 50], op0 52 (.bin .and) [.tmp 51, .cst (.int .i64 22)], op0 53 (.fieldAddr 2 2) [.tmp 1], op0 54 (.load false 1) [.tmp 53], op0 55 (.bin .shl) [.tmp 54, .cst (.int .u64 8)], op0 56 (.bin .or) [.tmp 52, .tmp 55], op0 57 (.fieldAddr 3 3) [.tmp 1], op0 58 (.load false 1) [.tmp 57], op0 59 (.bin .shl) [.tmp 58, .cst (.int .u64 16)], op0 60 (.bin .or) [.tmp 56, .tmp 59], op0 61 (.fieldAddr 4 4) [.tmp 1], op0 62 (.load false 1) [.tmp 61], op0 63 (.bin .shl) [.tmp 62, .cst (.int .u64 24)], op0 64 (.bin .or) [.tmp 60, .tmp 63], op0 65 .callv [.tmp 49, .tmp 64]]) (.seq (.region false 0 [ op0 66 .mov [.tmp 5], op0 67 (.fieldAddr 6 6) [.tmp 1], op0 68 (.load false 1) [.tmp 67], op0 69 .callv [.tmp 66, .tmp 68]]) (.seq (.region false 0 [ op0 70 .mov [.tmp 5], op0 71 (.fieldAddr 5 5) [.tmp 1], op0 72 (.load false 1) [.tmp 71], op0 73 .len [.tmp 72], op0 74 .callv [.tmp 70, .tmp 73]]) (.seq (.seq (.region false 0 [ op0 75 (.fieldAddr 5 5) [.tmp 1], op0 76 (.load false 1) [.tmp 75], op0 77 .len [.tmp 76], op0 78 .mov [.cst (.int .i64 0)]]) (.block 0 (.loop ir6_v0 ir6_b0))) (.seq (.region false 0 [ op0 93 (.load false 1) [.tmp 4], op0 2 .mov [.tmp 93], op0 3 .mov [.cst (.int .i64 0)]]) (.cut [2, 3] (.ret))))))))))) }
theorem ir6_tok {R : Type} {summ : Nat → Option Summ} {fu : Nat} {call : Nat → List CV → List Blk → (CV → List Blk → Option R) → Option R} {o0 : St → (Ex → St → Option R) → Option R} (h0 : ∀ T k r, o0 T k = some r → evLoopN (evCode summ fu call ir6_b0) (St.norm ir6_v0) fu T k = some r) : LTok summ fu call (ir6_t o0) ir6.body := ⟨trivial, ⟨trivial, ⟨trivial, ⟨trivial, ⟨trivial, ⟨trivial, ⟨trivial, ⟨⟨trivial, h0⟩, trivial⟩⟩⟩⟩⟩⟩⟩⟩


def ir7_b0 : IC := (.seq (.seq (.region false 0 [ op0 60 .mov [.tmp 6], op0 61 .mov [.tmp 0], op0 62 .len [.tmp 61], op0 63 (.bin .lss) [.tmp 60, .tmp 62]]) (.cond (.tmp 63) (.skip) (.cut [2, 5] (.exit 0)))) (.seq (.block 1 (.seq (.seq (.region false 0 [ op0 66 .mov [.tmp 0], op0 67 .mov [.tmp 6], op0 68 (.idxSl 1) [.tmp 66, .tmp 67], op0 69 (.load false 1) [.tmp 68], op0 70 (.bin .gtr) [.tmp 69, .cst (.int .u32 512)]]) (.cond (.tmp 70) (.seq (.region false 0 [ ⟨some 71, .build [((.int .i64 0), 1), ((.int .i64 0), 1), ((.int .i64 0), 1), ((.int .i64 0), 1), ((.int .i64 0), 1), ((.nil 3 (.int .i64)), 1), ((.int .i64 0), 1)] [], [], none, 0, []⟩, ⟨none, .store 7, [.tmp 2, .tmp 71], none, 0, []⟩, op0 3 .mov [.cst (.int .i64 3)]]) (.cut [2, 3] (.ret))) (.skip))) (.region true 2 [ op0 72 (.fieldAddr 5 5) [.tmp 5], ⟨some 73, .load false 1, [.tmp 72], none, 0, [0]⟩, op0 74 .mov [.tmp 0], op0 75 .mov [.tmp 6], ⟨some 76, .idxSl 1, [.tmp 74, .tmp 75], none, 0, [2, 3]⟩, ⟨some 77, .load false 1, [.tmp 76], none, 0, [4, 2, 3]⟩, ⟨some 78, .conv .i64, [.tmp 77], none, 0, [5, 4, 2, 3]⟩, ⟨some 79, .bin .shl, [.tmp 78, .cst (.int .u64 32)], none, 0, [6, 5, 4, 2, 3]⟩, op0 80 .mov [.tmp 0], op0 81 .mov [.tmp 6], ⟨some 82, .bin .add, [.tmp 81, .cst (.int .i64 1)], none, 0, [9]⟩, ⟨some 83, .idxSl 1, [.tmp 80, .tmp 82], none, 0, [8, 10, 9]⟩, ⟨some 84, .load false 1, [.tmp 83], none, 0, [11, 8, 10, 9]⟩, ⟨some 85, .conv .i64, [.tmp 84], none, 0, [12, 11, 8, 10, 9]⟩, ⟨some 86, .bin .add, [.tmp 79, .tmp 85], none, 0, [7, 6, 5, 4, 2, 3, 13, 12, 11, 8, 10, 9]⟩, ⟨some 87, .bin .sub, [.tmp 86, .cst (.int .i64 1099511627776)], none, 0, [14, 7, 6, 5, 4, 2, 3, 13, 12, 11, 8, 10, 9]⟩, ⟨some 88, .buildSl 3 (.int .i64) 1, [.tmp 87], none, 0, [15, 14, 7, 6, 5, 4, 2, 3, 13, 12, 11, 8, 10, 9]⟩, ⟨some 89, .append 3 (.int .i64) 8, [.tmp 73, .tmp 88], none, 1, [1, 0, 16, 15, 14, 7, 6, 5, 4, 2, 3, 13, 12, 11, 8, 10, 9]⟩, ⟨some 90, .fieldAddr 5 5, [.tmp 5], none, 2, [0, 1, 2, 3, 4, 5, 6, 7, 8, 9, 10, 11, 12, 13, 14, 15, 16, 17]⟩, ⟨none, .store 1, [.tmp 90, .tmp 89], none, 2, [18, 0, 1, 2, 3, 4, 5, 6, 7, 8, 9, 10, 11, 12, 13, 14, 15, 16, 17]⟩]))) (.region false 0 [ op0 64 .mov [.tmp 6], op0 65 (.bin .add) [.tmp 64, .cst (.int .i64 2)], op0 6 .mov [.tmp 65]])))
def ir7_v0 : List Nat := [0, 2, 5, 6]
def ir7_t {R : Type} (o0 : St → (Ex → St → Option R) → Option R) : LT R := (.node .nil (.node .nil (.node .nil (.node .nil (.node .nil (.node (.node .nil (.node (.orc o0) .nil)) .nil))))))
def ir7 : IFn := { ntmps := 100, results := [.inr (2, true, 7), .inl 3], body := (.seq (.region false 1 [ ⟨some 2, .alloc 24 (.pair (.int .i64 0) (.pair (.int .i64 0) (.pair (.int .i64 0) (.pair (.int .i64 0) (.pair (.int .i64 0) (.pair (.nil 3 (.int .i64)) (.pure (.pair (.int .i64) .unit) (0, ())))))))), [], none, 0, []⟩, op0 3 .mov [.cst (.int .i64 0)]]) (.seq (.seq (.region false 0 [ op0 9 .mov [.tmp 0], op0 10 .len [.tmp 9], op0 11 (.bin .lss) [.tmp 10, .cst (.int .i64 3)], op0 12 .mov [.tmp 11], ⟨some 13, .mov, [.tmp 0], some (12, false), 0, []⟩, ⟨some 14, .idxSl 1, [.tmp 13, .cst (.int .i64 2)], some (12, false), 0, []⟩, ⟨some 15, .load false 1, [.tmp 14], some (12, false), 0, []⟩, ⟨some 16, .bin .gtr, [.tmp 15, .cst (.int .u32 8)], some (12, false), 0, []⟩, op0 17 .pick [.tmp 12, .cst (.bool true), .tmp 16], op0 18 .mov [.tmp 17], ⟨some 19, .mov, [.tmp 0], some (18, false), 0, []⟩, ⟨some 20, .len, [.tmp 19], some (18, false), 0, []⟩, ⟨some 21, .mov, [.tmp 0], some (18, false), 0, []⟩, ⟨some 22, .idxSl 1, [.tmp 21, .cst (.int .i64 2)], some (18, false), 0, []⟩, ⟨some 23, .load false 1, [.tmp 22], some (18, false), 0, []⟩, ⟨some 24, .conv .i64, [.tmp 23], some (18, false), 0, []⟩, ⟨some 25, .bin .mul, [.cst (.int .i64 2), .tmp 24], some (18, false), 0, []⟩, ⟨some 26, .bin .add, [.cst (.int .i64 3), .tmp 25], some (18, false), 0, []⟩, ⟨some 27, .bin .neq, [.tmp 20, .tmp 26], some (18, false), 0, []⟩, op0 28 .pick [.tmp 18, .cst (.bool true), .tmp 27], op0 29 .mov [.tmp 28], ⟨some 30, .mov, [.tmp 0], some (29, false), 0, []⟩, ⟨some 31, .idxSl 1, [.tmp 30, .cst (.int .i64 1)], some (29, false), 0, []⟩, ⟨some 32, .load false 1, [.tmp 31], some (29, false), 0, []⟩, ⟨some 33, .bin .gtr, [.tmp 32, .cst (.int .u32 1073741824)], some (29, false), 0, []⟩, op0 34 .pick [.tmp 29, .cst (.bool true), .tmp 33]]) (.cond (.tmp 34) (.seq (.region false 0 [ ⟨some 35, .build [((.int .i64 0), 1), ((.int .i64 0), 1), ((.int .i64 0), 1), ((.int .i64 0), 1), ((.int .i64 0), 1), ((.nil 3 (.int .i64)), 1), ((.int .i64 0), 1)] [], [], none, 0, []⟩, ⟨none, .store 7, [.tmp 2, .tmp 35], none, 0, []⟩, op0 3 .mov [.cst (.int .i64 3)]]) (.cut [2, 3] (.ret))) (.skip))) (.seq (.region false 0 [ op0 36 .mov [.tmp 0], op0 37 (.idxSl 1) [.tmp 36, .cst (.int .i64 0)], op0 38 (.load false 1) [.tmp 37], op0 39 (.conv .i64) [.tmp 38], op0 4 .mov [.tmp 39]]) (.seq (.region false 1 [ op0 40 .mov [.tmp 4], op0 41 (.bin .and) [.tmp 40, .cst (.int .i64 255)], op0 42 .mov [.tmp 4], op0 43 (.bin .shr) [.tmp 42, .cst (.int .u64 8)], op0 44 (.bin .and) [.tmp 43, .cst (.int .i64 255)], op0 45 .mov [.tmp 4], op0 46 (.bin .shr) [.tmp 45, .cst (.int .u64 16)], op0 47 (.bin .and) [.tmp 46, .cst (.int .i64 255)], op0 48 .mov [.tmp 4], op0 49 (.bin .shr) [.tmp 48, .cst (.int .u64 24)], op0 50 .mov [.tmp 0], op0 51 (.idxSl 1) [.tmp 50, .cst (.int .i64 1)], op0 52 (.load false 1) [.tmp 51], op0 53 (.conv .i64) [.tmp 52], ⟨some 54, .build [((.int .i64 0), 1), ((.int .i64 0), 1), ((.int .i64 0), 1), ((.int .i64 0), 1), ((.int .i64 0), 1), ((.nil 3 (.int .i64)), 1), ((.int .i64 0), 1)] [0, 2, 3, 4, 6], [.tmp 41, .tmp 44, .tmp 47, .tmp 49, .tmp 53], none, 0, []⟩, ⟨some 5, .alloc 24 (.pair (.int .i64 0) (.pair (.int .i64 0) (.pair (.int .i64 0) (.pair (.int .i64 0) (.pair (.int .i64 0) (.pair (.nil 3 (.int .i64)) (.pure (.pair (.int .i64) .unit) (0, ())))))))), [], none, 0, []⟩, ⟨none, .store 7, [.tmp 5, .tmp 54], none, 0, []⟩]) (.seq (.seq (.region false 0 [ op0 55 (.fieldAddr 0 0) [.tmp 5], op0 56 (.load false 1) [.tmp 55], op0 57 (.bin .andNot) [.tmp 56, .cst (.int .i64 22)], op0 58 (.bin .neq) [.tmp 57, .cst (.int .i64 0)]]) (.cond (.tmp 58) (.seq (.region false 0 [ ⟨some 59, .build [((.int .i64 0), 1), ((.int .i64 0), 1), ((.int .i64 0), 1), ((.int .i64 0), 1), ((.int .i64 0), 1), ((.nil 3 (.int .i64)), 1), ((.int .i64 0), 1)] [], [], none, 0, []⟩, ⟨none, .store 7, [.tmp 2, .tmp 59], none, 0, []⟩, op0 3 .mov [.cst (.int .i64 3)]]) (.cut [2, 3] (.ret))) (.skip))) (.seq (.seq (.region false 0 [ op0 6 .mov [.cst (.int .i64 3)]]) (.block 0 (.loop ir7_v0 ir7_b0))) (.seq (.seq (.region false 1 [ op0 92 (.load true 7) [.tmp 5], op0 93 (.callS 6) [.tmp 92], op0 91 .mov [.tmp 93], op0 94 (.extract 0) [.tmp 91], op0 95 (.extract 1) [.tmp 91], op0 7 .mov [.tmp 94], op0 8 .mov [.tmp 95]]) (.seq (.region false 0 [ op0 96 .mov [.tmp 8], op0 97 (.bin .neq) [.tmp 96, .cst (.int .i64 0)]]) (.cond (.tmp 97) (.seq (.region false 0 [ ⟨some 98, .build [((.int .i64 0), 1), ((.int .i64 0), 1), ((.int .i64 0), 1), ((.int .i64 0), 1), ((.int .i64 0), 1), ((.nil 3 (.int .i64)), 1), ((.int .i64 0), 1)] [], [], none, 0, []⟩, ⟨none, .store 7, [.tmp 2, .tmp 98], none, 0, []⟩, op0 3 .mov [.cst (.int .i64 3)]]) (.cut [2, 3] (.ret))) (.skip)))) (.seq (.region false 0 [ op0 99 (.load true 7) [.tmp 5], ⟨none, .store 7, [.tmp 2, .tmp 99], none, 0, []⟩, op0 3 .mov [.cst (.int .i64 0)]]) (.cut [2, 3] (.ret)))))))))) }
theorem ir7_tok {R : Type} {summ : Nat → Option Summ} {fu : Nat} {call : Nat → List CV → List Blk → (CV → List Blk → Option R) → Option R} {o0 : St → (Ex → St → Option R) → Option R} (h0 : ∀ T k r, o0 T k = some r → evLoopN (evCode summ fu call ir7_b0) (St.norm ir7_v0) fu T k = some r) : LTok summ fu call (ir7_t o0) ir7.body := ⟨trivial, ⟨trivial, ⟨trivial, ⟨trivial, ⟨trivial, ⟨⟨trivial, h0⟩, trivial⟩⟩⟩⟩⟩⟩


def ir9_b0 : IC := (.seq (.region false 0 [ op0 14 (.bin .lss) [.tmp 13, .tmp 12]]) (.seq (.cond (.tmp 14) (.skip) (.cut [] (.exit 0))) (.seq (.block 1 (.seq (.region false 0 [ op0 15 .mov [.tmp 13], op0 5 .mov [.tmp 15]]) (.seq (.region true 0 [ op0 16 .mov [.tmp 0], op0 17 .mov [.tmp 5], ⟨some 18, .idxSl 1, [.tmp 16, .tmp 17], none, 0, [0, 1]⟩, ⟨some 19, .load false 1, [.tmp 18], none, 0, [2, 0, 1]⟩, op0 20 .mov [.tmp 1], op0 21 .mov [.tmp 5], ⟨some 22, .idxSl 1, [.tmp 20, .tmp 21], none, 0, [4, 5]⟩, ⟨some 23, .load false 1, [.tmp 22], none, 0, [6, 4, 5]⟩, ⟨some 24, .bin .neq, [.tmp 19, .tmp 23], none, 0, [3, 2, 0, 1, 7, 6, 4, 5]⟩]) (.cond (.tmp 24) (.seq (.region false 0 [ op0 4 .mov [.cst (.bool false)]]) (.cut [4] (.ret))) (.skip))))) (.region false 0 [ op0 25 (.bin .add) [.tmp 13, .cst (.int .i64 1)], op0 13 .mov [.tmp 25]]))))
def ir9_v0 : List Nat := [0, 1, 12, 13]
def ir9_t {R : Type} (o0 : St → (Ex → St → Option R) → Option R) : LT R := (.node .nil (.node .nil (.node (.node .nil (.node (.orc o0) .nil)) .nil)))
def ir9 : IFn := { ntmps := 26, results := [.inl 4], body := (.seq (.region false 0 [ op0 4 .mov [.cst (.bool false)]]) (.seq (.seq (.region false 0 [ op0 6 .mov [.tmp 0], op0 7 .len [.tmp 6], op0 8 .mov [.tmp 1], op0 9 .len [.tmp 8], op0 10 (.bin .neq) [.tmp 7, .tmp 9]]) (.cond (.tmp 10) (.seq (.region false 0 [ op0 4 .mov [.cst (.bool false)]]) (.cut [4] (.ret))) (.skip))) (.seq (.seq (.region false 0 [ op0 11 .mov [.tmp 0], op0 12 .len [.tmp 11], op0 13 .mov [.cst (.int .i64 0)]]) (.block 0 (.loop ir9_v0 ir9_b0))) (.seq (.region false 0 [ op0 4 .mov [.cst (.bool true)]]) (.cut [4] (.ret)))))) }
theorem ir9_tok {R : Type} {summ : Nat → Option Summ} {fu : Nat} {call : Nat → List CV → List Blk → (CV → List Blk → Option R) → Option R} {o0 : St → (Ex → St → Option R) → Option R} (h0 : ∀ T k r, o0 T k = some r → evLoopN (evCode summ fu call ir9_b0) (St.norm ir9_v0) fu T k = some r) : LTok summ fu call (ir9_t o0) ir9.body := ⟨trivial, ⟨trivial, ⟨⟨trivial, h0⟩, trivial⟩⟩⟩


def ir12 : IFn := { ntmps := 52, results := [.inl 4], body := (.seq (.region false 2 [ op0 2 (.box 24) [.tmp 0], op0 3 (.box 24) [.tmp 1], op0 4 .mov [.cst (.bool false)]]) (.seq (.region false 1 [ op0 5 (.fieldAddr 0 0) [.tmp 2], op0 6 (.load false 1) [.tmp 5], op0 7 (.fieldAddr 0 0) [.tmp 3], op0 8 (.load false 1) [.tmp 7], op0 9 (.bin .eql) [.tmp 6, .tmp 8], op0 10 .mov [.tmp 9], ⟨some 11, .fieldAddr 1 1, [.tmp 2], some (10, true), 0, []⟩, ⟨some 12, .load false 1, [.tmp 11], some (10, true), 0, []⟩, ⟨some 13, .fieldAddr 1 1, [.tmp 3], some (10, true), 0, []⟩, ⟨some 14, .load false 1, [.tmp 13], some (10, true), 0, []⟩, ⟨some 15, .bin .eql, [.tmp 12, .tmp 14], some (10, true), 0, []⟩, op0 16 .pick [.tmp 10, .tmp 15, .cst (.bool false)], op0 17 .mov [.tmp 16], ⟨some 18, .fieldAddr 2 2, [.tmp 2], some (17, true), 0, []⟩, ⟨some 19, .load false 1, [.tmp 18], some (17, true), 0, []⟩, ⟨some 20, .fieldAddr 2 2, [.tmp 3], some (17, true), 0, []⟩, ⟨some 21, .load false 1, [.tmp 20], some (17, true), 0, []⟩, ⟨some 22, .bin .eql, [.tmp 19, .tmp 21], some (17, true), 0, []⟩, op0 23 .pick [.tmp 17, .tmp 22, .cst (.bool false)], op0 24 .mov [.tmp 23], ⟨some 25, .fieldAddr 3 3, [.tmp 2], some (24, true), 0, []⟩, ⟨some 26, .load false 1, [.tmp 25], some (24, true), 0, []⟩, ⟨some 27, .fieldAddr 3 3, [.tmp 3], some (24, true), 0, []⟩, ⟨some 28, .load false 1, [.tmp 27], some (24, true), 0, []⟩, ⟨some 29, .bin .eql, [.tmp 26, .tmp 28], some (24, true), 0, []⟩, op0 30 .pick [.tmp 24, .tmp 29, .cst (.bool false)], op0 31 .mov [.tmp 30], ⟨some 32, .fieldAddr 4 4, [.tmp 2], some (31, true), 0, []⟩, ⟨some 33, .load false 1, [.tmp 32], some (31, true), 0, []⟩, ⟨some 34, .fieldAddr 4 4, [.tmp 3], some (31, true), 0, []⟩, ⟨some 35, .load false 1, [.tmp 34], some (31, true), 0, []⟩, ⟨some 36, .bin .eql, [.tmp 33, .tmp 35], some (31, true), 0, []⟩, op0 37 .pick [.tmp 31, .tmp 36, .cst (.bool false)], op0 38 .mov [.tmp 37], ⟨some 39, .fieldAddr 6 6, [.tmp 2], some (38, true), 0, []⟩, ⟨some 40, .load false 1, [.tmp 39], some (38, true), 0, []⟩, ⟨some 41, .fieldAddr 6 6, [.tmp 3], some (38, true), 0, []⟩, ⟨some 42, .load false 1, [.tmp 41], some (38, true), 0, []⟩, ⟨some 43, .bin .eql, [.tmp 40, .tmp 42], some (38, true), 0, []⟩, op0 44 .pick [.tmp 38, .tmp 43, .cst (.bool false)], op0 45 .mov [.tmp 44], ⟨some 46, .fieldAddr 5 5, [.tmp 2], some (45, true), 0, []⟩, ⟨some 47, .load false 1, [.tmp 46], some (45, true), 0, []⟩, ⟨some 48, .fieldAddr 5 5, [.tmp 3], some (45, true), 0, []⟩, ⟨some 49, .load false 1, [.tmp 48], some (45, true), 0, []⟩, ⟨some 50, .callS 19, [.tmp 47, .tmp 49], some (45, true), 0, []⟩, op0 51 .pick [.tmp 45, .tmp 50, .cst (.bool false)], op0 4 .mov [.tmp 51]]) (.cut [4] (.ret)))) }


def ir13 : IFn := { ntmps := 12, results := [.inl 4], body := (.seq (.region false 0 [ op0 4 .mov [.cst (.bool false)]]) (.seq (.region false 0 [ op0 5 .mov [.tmp 0], op0 6 (.bin .geq) [.tmp 5, .cst (.int .i64 0)], op0 7 .mov [.tmp 6], ⟨some 8, .mov, [.tmp 0], some (7, true), 0, []⟩, ⟨some 9, .mov, [.tmp 1], some (7, true), 0, []⟩, ⟨some 10, .bin .leq, [.tmp 8, .tmp 9], some (7, true), 0, []⟩, op0 11 .pick [.tmp 7, .tmp 10, .cst (.bool false)], op0 4 .mov [.tmp 11]]) (.cut [4] (.ret)))) }


def ir14 : IFn := { ntmps := 9, results := [.inl 4], body := (.seq (.region false 0 [ op0 4 .mov [.cst (.bool false)]]) (.seq (.region false 0 [ op0 5 .mov [.tmp 0], op0 6 .mov [.tmp 1], op0 7 (.call 20) [.tmp 5, .tmp 6], op0 8 (.bin .geq) [.tmp 7, .cst (.int .i64 0)], op0 4 .mov [.tmp 8]]) (.cut [4] (.ret)))) }


def ir15 : IFn := { ntmps := 6, results := [.inl 2], body := (.seq (.region false 0 [ op0 2 .mov [.cst (.bool false)]]) (.seq (.region false 1 [ op0 3 .mov [.tmp 0], op0 4 (.callS 16) [.tmp 3], op0 5 .not [.tmp 4], op0 2 .mov [.tmp 5]]) (.cut [2] (.ret)))) }


def ir16 : IFn := { ntmps := 9, results := [.inl 2], body := (.seq (.region false 0 [ op0 2 .mov [.cst (.bool false)]]) (.seq (.region false 0 [ op0 3 .mov [.tmp 0], op0 4 (.bin .geq) [.tmp 3, .cst (.int .i64 (-1099511627776))], op0 5 .mov [.tmp 4], ⟨some 6, .mov, [.tmp 0], some (5, true), 0, []⟩, ⟨some 7, .bin .leq, [.tmp 6, .cst (.int .i64 1099511627776)], some (5, true), 0, []⟩, op0 8 .pick [.tmp 5, .tmp 7, .cst (.bool false)], op0 2 .mov [.tmp 8]]) (.cut [2] (.ret)))) }


def ir17 : IFn := { ntmps := 8, results := [], body := (.region false 2 [ op0 3 (.load false 1) [.tmp 1], op0 4 .mov [.tmp 0], op0 5 (.conv .u32) [.tmp 4], ⟨some 6, .buildSl 34 (.int .u32) 1, [.tmp 5], none, 0, []⟩, ⟨some 7, .append 34 (.int .u32) 4, [.tmp 3, .tmp 6], none, 0, []⟩, ⟨none, .store 1, [.tmp 1, .tmp 7], none, 0, []⟩]) }


def ir19_b0 : IC := (.seq (.seq (.region false 0 [ op0 11 .mov [.tmp 5], op0 12 .mov [.tmp 0], op0 13 .len [.tmp 12], op0 14 (.bin .lss) [.tmp 11, .tmp 13]]) (.cond (.tmp 14) (.skip) (.cut [] (.exit 0)))) (.seq (.block 1 (.seq (.region true 0 [ op0 17 .mov [.tmp 0], op0 18 .mov [.tmp 5], ⟨some 19, .idxSl 1, [.tmp 17, .tmp 18], none, 0, [0, 1]⟩, ⟨some 20, .load false 1, [.tmp 19], none, 0, [2, 0, 1]⟩, op0 21 .mov [.tmp 1], op0 22 .mov [.tmp 5], ⟨some 23, .idxSl 1, [.tmp 21, .tmp 22], none, 0, [4, 5]⟩, ⟨some 24, .load false 1, [.tmp 23], none, 0, [6, 4, 5]⟩, ⟨some 25, .bin .neq, [.tmp 20, .tmp 24], none, 0, [3, 2, 0, 1, 7, 6, 4, 5]⟩]) (.cond (.tmp 25) (.seq (.region false 0 [ op0 4 .mov [.cst (.bool false)]]) (.cut [4] (.ret))) (.skip)))) (.region false 0 [ op0 15 .mov [.tmp 5], op0 16 (.bin .add) [.tmp 15, .cst (.int .i64 1)], op0 5 .mov [.tmp 16]])))
def ir19_v0 : List Nat := [0, 1, 5]
def ir19_t {R : Type} (o0 : St → (Ex → St → Option R) → Option R) : LT R := (.node .nil (.node .nil (.node (.node .nil (.node (.orc o0) .nil)) .nil)))
def ir19 : IFn := { ntmps := 26, results := [.inl 4], body := (.seq (.region false 0 [ op0 4 .mov [.cst (.bool false)]]) (.seq (.seq (.region false 0 [ op0 6 .mov [.tmp 0], op0 7 .len [.tmp 6], op0 8 .mov [.tmp 1], op0 9 .len [.tmp 8], op0 10 (.bin .neq) [.tmp 7, .tmp 9]]) (.cond (.tmp 10) (.seq (.region false 0 [ op0 4 .mov [.cst (.bool false)]]) (.cut [4] (.ret))) (.skip))) (.seq (.seq (.region false 0 [ op0 5 .mov [.cst (.int .i64 0)]]) (.block 0 (.loop ir19_v0 ir19_b0))) (.seq (.region false 0 [ op0 4 .mov [.cst (.bool true)]]) (.cut [4] (.ret)))))) }
theorem ir19_tok {R : Type} {summ : Nat → Option Summ} {fu : Nat} {call : Nat → List CV → List Blk → (CV → List Blk → Option R) → Option R} {o0 : St → (Ex → St → Option R) → Option R} (h0 : ∀ T k r, o0 T k = some r → evLoopN (evCode summ fu call ir19_b0) (St.norm ir19_v0) fu T k = some r) : LTok summ fu call (ir19_t o0) ir19.body := ⟨trivial, ⟨trivial, ⟨⟨trivial, h0⟩, trivial⟩⟩⟩


def ir20_b0 : IC := (.seq (.region false 0 [ op0 9 (.bin .lss) [.tmp 8, .tmp 7]]) (.seq (.cond (.tmp 9) (.skip) (.cut [] (.exit 0))) (.seq (.block 1 (.seq (.region false 0 [ op0 10 .mov [.tmp 8], op0 5 .mov [.tmp 10]]) (.seq (.region false 0 [ op0 11 .mov [.tmp 1], op0 12 .mov [.tmp 0], op0 13 .mov [.tmp 5], op0 14 (.idxSl 1) [.tmp 12, .tmp 13], op0 15 (.load false 1) [.tmp 14], op0 16 .callv [.tmp 11, .tmp 15]]) (.cond (.tmp 16) (.seq (.region false 0 [ op0 17 .mov [.tmp 5], op0 4 .mov [.tmp 17]]) (.cut [4] (.ret))) (.skip))))) (.region false 0 [ op0 18 (.bin .add) [.tmp 8, .cst (.int .i64 1)], op0 8 .mov [.tmp 18]]))))
def ir20_v0 : List Nat := [0, 1, 7, 8]
def ir20_t {R : Type} (o0 : St → (Ex → St → Option R) → Option R) : LT R := (.node .nil (.node (.node .nil (.node (.orc o0) .nil)) .nil))
def ir20 : IFn := { ntmps := 19, results := [.inl 4], body := (.seq (.region false 0 [ op0 4 .mov [.cst (.int .i64 0)]]) (.seq (.seq (.region false 0 [ op0 6 .mov [.tmp 0], op0 7 .len [.tmp 6], op0 8 .mov [.cst (.int .i64 0)]]) (.block 0 (.loop ir20_v0 ir20_b0))) (.seq (.region false 0 [ op0 4 .mov [.cst (.int .i64 (-1))]]) (.cut [4] (.ret))))) }
theorem ir20_tok {R : Type} {summ : Nat → Option Summ} {fu : Nat} {call : Nat → List CV → List Blk → (CV → List Blk → Option R) → Option R} {o0 : St → (Ex → St → Option R) → Option R} (h0 : ∀ T k r, o0 T k = some r → evLoopN (evCode summ fu call ir20_b0) (St.norm ir20_v0) fu T k = some r) : LTok summ fu call (ir20_t o0) ir20.body := ⟨trivial, ⟨⟨trivial, h0⟩, trivial⟩⟩


def fns : Nat → Option IFn | 4 => some ir4 | 5 => some ir5 | 6 => some ir6 | 7 => some ir7 | 9 => some ir9 | 12 => some ir12 | 13 => some ir13 | 14 => some ir14 | 15 => some ir15 | 16 => some ir16 | 17 => some ir17 | 19 => some ir19 | 20 => some ir20 | _ => none
end Go.Ev
namespace Go.Ev
open Go
set_option maxRecDepth 100000
set_option maxHeartbeats 4000000
set_option linter.unusedVariables false
noncomputable section

def sm_13 : Nat → Option Summ := fun f => none


def F_13 (a0 : Int) (a1 : Int) : Option (Bool × Unit) :=
  bif decide (a0 ≥ (0 : Int)) then some (decide (a0 ≤ a1), PUnit.unit) else some (false, PUnit.unit)
theorem fn_13 (a0 : Int) (a1 : Int) : evFnL sm_13 FU (ovr noO (evFn sm_13 fns FU 0)) .nil ir13 (ofH [(.int .i64), (.int .i64)] (a0, a1, ())) [] (pureK [.bool]) = F_13 a0 a1 := by kernel_rfl
def Sp.p_13 (a0 : Int) (a1 : Int) : Bool := (F_13 a0 a1).isSome
def Sp.v_13 (a0 : Int) (a1 : Int) : Bool × Unit := (F_13 a0 a1).getD (dfH [.bool])
def s_13 : Summ := shN [(.int .i64), (.int .i64)] [.bool] (fun x => Sp.p_13 x.1 x.2.1) (fun x => Sp.v_13 x.1 x.2.1)
theorem pv_13 (a0 : Int) (a1 : Int) {y : Bool × Unit} (h : F_13 a0 a1 = some y) : Sp.p_13 a0 a1 = true ∧ Sp.v_13 a0 a1 = y := ⟨by rw [Sp.p_13, h]; rfl, by rw [Sp.v_13, h]; rfl⟩
theorem run_13 (x : HDen [(.int .i64), (.int .i64)]) (y : HDen [.bool]) (h : F_13 x.1 x.2.1 = some y) : evFn sm_13 fns FU 1 13 (ofH [(.int .i64), (.int .i64)] x) [] (pureK [.bool]) = some y :=
  evFnL_sound (fn := ir13) (t := .nil) (o := noO) rfl noO_ok trivial ((fn_13 _ _).trans h)
end
end Go.Ev
namespace Go.Ev
open Go
set_option maxRecDepth 100000
set_option maxHeartbeats 4000000
set_option linter.unusedVariables false
noncomputable section

def sm_16 : Nat → Option Summ := fun f => none


def F_16 (a0 : Int) : Option (Bool × Unit) :=
  bif decide (a0 ≥ (-1099511627776 : Int)) then some (decide (a0 ≤ (1099511627776 : Int)), PUnit.unit) else some (false, PUnit.unit)
theorem fn_16 (a0 : Int) : evFnL sm_16 FU (ovr noO (evFn sm_16 fns FU 0)) .nil ir16 (ofH [(.int .i64)] (a0, ())) [] (pureK [.bool]) = F_16 a0 := by kernel_rfl
def Sp.p_16 (a0 : Int) : Bool := (F_16 a0).isSome
def Sp.v_16 (a0 : Int) : Bool × Unit := (F_16 a0).getD (dfH [.bool])
def s_16 : Summ := shN [(.int .i64)] [.bool] (fun x => Sp.p_16 x.1) (fun x => Sp.v_16 x.1)
theorem pv_16 (a0 : Int) {y : Bool × Unit} (h : F_16 a0 = some y) : Sp.p_16 a0 = true ∧ Sp.v_16 a0 = y := ⟨by rw [Sp.p_16, h]; rfl, by rw [Sp.v_16, h]; rfl⟩
theorem run_16 (x : HDen [(.int .i64)]) (y : HDen [.bool]) (h : F_16 x.1 = some y) : evFn sm_16 fns FU 1 16 (ofH [(.int .i64)] x) [] (pureK [.bool]) = some y :=
  evFnL_sound (fn := ir16) (t := .nil) (o := noO) rfl noO_ok trivial ((fn_16 _).trans h)
end
end Go.Ev
namespace Go.Ev
open Go
set_option maxRecDepth 100000
set_option maxHeartbeats 4000000
set_option linter.unusedVariables false
noncomputable section
abbrev Zt6_0 : Type := Int × Int × Int × Int × Int × List Int × Int × Unit
abbrev Zy6_1 : Ty := (Ty.pair (Ty.int IntKind.i64) (Ty.pair (Ty.int IntKind.i64) (Ty.pair (Ty.int IntKind.i64) (Ty.pair (Ty.int IntKind.i64) (Ty.pair (Ty.int IntKind.i64) (Ty.pair (Ty.slice (Ty.int IntKind.i64)) (Ty.pair (Ty.int IntKind.i64) Ty.unit)))))))
abbrev Zy6_2 : Ty := (.pair (.int .i64) (.pair (.int .i64) (.pair (.int .i64) (.pair (.int .i64) (.pair (.int .i64) (.pair (.slice (.int .i64)) (.pair (.int .i64) .unit)))))))

def sm_6 : Nat → Option Summ := fun f => bif Nat.beq f 13 then some s_13 else bif Nat.beq f 16 then some s_16 else none
def T_6_20_0_0 (p0 : List Int) (p1 : Int) (p2 : Int) (p3 : Zt6_0) : St := St.mk ([CV.pure (Ty.slice (Ty.int IntKind.i64)) p0, CV.clo (15 : Nat) (CV.pure Ty.unit PUnit.unit), jk, jk, jk, jk, jk, CV.int IntKind.i64 p1, CV.int IntKind.i64 p2] ++ (jl 10)) [Blk.mem (CV.pure Zy6_1 p3)] (1 : Nat)
def X_6_20_0_0_0 (p2 : Int) (p3 : Zt6_0) : St := St.mk ([jk, jk, jk, jk, CV.int IntKind.i64 p2] ++ (jl 14)) [Blk.mem (CV.pure Zy6_1 p3)] (1 : Nat)
def X_6_20_0_0_1 (p3 : Zt6_0) : St := St.mk (jl 19) [Blk.mem (CV.pure Zy6_1 p3)] (1 : Nat)
inductive Sp.E_6_20_0_0 where
  | e0 (p2 : Int) (p3 : Zt6_0)
  | e1 (p3 : Zt6_0)
def Sp.B_6_20_0_0 {R : Type} (r : Option Sp.E_6_20_0_0) (k0 : (Int) → (Zt6_0) → Option R) (k1 : (Zt6_0) → Option R) : Option R := match r with
  | none => none
  | some (.e0 p2 p3) => k0 p2 p3
  | some (.e1 p3) => k1 p3
def Sp.L_6_20_0_0 : Nat → (List Int) → (Int) → (Int) → (Int × Int × Int × Int × Int × List Int × Int × Unit) → Option Sp.E_6_20_0_0
  | 0, _, _, _, _ => none
  | m + 1, p0, p1, p2, p3 => bif decide (p2 < p1) then gd (inB p2 (List.length p0)) (gd (Sp.p_16 (List.getD p0 (Int.toNat p2) (0 : Int))) (bif !(Sp.v_16 (List.getD p0 (Int.toNat p2) (0 : Int))).1 then some (Sp.E_6_20_0_0.e0 p2 p3) else Sp.L_6_20_0_0 m p0 p1 (IntKind.wrap IntKind.i64 (p2 + (1 : Int))) p3)) else some (Sp.E_6_20_0_0.e1 p3)
def G_6_20_0_0 {R : Type} (p0 : List Int) (p1 : Int) (p2 : Int) (p3 : Zt6_0) (k : Ex → St → Option R) : Option R := Sp.B_6_20_0_0 (Sp.L_6_20_0_0 FU p0 p1 p2 p3) (fun p2 p3 => k Ex.ret (X_6_20_0_0_0 p2 p3)) (fun p3 => k (Ex.exit (0 : Nat)) (X_6_20_0_0_1 p3))
def o_6_20_0_0 {R : Type} (G : (List Int) → (Int) → (Int) → (Zt6_0) → (Ex → St → Option R) → Option R) : St → (Ex → St → Option R) → Option R := fun T k => match T.sl.getD 0 .junk, T.sl.getD 1 .junk, T.sl.getD 7 .junk, T.sl.getD 8 .junk, T.hp with
  | CV.pure (Ty.slice (Ty.int IntKind.i64)) p0, CV.clo (15 : Nat) (CV.pure Ty.unit PUnit.unit), CV.int IntKind.i64 p1, CV.int IntKind.i64 p2, ((Blk.mem (CV.pure (Ty.pair (Ty.int IntKind.i64) (Ty.pair (Ty.int IntKind.i64) (Ty.pair (Ty.int IntKind.i64) (Ty.pair (Ty.int IntKind.i64) (Ty.pair (Ty.int IntKind.i64) (Ty.pair (Ty.slice (Ty.int IntKind.i64)) (Ty.pair (Ty.int IntKind.i64) Ty.unit))))))) p3)) :: []) => gd (shapeOK T 19 [0, 1, 7, 8] (1 : Nat)) (G p0 p1 p2 p3 k)
  | _, _, _, _, _ => none
theorem o_6_20_0_0_inv {R : Type} {G : (List Int) → (Int) → (Int) → (Zt6_0) → (Ex → St → Option R) → Option R} {T : St} {k : Ex → St → Option R} {r : R} (h : o_6_20_0_0 G T k = some r) : ∃ p0 p1 p2 p3, T = T_6_20_0_0 p0 p1 p2 p3 ∧ G p0 p1 p2 p3 k = some r := by
  unfold o_6_20_0_0 at h
  split at h
  · obtain ⟨hs, h'⟩ := gd_some h
    refine ⟨_, _, _, _, (st_of (asg := [(0, _), (1, _), (7, _), (8, _)]) hs ⟨by assumption, by assumption, by assumption, by assumption, trivial⟩ (by assumption)).trans ?_, h'⟩
    kernel_rfl
  · cases h
def T_6_0 (p0 : List Int) (p1 : Int) (p2 : Int) (p3 : List Int) : St := St.mk ([jk, jk, jk, jk, CV.ptr (0 : Nat) [], CV.clo (17 : Nat) (CV.pair (CV.ptr (0 : Nat) []) (CV.pure Ty.unit PUnit.unit))] ++ (jl 70 ++ ([CV.pure (Ty.slice (Ty.int IntKind.i64)) p0, CV.int IntKind.i64 p1, CV.int IntKind.i64 p2] ++ (jl 15)))) [Blk.mem (CV.whole (1 : Nat)), Blk.vec (34 : Nat) (Ty.int IntKind.u32) p3] (0 : Nat)
def X_6_0_0 (p3 : List Int) : St := St.mk ([jk, jk, jk, jk, CV.ptr (0 : Nat) []] ++ (jl 89)) [Blk.mem (CV.whole (1 : Nat)), Blk.vec (34 : Nat) (Ty.int IntKind.u32) p3] (0 : Nat)
inductive Sp.E_6_0 where
  | e0 (p3 : List Int)
def Sp.B_6_0 {R : Type} (r : Option Sp.E_6_0) (k0 : (List Int) → Option R) : Option R := match r with
  | none => none
  | some (.e0 p3) => k0 p3
def Sp.L_6_0 : Nat → (List Int) → (Int) → (Int) → (List Int) → Option Sp.E_6_0
  | 0, _, _, _, _ => none
  | m + 1, p0, p1, p2, p3 => bif decide (p2 < p1) then gd (inB p2 (List.length p0)) (gd (room (List.length p3 + (1 : Nat)) (4 : Nat)) (gd (room (List.length (p3 ++ [IntKind.wrap IntKind.u32 (Int.fdiv (IntKind.wrap IntKind.i64 (List.getD p0 (Int.toNat p2) (0 : Int) + (1099511627776 : Int))) (4294967296 : Int))]) + (1 : Nat)) (4 : Nat)) (Sp.L_6_0 m p0 p1 (IntKind.wrap IntKind.i64 (p2 + (1 : Int))) (p3 ++ [IntKind.wrap IntKind.u32 (Int.fdiv (IntKind.wrap IntKind.i64 (List.getD p0 (Int.toNat p2) (0 : Int) + (1099511627776 : Int))) (4294967296 : Int))] ++ [IntKind.wrap IntKind.u32 (Sp.andI IntKind.i64 (IntKind.wrap IntKind.i64 (List.getD p0 (Int.toNat p2) (0 : Int) + (1099511627776 : Int))) (4294967295 : Int))])))) else some (Sp.E_6_0.e0 p3)
def G_6_0 {R : Type} (p0 : List Int) (p1 : Int) (p2 : Int) (p3 : List Int) (k : Ex → St → Option R) : Option R := Sp.B_6_0 (Sp.L_6_0 FU p0 p1 p2 p3) (fun p3 => k (Ex.exit (0 : Nat)) (X_6_0_0 p3))
def o_6_0 {R : Type} (G : (List Int) → (Int) → (Int) → (List Int) → (Ex → St → Option R) → Option R) : St → (Ex → St → Option R) → Option R := fun T k => match T.sl.getD 4 .junk, T.sl.getD 5 .junk, T.sl.getD 76 .junk, T.sl.getD 77 .junk, T.sl.getD 78 .junk, T.hp with
  | CV.ptr (0 : Nat) [], CV.clo (17 : Nat) (CV.pair (CV.ptr (0 : Nat) []) (CV.pure Ty.unit PUnit.unit)), CV.pure (Ty.slice (Ty.int IntKind.i64)) p0, CV.int IntKind.i64 p1, CV.int IntKind.i64 p2, ((Blk.mem (CV.whole (1 : Nat))) :: (Blk.vec (34 : Nat) (Ty.int IntKind.u32) p3) :: []) => gd (shapeOK T 94 [4, 5, 76, 77, 78] (0 : Nat)) (G p0 p1 p2 p3 k)
  | _, _, _, _, _, _ => none
theorem o_6_0_inv {R : Type} {G : (List Int) → (Int) → (Int) → (List Int) → (Ex → St → Option R) → Option R} {T : St} {k : Ex → St → Option R} {r : R} (h : o_6_0 G T k = some r) : ∃ p0 p1 p2 p3, T = T_6_0 p0 p1 p2 p3 ∧ G p0 p1 p2 p3 k = some r := by
  unfold o_6_0 at h
  split at h
  · obtain ⟨hs, h'⟩ := gd_some h
    refine ⟨_, _, _, _, (st_of (asg := [(4, _), (5, _), (76, _), (77, _), (78, _)]) hs ⟨by assumption, by assumption, by assumption, by assumption, by assumption, trivial⟩ (by assumption)).trans ?_, h'⟩
    kernel_rfl
  · cases h
def O_6_20_0 {R : Type} : St → (Ex → St → Option R) → Option R := fun T k => o_6_20_0_0 G_6_20_0_0 T k
def O_6_6_0 {R : Type} : St → (Ex → St → Option R) → Option R := fun T k => o_6_0 G_6_0 T k
def g_6_20 {R : Type} : List CV → List Blk → (CV → List Blk → Option R) → Option R := evFnL sm_6 FU (ovr noO (evFn sm_6 fns FU 1)) (ir20_t O_6_20_0) ir20
def g_6_14 {R : Type} : List CV → List Blk → (CV → List Blk → Option R) → Option R := evFnL sm_6 FU (ovr (fun f' => bif Nat.beq f' 20 then some (g_6_20) else none) (evFn sm_6 fns FU 2)) .nil ir14
theorem body_6_20_0_0 {R : Type} (K0 : St → Option R) (K1 : Ex → St → Option R) (p0 : List Int) (p1 : Int) (p2 : Int) (p3 : Zt6_0) : evLB (evCodeL sm_6 FU (ovr noO (evFn sm_6 fns FU 1)) .nil ir20_b0) (St.norm ir20_v0) (T_6_20_0_0 p0 p1 p2 p3) K0 K1 =
  bif decide (p2 < p1) then gd (inB p2 (List.length p0)) (gd (Sp.p_16 (List.getD p0 (Int.toNat p2) (0 : Int))) (bif !(Sp.v_16 (List.getD p0 (Int.toNat p2) (0 : Int))).1 then K1 Ex.ret (X_6_20_0_0_0 p2 p3) else K0 (T_6_20_0_0 p0 p1 (IntKind.wrap IntKind.i64 (p2 + (1 : Int))) p3))) else K1 (Ex.exit (0 : Nat)) (X_6_20_0_0_1 p3) := by kernel_rfl
theorem Bgd_6_20_0_0 {R : Type} {c : Bool} {x : Option R} {y : Option Sp.E_6_20_0_0} {k0 : (Int) → (Zt6_0) → Option R} {k1 : (Zt6_0) → Option R} (h : x = Sp.B_6_20_0_0 y k0 k1) : gd c x = Sp.B_6_20_0_0 (gd c y) k0 k1 := by cases c; rfl; exact h
theorem Bcond_6_20_0_0 {R : Type} {c : Bool} {x x' : Option R} {y y' : Option Sp.E_6_20_0_0} {k0 : (Int) → (Zt6_0) → Option R} {k1 : (Zt6_0) → Option R} (h : x = Sp.B_6_20_0_0 y k0 k1) (h' : x' = Sp.B_6_20_0_0 y' k0 k1) : (bif c then x else x') = Sp.B_6_20_0_0 (bif c then y else y') k0 k1 := by cases c; exact h'; exact h
theorem loop_6_20_0_0 {R : Type} (k : Ex → St → Option R) : ∀ (m : Nat) (p0 : List Int) (p1 : Int) (p2 : Int) (p3 : Zt6_0), evLoopN (evCodeL sm_6 FU (ovr noO (evFn sm_6 fns FU 1)) .nil ir20_b0) (St.norm ir20_v0) m (T_6_20_0_0 p0 p1 p2 p3) k = Sp.B_6_20_0_0 (Sp.L_6_20_0_0 m p0 p1 p2 p3) (fun p2 p3 => k Ex.ret (X_6_20_0_0_0 p2 p3)) (fun p3 => k (Ex.exit (0 : Nat)) (X_6_20_0_0_1 p3))
  | 0, _, _, _, _ => rfl
  | m + 1, p0, p1, p2, p3 => by
    rw [evLoopN_succ, body_6_20_0_0, Sp.L_6_20_0_0]
    repeat' first | apply Bgd_6_20_0_0 | apply Bcond_6_20_0_0 | exact loop_6_20_0_0 k m _ _ _ _ | rfl
theorem ok_6_20_0_0 {R : Type} (T : St) (k : Ex → St → Option R) (r : R) (h0 : o_6_20_0_0 G_6_20_0_0 T k = some r) : evLoopN (evCode sm_6 FU (evFn sm_6 fns FU 1) ir20_b0) (St.norm ir20_v0) FU T k = some r := by
  obtain ⟨p0, p1, p2, p3, rfl, h⟩ := o_6_20_0_0_inv h0
  refine evLoopN_L (t := .nil) noO_ok trivial _ _ _ _ ?_
  rw [loop_6_20_0_0]
  exact h
theorem OK_6_20_0 {R : Type} (T : St) (k : Ex → St → Option R) (r : R) (h : O_6_20_0 T k = some r) : evLoopN (evCode sm_6 FU (evFn sm_6 fns FU 1) ir20_b0) (St.norm ir20_v0) FU T k = some r := ok_6_20_0_0 T k r h
theorem g_6_20_ok {R : Type} (args : List CV) (hp : List Blk) (k : CV → List Blk → Option R) (r : R) (h : g_6_20 args hp k = some r) : evFn sm_6 fns FU 2 20 args hp k = some r :=
  evFnL_sound (fn := ir20) (t := (ir20_t O_6_20_0)) (o := noO) rfl noO_ok (ir20_tok (fun T k r => OK_6_20_0 T k r)) h
theorem ov_6_14_ok {R : Type} : OvrOK (R := R) (fun f' => bif Nat.beq f' 20 then some (g_6_20) else none) (evFn sm_6 fns FU 2) := by
  intro f' g h args hp k r hg
  dsimp only at h
  by_cases h20 : f' = 20
  · subst h20
    injection h with h
    subst h
    exact evFn_le 0 (g_6_20_ok _ _ _ _ hg)
  rw [nbeq_ne h20, cond_false] at h
  cases h
theorem g_6_14_ok {R : Type} (args : List CV) (hp : List Blk) (k : CV → List Blk → Option R) (r : R) (h : g_6_14 args hp k = some r) : evFn sm_6 fns FU 3 14 args hp k = some r :=
  evFnL_sound (fn := ir14) (t := .nil) (o := (fun f' => bif Nat.beq f' 20 then some (g_6_20) else none)) rfl ov_6_14_ok trivial h
theorem ov_6_6_ok {R : Type} : OvrOK (R := R) (fun f' => bif Nat.beq f' 14 then some (g_6_14) else none) (evFn sm_6 fns FU 3) := by
  intro f' g h args hp k r hg
  dsimp only at h
  by_cases h14 : f' = 14
  · subst h14
    injection h with h
    subst h
    exact evFn_le 0 (g_6_14_ok _ _ _ _ hg)
  rw [nbeq_ne h14, cond_false] at h
  cases h
theorem body_6_0 {R : Type} (K0 : St → Option R) (K1 : Ex → St → Option R) (p0 : List Int) (p1 : Int) (p2 : Int) (p3 : List Int) : evLB (evCodeL sm_6 FU (ovr (fun f' => bif Nat.beq f' 14 then some (g_6_14) else none) (evFn sm_6 fns FU 3)) .nil ir6_b0) (St.norm ir6_v0) (T_6_0 p0 p1 p2 p3) K0 K1 =
  bif decide (p2 < p1) then gd (inB p2 (List.length p0)) (gd (room (List.length p3 + (1 : Nat)) (4 : Nat)) (gd (room (List.length (p3 ++ [IntKind.wrap IntKind.u32 (Int.fdiv (IntKind.wrap IntKind.i64 (List.getD p0 (Int.toNat p2) (0 : Int) + (1099511627776 : Int))) (4294967296 : Int))]) + (1 : Nat)) (4 : Nat)) (K0 (T_6_0 p0 p1 (IntKind.wrap IntKind.i64 (p2 + (1 : Int))) (p3 ++ [IntKind.wrap IntKind.u32 (Int.fdiv (IntKind.wrap IntKind.i64 (List.getD p0 (Int.toNat p2) (0 : Int) + (1099511627776 : Int))) (4294967296 : Int))] ++ [IntKind.wrap IntKind.u32 (Sp.andI IntKind.i64 (IntKind.wrap IntKind.i64 (List.getD p0 (Int.toNat p2) (0 : Int) + (1099511627776 : Int))) (4294967295 : Int))]))))) else K1 (Ex.exit (0 : Nat)) (X_6_0_0 p3) := by kernel_rfl
theorem Bgd_6_0 {R : Type} {c : Bool} {x : Option R} {y : Option Sp.E_6_0} {k0 : (List Int) → Option R} (h : x = Sp.B_6_0 y k0) : gd c x = Sp.B_6_0 (gd c y) k0 := by cases c; rfl; exact h
theorem Bcond_6_0 {R : Type} {c : Bool} {x x' : Option R} {y y' : Option Sp.E_6_0} {k0 : (List Int) → Option R} (h : x = Sp.B_6_0 y k0) (h' : x' = Sp.B_6_0 y' k0) : (bif c then x else x') = Sp.B_6_0 (bif c then y else y') k0 := by cases c; exact h'; exact h
theorem loop_6_0 {R : Type} (k : Ex → St → Option R) : ∀ (m : Nat) (p0 : List Int) (p1 : Int) (p2 : Int) (p3 : List Int), evLoopN (evCodeL sm_6 FU (ovr (fun f' => bif Nat.beq f' 14 then some (g_6_14) else none) (evFn sm_6 fns FU 3)) .nil ir6_b0) (St.norm ir6_v0) m (T_6_0 p0 p1 p2 p3) k = Sp.B_6_0 (Sp.L_6_0 m p0 p1 p2 p3) (fun p3 => k (Ex.exit (0 : Nat)) (X_6_0_0 p3))
  | 0, _, _, _, _ => rfl
  | m + 1, p0, p1, p2, p3 => by
    rw [evLoopN_succ, body_6_0, Sp.L_6_0]
    repeat' first | apply Bgd_6_0 | apply Bcond_6_0 | exact loop_6_0 k m _ _ _ _ | rfl
theorem ok_6_0 {R : Type} (T : St) (k : Ex → St → Option R) (r : R) (h0 : o_6_0 G_6_0 T k = some r) : evLoopN (evCode sm_6 FU (evFn sm_6 fns FU 3) ir6_b0) (St.norm ir6_v0) FU T k = some r := by
  obtain ⟨p0, p1, p2, p3, rfl, h⟩ := o_6_0_inv h0
  refine evLoopN_L (t := .nil) ov_6_6_ok trivial _ _ _ _ ?_
  rw [loop_6_0]
  exact h
theorem OK_6_6_0 {R : Type} (T : St) (k : Ex → St → Option R) (r : R) (h : O_6_6_0 T k = some r) : evLoopN (evCode sm_6 FU (evFn sm_6 fns FU 3) ir6_b0) (St.norm ir6_v0) FU T k = some r := ok_6_0 T k r h
def F_6 (a0 : (Int × (Int × (Int × (Int × (Int × ((List Int) × (Int × Unit)))))))) : Option ((List Int) × Int × Unit) :=
  gd (Sp.p_13 (a0.1) (31 : Int)) (bif !(Sp.v_13 (a0.1) (31 : Int)).1 then some ([], (1 : Int), PUnit.unit) else gd (Sp.p_13 (a0.2.2.1) (2 : Int)) (bif !(Sp.v_13 (a0.2.2.1) (2 : Int)).1 then some ([], (1 : Int), PUnit.unit) else gd (Sp.p_13 (a0.2.2.2.1) (254 : Int)) (bif !(Sp.v_13 (a0.2.2.2.1) (254 : Int)).1 then some ([], (1 : Int), PUnit.unit) else gd (Sp.p_13 (a0.2.2.2.2.1) (255 : Int)) (bif !(Sp.v_13 (a0.2.2.2.2.1) (255 : Int)).1 then some ([], (1 : Int), PUnit.unit) else gd (Sp.p_13 (a0.2.2.2.2.2.2.1) (1073741824 : Int)) (bif !(Sp.v_13 (a0.2.2.2.2.2.2.1) (1073741824 : Int)).1 then some ([], (1 : Int), PUnit.unit) else bif decide ((↑(List.length (a0.2.2.2.2.2.1)) : Int) > (8 : Int)) then some ([], (1 : Int), PUnit.unit) else Sp.B_6_20_0_0 (Sp.L_6_20_0_0 (4611686018427387904 : Nat) (a0.2.2.2.2.2.1) (↑(List.length (a0.2.2.2.2.2.1)) : Int) (0 : Int) a0) (fun (y13 : Int) (y14 : Int × Int × Int × Int × Int × List Int × Int × Unit) => bif decide (y13 ≥ (0 : Int)) then some ([], (1 : Int), PUnit.unit) else Sp.B_6_0 (Sp.L_6_0 (4611686018427387904 : Nat) (y14.2.2.2.2.2.1) (↑(List.length (y14.2.2.2.2.2.1)) : Int) (0 : Int) ([IntKind.wrap IntKind.u32 (Sp.orI IntKind.i64 (Sp.orI IntKind.i64 (Sp.orI IntKind.i64 (Sp.andI IntKind.i64 (y14.1) (22 : Int)) (IntKind.wrap IntKind.i64 (y14.2.2.1 * (256 : Int)))) (IntKind.wrap IntKind.i64 (y14.2.2.2.1 * (65536 : Int)))) (IntKind.wrap IntKind.i64 (y14.2.2.2.2.1 * (16777216 : Int))))] ++ [IntKind.wrap IntKind.u32 (y14.2.2.2.2.2.2.1)] ++ [IntKind.wrap IntKind.u32 (↑(List.length (y14.2.2.2.2.2.1)) : Int)])) fun (y15 : List Int) => some (y15, (0 : Int), PUnit.unit)) fun (y16 : Int × Int × Int × Int × Int × List Int × Int × Unit) => Sp.B_6_0 (Sp.L_6_0 (4611686018427387904 : Nat) (y16.2.2.2.2.2.1) (↑(List.length (y16.2.2.2.2.2.1)) : Int) (0 : Int) ([IntKind.wrap IntKind.u32 (Sp.orI IntKind.i64 (Sp.orI IntKind.i64 (Sp.orI IntKind.i64 (Sp.andI IntKind.i64 (y16.1) (22 : Int)) (IntKind.wrap IntKind.i64 (y16.2.2.1 * (256 : Int)))) (IntKind.wrap IntKind.i64 (y16.2.2.2.1 * (65536 : Int)))) (IntKind.wrap IntKind.i64 (y16.2.2.2.2.1 * (16777216 : Int))))] ++ [IntKind.wrap IntKind.u32 (y16.2.2.2.2.2.2.1)] ++ [IntKind.wrap IntKind.u32 (↑(List.length (y16.2.2.2.2.2.1)) : Int)])) fun (y17 : List Int) => some (y17, (0 : Int), PUnit.unit))))))
theorem fn_6 (a0 : (Int × (Int × (Int × (Int × (Int × ((List Int) × (Int × Unit)))))))) : evFnL sm_6 FU (ovr (fun f' => bif Nat.beq f' 14 then some (g_6_14) else none) (evFn sm_6 fns FU 3)) (ir6_t O_6_6_0) ir6 (ofH [Zy6_2] (a0, ())) [] (pureK [(.slice (.int .u32)), (.int .i64)]) = F_6 a0 := by kernel_rfl
def Sp.p_6 (a0 : (Int × (Int × (Int × (Int × (Int × ((List Int) × (Int × Unit)))))))) : Bool := (F_6 a0).isSome
def Sp.v_6 (a0 : (Int × (Int × (Int × (Int × (Int × ((List Int) × (Int × Unit)))))))) : (List Int) × Int × Unit := (F_6 a0).getD (dfH [(.slice (.int .u32)), (.int .i64)])
def s_6 : Summ := shS [Zy6_2] [(.slice (.int .u32)), (.int .i64)] (fun x => Sp.p_6 x.1) (fun x => Sp.v_6 x.1)
theorem pv_6 (a0 : (Int × (Int × (Int × (Int × (Int × ((List Int) × (Int × Unit)))))))) {y : (List Int) × Int × Unit} (h : F_6 a0 = some y) : Sp.p_6 a0 = true ∧ Sp.v_6 a0 = y := ⟨by rw [Sp.p_6, h]; rfl, by rw [Sp.v_6, h]; rfl⟩
theorem run_6 (x : HDen [Zy6_2]) (y : HDen [(.slice (.int .u32)), (.int .i64)]) (h : F_6 x.1 = some y) : evFn sm_6 fns FU 4 6 (ofH [Zy6_2] x) [] (pureK [(.slice (.int .u32)), (.int .i64)]) = some y :=
  evFnL_sound (fn := ir6) (t := (ir6_t O_6_6_0)) (o := (fun f' => bif Nat.beq f' 14 then some (g_6_14) else none)) rfl ov_6_6_ok (ir6_tok (fun T k r => OK_6_6_0 T k r)) ((fn_6 _).trans h)
end
end Go.Ev
namespace Go.Ev
open Go
set_option maxRecDepth 100000
set_option maxHeartbeats 4000000
set_option linter.unusedVariables false
noncomputable section

def sm_9 : Nat → Option Summ := fun f => none
def T_9_0 (p0 : List Int) (p1 : List Int) (p2 : Int) (p3 : Int) : St := St.mk ([CV.pure (Ty.slice (Ty.int IntKind.u32)) p0, CV.pure (Ty.slice (Ty.int IntKind.u32)) p1] ++ (jl 10 ++ ([CV.int IntKind.i64 p2, CV.int IntKind.i64 p3] ++ (jl 12)))) [] (0 : Nat)
def X_9_0_0 : St := St.mk ([jk, jk, jk, jk, CV.bool false] ++ (jl 21)) [] (0 : Nat)
def X_9_0_1 : St := St.mk (jl 26) [] (0 : Nat)
inductive Sp.E_9_0 where
  | e0
  | e1
def Sp.B_9_0 {R : Type} (r : Option Sp.E_9_0) (k0 : Option R) (k1 : Option R) : Option R := match r with
  | none => none
  | some (.e0) => k0
  | some (.e1) => k1
def Sp.L_9_0 : Nat → (List Int) → (List Int) → (Int) → (Int) → Option Sp.E_9_0
  | 0, _, _, _, _ => none
  | m + 1, p0, p1, p2, p3 => bif decide (p3 < p2) then gd (inB p3 (List.length p0)) (gd (inB p3 (List.length p1)) (bif List.getD p0 (Int.toNat p3) (0 : Int) != List.getD p1 (Int.toNat p3) (0 : Int) then some (Sp.E_9_0.e0) else Sp.L_9_0 m p0 p1 p2 (IntKind.wrap IntKind.i64 (p3 + (1 : Int))))) else some (Sp.E_9_0.e1)
def G_9_0 {R : Type} (p0 : List Int) (p1 : List Int) (p2 : Int) (p3 : Int) (k : Ex → St → Option R) : Option R := Sp.B_9_0 (Sp.L_9_0 FU p0 p1 p2 p3) (k Ex.ret (X_9_0_0)) (k (Ex.exit (0 : Nat)) (X_9_0_1))
def o_9_0 {R : Type} (G : (List Int) → (List Int) → (Int) → (Int) → (Ex → St → Option R) → Option R) : St → (Ex → St → Option R) → Option R := fun T k => match T.sl.getD 0 .junk, T.sl.getD 1 .junk, T.sl.getD 12 .junk, T.sl.getD 13 .junk, T.hp with
  | CV.pure (Ty.slice (Ty.int IntKind.u32)) p0, CV.pure (Ty.slice (Ty.int IntKind.u32)) p1, CV.int IntKind.i64 p2, CV.int IntKind.i64 p3, [] => gd (shapeOK T 26 [0, 1, 12, 13] (0 : Nat)) (G p0 p1 p2 p3 k)
  | _, _, _, _, _ => none
theorem o_9_0_inv {R : Type} {G : (List Int) → (List Int) → (Int) → (Int) → (Ex → St → Option R) → Option R} {T : St} {k : Ex → St → Option R} {r : R} (h : o_9_0 G T k = some r) : ∃ p0 p1 p2 p3, T = T_9_0 p0 p1 p2 p3 ∧ G p0 p1 p2 p3 k = some r := by
  unfold o_9_0 at h
  split at h
  · obtain ⟨hs, h'⟩ := gd_some h
    refine ⟨_, _, _, _, (st_of (asg := [(0, _), (1, _), (12, _), (13, _)]) hs ⟨by assumption, by assumption, by assumption, by assumption, trivial⟩ (by assumption)).trans ?_, h'⟩
    kernel_rfl
  · cases h
def O_9_9_0 {R : Type} : St → (Ex → St → Option R) → Option R := fun T k => o_9_0 G_9_0 T k
theorem body_9_0 {R : Type} (K0 : St → Option R) (K1 : Ex → St → Option R) (p0 : List Int) (p1 : List Int) (p2 : Int) (p3 : Int) : evLB (evCodeL sm_9 FU (ovr noO (evFn sm_9 fns FU 0)) .nil ir9_b0) (St.norm ir9_v0) (T_9_0 p0 p1 p2 p3) K0 K1 =
  bif decide (p3 < p2) then gd (inB p3 (List.length p0)) (gd (inB p3 (List.length p1)) (bif List.getD p0 (Int.toNat p3) (0 : Int) != List.getD p1 (Int.toNat p3) (0 : Int) then K1 Ex.ret X_9_0_0 else K0 (T_9_0 p0 p1 p2 (IntKind.wrap IntKind.i64 (p3 + (1 : Int)))))) else K1 (Ex.exit (0 : Nat)) X_9_0_1 := by kernel_rfl
theorem Bgd_9_0 {R : Type} {c : Bool} {x : Option R} {y : Option Sp.E_9_0} {k0 : Option R} {k1 : Option R} (h : x = Sp.B_9_0 y k0 k1) : gd c x = Sp.B_9_0 (gd c y) k0 k1 := by cases c; rfl; exact h
theorem Bcond_9_0 {R : Type} {c : Bool} {x x' : Option R} {y y' : Option Sp.E_9_0} {k0 : Option R} {k1 : Option R} (h : x = Sp.B_9_0 y k0 k1) (h' : x' = Sp.B_9_0 y' k0 k1) : (bif c then x else x') = Sp.B_9_0 (bif c then y else y') k0 k1 := by cases c; exact h'; exact h
theorem loop_9_0 {R : Type} (k : Ex → St → Option R) : ∀ (m : Nat) (p0 : List Int) (p1 : List Int) (p2 : Int) (p3 : Int), evLoopN (evCodeL sm_9 FU (ovr noO (evFn sm_9 fns FU 0)) .nil ir9_b0) (St.norm ir9_v0) m (T_9_0 p0 p1 p2 p3) k = Sp.B_9_0 (Sp.L_9_0 m p0 p1 p2 p3) (k Ex.ret (X_9_0_0)) (k (Ex.exit (0 : Nat)) (X_9_0_1))
  | 0, _, _, _, _ => rfl
  | m + 1, p0, p1, p2, p3 => by
    rw [evLoopN_succ, body_9_0, Sp.L_9_0]
    repeat' first | apply Bgd_9_0 | apply Bcond_9_0 | exact loop_9_0 k m _ _ _ _ | rfl
theorem ok_9_0 {R : Type} (T : St) (k : Ex → St → Option R) (r : R) (h0 : o_9_0 G_9_0 T k = some r) : evLoopN (evCode sm_9 FU (evFn sm_9 fns FU 0) ir9_b0) (St.norm ir9_v0) FU T k = some r := by
  obtain ⟨p0, p1, p2, p3, rfl, h⟩ := o_9_0_inv h0
  refine evLoopN_L (t := .nil) noO_ok trivial _ _ _ _ ?_
  rw [loop_9_0]
  exact h
theorem OK_9_9_0 {R : Type} (T : St) (k : Ex → St → Option R) (r : R) (h : O_9_9_0 T k = some r) : evLoopN (evCode sm_9 FU (evFn sm_9 fns FU 0) ir9_b0) (St.norm ir9_v0) FU T k = some r := ok_9_0 T k r h
def F_9 (a0 : (List Int)) (a1 : (List Int)) : Option (Bool × Unit) :=
  bif (↑(List.length a0) : Int) != (↑(List.length a1) : Int) then some (false, PUnit.unit) else Sp.B_9_0 (Sp.L_9_0 (4611686018427387904 : Nat) a0 a1 (↑(List.length a0) : Int) (0 : Int)) (some (false, PUnit.unit)) (some (true, PUnit.unit))
theorem fn_9 (a0 : (List Int)) (a1 : (List Int)) : evFnL sm_9 FU (ovr noO (evFn sm_9 fns FU 0)) (ir9_t O_9_9_0) ir9 (ofH [(.slice (.int .u32)), (.slice (.int .u32))] (a0, a1, ())) [] (pureK [.bool]) = F_9 a0 a1 := by kernel_rfl
def Sp.p_9 (a0 : (List Int)) (a1 : (List Int)) : Bool := (F_9 a0 a1).isSome
def Sp.v_9 (a0 : (List Int)) (a1 : (List Int)) : Bool × Unit := (F_9 a0 a1).getD (dfH [.bool])
def s_9 : Summ := shN [(.slice (.int .u32)), (.slice (.int .u32))] [.bool] (fun x => Sp.p_9 x.1 x.2.1) (fun x => Sp.v_9 x.1 x.2.1)
theorem pv_9 (a0 : (List Int)) (a1 : (List Int)) {y : Bool × Unit} (h : F_9 a0 a1 = some y) : Sp.p_9 a0 a1 = true ∧ Sp.v_9 a0 a1 = y := ⟨by rw [Sp.p_9, h]; rfl, by rw [Sp.v_9, h]; rfl⟩
theorem run_9 (x : HDen [(.slice (.int .u32)), (.slice (.int .u32))]) (y : HDen [.bool]) (h : F_9 x.1 x.2.1 = some y) : evFn sm_9 fns FU 1 9 (ofH [(.slice (.int .u32)), (.slice (.int .u32))] x) [] (pureK [.bool]) = some y :=
  evFnL_sound (fn := ir9) (t := (ir9_t O_9_9_0)) (o := noO) rfl noO_ok (ir9_tok (fun T k r => OK_9_9_0 T k r)) ((fn_9 _ _).trans h)
end
end Go.Ev
namespace Go.Ev
open Go
set_option maxRecDepth 100000
set_option maxHeartbeats 4000000
set_option linter.unusedVariables false
noncomputable section

def sm_5 : Nat → Option Summ := fun f => bif Nat.beq f 6 then some s_6 else bif Nat.beq f 9 then some s_9 else none


def F_5  : Option (Bool × Unit) :=
  gd (Sp.p_6 ((6 : Int), (0 : Int), (2 : Int), (0 : Int), (3 : Int), [(5 : Int)], (9 : Int), PUnit.unit)) (bif (Sp.v_6 ((6 : Int), (0 : Int), (2 : Int), (0 : Int), (3 : Int), [(5 : Int)], (9 : Int), PUnit.unit)).2.1 == (0 : Int) then gd (Sp.p_9 ((Sp.v_6 ((6 : Int), (0 : Int), (2 : Int), (0 : Int), (3 : Int), [(5 : Int)], (9 : Int), PUnit.unit)).1) [(50332166 : Int), (9 : Int), (1 : Int), (256 : Int), (5 : Int)]) (some ((Sp.v_9 ((Sp.v_6 ((6 : Int), (0 : Int), (2 : Int), (0 : Int), (3 : Int), [(5 : Int)], (9 : Int), PUnit.unit)).1) [(50332166 : Int), (9 : Int), (1 : Int), (256 : Int), (5 : Int)]).1, PUnit.unit)) else some (false, PUnit.unit))
theorem fn_5  : evFnL sm_5 FU (ovr noO (evFn sm_5 fns FU 0)) .nil ir5 (ofH [] (())) [] (pureK [.bool]) = F_5 := by kernel_rfl
def Sp.p_5  : Bool := (F_5).isSome
def Sp.v_5  : Bool × Unit := (F_5).getD (dfH [.bool])
def s_5 : Summ := shN [] [.bool] (fun x => Sp.p_5 ) (fun x => Sp.v_5 )
theorem pv_5  {y : Bool × Unit} (h : F_5 = some y) : Sp.p_5 = true ∧ Sp.v_5 = y := ⟨by rw [Sp.p_5, h]; rfl, by rw [Sp.v_5, h]; rfl⟩
theorem run_5 (x : HDen []) (y : HDen [.bool]) (h : F_5  = some y) : evFn sm_5 fns FU 1 5 (ofH [] x) [] (pureK [.bool]) = some y :=
  evFnL_sound (fn := ir5) (t := .nil) (o := noO) rfl noO_ok trivial ((fn_5).trans h)
end
end Go.Ev
namespace Go.Ev
open Go
set_option maxRecDepth 100000
set_option maxHeartbeats 4000000
set_option linter.unusedVariables false
noncomputable section
abbrev Zy7_0 : Ty := (.pair (.int .i64) (.pair (.int .i64) (.pair (.int .i64) (.pair (.int .i64) (.pair (.int .i64) (.pair (.slice (.int .i64)) (.pair (.int .i64) .unit)))))))
abbrev Zy7_1 : Ty := (Ty.pair (Ty.int IntKind.i64) Ty.unit)

def sm_7 : Nat → Option Summ := fun f => bif Nat.beq f 6 then some s_6 else none
def T_7_0 (p0 : List Int) (p1 : Int) (p2 : Int) (p3 : Int) (p4 : Int) (p5 : Int) (p6 : Int) (p7 : Int × Unit) (p8 : List Int) (p9 : Int) (p10 : Int) (p11 : Int) (p12 : Int) (p13 : Int) (p14 : Int × Unit) (p15 : List Int) : St := St.mk ([CV.pure (Ty.slice (Ty.int IntKind.u32)) p0, jk, CV.ptr (0 : Nat) [], jk, jk, CV.ptr (2 : Nat) [], CV.int IntKind.i64 p1] ++ (jl 93)) [Blk.mem (CV.pair (CV.int IntKind.i64 p2) (CV.pair (CV.int IntKind.i64 p3) (CV.pair (CV.int IntKind.i64 p4) (CV.pair (CV.int IntKind.i64 p5) (CV.pair (CV.int IntKind.i64 p6) (CV.pair (CV.whole (1 : Nat)) (CV.pure Zy7_1 p7))))))), Blk.vec (3 : Nat) (Ty.int IntKind.i64) p8, Blk.mem (CV.pair (CV.int IntKind.i64 p9) (CV.pair (CV.int IntKind.i64 p10) (CV.pair (CV.int IntKind.i64 p11) (CV.pair (CV.int IntKind.i64 p12) (CV.pair (CV.int IntKind.i64 p13) (CV.pair (CV.whole (3 : Nat)) (CV.pure Zy7_1 p14))))))), Blk.vec (3 : Nat) (Ty.int IntKind.i64) p15] (0 : Nat)
def X_7_0_0 : St := St.mk ([jk, jk, CV.ptr (0 : Nat) [], CV.int IntKind.i64 (3 : Int)] ++ (jl 96)) [Blk.mem (CV.pair (CV.int IntKind.i64 (0 : Int)) (CV.pair (CV.int IntKind.i64 (0 : Int)) (CV.pair (CV.int IntKind.i64 (0 : Int)) (CV.pair (CV.int IntKind.i64 (0 : Int)) (CV.pair (CV.int IntKind.i64 (0 : Int)) (CV.pair (CV.whole (1 : Nat)) (CV.pure Zy7_1 (((0 : Int), PUnit.unit) : (Int × Unit))))))))), Blk.vec (3 : Nat) (Ty.int IntKind.i64) []] (0 : Nat)
def X_7_0_1 (p2 : Int) (p3 : Int) (p4 : Int) (p5 : Int) (p6 : Int) (p7 : Int × Unit) (p8 : List Int) (p9 : Int) (p10 : Int) (p11 : Int) (p12 : Int) (p13 : Int) (p14 : Int × Unit) (p15 : List Int) : St := St.mk ([jk, jk, CV.ptr (0 : Nat) [], jk, jk, CV.ptr (2 : Nat) []] ++ (jl 94)) [Blk.mem (CV.pair (CV.int IntKind.i64 p2) (CV.pair (CV.int IntKind.i64 p3) (CV.pair (CV.int IntKind.i64 p4) (CV.pair (CV.int IntKind.i64 p5) (CV.pair (CV.int IntKind.i64 p6) (CV.pair (CV.whole (1 : Nat)) (CV.pure Zy7_1 p7))))))), Blk.vec (3 : Nat) (Ty.int IntKind.i64) p8, Blk.mem (CV.pair (CV.int IntKind.i64 p9) (CV.pair (CV.int IntKind.i64 p10) (CV.pair (CV.int IntKind.i64 p11) (CV.pair (CV.int IntKind.i64 p12) (CV.pair (CV.int IntKind.i64 p13) (CV.pair (CV.whole (3 : Nat)) (CV.pure Zy7_1 p14))))))), Blk.vec (3 : Nat) (Ty.int IntKind.i64) p15] (0 : Nat)
inductive Sp.E_7_0 where
  | e0
  | e1 (p2 : Int) (p3 : Int) (p4 : Int) (p5 : Int) (p6 : Int) (p7 : Int × Unit) (p8 : List Int) (p9 : Int) (p10 : Int) (p11 : Int) (p12 : Int) (p13 : Int) (p14 : Int × Unit) (p15 : List Int)
def Sp.B_7_0 {R : Type} (r : Option Sp.E_7_0) (k0 : Option R) (k1 : (Int) → (Int) → (Int) → (Int) → (Int) → (Int × Unit) → (List Int) → (Int) → (Int) → (Int) → (Int) → (Int) → (Int × Unit) → (List Int) → Option R) : Option R := match r with
  | none => none
  | some (.e0) => k0
  | some (.e1 p2 p3 p4 p5 p6 p7 p8 p9 p10 p11 p12 p13 p14 p15) => k1 p2 p3 p4 p5 p6 p7 p8 p9 p10 p11 p12 p13 p14 p15
def Sp.L_7_0 : Nat → (List Int) → (Int) → (Int) → (Int) → (Int) → (Int) → (Int) → (Int × Unit) → (List Int) → (Int) → (Int) → (Int) → (Int) → (Int) → (Int × Unit) → (List Int) → Option Sp.E_7_0
  | 0, _, _, _, _, _, _, _, _, _, _, _, _, _, _, _, _ => none
  | m + 1, p0, p1, p2, p3, p4, p5, p6, p7, p8, p9, p10, p11, p12, p13, p14, p15 => bif decide (p1 < (↑(List.length p0) : Int)) then gd (inB p1 (List.length p0)) (bif decide (List.getD p0 (Int.toNat p1) (0 : Int) > (512 : Int)) then some (Sp.E_7_0.e0) else gd (inB p1 (List.length p0)) (gd (inB (IntKind.wrap IntKind.i64 (p1 + (1 : Int))) (List.length p0)) (gd (room (List.length p15 + (1 : Nat)) (8 : Nat)) (Sp.L_7_0 m p0 (IntKind.wrap IntKind.i64 (p1 + (2 : Int))) p2 p3 p4 p5 p6 p7 p8 p9 p10 p11 p12 p13 p14 (p15 ++ [IntKind.wrap IntKind.i64 (IntKind.wrap IntKind.i64 (IntKind.wrap IntKind.i64 (IntKind.wrap IntKind.i64 (List.getD p0 (Int.toNat p1) (0 : Int)) * (4294967296 : Int)) + IntKind.wrap IntKind.i64 (List.getD p0 (Int.toNat (IntKind.wrap IntKind.i64 (p1 + (1 : Int)))) (0 : Int))) - (1099511627776 : Int))]))))) else some (Sp.E_7_0.e1 p2 p3 p4 p5 p6 p7 p8 p9 p10 p11 p12 p13 p14 p15)
def G_7_0 {R : Type} (p0 : List Int) (p1 : Int) (p2 : Int) (p3 : Int) (p4 : Int) (p5 : Int) (p6 : Int) (p7 : Int × Unit) (p8 : List Int) (p9 : Int) (p10 : Int) (p11 : Int) (p12 : Int) (p13 : Int) (p14 : Int × Unit) (p15 : List Int) (k : Ex → St → Option R) : Option R := Sp.B_7_0 (Sp.L_7_0 FU p0 p1 p2 p3 p4 p5 p6 p7 p8 p9 p10 p11 p12 p13 p14 p15) (k Ex.ret (X_7_0_0)) (fun p2 p3 p4 p5 p6 p7 p8 p9 p10 p11 p12 p13 p14 p15 => k (Ex.exit (0 : Nat)) (X_7_0_1 p2 p3 p4 p5 p6 p7 p8 p9 p10 p11 p12 p13 p14 p15))
def o_7_0 {R : Type} (G : (List Int) → (Int) → (Int) → (Int) → (Int) → (Int) → (Int) → (Int × Unit) → (List Int) → (Int) → (Int) → (Int) → (Int) → (Int) → (Int × Unit) → (List Int) → (Ex → St → Option R) → Option R) : St → (Ex → St → Option R) → Option R := fun T k => match T.sl.getD 0 .junk, T.sl.getD 2 .junk, T.sl.getD 5 .junk, T.sl.getD 6 .junk, T.hp with
  | CV.pure (Ty.slice (Ty.int IntKind.u32)) p0, CV.ptr (0 : Nat) [], CV.ptr (2 : Nat) [], CV.int IntKind.i64 p1, ((Blk.mem (CV.pair (CV.int IntKind.i64 p2) (CV.pair (CV.int IntKind.i64 p3) (CV.pair (CV.int IntKind.i64 p4) (CV.pair (CV.int IntKind.i64 p5) (CV.pair (CV.int IntKind.i64 p6) (CV.pair (CV.whole (1 : Nat)) (CV.pure (Ty.pair (Ty.int IntKind.i64) Ty.unit) p7)))))))) :: (Blk.vec (3 : Nat) (Ty.int IntKind.i64) p8) :: (Blk.mem (CV.pair (CV.int IntKind.i64 p9) (CV.pair (CV.int IntKind.i64 p10) (CV.pair (CV.int IntKind.i64 p11) (CV.pair (CV.int IntKind.i64 p12) (CV.pair (CV.int IntKind.i64 p13) (CV.pair (CV.whole (3 : Nat)) (CV.pure (Ty.pair (Ty.int IntKind.i64) Ty.unit) p14)))))))) :: (Blk.vec (3 : Nat) (Ty.int IntKind.i64) p15) :: []) => gd (shapeOK T 100 [0, 2, 5, 6] (0 : Nat)) (G p0 p1 p2 p3 p4 p5 p6 p7 p8 p9 p10 p11 p12 p13 p14 p15 k)
  | _, _, _, _, _ => none
theorem o_7_0_inv {R : Type} {G : (List Int) → (Int) → (Int) → (Int) → (Int) → (Int) → (Int) → (Int × Unit) → (List Int) → (Int) → (Int) → (Int) → (Int) → (Int) → (Int × Unit) → (List Int) → (Ex → St → Option R) → Option R} {T : St} {k : Ex → St → Option R} {r : R} (h : o_7_0 G T k = some r) : ∃ p0 p1 p2 p3 p4 p5 p6 p7 p8 p9 p10 p11 p12 p13 p14 p15, T = T_7_0 p0 p1 p2 p3 p4 p5 p6 p7 p8 p9 p10 p11 p12 p13 p14 p15 ∧ G p0 p1 p2 p3 p4 p5 p6 p7 p8 p9 p10 p11 p12 p13 p14 p15 k = some r := by
  unfold o_7_0 at h
  split at h
  · obtain ⟨hs, h'⟩ := gd_some h
    refine ⟨_, _, _, _, _, _, _, _, _, _, _, _, _, _, _, _, (st_of (asg := [(0, _), (2, _), (5, _), (6, _)]) hs ⟨by assumption, by assumption, by assumption, by assumption, trivial⟩ (by assumption)).trans ?_, h'⟩
    kernel_rfl
  · cases h
def O_7_7_0 {R : Type} : St → (Ex → St → Option R) → Option R := fun T k => o_7_0 G_7_0 T k
theorem body_7_0 {R : Type} (K0 : St → Option R) (K1 : Ex → St → Option R) (p0 : List Int) (p1 : Int) (p2 : Int) (p3 : Int) (p4 : Int) (p5 : Int) (p6 : Int) (p7 : Int × Unit) (p8 : List Int) (p9 : Int) (p10 : Int) (p11 : Int) (p12 : Int) (p13 : Int) (p14 : Int × Unit) (p15 : List Int) : evLB (evCodeL sm_7 FU (ovr noO (evFn sm_7 fns FU 0)) .nil ir7_b0) (St.norm ir7_v0) (T_7_0 p0 p1 p2 p3 p4 p5 p6 p7 p8 p9 p10 p11 p12 p13 p14 p15) K0 K1 =
  bif decide (p1 < (↑(List.length p0) : Int)) then gd (inB p1 (List.length p0)) (bif decide (List.getD p0 (Int.toNat p1) (0 : Int) > (512 : Int)) then K1 Ex.ret X_7_0_0 else gd (inB p1 (List.length p0)) (gd (inB (IntKind.wrap IntKind.i64 (p1 + (1 : Int))) (List.length p0)) (gd (room (List.length p15 + (1 : Nat)) (8 : Nat)) (K0 (T_7_0 p0 (IntKind.wrap IntKind.i64 (p1 + (2 : Int))) p2 p3 p4 p5 p6 p7 p8 p9 p10 p11 p12 p13 p14 (p15 ++ [IntKind.wrap IntKind.i64 (IntKind.wrap IntKind.i64 (IntKind.wrap IntKind.i64 (IntKind.wrap IntKind.i64 (List.getD p0 (Int.toNat p1) (0 : Int)) * (4294967296 : Int)) + IntKind.wrap IntKind.i64 (List.getD p0 (Int.toNat (IntKind.wrap IntKind.i64 (p1 + (1 : Int)))) (0 : Int))) - (1099511627776 : Int))])))))) else K1 (Ex.exit (0 : Nat)) (X_7_0_1 p2 p3 p4 p5 p6 p7 p8 p9 p10 p11 p12 p13 p14 p15) := by kernel_rfl
theorem Bgd_7_0 {R : Type} {c : Bool} {x : Option R} {y : Option Sp.E_7_0} {k0 : Option R} {k1 : (Int) → (Int) → (Int) → (Int) → (Int) → (Int × Unit) → (List Int) → (Int) → (Int) → (Int) → (Int) → (Int) → (Int × Unit) → (List Int) → Option R} (h : x = Sp.B_7_0 y k0 k1) : gd c x = Sp.B_7_0 (gd c y) k0 k1 := by cases c; rfl; exact h
theorem Bcond_7_0 {R : Type} {c : Bool} {x x' : Option R} {y y' : Option Sp.E_7_0} {k0 : Option R} {k1 : (Int) → (Int) → (Int) → (Int) → (Int) → (Int × Unit) → (List Int) → (Int) → (Int) → (Int) → (Int) → (Int) → (Int × Unit) → (List Int) → Option R} (h : x = Sp.B_7_0 y k0 k1) (h' : x' = Sp.B_7_0 y' k0 k1) : (bif c then x else x') = Sp.B_7_0 (bif c then y else y') k0 k1 := by cases c; exact h'; exact h
theorem loop_7_0 {R : Type} (k : Ex → St → Option R) : ∀ (m : Nat) (p0 : List Int) (p1 : Int) (p2 : Int) (p3 : Int) (p4 : Int) (p5 : Int) (p6 : Int) (p7 : Int × Unit) (p8 : List Int) (p9 : Int) (p10 : Int) (p11 : Int) (p12 : Int) (p13 : Int) (p14 : Int × Unit) (p15 : List Int), evLoopN (evCodeL sm_7 FU (ovr noO (evFn sm_7 fns FU 0)) .nil ir7_b0) (St.norm ir7_v0) m (T_7_0 p0 p1 p2 p3 p4 p5 p6 p7 p8 p9 p10 p11 p12 p13 p14 p15) k = Sp.B_7_0 (Sp.L_7_0 m p0 p1 p2 p3 p4 p5 p6 p7 p8 p9 p10 p11 p12 p13 p14 p15) (k Ex.ret (X_7_0_0)) (fun p2 p3 p4 p5 p6 p7 p8 p9 p10 p11 p12 p13 p14 p15 => k (Ex.exit (0 : Nat)) (X_7_0_1 p2 p3 p4 p5 p6 p7 p8 p9 p10 p11 p12 p13 p14 p15))
  | 0, _, _, _, _, _, _, _, _, _, _, _, _, _, _, _, _ => rfl
  | m + 1, p0, p1, p2, p3, p4, p5, p6, p7, p8, p9, p10, p11, p12, p13, p14, p15 => by
    rw [evLoopN_succ, body_7_0, Sp.L_7_0]
    repeat' first | apply Bgd_7_0 | apply Bcond_7_0 | exact loop_7_0 k m _ _ _ _ _ _ _ _ _ _ _ _ _ _ _ _ | rfl
theorem ok_7_0 {R : Type} (T : St) (k : Ex → St → Option R) (r : R) (h0 : o_7_0 G_7_0 T k = some r) : evLoopN (evCode sm_7 FU (evFn sm_7 fns FU 0) ir7_b0) (St.norm ir7_v0) FU T k = some r := by
  obtain ⟨p0, p1, p2, p3, p4, p5, p6, p7, p8, p9, p10, p11, p12, p13, p14, p15, rfl, h⟩ := o_7_0_inv h0
  refine evLoopN_L (t := .nil) noO_ok trivial _ _ _ _ ?_
  rw [loop_7_0]
  exact h
theorem OK_7_7_0 {R : Type} (T : St) (k : Ex → St → Option R) (r : R) (h : O_7_7_0 T k = some r) : evLoopN (evCode sm_7 FU (evFn sm_7 fns FU 0) ir7_b0) (St.norm ir7_v0) FU T k = some r := ok_7_0 T k r h
def F_7 (a0 : (List Int)) : Option ((Int × (Int × (Int × (Int × (Int × ((List Int) × (Int × Unit))))))) × Int × Unit) :=
  bif decide ((↑(List.length a0) : Int) < (3 : Int)) then some (((0 : Int), (0 : Int), (0 : Int), (0 : Int), (0 : Int), [], (0 : Int), PUnit.unit), (3 : Int), PUnit.unit) else gd (inB (2 : Int) (List.length a0)) (bif decide (List.getD a0 (2 : Nat) (0 : Int) > (8 : Int)) then some (((0 : Int), (0 : Int), (0 : Int), (0 : Int), (0 : Int), [], (0 : Int), PUnit.unit), (3 : Int), PUnit.unit) else gd (inB (2 : Int) (List.length a0)) (bif (↑(List.length a0) : Int) != IntKind.wrap IntKind.i64 ((3 : Int) + IntKind.wrap IntKind.i64 ((2 : Int) * IntKind.wrap IntKind.i64 (List.getD a0 (2 : Nat) (0 : Int)))) then some (((0 : Int), (0 : Int), (0 : Int), (0 : Int), (0 : Int), [], (0 : Int), PUnit.unit), (3 : Int), PUnit.unit) else gd (inB (1 : Int) (List.length a0)) (bif decide (List.getD a0 (1 : Nat) (0 : Int) > (1073741824 : Int)) then some (((0 : Int), (0 : Int), (0 : Int), (0 : Int), (0 : Int), [], (0 : Int), PUnit.unit), (3 : Int), PUnit.unit) else gd (inB (0 : Int) (List.length a0)) (gd (inB (1 : Int) (List.length a0)) (bif Sp.andnI IntKind.i64 (Sp.andI IntKind.i64 (IntKind.wrap IntKind.i64 (List.getD a0 (0 : Nat) (0 : Int))) (255 : Int)) (22 : Int) != (0 : Int) then some (((0 : Int), (0 : Int), (0 : Int), (0 : Int), (0 : Int), [], (0 : Int), PUnit.unit), (3 : Int), PUnit.unit) else Sp.B_7_0 (Sp.L_7_0 (4611686018427387904 : Nat) a0 (3 : Int) (0 : Int) (0 : Int) (0 : Int) (0 : Int) (0 : Int) ((0 : Int), PUnit.unit) [] (Sp.andI IntKind.i64 (IntKind.wrap IntKind.i64 (List.getD a0 (0 : Nat) (0 : Int))) (255 : Int)) (0 : Int) (Sp.andI IntKind.i64 (Int.fdiv (IntKind.wrap IntKind.i64 (List.getD a0 (0 : Nat) (0 : Int))) (256 : Int)) (255 : Int)) (Sp.andI IntKind.i64 (Int.fdiv (IntKind.wrap IntKind.i64 (List.getD a0 (0 : Nat) (0 : Int))) (65536 : Int)) (255 : Int)) (Int.fdiv (IntKind.wrap IntKind.i64 (List.getD a0 (0 : Nat) (0 : Int))) (16777216 : Int)) (IntKind.wrap IntKind.i64 (List.getD a0 (1 : Nat) (0 : Int)), PUnit.unit) []) (some (((0 : Int), (0 : Int), (0 : Int), (0 : Int), (0 : Int), [], (0 : Int), PUnit.unit), (3 : Int), PUnit.unit)) fun (y18 y19 y20 y21 y22 : Int) (y23 : Int × Unit) (y24 : List Int) (y25 y26 y27 y28 y29 : Int) (y30 : Int × Unit) (y31 : List Int) => gd (Sp.p_6 (y25, y26, y27, y28, y29, y31, y30)) (bif (Sp.v_6 (y25, y26, y27, y28, y29, y31, y30)).2.1 != (0 : Int) then some (((0 : Int), (0 : Int), (0 : Int), (0 : Int), (0 : Int), [], (0 : Int), PUnit.unit), (3 : Int), PUnit.unit) else some ((y25, y26, y27, y28, y29, y31, y30), (0 : Int), PUnit.unit)))))))
theorem fn_7 (a0 : (List Int)) : evFnL sm_7 FU (ovr noO (evFn sm_7 fns FU 0)) (ir7_t O_7_7_0) ir7 (ofH [(.slice (.int .u32))] (a0, ())) [] (pureK [Zy7_0, (.int .i64)]) = F_7 a0 := by kernel_rfl
def Sp.p_7 (a0 : (List Int)) : Bool := (F_7 a0).isSome
def Sp.v_7 (a0 : (List Int)) : (Int × (Int × (Int × (Int × (Int × ((List Int) × (Int × Unit))))))) × Int × Unit := (F_7 a0).getD (dfH [Zy7_0, (.int .i64)])
def s_7 : Summ := shS [(.slice (.int .u32))] [Zy7_0, (.int .i64)] (fun x => Sp.p_7 x.1) (fun x => Sp.v_7 x.1)
theorem pv_7 (a0 : (List Int)) {y : (Int × (Int × (Int × (Int × (Int × ((List Int) × (Int × Unit))))))) × Int × Unit} (h : F_7 a0 = some y) : Sp.p_7 a0 = true ∧ Sp.v_7 a0 = y := ⟨by rw [Sp.p_7, h]; rfl, by rw [Sp.v_7, h]; rfl⟩
theorem run_7 (x : HDen [(.slice (.int .u32))]) (y : HDen [Zy7_0, (.int .i64)]) (h : F_7 x.1 = some y) : evFn sm_7 fns FU 1 7 (ofH [(.slice (.int .u32))] x) [] (pureK [Zy7_0, (.int .i64)]) = some y :=
  evFnL_sound (fn := ir7) (t := (ir7_t O_7_7_0)) (o := noO) rfl noO_ok (ir7_tok (fun T k r => OK_7_7_0 T k r)) ((fn_7 _).trans h)
end
end Go.Ev
namespace Go.Ev
open Go
set_option maxRecDepth 100000
set_option maxHeartbeats 4000000
set_option linter.unusedVariables false
noncomputable section

def sm_19 : Nat → Option Summ := fun f => none
def T_19_0 (p0 : List Int) (p1 : List Int) (p2 : Int) : St := St.mk ([CV.pure (Ty.slice (Ty.int IntKind.i64)) p0, CV.pure (Ty.slice (Ty.int IntKind.i64)) p1, jk, jk, jk, CV.int IntKind.i64 p2] ++ (jl 20)) [] (0 : Nat)
def X_19_0_0 : St := St.mk ([jk, jk, jk, jk, CV.bool false] ++ (jl 21)) [] (0 : Nat)
def X_19_0_1 : St := St.mk (jl 26) [] (0 : Nat)
inductive Sp.E_19_0 where
  | e0
  | e1
def Sp.B_19_0 {R : Type} (r : Option Sp.E_19_0) (k0 : Option R) (k1 : Option R) : Option R := match r with
  | none => none
  | some (.e0) => k0
  | some (.e1) => k1
def Sp.L_19_0 : Nat → (List Int) → (List Int) → (Int) → Option Sp.E_19_0
  | 0, _, _, _ => none
  | m + 1, p0, p1, p2 => bif decide (p2 < (↑(List.length p0) : Int)) then gd (inB p2 (List.length p0)) (gd (inB p2 (List.length p1)) (bif List.getD p0 (Int.toNat p2) (0 : Int) != List.getD p1 (Int.toNat p2) (0 : Int) then some (Sp.E_19_0.e0) else Sp.L_19_0 m p0 p1 (IntKind.wrap IntKind.i64 (p2 + (1 : Int))))) else some (Sp.E_19_0.e1)
def G_19_0 {R : Type} (p0 : List Int) (p1 : List Int) (p2 : Int) (k : Ex → St → Option R) : Option R := Sp.B_19_0 (Sp.L_19_0 FU p0 p1 p2) (k Ex.ret (X_19_0_0)) (k (Ex.exit (0 : Nat)) (X_19_0_1))
def o_19_0 {R : Type} (G : (List Int) → (List Int) → (Int) → (Ex → St → Option R) → Option R) : St → (Ex → St → Option R) → Option R := fun T k => match T.sl.getD 0 .junk, T.sl.getD 1 .junk, T.sl.getD 5 .junk, T.hp with
  | CV.pure (Ty.slice (Ty.int IntKind.i64)) p0, CV.pure (Ty.slice (Ty.int IntKind.i64)) p1, CV.int IntKind.i64 p2, [] => gd (shapeOK T 26 [0, 1, 5] (0 : Nat)) (G p0 p1 p2 k)
  | _, _, _, _ => none
theorem o_19_0_inv {R : Type} {G : (List Int) → (List Int) → (Int) → (Ex → St → Option R) → Option R} {T : St} {k : Ex → St → Option R} {r : R} (h : o_19_0 G T k = some r) : ∃ p0 p1 p2, T = T_19_0 p0 p1 p2 ∧ G p0 p1 p2 k = some r := by
  unfold o_19_0 at h
  split at h
  · obtain ⟨hs, h'⟩ := gd_some h
    refine ⟨_, _, _, (st_of (asg := [(0, _), (1, _), (5, _)]) hs ⟨by assumption, by assumption, by assumption, trivial⟩ (by assumption)).trans ?_, h'⟩
    kernel_rfl
  · cases h
def O_19_19_0 {R : Type} : St → (Ex → St → Option R) → Option R := fun T k => o_19_0 G_19_0 T k
theorem body_19_0 {R : Type} (K0 : St → Option R) (K1 : Ex → St → Option R) (p0 : List Int) (p1 : List Int) (p2 : Int) : evLB (evCodeL sm_19 FU (ovr noO (evFn sm_19 fns FU 0)) .nil ir19_b0) (St.norm ir19_v0) (T_19_0 p0 p1 p2) K0 K1 =
  bif decide (p2 < (↑(List.length p0) : Int)) then gd (inB p2 (List.length p0)) (gd (inB p2 (List.length p1)) (bif List.getD p0 (Int.toNat p2) (0 : Int) != List.getD p1 (Int.toNat p2) (0 : Int) then K1 Ex.ret X_19_0_0 else K0 (T_19_0 p0 p1 (IntKind.wrap IntKind.i64 (p2 + (1 : Int)))))) else K1 (Ex.exit (0 : Nat)) X_19_0_1 := by kernel_rfl
theorem Bgd_19_0 {R : Type} {c : Bool} {x : Option R} {y : Option Sp.E_19_0} {k0 : Option R} {k1 : Option R} (h : x = Sp.B_19_0 y k0 k1) : gd c x = Sp.B_19_0 (gd c y) k0 k1 := by cases c; rfl; exact h
theorem Bcond_19_0 {R : Type} {c : Bool} {x x' : Option R} {y y' : Option Sp.E_19_0} {k0 : Option R} {k1 : Option R} (h : x = Sp.B_19_0 y k0 k1) (h' : x' = Sp.B_19_0 y' k0 k1) : (bif c then x else x') = Sp.B_19_0 (bif c then y else y') k0 k1 := by cases c; exact h'; exact h
theorem loop_19_0 {R : Type} (k : Ex → St → Option R) : ∀ (m : Nat) (p0 : List Int) (p1 : List Int) (p2 : Int), evLoopN (evCodeL sm_19 FU (ovr noO (evFn sm_19 fns FU 0)) .nil ir19_b0) (St.norm ir19_v0) m (T_19_0 p0 p1 p2) k = Sp.B_19_0 (Sp.L_19_0 m p0 p1 p2) (k Ex.ret (X_19_0_0)) (k (Ex.exit (0 : Nat)) (X_19_0_1))
  | 0, _, _, _ => rfl
  | m + 1, p0, p1, p2 => by
    rw [evLoopN_succ, body_19_0, Sp.L_19_0]
    repeat' first | apply Bgd_19_0 | apply Bcond_19_0 | exact loop_19_0 k m _ _ _ | rfl
theorem ok_19_0 {R : Type} (T : St) (k : Ex → St → Option R) (r : R) (h0 : o_19_0 G_19_0 T k = some r) : evLoopN (evCode sm_19 FU (evFn sm_19 fns FU 0) ir19_b0) (St.norm ir19_v0) FU T k = some r := by
  obtain ⟨p0, p1, p2, rfl, h⟩ := o_19_0_inv h0
  refine evLoopN_L (t := .nil) noO_ok trivial _ _ _ _ ?_
  rw [loop_19_0]
  exact h
theorem OK_19_19_0 {R : Type} (T : St) (k : Ex → St → Option R) (r : R) (h : O_19_19_0 T k = some r) : evLoopN (evCode sm_19 FU (evFn sm_19 fns FU 0) ir19_b0) (St.norm ir19_v0) FU T k = some r := ok_19_0 T k r h
def F_19 (a0 : (List Int)) (a1 : (List Int)) : Option (Bool × Unit) :=
  bif (↑(List.length a0) : Int) != (↑(List.length a1) : Int) then some (false, PUnit.unit) else Sp.B_19_0 (Sp.L_19_0 (4611686018427387904 : Nat) a0 a1 (0 : Int)) (some (false, PUnit.unit)) (some (true, PUnit.unit))
theorem fn_19 (a0 : (List Int)) (a1 : (List Int)) : evFnL sm_19 FU (ovr noO (evFn sm_19 fns FU 0)) (ir19_t O_19_19_0) ir19 (ofH [(.slice (.int .i64)), (.slice (.int .i64))] (a0, a1, ())) [] (pureK [.bool]) = F_19 a0 a1 := by kernel_rfl
def Sp.p_19 (a0 : (List Int)) (a1 : (List Int)) : Bool := (F_19 a0 a1).isSome
def Sp.v_19 (a0 : (List Int)) (a1 : (List Int)) : Bool × Unit := (F_19 a0 a1).getD (dfH [.bool])
def s_19 : Summ := shN [(.slice (.int .i64)), (.slice (.int .i64))] [.bool] (fun x => Sp.p_19 x.1 x.2.1) (fun x => Sp.v_19 x.1 x.2.1)
theorem pv_19 (a0 : (List Int)) (a1 : (List Int)) {y : Bool × Unit} (h : F_19 a0 a1 = some y) : Sp.p_19 a0 a1 = true ∧ Sp.v_19 a0 a1 = y := ⟨by rw [Sp.p_19, h]; rfl, by rw [Sp.v_19, h]; rfl⟩
theorem run_19 (x : HDen [(.slice (.int .i64)), (.slice (.int .i64))]) (y : HDen [.bool]) (h : F_19 x.1 x.2.1 = some y) : evFn sm_19 fns FU 1 19 (ofH [(.slice (.int .i64)), (.slice (.int .i64))] x) [] (pureK [.bool]) = some y :=
  evFnL_sound (fn := ir19) (t := (ir19_t O_19_19_0)) (o := noO) rfl noO_ok (ir19_tok (fun T k r => OK_19_19_0 T k r)) ((fn_19 _ _).trans h)
end
end Go.Ev
namespace Go.Ev
open Go
set_option maxRecDepth 100000
set_option maxHeartbeats 4000000
set_option linter.unusedVariables false
noncomputable section

def sm_12 : Nat → Option Summ := fun f => bif Nat.beq f 19 then some s_19 else none


def F_12 (a0 : (Int × (Int × (Int × (Int × (Int × ((List Int) × (Int × Unit)))))))) (a1 : (Int × (Int × (Int × (Int × (Int × ((List Int) × (Int × Unit)))))))) : Option (Bool × Unit) :=
  bif a0.1 == a1.1 then bif a0.2.1 == a1.2.1 then bif a0.2.2.1 == a1.2.2.1 then bif a0.2.2.2.1 == a1.2.2.2.1 then bif a0.2.2.2.2.1 == a1.2.2.2.2.1 then bif a0.2.2.2.2.2.2.1 == a1.2.2.2.2.2.2.1 then gd (Sp.p_19 (a0.2.2.2.2.2.1) (a1.2.2.2.2.2.1)) (some ((Sp.v_19 (a0.2.2.2.2.2.1) (a1.2.2.2.2.2.1)).1, PUnit.unit)) else some (false, PUnit.unit) else some (false, PUnit.unit) else some (false, PUnit.unit) else some (false, PUnit.unit) else some (false, PUnit.unit) else some (false, PUnit.unit)
theorem fn_12 (a0 : (Int × (Int × (Int × (Int × (Int × ((List Int) × (Int × Unit)))))))) (a1 : (Int × (Int × (Int × (Int × (Int × ((List Int) × (Int × Unit)))))))) : evFnL sm_12 FU (ovr noO (evFn sm_12 fns FU 0)) .nil ir12 (ofH [(.pair (.int .i64) (.pair (.int .i64) (.pair (.int .i64) (.pair (.int .i64) (.pair (.int .i64) (.pair (.slice (.int .i64)) (.pair (.int .i64) .unit))))))), (.pair (.int .i64) (.pair (.int .i64) (.pair (.int .i64) (.pair (.int .i64) (.pair (.int .i64) (.pair (.slice (.int .i64)) (.pair (.int .i64) .unit)))))))] (a0, a1, ())) [] (pureK [.bool]) = F_12 a0 a1 := by kernel_rfl
def Sp.p_12 (a0 : (Int × (Int × (Int × (Int × (Int × ((List Int) × (Int × Unit)))))))) (a1 : (Int × (Int × (Int × (Int × (Int × ((List Int) × (Int × Unit)))))))) : Bool := (F_12 a0 a1).isSome
def Sp.v_12 (a0 : (Int × (Int × (Int × (Int × (Int × ((List Int) × (Int × Unit)))))))) (a1 : (Int × (Int × (Int × (Int × (Int × ((List Int) × (Int × Unit)))))))) : Bool × Unit := (F_12 a0 a1).getD (dfH [.bool])
def s_12 : Summ := shN [(.pair (.int .i64) (.pair (.int .i64) (.pair (.int .i64) (.pair (.int .i64) (.pair (.int .i64) (.pair (.slice (.int .i64)) (.pair (.int .i64) .unit))))))), (.pair (.int .i64) (.pair (.int .i64) (.pair (.int .i64) (.pair (.int .i64) (.pair (.int .i64) (.pair (.slice (.int .i64)) (.pair (.int .i64) .unit)))))))] [.bool] (fun x => Sp.p_12 x.1 x.2.1) (fun x => Sp.v_12 x.1 x.2.1)
theorem pv_12 (a0 : (Int × (Int × (Int × (Int × (Int × ((List Int) × (Int × Unit)))))))) (a1 : (Int × (Int × (Int × (Int × (Int × ((List Int) × (Int × Unit)))))))) {y : Bool × Unit} (h : F_12 a0 a1 = some y) : Sp.p_12 a0 a1 = true ∧ Sp.v_12 a0 a1 = y := ⟨by rw [Sp.p_12, h]; rfl, by rw [Sp.v_12, h]; rfl⟩
theorem run_12 (x : HDen [(.pair (.int .i64) (.pair (.int .i64) (.pair (.int .i64) (.pair (.int .i64) (.pair (.int .i64) (.pair (.slice (.int .i64)) (.pair (.int .i64) .unit))))))), (.pair (.int .i64) (.pair (.int .i64) (.pair (.int .i64) (.pair (.int .i64) (.pair (.int .i64) (.pair (.slice (.int .i64)) (.pair (.int .i64) .unit)))))))]) (y : HDen [.bool]) (h : F_12 x.1 x.2.1 = some y) : evFn sm_12 fns FU 1 12 (ofH [(.pair (.int .i64) (.pair (.int .i64) (.pair (.int .i64) (.pair (.int .i64) (.pair (.int .i64) (.pair (.slice (.int .i64)) (.pair (.int .i64) .unit))))))), (.pair (.int .i64) (.pair (.int .i64) (.pair (.int .i64) (.pair (.int .i64) (.pair (.int .i64) (.pair (.slice (.int .i64)) (.pair (.int .i64) .unit)))))))] x) [] (pureK [.bool]) = some y :=
  evFnL_sound (fn := ir12) (t := .nil) (o := noO) rfl noO_ok trivial ((fn_12 _ _).trans h)
end
end Go.Ev
namespace Go.Ev
open Go
set_option maxRecDepth 100000
set_option maxHeartbeats 4000000
set_option linter.unusedVariables false
noncomputable section

def sm_4 : Nat → Option Summ := fun f => bif Nat.beq f 5 then some s_5 else bif Nat.beq f 6 then some s_6 else bif Nat.beq f 7 then some s_7 else bif Nat.beq f 9 then some s_9 else bif Nat.beq f 12 then some s_12 else none
def T_4_0 (p0 : List Int) : St := St.mk ([jk, CV.pure (Ty.slice (Ty.int IntKind.u32)) p0] ++ (jl 73)) [] (0 : Nat)
def X_4_0_0 (p0 : List Int) : St := St.mk ([jk, jk, jk, jk, CV.bool ((Sp.v_7 p0).2.1 == (3 : Int))] ++ (jl 70)) [] (0 : Nat)
def X_4_0_1 (p0 : List Int) : St := St.mk ([jk, jk, jk, jk, CV.bool ((Sp.v_9 ((Sp.v_6 ((Sp.v_7 p0).1)).1) p0).1)] ++ (jl 70)) [] (0 : Nat)
def X_4_0_2 : St := St.mk ([jk, jk, jk, jk, CV.bool false] ++ (jl 70)) [] (0 : Nat)
inductive Sp.E_4_0 where
  | e0 (p0 : List Int)
  | e1 (p0 : List Int)
  | e2
def Sp.B_4_0 {R : Type} (r : Option Sp.E_4_0) (k0 : (List Int) → Option R) (k1 : (List Int) → Option R) (k2 : Option R) : Option R := match r with
  | none => none
  | some (.e0 p0) => k0 p0
  | some (.e1 p0) => k1 p0
  | some (.e2) => k2
def Sp.J_4_0 (p0 : List Int) : Option Sp.E_4_0 :=
  gd (Sp.p_7 p0) (bif (Sp.v_7 p0).2.1 != (0 : Int) then some (Sp.E_4_0.e0 p0) else gd (Sp.p_6 ((Sp.v_7 p0).1)) (bif (Sp.v_6 ((Sp.v_7 p0).1)).2.1 == (0 : Int) then gd (Sp.p_9 ((Sp.v_6 ((Sp.v_7 p0).1)).1) p0) (some (Sp.E_4_0.e1 p0)) else some (Sp.E_4_0.e2)))
def G_4_0 {R : Type} (p0 : List Int) (k : Ex → St → Option R) : Option R := Sp.B_4_0 (Sp.J_4_0 p0) (fun p0 => k Ex.ret (X_4_0_0 p0)) (fun p0 => k Ex.ret (X_4_0_1 p0)) (k Ex.ret (X_4_0_2))
def o_4_0 {R : Type} (G : (List Int) → (Ex → St → Option R) → Option R) : St → (Ex → St → Option R) → Option R := fun T k => match T.sl.getD 1 .junk, T.hp with
  | CV.pure (Ty.slice (Ty.int IntKind.u32)) p0, [] => gd (shapeOK T 75 [1] (0 : Nat)) (G p0 k)
  | _, _ => none
theorem o_4_0_inv {R : Type} {G : (List Int) → (Ex → St → Option R) → Option R} {T : St} {k : Ex → St → Option R} {r : R} (h : o_4_0 G T k = some r) : ∃ p0, T = T_4_0 p0 ∧ G p0 k = some r := by
  unfold o_4_0 at h
  split at h
  · obtain ⟨hs, h'⟩ := gd_some h
    refine ⟨_, (st_of (asg := [(1, _)]) hs ⟨by assumption, trivial⟩ (by assumption)).trans ?_, h'⟩
    kernel_rfl
  · cases h
def O_4_4_0 {R : Type} : St → (Ex → St → Option R) → Option R := fun T k => o_4_0 G_4_0 T k
theorem body_4_0 {R : Type} (K1 : Ex → St → Option R) (p0 : List Int) : evJ (evCodeL sm_4 FU (ovr noO (evFn sm_4 fns FU 0)) .nil ir4_b0) (T_4_0 p0) K1 =
  gd (Sp.p_7 p0) (bif (Sp.v_7 p0).2.1 != (0 : Int) then K1 Ex.ret (X_4_0_0 p0) else gd (Sp.p_6 ((Sp.v_7 p0).1)) (bif (Sp.v_6 ((Sp.v_7 p0).1)).2.1 == (0 : Int) then gd (Sp.p_9 ((Sp.v_6 ((Sp.v_7 p0).1)).1) p0) (K1 Ex.ret (X_4_0_1 p0)) else K1 Ex.ret X_4_0_2)) := by kernel_rfl
theorem Bgd_4_0 {R : Type} {c : Bool} {x : Option R} {y : Option Sp.E_4_0} {k0 : (List Int) → Option R} {k1 : (List Int) → Option R} {k2 : Option R} (h : x = Sp.B_4_0 y k0 k1 k2) : gd c x = Sp.B_4_0 (gd c y) k0 k1 k2 := by cases c; rfl; exact h
theorem Bcond_4_0 {R : Type} {c : Bool} {x x' : Option R} {y y' : Option Sp.E_4_0} {k0 : (List Int) → Option R} {k1 : (List Int) → Option R} {k2 : Option R} (h : x = Sp.B_4_0 y k0 k1 k2) (h' : x' = Sp.B_4_0 y' k0 k1 k2) : (bif c then x else x') = Sp.B_4_0 (bif c then y else y') k0 k1 k2 := by cases c; exact h'; exact h
theorem loop_4_0 {R : Type} (k : Ex → St → Option R) (p0 : List Int) : evJ (evCodeL sm_4 FU (ovr noO (evFn sm_4 fns FU 0)) .nil ir4_b0) (T_4_0 p0) k = Sp.B_4_0 (Sp.J_4_0 p0) (fun p0 => k Ex.ret (X_4_0_0 p0)) (fun p0 => k Ex.ret (X_4_0_1 p0)) (k Ex.ret (X_4_0_2)) := by
  rw [body_4_0, Sp.J_4_0]
  repeat' first | apply Bgd_4_0 | apply Bcond_4_0 | rfl
theorem ok_4_0 {R : Type} (T : St) (k : Ex → St → Option R) (r : R) (h0 : o_4_0 G_4_0 T k = some r) : evCode sm_4 FU (evFn sm_4 fns FU 0) ir4_b0 T k = some r := by
  obtain ⟨p0, rfl, h⟩ := o_4_0_inv h0
  refine bodyL_sound (t := .nil) noO_ok trivial (((show ∀ (b : St → (Ex → St → Option R) → Option R) (T : St) (k : Ex → St → Option R), b T k = evJ b T k from fun _ _ _ => rfl) _ _ _).trans ((loop_4_0 k p0).trans h))
theorem OK_4_4_0 {R : Type} (T : St) (k : Ex → St → Option R) (r : R) (h : O_4_4_0 T k = some r) : evCode sm_4 FU (evFn sm_4 fns FU 0) ir4_b0 T k = some r := ok_4_0 T k r h
def F_4 (a0 : (Int × (Int × (Int × (Int × (Int × ((List Int) × (Int × Unit)))))))) (a1 : (List Int)) : Option (Bool) :=
  gd Sp.p_5 (bif !Sp.v_5.1 then gd Sp.p_5 (some (Sp.v_5.1)) else bif decide ((↑(List.length (a0.2.2.2.2.2.1)) : Int) > (100 : Int)) then gd Sp.p_5 (some (Sp.v_5.1)) else bif decide ((↑(List.length a1) : Int) > (100 : Int)) then gd Sp.p_5 (some (Sp.v_5.1)) else gd (Sp.p_6 a0) (bif (Sp.v_6 a0).2.1 == (0 : Int) then gd (Sp.p_7 ((Sp.v_6 a0).1)) (bif (Sp.v_7 ((Sp.v_6 a0).1)).2.1 != (0 : Int) then some false else gd (Sp.p_12 ((Sp.v_7 ((Sp.v_6 a0).1)).1) (Sp.andI IntKind.i64 (a0.1) (22 : Int), (0 : Int), a0.2.2)) (bif !(Sp.v_12 ((Sp.v_7 ((Sp.v_6 a0).1)).1) (Sp.andI IntKind.i64 (a0.1) (22 : Int), (0 : Int), a0.2.2)).1 then some false else Sp.B_4_0 (Sp.J_4_0 a1) (fun (y16 : List Int) => some ((Sp.v_7 y16).2.1 == (3 : Int))) (fun (y17 : List Int) => some ((Sp.v_9 ((Sp.v_6 ((Sp.v_7 y17).1)).1) y17).1)) (some false))) else Sp.B_4_0 (Sp.J_4_0 a1) (fun (y18 : List Int) => some ((Sp.v_7 y18).2.1 == (3 : Int))) (fun (y19 : List Int) => some ((Sp.v_9 ((Sp.v_6 ((Sp.v_7 y19).1)).1) y19).1)) (some false)))
theorem fn_4 (a0 : (Int × (Int × (Int × (Int × (Int × ((List Int) × (Int × Unit)))))))) (a1 : (List Int)) : evFnL sm_4 FU (ovr noO (evFn sm_4 fns FU 0)) (ir4_t O_4_4_0) ir4 (ofH [(.pair (.int .i64) (.pair (.int .i64) (.pair (.int .i64) (.pair (.int .i64) (.pair (.int .i64) (.pair (.slice (.int .i64)) (.pair (.int .i64) .unit))))))), (.slice (.int .u32))] (a0, a1, ())) [] bk = F_4 a0 a1 := by kernel_rfl
theorem run_4 (a0 : (Int × (Int × (Int × (Int × (Int × ((List Int) × (Int × Unit)))))))) (a1 : (List Int)) {b : Bool} (h : F_4 a0 a1 = some b) : evFn sm_4 fns FU 1 4 (ofH [(.pair (.int .i64) (.pair (.int .i64) (.pair (.int .i64) (.pair (.int .i64) (.pair (.int .i64) (.pair (.slice (.int .i64)) (.pair (.int .i64) .unit))))))), (.slice (.int .u32))] (a0, a1, ())) [] bk = some b :=
  evFnL_sound (fn := ir4) (t := (ir4_t O_4_4_0)) (o := noO) rfl noO_ok (ir4_tok (fun T k r => OK_4_4_0 T k r)) ((fn_4 _ _).trans h)
end
end Go.Ev
namespace Go.Proofs
open Go.Shelf
end Go.Proofs
namespace Go.Ev
open Go Go.Proofs Go.RowKit
set_option maxRecDepth 100000
set_option maxHeartbeats 4000000
def smB : Nat → Bool := fun f => [5, 6, 7, 8, 9, 10, 11, 12, 13, 15, 16, 18, 19].contains f
theorem hm0 : Try.prog.follows .mixedOrders = true := by kernel_rfl
theorem key4 : fnKey Try.prog smB 4 = ir4.key := by kernel_rfl
theorem key5 : fnKey Try.prog smB 5 = ir5.key := by kernel_rfl
theorem key6 : fnKey Try.prog smB 6 = ir6.key := by kernel_rfl
theorem key7 : fnKey Try.prog smB 7 = ir7.key := by kernel_rfl
theorem key9 : fnKey Try.prog smB 9 = ir9.key := by kernel_rfl
theorem key12 : fnKey Try.prog smB 12 = ir12.key := by kernel_rfl
theorem key13 : fnKey Try.prog smB 13 = ir13.key := by kernel_rfl
theorem key14 : fnKey Try.prog smB 14 = ir14.key := by kernel_rfl
theorem key15 : fnKey Try.prog smB 15 = ir15.key := by kernel_rfl
theorem key16 : fnKey Try.prog smB 16 = ir16.key := by kernel_rfl
theorem key17 : fnKey Try.prog smB 17 = ir17.key := by kernel_rfl
theorem key19 : fnKey Try.prog smB 19 = ir19.key := by kernel_rfl
theorem key20 : fnKey Try.prog smB 20 = ir20.key := by kernel_rfl
theorem fns_ok : FnsOK Try.prog smB fns := by
  intro f fn h
  unfold fns at h
  split at h
  · simp only [Option.some.injEq] at h; subst h; exact key4
  · simp only [Option.some.injEq] at h; subst h; exact key5
  · simp only [Option.some.injEq] at h; subst h; exact key6
  · simp only [Option.some.injEq] at h; subst h; exact key7
  · simp only [Option.some.injEq] at h; subst h; exact key9
  · simp only [Option.some.injEq] at h; subst h; exact key12
  · simp only [Option.some.injEq] at h; subst h; exact key13
  · simp only [Option.some.injEq] at h; subst h; exact key14
  · simp only [Option.some.injEq] at h; subst h; exact key15
  · simp only [Option.some.injEq] at h; subst h; exact key16
  · simp only [Option.some.injEq] at h; subst h; exact key17
  · simp only [Option.some.injEq] at h; subst h; exact key19
  · simp only [Option.some.injEq] at h; subst h; exact key20
  · cases h
theorem smok_13 : ∀ f s, sm_13 f = some s → SummOK Try.prog f s := by
  intro f s h
  unfold sm_13 at h
  cases h
theorem call_13 {R : Type} (n base : Nat) : CallOK Try.prog base (evFn (R := R) sm_13 fns FU n) := ev_sound hm0 smok_13 (fun f s h => (smok_13 f s h).2.1) fns_ok n
theorem sok_13 : SummOK Try.prog 13 s_13 := summ_shN (by decide) (fun _ => rfl) (fun _ => rfl) (call_13 1) (by kernel_rfl) run_13
theorem smok_16 : ∀ f s, sm_16 f = some s → SummOK Try.prog f s := by
  intro f s h
  unfold sm_16 at h
  cases h
theorem call_16 {R : Type} (n base : Nat) : CallOK Try.prog base (evFn (R := R) sm_16 fns FU n) := ev_sound hm0 smok_16 (fun f s h => (smok_16 f s h).2.1) fns_ok n
theorem sok_16 : SummOK Try.prog 16 s_16 := summ_shN (by decide) (fun _ => rfl) (fun _ => rfl) (call_16 1) (by kernel_rfl) run_16
theorem smok_6 : ∀ f s, sm_6 f = some s → SummOK Try.prog f s := by
  intro f s h
  unfold sm_6 at h
  by_cases h13 : f = 13
  · subst h13
    injection h with h
    subst h
    exact sok_13
  rw [nbeq_ne h13, cond_false] at h
  by_cases h16 : f = 16
  · subst h16
    injection h with h
    subst h
    exact sok_16
  rw [nbeq_ne h16, cond_false] at h
  cases h
theorem call_6 {R : Type} (n base : Nat) : CallOK Try.prog base (evFn (R := R) sm_6 fns FU n) := ev_sound hm0 smok_6 (fun f s h => (smok_6 f s h).2.1) fns_ok n
theorem sok_6 : SummOK Try.prog 6 s_6 := summ_sh (fun _ => rfl) (fun _ => rfl) (call_6 4) (by kernel_rfl) run_6
theorem smok_9 : ∀ f s, sm_9 f = some s → SummOK Try.prog f s := by
  intro f s h
  unfold sm_9 at h
  cases h
theorem call_9 {R : Type} (n base : Nat) : CallOK Try.prog base (evFn (R := R) sm_9 fns FU n) := ev_sound hm0 smok_9 (fun f s h => (smok_9 f s h).2.1) fns_ok n
theorem sok_9 : SummOK Try.prog 9 s_9 := summ_shN (by decide) (fun _ => rfl) (fun _ => rfl) (call_9 1) (by kernel_rfl) run_9
theorem smok_5 : ∀ f s, sm_5 f = some s → SummOK Try.prog f s := by
  intro f s h
  unfold sm_5 at h
  by_cases h6 : f = 6
  · subst h6
    injection h with h
    subst h
    exact sok_6
  rw [nbeq_ne h6, cond_false] at h
  by_cases h9 : f = 9
  · subst h9
    injection h with h
    subst h
    exact sok_9
  rw [nbeq_ne h9, cond_false] at h
  cases h
theorem call_5 {R : Type} (n base : Nat) : CallOK Try.prog base (evFn (R := R) sm_5 fns FU n) := ev_sound hm0 smok_5 (fun f s h => (smok_5 f s h).2.1) fns_ok n
theorem sok_5 : SummOK Try.prog 5 s_5 := summ_shN (by decide) (fun _ => rfl) (fun _ => rfl) (call_5 1) (by kernel_rfl) run_5
theorem smok_7 : ∀ f s, sm_7 f = some s → SummOK Try.prog f s := by
  intro f s h
  unfold sm_7 at h
  by_cases h6 : f = 6
  · subst h6
    injection h with h
    subst h
    exact sok_6
  rw [nbeq_ne h6, cond_false] at h
  cases h
theorem call_7 {R : Type} (n base : Nat) : CallOK Try.prog base (evFn (R := R) sm_7 fns FU n) := ev_sound hm0 smok_7 (fun f s h => (smok_7 f s h).2.1) fns_ok n
theorem sok_7 : SummOK Try.prog 7 s_7 := summ_sh (fun _ => rfl) (fun _ => rfl) (call_7 1) (by kernel_rfl) run_7
theorem smok_19 : ∀ f s, sm_19 f = some s → SummOK Try.prog f s := by
  intro f s h
  unfold sm_19 at h
  cases h
theorem call_19 {R : Type} (n base : Nat) : CallOK Try.prog base (evFn (R := R) sm_19 fns FU n) := ev_sound hm0 smok_19 (fun f s h => (smok_19 f s h).2.1) fns_ok n
theorem sok_19 : SummOK Try.prog 19 s_19 := summ_shN (by decide) (fun _ => rfl) (fun _ => rfl) (call_19 1) (by kernel_rfl) run_19
theorem smok_12 : ∀ f s, sm_12 f = some s → SummOK Try.prog f s := by
  intro f s h
  unfold sm_12 at h
  by_cases h19 : f = 19
  · subst h19
    injection h with h
    subst h
    exact sok_19
  rw [nbeq_ne h19, cond_false] at h
  cases h
theorem call_12 {R : Type} (n base : Nat) : CallOK Try.prog base (evFn (R := R) sm_12 fns FU n) := ev_sound hm0 smok_12 (fun f s h => (smok_12 f s h).2.1) fns_ok n
theorem sok_12 : SummOK Try.prog 12 s_12 := summ_shN (by decide) (fun _ => rfl) (fun _ => rfl) (call_12 1) (by kernel_rfl) run_12
theorem smok_4 : ∀ f s, sm_4 f = some s → SummOK Try.prog f s := by
  intro f s h
  unfold sm_4 at h
  by_cases h5 : f = 5
  · subst h5
    injection h with h
    subst h
    exact sok_5
  rw [nbeq_ne h5, cond_false] at h
  by_cases h6 : f = 6
  · subst h6
    injection h with h
    subst h
    exact sok_6
  rw [nbeq_ne h6, cond_false] at h
  by_cases h7 : f = 7
  · subst h7
    injection h with h
    subst h
    exact sok_7
  rw [nbeq_ne h7, cond_false] at h
  by_cases h9 : f = 9
  · subst h9
    injection h with h
    subst h
    exact sok_9
  rw [nbeq_ne h9, cond_false] at h
  by_cases h12 : f = 12
  · subst h12
    injection h with h
    subst h
    exact sok_12
  rw [nbeq_ne h12, cond_false] at h
  cases h
theorem call_4 {R : Type} (n base : Nat) : CallOK Try.prog base (evFn (R := R) sm_4 fns FU n) := ev_sound hm0 smok_4 (fun f s h => (smok_4 f s h).2.1) fns_ok n
end Go.Ev
