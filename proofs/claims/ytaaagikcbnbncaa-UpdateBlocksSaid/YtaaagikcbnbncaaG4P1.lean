/- Helpers: functions of the program as Lean functions, and what they compute. No condition. -/
import Derived.Test.YtaaagikcbnbncaaProg
import Derived.Test.YtaaagikcbnbncaaE4P2
import Derived.Test.YtaaagikcbnbncaaG4P0
set_option maxRecDepth 10000
set_option linter.unusedVariables false
set_option linter.unusedSimpArgs false
open Go.IntKind (wrap i64 i32 i16 i8 u64 u32 u16 u8)
open List (getD length take drop replicate)
open Int (toNat)
open Go.Ev.Sp
namespace Go.Proofs
open Go.Shelf
noncomputable def Try.clone25_ren : Go.Shelf.Ren := ⟨fun | 41 => 25 | n => n, fun | 22 => 36 | 23 => 42 | 4 => 4 | n => n, fun | n => n⟩
theorem Try.clone25 : Go.Proofs.SlLaysE0.n41 Try.prog Try.clone25_ren := {
 mixed := by kernel_rfl
 f41 := ⟨Try.f25.name, by decide, Try.func25.trans (congrArg some (by kernel_rfl))⟩
 t4 := Try.underlying4
 a4 := Try.isAgg4
 z4 := Try.sizeOf4
 v4 := Try.zeroValue4
 t22 := Try.underlying36
 a22 := Try.isAgg36
 z22 := Try.sizeOf36
 v22 := Try.zeroValue36 }
noncomputable def Try.clone75_ren : Go.Shelf.Ren := ⟨fun | 41 => 75 | n => n, fun | 22 => 37 | 23 => 3 | 4 => 4 | n => n, fun | n => n⟩
theorem Try.clone75 : Go.Proofs.SlLaysE0.n41 Try.prog Try.clone75_ren := {
 mixed := by kernel_rfl
 f41 := ⟨Try.f75.name, by decide, Try.func75.trans (congrArg some (by kernel_rfl))⟩
 t4 := Try.underlying4
 a4 := Try.isAgg4
 z4 := Try.sizeOf4
 v4 := Try.zeroValue4
 t22 := Try.underlying37
 a22 := Try.isAgg37
 z22 := Try.sizeOf37
 v22 := Try.zeroValue37 }
end Go.Proofs
namespace Go.Ev
open Go Go.Proofs Go.RowKit
set_option maxRecDepth 100000
set_option maxHeartbeats 4000000
theorem info25 : ∃ i, Try.prog.info? 42 = some i ∧ i.zero = some (.int .u32 0) ∧ i.size = 1 ∧ i.bytes = 4 := ⟨_, rfl, by kernel_rfl, by kernel_rfl, by kernel_rfl⟩
theorem sok_25 : SummOK Try.prog 25 (vecS (.int .u32) 42 4) := by
 obtain ⟨i, hi, h0, h1, h2⟩ := info25
 exact clone_vec (by kernel_rfl) (by decide)
   (fun b off n c news w hl hn hb hc h3 => AnyE.slices_Clone Try.clone25 i _ 1 4 hi h0 h1 h2 (by kernel_rfl) (by decide) Try.sizeOf42 b off n c news w hl hn hb hc h3)
   (fun n c w => AnyE.slices_Clone_nil Try.clone25 n c w)
   (fun a c w => clone_zero Try.clone25 i _ 1 4 hi h0 h1 h2 (by kernel_rfl) (by decide) Try.sizeOf42 a c w)
theorem info75 : ∃ i, Try.prog.info? 3 = some i ∧ i.zero = some (.int .i64 0) ∧ i.size = 1 ∧ i.bytes = 8 := ⟨_, rfl, by kernel_rfl, by kernel_rfl, by kernel_rfl⟩
theorem sok_75 : SummOK Try.prog 75 (vecS (.int .i64) 3 8) := by
 obtain ⟨i, hi, h0, h1, h2⟩ := info75
 exact clone_vec (by kernel_rfl) (by decide)
   (fun b off n c news w hl hn hb hc h3 => AnyE.slices_Clone Try.clone75 i _ 1 8 hi h0 h1 h2 (by kernel_rfl) (by decide) Try.sizeOf3 b off n c news w hl hn hb hc h3)
   (fun n c w => AnyE.slices_Clone_nil Try.clone75 n c w)
   (fun a c w => clone_zero Try.clone75 i _ 1 8 hi h0 h1 h2 (by kernel_rfl) (by decide) Try.sizeOf3 a c w)
theorem sok_73 : SummOK Try.prog 73 s_73 := sokN hm0 run_73 trivial
theorem sok_36 : SummOK Try.prog 36 s_36 := sokN hm0 run_36 ⟨sok_73, trivial⟩
theorem sok_10 : SummOK Try.prog 10 s_10 := sokN hm0 run_10 ⟨sok_36, trivial⟩
theorem sok_11 : SummOK Try.prog 11 s_11 := sokS hm0 run_11 trivial
theorem sok_37 : SummOK Try.prog 37 s_37 := sokN hm0 run_37 trivial
theorem sok_85 : SummOK Try.prog 85 s_85 := sokN hm0 run_85 trivial
theorem sok_100 : SummOK Try.prog 100 s_100 := sokN hm0 run_100 trivial
theorem sok_74 : SummOK Try.prog 74 s_74 := sokS hm0 run_74 ⟨sok_85, sok_100, trivial⟩
theorem sok_38 : SummOK Try.prog 38 s_38 := sokN hm0 run_38 ⟨sok_74, trivial⟩
theorem sok_13 : SummOK Try.prog 13 s_13 := sokN hm0 run_13 ⟨sok_37, sok_38, trivial⟩
theorem sok_69 : SummOK Try.prog 69 s_69 := sokN hm0 run_69 trivial
theorem sok_70 : SummOK Try.prog 70 s_70 := sokN hm0 run_70 trivial
theorem sok_33 : SummOK Try.prog 33 s_33 := sokN hm0 run_33 ⟨sok_69, sok_70, trivial⟩
theorem sok_41 : SummOK Try.prog 41 s_41 := sokS hm0 run_41 trivial
theorem sok_44 : SummOK Try.prog 44 s_44 := sokN hm0 run_44 trivial
theorem sok_61 : SummOK Try.prog 61 s_61 := sokN hm0 run_61 trivial
theorem sok_101 : SummOK Try.prog 101 s_101 := sokN hm0 run_101 ⟨sok_69, trivial⟩
theorem sok_76 : SummOK Try.prog 76 s_76 := sokS hm0 run_76 ⟨sok_25, sok_75, sok_101, trivial⟩
theorem sok_27 : SummOK Try.prog 27 s_27 := sokS hm0 run_27 ⟨sok_13, sok_25, sok_33, sok_37, sok_38, sok_41, sok_44, sok_61, sok_75, sok_76, trivial⟩
theorem sok_28 : SummOK Try.prog 28 s_28 := sokN hm0 run_28 trivial
theorem sok_68 : SummOK Try.prog 68 s_68 := sokN hm0 run_68 trivial
theorem sok_32 : SummOK Try.prog 32 s_32 := sokN hm0 run_32 ⟨sok_68, trivial⟩
theorem sok_124 : SummOK Try.prog 124 s_124 := sokN hm0 run_124 trivial
theorem sok_125 : SummOK Try.prog 125 s_125 := sokN hm0 run_125 trivial
theorem sok_118 : SummOK Try.prog 118 s_118 := sokN hm0 run_118 ⟨sok_124, sok_125, trivial⟩
theorem sok_99 : SummOK Try.prog 99 s_99 := sokS hm0 run_99 ⟨sok_118, trivial⟩
theorem sok_72 : SummOK Try.prog 72 s_72 := sokS hm0 run_72 ⟨sok_99, trivial⟩
theorem sok_35 : SummOK Try.prog 35 s_35 := sokS hm0 run_35 ⟨sok_70, sok_72, trivial⟩
theorem sok_8 : SummOK Try.prog 8 s_8 := sokN hm0 run_8 ⟨sok_10, sok_11, sok_13, sok_27, sok_28, sok_32, sok_35, trivial⟩
theorem sok_9 : SummOK Try.prog 9 s_9 := sokN hm0 run_9 trivial
theorem sok_15 : SummOK Try.prog 15 s_15 := sokN hm0 run_15 trivial
theorem sok_40 : SummOK Try.prog 40 s_40 := sokN hm0 run_40 ⟨sok_13, sok_33, sok_37, sok_38, sok_44, sok_61, trivial⟩
theorem sok_16 : SummOK Try.prog 16 s_16 := sokS hm0 run_16 ⟨sok_25, sok_40, sok_41, sok_44, sok_75, sok_76, trivial⟩
theorem sok_56 : SummOK Try.prog 56 s_56 := sokN hm0 run_56 trivial
theorem sok_39 : SummOK Try.prog 39 s_39 := sokN hm0 run_39 ⟨sok_56, trivial⟩
theorem sok_14 : SummOK Try.prog 14 s_14 := sokN hm0 run_14 ⟨sok_10, sok_39, trivial⟩
theorem sok_104 : SummOK Try.prog 104 s_104 := sokN hm0 run_104 trivial
theorem sok_77 : SummOK Try.prog 77 s_77 := sokN hm0 run_77 ⟨sok_104, trivial⟩
theorem sok_78 : SummOK Try.prog 78 s_78 := sokN hm0 run_78 trivial
theorem sok_46 : SummOK Try.prog 46 s_46 := sokN hm0 run_46 ⟨sok_77, sok_78, trivial⟩
theorem sok_47 : SummOK Try.prog 47 s_47 := sokN hm0 run_47 trivial
theorem sok_48 : SummOK Try.prog 48 s_48 := sokN hm0 run_48 ⟨sok_39, trivial⟩
theorem sok_17 : SummOK Try.prog 17 s_17 := sokN hm0 run_17 ⟨sok_14, sok_46, sok_47, sok_48, trivial⟩
theorem sok_18 : SummOK Try.prog 18 s_18 := sokN hm0 run_18 trivial
theorem sok_105 : SummOK Try.prog 105 s_105 := sokN hm0 run_105 trivial
theorem sok_79 : SummOK Try.prog 79 s_79 := sokS hm0 run_79 ⟨sok_47, sok_77, sok_105, trivial⟩
theorem sok_50 : SummOK Try.prog 50 s_50 := sokS hm0 run_50 ⟨sok_79, trivial⟩
theorem sok_51 : SummOK Try.prog 51 s_51 := sokN hm0 run_51 trivial
theorem sok_21 : SummOK Try.prog 21 s_21 := sokS hm0 run_21 ⟨sok_50, sok_51, trivial⟩
theorem sok_22 : SummOK Try.prog 22 s_22 := sokS hm0 run_22 ⟨sok_18, trivial⟩
theorem sok_49 : SummOK Try.prog 49 s_49 := sokN hm0 run_49 ⟨sok_36, trivial⟩
theorem call_4 {R : Type} (n base : Nat) : CallOK Try.prog base (evFn (R := R) sm_4 fns FU n) := callG hm0 (l := [(8, s_8), (9, s_9), (10, s_10), (15, s_15), (16, s_16), (17, s_17), (18, s_18), (21, s_21), (22, s_22), (32, s_32), (49, s_49)]) ⟨sok_8, sok_9, sok_10, sok_15, sok_16, sok_17, sok_18, sok_21, sok_22, sok_32, sok_49, trivial⟩ n base
end Go.Ev
