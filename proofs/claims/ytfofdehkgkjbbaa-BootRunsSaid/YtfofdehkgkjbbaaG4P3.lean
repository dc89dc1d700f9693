/- Helpers: functions of the program as Lean functions, and what they compute. No condition. -/
import Derived.Test.YtfofdehkgkjbbaaProg
import Derived.Test.YtfofdehkgkjbbaaE4P2
import Derived.Test.YtfofdehkgkjbbaaG4P0
import Derived.Test.YtfofdehkgkjbbaaG4P1
import Derived.Test.YtfofdehkgkjbbaaG4P2
set_option maxRecDepth 10000
set_option linter.unusedVariables false
set_option linter.unusedSimpArgs false
namespace Go.Proofs
open Go.Shelf
end Go.Proofs
namespace Go.Ev
open Go Go.Proofs Go.RowKit
set_option maxRecDepth 100000
set_option maxHeartbeats 4000000
noncomputable def smB : Nat → Bool := fun f => [10, 11, 12, 13, 14, 15, 16, 17, 18, 19, 20, 21, 22, 23, 24, 25, 26, 27, 28, 29, 30, 31, 32, 33, 34, 35, 36, 37, 38, 39, 40, 41, 42, 43, 44, 45, 46, 47, 48, 49, 50, 51, 52, 53, 54, 55, 56, 57, 58, 59, 60, 61, 62, 63, 64, 65, 66, 69, 70, 71, 72, 73, 74, 77, 78, 79, 81, 83, 84, 85, 86, 87, 88, 89, 90, 91, 94, 95, 96, 97, 99, 100, 101, 102, 103, 104, 105, 106, 107, 108].contains f
theorem hm0 : Try.prog.follows .mixedOrders = true := by kernel_rfl
theorem key4 : fnKey Try.prog smB 4 = ir4.key := by kernel_rfl
theorem key10 : fnKey Try.prog smB 10 = ir10.key := by kernel_rfl
theorem key11 : fnKey Try.prog smB 11 = ir11.key := by kernel_rfl
theorem key12 : fnKey Try.prog smB 12 = ir12.key := by kernel_rfl
theorem key13 : fnKey Try.prog smB 13 = ir13.key := by kernel_rfl
theorem key14 : fnKey Try.prog smB 14 = ir14.key := by kernel_rfl
theorem key16 : fnKey Try.prog smB 16 = ir16.key := by kernel_rfl
theorem key17 : fnKey Try.prog smB 17 = ir17.key := by kernel_rfl
theorem key18 : fnKey Try.prog smB 18 = ir18.key := by kernel_rfl
theorem key19 : fnKey Try.prog smB 19 = ir19.key := by kernel_rfl
theorem key20 : fnKey Try.prog smB 20 = ir20.key := by kernel_rfl
theorem key21 : fnKey Try.prog smB 21 = ir21.key := by kernel_rfl
theorem key22 : fnKey Try.prog smB 22 = ir22.key := by kernel_rfl
theorem key25 : fnKey Try.prog smB 25 = ir25.key := by kernel_rfl
theorem key26 : fnKey Try.prog smB 26 = ir26.key := by kernel_rfl
theorem key34 : fnKey Try.prog smB 34 = ir34.key := by kernel_rfl
theorem key35 : fnKey Try.prog smB 35 = ir35.key := by kernel_rfl
theorem key40 : fnKey Try.prog smB 40 = ir40.key := by kernel_rfl
theorem key41 : fnKey Try.prog smB 41 = ir41.key := by kernel_rfl
theorem key42 : fnKey Try.prog smB 42 = ir42.key := by kernel_rfl
theorem key43 : fnKey Try.prog smB 43 = ir43.key := by kernel_rfl
theorem key44 : fnKey Try.prog smB 44 = ir44.key := by kernel_rfl
theorem key45 : fnKey Try.prog smB 45 = ir45.key := by kernel_rfl
theorem key46 : fnKey Try.prog smB 46 = ir46.key := by kernel_rfl
theorem key47 : fnKey Try.prog smB 47 = ir47.key := by kernel_rfl
theorem key48 : fnKey Try.prog smB 48 = ir48.key := by kernel_rfl
theorem key49 : fnKey Try.prog smB 49 = ir49.key := by kernel_rfl
theorem key50 : fnKey Try.prog smB 50 = ir50.key := by kernel_rfl
theorem key51 : fnKey Try.prog smB 51 = ir51.key := by kernel_rfl
theorem key52 : fnKey Try.prog smB 52 = ir52.key := by kernel_rfl
theorem key53 : fnKey Try.prog smB 53 = ir53.key := by kernel_rfl
theorem key54 : fnKey Try.prog smB 54 = ir54.key := by kernel_rfl
theorem key56 : fnKey Try.prog smB 56 = ir56.key := by kernel_rfl
theorem key57 : fnKey Try.prog smB 57 = ir57.key := by kernel_rfl
theorem key58 : fnKey Try.prog smB 58 = ir58.key := by kernel_rfl
theorem key59 : fnKey Try.prog smB 59 = ir59.key := by kernel_rfl
theorem key63 : fnKey Try.prog smB 63 = ir63.key := by kernel_rfl
theorem key66 : fnKey Try.prog smB 66 = ir66.key := by kernel_rfl
theorem key67 : fnKey Try.prog smB 67 = ir67.key := by kernel_rfl
theorem key68 : fnKey Try.prog smB 68 = ir68.key := by kernel_rfl
theorem key69 : fnKey Try.prog smB 69 = ir69.key := by kernel_rfl
theorem key70 : fnKey Try.prog smB 70 = ir70.key := by kernel_rfl
theorem key73 : fnKey Try.prog smB 73 = ir73.key := by kernel_rfl
theorem key75 : fnKey Try.prog smB 75 = ir75.key := by kernel_rfl
theorem key76 : fnKey Try.prog smB 76 = ir76.key := by kernel_rfl
theorem key77 : fnKey Try.prog smB 77 = ir77.key := by kernel_rfl
theorem key78 : fnKey Try.prog smB 78 = ir78.key := by kernel_rfl
theorem key79 : fnKey Try.prog smB 79 = ir79.key := by kernel_rfl
theorem key80 : fnKey Try.prog smB 80 = ir80.key := by kernel_rfl
theorem key81 : fnKey Try.prog smB 81 = ir81.key := by kernel_rfl
theorem key82 : fnKey Try.prog smB 82 = ir82.key := by kernel_rfl
theorem key83 : fnKey Try.prog smB 83 = ir83.key := by kernel_rfl
theorem key84 : fnKey Try.prog smB 84 = ir84.key := by kernel_rfl
theorem key85 : fnKey Try.prog smB 85 = ir85.key := by kernel_rfl
theorem key86 : fnKey Try.prog smB 86 = ir86.key := by kernel_rfl
theorem key87 : fnKey Try.prog smB 87 = ir87.key := by kernel_rfl
theorem key88 : fnKey Try.prog smB 88 = ir88.key := by kernel_rfl
theorem key89 : fnKey Try.prog smB 89 = ir89.key := by kernel_rfl
theorem key90 : fnKey Try.prog smB 90 = ir90.key := by kernel_rfl
theorem key91 : fnKey Try.prog smB 91 = ir91.key := by kernel_rfl
theorem key92 : fnKey Try.prog smB 92 = ir92.key := by kernel_rfl
theorem key93 : fnKey Try.prog smB 93 = ir93.key := by kernel_rfl
theorem key95 : fnKey Try.prog smB 95 = ir95.key := by kernel_rfl
theorem key96 : fnKey Try.prog smB 96 = ir96.key := by kernel_rfl
theorem key98 : fnKey Try.prog smB 98 = ir98.key := by kernel_rfl
theorem key99 : fnKey Try.prog smB 99 = ir99.key := by kernel_rfl
theorem key100 : fnKey Try.prog smB 100 = ir100.key := by kernel_rfl
theorem key101 : fnKey Try.prog smB 101 = ir101.key := by kernel_rfl
theorem key102 : fnKey Try.prog smB 102 = ir102.key := by kernel_rfl
theorem key104 : fnKey Try.prog smB 104 = ir104.key := by kernel_rfl
theorem key105 : fnKey Try.prog smB 105 = ir105.key := by kernel_rfl
theorem key106 : fnKey Try.prog smB 106 = ir106.key := by kernel_rfl
theorem key107 : fnKey Try.prog smB 107 = ir107.key := by kernel_rfl
theorem key108 : fnKey Try.prog smB 108 = ir108.key := by kernel_rfl
theorem fns_ok : FnsOK Try.prog smB fns := by
  intro f fn h
  unfold fns at h
  split at h
  · simp only [Option.some.injEq] at h; subst h; exact key4
  · simp only [Option.some.injEq] at h; subst h; exact key10
  · simp only [Option.some.injEq] at h; subst h; exact key11
  · simp only [Option.some.injEq] at h; subst h; exact key12
  · simp only [Option.some.injEq] at h; subst h; exact key13
  · simp only [Option.some.injEq] at h; subst h; exact key14
  · simp only [Option.some.injEq] at h; subst h; exact key16
  · simp only [Option.some.injEq] at h; subst h; exact key17
  · simp only [Option.some.injEq] at h; subst h; exact key18
  · simp only [Option.some.injEq] at h; subst h; exact key19
  · simp only [Option.some.injEq] at h; subst h; exact key20
  · simp only [Option.some.injEq] at h; subst h; exact key21
  · simp only [Option.some.injEq] at h; subst h; exact key22
  · simp only [Option.some.injEq] at h; subst h; exact key25
  · simp only [Option.some.injEq] at h; subst h; exact key26
  · simp only [Option.some.injEq] at h; subst h; exact key34
  · simp only [Option.some.injEq] at h; subst h; exact key35
  · simp only [Option.some.injEq] at h; subst h; exact key40
  · simp only [Option.some.injEq] at h; subst h; exact key41
  · simp only [Option.some.injEq] at h; subst h; exact key42
  · simp only [Option.some.injEq] at h; subst h; exact key43
  · simp only [Option.some.injEq] at h; subst h; exact key44
  · simp only [Option.some.injEq] at h; subst h; exact key45
  · simp only [Option.some.injEq] at h; subst h; exact key46
  · simp only [Option.some.injEq] at h; subst h; exact key47
  · simp only [Option.some.injEq] at h; subst h; exact key48
  · simp only [Option.some.injEq] at h; subst h; exact key49
  · simp only [Option.some.injEq] at h; subst h; exact key50
  · simp only [Option.some.injEq] at h; subst h; exact key51
  · simp only [Option.some.injEq] at h; subst h; exact key52
  · simp only [Option.some.injEq] at h; subst h; exact key53
  · simp only [Option.some.injEq] at h; subst h; exact key54
  · simp only [Option.some.injEq] at h; subst h; exact key56
  · simp only [Option.some.injEq] at h; subst h; exact key57
  · simp only [Option.some.injEq] at h; subst h; exact key58
  · simp only [Option.some.injEq] at h; subst h; exact key59
  · simp only [Option.some.injEq] at h; subst h; exact key63
  · simp only [Option.some.injEq] at h; subst h; exact key66
  · simp only [Option.some.injEq] at h; subst h; exact key67
  · simp only [Option.some.injEq] at h; subst h; exact key68
  · simp only [Option.some.injEq] at h; subst h; exact key69
  · simp only [Option.some.injEq] at h; subst h; exact key70
  · simp only [Option.some.injEq] at h; subst h; exact key73
  · simp only [Option.some.injEq] at h; subst h; exact key75
  · simp only [Option.some.injEq] at h; subst h; exact key76
  · simp only [Option.some.injEq] at h; subst h; exact key77
  · simp only [Option.some.injEq] at h; subst h; exact key78
  · simp only [Option.some.injEq] at h; subst h; exact key79
  · simp only [Option.some.injEq] at h; subst h; exact key80
  · simp only [Option.some.injEq] at h; subst h; exact key81
  · simp only [Option.some.injEq] at h; subst h; exact key82
  · simp only [Option.some.injEq] at h; subst h; exact key83
  · simp only [Option.some.injEq] at h; subst h; exact key84
  · simp only [Option.some.injEq] at h; subst h; exact key85
  · simp only [Option.some.injEq] at h; subst h; exact key86
  · simp only [Option.some.injEq] at h; subst h; exact key87
  · simp only [Option.some.injEq] at h; subst h; exact key88
  · simp only [Option.some.injEq] at h; subst h; exact key89
  · simp only [Option.some.injEq] at h; subst h; exact key90
  · simp only [Option.some.injEq] at h; subst h; exact key91
  · simp only [Option.some.injEq] at h; subst h; exact key92
  · simp only [Option.some.injEq] at h; subst h; exact key93
  · simp only [Option.some.injEq] at h; subst h; exact key95
  · simp only [Option.some.injEq] at h; subst h; exact key96
  · simp only [Option.some.injEq] at h; subst h; exact key98
  · simp only [Option.some.injEq] at h; subst h; exact key99
  · simp only [Option.some.injEq] at h; subst h; exact key100
  · simp only [Option.some.injEq] at h; subst h; exact key101
  · simp only [Option.some.injEq] at h; subst h; exact key102
  · simp only [Option.some.injEq] at h; subst h; exact key104
  · simp only [Option.some.injEq] at h; subst h; exact key105
  · simp only [Option.some.injEq] at h; subst h; exact key106
  · simp only [Option.some.injEq] at h; subst h; exact key107
  · simp only [Option.some.injEq] at h; subst h; exact key108
  · cases h
noncomputable def grow77_ren : Go.Shelf.Ren := ⟨fun | 4 => 77 | n => n, fun | 25 => 42 | 22 => 22 | n => n, fun | n => n⟩
theorem grow77_lay : Go.Proofs.Lays8.n4 Try.prog grow77_ren := {
  mixed := by kernel_rfl
  f4 := ⟨Try.f77.name, by decide, Try.func77.trans (congrArg some (by kernel_rfl))⟩
  t0 := Try.underlying0
  a0 := Try.isAgg0
  z0 := Try.sizeOf0
  v0 := Try.zeroValue0
  t3 := Try.underlying3
  a3 := Try.isAgg3
  z3 := Try.sizeOf3
  v3 := Try.zeroValue3
  t4 := Try.underlying4
  a4 := Try.isAgg4
  z4 := Try.sizeOf4
  v4 := Try.zeroValue4
  t9 := Try.underlying9
  a9 := Try.isAgg9
  z9 := Try.sizeOf9
  v9 := Try.zeroValue9
  t20 := Try.underlying20
  a20 := Try.isAgg20
  z20 := Try.sizeOf20
  v20 := Try.zeroValue20
  t22 := Try.underlying22
  a22 := Try.isAgg22
  z22 := Try.sizeOf22
  v22 := Try.zeroValue22 }
theorem growinfo77 : ∃ i, Try.prog.info? 42 = some i ∧ i.zero = some (.int .u32 0) ∧ i.size = 1 ∧ i.bytes = 4 := ⟨_, rfl, by kernel_rfl, by kernel_rfl, by kernel_rfl⟩
theorem sok_77 : SummOK Try.prog 77 (growS (.int .u32) 42 4) := by
  obtain ⟨i, hi, h0, h1, h2⟩ := growinfo77
  exact grow_vec (by kernel_rfl) (by decide) (fun n w hn hb => grow_calls grow77_lay i _ 1 4 hi h0 h1 h2 (by decide) (by decide) (by rfl) n w hn hb)
theorem smok_40 : ∀ f s, sm_40 f = some s → SummOK Try.prog f s := by
  intro f s h
  unfold sm_40 at h
  cases h
theorem call_40 {R : Type} (n base : Nat) : CallOK Try.prog base (evFn (R := R) sm_40 fns FU n) := ev_sound hm0 smok_40 (fun f s h => (smok_40 f s h).2.1) fns_ok n
theorem sok_40 : SummOK Try.prog 40 s_40 := summ_shN (by decide) (fun _ => rfl) (fun _ => rfl) (call_40 4) (by kernel_rfl) run_40
theorem smok_41 : ∀ f s, sm_41 f = some s → SummOK Try.prog f s := by
  intro f s h
  unfold sm_41 at h
  cases h
theorem call_41 {R : Type} (n base : Nat) : CallOK Try.prog base (evFn (R := R) sm_41 fns FU n) := ev_sound hm0 smok_41 (fun f s h => (smok_41 f s h).2.1) fns_ok n
theorem sok_41 : SummOK Try.prog 41 s_41 := summ_shN (by decide) (fun _ => rfl) (fun _ => rfl) (call_41 1) (by kernel_rfl) run_41
theorem smok_12 : ∀ f s, sm_12 f = some s → SummOK Try.prog f s := by
  intro f s h
  unfold sm_12 at h
  by_cases h40 : f = 40
  · subst h40
    injection h with h
    subst h
    exact sok_40
  rw [nbeq_ne h40, cond_false] at h
  by_cases h41 : f = 41
  · subst h41
    injection h with h
    subst h
    exact sok_41
  rw [nbeq_ne h41, cond_false] at h
  cases h
theorem call_12 {R : Type} (n base : Nat) : CallOK Try.prog base (evFn (R := R) sm_12 fns FU n) := ev_sound hm0 smok_12 (fun f s h => (smok_12 f s h).2.1) fns_ok n
theorem sok_12 : SummOK Try.prog 12 s_12 := summ_shN (by decide) (fun _ => rfl) (fun _ => rfl) (call_12 1) (by kernel_rfl) run_12
theorem smok_42 : ∀ f s, sm_42 f = some s → SummOK Try.prog f s := by
  intro f s h
  unfold sm_42 at h
  cases h
theorem call_42 {R : Type} (n base : Nat) : CallOK Try.prog base (evFn (R := R) sm_42 fns FU n) := ev_sound hm0 smok_42 (fun f s h => (smok_42 f s h).2.1) fns_ok n
theorem sok_42 : SummOK Try.prog 42 s_42 := summ_sh (fun _ => rfl) (fun _ => rfl) (call_42 1) (by kernel_rfl) run_42
theorem smok_46 : ∀ f s, sm_46 f = some s → SummOK Try.prog f s := by
  intro f s h
  unfold sm_46 at h
  cases h
theorem call_46 {R : Type} (n base : Nat) : CallOK Try.prog base (evFn (R := R) sm_46 fns FU n) := ev_sound hm0 smok_46 (fun f s h => (smok_46 f s h).2.1) fns_ok n
theorem sok_46 : SummOK Try.prog 46 s_46 := summ_shN (by decide) (fun _ => rfl) (fun _ => rfl) (call_46 1) (by kernel_rfl) run_46
theorem smok_44 : ∀ f s, sm_44 f = some s → SummOK Try.prog f s := by
  intro f s h
  unfold sm_44 at h
  cases h
theorem call_44 {R : Type} (n base : Nat) : CallOK Try.prog base (evFn (R := R) sm_44 fns FU n) := ev_sound hm0 smok_44 (fun f s h => (smok_44 f s h).2.1) fns_ok n
theorem sok_44 : SummOK Try.prog 44 s_44 := summ_sh (fun _ => rfl) (fun _ => rfl) (call_44 1) (by kernel_rfl) run_44
theorem smok_81 : ∀ f s, sm_81 f = some s → SummOK Try.prog f s := by
  intro f s h
  unfold sm_81 at h
  cases h
theorem call_81 {R : Type} (n base : Nat) : CallOK Try.prog base (evFn (R := R) sm_81 fns FU n) := ev_sound hm0 smok_81 (fun f s h => (smok_81 f s h).2.1) fns_ok n
theorem sok_81 : SummOK Try.prog 81 s_81 := summ_sh (fun _ => rfl) (fun _ => rfl) (call_81 2) (by kernel_rfl) run_81
theorem smok_47 : ∀ f s, sm_47 f = some s → SummOK Try.prog f s := by
  intro f s h
  unfold sm_47 at h
  by_cases h44 : f = 44
  · subst h44
    injection h with h
    subst h
    exact sok_44
  rw [nbeq_ne h44, cond_false] at h
  by_cases h81 : f = 81
  · subst h81
    injection h with h
    subst h
    exact sok_81
  rw [nbeq_ne h81, cond_false] at h
  by_cases h99 : f = 99
  · subst h99
    injection h with h
    subst h
    exact sok_99
  rw [nbeq_ne h99, cond_false] at h
  cases h
theorem call_47 {R : Type} (n base : Nat) : CallOK Try.prog base (evFn (R := R) sm_47 fns FU n) := ev_sound hm0 smok_47 (fun f s h => (smok_47 f s h).2.1) fns_ok n
theorem sok_47 : SummOK Try.prog 47 s_47 := summ_sh (fun _ => rfl) (fun _ => rfl) (call_47 3) (by kernel_rfl) run_47
theorem smok_14 : ∀ f s, sm_14 f = some s → SummOK Try.prog f s := by
  intro f s h
  unfold sm_14 at h
  by_cases h12 : f = 12
  · subst h12
    injection h with h
    subst h
    exact sok_12
  rw [nbeq_ne h12, cond_false] at h
  by_cases h42 : f = 42
  · subst h42
    injection h with h
    subst h
    exact sok_42
  rw [nbeq_ne h42, cond_false] at h
  by_cases h46 : f = 46
  · subst h46
    injection h with h
    subst h
    exact sok_46
  rw [nbeq_ne h46, cond_false] at h
  by_cases h47 : f = 47
  · subst h47
    injection h with h
    subst h
    exact sok_47
  rw [nbeq_ne h47, cond_false] at h
  cases h
theorem call_14 {R : Type} (n base : Nat) : CallOK Try.prog base (evFn (R := R) sm_14 fns FU n) := ev_sound hm0 smok_14 (fun f s h => (smok_14 f s h).2.1) fns_ok n
theorem sok_14 : SummOK Try.prog 14 s_14 := summ_sh (fun _ => rfl) (fun _ => rfl) (call_14 1) (by kernel_rfl) run_14
theorem smok_66 : ∀ f s, sm_66 f = some s → SummOK Try.prog f s := by
  intro f s h
  unfold sm_66 at h
  cases h
theorem call_66 {R : Type} (n base : Nat) : CallOK Try.prog base (evFn (R := R) sm_66 fns FU n) := ev_sound hm0 smok_66 (fun f s h => (smok_66 f s h).2.1) fns_ok n
theorem sok_66 : SummOK Try.prog 66 s_66 := summ_shN (by decide) (fun _ => rfl) (fun _ => rfl) (call_66 1) (by kernel_rfl) run_66
theorem smok_95 : ∀ f s, sm_95 f = some s → SummOK Try.prog f s := by
  intro f s h
  unfold sm_95 at h
  cases h
theorem call_95 {R : Type} (n base : Nat) : CallOK Try.prog base (evFn (R := R) sm_95 fns FU n) := ev_sound hm0 smok_95 (fun f s h => (smok_95 f s h).2.1) fns_ok n
theorem sok_95 : SummOK Try.prog 95 s_95 := summ_shN (by decide) (fun _ => rfl) (fun _ => rfl) (call_95 1) (by kernel_rfl) run_95
theorem smok_104 : ∀ f s, sm_104 f = some s → SummOK Try.prog f s := by
  intro f s h
  unfold sm_104 at h
  cases h
theorem call_104 {R : Type} (n base : Nat) : CallOK Try.prog base (evFn (R := R) sm_104 fns FU n) := ev_sound hm0 smok_104 (fun f s h => (smok_104 f s h).2.1) fns_ok n
theorem sok_104 : SummOK Try.prog 104 s_104 := summ_shN (by decide) (fun _ => rfl) (fun _ => rfl) (call_104 1) (by kernel_rfl) run_104
theorem smok_96 : ∀ f s, sm_96 f = some s → SummOK Try.prog f s := by
  intro f s h
  unfold sm_96 at h
  by_cases h104 : f = 104
  · subst h104
    injection h with h
    subst h
    exact sok_104
  rw [nbeq_ne h104, cond_false] at h
  cases h
theorem call_96 {R : Type} (n base : Nat) : CallOK Try.prog base (evFn (R := R) sm_96 fns FU n) := ev_sound hm0 smok_96 (fun f s h => (smok_96 f s h).2.1) fns_ok n
theorem sok_96 : SummOK Try.prog 96 s_96 := summ_shN (by decide) (fun _ => rfl) (fun _ => rfl) (call_96 1) (by kernel_rfl) run_96
theorem smok_35 : ∀ f s, sm_35 f = some s → SummOK Try.prog f s := by
  intro f s h
  unfold sm_35 at h
  by_cases h66 : f = 66
  · subst h66
    injection h with h
    subst h
    exact sok_66
  rw [nbeq_ne h66, cond_false] at h
  by_cases h95 : f = 95
  · subst h95
    injection h with h
    subst h
    exact sok_95
  rw [nbeq_ne h95, cond_false] at h
  by_cases h96 : f = 96
  · subst h96
    injection h with h
    subst h
    exact sok_96
  rw [nbeq_ne h96, cond_false] at h
  cases h
theorem call_35 {R : Type} (n base : Nat) : CallOK Try.prog base (evFn (R := R) sm_35 fns FU n) := ev_sound hm0 smok_35 (fun f s h => (smok_35 f s h).2.1) fns_ok n
theorem sok_35 : SummOK Try.prog 35 s_35 := summ_shN (by decide) (fun _ => rfl) (fun _ => rfl) (call_35 2) (by kernel_rfl) run_35
theorem smok_43 : ∀ f s, sm_43 f = some s → SummOK Try.prog f s := by
  intro f s h
  unfold sm_43 at h
  by_cases h77 : f = 77
  · subst h77
    injection h with h
    subst h
    exact sok_77
  rw [nbeq_ne h77, cond_false] at h
  cases h
theorem call_43 {R : Type} (n base : Nat) : CallOK Try.prog base (evFn (R := R) sm_43 fns FU n) := ev_sound hm0 smok_43 (fun f s h => (smok_43 f s h).2.1) fns_ok n
theorem sok_43 : SummOK Try.prog 43 s_43 := summ_sh (fun _ => rfl) (fun _ => rfl) (call_43 1) (by kernel_rfl) run_43
theorem smok_69 : ∀ f s, sm_69 f = some s → SummOK Try.prog f s := by
  intro f s h
  unfold sm_69 at h
  cases h
theorem call_69 {R : Type} (n base : Nat) : CallOK Try.prog base (evFn (R := R) sm_69 fns FU n) := ev_sound hm0 smok_69 (fun f s h => (smok_69 f s h).2.1) fns_ok n
theorem sok_69 : SummOK Try.prog 69 s_69 := summ_sh (fun _ => rfl) (fun _ => rfl) (call_69 1) (by kernel_rfl) run_69
theorem smok_70 : ∀ f s, sm_70 f = some s → SummOK Try.prog f s := by
  intro f s h
  unfold sm_70 at h
  by_cases h35 : f = 35
  · subst h35
    injection h with h
    subst h
    exact sok_35
  rw [nbeq_ne h35, cond_false] at h
  cases h
theorem call_70 {R : Type} (n base : Nat) : CallOK Try.prog base (evFn (R := R) sm_70 fns FU n) := ev_sound hm0 smok_70 (fun f s h => (smok_70 f s h).2.1) fns_ok n
theorem sok_70 : SummOK Try.prog 70 s_70 := summ_shN (by decide) (fun _ => rfl) (fun _ => rfl) (call_70 1) (by kernel_rfl) run_70
theorem smok_73 : ∀ f s, sm_73 f = some s → SummOK Try.prog f s := by
  intro f s h
  unfold sm_73 at h
  by_cases h35 : f = 35
  · subst h35
    injection h with h
    subst h
    exact sok_35
  rw [nbeq_ne h35, cond_false] at h
  cases h
theorem call_73 {R : Type} (n base : Nat) : CallOK Try.prog base (evFn (R := R) sm_73 fns FU n) := ev_sound hm0 smok_73 (fun f s h => (smok_73 f s h).2.1) fns_ok n
theorem sok_73 : SummOK Try.prog 73 s_73 := summ_shN (by decide) (fun _ => rfl) (fun _ => rfl) (call_73 1) (by kernel_rfl) run_73
theorem smok_78 : ∀ f s, sm_78 f = some s → SummOK Try.prog f s := by
  intro f s h
  unfold sm_78 at h
  cases h
theorem call_78 {R : Type} (n base : Nat) : CallOK Try.prog base (evFn (R := R) sm_78 fns FU n) := ev_sound hm0 smok_78 (fun f s h => (smok_78 f s h).2.1) fns_ok n
theorem sok_78 : SummOK Try.prog 78 s_78 := summ_shN (by decide) (fun _ => rfl) (fun _ => rfl) (call_78 1) (by kernel_rfl) run_78
theorem smok_79 : ∀ f s, sm_79 f = some s → SummOK Try.prog f s := by
  intro f s h
  unfold sm_79 at h
  by_cases h35 : f = 35
  · subst h35
    injection h with h
    subst h
    exact sok_35
  rw [nbeq_ne h35, cond_false] at h
  cases h
theorem call_79 {R : Type} (n base : Nat) : CallOK Try.prog base (evFn (R := R) sm_79 fns FU n) := ev_sound hm0 smok_79 (fun f s h => (smok_79 f s h).2.1) fns_ok n
theorem sok_79 : SummOK Try.prog 79 s_79 := summ_shN (by decide) (fun _ => rfl) (fun _ => rfl) (call_79 1) (by kernel_rfl) run_79
theorem smok_45 : ∀ f s, sm_45 f = some s → SummOK Try.prog f s := by
  intro f s h
  unfold sm_45 at h
  by_cases h69 : f = 69
  · subst h69
    injection h with h
    subst h
    exact sok_69
  rw [nbeq_ne h69, cond_false] at h
  by_cases h70 : f = 70
  · subst h70
    injection h with h
    subst h
    exact sok_70
  rw [nbeq_ne h70, cond_false] at h
  by_cases h73 : f = 73
  · subst h73
    injection h with h
    subst h
    exact sok_73
  rw [nbeq_ne h73, cond_false] at h
  by_cases h78 : f = 78
  · subst h78
    injection h with h
    subst h
    exact sok_78
  rw [nbeq_ne h78, cond_false] at h
  by_cases h79 : f = 79
  · subst h79
    injection h with h
    subst h
    exact sok_79
  rw [nbeq_ne h79, cond_false] at h
  cases h
theorem call_45 {R : Type} (n base : Nat) : CallOK Try.prog base (evFn (R := R) sm_45 fns FU n) := ev_sound hm0 smok_45 (fun f s h => (smok_45 f s h).2.1) fns_ok n
theorem sok_45 : SummOK Try.prog 45 s_45 := summ_shN (by decide) (fun _ => rfl) (fun _ => rfl) (call_45 1) (by kernel_rfl) run_45
theorem smok_13 : ∀ f s, sm_13 f = some s → SummOK Try.prog f s := by
  intro f s h
  unfold sm_13 at h
  by_cases h14 : f = 14
  · subst h14
    injection h with h
    subst h
    exact sok_14
  rw [nbeq_ne h14, cond_false] at h
  by_cases h35 : f = 35
  · subst h35
    injection h with h
    subst h
    exact sok_35
  rw [nbeq_ne h35, cond_false] at h
  by_cases h42 : f = 42
  · subst h42
    injection h with h
    subst h
    exact sok_42
  rw [nbeq_ne h42, cond_false] at h
  by_cases h43 : f = 43
  · subst h43
    injection h with h
    subst h
    exact sok_43
  rw [nbeq_ne h43, cond_false] at h
  by_cases h44 : f = 44
  · subst h44
    injection h with h
    subst h
    exact sok_44
  rw [nbeq_ne h44, cond_false] at h
  by_cases h45 : f = 45
  · subst h45
    injection h with h
    subst h
    exact sok_45
  rw [nbeq_ne h45, cond_false] at h
  cases h
theorem call_13 {R : Type} (n base : Nat) : CallOK Try.prog base (evFn (R := R) sm_13 fns FU n) := ev_sound hm0 smok_13 (fun f s h => (smok_13 f s h).2.1) fns_ok n
theorem sok_13 : SummOK Try.prog 13 s_13 := summ_shN (by decide) (fun _ => rfl) (fun _ => rfl) (call_13 1) (by kernel_rfl) run_13
theorem smok_51 : ∀ f s, sm_51 f = some s → SummOK Try.prog f s := by
  intro f s h
  unfold sm_51 at h
  by_cases h42 : f = 42
  · subst h42
    injection h with h
    subst h
    exact sok_42
  rw [nbeq_ne h42, cond_false] at h
  cases h
theorem call_51 {R : Type} (n base : Nat) : CallOK Try.prog base (evFn (R := R) sm_51 fns FU n) := ev_sound hm0 smok_51 (fun f s h => (smok_51 f s h).2.1) fns_ok n
theorem sok_51 : SummOK Try.prog 51 s_51 := summ_shN (by decide) (fun _ => rfl) (fun _ => rfl) (call_51 1) (by kernel_rfl) run_51
theorem smok_17 : ∀ f s, sm_17 f = some s → SummOK Try.prog f s := by
  intro f s h
  unfold sm_17 at h
  by_cases h12 : f = 12
  · subst h12
    injection h with h
    subst h
    exact sok_12
  rw [nbeq_ne h12, cond_false] at h
  by_cases h13 : f = 13
  · subst h13
    injection h with h
    subst h
    exact sok_13
  rw [nbeq_ne h13, cond_false] at h
  by_cases h14 : f = 14
  · subst h14
    injection h with h
    subst h
    exact sok_14
  rw [nbeq_ne h14, cond_false] at h
  by_cases h51 : f = 51
  · subst h51
    injection h with h
    subst h
    exact sok_51
  rw [nbeq_ne h51, cond_false] at h
  cases h
theorem call_17 {R : Type} (n base : Nat) : CallOK Try.prog base (evFn (R := R) sm_17 fns FU n) := ev_sound hm0 smok_17 (fun f s h => (smok_17 f s h).2.1) fns_ok n
theorem sok_17 : SummOK Try.prog 17 s_17 := summ_shN (by decide) (fun _ => rfl) (fun _ => rfl) (call_17 1) (by kernel_rfl) run_17
theorem smok_107 : ∀ f s, sm_107 f = some s → SummOK Try.prog f s := by
  intro f s h
  unfold sm_107 at h
  cases h
theorem call_107 {R : Type} (n base : Nat) : CallOK Try.prog base (evFn (R := R) sm_107 fns FU n) := ev_sound hm0 smok_107 (fun f s h => (smok_107 f s h).2.1) fns_ok n
theorem sok_107 : SummOK Try.prog 107 s_107 := summ_shN (by decide) (fun _ => rfl) (fun _ => rfl) (call_107 1) (by kernel_rfl) run_107
theorem smok_108 : ∀ f s, sm_108 f = some s → SummOK Try.prog f s := by
  intro f s h
  unfold sm_108 at h
  cases h
theorem call_108 {R : Type} (n base : Nat) : CallOK Try.prog base (evFn (R := R) sm_108 fns FU n) := ev_sound hm0 smok_108 (fun f s h => (smok_108 f s h).2.1) fns_ok n
theorem sok_108 : SummOK Try.prog 108 s_108 := summ_shN (by decide) (fun _ => rfl) (fun _ => rfl) (call_108 1) (by kernel_rfl) run_108
theorem smok_102 : ∀ f s, sm_102 f = some s → SummOK Try.prog f s := by
  intro f s h
  unfold sm_102 at h
  by_cases h107 : f = 107
  · subst h107
    injection h with h
    subst h
    exact sok_107
  rw [nbeq_ne h107, cond_false] at h
  by_cases h108 : f = 108
  · subst h108
    injection h with h
    subst h
    exact sok_108
  rw [nbeq_ne h108, cond_false] at h
  cases h
theorem call_102 {R : Type} (n base : Nat) : CallOK Try.prog base (evFn (R := R) sm_102 fns FU n) := ev_sound hm0 smok_102 (fun f s h => (smok_102 f s h).2.1) fns_ok n
theorem sok_102 : SummOK Try.prog 102 s_102 := summ_shN (by decide) (fun _ => rfl) (fun _ => rfl) (call_102 1) (by kernel_rfl) run_102
theorem smok_89 : ∀ f s, sm_89 f = some s → SummOK Try.prog f s := by
  intro f s h
  unfold sm_89 at h
  by_cases h102 : f = 102
  · subst h102
    injection h with h
    subst h
    exact sok_102
  rw [nbeq_ne h102, cond_false] at h
  cases h
theorem call_89 {R : Type} (n base : Nat) : CallOK Try.prog base (evFn (R := R) sm_89 fns FU n) := ev_sound hm0 smok_89 (fun f s h => (smok_89 f s h).2.1) fns_ok n
theorem sok_89 : SummOK Try.prog 89 s_89 := summ_sh (fun _ => rfl) (fun _ => rfl) (call_89 1) (by kernel_rfl) run_89
theorem smok_53 : ∀ f s, sm_53 f = some s → SummOK Try.prog f s := by
  intro f s h
  unfold sm_53 at h
  by_cases h89 : f = 89
  · subst h89
    injection h with h
    subst h
    exact sok_89
  rw [nbeq_ne h89, cond_false] at h
  cases h
theorem call_53 {R : Type} (n base : Nat) : CallOK Try.prog base (evFn (R := R) sm_53 fns FU n) := ev_sound hm0 smok_53 (fun f s h => (smok_53 f s h).2.1) fns_ok n
theorem sok_53 : SummOK Try.prog 53 s_53 := summ_sh (fun _ => rfl) (fun _ => rfl) (call_53 1) (by kernel_rfl) run_53
theorem smok_22 : ∀ f s, sm_22 f = some s → SummOK Try.prog f s := by
  intro f s h
  unfold sm_22 at h
  by_cases h41 : f = 41
  · subst h41
    injection h with h
    subst h
    exact sok_41
  rw [nbeq_ne h41, cond_false] at h
  by_cases h53 : f = 53
  · subst h53
    injection h with h
    subst h
    exact sok_53
  rw [nbeq_ne h53, cond_false] at h
  cases h
theorem call_22 {R : Type} (n base : Nat) : CallOK Try.prog base (evFn (R := R) sm_22 fns FU n) := ev_sound hm0 smok_22 (fun f s h => (smok_22 f s h).2.1) fns_ok n
theorem sok_22 : SummOK Try.prog 22 s_22 := summ_sh (fun _ => rfl) (fun _ => rfl) (call_22 1) (by kernel_rfl) run_22
theorem smok_10 : ∀ f s, sm_10 f = some s → SummOK Try.prog f s := by
  intro f s h
  unfold sm_10 at h
  by_cases h14 : f = 14
  · subst h14
    injection h with h
    subst h
    exact sok_14
  rw [nbeq_ne h14, cond_false] at h
  by_cases h17 : f = 17
  · subst h17
    injection h with h
    subst h
    exact sok_17
  rw [nbeq_ne h17, cond_false] at h
  by_cases h22 : f = 22
  · subst h22
    injection h with h
    subst h
    exact sok_22
  rw [nbeq_ne h22, cond_false] at h
  cases h
theorem call_10 {R : Type} (n base : Nat) : CallOK Try.prog base (evFn (R := R) sm_10 fns FU n) := ev_sound hm0 smok_10 (fun f s h => (smok_10 f s h).2.1) fns_ok n
theorem sok_10 : SummOK Try.prog 10 s_10 := summ_shN (by decide) (fun _ => rfl) (fun _ => rfl) (call_10 1) (by kernel_rfl) run_10
theorem smok_11 : ∀ f s, sm_11 f = some s → SummOK Try.prog f s := by
  intro f s h
  unfold sm_11 at h
  cases h
theorem call_11 {R : Type} (n base : Nat) : CallOK Try.prog base (evFn (R := R) sm_11 fns FU n) := ev_sound hm0 smok_11 (fun f s h => (smok_11 f s h).2.1) fns_ok n
theorem sok_11 : SummOK Try.prog 11 s_11 := summ_shN (by decide) (fun _ => rfl) (fun _ => rfl) (call_11 1) (by kernel_rfl) run_11
theorem smok_54 : ∀ f s, sm_54 f = some s → SummOK Try.prog f s := by
  intro f s h
  unfold sm_54 at h
  cases h
theorem call_54 {R : Type} (n base : Nat) : CallOK Try.prog base (evFn (R := R) sm_54 fns FU n) := ev_sound hm0 smok_54 (fun f s h => (smok_54 f s h).2.1) fns_ok n
theorem sok_54 : SummOK Try.prog 54 s_54 := summ_shN (by decide) (fun _ => rfl) (fun _ => rfl) (call_54 1) (by kernel_rfl) run_54
theorem smok_90 : ∀ f s, sm_90 f = some s → SummOK Try.prog f s := by
  intro f s h
  unfold sm_90 at h
  cases h
theorem call_90 {R : Type} (n base : Nat) : CallOK Try.prog base (evFn (R := R) sm_90 fns FU n) := ev_sound hm0 smok_90 (fun f s h => (smok_90 f s h).2.1) fns_ok n
theorem sok_90 : SummOK Try.prog 90 s_90 := summ_shN (by decide) (fun _ => rfl) (fun _ => rfl) (call_90 1) (by kernel_rfl) run_90
theorem smok_56 : ∀ f s, sm_56 f = some s → SummOK Try.prog f s := by
  intro f s h
  unfold sm_56 at h
  by_cases h90 : f = 90
  · subst h90
    injection h with h
    subst h
    exact sok_90
  rw [nbeq_ne h90, cond_false] at h
  cases h
theorem call_56 {R : Type} (n base : Nat) : CallOK Try.prog base (evFn (R := R) sm_56 fns FU n) := ev_sound hm0 smok_56 (fun f s h => (smok_56 f s h).2.1) fns_ok n
theorem sok_56 : SummOK Try.prog 56 s_56 := summ_shN (by decide) (fun _ => rfl) (fun _ => rfl) (call_56 1) (by kernel_rfl) run_56
theorem smok_25 : ∀ f s, sm_25 f = some s → SummOK Try.prog f s := by
  intro f s h
  unfold sm_25 at h
  by_cases h54 : f = 54
  · subst h54
    injection h with h
    subst h
    exact sok_54
  rw [nbeq_ne h54, cond_false] at h
  by_cases h56 : f = 56
  · subst h56
    injection h with h
    subst h
    exact sok_56
  rw [nbeq_ne h56, cond_false] at h
  cases h
theorem call_25 {R : Type} (n base : Nat) : CallOK Try.prog base (evFn (R := R) sm_25 fns FU n) := ev_sound hm0 smok_25 (fun f s h => (smok_25 f s h).2.1) fns_ok n
theorem sok_25 : SummOK Try.prog 25 s_25 := summ_shN (by decide) (fun _ => rfl) (fun _ => rfl) (call_25 1) (by kernel_rfl) run_25
theorem smok_48 : ∀ f s, sm_48 f = some s → SummOK Try.prog f s := by
  intro f s h
  unfold sm_48 at h
  cases h
theorem call_48 {R : Type} (n base : Nat) : CallOK Try.prog base (evFn (R := R) sm_48 fns FU n) := ev_sound hm0 smok_48 (fun f s h => (smok_48 f s h).2.1) fns_ok n
theorem sok_48 : SummOK Try.prog 48 s_48 := summ_sh (fun _ => rfl) (fun _ => rfl) (call_48 1) (by kernel_rfl) run_48
theorem smok_57 : ∀ f s, sm_57 f = some s → SummOK Try.prog f s := by
  intro f s h
  unfold sm_57 at h
  cases h
theorem call_57 {R : Type} (n base : Nat) : CallOK Try.prog base (evFn (R := R) sm_57 fns FU n) := ev_sound hm0 smok_57 (fun f s h => (smok_57 f s h).2.1) fns_ok n
theorem sok_57 : SummOK Try.prog 57 s_57 := summ_shN (by decide) (fun _ => rfl) (fun _ => rfl) (call_57 1) (by kernel_rfl) run_57
theorem smok_58 : ∀ f s, sm_58 f = some s → SummOK Try.prog f s := by
  intro f s h
  unfold sm_58 at h
  cases h
theorem call_58 {R : Type} (n base : Nat) : CallOK Try.prog base (evFn (R := R) sm_58 fns FU n) := ev_sound hm0 smok_58 (fun f s h => (smok_58 f s h).2.1) fns_ok n
theorem sok_58 : SummOK Try.prog 58 s_58 := summ_shN (by decide) (fun _ => rfl) (fun _ => rfl) (call_58 1) (by kernel_rfl) run_58
theorem smok_59 : ∀ f s, sm_59 f = some s → SummOK Try.prog f s := by
  intro f s h
  unfold sm_59 at h
  cases h
theorem call_59 {R : Type} (n base : Nat) : CallOK Try.prog base (evFn (R := R) sm_59 fns FU n) := ev_sound hm0 smok_59 (fun f s h => (smok_59 f s h).2.1) fns_ok n
theorem sok_59 : SummOK Try.prog 59 s_59 := summ_sh (fun _ => rfl) (fun _ => rfl) (call_59 1) (by kernel_rfl) run_59
theorem smok_26 : ∀ f s, sm_26 f = some s → SummOK Try.prog f s := by
  intro f s h
  unfold sm_26 at h
  by_cases h25 : f = 25
  · subst h25
    injection h with h
    subst h
    exact sok_25
  rw [nbeq_ne h25, cond_false] at h
  by_cases h48 : f = 48
  · subst h48
    injection h with h
    subst h
    exact sok_48
  rw [nbeq_ne h48, cond_false] at h
  by_cases h57 : f = 57
  · subst h57
    injection h with h
    subst h
    exact sok_57
  rw [nbeq_ne h57, cond_false] at h
  by_cases h58 : f = 58
  · subst h58
    injection h with h
    subst h
    exact sok_58
  rw [nbeq_ne h58, cond_false] at h
  by_cases h59 : f = 59
  · subst h59
    injection h with h
    subst h
    exact sok_59
  rw [nbeq_ne h59, cond_false] at h
  cases h
theorem call_26 {R : Type} (n base : Nat) : CallOK Try.prog base (evFn (R := R) sm_26 fns FU n) := ev_sound hm0 smok_26 (fun f s h => (smok_26 f s h).2.1) fns_ok n
theorem sok_26 : SummOK Try.prog 26 s_26 := summ_sh (fun _ => rfl) (fun _ => rfl) (call_26 1) (by kernel_rfl) run_26
theorem smok_100 : ∀ f s, sm_100 f = some s → SummOK Try.prog f s := by
  intro f s h
  unfold sm_100 at h
  cases h
theorem call_100 {R : Type} (n base : Nat) : CallOK Try.prog base (evFn (R := R) sm_100 fns FU n) := ev_sound hm0 smok_100 (fun f s h => (smok_100 f s h).2.1) fns_ok n
theorem sok_100 : SummOK Try.prog 100 s_100 := summ_sh (fun _ => rfl) (fun _ => rfl) (call_100 1) (by kernel_rfl) run_100
theorem smok_105 : ∀ f s, sm_105 f = some s → SummOK Try.prog f s := by
  intro f s h
  unfold sm_105 at h
  cases h
theorem call_105 {R : Type} (n base : Nat) : CallOK Try.prog base (evFn (R := R) sm_105 fns FU n) := ev_sound hm0 smok_105 (fun f s h => (smok_105 f s h).2.1) fns_ok n
theorem sok_105 : SummOK Try.prog 105 s_105 := summ_shN (by decide) (fun _ => rfl) (fun _ => rfl) (call_105 1) (by kernel_rfl) run_105
theorem smok_106 : ∀ f s, sm_106 f = some s → SummOK Try.prog f s := by
  intro f s h
  unfold sm_106 at h
  cases h
theorem call_106 {R : Type} (n base : Nat) : CallOK Try.prog base (evFn (R := R) sm_106 fns FU n) := ev_sound hm0 smok_106 (fun f s h => (smok_106 f s h).2.1) fns_ok n
theorem sok_106 : SummOK Try.prog 106 s_106 := summ_shN (by decide) (fun _ => rfl) (fun _ => rfl) (call_106 1) (by kernel_rfl) run_106
theorem smok_101 : ∀ f s, sm_101 f = some s → SummOK Try.prog f s := by
  intro f s h
  unfold sm_101 at h
  by_cases h105 : f = 105
  · subst h105
    injection h with h
    subst h
    exact sok_105
  rw [nbeq_ne h105, cond_false] at h
  by_cases h106 : f = 106
  · subst h106
    injection h with h
    subst h
    exact sok_106
  rw [nbeq_ne h106, cond_false] at h
  cases h
theorem call_101 {R : Type} (n base : Nat) : CallOK Try.prog base (evFn (R := R) sm_101 fns FU n) := ev_sound hm0 smok_101 (fun f s h => (smok_101 f s h).2.1) fns_ok n
theorem sok_101 : SummOK Try.prog 101 s_101 := summ_shN (by decide) (fun _ => rfl) (fun _ => rfl) (call_101 1) (by kernel_rfl) run_101
theorem smok_83 : ∀ f s, sm_83 f = some s → SummOK Try.prog f s := by
  intro f s h
  unfold sm_83 at h
  by_cases h100 : f = 100
  · subst h100
    injection h with h
    subst h
    exact sok_100
  rw [nbeq_ne h100, cond_false] at h
  by_cases h101 : f = 101
  · subst h101
    injection h with h
    subst h
    exact sok_101
  rw [nbeq_ne h101, cond_false] at h
  cases h
theorem call_83 {R : Type} (n base : Nat) : CallOK Try.prog base (evFn (R := R) sm_83 fns FU n) := ev_sound hm0 smok_83 (fun f s h => (smok_83 f s h).2.1) fns_ok n
theorem sok_83 : SummOK Try.prog 83 s_83 := summ_shN (by decide) (fun _ => rfl) (fun _ => rfl) (call_83 1) (by kernel_rfl) run_83
theorem smok_49 : ∀ f s, sm_49 f = some s → SummOK Try.prog f s := by
  intro f s h
  unfold sm_49 at h
  by_cases h83 : f = 83
  · subst h83
    injection h with h
    subst h
    exact sok_83
  rw [nbeq_ne h83, cond_false] at h
  cases h
theorem call_49 {R : Type} (n base : Nat) : CallOK Try.prog base (evFn (R := R) sm_49 fns FU n) := ev_sound hm0 smok_49 (fun f s h => (smok_49 f s h).2.1) fns_ok n
theorem sok_49 : SummOK Try.prog 49 s_49 := summ_shN (by decide) (fun _ => rfl) (fun _ => rfl) (call_49 2) (by kernel_rfl) run_49
theorem smok_84 : ∀ f s, sm_84 f = some s → SummOK Try.prog f s := by
  intro f s h
  unfold sm_84 at h
  cases h
theorem call_84 {R : Type} (n base : Nat) : CallOK Try.prog base (evFn (R := R) sm_84 fns FU n) := ev_sound hm0 smok_84 (fun f s h => (smok_84 f s h).2.1) fns_ok n
theorem sok_84 : SummOK Try.prog 84 s_84 := summ_shN (by decide) (fun _ => rfl) (fun _ => rfl) (call_84 1) (by kernel_rfl) run_84
theorem smok_85 : ∀ f s, sm_85 f = some s → SummOK Try.prog f s := by
  intro f s h
  unfold sm_85 at h
  cases h
theorem call_85 {R : Type} (n base : Nat) : CallOK Try.prog base (evFn (R := R) sm_85 fns FU n) := ev_sound hm0 smok_85 (fun f s h => (smok_85 f s h).2.1) fns_ok n
theorem sok_85 : SummOK Try.prog 85 s_85 := summ_sh (fun _ => rfl) (fun _ => rfl) (call_85 1) (by kernel_rfl) run_85
theorem smok_86 : ∀ f s, sm_86 f = some s → SummOK Try.prog f s := by
  intro f s h
  unfold sm_86 at h
  by_cases h83 : f = 83
  · subst h83
    injection h with h
    subst h
    exact sok_83
  rw [nbeq_ne h83, cond_false] at h
  cases h
theorem call_86 {R : Type} (n base : Nat) : CallOK Try.prog base (evFn (R := R) sm_86 fns FU n) := ev_sound hm0 smok_86 (fun f s h => (smok_86 f s h).2.1) fns_ok n
theorem sok_86 : SummOK Try.prog 86 s_86 := summ_shN (by decide) (fun _ => rfl) (fun _ => rfl) (call_86 1) (by kernel_rfl) run_86
theorem smok_87 : ∀ f s, sm_87 f = some s → SummOK Try.prog f s := by
  intro f s h
  unfold sm_87 at h
  by_cases h83 : f = 83
  · subst h83
    injection h with h
    subst h
    exact sok_83
  rw [nbeq_ne h83, cond_false] at h
  cases h
theorem call_87 {R : Type} (n base : Nat) : CallOK Try.prog base (evFn (R := R) sm_87 fns FU n) := ev_sound hm0 smok_87 (fun f s h => (smok_87 f s h).2.1) fns_ok n
theorem sok_87 : SummOK Try.prog 87 s_87 := summ_shN (by decide) (fun _ => rfl) (fun _ => rfl) (call_87 1) (by kernel_rfl) run_87
theorem smok_88 : ∀ f s, sm_88 f = some s → SummOK Try.prog f s := by
  intro f s h
  unfold sm_88 at h
  by_cases h83 : f = 83
  · subst h83
    injection h with h
    subst h
    exact sok_83
  rw [nbeq_ne h83, cond_false] at h
  cases h
theorem call_88 {R : Type} (n base : Nat) : CallOK Try.prog base (evFn (R := R) sm_88 fns FU n) := ev_sound hm0 smok_88 (fun f s h => (smok_88 f s h).2.1) fns_ok n
theorem sok_88 : SummOK Try.prog 88 s_88 := summ_shN (by decide) (fun _ => rfl) (fun _ => rfl) (call_88 1) (by kernel_rfl) run_88
theorem smok_50 : ∀ f s, sm_50 f = some s → SummOK Try.prog f s := by
  intro f s h
  unfold sm_50 at h
  by_cases h84 : f = 84
  · subst h84
    injection h with h
    subst h
    exact sok_84
  rw [nbeq_ne h84, cond_false] at h
  by_cases h85 : f = 85
  · subst h85
    injection h with h
    subst h
    exact sok_85
  rw [nbeq_ne h85, cond_false] at h
  by_cases h86 : f = 86
  · subst h86
    injection h with h
    subst h
    exact sok_86
  rw [nbeq_ne h86, cond_false] at h
  by_cases h87 : f = 87
  · subst h87
    injection h with h
    subst h
    exact sok_87
  rw [nbeq_ne h87, cond_false] at h
  by_cases h88 : f = 88
  · subst h88
    injection h with h
    subst h
    exact sok_88
  rw [nbeq_ne h88, cond_false] at h
  cases h
theorem call_50 {R : Type} (n base : Nat) : CallOK Try.prog base (evFn (R := R) sm_50 fns FU n) := ev_sound hm0 smok_50 (fun f s h => (smok_50 f s h).2.1) fns_ok n
theorem sok_50 : SummOK Try.prog 50 s_50 := summ_shN (by decide) (fun _ => rfl) (fun _ => rfl) (call_50 1) (by kernel_rfl) run_50
theorem smok_16 : ∀ f s, sm_16 f = some s → SummOK Try.prog f s := by
  intro f s h
  unfold sm_16 at h
  by_cases h26 : f = 26
  · subst h26
    injection h with h
    subst h
    exact sok_26
  rw [nbeq_ne h26, cond_false] at h
  by_cases h48 : f = 48
  · subst h48
    injection h with h
    subst h
    exact sok_48
  rw [nbeq_ne h48, cond_false] at h
  by_cases h49 : f = 49
  · subst h49
    injection h with h
    subst h
    exact sok_49
  rw [nbeq_ne h49, cond_false] at h
  by_cases h50 : f = 50
  · subst h50
    injection h with h
    subst h
    exact sok_50
  rw [nbeq_ne h50, cond_false] at h
  cases h
theorem call_16 {R : Type} (n base : Nat) : CallOK Try.prog base (evFn (R := R) sm_16 fns FU n) := ev_sound hm0 smok_16 (fun f s h => (smok_16 f s h).2.1) fns_ok n
theorem sok_16 : SummOK Try.prog 16 s_16 := summ_shN (by decide) (fun _ => rfl) (fun _ => rfl) (call_16 1) (by kernel_rfl) run_16
theorem smok_52 : ∀ f s, sm_52 f = some s → SummOK Try.prog f s := by
  intro f s h
  unfold sm_52 at h
  by_cases h16 : f = 16
  · subst h16
    injection h with h
    subst h
    exact sok_16
  rw [nbeq_ne h16, cond_false] at h
  by_cases h48 : f = 48
  · subst h48
    injection h with h
    subst h
    exact sok_48
  rw [nbeq_ne h48, cond_false] at h
  cases h
theorem call_52 {R : Type} (n base : Nat) : CallOK Try.prog base (evFn (R := R) sm_52 fns FU n) := ev_sound hm0 smok_52 (fun f s h => (smok_52 f s h).2.1) fns_ok n
theorem sok_52 : SummOK Try.prog 52 s_52 := summ_shN (by decide) (fun _ => rfl) (fun _ => rfl) (call_52 1) (by kernel_rfl) run_52
theorem smok_18 : ∀ f s, sm_18 f = some s → SummOK Try.prog f s := by
  intro f s h
  unfold sm_18 at h
  by_cases h25 : f = 25
  · subst h25
    injection h with h
    subst h
    exact sok_25
  rw [nbeq_ne h25, cond_false] at h
  by_cases h48 : f = 48
  · subst h48
    injection h with h
    subst h
    exact sok_48
  rw [nbeq_ne h48, cond_false] at h
  by_cases h52 : f = 52
  · subst h52
    injection h with h
    subst h
    exact sok_52
  rw [nbeq_ne h52, cond_false] at h
  cases h
theorem call_18 {R : Type} (n base : Nat) : CallOK Try.prog base (evFn (R := R) sm_18 fns FU n) := ev_sound hm0 smok_18 (fun f s h => (smok_18 f s h).2.1) fns_ok n
theorem sok_18 : SummOK Try.prog 18 s_18 := summ_shN (by decide) (fun _ => rfl) (fun _ => rfl) (call_18 1) (by kernel_rfl) run_18
theorem smok_19 : ∀ f s, sm_19 f = some s → SummOK Try.prog f s := by
  intro f s h
  unfold sm_19 at h
  by_cases h17 : f = 17
  · subst h17
    injection h with h
    subst h
    exact sok_17
  rw [nbeq_ne h17, cond_false] at h
  cases h
theorem call_19 {R : Type} (n base : Nat) : CallOK Try.prog base (evFn (R := R) sm_19 fns FU n) := ev_sound hm0 smok_19 (fun f s h => (smok_19 f s h).2.1) fns_ok n
theorem sok_19 : SummOK Try.prog 19 s_19 := summ_shN (by decide) (fun _ => rfl) (fun _ => rfl) (call_19 1) (by kernel_rfl) run_19
theorem smok_20 : ∀ f s, sm_20 f = some s → SummOK Try.prog f s := by
  intro f s h
  unfold sm_20 at h
  by_cases h14 : f = 14
  · subst h14
    injection h with h
    subst h
    exact sok_14
  rw [nbeq_ne h14, cond_false] at h
  by_cases h19 : f = 19
  · subst h19
    injection h with h
    subst h
    exact sok_19
  rw [nbeq_ne h19, cond_false] at h
  cases h
theorem call_20 {R : Type} (n base : Nat) : CallOK Try.prog base (evFn (R := R) sm_20 fns FU n) := ev_sound hm0 smok_20 (fun f s h => (smok_20 f s h).2.1) fns_ok n
theorem sok_20 : SummOK Try.prog 20 s_20 := summ_shN (by decide) (fun _ => rfl) (fun _ => rfl) (call_20 1) (by kernel_rfl) run_20
theorem smok_21 : ∀ f s, sm_21 f = some s → SummOK Try.prog f s := by
  intro f s h
  unfold sm_21 at h
  by_cases h18 : f = 18
  · subst h18
    injection h with h
    subst h
    exact sok_18
  rw [nbeq_ne h18, cond_false] at h
  by_cases h48 : f = 48
  · subst h48
    injection h with h
    subst h
    exact sok_48
  rw [nbeq_ne h48, cond_false] at h
  cases h
theorem call_21 {R : Type} (n base : Nat) : CallOK Try.prog base (evFn (R := R) sm_21 fns FU n) := ev_sound hm0 smok_21 (fun f s h => (smok_21 f s h).2.1) fns_ok n
theorem sok_21 : SummOK Try.prog 21 s_21 := summ_shN (by decide) (fun _ => rfl) (fun _ => rfl) (call_21 1) (by kernel_rfl) run_21
theorem smok_4 : ∀ f s, sm_4 f = some s → SummOK Try.prog f s := by
  intro f s h
  unfold sm_4 at h
  by_cases h10 : f = 10
  · subst h10
    injection h with h
    subst h
    exact sok_10
  rw [nbeq_ne h10, cond_false] at h
  by_cases h11 : f = 11
  · subst h11
    injection h with h
    subst h
    exact sok_11
  rw [nbeq_ne h11, cond_false] at h
  by_cases h13 : f = 13
  · subst h13
    injection h with h
    subst h
    exact sok_13
  rw [nbeq_ne h13, cond_false] at h
  by_cases h16 : f = 16
  · subst h16
    injection h with h
    subst h
    exact sok_16
  rw [nbeq_ne h16, cond_false] at h
  by_cases h17 : f = 17
  · subst h17
    injection h with h
    subst h
    exact sok_17
  rw [nbeq_ne h17, cond_false] at h
  by_cases h18 : f = 18
  · subst h18
    injection h with h
    subst h
    exact sok_18
  rw [nbeq_ne h18, cond_false] at h
  by_cases h19 : f = 19
  · subst h19
    injection h with h
    subst h
    exact sok_19
  rw [nbeq_ne h19, cond_false] at h
  by_cases h20 : f = 20
  · subst h20
    injection h with h
    subst h
    exact sok_20
  rw [nbeq_ne h20, cond_false] at h
  by_cases h21 : f = 21
  · subst h21
    injection h with h
    subst h
    exact sok_21
  rw [nbeq_ne h21, cond_false] at h
  cases h
theorem call_4 {R : Type} (n base : Nat) : CallOK Try.prog base (evFn (R := R) sm_4 fns FU n) := ev_sound hm0 smok_4 (fun f s h => (smok_4 f s h).2.1) fns_ok n
end Go.Ev
