/- Helpers: what functions compute, proved by the evaluator. No condition. -/
import Derived.Test.YtimddfofkpgclaaShelf
import Derived.Test.YtimddfofkpgclaaProg
import Derived.Test.YtimddfofkpgclaaEvPart1
import Derived.Test.YtimddfofkpgclaaFlA
import Derived.Test.YtimddfofkpgclaaFlB
import Derived.Test.YtimddfofkpgclaaFlC
import Derived.Test.YtimddfofkpgclaaFlD
import Derived.Test.YtimddfofkpgclaaFlG
import Derived.Test.YtimddfofkpgclaaFlH
set_option maxRecDepth 10000
set_option linter.unusedVariables false
set_option linter.unusedSimpArgs false
namespace Go.Ev
open Go Go.Proofs Go.RowKit
def smB : Nat → Bool := fun f => [13, 14, 15, 16, 17, 18, 19, 20, 21, 22, 23, 24, 25, 26, 27, 28, 29, 30, 32, 48].contains f
theorem hm0 : Try.prog.follows .mixedOrders = true := by kernel_rfl
theorem key3 : fnKey Try.prog smB 3 = ir3.key := by kernel_rfl
theorem key4 : fnKey Try.prog smB 4 = ir4.key := by kernel_rfl
theorem key5 : fnKey Try.prog smB 5 = ir5.key := by kernel_rfl
theorem key6 : fnKey Try.prog smB 6 = ir6.key := by kernel_rfl
theorem key7 : fnKey Try.prog smB 7 = ir7.key := by kernel_rfl
theorem key8 : fnKey Try.prog smB 8 = ir8.key := by kernel_rfl
theorem key9 : fnKey Try.prog smB 9 = ir9.key := by kernel_rfl
theorem key10 : fnKey Try.prog smB 10 = ir10.key := by kernel_rfl
theorem key11 : fnKey Try.prog smB 11 = ir11.key := by kernel_rfl
theorem key12 : fnKey Try.prog smB 12 = ir12.key := by kernel_rfl
theorem key13 : fnKey Try.prog smB 13 = ir13.key := by kernel_rfl
theorem key14 : fnKey Try.prog smB 14 = ir14.key := by kernel_rfl
theorem key15 : fnKey Try.prog smB 15 = ir15.key := by kernel_rfl
theorem key16 : fnKey Try.prog smB 16 = ir16.key := by kernel_rfl
theorem key17 : fnKey Try.prog smB 17 = ir17.key := by kernel_rfl
theorem key18 : fnKey Try.prog smB 18 = ir18.key := by kernel_rfl
theorem key19 : fnKey Try.prog smB 19 = ir19.key := by kernel_rfl
theorem key20 : fnKey Try.prog smB 20 = ir20.key := by kernel_rfl
theorem key21 : fnKey Try.prog smB 21 = ir21.key := by kernel_rfl
theorem key22 : fnKey Try.prog smB 22 = ir22.key := by kernel_rfl
theorem key23 : fnKey Try.prog smB 23 = ir23.key := by kernel_rfl
theorem key24 : fnKey Try.prog smB 24 = ir24.key := by kernel_rfl
theorem key25 : fnKey Try.prog smB 25 = ir25.key := by kernel_rfl
theorem key26 : fnKey Try.prog smB 26 = ir26.key := by kernel_rfl
theorem key27 : fnKey Try.prog smB 27 = ir27.key := by kernel_rfl
theorem key28 : fnKey Try.prog smB 28 = ir28.key := by kernel_rfl
theorem key29 : fnKey Try.prog smB 29 = ir29.key := by kernel_rfl
theorem key30 : fnKey Try.prog smB 30 = ir30.key := by kernel_rfl
theorem key31 : fnKey Try.prog smB 31 = ir31.key := by kernel_rfl
theorem key32 : fnKey Try.prog smB 32 = ir32.key := by kernel_rfl
theorem key33 : fnKey Try.prog smB 33 = ir33.key := by kernel_rfl
theorem key34 : fnKey Try.prog smB 34 = ir34.key := by kernel_rfl
theorem key35 : fnKey Try.prog smB 35 = ir35.key := by kernel_rfl
theorem key36 : fnKey Try.prog smB 36 = ir36.key := by kernel_rfl
theorem key37 : fnKey Try.prog smB 37 = ir37.key := by kernel_rfl
theorem key38 : fnKey Try.prog smB 38 = ir38.key := by kernel_rfl
theorem key39 : fnKey Try.prog smB 39 = ir39.key := by kernel_rfl
theorem key40 : fnKey Try.prog smB 40 = ir40.key := by kernel_rfl
theorem key41 : fnKey Try.prog smB 41 = ir41.key := by kernel_rfl
theorem key42 : fnKey Try.prog smB 42 = ir42.key := by kernel_rfl
theorem key43 : fnKey Try.prog smB 43 = ir43.key := by kernel_rfl
theorem key44 : fnKey Try.prog smB 44 = ir44.key := by kernel_rfl
theorem key45 : fnKey Try.prog smB 45 = ir45.key := by kernel_rfl
theorem key46 : fnKey Try.prog smB 46 = ir46.key := by kernel_rfl
theorem key47 : fnKey Try.prog smB 47 = ir47.key := by kernel_rfl
theorem key48 : fnKey Try.prog smB 48 = ir48.key := by kernel_rfl
theorem key49 : fnKey Try.prog smB 49 = ir49.key := by kernel_rfl
theorem key50 : fnKey Try.prog smB 50 = ir50.key := by kernel_rfl
theorem key51 : fnKey Try.prog smB 51 = ir51.key := by kernel_rfl
theorem fns_ok : FnsOK Try.prog smB fns := by
  intro f fn h
  unfold fns at h
  split at h
  · simp only [Option.some.injEq] at h; subst h; exact key3
  · simp only [Option.some.injEq] at h; subst h; exact key4
  · simp only [Option.some.injEq] at h; subst h; exact key5
  · simp only [Option.some.injEq] at h; subst h; exact key6
  · simp only [Option.some.injEq] at h; subst h; exact key7
  · simp only [Option.some.injEq] at h; subst h; exact key8
  · simp only [Option.some.injEq] at h; subst h; exact key9
  · simp only [Option.some.injEq] at h; subst h; exact key10
  · simp only [Option.some.injEq] at h; subst h; exact key11
  · simp only [Option.some.injEq] at h; subst h; exact key12
  · simp only [Option.some.injEq] at h; subst h; exact key13
  · simp only [Option.some.injEq] at h; subst h; exact key14
  · simp only [Option.some.injEq] at h; subst h; exact key15
  · simp only [Option.some.injEq] at h; subst h; exact key16
  · simp only [Option.some.injEq] at h; subst h; exact key17
  · simp only [Option.some.injEq] at h; subst h; exact key18
  · simp only [Option.some.injEq] at h; subst h; exact key19
  · simp only [Option.some.injEq] at h; subst h; exact key20
  · simp only [Option.some.injEq] at h; subst h; exact key21
  · simp only [Option.some.injEq] at h; subst h; exact key22
  · simp only [Option.some.injEq] at h; subst h; exact key23
  · simp only [Option.some.injEq] at h; subst h; exact key24
  · simp only [Option.some.injEq] at h; subst h; exact key25
  · simp only [Option.some.injEq] at h; subst h; exact key26
  · simp only [Option.some.injEq] at h; subst h; exact key27
  · simp only [Option.some.injEq] at h; subst h; exact key28
  · simp only [Option.some.injEq] at h; subst h; exact key29
  · simp only [Option.some.injEq] at h; subst h; exact key30
  · simp only [Option.some.injEq] at h; subst h; exact key31
  · simp only [Option.some.injEq] at h; subst h; exact key32
  · simp only [Option.some.injEq] at h; subst h; exact key33
  · simp only [Option.some.injEq] at h; subst h; exact key34
  · simp only [Option.some.injEq] at h; subst h; exact key35
  · simp only [Option.some.injEq] at h; subst h; exact key36
  · simp only [Option.some.injEq] at h; subst h; exact key37
  · simp only [Option.some.injEq] at h; subst h; exact key38
  · simp only [Option.some.injEq] at h; subst h; exact key39
  · simp only [Option.some.injEq] at h; subst h; exact key40
  · simp only [Option.some.injEq] at h; subst h; exact key41
  · simp only [Option.some.injEq] at h; subst h; exact key42
  · simp only [Option.some.injEq] at h; subst h; exact key43
  · simp only [Option.some.injEq] at h; subst h; exact key44
  · simp only [Option.some.injEq] at h; subst h; exact key45
  · simp only [Option.some.injEq] at h; subst h; exact key46
  · simp only [Option.some.injEq] at h; subst h; exact key47
  · simp only [Option.some.injEq] at h; subst h; exact key48
  · simp only [Option.some.injEq] at h; subst h; exact key49
  · simp only [Option.some.injEq] at h; subst h; exact key50
  · simp only [Option.some.injEq] at h; subst h; exact key51
  · cases h
def sm0 : Nat → Option Summ := fun _ => none
def FU : Nat := 4611686018427387904
theorem hFU : 4611686018427387904 ≤ FU := Nat.le_refl _
theorem call0 {R : Type} (n base : Nat) : CallOK Try.prog base (evFn (R := R) sm0 fns FU n) := ev_sound hm0 (by intro f s h; cases h) (by intro f s h; cases h) fns_ok n
theorem s14 : SummOK Try.prog 14 (fS [IT, IT] [FT, IT] (fun _ => true) fun x => ((Sp.newF x.1 x.2.1).1, (Sp.newF x.1 x.2.1).2, ())) := summ_fn (call0 4) (by kernel_rfl) fun x _ => ret14 sm0 FU 0 hFU x
theorem s15 : SummOK Try.prog 15 (fS [FT, FT] [.bool] (fun x => Sp.fsmall x.1) fun x => (Sp.fsame x.1 x.2.1, ())) := summ_fn (call0 4) (by kernel_rfl) fun x hp => ret15 sm0 FU 0 hFU x hp
theorem s16 : SummOK Try.prog 16 (fS [FT] [.bool] (fun _ => true) fun x => (Sp.fvalid x.1, ())) := summ_fn (call0 6) (by kernel_rfl) fun x _ => ret16 sm0 FU 0 hFU x
theorem s17 : SummOK Try.prog 17 (fS [FT] [.bool] (fun _ => true) fun x => (Sp.fvalid x.1, ())) := summ_fn (call0 4) (by kernel_rfl) fun x _ => ret17 sm0 FU 0 hFU x
theorem fn18 : evFn sm0 fns FU 1 18 [] [] (fun v h => some (v, h)) = some (.pure PT (1099511627776, 0, ()), []) := by kernel_rfl
theorem s18 : SummOK Try.prog 18 (fS [] [PT] (fun _ => true) fun _ => ((1099511627776, 0, ()), ())) := summ_fn (call0 1) (by kernel_rfl) fun _ _ => Rets.of (l0 := [_]) fn18 rfl rfl
theorem s22 : SummOK Try.prog 22 (fS [WT, WT] [.bool] (fun x => Sp.small (show List Int from x.1).length) fun x => (Sp.eqI x.1 x.2.1, ())) := summ_fn (call0 4) (by kernel_rfl) fun x hp => ret22 sm0 FU 0 hFU x hp
theorem s24 : SummOK Try.prog 24 (fS [NT, NT] [.bool] (fun x => Sp.small (show List Int from x.1).length) fun x => (Sp.eqI x.1 x.2.1, ())) := summ_fn (call0 4) (by kernel_rfl) fun x hp => ret24 sm0 FU 0 hFU x hp
theorem s27 : SummOK Try.prog 27 (fS [FT, IT] [.bool] (fun x => Sp.blankOK x.1.1.length x.2.1) fun x => (Sp.secBlank x.1.1 x.2.1, ())) := summ_fn (call0 4) (by kernel_rfl) fun x hp => ret27 sm0 FU 0 hFU x hp
theorem s32 : SummOK Try.prog 32 (fS [WT, IT] [WT] (fun x => Sp.repOK x.1 x.2.1) fun x => (Sp.rep x.1 x.2.1, ())) := summ_fn (call0 5) (by kernel_rfl) fun x hp => ret32 sm0 FU 0 hFU x hp
theorem info34 : ∃ i, Try.prog.info? 34 = some i ∧ i.zero = some (.int .u32 0) ∧ i.size = 1 ∧ i.bytes = 4 := ⟨_, rfl, by kernel_rfl, by kernel_rfl, by kernel_rfl⟩
theorem s21 : SummOK Try.prog 21 (vecS (.int .u32) 34 4) := by
  obtain ⟨i, hi, h0, h1, h2⟩ := info34
  exact clone_vec (by kernel_rfl) (by decide)
    (fun b off n c news w hl hn hb hc h3 => AnyE.slices_Clone Try.clone21 i _ 1 4 hi h0 h1 h2 (by kernel_rfl) (by decide) Try.sizeOf34 b off n c news w hl hn hb hc h3)
    (fun n c w => AnyE.slices_Clone_nil Try.clone21 n c w)
    (fun a c w => clone_zero Try.clone21 i _ 1 4 hi h0 h1 h2 (by kernel_rfl) (by decide) Try.sizeOf34 a c w)
theorem info3 : ∃ i, Try.prog.info? 3 = some i ∧ i.zero = some (.int .i64 0) ∧ i.size = 1 ∧ i.bytes = 8 := ⟨_, rfl, by kernel_rfl, by kernel_rfl, by kernel_rfl⟩
theorem s48 : SummOK Try.prog 48 (vecS (.int .i64) 3 8) := by
  obtain ⟨i, hi, h0, h1, h2⟩ := info3
  exact clone_vec (by kernel_rfl) (by decide)
    (fun b off n c news w hl hn hb hc h3 => AnyE.slices_Clone Try.clone48 i _ 1 8 hi h0 h1 h2 (by kernel_rfl) (by decide) Try.sizeOf3 b off n c news w hl hn hb hc h3)
    (fun n c w => AnyE.slices_Clone_nil Try.clone48 n c w)
    (fun a c w => clone_zero Try.clone48 i _ 1 8 hi h0 h1 h2 (by kernel_rfl) (by decide) Try.sizeOf3 a c w)
theorem sm1_ok : ∀ f s, sm1 f = some s → SummOK Try.prog f s := by
  intro f s h
  unfold sm1 at h
  split at h
  · simp only [Option.some.injEq] at h; subst h; exact s14
  · simp only [Option.some.injEq] at h; subst h; exact s15
  · simp only [Option.some.injEq] at h; subst h; exact s16
  · simp only [Option.some.injEq] at h; subst h; exact s17
  · simp only [Option.some.injEq] at h; subst h; exact s18
  · simp only [Option.some.injEq] at h; subst h; exact s21
  · simp only [Option.some.injEq] at h; subst h; exact s22
  · simp only [Option.some.injEq] at h; subst h; exact s24
  · simp only [Option.some.injEq] at h; subst h; exact s27
  · simp only [Option.some.injEq] at h; subst h; exact s32
  · simp only [Option.some.injEq] at h; subst h; exact s48
  · cases h
theorem sm1_c : ∀ f s, sm1 f = some s → SummC s := fun f s h => (sm1_ok f s h).2.1
theorem call1 {R : Type} (n base : Nat) : CallOK Try.prog base (evFn (R := R) sm1 fns FU n) := ev_sound hm0 sm1_ok sm1_c fns_ok n
theorem s13 : SummOK Try.prog 13 (fS [IT, IT] [FT, IT] (fun _ => true) fun x => ((Sp.newF x.1 x.2.1).1, (Sp.newF x.1 x.2.1).2, ())) := summ_fn (call1 1) (by kernel_rfl) fun x _ => val13 FU 0 x.1 x.2.1
theorem s19 : SummOK Try.prog 19 (fS [FT, IT, UT, PT] [FT, PT, IT] (fun _ => true) fun x => ((Sp.progI x.1 x.2.1 x.2.2.1 x.2.2.2.1.1 x.2.2.2.1.2.1).1, (Sp.progI x.1 x.2.1 x.2.2.1 x.2.2.2.1.1 x.2.2.2.1.2.1).2.1, (Sp.progI x.1 x.2.1 x.2.2.1 x.2.2.2.1.1 x.2.2.2.1.2.1).2.2, ())) := summ_fn (call1 4) (by kernel_rfl) fun x _ => val19 FU 0 x.1.1 x.1.2.1 x.1.2.2.1 x.2.1 x.2.2.1 x.2.2.2.1.1 x.2.2.2.1.2.1
theorem s20 : SummOK Try.prog 20 (fS [FT, IT, UT, PT] [FT, PT, IT] (fun _ => true) fun x => ((Sp.progR x.1 x.2.1 x.2.2.1 x.2.2.2.1.1 x.2.2.2.1.2.1).1, (Sp.progR x.1 x.2.1 x.2.2.1 x.2.2.2.1.1 x.2.2.2.1.2.1).2.1, (Sp.progR x.1 x.2.1 x.2.2.1 x.2.2.2.1.1 x.2.2.2.1.2.1).2.2, ())) := summ_fn (call1 5) (by kernel_rfl) fun x _ => val20 FU 0 hFU x.1.1 x.1.2.1 x.1.2.2.1 x.2.1 x.2.2.1 x.2.2.2.1.1 x.2.2.2.1.2.1
theorem s25 : SummOK Try.prog 25 (fS [FT, IT] [UT, IT] (fun _ => true) fun x => ((Sp.readF x.1 x.2.1).1, (Sp.readF x.1 x.2.1).2, ())) := summ_fn (call1 1) (by kernel_rfl) fun x _ => val25 FU 0 x.1.1 x.1.2.1 x.1.2.2.1 x.2.1
theorem s26 : SummOK Try.prog 26 (fS [FT, IT] [.bool, IT] (fun _ => true) fun x => ((Sp.blankF x.1 x.2.1).1, (Sp.blankF x.1 x.2.1).2, ())) := summ_fn (call1 6) (by kernel_rfl) fun x _ => val26 FU 0 hFU x.1.1 x.1.2.1 x.1.2.2.1 x.2.1
theorem sm2_ok : ∀ f s, sm2 f = some s → SummOK Try.prog f s := by
  intro f s h
  unfold sm2 at h
  split at h
  · simp only [Option.some.injEq] at h; subst h; exact s13
  · simp only [Option.some.injEq] at h; subst h; exact s19
  · simp only [Option.some.injEq] at h; subst h; exact s20
  · simp only [Option.some.injEq] at h; subst h; exact s25
  · simp only [Option.some.injEq] at h; subst h; exact s26
  · exact sm1_ok _ _ h
theorem sm2_c : ∀ f s, sm2 f = some s → SummC s := fun f s h => (sm2_ok f s h).2.1
theorem call2 {R : Type} (n base : Nat) : CallOK Try.prog base (evFn (R := R) sm2 fns FU n) := ev_sound hm0 sm2_ok sm2_c fns_ok n
end Go.Ev
