/- Contracts of the small functions of stage, monitor.Valid, quiz.Valid (layers 41, 39, 40). -/
import Derived.Test.YtldlbaldlfedeaaProg
import Derived.WalkKit
import Derived.WalkSpells
import Derived.WalkLawsBesides
import Derived.KernelRfl
import Derived.Deep.RegionHeld3
import Derived.Deep.RegionWith
import Derived.Deep.QuietTactic
import Derived.BigQuiet
import Derived.BigGuardPart
import Derived.Deep.DeepCutAuto
import Derived.Deep.LoopGhost
import Derived.Lib.Hide
import Derived.Handy
import Derived.Test.YtldlbaldlfedeaaBase
set_option linter.unusedVariables false
set_option linter.unusedSimpArgs false
namespace Go.Proofs.Ytldlbaldlfedeaa
open Go.RowKit

def tm (t : Int) : Bool := decide (0 ≤ t) && decide (t ≤ 1099511627776)
theorem stage_time (t : Int) (w : World) :
    Calls Try.prog 26 #[.int .i64 t] w fun e w' => e = .returned (.bool (tm t)) ∧ w = w' := by
  go_enter Try.func26, Try.ntmps26
  go_wp2
  all_goals (go_ret; exact ⟨(ret_b (by first | (simp [tm, *]; done) | (simp [tm, *]; omega) | (simp_all [tm]; done) | (simp_all [tm]; omega))), by trivial⟩)

def stValid (en : Bool) (c s : Int) : Bool := decide (0 ≤ c) && (decide (c ≤ 3) && ((en == (c == 0)) && tm s))
theorem stage_valid (en : Bool) (c s : Int) (w : World) :
    Calls Try.prog 10 #[.agg #[.bool en, .int .i64 c, .int .i64 s]] w fun e w' => e = .returned (.bool (stValid en c s)) ∧ Below w.heap.size w w' := by
  go_enter Try.func10, Try.ntmps10
  go_wp2_with (go_at_call 26; refine (stage_time _ _).mono ?_; rintro e w' ⟨rfl, rfl⟩)
  all_goals (go_ret; exact ⟨(ret_b (by first | (simp [stValid, *]; done) | (simp [stValid, *]; omega) | (simp_all [stValid]; done) | (simp_all [stValid]; omega))), by go_grown⟩)

theorem refStage_valid (en : Bool) (c s : Int) (w : World) :
    Calls Try.prog 11 #[.agg #[.bool en, .int .i64 c, .int .i64 s]] w fun e w' => e = .returned (.bool (stValid en c s)) ∧ Below w.heap.size w w' := by
  go_enter Try.func11, Try.ntmps11
  go_wp2
  all_goals (go_ret; exact ⟨(ret_b (by first | (simp [stValid, tm, *]; done) | (simp [stValid, tm, *]; omega) | (simp_all [stValid, tm]; done) | (simp_all [stValid, tm]; omega))), by go_grown⟩)

def wi (x a b : Int) : Bool := decide (a ≤ x) && decide (x ≤ b)
theorem monitor_within (x a b : Int) (w : World) :
    Calls Try.prog 28 #[.int .i64 x, .int .i64 a, .int .i64 b] w fun e w' => e = .returned (.bool (wi x a b)) ∧ w = w' := by
  go_enter Try.func28, Try.ntmps28
  go_wp2
  all_goals (go_ret; exact ⟨(ret_b (by first | (simp [wi, *]; done) | (simp [wi, *]; omega) | (simp_all [wi]; done) | (simp_all [wi]; omega))), by trivial⟩)

def gdValid (o c : Int) (off : Bool) : Bool := wi o 0 5 && (wi c 0 1000 && (((o == 0) || (c == 0)) && (off || decide (o < 5))))
theorem monitor_valid (o c : Int) (off : Bool) (w : World) :
    Calls Try.prog 13 #[.agg #[.int .i64 o, .int .i64 c, .bool off]] w fun e w' => e = .returned (.bool (gdValid o c off)) ∧ Below w.heap.size w w' := by
  go_enter Try.func13, Try.ntmps13
  go_wp2_with (go_at_call 28; refine (monitor_within _ _ _ _).mono ?_; rintro e w' ⟨rfl, rfl⟩)
  all_goals (go_ret; exact ⟨(ret_b (by first | (simp [gdValid, *]; done) | (simp [gdValid, *]; omega) | (simp_all [gdValid]; done) | (simp_all [gdValid]; omega))), by go_grown⟩)

theorem quiz_question (n : Int) (w : World) :
    Calls Try.prog 29 #[.int .i64 n] w fun e w' => e = .returned (.bool (wi n 1 65535)) ∧ w = w' := by
  go_enter Try.func29, Try.ntmps29
  go_wp2
  all_goals (go_ret; exact ⟨(ret_b (by first | (simp [wi, *]; done) | (simp [wi, *]; omega) | (simp_all [wi]; done) | (simp_all [wi]; omega))), by trivial⟩)
theorem quiz_instant (t : Int) (w : World) :
    Calls Try.prog 30 #[.int .i64 t] w fun e w' => e = .returned (.bool (tm t)) ∧ w = w' := by
  go_enter Try.func30, Try.ntmps30
  go_wp2
  all_goals (go_ret; exact ⟨(ret_b (by first | (simp [tm, *]; done) | (simp [tm, *]; omega) | (simp_all [tm]; done) | (simp_all [tm]; omega))), by trivial⟩)

def qzValid (q a er : Int) (op off : Bool) : Bool := wi q 1 65535 && (tm a && ((op || (a == 0)) && (decide (0 ≤ er) && (decide (er ≤ 7) && ((off == (er == 7)) && !(op && off))))))
theorem quiz_valid (q a er : Int) (op off : Bool) (w : World) :
    Calls Try.prog 14 #[.agg #[.int .i64 q, .int .i64 a, .int .i64 er, .bool op, .bool off]] w fun e w' => e = .returned (.bool (qzValid q a er op off)) ∧ Below w.heap.size w w' := by
  go_enter Try.func14, Try.ntmps14
  go_wp2_with (first | (go_at_call 29; refine (quiz_question _ _).mono ?_; rintro e w' ⟨rfl, rfl⟩) | (go_at_call 30; refine (quiz_instant _ _).mono ?_; rintro e w' ⟨rfl, rfl⟩))
  all_goals (go_ret; exact ⟨(ret_b (by first | (simp [qzValid, *]; done) | (simp [qzValid, *]; omega) | (simp_all [qzValid]; done) | (simp_all [qzValid]; omega))), by go_grown⟩)

theorem stage_new (w : World) :
    Calls Try.prog 9 #[] w fun e w' => e = .returned (.agg #[.bool false, .int .i64 1, .int .i64 0]) ∧ Below w.heap.size w w' := by
  go_enter Try.func9, Try.ntmps9
  go_wp2
  go_returns
  exact ⟨rfl, by go_grown⟩

def stCause (key goff qoff : Bool) : Int := bif key then (bif goff then 2 else bif qoff then 3 else 0) else 1
theorem stage_cause (key : Bool) (o c : Int) (goff : Bool) (q a er : Int) (op qoff : Bool) (w : World) :
    Calls Try.prog 27 #[.bool key, .agg #[.int .i64 o, .int .i64 c, .bool goff], .agg #[.int .i64 q, .int .i64 a, .int .i64 er, .bool op, .bool qoff]] w
      fun e w' => e = .returned (.int .i64 (stCause key goff qoff)) ∧ Below w.heap.size w w' := by
  cases key <;> cases goff <;> cases qoff <;>
    (go_enter Try.func27, Try.ntmps27
     go_wp2
     go_ret
     exact ⟨ret_i rfl, by go_grown⟩)
theorem refStage_cause (key : Bool) (o c : Int) (goff : Bool) (q a er : Int) (op qoff : Bool) (w : World) :
    Calls Try.prog 31 #[.bool key, .agg #[.int .i64 o, .int .i64 c, .bool goff], .agg #[.int .i64 q, .int .i64 a, .int .i64 er, .bool op, .bool qoff]] w
      fun e w' => e = .returned (.int .i64 (stCause key goff qoff)) ∧ Below w.heap.size w w' := by
  cases key <;> cases goff <;> cases qoff <;>
    (go_enter Try.func31, Try.ntmps31
     go_wp2
     go_ret
     exact ⟨ret_i rfl, by go_grown⟩)

def stSince (en : Bool) (c s now : Int) : Int := if stValid en c s = true ∧ s ≤ now ∧ now ≤ 1099511627776 then now - s else 0
theorem stage_since (en : Bool) (c s now : Int) (w : World) (hs : -9223372036854775808 ≤ s) (hs2 : s ≤ 9223372036854775807) (hn : -9223372036854775808 ≤ now) (hn2 : now ≤ 9223372036854775807) :
    Calls Try.prog 12 #[.agg #[.bool en, .int .i64 c, .int .i64 s], .int .i64 now] w fun e w' => e = .returned (.int .i64 (stSince en c s now)) ∧ Below w.heap.size w w' := by
  cases hv : stValid en c s
  · go_enter Try.func12, Try.ntmps12
    go_wp2_with (go_at_call 10; refine (stage_valid _ _ _ _).mono ?_; rintro e w1 ⟨rfl, hbw1⟩; obtain ⟨hcw1, hfw1⟩ := bcell hbw1; have hzw1 := hbw1.size; (try simp at hzw1))
    all_goals (go_ret; exact ⟨(ret_i (by first | (simp [stSince, *]; done) | (simp [stSince, *]; omega) | (simp_all [stSince]; done) | (simp_all [stSince]; omega))), (by repeat' (first | (with_reducible exact Below.refl _ _) | (with_reducible assumption) | (with_reducible refine Below.alloc ?_ ?_ _) | (with_reducible refine Below.drew ?_) | (with_reducible refine Below.setCell ?_ ?_ _) | (with_reducible refine Below.trans ?_ (Below.mono (by with_reducible assumption) ?_)) | go_size))⟩)
  · have h0 : 0 ≤ s := by simp [stValid, tm] at hv; omega
    go_enter Try.func12, Try.ntmps12
    go_wp2_with (go_at_call 10; refine (stage_valid _ _ _ _).mono ?_; rintro e w1 ⟨rfl, hbw1⟩; obtain ⟨hcw1, hfw1⟩ := bcell hbw1; have hzw1 := hbw1.size; (try simp at hzw1))
    all_goals (go_ret; exact ⟨(ret_i (by first | (simp [stSince, *]; done) | (simp [stSince, *]; omega) | (simp_all [stSince]; done) | (simp_all [stSince]; omega))), (by repeat' (first | (with_reducible exact Below.refl _ _) | (with_reducible assumption) | (with_reducible refine Below.alloc ?_ ?_ _) | (with_reducible refine Below.drew ?_) | (with_reducible refine Below.setCell ?_ ?_ _) | (with_reducible refine Below.trans ?_ (Below.mono (by with_reducible assumption) ?_)) | go_size))⟩)

end Go.Proofs.Ytldlbaldlfedeaa
