/- Helpers: functions of the program as Lean functions, and what they compute. No condition. -/
import Derived.Test.YthepgngekfoheaaG5P2
import Derived.Test.YthepgngekfoheaaE5P2
import Derived.Test.YthepgngekfoheaaG5P0
import Derived.Test.YthepgngekfoheaaProg
set_option maxRecDepth 10000
set_option linter.unusedVariables false
set_option linter.unusedSimpArgs false
namespace Go.Ev
open Go
set_option maxRecDepth 100000
set_option maxHeartbeats 4000000
set_option linter.unusedVariables false
noncomputable section
theorem Bcond_14_1 {R : Type} {c : Bool} {x x' : Option R} {y y' : Option Sp.E_14_1} {k0 : (Zt14_0) → (List Int) → Option R} {k1 : (List Int) → (Zt14_0) → Option R} (h : x = Sp.B_14_1 y k0 k1) (h' : x' = Sp.B_14_1 y' k0 k1) : (bif c then x else x') = Sp.B_14_1 (bif c then y else y') k0 k1 := by cases c; exact h'; exact h
theorem Bin_14_1_14_2 {R : Type} {r : Option Sp.E_14_2} {k0 : (Zt14_0) → (List Int) → Option R} {k1 : (List Int) → (Zt14_0) → Option R} {f0 : (Zt14_0) → (List Int) → Option R} {g0 : (Zt14_0) → (List Int) → Option Sp.E_14_1} (h0 : ∀ z0 z1, f0 z0 z1 = Sp.B_14_1 (g0 z0 z1) k0 k1) : Sp.B_14_2 r f0 = Sp.B_14_1 (Sp.B_14_2 r g0) k0 k1 := by
  cases r with
  | none => rfl
  | some e => cases e with
    | e0 z0 z1 => exact h0 _ _
theorem Bin_14_1_14_2_1 {R : Type} {r : Option Sp.E_14_2_1} {k0 : (Zt14_0) → (List Int) → Option R} {k1 : (List Int) → (Zt14_0) → Option R} {f0 : (Zt14_0) → (List Int) → Option R} {f1 : (List Int) → (Zt14_0) → Option R} {g0 : (Zt14_0) → (List Int) → Option Sp.E_14_1} {g1 : (List Int) → (Zt14_0) → Option Sp.E_14_1} (h0 : ∀ z0 z1, f0 z0 z1 = Sp.B_14_1 (g0 z0 z1) k0 k1) (h1 : ∀ z0 z1, f1 z0 z1 = Sp.B_14_1 (g1 z0 z1) k0 k1) : Sp.B_14_2_1 r f0 f1 = Sp.B_14_1 (Sp.B_14_2_1 r g0 g1) k0 k1 := by
  cases r with
  | none => rfl
  | some e => cases e with
    | e0 z0 z1 => exact h0 _ _
    | e1 z0 z1 => exact h1 _ _
theorem Bin_14_1_14_33_0_0 {R : Type} {r : Option Sp.E_14_33_0_0} {k0 : (Zt14_0) → (List Int) → Option R} {k1 : (List Int) → (Zt14_0) → Option R} {f0 : (Zt14_3) → (Zt14_1) → (Zt14_3) → (Zt14_10) → (Zt14_5) → (Zt14_6) → (Zt14_0) → Option R} {f1 : (Zt14_3) → (Zt14_1) → (Zt14_3) → (Zt14_10) → (Zt14_5) → (Zt14_6) → (Zt14_0) → Option R} {f2 : (Zt14_3) → (Zt14_1) → (Zt14_3) → (Zt14_10) → (Zt14_5) → (Zt14_6) → (Zt14_0) → Option R} {f3 : (List Int) → (Int) → (Zt14_3) → (Zt14_1) → (Zt14_3) → (Zt14_10) → (Zt14_5) → (Zt14_6) → (Zt14_0) → Option R} {g0 : (Zt14_3) → (Zt14_1) → (Zt14_3) → (Zt14_10) → (Zt14_5) → (Zt14_6) → (Zt14_0) → Option Sp.E_14_1} {g1 : (Zt14_3) → (Zt14_1) → (Zt14_3) → (Zt14_10) → (Zt14_5) → (Zt14_6) → (Zt14_0) → Option Sp.E_14_1} {g2 : (Zt14_3) → (Zt14_1) → (Zt14_3) → (Zt14_10) → (Zt14_5) → (Zt14_6) → (Zt14_0) → Option Sp.E_14_1} {g3 : (List Int) → (Int) → (Zt14_3) → (Zt14_1) → (Zt14_3) → (Zt14_10) → (Zt14_5) → (Zt14_6) → (Zt14_0) → Option Sp.E_14_1} (h0 : ∀ z0 z1 z2 z3 z4 z5 z6, f0 z0 z1 z2 z3 z4 z5 z6 = Sp.B_14_1 (g0 z0 z1 z2 z3 z4 z5 z6) k0 k1) (h1 : ∀ z0 z1 z2 z3 z4 z5 z6, f1 z0 z1 z2 z3 z4 z5 z6 = Sp.B_14_1 (g1 z0 z1 z2 z3 z4 z5 z6) k0 k1) (h2 : ∀ z0 z1 z2 z3 z4 z5 z6, f2 z0 z1 z2 z3 z4 z5 z6 = Sp.B_14_1 (g2 z0 z1 z2 z3 z4 z5 z6) k0 k1) (h3 : ∀ z0 z1 z2 z3 z4 z5 z6 z7 z8, f3 z0 z1 z2 z3 z4 z5 z6 z7 z8 = Sp.B_14_1 (g3 z0 z1 z2 z3 z4 z5 z6 z7 z8) k0 k1) : Sp.B_14_33_0_0 r f0 f1 f2 f3 = Sp.B_14_1 (Sp.B_14_33_0_0 r g0 g1 g2 g3) k0 k1 := by
  cases r with
  | none => rfl
  | some e => cases e with
    | e0 z0 z1 z2 z3 z4 z5 z6 => exact h0 _ _ _ _ _ _ _
    | e1 z0 z1 z2 z3 z4 z5 z6 => exact h1 _ _ _ _ _ _ _
    | e2 z0 z1 z2 z3 z4 z5 z6 => exact h2 _ _ _ _ _ _ _
    | e3 z0 z1 z2 z3 z4 z5 z6 z7 z8 => exact h3 _ _ _ _ _ _ _ _ _
theorem Bin_14_1_14_33_1_0 {R : Type} {r : Option Sp.E_14_33_1_0} {k0 : (Zt14_0) → (List Int) → Option R} {k1 : (List Int) → (Zt14_0) → Option R} {f0 : (Zt14_3) → (Zt14_1) → (Zt14_3) → (Zt14_10) → (Zt14_5) → (Zt14_6) → (Zt14_0) → Option R} {f1 : (Int) → (Zt14_3) → (Zt14_1) → (Zt14_3) → (Zt14_10) → (Zt14_5) → (Zt14_6) → (Zt14_0) → Option R} {f2 : (Zt14_3) → (Zt14_1) → (Zt14_3) → (Zt14_10) → (Zt14_5) → (Zt14_6) → (Zt14_0) → Option R} {f3 : (Zt14_3) → (Zt14_1) → (Zt14_3) → (Zt14_10) → (Zt14_5) → (Zt14_6) → (Zt14_0) → Option R} {f4 : (Zt14_3) → (Zt14_1) → (Zt14_3) → (Zt14_10) → (Zt14_5) → (Zt14_6) → (Zt14_0) → Option R} {f5 : (Zt14_3) → (Zt14_1) → (Zt14_3) → (Zt14_10) → (Zt14_5) → (Zt14_6) → (Zt14_0) → Option R} {f6 : (Zt14_3) → (Zt14_1) → (Zt14_3) → (Zt14_10) → (Zt14_5) → (Zt14_6) → (Zt14_0) → (List Int) → Option R} {f7 : (List Int) → (Zt14_3) → (Zt14_1) → (Zt14_3) → (Zt14_10) → (Zt14_5) → (Zt14_6) → (Zt14_0) → Option R} {f8 : (List Int) → (Zt14_3) → (Zt14_1) → (Zt14_3) → (Zt14_10) → (Zt14_5) → (Zt14_6) → (Zt14_0) → Option R} {f9 : (List Int) → (Zt14_3) → (Zt14_1) → (Zt14_3) → (Zt14_10) → (Zt14_5) → (Zt14_6) → (Zt14_0) → Option R} {f10 : (List Int) → (Zt14_3) → (Zt14_1) → (Zt14_3) → (Zt14_10) → (Zt14_5) → (Zt14_6) → (Zt14_0) → Option R} {f11 : (Zt14_3) → (Zt14_1) → (Zt14_3) → (Zt14_10) → (Zt14_5) → (Zt14_6) → (Zt14_0) → Option R} {f12 : (Zt14_3) → (Zt14_1) → (Zt14_3) → (Zt14_10) → (Zt14_5) → (Zt14_6) → (Zt14_0) → Option R} {f13 : (Int) → (Zt14_3) → (Zt14_1) → (Zt14_3) → (Zt14_10) → (Zt14_5) → (Zt14_6) → (Zt14_0) → Option R} {f14 : (Zt14_3) → (Zt14_1) → (Zt14_3) → (Zt14_10) → (Zt14_5) → (Zt14_6) → (Zt14_0) → Option R} {f15 : (Zt14_3) → (Zt14_1) → (Zt14_3) → (Zt14_10) → (Zt14_5) → (Zt14_6) → (Zt14_0) → Option R} {f16 : (Zt14_3) → (Zt14_1) → (Zt14_3) → (Zt14_10) → (Zt14_5) → (Zt14_6) → (Zt14_0) → Option R} {f17 : (Zt14_3) → (Zt14_1) → (Zt14_3) → (Zt14_10) → (Zt14_5) → (Zt14_6) → (Zt14_0) → Option R} {f18 : (Zt14_3) → (Zt14_1) → (Zt14_3) → (Zt14_10) → (Zt14_5) → (Zt14_6) → (Zt14_0) → Option R} {f19 : (Zt14_3) → (Zt14_1) → (Zt14_3) → (Zt14_10) → (Zt14_5) → (Zt14_6) → (Zt14_0) → Option R} {g0 : (Zt14_3) → (Zt14_1) → (Zt14_3) → (Zt14_10) → (Zt14_5) → (Zt14_6) → (Zt14_0) → Option Sp.E_14_1} {g1 : (Int) → (Zt14_3) → (Zt14_1) → (Zt14_3) → (Zt14_10) → (Zt14_5) → (Zt14_6) → (Zt14_0) → Option Sp.E_14_1} {g2 : (Zt14_3) → (Zt14_1) → (Zt14_3) → (Zt14_10) → (Zt14_5) → (Zt14_6) → (Zt14_0) → Option Sp.E_14_1} {g3 : (Zt14_3) → (Zt14_1) → (Zt14_3) → (Zt14_10) → (Zt14_5) → (Zt14_6) → (Zt14_0) → Option Sp.E_14_1} {g4 : (Zt14_3) → (Zt14_1) → (Zt14_3) → (Zt14_10) → (Zt14_5) → (Zt14_6) → (Zt14_0) → Option Sp.E_14_1} {g5 : (Zt14_3) → (Zt14_1) → (Zt14_3) → (Zt14_10) → (Zt14_5) → (Zt14_6) → (Zt14_0) → Option Sp.E_14_1} {g6 : (Zt14_3) → (Zt14_1) → (Zt14_3) → (Zt14_10) → (Zt14_5) → (Zt14_6) → (Zt14_0) → (List Int) → Option Sp.E_14_1} {g7 : (List Int) → (Zt14_3) → (Zt14_1) → (Zt14_3) → (Zt14_10) → (Zt14_5) → (Zt14_6) → (Zt14_0) → Option Sp.E_14_1} {g8 : (List Int) → (Zt14_3) → (Zt14_1) → (Zt14_3) → (Zt14_10) → (Zt14_5) → (Zt14_6) → (Zt14_0) → Option Sp.E_14_1} {g9 : (List Int) → (Zt14_3) → (Zt14_1) → (Zt14_3) → (Zt14_10) → (Zt14_5) → (Zt14_6) → (Zt14_0) → Option Sp.E_14_1} {g10 : (List Int) → (Zt14_3) → (Zt14_1) → (Zt14_3) → (Zt14_10) → (Zt14_5) → (Zt14_6) → (Zt14_0) → Option Sp.E_14_1} {g11 : (Zt14_3) → (Zt14_1) → (Zt14_3) → (Zt14_10) → (Zt14_5) → (Zt14_6) → (Zt14_0) → Option Sp.E_14_1} {g12 : (Zt14_3) → (Zt14_1) → (Zt14_3) → (Zt14_10) → (Zt14_5) → (Zt14_6) → (Zt14_0) → Option Sp.E_14_1} {g13 : (Int) → (Zt14_3) → (Zt14_1) → (Zt14_3) → (Zt14_10) → (Zt14_5) → (Zt14_6) → (Zt14_0) → Option Sp.E_14_1} {g14 : (Zt14_3) → (Zt14_1) → (Zt14_3) → (Zt14_10) → (Zt14_5) → (Zt14_6) → (Zt14_0) → Option Sp.E_14_1} {g15 : (Zt14_3) → (Zt14_1) → (Zt14_3) → (Zt14_10) → (Zt14_5) → (Zt14_6) → (Zt14_0) → Option Sp.E_14_1} {g16 : (Zt14_3) → (Zt14_1) → (Zt14_3) → (Zt14_10) → (Zt14_5) → (Zt14_6) → (Zt14_0) → Option Sp.E_14_1} {g17 : (Zt14_3) → (Zt14_1) → (Zt14_3) → (Zt14_10) → (Zt14_5) → (Zt14_6) → (Zt14_0) → Option Sp.E_14_1} {g18 : (Zt14_3) → (Zt14_1) → (Zt14_3) → (Zt14_10) → (Zt14_5) → (Zt14_6) → (Zt14_0) → Option Sp.E_14_1} {g19 : (Zt14_3) → (Zt14_1) → (Zt14_3) → (Zt14_10) → (Zt14_5) → (Zt14_6) → (Zt14_0) → Option Sp.E_14_1} (h0 : ∀ z0 z1 z2 z3 z4 z5 z6, f0 z0 z1 z2 z3 z4 z5 z6 = Sp.B_14_1 (g0 z0 z1 z2 z3 z4 z5 z6) k0 k1) (h1 : ∀ z0 z1 z2 z3 z4 z5 z6 z7, f1 z0 z1 z2 z3 z4 z5 z6 z7 = Sp.B_14_1 (g1 z0 z1 z2 z3 z4 z5 z6 z7) k0 k1) (h2 : ∀ z0 z1 z2 z3 z4 z5 z6, f2 z0 z1 z2 z3 z4 z5 z6 = Sp.B_14_1 (g2 z0 z1 z2 z3 z4 z5 z6) k0 k1) (h3 : ∀ z0 z1 z2 z3 z4 z5 z6, f3 z0 z1 z2 z3 z4 z5 z6 = Sp.B_14_1 (g3 z0 z1 z2 z3 z4 z5 z6) k0 k1) (h4 : ∀ z0 z1 z2 z3 z4 z5 z6, f4 z0 z1 z2 z3 z4 z5 z6 = Sp.B_14_1 (g4 z0 z1 z2 z3 z4 z5 z6) k0 k1) (h5 : ∀ z0 z1 z2 z3 z4 z5 z6, f5 z0 z1 z2 z3 z4 z5 z6 = Sp.B_14_1 (g5 z0 z1 z2 z3 z4 z5 z6) k0 k1) (h6 : ∀ z0 z1 z2 z3 z4 z5 z6 z7, f6 z0 z1 z2 z3 z4 z5 z6 z7 = Sp.B_14_1 (g6 z0 z1 z2 z3 z4 z5 z6 z7) k0 k1) (h7 : ∀ z0 z1 z2 z3 z4 z5 z6 z7, f7 z0 z1 z2 z3 z4 z5 z6 z7 = Sp.B_14_1 (g7 z0 z1 z2 z3 z4 z5 z6 z7) k0 k1) (h8 : ∀ z0 z1 z2 z3 z4 z5 z6 z7, f8 z0 z1 z2 z3 z4 z5 z6 z7 = Sp.B_14_1 (g8 z0 z1 z2 z3 z4 z5 z6 z7) k0 k1) (h9 : ∀ z0 z1 z2 z3 z4 z5 z6 z7, f9 z0 z1 z2 z3 z4 z5 z6 z7 = Sp.B_14_1 (g9 z0 z1 z2 z3 z4 z5 z6 z7) k0 k1) (h10 : ∀ z0 z1 z2 z3 z4 z5 z6 z7, f10 z0 z1 z2 z3 z4 z5 z6 z7 = Sp.B_14_1 (g10 z0 z1 z2 z3 z4 z5 z6 z7) k0 k1) (h11 : ∀ z0 z1 z2 z3 z4 z5 z6, f11 z0 z1 z2 z3 z4 z5 z6 = Sp.B_14_1 (g11 z0 z1 z2 z3 z4 z5 z6) k0 k1) (h12 : ∀ z0 z1 z2 z3 z4 z5 z6, f12 z0 z1 z2 z3 z4 z5 z6 = Sp.B_14_1 (g12 z0 z1 z2 z3 z4 z5 z6) k0 k1) (h13 : ∀ z0 z1 z2 z3 z4 z5 z6 z7, f13 z0 z1 z2 z3 z4 z5 z6 z7 = Sp.B_14_1 (g13 z0 z1 z2 z3 z4 z5 z6 z7) k0 k1) (h14 : ∀ z0 z1 z2 z3 z4 z5 z6, f14 z0 z1 z2 z3 z4 z5 z6 = Sp.B_14_1 (g14 z0 z1 z2 z3 z4 z5 z6) k0 k1) (h15 : ∀ z0 z1 z2 z3 z4 z5 z6, f15 z0 z1 z2 z3 z4 z5 z6 = Sp.B_14_1 (g15 z0 z1 z2 z3 z4 z5 z6) k0 k1) (h16 : ∀ z0 z1 z2 z3 z4 z5 z6, f16 z0 z1 z2 z3 z4 z5 z6 = Sp.B_14_1 (g16 z0 z1 z2 z3 z4 z5 z6) k0 k1) (h17 : ∀ z0 z1 z2 z3 z4 z5 z6, f17 z0 z1 z2 z3 z4 z5 z6 = Sp.B_14_1 (g17 z0 z1 z2 z3 z4 z5 z6) k0 k1) (h18 : ∀ z0 z1 z2 z3 z4 z5 z6, f18 z0 z1 z2 z3 z4 z5 z6 = Sp.B_14_1 (g18 z0 z1 z2 z3 z4 z5 z6) k0 k1) (h19 : ∀ z0 z1 z2 z3 z4 z5 z6, f19 z0 z1 z2 z3 z4 z5 z6 = Sp.B_14_1 (g19 z0 z1 z2 z3 z4 z5 z6) k0 k1) : Sp.B_14_33_1_0 r f0 f1 f2 f3 f4 f5 f6 f7 f8 f9 f10 f11 f12 f13 f14 f15 f16 f17 f18 f19 = Sp.B_14_1 (Sp.B_14_33_1_0 r g0 g1 g2 g3 g4 g5 g6 g7 g8 g9 g10 g11 g12 g13 g14 g15 g16 g17 g18 g19) k0 k1 := by
  cases r with
  | none => rfl
  | some e => cases e with
    | e0 z0 z1 z2 z3 z4 z5 z6 => exact h0 _ _ _ _ _ _ _
    | e1 z0 z1 z2 z3 z4 z5 z6 z7 => exact h1 _ _ _ _ _ _ _ _
    | e2 z0 z1 z2 z3 z4 z5 z6 => exact h2 _ _ _ _ _ _ _
    | e3 z0 z1 z2 z3 z4 z5 z6 => exact h3 _ _ _ _ _ _ _
    | e4 z0 z1 z2 z3 z4 z5 z6 => exact h4 _ _ _ _ _ _ _
    | e5 z0 z1 z2 z3 z4 z5 z6 => exact h5 _ _ _ _ _ _ _
    | e6 z0 z1 z2 z3 z4 z5 z6 z7 => exact h6 _ _ _ _ _ _ _ _
    | e7 z0 z1 z2 z3 z4 z5 z6 z7 => exact h7 _ _ _ _ _ _ _ _
    | e8 z0 z1 z2 z3 z4 z5 z6 z7 => exact h8 _ _ _ _ _ _ _ _
    | e9 z0 z1 z2 z3 z4 z5 z6 z7 => exact h9 _ _ _ _ _ _ _ _
    | e10 z0 z1 z2 z3 z4 z5 z6 z7 => exact h10 _ _ _ _ _ _ _ _
    | e11 z0 z1 z2 z3 z4 z5 z6 => exact h11 _ _ _ _ _ _ _
    | e12 z0 z1 z2 z3 z4 z5 z6 => exact h12 _ _ _ _ _ _ _
    | e13 z0 z1 z2 z3 z4 z5 z6 z7 => exact h13 _ _ _ _ _ _ _ _
    | e14 z0 z1 z2 z3 z4 z5 z6 => exact h14 _ _ _ _ _ _ _
    | e15 z0 z1 z2 z3 z4 z5 z6 => exact h15 _ _ _ _ _ _ _
    | e16 z0 z1 z2 z3 z4 z5 z6 => exact h16 _ _ _ _ _ _ _
    | e17 z0 z1 z2 z3 z4 z5 z6 => exact h17 _ _ _ _ _ _ _
    | e18 z0 z1 z2 z3 z4 z5 z6 => exact h18 _ _ _ _ _ _ _
    | e19 z0 z1 z2 z3 z4 z5 z6 => exact h19 _ _ _ _ _ _ _
theorem loop_14_1 {R : Type} (k : Ex → St → Option R) (p0 : List Int) (p1 : Int) (p2 : Zt14_3) (p3 : Zt14_1) (p4 : Zt14_3) (p5 : Zt14_10) (p6 : Zt14_5) (p7 : Zt14_6) : evJ (evCodeL sm_14 FU (ovr (fun f' => bif Nat.beq f' 33 then some (g_14_33) else none) (evFn sm_14 fns FU 2)) (ir14_bt1 O_14_14_2) ir14_b1) (T_14_1 p0 p1 p2 p3 p4 p5 p6 p7) k = Sp.B_14_1 (Sp.J_14_1 p0 p1 p2 p3 p4 p5 p6 p7) (fun y707 y708 => k Ex.ret (X_14_1_0 y707 y708)) (fun y764 y765 => k Ex.ret (X_14_1_1 y764 y765)) := by
  rw [body_14_1, Sp.J_14_1]
  repeat' first | apply Bgd_14_1 | apply Bcond_14_1 | (apply Bin_14_1_14_2 <;> intros) | (apply Bin_14_1_14_2_1 <;> intros) | (apply Bin_14_1_14_33_0_0 <;> intros) | (apply Bin_14_1_14_33_1_0 <;> intros) | rfl
theorem ok_14_1 {R : Type} (T : St) (k : Ex → St → Option R) (r : R) (h0 : o_14_1 G_14_1 T k = some r) : evCode sm_14 FU (evFn sm_14 fns FU 2) ir14_b1 T k = some r := by
  obtain ⟨p0, p1, p2, p3, p4, p5, p6, p7, rfl, h⟩ := o_14_1_inv h0
  refine bodyL_sound (t := (ir14_bt1 O_14_14_2)) ov_14_14_ok (ir14_bt1ok (fun T k r => OK_14_14_2 T k r)) (((show ∀ (b : St → (Ex → St → Option R) → Option R) (T : St) (k : Ex → St → Option R), b T k = evJ b T k from fun _ _ _ => rfl) _ _ _).trans ((loop_14_1 k p0 p1 p2 p3 p4 p5 p6 p7).trans h))
theorem OK_14_14_1 {R : Type} (T : St) (k : Ex → St → Option R) (r : R) (h : O_14_14_1 T k = some r) : evCode sm_14 FU (evFn sm_14 fns FU 2) ir14_b1 T k = some r := ok_14_1 T k r h
noncomputable def F_14 (a0 : (Int × (Int × (Int × (Int × (Int × (Int × Unit))))))) (a1 : ((List (Int × (Int × (Int × (Int × (Int × (Int × (Bool × (Int × Unit))))))))) × ((List (Int × (Int × (Int × (Int × (Int × ((List Int) × (Int × Unit)))))))) × (Int × (Bool × Unit))))) (a2 : (List Int)) (a3 : Int) : Option ((Int × (Int × (Int × (Int × (Int × (Int × Unit)))))) × ((List (Int × (Int × (Int × (Int × (Int × (Int × (Bool × (Int × Unit))))))))) × ((List (Int × (Int × (Int × (Int × (Int × ((List Int) × (Int × Unit)))))))) × (Int × (Bool × Unit)))) × (List Int) × Unit) :=
  gd (Sp.p_15 a0) (bif !(Sp.v_15 a0).1 then Sp.B_14_0 (Sp.J_14_0 a2 a3 true a0 a1 ((0 : Int), (0 : Int), (0 : Int), (0 : Int), (0 : Int), (0 : Int), PUnit.unit) ((0 : Int), false, PUnit.unit) [] []) (fun (y56 : Int × Int × Int × Int × Int × Int × Unit) (y57 : List (Int × Int × Int × Int × Int × Int × Bool × Int × Unit) × List (Int × Int × Int × Int × Int × List Int × Int × Unit) × Int × Bool × Unit) => some (y56, y57, [], PUnit.unit)) fun (y58 : List Int) (y59 : Int) (y60 : Int × Int × Int × Int × Int × Int × Unit) (y61 : List (Int × Int × Int × Int × Int × Int × Bool × Int × Unit) × List (Int × Int × Int × Int × Int × List Int × Int × Unit) × Int × Bool × Unit) (y62 : Int × Int × Int × Int × Int × Int × Unit) (y63 : Int × Bool × Unit) (y64 : List (Int × Int × Int × Int × Int × Int × Bool × Int × Unit)) (y65 : List (Int × Int × Int × Int × Int × List Int × Int × Unit)) => Sp.B_14_1 (Sp.J_14_1 y58 y59 y60 y61 y62 y63 y64 y65) (fun (y66 : (Int × Int × Int × Int × Int × Int × Unit) × (List (Int × Int × Int × Int × Int × Int × Bool × Int × Unit) × List (Int × Int × Int × Int × Int × List Int × Int × Unit) × Int × Bool × Unit) × Int × Unit) (y67 : List Int) => some (y66.1, y66.2.1, y67, PUnit.unit)) fun (y68 : List Int) (y69 : (Int × Int × Int × Int × Int × Int × Unit) × (List (Int × Int × Int × Int × Int × Int × Bool × Int × Unit) × List (Int × Int × Int × Int × Int × List Int × Int × Unit) × Int × Bool × Unit) × Int × Unit) => some (y69.1, y69.2.1, y68, PUnit.unit) else gd (Sp.p_10 a1) (bif !(Sp.v_10 a1).1 then Sp.B_14_0 (Sp.J_14_0 a2 a3 true a0 a1 ((0 : Int), (0 : Int), (0 : Int), (0 : Int), (0 : Int), (0 : Int), PUnit.unit) ((0 : Int), false, PUnit.unit) [] []) (fun (y70 : Int × Int × Int × Int × Int × Int × Unit) (y71 : List (Int × Int × Int × Int × Int × Int × Bool × Int × Unit) × List (Int × Int × Int × Int × Int × List Int × Int × Unit) × Int × Bool × Unit) => some (y70, y71, [], PUnit.unit)) fun (y72 : List Int) (y73 : Int) (y74 : Int × Int × Int × Int × Int × Int × Unit) (y75 : List (Int × Int × Int × Int × Int × Int × Bool × Int × Unit) × List (Int × Int × Int × Int × Int × List Int × Int × Unit) × Int × Bool × Unit) (y76 : Int × Int × Int × Int × Int × Int × Unit) (y77 : Int × Bool × Unit) (y78 : List (Int × Int × Int × Int × Int × Int × Bool × Int × Unit)) (y79 : List (Int × Int × Int × Int × Int × List Int × Int × Unit)) => Sp.B_14_1 (Sp.J_14_1 y72 y73 y74 y75 y76 y77 y78 y79) (fun (y80 : (Int × Int × Int × Int × Int × Int × Unit) × (List (Int × Int × Int × Int × Int × Int × Bool × Int × Unit) × List (Int × Int × Int × Int × Int × List Int × Int × Unit) × Int × Bool × Unit) × Int × Unit) (y81 : List Int) => some (y80.1, y80.2.1, y81, PUnit.unit)) fun (y82 : List Int) (y83 : (Int × Int × Int × Int × Int × Int × Unit) × (List (Int × Int × Int × Int × Int × Int × Bool × Int × Unit) × List (Int × Int × Int × Int × Int × List Int × Int × Unit) × Int × Bool × Unit) × Int × Unit) => some (y83.1, y83.2.1, y82, PUnit.unit) else gd (Sp.p_31 a3 (0 : Int) (1099511627776 : Int)) (bif !(Sp.v_31 a3 (0 : Int) (1099511627776 : Int)).1 then Sp.B_14_0 (Sp.J_14_0 a2 a3 true a0 a1 ((0 : Int), (0 : Int), (0 : Int), (0 : Int), (0 : Int), (0 : Int), PUnit.unit) ((0 : Int), false, PUnit.unit) [] []) (fun (y84 : Int × Int × Int × Int × Int × Int × Unit) (y85 : List (Int × Int × Int × Int × Int × Int × Bool × Int × Unit) × List (Int × Int × Int × Int × Int × List Int × Int × Unit) × Int × Bool × Unit) => some (y84, y85, [], PUnit.unit)) fun (y86 : List Int) (y87 : Int) (y88 : Int × Int × Int × Int × Int × Int × Unit) (y89 : List (Int × Int × Int × Int × Int × Int × Bool × Int × Unit) × List (Int × Int × Int × Int × Int × List Int × Int × Unit) × Int × Bool × Unit) (y90 : Int × Int × Int × Int × Int × Int × Unit) (y91 : Int × Bool × Unit) (y92 : List (Int × Int × Int × Int × Int × Int × Bool × Int × Unit)) (y93 : List (Int × Int × Int × Int × Int × List Int × Int × Unit)) => Sp.B_14_1 (Sp.J_14_1 y86 y87 y88 y89 y90 y91 y92 y93) (fun (y94 : (Int × Int × Int × Int × Int × Int × Unit) × (List (Int × Int × Int × Int × Int × Int × Bool × Int × Unit) × List (Int × Int × Int × Int × Int × List Int × Int × Unit) × Int × Bool × Unit) × Int × Unit) (y95 : List Int) => some (y94.1, y94.2.1, y95, PUnit.unit)) fun (y96 : List Int) (y97 : (Int × Int × Int × Int × Int × Int × Unit) × (List (Int × Int × Int × Int × Int × Int × Bool × Int × Unit) × List (Int × Int × Int × Int × Int × List Int × Int × Unit) × Int × Bool × Unit) × Int × Unit) => some (y97.1, y97.2.1, y96, PUnit.unit) else gd (Sp.p_31 (↑(List.length a2) : Int) (1 : Int) (1023 : Int)) (Sp.B_14_0 (Sp.J_14_0 a2 a3 (!(Sp.v_31 (↑(List.length a2) : Int) (1 : Int) (1023 : Int)).1) a0 a1 ((0 : Int), (0 : Int), (0 : Int), (0 : Int), (0 : Int), (0 : Int), PUnit.unit) ((0 : Int), false, PUnit.unit) [] []) (fun (y98 : Int × Int × Int × Int × Int × Int × Unit) (y99 : List (Int × Int × Int × Int × Int × Int × Bool × Int × Unit) × List (Int × Int × Int × Int × Int × List Int × Int × Unit) × Int × Bool × Unit) => some (y98, y99, [], PUnit.unit)) fun (y100 : List Int) (y101 : Int) (y102 : Int × Int × Int × Int × Int × Int × Unit) (y103 : List (Int × Int × Int × Int × Int × Int × Bool × Int × Unit) × List (Int × Int × Int × Int × Int × List Int × Int × Unit) × Int × Bool × Unit) (y104 : Int × Int × Int × Int × Int × Int × Unit) (y105 : Int × Bool × Unit) (y106 : List (Int × Int × Int × Int × Int × Int × Bool × Int × Unit)) (y107 : List (Int × Int × Int × Int × Int × List Int × Int × Unit)) => Sp.B_14_1 (Sp.J_14_1 y100 y101 y102 y103 y104 y105 y106 y107) (fun (y108 : (Int × Int × Int × Int × Int × Int × Unit) × (List (Int × Int × Int × Int × Int × Int × Bool × Int × Unit) × List (Int × Int × Int × Int × Int × List Int × Int × Unit) × Int × Bool × Unit) × Int × Unit) (y109 : List Int) => some (y108.1, y108.2.1, y109, PUnit.unit)) fun (y110 : List Int) (y111 : (Int × Int × Int × Int × Int × Int × Unit) × (List (Int × Int × Int × Int × Int × Int × Bool × Int × Unit) × List (Int × Int × Int × Int × Int × List Int × Int × Unit) × Int × Bool × Unit) × Int × Unit) => some (y111.1, y111.2.1, y110, PUnit.unit)))))
theorem fn_14 (a0 : (Int × (Int × (Int × (Int × (Int × (Int × Unit))))))) (a1 : ((List (Int × (Int × (Int × (Int × (Int × (Int × (Bool × (Int × Unit))))))))) × ((List (Int × (Int × (Int × (Int × (Int × ((List Int) × (Int × Unit)))))))) × (Int × (Bool × Unit))))) (a2 : (List Int)) (a3 : Int) : evFnL sm_14 FU (ovr (fun f' => bif Nat.beq f' 33 then some (g_14_33) else none) (evFn sm_14 fns FU 2)) (ir14_t O_14_14_0 O_14_14_1) ir14 (ofH [Zy14_15, Zy14_12, (.slice (.int .u8)), (.int .i64)] (a0, a1, a2, a3, ())) [] (pureK [Zy14_15, Zy14_12, (.slice (.int .u8))]) = F_14 a0 a1 a2 a3 := by kernel_rfl
noncomputable def Sp.p_14 (a0 : (Int × (Int × (Int × (Int × (Int × (Int × Unit))))))) (a1 : ((List (Int × (Int × (Int × (Int × (Int × (Int × (Bool × (Int × Unit))))))))) × ((List (Int × (Int × (Int × (Int × (Int × ((List Int) × (Int × Unit)))))))) × (Int × (Bool × Unit))))) (a2 : (List Int)) (a3 : Int) : Bool := (F_14 a0 a1 a2 a3).isSome
noncomputable def Sp.v_14 (a0 : (Int × (Int × (Int × (Int × (Int × (Int × Unit))))))) (a1 : ((List (Int × (Int × (Int × (Int × (Int × (Int × (Bool × (Int × Unit))))))))) × ((List (Int × (Int × (Int × (Int × (Int × ((List Int) × (Int × Unit)))))))) × (Int × (Bool × Unit))))) (a2 : (List Int)) (a3 : Int) : (Int × (Int × (Int × (Int × (Int × (Int × Unit)))))) × ((List (Int × (Int × (Int × (Int × (Int × (Int × (Bool × (Int × Unit))))))))) × ((List (Int × (Int × (Int × (Int × (Int × ((List Int) × (Int × Unit)))))))) × (Int × (Bool × Unit)))) × (List Int) × Unit := (F_14 a0 a1 a2 a3).getD (dfH [Zy14_15, Zy14_12, (.slice (.int .u8))])
noncomputable def s_14 : Summ := shS [Zy14_15, Zy14_12, (.slice (.int .u8)), (.int .i64)] [Zy14_15, Zy14_12, (.slice (.int .u8))] (fun x => Sp.p_14 x.1 x.2.1 x.2.2.1 x.2.2.2.1) (fun x => Sp.v_14 x.1 x.2.1 x.2.2.1 x.2.2.2.1)
theorem pv_14 (a0 : (Int × (Int × (Int × (Int × (Int × (Int × Unit))))))) (a1 : ((List (Int × (Int × (Int × (Int × (Int × (Int × (Bool × (Int × Unit))))))))) × ((List (Int × (Int × (Int × (Int × (Int × ((List Int) × (Int × Unit)))))))) × (Int × (Bool × Unit))))) (a2 : (List Int)) (a3 : Int) {y : (Int × (Int × (Int × (Int × (Int × (Int × Unit)))))) × ((List (Int × (Int × (Int × (Int × (Int × (Int × (Bool × (Int × Unit))))))))) × ((List (Int × (Int × (Int × (Int × (Int × ((List Int) × (Int × Unit)))))))) × (Int × (Bool × Unit)))) × (List Int) × Unit} (h : F_14 a0 a1 a2 a3 = some y) : Sp.p_14 a0 a1 a2 a3 = true ∧ Sp.v_14 a0 a1 a2 a3 = y := ⟨by rw [Sp.p_14, h]; rfl, by rw [Sp.v_14, h]; rfl⟩
theorem run_14 (x : HDen [Zy14_15, Zy14_12, (.slice (.int .u8)), (.int .i64)]) (y : HDen [Zy14_15, Zy14_12, (.slice (.int .u8))]) (h : F_14 x.1 x.2.1 x.2.2.1 x.2.2.2.1 = some y) : evFn sm_14 fns FU 3 14 (ofH [Zy14_15, Zy14_12, (.slice (.int .u8)), (.int .i64)] x) [] (pureK [Zy14_15, Zy14_12, (.slice (.int .u8))]) = some y :=
  evFnL_sound (fn := ir14) (t := (ir14_t O_14_14_0 O_14_14_1)) (o := (fun f' => bif Nat.beq f' 33 then some (g_14_33) else none)) rfl ov_14_14_ok (ir14_tok (fun T k r => OK_14_14_0 T k r) (fun T k r => OK_14_14_1 T k r)) ((fn_14 _ _ _ _).trans h)
end
end Go.Ev
namespace Go.Ev
open Go
set_option maxRecDepth 100000
set_option maxHeartbeats 4000000
set_option linter.unusedVariables false
noncomputable section

noncomputable def sm_18 : Nat → Option Summ := fun f => none
noncomputable def T_18_0 (p0 : List Int) (p1 : List Int) (p2 : Int) (p3 : Int) : St := St.mk ([CV.pure (Ty.slice (Ty.int IntKind.u8)) p0, CV.pure (Ty.slice (Ty.int IntKind.u8)) p1] ++ (jl 10 ++ ([CV.int IntKind.i64 p2, CV.int IntKind.i64 p3] ++ (jl 12)))) [] (0 : Nat)
noncomputable def X_18_0_0 : St := St.mk ([jk, jk, jk, jk, CV.bool false] ++ (jl 21)) [] (0 : Nat)
noncomputable def X_18_0_1 : St := St.mk (jl 26) [] (0 : Nat)
inductive Sp.E_18_0 where
  | e0
  | e1
noncomputable def Sp.B_18_0 {R : Type} (r : Option Sp.E_18_0) (k0 : Option R) (k1 : Option R) : Option R := match r with
  | none => none
  | some (.e0) => k0
  | some (.e1) => k1
noncomputable def Sp.L_18_0 : Nat → (List Int) → (List Int) → (Int) → (Int) → Option Sp.E_18_0
  | 0, _, _, _, _ => none
  | m + 1, p0, p1, p2, p3 => bif decide (p3 < p2) then gd (inB p3 (List.length p0)) (gd (inB p3 (List.length p1)) (bif List.getD p0 (Int.toNat p3) (0 : Int) != List.getD p1 (Int.toNat p3) (0 : Int) then some (Sp.E_18_0.e0) else Sp.L_18_0 m p0 p1 p2 (IntKind.wrap IntKind.i64 (p3 + (1 : Int))))) else some (Sp.E_18_0.e1)
noncomputable def G_18_0 {R : Type} (p0 : List Int) (p1 : List Int) (p2 : Int) (p3 : Int) (k : Ex → St → Option R) : Option R := Sp.B_18_0 (Sp.L_18_0 FU p0 p1 p2 p3) (k Ex.ret (X_18_0_0)) (k (Ex.exit (0 : Nat)) (X_18_0_1))
noncomputable def o_18_0 {R : Type} (G : (List Int) → (List Int) → (Int) → (Int) → (Ex → St → Option R) → Option R) : St → (Ex → St → Option R) → Option R := fun T k => match T.sl.getD 0 .junk, T.sl.getD 1 .junk, T.sl.getD 12 .junk, T.sl.getD 13 .junk, T.hp with
  | CV.pure (Ty.slice (Ty.int IntKind.u8)) p0, CV.pure (Ty.slice (Ty.int IntKind.u8)) p1, CV.int IntKind.i64 p2, CV.int IntKind.i64 p3, [] => gd (shapeOK T 26 [0, 1, 12, 13] (0 : Nat)) (G p0 p1 p2 p3 k)
  | _, _, _, _, _ => none
theorem o_18_0_inv {R : Type} {G : (List Int) → (List Int) → (Int) → (Int) → (Ex → St → Option R) → Option R} {T : St} {k : Ex → St → Option R} {r : R} (h : o_18_0 G T k = some r) : ∃ p0 p1 p2 p3, T = T_18_0 p0 p1 p2 p3 ∧ G p0 p1 p2 p3 k = some r := by
  unfold o_18_0 at h
  split at h
  · obtain ⟨hs, h'⟩ := gd_some h
    refine ⟨_, _, _, _, (st_of (asg := [(0, _), (1, _), (12, _), (13, _)]) hs ⟨by assumption, by assumption, by assumption, by assumption, trivial⟩ (by assumption)).trans ?_, h'⟩
    kernel_rfl
  · cases h
noncomputable def O_18_18_0 {R : Type} : St → (Ex → St → Option R) → Option R := fun T k => o_18_0 G_18_0 T k
theorem body_18_0 {R : Type} (K0 : St → Option R) (K1 : Ex → St → Option R) (p0 : List Int) (p1 : List Int) (p2 : Int) (p3 : Int) : evLB (evCodeL sm_18 FU (ovr noO (evFn sm_18 fns FU 0)) .nil ir18_b0) (St.norm ir18_v0) (T_18_0 p0 p1 p2 p3) K0 K1 =
  bif decide (p3 < p2) then gd (inB p3 (List.length p0)) (gd (inB p3 (List.length p1)) (bif List.getD p0 (Int.toNat p3) (0 : Int) != List.getD p1 (Int.toNat p3) (0 : Int) then K1 Ex.ret X_18_0_0 else K0 (T_18_0 p0 p1 p2 (IntKind.wrap IntKind.i64 (p3 + (1 : Int)))))) else K1 (Ex.exit (0 : Nat)) X_18_0_1 := by kernel_rfl
theorem Bgd_18_0 {R : Type} {c : Bool} {x : Option R} {y : Option Sp.E_18_0} {k0 : Option R} {k1 : Option R} (h : x = Sp.B_18_0 y k0 k1) : gd c x = Sp.B_18_0 (gd c y) k0 k1 := by cases c; rfl; exact h
theorem Bcond_18_0 {R : Type} {c : Bool} {x x' : Option R} {y y' : Option Sp.E_18_0} {k0 : Option R} {k1 : Option R} (h : x = Sp.B_18_0 y k0 k1) (h' : x' = Sp.B_18_0 y' k0 k1) : (bif c then x else x') = Sp.B_18_0 (bif c then y else y') k0 k1 := by cases c; exact h'; exact h
theorem loop_18_0 {R : Type} (k : Ex → St → Option R) : ∀ (m : Nat) (p0 : List Int) (p1 : List Int) (p2 : Int) (p3 : Int), evLoopN (evCodeL sm_18 FU (ovr noO (evFn sm_18 fns FU 0)) .nil ir18_b0) (St.norm ir18_v0) m (T_18_0 p0 p1 p2 p3) k = Sp.B_18_0 (Sp.L_18_0 m p0 p1 p2 p3) (k Ex.ret (X_18_0_0)) (k (Ex.exit (0 : Nat)) (X_18_0_1))
  | 0, _, _, _, _ => rfl
  | m + 1, p0, p1, p2, p3 => by
    rw [evLoopN_succ, body_18_0, Sp.L_18_0]
    repeat' first | apply Bgd_18_0 | apply Bcond_18_0 | exact loop_18_0 k m _ _ _ _ | rfl
theorem ok_18_0 {R : Type} (T : St) (k : Ex → St → Option R) (r : R) (h0 : o_18_0 G_18_0 T k = some r) : evLoopN (evCode sm_18 FU (evFn sm_18 fns FU 0) ir18_b0) (St.norm ir18_v0) FU T k = some r := by
  obtain ⟨p0, p1, p2, p3, rfl, h⟩ := o_18_0_inv h0
  refine evLoopN_L (t := .nil) noO_ok trivial _ _ _ _ ?_
  rw [loop_18_0]
  exact h
theorem OK_18_18_0 {R : Type} (T : St) (k : Ex → St → Option R) (r : R) (h : O_18_18_0 T k = some r) : evLoopN (evCode sm_18 FU (evFn sm_18 fns FU 0) ir18_b0) (St.norm ir18_v0) FU T k = some r := ok_18_0 T k r h
noncomputable def F_18 (a0 : (List Int)) (a1 : (List Int)) : Option (Bool × Unit) :=
  bif (↑(List.length a0) : Int) != (↑(List.length a1) : Int) then some (false, PUnit.unit) else Sp.B_18_0 (Sp.L_18_0 (4611686018427387904 : Nat) a0 a1 (↑(List.length a0) : Int) (0 : Int)) (some (false, PUnit.unit)) (some (true, PUnit.unit))
theorem fn_18 (a0 : (List Int)) (a1 : (List Int)) : evFnL sm_18 FU (ovr noO (evFn sm_18 fns FU 0)) (ir18_t O_18_18_0) ir18 (ofH [(.slice (.int .u8)), (.slice (.int .u8))] (a0, a1, ())) [] (pureK [.bool]) = F_18 a0 a1 := by kernel_rfl
noncomputable def Sp.p_18 (a0 : (List Int)) (a1 : (List Int)) : Bool := (F_18 a0 a1).isSome
noncomputable def Sp.v_18 (a0 : (List Int)) (a1 : (List Int)) : Bool × Unit := (F_18 a0 a1).getD (dfH [.bool])
noncomputable def s_18 : Summ := shN [(.slice (.int .u8)), (.slice (.int .u8))] [.bool] (fun x => Sp.p_18 x.1 x.2.1) (fun x => Sp.v_18 x.1 x.2.1)
theorem pv_18 (a0 : (List Int)) (a1 : (List Int)) {y : Bool × Unit} (h : F_18 a0 a1 = some y) : Sp.p_18 a0 a1 = true ∧ Sp.v_18 a0 a1 = y := ⟨by rw [Sp.p_18, h]; rfl, by rw [Sp.v_18, h]; rfl⟩
theorem run_18 (x : HDen [(.slice (.int .u8)), (.slice (.int .u8))]) (y : HDen [.bool]) (h : F_18 x.1 x.2.1 = some y) : evFn sm_18 fns FU 1 18 (ofH [(.slice (.int .u8)), (.slice (.int .u8))] x) [] (pureK [.bool]) = some y :=
  evFnL_sound (fn := ir18) (t := (ir18_t O_18_18_0)) (o := noO) rfl noO_ok (ir18_tok (fun T k r => OK_18_18_0 T k r)) ((fn_18 _ _).trans h)
end
end Go.Ev
namespace Go.Ev
open Go
set_option maxRecDepth 100000
set_option maxHeartbeats 4000000
set_option linter.unusedVariables false
noncomputable section

noncomputable def sm_8 : Nat → Option Summ := fun f => bif Nat.beq f 12 then some s_12 else bif Nat.beq f 14 then some s_14 else bif Nat.beq f 18 then some s_18 else none


noncomputable def F_8  : Option (Bool × Unit) :=
  gd Sp.p_12 (gd (Sp.p_14 (Sp.v_12.1) ([], [], (0 : Int), false, PUnit.unit) [(39 : Int), (1 : Int)] (0 : Int)) (gd (Sp.p_14 ((Sp.v_14 (Sp.v_12.1) ([], [], (0 : Int), false, PUnit.unit) [(39 : Int), (1 : Int)] (0 : Int)).1) ((Sp.v_14 (Sp.v_12.1) ([], [], (0 : Int), false, PUnit.unit) [(39 : Int), (1 : Int)] (0 : Int)).2.1) [(16 : Int), (3 : Int)] (0 : Int)) (gd (Sp.p_14 ((Sp.v_14 ((Sp.v_14 (Sp.v_12.1) ([], [], (0 : Int), false, PUnit.unit) [(39 : Int), (1 : Int)] (0 : Int)).1) ((Sp.v_14 (Sp.v_12.1) ([], [], (0 : Int), false, PUnit.unit) [(39 : Int), (1 : Int)] (0 : Int)).2.1) [(16 : Int), (3 : Int)] (0 : Int)).1) ((Sp.v_14 ((Sp.v_14 (Sp.v_12.1) ([], [], (0 : Int), false, PUnit.unit) [(39 : Int), (1 : Int)] (0 : Int)).1) ((Sp.v_14 (Sp.v_12.1) ([], [], (0 : Int), false, PUnit.unit) [(39 : Int), (1 : Int)] (0 : Int)).2.1) [(16 : Int), (3 : Int)] (0 : Int)).2.1) [(39 : Int), (1 : Int)] (0 : Int)) (gd (Sp.p_14 ((Sp.v_14 ((Sp.v_14 ((Sp.v_14 (Sp.v_12.1) ([], [], (0 : Int), false, PUnit.unit) [(39 : Int), (1 : Int)] (0 : Int)).1) ((Sp.v_14 (Sp.v_12.1) ([], [], (0 : Int), false, PUnit.unit) [(39 : Int), (1 : Int)] (0 : Int)).2.1) [(16 : Int), (3 : Int)] (0 : Int)).1) ((Sp.v_14 ((Sp.v_14 (Sp.v_12.1) ([], [], (0 : Int), false, PUnit.unit) [(39 : Int), (1 : Int)] (0 : Int)).1) ((Sp.v_14 (Sp.v_12.1) ([], [], (0 : Int), false, PUnit.unit) [(39 : Int), (1 : Int)] (0 : Int)).2.1) [(16 : Int), (3 : Int)] (0 : Int)).2.1) [(39 : Int), (1 : Int)] (0 : Int)).1) ((Sp.v_14 ((Sp.v_14 ((Sp.v_14 (Sp.v_12.1) ([], [], (0 : Int), false, PUnit.unit) [(39 : Int), (1 : Int)] (0 : Int)).1) ((Sp.v_14 (Sp.v_12.1) ([], [], (0 : Int), false, PUnit.unit) [(39 : Int), (1 : Int)] (0 : Int)).2.1) [(16 : Int), (3 : Int)] (0 : Int)).1) ((Sp.v_14 ((Sp.v_14 (Sp.v_12.1) ([], [], (0 : Int), false, PUnit.unit) [(39 : Int), (1 : Int)] (0 : Int)).1) ((Sp.v_14 (Sp.v_12.1) ([], [], (0 : Int), false, PUnit.unit) [(39 : Int), (1 : Int)] (0 : Int)).2.1) [(16 : Int), (3 : Int)] (0 : Int)).2.1) [(39 : Int), (1 : Int)] (0 : Int)).2.1) [(39 : Int), (2 : Int), (241 : Int), (12 : Int)] (0 : Int)) (gd (Sp.p_18 ((Sp.v_14 (Sp.v_12.1) ([], [], (0 : Int), false, PUnit.unit) [(39 : Int), (1 : Int)] (0 : Int)).2.2.1) [(127 : Int), (39 : Int), (127 : Int)]) (bif (Sp.v_18 ((Sp.v_14 (Sp.v_12.1) ([], [], (0 : Int), false, PUnit.unit) [(39 : Int), (1 : Int)] (0 : Int)).2.2.1) [(127 : Int), (39 : Int), (127 : Int)]).1 then gd (Sp.p_18 ((Sp.v_14 ((Sp.v_14 (Sp.v_12.1) ([], [], (0 : Int), false, PUnit.unit) [(39 : Int), (1 : Int)] (0 : Int)).1) ((Sp.v_14 (Sp.v_12.1) ([], [], (0 : Int), false, PUnit.unit) [(39 : Int), (1 : Int)] (0 : Int)).2.1) [(16 : Int), (3 : Int)] (0 : Int)).2.2.1) [(80 : Int), (3 : Int)]) (bif (Sp.v_18 ((Sp.v_14 ((Sp.v_14 (Sp.v_12.1) ([], [], (0 : Int), false, PUnit.unit) [(39 : Int), (1 : Int)] (0 : Int)).1) ((Sp.v_14 (Sp.v_12.1) ([], [], (0 : Int), false, PUnit.unit) [(39 : Int), (1 : Int)] (0 : Int)).2.1) [(16 : Int), (3 : Int)] (0 : Int)).2.2.1) [(80 : Int), (3 : Int)]).1 then gd (Sp.p_18 ((Sp.v_14 ((Sp.v_14 ((Sp.v_14 (Sp.v_12.1) ([], [], (0 : Int), false, PUnit.unit) [(39 : Int), (1 : Int)] (0 : Int)).1) ((Sp.v_14 (Sp.v_12.1) ([], [], (0 : Int), false, PUnit.unit) [(39 : Int), (1 : Int)] (0 : Int)).2.1) [(16 : Int), (3 : Int)] (0 : Int)).1) ((Sp.v_14 ((Sp.v_14 (Sp.v_12.1) ([], [], (0 : Int), false, PUnit.unit) [(39 : Int), (1 : Int)] (0 : Int)).1) ((Sp.v_14 (Sp.v_12.1) ([], [], (0 : Int), false, PUnit.unit) [(39 : Int), (1 : Int)] (0 : Int)).2.1) [(16 : Int), (3 : Int)] (0 : Int)).2.1) [(39 : Int), (1 : Int)] (0 : Int)).2.2.1) [(103 : Int), (1 : Int), (0 : Int), (1 : Int)]) (bif (Sp.v_18 ((Sp.v_14 ((Sp.v_14 ((Sp.v_14 (Sp.v_12.1) ([], [], (0 : Int), false, PUnit.unit) [(39 : Int), (1 : Int)] (0 : Int)).1) ((Sp.v_14 (Sp.v_12.1) ([], [], (0 : Int), false, PUnit.unit) [(39 : Int), (1 : Int)] (0 : Int)).2.1) [(16 : Int), (3 : Int)] (0 : Int)).1) ((Sp.v_14 ((Sp.v_14 (Sp.v_12.1) ([], [], (0 : Int), false, PUnit.unit) [(39 : Int), (1 : Int)] (0 : Int)).1) ((Sp.v_14 (Sp.v_12.1) ([], [], (0 : Int), false, PUnit.unit) [(39 : Int), (1 : Int)] (0 : Int)).2.1) [(16 : Int), (3 : Int)] (0 : Int)).2.1) [(39 : Int), (1 : Int)] (0 : Int)).2.2.1) [(103 : Int), (1 : Int), (0 : Int), (1 : Int)]).1 then gd (Sp.p_18 ((Sp.v_14 ((Sp.v_14 ((Sp.v_14 ((Sp.v_14 (Sp.v_12.1) ([], [], (0 : Int), false, PUnit.unit) [(39 : Int), (1 : Int)] (0 : Int)).1) ((Sp.v_14 (Sp.v_12.1) ([], [], (0 : Int), false, PUnit.unit) [(39 : Int), (1 : Int)] (0 : Int)).2.1) [(16 : Int), (3 : Int)] (0 : Int)).1) ((Sp.v_14 ((Sp.v_14 (Sp.v_12.1) ([], [], (0 : Int), false, PUnit.unit) [(39 : Int), (1 : Int)] (0 : Int)).1) ((Sp.v_14 (Sp.v_12.1) ([], [], (0 : Int), false, PUnit.unit) [(39 : Int), (1 : Int)] (0 : Int)).2.1) [(16 : Int), (3 : Int)] (0 : Int)).2.1) [(39 : Int), (1 : Int)] (0 : Int)).1) ((Sp.v_14 ((Sp.v_14 ((Sp.v_14 (Sp.v_12.1) ([], [], (0 : Int), false, PUnit.unit) [(39 : Int), (1 : Int)] (0 : Int)).1) ((Sp.v_14 (Sp.v_12.1) ([], [], (0 : Int), false, PUnit.unit) [(39 : Int), (1 : Int)] (0 : Int)).2.1) [(16 : Int), (3 : Int)] (0 : Int)).1) ((Sp.v_14 ((Sp.v_14 (Sp.v_12.1) ([], [], (0 : Int), false, PUnit.unit) [(39 : Int), (1 : Int)] (0 : Int)).1) ((Sp.v_14 (Sp.v_12.1) ([], [], (0 : Int), false, PUnit.unit) [(39 : Int), (1 : Int)] (0 : Int)).2.1) [(16 : Int), (3 : Int)] (0 : Int)).2.1) [(39 : Int), (1 : Int)] (0 : Int)).2.1) [(39 : Int), (2 : Int), (241 : Int), (12 : Int)] (0 : Int)).2.2.1) [(103 : Int), (2 : Int)]) (bif (Sp.v_18 ((Sp.v_14 ((Sp.v_14 ((Sp.v_14 ((Sp.v_14 (Sp.v_12.1) ([], [], (0 : Int), false, PUnit.unit) [(39 : Int), (1 : Int)] (0 : Int)).1) ((Sp.v_14 (Sp.v_12.1) ([], [], (0 : Int), false, PUnit.unit) [(39 : Int), (1 : Int)] (0 : Int)).2.1) [(16 : Int), (3 : Int)] (0 : Int)).1) ((Sp.v_14 ((Sp.v_14 (Sp.v_12.1) ([], [], (0 : Int), false, PUnit.unit) [(39 : Int), (1 : Int)] (0 : Int)).1) ((Sp.v_14 (Sp.v_12.1) ([], [], (0 : Int), false, PUnit.unit) [(39 : Int), (1 : Int)] (0 : Int)).2.1) [(16 : Int), (3 : Int)] (0 : Int)).2.1) [(39 : Int), (1 : Int)] (0 : Int)).1) ((Sp.v_14 ((Sp.v_14 ((Sp.v_14 (Sp.v_12.1) ([], [], (0 : Int), false, PUnit.unit) [(39 : Int), (1 : Int)] (0 : Int)).1) ((Sp.v_14 (Sp.v_12.1) ([], [], (0 : Int), false, PUnit.unit) [(39 : Int), (1 : Int)] (0 : Int)).2.1) [(16 : Int), (3 : Int)] (0 : Int)).1) ((Sp.v_14 ((Sp.v_14 (Sp.v_12.1) ([], [], (0 : Int), false, PUnit.unit) [(39 : Int), (1 : Int)] (0 : Int)).1) ((Sp.v_14 (Sp.v_12.1) ([], [], (0 : Int), false, PUnit.unit) [(39 : Int), (1 : Int)] (0 : Int)).2.1) [(16 : Int), (3 : Int)] (0 : Int)).2.1) [(39 : Int), (1 : Int)] (0 : Int)).2.1) [(39 : Int), (2 : Int), (241 : Int), (12 : Int)] (0 : Int)).2.2.1) [(103 : Int), (2 : Int)]).1 then some ((Sp.v_14 ((Sp.v_14 ((Sp.v_14 ((Sp.v_14 (Sp.v_12.1) ([], [], (0 : Int), false, PUnit.unit) [(39 : Int), (1 : Int)] (0 : Int)).1) ((Sp.v_14 (Sp.v_12.1) ([], [], (0 : Int), false, PUnit.unit) [(39 : Int), (1 : Int)] (0 : Int)).2.1) [(16 : Int), (3 : Int)] (0 : Int)).1) ((Sp.v_14 ((Sp.v_14 (Sp.v_12.1) ([], [], (0 : Int), false, PUnit.unit) [(39 : Int), (1 : Int)] (0 : Int)).1) ((Sp.v_14 (Sp.v_12.1) ([], [], (0 : Int), false, PUnit.unit) [(39 : Int), (1 : Int)] (0 : Int)).2.1) [(16 : Int), (3 : Int)] (0 : Int)).2.1) [(39 : Int), (1 : Int)] (0 : Int)).1) ((Sp.v_14 ((Sp.v_14 ((Sp.v_14 (Sp.v_12.1) ([], [], (0 : Int), false, PUnit.unit) [(39 : Int), (1 : Int)] (0 : Int)).1) ((Sp.v_14 (Sp.v_12.1) ([], [], (0 : Int), false, PUnit.unit) [(39 : Int), (1 : Int)] (0 : Int)).2.1) [(16 : Int), (3 : Int)] (0 : Int)).1) ((Sp.v_14 ((Sp.v_14 (Sp.v_12.1) ([], [], (0 : Int), false, PUnit.unit) [(39 : Int), (1 : Int)] (0 : Int)).1) ((Sp.v_14 (Sp.v_12.1) ([], [], (0 : Int), false, PUnit.unit) [(39 : Int), (1 : Int)] (0 : Int)).2.1) [(16 : Int), (3 : Int)] (0 : Int)).2.1) [(39 : Int), (1 : Int)] (0 : Int)).2.1) [(39 : Int), (2 : Int), (241 : Int), (12 : Int)] (0 : Int)).1.2.2.1 == (1 : Int), PUnit.unit) else some (false, PUnit.unit)) else some (false, PUnit.unit)) else some (false, PUnit.unit)) else some (false, PUnit.unit)))))))
theorem fn_8  : evFnL sm_8 FU (ovr noO (evFn sm_8 fns FU 0)) .nil ir8 (ofH [] (())) [] (pureK [.bool]) = F_8 := by kernel_rfl
noncomputable def Sp.p_8  : Bool := (F_8).isSome
noncomputable def Sp.v_8  : Bool × Unit := (F_8).getD (dfH [.bool])
noncomputable def s_8 : Summ := shN [] [.bool] (fun x => Sp.p_8 ) (fun x => Sp.v_8 )
theorem pv_8  {y : Bool × Unit} (h : F_8 = some y) : Sp.p_8 = true ∧ Sp.v_8 = y := ⟨by rw [Sp.p_8, h]; rfl, by rw [Sp.v_8, h]; rfl⟩
theorem run_8 (x : HDen []) (y : HDen [.bool]) (h : F_8  = some y) : evFn sm_8 fns FU 1 8 (ofH [] x) [] (pureK [.bool]) = some y :=
  evFnL_sound (fn := ir8) (t := .nil) (o := noO) rfl noO_ok trivial ((fn_8).trans h)
end
end Go.Ev
namespace Go.Ev
open Go
set_option maxRecDepth 100000
set_option maxHeartbeats 4000000
set_option linter.unusedVariables false
noncomputable section
abbrev Zt5_0 : Type := Int × Int × Int × Int × Int × Int × Unit
abbrev Zy5_1 : Ty := (Ty.pair (Ty.int IntKind.i64) (Ty.pair (Ty.int IntKind.i64) (Ty.pair (Ty.int IntKind.i64) (Ty.pair (Ty.int IntKind.i64) (Ty.pair (Ty.int IntKind.i64) (Ty.pair (Ty.int IntKind.i64) Ty.unit))))))
abbrev Zt5_2 : Type := List (Int × Int × Int × Int × Int × Int × Bool × Int × Unit)
abbrev Zt5_3 : Type := List (Int × Int × Int × Int × Int × List Int × Int × Unit)
abbrev Zy5_4 : Ty := (Ty.pair (Ty.int IntKind.i64) (Ty.pair (Ty.int IntKind.i64) (Ty.pair (Ty.int IntKind.i64) (Ty.pair (Ty.int IntKind.i64) (Ty.pair (Ty.int IntKind.i64) (Ty.pair (Ty.int IntKind.i64) (Ty.pair Ty.bool (Ty.pair (Ty.int IntKind.i64) Ty.unit))))))))
abbrev Zy5_5 : Ty := (Ty.pair (Ty.int IntKind.i64) (Ty.pair (Ty.int IntKind.i64) (Ty.pair (Ty.int IntKind.i64) (Ty.pair (Ty.int IntKind.i64) (Ty.pair (Ty.int IntKind.i64) (Ty.pair (Ty.slice (Ty.int IntKind.i64)) (Ty.pair (Ty.int IntKind.i64) Ty.unit)))))))
abbrev Zt5_6 : Type := Int × Bool × Unit
abbrev Zy5_7 : Ty := (Ty.pair (Ty.int IntKind.i64) (Ty.pair Ty.bool Ty.unit))

noncomputable def sm_5 : Nat → Option Summ := fun f => bif Nat.beq f 8 then some s_8 else bif Nat.beq f 12 then some s_12 else bif Nat.beq f 13 then some s_13 else bif Nat.beq f 14 then some s_14 else bif Nat.beq f 18 then some s_18 else none
noncomputable def T_5_1_1 (p0 : Int) (p1 : Int) (p2 : List Int) (p3 : Int) (p4 : Int) (p5 : Zt5_6) (p6 : Zt5_2) (p7 : Zt5_3) (p8 : Zt5_0) : St := St.mk ([jk, jk, jk, jk, jk, CV.ptr (0 : Nat) [], CV.int IntKind.i64 p0, CV.ptr (3 : Nat) [], jk, jk, CV.int IntKind.i64 p1] ++ (jl 29 ++ ([CV.pure (Ty.slice (Ty.int IntKind.u32)) p2, CV.int IntKind.i64 p3, CV.int IntKind.i64 p4] ++ (jl 64)))) [Blk.mem (CV.pair (CV.whole (1 : Nat)) (CV.pair (CV.whole (2 : Nat)) (CV.pure Zy5_7 p5))), Blk.fvec (58 : Nat) Zy5_4 p6, Blk.fvec (60 : Nat) Zy5_5 p7, Blk.mem (CV.pure Zy5_1 p8)] (0 : Nat)
noncomputable def X_5_1_1_0 : St := St.mk ([jk, jk, jk, jk, CV.bool false] ++ (jl 102)) [] (0 : Nat)
noncomputable def X_5_1_1_1 (p1 : Int) (p2 : List Int) (p4 : Int) (p8 : Zt5_0) : St := St.mk ([jk, jk, jk, jk, CV.bool ((Sp.v_13 p8 (IntKind.wrap IntKind.i64 (p1 + Int.tmod (IntKind.wrap IntKind.i64 (List.getD p2 (Int.toNat p4) (0 : Int))) (6000000 : Int)))).1.2.1 == (0 : Int))] ++ (jl 102)) [] (0 : Nat)
noncomputable def X_5_1_1_2 (p0 : Int) (p1 : Int) (p8 : Zt5_0) : St := St.mk (jl 6 ++ ([CV.int IntKind.i64 p0, CV.ptr (0 : Nat) [], jk, jk, CV.int IntKind.i64 p1] ++ (jl 96))) [Blk.mem (CV.pure Zy5_1 p8)] (0 : Nat)
inductive Sp.E_5_1_1 where
  | e0
  | e1 (p1 : Int) (p2 : List Int) (p4 : Int) (p8 : Zt5_0)
  | e2 (p0 : Int) (p1 : Int) (p8 : Zt5_0)
noncomputable def Sp.B_5_1_1 {R : Type} (r : Option Sp.E_5_1_1) (k0 : Option R) (k1 : (Int) → (List Int) → (Int) → (Zt5_0) → Option R) (k2 : (Int) → (Int) → (Zt5_0) → Option R) : Option R := match r with
  | none => none
  | some (.e0) => k0
  | some (.e1 p1 p2 p4 p8) => k1 p1 p2 p4 p8
  | some (.e2 p0 p1 p8) => k2 p0 p1 p8
noncomputable def Sp.L_5_1_1 : Nat → (Int) → (Int) → (List Int) → (Int) → (Int) → (Int × Bool × Unit) → (List (Int × Int × Int × Int × Int × Int × Bool × Int × Unit)) → (List (Int × Int × Int × Int × Int × List Int × Int × Unit)) → (Int × Int × Int × Int × Int × Int × Unit) → Option Sp.E_5_1_1
  | 0, _, _, _, _, _, _, _, _, _ => none
  | m + 1, p0, p1, p2, p3, p4, p5, p6, p7, p8 => bif decide (p4 < p3) then gd (inB p4 (List.length p2)) (gd (Sp.p_13 p8 (IntKind.wrap IntKind.i64 (p1 + Int.tmod (IntKind.wrap IntKind.i64 (List.getD p2 (Int.toNat p4) (0 : Int))) (6000000 : Int)))) (bif decide (Int.tmod (IntKind.wrap IntKind.i64 (List.getD p2 (Int.toNat p4) (0 : Int))) (6000000 : Int) < (5000000 : Int)) then bif !Ty.beq (Ty.pair (Ty.int IntKind.i64) (Ty.pair (Ty.int IntKind.i64) (Ty.pair (Ty.int IntKind.i64) (Ty.pair (Ty.int IntKind.i64) (Ty.pair (Ty.int IntKind.i64) (Ty.pair (Ty.int IntKind.i64) Ty.unit)))))) ((Sp.v_13 p8 (IntKind.wrap IntKind.i64 (p1 + Int.tmod (IntKind.wrap IntKind.i64 (List.getD p2 (Int.toNat p4) (0 : Int))) (6000000 : Int)))).1) p8 then some (Sp.E_5_1_1.e0) else bif p8.1 != p0 then some (Sp.E_5_1_1.e0) else gd (Sp.p_14 p8 (p6, p7, p5) [(62 : Int), (0 : Int)] (IntKind.wrap IntKind.i64 (p1 + Int.tmod (IntKind.wrap IntKind.i64 (List.getD p2 (Int.toNat p4) (0 : Int))) (6000000 : Int)))) (gd (Sp.p_18 ((Sp.v_14 p8 (p6, p7, p5) [(62 : Int), (0 : Int)] (IntKind.wrap IntKind.i64 (p1 + Int.tmod (IntKind.wrap IntKind.i64 (List.getD p2 (Int.toNat p4) (0 : Int))) (6000000 : Int)))).2.2.1) [(126 : Int), (0 : Int)]) (bif !(Sp.v_18 ((Sp.v_14 p8 (p6, p7, p5) [(62 : Int), (0 : Int)] (IntKind.wrap IntKind.i64 (p1 + Int.tmod (IntKind.wrap IntKind.i64 (List.getD p2 (Int.toNat p4) (0 : Int))) (6000000 : Int)))).2.2.1) [(126 : Int), (0 : Int)]).1 then some (Sp.E_5_1_1.e0) else Sp.L_5_1_1 m p0 (IntKind.wrap IntKind.i64 (p1 + Int.tmod (IntKind.wrap IntKind.i64 (List.getD p2 (Int.toNat p4) (0 : Int))) (6000000 : Int))) p2 p3 (IntKind.wrap IntKind.i64 (p4 + (1 : Int))) p5 p6 p7 ((Sp.v_14 p8 (p6, p7, p5) [(62 : Int), (0 : Int)] (IntKind.wrap IntKind.i64 (p1 + Int.tmod (IntKind.wrap IntKind.i64 (List.getD p2 (Int.toNat p4) (0 : Int))) (6000000 : Int)))).1))) else bif (Sp.v_13 p8 (IntKind.wrap IntKind.i64 (p1 + Int.tmod (IntKind.wrap IntKind.i64 (List.getD p2 (Int.toNat p4) (0 : Int))) (6000000 : Int)))).1.1 == (1 : Int) then bif (Sp.v_13 p8 (IntKind.wrap IntKind.i64 (p1 + Int.tmod (IntKind.wrap IntKind.i64 (List.getD p2 (Int.toNat p4) (0 : Int))) (6000000 : Int)))).1.2.2.1 == (0 : Int) then some (Sp.E_5_1_1.e1 p1 p2 p4 p8) else some (Sp.E_5_1_1.e0) else some (Sp.E_5_1_1.e0))) else some (Sp.E_5_1_1.e2 p0 p1 p8)
noncomputable def G_5_1_1 {R : Type} (p0 : Int) (p1 : Int) (p2 : List Int) (p3 : Int) (p4 : Int) (p5 : Zt5_6) (p6 : Zt5_2) (p7 : Zt5_3) (p8 : Zt5_0) (k : Ex → St → Option R) : Option R := Sp.B_5_1_1 (Sp.L_5_1_1 FU p0 p1 p2 p3 p4 p5 p6 p7 p8) (k Ex.ret (X_5_1_1_0)) (fun p1 p2 p4 p8 => k Ex.ret (X_5_1_1_1 p1 p2 p4 p8)) (fun p0 p1 p8 => k (Ex.exit (0 : Nat)) (X_5_1_1_2 p0 p1 p8))
noncomputable def m_5_1_1 : St → Bool := fun T => match T.sl.getD 5 .junk, T.sl.getD 6 .junk, T.sl.getD 7 .junk, T.sl.getD 10 .junk, T.sl.getD 40 .junk, T.sl.getD 41 .junk, T.sl.getD 42 .junk, T.hp with
  | CV.ptr (0 : Nat) [], CV.int IntKind.i64 p0, CV.ptr (3 : Nat) [], CV.int IntKind.i64 p1, CV.pure (Ty.slice (Ty.int IntKind.u32)) p2, CV.int IntKind.i64 p3, CV.int IntKind.i64 p4, ((Blk.mem (CV.pair (CV.whole (1 : Nat)) (CV.pair (CV.whole (2 : Nat)) (CV.pure (Ty.pair (Ty.int IntKind.i64) (Ty.pair Ty.bool Ty.unit)) p5)))) :: (Blk.fvec (58 : Nat) (Ty.pair (Ty.int IntKind.i64) (Ty.pair (Ty.int IntKind.i64) (Ty.pair (Ty.int IntKind.i64) (Ty.pair (Ty.int IntKind.i64) (Ty.pair (Ty.int IntKind.i64) (Ty.pair (Ty.int IntKind.i64) (Ty.pair Ty.bool (Ty.pair (Ty.int IntKind.i64) Ty.unit)))))))) p6) :: (Blk.fvec (60 : Nat) (Ty.pair (Ty.int IntKind.i64) (Ty.pair (Ty.int IntKind.i64) (Ty.pair (Ty.int IntKind.i64) (Ty.pair (Ty.int IntKind.i64) (Ty.pair (Ty.int IntKind.i64) (Ty.pair (Ty.slice (Ty.int IntKind.i64)) (Ty.pair (Ty.int IntKind.i64) Ty.unit))))))) p7) :: (Blk.mem (CV.pure (Ty.pair (Ty.int IntKind.i64) (Ty.pair (Ty.int IntKind.i64) (Ty.pair (Ty.int IntKind.i64) (Ty.pair (Ty.int IntKind.i64) (Ty.pair (Ty.int IntKind.i64) (Ty.pair (Ty.int IntKind.i64) Ty.unit)))))) p8)) :: []) => shapeOK T 107 [5, 6, 7, 10, 40, 41, 42] (0 : Nat)
  | _, _, _, _, _, _, _, _ => false
noncomputable def o_5_1_1 {R : Type} (G : (Int) → (Int) → (List Int) → (Int) → (Int) → (Zt5_6) → (Zt5_2) → (Zt5_3) → (Zt5_0) → (Ex → St → Option R) → Option R) : St → (Ex → St → Option R) → Option R := fun T k => match T.sl.getD 5 .junk, T.sl.getD 6 .junk, T.sl.getD 7 .junk, T.sl.getD 10 .junk, T.sl.getD 40 .junk, T.sl.getD 41 .junk, T.sl.getD 42 .junk, T.hp with
  | CV.ptr (0 : Nat) [], CV.int IntKind.i64 p0, CV.ptr (3 : Nat) [], CV.int IntKind.i64 p1, CV.pure (Ty.slice (Ty.int IntKind.u32)) p2, CV.int IntKind.i64 p3, CV.int IntKind.i64 p4, ((Blk.mem (CV.pair (CV.whole (1 : Nat)) (CV.pair (CV.whole (2 : Nat)) (CV.pure (Ty.pair (Ty.int IntKind.i64) (Ty.pair Ty.bool Ty.unit)) p5)))) :: (Blk.fvec (58 : Nat) (Ty.pair (Ty.int IntKind.i64) (Ty.pair (Ty.int IntKind.i64) (Ty.pair (Ty.int IntKind.i64) (Ty.pair (Ty.int IntKind.i64) (Ty.pair (Ty.int IntKind.i64) (Ty.pair (Ty.int IntKind.i64) (Ty.pair Ty.bool (Ty.pair (Ty.int IntKind.i64) Ty.unit)))))))) p6) :: (Blk.fvec (60 : Nat) (Ty.pair (Ty.int IntKind.i64) (Ty.pair (Ty.int IntKind.i64) (Ty.pair (Ty.int IntKind.i64) (Ty.pair (Ty.int IntKind.i64) (Ty.pair (Ty.int IntKind.i64) (Ty.pair (Ty.slice (Ty.int IntKind.i64)) (Ty.pair (Ty.int IntKind.i64) Ty.unit))))))) p7) :: (Blk.mem (CV.pure (Ty.pair (Ty.int IntKind.i64) (Ty.pair (Ty.int IntKind.i64) (Ty.pair (Ty.int IntKind.i64) (Ty.pair (Ty.int IntKind.i64) (Ty.pair (Ty.int IntKind.i64) (Ty.pair (Ty.int IntKind.i64) Ty.unit)))))) p8)) :: []) => gd (shapeOK T 107 [5, 6, 7, 10, 40, 41, 42] (0 : Nat)) (G p0 p1 p2 p3 p4 p5 p6 p7 p8 k)
  | _, _, _, _, _, _, _, _ => none
theorem o_5_1_1_inv {R : Type} {G : (Int) → (Int) → (List Int) → (Int) → (Int) → (Zt5_6) → (Zt5_2) → (Zt5_3) → (Zt5_0) → (Ex → St → Option R) → Option R} {T : St} {k : Ex → St → Option R} {r : R} (h : o_5_1_1 G T k = some r) : ∃ p0 p1 p2 p3 p4 p5 p6 p7 p8, T = T_5_1_1 p0 p1 p2 p3 p4 p5 p6 p7 p8 ∧ G p0 p1 p2 p3 p4 p5 p6 p7 p8 k = some r := by
  unfold o_5_1_1 at h
  split at h
  · obtain ⟨hs, h'⟩ := gd_some h
    refine ⟨_, _, _, _, _, _, _, _, _, (st_of (asg := [(5, _), (6, _), (7, _), (10, _), (40, _), (41, _), (42, _)]) hs ⟨by assumption, by assumption, by assumption, by assumption, by assumption, by assumption, by assumption, trivial⟩ (by assumption)).trans ?_, h'⟩
    kernel_rfl
  · cases h
noncomputable def T_5_1 (p0 : Int) (p1 : Int) (p2 : List Int) (p3 : Int) (p4 : Int) (p5 : Zt5_6) (p6 : Zt5_2) (p7 : Zt5_3) (p8 : Zt5_0) : St := St.mk ([jk, jk, jk, jk, jk, CV.ptr (0 : Nat) [], CV.int IntKind.i64 p0, CV.ptr (3 : Nat) [], jk, jk, CV.int IntKind.i64 p1] ++ (jl 29 ++ ([CV.pure (Ty.slice (Ty.int IntKind.u32)) p2, CV.int IntKind.i64 p3, CV.int IntKind.i64 p4] ++ (jl 64)))) [Blk.mem (CV.pair (CV.whole (1 : Nat)) (CV.pair (CV.whole (2 : Nat)) (CV.pure Zy5_7 p5))), Blk.vec (58 : Nat) Zy5_4 p6, Blk.vec (60 : Nat) Zy5_5 p7, Blk.mem (CV.pure Zy5_1 p8)] (0 : Nat)
noncomputable def X_5_1_0 : St := St.mk ([jk, jk, jk, jk, CV.bool false] ++ (jl 102)) [] (0 : Nat)
noncomputable def X_5_1_1 (p1 : Int) (p2 : List Int) (p4 : Int) (p8 : Zt5_0) : St := St.mk ([jk, jk, jk, jk, CV.bool ((Sp.v_13 p8 (IntKind.wrap IntKind.i64 (p1 + Int.tmod (IntKind.wrap IntKind.i64 (List.getD p2 (Int.toNat p4) (0 : Int))) (6000000 : Int)))).1.2.1 == (0 : Int))] ++ (jl 102)) [] (0 : Nat)
noncomputable def X_5_1_2 (p0 : Int) (p1 : Int) (p8 : Zt5_0) : St := St.mk (jl 6 ++ ([CV.int IntKind.i64 p0, CV.ptr (0 : Nat) [], jk, jk, CV.int IntKind.i64 p1] ++ (jl 96))) [Blk.mem (CV.pure Zy5_1 p8)] (0 : Nat)
noncomputable def X_5_1_3 : St := St.mk ([jk, jk, jk, jk, CV.bool false] ++ (jl 102)) [] (0 : Nat)
noncomputable def X_5_1_4 (p1 : Int) (p2 : List Int) (p4 : Int) (p8 : Zt5_0) : St := St.mk ([jk, jk, jk, jk, CV.bool ((Sp.v_13 p8 (IntKind.wrap IntKind.i64 (p1 + Int.tmod (IntKind.wrap IntKind.i64 (List.getD p2 (Int.toNat p4) (0 : Int))) (6000000 : Int)))).1.2.1 == (0 : Int))] ++ (jl 102)) [] (0 : Nat)
noncomputable def X_5_1_5 (p0 : Int) (p1 : Int) (p8 : Zt5_0) : St := St.mk (jl 6 ++ ([CV.int IntKind.i64 p0, CV.ptr (0 : Nat) [], jk, jk, CV.int IntKind.i64 p1] ++ (jl 96))) [Blk.mem (CV.pure Zy5_1 p8)] (0 : Nat)
inductive Sp.E_5_1 where
  | e0
  | e1 (p1 : Int) (p2 : List Int) (p4 : Int) (p8 : Zt5_0)
  | e2 (p0 : Int) (p1 : Int) (p8 : Zt5_0)
  | e3
  | e4 (p1 : Int) (p2 : List Int) (p4 : Int) (p8 : Zt5_0)
  | e5 (p0 : Int) (p1 : Int) (p8 : Zt5_0)
noncomputable def Sp.B_5_1 {R : Type} (r : Option Sp.E_5_1) (k0 : Option R) (k1 : (Int) → (List Int) → (Int) → (Zt5_0) → Option R) (k2 : (Int) → (Int) → (Zt5_0) → Option R) (k3 : Option R) (k4 : (Int) → (List Int) → (Int) → (Zt5_0) → Option R) (k5 : (Int) → (Int) → (Zt5_0) → Option R) : Option R := match r with
  | none => none
  | some (.e0) => k0
  | some (.e1 p1 p2 p4 p8) => k1 p1 p2 p4 p8
  | some (.e2 p0 p1 p8) => k2 p0 p1 p8
  | some (.e3) => k3
  | some (.e4 p1 p2 p4 p8) => k4 p1 p2 p4 p8
  | some (.e5 p0 p1 p8) => k5 p0 p1 p8
noncomputable def Sp.L_5_1 : Nat → (Int) → (Int) → (List Int) → (Int) → (Int) → (Int × Bool × Unit) → (List (Int × Int × Int × Int × Int × Int × Bool × Int × Unit)) → (List (Int × Int × Int × Int × Int × List Int × Int × Unit)) → (Int × Int × Int × Int × Int × Int × Unit) → Option Sp.E_5_1
  | 0, _, _, _, _, _, _, _, _, _ => none
  | m + 1, p0, p1, p2, p3, p4, p5, p6, p7, p8 => bif decide (p4 < p3) then gd (inB p4 (List.length p2)) (gd (Sp.p_13 p8 (IntKind.wrap IntKind.i64 (p1 + Int.tmod (IntKind.wrap IntKind.i64 (List.getD p2 (Int.toNat p4) (0 : Int))) (6000000 : Int)))) (bif decide (Int.tmod (IntKind.wrap IntKind.i64 (List.getD p2 (Int.toNat p4) (0 : Int))) (6000000 : Int) < (5000000 : Int)) then bif !Ty.beq (Ty.pair (Ty.int IntKind.i64) (Ty.pair (Ty.int IntKind.i64) (Ty.pair (Ty.int IntKind.i64) (Ty.pair (Ty.int IntKind.i64) (Ty.pair (Ty.int IntKind.i64) (Ty.pair (Ty.int IntKind.i64) Ty.unit)))))) ((Sp.v_13 p8 (IntKind.wrap IntKind.i64 (p1 + Int.tmod (IntKind.wrap IntKind.i64 (List.getD p2 (Int.toNat p4) (0 : Int))) (6000000 : Int)))).1) p8 then some (Sp.E_5_1.e0) else bif p8.1 != p0 then some (Sp.E_5_1.e0) else gd (Sp.p_14 p8 (p6, p7, p5) [(62 : Int), (0 : Int)] (IntKind.wrap IntKind.i64 (p1 + Int.tmod (IntKind.wrap IntKind.i64 (List.getD p2 (Int.toNat p4) (0 : Int))) (6000000 : Int)))) (gd (Sp.p_18 ((Sp.v_14 p8 (p6, p7, p5) [(62 : Int), (0 : Int)] (IntKind.wrap IntKind.i64 (p1 + Int.tmod (IntKind.wrap IntKind.i64 (List.getD p2 (Int.toNat p4) (0 : Int))) (6000000 : Int)))).2.2.1) [(126 : Int), (0 : Int)]) (bif !(Sp.v_18 ((Sp.v_14 p8 (p6, p7, p5) [(62 : Int), (0 : Int)] (IntKind.wrap IntKind.i64 (p1 + Int.tmod (IntKind.wrap IntKind.i64 (List.getD p2 (Int.toNat p4) (0 : Int))) (6000000 : Int)))).2.2.1) [(126 : Int), (0 : Int)]).1 then some (Sp.E_5_1.e0) else Sp.B_5_1_1 (Sp.L_5_1_1 m p0 (IntKind.wrap IntKind.i64 (p1 + Int.tmod (IntKind.wrap IntKind.i64 (List.getD p2 (Int.toNat p4) (0 : Int))) (6000000 : Int))) p2 p3 (IntKind.wrap IntKind.i64 (p4 + (1 : Int))) p5 p6 p7 ((Sp.v_14 p8 (p6, p7, p5) [(62 : Int), (0 : Int)] (IntKind.wrap IntKind.i64 (p1 + Int.tmod (IntKind.wrap IntKind.i64 (List.getD p2 (Int.toNat p4) (0 : Int))) (6000000 : Int)))).1)) (some (Sp.E_5_1.e3)) (fun (p1 : Int) (p2 : List Int) (p4 : Int) (p8 : Int × Int × Int × Int × Int × Int × Unit) => some (Sp.E_5_1.e4 p1 p2 p4 p8)) (fun (p0 : Int) (p1 : Int) (p8 : Int × Int × Int × Int × Int × Int × Unit) => some (Sp.E_5_1.e5 p0 p1 p8)))) else bif (Sp.v_13 p8 (IntKind.wrap IntKind.i64 (p1 + Int.tmod (IntKind.wrap IntKind.i64 (List.getD p2 (Int.toNat p4) (0 : Int))) (6000000 : Int)))).1.1 == (1 : Int) then bif (Sp.v_13 p8 (IntKind.wrap IntKind.i64 (p1 + Int.tmod (IntKind.wrap IntKind.i64 (List.getD p2 (Int.toNat p4) (0 : Int))) (6000000 : Int)))).1.2.2.1 == (0 : Int) then some (Sp.E_5_1.e1 p1 p2 p4 p8) else some (Sp.E_5_1.e0) else some (Sp.E_5_1.e0))) else some (Sp.E_5_1.e2 p0 p1 p8)
noncomputable def G_5_1 {R : Type} (p0 : Int) (p1 : Int) (p2 : List Int) (p3 : Int) (p4 : Int) (p5 : Zt5_6) (p6 : Zt5_2) (p7 : Zt5_3) (p8 : Zt5_0) (k : Ex → St → Option R) : Option R := Sp.B_5_1 (Sp.L_5_1 FU p0 p1 p2 p3 p4 p5 p6 p7 p8) (k Ex.ret (X_5_1_0)) (fun p1 p2 p4 p8 => k Ex.ret (X_5_1_1 p1 p2 p4 p8)) (fun p0 p1 p8 => k (Ex.exit (0 : Nat)) (X_5_1_2 p0 p1 p8)) (k Ex.ret (X_5_1_3)) (fun p1 p2 p4 p8 => k Ex.ret (X_5_1_4 p1 p2 p4 p8)) (fun p0 p1 p8 => k (Ex.exit (0 : Nat)) (X_5_1_5 p0 p1 p8))
noncomputable def m_5_1 : St → Bool := fun T => match T.sl.getD 5 .junk, T.sl.getD 6 .junk, T.sl.getD 7 .junk, T.sl.getD 10 .junk, T.sl.getD 40 .junk, T.sl.getD 41 .junk, T.sl.getD 42 .junk, T.hp with
  | CV.ptr (0 : Nat) [], CV.int IntKind.i64 p0, CV.ptr (3 : Nat) [], CV.int IntKind.i64 p1, CV.pure (Ty.slice (Ty.int IntKind.u32)) p2, CV.int IntKind.i64 p3, CV.int IntKind.i64 p4, ((Blk.mem (CV.pair (CV.whole (1 : Nat)) (CV.pair (CV.whole (2 : Nat)) (CV.pure (Ty.pair (Ty.int IntKind.i64) (Ty.pair Ty.bool Ty.unit)) p5)))) :: (Blk.vec (58 : Nat) (Ty.pair (Ty.int IntKind.i64) (Ty.pair (Ty.int IntKind.i64) (Ty.pair (Ty.int IntKind.i64) (Ty.pair (Ty.int IntKind.i64) (Ty.pair (Ty.int IntKind.i64) (Ty.pair (Ty.int IntKind.i64) (Ty.pair Ty.bool (Ty.pair (Ty.int IntKind.i64) Ty.unit)))))))) p6) :: (Blk.vec (60 : Nat) (Ty.pair (Ty.int IntKind.i64) (Ty.pair (Ty.int IntKind.i64) (Ty.pair (Ty.int IntKind.i64) (Ty.pair (Ty.int IntKind.i64) (Ty.pair (Ty.int IntKind.i64) (Ty.pair (Ty.slice (Ty.int IntKind.i64)) (Ty.pair (Ty.int IntKind.i64) Ty.unit))))))) p7) :: (Blk.mem (CV.pure (Ty.pair (Ty.int IntKind.i64) (Ty.pair (Ty.int IntKind.i64) (Ty.pair (Ty.int IntKind.i64) (Ty.pair (Ty.int IntKind.i64) (Ty.pair (Ty.int IntKind.i64) (Ty.pair (Ty.int IntKind.i64) Ty.unit)))))) p8)) :: []) => shapeOK T 107 [5, 6, 7, 10, 40, 41, 42] (0 : Nat)
  | _, _, _, _, _, _, _, _ => false
noncomputable def o_5_1 {R : Type} (G : (Int) → (Int) → (List Int) → (Int) → (Int) → (Zt5_6) → (Zt5_2) → (Zt5_3) → (Zt5_0) → (Ex → St → Option R) → Option R) : St → (Ex → St → Option R) → Option R := fun T k => match T.sl.getD 5 .junk, T.sl.getD 6 .junk, T.sl.getD 7 .junk, T.sl.getD 10 .junk, T.sl.getD 40 .junk, T.sl.getD 41 .junk, T.sl.getD 42 .junk, T.hp with
  | CV.ptr (0 : Nat) [], CV.int IntKind.i64 p0, CV.ptr (3 : Nat) [], CV.int IntKind.i64 p1, CV.pure (Ty.slice (Ty.int IntKind.u32)) p2, CV.int IntKind.i64 p3, CV.int IntKind.i64 p4, ((Blk.mem (CV.pair (CV.whole (1 : Nat)) (CV.pair (CV.whole (2 : Nat)) (CV.pure (Ty.pair (Ty.int IntKind.i64) (Ty.pair Ty.bool Ty.unit)) p5)))) :: (Blk.vec (58 : Nat) (Ty.pair (Ty.int IntKind.i64) (Ty.pair (Ty.int IntKind.i64) (Ty.pair (Ty.int IntKind.i64) (Ty.pair (Ty.int IntKind.i64) (Ty.pair (Ty.int IntKind.i64) (Ty.pair (Ty.int IntKind.i64) (Ty.pair Ty.bool (Ty.pair (Ty.int IntKind.i64) Ty.unit)))))))) p6) :: (Blk.vec (60 : Nat) (Ty.pair (Ty.int IntKind.i64) (Ty.pair (Ty.int IntKind.i64) (Ty.pair (Ty.int IntKind.i64) (Ty.pair (Ty.int IntKind.i64) (Ty.pair (Ty.int IntKind.i64) (Ty.pair (Ty.slice (Ty.int IntKind.i64)) (Ty.pair (Ty.int IntKind.i64) Ty.unit))))))) p7) :: (Blk.mem (CV.pure (Ty.pair (Ty.int IntKind.i64) (Ty.pair (Ty.int IntKind.i64) (Ty.pair (Ty.int IntKind.i64) (Ty.pair (Ty.int IntKind.i64) (Ty.pair (Ty.int IntKind.i64) (Ty.pair (Ty.int IntKind.i64) Ty.unit)))))) p8)) :: []) => gd (shapeOK T 107 [5, 6, 7, 10, 40, 41, 42] (0 : Nat)) (G p0 p1 p2 p3 p4 p5 p6 p7 p8 k)
  | _, _, _, _, _, _, _, _ => none
theorem o_5_1_inv {R : Type} {G : (Int) → (Int) → (List Int) → (Int) → (Int) → (Zt5_6) → (Zt5_2) → (Zt5_3) → (Zt5_0) → (Ex → St → Option R) → Option R} {T : St} {k : Ex → St → Option R} {r : R} (h : o_5_1 G T k = some r) : ∃ p0 p1 p2 p3 p4 p5 p6 p7 p8, T = T_5_1 p0 p1 p2 p3 p4 p5 p6 p7 p8 ∧ G p0 p1 p2 p3 p4 p5 p6 p7 p8 k = some r := by
  unfold o_5_1 at h
  split at h
  · obtain ⟨hs, h'⟩ := gd_some h
    refine ⟨_, _, _, _, _, _, _, _, _, (st_of (asg := [(5, _), (6, _), (7, _), (10, _), (40, _), (41, _), (42, _)]) hs ⟨by assumption, by assumption, by assumption, by assumption, by assumption, by assumption, by assumption, trivial⟩ (by assumption)).trans ?_, h'⟩
    kernel_rfl
  · cases h
noncomputable def T_5_0 (p0 : List Int) (p1 : Int) (p2 : Zt5_6) (p3 : Zt5_2) (p4 : Zt5_3) (p5 : Zt5_0) : St := St.mk ([jk, CV.pure (Ty.slice (Ty.int IntKind.u32)) p0, jk, jk, jk, CV.ptr (0 : Nat) [], CV.int IntKind.i64 p1, CV.ptr (3 : Nat) []] ++ (jl 99)) [Blk.mem (CV.pair (CV.whole (1 : Nat)) (CV.pair (CV.whole (2 : Nat)) (CV.pure Zy5_7 p2))), Blk.vec (58 : Nat) Zy5_4 p3, Blk.vec (60 : Nat) Zy5_5 p4, Blk.mem (CV.pure Zy5_1 p5)] (0 : Nat)
noncomputable def X_5_0_0 : St := St.mk ([jk, jk, jk, jk, CV.bool false] ++ (jl 102)) [] (0 : Nat)
noncomputable def X_5_0_1 (y14 : Int) (y15 : List Int) (y16 : Int) (y17 : Zt5_0) : St := St.mk ([jk, jk, jk, jk, CV.bool ((Sp.v_13 y17 (IntKind.wrap IntKind.i64 (y14 + Int.tmod (IntKind.wrap IntKind.i64 (List.getD y15 (Int.toNat y16) (0 : Int))) (6000000 : Int)))).1.2.1 == (0 : Int))] ++ (jl 102)) [] (0 : Nat)
noncomputable def X_5_0_2 (y19 : Int) (y20 : Zt5_0) : St := St.mk ([jk, jk, jk, jk, CV.bool ((Sp.v_13 y20 (IntKind.wrap IntKind.i64 (y19 + (5000000 : Int)))).1.1 == (1 : Int))] ++ (jl 102)) [] (0 : Nat)
inductive Sp.E_5_0 where
  | e0
  | e1 (y14 : Int) (y15 : List Int) (y16 : Int) (y17 : Zt5_0)
  | e2 (y19 : Int) (y20 : Zt5_0)
noncomputable def Sp.B_5_0 {R : Type} (r : Option Sp.E_5_0) (k0 : Option R) (k1 : (Int) → (List Int) → (Int) → (Zt5_0) → Option R) (k2 : (Int) → (Zt5_0) → Option R) : Option R := match r with
  | none => none
  | some (.e0) => k0
  | some (.e1 y14 y15 y16 y17) => k1 y14 y15 y16 y17
  | some (.e2 y19 y20) => k2 y19 y20
noncomputable def Sp.J_5_0 (p0 : List Int) (p1 : Int) (p2 : Int × Bool × Unit) (p3 : List (Int × Int × Int × Int × Int × Int × Bool × Int × Unit)) (p4 : List (Int × Int × Int × Int × Int × List Int × Int × Unit)) (p5 : Int × Int × Int × Int × Int × Int × Unit) : Option Sp.E_5_0 :=
  Sp.B_5_1 (Sp.L_5_1 (4611686018427387904 : Nat) p1 (0 : Int) p0 (↑(List.length p0) : Int) (0 : Int) p2 p3 p4 p5) (some (Sp.E_5_0.e0)) (fun (y14 : Int) (y15 : List Int) (y16 : Int) (y17 : Int × Int × Int × Int × Int × Int × Unit) => some (Sp.E_5_0.e1 y14 y15 y16 y17)) (fun (y18 y19 : Int) (y20 : Int × Int × Int × Int × Int × Int × Unit) => bif y20.1 == y18 then gd (Sp.p_13 y20 (IntKind.wrap IntKind.i64 (y19 + (5000000 : Int)))) (some (Sp.E_5_0.e2 y19 y20)) else some (Sp.E_5_0.e0)) (some (Sp.E_5_0.e0)) (fun (y21 : Int) (y22 : List Int) (y23 : Int) (y24 : Int × Int × Int × Int × Int × Int × Unit) => some (Sp.E_5_0.e1 y21 y22 y23 y24)) fun (y25 y26 : Int) (y27 : Int × Int × Int × Int × Int × Int × Unit) => bif y27.1 == y25 then gd (Sp.p_13 y27 (IntKind.wrap IntKind.i64 (y26 + (5000000 : Int)))) (some (Sp.E_5_0.e2 y26 y27)) else some (Sp.E_5_0.e0)
noncomputable def G_5_0 {R : Type} (p0 : List Int) (p1 : Int) (p2 : Zt5_6) (p3 : Zt5_2) (p4 : Zt5_3) (p5 : Zt5_0) (k : Ex → St → Option R) : Option R := Sp.B_5_0 (Sp.J_5_0 p0 p1 p2 p3 p4 p5) (k Ex.ret (X_5_0_0)) (fun y14 y15 y16 y17 => k Ex.ret (X_5_0_1 y14 y15 y16 y17)) (fun y19 y20 => k Ex.ret (X_5_0_2 y19 y20))
noncomputable def o_5_0 {R : Type} (G : (List Int) → (Int) → (Zt5_6) → (Zt5_2) → (Zt5_3) → (Zt5_0) → (Ex → St → Option R) → Option R) : St → (Ex → St → Option R) → Option R := fun T k => match T.sl.getD 1 .junk, T.sl.getD 5 .junk, T.sl.getD 6 .junk, T.sl.getD 7 .junk, T.hp with
  | CV.pure (Ty.slice (Ty.int IntKind.u32)) p0, CV.ptr (0 : Nat) [], CV.int IntKind.i64 p1, CV.ptr (3 : Nat) [], ((Blk.mem (CV.pair (CV.whole (1 : Nat)) (CV.pair (CV.whole (2 : Nat)) (CV.pure (Ty.pair (Ty.int IntKind.i64) (Ty.pair Ty.bool Ty.unit)) p2)))) :: (Blk.vec (58 : Nat) (Ty.pair (Ty.int IntKind.i64) (Ty.pair (Ty.int IntKind.i64) (Ty.pair (Ty.int IntKind.i64) (Ty.pair (Ty.int IntKind.i64) (Ty.pair (Ty.int IntKind.i64) (Ty.pair (Ty.int IntKind.i64) (Ty.pair Ty.bool (Ty.pair (Ty.int IntKind.i64) Ty.unit)))))))) p3) :: (Blk.vec (60 : Nat) (Ty.pair (Ty.int IntKind.i64) (Ty.pair (Ty.int IntKind.i64) (Ty.pair (Ty.int IntKind.i64) (Ty.pair (Ty.int IntKind.i64) (Ty.pair (Ty.int IntKind.i64) (Ty.pair (Ty.slice (Ty.int IntKind.i64)) (Ty.pair (Ty.int IntKind.i64) Ty.unit))))))) p4) :: (Blk.mem (CV.pure (Ty.pair (Ty.int IntKind.i64) (Ty.pair (Ty.int IntKind.i64) (Ty.pair (Ty.int IntKind.i64) (Ty.pair (Ty.int IntKind.i64) (Ty.pair (Ty.int IntKind.i64) (Ty.pair (Ty.int IntKind.i64) Ty.unit)))))) p5)) :: []) => gd (shapeOK T 107 [1, 5, 6, 7] (0 : Nat)) (G p0 p1 p2 p3 p4 p5 k)
  | _, _, _, _, _ => none
theorem o_5_0_inv {R : Type} {G : (List Int) → (Int) → (Zt5_6) → (Zt5_2) → (Zt5_3) → (Zt5_0) → (Ex → St → Option R) → Option R} {T : St} {k : Ex → St → Option R} {r : R} (h : o_5_0 G T k = some r) : ∃ p0 p1 p2 p3 p4 p5, T = T_5_0 p0 p1 p2 p3 p4 p5 ∧ G p0 p1 p2 p3 p4 p5 k = some r := by
  unfold o_5_0 at h
  split at h
  · obtain ⟨hs, h'⟩ := gd_some h
    refine ⟨_, _, _, _, _, _, (st_of (asg := [(1, _), (5, _), (6, _), (7, _)]) hs ⟨by assumption, by assumption, by assumption, by assumption, trivial⟩ (by assumption)).trans ?_, h'⟩
    kernel_rfl
  · cases h
noncomputable def O_5_5_1 {R : Type} : St → (Ex → St → Option R) → Option R := fun T k => bif m_5_1 T then o_5_1 G_5_1 T k else bif m_5_1_1 T then o_5_1_1 G_5_1_1 T k else none
noncomputable def O_5_5_0 {R : Type} : St → (Ex → St → Option R) → Option R := fun T k => o_5_0 G_5_0 T k
theorem body_5_1_1 {R : Type} (K0 : St → Option R) (K1 : Ex → St → Option R) (p0 : Int) (p1 : Int) (p2 : List Int) (p3 : Int) (p4 : Int) (p5 : Zt5_6) (p6 : Zt5_2) (p7 : Zt5_3) (p8 : Zt5_0) : evLB (evCodeL sm_5 FU (ovr noO (evFn sm_5 fns FU 0)) .nil ir5_b1) (St.norm ir5_v1) (T_5_1_1 p0 p1 p2 p3 p4 p5 p6 p7 p8) K0 K1 =
  bif decide (p4 < p3) then gd (inB p4 (List.length p2)) (gd (Sp.p_13 p8 (IntKind.wrap IntKind.i64 (p1 + Int.tmod (IntKind.wrap IntKind.i64 (List.getD p2 (Int.toNat p4) (0 : Int))) (6000000 : Int)))) (bif decide (Int.tmod (IntKind.wrap IntKind.i64 (List.getD p2 (Int.toNat p4) (0 : Int))) (6000000 : Int) < (5000000 : Int)) then bif !Ty.beq Zy5_1 ((Sp.v_13 p8 (IntKind.wrap IntKind.i64 (p1 + Int.tmod (IntKind.wrap IntKind.i64 (List.getD p2 (Int.toNat p4) (0 : Int))) (6000000 : Int)))).1) p8 then K1 Ex.ret X_5_1_1_0 else bif p8.1 != p0 then K1 Ex.ret X_5_1_1_0 else gd (Sp.p_14 p8 (p6, p7, p5) [(62 : Int), (0 : Int)] (IntKind.wrap IntKind.i64 (p1 + Int.tmod (IntKind.wrap IntKind.i64 (List.getD p2 (Int.toNat p4) (0 : Int))) (6000000 : Int)))) (gd (Sp.p_18 ((Sp.v_14 p8 (p6, p7, p5) [(62 : Int), (0 : Int)] (IntKind.wrap IntKind.i64 (p1 + Int.tmod (IntKind.wrap IntKind.i64 (List.getD p2 (Int.toNat p4) (0 : Int))) (6000000 : Int)))).2.2.1) [(126 : Int), (0 : Int)]) (bif !(Sp.v_18 ((Sp.v_14 p8 (p6, p7, p5) [(62 : Int), (0 : Int)] (IntKind.wrap IntKind.i64 (p1 + Int.tmod (IntKind.wrap IntKind.i64 (List.getD p2 (Int.toNat p4) (0 : Int))) (6000000 : Int)))).2.2.1) [(126 : Int), (0 : Int)]).1 then K1 Ex.ret X_5_1_1_0 else K0 (T_5_1_1 p0 (IntKind.wrap IntKind.i64 (p1 + Int.tmod (IntKind.wrap IntKind.i64 (List.getD p2 (Int.toNat p4) (0 : Int))) (6000000 : Int))) p2 p3 (IntKind.wrap IntKind.i64 (p4 + (1 : Int))) p5 p6 p7 ((Sp.v_14 p8 (p6, p7, p5) [(62 : Int), (0 : Int)] (IntKind.wrap IntKind.i64 (p1 + Int.tmod (IntKind.wrap IntKind.i64 (List.getD p2 (Int.toNat p4) (0 : Int))) (6000000 : Int)))).1)))) else bif (Sp.v_13 p8 (IntKind.wrap IntKind.i64 (p1 + Int.tmod (IntKind.wrap IntKind.i64 (List.getD p2 (Int.toNat p4) (0 : Int))) (6000000 : Int)))).1.1 == (1 : Int) then bif (Sp.v_13 p8 (IntKind.wrap IntKind.i64 (p1 + Int.tmod (IntKind.wrap IntKind.i64 (List.getD p2 (Int.toNat p4) (0 : Int))) (6000000 : Int)))).1.2.2.1 == (0 : Int) then K1 Ex.ret (X_5_1_1_1 p1 p2 p4 p8) else K1 Ex.ret X_5_1_1_0 else K1 Ex.ret X_5_1_1_0)) else K1 (Ex.exit (0 : Nat)) (X_5_1_1_2 p0 p1 p8) := by kernel_rfl
theorem Bgd_5_1_1 {R : Type} {c : Bool} {x : Option R} {y : Option Sp.E_5_1_1} {k0 : Option R} {k1 : (Int) → (List Int) → (Int) → (Zt5_0) → Option R} {k2 : (Int) → (Int) → (Zt5_0) → Option R} (h : x = Sp.B_5_1_1 y k0 k1 k2) : gd c x = Sp.B_5_1_1 (gd c y) k0 k1 k2 := by cases c; rfl; exact h
theorem Bcond_5_1_1 {R : Type} {c : Bool} {x x' : Option R} {y y' : Option Sp.E_5_1_1} {k0 : Option R} {k1 : (Int) → (List Int) → (Int) → (Zt5_0) → Option R} {k2 : (Int) → (Int) → (Zt5_0) → Option R} (h : x = Sp.B_5_1_1 y k0 k1 k2) (h' : x' = Sp.B_5_1_1 y' k0 k1 k2) : (bif c then x else x') = Sp.B_5_1_1 (bif c then y else y') k0 k1 k2 := by cases c; exact h'; exact h
theorem loop_5_1_1 {R : Type} (k : Ex → St → Option R) : ∀ (m : Nat) (p0 : Int) (p1 : Int) (p2 : List Int) (p3 : Int) (p4 : Int) (p5 : Zt5_6) (p6 : Zt5_2) (p7 : Zt5_3) (p8 : Zt5_0), evLoopN (evCodeL sm_5 FU (ovr noO (evFn sm_5 fns FU 0)) .nil ir5_b1) (St.norm ir5_v1) m (T_5_1_1 p0 p1 p2 p3 p4 p5 p6 p7 p8) k = Sp.B_5_1_1 (Sp.L_5_1_1 m p0 p1 p2 p3 p4 p5 p6 p7 p8) (k Ex.ret (X_5_1_1_0)) (fun p1 p2 p4 p8 => k Ex.ret (X_5_1_1_1 p1 p2 p4 p8)) (fun p0 p1 p8 => k (Ex.exit (0 : Nat)) (X_5_1_1_2 p0 p1 p8))
  | 0, _, _, _, _, _, _, _, _, _ => rfl
  | m + 1, p0, p1, p2, p3, p4, p5, p6, p7, p8 => by
    rw [evLoopN_succ, body_5_1_1, Sp.L_5_1_1]
    repeat' first | apply Bgd_5_1_1 | apply Bcond_5_1_1 | exact loop_5_1_1 k m _ _ _ _ _ _ _ _ _ | rfl
theorem ok_5_1_1 {R : Type} (T : St) (k : Ex → St → Option R) (r : R) (h0 : o_5_1_1 G_5_1_1 T k = some r) : evLoopN (evCode sm_5 FU (evFn sm_5 fns FU 0) ir5_b1) (St.norm ir5_v1) FU T k = some r := by
  obtain ⟨p0, p1, p2, p3, p4, p5, p6, p7, p8, rfl, h⟩ := o_5_1_1_inv h0
  refine evLoopN_L (t := .nil) noO_ok trivial _ _ _ _ ?_
  rw [loop_5_1_1]
  exact h
theorem body_5_1 {R : Type} (K0 : St → Option R) (K1 : Ex → St → Option R) (p0 : Int) (p1 : Int) (p2 : List Int) (p3 : Int) (p4 : Int) (p5 : Zt5_6) (p6 : Zt5_2) (p7 : Zt5_3) (p8 : Zt5_0) : evLB (evCodeL sm_5 FU (ovr noO (evFn sm_5 fns FU 0)) .nil ir5_b1) (St.norm ir5_v1) (T_5_1 p0 p1 p2 p3 p4 p5 p6 p7 p8) K0 K1 =
  bif decide (p4 < p3) then gd (inB p4 (List.length p2)) (gd (Sp.p_13 p8 (IntKind.wrap IntKind.i64 (p1 + Int.tmod (IntKind.wrap IntKind.i64 (List.getD p2 (Int.toNat p4) (0 : Int))) (6000000 : Int)))) (bif decide (Int.tmod (IntKind.wrap IntKind.i64 (List.getD p2 (Int.toNat p4) (0 : Int))) (6000000 : Int) < (5000000 : Int)) then bif !Ty.beq Zy5_1 ((Sp.v_13 p8 (IntKind.wrap IntKind.i64 (p1 + Int.tmod (IntKind.wrap IntKind.i64 (List.getD p2 (Int.toNat p4) (0 : Int))) (6000000 : Int)))).1) p8 then K1 Ex.ret X_5_1_0 else bif p8.1 != p0 then K1 Ex.ret X_5_1_0 else gd (Sp.p_14 p8 (p6, p7, p5) [(62 : Int), (0 : Int)] (IntKind.wrap IntKind.i64 (p1 + Int.tmod (IntKind.wrap IntKind.i64 (List.getD p2 (Int.toNat p4) (0 : Int))) (6000000 : Int)))) (gd (Sp.p_18 ((Sp.v_14 p8 (p6, p7, p5) [(62 : Int), (0 : Int)] (IntKind.wrap IntKind.i64 (p1 + Int.tmod (IntKind.wrap IntKind.i64 (List.getD p2 (Int.toNat p4) (0 : Int))) (6000000 : Int)))).2.2.1) [(126 : Int), (0 : Int)]) (bif !(Sp.v_18 ((Sp.v_14 p8 (p6, p7, p5) [(62 : Int), (0 : Int)] (IntKind.wrap IntKind.i64 (p1 + Int.tmod (IntKind.wrap IntKind.i64 (List.getD p2 (Int.toNat p4) (0 : Int))) (6000000 : Int)))).2.2.1) [(126 : Int), (0 : Int)]).1 then K1 Ex.ret X_5_1_0 else K0 (T_5_1_1 p0 (IntKind.wrap IntKind.i64 (p1 + Int.tmod (IntKind.wrap IntKind.i64 (List.getD p2 (Int.toNat p4) (0 : Int))) (6000000 : Int))) p2 p3 (IntKind.wrap IntKind.i64 (p4 + (1 : Int))) p5 p6 p7 ((Sp.v_14 p8 (p6, p7, p5) [(62 : Int), (0 : Int)] (IntKind.wrap IntKind.i64 (p1 + Int.tmod (IntKind.wrap IntKind.i64 (List.getD p2 (Int.toNat p4) (0 : Int))) (6000000 : Int)))).1)))) else bif (Sp.v_13 p8 (IntKind.wrap IntKind.i64 (p1 + Int.tmod (IntKind.wrap IntKind.i64 (List.getD p2 (Int.toNat p4) (0 : Int))) (6000000 : Int)))).1.1 == (1 : Int) then bif (Sp.v_13 p8 (IntKind.wrap IntKind.i64 (p1 + Int.tmod (IntKind.wrap IntKind.i64 (List.getD p2 (Int.toNat p4) (0 : Int))) (6000000 : Int)))).1.2.2.1 == (0 : Int) then K1 Ex.ret (X_5_1_1 p1 p2 p4 p8) else K1 Ex.ret X_5_1_0 else K1 Ex.ret X_5_1_0)) else K1 (Ex.exit (0 : Nat)) (X_5_1_2 p0 p1 p8) := by kernel_rfl
theorem Bgd_5_1 {R : Type} {c : Bool} {x : Option R} {y : Option Sp.E_5_1} {k0 : Option R} {k1 : (Int) → (List Int) → (Int) → (Zt5_0) → Option R} {k2 : (Int) → (Int) → (Zt5_0) → Option R} {k3 : Option R} {k4 : (Int) → (List Int) → (Int) → (Zt5_0) → Option R} {k5 : (Int) → (Int) → (Zt5_0) → Option R} (h : x = Sp.B_5_1 y k0 k1 k2 k3 k4 k5) : gd c x = Sp.B_5_1 (gd c y) k0 k1 k2 k3 k4 k5 := by cases c; rfl; exact h
theorem Bcond_5_1 {R : Type} {c : Bool} {x x' : Option R} {y y' : Option Sp.E_5_1} {k0 : Option R} {k1 : (Int) → (List Int) → (Int) → (Zt5_0) → Option R} {k2 : (Int) → (Int) → (Zt5_0) → Option R} {k3 : Option R} {k4 : (Int) → (List Int) → (Int) → (Zt5_0) → Option R} {k5 : (Int) → (Int) → (Zt5_0) → Option R} (h : x = Sp.B_5_1 y k0 k1 k2 k3 k4 k5) (h' : x' = Sp.B_5_1 y' k0 k1 k2 k3 k4 k5) : (bif c then x else x') = Sp.B_5_1 (bif c then y else y') k0 k1 k2 k3 k4 k5 := by cases c; exact h'; exact h
theorem Bin_5_1_5_1_1 {R : Type} {r : Option Sp.E_5_1_1} {k0 : Option R} {k1 : (Int) → (List Int) → (Int) → (Zt5_0) → Option R} {k2 : (Int) → (Int) → (Zt5_0) → Option R} {k3 : Option R} {k4 : (Int) → (List Int) → (Int) → (Zt5_0) → Option R} {k5 : (Int) → (Int) → (Zt5_0) → Option R} {f0 : Option R} {f1 : (Int) → (List Int) → (Int) → (Zt5_0) → Option R} {f2 : (Int) → (Int) → (Zt5_0) → Option R} {g0 : Option Sp.E_5_1} {g1 : (Int) → (List Int) → (Int) → (Zt5_0) → Option Sp.E_5_1} {g2 : (Int) → (Int) → (Zt5_0) → Option Sp.E_5_1} (h0 : f0 = Sp.B_5_1 g0 k0 k1 k2 k3 k4 k5) (h1 : ∀ z0 z1 z2 z3, f1 z0 z1 z2 z3 = Sp.B_5_1 (g1 z0 z1 z2 z3) k0 k1 k2 k3 k4 k5) (h2 : ∀ z0 z1 z2, f2 z0 z1 z2 = Sp.B_5_1 (g2 z0 z1 z2) k0 k1 k2 k3 k4 k5) : Sp.B_5_1_1 r f0 f1 f2 = Sp.B_5_1 (Sp.B_5_1_1 r g0 g1 g2) k0 k1 k2 k3 k4 k5 := by
  cases r with
  | none => rfl
  | some e => cases e with
    | e0 => exact h0
    | e1 z0 z1 z2 z3 => exact h1 _ _ _ _
    | e2 z0 z1 z2 => exact h2 _ _ _
theorem loop_5_1 {R : Type} (k : Ex → St → Option R) : ∀ (m : Nat) (p0 : Int) (p1 : Int) (p2 : List Int) (p3 : Int) (p4 : Int) (p5 : Zt5_6) (p6 : Zt5_2) (p7 : Zt5_3) (p8 : Zt5_0), evLoopN (evCodeL sm_5 FU (ovr noO (evFn sm_5 fns FU 0)) .nil ir5_b1) (St.norm ir5_v1) m (T_5_1 p0 p1 p2 p3 p4 p5 p6 p7 p8) k = Sp.B_5_1 (Sp.L_5_1 m p0 p1 p2 p3 p4 p5 p6 p7 p8) (k Ex.ret (X_5_1_0)) (fun p1 p2 p4 p8 => k Ex.ret (X_5_1_1 p1 p2 p4 p8)) (fun p0 p1 p8 => k (Ex.exit (0 : Nat)) (X_5_1_2 p0 p1 p8)) (k Ex.ret (X_5_1_3)) (fun p1 p2 p4 p8 => k Ex.ret (X_5_1_4 p1 p2 p4 p8)) (fun p0 p1 p8 => k (Ex.exit (0 : Nat)) (X_5_1_5 p0 p1 p8))
  | 0, _, _, _, _, _, _, _, _, _ => rfl
  | m + 1, p0, p1, p2, p3, p4, p5, p6, p7, p8 => by
    rw [evLoopN_succ, body_5_1, Sp.L_5_1]
    repeat' first | (refine (loop_5_1_1 k m _ _ _ _ _ _ _ _ _).trans ?_; apply Bin_5_1_5_1_1 <;> intros) | apply Bgd_5_1 | apply Bcond_5_1 | (apply Bin_5_1_5_1_1 <;> intros) | exact loop_5_1 k m _ _ _ _ _ _ _ _ _ | rfl
theorem ok_5_1 {R : Type} (T : St) (k : Ex → St → Option R) (r : R) (h0 : o_5_1 G_5_1 T k = some r) : evLoopN (evCode sm_5 FU (evFn sm_5 fns FU 0) ir5_b1) (St.norm ir5_v1) FU T k = some r := by
  obtain ⟨p0, p1, p2, p3, p4, p5, p6, p7, p8, rfl, h⟩ := o_5_1_inv h0
  refine evLoopN_L (t := .nil) noO_ok trivial _ _ _ _ ?_
  rw [loop_5_1]
  exact h
theorem OK_5_5_1 {R : Type} (T : St) (k : Ex → St → Option R) (r : R) (h : O_5_5_1 T k = some r) : evLoopN (evCode sm_5 FU (evFn sm_5 fns FU 0) ir5_b1) (St.norm ir5_v1) FU T k = some r := by
  unfold O_5_5_1 at h
  cases hm : m_5_1 T
  rotate_left
  · rw [hm, cond_true] at h; exact ok_5_1 T k r h
  rw [hm, cond_false] at h
  clear hm
  cases hm : m_5_1_1 T
  rotate_left
  · rw [hm, cond_true] at h; exact ok_5_1_1 T k r h
  rw [hm, cond_false] at h
  clear hm
  cases h
theorem body_5_0 {R : Type} (K1 : Ex → St → Option R) (p0 : List Int) (p1 : Int) (p2 : Zt5_6) (p3 : Zt5_2) (p4 : Zt5_3) (p5 : Zt5_0) : evJ (evCodeL sm_5 FU (ovr noO (evFn sm_5 fns FU 0)) (ir5_bt0 O_5_5_1) ir5_b0) (T_5_0 p0 p1 p2 p3 p4 p5) K1 =
  Sp.B_5_1 (Sp.L_5_1 (4611686018427387904 : Nat) p1 (0 : Int) p0 (↑(List.length p0) : Int) (0 : Int) p2 p3 p4 p5) (K1 Ex.ret X_5_0_0) (fun (y14 : Int) (y15 : List Int) (y16 : Int) (y17 : Zt5_0) => K1 Ex.ret (X_5_0_1 y14 y15 y16 y17)) (fun (y18 y19 : Int) (y20 : Zt5_0) => bif y20.1 == y18 then gd (Sp.p_13 y20 (IntKind.wrap IntKind.i64 (y19 + (5000000 : Int)))) (K1 Ex.ret (X_5_0_2 y19 y20)) else K1 Ex.ret X_5_0_0) (K1 Ex.ret X_5_0_0) (fun (y21 : Int) (y22 : List Int) (y23 : Int) (y24 : Zt5_0) => K1 Ex.ret (X_5_0_1 y21 y22 y23 y24)) fun (y25 y26 : Int) (y27 : Zt5_0) => bif y27.1 == y25 then gd (Sp.p_13 y27 (IntKind.wrap IntKind.i64 (y26 + (5000000 : Int)))) (K1 Ex.ret (X_5_0_2 y26 y27)) else K1 Ex.ret X_5_0_0 := by kernel_rfl
theorem Bgd_5_0 {R : Type} {c : Bool} {x : Option R} {y : Option Sp.E_5_0} {k0 : Option R} {k1 : (Int) → (List Int) → (Int) → (Zt5_0) → Option R} {k2 : (Int) → (Zt5_0) → Option R} (h : x = Sp.B_5_0 y k0 k1 k2) : gd c x = Sp.B_5_0 (gd c y) k0 k1 k2 := by cases c; rfl; exact h
theorem Bcond_5_0 {R : Type} {c : Bool} {x x' : Option R} {y y' : Option Sp.E_5_0} {k0 : Option R} {k1 : (Int) → (List Int) → (Int) → (Zt5_0) → Option R} {k2 : (Int) → (Zt5_0) → Option R} (h : x = Sp.B_5_0 y k0 k1 k2) (h' : x' = Sp.B_5_0 y' k0 k1 k2) : (bif c then x else x') = Sp.B_5_0 (bif c then y else y') k0 k1 k2 := by cases c; exact h'; exact h
theorem Bin_5_0_5_1 {R : Type} {r : Option Sp.E_5_1} {k0 : Option R} {k1 : (Int) → (List Int) → (Int) → (Zt5_0) → Option R} {k2 : (Int) → (Zt5_0) → Option R} {f0 : Option R} {f1 : (Int) → (List Int) → (Int) → (Zt5_0) → Option R} {f2 : (Int) → (Int) → (Zt5_0) → Option R} {f3 : Option R} {f4 : (Int) → (List Int) → (Int) → (Zt5_0) → Option R} {f5 : (Int) → (Int) → (Zt5_0) → Option R} {g0 : Option Sp.E_5_0} {g1 : (Int) → (List Int) → (Int) → (Zt5_0) → Option Sp.E_5_0} {g2 : (Int) → (Int) → (Zt5_0) → Option Sp.E_5_0} {g3 : Option Sp.E_5_0} {g4 : (Int) → (List Int) → (Int) → (Zt5_0) → Option Sp.E_5_0} {g5 : (Int) → (Int) → (Zt5_0) → Option Sp.E_5_0} (h0 : f0 = Sp.B_5_0 g0 k0 k1 k2) (h1 : ∀ z0 z1 z2 z3, f1 z0 z1 z2 z3 = Sp.B_5_0 (g1 z0 z1 z2 z3) k0 k1 k2) (h2 : ∀ z0 z1 z2, f2 z0 z1 z2 = Sp.B_5_0 (g2 z0 z1 z2) k0 k1 k2) (h3 : f3 = Sp.B_5_0 g3 k0 k1 k2) (h4 : ∀ z0 z1 z2 z3, f4 z0 z1 z2 z3 = Sp.B_5_0 (g4 z0 z1 z2 z3) k0 k1 k2) (h5 : ∀ z0 z1 z2, f5 z0 z1 z2 = Sp.B_5_0 (g5 z0 z1 z2) k0 k1 k2) : Sp.B_5_1 r f0 f1 f2 f3 f4 f5 = Sp.B_5_0 (Sp.B_5_1 r g0 g1 g2 g3 g4 g5) k0 k1 k2 := by
  cases r with
  | none => rfl
  | some e => cases e with
    | e0 => exact h0
    | e1 z0 z1 z2 z3 => exact h1 _ _ _ _
    | e2 z0 z1 z2 => exact h2 _ _ _
    | e3 => exact h3
    | e4 z0 z1 z2 z3 => exact h4 _ _ _ _
    | e5 z0 z1 z2 => exact h5 _ _ _
theorem loop_5_0 {R : Type} (k : Ex → St → Option R) (p0 : List Int) (p1 : Int) (p2 : Zt5_6) (p3 : Zt5_2) (p4 : Zt5_3) (p5 : Zt5_0) : evJ (evCodeL sm_5 FU (ovr noO (evFn sm_5 fns FU 0)) (ir5_bt0 O_5_5_1) ir5_b0) (T_5_0 p0 p1 p2 p3 p4 p5) k = Sp.B_5_0 (Sp.J_5_0 p0 p1 p2 p3 p4 p5) (k Ex.ret (X_5_0_0)) (fun y14 y15 y16 y17 => k Ex.ret (X_5_0_1 y14 y15 y16 y17)) (fun y19 y20 => k Ex.ret (X_5_0_2 y19 y20)) := by
  rw [body_5_0, Sp.J_5_0]
  repeat' first | apply Bgd_5_0 | apply Bcond_5_0 | (apply Bin_5_0_5_1 <;> intros) | rfl
theorem ok_5_0 {R : Type} (T : St) (k : Ex → St → Option R) (r : R) (h0 : o_5_0 G_5_0 T k = some r) : evCode sm_5 FU (evFn sm_5 fns FU 0) ir5_b0 T k = some r := by
  obtain ⟨p0, p1, p2, p3, p4, p5, rfl, h⟩ := o_5_0_inv h0
  refine bodyL_sound (t := (ir5_bt0 O_5_5_1)) noO_ok (ir5_bt0ok (fun T k r => OK_5_5_1 T k r)) (((show ∀ (b : St → (Ex → St → Option R) → Option R) (T : St) (k : Ex → St → Option R), b T k = evJ b T k from fun _ _ _ => rfl) _ _ _).trans ((loop_5_0 k p0 p1 p2 p3 p4 p5).trans h))
theorem OK_5_5_0 {R : Type} (T : St) (k : Ex → St → Option R) (r : R) (h : O_5_5_0 T k = some r) : evCode sm_5 FU (evFn sm_5 fns FU 0) ir5_b0 T k = some r := ok_5_0 T k r h
noncomputable def F_5 (a0 : Int) (a1 : (List Int)) : Option (Bool) :=
  gd Sp.p_8 (bif !Sp.v_8.1 then some false else bif decide ((↑(List.length a1) : Int) > (40 : Int)) then some true else gd Sp.p_12 (gd (Sp.p_14 (Sp.v_12.1) ([], [], (0 : Int), false, PUnit.unit) [(16 : Int), (3 : Int)] (0 : Int)) (bif Int.tmod a0 (2 : Int) == (1 : Int) then gd (Sp.p_14 ((Sp.v_14 (Sp.v_12.1) ([], [], (0 : Int), false, PUnit.unit) [(16 : Int), (3 : Int)] (0 : Int)).1) ([], [], (0 : Int), false, PUnit.unit) [(16 : Int), (2 : Int)] (0 : Int)) (Sp.B_5_0 (Sp.J_5_0 a1 (2 : Int) ((0 : Int), false, PUnit.unit) [] [] ((Sp.v_14 ((Sp.v_14 (Sp.v_12.1) ([], [], (0 : Int), false, PUnit.unit) [(16 : Int), (3 : Int)] (0 : Int)).1) ([], [], (0 : Int), false, PUnit.unit) [(16 : Int), (2 : Int)] (0 : Int)).1)) (some false) (fun (y16 : Int) (y17 : List Int) (y18 : Int) (y19 : Int × Int × Int × Int × Int × Int × Unit) => some ((Sp.v_13 y19 (IntKind.wrap IntKind.i64 (y16 + Int.tmod (IntKind.wrap IntKind.i64 (List.getD y17 (Int.toNat y18) (0 : Int))) (6000000 : Int)))).1.2.1 == (0 : Int))) fun (y20 : Int) (y21 : Int × Int × Int × Int × Int × Int × Unit) => some ((Sp.v_13 y21 (IntKind.wrap IntKind.i64 (y20 + (5000000 : Int)))).1.1 == (1 : Int))) else Sp.B_5_0 (Sp.J_5_0 a1 (3 : Int) ((0 : Int), false, PUnit.unit) [] [] ((Sp.v_14 (Sp.v_12.1) ([], [], (0 : Int), false, PUnit.unit) [(16 : Int), (3 : Int)] (0 : Int)).1)) (some false) (fun (y22 : Int) (y23 : List Int) (y24 : Int) (y25 : Int × Int × Int × Int × Int × Int × Unit) => some ((Sp.v_13 y25 (IntKind.wrap IntKind.i64 (y22 + Int.tmod (IntKind.wrap IntKind.i64 (List.getD y23 (Int.toNat y24) (0 : Int))) (6000000 : Int)))).1.2.1 == (0 : Int))) fun (y26 : Int) (y27 : Int × Int × Int × Int × Int × Int × Unit) => some ((Sp.v_13 y27 (IntKind.wrap IntKind.i64 (y26 + (5000000 : Int)))).1.1 == (1 : Int)))))
theorem fn_5 (a0 : Int) (a1 : (List Int)) : evFnL sm_5 FU (ovr noO (evFn sm_5 fns FU 0)) (ir5_t O_5_5_0) ir5 (ofH [(.int .u8), (.slice (.int .u32))] (a0, a1, ())) [] bk = F_5 a0 a1 := by kernel_rfl
theorem run_5 (a0 : Int) (a1 : (List Int)) {b : Bool} (h : F_5 a0 a1 = some b) : evFn sm_5 fns FU 1 5 (ofH [(.int .u8), (.slice (.int .u32))] (a0, a1, ())) [] bk = some b :=
  evFnL_sound (fn := ir5) (t := (ir5_t O_5_5_0)) (o := noO) rfl noO_ok (ir5_tok (fun T k r => OK_5_5_0 T k r)) ((fn_5 _ _).trans h)
end
end Go.Ev
namespace Go.Proofs
open Go.Shelf
end Go.Proofs
namespace Go.Ev
open Go Go.Proofs Go.RowKit
set_option maxRecDepth 100000
set_option maxHeartbeats 4000000
noncomputable def smB : Nat → Bool := fun f => [8, 9, 10, 11, 12, 13, 14, 15, 16, 17, 18, 19, 20, 21, 23, 25, 26, 27, 28, 30, 31, 32, 34, 38, 39, 40, 41, 43, 44, 46, 52, 54, 55, 56].contains f
theorem hm0 : Try.prog.follows .mixedOrders = true := by kernel_rfl
theorem key5 : fnKey Try.prog smB 5 = ir5.key := by kernel_rfl
theorem key8 : fnKey Try.prog smB 8 = ir8.key := by kernel_rfl
theorem key9 : fnKey Try.prog smB 9 = ir9.key := by kernel_rfl
theorem key10 : fnKey Try.prog smB 10 = ir10.key := by kernel_rfl
theorem key12 : fnKey Try.prog smB 12 = ir12.key := by kernel_rfl
theorem key13 : fnKey Try.prog smB 13 = ir13.key := by kernel_rfl
theorem key14 : fnKey Try.prog smB 14 = ir14.key := by kernel_rfl
theorem key15 : fnKey Try.prog smB 15 = ir15.key := by kernel_rfl
theorem key16 : fnKey Try.prog smB 16 = ir16.key := by kernel_rfl
theorem key18 : fnKey Try.prog smB 18 = ir18.key := by kernel_rfl
theorem key19 : fnKey Try.prog smB 19 = ir19.key := by kernel_rfl
theorem key22 : fnKey Try.prog smB 22 = ir22.key := by kernel_rfl
theorem key23 : fnKey Try.prog smB 23 = ir23.key := by kernel_rfl
theorem key24 : fnKey Try.prog smB 24 = ir24.key := by kernel_rfl
theorem key25 : fnKey Try.prog smB 25 = ir25.key := by kernel_rfl
theorem key27 : fnKey Try.prog smB 27 = ir27.key := by kernel_rfl
theorem key28 : fnKey Try.prog smB 28 = ir28.key := by kernel_rfl
theorem key31 : fnKey Try.prog smB 31 = ir31.key := by kernel_rfl
theorem key32 : fnKey Try.prog smB 32 = ir32.key := by kernel_rfl
theorem key33 : fnKey Try.prog smB 33 = ir33.key := by kernel_rfl
theorem key35 : fnKey Try.prog smB 35 = ir35.key := by kernel_rfl
theorem key37 : fnKey Try.prog smB 37 = ir37.key := by kernel_rfl
theorem key38 : fnKey Try.prog smB 38 = ir38.key := by kernel_rfl
theorem key39 : fnKey Try.prog smB 39 = ir39.key := by kernel_rfl
theorem key40 : fnKey Try.prog smB 40 = ir40.key := by kernel_rfl
theorem key41 : fnKey Try.prog smB 41 = ir41.key := by kernel_rfl
theorem key43 : fnKey Try.prog smB 43 = ir43.key := by kernel_rfl
theorem key44 : fnKey Try.prog smB 44 = ir44.key := by kernel_rfl
theorem key45 : fnKey Try.prog smB 45 = ir45.key := by kernel_rfl
theorem key46 : fnKey Try.prog smB 46 = ir46.key := by kernel_rfl
theorem key47 : fnKey Try.prog smB 47 = ir47.key := by kernel_rfl
theorem key48 : fnKey Try.prog smB 48 = ir48.key := by kernel_rfl
theorem key49 : fnKey Try.prog smB 49 = ir49.key := by kernel_rfl
theorem key50 : fnKey Try.prog smB 50 = ir50.key := by kernel_rfl
theorem key51 : fnKey Try.prog smB 51 = ir51.key := by kernel_rfl
theorem key53 : fnKey Try.prog smB 53 = ir53.key := by kernel_rfl
theorem key54 : fnKey Try.prog smB 54 = ir54.key := by kernel_rfl
theorem key55 : fnKey Try.prog smB 55 = ir55.key := by kernel_rfl
theorem key56 : fnKey Try.prog smB 56 = ir56.key := by kernel_rfl
theorem key57 : fnKey Try.prog smB 57 = ir57.key := by kernel_rfl
theorem fns_ok : FnsOK Try.prog smB fns := by
  intro f fn h
  unfold fns at h
  split at h
  · simp only [Option.some.injEq] at h; subst h; exact key5
  · simp only [Option.some.injEq] at h; subst h; exact key8
  · simp only [Option.some.injEq] at h; subst h; exact key9
  · simp only [Option.some.injEq] at h; subst h; exact key10
  · simp only [Option.some.injEq] at h; subst h; exact key12
  · simp only [Option.some.injEq] at h; subst h; exact key13
  · simp only [Option.some.injEq] at h; subst h; exact key14
  · simp only [Option.some.injEq] at h; subst h; exact key15
  · simp only [Option.some.injEq] at h; subst h; exact key16
  · simp only [Option.some.injEq] at h; subst h; exact key18
  · simp only [Option.some.injEq] at h; subst h; exact key19
  · simp only [Option.some.injEq] at h; subst h; exact key22
  · simp only [Option.some.injEq] at h; subst h; exact key23
  · simp only [Option.some.injEq] at h; subst h; exact key24
  · simp only [Option.some.injEq] at h; subst h; exact key25
  · simp only [Option.some.injEq] at h; subst h; exact key27
  · simp only [Option.some.injEq] at h; subst h; exact key28
  · simp only [Option.some.injEq] at h; subst h; exact key31
  · simp only [Option.some.injEq] at h; subst h; exact key32
  · simp only [Option.some.injEq] at h; subst h; exact key33
  · simp only [Option.some.injEq] at h; subst h; exact key35
  · simp only [Option.some.injEq] at h; subst h; exact key37
  · simp only [Option.some.injEq] at h; subst h; exact key38
  · simp only [Option.some.injEq] at h; subst h; exact key39
  · simp only [Option.some.injEq] at h; subst h; exact key40
  · simp only [Option.some.injEq] at h; subst h; exact key41
  · simp only [Option.some.injEq] at h; subst h; exact key43
  · simp only [Option.some.injEq] at h; subst h; exact key44
  · simp only [Option.some.injEq] at h; subst h; exact key45
  · simp only [Option.some.injEq] at h; subst h; exact key46
  · simp only [Option.some.injEq] at h; subst h; exact key47
  · simp only [Option.some.injEq] at h; subst h; exact key48
  · simp only [Option.some.injEq] at h; subst h; exact key49
  · simp only [Option.some.injEq] at h; subst h; exact key50
  · simp only [Option.some.injEq] at h; subst h; exact key51
  · simp only [Option.some.injEq] at h; subst h; exact key53
  · simp only [Option.some.injEq] at h; subst h; exact key54
  · simp only [Option.some.injEq] at h; subst h; exact key55
  · simp only [Option.some.injEq] at h; subst h; exact key56
  · simp only [Option.some.injEq] at h; subst h; exact key57
  · cases h
theorem smok_12 : ∀ f s, sm_12 f = some s → SummOK Try.prog f s := by
  intro f s h
  unfold sm_12 at h
  cases h
theorem call_12 {R : Type} (n base : Nat) : CallOK Try.prog base (evFn (R := R) sm_12 fns FU n) := ev_sound hm0 smok_12 (fun f s h => (smok_12 f s h).2.1) fns_ok n
theorem sok_12 : SummOK Try.prog 12 s_12 := summ_shN (by decide) (fun _ => rfl) (fun _ => rfl) (call_12 1) (by kernel_rfl) run_12
theorem smok_27 : ∀ f s, sm_27 f = some s → SummOK Try.prog f s := by
  intro f s h
  unfold sm_27 at h
  cases h
theorem call_27 {R : Type} (n base : Nat) : CallOK Try.prog base (evFn (R := R) sm_27 fns FU n) := ev_sound hm0 smok_27 (fun f s h => (smok_27 f s h).2.1) fns_ok n
theorem sok_27 : SummOK Try.prog 27 s_27 := summ_shN (by decide) (fun _ => rfl) (fun _ => rfl) (call_27 1) (by kernel_rfl) run_27
theorem smok_55 : ∀ f s, sm_55 f = some s → SummOK Try.prog f s := by
  intro f s h
  unfold sm_55 at h
  by_cases h27 : f = 27
  · subst h27
    injection h with h
    subst h
    exact sok_27
  rw [nbeq_ne h27, cond_false] at h
  cases h
theorem call_55 {R : Type} (n base : Nat) : CallOK Try.prog base (evFn (R := R) sm_55 fns FU n) := ev_sound hm0 smok_55 (fun f s h => (smok_55 f s h).2.1) fns_ok n
theorem sok_55 : SummOK Try.prog 55 s_55 := summ_shN (by decide) (fun _ => rfl) (fun _ => rfl) (call_55 1) (by kernel_rfl) run_55
theorem smok_39 : ∀ f s, sm_39 f = some s → SummOK Try.prog f s := by
  intro f s h
  unfold sm_39 at h
  by_cases h55 : f = 55
  · subst h55
    injection h with h
    subst h
    exact sok_55
  rw [nbeq_ne h55, cond_false] at h
  cases h
theorem call_39 {R : Type} (n base : Nat) : CallOK Try.prog base (evFn (R := R) sm_39 fns FU n) := ev_sound hm0 smok_39 (fun f s h => (smok_39 f s h).2.1) fns_ok n
theorem sok_39 : SummOK Try.prog 39 s_39 := summ_shN (by decide) (fun _ => rfl) (fun _ => rfl) (call_39 4) (by kernel_rfl) run_39
theorem smok_40 : ∀ f s, sm_40 f = some s → SummOK Try.prog f s := by
  intro f s h
  unfold sm_40 at h
  cases h
theorem call_40 {R : Type} (n base : Nat) : CallOK Try.prog base (evFn (R := R) sm_40 fns FU n) := ev_sound hm0 smok_40 (fun f s h => (smok_40 f s h).2.1) fns_ok n
theorem sok_40 : SummOK Try.prog 40 s_40 := summ_shN (by decide) (fun _ => rfl) (fun _ => rfl) (call_40 1) (by kernel_rfl) run_40
theorem smok_41 : ∀ f s, sm_41 f = some s → SummOK Try.prog f s := by
  intro f s h
  unfold sm_41 at h
  cases h
theorem call_41 {R : Type} (n base : Nat) : CallOK Try.prog base (evFn (R := R) sm_41 fns FU n) := ev_sound hm0 smok_41 (fun f s h => (smok_41 f s h).2.1) fns_ok n
theorem sok_41 : SummOK Try.prog 41 s_41 := summ_shN (by decide) (fun _ => rfl) (fun _ => rfl) (call_41 1) (by kernel_rfl) run_41
theorem smok_28 : ∀ f s, sm_28 f = some s → SummOK Try.prog f s := by
  intro f s h
  unfold sm_28 at h
  by_cases h27 : f = 27
  · subst h27
    injection h with h
    subst h
    exact sok_27
  rw [nbeq_ne h27, cond_false] at h
  by_cases h39 : f = 39
  · subst h39
    injection h with h
    subst h
    exact sok_39
  rw [nbeq_ne h39, cond_false] at h
  by_cases h40 : f = 40
  · subst h40
    injection h with h
    subst h
    exact sok_40
  rw [nbeq_ne h40, cond_false] at h
  by_cases h41 : f = 41
  · subst h41
    injection h with h
    subst h
    exact sok_41
  rw [nbeq_ne h41, cond_false] at h
  cases h
theorem call_28 {R : Type} (n base : Nat) : CallOK Try.prog base (evFn (R := R) sm_28 fns FU n) := ev_sound hm0 smok_28 (fun f s h => (smok_28 f s h).2.1) fns_ok n
theorem sok_28 : SummOK Try.prog 28 s_28 := summ_shN (by decide) (fun _ => rfl) (fun _ => rfl) (call_28 1) (by kernel_rfl) run_28
theorem smok_38 : ∀ f s, sm_38 f = some s → SummOK Try.prog f s := by
  intro f s h
  unfold sm_38 at h
  by_cases h27 : f = 27
  · subst h27
    injection h with h
    subst h
    exact sok_27
  rw [nbeq_ne h27, cond_false] at h
  cases h
theorem call_38 {R : Type} (n base : Nat) : CallOK Try.prog base (evFn (R := R) sm_38 fns FU n) := ev_sound hm0 smok_38 (fun f s h => (smok_38 f s h).2.1) fns_ok n
theorem sok_38 : SummOK Try.prog 38 s_38 := summ_shN (by decide) (fun _ => rfl) (fun _ => rfl) (call_38 1) (by kernel_rfl) run_38
theorem smok_10 : ∀ f s, sm_10 f = some s → SummOK Try.prog f s := by
  intro f s h
  unfold sm_10 at h
  by_cases h26 : f = 26
  · subst h26
    injection h with h
    subst h
    exact sok_26
  rw [nbeq_ne h26, cond_false] at h
  by_cases h27 : f = 27
  · subst h27
    injection h with h
    subst h
    exact sok_27
  rw [nbeq_ne h27, cond_false] at h
  by_cases h28 : f = 28
  · subst h28
    injection h with h
    subst h
    exact sok_28
  rw [nbeq_ne h28, cond_false] at h
  by_cases h38 : f = 38
  · subst h38
    injection h with h
    subst h
    exact sok_38
  rw [nbeq_ne h38, cond_false] at h
  cases h
theorem call_10 {R : Type} (n base : Nat) : CallOK Try.prog base (evFn (R := R) sm_10 fns FU n) := ev_sound hm0 smok_10 (fun f s h => (smok_10 f s h).2.1) fns_ok n
theorem sok_10 : SummOK Try.prog 10 s_10 := summ_shN (by decide) (fun _ => rfl) (fun _ => rfl) (call_10 4) (by kernel_rfl) run_10
theorem smok_31 : ∀ f s, sm_31 f = some s → SummOK Try.prog f s := by
  intro f s h
  unfold sm_31 at h
  cases h
theorem call_31 {R : Type} (n base : Nat) : CallOK Try.prog base (evFn (R := R) sm_31 fns FU n) := ev_sound hm0 smok_31 (fun f s h => (smok_31 f s h).2.1) fns_ok n
theorem sok_31 : SummOK Try.prog 31 s_31 := summ_shN (by decide) (fun _ => rfl) (fun _ => rfl) (call_31 1) (by kernel_rfl) run_31
theorem smok_15 : ∀ f s, sm_15 f = some s → SummOK Try.prog f s := by
  intro f s h
  unfold sm_15 at h
  by_cases h31 : f = 31
  · subst h31
    injection h with h
    subst h
    exact sok_31
  rw [nbeq_ne h31, cond_false] at h
  cases h
theorem call_15 {R : Type} (n base : Nat) : CallOK Try.prog base (evFn (R := R) sm_15 fns FU n) := ev_sound hm0 smok_15 (fun f s h => (smok_15 f s h).2.1) fns_ok n
theorem sok_15 : SummOK Try.prog 15 s_15 := summ_shN (by decide) (fun _ => rfl) (fun _ => rfl) (call_15 1) (by kernel_rfl) run_15
theorem smok_32 : ∀ f s, sm_32 f = some s → SummOK Try.prog f s := by
  intro f s h
  unfold sm_32 at h
  cases h
theorem call_32 {R : Type} (n base : Nat) : CallOK Try.prog base (evFn (R := R) sm_32 fns FU n) := ev_sound hm0 smok_32 (fun f s h => (smok_32 f s h).2.1) fns_ok n
theorem sok_32 : SummOK Try.prog 32 s_32 := summ_shN (by decide) (fun _ => rfl) (fun _ => rfl) (call_32 1) (by kernel_rfl) run_32
theorem smok_13 : ∀ f s, sm_13 f = some s → SummOK Try.prog f s := by
  intro f s h
  unfold sm_13 at h
  by_cases h15 : f = 15
  · subst h15
    injection h with h
    subst h
    exact sok_15
  rw [nbeq_ne h15, cond_false] at h
  by_cases h31 : f = 31
  · subst h31
    injection h with h
    subst h
    exact sok_31
  rw [nbeq_ne h31, cond_false] at h
  by_cases h32 : f = 32
  · subst h32
    injection h with h
    subst h
    exact sok_32
  rw [nbeq_ne h32, cond_false] at h
  cases h
theorem call_13 {R : Type} (n base : Nat) : CallOK Try.prog base (evFn (R := R) sm_13 fns FU n) := ev_sound hm0 smok_13 (fun f s h => (smok_13 f s h).2.1) fns_ok n
theorem sok_13 : SummOK Try.prog 13 s_13 := summ_shN (by decide) (fun _ => rfl) (fun _ => rfl) (call_13 1) (by kernel_rfl) run_13
theorem smok_16 : ∀ f s, sm_16 f = some s → SummOK Try.prog f s := by
  intro f s h
  unfold sm_16 at h
  by_cases h10 : f = 10
  · subst h10
    injection h with h
    subst h
    exact sok_10
  rw [nbeq_ne h10, cond_false] at h
  cases h
theorem call_16 {R : Type} (n base : Nat) : CallOK Try.prog base (evFn (R := R) sm_16 fns FU n) := ev_sound hm0 smok_16 (fun f s h => (smok_16 f s h).2.1) fns_ok n
theorem sok_16 : SummOK Try.prog 16 s_16 := summ_sh (fun _ => rfl) (fun _ => rfl) (call_16 1) (by kernel_rfl) run_16
theorem smok_19 : ∀ f s, sm_19 f = some s → SummOK Try.prog f s := by
  intro f s h
  unfold sm_19 at h
  by_cases h31 : f = 31
  · subst h31
    injection h with h
    subst h
    exact sok_31
  rw [nbeq_ne h31, cond_false] at h
  cases h
theorem call_19 {R : Type} (n base : Nat) : CallOK Try.prog base (evFn (R := R) sm_19 fns FU n) := ev_sound hm0 smok_19 (fun f s h => (smok_19 f s h).2.1) fns_ok n
theorem sok_19 : SummOK Try.prog 19 s_19 := summ_shN (by decide) (fun _ => rfl) (fun _ => rfl) (call_19 1) (by kernel_rfl) run_19
theorem smok_43 : ∀ f s, sm_43 f = some s → SummOK Try.prog f s := by
  intro f s h
  unfold sm_43 at h
  cases h
theorem call_43 {R : Type} (n base : Nat) : CallOK Try.prog base (evFn (R := R) sm_43 fns FU n) := ev_sound hm0 smok_43 (fun f s h => (smok_43 f s h).2.1) fns_ok n
theorem sok_43 : SummOK Try.prog 43 s_43 := summ_shN (by decide) (fun _ => rfl) (fun _ => rfl) (call_43 1) (by kernel_rfl) run_43
theorem smok_44 : ∀ f s, sm_44 f = some s → SummOK Try.prog f s := by
  intro f s h
  unfold sm_44 at h
  cases h
theorem call_44 {R : Type} (n base : Nat) : CallOK Try.prog base (evFn (R := R) sm_44 fns FU n) := ev_sound hm0 smok_44 (fun f s h => (smok_44 f s h).2.1) fns_ok n
theorem sok_44 : SummOK Try.prog 44 s_44 := summ_shN (by decide) (fun _ => rfl) (fun _ => rfl) (call_44 1) (by kernel_rfl) run_44
theorem smok_46 : ∀ f s, sm_46 f = some s → SummOK Try.prog f s := by
  intro f s h
  unfold sm_46 at h
  cases h
theorem call_46 {R : Type} (n base : Nat) : CallOK Try.prog base (evFn (R := R) sm_46 fns FU n) := ev_sound hm0 smok_46 (fun f s h => (smok_46 f s h).2.1) fns_ok n
theorem sok_46 : SummOK Try.prog 46 s_46 := summ_sh (fun _ => rfl) (fun _ => rfl) (call_46 1) (by kernel_rfl) run_46
theorem smok_56 : ∀ f s, sm_56 f = some s → SummOK Try.prog f s := by
  intro f s h
  unfold sm_56 at h
  cases h
theorem call_56 {R : Type} (n base : Nat) : CallOK Try.prog base (evFn (R := R) sm_56 fns FU n) := ev_sound hm0 smok_56 (fun f s h => (smok_56 f s h).2.1) fns_ok n
theorem sok_56 : SummOK Try.prog 56 s_56 := summ_sh (fun _ => rfl) (fun _ => rfl) (call_56 1) (by kernel_rfl) run_56
theorem smok_14 : ∀ f s, sm_14 f = some s → SummOK Try.prog f s := by
  intro f s h
  unfold sm_14 at h
  by_cases h10 : f = 10
  · subst h10
    injection h with h
    subst h
    exact sok_10
  rw [nbeq_ne h10, cond_false] at h
  by_cases h13 : f = 13
  · subst h13
    injection h with h
    subst h
    exact sok_13
  rw [nbeq_ne h13, cond_false] at h
  by_cases h15 : f = 15
  · subst h15
    injection h with h
    subst h
    exact sok_15
  rw [nbeq_ne h15, cond_false] at h
  by_cases h16 : f = 16
  · subst h16
    injection h with h
    subst h
    exact sok_16
  rw [nbeq_ne h16, cond_false] at h
  by_cases h19 : f = 19
  · subst h19
    injection h with h
    subst h
    exact sok_19
  rw [nbeq_ne h19, cond_false] at h
  by_cases h31 : f = 31
  · subst h31
    injection h with h
    subst h
    exact sok_31
  rw [nbeq_ne h31, cond_false] at h
  by_cases h32 : f = 32
  · subst h32
    injection h with h
    subst h
    exact sok_32
  rw [nbeq_ne h32, cond_false] at h
  by_cases h43 : f = 43
  · subst h43
    injection h with h
    subst h
    exact sok_43
  rw [nbeq_ne h43, cond_false] at h
  by_cases h44 : f = 44
  · subst h44
    injection h with h
    subst h
    exact sok_44
  rw [nbeq_ne h44, cond_false] at h
  by_cases h46 : f = 46
  · subst h46
    injection h with h
    subst h
    exact sok_46
  rw [nbeq_ne h46, cond_false] at h
  by_cases h56 : f = 56
  · subst h56
    injection h with h
    subst h
    exact sok_56
  rw [nbeq_ne h56, cond_false] at h
  cases h
theorem call_14 {R : Type} (n base : Nat) : CallOK Try.prog base (evFn (R := R) sm_14 fns FU n) := ev_sound hm0 smok_14 (fun f s h => (smok_14 f s h).2.1) fns_ok n
theorem sok_14 : SummOK Try.prog 14 s_14 := summ_sh (fun _ => rfl) (fun _ => rfl) (call_14 3) (by kernel_rfl) run_14
theorem smok_18 : ∀ f s, sm_18 f = some s → SummOK Try.prog f s := by
  intro f s h
  unfold sm_18 at h
  cases h
theorem call_18 {R : Type} (n base : Nat) : CallOK Try.prog base (evFn (R := R) sm_18 fns FU n) := ev_sound hm0 smok_18 (fun f s h => (smok_18 f s h).2.1) fns_ok n
theorem sok_18 : SummOK Try.prog 18 s_18 := summ_shN (by decide) (fun _ => rfl) (fun _ => rfl) (call_18 1) (by kernel_rfl) run_18
theorem smok_8 : ∀ f s, sm_8 f = some s → SummOK Try.prog f s := by
  intro f s h
  unfold sm_8 at h
  by_cases h12 : f = 12
  · subst h12
    injection h with h
    subst h
    exact sok_12
  rw [nbeq_ne h12, cond_false] at h
  by_cases h14 : f = 14
  · subst h14
    injection h with h
    subst h
    exact sok_14
  rw [nbeq_ne h14, cond_false] at h
  by_cases h18 : f = 18
  · subst h18
    injection h with h
    subst h
    exact sok_18
  rw [nbeq_ne h18, cond_false] at h
  cases h
theorem call_8 {R : Type} (n base : Nat) : CallOK Try.prog base (evFn (R := R) sm_8 fns FU n) := ev_sound hm0 smok_8 (fun f s h => (smok_8 f s h).2.1) fns_ok n
theorem sok_8 : SummOK Try.prog 8 s_8 := summ_shN (by decide) (fun _ => rfl) (fun _ => rfl) (call_8 1) (by kernel_rfl) run_8
theorem smok_5 : ∀ f s, sm_5 f = some s → SummOK Try.prog f s := by
  intro f s h
  unfold sm_5 at h
  by_cases h8 : f = 8
  · subst h8
    injection h with h
    subst h
    exact sok_8
  rw [nbeq_ne h8, cond_false] at h
  by_cases h12 : f = 12
  · subst h12
    injection h with h
    subst h
    exact sok_12
  rw [nbeq_ne h12, cond_false] at h
  by_cases h13 : f = 13
  · subst h13
    injection h with h
    subst h
    exact sok_13
  rw [nbeq_ne h13, cond_false] at h
  by_cases h14 : f = 14
  · subst h14
    injection h with h
    subst h
    exact sok_14
  rw [nbeq_ne h14, cond_false] at h
  by_cases h18 : f = 18
  · subst h18
    injection h with h
    subst h
    exact sok_18
  rw [nbeq_ne h18, cond_false] at h
  cases h
theorem call_5 {R : Type} (n base : Nat) : CallOK Try.prog base (evFn (R := R) sm_5 fns FU n) := ev_sound hm0 smok_5 (fun f s h => (smok_5 f s h).2.1) fns_ok n
end Go.Ev
