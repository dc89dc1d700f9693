/- Part 2 of a typed evaluator of the program's functions, proved sound. No condition. -/
import Derived.Test.YtimddfofkpgclaaEvPart1
import Derived.IntWalk
import Derived.ProofKit
import Derived.OpenShut
import Derived.ChangeOld
import Derived.ChangeSlices
import Derived.Deep.Slices
import Derived.Deep.Fields
set_option linter.unusedVariables false
set_option linter.unusedSimpArgs false
namespace Go.Ev
open Go
/-! Loops taken over by oracles. -/
section
variable {R : Type}
/-- The rest of a loop at a state that is in normal form. -/
def evLoopN (body : St → (Ex → St → Option R) → Option R) (nrm : St → St) : Nat → St → (Ex → St → Option R) → Option R
  | 0, _, _ => none
  | m + 1, T, k => body T fun ex S' => match ex with
    | .normal => evLoopN body nrm m (nrm S') k
    | e => k e S'
theorem evLoop_eq (body : St → (Ex → St → Option R) → Option R) (nrm : St → St) : ∀ m S k, evLoop body nrm m S k = evLoopN body nrm m (nrm S) k
  | 0, _, _ => rfl
  | m + 1, S, k => by
    simp only [evLoop, evLoopN]
    congr 1
    funext ex S'
    cases ex with
    | normal => exact evLoop_eq body nrm m S' k
    | _ => rfl
inductive LT (R : Type) where
  | nil
  | node (a b : LT R)
  | orc (o : St → (Ex → St → Option R) → Option R)
variable (summ : Nat → Option Summ) (fu : Nat) (call : Nat → List CV → List Blk → (CV → List Blk → Option R) → Option R)
def evCodeL : LT R → IC → St → (Ex → St → Option R) → Option R
  | .nil, c, S, k => evCode summ fu call c S k
  | .node x y, .seq a b, S, k => evCodeL x a S fun ex S' => match ex with | .normal => evCodeL y b S' k | e => k e S'
  | .node x y, .cond c a b, S, k => match c with
    | .tmp t => match S.sl.getD t .junk with
      | .bool v => bif v then evCodeL x a (S.put (some t) (.bool true)) k else evCodeL y b (S.put (some t) (.bool false)) k
      | _ => none
    | .cst (.bool v) => bif v then evCodeL x a S k else evCodeL y b S k
    | _ => none
  | .node x _, .block id b, S, k => evCodeL x b S fun ex S' => match ex with
    | .exit j => if j = id then k .normal S' else k (.exit j) S'
    | e => k e S'
  | .orc o, .loop live _, S, k => o (St.norm live S) k
  | _, _, _, _ => none
/-- The oracles tell the truth. -/
def LTok : LT R → IC → Prop
  | .nil, _ => True
  | .node x y, .seq a b => LTok x a ∧ LTok y b
  | .node x y, .cond _ a b => LTok x a ∧ LTok y b
  | .node x _, .block _ b => LTok x b
  | .orc o, .loop live b => ∀ T k r, o T k = some r → evLoopN (evCode summ fu call b) (St.norm live) fu T k = some r
  | _, _ => True
/-- Monotone in what comes after. -/
def Kle (k k' : Ex → St → Option R) : Prop := ∀ e S r, k e S = some r → k' e S = some r

def CallLe (call call2 : Nat → List CV → List Blk → (CV → List Blk → Option R) → Option R) : Prop := ∀ f cs hp (k k' : CV → List Blk → Option R) r, (∀ v h r, k v h = some r → k' v h = some r) → call f cs hp k = some r → call2 f cs hp k' = some r
theorem gd_mono {c : Bool} {x y : Option R} {r : R} (h : x = some r → y = some r) (hx : gd c x = some r) : gd c y = some r := by
  cases c
  · cases hx
  · exact h hx
variable {summ fu call} {call2 : Nat → List CV → List Blk → (CV → List Blk → Option R) → Option R}
theorem evOps_monoF (hc : CallLe call call2) (base : Nat) : ∀ (os : List IOper) (i : Nat) (log : List LogE) (S : St) (k k' : St → Option R) (r : R), (∀ S r, k S = some r → k' S = some r) → evOps summ call false base i os log S k = some r → evOps summ call2 false base i os log S k' = some r := by
  intro os
  induction os with
  | nil =>
    intro i log S k k' r hk h
    unfold evOps at h ⊢
    exact hk _ _ h
  | cons o os ih =>
    intro i log S k k' r hk h
    have hrun : ∀ S : St, (match o.op with
      | .call f => call f (o.args.map S.eval) S.hp fun v hp => evOps summ call false base (i + 1) os log ({ S with hp := hp }.put o.dst v) k
      | .callv => match o.args.map S.eval with
        | .clo f c :: vs => if capsOK c = true then call f (vs ++ unchain c) S.hp fun v hp => evOps summ call false base (i + 1) os log ({ S with hp := hp }.put o.dst v) k else none
        | _ => none
      | op => match o.args.map S.eval with
        | vals => match S.hp.length with
          | nid => match act summ op vals S.look nid with
            | none => none
            | some out => gd out.ok (evOps summ call false base (i + 1) os log (S.apply o.dst out) k)) = some r →
      (match o.op with
      | .call f => call2 f (o.args.map S.eval) S.hp fun v hp => evOps summ call2 false base (i + 1) os log ({ S with hp := hp }.put o.dst v) k'
      | .callv => match o.args.map S.eval with
        | .clo f c :: vs => if capsOK c = true then call2 f (vs ++ unchain c) S.hp fun v hp => evOps summ call2 false base (i + 1) os log ({ S with hp := hp }.put o.dst v) k' else none
        | _ => none
      | op => match o.args.map S.eval with
        | vals => match S.hp.length with
          | nid => match act summ op vals S.look nid with
            | none => none
            | some out => gd out.ok (evOps summ call2 false base (i + 1) os log (S.apply o.dst out) k')) = some r := by
      intro S h
      split at h
      · exact hc _ _ _ _ _ _ (fun v hp r => ih _ _ _ _ _ _ hk) h
      · split at h
        · rename_i hv
          split at h
          · rename_i hcap; simp only [hcap, if_true]; exact hc _ _ _ _ _ _ (fun v hp r => ih _ _ _ _ _ _ hk) h
          · cases h
        · cases h
      · dsimp only at h ⊢
        split at h
        · cases h
        · rename_i out hout
          exact gd_mono (ih _ _ _ _ _ _ hk) h
    unfold evOps at h ⊢
    cases hg : o.guard with
    | none => rw [hg] at h; exact hrun _ h
    | some g =>
      obtain ⟨d, want⟩ := g
      rw [hg] at h
      simp only [] at h ⊢
      split at h
      · rename_i b hb
        cases b <;> cases want
        · exact hrun _ h
        · exact ih _ _ _ _ _ _ hk h
        · exact ih _ _ _ _ _ _ hk h
        · exact hrun _ h
      · simp only [Bool.false_eq_true, if_false] at h ⊢
        exact ih _ _ _ _ _ _ hk h
      · cases h
theorem evOps_monoT (hc : CallLe call call2) (base : Nat) : ∀ (os : List IOper) (i : Nat) (log : List LogE) (S : St) (k k' : St → Option R) (r : R), (∀ S r, k S = some r → k' S = some r) → evOps summ call true base i os log S k = some r → evOps summ call2 true base i os log S k' = some r := by
  intro os
  induction os with
  | nil =>
    intro i log S k k' r hk h
    unfold evOps at h ⊢
    exact gd_mono (hk _ _) h
  | cons o os ih =>
    intro i log S k k' r hk h
    have hrun : ∀ S : St, (match o.op with
      | .call f => none
      | .callv => none
      | op => match o.args.map S.eval with
        | vals => match base + o.rank with
          | nid => match act summ op vals S.look nid with
            | none => none
            | some out => gd (drawChk S op nid out) (gd out.ok (evOps summ call true base (i + 1) os (log ++ [logOf i o op vals nid out]) (S.apply o.dst out) k))) = some r →
      (match o.op with
      | .call f => none
      | .callv => none
      | op => match o.args.map S.eval with
        | vals => match base + o.rank with
          | nid => match act summ op vals S.look nid with
            | none => none
            | some out => gd (drawChk S op nid out) (gd out.ok (evOps summ call2 true base (i + 1) os (log ++ [logOf i o op vals nid out]) (S.apply o.dst out) k'))) = some r := by
      intro S h
      split at h
      · cases h
      · cases h
      · dsimp only at h ⊢
        split at h
        · cases h
        · rename_i out hout
          exact gd_mono (gd_mono (ih _ _ _ _ _ _ hk)) h
    unfold evOps at h ⊢
    cases hg : o.guard with
    | none => rw [hg] at h; exact hrun _ h
    | some g =>
      obtain ⟨d, want⟩ := g
      rw [hg] at h
      simp only [] at h ⊢
      split at h
      · rename_i b hb
        cases b <;> cases want
        · exact hrun _ h
        · exact ih _ _ _ _ _ _ hk h
        · exact ih _ _ _ _ _ _ hk h
        · exact hrun _ h
      · simp at h
      · cases h
theorem evLoop_mono {body body2 : St → (Ex → St → Option R) → Option R} {nrm : St → St} (hb : ∀ S k k' r, Kle k k' → body S k = some r → body2 S k' = some r) : ∀ m S k k' r, Kle k k' → evLoop body nrm m S k = some r → evLoop body2 nrm m S k' = some r
  | 0, _, _, _, _, _, h => by cases h
  | m + 1, S, k, k', r, hk, h => by
    refine hb _ _ _ _ (fun e S' r' h' => ?_) h
    cases e with
    | normal => exact evLoop_mono hb m _ _ _ _ hk h'
    | _ => exact hk _ _ _ h'
theorem evCode_mono (hc : CallLe call call2) : ∀ (c : IC) (S : St) (k k' : Ex → St → Option R) (r : R), Kle k k' → evCode summ fu call c S k = some r → evCode summ fu call2 c S k' = some r
  | .skip, _, _, _, _, hk, h => hk _ _ _ h
  | .region draw _ ops, S, _, _, _, hk, h => by
    unfold evCode at h ⊢
    cases draw
    · exact evOps_monoF hc _ _ _ _ _ _ _ _ (fun S r => hk .normal S r) h
    · exact gd_mono (evOps_monoT hc _ _ _ _ _ _ _ _ (fun S r => hk .normal S r)) h
  | .seq a b, S, _, _, _, hk, h => by
    unfold evCode at h ⊢
    refine evCode_mono hc a _ _ _ _ (fun e S' r' h' => ?_) h
    cases e with
    | normal => exact evCode_mono hc b _ _ _ _ hk h'
    | _ => exact hk _ _ _ h'
  | .cond c a b, S, _, _, _, hk, h => by
    unfold evCode at h ⊢
    split at h
    · split at h
      · rename_i x hx
        cases x
        · exact evCode_mono hc b _ _ _ _ hk h
        · exact evCode_mono hc a _ _ _ _ hk h
      · cases h
    · rename_i x
      cases x
      · exact evCode_mono hc b _ _ _ _ hk h
      · exact evCode_mono hc a _ _ _ _ hk h
    · cases h
  | .block id b, S, _, _, _, hk, h => by
    unfold evCode at h ⊢
    refine evCode_mono hc b _ _ _ _ (fun e S' r' h' => ?_) h
    cases e with
    | exit j =>
      simp only [] at h' ⊢
      split at h'
      · rename_i hj; simp only [hj, if_true]; exact hk _ _ _ h'
      · rename_i hj; simp only [hj, if_false]; exact hk _ _ _ h'
    | _ => exact hk _ _ _ h'
  | .loop live b, S, _, _, _, hk, h => by
    unfold evCode at h ⊢
    exact evLoop_mono (fun S k k' r => evCode_mono hc b S k k' r) _ _ _ _ _ hk h
  | .exit _, _, _, _, _, hk, h => hk _ _ _ h
  | .ret, _, _, _, _, hk, h => hk _ _ _ h
theorem evCodeL_sound (hc : CallLe call call2) (hc2 : CallLe call2 call2) : ∀ (t : LT R) (c : IC) (S : St) (k k' : Ex → St → Option R) (r : R), LTok summ fu call2 t c → Kle k k' → evCodeL summ fu call t c S k = some r → evCode summ fu call2 c S k' = some r
  | .nil, c, S, k, k', r, _, hk, h => evCode_mono hc c S k k' r hk (by unfold evCodeL at h; exact h)
  | .node x y, .seq a b, S, k, k', r, ht, hk, h => by
    unfold evCodeL at h; unfold evCode
    refine evCodeL_sound hc hc2 x a _ _ _ _ ht.1 (fun e S' r' h' => ?_) h
    cases e with
    | normal => exact evCodeL_sound hc hc2 y b _ _ _ _ ht.2 hk h'
    | _ => exact hk _ _ _ h'
  | .node x y, .cond c a b, S, k, k', r, ht, hk, h => by
    unfold evCodeL at h; unfold evCode
    split at h
    · split at h
      · rename_i v hx
        simp only [hx]
        cases v
        · exact evCodeL_sound hc hc2 y b _ _ _ _ ht.2 hk h
        · exact evCodeL_sound hc hc2 x a _ _ _ _ ht.1 hk h
      · cases h
    · rename_i v
      cases v
      · exact evCodeL_sound hc hc2 y b _ _ _ _ ht.2 hk h
      · exact evCodeL_sound hc hc2 x a _ _ _ _ ht.1 hk h
    · cases h
  | .node x _, .block id b, S, k, k', r, ht, hk, h => by
    unfold evCodeL at h; unfold evCode
    refine evCodeL_sound hc hc2 x b _ _ _ _ ht (fun e S' r' h' => ?_) h
    cases e with
    | exit j =>
      simp only [] at h' ⊢
      split at h'
      · rename_i hj; simp only [hj, if_true]; exact hk _ _ _ h'
      · rename_i hj; simp only [hj, if_false]; exact hk _ _ _ h'
    | _ => exact hk _ _ _ h'
  | .orc o, .loop live b, S, k, k', r, ht, hk, h => by
    unfold evCodeL at h; unfold evCode
    have := ht _ _ _ h
    rw [← evLoop_eq] at this
    exact evLoop_mono (fun S k k' r => evCode_mono hc2 b S k k' r) _ _ _ _ _ hk this
  | .node _ _, .skip, _, _, _, _, _, _, h => by unfold evCodeL at h; cases h
  | .node _ _, .region _ _ _, _, _, _, _, _, _, h => by unfold evCodeL at h; cases h
  | .node _ _, .loop _ _, _, _, _, _, _, _, h => by unfold evCodeL at h; cases h
  | .node _ _, .exit _, _, _, _, _, _, _, h => by unfold evCodeL at h; cases h
  | .node _ _, .ret, _, _, _, _, _, _, h => by unfold evCodeL at h; cases h
  | .orc _, .skip, _, _, _, _, _, _, h => by unfold evCodeL at h; cases h
  | .orc _, .region _ _ _, _, _, _, _, _, _, h => by unfold evCodeL at h; cases h
  | .orc _, .seq _ _, _, _, _, _, _, _, h => by unfold evCodeL at h; cases h
  | .orc _, .cond _ _ _, _, _, _, _, _, _, h => by unfold evCodeL at h; cases h
  | .orc _, .block _ _, _, _, _, _, _, _, h => by unfold evCodeL at h; cases h
  | .orc _, .exit _, _, _, _, _, _, _, h => by unfold evCodeL at h; cases h
  | .orc _, .ret, _, _, _, _, _, _, h => by unfold evCodeL at h; cases h
variable (summ fu) in
theorem evFn_mono (fns : Nat → Option IFn) : ∀ n, CallLe (evFn (R := R) summ fns fu n) (evFn (R := R) summ fns fu n)
  | 0, _, _, _, _, _, _, _, h => by cases h
  | n + 1, f, cs, hp, k, k', r, hk, h => by
    unfold evFn at h ⊢
    split at h
    · cases h
    · rename_i fn hfn
      simp only [hfn]
      refine evCode_mono (evFn_mono fns n) _ _ _ _ _ (fun e S r' h' => ?_) h
      split at h'
      · cases h'
      · rename_i hne
        split at h'
        · cases h'
        · rename_i l hl
          cases e with
          | exit j => exact absurd rfl (hne j)
          | _ => exact hk _ _ _ h'
/-- A function's run, its loops taken over. -/
def evFnL (summ : Nat → Option Summ) (fu : Nat) (call : Nat → List CV → List Blk → (CV → List Blk → Option R) → Option R) (t : LT R) (fn : IFn) (args : List CV) (hp : List Blk) (k : CV → List Blk → Option R) : Option R :=
  evCodeL summ fu call t fn.body { sl := args ++ List.replicate (fn.ntmps - args.length) .junk, hp := hp, fb := hp.length } fun ex S =>
      match ex with
      | .exit _ => none
      | _ => match resOf S fn.results with
        | none => none
        | some l => match compact S.fb (l.flatMap CV.refs) S.hp with
          | keep => k ((tupOf l).ren S.fb keep) (compHp S.fb keep S.hp)
/-- Calls, some of them taken over. -/
def ovr (o : Nat → Option (List CV → List Blk → (CV → List Blk → Option R) → Option R)) (call : Nat → List CV → List Blk → (CV → List Blk → Option R) → Option R) : Nat → List CV → List Blk → (CV → List Blk → Option R) → Option R := fun f args hp k => match o f with
  | some g => g args hp k
  | none => call f args hp k
def OvrOK (o : Nat → Option (List CV → List Blk → (CV → List Blk → Option R) → Option R)) (call : Nat → List CV → List Blk → (CV → List Blk → Option R) → Option R) : Prop := ∀ f g, o f = some g → ∀ args hp k r, g args hp k = some r → call f args hp k = some r
theorem ovr_le {o : Nat → Option (List CV → List Blk → (CV → List Blk → Option R) → Option R)} (hm : CallLe call call) (ho : OvrOK o call) : CallLe (ovr o call) call := by
  intro f cs hp k k' r hk h
  unfold ovr at h
  split at h
  · rename_i g hg
    exact hm f cs hp k k' r hk (ho f g hg _ _ _ _ h)
  · exact hm f cs hp k k' r hk h
def noO : Nat → Option (List CV → List Blk → (CV → List Blk → Option R) → Option R) := fun _ => none
theorem noO_ok : OvrOK noO call := by intro f g h; cases h
theorem evFnL_sound {fns : Nat → Option IFn} {n f : Nat} {fn : IFn} (hf : fns f = some fn) {t : LT R} {o : Nat → Option (List CV → List Blk → (CV → List Blk → Option R) → Option R)} (ho : OvrOK o (evFn summ fns fu n)) (ht : LTok summ fu (evFn summ fns fu n) t fn.body) {args : List CV} {hp : List Blk} {k : CV → List Blk → Option R} {r : R}
    (h : evFnL summ fu (ovr o (evFn summ fns fu n)) t fn args hp k = some r) : evFn summ fns fu (n + 1) f args hp k = some r := by
  unfold evFn
  simp only [hf]
  exact evCodeL_sound (ovr_le (evFn_mono summ fu fns n) ho) (evFn_mono summ fu fns n) t _ _ _ _ _ ht (fun _ _ _ h => h) h
/-- A loop's body, its inner loops and some calls taken over. -/
theorem bodyL_sound {fns : Nat → Option IFn} {n : Nat} {b : IC} {t : LT R} {o : Nat → Option (List CV → List Blk → (CV → List Blk → Option R) → Option R)} (ho : OvrOK o (evFn summ fns fu n)) (ht : LTok summ fu (evFn summ fns fu n) t b) {T : St} {k : Ex → St → Option R} {r : R}
    (h : evCodeL summ fu (ovr o (evFn summ fns fu n)) t b T k = some r) : evCode summ fu (evFn summ fns fu n) b T k = some r :=
  evCodeL_sound (ovr_le (evFn_mono summ fu fns n) ho) (evFn_mono summ fu fns n) t _ _ _ _ _ ht (fun _ _ _ h => h) h
end
end Go.Ev
namespace Go.Ev
open Go
/-! Functions of pure data: their arguments and results as Lean's own. -/
@[reducible] def HDen : List Ty → Type
  | [] => Unit
  | t :: ts => t.den × HDen ts
def ofH : (ts : List Ty) → HDen ts → List CV
  | [], _ => []
  | t :: ts, x => ofP t x.1 :: ofH ts x.2
def toH : (ts : List Ty) → List CV → Option (HDen ts)
  | [], [] => some ()
  | t :: ts, c :: cs => match toPH noLook t c, toH ts cs with | some x, some l => some (x, l) | _, _ => none
  | _, _ => none
theorem toPH_ofP (look : Look) : ∀ (t : Ty) (x : t.den), toPH look t (ofP t x) = some x := by
  intro t x
  cases t <;> simp [toPH, ofP]
theorem toH_ofH : ∀ (ts : List Ty) (x : HDen ts), toH ts (ofH ts x) = some x
  | [], _ => rfl
  | t :: ts, x => by simp [toH, ofH, toPH_ofP, toH_ofH ts x.2]
theorem purify_ofH {look : Look} : ∀ {ts : List Ty} {cs cs' : List CV}, purify look ts cs = some cs' → ∃ x, cs' = ofH ts x
  | [], [], _, h => ⟨(), by simp [purify] at h; simp [ofH, h]⟩
  | [], _ :: _, _, h => by simp [purify] at h
  | _ :: _, [], _, h => by simp [purify] at h
  | t :: ts, c :: cs, cs', h => by
    simp only [purify] at h
    split at h
    · rename_i x l hx hl
      simp at h; subst h
      obtain ⟨y, rfl⟩ := purify_ofH hl
      exact ⟨(x, y), rfl⟩
    · cases h
/-- A summary: what must hold of the arguments, and what the results are. -/
def fS (ts rs : List Ty) (pre : HDen ts → Bool) (fn : HDen ts → HDen rs) : Summ := pureS ts fun cs => match toH ts cs with
  | some x => some (pre x, ofH rs (fn x))
  | none => none
theorem fS_congr (ts rs : List Ty) (pre : HDen ts → Bool) (fn : HDen ts → HDen rs) : SummC (fS ts rs pre fn) := pureS_congr ts _
/-- What a run must give. -/
def Rets (rs : List Ty) (r : Option (CV × List Blk)) (y : HDen rs) : Prop := ∃ l0 hp2, r = some (tupOf l0, hp2) ∧ purify (lookH hp2) rs l0 = some (ofH rs y) ∧ subsOK (lookH hp2) l0 = true
theorem summ_fn {P : Program} {f : Nat} {ts rs : List Ty} {pre : HDen ts → Bool} {fn : HDen ts → HDen rs} {call : Nat → List CV → List Blk → (CV → List Blk → Option (CV × List Blk)) → Option (CV × List Blk)} (hcall : ∀ base, CallOK P base call) (hcb : callable P f = true)
    (h : ∀ x, pre x = true → Rets rs (call f (ofH ts x) [] fun v h => some (v, h)) (fn x)) : SummOK P f (fS ts rs pre fn) := by
  refine summ_of_ev (rs := rs) hcall hcb ?_
  intro look cs cs' l hcs hF
  obtain ⟨x, rfl⟩ := purify_ofH hcs
  rw [toH_ofH] at hF
  simp only [Option.some.injEq, Prod.mk.injEq] at hF
  obtain ⟨hp, rfl⟩ := hF
  exact h x hp
theorem Rets.of {rs : List Ty} {r : Option (CV × List Blk)} {y : HDen rs} {l0 : List CV} {hp2 : List Blk} (h : r = some (tupOf l0, hp2)) (h1 : purify (lookH hp2) rs l0 = some (ofH rs y)) (h2 : subsOK (lookH hp2) l0 = true) : Rets rs r y := ⟨l0, hp2, h, h1, h2⟩
theorem gd_true {R : Type} {c : Bool} {x : Option R} (h : c = true) : gd c x = x := by subst h; rfl
/-- A loop's body: what comes next is either its head again, in normal form, or what comes after. -/
def evLB {R : Type} (body : St → (Ex → St → Option R) → Option R) (nrm : St → St) (T : St) (K0 : St → Option R) (K1 : Ex → St → Option R) : Option R := body T fun ex S => match ex with | .normal => K0 (nrm S) | e => K1 e S
theorem evLoopN_succ {R : Type} (body : St → (Ex → St → Option R) → Option R) (nrm : St → St) (m : Nat) (T : St) (k : Ex → St → Option R) : evLoopN body nrm (m + 1) T k = evLB body nrm T (fun S => evLoopN body nrm m S k) k := by
  rw [evLoopN, evLB]
  all_goals congr 1

theorem cond_tt {α : Type} {c : Bool} {x y : α} (h : c = true) : (bif c then x else y) = x := by subst h; rfl
theorem cond_ff {α : Type} {c : Bool} {x y : α} (h : c = false) : (bif c then x else y) = y := by subst h; rfl
theorem wrap_in {n : Int} (h : -9223372036854775808 ≤ n ∧ n ≤ 9223372036854775807) : IntKind.wrap .i64 n = n := IntWalk.i64_in n h
theorem inB_nat {j n : Nat} (h : j < n) : inB (j : Int) n = true := by unfold inB; simp; omega
theorem gd_some {R : Type} {c : Bool} {x : Option R} {r : R} (h : gd c x = some r) : c = true ∧ x = some r := by
  cases c
  · cases h
  · exact ⟨rfl, h⟩
/-- Something is found below n; where first (from j on, d tries). -/
def fndB (p : Nat → Bool) : Nat → Nat → Bool
  | _, 0 => false
  | j, d + 1 => p j || fndB p (j + 1) d
def fstB (p : Nat → Bool) : Nat → Nat → Nat
  | j, 0 => j
  | j, d + 1 => bif p j then j else fstB p (j + 1) d
theorem fndB_iff {p : Nat → Bool} : ∀ {d j : Nat}, fndB p j d = true ↔ ∃ i, j ≤ i ∧ i < j + d ∧ p i = true
  | 0, j => by simp [fndB]; intro i h1 h2; omega
  | d + 1, j => by
    simp only [fndB, Bool.or_eq_true, fndB_iff (d := d)]
    constructor
    · rintro (h | ⟨i, h1, h2, h3⟩)
      · exact ⟨j, by omega, by omega, h⟩
      · exact ⟨i, by omega, by omega, h3⟩
    · rintro ⟨i, h1, h2, h3⟩
      rcases Nat.eq_or_lt_of_le h1 with rfl | h
      · exact .inl h3
      · exact .inr ⟨i, h, by omega, h3⟩
theorem fndB_list {α : Type} (xs : List α) (d : α) (p : α → Bool) : fndB (fun j => p (xs.getD j d)) 0 xs.length = xs.any p := by
  rw [Bool.eq_iff_iff, fndB_iff, List.any_eq_true]
  constructor
  · rintro ⟨i, _, h2, h3⟩
    have h : i < xs.length := by omega
    refine ⟨xs[i], List.getElem_mem h, ?_⟩
    simpa [List.getD, h] using h3
  · rintro ⟨x, hx, hp⟩
    obtain ⟨i, h, rfl⟩ := List.mem_iff_getElem.1 hx
    exact ⟨i, by omega, by omega, by simpa [List.getD, h] using hp⟩
section
variable {R : Type} {body : St → (Ex → St → Option R) → Option R} {nrm : St → St}
/-- A loop that looks for something. -/
theorem search_loop {n : Nat} {T : Nat → St} {bad : Nat → Bool} {Kb : Nat → (Ex → St → Option R) → Option R} {ee : Ex} {Xe : St}
    (hb : ∀ j, j < n → ∀ K0 K1, evLB body nrm (T j) K0 K1 = bif bad j then Kb j K1 else K0 (T (j + 1)))
    (he : ∀ K0 K1, evLB body nrm (T n) K0 K1 = K1 ee Xe) (k : Ex → St → Option R) : ∀ d m j, j + d = n → d < m → evLoopN body nrm m (T j) k = bif fndB bad j d then Kb (fstB bad j d) k else k ee Xe := by
  intro d
  induction d with
  | zero =>
    intro m j hj hm
    obtain ⟨m, rfl⟩ : ∃ m', m = m' + 1 := ⟨m - 1, by omega⟩
    rw [evLoopN_succ, show j = n by omega, he]
    rfl
  | succ d ih =>
    intro m j hj hm
    obtain ⟨m, rfl⟩ : ∃ m', m = m' + 1 := ⟨m - 1, by omega⟩
    rw [evLoopN_succ, hb j (by omega)]
    simp only [fndB, fstB]
    cases bad j
    · simp only [cond_false, Bool.false_or]
      exact ih m (j + 1) (by omega) (by omega)
    · rfl
theorem search_loop0 {n : Nat} {T : Nat → St} {bad : Nat → Bool} {Kb : Nat → (Ex → St → Option R) → Option R} {ee : Ex} {Xe : St}
    (hb : ∀ j, j < n → ∀ K0 K1, evLB body nrm (T j) K0 K1 = bif bad j then Kb j K1 else K0 (T (j + 1)))
    (he : ∀ K0 K1, evLB body nrm (T n) K0 K1 = K1 ee Xe) (k : Ex → St → Option R) {m : Nat} (hm : n < m) : evLoopN body nrm m (T 0) k = bif fndB bad 0 n then Kb (fstB bad 0 n) k else k ee Xe :=
  search_loop hb he k n m 0 (by omega) hm
/-- What a loop that runs through makes of its variables. -/
def foldB {α : Type} (step : Nat → α → α) : Nat → Nat → α → α
  | _, 0, a => a
  | j, d + 1, a => foldB step (j + 1) d (step j a)
theorem foldB_inv {α : Type} {step : Nat → α → α} {inv : Nat → α → Prop} {n : Nat} (hi : ∀ j a, j < n → inv j a → inv (j + 1) (step j a)) : ∀ d j a, j + d = n → inv j a → inv n (foldB step j d a)
  | 0, j, a, hj, h => by
    have : j = n := by omega
    subst this; exact h
  | d + 1, j, a, hj, h => foldB_inv hi d (j + 1) _ (by omega) (hi j a (by omega) h)
theorem fold_loop {α : Type} {n : Nat} {T : Nat → α → St} {inv : Nat → α → Prop} {step : Nat → α → α} {ee : Ex} {Xe : α → St}
    (hi : ∀ j a, j < n → inv j a → inv (j + 1) (step j a))
    (hb : ∀ j a, j < n → inv j a → ∀ K0 K1, evLB body nrm (T j a) K0 K1 = K0 (T (j + 1) (step j a)))
    (he : ∀ a, inv n a → ∀ K0 K1, evLB body nrm (T n a) K0 K1 = K1 ee (Xe a)) (k : Ex → St → Option R) : ∀ d m j a, j + d = n → inv j a → d < m → evLoopN body nrm m (T j a) k = k ee (Xe (foldB step j d a)) := by
  intro d
  induction d with
  | zero =>
    intro m j a hj ha hm
    obtain ⟨m, rfl⟩ : ∃ m', m = m' + 1 := ⟨m - 1, by omega⟩
    have : j = n := by omega
    subst this
    rw [evLoopN_succ, he a ha]
    rfl
  | succ d ih =>
    intro m j a hj ha hm
    obtain ⟨m, rfl⟩ : ∃ m', m = m' + 1 := ⟨m - 1, by omega⟩
    rw [evLoopN_succ, hb j a (by omega) ha]
    exact ih m (j + 1) _ (by omega) (hi j a (by omega) ha) (by omega)
end
/-- One function taken over. -/
def only {R : Type} (f : Nat) (g : List CV → List Blk → (CV → List Blk → Option R) → Option R) : Nat → Option (List CV → List Blk → (CV → List Blk → Option R) → Option R) := fun f' => bif f' == f then some g else none
theorem only_ok {R : Type} {f : Nat} {g : List CV → List Blk → (CV → List Blk → Option R) → Option R} {call : Nat → List CV → List Blk → (CV → List Blk → Option R) → Option R} (h : ∀ args hp k r, g args hp k = some r → call f args hp k = some r) : OvrOK (only f g) call := by
  intro f' g' hf args hp k r hg
  unfold only at hf
  cases hff : f' == f
  · rw [hff] at hf; cases hf
  · rw [hff] at hf
    simp only [cond_true, Option.some.injEq] at hf
    subst hf
    rw [beq_iff_eq.1 hff]
    exact h _ _ _ _ hg
theorem foldB_push {α : Type} (xs : List α) (dd : α) : ∀ d j a, j + d = xs.length → foldB (fun j a => a ++ [xs.getD j dd]) j d a = a ++ xs.drop j
  | 0, j, a, h => by
    have : xs.length ≤ j := by omega
    simp [foldB, List.drop_eq_nil_of_le this]
  | d + 1, j, a, h => by
    have hj : j < xs.length := by omega
    rw [foldB, foldB_push xs dd d (j + 1) _ (by omega), List.drop_eq_getElem_cons hj, List.append_assoc]
    simp [List.getD, hj]
theorem foldB_copy {α : Type} (xs : List α) (dd : α) : foldB (fun j a => a ++ [xs.getD j dd]) 0 xs.length [] = xs := by
  rw [foldB_push xs dd _ _ _ (by omega)]; simp
theorem room_ok {n b : Nat} (h : n * b ≤ 140737488355328) (h2 : n ≤ 140737488355328) : room n b = true := by simp [room, h, h2]
/-- Two rows of the same length are equal if no place tells them apart. -/
theorem fndB_ne (xs ys : List Int) (d : Int) (h : xs.length = ys.length) : fndB (fun j => xs.getD j d != ys.getD j d) 0 xs.length = !(xs == ys) := by
  cases hb : fndB (fun j => xs.getD j d != ys.getD j d) 0 xs.length
  · have : xs = ys := by
      refine List.ext_getElem h fun i h1 h2 => ?_
      have hn := mt (fndB_iff (p := fun j => xs.getD j d != ys.getD j d) (d := xs.length) (j := 0)).2 (by rw [hb]; simp)
      have := not_exists.1 hn i
      simp only [bne_iff_ne, ne_eq, not_and, Decidable.not_not, Nat.zero_le, Nat.zero_add, true_implies] at this
      have := this h1
      simpa [List.getD, h1, h2] using this
    simp [this]
  · obtain ⟨i, _, h2, h3⟩ := fndB_iff.1 hb
    symm
    rw [Bool.not_eq_true', beq_eq_false_iff_ne]
    rintro rfl
    simp at h3
theorem evLoopN_L {R : Type} {summ : Nat → Option Summ} {fu : Nat} {fns : Nat → Option IFn} {n : Nat} {b : IC} {t : LT R} {o : Nat → Option (List CV → List Blk → (CV → List Blk → Option R) → Option R)} (ho : OvrOK o (evFn summ fns fu n)) (ht : LTok summ fu (evFn summ fns fu n) t b) {nrm : St → St} :
    ∀ m T k r, evLoopN (evCodeL summ fu (ovr o (evFn summ fns fu n)) t b) nrm m T k = some r → evLoopN (evCode summ fu (evFn summ fns fu n) b) nrm m T k = some r
  | 0, _, _, _, h => by cases h
  | m + 1, T, k, r, h => by
    rw [evLoopN] at h ⊢
    refine evCodeL_sound (ovr_le (evFn_mono summ fu fns n) ho) (evFn_mono summ fu fns n) t b T _ _ r ht (fun e S r' h' => ?_) h
    cases e with
    | normal => exact evLoopN_L ho ht m _ k r' h'
    | _ => exact h'
theorem foldB_const {α : Type} (v : α) : ∀ d j a, foldB (fun _ a => a ++ [v]) j d a = a ++ List.replicate d v
  | 0, _, a => by simp [foldB]
  | d + 1, j, a => by rw [foldB, foldB_const v d, List.append_assoc, List.replicate_succ]; rfl
/-! States by their live slots. -/
def CV.isJunk : CV → Bool | .junk => true | _ => false
def fill (n : Nat) (asg : List (Nat × CV)) : List CV := (List.range n).map fun i => (asg.lookup i).getD .junk
def shapeOK (T : St) (n : Nat) (live : List Nat) (fb : Nat) : Bool := T.sl.length == n && (T.fb == fb && (List.range n).all fun i => live.contains i || (T.sl.getD i .junk).isJunk)
def allAt (sl : List CV) : List (Nat × CV) → Prop
  | [] => True
  | p :: r => sl.getD p.1 .junk = p.2 ∧ allAt sl r
theorem allAt_mem {sl : List CV} : ∀ {asg : List (Nat × CV)} {i : Nat} {c : CV}, allAt sl asg → asg.lookup i = some c → sl.getD i .junk = c
  | [], _, _, _, h => by simp at h
  | p :: r, i, c, ⟨h1, h2⟩, h => by
    rw [List.lookup_cons] at h
    split at h
    · rename_i he
      simp at h; subst h
      rw [beq_iff_eq.1 he]; exact h1
    · exact allAt_mem h2 h
theorem lookup_none {asg : List (Nat × CV)} {i : Nat} (h : asg.lookup i = none) : (asg.map (·.1)).contains i = false := by
  induction asg with
  | nil => rfl
  | cons p r ih =>
    rw [List.lookup_cons] at h
    split at h
    · cases h
    · rename_i he
      rw [List.map_cons, List.contains_cons, ih h, he]; rfl
theorem st_of {T : St} {n fb : Nat} {asg : List (Nat × CV)} {hp : List Blk} (hs : shapeOK T n (asg.map (·.1)) fb = true) (ha : allAt T.sl asg) (hh : T.hp = hp) : T = ⟨fill n asg, hp, fb⟩ := by
  unfold shapeOK at hs
  simp only [Bool.and_eq_true, beq_iff_eq] at hs
  obtain ⟨h1, h2, h3⟩ := hs
  obtain ⟨sl, hp', fb'⟩ := T
  simp only at h1 h2 h3 ha hh
  subst h2 hh
  congr 1
  refine List.ext_getElem (by simp [fill, h1]) fun i hi hi2 => ?_
  have hin : i < n := by omega
  have hg : sl.getD i .junk = sl[i] := by simp [List.getD, hi]
  simp only [fill, List.getElem_map, List.getElem_range]
  cases hl : asg.lookup i with
  | some c => rw [← hg, allAt_mem ha hl]; rfl
  | none =>
    have := List.all_eq_true.1 h3 i (by simpa using hin)
    rw [lookup_none hl, Bool.false_or, hg] at this
    cases hc : sl[i] <;> rw [hc] at this <;> first | rfl | cases this
end Go.Ev
namespace Go.Ev
open Go Go.RowKit Go.ChangeShapes Go.WideShapes Go.ChangeAt
/-! How a law's arguments read: pure data of its types. -/
/-- The cells cs read as a value of type t. -/
def Rd (P : Program) (W : World) (t : TypeId) (cs : List Value) : Prop :=
  ∃ (H : Type) (enc : TypeId × Value → H) (spare : Nat → Bool) (held : Bool) (fuel : Nat) (x : DataW H × List MemPlace), DataW.trod enc P W 0 spare held fuel t cs = some x
section
variable {P : Program} {W : World} {t : TypeId} {cs : List Value}
theorem Rd.of {H : Type} {enc : TypeId × Value → H} {spare : Nat → Bool} {held : Bool} {v : Value} {d : DataW H} {p : List MemPlace} (h : DataW.Trod enc P W 0 spare held t v d p) : Rd P W t v.cells.toList := by
  obtain ⟨fuel, hf⟩ := h
  exact ⟨H, enc, spare, held, fuel, _, hf⟩
theorem Rd.bool (ht : P.underlying t = some .bool) (h : Rd P W t cs) : ∃ b, cs = [.bool b] := by
  obtain ⟨_, _, _, _, _, _, hf⟩ := h
  obtain ⟨b, e, _⟩ := DataW.trod_bool ht hf
  exact ⟨b, e⟩
theorem Rd.int {k : IntKind} (ht : P.underlying t = some (.int k)) (h : Rd P W t cs) : ∃ n, cs = [.int k n] ∧ (Lit.int k n).wf = true := by
  obtain ⟨_, _, _, _, _, _, hf⟩ := h
  obtain ⟨n, e, _, w⟩ := DataW.trod_int ht hf
  exact ⟨n, e, w⟩
theorem Rd.struct {fs : Array Field} (ht : P.underlying t = some (.struct fs)) (h : Rd P W t cs) :
    cs.length = P.cellsOf t ∧ ∀ (i : Nat) (f : Field), fs[i]? = some f → Rd P W f.type ((cs.drop f.offset).take (P.cellsOf f.type)) := by
  obtain ⟨_, _, _, _, _, _, hf⟩ := h
  obtain ⟨xs, n, _, _, hl, hxl, hi⟩ := DataW.trod_struct ht hf
  refine ⟨hl, fun i f hfi => ?_⟩
  have hlt : i < fs.size := (Array.getElem?_eq_some_iff.1 hfi).1
  have h2 := hi i f hfi
  rw [List.getElem?_eq_getElem (by omega)] at h2
  exact ⟨_, _, _, _, _, _, h2⟩
theorem Rd.array {n : Nat} {e : TypeId} (ht : P.underlying t = some (.array n e)) (h : Rd P W t cs) :
    cs.length = P.cellsOf t ∧ ∀ i, i < n → Rd P W e ((cs.drop (i * P.cellsOf e)).take (P.cellsOf e)) := by
  obtain ⟨_, _, _, _, _, _, hf⟩ := h
  obtain ⟨xs, n', _, _, hl, hxl, hi⟩ := DataW.trod_array ht hf
  refine ⟨hl, fun i hin => ?_⟩
  have h2 := hi i hin
  rw [List.getElem?_eq_getElem (by omega)] at h2
  exact ⟨_, _, _, _, _, _, h2⟩
theorem Rd.slice {e : TypeId} (ht : P.underlying t = some (.slice e)) (h : Rd P W t cs) :
    cs = [.slice none 0 0] ∨ ∃ (a : Addr) (len cap : Nat), cs = [.slice (some a) len cap] ∧ len ≤ cap ∧ cap ≤ maxLen ∧
      ∀ i, i < len → ∃ cs', W.cells? 0 (a.add (i * P.cellsOf e)) (P.cellsOf e) = some cs' ∧ Rd P W e cs' := by
  obtain ⟨_, _, _, _, _, _, hf⟩ := h
  rcases DataW.trod_slice ht hf with ⟨h0, _⟩ | ⟨a, len, cap, elems, rest, n, _, rfl, rfl, _, hl, hm, hlen, hel, _⟩
  · exact .inl h0
  · refine .inr ⟨a, len, cap, rfl, hl, hm, fun i hi => ?_⟩
    have h2 := hel i hi
    rw [List.getElem?_eq_getElem (by omega)] at h2
    obtain ⟨cs', h3, h4⟩ := Option.bind_eq_some_iff.1 h2
    exact ⟨cs', h3, _, _, _, _, _, _, h4⟩
end
theorem mapM_get {α β : Type} {f : α → Option β} : ∀ {l : List α} {ys : List β}, l.mapM f = some ys → ys.length = l.length ∧ ∀ i, i < l.length → (l[i]?).bind f = ys[i]?
  | [], ys, h => by
    simp at h; subst h; simp
  | x :: l, ys, h => by
    simp only [List.mapM_cons, Option.bind_eq_bind, Option.bind_eq_some_iff, Option.pure_def, Option.some.injEq] at h
    obtain ⟨y, hy, zs, hz, rfl⟩ := h
    obtain ⟨h1, h2⟩ := mapM_get hz
    refine ⟨by simp [h1], fun i hi => ?_⟩
    cases i with
    | zero => simpa using hy
    | succ i => simpa using h2 i (by simpa using hi)
theorem cells_get {w : World} {a : Addr} {n : Nat} {cs : List Value} (h : w.cells? 0 a n = some cs) : cs.length = n ∧ ∀ i, i < n → w.cell? (a.add i) = cs[i]? := by
  unfold World.cells? at h
  rw [if_pos (Nat.zero_le _)] at h
  obtain ⟨h1, h2⟩ := mapM_get h
  refine ⟨by simpa using h1, fun i hi => ?_⟩
  have := h2 i (by simpa using hi)
  rw [List.getElem?_range hi] at this
  exact this
/-- Well formed: each number is one of its kind. -/
def wfD : (t : Ty) → t.den → Prop
  | .int k, x => (Lit.int k x).wf = true
  | .bool, _ => True
  | .unit, _ => True
  | .pair a b, x => wfD a x.1 ∧ wfD b x.2
  | .slice e, x => ∀ y ∈ (show List e.den from x), wfD e y
  | .arr _ e, x => ∀ y ∈ (show List e.den from x), wfD e y
def layFs (P : Program) (f : TypeId → Bool) : Nat → List Field → Option Nat
  | o, [] => some o
  | o, x :: xs => if x.offset == o && f x.type then layFs P f (o + P.cellsOf x.type) xs else none
/-- The cells of a type lie as its parts say. -/
def layOK (P : Program) : Nat → TypeId → Bool
  | 0, _ => false
  | d + 1, t => match P.underlying t with
    | some (.int _) => true
    | some .bool => true
    | some (.slice e) => layOK P d e && decide (0 < P.cellsOf e)
    | some (.array n e) => layOK P d e && P.cellsOf t == n * P.cellsOf e
    | some (.struct fs) => layFs P (layOK P d) 0 fs.toList == some (P.cellsOf t)
    | _ => false
theorem wf_is {k : IntKind} {n : Int} (h : (Lit.int k n).wf = true) : k.wrap n = n := by
  cases k <;> simp [Lit.wf, IntKind.wrap, IntKind.min, IntKind.max, IntKind.signed, IntKind.bits] at h ⊢ <;> (try split) <;> omega
section
variable {P : Program} {W : World}
abbrev inW (W : World) : Nat → Prop := fun g => g < W.heap.size
theorem fs_rep {d : Nat} {cs : List Value} (ih : ∀ t u cs, tyOf P d t = some u → layOK P d t = true → Rd P W t cs → ∃ x : u.den, RepD W (inW W) u x cs ∧ wfD u x) : ∀ (l : List Field) (o : Nat) (u : Ty),
    (∀ f ∈ l, Rd P W f.type ((cs.drop f.offset).take (P.cellsOf f.type))) → layFs P (layOK P d) o l = some cs.length → tyFs (tyOf P d) l = some u → ∃ x : u.den, RepD W (inW W) u x (cs.drop o) ∧ wfD u x
  | [], o, u, _, hl, hu => by
    simp [layFs] at hl; simp [tyFs] at hu
    subst hl hu
    exact ⟨(), by simp [RepD], trivial⟩
  | f :: l, o, u, hr, hl, hu => by
    simp only [layFs] at hl
    split at hl
    · rename_i hc
      simp only [Bool.and_eq_true, beq_iff_eq] at hc
      obtain ⟨rfl, hlo⟩ := hc
      simp only [tyFs] at hu
      split at hu
      · rename_i a b ha hb
        simp at hu; subst hu
        obtain ⟨x, hx, wx⟩ := ih _ _ _ ha hlo (hr f (by simp))
        obtain ⟨y, hy, wy⟩ := fs_rep ih l _ _ (fun g hg => hr g (by simp [hg])) hl hb
        refine ⟨(x, y), ⟨(cs.drop f.offset).take (P.cellsOf f.type), cs.drop (f.offset + P.cellsOf f.type), ?_, hx, hy⟩, wx, wy⟩
        rw [← List.drop_drop, List.take_append_drop]
      · cases hu
    · cases hl
theorem rows_rep {u : Ty} {e : TypeId} {n : Nat} {get : Nat → List Value} (h : ∀ i, i < n → ∃ x : u.den, RepD W (inW W) u x (get i) ∧ wfD u x) : ∃ xs : List u.den, xs.length = n ∧ Rows (RepD W (inW W) u) xs ((List.range n).flatMap get) ∧ ∀ y ∈ xs, wfD u y := by
  induction n with
  | zero => exact ⟨[], rfl, by simp [Rows], by simp⟩
  | succ n ih =>
    obtain ⟨xs, h1, h2, h3⟩ := ih (fun i hi => h i (by omega))
    obtain ⟨x, hx, wx⟩ := h n (by omega)
    refine ⟨xs ++ [x], by simp [h1], ?_, ?_⟩
    · rw [List.range_succ, List.flatMap_append]
      exact Rows.app _ _ _ _ h2 ⟨get n, [], by simp, hx, rfl⟩
    · intro y hy
      rcases List.mem_append.1 hy with hy | hy
      · exact h3 y hy
      · simp at hy; subst hy; exact wx
theorem flat_at {n s : Nat} {get : Nat → List Value} (h : ∀ i, i < n → (get i).length = s) : ∀ j, j < n * s → ((List.range n).flatMap get)[j]? = (get (j / s))[j % s]? := by
  induction n with
  | zero => intro j hj; simp at hj
  | succ n ih =>
    intro j hj
    have hlen : ∀ m, m ≤ n → ((List.range m).flatMap get).length = m * s := by
      intro m
      induction m with
      | zero => intro _; simp
      | succ m ihm => intro hm; rw [List.range_succ, List.flatMap_append, List.length_append, ihm (by omega)]; simp [h m (by omega), Nat.add_mul]
    rw [List.range_succ, List.flatMap_append]
    rcases Nat.lt_or_ge j (n * s) with hlt | hge
    · rw [List.getElem?_append_left (by rw [hlen n (Nat.le_refl _)]; exact hlt)]
      exact ih (fun i hi => h i (by omega)) j hlt
    · rw [List.getElem?_append_right (by rw [hlen n (Nat.le_refl _)]; exact hge), hlen n (Nat.le_refl _)]
      have hs : 0 < s := by
        rcases Nat.eq_zero_or_pos s with h0 | h0
        · subst h0; simp at hj
        · exact h0
      have h1 : j / s = n := by
        rw [Nat.div_eq_of_lt_le] <;> simp_all [Nat.add_mul]
      have h2 : j % s = j - n * s := by
        rw [Nat.mod_eq_sub_mul_div, h1, Nat.mul_comm]
      rw [h1, h2]; simp
theorem rd_rep : ∀ (d : Nat) (t : TypeId) (u : Ty) (cs : List Value), tyOf P d t = some u → layOK P d t = true → Rd P W t cs → ∃ x : u.den, RepD W (inW W) u x cs ∧ wfD u x
  | 0, _, _, _, h, _, _ => by cases h
  | d + 1, t, u, cs, h, hl, hr => by
    simp only [tyOf] at h
    simp only [layOK] at hl
    split at h
    · rename_i k hu
      simp at h; subst h
      obtain ⟨n, rfl, hw⟩ := Rd.int hu hr
      exact ⟨n, ⟨rfl, wf_is hw⟩, hw⟩
    · rename_i hu
      simp at h; subst h
      obtain ⟨b, rfl⟩ := Rd.bool hu hr
      exact ⟨b, rfl, trivial⟩
    · rename_i e hu
      simp only [hu, Bool.and_eq_true, decide_eq_true_eq] at hl
      cases he : tyOf P d e with
      | none => rw [he] at h; cases h
      | some u' =>
        rw [he] at h
        simp at h; subst h
        rcases Rd.slice hu hr with rfl | ⟨a, len, cap, rfl, h1, h2, h3⟩
        · exact ⟨[], ⟨none, 0, rfl, by simp, by simp [maxLen], by simp⟩, by intro y hy; simp at hy⟩
        · let get : Nat → List Value := fun i => if hi : i < len then Classical.choose (h3 i hi) else []
          have hg : ∀ i, i < len → W.cells? 0 (a.add (i * P.cellsOf e)) (P.cellsOf e) = some (get i) ∧ Rd P W e (get i) := by
            intro i hi
            simp only [get, hi, dif_pos]
            exact Classical.choose_spec (h3 i hi)
          obtain ⟨xs, g1, g2, g3⟩ := rows_rep (u := u') (e := e) (n := len) (get := get) (fun i hi => rd_rep d e u' _ he hl.1 (hg i hi).2)
          refine ⟨xs, ⟨some a, cap, by rw [g1], by omega, h2, fun h0 => ?_⟩, g3⟩
          have h0 : 0 < len := by omega
          have hgl : ∀ i, i < len → (get i).length = P.cellsOf e := fun i hi => (cells_get (hg i hi).1).1
          have c0 := (cells_get (hg 0 h0).1).2 0 hl.2
          rw [List.getElem?_eq_getElem (by rw [hgl 0 h0]; exact hl.2)] at c0
          have c0 : W.cell? a = some ((get 0)[0]'(by rw [hgl 0 h0]; exact hl.2)) := by simpa [Addr.add] using c0
          have hs : a.spot = none := by
            cases hsp : a.spot with
            | none => rfl
            | some x => simp [World.cell?, hsp] at c0; split at c0 <;> simp at c0
          have hb : a.block < W.heap.size := by
            rcases Nat.lt_or_ge a.block W.heap.size with hlt | hge
            · exact hlt
            · simp [World.cell?, Array.getElem?_eq_none hge] at c0
          obtain ⟨b, o, s⟩ := a
          simp only at hs hb
          subst hs
          have hadd : ∀ o' i, (⟨b, o', none⟩ : Addr).add i = ⟨b, o' + i, none⟩ := by
            intro o' i
            unfold Addr.add; split
            · subst_vars; rfl
            · rfl
          refine ⟨b, o, _, rfl, hb, fun j v hj => ?_, g2⟩
          have hjl : j < len * P.cellsOf e := by
            have := (List.getElem?_eq_some_iff.1 hj).1
            have hlen : ((List.range len).flatMap get).length = len * P.cellsOf e := by
              have h4 := hgl 0 h0
              obtain ⟨x, hx, _⟩ := rd_rep d e u' _ he hl.1 (hg 0 h0).2
              have h5 := RepD.len u' x _ hx
              rw [Rows.len (fun x c => RepD.len (w := W) (I := inW W) u' x c) xs _ g2, g1, show u'.size = P.cellsOf e by omega]
            omega
          rw [flat_at hgl j hjl] at hj
          have hd : j / P.cellsOf e < len := Nat.div_lt_of_lt_mul (by rw [Nat.mul_comm]; exact hjl)
          have := (cells_get (hg _ hd).1).2 (j % P.cellsOf e) (Nat.mod_lt _ hl.2)
          rw [hadd, hadd, hj] at this
          rw [← this]
          congr 2
          have := Nat.div_add_mod j (P.cellsOf e)
          rw [Nat.mul_comm (j / P.cellsOf e)]; omega
    · rename_i n e hu
      simp only [hu, Bool.and_eq_true, beq_iff_eq] at hl
      cases he : tyOf P d e with
      | none => rw [he] at h; cases h
      | some u' =>
        rw [he] at h
        simp at h; subst h
        obtain ⟨h1, h2⟩ := Rd.array hu hr
        obtain ⟨xs, g1, g2, g3⟩ := rows_rep (u := u') (e := e) (n := n) (get := fun i => (cs.drop (i * P.cellsOf e)).take (P.cellsOf e)) (fun i hi => rd_rep d e u' _ he hl.1 (h2 i hi))
        refine ⟨xs, ⟨g1, ?_⟩, g3⟩
        have hcs : (List.range n).flatMap (fun i => (cs.drop (i * P.cellsOf e)).take (P.cellsOf e)) = cs := by
          have key : ∀ m, m ≤ n → (List.range m).flatMap (fun i => (cs.drop (i * P.cellsOf e)).take (P.cellsOf e)) = cs.take (m * P.cellsOf e) := by
            intro m
            induction m with
            | zero => intro _; simp
            | succ m ih =>
              intro hm
              rw [List.range_succ, List.flatMap_append, ih (by omega), Nat.add_mul, Nat.one_mul, List.take_add]
              simp
          rw [key n (Nat.le_refl _), List.take_of_length_le (by omega)]
        rw [hcs] at g2
        exact g2
    · rename_i fs hu
      simp only [hu, beq_iff_eq] at hl
      obtain ⟨h1, h2⟩ := Rd.struct hu hr
      have := fs_rep (P := P) (W := W) (d := d) (cs := cs) (fun t u cs => rd_rep d t u cs) fs.toList 0 u (fun f hf => by
        obtain ⟨i, hi, rfl⟩ := List.mem_iff_getElem.1 hf
        exact h2 i _ (by simp at hi; simp [hi])) (by rw [h1]; exact hl) h
      simpa using this
    · cases h
theorem arg_rep {H : Type} {enc : TypeId × Value → H} {spare : Nat → Bool} {held : Bool} {base : Nat} {t : TypeId} {u : Ty} {v : Value} {dd : DataW H} {p : List MemPlace} {d : Nat} (ht : tyOf P (d + 1) t = some u) (hl : layOK P (d + 1) t = true) (hok : Value.okWide P W .any base t v) (h : DataW.Trod enc P W 0 spare held t v dd p) :
    ∃ x : u.den, VRep (pureE W (inW W)) (ofP u x) v ∧ wfD u x := by
  obtain ⟨x, hx, wx⟩ := rd_rep (d + 1) t u _ ht hl (Rd.of h)
  refine ⟨x, VRep1.up ⟨v.cells.toList, CRep_ofP (E := pureE W (inW W)) hx, ?_⟩ (isVal_tup (isVal_ofP u x)), wx⟩
  rw [isAgg_ofP]
  simp only [tyOf] at ht
  split at ht
  · rename_i k hu
    simp at ht; subst ht
    obtain ⟨n, rfl⟩ := okWide_int hu hok
    simp [Ty.agg, Value.cells]
  · rename_i hu
    simp at ht; subst ht
    obtain ⟨n, rfl⟩ := okWide_bool hu hok
    simp [Ty.agg, Value.cells]
  · rename_i e hu
    cases he : tyOf P d e with
    | none => rw [he] at ht; cases ht
    | some u' =>
      rw [he] at ht; simp at ht; subst ht
      obtain ⟨a, n, c, rfl⟩ := okWide_slice hu hok
      simp [Ty.agg, Value.cells]
  · rename_i n e hu
    cases he : tyOf P d e with
    | none => rw [he] at ht; cases ht
    | some u' =>
      rw [he] at ht; simp at ht; subst ht
      simp only [Value.okWide, hu] at hok
      obtain ⟨cs, rfl, _⟩ := hok
      simp [Ty.agg, Value.cells]
  · rename_i fs hu
    have hag : u.agg = true := by
      generalize fs.toList = l at ht
      cases l with
      | nil => simp [tyFs] at ht; subst ht; rfl
      | cons f l =>
        simp only [tyFs] at ht
        split at ht
        · simp at ht; subst ht; rfl
        · cases ht
    obtain ⟨cs, rfl, _⟩ := okWide_struct hu hok
    simp [hag, Value.cells]
  · cases ht
end
end Go.Ev
