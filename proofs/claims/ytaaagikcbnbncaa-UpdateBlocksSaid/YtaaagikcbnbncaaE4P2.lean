/- Part of a typed evaluator of the program's functions, proved sound. No condition. -/
import Derived.Test.YtaaagikcbnbncaaE4P1
import Derived.IntWalk
import Derived.Shelf.SlicesE.Clone
import Derived.Shelf.Spec.SlicesGrow
set_option maxRecDepth 10000
set_option linter.unusedVariables false
set_option linter.unusedSimpArgs false
namespace Go.Ev
open Go
/-! Loops taken over by oracles. -/
section
variable {R : Type}
/-- The rest of a loop at a state that is in normal form. -/
def evLoopN (body : St → (Ex → St → Option R) → Option R) (nrm : St → St) : Nat → St → (Ex → St → Option R) → Option R
 | 0, _, _ => none
 | m + 1, T, k => body T fun ex S' => match ex with
   | .normal => evLoopN body nrm m (nrm S') k
   | e => k e S'
theorem evLoop_eq (body : St → (Ex → St → Option R) → Option R) (nrm : St → St) : ∀ m S k, evLoop body nrm m S k = evLoopN body nrm m (nrm S) k
 | 0, _, _ => rfl
 | m + 1, S, k => by
   simp only [evLoop, evLoopN]
   congr 1
   funext ex S'
   cases ex with
   | normal => exact evLoop_eq body nrm m S' k
   | _ => rfl
inductive LT (R : Type) where
 | nil
 | node (a b : LT R)
 | orc (o : St → (Ex → St → Option R) → Option R)
variable (summ : Nat → Option Summ) (fu : Nat) (call : Nat → List CV → List Blk → (CV → List Blk → Option R) → Option R)
def evCodeL : LT R → IC → St → (Ex → St → Option R) → Option R
 | .nil, c, S, k => evCode summ fu call c S k
 | .node x y, .seq a b, S, k => evCodeL x a S fun ex S' => match ex with | .normal => evCodeL y b S' k | e => k e S'
 | .node x y, .cond c a b, S, k => match c with
   | .tmp t => match S.sl.getD t .junk with
     | .bool v => bif v then evCodeL x a (S.put (some t) (.bool true)) k else evCodeL y b (S.put (some t) (.bool false)) k
     | _ => none
   | .cst (.bool v) => bif v then evCodeL x a S k else evCodeL y b S k
   | _ => none
 | .node x _, .block id b, S, k => evCodeL x b S fun ex S' => match ex with
   | .exit j => if j = id then k .normal S' else k (.exit j) S'
   | e => k e S'
 | .orc o, .loop live _, S, k => o (St.norm live S) k
 | .orc o, .cut live _, S, k => o (St.norm live S) k
 | .node x _, .cut live b, S, k => evCodeL x b (St.norm live S) k
 | _, _, _, _ => none
/-- The oracles tell the truth. -/
def LTok : LT R → IC → Prop
 | .nil, _ => True
 | .node x y, .seq a b => LTok x a ∧ LTok y b
 | .node x y, .cond _ a b => LTok x a ∧ LTok y b
 | .node x _, .block _ b => LTok x b
 | .orc o, .loop live b => ∀ T k r, o T k = some r → evLoopN (evCode summ fu call b) (St.norm live) fu T k = some r
 | .orc o, .cut _ b => ∀ T k r, o T k = some r → evCode summ fu call b T k = some r
 | .node x _, .cut _ b => LTok x b
 | _, _ => True
/-- Monotone in what comes after. -/
def Kle (k k' : Ex → St → Option R) : Prop := ∀ e S r, k e S = some r → k' e S = some r
def CallLe (call call2 : Nat → List CV → List Blk → (CV → List Blk → Option R) → Option R) : Prop := ∀ f cs hp (k k' : CV → List Blk → Option R) r, (∀ v h r, k v h = some r → k' v h = some r) → call f cs hp k = some r → call2 f cs hp k' = some r
theorem gd_mono {c : Bool} {x y : Option R} {r : R} (h : x = some r → y = some r) (hx : gd c x = some r) : gd c y = some r := by
 cases c
 · cases hx
 · exact h hx
variable {summ fu call} {call2 : Nat → List CV → List Blk → (CV → List Blk → Option R) → Option R}
theorem evOps_monoF (hc : CallLe call call2) (base : Nat) : ∀ (os : List IOper) (i : Nat) (log : List LogE) (S : St) (k k' : St → Option R) (r : R), (∀ S r, k S = some r → k' S = some r) → evOps summ call false base i os log S k = some r → evOps summ call2 false base i os log S k' = some r := by
 intro os
 induction os with
 | nil =>
   intro i log S k k' r hk h
   unfold evOps at h ⊢
   exact hk _ _ h
 | cons o os ih =>
   intro i log S k k' r hk h
   have hrun : ∀ S : St, (match o.op with
     | .call f => call f (o.args.map S.eval) S.hp fun v hp => evOps summ call false base (i + 1) os log ({ S with hp := hp }.put o.dst v) k
     | .callv => match o.args.map S.eval with
       | .clo f c :: vs => if capsOK c = true then call f (vs ++ unchain c) S.hp fun v hp => evOps summ call false base (i + 1) os log ({ S with hp := hp }.put o.dst v) k else none
       | _ => none
     | op => match o.args.map S.eval with
       | vals => match S.hp.length with
         | nid => match act summ op vals S.look nid with
           | none => none
           | some out => gd out.ok (evOps summ call false base (i + 1) os log (S.apply o.dst out) k)) = some r →
     (match o.op with
     | .call f => call2 f (o.args.map S.eval) S.hp fun v hp => evOps summ call2 false base (i + 1) os log ({ S with hp := hp }.put o.dst v) k'
     | .callv => match o.args.map S.eval with
       | .clo f c :: vs => if capsOK c = true then call2 f (vs ++ unchain c) S.hp fun v hp => evOps summ call2 false base (i + 1) os log ({ S with hp := hp }.put o.dst v) k' else none
       | _ => none
     | op => match o.args.map S.eval with
       | vals => match S.hp.length with
         | nid => match act summ op vals S.look nid with
           | none => none
           | some out => gd out.ok (evOps summ call2 false base (i + 1) os log (S.apply o.dst out) k')) = some r := by
     intro S h
     split at h
     · exact hc _ _ _ _ _ _ (fun v hp r => ih _ _ _ _ _ _ hk) h
     · split at h
       · rename_i hv
         split at h
         · rename_i hcap; simp only [hcap, if_true]; exact hc _ _ _ _ _ _ (fun v hp r => ih _ _ _ _ _ _ hk) h
         · cases h
       · cases h
     · dsimp only at h ⊢
       split at h
       · cases h
       · rename_i out hout
         exact gd_mono (ih _ _ _ _ _ _ hk) h
   unfold evOps at h ⊢
   cases hg : o.guard with
   | none => rw [hg] at h; exact hrun _ h
   | some g =>
     obtain ⟨d, want⟩ := g
     rw [hg] at h
     simp only [] at h ⊢
     split at h
     · rename_i b hb
       cases b <;> cases want
       · exact hrun _ h
       · exact ih _ _ _ _ _ _ hk h
       · exact ih _ _ _ _ _ _ hk h
       · exact hrun _ h
     · exact ih _ _ _ _ _ _ hk h
     · cases h
theorem evOps_monoT (hc : CallLe call call2) (base : Nat) : ∀ (os : List IOper) (i : Nat) (log : List LogE) (S : St) (k k' : St → Option R) (r : R), (∀ S r, k S = some r → k' S = some r) → evOps summ call true base i os log S k = some r → evOps summ call2 true base i os log S k' = some r := by
 intro os
 induction os with
 | nil =>
   intro i log S k k' r hk h
   unfold evOps at h ⊢
   exact gd_mono (hk _ _) h
 | cons o os ih =>
   intro i log S k k' r hk h
   have hrun : ∀ S : St, (match o.args.map S.eval with
       | vals => match base + o.rank with
         | nid => match act summ o.op vals S.look nid with
           | none => none
           | some out => gd (drawChk S o.op nid out) (gd out.ok (evOps summ call true base (i + 1) os (log ++ [logOf i o o.op vals nid out]) (S.apply o.dst out) k))) = some r →
     (match o.args.map S.eval with
       | vals => match base + o.rank with
         | nid => match act summ o.op vals S.look nid with
           | none => none
           | some out => gd (drawChk S o.op nid out) (gd out.ok (evOps summ call2 true base (i + 1) os (log ++ [logOf i o o.op vals nid out]) (S.apply o.dst out) k'))) = some r := by
     intro S h
     dsimp only at h ⊢
     split at h
     · cases h
     · rename_i out hout
       exact gd_mono (gd_mono (ih _ _ _ _ _ _ hk)) h
   unfold evOps at h ⊢
   cases hg : o.guard with
   | none => rw [hg] at h; exact hrun _ h
   | some g =>
     obtain ⟨d, want⟩ := g
     rw [hg] at h
     simp only [] at h ⊢
     split at h
     · rename_i b hb
       cases b <;> cases want
       · exact hrun _ h
       · exact ih _ _ _ _ _ _ hk h
       · exact ih _ _ _ _ _ _ hk h
       · exact hrun _ h
     · exact ih _ _ _ _ _ _ hk h
     · cases h
theorem evLoop_mono {body body2 : St → (Ex → St → Option R) → Option R} {nrm : St → St} (hb : ∀ S k k' r, Kle k k' → body S k = some r → body2 S k' = some r) : ∀ m S k k' r, Kle k k' → evLoop body nrm m S k = some r → evLoop body2 nrm m S k' = some r
 | 0, _, _, _, _, _, h => by cases h
 | m + 1, S, k, k', r, hk, h => by
   refine hb _ _ _ _ (fun e S' r' h' => ?_) h
   cases e with
   | normal => exact evLoop_mono hb m _ _ _ _ hk h'
   | _ => exact hk _ _ _ h'
theorem evCode_mono (hc : CallLe call call2) : ∀ (c : IC) (S : St) (k k' : Ex → St → Option R) (r : R), Kle k k' → evCode summ fu call c S k = some r → evCode summ fu call2 c S k' = some r
 | .skip, _, _, _, _, hk, h => hk _ _ _ h
 | .region draw _ ops, S, _, _, _, hk, h => by
   unfold evCode at h ⊢
   cases draw
   · exact evOps_monoF hc _ _ _ _ _ _ _ _ (fun S r => hk .normal S r) h
   · exact gd_mono (evOps_monoT hc _ _ _ _ _ _ _ _ (fun S r => hk .normal S r)) h
 | .seq a b, S, _, _, _, hk, h => by
   unfold evCode at h ⊢
   refine evCode_mono hc a _ _ _ _ (fun e S' r' h' => ?_) h
   cases e with
   | normal => exact evCode_mono hc b _ _ _ _ hk h'
   | _ => exact hk _ _ _ h'
 | .cond c a b, S, _, _, _, hk, h => by
   unfold evCode at h ⊢
   split at h
   · split at h
     · rename_i x hx
       cases x
       · exact evCode_mono hc b _ _ _ _ hk h
       · exact evCode_mono hc a _ _ _ _ hk h
     · cases h
   · rename_i x
     cases x
     · exact evCode_mono hc b _ _ _ _ hk h
     · exact evCode_mono hc a _ _ _ _ hk h
   · cases h
 | .block id b, S, _, _, _, hk, h => by
   unfold evCode at h ⊢
   refine evCode_mono hc b _ _ _ _ (fun e S' r' h' => ?_) h
   cases e with
   | exit j =>
     simp only [] at h' ⊢
     split at h'
     · rename_i hj; simp only [hj, if_true]; exact hk _ _ _ h'
     · rename_i hj; simp only [hj, if_false]; exact hk _ _ _ h'
   | _ => exact hk _ _ _ h'
 | .loop live b, S, _, _, _, hk, h => by
   unfold evCode at h ⊢
   exact evLoop_mono (fun S k k' r => evCode_mono hc b S k k' r) _ _ _ _ _ hk h
 | .cut live b, S, _, _, _, hk, h => by
   unfold evCode at h ⊢
   exact evCode_mono hc b _ _ _ _ hk h
 | .exit _, _, _, _, _, hk, h => hk _ _ _ h
 | .ret, _, _, _, _, hk, h => hk _ _ _ h
theorem evCodeL_sound (hc : CallLe call call2) (hc2 : CallLe call2 call2) : ∀ (t : LT R) (c : IC) (S : St) (k k' : Ex → St → Option R) (r : R), LTok summ fu call2 t c → Kle k k' → evCodeL summ fu call t c S k = some r → evCode summ fu call2 c S k' = some r
 | .nil, c, S, k, k', r, _, hk, h => evCode_mono hc c S k k' r hk (by unfold evCodeL at h; exact h)
 | .node x y, .seq a b, S, k, k', r, ht, hk, h => by
   unfold evCodeL at h; unfold evCode
   refine evCodeL_sound hc hc2 x a _ _ _ _ ht.1 (fun e S' r' h' => ?_) h
   cases e with
   | normal => exact evCodeL_sound hc hc2 y b _ _ _ _ ht.2 hk h'
   | _ => exact hk _ _ _ h'
 | .node x y, .cond c a b, S, k, k', r, ht, hk, h => by
   unfold evCodeL at h; unfold evCode
   split at h
   · split at h
     · rename_i v hx
       simp only [hx]
       cases v
       · exact evCodeL_sound hc hc2 y b _ _ _ _ ht.2 hk h
       · exact evCodeL_sound hc hc2 x a _ _ _ _ ht.1 hk h
     · cases h
   · rename_i v
     cases v
     · exact evCodeL_sound hc hc2 y b _ _ _ _ ht.2 hk h
     · exact evCodeL_sound hc hc2 x a _ _ _ _ ht.1 hk h
   · cases h
 | .node x _, .block id b, S, k, k', r, ht, hk, h => by
   unfold evCodeL at h; unfold evCode
   refine evCodeL_sound hc hc2 x b _ _ _ _ ht (fun e S' r' h' => ?_) h
   cases e with
   | exit j =>
     simp only [] at h' ⊢
     split at h'
     · rename_i hj; simp only [hj, if_true]; exact hk _ _ _ h'
     · rename_i hj; simp only [hj, if_false]; exact hk _ _ _ h'
   | _ => exact hk _ _ _ h'
 | .orc o, .loop live b, S, k, k', r, ht, hk, h => by
   unfold evCodeL at h; unfold evCode
   have := ht _ _ _ h
   rw [← evLoop_eq] at this
   exact evLoop_mono (fun S k k' r => evCode_mono hc2 b S k k' r) _ _ _ _ _ hk this
 | .orc o, .cut live b, S, k, k', r, ht, hk, h => by
   unfold evCodeL at h; unfold evCode
   exact evCode_mono hc2 b _ _ _ _ hk (ht _ _ _ h)
 | .node x _, .cut live b, S, k, k', r, ht, hk, h => by
   unfold evCodeL at h; unfold evCode
   exact evCodeL_sound hc hc2 x b _ _ _ _ ht hk h
 | .node _ _, .skip, _, _, _, _, _, _, h => by unfold evCodeL at h; cases h
 | .node _ _, .region _ _ _, _, _, _, _, _, _, h => by unfold evCodeL at h; cases h
 | .node _ _, .loop _ _, _, _, _, _, _, _, h => by unfold evCodeL at h; cases h
 | .node _ _, .exit _, _, _, _, _, _, _, h => by unfold evCodeL at h; cases h
 | .node _ _, .ret, _, _, _, _, _, _, h => by unfold evCodeL at h; cases h
 | .orc _, .skip, _, _, _, _, _, _, h => by unfold evCodeL at h; cases h
 | .orc _, .region _ _ _, _, _, _, _, _, _, h => by unfold evCodeL at h; cases h
 | .orc _, .seq _ _, _, _, _, _, _, _, h => by unfold evCodeL at h; cases h
 | .orc _, .cond _ _ _, _, _, _, _, _, _, h => by unfold evCodeL at h; cases h
 | .orc _, .block _ _, _, _, _, _, _, _, h => by unfold evCodeL at h; cases h
 | .orc _, .exit _, _, _, _, _, _, _, h => by unfold evCodeL at h; cases h
 | .orc _, .ret, _, _, _, _, _, _, h => by unfold evCodeL at h; cases h
variable (summ fu) in
theorem evFn_mono (fns : Nat → Option IFn) : ∀ n, CallLe (evFn (R := R) summ fns fu n) (evFn (R := R) summ fns fu n)
 | 0, _, _, _, _, _, _, _, h => by cases h
 | n + 1, f, cs, hp, k, k', r, hk, h => by
   unfold evFn at h ⊢
   split at h
   · cases h
   · rename_i fn hfn
     simp only [hfn]
     refine evCode_mono (evFn_mono fns n) _ _ _ _ _ (fun e S r' h' => ?_) h
     split at h'
     · cases h'
     · rename_i hne
       split at h'
       · cases h'
       · rename_i l hl
         cases e with
         | exit j => exact absurd rfl (hne j)
         | _ => exact hk _ _ _ h'
/-- A function's run, its loops taken over. -/
def evFnL (summ : Nat → Option Summ) (fu : Nat) (call : Nat → List CV → List Blk → (CV → List Blk → Option R) → Option R) (t : LT R) (fn : IFn) (args : List CV) (hp : List Blk) (k : CV → List Blk → Option R) : Option R :=
 evCodeL summ fu call t fn.body { sl := args ++ List.replicate (fn.ntmps - args.length) .junk, hp := hp, fb := hp.length } fun ex S =>
     match ex with
     | .exit _ => none
     | _ => match resOf S fn.results with
       | none => none
       | some l => match compact S.fb (l.flatMap CV.refs) S.hp with
         | keep => k ((tupOf l).ren S.fb keep) (compHp S.fb keep S.hp)
/-- Calls, some of them taken over. -/
def ovr (o : Nat → Option (List CV → List Blk → (CV → List Blk → Option R) → Option R)) (call : Nat → List CV → List Blk → (CV → List Blk → Option R) → Option R) : Nat → List CV → List Blk → (CV → List Blk → Option R) → Option R := fun f args hp k => match o f with
 | some g => g args hp k
 | none => call f args hp k
def OvrOK (o : Nat → Option (List CV → List Blk → (CV → List Blk → Option R) → Option R)) (call : Nat → List CV → List Blk → (CV → List Blk → Option R) → Option R) : Prop := ∀ f g, o f = some g → ∀ args hp k r, g args hp k = some r → call f args hp k = some r
theorem ovr_le {o : Nat → Option (List CV → List Blk → (CV → List Blk → Option R) → Option R)} (hm : CallLe call call) (ho : OvrOK o call) : CallLe (ovr o call) call := by
 intro f cs hp k k' r hk h
 unfold ovr at h
 split at h
 · rename_i g hg
   exact hm f cs hp k k' r hk (ho f g hg _ _ _ _ h)
 · exact hm f cs hp k k' r hk h
def noO : Nat → Option (List CV → List Blk → (CV → List Blk → Option R) → Option R) := fun _ => none
theorem noO_ok : OvrOK noO call := by intro f g h; cases h
theorem evFnL_sound {fns : Nat → Option IFn} {n f : Nat} {fn : IFn} (hf : fns f = some fn) {t : LT R} {o : Nat → Option (List CV → List Blk → (CV → List Blk → Option R) → Option R)} (ho : OvrOK o (evFn summ fns fu n)) (ht : LTok summ fu (evFn summ fns fu n) t fn.body) {args : List CV} {hp : List Blk} {k : CV → List Blk → Option R} {r : R}
   (h : evFnL summ fu (ovr o (evFn summ fns fu n)) t fn args hp k = some r) : evFn summ fns fu (n + 1) f args hp k = some r := by
 unfold evFn
 simp only [hf]
 exact evCodeL_sound (ovr_le (evFn_mono summ fu fns n) ho) (evFn_mono summ fu fns n) t _ _ _ _ _ ht (fun _ _ _ h => h) h
/-- A loop's body, its inner loops and some calls taken over. -/
theorem bodyL_sound {fns : Nat → Option IFn} {n : Nat} {b : IC} {t : LT R} {o : Nat → Option (List CV → List Blk → (CV → List Blk → Option R) → Option R)} (ho : OvrOK o (evFn summ fns fu n)) (ht : LTok summ fu (evFn summ fns fu n) t b) {T : St} {k : Ex → St → Option R} {r : R}
   (h : evCodeL summ fu (ovr o (evFn summ fns fu n)) t b T k = some r) : evCode summ fu (evFn summ fns fu n) b T k = some r :=
 evCodeL_sound (ovr_le (evFn_mono summ fu fns n) ho) (evFn_mono summ fu fns n) t _ _ _ _ _ ht (fun _ _ _ h => h) h
end
end Go.Ev
namespace Go.Ev
open Go Go.RowKit
/-- A function that answers a bool, at pure arguments. -/
theorem ev_law {P : Program} {f : Nat} {call : Nat → List CV → List Blk → (CV → List Blk → Option Bool) → Option Bool} (hcall : ∀ base, CallOK P base call) {cs : List CV} {b : Bool} (hev : call f cs [] (fun v _ => match v with | .bool b => some b | _ => none) = some b)
   {w : World} {I : Nat → Prop} (himm : ∀ g, I g → g < w.heap.size) {vs : List Value} (hvs : Vs { w := w, I := I, μ := fun _ => 0, σ := fun _ => undef, live := fun _ => False } cs vs) :
   Calls P f vs.toArray w fun e w' => e = .returned (.bool b) ∧ Below w.heap.size w w' := by
 have hf : ∀ b, lookH [] b = .fresh := fun b => by simp [lookH]
 have H : HS w.heap.size { w := w, I := I, μ := fun _ => 0, σ := fun _ => undef, live := fun _ => False } [] := by
   refine ⟨fun b => by rw [hf]; trivial, fun b b' g h => by rw [hf] at h; exact h.elim, fun b g h => by rw [hf] at h; exact h.elim, himm, fun b => ?_, Nat.le_refl _⟩
   show False ↔ _
   simp [hf]
 refine Calls.mono ((hcall _ f cs [] _ _ hev _ vs H hvs).2) ?_
 rintro e w' ⟨v, c, hp1, E1, rfl, hk, rfl, hle1, _, hv, _⟩
 split at hk
 · simp at hk; subst hk
   exact ⟨by rw [VRep_bool.1 hv], hle1.bel⟩
 · cases hk
/-! Functions of pure data: their arguments and results as Lean's own. -/
@[reducible] def HDen : List Ty → Type
 | [] => Unit
 | t :: ts => t.den × HDen ts
def ofH : (ts : List Ty) → HDen ts → List CV
 | [], _ => []
 | t :: ts, x => ofP t x.1 :: ofH ts x.2
def toH : (ts : List Ty) → List CV → Option (HDen ts)
 | [], [] => some ()
 | t :: ts, c :: cs => match toPH noLook t c, toH ts cs with | some x, some l => some (x, l) | _, _ => none
 | _, _ => none
theorem toPH_ofP (look : Look) : ∀ (t : Ty) (x : t.den), toPH look t (ofP t x) = some x := by
 intro t x
 cases t <;> simp [toPH, ofP]
theorem toH_ofH : ∀ (ts : List Ty) (x : HDen ts), toH ts (ofH ts x) = some x
 | [], _ => rfl
 | t :: ts, x => by simp [toH, ofH, toPH_ofP, toH_ofH ts x.2]
theorem purify_ofH {look : Look} : ∀ {ts : List Ty} {cs cs' : List CV}, purify look ts cs = some cs' → ∃ x, cs' = ofH ts x
 | [], [], _, h => ⟨(), by simp [purify] at h; simp [ofH, h]⟩
 | [], _ :: _, _, h => by simp [purify] at h
 | _ :: _, [], _, h => by simp [purify] at h
 | t :: ts, c :: cs, cs', h => by
   simp only [purify] at h
   split at h
   · rename_i x l hx hl
     simp at h; subst h
     obtain ⟨y, rfl⟩ := purify_ofH hl
     exact ⟨(x, y), rfl⟩
   · cases h
/-- A summary: what must hold of the arguments, and what the results are. -/
def fS (ts rs : List Ty) (pre : HDen ts → Bool) (fn : HDen ts → HDen rs) : Summ := pureS ts fun cs => match toH ts cs with
 | some x => some (pre x, ofH rs (fn x))
 | none => none
/-- What a run must give. -/
def Rets (rs : List Ty) (r : Option (CV × List Blk)) (y : HDen rs) : Prop := ∃ l0 hp2, r = some (tupOf l0, hp2) ∧ purify (lookH hp2) rs l0 = some (ofH rs y) ∧ subsOK (lookH hp2) l0 = true
theorem summ_fn {P : Program} {f : Nat} {ts rs : List Ty} {pre : HDen ts → Bool} {fn : HDen ts → HDen rs} {call : Nat → List CV → List Blk → (CV → List Blk → Option (CV × List Blk)) → Option (CV × List Blk)} (hcall : ∀ base, CallOK P base call) (hcb : callable P f = true)
   (h : ∀ x, pre x = true → Rets rs (call f (ofH ts x) [] fun v h => some (v, h)) (fn x)) : SummOK P f (fS ts rs pre fn) := by
 refine summ_of_ev (rs := rs) hcall hcb ?_
 intro look cs cs' l hcs hF
 obtain ⟨x, rfl⟩ := purify_ofH hcs
 rw [toH_ofH] at hF
 simp only [Option.some.injEq, Prod.mk.injEq] at hF
 obtain ⟨hp, rfl⟩ := hF
 exact h x hp
theorem Rets.of {rs : List Ty} {r : Option (CV × List Blk)} {y : HDen rs} {l0 : List CV} {hp2 : List Blk} (h : r = some (tupOf l0, hp2)) (h1 : purify (lookH hp2) rs l0 = some (ofH rs y)) (h2 : subsOK (lookH hp2) l0 = true) : Rets rs r y := ⟨l0, hp2, h, h1, h2⟩
/-- A loop's body: what comes next is either its head again, in normal form, or what comes after. -/
def evLB {R : Type} (body : St → (Ex → St → Option R) → Option R) (nrm : St → St) (T : St) (K0 : St → Option R) (K1 : Ex → St → Option R) : Option R := body T fun ex S => match ex with | .normal => K0 (nrm S) | e => K1 e S
theorem evLoopN_succ {R : Type} (body : St → (Ex → St → Option R) → Option R) (nrm : St → St) (m : Nat) (T : St) (k : Ex → St → Option R) : evLoopN body nrm (m + 1) T k = evLB body nrm T (fun S => evLoopN body nrm m S k) k := by
 rw [evLoopN, evLB]
 all_goals congr 1
theorem gd_some {R : Type} {c : Bool} {x : Option R} {r : R} (h : gd c x = some r) : c = true ∧ x = some r := by
 cases c
 · cases h
 · exact ⟨rfl, h⟩
/-- Something is found below n; where first (from j on, d tries). -/
def fndB (p : Nat → Bool) : Nat → Nat → Bool
 | _, 0 => false
 | j, d + 1 => p j || fndB p (j + 1) d
def fstB (p : Nat → Bool) : Nat → Nat → Nat
 | j, 0 => j
 | j, d + 1 => bif p j then j else fstB p (j + 1) d
section
variable {R : Type} {body : St → (Ex → St → Option R) → Option R} {nrm : St → St}
/-- What a loop that runs through makes of its variables. -/
def foldB {α : Type} (step : Nat → α → α) : Nat → Nat → α → α
 | _, 0, a => a
 | j, d + 1, a => foldB step (j + 1) d (step j a)
end
/-- One function taken over. -/
def only {R : Type} (f : Nat) (g : List CV → List Blk → (CV → List Blk → Option R) → Option R) : Nat → Option (List CV → List Blk → (CV → List Blk → Option R) → Option R) := fun f' => bif f' == f then some g else none
theorem room_ok {n b : Nat} (h : n * b ≤ 140737488355328) (h2 : n ≤ 140737488355328) : room n b = true := by simp [room, h, h2]
theorem evLoopN_L {R : Type} {summ : Nat → Option Summ} {fu : Nat} {fns : Nat → Option IFn} {n : Nat} {b : IC} {t : LT R} {o : Nat → Option (List CV → List Blk → (CV → List Blk → Option R) → Option R)} (ho : OvrOK o (evFn summ fns fu n)) (ht : LTok summ fu (evFn summ fns fu n) t b) {nrm : St → St} :
   ∀ m T k r, evLoopN (evCodeL summ fu (ovr o (evFn summ fns fu n)) t b) nrm m T k = some r → evLoopN (evCode summ fu (evFn summ fns fu n) b) nrm m T k = some r
 | 0, _, _, _, h => by cases h
 | m + 1, T, k, r, h => by
   rw [evLoopN] at h ⊢
   refine evCodeL_sound (ovr_le (evFn_mono summ fu fns n) ho) (evFn_mono summ fu fns n) t b T _ _ r ht (fun e S r' h' => ?_) h
   cases e with
   | normal => exact evLoopN_L ho ht m _ k r' h'
   | _ => exact h'
/-! States by their live slots. -/
def CV.isJunk : CV → Bool | .junk => true | _ => false
def fill (n : Nat) (asg : List (Nat × CV)) : List CV := (List.range n).map fun i => (asg.lookup i).getD .junk
def shapeOK (T : St) (n : Nat) (live : List Nat) (fb : Nat) : Bool := T.sl.length == n && (T.fb == fb && (List.range n).all fun i => live.contains i || (T.sl.getD i .junk).isJunk)
def allAt (sl : List CV) : List (Nat × CV) → Prop
 | [] => True
 | p :: r => sl.getD p.1 .junk = p.2 ∧ allAt sl r
theorem allAt_mem {sl : List CV} : ∀ {asg : List (Nat × CV)} {i : Nat} {c : CV}, allAt sl asg → asg.lookup i = some c → sl.getD i .junk = c
 | [], _, _, _, h => by simp at h
 | p :: r, i, c, ⟨h1, h2⟩, h => by
   rw [List.lookup_cons] at h
   split at h
   · rename_i he
     simp at h; subst h
     rw [beq_iff_eq.1 he]; exact h1
   · exact allAt_mem h2 h
theorem lookup_none {asg : List (Nat × CV)} {i : Nat} (h : asg.lookup i = none) : (asg.map (·.1)).contains i = false := by
 induction asg with
 | nil => rfl
 | cons p r ih =>
   rw [List.lookup_cons] at h
   split at h
   · cases h
   · rename_i he
     rw [List.map_cons, List.contains_cons, ih h, he]; rfl
theorem st_of {T : St} {n fb : Nat} {asg : List (Nat × CV)} {hp : List Blk} (hs : shapeOK T n (asg.map (·.1)) fb = true) (ha : allAt T.sl asg) (hh : T.hp = hp) : T = ⟨fill n asg, hp, fb⟩ := by
 unfold shapeOK at hs
 simp only [Bool.and_eq_true, beq_iff_eq] at hs
 obtain ⟨h1, h2, h3⟩ := hs
 obtain ⟨sl, hp', fb'⟩ := T
 simp only at h1 h2 h3 ha hh
 subst h2 hh
 congr 1
 refine List.ext_getElem (by simp [fill, h1]) fun i hi hi2 => ?_
 have hin : i < n := by omega
 have hg : sl.getD i .junk = sl[i] := by simp [List.getD, hi]
 simp only [fill, List.getElem_map, List.getElem_range]
 cases hl : asg.lookup i with
 | some c => rw [← hg, allAt_mem ha hl]; rfl
 | none =>
   have := List.all_eq_true.1 h3 i (by simpa using hin)
   rw [lookup_none hl, Bool.false_or, hg] at this
   cases hc : sl[i] <;> rw [hc] at this <;> first | rfl | cases this
end Go.Ev
namespace Go.Ev
open Go Go.RowKit
/-! What comes after a run does not matter to it; functions as Lean's own; laws. -/
def FU : Nat := 4611686018427387904
abbrev CallT (R : Type) := Nat → List CV → List Blk → (CV → List Blk → Option R) → Option R
section
variable (summ : Nat → Option Summ) (fu : Nat)
/-- A run that answers for one continuation answers for all. -/
def NatC (c : ∀ R, CallT R) : Prop := ∀ R f cs hp (k : CV → List Blk → Option R) r, c R f cs hp k = some r → ∃ v h, k v h = some r ∧ ∀ R' (k' : CV → List Blk → Option R') r', k' v h = some r' → c R' f cs hp k' = some r'
def NatS (α : Type) (c : ∀ R, (α → Option R) → Option R) : Prop := ∀ R (k : α → Option R) r, c R k = some r → ∃ x, k x = some r ∧ ∀ R' (k' : α → Option R') r', k' x = some r' → c R' k' = some r'
def NatE (c : ∀ R, (Ex → St → Option R) → Option R) : Prop := ∀ R (k : Ex → St → Option R) r, c R k = some r → ∃ e S, k e S = some r ∧ ∀ R' (k' : Ex → St → Option R') r', k' e S = some r' → c R' k' = some r'
variable {summ fu} {c : ∀ R, CallT R}
theorem evOps_natF (hc : NatC c) (base : Nat) : ∀ (os : List IOper) (i : Nat) (log : List LogE) (S : St), NatS St fun R k => evOps summ (c R) false base i os log S k := by
 intro os
 induction os with
 | nil =>
   intro i log S R k r h
   unfold evOps at h
   exact ⟨S, h, fun R' k' r' h' => by unfold evOps; exact h'⟩
 | cons o os ih =>
   intro i log S R k r h
   have hrun : ∀ S : St, NatS St fun R k => (match o.op with
     | .call f => c R f (o.args.map S.eval) S.hp fun v hp => evOps summ (c R) false base (i + 1) os log ({ S with hp := hp }.put o.dst v) k
     | .callv => match o.args.map S.eval with
       | .clo f cc :: vs => if capsOK cc = true then c R f (vs ++ unchain cc) S.hp fun v hp => evOps summ (c R) false base (i + 1) os log ({ S with hp := hp }.put o.dst v) k else none
       | _ => none
     | op => match o.args.map S.eval with
       | vals => match S.hp.length with
         | nid => match act summ op vals S.look nid with
           | none => none
           | some out => gd out.ok (evOps summ (c R) false base (i + 1) os log (S.apply o.dst out) k)) := by
     intro S R k r h
     split at h
     · obtain ⟨v, hp, h1, h2⟩ := hc _ _ _ _ _ _ h
       obtain ⟨x, h3, h4⟩ := ih _ _ _ _ _ _ h1
       exact ⟨x, h3, fun R' k' r' h' => h2 _ _ _ (h4 _ _ _ h')⟩
     · split at h
       · split at h
         · obtain ⟨v, hp, h1, h2⟩ := hc _ _ _ _ _ _ h
           obtain ⟨x, h3, h4⟩ := ih _ _ _ _ _ _ h1
           rename_i hcap
           exact ⟨x, h3, fun R' k' r' h' => by simp only [hcap, if_true]; exact h2 _ _ _ (h4 _ _ _ h')⟩
         · cases h
       · cases h
     · dsimp only at h
       split at h
       · cases h
       · rename_i out hout
         obtain ⟨h1, h2⟩ := gd_some h
         obtain ⟨x, h3, h4⟩ := ih _ _ _ _ _ _ h2
         exact ⟨x, h3, fun R' k' r' h' => by
           have := h4 _ _ _ h'
           dsimp only at this ⊢
           simp only [hout, h1, this]; rfl⟩
   unfold evOps at h
   cases hg : o.guard with
   | none =>
     rw [hg] at h
     obtain ⟨x, h1, h2⟩ := hrun _ _ _ _ h
     exact ⟨x, h1, fun R' k' r' h' => by unfold evOps; rw [hg]; exact h2 _ _ _ h'⟩
   | some g =>
     obtain ⟨d, want⟩ := g
     rw [hg] at h
     simp only [] at h
     split at h
     · rename_i b hb
       cases b <;> cases want
       · obtain ⟨x, h1, h2⟩ := hrun _ _ _ _ h
         exact ⟨x, h1, fun R' k' r' h' => by unfold evOps; simp only [hg, hb]; exact h2 _ _ _ h'⟩
       · obtain ⟨x, h1, h2⟩ := ih _ _ _ _ _ _ h
         exact ⟨x, h1, fun R' k' r' h' => by unfold evOps; simp only [hg, hb]; exact h2 _ _ _ h'⟩
       · obtain ⟨x, h1, h2⟩ := ih _ _ _ _ _ _ h
         exact ⟨x, h1, fun R' k' r' h' => by unfold evOps; simp only [hg, hb]; exact h2 _ _ _ h'⟩
       · obtain ⟨x, h1, h2⟩ := hrun _ _ _ _ h
         exact ⟨x, h1, fun R' k' r' h' => by unfold evOps; simp only [hg, hb]; exact h2 _ _ _ h'⟩
     · rename_i hb
       obtain ⟨x, h1, h2⟩ := ih _ _ _ _ _ _ h
       exact ⟨x, h1, fun R' k' r' h' => by unfold evOps; simp only [hg, hb]; exact h2 _ _ _ h'⟩
     · cases h
theorem evOps_natT (base : Nat) : ∀ (os : List IOper) (i : Nat) (log : List LogE) (S : St), NatS St fun R k => evOps summ (c R) true base i os log S k := by
 intro os
 induction os with
 | nil =>
   intro i log S R k r h
   unfold evOps at h
   obtain ⟨h1, h2⟩ := gd_some h
   exact ⟨S, h2, fun R' k' r' h' => by unfold evOps; rw [h1]; exact h'⟩
 | cons o os ih =>
   intro i log S R k r h
   have hrun : ∀ S : St, NatS St fun R k => (match o.args.map S.eval with
       | vals => match base + o.rank with
         | nid => match act summ o.op vals S.look nid with
           | none => none
           | some out => gd (drawChk S o.op nid out) (gd out.ok (evOps summ (c R) true base (i + 1) os (log ++ [logOf i o o.op vals nid out]) (S.apply o.dst out) k))) := by
     intro S R k r h
     dsimp only at h
     split at h
     · cases h
     · rename_i out hout
       obtain ⟨h0, h⟩ := gd_some h
       obtain ⟨h1, h2⟩ := gd_some h
       obtain ⟨x, h3, h4⟩ := ih _ _ _ _ _ _ h2
       exact ⟨x, h3, fun R' k' r' h' => by
         have := h4 _ _ _ h'
         dsimp only at this ⊢
         simp only [hout, h0, h1, this]; rfl⟩
   unfold evOps at h
   cases hg : o.guard with
   | none =>
     rw [hg] at h
     obtain ⟨x, h1, h2⟩ := hrun _ _ _ _ h
     exact ⟨x, h1, fun R' k' r' h' => by unfold evOps; rw [hg]; exact h2 _ _ _ h'⟩
   | some g =>
     obtain ⟨d, want⟩ := g
     rw [hg] at h
     simp only [] at h
     split at h
     · rename_i b hb
       cases b <;> cases want
       · obtain ⟨x, h1, h2⟩ := hrun _ _ _ _ h
         exact ⟨x, h1, fun R' k' r' h' => by unfold evOps; simp only [hg, hb]; exact h2 _ _ _ h'⟩
       · obtain ⟨x, h1, h2⟩ := ih _ _ _ _ _ _ h
         exact ⟨x, h1, fun R' k' r' h' => by unfold evOps; simp only [hg, hb]; exact h2 _ _ _ h'⟩
       · obtain ⟨x, h1, h2⟩ := ih _ _ _ _ _ _ h
         exact ⟨x, h1, fun R' k' r' h' => by unfold evOps; simp only [hg, hb]; exact h2 _ _ _ h'⟩
       · obtain ⟨x, h1, h2⟩ := hrun _ _ _ _ h
         exact ⟨x, h1, fun R' k' r' h' => by unfold evOps; simp only [hg, hb]; exact h2 _ _ _ h'⟩
     · rename_i hb
       obtain ⟨x, h1, h2⟩ := ih _ _ _ _ _ _ h
       exact ⟨x, h1, fun R' k' r' h' => by unfold evOps; simp only [hg, hb]; exact h2 _ _ _ h'⟩
     · cases h
theorem evLoop_nat {body : ∀ R, St → (Ex → St → Option R) → Option R} {nrm : St → St} (hb : ∀ S, NatE fun R k => body R S k) : ∀ m S, NatE fun R k => evLoop (body R) nrm m S k
 | 0, _, _, _, _, h => by cases h
 | m + 1, S, R, k, r, h => by
   obtain ⟨e, S', h1, h2⟩ := hb _ _ _ _ h
   cases e with
   | normal =>
     obtain ⟨e, S', h3, h4⟩ := evLoop_nat hb m _ _ _ _ h1
     exact ⟨e, S', h3, fun R' k' r' h' => h2 _ _ _ (h4 _ _ _ h')⟩
   | _ => exact ⟨_, S', h1, fun R' k' r' h' => h2 _ _ _ h'⟩
theorem evCode_nat (hc : NatC c) : ∀ (cd : IC) (S : St), NatE fun R k => evCode summ fu (c R) cd S k
 | .skip, S, R, k, r, h => ⟨_, _, h, fun _ _ _ h' => h'⟩
 | .region draw nn ops, S, R, k, r, h => by
   unfold evCode at h
   cases draw
   · obtain ⟨x, h1, h2⟩ := evOps_natF hc _ _ _ _ _ _ _ _ h
     exact ⟨_, x, h1, fun R' k' r' h' => by unfold evCode; exact h2 _ _ _ h'⟩
   · dsimp only at h
     obtain ⟨h0, h⟩ := gd_some h
     obtain ⟨x, h1, h2⟩ := evOps_natT _ _ _ _ _ _ _ _ h
     exact ⟨_, x, h1, fun R' k' r' h' => by unfold evCode; dsimp only; rw [h0]; exact h2 _ _ _ h'⟩
 | .seq a b, S, R, k, r, h => by
   unfold evCode at h
   obtain ⟨e, S', h1, h2⟩ := evCode_nat hc a _ _ _ _ h
   cases e with
   | normal =>
     obtain ⟨e, S', h3, h4⟩ := evCode_nat hc b _ _ _ _ h1
     exact ⟨e, S', h3, fun R' k' r' h' => by unfold evCode; exact h2 _ _ _ (h4 _ _ _ h')⟩
   | _ => exact ⟨_, S', h1, fun R' k' r' h' => by unfold evCode; exact h2 _ _ _ h'⟩
 | .cond cc a b, S, R, k, r, h => by
   unfold evCode at h
   split at h
   · split at h
     · rename_i x hx
       cases x
       · obtain ⟨e, S', h3, h4⟩ := evCode_nat hc b _ _ _ _ h
         exact ⟨e, S', h3, fun R' k' r' h' => by unfold evCode; simp only [hx]; exact h4 _ _ _ h'⟩
       · obtain ⟨e, S', h3, h4⟩ := evCode_nat hc a _ _ _ _ h
         exact ⟨e, S', h3, fun R' k' r' h' => by unfold evCode; simp only [hx]; exact h4 _ _ _ h'⟩
     · cases h
   · rename_i x
     cases x
     · obtain ⟨e, S', h3, h4⟩ := evCode_nat hc b _ _ _ _ h
       exact ⟨e, S', h3, fun R' k' r' h' => by unfold evCode; exact h4 _ _ _ h'⟩
     · obtain ⟨e, S', h3, h4⟩ := evCode_nat hc a _ _ _ _ h
       exact ⟨e, S', h3, fun R' k' r' h' => by unfold evCode; exact h4 _ _ _ h'⟩
   · cases h
 | .block id b, S, R, k, r, h => by
   unfold evCode at h
   obtain ⟨e, S', h1, h2⟩ := evCode_nat hc b _ _ _ _ h
   cases e with
   | exit j =>
     simp only [] at h1
     by_cases hj : j = id
     · rw [if_pos hj] at h1
       exact ⟨_, S', h1, fun R' k' r' h' => by unfold evCode; exact h2 _ _ _ (by simp only [hj, if_true]; exact h')⟩
     · rw [if_neg hj] at h1
       exact ⟨_, S', h1, fun R' k' r' h' => by unfold evCode; exact h2 _ _ _ (by simp only [hj, if_false]; exact h')⟩
   | _ => exact ⟨_, S', h1, fun R' k' r' h' => by unfold evCode; exact h2 _ _ _ h'⟩
 | .loop live b, S, R, k, r, h => by
   unfold evCode at h
   obtain ⟨e, S', h1, h2⟩ := evLoop_nat (fun S => evCode_nat hc b S) _ _ _ _ _ h
   exact ⟨e, S', h1, fun R' k' r' h' => by unfold evCode; exact h2 _ _ _ h'⟩
 | .cut live b, S, R, k, r, h => by
   unfold evCode at h
   obtain ⟨e, S', h1, h2⟩ := evCode_nat hc b _ _ _ _ h
   exact ⟨e, S', h1, fun R' k' r' h' => by unfold evCode; exact h2 _ _ _ h'⟩
 | .exit _, S, R, k, r, h => ⟨_, _, h, fun _ _ _ h' => h'⟩
 | .ret, S, R, k, r, h => ⟨_, _, h, fun _ _ _ h' => h'⟩
variable (summ fu) in
theorem evFn_nat (fns : Nat → Option IFn) : ∀ n, NatC fun R => evFn (R := R) summ fns fu n
 | 0, _, _, _, _, _, _, h => by cases h
 | n + 1, R, f, cs, hp, k, r, h => by
   dsimp only at h
   unfold evFn at h
   split at h
   · cases h
   · rename_i fn hfn
     obtain ⟨e, S, h1, h2⟩ := evCode_nat (summ := summ) (fu := fu) (evFn_nat fns n) _ _ _ _ _ h
     have key : ∀ (hne : ∀ j, e ≠ .exit j), (match resOf S fn.results with
       | none => none
       | some l => match compact S.fb (l.flatMap CV.refs) S.hp with
         | keep => k ((tupOf l).ren S.fb keep) (compHp S.fb keep S.hp)) = some r → ∃ v h, k v h = some r ∧ ∀ R' (k' : CV → List Blk → Option R') r', k' v h = some r' → evFn summ fns fu (n + 1) f cs hp k' = some r' := by
       intro hne h1
       cases hl : resOf S fn.results with
       | none => rw [hl] at h1; cases h1
       | some l =>
         rw [hl] at h1
         refine ⟨_, _, h1, fun R' k' r' h' => ?_⟩
         unfold evFn
         simp only [hfn]
         apply h2
         cases e with
         | exit j => exact absurd rfl (hne j)
         | _ => simp only [hl]; exact h'
     cases e with
     | exit j => cases h1
     | normal => exact key (fun j => by simp) h1
     | ret => exact key (fun j => by simp) h1
end
/-- More depth does no harm. -/
theorem evFn_dep {R : Type} {summ : Nat → Option Summ} {fns : Nat → Option IFn} {fu : Nat} : ∀ n, CallLe (evFn (R := R) summ fns fu n) (evFn (R := R) summ fns fu (n + 1))
 | 0, _, _, _, _, _, _, _, h => by cases h
 | n + 1, f, cs, hp, k, k', r, hk, h => by
   rw [evFn] at h ⊢
   split at h
   · cases h
   · rename_i fn hfn
     refine evCode_mono (evFn_dep n) _ _ _ _ _ (fun e S r' h' => ?_) h
     split at h'
     · cases h'
     · rename_i hne
       split at h'
       · cases h'
       · rename_i l hl
         cases e with
         | exit j => exact absurd rfl (hne j)
         | _ => exact hk _ _ _ h'
theorem evFn_le {R : Type} {summ : Nat → Option Summ} {fns : Nat → Option IFn} {fu : Nat} {f : Nat} {cs : List CV} {hp : List Blk} {k : CV → List Blk → Option R} {r : R} {n : Nat} : ∀ d, evFn summ fns fu n f cs hp k = some r → evFn summ fns fu (n + d) f cs hp k = some r
 | 0, h => h
 | d + 1, h => evFn_dep _ _ _ _ _ _ _ (fun _ _ _ h => h) (evFn_le d h)
theorem nbeq_ne {a b : Nat} (h : ¬ a = b) : Nat.beq a b = false := by
 cases hb : Nat.beq a b
 · rfl
 · exact absurd (Nat.eq_of_beq_eq_true hb) h
/-- A cut, its inner oracles taken over. -/
def evJ {R : Type} (body : St → (Ex → St → Option R) → Option R) (T : St) (k : Ex → St → Option R) : Option R := body T k
/-- The results of a run as pure data. -/
def unch : Nat → CV → Option (List CV)
 | 0, .pure .unit _ => some []
 | n + 1, .pair a b => match unch n b with | some l => some (a :: l) | none => none
 | _, _ => none
def untup (n : Nat) (v : CV) : Option (List CV) := if n = 1 then some [v] else match v with | .tup c => unch n c | _ => none
theorem unch_chain : ∀ {n : Nat} {c : CV} {l : List CV}, unch n c = some l → chain l = c ∧ l.length = n
 | 0, c, l, h => by
   unfold unch at h
   split at h
   · simp at h; subst h; exact ⟨rfl, rfl⟩
   · rename_i he; cases he
   · cases h
 | n + 1, c, l, h => by
   cases c with
   | pair a b =>
     simp only [unch] at h
     split at h
     · rename_i l' hl
       simp at h; subst h
       obtain ⟨h1, h2⟩ := unch_chain hl
       exact ⟨by simp [chain, h1], by simp [h2]⟩
     · cases h
   | _ => simp [unch] at h
theorem untup_tup {n : Nat} {v : CV} {l : List CV} (h : untup n v = some l) : tupOf l = v := by
 unfold untup at h
 split at h
 · simp at h; subst h; rfl
 · rename_i hn
   split at h
   · obtain ⟨h1, h2⟩ := unch_chain h
     match l, h2 with
     | [], _ => simp [tupOf, h1]
     | [_], h2 => simp at h2; exact absurd h2.symm hn
     | _ :: _ :: _, _ => simp [tupOf, h1]
   · cases h
def pureK (rs : List Ty) (v : CV) (hp : List Blk) : Option (HDen rs) := match untup rs.length v with
 | none => none
 | some l => gd (subsOK (lookH hp) l) (match purify (lookH hp) rs l with | some cs => toH rs cs | none => none)
theorem pureK_some {rs : List Ty} {v : CV} {hp : List Blk} {y : HDen rs} (h : pureK rs v hp = some y) : ∃ l, v = tupOf l ∧ purify (lookH hp) rs l = some (ofH rs y) ∧ subsOK (lookH hp) l = true := by
 unfold pureK at h
 split at h
 · cases h
 · rename_i l hl
   obtain ⟨h1, h2⟩ := gd_some h
   split at h2
   · rename_i cs hcs
     obtain ⟨x, rfl⟩ := purify_ofH hcs
     rw [toH_ofH] at h2
     simp at h2; subst h2
     exact ⟨l, (untup_tup hl).symm, hcs, h1⟩
   · cases h2
/-- What a function returns, as Lean's own: where it returns something. -/
def dfH : (rs : List Ty) → HDen rs
 | [] => ()
 | t :: rs => (t.dflt, dfH rs)
def shS (ts rs : List Ty) (p : HDen ts → Bool) (v : HDen ts → HDen rs) : Summ := fS ts rs p v
/-! Functions whose results have no slices: nothing is frozen. -/
def pureN (ts : List Ty) (F : List CV → Option (Bool × List CV)) : Summ := fun cs look _ => match purify look ts cs with
 | none => none
 | some cs' => match F cs' with
   | none => none
   | some r => some ⟨subsOK look cs && r.1, tupOf r.2, []⟩
theorem pureN_congr (ts : List Ty) (F : List CV → Option (Bool × List CV)) : SummC (pureN ts F) := by
 intro cs look look' nid h
 unfold pureN
 rw [purify_congr h, subsOK_congr h]
theorem toPH_norefs {look : Look} : ∀ {t : Ty} {c : CV} {x : t.den}, t.slices = false → toPH look t c = some x → c.refs = [] := by
 intro t
 induction t with
 | pair a b iha ihb =>
   intro c x ht h
   simp only [Ty.slices, Bool.or_eq_false_iff] at ht
   cases c <;> simp only [toPH] at h <;> try (first | rfl | (cases h; done))
   split at h
   · rename_i hy hz
     simp [CV.refs, iha ht.1 hy, ihb ht.2 hz]
   · cases h
 | slice e ih => intro c x ht h; simp [Ty.slices] at ht
 | _ =>
   intros c x ht h
   cases c <;> simp only [toPH] at h <;> try (first | rfl | (cases h; done))
theorem purify_norefs {look : Look} : ∀ {ts : List Ty} {cs cs' : List CV}, (ts.all fun t => !t.slices) = true → purify look ts cs = some cs' → ∀ c ∈ cs, c.refs = []
 | [], [], _, _, h => by simp
 | [], _ :: _, _, _, h => by simp [purify] at h
 | _ :: _, [], _, _, h => by simp [purify] at h
 | t :: ts, c :: cs, cs', ht, h => by
   simp only [List.all_cons, Bool.and_eq_true, Bool.not_eq_true'] at ht
   simp only [purify] at h
   split at h
   · rename_i x l hx hl
     intro c' hc'
     rcases List.mem_cons.1 hc' with rfl | hc'
     · exact toPH_norefs ht.1 hx
     · exact purify_norefs ht.2 hl c' hc'
   · cases h
theorem RepD_any {w w' : World} {I I' : Nat → Prop} : ∀ (t : Ty) (x : t.den) (cs : List Value), t.slices = false → RepD w I t x cs → RepD w' I' t x cs
 | .int _, _, _, _, h => h
 | .bool, _, _, _, h => h
 | .str, _, _, _, h => h
 | .unit, _, _, _, h => h
 | .pair a b, x, _, ht, ⟨c1, c2, e, h1, h2⟩ => by
   simp only [Ty.slices, Bool.or_eq_false_iff] at ht
   exact ⟨c1, c2, e, RepD_any a x.1 c1 ht.1 h1, RepD_any b x.2 c2 ht.2 h2⟩
 | .arr n e, x, cs, ht, h => ⟨h.1, Rows.mono (fun x c => RepD_any e x c ht) x cs h.2⟩
 | .slice e, _, _, ht, _ => by simp [Ty.slices] at ht
theorem refH_none {E : Env} {look : Look} {c : CV} (h : c.refs = []) (g : Nat) : ¬ refH E look c g := by
 rintro ⟨b, hb, _⟩
 rw [h] at hb; cases hb
theorem subOK_norefs {look : Look} : ∀ {c : CV}, c.refs = [] → c.subOK look = true := by
 intro c
 induction c with
 | pair a b iha ihb => intro h; simp [CV.refs] at h; simp [CV.subOK, iha h.1, ihb h.2]
 | sub b p sz off len cap => intro h; simp [CV.refs] at h
 | _ => intro h; rfl
theorem purify_any {base : Nat} {E E' : Env} {look : Look} : ∀ {ts : List Ty} {cs cs' : List CV} {vs : List Value}, (ts.all fun t => !t.slices) = true → LRep E base look → purify look ts cs = some cs' → Vs E cs vs → Vs E' cs' vs
 | [], [], _, vs, _, _, h, hv => by
   simp [purify] at h; subst h
   cases vs <;> exact hv
 | [], _ :: _, _, _, _, _, h, _ => by simp [purify] at h
 | _ :: _, [], _, _, _, _, h, _ => by simp [purify] at h
 | t :: ts, c :: cs, cs', [], _, _, _, hv => hv.elim
 | t :: ts, c :: cs, cs', v :: vs, ht, L, h, hv => by
   simp only [List.all_cons, Bool.and_eq_true, Bool.not_eq_true'] at ht
   simp only [purify] at h
   split at h
   · rename_i x l hx hl
     simp at h; subst h
     refine ⟨?_, purify_any ht.2 L hl hv.2⟩
     obtain ⟨ha, htp⟩ := toPH_agg hx
     obtain ⟨cells, h1, h2⟩ := hv.1.one1 htp
     have hn := toPH_norefs ht.1 hx
     have hd := toPH_rep L (I' := E.I) (fun _ h => h) hx (subOK_norefs hn) h1 (fun g hg => absurd hg (refH_none hn g))
     refine VRep1.up ⟨cells, CRep_ofP (E := E') (RepD_any t x cells ht.1 hd), ?_⟩ (isVal_tup (isVal_ofP t x))
     rw [isAgg_ofP, ← ha]
     exact h2
   · cases h
theorem summ_of_evN {P : Program} {f : Nat} {ts rs : List Ty} {F : List CV → Option (Bool × List CV)} {call : Nat → List CV → List Blk → (CV → List Blk → Option (CV × List Blk)) → Option (CV × List Blk)} (hrs : (rs.all fun t => !t.slices) = true) (hcall : ∀ base, CallOK P base call) (hcb : callable P f = true)
   (hF : ∀ look cs cs' l, purify look ts cs = some cs' → F cs' = some (true, l) → ∃ l0 hp2, call f cs' [] (fun v h => some (v, h)) = some (tupOf l0, hp2) ∧ purify (lookH hp2) rs l0 = some l ∧ subsOK (lookH hp2) l0 = true) : SummOK P f (pureN ts F) := by
 refine ⟨hcb, pureN_congr ts F, ?_⟩
 intro base E hp cs vs nid out H hvs hs hok _ _
 unfold pureN at hs
 split at hs
 · cases hs
 · rename_i cs' hcs'
   split at hs
   · cases hs
   · rename_i r hr
     simp at hs; subst hs
     obtain ⟨ok, l⟩ := r
     simp only [Bool.and_eq_true] at hok
     obtain ⟨hsub, rfl⟩ := hok
     obtain ⟨_, ht, _⟩ := purify_tup hcs'
     obtain ⟨E', hle, H', hw, _, _, _, hI⟩ := HS.frzs (lookH hp) (cs.flatMap CV.refs) H (fun _ => .inl rfl) (Vs_refs hvs ht)
     obtain ⟨l0, hp2, hev, hpl, hsl⟩ := hF _ _ _ _ hcs' hr
     have hvs0 : Vs { E' with live := fun _ => False } cs' vs := purify_rep (base := base) (E' := { E' with live := fun _ => False }) H.blk hw hle.I hcs' hsub hvs (fun c hc g ⟨b, hb, hg⟩ => hI g (.inr ⟨b, List.mem_flatMap.2 ⟨c, hc, hb⟩, hg⟩))
     have hc := (hcall _ f cs' [] _ _ hev { E' with live := fun _ => False } vs H'.empty hvs0).2
     rw [← hw]
     refine Calls.mono hc ?_
     rintro e w' ⟨v, c, hp1, E1, rfl, hk, rfl, hle1, H1, hv, _⟩
     simp only [Option.some.injEq, Prod.mk.injEq] at hk
     obtain ⟨rfl, rfl⟩ := hk
     obtain ⟨hll, ht0, htl⟩ := purify_tup hpl
     obtain ⟨us, hus, hback⟩ := tup_split hv ht0
     have hheap : ∀ g, g < E.w.heap.size → E1.w.heap[g]? = E.w.heap[g]? := fun g hg => by
       have := hle1.bel.block g (by rw [hw]; exact hg)
       rw [this]; show E'.w.heap[g]? = _; rw [hw]
     have hbel : Below base E.w E1.w := by
       have hb := hle1.bel
       have e0 : ({ E' with live := fun _ => False } : Env).w = E.w := hw
       rw [e0] at hb
       exact ⟨hb.os, hb.tape, hb.output, hb.size, fun k hk => hheap k (Nat.lt_of_lt_of_le hk H.base)⟩
     obtain ⟨hle3, H3⟩ := H.world (w' := E1.w) hbel hheap
     refine ⟨v, { E with w := E1.w }, rfl, rfl, hle3, H3, hback _ _ ?_ hll htl⟩
     have hnr := purify_norefs hrs hpl
     -- results without slices need no memory
     exact purify_any hrs H1.blk hpl hus
def fN (ts rs : List Ty) (pre : HDen ts → Bool) (fn : HDen ts → HDen rs) : Summ := pureN ts fun cs => match toH ts cs with
 | some x => some (pre x, ofH rs (fn x))
 | none => none
def shN (ts rs : List Ty) (p : HDen ts → Bool) (v : HDen ts → HDen rs) : Summ := fN ts rs p v
theorem summ_fnN {P : Program} {f : Nat} {ts rs : List Ty} {pre : HDen ts → Bool} {fn : HDen ts → HDen rs} {call : Nat → List CV → List Blk → (CV → List Blk → Option (CV × List Blk)) → Option (CV × List Blk)} (hrs : (rs.all fun t => !t.slices) = true) (hcall : ∀ base, CallOK P base call) (hcb : callable P f = true)
   (h : ∀ x, pre x = true → Rets rs (call f (ofH ts x) [] fun v h => some (v, h)) (fn x)) : SummOK P f (fN ts rs pre fn) := by
 refine summ_of_evN (rs := rs) hrs hcall hcb ?_
 intro look cs cs' l hcs hF
 obtain ⟨x, rfl⟩ := purify_ofH hcs
 rw [toH_ofH] at hF
 simp only [Option.some.injEq, Prod.mk.injEq] at hF
 obtain ⟨hp, rfl⟩ := hF
 exact h x hp
theorem summ_shN {P : Program} {f : Nat} {ts rs : List Ty} {F : HDen ts → Option (HDen rs)} {p : HDen ts → Bool} {v : HDen ts → HDen rs} {summ : Nat → Option Summ} {fns : Nat → Option IFn} {fu n : Nat} (hrs : (rs.all fun t => !t.slices) = true)
   (hp : ∀ x, p x = (F x).isSome) (hv : ∀ x, v x = (F x).getD (dfH rs)) (hcall : ∀ base, CallOK P base (evFn (R := CV × List Blk) summ fns fu n)) (hcb : callable P f = true)
   (h : ∀ x y, F x = some y → evFn summ fns fu n f (ofH ts x) [] (pureK rs) = some y) : SummOK P f (shN ts rs p v) := by
 refine summ_fnN hrs hcall hcb fun x hx => ?_
 rw [hp] at hx
 obtain ⟨y, hy⟩ := Option.isSome_iff_exists.1 hx
 obtain ⟨c, hp2, h1, h2⟩ := evFn_nat summ fu fns n _ _ _ _ _ _ (h x y hy)
 obtain ⟨l, rfl, h3, h4⟩ := pureK_some h1
 refine ⟨l, hp2, h2 _ _ _ rfl, ?_, h4⟩
 rw [h3, hv, hy]; rfl
theorem summ_sh {P : Program} {f : Nat} {ts rs : List Ty} {F : HDen ts → Option (HDen rs)} {p : HDen ts → Bool} {v : HDen ts → HDen rs} {summ : Nat → Option Summ} {fns : Nat → Option IFn} {fu n : Nat}
   (hp : ∀ x, p x = (F x).isSome) (hv : ∀ x, v x = (F x).getD (dfH rs)) (hcall : ∀ base, CallOK P base (evFn (R := CV × List Blk) summ fns fu n)) (hcb : callable P f = true)
   (h : ∀ x y, F x = some y → evFn summ fns fu n f (ofH ts x) [] (pureK rs) = some y) : SummOK P f (shS ts rs p v) := by
 refine summ_fn hcall hcb fun x hx => ?_
 rw [hp] at hx
 obtain ⟨y, hy⟩ := Option.isSome_iff_exists.1 hx
 obtain ⟨c, hp2, h1, h2⟩ := evFn_nat summ fu fns n _ _ _ _ _ _ (h x y hy)
 obtain ⟨l, rfl, h3, h4⟩ := pureK_some h1
 refine ⟨l, hp2, h2 _ _ _ rfl, ?_, h4⟩
 rw [h3, hv, hy]; rfl
namespace Sp
def andI (k : IntKind) (x y : Int) : Int := k.wrap (BitVec.ofInt k.bits x &&& BitVec.ofInt k.bits y).toNat
def orI (k : IntKind) (x y : Int) : Int := k.wrap (BitVec.ofInt k.bits x ||| BitVec.ofInt k.bits y).toNat
def xorI (k : IntKind) (x y : Int) : Int := k.wrap (BitVec.ofInt k.bits x ^^^ BitVec.ofInt k.bits y).toNat
def andnI (k : IntKind) (x y : Int) : Int := k.wrap (BitVec.ofInt k.bits x &&& ~~~ BitVec.ofInt k.bits y).toNat
end Sp
/-- Short names. -/
def jk : CV := .junk
/-- A law's answer. -/
def bk (v : CV) (_ : List Blk) : Option Bool := match v with | .bool b => some b | _ => none
end Go.Ev
namespace Go.Ev
open Go Go.RowKit Go.Shelf Go.Lib Go.Proofs
variable {P : Program} {ρ : Ren}
set_option maxHeartbeats 2000000 in
set_option maxRecDepth 100000 in
theorem clone_zero (L : SlLaysE0.n41 P ρ) (i0 : TypeInfo) (z : Value) (size bytes : Nat) (hi : P.info? (ρ.t 23) = some i0) (hz0 : i0.zero = some z) (hz1 : i0.size = size) (hz2 : i0.bytes = bytes) (hzs : z.cells.size = size) (hsz : 0 < size)
   (z23 : ∀ w, (Go.sizeOf (ρ.t 23)).run P w = .ok size w) (a : Addr) (c : Nat) (w : World) :
   Calls P (ρ.f 41) #[.slice (some a) 0 c] w fun e w' => ∃ v', e = .returned v' ∧ w'.ownsRow w.heap.size (ρ.t 23) size v' 0 [] ∧ v' ≠ .slice none 0 0 ∧ Below w.heap.size w w' := by
 have mixed := L.mixed; have t4 := L.t4; have a4 := L.a4; have z4 := L.z4; have v4 := L.v4; have t22 := L.t22; have a22 := L.a22; have z22 := L.z22; have v22 := L.v22
 have q22 : ∀ (w : World) (a : Option Addr) (n c n' c' : Nat), (binOp .eql (ρ.t 22) (.slice a n c) (.slice none n' c')).run P w = .ok (.bool a.isNone) w := fun w a n c n' c' => Lib.run_eql_slice_nil w _ _ a n c n' c' L.t22
 have u22 : ∀ w, Sem.run P (underlying (ρ.t 22)) w = .ok (TypeDesc.slice (ρ.t 23)) w := run_underlying t22
 obtain ⟨_, _, FG⟩ := L.f41
 go_enter FG, SlBodyN.n41_ntmps ρ
 go_wp2_with (at_builtin; refine wpList_append_own _ rfl _ _ (ρ.t 22) rfl w.heap.size (ρ.t 23) i0 z size bytes t22 hi hz0 hz1 hz2 hzs hsz _ _ _ rfl (World.ownsRow_made w #[] 0 (Nat.le_refl _) (Nat.zero_le _) (by simp)) a 0 c [] rfl (by simp) (by intro j u hj; simp at hj) (by intro u hu; cases hu) (by unfold maxLen; omega) (by omega) (by simp) ?_)
 intro v' w1 hown hgrow hnil
 go_wp2
 go_ret
 refine ⟨v', rfl, by simpa using hown, ?_, ?_⟩
 · exact hnil
 · exact ((Below.refl _ w).alloc (Nat.le_refl _) _).grown hgrow (by simp) (by intro k hk; simp [Value.ownBlock] at hk; omega)
end Go.Ev
namespace Go.Ev
open Go Go.RowKit
variable {P : Program}
/-- An environment of pure data alone. -/
def pureE (w : World) (I : Nat → Prop) : Env := { w := w, I := I, μ := fun _ => 0, σ := fun _ => undef, live := fun _ => False }
theorem HS.pureE {w : World} {I : Nat → Prop} (himm : ∀ g, I g → g < w.heap.size) : HS w.heap.size (pureE w I) [] := by
 have hf : ∀ b, lookH [] b = .fresh := fun b => by simp [lookH]
 refine ⟨fun b => by rw [hf]; trivial, fun b b' g h => by rw [hf] at h; exact h.elim, fun b g h => by rw [hf] at h; exact h.elim, himm, fun b => ?_, Nat.le_refl _⟩
 show False ↔ _
 simp [hf]
end Go.Ev
namespace Go.Ev
open Go Go.RowKit
variable {P : Program}
def cloneF (u : Ty) (bytes : Nat) : List CV → Option (Bool × List CV)
 | [.pure (.slice u') xs] => if u' = u then some (room (List.length xs) bytes, [.pure (.slice u') xs]) else none
 | _ => none
end Go.Ev
namespace Go.Ev
open Go Go.RowKit
variable {P : Program}
/-- A copy of a row, new and one's own. -/
def vecS (u : Ty) (te bytes : Nat) : Summ := fun cs look nid => match cs with
 | [c] => match toPH look (.slice u) c with
   | some xs => some ⟨c.subOK look && room (List.length xs) bytes, .whole nid, [(nid, .vec te u xs)]⟩
   | none => none
 | _ => none
theorem vecS_congr (u : Ty) (te bytes : Nat) : SummC (vecS u te bytes) := by
 intro cs look look' nid h
 unfold vecS
 match cs with
 | [] => rfl
 | [c] =>
   have h' : ∀ b ∈ c.refs, look b = look' b := fun b hb => h b (by simpa using hb)
   simp only [toPH_congr h', subOK_congr h']
 | _ :: _ :: _ => rfl
theorem own_base {w : World} {b b' te size n : Nat} {v : Value} {xs : List Value} (h : b ≤ b') (ho : w.ownsRow b' te size v n xs) : w.ownsRow b te size v n xs := by
 refine ⟨ho.1, ?_⟩
 rcases ho.2 with h1 | ⟨g, cap, cur, h1, h2, h3⟩
 · exact .inl h1
 · exact .inr ⟨g, cap, cur, h1, by omega, h3⟩
theorem clone_vec {f te : Nat} {u : Ty} {bytes : Nat} (hcb : callable P f = true) (hpos : 0 < u.size)
   (h1 : ∀ (b off n c : Nat) (news : List Value) (w : World), news.length = n * u.size → n ≤ maxLen → n * bytes ≤ 140737488355328 → (∀ (j : Nat) (v : Value), news[j]? = some v → w.cell? ⟨b, off + j, none⟩ = some v) → (∀ v ∈ news, v.oneCell' = true) →
     Calls P f #[.slice (some ⟨b, off, none⟩) n c] w fun e w' => ∃ v', e = .returned v' ∧ w'.ownsRow w.heap.size te u.size v' n news ∧ v' ≠ .slice none 0 0 ∧ Below w.heap.size w w')
   (h2 : ∀ (n c : Nat) (w : World), Calls P f #[.slice none n c] w fun e w' => e = .returned (.slice none 0 0) ∧ w' = w)
   (h3 : ∀ (a : Addr) (c : Nat) (w : World), Calls P f #[.slice (some a) 0 c] w fun e w' => ∃ v', e = .returned v' ∧ w'.ownsRow w.heap.size te u.size v' 0 [] ∧ v' ≠ .slice none 0 0 ∧ Below w.heap.size w w') :
   SummOK P f (vecS u te bytes) := by
 refine ⟨hcb, vecS_congr u te bytes, ?_⟩
 intro base E hp cs vs nid out H hvs hs hok hf hn
 unfold vecS at hs
 split at hs
 · rename_i c
   split at hs
   · rename_i xs hxs
     simp at hs; subst hs
     simp only [Bool.and_eq_true] at hok
     obtain ⟨hsub, hroom⟩ := hok
     have hroom := room_spec hroom
     match vs, hvs with
     | [v], ⟨hv, _⟩ =>
       obtain ⟨ad, cp, rfl, s1, s2, s3⟩ := src_rep H.blk hxs hsub hv
       have fin : ∀ (v' : Value) (w' : World) (news : List Value), w'.ownsRow E.w.heap.size te u.size v' (List.length xs) news → Rows (RepD E.w E.I u) xs news → Below E.w.heap.size E.w w' →
           ∃ v E', (Ending.returned v' : Ending) = .returned v ∧ E'.w = w' ∧ E.le base E' ∧ HS base E' (wrAll hp [(nid, .vec te u xs)]) ∧ VRep E' (.whole nid) v := by
         intro v' w' news hown hrows hbel
         have hrows' : Rows (RepD w' E.I u) xs news := Rows.mono (fun x c => RepD.mono (fun _ h => h) (fun g hg => hbel.block g (H.imm g hg)) u x c) _ _ hrows
         obtain ⟨hle, H'⟩ := H.newVec hf hn (w' := w') (v := v') (te := te) (e := u) (xs := xs) (cells := news) ⟨hbel.os, hbel.tape, hbel.output, hbel.size, fun k hk => hbel.block k (Nat.lt_of_lt_of_le hk H.base)⟩ (fun g hg => hbel.block g (H.imm g hg)) (fun b g hg => hbel.block g (H.held_lt hg)) hrows' (own_base H.base hown) hpos (fun g hg => by
           have := (hown.lt g hg).1
           exact ⟨fun h => absurd (H.imm g h) (by omega), fun b h => absurd (H.held_lt h) (by omega)⟩)
         refine ⟨v', _, rfl, rfl, hle, H', ?_⟩
         refine ⟨[v'], ⟨.inr rfl, by simp [Env.newVec, upd_same], ?_⟩, by simp [CV.isAgg]⟩
         simp only [Env.newVec, upd_same]
         rcases hown.2 with ⟨h, hn0⟩ | ⟨g, cap, cur, h, _⟩
         · exact ⟨none, 0, 0, h⟩
         · exact ⟨_, _, _, h⟩
       cases ad with
       | none =>
         refine Calls.mono (h2 _ _ E.w) ?_
         rintro e w' ⟨rfl, rfl⟩
         have h0 : List.length xs = 0 := by
           rcases Nat.eq_zero_or_pos (List.length xs) with h | h
           · exact h
           · obtain ⟨_, _, _, h4, _⟩ := s3 h; cases h4
         have hx : xs = [] := List.eq_nil_of_length_eq_zero h0
         subst hx
         exact fin _ _ [] (World.ownsRow_nil _ _ _ _) rfl (Below.refl _ _)
       | some a =>
         by_cases h0 : 0 < List.length xs
         · obtain ⟨b', off', rows, h4, g1, g2⟩ := s3 h0
           cases h4
           have hR : ∀ (x : u.den) (c : List Value), RepD E.w E.I u x c → c.length = u.size := fun x c h => RepD.len u x c h
           refine Calls.mono (h1 b' off' (List.length xs) cp rows E.w (Rows.len hR xs rows g2) (by omega) hroom.1 g1 (fun v hv => Rows.one _ _ g2 v hv)) ?_
           rintro e w' ⟨v', rfl, hown, _, hbel⟩
           exact fin v' w' rows hown g2 hbel
         · have h00 : List.length xs = 0 := by omega
           have hx : xs = [] := List.eq_nil_of_length_eq_zero h00
           subst hx
           refine Calls.mono (h3 a cp E.w) ?_
           rintro e w' ⟨v', rfl, hown, _, hbel⟩
           exact fin v' w' [] hown rfl hbel
   · cases hs
 · cases hs
end Go.Ev
namespace Go.Ev
open Go Go.RowKit
variable {P : Program}
/-- slices.Grow of the nil slice: an empty row of one's own. -/
def growS (u : Ty) (te bytes : Nat) : Summ := fun cs _ nid => match cs with
 | [.nil _ _, .int .i64 n] => some ⟨decide (0 ≤ n) && room n.toNat bytes, .whole nid, [(nid, .vec te u [])]⟩
 | _ => none
end Go.Ev
namespace Go.Ev
open Go Go.RowKit Go.Shelf Go.Proofs
variable {P : Program} {ρ : Ren}
end Go.Ev
namespace Go.Ev
open Go Go.RowKit
/-! States by templates. -/
deriving instance DecidableEq for Step
/-- Constants of a state are equal. -/
def beqC : CV → CV → Bool
 | .junk, .junk => true
 | .undef, .undef => true
 | .nil a e, .nil b f => Nat.beq a b && decide (e = f)
 | .pure .unit _, .pure .unit _ => true
 | .pair a b, .pair c d => beqC a c && beqC b d
 | .whole a, .whole b => Nat.beq a b
 | .ptr a p, .ptr b q => Nat.beq a b && decide (p = q)
 | .clo f a, .clo g b => Nat.beq f g && beqC a b
 | .tup a, .tup b => beqC a b
 | _, _ => false
theorem beqC_eq : ∀ (a b : CV), beqC a b = true → a = b
 | .junk, b, h => by cases b <;> first | rfl | cases h
 | .undef, b, h => by cases b <;> first | rfl | cases h
 | .nil a e, b, h => by
   cases b <;> first | (cases h; done) | skip
   simp only [beqC, Bool.and_eq_true, decide_eq_true_eq] at h
   rw [Nat.eq_of_beq_eq_true h.1, h.2]
 | .pure t x, b, h => by
   cases b <;> first | (cases t <;> cases h; done) | skip
   rename_i u y
   cases t <;> cases u <;> first | (cases h; done) | rfl
 | .pair a b, c, h => by
   cases c <;> first | (cases h; done) | skip
   simp only [beqC, Bool.and_eq_true] at h
   rw [beqC_eq _ _ h.1, beqC_eq _ _ h.2]
 | .whole a, b, h => by
   cases b <;> first | (cases h; done) | skip
   rw [Nat.eq_of_beq_eq_true h]
 | .ptr a p, b, h => by
   cases b <;> first | (cases h; done) | skip
   simp only [beqC, Bool.and_eq_true, decide_eq_true_eq] at h
   rw [Nat.eq_of_beq_eq_true h.1, h.2]
 | .clo f a, b, h => by
   cases b <;> first | (cases h; done) | skip
   simp only [beqC, Bool.and_eq_true] at h
   rw [Nat.eq_of_beq_eq_true h.1, beqC_eq _ _ h.2]
 | .tup a, b, h => by
   cases b <;> first | (cases h; done) | skip
   rename_i c
   exact congrArg CV.tup (beqC_eq a c h)
 | .int _ _, b, h => by cases b <;> cases h
 | .bool _, b, h => by cases b <;> cases h
 | .sub _ _ _ _ _ _, b, h => by cases b <;> cases h
 | .ref _ _, b, h => by cases b <;> cases h
/-- A value of a state with places for variables. -/
inductive PV where
 | kc (v : CV) | hv (t : Ty) | rf (t : Ty) | pr (a b : PV) | cl (f : Nat) (a : PV)
 | sb (b : Nat) (p : Path) (sz : Nat) (o l : Option Nat) (cap : Option (Option Nat))
@[reducible] def nE (o : Option Nat) (r : Type) : Type := match o with | none => Nat × r | some _ => r
@[reducible] def nE2 (o : Option (Option Nat)) (r : Type) : Type := match o with | none => r | some o => nE o r
@[reducible] def PV.E : PV → Type → Type
 | .kc _, r => r
 | .hv t, r => t.den × r
 | .rf t, r => t.den × r
 | .pr a b, r => a.E (b.E r)
 | .cl _ a, r => a.E r
 | .sb _ _ _ o l c, r => nE o (nE l (nE2 c r))
def nI {r : Type} : (o : Option Nat) → nE o r → Nat × r
 | none, e => (e.1, e.2)
 | some n, e => (n, e)
def nI2 {r : Type} : (o : Option (Option Nat)) → nE2 o r → Option Nat × r
 | none, e => (none, e)
 | some o, e => (some (nI o e).1, (nI o e).2)
def PV.inst : (p : PV) → {r : Type} → p.E r → CV × r
 | .kc v, _, e => (v, e)
 | .hv t, _, e => (ofP t e.1, e.2)
 | .rf t, _, e => (.ref t e.1, e.2)
 | .pr a b, _, e => (.pair (a.inst e).1 (b.inst (a.inst e).2).1, (b.inst (a.inst e).2).2)
 | .cl f a, _, e => (.clo f (a.inst e).1, (a.inst e).2)
 | .sb b p sz o l c, _, e => (.sub b p sz (nI o e).1 (nI l (nI o e).2).1 (nI2 c (nI l (nI o e).2).2).1, (nI2 c (nI l (nI o e).2).2).2)
def nD {r : Type} : (o : Option Nat) → Nat → r → Option (nE o r)
 | none, n, t => some (n, t)
 | some m, n, t => if n = m then some t else none
def nD2 {r : Type} : (o : Option (Option Nat)) → Option Nat → r → Option (nE2 o r)
 | none, none, t => some t
 | some o, some n, t => nD o n t
 | _, _, _ => none
def ext : (t : Ty) → CV → Option t.den
 | .int k, .int k' n => if k' = k then some n else none
 | .bool, .bool b => some b
 | .int _, _ => none
 | .bool, _ => none
 | t, .pure t' x => if h : t' = t then some (h ▸ x) else none
 | _, _ => none
def PV.dec : (p : PV) → {r : Type} → CV → r → Option (p.E r)
 | .kc v, _, w, t => if beqC w v = true then some t else none
 | .hv u, _, w, t => match ext u w with | some x => some (x, t) | none => none
 | .rf u, _, w, t => match w with | .ref u' x => if h : u' = u then some (h ▸ x, t) else none | _ => none
 | .pr a b, _, w, t => match w with | .pair x y => (match b.dec y t with | some t' => a.dec x t' | none => none) | _ => none
 | .cl f a, _, w, t => match w with | .clo g x => if g = f then a.dec x t else none | _ => none
 | .sb b p sz o l c, _, w, t => match w with
   | .sub b' p' sz' o' l' c' => if b' = b ∧ p' = p ∧ sz' = sz then (match nD2 c c' t with | some t1 => (match nD l l' t1 with | some t2 => nD o o' t2 | none => none) | none => none) else none
   | _ => none
theorem nD_inst {r : Type} {o : Option Nat} {n : Nat} {t : r} {e : nE o r} (h : nD o n t = some e) : nI o e = (n, t) := by
 cases o with
 | none => simp only [nD, Option.some.injEq] at h; subst h; rfl
 | some m =>
   simp only [nD] at h
   split at h
   · rename_i hm; injection h with h; subst h; subst hm; rfl
   · cases h
theorem nD2_inst {r : Type} {o : Option (Option Nat)} {n : Option Nat} {t : r} {e : nE2 o r} (h : nD2 o n t = some e) : nI2 o e = (n, t) := by
 cases o with
 | none =>
   cases n with
   | none => simp only [nD2, Option.some.injEq] at h; subst h; rfl
   | some n => cases h
 | some o =>
   cases n with
   | none => cases h
   | some n => simp only [nD2] at h; have := nD_inst h; simp only [nI2, this]
theorem ext_eq {t : Ty} {w : CV} {x : t.den} (h : ext t w = some x) : ofP t x = w := by
 cases t <;> cases w <;> simp only [ext] at h <;> first | (cases h; done) | skip
 all_goals first
   | (split at h
      · rename_i hk; subst hk; injection h with h; subst h; rfl
      · cases h)
   | (injection h with h; subst h; rfl)
theorem PV.dec_inst : ∀ (p : PV) {r : Type} {w : CV} {t : r} {e : p.E r}, p.dec w t = some e → p.inst e = (w, t)
 | .kc v, r, w, t, e, h => by
   simp only [PV.dec] at h
   split at h
   · rename_i hb; injection h with h; subst h; rw [beqC_eq _ _ hb]; rfl
   · cases h
 | .hv u, r, w, t, e, h => by
   simp only [PV.dec] at h
   split at h
   · rename_i x hx; injection h with h; subst h; simp only [PV.inst, ext_eq hx]
   · cases h
 | .rf u, r, w, t, e, h => by
   simp only [PV.dec] at h
   split at h
   · split at h
     · rename_i hu; subst hu; injection h with h; subst h; rfl
     · cases h
   · cases h
 | .pr a b, r, w, t, e, h => by
   simp only [PV.dec] at h
   split at h
   · split at h
     · rename_i x y t' ht
       have h1 := PV.dec_inst b ht
       have h2 := PV.dec_inst a h
       simp only [PV.inst, h2, h1]
     · cases h
   · cases h
 | .cl f a, r, w, t, e, h => by
   simp only [PV.dec] at h
   split at h
   · split at h
     · rename_i hg; subst hg
       have h2 := PV.dec_inst a h
       simp only [PV.inst, h2]
     · cases h
   · cases h
 | .sb b p sz o l c, r, w, t, e, h => by
   simp only [PV.dec] at h
   split at h
   · split at h
     · rename_i hb
       obtain ⟨rfl, rfl, rfl⟩ := hb
       split at h
       · split at h
         · rename_i h1 _ _ h2
           have h3 := nD_inst h
           have h4 := nD_inst h2
           have h5 := nD2_inst h1
           simp only [PV.inst, h3, h4, h5]
         · cases h
       · cases h
     · cases h
   · cases h
inductive PB where
 | dead | fresh | mem (p : PV) | vec (te : Nat) (e : Ty) | fvec (te : Nat) (e : Ty)
@[reducible] def PB.E : PB → Type → Type
 | .mem p, r => p.E r
 | .vec _ e, r => List e.den × r
 | .fvec _ e, r => List e.den × r
 | _, r => r
def PB.inst : (p : PB) → {r : Type} → p.E r → Blk × r
 | .dead, _, e => (.dead, e)
 | .fresh, _, e => (.fresh, e)
 | .mem p, _, e => (.mem (p.inst e).1, (p.inst e).2)
 | .vec te u, _, e => (.vec te u e.1, e.2)
 | .fvec te u, _, e => (.fvec te u e.1, e.2)
def PB.dec : (p : PB) → {r : Type} → Blk → r → Option (p.E r)
 | .dead, _, b, t => match b with | .dead => some t | _ => none
 | .fresh, _, b, t => match b with | .fresh => some t | _ => none
 | .mem p, _, b, t => match b with | .mem c => p.dec c t | _ => none
 | .vec te u, _, b, t => match b with | .vec te' u' x => if h : u' = u then if te' = te then some (h ▸ x, t) else none else none | _ => none
 | .fvec te u, _, b, t => match b with | .fvec te' u' x => if h : u' = u then if te' = te then some (h ▸ x, t) else none else none | _ => none
theorem PB.dec_inst : ∀ (p : PB) {r : Type} {b : Blk} {t : r} {e : p.E r}, p.dec b t = some e → p.inst e = (b, t)
 | .dead, r, b, t, e, h => by
   simp only [PB.dec] at h
   split at h
   · injection h with h; subst h; rfl
   · cases h
 | .fresh, r, b, t, e, h => by
   simp only [PB.dec] at h
   split at h
   · injection h with h; subst h; rfl
   · cases h
 | .mem p, r, b, t, e, h => by
   simp only [PB.dec] at h
   split at h
   · simp only [PB.inst, p.dec_inst h]
   · cases h
 | .vec te u, r, b, t, e, h => by
   simp only [PB.dec] at h
   split at h
   · split at h
     · rename_i hu; subst hu
       split at h
       · rename_i ht; subst ht; injection h with h; subst h; rfl
       · cases h
     · cases h
   · cases h
 | .fvec te u, r, b, t, e, h => by
   simp only [PB.dec] at h
   split at h
   · split at h
     · rename_i hu; subst hu
       split at h
       · rename_i ht; subst ht; injection h with h; subst h; rfl
       · cases h
     · cases h
   · cases h
@[reducible] def bE : List PB → Type → Type
 | [], r => r
 | p :: ps, r => p.E (bE ps r)
def bI : (ps : List PB) → {r : Type} → bE ps r → List Blk × r
 | [], _, e => ([], e)
 | p :: ps, _, e => ((p.inst e).1 :: (bI ps (p.inst e).2).1, (bI ps (p.inst e).2).2)
def bD : (ps : List PB) → {r : Type} → List Blk → r → Option (bE ps r)
 | [], _, l, t => match l with | [] => some t | _ => none
 | p :: ps, _, l, t => match l with | b :: l => (match bD ps l t with | some t' => p.dec b t' | none => none) | _ => none
theorem bD_inst : ∀ (ps : List PB) {r : Type} {l : List Blk} {t : r} {e : bE ps r}, bD ps l t = some e → bI ps e = (l, t)
 | [], r, l, t, e, h => by
   simp only [bD] at h
   split at h
   · injection h with h; subst h; rfl
   · cases h
 | p :: ps, r, l, t, e, h => by
   simp only [bD] at h
   split at h
   · split at h
     · rename_i t' ht
       have h1 := bD_inst ps ht
       have h2 := p.dec_inst h
       simp only [bI, h2, h1]
     · cases h
   · cases h
@[reducible] def sE : List (Nat × PV) → Type → Type
 | [], r => r
 | p :: ps, r => p.2.E (sE ps r)
def sI : (ps : List (Nat × PV)) → {r : Type} → sE ps r → List (Nat × CV) × r
 | [], _, e => ([], e)
 | p :: ps, _, e => ((p.1, (p.2.inst e).1) :: (sI ps (p.2.inst e).2).1, (sI ps (p.2.inst e).2).2)
def sD : (ps : List (Nat × PV)) → {r : Type} → List CV → r → Option (sE ps r)
 | [], _, _, t => some t
 | p :: ps, _, l, t => match sD ps l t with | some t' => p.2.dec (l.getD p.1 .junk) t' | none => none
theorem sD_inst : ∀ (ps : List (Nat × PV)) {r : Type} {l : List CV} {t : r} {e : sE ps r}, sD ps l t = some e → allAt l (sI ps e).1 ∧ (sI ps e).1.map (·.1) = ps.map (·.1) ∧ (sI ps e).2 = t
 | [], r, l, t, e, h => by
   simp only [sD] at h
   injection h with h; subst h; exact ⟨trivial, rfl, rfl⟩
 | p :: ps, r, l, t, e, h => by
   simp only [sD] at h
   split at h
   · rename_i t' ht
     obtain ⟨h1, h2, h3⟩ := sD_inst ps ht
     have h4 := p.2.dec_inst h
     have e1 : (p.2.inst e).1 = l.getD p.1 .junk := by rw [h4]
     have e2 : (p.2.inst e).2 = t' := by rw [h4]
     simp only [sI, e1, e2, List.map_cons, h2]
     exact ⟨⟨rfl, h1⟩, trivial, h3⟩
   · cases h
structure PS where
 n : Nat
 sl : List (Nat × PV)
 hp : List PB
 fb : Nat
@[reducible] def PS.E (T : PS) : Type := sE T.sl (bE T.hp Unit)
def PS.inst (T : PS) (e : T.E) : St := ⟨fill T.n (sI T.sl e).1, (bI T.hp (sI T.sl e).2).1, T.fb⟩
def PS.dec (T : PS) (S : St) : Option T.E := if shapeOK S T.n (T.sl.map (·.1)) T.fb = true then match bD T.hp S.hp () with | some t => sD T.sl S.sl t | none => none else none
theorem PS.dec_inst {T : PS} {S : St} {e : T.E} (h : T.dec S = some e) : S = T.inst e := by
 unfold PS.dec at h
 split at h
 · rename_i hs
   split at h
   · rename_i t ht
     obtain ⟨h1, h2, h3⟩ := sD_inst T.sl h
     have h4 := bD_inst T.hp ht
     unfold PS.inst
     rw [← h2] at hs
     rw [st_of hs h1 rfl, h3, h4]
   · cases h
 · cases h
/-- A state by its live slots. -/
def sx (n : Nat) (l : List (Nat × CV)) (hp : List Blk) (fb : Nat := 0) : St := ⟨fill n l, hp, fb⟩
/-! Oracles. -/
abbrev Orc (R : Type) := St → (Ex → St → Option R) → Option R
/-- An oracle for the states of a template, and another one for other states. -/
def orc {R : Type} (T : PS) (G : T.E → (Ex → St → Option R) → Option R) (o : Orc R := fun _ _ => none) : Orc R := fun S k => match T.dec S with | some e => G e k | none => o S k
/-- An oracle by a function of Lean's. -/
def orL {R E : Type} (T : PS) (L : T.E → Option E) (Y : (Ex → St → Option R) → E → Option R) (o : Orc R := fun _ _ => none) : Orc R := orc T (fun a k => (L a).bind (Y k)) o
def isEnd : IC → Bool | .ret => true | .exit _ => true | _ => false
def outer : IC → List IC
 | .seq a b => outer a ++ outer b
 | .cond _ a b => outer a ++ outer b
 | .block _ b => outer b
 | .loop l b => [.loop l b]
 | .cut l b => if isEnd b = true then [] else [.cut l b]
 | _ => []
def inner : IC → IC | .loop _ b => b | .cut _ b => b | c => c
def lv : IC → List Nat | .loop l _ => l | .cut l _ => l | _ => []
def isLoop : IC → Bool | .loop _ _ => true | _ => false
def isCut : IC → Bool | .cut _ _ => true | _ => false
def mkT {R : Type} : IC → List (Orc R) → LT R
 | .seq a b, os => .node (mkT a os) (mkT b (os.drop (outer a).length))
 | .cond _ a b, os => .node (mkT a os) (mkT b (os.drop (outer a).length))
 | .block _ b, os => .node (mkT b os) .nil
 | .loop _ _, os => match os with | o :: _ => .orc o | [] => .nil
 | .cut _ b, os => if isEnd b = true then .nil else match os with | o :: _ => .orc o | [] => .nil
 | _, _ => .nil
section
variable {R : Type} (summ : Nat → Option Summ) (fu : Nat) (call : CallT R)
/-- An oracle tells the truth of a loop or a cut. -/
def okN (c : IC) (o : Orc R) : Prop := match c with
 | .loop l b => ∀ T k r, o T k = some r → evLoopN (evCode summ fu call b) (St.norm l) fu T k = some r
 | .cut _ b => ∀ T k r, o T k = some r → evCode summ fu call b T k = some r
 | _ => True
def allN : List IC → List (Orc R) → Prop
 | c :: cs, o :: os => okN summ fu call c o ∧ allN cs os
 | _, _ => True
variable {summ fu call}
theorem allN_app : ∀ (xs ys : List IC) (os : List (Orc R)), allN summ fu call (xs ++ ys) os → allN summ fu call xs os ∧ allN summ fu call ys (os.drop xs.length)
 | [], ys, os, h => ⟨trivial, h⟩
 | x :: xs, ys, [], h => ⟨trivial, by cases ys <;> trivial⟩
 | x :: xs, ys, o :: os, h => by
   obtain ⟨h1, h2⟩ := allN_app xs ys os h.2
   exact ⟨⟨h.1, h1⟩, h2⟩
theorem mkT_ok : ∀ (c : IC) (os : List (Orc R)), allN summ fu call (outer c) os → LTok summ fu call (mkT c os) c
 | .seq a b, os, h => by
   obtain ⟨h1, h2⟩ := allN_app _ _ _ h
   exact ⟨mkT_ok a _ h1, mkT_ok b _ h2⟩
 | .cond _ a b, os, h => by
   obtain ⟨h1, h2⟩ := allN_app _ _ _ h
   exact ⟨mkT_ok a _ h1, mkT_ok b _ h2⟩
 | .block _ b, os, h => mkT_ok b os h
 | .loop l b, [], _ => trivial
 | .loop l b, o :: os, h => h.1
 | .cut l b, os, h => by
   simp only [mkT, outer] at h ⊢
   split
   · trivial
   · rename_i hb
     rw [if_neg hb] at h
     cases os with
     | nil => trivial
     | cons o os => exact h.1
 | .skip, _, _ => trivial
 | .region _ _ _, _, _ => trivial
 | .exit _, _, _ => trivial
 | .ret, _, _ => trivial
end
/-- The node with a number among the outer ones. -/
def nd (c : IC) (i : Nat) : IC := (outer c).getD i .skip
/-- Oracles for the nodes from number i on. -/
def oksFrom {R : Type} (summ : Nat → Option Summ) (fu : Nat) (call : CallT R) (c : IC) : Nat → List (Orc R) → Prop
 | _, [] => True
 | i, o :: os => okN summ fu call (nd c i) o ∧ oksFrom summ fu call c (i + 1) os
theorem oks_all {R : Type} {summ : Nat → Option Summ} {fu : Nat} {call : CallT R} {c : IC} : ∀ (os : List (Orc R)) (i : Nat), oksFrom summ fu call c i os → allN summ fu call ((outer c).drop i) os
 | [], i, _ => by cases (outer c).drop i <;> trivial
 | o :: os, i, h => by
   rcases Nat.lt_or_ge i (outer c).length with hi | hi
   · rw [List.drop_eq_getElem_cons hi]
     refine ⟨?_, oks_all os (i + 1) h.2⟩
     have := h.1
     unfold nd at this
     rw [List.getD_eq_getElem?_getD, List.getElem?_eq_getElem hi] at this
     exact this
   · rw [List.drop_eq_nil_of_le hi]; trivial
theorem oks_ok {R : Type} {summ : Nat → Option Summ} {fu : Nat} {call : CallT R} {c : IC} {os : List (Orc R)} (h : oksFrom summ fu call c 0 os) : LTok summ fu call (mkT c os) c := mkT_ok c os (oks_all os 0 h)
/-! Loops as Lean's functions. -/
theorem gdN {A B : Type} {c : Bool} {x : Option A} {f : A → Option B} {y : Option B} (h : x.bind f = y) : (gd c x).bind f = gd c y := by cases c; rfl; exact h
theorem condN {A B : Type} {c : Bool} {x x' : Option A} {f : A → Option B} {y y' : Option B} (h : x.bind f = y) (h' : x'.bind f = y') : (bif c then x else x').bind f = bif c then y else y' := by cases c; exact h'; exact h
section
variable {summ : Nat → Option Summ} {fns : Nat → Option IFn} {n : Nat}
theorem lpN {R E : Type} {b : St → (Ex → St → Option R) → Option R} {nrm : St → St} {T : PS} (L : Nat → T.E → Option E) (Sf : (R : Type) → (T.E → Option R) → (E → Option R) → T.E → Option R) {k : Ex → St → Option R} {Y : E → Option R}
   (h0 : ∀ a, L 0 a = none) (hs : ∀ m a, L (m + 1) a = Sf E (L m) some a)
   (hb : ∀ K a, evLB b nrm (T.inst a) K k = Sf R (fun a => K (T.inst a)) Y a)
   (hn : ∀ (K : T.E → Option E) a, (Sf E K some a).bind Y = Sf R (fun a => (K a).bind Y) Y a) : ∀ m a, evLoopN b nrm m (T.inst a) k = (L m a).bind Y
 | 0, a => by rw [h0]; rfl
 | m + 1, a => by
   rw [evLoopN_succ, hb, hs, hn]
   congr 1
   funext a
   exact lpN L Sf h0 hs hb hn m a
/-- A loop. -/
theorem lp {R E : Type} {c : IC} {ov : Nat → Option (List CV → List Blk → (CV → List Blk → Option R) → Option R)} (ho : OvrOK ov (evFn summ fns FU n)) {os : List (Orc R)} (hi : oksFrom summ FU (evFn summ fns FU n) (inner c) 0 os) (T : PS) (L : Nat → T.E → Option E) (Sf : (R : Type) → (T.E → Option R) → (E → Option R) → T.E → Option R) (Y : (Ex → St → Option R) → E → Option R)
   (h0 : ∀ a, L 0 a = none) (hs : ∀ m a, L (m + 1) a = Sf E (L m) some a)
   (hb : ∀ k K a, evLB (evCodeL summ FU (ovr ov (evFn summ fns FU n)) (mkT (inner c) os) (inner c)) (St.norm (lv c)) (T.inst a) K k = Sf R (fun a => K (T.inst a)) (Y k) a)
   (hn : ∀ (Y : E → Option R) (K : T.E → Option E) a, (Sf E K some a).bind Y = Sf R (fun a => (K a).bind Y) Y a) {o : Orc R} (hq : okN summ FU (evFn summ fns FU n) c o) (hc : isLoop c = true := by kernel_rfl) :
   okN summ FU (evFn summ fns FU n) c (orL T (L FU) Y o) := by
 cases c with
 | loop l b =>
   intro S k r h
   unfold orL orc at h
   split at h
   · rename_i e he
     rw [PS.dec_inst he]
     refine evLoopN_L ho (oks_ok hi) _ _ _ _ ?_
     rw [← h]
     exact lpN L Sf h0 hs (hb k) (hn (Y k)) FU e
   · exact hq _ _ _ h
 | _ => cases hc
theorem lpN2 {R E E2 : Type} {b : St → (Ex → St → Option R) → Option R} {nrm : St → St} {T T2 : PS} (L : Nat → T.E → Option E) (L2 : Nat → T2.E → Option E2) (Sf : (R : Type) → (T.E → Option R) → (T2.E → Option R) → (E → Option R) → T.E → Option R) {k : Ex → St → Option R} {Y : E → Option R} {Y2 : E2 → Option R} (C : E2 → E)
   (h0 : ∀ a, L 0 a = none) (hs : ∀ m a, L (m + 1) a = Sf E (L m) (fun q => (L2 m q).bind fun e => some (C e)) some a) (hC : ∀ e, Y (C e) = Y2 e)
   (h2 : ∀ m q, evLoopN b nrm m (T2.inst q) k = (L2 m q).bind Y2)
   (hb : ∀ K a, evLB b nrm (T.inst a) K k = Sf R (fun a => K (T.inst a)) (fun q => K (T2.inst q)) Y a)
   (hn : ∀ (K : T.E → Option E) (K2 : T2.E → Option E) a, (Sf E K K2 some a).bind Y = Sf R (fun a => (K a).bind Y) (fun q => (K2 q).bind Y) Y a) : ∀ m a, evLoopN b nrm m (T.inst a) k = (L m a).bind Y
 | 0, a => by rw [h0]; rfl
 | m + 1, a => by
   rw [evLoopN_succ, hb, hs, hn]
   congr 1
   · funext a
     exact lpN2 L L2 Sf C h0 hs hC h2 hb hn m a
   · funext q
     rw [h2]
     cases L2 m q with
     | none => rfl
     | some e => exact (hC e).symm
/-- A loop that goes on with other states. -/
theorem lp2 {R E E2 : Type} {c : IC} {ov : Nat → Option (List CV → List Blk → (CV → List Blk → Option R) → Option R)} (ho : OvrOK ov (evFn summ fns FU n)) {os : List (Orc R)} (hi : oksFrom summ FU (evFn summ fns FU n) (inner c) 0 os) (T T2 : PS) (L : Nat → T.E → Option E) (L2 : Nat → T2.E → Option E2) (Sf : (R : Type) → (T.E → Option R) → (T2.E → Option R) → (E → Option R) → T.E → Option R) (Y : (Ex → St → Option R) → E → Option R) (Y2 : (Ex → St → Option R) → E2 → Option R) (C : E2 → E)
   (h0 : ∀ a, L 0 a = none) (hs : ∀ m a, L (m + 1) a = Sf E (L m) (fun q => (L2 m q).bind fun e => some (C e)) some a) (hC : ∀ k e, Y k (C e) = Y2 k e)
   (h2 : ∀ k m q, evLoopN (evCodeL summ FU (ovr ov (evFn summ fns FU n)) (mkT (inner c) os) (inner c)) (St.norm (lv c)) m (T2.inst q) k = (L2 m q).bind (Y2 k))
   (hb : ∀ k K a, evLB (evCodeL summ FU (ovr ov (evFn summ fns FU n)) (mkT (inner c) os) (inner c)) (St.norm (lv c)) (T.inst a) K k = Sf R (fun a => K (T.inst a)) (fun q => K (T2.inst q)) (Y k) a)
   (hn : ∀ (Y : E → Option R) (K : T.E → Option E) (K2 : T2.E → Option E) a, (Sf E K K2 some a).bind Y = Sf R (fun a => (K a).bind Y) (fun q => (K2 q).bind Y) Y a) {o : Orc R} (hq : okN summ FU (evFn summ fns FU n) c o) (hc : isLoop c = true := by kernel_rfl) :
   okN summ FU (evFn summ fns FU n) c (orL T (L FU) Y o) := by
 cases c with
 | loop l b =>
   intro S k r h
   unfold orL orc at h
   split at h
   · rename_i e he
     rw [PS.dec_inst he]
     refine evLoopN_L ho (oks_ok hi) _ _ _ _ ?_
     rw [← h]
     exact lpN2 L L2 Sf C h0 hs (hC k) (h2 k) (hb k) (hn (Y k)) FU e
   · exact hq _ _ _ h
 | _ => cases hc
/-- A loop without loops in it. -/
theorem lp0 {R E : Type} {c : IC} (T : PS) (L : Nat → T.E → Option E) (Sf : (R : Type) → (T.E → Option R) → (E → Option R) → T.E → Option R) (Y : (Ex → St → Option R) → E → Option R)
   (hb : ∀ k K a, evLB (evCodeL summ FU (ovr noO (evFn summ fns FU n)) (mkT (inner c) []) (inner c)) (St.norm (lv c)) (T.inst a) K k = Sf R (fun a => K (T.inst a)) (Y k) a)
   (hn : ∀ (Y : E → Option R) (K : T.E → Option E) a, (Sf E K some a).bind Y = Sf R (fun a => (K a).bind Y) Y a) {o : Orc R} (hq : okN summ FU (evFn summ fns FU n) c o) (h0 : ∀ a, L 0 a = none := by intro _; rfl) (hs : ∀ m a, L (m + 1) a = Sf E (L m) some a := by intro _ _; rfl) (hc : isLoop c = true := by kernel_rfl) :
   okN summ FU (evFn summ fns FU n) c (orL T (L FU) Y o) := lp noO_ok (os := []) trivial T L Sf Y h0 hs hb hn hq hc
/-- Nothing is said. -/
theorem ok0 {R : Type} {call : CallT R} (c : IC) : okN summ FU call c (fun _ _ => none) := by
 unfold okN
 cases c <;> first | trivial | (intro _ _ _ h; cases h)
/-- A cut. -/
theorem jp {R E : Type} {c : IC} {ov : Nat → Option (List CV → List Blk → (CV → List Blk → Option R) → Option R)} (ho : OvrOK ov (evFn summ fns FU n)) {os : List (Orc R)} (hi : oksFrom summ FU (evFn summ fns FU n) (inner c) 0 os) (T : PS) (Sf : (R : Type) → (E → Option R) → T.E → Option R) (Y : (Ex → St → Option R) → E → Option R)
   
   (hb : ∀ k a, evJ (evCodeL summ FU (ovr ov (evFn summ fns FU n)) (mkT (inner c) os) (inner c)) (T.inst a) k = Sf R (Y k) a)
   (hn : ∀ (Y : E → Option R) a, (Sf E some a).bind Y = Sf R Y a) {o : Orc R} (hq : okN summ FU (evFn summ fns FU n) c o) (hc : isCut c = true := by kernel_rfl) :
   okN summ FU (evFn summ fns FU n) c (orL T (Sf E some) Y o) := by
 cases c with
 | cut l b =>
   intro S k r h
   unfold orL orc at h
   split at h
   · rename_i e he
     rw [PS.dec_inst he]
     refine bodyL_sound ho (oks_ok hi) ?_
     rw [← h]
     exact (hb k e).trans (hn (Y k) e).symm
   · exact hq _ _ _ h
 | _ => cases hc
end
/-! The program's functions in the evaluator's instructions. -/
theorem erase_if {p : Prop} [Decidable p] {l : List Nat} {x : IC} : (if p then IC.cut l x else x).erase = x.erase := by split <;> rfl
theorem flow_erase (wm : Nat) (ret : List Nat) : ∀ (c : IC) (ex : List (Nat × List Nat)) (out : List Nat) (es : List AEnv) (acc : Nat), (flow wm ret c ex out es acc).c.erase = c.erase
 | .skip, _, _, _, _ => rfl
 | .region _ _ _, _, _, _, _ => rfl
 | .seq a b, ex, out, es, acc => by simp only [flow, IC.erase, erase_if, flow_erase wm ret a, flow_erase wm ret b]
 | .cond c a b, ex, out, es, acc => by simp only [flow, IC.erase, erase_if, flow_erase wm ret a, flow_erase wm ret b]
 | .block id b, ex, out, es, acc => by simp only [flow, IC.erase, flow_erase wm ret b]
 | .loop l b, ex, out, es, acc => by simp only [flow, IC.erase, flow_erase wm ret b]
 | .cut l b, ex, out, es, acc => by simp only [flow, IC.erase, flow_erase wm ret b]
 | .exit _, _, _, _, _ => rfl
 | .ret, _, _, _, _ => rfl
theorem compC_erase (P : Program) (sm : Nat → Bool) : ∀ c : Code, (compC P sm c).erase = compC P sm c
 | .region _ ops draw => by
   simp only [compC]
   split
   · rfl
   · split
     · split <;> rfl
     · rfl
 | .seq a b => by simp only [compC, IC.erase, compC_erase P sm a, compC_erase P sm b]
 | .cond c a b => by simp only [compC, IC.erase, compC_erase P sm a, compC_erase P sm b]
 | .block id b => by simp only [compC, IC.erase, compC_erase P sm b]
 | .loop b => by simp only [compC, IC.erase, compC_erase P sm b]
 | .skip => rfl
 | .exit _ => rfl
 | .ret => rfl
 | .goto _ => rfl
 | .label _ => rfl
 | .scope _ => rfl
 | .refuse _ => rfl
 | .rangeFunc _ _ _ _ => rfl
def cutB (c : Bool) (n : Nat) (g : IFn) : IFn := if c = true then { g with body := .cut (List.range n) g.body } else g
def fnsP (P : Program) (sm : Nat → Bool) (w : Nat → Nat) (cf df : Nat → Bool) (f : Nat) : Option IFn := match P.funcs[f]? with
 | some fn => if df f = true ∨ fn.name = "runtime.NumGoroutine" then none else match comp P sm fn (w f) with
   | some g => some (cutB (cf f) (fn.params.size + fn.nfree) g)
   | none => none
 | none => none
theorem fnsP_ok {P : Program} {sm : Nat → Bool} {w : Nat → Nat} {cf df : Nat → Bool} : FnsOK P sm (fnsP P sm w cf df) := by
 intro f g h
 unfold fnsP at h
 split at h
 · rename_i fn hfn
   split at h
   · cases h
   · rename_i hn
     split at h
     · rename_i g' hg
       injection h with h
       subst h
       unfold comp at hg
       split at hg
       · cases hg
       · rename_i b hb
         injection hg with hg
         subst hg
         have hk : ∀ (n : Nat) (c : Bool) (g : IFn), (cutB c n g).key = g.key := by
           intro n c g
           unfold cutB IFn.key
           split <;> rfl
         rw [hk]
         unfold fnKey IFn.key
         simp only [hfn, hb, flow_erase, compC_erase]
         have : (fn.name != "runtime.NumGoroutine") = true := by simpa using (not_or.1 hn).2
         rw [this]
     · cases h
 · cases h
def fO (fns : Nat → Option IFn) (f : Nat) : IFn := match fns f with | some g => g | none => ⟨0, [], .skip⟩
abbrev fB (fns : Nat → Option IFn) (f : Nat) : IC := (fO fns f).body
section
variable {summ : Nat → Option Summ} {fns : Nat → Option IFn} {d : Nat}
theorem runG {R : Type} {N : Nat} {ov : Nat → Option (List CV → List Blk → (CV → List Blk → Option R) → Option R)} (ho : OvrOK ov (evFn summ fns FU d)) {os : List (Orc R)} (hos : oksFrom summ FU (evFn summ fns FU d) (fB fns N) 0 os) {args : List CV} {hp : List Blk} {k : CV → List Blk → Option R} {r : R}
   (h : evFnL summ FU (ovr ov (evFn summ fns FU d)) (mkT (fB fns N) os) (fO fns N) args hp k = some r) (hf : (fns N).isSome = true := by kernel_rfl) : evFn summ fns FU (d + 1) N args hp k = some r := by
 obtain ⟨fn, hfn⟩ := Option.isSome_iff_exists.1 hf
 have e : fO fns N = fn := by unfold fO; rw [hfn]
 unfold fB at hos h
 rw [e] at hos h
 exact evFnL_sound hfn ho (oks_ok hos) h
end
theorem pvG {α : Type} {o : Option α} {e y : α} (h : o = some y) : o.isSome = true ∧ o.getD e = y := by subst h; exact ⟨rfl, rfl⟩
/-- Summaries by their numbers. -/
def smL : List (Nat × Summ) → Nat → Option Summ
 | [], _ => none
 | p :: l, f => bif Nat.beq f p.1 then some p.2 else smL l f
def SmAll (P : Program) : List (Nat × Summ) → Prop
 | [] => True
 | p :: l => SummOK P p.1 p.2 ∧ SmAll P l
theorem smL_ok {P : Program} : ∀ {l : List (Nat × Summ)}, SmAll P l → ∀ f s, smL l f = some s → SummOK P f s
 | [], _, f, s, h => by cases h
 | p :: l, h, f, s, e => by
   unfold smL at e
   cases hb : Nat.beq f p.1
   · rw [hb] at e; exact smL_ok h.2 f s e
   · rw [hb] at e
     injection e with e
     subst e
     rw [Nat.eq_of_beq_eq_true hb]
     exact h.1
theorem callG {P : Program} {sm : Nat → Bool} {w : Nat → Nat} {cf df : Nat → Bool} (hm : P.follows .mixedOrders = true) {l : List (Nat × Summ)} (h : SmAll P l) {R : Type} (n base : Nat) : CallOK P base (evFn (R := R) (smL l) (fnsP P sm w cf df) FU n) :=
 ev_sound hm (smL_ok h) (fun f s e => (smL_ok h f s e).2.1) fnsP_ok n
theorem sokS {P : Program} {sm : Nat → Bool} {w : Nat → Nat} {cf df : Nat → Bool} (hm : P.follows .mixedOrders = true) {l : List (Nat × Summ)} {f n : Nat} {ts rs : List Ty} {F : HDen ts → Option (HDen rs)}
   (h : ∀ x y, F x = some y → evFn (smL l) (fnsP P sm w cf df) FU n f (ofH ts x) [] (pureK rs) = some y) (hl : SmAll P l) (hcb : callable P f = true := by kernel_rfl) : SummOK P f (shS ts rs (fun x => (F x).isSome) (fun x => (F x).getD (dfH rs))) :=
 summ_sh (fun _ => rfl) (fun _ => rfl) (callG hm hl n) hcb h
theorem sokN {P : Program} {sm : Nat → Bool} {w : Nat → Nat} {cf df : Nat → Bool} (hm : P.follows .mixedOrders = true) {l : List (Nat × Summ)} {f n : Nat} {ts rs : List Ty} {F : HDen ts → Option (HDen rs)}
   (h : ∀ x y, F x = some y → evFn (smL l) (fnsP P sm w cf df) FU n f (ofH ts x) [] (pureK rs) = some y) (hl : SmAll P l) (hrs : (rs.all fun t => !t.slices) = true := by decide) (hcb : callable P f = true := by kernel_rfl) : SummOK P f (shN ts rs (fun x => (F x).isSome) (fun x => (F x).getD (dfH rs))) :=
 summ_shN hrs (fun _ => rfl) (fun _ => rfl) (callG hm hl n) hcb h
end Go.Ev
