/- Part of a typed evaluator of the program's functions, proved sound. No condition. -/
import Derived.Test.YtaaagikcbnbncaaGreatE4P1
import Derived.IntWalk
import Derived.Shelf.SlicesE.Clone
import Derived.Shelf.Spec.SlicesGrow
set_option maxRecDepth 10000
set_option linter.unusedVariables false
set_option linter.unusedSimpArgs false
namespace Go.Ev
open Go
/-! Loops taken over by oracles. -/
section
variable {R : Type}
/-- The rest of a loop at a state that is in normal form. -/
def evLoopN (body : St → (Ex → St → Option R) → Option R) (nrm : St → St) : Nat → St → (Ex → St → Option R) → Option R
 | 0, _, _ => none
 | m + 1, T, k => body T fun ex S' => match ex with
   | .normal => evLoopN body nrm m (nrm S') k
   | e => k e S'
theorem evLoop_eq (body : St → (Ex → St → Option R) → Option R) (nrm : St → St) : ∀ m S k, evLoop body nrm m S k = evLoopN body nrm m (nrm S) k
 | 0, _, _ => rfl
 | m + 1, S, k => by
   simp only [evLoop, evLoopN]
   congr 1
   funext ex S'
   cases ex with
   | normal => exact evLoop_eq body nrm m S' k
   | _ => rfl
inductive LT (R : Type) where
 | nil
 | node (a b : LT R)
 | orc (o : St → (Ex → St → Option R) → Option R)
variable (summ : Nat → Option Summ) (fu : Nat) (call : Nat → List CV → List Blk → (CV → List Blk → Option R) → Option R)
def evCodeL : LT R → IC → St → (Ex → St → Option R) → Option R
 | .nil, c, S, k => evCode summ fu call c S k
 | .node x y, .seq a b, S, k => evCodeL x a S fun ex S' => match ex with | .normal => evCodeL y b S' k | e => k e S'
 | .node x y, .cond c a b, S, k => match c with
   | .tmp t => match S.sl.getD t .junk with
     | .bool v => bif v then evCodeL x a (S.put (some t) (.bool true)) k else evCodeL y b (S.put (some t) (.bool false)) k
     | _ => none
   | .cst (.bool v) => bif v then evCodeL x a S k else evCodeL y b S k
   | _ => none
 | .node x _, .block id b, S, k => evCodeL x b S fun ex S' => match ex with
   | .exit j => if j = id then k .normal S' else k (.exit j) S'
   | e => k e S'
 | .orc o, .loop live _, S, k => o (St.norm live S) k
 | .orc o, .cut live _, S, k => o (St.norm live S) k
 | .node x _, .cut live b, S, k => evCodeL x b (St.norm live S) k
 | _, _, _, _ => none
/-- The oracles tell the truth. -/
def LTok : LT R → IC → Prop
 | .nil, _ => True
 | .node x y, .seq a b => LTok x a ∧ LTok y b
 | .node x y, .cond _ a b => LTok x a ∧ LTok y b
 | .node x _, .block _ b => LTok x b
 | .orc o, .loop live b => ∀ T k r, o T k = some r → evLoopN (evCode summ fu call b) (St.norm live) fu T k = some r
 | .orc o, .cut _ b => ∀ T k r, o T k = some r → evCode summ fu call b T k = some r
 | .node x _, .cut _ b => LTok x b
 | _, _ => True
/-- Monotone in what comes after. -/
def Kle (k k' : Ex → St → Option R) : Prop := ∀ e S r, k e S = some r → k' e S = some r
def CallLe (call call2 : Nat → List CV → List Blk → (CV → List Blk → Option R) → Option R) : Prop := ∀ f cs hp (k k' : CV → List Blk → Option R) r, (∀ v h r, k v h = some r → k' v h = some r) → call f cs hp k = some r → call2 f cs hp k' = some r
theorem gd_mono {c : Bool} {x y : Option R} {r : R} (h : x = some r → y = some r) (hx : gd c x = some r) : gd c y = some r := by
 cases c
 · cases hx
 · exact h hx
variable {summ fu call} {call2 : Nat → List CV → List Blk → (CV → List Blk → Option R) → Option R}
theorem evOps_monoF (hc : CallLe call call2) (base : Nat) : ∀ (os : List IOper) (i : Nat) (log : List LogE) (S : St) (k k' : St → Option R) (r : R), (∀ S r, k S = some r → k' S = some r) → evOps summ call false base i os log S k = some r → evOps summ call2 false base i os log S k' = some r := by
 intro os
 induction os with
 | nil =>
   intro i log S k k' r hk h
   unfold evOps at h ⊢
   exact hk _ _ h
 | cons o os ih =>
   intro i log S k k' r hk h
   have hrun : ∀ S : St, (match o.op with
     | .call f => call f (o.args.map S.eval) S.hp fun v hp => evOps summ call false base (i + 1) os log ({ S with hp := hp }.put o.dst v) k
     | .callv => match o.args.map S.eval with
       | .clo f c :: vs => if capsOK c = true then call f (vs ++ unchain c) S.hp fun v hp => evOps summ call false base (i + 1) os log ({ S with hp := hp }.put o.dst v) k else none
       | _ => none
     | op => match o.args.map S.eval with
       | vals => match S.hp.length with
         | nid => match act summ op vals S.look nid with
           | none => none
           | some out => gd out.ok (evOps summ call false base (i + 1) os log (S.apply o.dst out) k)) = some r →
     (match o.op with
     | .call f => call2 f (o.args.map S.eval) S.hp fun v hp => evOps summ call2 false base (i + 1) os log ({ S with hp := hp }.put o.dst v) k'
     | .callv => match o.args.map S.eval with
       | .clo f c :: vs => if capsOK c = true then call2 f (vs ++ unchain c) S.hp fun v hp => evOps summ call2 false base (i + 1) os log ({ S with hp := hp }.put o.dst v) k' else none
       | _ => none
     | op => match o.args.map S.eval with
       | vals => match S.hp.length with
         | nid => match act summ op vals S.look nid with
           | none => none
           | some out => gd out.ok (evOps summ call2 false base (i + 1) os log (S.apply o.dst out) k')) = some r := by
     intro S h
     split at h
     · exact hc _ _ _ _ _ _ (fun v hp r => ih _ _ _ _ _ _ hk) h
     · split at h
       · rename_i hv
         split at h
         · rename_i hcap; simp only [hcap, if_true]; exact hc _ _ _ _ _ _ (fun v hp r => ih _ _ _ _ _ _ hk) h
         · cases h
       · cases h
     · dsimp only at h ⊢
       split at h
       · cases h
       · rename_i out hout
         exact gd_mono (ih _ _ _ _ _ _ hk) h
   unfold evOps at h ⊢
   cases hg : o.guard with
   | none => rw [hg] at h; exact hrun _ h
   | some g =>
     obtain ⟨d, want⟩ := g
     rw [hg] at h
     simp only [] at h ⊢
     split at h
     · rename_i b hb
       cases b <;> cases want
       · exact hrun _ h
       · exact ih _ _ _ _ _ _ hk h
       · exact ih _ _ _ _ _ _ hk h
       · exact hrun _ h
     · exact ih _ _ _ _ _ _ hk h
     · cases h
theorem evOps_monoT (hc : CallLe call call2) (base : Nat) : ∀ (os : List IOper) (i : Nat) (log : List LogE) (S : St) (k k' : St → Option R) (r : R), (∀ S r, k S = some r → k' S = some r) → evOps summ call true base i os log S k = some r → evOps summ call2 true base i os log S k' = some r := by
 intro os
 induction os with
 | nil =>
   intro i log S k k' r hk h
   unfold evOps at h ⊢
   exact gd_mono (hk _ _) h
 | cons o os ih =>
   intro i log S k k' r hk h
   have hrun : ∀ S : St, (match o.args.map S.eval with
       | vals => match base + o.rank with
         | nid => match act summ o.op vals S.look nid with
           | none => none
           | some out => gd (drawChk S o.op nid out) (gd out.ok (evOps summ call true base (i + 1) os (log ++ [logOf i o o.op vals nid out]) (S.apply o.dst out) k))) = some r →
     (match o.args.map S.eval with
       | vals => match base + o.rank with
         | nid => match act summ o.op vals S.look nid with
           | none => none
           | some out => gd (drawChk S o.op nid out) (gd out.ok (evOps summ call2 true base (i + 1) os (log ++ [logOf i o o.op vals nid out]) (S.apply o.dst out) k'))) = some r := by
     intro S h
     dsimp only at h ⊢
     split at h
     · cases h
     · rename_i out hout
       exact gd_mono (gd_mono (ih _ _ _ _ _ _ hk)) h
   unfold evOps at h ⊢
   cases hg : o.guard with
   | none => rw [hg] at h; exact hrun _ h
   | some g =>
     obtain ⟨d, want⟩ := g
     rw [hg] at h
     simp only [] at h ⊢
     split at h
     · rename_i b hb
       cases b <;> cases want
       · exact hrun _ h
       · exact ih _ _ _ _ _ _ hk h
       · exact ih _ _ _ _ _ _ hk h
       · exact hrun _ h
     · exact ih _ _ _ _ _ _ hk h
     · cases h
theorem evLoop_mono {body body2 : St → (Ex → St → Option R) → Option R} {nrm : St → St} (hb : ∀ S k k' r, Kle k k' → body S k = some r → body2 S k' = some r) : ∀ m S k k' r, Kle k k' → evLoop body nrm m S k = some r → evLoop body2 nrm m S k' = some r
 | 0, _, _, _, _, _, h => by cases h
 | m + 1, S, k, k', r, hk, h => by
   refine hb _ _ _ _ (fun e S' r' h' => ?_) h
   cases e with
   | normal => exact evLoop_mono hb m _ _ _ _ hk h'
   | _ => exact hk _ _ _ h'
theorem evCode_mono (hc : CallLe call call2) : ∀ (c : IC) (S : St) (k k' : Ex → St → Option R) (r : R), Kle k k' → evCode summ fu call c S k = some r → evCode summ fu call2 c S k' = some r
 | .skip, _, _, _, _, hk, h => hk _ _ _ h
 | .region draw _ ops, S, _, _, _, hk, h => by
   unfold evCode at h ⊢
   cases draw
   · exact evOps_monoF hc _ _ _ _ _ _ _ _ (fun S r => hk .normal S r) h
   · exact gd_mono (evOps_monoT hc _ _ _ _ _ _ _ _ (fun S r => hk .normal S r)) h
 | .seq a b, S, _, _, _, hk, h => by
   unfold evCode at h ⊢
   refine evCode_mono hc a _ _ _ _ (fun e S' r' h' => ?_) h
   cases e with
   | normal => exact evCode_mono hc b _ _ _ _ hk h'
   | _ => exact hk _ _ _ h'
 | .cond c a b, S, _, _, _, hk, h => by
   unfold evCode at h ⊢
   split at h
   · split at h
     · rename_i x hx
       cases x
       · exact evCode_mono hc b _ _ _ _ hk h
       · exact evCode_mono hc a _ _ _ _ hk h
     · cases h
   · rename_i x
     cases x
     · exact evCode_mono hc b _ _ _ _ hk h
     · exact evCode_mono hc a _ _ _ _ hk h
   · cases h
 | .block id b, S, _, _, _, hk, h => by
   unfold evCode at h ⊢
   refine evCode_mono hc b _ _ _ _ (fun e S' r' h' => ?_) h
   cases e with
   | exit j =>
     simp only [] at h' ⊢
     split at h'
     · rename_i hj; simp only [hj, if_true]; exact hk _ _ _ h'
     · rename_i hj; simp only [hj, if_false]; exact hk _ _ _ h'
   | _ => exact hk _ _ _ h'
 | .loop live b, S, _, _, _, hk, h => by
   unfold evCode at h ⊢
   exact evLoop_mono (fun S k k' r => evCode_mono hc b S k k' r) _ _ _ _ _ hk h
 | .cut live b, S, _, _, _, hk, h => by
   unfold evCode at h ⊢
   exact evCode_mono hc b _ _ _ _ hk h
 | .exit _, _, _, _, _, hk, h => hk _ _ _ h
 | .ret, _, _, _, _, hk, h => hk _ _ _ h
theorem evCodeL_sound (hc : CallLe call call2) (hc2 : CallLe call2 call2) : ∀ (t : LT R) (c : IC) (S : St) (k k' : Ex → St → Option R) (r : R), LTok summ fu call2 t c → Kle k k' → evCodeL summ fu call t c S k = some r → evCode summ fu call2 c S k' = some r
 | .nil, c, S, k, k', r, _, hk, h => evCode_mono hc c S k k' r hk (by unfold evCodeL at h; exact h)
 | .node x y, .seq a b, S, k, k', r, ht, hk, h => by
   unfold evCodeL at h; unfold evCode
   refine evCodeL_sound hc hc2 x a _ _ _ _ ht.1 (fun e S' r' h' => ?_) h
   cases e with
   | normal => exact evCodeL_sound hc hc2 y b _ _ _ _ ht.2 hk h'
   | _ => exact hk _ _ _ h'
 | .node x y, .cond c a b, S, k, k', r, ht, hk, h => by
   unfold evCodeL at h; unfold evCode
   split at h
   · split at h
     · rename_i v hx
       simp only [hx]
       cases v
       · exact evCodeL_sound hc hc2 y b _ _ _ _ ht.2 hk h
       · exact evCodeL_sound hc hc2 x a _ _ _ _ ht.1 hk h
     · cases h
   · rename_i v
     cases v
     · exact evCodeL_sound hc hc2 y b _ _ _ _ ht.2 hk h
     · exact evCodeL_sound hc hc2 x a _ _ _ _ ht.1 hk h
   · cases h
 | .node x _, .block id b, S, k, k', r, ht, hk, h => by
   unfold evCodeL at h; unfold evCode
   refine evCodeL_sound hc hc2 x b _ _ _ _ ht (fun e S' r' h' => ?_) h
   cases e with
   | exit j =>
     simp only [] at h' ⊢
     split at h'
     · rename_i hj; simp only [hj, if_true]; exact hk _ _ _ h'
     · rename_i hj; simp only [hj, if_false]; exact hk _ _ _ h'
   | _ => exact hk _ _ _ h'
 | .orc o, .loop live b, S, k, k', r, ht, hk, h => by
   unfold evCodeL at h; unfold evCode
   have := ht _ _ _ h
   rw [← evLoop_eq] at this
   exact evLoop_mono (fun S k k' r => evCode_mono hc2 b S k k' r) _ _ _ _ _ hk this
 | .orc o, .cut live b, S, k, k', r, ht, hk, h => by
   unfold evCodeL at h; unfold evCode
   exact evCode_mono hc2 b _ _ _ _ hk (ht _ _ _ h)
 | .node x _, .cut live b, S, k, k', r, ht, hk, h => by
   unfold evCodeL at h; unfold evCode
   exact evCodeL_sound hc hc2 x b _ _ _ _ ht hk h
 | .node _ _, .skip, _, _, _, _, _, _, h => by unfold evCodeL at h; cases h
 | .node _ _, .region _ _ _, _, _, _, _, _, _, h => by unfold evCodeL at h; cases h
 | .node _ _, .loop _ _, _, _, _, _, _, _, h => by unfold evCodeL at h; cases h
 | .node _ _, .exit _, _, _, _, _, _, _, h => by unfold evCodeL at h; cases h
 | .node _ _, .ret, _, _, _, _, _, _, h => by unfold evCodeL at h; cases h
 | .orc _, .skip, _, _, _, _, _, _, h => by unfold evCodeL at h; cases h
 | .orc _, .region _ _ _, _, _, _, _, _, _, h => by unfold evCodeL at h; cases h
 | .orc _, .seq _ _, _, _, _, _, _, _, h => by unfold evCodeL at h; cases h
 | .orc _, .cond _ _ _, _, _, _, _, _, _, h => by unfold evCodeL at h; cases h
 | .orc _, .block _ _, _, _, _, _, _, _, h => by unfold evCodeL at h; cases h
 | .orc _, .exit _, _, _, _, _, _, _, h => by unfold evCodeL at h; cases h
 | .orc _, .ret, _, _, _, _, _, _, h => by unfold evCodeL at h; cases h
variable (summ fu) in
theorem evFn_mono (fns : Nat → Option IFn) : ∀ n, CallLe (evFn (R := R) summ fns fu n) (evFn (R := R) summ fns fu n)
 | 0, _, _, _, _, _, _, _, h => by cases h
 | n + 1, f, cs, hp, k, k', r, hk, h => by
   unfold evFn at h ⊢
   split at h
   · cases h
   · rename_i fn hfn
     simp only [hfn]
     refine evCode_mono (evFn_mono fns n) _ _ _ _ _ (fun e S r' h' => ?_) h
     split at h'
     · cases h'
     · rename_i hne
       split at h'
       · cases h'
       · rename_i l hl
         cases e with
         | exit j => exact absurd rfl (hne j)
         | _ => exact hk _ _ _ h'
/-- A function's run, its loops taken over. -/
def evFnL (summ : Nat → Option Summ) (fu : Nat) (call : Nat → List CV → List Blk → (CV → List Blk → Option R) → Option R) (t : LT R) (fn : IFn) (args : List CV) (hp : List Blk) (k : CV → List Blk → Option R) : Option R :=
 evCodeL summ fu call t fn.body { sl := args ++ List.replicate (fn.ntmps - args.length) .junk, hp := hp, fb := hp.length } fun ex S =>
     match ex with
     | .exit _ => none
     | _ => match resOf S fn.results with
       | none => none
       | some l => match compact S.fb (l.flatMap CV.refs) S.hp with
         | keep => k ((tupOf l).ren S.fb keep) (compHp S.fb keep S.hp)
/-- Calls, some of them taken over. -/
def ovr (o : Nat → Option (List CV → List Blk → (CV → List Blk → Option R) → Option R)) (call : Nat → List CV → List Blk → (CV → List Blk → Option R) → Option R) : Nat → List CV → List Blk → (CV → List Blk → Option R) → Option R := fun f args hp k => match o f with
 | some g => g args hp k
 | none => call f args hp k
def OvrOK (o : Nat → Option (List CV → List Blk → (CV → List Blk → Option R) → Option R)) (call : Nat → List CV → List Blk → (CV → List Blk → Option R) → Option R) : Prop := ∀ f g, o f = some g → ∀ args hp k r, g args hp k = some r → call f args hp k = some r
theorem ovr_le {o : Nat → Option (List CV → List Blk → (CV → List Blk → Option R) → Option R)} (hm : CallLe call call) (ho : OvrOK o call) : CallLe (ovr o call) call := by
 intro f cs hp k k' r hk h
 unfold ovr at h
 split at h
 · rename_i g hg
   exact hm f cs hp k k' r hk (ho f g hg _ _ _ _ h)
 · exact hm f cs hp k k' r hk h
def noO : Nat → Option (List CV → List Blk → (CV → List Blk → Option R) → Option R) := fun _ => none
theorem noO_ok : OvrOK noO call := by intro f g h; cases h
theorem evFnL_sound {fns : Nat → Option IFn} {n f : Nat} {fn : IFn} (hf : fns f = some fn) {t : LT R} {o : Nat → Option (List CV → List Blk → (CV → List Blk → Option R) → Option R)} (ho : OvrOK o (evFn summ fns fu n)) (ht : LTok summ fu (evFn summ fns fu n) t fn.body) {args : List CV} {hp : List Blk} {k : CV → List Blk → Option R} {r : R}
   (h : evFnL summ fu (ovr o (evFn summ fns fu n)) t fn args hp k = some r) : evFn summ fns fu (n + 1) f args hp k = some r := by
 unfold evFn
 simp only [hf]
 exact evCodeL_sound (ovr_le (evFn_mono summ fu fns n) ho) (evFn_mono summ fu fns n) t _ _ _ _ _ ht (fun _ _ _ h => h) h
/-- A loop's body, its inner loops and some calls taken over. -/
theorem bodyL_sound {fns : Nat → Option IFn} {n : Nat} {b : IC} {t : LT R} {o : Nat → Option (List CV → List Blk → (CV → List Blk → Option R) → Option R)} (ho : OvrOK o (evFn summ fns fu n)) (ht : LTok summ fu (evFn summ fns fu n) t b) {T : St} {k : Ex → St → Option R} {r : R}
   (h : evCodeL summ fu (ovr o (evFn summ fns fu n)) t b T k = some r) : evCode summ fu (evFn summ fns fu n) b T k = some r :=
 evCodeL_sound (ovr_le (evFn_mono summ fu fns n) ho) (evFn_mono summ fu fns n) t _ _ _ _ _ ht (fun _ _ _ h => h) h
end
end Go.Ev
namespace Go.Ev
open Go Go.RowKit
/-- A function that answers a bool, at pure arguments. -/
theorem ev_law {P : Program} {f : Nat} {call : Nat → List CV → List Blk → (CV → List Blk → Option Bool) → Option Bool} (hcall : ∀ base, CallOK P base call) {cs : List CV} {b : Bool} (hev : call f cs [] (fun v _ => match v with | .bool b => some b | _ => none) = some b)
   {w : World} {I : Nat → Prop} (himm : ∀ g, I g → g < w.heap.size) {vs : List Value} (hvs : Vs { w := w, I := I, μ := fun _ => 0, σ := fun _ => undef, live := fun _ => False } cs vs) :
   Calls P f vs.toArray w fun e w' => e = .returned (.bool b) ∧ Below w.heap.size w w' := by
 have hf : ∀ b, lookH [] b = .fresh := fun b => by simp [lookH]
 have H : HS w.heap.size { w := w, I := I, μ := fun _ => 0, σ := fun _ => undef, live := fun _ => False } [] := by
   refine ⟨fun b => by rw [hf]; trivial, fun b b' g h => by rw [hf] at h; exact h.elim, fun b g h => by rw [hf] at h; exact h.elim, himm, fun b => ?_, Nat.le_refl _⟩
   show False ↔ _
   simp [hf]
 refine Calls.mono ((hcall _ f cs [] _ _ hev _ vs H hvs).2) ?_
 rintro e w' ⟨v, c, hp1, E1, rfl, hk, rfl, hle1, _, hv, _⟩
 split at hk
 · simp at hk; subst hk
   exact ⟨by rw [VRep_bool.1 hv], hle1.bel⟩
 · cases hk
/-! Functions of pure data: their arguments and results as Lean's own. -/
@[reducible] def HDen : List Ty → Type
 | [] => Unit
 | t :: ts => t.den × HDen ts
def ofH : (ts : List Ty) → HDen ts → List CV
 | [], _ => []
 | t :: ts, x => ofP t x.1 :: ofH ts x.2
def toH : (ts : List Ty) → List CV → Option (HDen ts)
 | [], [] => some ()
 | t :: ts, c :: cs => match toPH noLook t c, toH ts cs with | some x, some l => some (x, l) | _, _ => none
 | _, _ => none
theorem toPH_ofP (look : Look) : ∀ (t : Ty) (x : t.den), toPH look t (ofP t x) = some x := by
 intro t x
 cases t <;> simp [toPH, ofP]
theorem toH_ofH : ∀ (ts : List Ty) (x : HDen ts), toH ts (ofH ts x) = some x
 | [], _ => rfl
 | t :: ts, x => by simp [toH, ofH, toPH_ofP, toH_ofH ts x.2]
theorem purify_ofH {look : Look} : ∀ {ts : List Ty} {cs cs' : List CV}, purify look ts cs = some cs' → ∃ x, cs' = ofH ts x
 | [], [], _, h => ⟨(), by simp [purify] at h; simp [ofH, h]⟩
 | [], _ :: _, _, h => by simp [purify] at h
 | _ :: _, [], _, h => by simp [purify] at h
 | t :: ts, c :: cs, cs', h => by
   simp only [purify] at h
   split at h
   · rename_i x l hx hl
     simp at h; subst h
     obtain ⟨y, rfl⟩ := purify_ofH hl
     exact ⟨(x, y), rfl⟩
   · cases h
/-- A summary: what must hold of the arguments, and what the results are. -/
def fS (ts rs : List Ty) (pre : HDen ts → Bool) (fn : HDen ts → HDen rs) : Summ := pureS ts fun cs => match toH ts cs with
 | some x => some (pre x, ofH rs (fn x))
 | none => none
/-- What a run must give. -/
def Rets (rs : List Ty) (r : Option (CV × List Blk)) (y : HDen rs) : Prop := ∃ l0 hp2, r = some (tupOf l0, hp2) ∧ purify (lookH hp2) rs l0 = some (ofH rs y) ∧ subsOK (lookH hp2) l0 = true
theorem summ_fn {P : Program} {f : Nat} {ts rs : List Ty} {pre : HDen ts → Bool} {fn : HDen ts → HDen rs} {call : Nat → List CV → List Blk → (CV → List Blk → Option (CV × List Blk)) → Option (CV × List Blk)} (hcall : ∀ base, CallOK P base call) (hcb : callable P f = true)
   (h : ∀ x, pre x = true → Rets rs (call f (ofH ts x) [] fun v h => some (v, h)) (fn x)) : SummOK P f (fS ts rs pre fn) := by
 refine summ_of_ev (rs := rs) hcall hcb ?_
 intro look cs cs' l hcs hF
 obtain ⟨x, rfl⟩ := purify_ofH hcs
 rw [toH_ofH] at hF
 simp only [Option.some.injEq, Prod.mk.injEq] at hF
 obtain ⟨hp, rfl⟩ := hF
 exact h x hp
theorem Rets.of {rs : List Ty} {r : Option (CV × List Blk)} {y : HDen rs} {l0 : List CV} {hp2 : List Blk} (h : r = some (tupOf l0, hp2)) (h1 : purify (lookH hp2) rs l0 = some (ofH rs y)) (h2 : subsOK (lookH hp2) l0 = true) : Rets rs r y := ⟨l0, hp2, h, h1, h2⟩
/-- A loop's body: what comes next is either its head again, in normal form, or what comes after. -/
def evLB {R : Type} (body : St → (Ex → St → Option R) → Option R) (nrm : St → St) (T : St) (K0 : St → Option R) (K1 : Ex → St → Option R) : Option R := body T fun ex S => match ex with | .normal => K0 (nrm S) | e => K1 e S
theorem evLoopN_succ {R : Type} (body : St → (Ex → St → Option R) → Option R) (nrm : St → St) (m : Nat) (T : St) (k : Ex → St → Option R) : evLoopN body nrm (m + 1) T k = evLB body nrm T (fun S => evLoopN body nrm m S k) k := by
 rw [evLoopN, evLB]
 all_goals congr 1
theorem gd_some {R : Type} {c : Bool} {x : Option R} {r : R} (h : gd c x = some r) : c = true ∧ x = some r := by
 cases c
 · cases h
 · exact ⟨rfl, h⟩
/-- Something is found below n; where first (from j on, d tries). -/
def fndB (p : Nat → Bool) : Nat → Nat → Bool
 | _, 0 => false
 | j, d + 1 => p j || fndB p (j + 1) d
def fstB (p : Nat → Bool) : Nat → Nat → Nat
 | j, 0 => j
 | j, d + 1 => bif p j then j else fstB p (j + 1) d
section
variable {R : Type} {body : St → (Ex → St → Option R) → Option R} {nrm : St → St}
/-- What a loop that runs through makes of its variables. -/
def foldB {α : Type} (step : Nat → α → α) : Nat → Nat → α → α
 | _, 0, a => a
 | j, d + 1, a => foldB step (j + 1) d (step j a)
end
/-- One function taken over. -/
def only {R : Type} (f : Nat) (g : List CV → List Blk → (CV → List Blk → Option R) → Option R) : Nat → Option (List CV → List Blk → (CV → List Blk → Option R) → Option R) := fun f' => bif f' == f then some g else none
theorem room_ok {n b : Nat} (h : n * b ≤ 140737488355328) (h2 : n ≤ 140737488355328) : room n b = true := by simp [room, h, h2]
theorem evLoopN_L {R : Type} {summ : Nat → Option Summ} {fu : Nat} {fns : Nat → Option IFn} {n : Nat} {b : IC} {t : LT R} {o : Nat → Option (List CV → List Blk → (CV → List Blk → Option R) → Option R)} (ho : OvrOK o (evFn summ fns fu n)) (ht : LTok summ fu (evFn summ fns fu n) t b) {nrm : St → St} :
   ∀ m T k r, evLoopN (evCodeL summ fu (ovr o (evFn summ fns fu n)) t b) nrm m T k = some r → evLoopN (evCode summ fu (evFn summ fns fu n) b) nrm m T k = some r
 | 0, _, _, _, h => by cases h
 | m + 1, T, k, r, h => by
   rw [evLoopN] at h ⊢
   refine evCodeL_sound (ovr_le (evFn_mono summ fu fns n) ho) (evFn_mono summ fu fns n) t b T _ _ r ht (fun e S r' h' => ?_) h
   cases e with
   | normal => exact evLoopN_L ho ht m _ k r' h'
   | _ => exact h'
/-! States by their live slots. -/
def CV.isJunk : CV → Bool | .junk => true | _ => false
def fill (n : Nat) (asg : List (Nat × CV)) : List CV := (List.range n).map fun i => (asg.lookup i).getD .junk
def shapeOK (T : St) (n : Nat) (live : List Nat) (fb : Nat) : Bool := T.sl.length == n && (T.fb == fb && (List.range n).all fun i => live.contains i || (T.sl.getD i .junk).isJunk)
def allAt (sl : List CV) : List (Nat × CV) → Prop
 | [] => True
 | p :: r => sl.getD p.1 .junk = p.2 ∧ allAt sl r
theorem allAt_mem {sl : List CV} : ∀ {asg : List (Nat × CV)} {i : Nat} {c : CV}, allAt sl asg → asg.lookup i = some c → sl.getD i .junk = c
 | [], _, _, _, h => by simp at h
 | p :: r, i, c, ⟨h1, h2⟩, h => by
   rw [List.lookup_cons] at h
   split at h
   · rename_i he
     simp at h; subst h
     rw [beq_iff_eq.1 he]; exact h1
   · exact allAt_mem h2 h
theorem lookup_none {asg : List (Nat × CV)} {i : Nat} (h : asg.lookup i = none) : (asg.map (·.1)).contains i = false := by
 induction asg with
 | nil => rfl
 | cons p r ih =>
   rw [List.lookup_cons] at h
   split at h
   · cases h
   · rename_i he
     rw [List.map_cons, List.contains_cons, ih h, he]; rfl
theorem st_of {T : St} {n fb : Nat} {asg : List (Nat × CV)} {hp : List Blk} (hs : shapeOK T n (asg.map (·.1)) fb = true) (ha : allAt T.sl asg) (hh : T.hp = hp) : T = ⟨fill n asg, hp, fb⟩ := by
 unfold shapeOK at hs
 simp only [Bool.and_eq_true, beq_iff_eq] at hs
 obtain ⟨h1, h2, h3⟩ := hs
 obtain ⟨sl, hp', fb'⟩ := T
 simp only at h1 h2 h3 ha hh
 subst h2 hh
 congr 1
 refine List.ext_getElem (by simp [fill, h1]) fun i hi hi2 => ?_
 have hin : i < n := by omega
 have hg : sl.getD i .junk = sl[i] := by simp [List.getD, hi]
 simp only [fill, List.getElem_map, List.getElem_range]
 cases hl : asg.lookup i with
 | some c => rw [← hg, allAt_mem ha hl]; rfl
 | none =>
   have := List.all_eq_true.1 h3 i (by simpa using hin)
   rw [lookup_none hl, Bool.false_or, hg] at this
   cases hc : sl[i] <;> rw [hc] at this <;> first | rfl | cases this
end Go.Ev
namespace Go.Ev
open Go Go.RowKit
/-! What comes after a run does not matter to it; functions as Lean's own; laws. -/
def FU : Nat := 4611686018427387904
abbrev CallT (R : Type) := Nat → List CV → List Blk → (CV → List Blk → Option R) → Option R
section
variable (summ : Nat → Option Summ) (fu : Nat)
/-- A run that answers for one continuation answers for all. -/
def NatC (c : ∀ R, CallT R) : Prop := ∀ R f cs hp (k : CV → List Blk → Option R) r, c R f cs hp k = some r → ∃ v h, k v h = some r ∧ ∀ R' (k' : CV → List Blk → Option R') r', k' v h = some r' → c R' f cs hp k' = some r'
def NatS (α : Type) (c : ∀ R, (α → Option R) → Option R) : Prop := ∀ R (k : α → Option R) r, c R k = some r → ∃ x, k x = some r ∧ ∀ R' (k' : α → Option R') r', k' x = some r' → c R' k' = some r'
def NatE (c : ∀ R, (Ex → St → Option R) → Option R) : Prop := ∀ R (k : Ex → St → Option R) r, c R k = some r → ∃ e S, k e S = some r ∧ ∀ R' (k' : Ex → St → Option R') r', k' e S = some r' → c R' k' = some r'
variable {summ fu} {c : ∀ R, CallT R}
theorem evOps_natF (hc : NatC c) (base : Nat) : ∀ (os : List IOper) (i : Nat) (log : List LogE) (S : St), NatS St fun R k => evOps summ (c R) false base i os log S k := by
 intro os
 induction os with
 | nil =>
   intro i log S R k r h
   unfold evOps at h
   exact ⟨S, h, fun R' k' r' h' => by unfold evOps; exact h'⟩
 | cons o os ih =>
   intro i log S R k r h
   have hrun : ∀ S : St, NatS St fun R k => (match o.op with
     | .call f => c R f (o.args.map S.eval) S.hp fun v hp => evOps summ (c R) false base (i + 1) os log ({ S with hp := hp }.put o.dst v) k
     | .callv => match o.args.map S.eval with
       | .clo f cc :: vs => if capsOK cc = true then c R f (vs ++ unchain cc) S.hp fun v hp => evOps summ (c R) false base (i + 1) os log ({ S with hp := hp }.put o.dst v) k else none
       | _ => none
     | op => match o.args.map S.eval with
       | vals => match S.hp.length with
         | nid => match act summ op vals S.look nid with
           | none => none
           | some out => gd out.ok (evOps summ (c R) false base (i + 1) os log (S.apply o.dst out) k)) := by
     intro S R k r h
     split at h
     · obtain ⟨v, hp, h1, h2⟩ := hc _ _ _ _ _ _ h
       obtain ⟨x, h3, h4⟩ := ih _ _ _ _ _ _ h1
       exact ⟨x, h3, fun R' k' r' h' => h2 _ _ _ (h4 _ _ _ h')⟩
     · split at h
       · split at h
         · obtain ⟨v, hp, h1, h2⟩ := hc _ _ _ _ _ _ h
           obtain ⟨x, h3, h4⟩ := ih _ _ _ _ _ _ h1
           rename_i hcap
           exact ⟨x, h3, fun R' k' r' h' => by simp only [hcap, if_true]; exact h2 _ _ _ (h4 _ _ _ h')⟩
         · cases h
       · cases h
     · dsimp only at h
       split at h
       · cases h
       · rename_i out hout
         obtain ⟨h1, h2⟩ := gd_some h
         obtain ⟨x, h3, h4⟩ := ih _ _ _ _ _ _ h2
         exact ⟨x, h3, fun R' k' r' h' => by
           have := h4 _ _ _ h'
           dsimp only at this ⊢
           simp only [hout, h1, this]; rfl⟩
   unfold evOps at h
   cases hg : o.guard with
   | none =>
     rw [hg] at h
     obtain ⟨x, h1, h2⟩ := hrun _ _ _ _ h
     exact ⟨x, h1, fun R' k' r' h' => by unfold evOps; rw [hg]; exact h2 _ _ _ h'⟩
   | some g =>
     obtain ⟨d, want⟩ := g
     rw [hg] at h
     simp only [] at h
     split at h
     · rename_i b hb
       cases b <;> cases want
       · obtain ⟨x, h1, h2⟩ := hrun _ _ _ _ h
         exact ⟨x, h1, fun R' k' r' h' => by unfold evOps; simp only [hg, hb]; exact h2 _ _ _ h'⟩
       · obtain ⟨x, h1, h2⟩ := ih _ _ _ _ _ _ h
         exact ⟨x, h1, fun R' k' r' h' => by unfold evOps; simp only [hg, hb]; exact h2 _ _ _ h'⟩
       · obtain ⟨x, h1, h2⟩ := ih _ _ _ _ _ _ h
         exact ⟨x, h1, fun R' k' r' h' => by unfold evOps; simp only [hg, hb]; exact h2 _ _ _ h'⟩
       · obtain ⟨x, h1, h2⟩ := hrun _ _ _ _ h
         exact ⟨x, h1, fun R' k' r' h' => by unfold evOps; simp only [hg, hb]; exact h2 _ _ _ h'⟩
     · rename_i hb
       obtain ⟨x, h1, h2⟩ := ih _ _ _ _ _ _ h
       exact ⟨x, h1, fun R' k' r' h' => by unfold evOps; simp only [hg, hb]; exact h2 _ _ _ h'⟩
     · cases h
theorem evOps_natT (base : Nat) : ∀ (os : List IOper) (i : Nat) (log : List LogE) (S : St), NatS St fun R k => evOps summ (c R) true base i os log S k := by
 intro os
 induction os with
 | nil =>
   intro i log S R k r h
   unfold evOps at h
   obtain ⟨h1, h2⟩ := gd_some h
   exact ⟨S, h2, fun R' k' r' h' => by unfold evOps; rw [h1]; exact h'⟩
 | cons o os ih =>
   intro i log S R k r h
   have hrun : ∀ S : St, NatS St fun R k => (match o.args.map S.eval with
       | vals => match base + o.rank with
         | nid => match act summ o.op vals S.look nid with
           | none => none
           | some out => gd (drawChk S o.op nid out) (gd out.ok (evOps summ (c R) true base (i + 1) os (log ++ [logOf i o o.op vals nid out]) (S.apply o.dst out) k))) := by
     intro S R k r h
     dsimp only at h
     split at h
     · cases h
     · rename_i out hout
       obtain ⟨h0, h⟩ := gd_some h
       obtain ⟨h1, h2⟩ := gd_some h
       obtain ⟨x, h3, h4⟩ := ih _ _ _ _ _ _ h2
       exact ⟨x, h3, fun R' k' r' h' => by
         have := h4 _ _ _ h'
         dsimp only at this ⊢
         simp only [hout, h0, h1, this]; rfl⟩
   unfold evOps at h
   cases hg : o.guard with
   | none =>
     rw [hg] at h
     obtain ⟨x, h1, h2⟩ := hrun _ _ _ _ h
     exact ⟨x, h1, fun R' k' r' h' => by unfold evOps; rw [hg]; exact h2 _ _ _ h'⟩
   | some g =>
     obtain ⟨d, want⟩ := g
     rw [hg] at h
     simp only [] at h
     split at h
     · rename_i b hb
       cases b <;> cases want
       · obtain ⟨x, h1, h2⟩ := hrun _ _ _ _ h
         exact ⟨x, h1, fun R' k' r' h' => by unfold evOps; simp only [hg, hb]; exact h2 _ _ _ h'⟩
       · obtain ⟨x, h1, h2⟩ := ih _ _ _ _ _ _ h
         exact ⟨x, h1, fun R' k' r' h' => by unfold evOps; simp only [hg, hb]; exact h2 _ _ _ h'⟩
       · obtain ⟨x, h1, h2⟩ := ih _ _ _ _ _ _ h
         exact ⟨x, h1, fun R' k' r' h' => by unfold evOps; simp only [hg, hb]; exact h2 _ _ _ h'⟩
       · obtain ⟨x, h1, h2⟩ := hrun _ _ _ _ h
         exact ⟨x, h1, fun R' k' r' h' => by unfold evOps; simp only [hg, hb]; exact h2 _ _ _ h'⟩
     · rename_i hb
       obtain ⟨x, h1, h2⟩ := ih _ _ _ _ _ _ h
       exact ⟨x, h1, fun R' k' r' h' => by unfold evOps; simp only [hg, hb]; exact h2 _ _ _ h'⟩
     · cases h
theorem evLoop_nat {body : ∀ R, St → (Ex → St → Option R) → Option R} {nrm : St → St} (hb : ∀ S, NatE fun R k => body R S k) : ∀ m S, NatE fun R k => evLoop (body R) nrm m S k
 | 0, _, _, _, _, h => by cases h
 | m + 1, S, R, k, r, h => by
   obtain ⟨e, S', h1, h2⟩ := hb _ _ _ _ h
   cases e with
   | normal =>
     obtain ⟨e, S', h3, h4⟩ := evLoop_nat hb m _ _ _ _ h1
     exact ⟨e, S', h3, fun R' k' r' h' => h2 _ _ _ (h4 _ _ _ h')⟩
   | _ => exact ⟨_, S', h1, fun R' k' r' h' => h2 _ _ _ h'⟩
theorem evCode_nat (hc : NatC c) : ∀ (cd : IC) (S : St), NatE fun R k => evCode summ fu (c R) cd S k
 | .skip, S, R, k, r, h => ⟨_, _, h, fun _ _ _ h' => h'⟩
 | .region draw nn ops, S, R, k, r, h => by
   unfold evCode at h
   cases draw
   · obtain ⟨x, h1, h2⟩ := evOps_natF hc _ _ _ _ _ _ _ _ h
     exact ⟨_, x, h1, fun R' k' r' h' => by unfold evCode; exact h2 _ _ _ h'⟩
   · dsimp only at h
     obtain ⟨h0, h⟩ := gd_some h
     obtain ⟨x, h1, h2⟩ := evOps_natT _ _ _ _ _ _ _ _ h
     exact ⟨_, x, h1, fun R' k' r' h' => by unfold evCode; dsimp only; rw [h0]; exact h2 _ _ _ h'⟩
 | .seq a b, S, R, k, r, h => by
   unfold evCode at h
   obtain ⟨e, S', h1, h2⟩ := evCode_nat hc a _ _ _ _ h
   cases e with
   | normal =>
     obtain ⟨e, S', h3, h4⟩ := evCode_nat hc b _ _ _ _ h1
     exact ⟨e, S', h3, fun R' k' r' h' => by unfold evCode; exact h2 _ _ _ (h4 _ _ _ h')⟩
   | _ => exact ⟨_, S', h1, fun R' k' r' h' => by unfold evCode; exact h2 _ _ _ h'⟩
 | .cond cc a b, S, R, k, r, h => by
   unfold evCode at h
   split at h
   · split at h
     · rename_i x hx
       cases x
       · obtain ⟨e, S', h3, h4⟩ := evCode_nat hc b _ _ _ _ h
         exact ⟨e, S', h3, fun R' k' r' h' => by unfold evCode; simp only [hx]; exact h4 _ _ _ h'⟩
       · obtain ⟨e, S', h3, h4⟩ := evCode_nat hc a _ _ _ _ h
         exact ⟨e, S', h3, fun R' k' r' h' => by unfold evCode; simp only [hx]; exact h4 _ _ _ h'⟩
     · cases h
   · rename_i x
     cases x
     · obtain ⟨e, S', h3, h4⟩ := evCode_nat hc b _ _ _ _ h
       exact ⟨e, S', h3, fun R' k' r' h' => by unfold evCode; exact h4 _ _ _ h'⟩
     · obtain ⟨e, S', h3, h4⟩ := evCode_nat hc a _ _ _ _ h
       exact ⟨e, S', h3, fun R' k' r' h' => by unfold evCode; exact h4 _ _ _ h'⟩
   · cases h
 | .block id b, S, R, k, r, h => by
   unfold evCode at h
   obtain ⟨e, S', h1, h2⟩ := evCode_nat hc b _ _ _ _ h
   cases e with
   | exit j =>
     simp only [] at h1
     by_cases hj : j = id
     · rw [if_pos hj] at h1
       exact ⟨_, S', h1, fun R' k' r' h' => by unfold evCode; exact h2 _ _ _ (by simp only [hj, if_true]; exact h')⟩
     · rw [if_neg hj] at h1
       exact ⟨_, S', h1, fun R' k' r' h' => by unfold evCode; exact h2 _ _ _ (by simp only [hj, if_false]; exact h')⟩
   | _ => exact ⟨_, S', h1, fun R' k' r' h' => by unfold evCode; exact h2 _ _ _ h'⟩
 | .loop live b, S, R, k, r, h => by
   unfold evCode at h
   obtain ⟨e, S', h1, h2⟩ := evLoop_nat (fun S => evCode_nat hc b S) _ _ _ _ _ h
   exact ⟨e, S', h1, fun R' k' r' h' => by unfold evCode; exact h2 _ _ _ h'⟩
 | .cut live b, S, R, k, r, h => by
   unfold evCode at h
   obtain ⟨e, S', h1, h2⟩ := evCode_nat hc b _ _ _ _ h
   exact ⟨e, S', h1, fun R' k' r' h' => by unfold evCode; exact h2 _ _ _ h'⟩
 | .exit _, S, R, k, r, h => ⟨_, _, h, fun _ _ _ h' => h'⟩
 | .ret, S, R, k, r, h => ⟨_, _, h, fun _ _ _ h' => h'⟩
variable (summ fu) in
theorem evFn_nat (fns : Nat → Option IFn) : ∀ n, NatC fun R => evFn (R := R) summ fns fu n
 | 0, _, _, _, _, _, _, h => by cases h
 | n + 1, R, f, cs, hp, k, r, h => by
   dsimp only at h
   unfold evFn at h
   split at h
   · cases h
   · rename_i fn hfn
     obtain ⟨e, S, h1, h2⟩ := evCode_nat (summ := summ) (fu := fu) (evFn_nat fns n) _ _ _ _ _ h
     have key : ∀ (hne : ∀ j, e ≠ .exit j), (match resOf S fn.results with
       | none => none
       | some l => match compact S.fb (l.flatMap CV.refs) S.hp with
         | keep => k ((tupOf l).ren S.fb keep) (compHp S.fb keep S.hp)) = some r → ∃ v h, k v h = some r ∧ ∀ R' (k' : CV → List Blk → Option R') r', k' v h = some r' → evFn summ fns fu (n + 1) f cs hp k' = some r' := by
       intro hne h1
       cases hl : resOf S fn.results with
       | none => rw [hl] at h1; cases h1
       | some l =>
         rw [hl] at h1
         refine ⟨_, _, h1, fun R' k' r' h' => ?_⟩
         unfold evFn
         simp only [hfn]
         apply h2
         cases e with
         | exit j => exact absurd rfl (hne j)
         | _ => simp only [hl]; exact h'
     cases e with
     | exit j => cases h1
     | normal => exact key (fun j => by simp) h1
     | ret => exact key (fun j => by simp) h1
end
/-- More depth does no harm. -/
theorem evFn_dep {R : Type} {summ : Nat → Option Summ} {fns : Nat → Option IFn} {fu : Nat} : ∀ n, CallLe (evFn (R := R) summ fns fu n) (evFn (R := R) summ fns fu (n + 1))
 | 0, _, _, _, _, _, _, _, h => by cases h
 | n + 1, f, cs, hp, k, k', r, hk, h => by
   rw [evFn] at h ⊢
   split at h
   · cases h
   · rename_i fn hfn
     refine evCode_mono (evFn_dep n) _ _ _ _ _ (fun e S r' h' => ?_) h
     split at h'
     · cases h'
     · rename_i hne
       split at h'
       · cases h'
       · rename_i l hl
         cases e with
         | exit j => exact absurd rfl (hne j)
         | _ => exact hk _ _ _ h'
theorem evFn_le {R : Type} {summ : Nat → Option Summ} {fns : Nat → Option IFn} {fu : Nat} {f : Nat} {cs : List CV} {hp : List Blk} {k : CV → List Blk → Option R} {r : R} {n : Nat} : ∀ d, evFn summ fns fu n f cs hp k = some r → evFn summ fns fu (n + d) f cs hp k = some r
 | 0, h => h
 | d + 1, h => evFn_dep _ _ _ _ _ _ _ (fun _ _ _ h => h) (evFn_le d h)
theorem nbeq_ne {a b : Nat} (h : ¬ a = b) : Nat.beq a b = false := by
 cases hb : Nat.beq a b
 · rfl
 · exact absurd (Nat.eq_of_beq_eq_true hb) h
/-- A cut, its inner oracles taken over. -/
def evJ {R : Type} (body : St → (Ex → St → Option R) → Option R) (T : St) (k : Ex → St → Option R) : Option R := body T k
/-- The results of a run as pure data. -/
def unch : Nat → CV → Option (List CV)
 | 0, .pure .unit _ => some []
 | n + 1, .pair a b => match unch n b with | some l => some (a :: l) | none => none
 | _, _ => none
def untup (n : Nat) (v : CV) : Option (List CV) := if n = 1 then some [v] else match v with | .tup c => unch n c | _ => none
theorem unch_chain : ∀ {n : Nat} {c : CV} {l : List CV}, unch n c = some l → chain l = c ∧ l.length = n
 | 0, c, l, h => by
   unfold unch at h
   split at h
   · simp at h; subst h; exact ⟨rfl, rfl⟩
   · rename_i he; cases he
   · cases h
 | n + 1, c, l, h => by
   cases c with
   | pair a b =>
     simp only [unch] at h
     split at h
     · rename_i l' hl
       simp at h; subst h
       obtain ⟨h1, h2⟩ := unch_chain hl
       exact ⟨by simp [chain, h1], by simp [h2]⟩
     · cases h
   | _ => simp [unch] at h
theorem untup_tup {n : Nat} {v : CV} {l : List CV} (h : untup n v = some l) : tupOf l = v := by
 unfold untup at h
 split at h
 · simp at h; subst h; rfl
 · rename_i hn
   split at h
   · obtain ⟨h1, h2⟩ := unch_chain h
     match l, h2 with
     | [], _ => simp [tupOf, h1]
     | [_], h2 => simp at h2; exact absurd h2.symm hn
     | _ :: _ :: _, _ => simp [tupOf, h1]
   · cases h
def pureK (rs : List Ty) (v : CV) (hp : List Blk) : Option (HDen rs) := match untup rs.length v with
 | none => none
 | some l => gd (subsOK (lookH hp) l) (match purify (lookH hp) rs l with | some cs => toH rs cs | none => none)
theorem pureK_some {rs : List Ty} {v : CV} {hp : List Blk} {y : HDen rs} (h : pureK rs v hp = some y) : ∃ l, v = tupOf l ∧ purify (lookH hp) rs l = some (ofH rs y) ∧ subsOK (lookH hp) l = true := by
 unfold pureK at h
 split at h
 · cases h
 · rename_i l hl
   obtain ⟨h1, h2⟩ := gd_some h
   split at h2
   · rename_i cs hcs
     obtain ⟨x, rfl⟩ := purify_ofH hcs
     rw [toH_ofH] at h2
     simp at h2; subst h2
     exact ⟨l, (untup_tup hl).symm, hcs, h1⟩
   · cases h2
/-- What a function returns, as Lean's own: where it returns something. -/
def dfH : (rs : List Ty) → HDen rs
 | [] => ()
 | t :: rs => (t.dflt, dfH rs)
def shS (ts rs : List Ty) (p : HDen ts → Bool) (v : HDen ts → HDen rs) : Summ := fS ts rs p v
/-! Functions whose results have no slices: nothing is frozen. -/
def pureN (ts : List Ty) (F : List CV → Option (Bool × List CV)) : Summ := fun cs look _ => match purify look ts cs with
 | none => none
 | some cs' => match F cs' with
   | none => none
   | some r => some ⟨subsOK look cs && r.1, tupOf r.2, []⟩
theorem pureN_congr (ts : List Ty) (F : List CV → Option (Bool × List CV)) : SummC (pureN ts F) := by
 intro cs look look' nid h
 unfold pureN
 rw [purify_congr h, subsOK_congr h]
theorem toPH_norefs {look : Look} : ∀ {t : Ty} {c : CV} {x : t.den}, t.slices = false → toPH look t c = some x → c.refs = [] := by
 intro t
 induction t with
 | pair a b iha ihb =>
   intro c x ht h
   simp only [Ty.slices, Bool.or_eq_false_iff] at ht
   cases c <;> simp only [toPH] at h <;> try (first | rfl | (cases h; done))
   split at h
   · rename_i hy hz
     simp [CV.refs, iha ht.1 hy, ihb ht.2 hz]
   · cases h
 | slice e ih => intro c x ht h; simp [Ty.slices] at ht
 | _ =>
   intros c x ht h
   cases c <;> simp only [toPH] at h <;> try (first | rfl | (cases h; done))
theorem purify_norefs {look : Look} : ∀ {ts : List Ty} {cs cs' : List CV}, (ts.all fun t => !t.slices) = true → purify look ts cs = some cs' → ∀ c ∈ cs, c.refs = []
 | [], [], _, _, h => by simp
 | [], _ :: _, _, _, h => by simp [purify] at h
 | _ :: _, [], _, _, h => by simp [purify] at h
 | t :: ts, c :: cs, cs', ht, h => by
   simp only [List.all_cons, Bool.and_eq_true, Bool.not_eq_true'] at ht
   simp only [purify] at h
   split at h
   · rename_i x l hx hl
     intro c' hc'
     rcases List.mem_cons.1 hc' with rfl | hc'
     · exact toPH_norefs ht.1 hx
     · exact purify_norefs ht.2 hl c' hc'
   · cases h
theorem RepD_any {w w' : World} {I I' : Nat → Prop} : ∀ (t : Ty) (x : t.den) (cs : List Value), t.slices = false → RepD w I t x cs → RepD w' I' t x cs
 | .int _, _, _, _, h => h
 | .bool, _, _, _, h => h
 | .str, _, _, _, h => h
 | .unit, _, _, _, h => h
 | .pair a b, x, _, ht, ⟨c1, c2, e, h1, h2⟩ => by
   simp only [Ty.slices, Bool.or_eq_false_iff] at ht
   exact ⟨c1, c2, e, RepD_any a x.1 c1 ht.1 h1, RepD_any b x.2 c2 ht.2 h2⟩
 | .arr n e, x, cs, ht, h => ⟨h.1, Rows.mono (fun x c => RepD_any e x c ht) x cs h.2⟩
 | .slice e, _, _, ht, _ => by simp [Ty.slices] at ht
theorem refH_none {E : Env} {look : Look} {c : CV} (h : c.refs = []) (g : Nat) : ¬ refH E look c g := by
 rintro ⟨b, hb, _⟩
 rw [h] at hb; cases hb
theorem subOK_norefs {look : Look} : ∀ {c : CV}, c.refs = [] → c.subOK look = true := by
 intro c
 induction c with
 | pair a b iha ihb => intro h; simp [CV.refs] at h; simp [CV.subOK, iha h.1, ihb h.2]
 | sub b p sz off len cap => intro h; simp [CV.refs] at h
 | _ => intro h; rfl
theorem purify_any {base : Nat} {E E' : Env} {look : Look} : ∀ {ts : List Ty} {cs cs' : List CV} {vs : List Value}, (ts.all fun t => !t.slices) = true → LRep E base look → purify look ts cs = some cs' → Vs E cs vs → Vs E' cs' vs
 | [], [], _, vs, _, _, h, hv => by
   simp [purify] at h; subst h
   cases vs <;> exact hv
 | [], _ :: _, _, _, _, _, h, _ => by simp [purify] at h
 | _ :: _, [], _, _, _, _, h, _ => by simp [purify] at h
 | t :: ts, c :: cs, cs', [], _, _, _, hv => hv.elim
 | t :: ts, c :: cs, cs', v :: vs, ht, L, h, hv => by
   simp only [List.all_cons, Bool.and_eq_true, Bool.not_eq_true'] at ht
   simp only [purify] at h
   split at h
   · rename_i x l hx hl
     simp at h; subst h
     refine ⟨?_, purify_any ht.2 L hl hv.2⟩
     obtain ⟨ha, htp⟩ := toPH_agg hx
     obtain ⟨cells, h1, h2⟩ := hv.1.one1 htp
     have hn := toPH_norefs ht.1 hx
     have hd := toPH_rep L (I' := E.I) (fun _ h => h) hx (subOK_norefs hn) h1 (fun g hg => absurd hg (refH_none hn g))
     refine VRep1.up ⟨cells, CRep_ofP (E := E') (RepD_any t x cells ht.1 hd), ?_⟩ (isVal_tup (isVal_ofP t x))
     rw [isAgg_ofP, ← ha]
     exact h2
   · cases h
theorem summ_of_evN {P : Program} {f : Nat} {ts rs : List Ty} {F : List CV → Option (Bool × List CV)} {call : Nat → List CV → List Blk → (CV → List Blk → Option (CV × List Blk)) → Option (CV × List Blk)} (hrs : (rs.all fun t => !t.slices) = true) (hcall : ∀ base, CallOK P base call) (hcb : callable P f = true)
   (hF : ∀ look cs cs' l, purify look ts cs = some cs' → F cs' = some (true, l) → ∃ l0 hp2, call f cs' [] (fun v h => some (v, h)) = some (tupOf l0, hp2) ∧ purify (lookH hp2) rs l0 = some l ∧ subsOK (lookH hp2) l0 = true) : SummOK P f (pureN ts F) := by
 refine ⟨hcb, pureN_congr ts F, ?_⟩
 intro base E hp cs vs nid out H hvs hs hok _ _
 unfold pureN at hs
 split at hs
 · cases hs
 · rename_i cs' hcs'
   split at hs
   · cases hs
   · rename_i r hr
     simp at hs; subst hs
     obtain ⟨ok, l⟩ := r
     simp only [Bool.and_eq_true] at hok
     obtain ⟨hsub, rfl⟩ := hok
     obtain ⟨_, ht, _⟩ := purify_tup hcs'
     obtain ⟨E', hle, H', hw, _, _, _, hI⟩ := HS.frzs (lookH hp) (cs.flatMap CV.refs) H (fun _ => .inl rfl) (Vs_refs hvs ht)
     obtain ⟨l0, hp2, hev, hpl, hsl⟩ := hF _ _ _ _ hcs' hr
     have hvs0 : Vs { E' with live := fun _ => False } cs' vs := purify_rep (base := base) (E' := { E' with live := fun _ => False }) H.blk hw hle.I hcs' hsub hvs (fun c hc g ⟨b, hb, hg⟩ => hI g (.inr ⟨b, List.mem_flatMap.2 ⟨c, hc, hb⟩, hg⟩))
     have hc := (hcall _ f cs' [] _ _ hev { E' with live := fun _ => False } vs H'.empty hvs0).2
     rw [← hw]
     refine Calls.mono hc ?_
     rintro e w' ⟨v, c, hp1, E1, rfl, hk, rfl, hle1, H1, hv, _⟩
     simp only [Option.some.injEq, Prod.mk.injEq] at hk
     obtain ⟨rfl, rfl⟩ := hk
     obtain ⟨hll, ht0, htl⟩ := purify_tup hpl
     obtain ⟨us, hus, hback⟩ := tup_split hv ht0
     have hheap : ∀ g, g < E.w.heap.size → E1.w.heap[g]? = E.w.heap[g]? := fun g hg => by
       have := hle1.bel.block g (by rw [hw]; exact hg)
       rw [this]; show E'.w.heap[g]? = _; rw [hw]
     have hbel : Below base E.w E1.w := by
       have hb := hle1.bel
       have e0 : ({ E' with live := fun _ => False } : Env).w = E.w := hw
       rw [e0] at hb
       exact ⟨hb.os, hb.tape, hb.output, hb.size, fun k hk => hheap k (Nat.lt_of_lt_of_le hk H.base)⟩
     obtain ⟨hle3, H3⟩ := H.world (w' := E1.w) hbel hheap
     refine ⟨v, { E with w := E1.w }, rfl, rfl, hle3, H3, hback _ _ ?_ hll htl⟩
     have hnr := purify_norefs hrs hpl
     -- results without slices need no memory
     exact purify_any hrs H1.blk hpl hus
def fN (ts rs : List Ty) (pre : HDen ts → Bool) (fn : HDen ts → HDen rs) : Summ := pureN ts fun cs => match toH ts cs with
 | some x => some (pre x, ofH rs (fn x))
 | none => none
def shN (ts rs : List Ty) (p : HDen ts → Bool) (v : HDen ts → HDen rs) : Summ := fN ts rs p v
theorem summ_fnN {P : Program} {f : Nat} {ts rs : List Ty} {pre : HDen ts → Bool} {fn : HDen ts → HDen rs} {call : Nat → List CV → List Blk → (CV → List Blk → Option (CV × List Blk)) → Option (CV × List Blk)} (hrs : (rs.all fun t => !t.slices) = true) (hcall : ∀ base, CallOK P base call) (hcb : callable P f = true)
   (h : ∀ x, pre x = true → Rets rs (call f (ofH ts x) [] fun v h => some (v, h)) (fn x)) : SummOK P f (fN ts rs pre fn) := by
 refine summ_of_evN (rs := rs) hrs hcall hcb ?_
 intro look cs cs' l hcs hF
 obtain ⟨x, rfl⟩ := purify_ofH hcs
 rw [toH_ofH] at hF
 simp only [Option.some.injEq, Prod.mk.injEq] at hF
 obtain ⟨hp, rfl⟩ := hF
 exact h x hp
theorem summ_shN {P : Program} {f : Nat} {ts rs : List Ty} {F : HDen ts → Option (HDen rs)} {p : HDen ts → Bool} {v : HDen ts → HDen rs} {summ : Nat → Option Summ} {fns : Nat → Option IFn} {fu n : Nat} (hrs : (rs.all fun t => !t.slices) = true)
   (hp : ∀ x, p x = (F x).isSome) (hv : ∀ x, v x = (F x).getD (dfH rs)) (hcall : ∀ base, CallOK P base (evFn (R := CV × List Blk) summ fns fu n)) (hcb : callable P f = true)
   (h : ∀ x y, F x = some y → evFn summ fns fu n f (ofH ts x) [] (pureK rs) = some y) : SummOK P f (shN ts rs p v) := by
 refine summ_fnN hrs hcall hcb fun x hx => ?_
 rw [hp] at hx
 obtain ⟨y, hy⟩ := Option.isSome_iff_exists.1 hx
 obtain ⟨c, hp2, h1, h2⟩ := evFn_nat summ fu fns n _ _ _ _ _ _ (h x y hy)
 obtain ⟨l, rfl, h3, h4⟩ := pureK_some h1
 refine ⟨l, hp2, h2 _ _ _ rfl, ?_, h4⟩
 rw [h3, hv, hy]; rfl
theorem summ_sh {P : Program} {f : Nat} {ts rs : List Ty} {F : HDen ts → Option (HDen rs)} {p : HDen ts → Bool} {v : HDen ts → HDen rs} {summ : Nat → Option Summ} {fns : Nat → Option IFn} {fu n : Nat}
   (hp : ∀ x, p x = (F x).isSome) (hv : ∀ x, v x = (F x).getD (dfH rs)) (hcall : ∀ base, CallOK P base (evFn (R := CV × List Blk) summ fns fu n)) (hcb : callable P f = true)
   (h : ∀ x y, F x = some y → evFn summ fns fu n f (ofH ts x) [] (pureK rs) = some y) : SummOK P f (shS ts rs p v) := by
 refine summ_fn hcall hcb fun x hx => ?_
 rw [hp] at hx
 obtain ⟨y, hy⟩ := Option.isSome_iff_exists.1 hx
 obtain ⟨c, hp2, h1, h2⟩ := evFn_nat summ fu fns n _ _ _ _ _ _ (h x y hy)
 obtain ⟨l, rfl, h3, h4⟩ := pureK_some h1
 refine ⟨l, hp2, h2 _ _ _ rfl, ?_, h4⟩
 rw [h3, hv, hy]; rfl
namespace Sp
def andI (k : IntKind) (x y : Int) : Int := k.wrap (BitVec.ofInt k.bits x &&& BitVec.ofInt k.bits y).toNat
def orI (k : IntKind) (x y : Int) : Int := k.wrap (BitVec.ofInt k.bits x ||| BitVec.ofInt k.bits y).toNat
def xorI (k : IntKind) (x y : Int) : Int := k.wrap (BitVec.ofInt k.bits x ^^^ BitVec.ofInt k.bits y).toNat
def andnI (k : IntKind) (x y : Int) : Int := k.wrap (BitVec.ofInt k.bits x &&& ~~~ BitVec.ofInt k.bits y).toNat
end Sp
/-- Short names. -/
def jk : CV := .junk
/-- A law's answer. -/
def bk (v : CV) (_ : List Blk) : Option Bool := match v with | .bool b => some b | _ => none
end Go.Ev
namespace Go.Ev
open Go Go.RowKit Go.Shelf Go.Lib Go.Proofs
variable {P : Program} {ρ : Ren}
set_option maxHeartbeats 2000000 in
set_option maxRecDepth 100000 in
theorem clone_zero (L : SlLaysE0.n41 P ρ) (i0 : TypeInfo) (z : Value) (size bytes : Nat) (hi : P.info? (ρ.t 23) = some i0) (hz0 : i0.zero = some z) (hz1 : i0.size = size) (hz2 : i0.bytes = bytes) (hzs : z.cells.size = size) (hsz : 0 < size)
   (z23 : ∀ w, (Go.sizeOf (ρ.t 23)).run P w = .ok size w) (a : Addr) (c : Nat) (w : World) :
   Calls P (ρ.f 41) #[.slice (some a) 0 c] w fun e w' => ∃ v', e = .returned v' ∧ w'.ownsRow w.heap.size (ρ.t 23) size v' 0 [] ∧ v' ≠ .slice none 0 0 ∧ Below w.heap.size w w' := by
 have mixed := L.mixed; have t4 := L.t4; have a4 := L.a4; have z4 := L.z4; have v4 := L.v4; have t22 := L.t22; have a22 := L.a22; have z22 := L.z22; have v22 := L.v22
 have q22 : ∀ (w : World) (a : Option Addr) (n c n' c' : Nat), (binOp .eql (ρ.t 22) (.slice a n c) (.slice none n' c')).run P w = .ok (.bool a.isNone) w := fun w a n c n' c' => Lib.run_eql_slice_nil w _ _ a n c n' c' L.t22
 have u22 : ∀ w, Sem.run P (underlying (ρ.t 22)) w = .ok (TypeDesc.slice (ρ.t 23)) w := run_underlying t22
 obtain ⟨_, _, FG⟩ := L.f41
 go_enter FG, SlBodyN.n41_ntmps ρ
 go_wp2_with (at_builtin; refine wpList_append_own _ rfl _ _ (ρ.t 22) rfl w.heap.size (ρ.t 23) i0 z size bytes t22 hi hz0 hz1 hz2 hzs hsz _ _ _ rfl (World.ownsRow_made w #[] 0 (Nat.le_refl _) (Nat.zero_le _) (by simp)) a 0 c [] rfl (by simp) (by intro j u hj; simp at hj) (by intro u hu; cases hu) (by unfold maxLen; omega) (by omega) (by simp) ?_)
 intro v' w1 hown hgrow hnil
 go_wp2
 go_ret
 refine ⟨v', rfl, by simpa using hown, ?_, ?_⟩
 · exact hnil
 · exact ((Below.refl _ w).alloc (Nat.le_refl _) _).grown hgrow (by simp) (by intro k hk; simp [Value.ownBlock] at hk; omega)
end Go.Ev
namespace Go.Ev
open Go Go.RowKit
variable {P : Program}
/-- An environment of pure data alone. -/
def pureE (w : World) (I : Nat → Prop) : Env := { w := w, I := I, μ := fun _ => 0, σ := fun _ => undef, live := fun _ => False }
theorem HS.pureE {w : World} {I : Nat → Prop} (himm : ∀ g, I g → g < w.heap.size) : HS w.heap.size (pureE w I) [] := by
 have hf : ∀ b, lookH [] b = .fresh := fun b => by simp [lookH]
 refine ⟨fun b => by rw [hf]; trivial, fun b b' g h => by rw [hf] at h; exact h.elim, fun b g h => by rw [hf] at h; exact h.elim, himm, fun b => ?_, Nat.le_refl _⟩
 show False ↔ _
 simp [hf]
end Go.Ev
namespace Go.Ev
open Go Go.RowKit
variable {P : Program}
def cloneF (u : Ty) (bytes : Nat) : List CV → Option (Bool × List CV)
 | [.pure (.slice u') xs] => if u' = u then some (room (List.length xs) bytes, [.pure (.slice u') xs]) else none
 | _ => none
end Go.Ev
namespace Go.Ev
open Go Go.RowKit
variable {P : Program}
/-- A copy of a row, new and one's own. -/
def vecS (u : Ty) (te bytes : Nat) : Summ := fun cs look nid => match cs with
 | [c] => match toPH look (.slice u) c with
   | some xs => some ⟨c.subOK look && room (List.length xs) bytes, .whole nid, [(nid, .vec te u xs)]⟩
   | none => none
 | _ => none
theorem vecS_congr (u : Ty) (te bytes : Nat) : SummC (vecS u te bytes) := by
 intro cs look look' nid h
 unfold vecS
 match cs with
 | [] => rfl
 | [c] =>
   have h' : ∀ b ∈ c.refs, look b = look' b := fun b hb => h b (by simpa using hb)
   simp only [toPH_congr h', subOK_congr h']
 | _ :: _ :: _ => rfl
theorem own_base {w : World} {b b' te size n : Nat} {v : Value} {xs : List Value} (h : b ≤ b') (ho : w.ownsRow b' te size v n xs) : w.ownsRow b te size v n xs := by
 refine ⟨ho.1, ?_⟩
 rcases ho.2 with h1 | ⟨g, cap, cur, h1, h2, h3⟩
 · exact .inl h1
 · exact .inr ⟨g, cap, cur, h1, by omega, h3⟩
theorem clone_vec {f te : Nat} {u : Ty} {bytes : Nat} (hcb : callable P f = true) (hpos : 0 < u.size)
   (h1 : ∀ (b off n c : Nat) (news : List Value) (w : World), news.length = n * u.size → n ≤ maxLen → n * bytes ≤ 140737488355328 → (∀ (j : Nat) (v : Value), news[j]? = some v → w.cell? ⟨b, off + j, none⟩ = some v) → (∀ v ∈ news, v.oneCell' = true) →
     Calls P f #[.slice (some ⟨b, off, none⟩) n c] w fun e w' => ∃ v', e = .returned v' ∧ w'.ownsRow w.heap.size te u.size v' n news ∧ v' ≠ .slice none 0 0 ∧ Below w.heap.size w w')
   (h2 : ∀ (n c : Nat) (w : World), Calls P f #[.slice none n c] w fun e w' => e = .returned (.slice none 0 0) ∧ w' = w)
   (h3 : ∀ (a : Addr) (c : Nat) (w : World), Calls P f #[.slice (some a) 0 c] w fun e w' => ∃ v', e = .returned v' ∧ w'.ownsRow w.heap.size te u.size v' 0 [] ∧ v' ≠ .slice none 0 0 ∧ Below w.heap.size w w') :
   SummOK P f (vecS u te bytes) := by
 refine ⟨hcb, vecS_congr u te bytes, ?_⟩
 intro base E hp cs vs nid out H hvs hs hok hf hn
 unfold vecS at hs
 split at hs
 · rename_i c
   split at hs
   · rename_i xs hxs
     simp at hs; subst hs
     simp only [Bool.and_eq_true] at hok
     obtain ⟨hsub, hroom⟩ := hok
     have hroom := room_spec hroom
     match vs, hvs with
     | [v], ⟨hv, _⟩ =>
       obtain ⟨ad, cp, rfl, s1, s2, s3⟩ := src_rep H.blk hxs hsub hv
       have fin : ∀ (v' : Value) (w' : World) (news : List Value), w'.ownsRow E.w.heap.size te u.size v' (List.length xs) news → Rows (RepD E.w E.I u) xs news → Below E.w.heap.size E.w w' →
           ∃ v E', (Ending.returned v' : Ending) = .returned v ∧ E'.w = w' ∧ E.le base E' ∧ HS base E' (wrAll hp [(nid, .vec te u xs)]) ∧ VRep E' (.whole nid) v := by
         intro v' w' news hown hrows hbel
         have hrows' : Rows (RepD w' E.I u) xs news := Rows.mono (fun x c => RepD.mono (fun _ h => h) (fun g hg => hbel.block g (H.imm g hg)) u x c) _ _ hrows
         obtain ⟨hle, H'⟩ := H.newVec hf hn (w' := w') (v := v') (te := te) (e := u) (xs := xs) (cells := news) ⟨hbel.os, hbel.tape, hbel.output, hbel.size, fun k hk => hbel.block k (Nat.lt_of_lt_of_le hk H.base)⟩ (fun g hg => hbel.block g (H.imm g hg)) (fun b g hg => hbel.block g (H.held_lt hg)) hrows' (own_base H.base hown) hpos (fun g hg => by
           have := (hown.lt g hg).1
           exact ⟨fun h => absurd (H.imm g h) (by omega), fun b h => absurd (H.held_lt h) (by omega)⟩)
         refine ⟨v', _, rfl, rfl, hle, H', ?_⟩
         refine ⟨[v'], ⟨.inr rfl, by simp [Env.newVec, upd_same], ?_⟩, by simp [CV.isAgg]⟩
         simp only [Env.newVec, upd_same]
         rcases hown.2 with ⟨h, hn0⟩ | ⟨g, cap, cur, h, _⟩
         · exact ⟨none, 0, 0, h⟩
         · exact ⟨_, _, _, h⟩
       cases ad with
       | none =>
         refine Calls.mono (h2 _ _ E.w) ?_
         rintro e w' ⟨rfl, rfl⟩
         have h0 : List.length xs = 0 := by
           rcases Nat.eq_zero_or_pos (List.length xs) with h | h
           · exact h
           · obtain ⟨_, _, _, h4, _⟩ := s3 h; cases h4
         have hx : xs = [] := List.eq_nil_of_length_eq_zero h0
         subst hx
         exact fin _ _ [] (World.ownsRow_nil _ _ _ _) rfl (Below.refl _ _)
       | some a =>
         by_cases h0 : 0 < List.length xs
         · obtain ⟨b', off', rows, h4, g1, g2⟩ := s3 h0
           cases h4
           have hR : ∀ (x : u.den) (c : List Value), RepD E.w E.I u x c → c.length = u.size := fun x c h => RepD.len u x c h
           refine Calls.mono (h1 b' off' (List.length xs) cp rows E.w (Rows.len hR xs rows g2) (by omega) hroom.1 g1 (fun v hv => Rows.one _ _ g2 v hv)) ?_
           rintro e w' ⟨v', rfl, hown, _, hbel⟩
           exact fin v' w' rows hown g2 hbel
         · have h00 : List.length xs = 0 := by omega
           have hx : xs = [] := List.eq_nil_of_length_eq_zero h00
           subst hx
           refine Calls.mono (h3 a cp E.w) ?_
           rintro e w' ⟨v', rfl, hown, _, hbel⟩
           exact fin v' w' [] hown rfl hbel
   · cases hs
 · cases hs
end Go.Ev
namespace Go.Ev
open Go Go.RowKit
variable {P : Program}
/-- slices.Grow of the nil slice: an empty row of one's own. -/
def growS (u : Ty) (te bytes : Nat) : Summ := fun cs _ nid => match cs with
 | [.nil _ _, .int .i64 n] => some ⟨decide (0 ≤ n) && room n.toNat bytes, .whole nid, [(nid, .vec te u [])]⟩
 | _ => none
theorem growS_congr (u : Ty) (te bytes : Nat) : SummC (growS u te bytes) := by
 intro cs look look' nid h
 rfl
theorem grow_vec {f te : Nat} {u : Ty} {bytes : Nat} (hcb : callable P f = true) (hpos : 0 < u.size)
   (h1 : ∀ (n : Nat) (w : World), n ≤ maxLen → n * bytes ≤ 140737488355328 → Calls P f #[.slice none 0 0, .int .i64 n] w fun e w' => ∃ v', e = .returned v' ∧ w'.ownsRow w.heap.size te u.size v' 0 [] ∧ Below w.heap.size w w') :
   SummOK P f (growS u te bytes) := by
 refine ⟨hcb, growS_congr u te bytes, ?_⟩
 intro base E hp cs vs nid out H hvs hs hok hf hn
 unfold growS at hs
 split at hs
 · rename_i te' e' n
   simp at hs; subst hs
   simp only [Bool.and_eq_true, decide_eq_true_eq] at hok
   obtain ⟨hn0, hroom⟩ := hok
   have hroom := room_spec hroom
   match vs, hvs with
   | [v, v2], ⟨hv, hv2, _⟩ =>
     have ev : v = .slice none 0 0 := by
       have := (VRep_one rfl (by simp)).1 hv
       injection this
     have ev2 : v2 = .int .i64 n := by
       have := ((VRep_one rfl (by simp)).1 hv2).1
       injection this
     subst ev; subst ev2
     obtain ⟨m, rfl⟩ := Int.eq_ofNat_of_zero_le hn0
     rw [Int.toNat_natCast] at hroom
     refine Calls.mono (h1 m E.w hroom.2 hroom.1) ?_
     rintro e w' ⟨v', rfl, hown, hbel⟩
     have hrows' : Rows (RepD w' E.I u) ([] : List u.den) [] := rfl
     obtain ⟨hle, H'⟩ := H.newVec hf hn (w' := w') (v := v') (te := te) (e := u) (xs := ([] : List u.den)) (cells := []) ⟨hbel.os, hbel.tape, hbel.output, hbel.size, fun k hk => hbel.block k (Nat.lt_of_lt_of_le hk H.base)⟩ (fun g hg => hbel.block g (H.imm g hg)) (fun b g hg => hbel.block g (H.held_lt hg)) hrows' (own_base H.base hown) hpos (fun g hg => by
       have := (hown.lt g hg).1
       exact ⟨fun h => absurd (H.imm g h) (by omega), fun b h => absurd (H.held_lt h) (by omega)⟩)
     refine ⟨v', _, rfl, rfl, hle, H', ?_⟩
     refine ⟨[v'], ⟨.inr rfl, by simp [Env.newVec, upd_same], ?_⟩, by simp [CV.isAgg]⟩
     simp only [Env.newVec, upd_same]
     rcases hown.2 with ⟨h, hn0⟩ | ⟨g, cap, cur, h, _⟩
     · exact ⟨none, 0, 0, h⟩
     · exact ⟨_, _, _, h⟩
 · cases hs
end Go.Ev
namespace Go.Ev
open Go Go.RowKit Go.Shelf Go.Proofs
variable {P : Program} {ρ : Ren}
theorem grow_calls (L : Lays8.n4 P ρ) (i0 : TypeInfo) (z : Value) (size bytes : Nat) (hi0 : P.info? (ρ.t 25) = some i0) (hz0 : i0.zero = some z) (e1 : i0.size = size) (e2 : i0.bytes = bytes) (hs0 : 0 < size) (hbp : 0 < bytes) (hz1 : z.cells.size = size) (n : Nat) (w : World) (hn : n ≤ maxLen) (hb : n * bytes ≤ 140737488355328) :
   Calls P (ρ.f 4) #[.slice none 0 0, .int .i64 n] w fun e w' => ∃ v', e = .returned v' ∧ w'.ownsRow w.heap.size (ρ.t 25) size v' 0 [] ∧ Below w.heap.size w w' := by
 subst e1; subst e2
 have hn63 : n ≤ 140737488355328 := Nat.le_trans (Nat.le_mul_of_pos_right n hbp) hb
 rcases Nat.eq_zero_or_pos n with rfl | h0
 · refine Calls.mono (Any8.slices_Grow_room L none 0 0 0 w (by omega) (by omega) (by omega) (by omega)) ?_
   rintro e w' ⟨rfl, rfl⟩
   exact ⟨_, rfl, World.ownsRow_nil _ _ _ _, Below.refl _ _⟩
 · refine Calls.mono (Any8.slices_Grow_grow L i0 z hi0 hz0 hs0 none 0 0 n [] w (by omega) (by omega) (by simpa using hb) (by omega) (by simp) (fun _ => rfl) (fun a h => by cases h)) ?_
   rintro e w' ⟨rfl, rfl⟩
   have hG : 0 + n ≤ grownCap w (0 + n) 0 (ρ.t 25) := grownCap_ge w _ _ _
   have hm : grownCap w (0 + n) 0 (ρ.t 25) ≤ maxLen := grownCap_le_maxLen w (0 + n) 0 (ρ.t 25) (by rw [Nat.zero_add]; exact hn)
   refine ⟨_, rfl, World.ownsRow_made (base := w.heap.size) w.drew _ _ (Nat.le_refl _) hm ?_, ?_⟩
   · have hzs : ∀ (c : Array Value) (k : Nat), (Builtin.zeroCells c k).size = k * c.size := fun c k => by simp [Builtin.zeroCells]
     simp only [Array.size_append, hzs, hz1]
     simp
     rw [← Nat.add_mul]
     rw [Nat.zero_add] at hG
     congr 1
     omega
   · exact Below.alloc (a := w) (w := w.drew) ⟨rfl, rfl, rfl, Nat.le_refl _, fun k hk => rfl⟩ (Nat.le_refl _) _
end Go.Ev
namespace Go.Ev
open Go Go.RowKit
variable {P : Program}
/-- A cursor over words: so many of them, and the place moves on. -/
def curS : Summ := fun cs look _ => match cs with
 | [.int .i64 n, .ptr a [], .ptr b []] => match look a, look b with
   | .mem (.int .i64 x), .mem (.pure (.slice (.int .u32)) w) => some ⟨decide (0 ≤ x) && (decide (0 ≤ n) && decide (x + n ≤ ((show List Int from w).length : Int))), .pure (.slice (.int .u32)) (((show List Int from w).drop x.toNat).take ((x + n).toNat - x.toNat)), [(a, .mem (.int .i64 (x + n)))]⟩
   | _, _ => none
 | _ => none
theorem curS_congr : SummC curS := by
 intro cs look look' nid h
 unfold curS
 split
 · rename_i n a b
   rw [h a (by simp [CV.refs]), h b (by simp [CV.refs])]
 · rfl
theorem setCell_row {w : World} {g : Nat} {x v : Value} {te : TypeId} (hg : w.heap[g]? = some (.cells #[x] te (0, 0))) : w.setCell ⟨g, 0, none⟩ v = w.setRow g #[v] := by
 have hlt := (Array.getElem?_eq_some_iff.1 hg).1
 unfold World.setCell World.setRow
 congr 1
 apply Array.ext
 · simp
 · intro i h1 h2
   simp only [Array.getElem_modify]
   split
   · rename_i e
     subst e
     have := (Array.getElem?_eq_some_iff.1 hg).2
     rw [this]
     simp
   · rfl
theorem cur_sum {f : Nat} (hcb : callable P f = true)
   (hw : ∀ (w : World) (n x : Int) (g h : Nat) (ad : Option Addr) (len cap : Nat) (te : TypeId), w.heap[g]? = some (.cells #[.int .i64 x] te (0, 0)) → w.cell? ⟨h, 0, none⟩ = some (.slice ad len cap) → h ≠ g → len ≤ cap → cap ≤ 9223372036854775807 → 0 ≤ x → 0 ≤ n → x + n ≤ len →
     Calls P f #[.int .i64 n, .pointer (some ⟨g, 0, none⟩), .pointer (some ⟨h, 0, none⟩)] w fun e w' => e = .returned (.slice (if cap = x.toNat then ad else ad.map (·.add (x.toNat * 1))) ((x + n).toNat - x.toNat) (cap - x.toNat)) ∧ w' = w.setCell ⟨g, 0, none⟩ (.int .i64 (x + n))) : SummOK P f curS := by
 refine ⟨hcb, curS_congr, ?_⟩
 intro base E hp cs vs nid out H hvs hs hok hf hn
 unfold curS at hs
 split at hs
 · rename_i n a b
   split at hs
   · rename_i x xs hla hlb
     simp at hs; subst hs
     simp only [Bool.and_eq_true, decide_eq_true_eq] at hok
     obtain ⟨o1, o2, o3⟩ := hok
     match vs, hvs with
     | [v1, v2, v3], ⟨hv1, hv2, hv3, _⟩ =>
       have e1 := (VRep_one rfl (by simp)).1 hv1
       obtain ⟨e1, hwn⟩ := e1
       injection e1 with e1
       obtain ⟨la, e2⟩ := (VRep_one rfl (by simp)).1 hv2
       injection e2 with e2
       obtain ⟨lb, e3⟩ := (VRep_one rfl (by simp)).1 hv3
       injection e3 with e3
       subst e1; subst e2; subst e3
       have ha := H.blk a
       rw [show lookH hp a = .mem (.int .i64 x) from hla] at ha
       have hb := H.blk b
       rw [show lookH hp b = .mem (.pure (.slice (.int .u32)) xs) from hlb] at hb
       obtain ⟨c1, te1, hh1, hc1, hwx⟩ := ha
       obtain ⟨c2, te2, hh2, hc2⟩ := hb
       have hc1' : c1 = #[.int .i64 x] := by apply Array.ext'; simpa using hc1
       subst hc1'
       obtain ⟨ad, cap, e4, q1, q2, q3⟩ := hc2
       have hc2' : c2 = #[.slice ad (List.length xs) cap] := by apply Array.ext'; simpa using e4
       subst hc2'
       have hcb2 : E.w.cell? ⟨E.μ b, 0, none⟩ = some (.slice ad (List.length xs) cap) := by simp [World.cell?, hh2]
       have hab : E.μ b ≠ E.μ a := by
         intro e
         have : b = a := H.inj b a (E.μ b) (by rw [show lookH hp b = .mem (.pure (.slice (.int .u32)) xs) from hlb]; rfl) (by rw [show lookH hp a = .mem (.int .i64 x) from hla]; exact e)
         subst this
         have := hla.symm.trans hlb
         injection this with this
         cases this
       have hcm : cap ≤ 9223372036854775807 := by simpa [maxLen] using q2
       have o3' : x + n ≤ ((List.length xs : Nat) : Int) := o3
       have hwy : IntKind.wrap .i64 (x + n) = x + n := IntWalk.i64_in _ ⟨by omega, by omega⟩
       refine Calls.mono (hw E.w n x (E.μ a) (E.μ b) ad (List.length xs) cap te1 hh1 hcb2 hab q1 hcm o1 o2 o3') ?_
       rintro e w' ⟨rfl, rfl⟩
       have hga : holdsB E a (lookH hp a) (E.μ a) := by rw [show lookH hp a = .mem (.int .i64 x) from hla]; rfl
       obtain ⟨hle, H'⟩ := H.store (n := a) (g := E.μ a) (k := .mem (.int .i64 (x + n))) (cur := #[.int .i64 (x + n)]) hga ⟨_, te1, setRow_heap E.w (E.μ a) _ _ te1 (0, 0) hh1, rfl, hwy⟩ (fun g' hg' => hg') (by simp) (fun g' hg' => setRow_other E.w _ _ g' hg') (setRow_below E.w _ (H.sep a _ hga).2)
       refine ⟨_, _, rfl, (setCell_row hh1).symm, hle, H', ?_⟩
       refine VRep_slice.2 (RepD.mono hle.I hle.heap (.slice (.int .u32)) _ _ ?_)
       exact seg_rep (sz := 1) ⟨ad, cap, rfl, q1, q2, q3⟩ rfl (by omega) (by omega) q1 q2
   · cases hs
 · cases hs
end Go.Ev
