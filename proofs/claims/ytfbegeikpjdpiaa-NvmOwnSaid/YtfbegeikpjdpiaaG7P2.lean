/- Helpers: functions of the program as Lean functions, and what they compute. No condition. -/
import Derived.Test.YtfbegeikpjdpiaaG7P1
import Derived.Test.YtfbegeikpjdpiaaE7P3
import Derived.Test.YtfbegeikpjdpiaaE7P4
set_option maxRecDepth 10000
set_option linter.unusedVariables false
set_option linter.unusedSimpArgs false
open Go.IntKind (wrap i64 i32 i16 i8 u64 u32 u16 u8)
open List (getD length take drop replicate)
open Int (toNat)
open Go.Ev.Sp
set_option linter.unusedSimpArgs false
set_option linter.unusedVariables false
namespace Go.Ev
open Go Go.Proofs Go.RowKit
set_option maxRecDepth 100000
set_option maxHeartbeats 1000000
abbrev EntT:Ty:= .pair (.int .i64) (.pair (.slice (.int .u32)) .unit)
theorem cell_set_same{w:World}{b o:Nat}{u v:Value}(h:w.cell? ⟨b,o,none⟩=some u):(w.setCell ⟨b,o,none⟩ v).cell? ⟨b,o,none⟩=some v:=by
 have:=World.cell?_setCells_in b [v] o w (fun j hj=>by simp at hj;subst hj;simp[h]) 0 (by simp)
 simpa[World.setCells]using this
theorem cell_set_other{w:World}{b o g off:Nat}{v:Value}(h:g≠b\/off≠o):(w.setCell ⟨b,o,none⟩ v).cell? ⟨g,off,none⟩=w.cell? ⟨g,off,none⟩:=by
 have:=World.cell?_setCells_out b [v] o w ⟨g,off,none⟩ (fun e _=>by
  have e:g=b:=e
  show off<o\/o+[v].length<=off
  simp only[List.length_singleton]
  omega)
 simpa[World.setCells]using this
structure Like(n0:Nat)(w1 w:World):Prop where
 bel:Below n0 w1 w
 cell:∀(g off:Nat)(u:Value),g<w1.heap.size->w1.cell? ⟨g,off,none⟩=some u->w.cell? ⟨g,off,none⟩=some u\/((∃m,u= .int .u32 m)/\∃m',w.cell? ⟨g,off,none⟩=some (.int .u32 m')/\u32.wrap m'=m')
 thw:∀g,g<w1.heap.size->thaw w1 g->thaw w g
theorem Like.refl(n0:Nat)(w:World):Like n0 w w:=⟨Below.refl _ _,fun _ _ _ _ h=> .inl h,fun _ _ h=>h⟩
theorem Like.old{n0:Nat}{w1 w w':World}(h:Like n0 w1 w)(hb:Below n0 w w')(hc:∀g,g<w1.heap.size->w'.heap[g]? =w.heap[g]?):Like n0 w1 w':=by
 have e1:∀g off,g<w1.heap.size->w'.cell? ⟨g,off,none⟩=w.cell? ⟨g,off,none⟩:=fun g off hg=>by
  unfold World.cell?
  rw[hc g hg]
 refine⟨h.bel.trans hb,fun g off u hg hu=> ?_,fun g hg ht=>thaw.congr (hc g hg) (h.thw g hg ht)⟩
 rw[e1 g off hg]
 exact h.cell g off u hg hu
theorem Like.setCell{n0:Nat}{w1 w:World}(h:Like n0 w1 w){b o:Nat}{m m':Int}(hb:n0<=b)(h1:∃x,w1.cell? ⟨b,o,none⟩=some (.int .u32 x))(h2:w.cell? ⟨b,o,none⟩=some (.int .u32 m))(hw:u32.wrap m'=m'):Like n0 w1 (w.setCell ⟨b,o,none⟩ (.int .u32 m')):=by
 refine⟨(h.bel).setCell (p:=⟨b,o,none⟩) hb _,fun g off u hg hu=> ?_,fun g hg ht off u hu=> ?_⟩
 ·by_cases e:g=b/\off=o
  ·obtain⟨rfl,rfl⟩:=e
   obtain⟨x,hx⟩:=h1
   rw[hx]at hu
   injection hu with hu
   exact .inr ⟨⟨x,hu.symm⟩,m',cell_set_same h2,hw⟩
  ·rw[cell_set_other (by omega)]
   exact h.cell g off u hg hu
 ·rw[World.frozen?_setCell]
  by_cases e:g=b/\off=o
  ·obtain⟨rfl,rfl⟩:=e
   exact h.thw g hg ht off _ h2
  ·rw[cell_set_other (by omega)]at hu
   exact h.thw g hg ht off u hu
theorem Like.same{n0:Nat}{w1 w:World}(h:Like n0 w1 w){b off:Nat}{cs:List Value}(hb:b<w1.heap.size)(hc:cellsAt w1 b off cs)(hn:∀v∈cs,∀m,v≠ .int .u32 m):cellsAt w b off cs:=fun j u hu=>by
 rcases h.cell b (off+j) u hb (hc j u hu)with h1|⟨⟨m,h1⟩,_⟩
 ·exact h1
 ·exact absurd h1 (hn u (List.mem_of_getElem? hu) m)
theorem Like.word{n0:Nat}{w1 w:World}(h:Like n0 w1 w){b o:Nat}{x:Int}(hb:b<w1.heap.size)(hx:u32.wrap x=x)(hc:w1.cell? ⟨b,o,none⟩=some (.int .u32 x)):∃m,w.cell? ⟨b,o,none⟩=some (.int .u32 m)/\u32.wrap m=m:=by
 rcases h.cell b o _ hb hc with h1|⟨_,h1⟩
 ·exact⟨x,h1,hx⟩
 ·exact h1
structure Kept(a a':Act):Prop where
 size:a'.tmps.size=a.tmps.size
 defers:a'.defers=a.defers
 t2:a'.eval (.tmp 2)=a.eval (.tmp 2)
 t4:a'.eval (.tmp 4)=a.eval (.tmp 4)
 t9:a'.eval (.tmp 9)=a.eval (.tmp 9)
 t10:a'.eval (.tmp 10)=a.eval (.tmp 10)
theorem Kept.refl(a:Act):Kept a a:=⟨rfl,rfl,rfl,rfl,rfl,rfl⟩
theorem Kept.put{a a':Act}(h:Kept a a'){d:Nat}(v:Value)(hd:[2,4,9,10].contains d=false):Kept a (a'.put (some d) v):=by
 simp only[List.contains_cons,List.contains_nil,Bool.or_eq_false_iff,beq_eq_false_iff_ne,ne_eq]at hd
 exact⟨put_size.trans h.size,put_defers.trans h.defers,(eval_ne (Ne.symm hd.1)).trans h.t2,(eval_ne (Ne.symm hd.2.1)).trans h.t4,(eval_ne (Ne.symm hd.2.2.1)).trans h.t9,(eval_ne (Ne.symm hd.2.2.2.1)).trans h.t10⟩
noncomputable def D3:DC:= .seq (.reg [(some 101,.move (.tmp 99)),(some 25,.assign (.tmp 101))]) (.reg [(some 102,.fieldAddr 59 (.tmp 24) 1),(some 103,.load 22 (.tmp 102)),(some 104,.move (.tmp 25)),(some 105,.indexAddr 22 (.tmp 103) (.tmp 104)),(some 106,.load 26 (.tmp 105)),(some 107,.binOp .add 26 (.tmp 106) (.const (.int .u32 1)) 26),(some 108,.indexAddr 22 (.tmp 103) (.tmp 104)),(none,.store 26 (.tmp 108) (.tmp 107))])
noncomputable def D2:DC:= .seq (.reg [(some 100,.binOp .lss 3 (.tmp 99) (.tmp 98) 3)]) (.seq (.cond (.tmp 100) .skip (.exit 2)) (.seq (.block 3 D3) (.reg [(some 109,.binOp .add 3 (.tmp 99) (.const (.int .i64 1)) 3),(some 99,.move (.tmp 109))])))
noncomputable def D1:DC:= .seq (.reg [(some 94,.indexAddr 43 (.tmp 90) (.tmp 92)),(some 95,.load 59 (.tmp 94)),(some 24,.alloc 59),(none,.store 59 (.tmp 24) (.tmp 95))]) (.seq (.reg [(some 96,.fieldAddr 59 (.tmp 24) 1),(some 97,.load 22 (.tmp 96)),(some 98,.call ⟨.builtin .len,#[.tmp 97],#[22]⟩),(some 99,.move (.const (.int .i64 0)))]) (.block 2 (.loop D2)))
noncomputable def D0:DC:= .seq (.reg [(some 93,.binOp .lss 3 (.tmp 92) (.tmp 91) 3)]) (.seq (.cond (.tmp 93) .skip (.exit 0)) (.seq (.block 1 D1) (.reg [(some 110,.binOp .add 3 (.tmp 92) (.const (.int .i64 1)) 3),(some 92,.move (.tmp 110))])))
noncomputable def D14:DC:= .seq (.reg [(some 88,.move (.tmp 22)),(some 89,.binOp .eql 33 (.tmp 88) (.const (.int .i64 0)) 33)]) (.cond (.tmp 89) (.seq (.reg [(some 90,.move (.tmp 21)),(some 91,.call ⟨.builtin .len,#[.tmp 90],#[43]⟩),(some 92,.move (.const (.int .i64 0)))]) (.block 0 (.loop D0))) .skip)
noncomputable def D13:DC:= .reg [(some 84,.load 32 (.tmp 4)),(some 85,.call ⟨.value (.func 18),#[.tmp 84],#[32]⟩),(some 83,.move (.tmp 85)),(some 86,.extract (.tmp 83) 0),(some 87,.extract (.tmp 83) 1),(some 21,.assign (.tmp 86)),(some 22,.assign (.tmp 87))]
noncomputable def code7:Code:=bodyK Try.prog 7
theorem d13:desc (headK (dropK 13 code7))=D13:=by kernel_rfl
theorem d14:desc (headK (dropK 14 code7))=D14:=by kernel_rfl
theorem u22:Try.prog.underlying 22=some (.slice 26):=by kernel_rfl
theorem u43:Try.prog.underlying 43=some (.slice 59):=by kernel_rfl
theorem h26:hasT Try.prog 26=true:=by kernel_rfl
theorem h59:hasT Try.prog 59=true:=by kernel_rfl
theorem h22:hasT Try.prog 22=true:=by kernel_rfl
theorem z26:szT Try.prog 26=1:=by kernel_rfl
theorem z59:szT Try.prog 59=2:=by kernel_rfl
theorem z22:szT Try.prog 22=1:=by kernel_rfl
theorem g26:isAggT Try.prog 26=false:=by kernel_rfl
theorem g22:isAggT Try.prog 22=false:=by kernel_rfl
theorem g59:isAggT Try.prog 59=true:=by kernel_rfl
theorem s26:(Try.prog.underlying 26).isSome=true:=by kernel_rfl
theorem s22:(Try.prog.underlying 22).isSome=true:=by kernel_rfl
theorem s59:(Try.prog.underlying 59).isSome=true:=by kernel_rfl
theorem f59:∃fs f,Try.prog.underlying 59=some (.struct fs)/\fs[1]? =some f/\f.offset=1/\f.type=22:=⟨_,_,rfl,rfl,by kernel_rfl,by kernel_rfl⟩
theorem i59:∃i zv,Try.prog.info? 59=some i/\i.zero=some zv/\zv.cells.size=2:=⟨_,_,rfl,rfl,by kernel_rfl⟩
theorem lss64{m n:Nat}:binI .lss .i64 (m:Int) (n:Int)=some (true,.bool (decide ((m:Int)<(n:Int)))):=rfl
theorem add64{m:Nat}(h:m<maxLen):binI .add .i64 (m:Int) 1=some (true,.int .i64 ((m+1:Nat):Int)):=by
 have:i64.wrap ((m:Int)+1)=((m+1:Nat):Int):=by
  rw[show(m:Int)+1=((m+1:Nat):Int) by omega]
  exact wrap_i64_nat (by omega)
 show some (true,CV.int .i64 (i64.wrap ((m:Int)+1)))=_
 rw[this]
end Go.Ev
set_option linter.unusedSimpArgs false
set_option linter.unusedVariables false
namespace Go.Ev
open Go Go.Proofs Go.RowKit
set_option maxRecDepth 100000
set_option maxHeartbeats 1000000
section
variable{a:Act}{w0 w1:World}{vl:Value}{nl i g key n cp:Nat}{kv:Int}{ad:Option Addr}{data:List Int}
structure I2(a:Act)(w0 w1:World)(vl:Value)(nl i g:Nat)(kv:Int)(ad:Option Addr)(n cp:Nat)(a':Act)(w':World)(j:Nat):Prop where
 kept:Kept a a'
 like:Like w0.heap.size w1 w'
 t90:a'.eval (.tmp 90)=vl
 t91:a'.eval (.tmp 91)= .int .i64 nl
 t92:a'.eval (.tmp 92)= .int .i64 i
 t24:a'.eval (.tmp 24)= .pointer (some ⟨g,0,none⟩)
 blk:w'.heap[g]? =some (.cells #[.int .i64 kv,.slice ad n cp] 59 (0,0))
 t98:a'.eval (.tmp 98)= .int .i64 n
 t99:a'.eval (.tmp 99)= .int .i64 j
 le:j<=n
theorem I2.put{a':Act}{w':World}{j:Nat}(h:I2 a w0 w1 vl nl i g kv ad n cp a' w' j){d:Nat}(v:Value)(hd:[2,4,9,10,90,91,92,24,98,99].contains d=false):I2 a w0 w1 vl nl i g kv ad n cp (a'.put (some d) v) w' j:=by
 have hd':=hd
 simp only[List.contains_cons,List.contains_nil,Bool.or_eq_false_iff,beq_eq_false_iff_ne,ne_eq]at hd
 obtain⟨q1,q2,q3,q4,q5,q6,q7,q8,q9,q10,_⟩:=hd
 refine⟨h.kept.put v ?_,h.like,(eval_ne (Ne.symm q5)).trans h.t90,(eval_ne (Ne.symm q6)).trans h.t91,(eval_ne (Ne.symm q7)).trans h.t92,(eval_ne (Ne.symm q8)).trans h.t24,h.blk,(eval_ne (Ne.symm q9)).trans h.t98,(eval_ne (Ne.symm q10)).trans h.t99,h.le⟩
 simp[q1,q2,q3,q4]
theorem I2.world{a':Act}{w' w2:World}{j:Nat}(h:I2 a w0 w1 vl nl i g kv ad n cp a' w' j)(hl:Like w0.heap.size w1 w2)(hb:w2.heap[g]? =some (.cells #[.int .i64 kv,.slice ad n cp] 59 (0,0))):I2 a w0 w1 vl nl i g kv ad n cp a' w2 j:=
 ⟨h.kept,hl,h.t90,h.t91,h.t92,h.t24,hb,h.t98,h.t99,h.le⟩
theorem d3_ok(hs:a.tmps.size=119)(hg:w1.heap.size<=g)(hr:RepD w1 (newI w0 w1) (.slice (.int .u32)) data [.slice ad n cp])(hn:data.length=n){a':Act}{w':World}{j:Nat}(h:I2 a w0 w1 vl nl i g kv ad n cp a' w' j)(hj:j<n){Q:Exit->Act->World->Prop}
 (hQ:∀a2 w2,I2 a w0 w1 vl nl i g kv ad n cp a2 w2 j->Q .normal a2 w2):wpD Try.prog D3 Q a' w':=by
 unfold D3
 obtain⟨b,off,c,m,e1,hI,hcell,hm⟩:=slice_at hr (i:=j) (by omega)
 have e1:ad=some ⟨b,off,none⟩:=by injection e1
 subst e1
 obtain⟨rfl,hwx⟩:=hm
 generalize hx:(getD data j (Ty.dflt (.int .u32)):Int)=x at hcell hwx
 have hc1:w1.cell? ⟨b,off+j,none⟩=some (.int .u32 x):=by
  have:=hcell 0 _ rfl
  simpa[Ty.size]using this
 have hs':a'.tmps.size=119:=h.kept.size.trans hs
 refine wpD_seq (wpD_reg (wpL_mov (wpL_asg (wpL_nil ?_))))
 have h1:=(h.put (d:=101) (a'.eval (.tmp 99)) rfl).put (d:=25) ((a'.put (some 101) (a'.eval (.tmp 99))).eval (.tmp 101)) rfl
 have e25:((a'.put (some 101) (a'.eval (.tmp 99))).put (some 25) ((a'.put (some 101) (a'.eval (.tmp 99))).eval (.tmp 101))).eval (.tmp 25)= .int .i64 j:=by
  rw[eval_same (by simp[put_size,hs']),eval_same (by simp[hs']),h.t99]
 have hs1:((a'.put (some 101) (a'.eval (.tmp 99))).put (some 25) ((a'.put (some 101) (a'.eval (.tmp 99))).eval (.tmp 101))).tmps.size=119:=by simp[put_size,hs']
 generalize ((a'.put (some 101) (a'.eval (.tmp 99))).put (some 25) ((a'.put (some 101) (a'.eval (.tmp 99))).eval (.tmp 101)))=a1 at h1 e25 hs1
 clear h hs'
 refine wpD_reg ?_
 obtain⟨fs,f,q1,q2,q3,q4⟩:=f59
 refine wpL_fld q1 q2 (by rw[q4];exact h22) (by rw[q4,z22];decide) h1.t24 ?_
 rw[q3]
 have hcg:cellsAt w' g (0+1) [.slice (some ⟨b,off,none⟩) n cp]:=by
  have:=cells_seg h1.blk (l:=[.int .i64 kv]) (m:=[.slice (some ⟨b,off,none⟩) n cp]) (r:=[]) rfl
  simpa using this
 refine wpL_load h22 s22 (eval_same (by rw[hs1];decide)) hcg (by rw[show [Value.slice (some ⟨b,off,none⟩) n cp].length=1 from rfl];exact z22.symm) (fun _=>rfl) ?_
 rw[g22]
 simp only[Bool.false_eq_true,if_false,List.headD_cons]
 refine wpL_mov ?_
 have hib:inB (j:Int) n=true:=by simp[inB];omega
 refine wpL_idx u22 h26 (b:=b) (off:=off) (n:=n) (cp:=cp) (k:= .i64) (i:=j) ?_ ?_ hib ?_
 ·simp[eval_ne,eval_same,put_size,hs1]
 ·simp[eval_ne,eval_same,put_size,hs1,e25]
 rw[Int.toNat_natCast,z26,Nat.mul_one]
 obtain⟨y,hy,hwy⟩:=h1.like.word hI.2.1 hwx hc1
 have hcy:cellsAt w' b (off+j) [.int .u32 y]:=by
  intro q u hu
  match q,hu with
  |0,hu=>simp at hu;subst hu;simpa using hy
 refine wpL_load h26 s26 (by rw[eval_same (by simp[put_size,hs1])]) hcy (by rw[show [Value.int .u32 y].length=1 from rfl];exact z26.symm) (fun _=>rfl) ?_
 rw[g26]
 simp only[Bool.false_eq_true,if_false,List.headD_cons]
 refine wpL_bin (k:= .u32) (m:=y) (n:=1) (by rw[eval_same (by simp[put_size,hs1])]) rfl hwy (c:= .int .u32 (u32.wrap (y+1))) rfl ?_
 intro v hv
 obtain⟨rfl,hwv⟩:=VRep_int.1 hv
 refine wpL_idx u22 h26 (b:=b) (off:=off) (n:=n) (cp:=cp) (k:= .i64) (i:=j) ?_ ?_ hib ?_
 ·simp[eval_ne,eval_same,put_size,hs1]
 ·simp[eval_ne,eval_same,put_size,hs1,e25]
 rw[Int.toNat_natCast,z26,Nat.mul_one]
 refine wpL_st1 (u:= .int .u32 (u32.wrap (y+1))) rfl rfl h26 z26 ?_ ?_ hy (h1.like.thw b hI.2.1 hI.2.2 _ _ hy) (wpL_nil (hQ _ _ ?_))
 ·rw[eval_same (by simp[put_size,hs1])]
 ·simp[eval_ne,eval_same,put_size,hs1]
 have hgb:g≠b:=by have:=hI.2.1;omega
 refine I2.world (w':=w') (((((((h1.put _ rfl).put _ rfl).put _ rfl).put _ rfl).put _ rfl).put _ rfl).put _ rfl) (h1.like.setCell hI.1 ⟨x,hc1⟩ hy hwv) ?_
 rw[Below.heap_setCell _ _ _ _ hgb]
 exact h1.blk
theorem d2_ok(hs:a.tmps.size=119)(hg:w1.heap.size<=g)(hr:RepD w1 (newI w0 w1) (.slice (.int .u32)) data [.slice ad n cp])(hn:data.length=n)(hcm:n<=maxLen){a':Act}{w':World}(h:I2 a w0 w1 vl nl i g kv ad n cp a' w' 0){Q:Exit->Act->World->Prop}
 (hQ:∀a2 w2,I2 a w0 w1 vl nl i g kv ad n cp a2 w2 n->Q .normal a2 w2):wpD Try.prog (.block 2 (.loop D2)) Q a' w':=by
 refine wpD_block (wpD_loop (fun a2 w2=>∃j,I2 a w0 w1 vl nl i g kv ad n cp a2 w2 j) (fun a2 _=>match a2.eval (.tmp 99)with| .int _ k=>n-k.toNat|_=>0) ⟨0,h⟩ ?_)
 clear h
 rintro a' w' ⟨j,h⟩
 have hs':a'.tmps.size=119:=h.kept.size.trans hs
 unfold D2
 refine wpD_seq (wpD_reg (wpL_bin h.t99 h.t98 (wrap_i64_nat (by have:=h.le;omega)) lss64 fun v hv=>wpL_nil ?_))
 have hv:=VRep_bool.1 hv
 subst hv
 refine wpD_seq (wpD_cond (eval_same (by rw[hs'];decide)) (fun ht=>wpD_skip ?_) (fun hf=>wpD_exit ?_))
 ·have hj:j<n:=by simpa using ht
  refine wpD_seq (wpD_block (d3_ok hs hg hr hn (h.put (d:=100) (.bool (decide ((j:Int)<(n:Int)))) rfl) hj fun a2 w2 h2=> ?_))
  have hs2:a2.tmps.size=119:=h2.kept.size.trans hs
  refine wpD_reg (wpL_bin h2.t99 (eval_const (a:=a2)) (wrap_i64_nat (by omega)) (add64 (by omega)) fun v hv=> ?_)
  obtain⟨rfl,_⟩:=VRep_int.1 hv
  refine wpL_mov (wpL_nil ⟨⟨j+1,?_⟩,?_⟩)
  ·have h3:=h2.put (d:=109) (.int .i64 ((j+1:Nat):Int)) rfl
   refine⟨h3.kept.put _ rfl,h3.like,(eval_ne (by decide)).trans h3.t90,(eval_ne (by decide)).trans h3.t91,(eval_ne (by decide)).trans h3.t92,(eval_ne (by decide)).trans h3.t24,h3.blk,(eval_ne (by decide)).trans h3.t98,?_,by omega⟩
   rw[eval_same (by simp[put_size,hs2]),eval_same (by simp[hs2])]
  ·rw[eval_same (by simp[put_size,hs2]),eval_same (by simp[hs2]),h.t99]
   simp only[Int.toNat_natCast]
   omega
 ·have hj:¬j<n:=by simpa using hf
  have hjn:j=n:=by have:=h.le;omega
  subst hjn
  exact hQ _ _ (h.put (d:=100) _ rfl)
end
end Go.Ev
set_option linter.unusedSimpArgs false
set_option linter.unusedVariables false
namespace Go.Ev
open Go Go.Proofs Go.RowKit
set_option maxRecDepth 100000
set_option maxHeartbeats 1000000
section
variable{a:Act}{w0 w1:World}{vl:Value}{L:List EntT.den}
structure I1(a:Act)(w0 w1:World)(vl:Value)(nl:Nat)(a':Act)(w':World)(i:Nat):Prop where
 kept:Kept a a'
 like:Like w0.heap.size w1 w'
 t90:a'.eval (.tmp 90)=vl
 t91:a'.eval (.tmp 91)= .int .i64 nl
 t92:a'.eval (.tmp 92)= .int .i64 i
 le:i<=nl
theorem I1.put{nl:Nat}{a':Act}{w':World}{i:Nat}(h:I1 a w0 w1 vl nl a' w' i){d:Nat}(v:Value)(hd:[2,4,9,10,90,91,92].contains d=false):I1 a w0 w1 vl nl (a'.put (some d) v) w' i:=by
 simp only[List.contains_cons,List.contains_nil,Bool.or_eq_false_iff,beq_eq_false_iff_ne,ne_eq]at hd
 obtain⟨q1,q2,q3,q4,q5,q6,q7,_⟩:=hd
 refine⟨h.kept.put v ?_,h.like,(eval_ne (Ne.symm q5)).trans h.t90,(eval_ne (Ne.symm q6)).trans h.t91,(eval_ne (Ne.symm q7)).trans h.t92,h.le⟩
 simp[q1,q2,q3,q4]
theorem d1_ok(hs:a.tmps.size=119)(hle:w0.heap.size<=w1.heap.size)(hl:RepD w1 (newI w0 w1) (.slice EntT) L [vl]){a':Act}{w':World}{i:Nat}(h:I1 a w0 w1 vl L.length a' w' i)(hi:i<L.length){Q:Exit->Act->World->Prop}
 (hQ:∀a2 w2,I1 a w0 w1 vl L.length a2 w2 i->Q .normal a2 w2):wpD Try.prog D1 Q a' w':=by
 unfold D1
 have hs':a'.tmps.size=119:=h.kept.size.trans hs
 obtain⟨b,off,c,m,e1,hI,hcell,hm⟩:=slice_at hl hi
 generalize hx:(getD L i (Ty.dflt EntT))=x at hm
 obtain⟨c1,c2,rfl,⟨rfl,_⟩,c3,c4,rfl,hd,hu⟩:=hm
 have hu:c4=[]:=hu
 subst hu
 have hd0:=hd
 obtain⟨ad,cp,e2,hnc,hcm,_⟩:=hd
 subst e2
 rw[List.append_nil]at hcell
 have hcell:cellsAt w1 b (off+i*2) [.int .i64 x.1,.slice ad (length x.2.1) cp]:=hcell
 have hcell':cellsAt w' b (off+i*2) [.int .i64 x.1,.slice ad (length x.2.1) cp]:=h.like.same hI.2.1 hcell (by
  intro v hv q
  simp only[List.mem_cons,List.not_mem_nil,or_false]at hv
  rcases hv with rfl|rfl<;>simp)
 refine wpD_seq (wpD_reg (wpL_idx u43 h59 (b:=b) (off:=off) (n:=L.length) (cp:=c) (k:= .i64) (i:=i) (h.t90.trans e1) h.t92 (by simp[inB];omega) ?_))
 rw[Int.toNat_natCast,z59]
 refine wpL_load h59 s59 (eval_same (by rw[hs'];decide)) hcell' (by rw[show [Value.int .i64 x.1,.slice ad (length x.2.1) cp].length=2 from rfl];exact z59.symm) (fun hg=>by rw[g59]at hg;cases hg) ?_
 rw[g59]
 simp only[if_true]
 obtain⟨ti,zv,q1,q2,q3⟩:=i59
 refine wpL_alloc q1 q2 ?_
 have hnew:(w'.alloc (.cells zv.cells 59)).heap[w'.heap.size]? =some (.cells zv.cells 59 (0,0)):=World.alloc_heap_new _ _
 refine wpL_stw (u:= .agg #[.int .i64 x.1,.slice ad (length x.2.1) cp]) (cur:=zv.cells) (te:=59) (g:=w'.heap.size) ?_ h59 z59.symm (eval_same (by simp[put_size,hs'])) ?_ hnew (q3.trans rfl) ?_
 ·intro v hv
  simp only[Value.cells,List.mem_cons,List.not_mem_nil,or_false]at hv
  rcases hv with rfl|rfl<;>rfl
 ·rw[eval_ne (by decide),eval_same (by simp[put_size,hs'])]
 refine wpL_nil ?_
 have hg:w1.heap.size<=w'.heap.size:=h.like.bel.size
 have hblk:((w'.alloc (.cells zv.cells 59)).setRow w'.heap.size #[.int .i64 x.1,.slice ad (length x.2.1) cp]).heap[w'.heap.size]? =some (.cells #[.int .i64 x.1,.slice ad (length x.2.1) cp] 59 (0,0)):=setRow_heap _ _ _ _ _ _ hnew
 have hlk:Like w0.heap.size w1 ((w'.alloc (.cells zv.cells 59)).setRow w'.heap.size #[.int .i64 x.1,.slice ad (length x.2.1) cp]):=by
  refine(h.like.old ((Below.refl _ _).alloc (by omega) _) fun g hg'=>Below.heap_alloc _ _ _ (by omega)).old (setRow_below _ _ (by omega)) fun g hg'=>setRow_other _ _ _ _ (by omega)
 have h1:I1 a w0 w1 vl L.length (((a'.put (some 94) (.pointer (some ⟨b,off+i*2,none⟩))).put (some 95) (.agg [.int .i64 x.1,.slice ad (length x.2.1) cp].toArray)).put (some 24) (.pointer (some ⟨w'.heap.size,0,none⟩))) ((w'.alloc (.cells zv.cells 59)).setRow w'.heap.size #[.int .i64 x.1,.slice ad (length x.2.1) cp]) i:=by
  have:=((h.put (.pointer (some ⟨b,off+i*2,none⟩)) (d:=94) rfl).put (.agg [.int .i64 x.1,.slice ad (length x.2.1) cp].toArray) (d:=95) rfl).put (.pointer (some ⟨w'.heap.size,0,none⟩)) (d:=24) rfl
  exact⟨this.kept,hlk,this.t90,this.t91,this.t92,this.le⟩
 have e24:(((a'.put (some 94) (.pointer (some ⟨b,off+i*2,none⟩))).put (some 95) (.agg [.int .i64 x.1,.slice ad (length x.2.1) cp].toArray)).put (some 24) (.pointer (some ⟨w'.heap.size,0,none⟩))).eval (.tmp 24)= .pointer (some ⟨w'.heap.size,0,none⟩):=eval_same (by simp[put_size,hs'])
 show wpD Try.prog _ _ (((a'.put (some 94) (.pointer (some ⟨b,off+i*2,none⟩))).put (some 95) (.agg [.int .i64 x.1,.slice ad (length x.2.1) cp].toArray)).put (some 24) (.pointer (some ⟨w'.heap.size,0,none⟩))) ((w'.alloc (.cells zv.cells 59)).setRow w'.heap.size #[.int .i64 x.1,.slice ad (length x.2.1) cp])
 generalize (((a'.put (some 94) (.pointer (some ⟨b,off+i*2,none⟩))).put (some 95) (.agg [.int .i64 x.1,.slice ad (length x.2.1) cp].toArray)).put (some 24) (.pointer (some ⟨w'.heap.size,0,none⟩)))=a1 at h1 e24
 generalize ((w'.alloc (.cells zv.cells 59)).setRow w'.heap.size #[.int .i64 x.1,.slice ad (length x.2.1) cp])=w2 at h1 hblk
 clear hlk hnew hcell' hs'
 have hs1:a1.tmps.size=119:=h1.kept.size.trans hs
 obtain⟨fs,f,p1,p2,p3,p4⟩:=f59
 refine wpD_seq (wpD_reg (wpL_fld p1 p2 (by rw[p4];exact h22) (by rw[p4,z22];decide) e24 ?_))
 rw[p3]
 have hcg:cellsAt w2 w'.heap.size (0+1) [.slice ad (length x.2.1) cp]:=by
  have:=cells_seg hblk (l:=[.int .i64 x.1]) (m:=[.slice ad (length x.2.1) cp]) (r:=[]) rfl
  simpa using this
 refine wpL_load h22 s22 (eval_same (by rw[hs1];decide)) hcg (by rw[show [Value.slice ad (length x.2.1) cp].length=1 from rfl];exact z22.symm) (fun _=>rfl) ?_
 rw[g22]
 simp only[Bool.false_eq_true,if_false,List.headD_cons]
 refine wpL_len (x:= .tmp 97) rfl rfl rfl u22 (eval_same (by simp[put_size,hs1])) (wpL_mov (wpL_nil ?_))
 have h2:I2 a w0 w1 vl L.length i w'.heap.size x.1 ad (length x.2.1) cp ((((a1.put (some 96) (.pointer (some ⟨w'.heap.size,0+1,none⟩))).put (some 97) (.slice ad (length x.2.1) cp)).put (some 98) (.int .i64 (length x.2.1))).put (some 99) (.int .i64 0)) w2 0:=by
  have h3:=(((h1.put (.pointer (some ⟨w'.heap.size,0+1,none⟩)) (d:=96) rfl).put (.slice ad (length x.2.1) cp) (d:=97) rfl).put (.int .i64 (length x.2.1)) (d:=98) rfl).put (.int .i64 0) (d:=99) rfl
  refine⟨h3.kept,h3.like,h3.t90,h3.t91,h3.t92,?_,hblk,?_,?_,Nat.zero_le _⟩
  ·simp[eval_ne,e24]
  ·rw[eval_ne (by decide),eval_same (by simp[put_size,hs1])]
  ·rw[eval_same (by simp[put_size,hs1])];rfl
 exact d2_ok hs hg hd0 rfl (by omega) h2 fun a3 w3 h3=>hQ a3 w3 ⟨h3.kept,h3.like,h3.t90,h3.t91,h3.t92,h.le⟩
theorem d14_ok{h:Int}{a1:Act}(hs:a1.tmps.size=119)(hle:Below w0.heap.size w0 w1)(hl:RepD w1 (newI w0 w1) (.slice EntT) L [vl])(t21:a1.eval (.tmp 21)=vl)(t22:a1.eval (.tmp 22)= .int .i64 h)(hh:i64.wrap h=h){K:Act->World->Prop}{Q:Exit->Act->World->Prop}
 (hK:∀a2 w2,Kept a1 a2->Like w0.heap.size w1 w2->K a2 w2):wpD Try.prog D14 (Exit.then K Q) a1 w1:=by
 have hl0:=hl
 obtain⟨ad,c,e1,hlc,hcm,_⟩:=hl0
 have e1:vl= .slice ad (length L) c:=by simpa using e1
 unfold D14
 refine wpD_seq (wpD_reg (wpL_mov (wpL_bin (k:= .i64) (m:=h) (n:=0) ?_ rfl hh (c:= .bool (h==0)) rfl fun v hv=>wpL_nil ?_)))
 ·rw[eval_same (by rw[hs];decide),t22]
 have hv:=VRep_bool.1 hv
 subst hv
 have k1:Kept a1 ((a1.put (some 88) (a1.eval (.tmp 22))).put (some 89) (.bool (h==0))):=((Kept.refl a1).put _ rfl).put _ rfl
 have e21:((a1.put (some 88) (a1.eval (.tmp 22))).put (some 89) (.bool (h==0))).eval (.tmp 21)=vl:=by rw[eval_ne (by decide),eval_ne (by decide),t21]
 have e89:((a1.put (some 88) (a1.eval (.tmp 22))).put (some 89) (.bool (h==0))).eval (.tmp 89)= .bool (h==0):=eval_same (by simp[put_size,hs])
 generalize ((a1.put (some 88) (a1.eval (.tmp 22))).put (some 89) (.bool (h==0)))=a2 at k1 e21 e89
 have hs2:a2.tmps.size=119:=k1.size.trans hs
 refine wpD_cond e89 (fun _=> ?_) (fun _=>wpD_skip (hK _ _ k1 (Like.refl _ _)))
 refine wpD_seq (wpD_reg (wpL_mov (wpL_len (x:= .tmp 90) rfl rfl rfl u43 ((eval_same (by rw[hs2];decide)).trans (e21.trans e1)) (wpL_mov (wpL_nil ?_)))))
 have h1:I1 a1 w0 w1 vl L.length (((a2.put (some 90) (a2.eval (.tmp 21))).put (some 91) (.int .i64 (length L))).put (some 92) (.int .i64 0)) w1 0:=by
  refine⟨((k1.put _ rfl).put _ rfl).put _ rfl,Like.refl _ _,?_,?_,?_,Nat.zero_le _⟩
  ·rw[eval_ne (by decide),eval_ne (by decide),eval_same (by rw[hs2];decide),e21]
  ·rw[eval_ne (by decide),eval_same (by simp[put_size,hs2])]
  ·rw[eval_same (by simp[put_size,hs2])];rfl
 refine wpD_block (wpD_loop (fun a' w'=>∃i,I1 a1 w0 w1 vl L.length a' w' i) (fun a' _=>match a'.eval (.tmp 92)with| .int _ k=>L.length-k.toNat|_=>0) ⟨0,h1⟩ ?_)
 clear h1 e89 e21 k1 hs2
 rintro a' w' ⟨i,h1⟩
 have hs':a'.tmps.size=119:=h1.kept.size.trans hs
 unfold D0
 refine wpD_seq (wpD_reg (wpL_bin h1.t92 h1.t91 (wrap_i64_nat (by have:=h1.le;omega)) lss64 fun v hv=>wpL_nil ?_))
 have hv:=VRep_bool.1 hv
 subst hv
 refine wpD_seq (wpD_cond (eval_same (by rw[hs'];decide)) (fun ht=>wpD_skip ?_) (fun hf=>wpD_exit ?_))
 ·have hi:i<L.length:=by simpa using ht
  refine wpD_seq (wpD_block (d1_ok hs hle.size hl (h1.put (d:=93) (.bool (decide ((i:Int)<(length L:Int)))) rfl) hi fun a3 w3 h3=> ?_))
  have hs3:a3.tmps.size=119:=h3.kept.size.trans hs
  refine wpD_reg (wpL_bin h3.t92 (eval_const (a:=a3)) (wrap_i64_nat (by omega)) (add64 (by omega)) fun v hv=> ?_)
  obtain⟨rfl,_⟩:=VRep_int.1 hv
  refine wpL_mov (wpL_nil ⟨⟨i+1,?_⟩,?_⟩)
  ·have h4:=h3.put (d:=110) (.int .i64 ((i+1:Nat):Int)) rfl
   refine⟨h4.kept.put _ rfl,h4.like,(eval_ne (by decide)).trans h4.t90,(eval_ne (by decide)).trans h4.t91,?_,by omega⟩
   rw[eval_same (by simp[put_size,hs3]),eval_same (by simp[hs3])]
  ·rw[eval_same (by simp[put_size,hs3]),eval_same (by simp[hs3]),h1.t92]
   simp only[Int.toNat_natCast]
   omega
 ·exact hK _ _ (h1.put (d:=93) _ rfl).kept h1.like
end
end Go.Ev
set_option linter.unusedSimpArgs false
set_option linter.unusedVariables false
namespace Go.Ev
open Go Go.Proofs Go.RowKit
set_option maxRecDepth 100000
set_option maxHeartbeats 1000000
abbrev MemT:Ty:= .pair (.pair (.slice (.int .u32)) (.pair (.slice (.int .i64)) (.pair (.int .i64) .unit))) (.pair (.int .i64) (.pair (.int .i64) .unit))
abbrev DatT:Ty:= .slice (.int .u32)
theorem h32:hasT Try.prog 32=true:=by kernel_rfl
theorem s32:(Try.prog.underlying 32).isSome=true:=by kernel_rfl
theorem g32:isAggT Try.prog 32=true:=by kernel_rfl
theorem z32:Try.prog.cellsOf 32=5:=by kernel_rfl
theorem cb18:callable Try.prog 18=true:=by kernel_rfl
theorem rz18:Nat.ble RZ 18=false:=by kernel_rfl
theorem d13_ok{a:Act}{w0:World}{g4:Nat}{cs4:List Value}{m:MemT.den}{y:HDen R_18}(hs:a.tmps.size=119)(t4:a.eval (.tmp 4)= .pointer (some ⟨g4,0,none⟩))(hc:cellsAt w0 g4 0 cs4)(hm:RepD w0 (inW w0) MemT m cs4)(hF:F_18 m=some y){K:Act->World->Prop}{Q:Exit->Act->World->Prop}
 (hK:∀a1 w1 vl,Kept a a1->Below w0.heap.size w0 w1->RepD w1 (newI w0 w1) (.slice EntT) y.1 [vl]->a1.eval (.tmp 21)=vl->a1.eval (.tmp 22)= .int .i64 y.2.1->i64.wrap y.2.1=y.2.1->K a1 w1):wpD Try.prog D13 (Exit.then K Q) a w0:=by
 unfold D13
 have hl:cs4.length=5:=RepD.len _ _ _ hm
 refine wpD_reg (wpL_load h32 s32 t4 hc (by rw[hl,z32]) (fun h=>by rw[g32]at h;cases h) ?_)
 rw[g32]
 simp only[if_true]
 have hvs:Vs (youE w0 (inW w0) (rokOf Try.prog smB fns)) (ofJ A_18 (m,())) [.agg cs4.toArray]:=by
  refine⟨VRep1.up ⟨cs4,ofPJ_rep (t:=MemT) (by decide) (RepD.mono (fun g hg=>⟨hg,hg⟩) (fun _ _=>rfl) MemT m cs4 hm),?_⟩ (ofPJ_agg MemT m).2,trivial⟩
  rw[(ofPJ_agg MemT m).1]
  rfl
 have hcalls:=young_calls (P:=Try.prog) (fun base=>call_18 1 base) rz18 (run_18 (m,()) y hF) (w:=w0) (I:=inW w0) (fun _ h=>h) hvs
 refine wpL_call (f:=18) (R:=fun e w'=>∃v,e= .returned v/\Below w0.heap.size w0 w'/\VRep (pureE w' (newI w0 w')) (tupOf (ofH R_18 y)) v) rfl cb18 ?_ ?_
 ·have e:(#[Operand.tmp 84].map (a.put (some 84) (.agg cs4.toArray)).eval)=[Value.agg cs4.toArray].toArray:=by
   have:(a.put (some 84) (.agg cs4.toArray)).eval (.tmp 84)= .agg cs4.toArray:=eval_same (by rw[hs];decide)
   simp[this]
  show Calls Try.prog 18 (#[Operand.tmp 84].map _) w0 _
  rw[e]
  exact hcalls
 rintro e w1 ⟨v,rfl,hb,hv⟩
 refine⟨v,rfl,?_⟩
 obtain⟨vs,rfl,vl,r,rfl,h1,vh,r2,rfl,h2,h3⟩:=hv
 have h3:r2=[]:=h3
 subst h3
 have hl1:RepD w1 (newI w0 w1) (.slice EntT) y.1 [vl]:=RepD.mono (fun g hg=>hg.1) (fun _ _=>rfl) (.slice EntT) y.1 [vl] (VRep_slice.1 (h1.up (isVal_tup (isVal_ofP (.slice EntT) _))))
 obtain⟨rfl,hw⟩:=VRep_int.1 (h2.up (isVal_tup (isVal_ofP (.int .i64) _)))
 refine wpL_mov (wpL_ext (vs:= #[vl,.int .i64 y.2.1]) (v:=vl) ?_ rfl (wpL_ext (vs:= #[vl,.int .i64 y.2.1]) (v:= .int .i64 y.2.1) ?_ rfl (wpL_asg (wpL_asg (wpL_nil ?_)))))
 ·rw[eval_same (by simp[put_size,hs]),eval_same (by simp[put_size,hs])]
 ·rw[eval_ne (by decide),eval_same (by simp[put_size,hs]),eval_same (by simp[put_size,hs])]
 refine hK _ _ vl (((((((Kept.refl a).put _ rfl).put _ rfl).put _ rfl).put _ rfl).put _ rfl).put _ rfl |>.put _ rfl) hb hl1 ?_ ?_ hw
 ·simp[eval_ne,eval_same,put_size,hs]
 ·simp[eval_ne,eval_same,put_size,hs]
noncomputable def post7:IC:=compC Try.prog smB 7 (dropK 15 code7)
noncomputable def S15(d:List Int)(m o:MemT.den)(gv:List Int):St:=(((({sl:=replicate 119 .junk,hp:=[],fb:=0}:St).put (some 2) (.pure DatT d)).put (some 4) (.ref MemT m)).put (some 9) (.ref MemT o)).put (some 10) (.pure DatT gv)
noncomputable def kb15(ex:Ex)(S:St):Option Bool:=match ex with
 | .ret=>match resOf S [.inl 8]with
   |some [.bool b]=>some b
   |_=>none
 |_=>none
theorem post_run(d:List Int)(m o:MemT.den)(gv:List Int):evCode sm_7 FU (evFn sm_7 fns FU 2) post7 (S15 d m o gv) kb15=gd (p_33 m o) (bif(v_33 m o).1 then gd (p_34 d gv) (some (v_34 d gv).1)else some false):=by kernel_rfl
theorem s13:dropK 13 code7= .seq (headK (dropK 13 code7)) (.seq (headK (dropK 14 code7)) (dropK 15 code7)):=by kernel_rfl
theorem r15:rngs (dropK 15 code7)=[]:=by kernel_rfl
theorem rngs7:rngs code7=[]:=by kernel_rfl
theorem b7:Try.f7.body=some code7:=by kernel_rfl
theorem n7:Try.f7.ntmps=119:=by kernel_rfl
theorem res7:Try.f7.results.toList.map (resC Try.prog)=[.inl 8]:=by kernel_rfl
end Go.Ev
set_option linter.unusedSimpArgs false
set_option linter.unusedVariables false
namespace Go.Ev
open Go Go.Proofs Go.RowKit
set_option maxRecDepth 100000
set_option maxHeartbeats 1000000
structure Left(W:World)(d:List Int)(m o:MemT.den)(gv:List Int)(a:Act)(w0:World)(I:Nat->Prop):Prop where
 size:a.tmps.size=119
 bel:Below W.heap.size W w0
 imm:∀g,I g->g<w0.heap.size
 thw:∀g,I g->W.heap.size<=g->thaw w0 g
 marks:(∀e∈a.defers,∃D,e= {target:= .collected D,args:= #[]}/\W.heap.size<=D/\I D/\w0.heap[D]? =some (.deferred (some [])))/\a.defers.Nodup
 t2:RepD w0 I DatT d [a.eval (.tmp 2)]
 t10:RepD w0 I DatT gv [a.eval (.tmp 10)]
 t4:∃g cs,a.eval (.tmp 4)= .pointer (some ⟨g,0,none⟩)/\I g/\cellsAt w0 g 0 cs/\RepD w0 I MemT m cs
 t9:∃g cs,a.eval (.tmp 9)= .pointer (some ⟨g,0,none⟩)/\I g/\cellsAt w0 g 0 cs/\RepD w0 I MemT o cs
theorem left_of{W:World}{E0:Env}(hW:E0.w=W)(hE:∀g,E0.J g↔False){S:St}{a:Act}{w0:World}(hS:Sim W.heap.size E0 S a w0)(hsl:S.sl.length=119){l:List CV}(hl:resOf S [.inl 2,.inr (4,true,5),.inr (9,true,5),.inl 10]=some l){y:HDen R_7}(hy:pureK R_7 (tupOf l) S.hp=some y):∃I,Left W y.1 y.2.1 y.2.2.1 y.2.2.2.1 a w0 I:=by
 obtain⟨E,h0,rfl,H,hs,hd,hsz,hfb⟩:=hS
 simp only[resOf]at hl
 split at hl
 ·cases hl
 rename_i ht2
 split at hl
 rotate_left
 ·cases hl
 rename_i l2 hl2
 injection hl with hl;subst hl
 split at hl2
 rotate_left
 ·cases hl2
 rename_i b4 l3 hb4 hl3
 split at hl2
 rotate_left
 ·cases hl2
 rename_i c4 hc4
 split at hl2
 rotate_left
 ·cases hl2
 rename_i k4
 injection hl2 with hl2;subst hl2
 split at hl3
 rotate_left
 ·cases hl3
 rename_i b9 l4 hb9 hl4
 split at hl3
 rotate_left
 ·cases hl3
 rename_i c9 hc9
 split at hl3
 rotate_left
 ·cases hl3
 rename_i k9
 injection hl3 with hl3;subst hl3
 split at hl4
 ·cases hl4
 rename_i ht10
 injection hl4 with hl4;subst hl4
 have hp:gd (subsOK (lookH S.hp) [S.sl.getD 2 .junk,c4,c9,S.sl.getD 10 .junk]) (match purify (lookH S.hp) R_7 [S.sl.getD 2 .junk,c4,c9,S.sl.getD 10 .junk]with|some cs=>toH R_7 cs|none=>none)=some y:=hy
 obtain⟨hsub,hp⟩:=gd_some hp
 split at hp
 rotate_left
 ·cases hp
 rename_i cs hcs
 obtain⟨x,rfl⟩:=purify_ofH hcs
 rw[toH_ofH]at hp
 injection hp with hp;subst hp
 have box:∀ {t b:Nat}{c:CV},S.sl.getD t .junk= .ptr b []->S.look b= .mem c->c.isAgg=true->c.isVal=true->∃cs:List Value,a.eval (.tmp t)= .pointer (some ⟨E.μ b,0,none⟩)/\cellsAt E.w (E.μ b) 0 cs/\VRep E c (.agg cs.toArray)/\holdsB E b (lookH S.hp b) (E.μ b):=by
  intro t b c h1 h2 h3 h4
  have hv:=hs t
  rw[h1]at hv
  obtain⟨_,hp⟩:=VRep_ptr.1 hv
  have hbk:=H.blk b
  have h2':lookH S.hp b= .mem c:=h2
  rw[h2']at hbk
  obtain⟨cs,te,hh,hc⟩:=hbk
  refine⟨cs.toList,hp,?_,?_,by rw[h2'];rfl⟩
  ·have:=cells_seg hh (l:=[]) (m:=cs.toList) (r:=[]) (by simp)
   simpa using this
  ·refine VRep1.up ⟨cs.toList,hc,?_⟩ (isVal_tup h4)
   rw[h3];rfl
 obtain⟨cs4,e4,hce4,hv4,hh4⟩:=box hb4 hc4 k4.2.1 k4.2.2
 obtain⟨cs9,e9,hce9,hv9,hh9⟩:=box hb9 hc9 k9.2.1 k9.2.2
 let I:Nat->Prop:=fun g=>E.I g\/∃b,holdsB E b (lookH S.hp b) g
 have hvs:Vs (pureE E.w I) (ofH R_7 x) [a.eval (.tmp 2),.agg cs4.toArray,.agg cs9.toArray,a.eval (.tmp 10)] :=
  purify_rep (base:=W.heap.size) (E:=E) (E':=pureE E.w I) H.blk rfl (fun g hg=>⟨.inl hg.1,fun h=>h⟩) hcs hsub ⟨hs 2,hv4,hv9,hs 10,trivial⟩ (fun c _ g⟨b,_,hb⟩=>⟨.inr ⟨b,hb⟩,fun h=>h⟩)
 obtain⟨q2,q4,q9,q10,_⟩:=hvs
 have mem:∀ {z:MemT.den}{cs:List Value},VRep (pureE E.w I) (.pure MemT z) (.agg cs.toArray)->RepD E.w I MemT z cs:=by
  intro z cs h
  obtain⟨cs',h1,h2⟩:=VRep.one1 h (by simp)
  have h2:Value.agg cs.toArray= .agg cs'.toArray:=h2
  have:cs=cs':=by
   injection h2 with h2
   simpa using congrArg Array.toList h2
  subst this
  exact RepD.mono (fun g hg=>hg.1) (fun _ _=>rfl) MemT z cs h1
 have hbw:E0.le W.heap.size E:=h0
 refine⟨I,hsz.trans hsl,by subst hW;exact hbw.bel,fun g hg=>hg.elim (H.imm g) fun⟨_,h⟩=>H.held_lt h,fun g hg hb=>hg.elim (fun h=>H.thw g h hb) fun⟨_,h⟩=>H.heldThaw h,⟨fun e he=> ?_,hd.2⟩,RepD.mono (fun g hg=>hg.1) (fun _ _=>rfl) DatT _ _ ((VRep_slice (E:=pureE E.w I)).1 q2),RepD.mono (fun g hg=>hg.1) (fun _ _=>rfl) DatT _ _ ((VRep_slice (E:=pureE E.w I)).1 q10),⟨_,cs4,e4,.inr ⟨b4,hh4⟩,hce4,mem q4⟩,⟨_,cs9,e9,.inr ⟨b9,hh9⟩,hce9,mem q9⟩⟩
 obtain⟨D,h1,h2,h3,_,h5⟩:=hd.1 e he
 exact⟨D,h1,h2,.inl h3,h5⟩
theorem ret_ok{W:World}{E2:Env}{S3:St}{a3:Act}{w3:World}(hS3:Sim W.heap.size E2 S3 a3 w3){ex:Ex}(h3:kb15 ex S3=some true)(hb:Below W.heap.size W E2.w):bodyPostM Fence.wide 0 Try.prog Try.f7 (fun e W'=>e= .returned (.bool true)/\Below W.heap.size W W') (toExit ex) a3 w3:=by
 cases ex with
 |normal=>cases h3
 |exit id=>cases h3
 |ret=>
 have h3:(match resOf S3 [.inl 8]with
  |some [.bool b]=>some b
  |_=>none)=some true:=h3
 split at h3
 rotate_left
 ·cases h3
 rename_i b hres
 injection h3 with h3;subst h3
 obtain⟨E1,h0,rfl,H1,hs1,hd1,hl1,hfb⟩:=hS3
 show LeavesInM Fence.wide 0 Try.prog Try.f7 a3.tmps _ a3.defers .returning E1.w
 refine leavesM a3.defers E1 H1 h0 hd1 fun w4 hcell H4 hle4=> ?_
 have hs4:SlotsRep {E1 with w:=w4} S3 a3:=fun t=>(hs1 t).cells hcell
 obtain⟨v,hrun,hv⟩:=results_run (E:= {E1 with w:=w4}) (fn:=Try.f7) H4 hs4 (l:=[.bool true]) (by rw[res7];exact hres)
 exact⟨v,hrun,by rw[VRep_bool.1 hv],hb.trans hle4.bel⟩
abbrev E7(W:World):Env:= {pureE W (inW W)with rok:=rokOf Try.prog smB fns}
abbrev S7(x0:MemT.den)(x1:Int)(x2:List Int)(x3:Int×Int×Unit):St:= {sl:=ofH A_7 (x0,x1,x2,x3,())++replicate (119-(ofH A_7 (x0,x1,x2,x3,())).length) .junk,hp:=[],fb:=0}
theorem sim7{W:World}{x0:MemT.den}{x1:Int}{x2:List Int}{x3:Int×Int×Unit}{vs:List Value}(hvs:Vs (pureE W (inW W)) (ofH A_7 (x0,x1,x2,x3,())) vs):Sim W.heap.size (E7 W) (S7 x0 x1 x2 x3) {tmps:=vs.toArray++Array.replicate (Try.f7.ntmps-vs.toArray.size) undef,defers:=[]} W:=by
 have hvs0:Vs (E7 W) (ofH A_7 (x0,x1,x2,x3,())) vs:=purify_rep (base:=0) (look:=noLook) (E:=pureE W (inW W)) (E':=E7 W) (LRep_no _ _) rfl (fun g h=>h) (purify_self _ _ _) (subsOK_self _ _ _) hvs (fun c hc g⟨b,_,hb⟩=>hb.elim)
 have hlen:=Vs_len hvs0
 have hl4:vs.length=4:=hlen.symm
 refine⟨E7 W,Env.le.refl _ _,rfl,HS.nil0 (E:=E7 W) (fun _ h=>h) (fun _ h=>h) (fun _=>rfl) (fun _ h=>h.elim),fun t=> ?_,Marks.nil,?_,fun b hb=>hb.elim,Nat.le_refl _,rfl⟩
 ·have:=Vs_get t (hvs0.append (Vs_undef (E:=E7 W) (119-vs.length)))
  have e:(vs.toArray++Array.replicate (Try.f7.ntmps-vs.toArray.size) undef).getD t undef=(vs++replicate (119-vs.length) undef).getD t undef:=by
   have:(vs.toArray++Array.replicate (Try.f7.ntmps-vs.toArray.size) undef)=(vs++replicate (119-vs.length) undef).toArray:=by
    rw[n7]
    apply Array.ext';simp
   rw[this];simp
  rw[e]
  show VRep _ ((_++replicate (119-(ofH A_7 (x0,x1,x2,x3,())).length) CV.junk).getD t .junk) _
  rw[hlen];exact this
 ·rw[n7];simp[hlen,hl4]
theorem early_run(x0:MemT.den)(x1:Int)(x2:List Int)(x3:Int×Int×Unit):evCode sm_7 FU (evFn sm_7 fns FU 2) (preI Try.prog smB 7 3 code7) (S7 x0 x1 x2 x3) kb15=gd p_9 (bif !v_9.1 then some false else gd (p_10 x0.1) (bif(v_10 x0.1).1 then some true else bif decide ((length x2:Int)>24)then some true else none)):=by kernel_rfl
theorem early_calls{W:World}{x0:MemT.den}{x1:Int}{x2:List Int}{x3:Int×Int×Unit}{vs:List Value}(hvs:Vs (pureE W (inW W)) (ofH A_7 (x0,x1,x2,x3,())) vs)
 (hp:gd p_9 (bif !v_9.1 then some false else gd (p_10 x0.1) (bif(v_10 x0.1).1 then some true else bif decide ((length x2:Int)>24)then some true else none))=some true) :
 Calls Try.prog 7 vs.toArray W fun e W'=>e= .returned (.bool true)/\Below W.heap.size W W':=by
 have hsum:∀f s,sm_7 f=some s->SummOK Try.prog f s:=smL_ok all_7
 have hsc:∀f s,sm_7 f=some s->SummC s:=fun f s e=>(smL_ok all_7 f s e).2.1
 refine callsIn_wide.1 (callsIn_of_wp_marks (F:=Fence.wide) (n:=0) Try.func7 b7 trivial ?_)
 refine pre_sound (R:=Bool) (summ:=sm_7) (sm:=smB) (call:=evFn sm_7 fns FU 2) (fu:=FU) (E0:=E7 W) (fno:=7) hsum (call_7 2 _) (draw_ok hm0 hsum hsc) (drawC_ok hm0 hsum hsc) 3 code7 rngs7 _ _ _ _ _ ((early_run x0 x1 x2 x3).trans hp) (sim7 hvs) ?_
 intro ex S' a' w' h1 h2
 cases ex with
 |normal=>cases h1
 |exit id=>cases h1
 |ret=>exact ret_ok (ex:= .ret) h2 h1 (Below.refl _ _)
end Go.Ev
set_option linter.unusedSimpArgs false
set_option linter.unusedVariables false
namespace Go.Ev
open Go Go.Proofs Go.RowKit
set_option maxRecDepth 100000
set_option maxHeartbeats 1000000
theorem own_calls{W:World}{x0:MemT.den}{x1:Int}{x2:List Int}{x3:Int×Int×Unit}{vs:List Value}(hvs:Vs (pureE W (inW W)) (ofH A_7 (x0,x1,x2,x3,())) vs){y:HDen R_7}(hy:F_7 x0 x1 x2 x3=some y){z:HDen R_18}(hz:F_18 y.2.1=some z)
 (hp:gd (p_33 y.2.1 y.2.2.1) (bif(v_33 y.2.1 y.2.2.1).1 then gd (p_34 y.1 y.2.2.2.1) (some (v_34 y.1 y.2.2.2.1).1)else some false)=some true) :
 Calls Try.prog 7 vs.toArray W fun e W'=>e= .returned (.bool true)/\Below W.heap.size W W':=by
 have hsum:∀f s,sm_7 f=some s->SummOK Try.prog f s:=smL_ok all_7
 have hsc:∀f s,sm_7 f=some s->SummC s:=fun f s e=>(smL_ok all_7 f s e).2.1
 have hdraw:∀ {R:Type},DrawOK Try.prog smB R sm_7:=draw_ok hm0 hsum hsc
 have hdrawC:∀ {R:Type},DrawOKC Try.prog smB R sm_7:=drawC_ok hm0 hsum hsc
 refine callsIn_wide.1 (callsIn_of_wp_marks (F:=Fence.wide) (n:=0) Try.func7 b7 trivial ?_)
 refine pre_sound (R:=HDen R_7) (summ:=sm_7) (sm:=smB) (call:=evFn sm_7 fns FU 2) (fu:=FU) (E0:=E7 W) (fno:=7) hsum (call_7 2 _) hdraw hdrawC 13 code7 rngs7 _ _ _ _ _ (run_7 x0 x1 x2 x3 hy) (sim7 hvs) ?_
 intro ex S' a' w' h1 h2
 cases ex with
 |exit id=>cases h1
 |ret=>cases h1
 |normal=>
 have h1:(bif Nat.beq S'.sl.length 119 then(match resOf S' [.inl 2,.inr (4,true,5),.inr (9,true,5),.inl 10]with
  |none=>none
  |some l=>pureK R_7 (tupOf l) S'.hp)else none)=some y:=h1
 have hsl:S'.sl.length=119:=by
  cases hb:Nat.beq S'.sl.length 119
  ·rw[hb]at h1;cases h1
  ·exact Nat.eq_of_beq_eq_true hb
 rw[hsl]at h1
 have h1:(match resOf S' [.inl 2,.inr (4,true,5),.inr (9,true,5),.inl 10]with
  |none=>none
  |some l=>pureK R_7 (tupOf l) S'.hp)=some y:=h1
 split at h1
 ·cases h1
 rename_i l hl
 obtain⟨I,hL⟩:=left_of (W:=W) (E0:=E7 W) rfl (fun g=>Iff.rfl) h2 hsl hl h1
 clear h1 h2 hl hsl
 obtain⟨g4,cs4,e4,hI4,hc4,hm4⟩:=hL.t4
 obtain⟨g9,cs9,e9,hI9,hc9,hm9⟩:=hL.t9
 show(dropK 13 code7).wpIn (FR none) 0 Try.prog _ a' w'
 rw[s13]
 refine wpIn_seq (d13_ok hL.size e4 hc4 (RepD.mono (fun g hg=>hL.imm g hg) (fun _ _=>rfl) MemT _ _ hm4) hz ?_ _ d13)
 intro a1 w1 vl k1 b1 hl1 t21 t22 hwr
 refine wpIn_seq (d14_ok (k1.size.trans hL.size) b1 hl1 t21 t22 hwr ?_ _ d14)
 intro a2 w2 k2 lk
 have hheap:∀g,I g->w2.heap[g]? =w'.heap[g]? :=fun g hg=>(lk.bel.block g (hL.imm g hg)).trans (b1.block g (hL.imm g hg))
 have hb2:Below W.heap.size W w2:=(hL.bel.trans (b1.mono hL.bel.size)).trans (lk.bel.mono hL.bel.size)
 obtain⟨E2,hE2⟩:∃E2:Env,E2= {w:=w2,I:=fun g=>I g/\g<W.heap.size,μ:=fun _=>0,σ:=fun _=>undef,live:=fun _=>False,rok:=rokOf Try.prog smB fns}:=⟨_,rfl⟩
 obtain⟨E3,hE3⟩:∃E3:Env,E3= {E2 with I:=I}:=⟨_,rfl⟩
 have hw3:E3.w=w2:=by rw[hE3,hE2]
 have hR3:∀g,I g->E3.R g:=fun g hg=>by
  rw[hE3,hE2]
  exact⟨hg,fun h=>h⟩
 have hle:E2.le W.heap.size E3:=by
  rw[hE3,hE2]
  refine⟨fun g h=>h.1,fun _ _=>rfl,fun _ h=>h,fun _ _=>rfl,fun _ _=>rfl,Below.refl _ _,fun g hg=> ?_,fun _ _=>rfl,rfl,rfl⟩
  rcases Nat.lt_or_ge g W.heap.size with h|h
  ·exact .inl ⟨hg,h⟩
  ·exact .inr h
 have hsz2:w'.heap.size<=w2.heap.size:=Nat.le_trans b1.size lk.bel.size
 have H3:HS W.heap.size E3 []:=by
  have hf:∀b,lookH [] b= .fresh:=fun b=>by simp[lookH]
  rw[hE3,hE2]
  refine⟨fun b=>by rw[hf];trivial,fun b b' g h=>by rw[hf]at h;exact h.elim,fun b g h=>by rw[hf]at h;exact h.elim,fun g hg=>Nat.lt_of_lt_of_le (hL.imm g hg) hsz2,fun b=> ?_,hb2.size,(fun b rec i h=>by cases h),fun g h=>h.elim,fun g hg hb=>thaw.congr (hheap g hg) (hL.thw g hg hb)⟩
  show False↔_
  simp[hf]
 have rep:∀(t:Ty)(x:t.den)(cs:List Value),RepD w' I t x cs->RepD E3.w E3.R t x cs:=fun t x cs h=>by
  rw[hw3]
  exact RepD.mono hR3 hheap t x cs h
 have cel:∀ {g:Nat}{cs:List Value},I g->cellsAt w' g 0 cs->cellsAt E3.w g 0 cs:=fun hg h=>by
  rw[hw3]
  exact h.mono (hheap _ hg)
 have v2:VRep E3 (.pure DatT y.1) (a2.tmps.getD 2 undef):=VRep_slice.2 (by
  have:=rep _ _ _ hL.t2
  rw[<-k1.t2,<-k2.t2]at this
  exact this)
 have v10:VRep E3 (.pure DatT y.2.2.2.1) (a2.tmps.getD 10 undef):=VRep_slice.2 (by
  have:=rep _ _ _ hL.t10
  rw[<-k1.t10,<-k2.t10]at this
  exact this)
 have v4:VRep E3 (.ref MemT y.2.1) (a2.tmps.getD 4 undef):=VRep_ref.2 ⟨g4,0,cs4,(k2.t4.trans k1.t4).trans e4,.inl (hR3 g4 hI4),cel hI4 hc4,rep _ _ _ hm4⟩
 have v9:VRep E3 (.ref MemT y.2.2.1) (a2.tmps.getD 9 undef):=VRep_ref.2 ⟨g9,0,cs9,(k2.t9.trans k1.t9).trans e9,.inl (hR3 g9 hI9),cel hI9 hc9,rep _ _ _ hm9⟩
 have hj:SlotsRep E3 {sl:=replicate 119 .junk,hp:=[],fb:=0} a2:=fun t=>by
  have:(replicate 119 CV.junk).getD t .junk= .junk:=by
   rw[List.getD_eq_getElem?_getD,List.getElem?_replicate]
   split<;>rfl
  rw[show(replicate 119 CV.junk).getD t .junk= .junk from this]
  exact VRep_junk _ _
 have hS2:Sim W.heap.size E2 (S15 y.1 y.2.1 y.2.2.1 y.2.2.2.1) a2 w2:=by
  refine⟨E3,hle,hw3,H3,(((hj.put_same v2).put_same v4).put_same v9).put_same v10,⟨fun e he=> ?_,?_⟩,?_,fun b hb=> ?_,Nat.le_refl _,?_⟩
  ·rw[k2.defers,k1.defers]at he
   obtain⟨D,q1,q2,q3,q4⟩:=hL.marks.1 e he
   refine⟨D,q1,q2,by rw[hE3];exact q3,fun h=> ?_,?_⟩
   ·rw[hE2]at h
    have:=h.2
    omega
   ·rw[hw3,hheap D q3];exact q4
  ·rw[k2.defers,k1.defers];exact hL.marks.2
  ·rw[k2.size,k1.size,hL.size]
   simp[S15,St.put]
  ·rw[hE2]at hb;exact hb.elim
  ·rw[hE2];rfl
 refine evCode_sound (R:=Bool) (ro:=none) (fno:=7) (sm:=smB) (summ:=sm_7) (call:=evFn sm_7 fns FU 2) (fu:=FU) (E0:=E2) (base:=W.heap.size) hsum (by rw[show E2.rok=rokOf Try.prog smB fns by rw[hE2]];exact call_7 2 _) (fun live S a w h=>norm_sound live h) (fun Q id nnew ops k r S a w he h0 h1 h2 h3=>hdraw none _ _ _ Q id nnew ops k r S a w he h0 h1 h2 h3) (fun Q id nnew ops e k r S a w he hl h0 h1 h2 h3=>hdrawC none _ _ _ Q id nnew ops e k r S a w he hl h0 h1 h2 h3) (dropK 15 code7) post7 (compC_erase _ _ _ _).symm (by rw[r15];simp) _ kb15 _ a2 w2 ((post_run _ _ _ _).trans hp) hS2 ?_
 intro ex S3 a3 w3 h3 hS3
 exact ret_ok hS3 h3 (by rw[show E2.w=w2 by rw[hE2]];exact hb2)
end Go.Ev
