/- Helpers: functions of the program as Lean functions, and what they compute. No condition. -/
import Derived.Test.YtabdddcgjocmnaaGreatProg
import Derived.WalkKit
import Derived.Maps.OwnSet
import Derived.Maps.Views
import Derived.Maps.OwnOps
import Derived.Test.YtabdddcgjocmnaaGreatE3P2
set_option maxRecDepth 10000
set_option linter.unusedVariables false
set_option linter.unusedSimpArgs false
open Go.IntKind (wrap i64 i32 i16 i8 u64 u32 u16 u8)
open List (getD length take drop replicate)
open Int (toNat)
open Go.Ev.Sp
set_option linter.unusedSimpArgs false
set_option linter.unusedVariables false
namespace Go.Ev
open Go Go.Proofs Go.RowKit Go.Maps
set_option maxRecDepth 100000
set_option maxHeartbeats 4000000
theorem Jv1:Keyed Tryz.prog 3:=int_keyed Tryz.underlying3
theorem Na1(w:World):(zeroValue 4).run Tryz.prog w= .ok (.bool false) w:=by kernel_rfl
noncomputable def Seen(D:DataW Unit)(l:List Int):Prop:=∀x:Int,D.atKey (.int .i64 x) (.lit (.bool false))= .lit (.bool (l.contains x))
theorem Seen.put{D:DataW Unit}{l:List Int}(h:Seen D l)(hD:IsMap D)(x:Int):Seen (D.put (.int .i64 x) (.lit (.bool true))) (l++[x]):=by
 intro y
 by_cases e:y=x
 ·subst e
  rw[atKey_put_same hD (by simp[WideAt.IsKeyLit])]
  simp
 ·rw[atKey_put_other (by intro h;cases h;exact e rfl),h y]
  congr 2
  simp[e]
theorem Ez1(b off n cap:Nat)(w:World)(cs:List Int)(c1 c2 c3 c4 c5:Nat->Int)(c6:Nat->Bool)(c7:Nat->Int)(hb:b<w.heap.size)(hn:n<=maxLen)(hl:cs.length=n)(hwf:∀k,(Lit.int .i64 (cs.getD k 0)).wf=true)
 (h0:∀j,j<n->w.cell? ⟨b,off+j*8,none⟩=some (.int .i64 (cs.getD j 0)))
 (h1:∀j,j<n->w.cell? ⟨b,off+j*8+1,none⟩=some (.int .i64 (c1 j)))
 (h2:∀j,j<n->w.cell? ⟨b,off+j*8+2,none⟩=some (.int .i64 (c2 j)))
 (h3:∀j,j<n->w.cell? ⟨b,off+j*8+3,none⟩=some (.int .i64 (c3 j)))
 (h4:∀j,j<n->w.cell? ⟨b,off+j*8+4,none⟩=some (.int .i64 (c4 j)))
 (h5:∀j,j<n->w.cell? ⟨b,off+j*8+5,none⟩=some (.int .i64 (c5 j)))
 (h6:∀j,j<n->w.cell? ⟨b,off+j*8+6,none⟩=some (.bool (c6 j)))
 (h7:∀j,j<n->w.cell? ⟨b,off+j*8+7,none⟩=some (.int .i64 (c7 j)))
 :Calls Tryz.prog 18 #[.slice (some ⟨b,off,none⟩) n cap] w fun e w'=>e= .returned (.bool (Sp.dst cs))/\Below w.heap.size w w':=by
 have hn64:n<=9223372036854775807:=by simpa[maxLen]using hn
 have hmm:= @run_makeMap Tryz.prog
 go_enter Tryz.func18,Tryz.ntmps18
 go_wp2
 go_loopw [9] (fun i wr=>∃(k:Nat)(D:DataW Unit),(k<=n/\i= .int .i64 k/\(cs.take k).Nodup/\Seen D (cs.take k))/\wr.ownsMap Tryz.prog 3 (plainElem Tryz.prog 4) w.heap.size k D/\Below w.heap.size w wr)
  (fun i _=>n-(intOf i).toNat)
 case atStart=>exact⟨0,.map [],⟨Nat.zero_le _,rfl,by simp,fun x=>rfl⟩,World.ownsMap_made _ _ _ _,(Below.refl _ _).alloc (Nat.le_refl _) _⟩
 case round=>
  obtain⟨k,D,⟨hk,rfl,hnd,hseen⟩,hown,hnx⟩:=hrel
  have hc0:k<n->wr.cell? ⟨b,off+k*8,none⟩=some (.int .i64 (cs.getD k 0)):=fun h=>(hnx.cell hb).trans (h0 k h)
  have hc1:k<n->wr.cell? ⟨b,off+k*8+1,none⟩=some (.int .i64 (c1 k)):=fun h=>(hnx.cell hb).trans (h1 k h)
  have hc2:k<n->wr.cell? ⟨b,off+k*8+2,none⟩=some (.int .i64 (c2 k)):=fun h=>(hnx.cell hb).trans (h2 k h)
  have hc3:k<n->wr.cell? ⟨b,off+k*8+3,none⟩=some (.int .i64 (c3 k)):=fun h=>(hnx.cell hb).trans (h3 k h)
  have hc4:k<n->wr.cell? ⟨b,off+k*8+4,none⟩=some (.int .i64 (c4 k)):=fun h=>(hnx.cell hb).trans (h4 k h)
  have hc5:k<n->wr.cell? ⟨b,off+k*8+5,none⟩=some (.int .i64 (c5 k)):=fun h=>(hnx.cell hb).trans (h5 k h)
  have hc6:k<n->wr.cell? ⟨b,off+k*8+6,none⟩=some (.bool (c6 k)):=fun h=>(hnx.cell hb).trans (h6 k h)
  have hc7:k<n->wr.cell? ⟨b,off+k*8+7,none⟩=some (.int .i64 (c7 k)):=fun h=>(hnx.cell hb).trans (h7 k h)
  have hkey:keyOf Tryz.prog 3 (.int .i64 (cs.getD k 0))=some (.int .i64 (cs.getD k 0)):=keyOf_int_mk Tryz.underlying3 (hwf k)
  have hlook:∀W:World,W.ownsMap Tryz.prog 3 (plainElem Tryz.prog 4) w.heap.size k D->(Instr.lookup 104 (.map (some w.heap.size)) (.int .i64 (cs.getD k 0)) false).run Tryz.prog W= .ok (.bool ((cs.take k).contains (cs.getD k 0))) W:=by
   intro W hW
   obtain⟨v,ps,hrun,hv⟩:=hW.lookup Jv1 Tryz.underlying104 (Na1 _) (plainElem_bool Tryz.underlying4 false) hkey
   rw[hseen]at hv
   have e:v= .bool ((cs.take k).contains (cs.getD k 0)):=by
    unfold plainElem at hv
    rw[Tryz.underlying4]at hv
    cases v<;>simp at hv
    rw[hv.1]
    simp
   rw[hrun,e]
  generalize hx:cs.getD k 0=x at hc0 hkey hlook
  have hown2:=hown.alloc (.cells #[.int .i64 x,.int .i64 (c1 k),.int .i64 (c2 k),.int .i64 (c3 k),.int .i64 (c4 k),.int .i64 (c5 k),.bool (c6 k),.int .i64 (c7 k)] 60)
  have hlk:=hlook _ hown2
  clear hlook
  by_cases hkn:k<n
  ·cases hbb:(cs.take k).contains x
   ·rw[hbb]at hlk
    go_wp2_with (first
     |(at_mapUpdate;refine wpList_mapUpdate_own _ rfl _ _ _ 104 rfl 3 4 Jv1 Tryz.underlying104 _ w.heap.size k _ rfl hown2 (by omega) _ _ _ rfl rfl hkey _ [] (plainElem_bool Tryz.underlying4 true) ?_;intro w1 hown1 hgrow1)
     |go_in)
    go_roundw
    case rel=>
     refine⟨k+1,_,⟨by omega,by go_num,?_,?_⟩,hown1,?_⟩
     ·exact Sp.nodup_take (by omega) hnd (by rw[hx];exact hbb)
     ·have:=hseen.put hown.isMap x
      rw[List.take_succ_eq_append_getElem (by omega)]
      have e:cs[k]'(by omega)=x:=by rw[<-hx];simp[List.getD_eq_getElem?_getD,show k<cs.length by omega]
      rw[e]
      exact this
     ·exact(hnx.alloc (by simpa using hnx.size) _).grown hgrow1 (by simpa using Nat.le_succ_of_le hnx.size) (fun j hj=>by cases hj;exact Nat.le_refl _)
    case measure=>simp[intOf];omega
   ·rw[hbb]at hlk
    go_wp2
    go_ret
    refine⟨?_,hnx.alloc (by simpa using hnx.size) _⟩
    rw[Sp.dst_false (Sp.not_nodup (k:=k) (by omega) (by rw[hx];exact hbb))]
    rfl
  ·have:k=n:=by omega
   subst this
   go_wp2
   go_ret
   refine⟨?_,hnx⟩
   rw[List.take_of_length_le (by omega)]at hnd
   rw[(Sp.dst_nodup cs).2 hnd]
   rfl
theorem Fa1(a:Option Addr)(cap:Nat)(w:World):Calls Tryz.prog 18 #[.slice a 0 cap] w fun e w'=>e= .returned (.bool true)/\Below w.heap.size w w':=by
 have hmm:= @run_makeMap Tryz.prog
 go_enter Tryz.func18,Tryz.ntmps18
 go_wp2
 refine wp_loop_rounds 1 ?_
 rw[rounds_succ]
 go_wp2
 go_ret
 exact⟨rfl,(Below.refl _ _).alloc (Nat.le_refl _) _⟩
theorem Ju1{w:World}{I:Nat->Prop}{x:CfgTy.den}{cs:List Value}(h:RepD w I CfgTy x cs):cs=[.int .i64 x.1,.int .i64 x.2.1,.int .i64 x.2.2.1,.int .i64 x.2.2.2.1,.int .i64 x.2.2.2.2.1,.int .i64 x.2.2.2.2.2.1,.bool x.2.2.2.2.2.2.1,.int .i64 x.2.2.2.2.2.2.2.1]/\wrap .i64 x.1=x.1:=by
 obtain⟨a0,r0,rfl,⟨rfl,hw⟩,a1,r1,rfl,⟨rfl,_⟩,a2,r2,rfl,⟨rfl,_⟩,a3,r3,rfl,⟨rfl,_⟩,a4,r4,rfl,⟨rfl,_⟩,a5,r5,rfl,⟨rfl,_⟩,a6,r6,rfl,rfl,a7,r7,rfl,⟨rfl,_⟩,rfl⟩:=h
 exact⟨rfl,hw⟩
theorem Ou1:Ag0 Tryz.prog 18 Js1:=by
 unfold Js1 shN fN
 refine Qi0 (rs:=[.bool]) rfl (by kernel_rfl) ?_ ?_
 ·intro cs' r h
  split at h
  ·simp at h;subst h
   rfl
  ·cases h
 ·intro w I look cs cs' l vs himm hp h hvs
  obtain⟨x,rfl⟩:=Dh0 hp
  rw[Gg0]at h
  simp only[Option.some.injEq,Prod.mk.injEq,true_and]at h
  subst h
  obtain⟨xs,_⟩:=x
  match vs,hvs with
  |[v],⟨hv,_⟩ =>
   obtain⟨a,c,ev,q1,q2,q3⟩:=Cv0.1 hv
   simp at ev
   subst ev
   have fin:∀(w':World),VRep (pureE w' I) (Fi0 (ofH [.bool] (Sp.dst ((show List CfgTy.den from xs).map fun c=>c.1),()))) (.bool (Sp.dst ((show List CfgTy.den from xs).map fun c=>c.1))):=by
    intro w'
    exact(Bu0 rfl (by simp[Fi0,ofH,ofP])).2 rfl
   by_cases h0:0<length xs
   ·obtain⟨b,off,rows,rfl,hI,hcell,hrows⟩:=q3 h0
    have hrow:∀i,i<length xs->∃l r,rows=l++[.int .i64 (xs.getD i CfgTy.dflt).1,.int .i64 (xs.getD i CfgTy.dflt).2.1,.int .i64 (xs.getD i CfgTy.dflt).2.2.1,.int .i64 (xs.getD i CfgTy.dflt).2.2.2.1,.int .i64 (xs.getD i CfgTy.dflt).2.2.2.2.1,.int .i64 (xs.getD i CfgTy.dflt).2.2.2.2.2.1,.bool (xs.getD i CfgTy.dflt).2.2.2.2.2.2.1,.int .i64 (xs.getD i CfgTy.dflt).2.2.2.2.2.2.2.1]++r/\l.length=i*8/\wrap .i64 (xs.getD i CfgTy.dflt).1=(xs.getD i CfgTy.dflt).1:=by
     intro i hi
     obtain⟨c,hc,l,r,e,hl⟩:=Rows.at_ (fun x c=>RepD.len CfgTy x c) CfgTy.dflt xs rows hrows i hi
     obtain⟨rfl,hw⟩:=Ju1 hc
     exact⟨l,r,e,hl,hw⟩
    have hcl:∀(i q:Nat)(u:Value),i<length xs->q<8->[.int .i64 (xs.getD i CfgTy.dflt).1,.int .i64 (xs.getD i CfgTy.dflt).2.1,.int .i64 (xs.getD i CfgTy.dflt).2.2.1,.int .i64 (xs.getD i CfgTy.dflt).2.2.2.1,.int .i64 (xs.getD i CfgTy.dflt).2.2.2.2.1,.int .i64 (xs.getD i CfgTy.dflt).2.2.2.2.2.1,.bool (xs.getD i CfgTy.dflt).2.2.2.2.2.2.1,.int .i64 (xs.getD i CfgTy.dflt).2.2.2.2.2.2.2.1][q]? =some u->w.cell? ⟨b,off+(i*8+q),none⟩=some u:=by
     intro i q u hi hq hu
     obtain⟨l,r,e,hl,_⟩:=hrow i hi
     refine hcell (i*8+q) u ?_
     rw[e,List.append_assoc,List.getElem?_append_right (by omega),hl,Nat.add_sub_cancel_left,List.getElem?_append_left (by simpa using hq)]
     exact hu
    have hget:∀j,j<length xs->((show List CfgTy.den from xs).map fun c=>c.1).getD j 0=(xs.getD j CfgTy.dflt).1:=by
     intro j hj
     have hj':j<(show List CfgTy.den from xs).length:=hj
     simp[List.getD_eq_getElem?_getD,hj']
    have hwf:∀k,(Lit.int .i64 (((show List CfgTy.den from xs).map fun c=>c.1).getD k 0)).wf=true:=by
     intro k
     by_cases hk:k<length xs
     ·rw[hget k hk]
      obtain⟨_,_,_,_,hw⟩:=hrow k hk
      exact wf_wrap hw
     ·rw[List.getD_eq_getElem?_getD,List.getElem?_eq_none (by simpa using hk)]
      decide
    refine Calls.mono (Ez1 b off (length xs) c w ((show List CfgTy.den from xs).map fun c=>c.1) (fun j=>(xs.getD j CfgTy.dflt).2.1) (fun j=>(xs.getD j CfgTy.dflt).2.2.1) (fun j=>(xs.getD j CfgTy.dflt).2.2.2.1) (fun j=>(xs.getD j CfgTy.dflt).2.2.2.2.1) (fun j=>(xs.getD j CfgTy.dflt).2.2.2.2.2.1) (fun j=>(xs.getD j CfgTy.dflt).2.2.2.2.2.2.1) (fun j=>(xs.getD j CfgTy.dflt).2.2.2.2.2.2.2.1) (himm b hI.1) (Nat.le_trans q1 q2) (by simp) hwf
     (fun j hj=>by rw[hget j hj];exact hcl j 0 _ hj (by omega) rfl)
     (fun j hj=>hcl j 1 _ hj (by omega) rfl) (fun j hj=>hcl j 2 _ hj (by omega) rfl) (fun j hj=>hcl j 3 _ hj (by omega) rfl) (fun j hj=>hcl j 4 _ hj (by omega) rfl) (fun j hj=>hcl j 5 _ hj (by omega) rfl) (fun j hj=>hcl j 6 _ hj (by omega) rfl) (fun j hj=>hcl j 7 _ hj (by omega) rfl)) ?_
    rintro e w' ⟨rfl,hbel⟩
    exact⟨_,rfl,hbel,fin w'⟩
   ·have h0:length xs=0:=by omega
    have hx:=List.eq_nil_of_length_eq_zero h0
    rw[h0]
    refine Calls.mono (Fa1 a c w) ?_
    rintro e w' ⟨rfl,hbel⟩
    refine⟨_,rfl,hbel,?_⟩
    have:=fin w'
    rw[hx]at this⊢
    exact this
end Go.Ev
