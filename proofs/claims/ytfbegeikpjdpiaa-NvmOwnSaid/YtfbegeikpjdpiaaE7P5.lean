/- Part of a typed evaluator of the program's functions, proved sound. No condition. -/
import Derived.Test.YtfbegeikpjdpiaaE7P2
set_option maxRecDepth 10000
set_option linter.unusedVariables false
set_option linter.unusedSimpArgs false
namespace Go.Ev
open Go
section
variable{R:Type}{x y:Option R}
theorem gd_tt:gd true x=x:=rfl
theorem gd_and{a b:Bool}:gd (a&&b) x=gd a (gd b x):=by cases a<;>rfl
theorem gd_dec{c:Prop} [Decidable c](h:c):gd (decide c) x=x:=by rw[decide_eq_true h];rfl
theorem inB_t{i:Int}{n:Nat}(h0:0<=i)(h1:i<n):inB i n=true:=by simp[inB];omega
theorem gd_inB{i:Int}{n:Nat}(h0:0<=i)(h1:i<n):gd (inB i n) x=x:=by rw[inB_t h0 h1];rfl
theorem gd_sl3{lo hi n:Int}(h0:0<=lo)(h1:lo<=hi)(h2:hi<=n):gd (sl3 lo hi n) x=x:=by
 have:sl3 lo hi n=true:=by simp[sl3];omega
 rw[this];rfl
theorem gd_room{n b:Nat}(h1:n*b<=140737488355328)(h2:n<=140737488355328):gd (room n b) x=x:=by rw[room_ok h1 h2];rfl
end
section
variable{α:Type}{x y:α}
theorem cond_dtt{c:Prop} [Decidable c](h:c):(bif decide c then x else y)=x:=by rw[decide_eq_true h];rfl
theorem cond_dff{c:Prop} [Decidable c](h:¬c):(bif decide c then x else y)=y:=by rw[decide_eq_false h];rfl
theorem cond_ett{a b:Int}(h:a=b):(bif a==b then x else y)=x:=by rw[beq_iff_eq.2 h];rfl
theorem cond_eff{a b:Int}(h:¬a=b):(bif a==b then x else y)=y:=by rw[beq_eq_false_iff_ne.2 h];rfl
theorem cond_ntt{a b:Int}(h:¬a=b):(bif a !=b then x else y)=x:=by rw[bne_iff_ne.2 h];rfl
theorem cond_nff{a b:Int}(h:a=b):(bif a !=b then x else y)=y:=by subst h;rw[bne_self_eq_false];rfl
theorem cond_t:(bif true then x else y)=x:=rfl
theorem cond_f:(bif false then x else y)=y:=rfl
end
theorem wi64{n:Int}(h0: -9223372036854775808<=n)(h1:n<=9223372036854775807):IntKind.wrap .i64 n=n:=IntWalk.i64_in n ⟨h0,h1⟩
theorem wu64{n:Int}(h0:0<=n)(h1:n<18446744073709551616):IntKind.wrap .u64 n=n:=by
 simp[IntKind.wrap,IntKind.signed,IntKind.bits];omega
theorem wu32'{n:Int}(h0:0<=n)(h1:n<4294967296):IntKind.wrap .u32 n=n:=by
 simp[IntKind.wrap,IntKind.signed,IntKind.bits];omega
theorem run_loop{E α:Type}(L:Nat->Int->α->Option E){n:Nat}(S:Nat->α){r:Option E}(hs:∀m j,j<n->L (m+1) (j:Nat) (S j)=L m ((j+1:Nat):Int) (S (j+1)))(he:∀m,L (m+1) (n:Nat) (S n)=r):∀d m j,j+d=n->d<m->L m (j:Nat) (S j)=r
 |0,m+1,j,hj,_=>by
  have:j=n:=by omega
  subst this
  exact he m
 |d+1,m+1,j,hj,hm=>by
  rw[hs m j (by omega)]
  exact run_loop L S hs he d m (j+1) (by omega) (by omega)
theorem run0{E α:Type}(L:Nat->Int->α->Option E){n:Nat}(S:Nat->α){r:Option E}(hn:n<4611686018427387904)(hs:∀m j,j<n->L (m+1) (j:Nat) (S j)=L m ((j+1:Nat):Int) (S (j+1)))(he:∀m,L (m+1) (n:Nat) (S n)=r):L 4611686018427387904 0 (S 0)=r:=run_loop L S hs he n 4611686018427387904 0 (by omega) hn
def fnd(P:Nat->Bool):Nat->Nat->Option Nat
 |0,_=>none
 |d+1,j=>if P j=true then some j else fnd P d (j+1)
theorem fnd_none{P:Nat->Bool}:∀ {d j:Nat},fnd P d j=none↔∀i,j<=i->i<j+d->P i=false
 |0,j=>by simp[fnd];omega
 |d+1,j=>by
  rw[fnd]
  split
  ·rename_i h
   constructor
   ·intro e;cases e
   ·intro e;rw[e j (by omega) (by omega)]at h;cases h
  ·rename_i h
   rw[fnd_none]
   constructor
   ·intro e i h1 h2
    by_cases hi:i=j
    ·subst hi;simpa using h
    ·exact e i (by omega) (by omega)
   ·intro e i h1 h2;exact e i (by omega) (by omega)
theorem find_loop{E:Type}(L:Nat->Int->Option E){n:Nat}(P:Nat->Bool){ex:Nat->Option E}{e1:Option E}(hs:∀m j,j<n->L (m+1) (j:Nat)=bif P j then ex j else L m ((j+1:Nat):Int))(he:∀m,L (m+1) (n:Nat)=e1):∀d m j,j+d=n->d<m->L m (j:Nat)=(match fnd P d j with|some k=>ex k|none=>e1)
 |0,m+1,j,hj,_=>by
  have:j=n:=by omega
  subst this
  exact he m
 |d+1,m+1,j,hj,hm=>by
  rw[hs m j (by omega),fnd]
  cases hp:P j
  ·rw[cond_false,find_loop L P hs he d m (j+1) (by omega) (by omega)];rfl
  ·rfl
theorem find0{E:Type}(L:Nat->Int->Option E){n:Nat}(P:Nat->Bool){ex:Nat->Option E}{e1:Option E}(hn:n<4611686018427387904)(hs:∀m j,j<n->L (m+1) (j:Nat)=bif P j then ex j else L m ((j+1:Nat):Int))(he:∀m,L (m+1) (n:Nat)=e1):L 4611686018427387904 0=(match fnd P n 0 with|some k=>ex k|none=>e1) :=
 find_loop L P hs he n 4611686018427387904 0 (by omega) hn
theorem getD_at{α:Type}{l:List α}{j:Nat}(d:α)(h:j<l.length):l.getD j d=l[j]:=by simp[List.getD_eq_getElem?_getD,h]
theorem list_ext{α:Type}{a b:List α}(d:α)(hl:a.length=b.length)(h:∀j,j<a.length->a.getD j d=b.getD j d):a=b:=by
 apply List.ext_getElem hl
 intro i h1 h2
 have:=h i h1
 rwa [getD_at d h1,getD_at d h2]at this
theorem ofInt_nat{n a:Nat}(h:a<2^n):(BitVec.ofInt n (a:Int)).toNat=a:=by
 rw[BitVec.toNat_ofInt,<-Int.natCast_emod,Int.toNat_natCast,Nat.mod_eq_of_lt h]
theorem u32_wrap_nat{a:Nat}(h:a<4294967296):IntKind.wrap .u32 (a:Int)=a:=wu32' (by omega) (by omega)
theorem orU_nat{a b:Nat}(ha:a<4294967296)(hb:b<4294967296):Sp.orI .u32 a b=((a|||b:Nat):Int):=by
 unfold Sp.orI
 rw[BitVec.toNat_or,ofInt_nat (n:=IntKind.bits .u32) ha,ofInt_nat (n:=IntKind.bits .u32) hb]
 exact u32_wrap_nat (Nat.or_lt_two_pow (n:=32) ha hb)
theorem andU_nat{a b:Nat}(ha:a<4294967296)(hb:b<4294967296):Sp.andI .u32 a b=((a&&&b:Nat):Int):=by
 unfold Sp.andI
 rw[BitVec.toNat_and,ofInt_nat (n:=IntKind.bits .u32) ha,ofInt_nat (n:=IntKind.bits .u32) hb]
 exact u32_wrap_nat (Nat.and_lt_two_pow (n:=32) _ hb)
theorem or_add(n:Nat){a b:Nat}(hb:b<2^n):a*2^n|||b=a*2^n+b:=by
 rw[<-Nat.shiftLeft_eq]
 exact(Nat.shiftLeft_add_eq_or_of_lt hb a).symm
end Go.Ev
