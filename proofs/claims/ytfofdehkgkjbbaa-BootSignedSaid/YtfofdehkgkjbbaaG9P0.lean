/- Helpers: functions of the program as Lean functions, and what they compute. No condition. -/
import Derived.Test.YtfofdehkgkjbbaaProg
import Derived.WalkKit
import Derived.Test.YtfofdehkgkjbbaaE9P2
set_option maxRecDepth 10000
set_option linter.unusedVariables false
set_option linter.unusedSimpArgs false
open Go.IntKind (wrap i64 i32 i16 i8 u64 u32 u16 u8)
open List (getD length take drop replicate)
open Int (toNat)
open Go.Ev.Sp
set_option linter.unusedSimpArgs false
set_option linter.unusedVariables false
namespace Go.Ev
open Go Go.Proofs Go.RowKit
set_option maxRecDepth 100000
set_option maxHeartbeats 4000000
theorem cur_walk(w:World)(n x:Int)(g hb:Nat)(ad:Option Addr)(len cap:Nat)(te:TypeId)(hg:w.heap[g]? =some (.cells #[.int .i64 x] te (0,0)))(hh:w.cell? ⟨hb,0,none⟩=some (.slice ad len cap))(hne:hb≠g)(hlc:len<=cap)(hcm:cap<=9223372036854775807)
 (h1:0<=x) (h2:0<=n) (h3:x+n<=len) :
  Calls Try.prog 99 #[.int .i64 n,.pointer (some ⟨g,0,none⟩),.pointer (some ⟨hb,0,none⟩)] w fun e w'=>e= .returned (.slice (if cap=x.toNat then ad else ad.map (·.add (x.toNat*1))) ((x+n).toNat-x.toNat) (cap-x.toNat))/\w'=w.setCell ⟨g,0,none⟩ (.int .i64 (x+n)):=by
 have hc:w.cell? ⟨g,0,none⟩=some (.int .i64 x):=by simp[World.cell?,hg]
 have hfz:w.frozen? ⟨g,0,none⟩=false:=by simp[World.frozen?,hg]
 have hn63:(len:Int)<=9223372036854775807:=by omega
 go_enter Try.func99,Try.ntmps99
 go_wp2
 ·go_ret
  refine⟨?_,rfl⟩
  simp[h]
 ·go_ret
  refine⟨?_,rfl⟩
  simp
theorem sok_99:SummOK Try.prog 99 curS:=
 cur_sum (by kernel_rfl) fun w n x g hb ad len cap te hg hh hne hlc hcm h1 h2 h3=>cur_walk w n x g hb ad len cap te hg hh hne hlc hcm h1 h2 h3
end Go.Ev
