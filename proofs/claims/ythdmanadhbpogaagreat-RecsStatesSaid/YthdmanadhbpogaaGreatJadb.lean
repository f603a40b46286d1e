/- Two records that Decode tells: what the chapter's examples fix. -/
import Derived.Defers
import Derived.Recover
import Derived.Test.YthdmanadhbpogaaGreatJaab
import Derived.Test.YthdmanadhbpogaaGreatJaai
import Derived.Test.YthdmanadhbpogaaGreatJacc
import Derived.Test.YthdmanadhbpogaaGreatJada
namespace Go.Proofs.YthdmanadhbpogaaGreat
set_option maxHeartbeats 4000000
set_option maxRecDepth 100000
set_option linter.unusedVariables false
open Go.RowKit Fl
attribute [local go_sem] run_store_float
abbrev rcZ (k a b c n:Int):Rc:=⟨k,⟨a,b,c⟩,⟨0,0,0⟩,⟨0,0,0⟩,false,n,0,[],[],[],[],zeroS⟩
abbrev hdZ:Hds:=⟨Hd.nil,Hd.nil,Hd.nil,Hd.nil,Hd.nil,Hd.nil⟩
theorem catch_idle (p q:Addr) (w:World):
 CallsD Tryz.prog 64 #[.pointer (some p),.pointer (some q)] .returning w fun e u' w'=>e=.returned (.tuple #[])∧u'=.returning∧w=w':=by
 refine callsD_of_wpS Tryz.func64 rfl fun c₀ cs hu=>?_
 apply wpS_seq
 apply wpS_region
 simp[wpOpsS,go_sem,recoverD,hu,Tryz.ntmps64,Exit.thenS]
 refine wpS_of_wp ?_
 go_wp2
 cases c₀
 simp_all [bodyPostS,results,Tryz.results64]
theorem run_errno {w:World} {k:Nat} {x:Int} (hb:Blk w k 42 #[.int .i64 x]):(loadVar 42 ⟨k,0,none⟩).run Tryz.prog w=.ok (.int .i64 x) w:=by
 have c:=cl (hb.cell 0)
 simp[go_sem,c]
theorem decode_door {fn:Func} {tmps:Array Value} {R:Ending→World→Prop} {w:World} {p q:Tmp} {g k:Nat} {cs:Array Value} {x:Int} (h:fn.results=#[.cell p 38,.cell q 42]) (hp:tmps.getD p undef=.pointer (some ⟨g,0,none⟩)) (hq:tmps.getD q undef=.pointer (some ⟨k,0,none⟩))
 (hb:Blk w g 38 cs) (hb':Blk w k 42 #[.int .i64 x]) (hi:(Tryz.prog.info? 38).map (·.size)=some cs.size) (hR:R (.returned (.tuple #[.agg cs,.int .i64 x])) w):Leaves Tryz.prog fn tmps R [] .returning w:=by
 have hp':tmps[p]?.getD undef=.pointer (some ⟨g,0,none⟩):=by simpa using hp
 have hq':tmps[q]?.getD undef=.pointer (some ⟨k,0,none⟩):=by simpa using hq
 refine⟨_,?_,hR⟩
 simp[results,h,hp',hq',asAddr,run_loadVar_blk hb Tryz.underlying38 rfl hi,run_errno hb',Sem.run_bind,Result.andThen]
theorem bequal (w:World) {B B':Nat} {A A':Option Addr} {n n' c c':Nat} {a b:List UInt8} (ha:Reads w B 1 A n (bytesV a)) (hb:Reads w B' 1 A' n' (bytesV b)):
 Calls Tryz.prog 65 #[.slice A n c,.slice A' n' c'] w fun e w'=>e=.returned (.bool (a==b))∧w=w':=by
 have h1:=run_conv_reads (P:=Tryz.prog) w 48 9 5 Tryz.underlying48 Tryz.underlying5 Tryz.underlying9 (c:=c) ha
 have h2:=run_conv_reads (P:=Tryz.prog) w 48 9 5 Tryz.underlying48 Tryz.underlying5 Tryz.underlying9 (c:=c') hb
 go_enter Tryz.func65,Tryz.ntmps65
 go_wp2
 go_ret
 exact⟨rfl,rfl⟩
theorem hdZ_caps:hdZ.caps:=by
 have h:(0:Nat)≤0∧0≤maxLen:=⟨Nat.le_refl _,Nat.zero_le _⟩
 exact⟨h,h,h,h,h,h⟩
theorem rcZ_in (w:World) (k a b c n:Int):RcIn w (rcZ k a b c n) hdZ:=⟨Sl.nil,Sl.nil,Sl.nil,Sl.nil,Sl.nil,Sl.nil,Nat.zero_le _,Nat.zero_le _,Nat.zero_le _,Nat.zero_le _,Nat.zero_le _,Nat.zero_le _⟩
theorem rcZ_sm (k a b c n:Int):RcSm (rcZ k a b c n) hdZ:=⟨Nat.zero_le _,Nat.zero_le _,Nat.zero_le _,Nat.zero_le _,⟨Nat.zero_le _,fun x hx=>by cases hx⟩,⟨Nat.zero_le _,fun x hx=>by cases hx⟩⟩
theorem rcZ_ok {k a b c n:Int} (hk:i64ok k) (ha:i64ok a) (hb:i64ok b) (hc:i64ok c) (hn:i64ok n):(rcZ k a b c n).ok:=by
 have h0:i64ok 0:=by unfold i64ok;omega
 exact⟨hk,⟨ha,hb,hc⟩,⟨h0,h0,h0⟩,⟨h0,h0,h0⟩,hn,by show 0<_;omega,⟨h0,h0,by show 0<_;omega,by show 0<_;omega⟩,⟨h0,h0,h0⟩,⟨h0,h0,h0⟩⟩
end Go.Proofs.YthdmanadhbpogaaGreat
