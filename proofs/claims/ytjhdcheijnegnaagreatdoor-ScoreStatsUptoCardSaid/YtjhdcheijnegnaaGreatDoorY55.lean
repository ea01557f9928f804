import Derived.Test.YtjhdcheijnegnaaGreatDoorY1
import Derived.Test.YtjhdcheijnegnaaGreatDoorCards
set_option linter.all false
set_option maxHeartbeats 0
namespace Go.Proofs.YtjhdcheijnegnaaGreatDoor
open Go.Sx
open Go
set_option maxRecDepth 100000
theorem nog0:(Tryz.prog.funcs.toList.take 130).any Func.goes=false:=aa
theorem nog1:((Tryz.prog.funcs.toList.drop 130).take 130).any Func.goes=false:=aa
theorem nog2:((Tryz.prog.funcs.toList.drop 260).take 130).any Func.goes=false:=aa
theorem nog3:(Tryz.prog.funcs.toList.drop 390).any Func.goes=false:=aa
theorem nog:Tryz.prog.funcs.toList.any Func.goes=false:=by
 have e:Tryz.prog.funcs.toList=Tryz.prog.funcs.toList.take 130++((Tryz.prog.funcs.toList.drop 130).take 130++((Tryz.prog.funcs.toList.drop 260).take 130++Tryz.prog.funcs.toList.drop 390)):=by
  rw[show Tryz.prog.funcs.toList.drop 390=(Tryz.prog.funcs.toList.drop 260).drop 130 from by rw[Vm],Xv,show Tryz.prog.funcs.toList.drop 260=(Tryz.prog.funcs.toList.drop 130).drop 130 from by rw[Vm],Xv,Xv]
 rw[e,List.any_append,List.any_append,List.any_append,nog0,nog1,nog2,nog3];rfl
theorem nog_all (f:FuncId):Tryz.prog.goes f=false:=by
 unfold Program.goes;rw[Ue]
 constructor
 ·rw[List.any_eq_false];intro g _ a;cases h:Tryz.prog.funcs[g]? with
  |none=>rw[h]at a;cases a
  |some fn=>
   rw[h]at a;have hm:fn∈Tryz.prog.funcs.toList:=Array.mem_toList_iff.2 (Array.mem_of_getElem? h);exact absurd a (List.any_eq_false.1 nog fn hm)
 ·rw[←Array.any_toList,nog,Bool.and_false]
theorem st_goesAt (s:String):false=Tryz.prog.goesAt .entering s:=by
 unfold Program.goesAt Program.goesFrom;cases Tryz.prog.funcNamed s with
 |none=>rfl
 |some f=>rw[Option.any_some,nog_all];rfl
theorem st_goes:false=Rows.scoreStatsUptoRow.goesBy Tryz.pinned.checked.prog:=st_goesAt _
end Go.Proofs.YtjhdcheijnegnaaGreatDoor
