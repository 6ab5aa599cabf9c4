/- Facts of the row LinkDefinesUpto that Lean's kernel reckons: what the call reaches. No condition. -/
import Derived.Test.YtmbboehmnfhjjaaGreatDoorTie
import Derived.JoinedCond
import Derived.KernelRfl
set_option maxRecDepth 100000
set_option linter.unusedSimpArgs false
set_option linter.unusedVariables false
set_option linter.defProp false
namespace Go.Proofs.YtmbboehmnfhjjaaGreatDoor.linkDefines
section
open Go
theorem ba{a b:Bool}(ha:a=true)(hb:b=true):(a&&b)=true:=by rw[ha,hb];rfl
theorem jf1:(Rows.linkDefinesUptoRow.inPlace==Tryz.pinned.checked.prog.inPlace 3)=true:=by kernel_rfl
theorem jf2:(Rows.linkDefinesUptoRow.unfollowed==Tryz.pinned.checked.prog.unfollowed 3)=true:=by kernel_rfl
theorem jf3:(Rows.linkDefinesUptoRow.recurses==Tryz.pinned.checked.prog.recurses 3)=true:=by kernel_rfl
theorem jf4:(Rows.linkDefinesUptoRow.named==Tryz.pinned.checked.prog.varsNamed 3)=true:=by kernel_rfl
theorem jf5:(Rows.linkDefinesUptoRow.wf (OpenSpec.ofChange (Rows.OpenSpec.upto Rows.linkDefinesSpec).bare)&&laidOutB Tryz.pinned.checked.prog&&mapsRowed Tryz.pinned.checked.prog)=true:=by kernel_rfl
theorem jf6:Tryz.pinned.checked.prog.stopsHeard=true:=by kernel_rfl
theorem jf7:Tryz.pinned.checked.prog.mayEnter=true:=by kernel_rfl
theorem facts:joinedFacts Tryz.pinned.checked.prog 3 Tryz.f3 (Rows.OpenSpec.upto Rows.linkDefinesSpec).bare Rows.linkDefinesUptoRow=true:=by
 unfold joinedFacts;rw[jf1,jf2,jf3,jf4,jf5,jf6,jf7]
 kernel_rfl
theorem alJ:Tryz.pinned.checked.prog.funcs.any Func.goes=false:=by kernel_rfl
theorem ai0(f:FuncId):Tryz.pinned.checked.prog.goes f=false:=by
 unfold Program.goes;rw[alJ,Bool.and_false,Bool.or_false,List.any_eq_false];intro g _;cases h:Tryz.pinned.checked.prog.funcs[g]? with
 |none=>simp
 |some fn=>
  have:=alJ;rw[Array.any_eq_false]at this;obtain⟨hi,rfl⟩:=Array.getElem?_eq_some_iff.1 h;simpa using this g hi
theorem aoN:false=Rows.linkDefinesUptoRow.goesBy Tryz.pinned.checked.prog:=by
 unfold OpenClaim.goesBy Program.goesAt Program.goesFrom;rw[show Rows.linkDefinesUptoRow.start= .entering from rfl];cases Tryz.pinned.checked.prog.funcNamed Rows.linkDefinesUptoRow.func with
 |none=>rfl
 |some f=>simp[ai0]
end
end Go.Proofs.YtmbboehmnfhjjaaGreatDoor.linkDefines
