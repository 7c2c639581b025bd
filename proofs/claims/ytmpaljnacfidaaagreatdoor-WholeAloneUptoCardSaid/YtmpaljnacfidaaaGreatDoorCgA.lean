import Derived.Test.YtmpaljnacfidaaaGreatDoorRows
import Derived.JoinedCond
import Derived.Test.YtmpaljnacfidaaaGreatDoorCards
import Derived.Test.YtmpaljnacfidaaaGreatDoorCpA
import Derived.SevenTiedAt
set_option linter.unusedSectionVars false
set_option linter.unusedSimpArgs false
set_option linter.unusedVariables false
set_option maxRecDepth 100000
namespace Go.Proofs.YtmpaljnacfidaaaGreatDoor
open Go Go.Proofs
namespace ownA
theorem inst:Tryz.f3.isInstance Tryz.prog Rows.wholeAloneUptoRow.origin Rows.wholeAloneUptoRow.targs:=of_decide_eq_true (by kernel_rfl)
theorem wrap:Tryz.f3.isWrapper Tryz.prog Rows.wholeAloneUptoRow.wrapper Rows.wholeAloneUptoRow.mainSum:=by
  unfold Func.isWrapper;first|(rw[if_pos (by decide+kernel)];kernel_rfl)|(rw[if_neg (by decide+kernel)];exact⟨rfl,rfl⟩)
end ownA
end Go.Proofs.YtmpaljnacfidaaaGreatDoor
set_option linter.unusedVariables false
set_option maxRecDepth 100000
namespace Go.Proofs.YtmpaljnacfidaaaGreatDoor
open Go Go.Proofs
namespace cardA
theorem fid : Tryz.prog.funcNamed "scupper/scuppertop.WholeAlone" = some 3 := by kernel_rfl
theorem zTF:Tryz.prog.goes 3=false:=by
  unfold Program.goes Program.unfollowed
  rw[zEt]
  kernel_rfl
theorem zQ3(P:Program)(n:String)(f:FuncId)(h:P.funcNamed n=some f)(g:P.goes f=false):P.goesAt .entering n=false:=by
  unfold Program.goesAt Program.goesFrom
  rw[h,Option.any_some,g]
  rfl
theorem goes:false=Rows.wholeAloneUptoRow.goesBy Tryz.pinned.checked.prog:=
  (zQ3 Tryz.prog _ _ fid zTF).symm
theorem wfText:Rows.wholeAloneUptoRow.wfByText (Rows.OpenSpec.upto Rows.wholeAloneSpec)=true:=by kernel_rfl
theorem mainIs : Tryz.pinned.checked.prog.mainIs = some ((true, "266624818acdf29cb503ccd4b35087b57a322435bf6814ffe6d8f2b1e4a1722c").1, (true, "266624818acdf29cb503ccd4b35087b57a322435bf6814ffe6d8f2b1e4a1722c").2.toList) := by kernel_rfl
theorem noLooks:true=Tryz.pinned.checked.prog.looks []:=by kernel_rfl
end cardA
end Go.Proofs.YtmpaljnacfidaaaGreatDoor
