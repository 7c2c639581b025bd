import Derived.Test.YthpoddkmhfhboaaGreatDoorRows
import Derived.JoinedCond
set_option linter.unusedSimpArgs false
set_option linter.unusedVariables false
set_option maxRecDepth 100000
namespace Go.Proofs.YthpoddkmhfhboaaGreatDoor
open Go Go.Proofs
namespace closedLo
theorem l0:(List.range' 0 150).all (rowFine Tryz.prog)=true:=by kernel_rfl
end closedLo
namespace closedLo
theorem l1:(List.range' 150 150).all (rowFine Tryz.prog)=true:=by kernel_rfl
end closedLo
namespace closedLo
theorem l2:(List.range' 300 150).all (rowFine Tryz.prog)=true:=by kernel_rfl
end closedLo
namespace closedLo
theorem l3:(List.range' 450 150).all (rowFine Tryz.prog)=true:=by kernel_rfl
end closedLo
namespace closedLo
theorem l4:(List.range' 600 150).all (rowFine Tryz.prog)=true:=by kernel_rfl
end closedLo
namespace closedLo
theorem l5:(List.range' 750 150).all (rowFine Tryz.prog)=true:=by kernel_rfl
end closedLo
namespace closedLo
theorem l6:(List.range' 900 150).all (rowFine Tryz.prog)=true:=by kernel_rfl
end closedLo
namespace closedLo
theorem l7:(List.range' 1050 150).all (rowFine Tryz.prog)=true:=by kernel_rfl
end closedLo
namespace closedLo
theorem sz:decide (Tryz.prog.types.size≤1200)=true:=by kernel_rfl
theorem lg:(Tryz.prog.globals.all fun g=>decide (g.type<Tryz.prog.types.size))=true:=by kernel_rfl
theorem lp:(Tryz.prog.funcs.all fun f=>f.params.all fun t=>decide (t<Tryz.prog.types.size))=true:=by kernel_rfl
theorem and_t{a b:Bool}(h:a=true)(g:b=true):(a&&b)=true:=by rw[h,g];rfl
theorem lt(t:Nat)(h:t<1200):rowFine Tryz.prog t=true:=by
 have q:(0≤t∧t<150)∨(150≤t∧t<300)∨(300≤t∧t<450)∨(450≤t∧t<600)∨(600≤t∧t<750)∨(750≤t∧t<900)∨(900≤t∧t<1050)∨(1050≤t∧t<1200):=by omega
 rcases q with q|q|q|q|q|q|q|q
 · exact List.all_eq_true.1 l0 t (List.mem_range'_1.2 ⟨by omega,by omega⟩)
 · exact List.all_eq_true.1 l1 t (List.mem_range'_1.2 ⟨by omega,by omega⟩)
 · exact List.all_eq_true.1 l2 t (List.mem_range'_1.2 ⟨by omega,by omega⟩)
 · exact List.all_eq_true.1 l3 t (List.mem_range'_1.2 ⟨by omega,by omega⟩)
 · exact List.all_eq_true.1 l4 t (List.mem_range'_1.2 ⟨by omega,by omega⟩)
 · exact List.all_eq_true.1 l5 t (List.mem_range'_1.2 ⟨by omega,by omega⟩)
 · exact List.all_eq_true.1 l6 t (List.mem_range'_1.2 ⟨by omega,by omega⟩)
 exact List.all_eq_true.1 l7 t (List.mem_range'_1.2 ⟨by omega,by omega⟩)
theorem laidOut:laidOutB Tryz.prog=true:=by
 unfold laidOutB
 exact and_t (and_t (List.all_eq_true.2 fun t a=>lt t (Nat.lt_of_lt_of_le (List.mem_range.1 a) (of_decide_eq_true sz))) lg) lp
end closedLo
end Go.Proofs.YthpoddkmhfhboaaGreatDoor
