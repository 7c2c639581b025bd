/-
  WholeAlone is true of every input that is not greater than the statement's bound: the program returns, it returns true, and what came in reads as it did; the row's listed variables are tied to the program's text. Condition: the bulk that the statement names.
-/
import Derived.Test.YtmpaljnacfidaaaGreatDoorWlj
import Derived.Test.YtmpaljnacfidaaaGreatDoorWhRd
import Derived.Test.YtmpaljnacfidaaaGreatDoorTiJ
import Derived.Test.YtmpaljnacfidaaaGreatDoorClA
import Derived.Test.YtmpaljnacfidaaaGreatDoorCgA
import Derived.Test.YtmpaljnacfidaaaGreatDoorCards
import Derived.Lay
import Derived.Deep.DeepHandedRow
import Derived.Test.YtmpaljnacfidaaaGreatDoorFw3
set_option linter.unusedSectionVars false
set_option linter.unusedSimpArgs false
set_option linter.unusedVariables false
set_option maxRecDepth 10000
namespace Go.Proofs.YtmpaljnacfidaaaGreatDoor
open Go Go.Sc Go.Proofs Go.RowKit Go.ChangeShapes Go.WideShapes
namespace wholeAlone
theorem own:ownKnob Tryz.prog.godebug=none:=by kernel_rfl
theorem laidOut:laidOutB Tryz.prog=true:=closedLo.laidOut
theorem contract(H:Type)(enc:TypeId×Value→H)(W:World)(base:Nat)(args:Array Value)(ds l:List (DataW H))(a:List MemPlace)
    (b:∀ (j:Nat) t v,Tryz.f3.params[j]?=some t→args[j]?=some v→Value.okWide Tryz.prog W .any base t v)
    (m:DataW.Whole enc Tryz.prog Tryz.f3.params.toList Rows.wholeAloneSpec.vars false W args.toList ds l a) (o:Rows.uptoSmall H (ds++l)=true):
    Calls Tryz.prog 3 args W fun e W'=>∃ v,e= .returned v∧Rows.wholeAloneSpec.post enc Tryz.prog Tryz.f3 false true false false W args v W':=by
  have c:=m
  obtain⟨p,q,d,r,rfl,s,u⟩:=m
  have n:DataW.TrodAll enc Tryz.prog W 0 (fun _=>true) true Tryz.f3.params.toList args.toList ds p:=d
  rw[Tryz.params3]at n b
  obtain⟨v0,w,x,y,p0,q0,g,rfl,rfl,z,r0⟩:=trodAll_cons n
  obtain⟨rfl,rfl,rfl⟩:=trodAll_nil r0
  obtain rfl:args= #[v0]:=by cases args;simp_all
  obtain⟨rfl,rfl⟩:=trodVars_none r
  have hB:Rows.uptoBulk x≤1048576:=by
    have:=of_decide_eq_true o
    simp only[List.append_nil,Rows.uptoBulkAll]at this
    omega
  obtain⟨u0,i⟩:=z
  obtain⟨a0,e0,k,z0⟩:=(zRU W) H enc _ _ _ i
  try dsimp only at z0
  obtain rfl:=zIw Tryz.underlying22 (b 0 _ v0 rfl rfl) e0
  refine Calls.mono (zEV a0.1 a0.2 W (zHr k.2 qE).2 (zHr k.2 qE).1 k.1) fun e W' he=> ?_
  obtain⟨v,rfl,rfl,hO⟩:=he
  exact⟨_,O,zKY laidOut O (fun ds h=>by
    rw[Tryz.params3]at h
    match ds,h with
    | [_],_=>rfl) rfl Tryz.underlying4 qD c (Own.below hO)⟩
noncomputable abbrev laidW (os:Os):World:=(World.laidAll Tryz.prog os Rows.wholeAloneUptoRow.laid).forCall (fun _ _=>0) ⟨#[],#[.slice none 0 0],[]⟩
theorem shaped(os:Os):(laidW os).Shaped Tryz.prog:=World.shaped_of_ZipB qD qD
theorem okW(os:Os):Input.okWideB Tryz.prog (laidW os) 3 ⟨#[],#[zW],[]⟩=true:=by kernel_rfl
theorem met(os:Os):laidMetH Tryz.prog Rows.wholeAloneUptoRow.laid (laidW os).memory:=by
  rw[MakeChecks.laidMetH_plain _ _ _ qD]
  exact laidMet_laidAll _ qD qD
theorem reads(os:Os){H:Type}(enc:TypeId×Value→H):∃ places,DataW.whole enc Tryz.prog (laidW os).memory Tryz.f3.params.toList Rows.wholeAloneSpec.vars false #[Value.slice none 0 0].toList 8=some ([.nil],[],places):=
  ⟨[],by kernel_rfl⟩
set_option maxRecDepth 100000 in
theorem lifted(os:Os)(a:os.Started)(H:Type)(enc:TypeId×Value→H)(F:Stop.Interp):
    ReturnsInHanded {} Tryz.checked os 3 .any ((Rows.OpenSpec.upto Rows.wholeAloneSpec).preRow enc Tryz.prog Tryz.f3 Rows.wholeAloneUptoRow.domain false Rows.wholeAloneUptoRow.laid) (((Rows.OpenSpec.upto Rows.wholeAloneSpec).at F).post enc Tryz.prog Tryz.f3 false true false false):=by
  obtain⟨b,d⟩:=reads os enc
  refine returnsInHanded_of_row (C:=Tryz.checked) (s:=Rows.OpenSpec.upto Rows.wholeAloneSpec) own a qD Tryz.func3
    ⟨World.laidAll Tryz.prog os Rows.wholeAloneUptoRow.laid,fun _ _=>0,⟨#[],#[zW],[]⟩,World.laidAll_os _ _ _,shaped os,(Input.okWide_of_okWideB (base:=0) (okW os)).1,(Input.okWide_of_okWideB (okW os)).2,
      OpenSpec.preRow_of_cond 8 d qD (fun k c=>by cases c;kernel_rfl) qD (met os),by simp[Assume.holds]⟩ ?_
  intro W base args ds gs before hval hW _ c _ hL _ _
  exact contract H enc W base args ds gs before hval hW (c _ O)
theorem said:Rows.WholeAloneUptoSaid:=
  OpenClaim.holds_of_cond 3 Tryz.f3 rfl rfl rfl rfl rfl rfl rfl ⟨rfl,rfl,rfl,rfl,rfl⟩ rfl rfl rfl rfl rfl cardA.fid Tryz.func3 closedA.all
    ownA.inst ownA.wrap (fun os a H b _ F=>by rw[OpenClaim.pre_eq_preRow];exact lifted os a H b F)
theorem plain (f : FuncId) (fn : Func) (c : Tryz.pinned.checked.prog.funcNamed "scupper/scuppertop.WholeAlone" = some f) (a : Tryz.pinned.checked.prog.funcs[f]? = some fn) :
    true = Tryz.pinned.checked.prog.looks [] ∧ ∀ (j : Nat) t, fn.params[j]? = some t → Tryz.pinned.checked.prog.wantsStandIn t = false := by
  obtain rfl : f = 3 := Option.some.inj (cardA.fid.symm.trans c) |>.symm
  obtain rfl : fn = Tryz.f3 := (Option.some.inj (Tryz.func3.symm.trans a)).symm
  refine ⟨cardA.noLooks, fun j t b => ?_⟩
  rw [Tryz.params3] at b
  obtain rfl : t = 22 := by simpa using Array.mem_of_getElem? b
  exact (show Tryz.prog.wantsStandIn 22 = false by kernel_rfl)
theorem proved:Rows.WholeAloneUptoCardSaid:=
  Claim7.holds_tied_plain_at .later [] _ _ _ _ said (fun _ h=>by cases h) cardA.wfText (fun _ h=>by cases h) zLS rfl ⟨rfl,rfl⟩ cardA.mainIs rfl plain cardA.goes
end wholeAlone
end Go.Proofs.YtmpaljnacfidaaaGreatDoor
