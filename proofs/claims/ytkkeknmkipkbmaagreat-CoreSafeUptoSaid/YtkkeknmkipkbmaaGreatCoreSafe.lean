/-
  CoreSafe is true of every input: the program returns, it returns true, and what came in reads as it did. Condition: none, but the bulk that the statement names.
-/
import Derived.Test.YtkkeknmkipkbmaaGreatNetB
import Derived.Test.YtkkeknmkipkbmaaGreatNetF
set_option linter.unusedSectionVars false
set_option linter.unusedSimpArgs false
set_option linter.unusedVariables false
set_option maxRecDepth 10000
namespace Go.Proofs.YtkkeknmkipkbmaaGreat
open Go Go.Sc Go.Proofs Go.RowKit Go.ChangeShapes Go.WideShapes
namespace coreSafe
theorem own:ownKnob Tryz.prog.godebug=none:=by kernel_rfl
theorem laidOut:laidOutB Tryz.prog=true:=by kernel_rfl
theorem contract(H:Type)(enc:TypeId×Value→H)(W:World)(base:Nat)(args:Array Value)(ds gs:List (DataW H))(before:List MemPlace)
    (hval:∀ (j:Nat) t v,Tryz.f7.params[j]?=some t→args[j]?=some v→Value.okWide Tryz.prog W .any base t v)
    (hW:DataW.Whole enc Tryz.prog Tryz.f7.params.toList Rows.coreSafeSpec.vars false W args.toList ds gs before) (hk:Rows.uptoSmall H (ds++gs)=true):
    Calls Tryz.prog 7 args W fun e W'=>∃ v,e= .returned v∧Rows.coreSafeSpec.post enc Tryz.prog Tryz.f7 false true false false W args v W':=by
  have hW':=hW
  obtain⟨p,q,hA0,hV,rfl,hfz,hnd⟩:=hW
  have hA:DataW.TrodAll enc Tryz.prog W 0 (fun _=>true) true Tryz.f7.params.toList args.toList ds p:=hA0
  rw[Tryz.params7]at hA hval
  obtain⟨v0,vs0,d0,ds0,p0,q0,hargs,rfl,rfl,h0,r0⟩:=trodAll_cons hA
  obtain⟨v1,vs1,d1,ds1,p1,q1,rfl,rfl,rfl,h1,r1⟩:=trodAll_cons r0
  obtain⟨rfl,rfl,rfl⟩:=trodAll_nil r1
  obtain rfl:args= #[v0,v1]:=by cases args;simp_all
  obtain⟨rfl,rfl⟩:=trodVars_none hV
  have hB:Rows.uptoBulk d0+Rows.uptoBulk d1≤1048576:=by
    have:=of_decide_eq_true hk
    simp only[List.append_nil,Rows.uptoBulkAll]at this
    omega
  obtain⟨u0,hf0⟩:=h0
  obtain⟨a0,e0,w0,z0⟩:=(RdA.byte (W:=W) Tryz.underlying5) H enc _ _ _ hf0
  obtain⟨u1,hf1⟩:=h1
  obtain⟨a1,e1,w1,z1⟩:=(zMx W) H enc _ _ _ hf1
  try dsimp only at z0
  try dsimp only at z1
  obtain rfl:=zNP Tryz.underlying5 (hval 0 _ v0 rfl rfl) e0
  obtain rfl:=zJm Tryz.underlying62 (hval 1 _ v1 rfl rfl) e1
  refine Calls.mono (zPH a0.toNat a1.1 a1.2 W a0.toNat_lt V w1.2 w1.1) fun e W' he=> ?_
  obtain⟨v,rfl,rfl,hO⟩:=he
  exact⟨_,O,zLo laidOut O (fun ds h=>by
    rw[Tryz.params7]at h
    match ds,h with
    | [_,_],_=>rfl) rfl Tryz.underlying4 qN hW' (Own.below hO)⟩
set_option maxRecDepth 100000 in
theorem lifted(os:Os)(started:os.Started)(H:Type)(enc:TypeId×Value→H)(F:Stop.Interp):
    ReturnsInHanded {} Tryz.checked os 7 .any ((Rows.OpenSpec.upto Rows.coreSafeSpec).pre6 enc Tryz.prog Tryz.f7 Rows.coreSafeUptoRow.domain false) (((Rows.OpenSpec.upto Rows.coreSafeSpec).at F).post enc Tryz.prog Tryz.f7 false true false false):=by
  refine returnsInHanded_of_cond (C:=Tryz.checked) (s:=Rows.OpenSpec.upto Rows.coreSafeSpec) (k:=Rows.uptoSmall) O own started qN Tryz.func7
    (OpenSpec.witness (enc:=enc) (C:=Tryz.checked) (s:=Rows.OpenSpec.upto Rows.coreSafeSpec) (k:=Rows.uptoSmall) rfl false ⟨#[],#[.int .u8 0, .slice none 0 0],[]⟩ 8 qN qN qN
      (x:=([.lit (.int .u8 0), .nil],[],[])) qN rfl qN) ?_
  intro W base args ds gs before hval hW _ hk _
  exact contract H enc W base args ds gs before hval hW hk
theorem proved:Rows.CoreSafeUptoSaid:=
  OpenClaim.holds_of_cond 7 Tryz.f7 rfl rfl rfl rfl rfl rfl rfl ⟨rfl,rfl,rfl,rfl,rfl⟩ rfl rfl rfl rfl rfl qN Tryz.func7 qN
    (of_decide_eq_true qN) (by unfold Func.isWrapper;first|(rw[if_pos (by decide+kernel)];kernel_rfl)|(rw[if_neg (by decide+kernel)];exact⟨rfl,rfl⟩))
    (fun os started H enc _ F=>lifted os started H enc F)
end coreSafe
end Go.Proofs.YtkkeknmkipkbmaaGreat
