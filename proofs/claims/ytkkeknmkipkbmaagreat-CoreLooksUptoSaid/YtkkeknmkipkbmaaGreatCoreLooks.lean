/-
  CoreLooks is true of every input: the program returns, it returns true, and what came in reads as it did. Condition: none, but the bulk that the statement names.
-/
import Derived.Test.YtkkeknmkipkbmaaGreatNetB
import Derived.Test.YtkkeknmkipkbmaaGreatNetL
set_option linter.unusedSectionVars false
set_option linter.unusedSimpArgs false
set_option linter.unusedVariables false
set_option maxRecDepth 10000
namespace Go.Proofs.YtkkeknmkipkbmaaGreat
open Go Go.Sc Go.Proofs Go.RowKit Go.ChangeShapes Go.WideShapes
namespace coreLooks
theorem own:ownKnob Tryz.prog.godebug=none:=by kernel_rfl
theorem laidOut:laidOutB Tryz.prog=true:=by kernel_rfl
theorem contract(H:Type)(enc:TypeId×Value→H)(W:World)(base:Nat)(args:Array Value)(ds gs:List (DataW H))(before:List MemPlace)
    (hval:∀ (j:Nat) t v,Tryz.f8.params[j]?=some t→args[j]?=some v→Value.okWide Tryz.prog W .any base t v)
    (hW:DataW.Whole enc Tryz.prog Tryz.f8.params.toList Rows.coreLooksSpec.vars false W args.toList ds gs before) (hk:Rows.uptoSmall H (ds++gs)=true):
    Calls Tryz.prog 8 args W fun e W'=>∃ v,e= .returned v∧Rows.coreLooksSpec.post enc Tryz.prog Tryz.f8 false true false false W args v W':=by
  have hW':=hW
  obtain⟨p,q,hA0,hV,rfl,hfz,hnd⟩:=hW
  have hA:DataW.TrodAll enc Tryz.prog W 0 (fun _=>true) true Tryz.f8.params.toList args.toList ds p:=hA0
  rw[Tryz.params8]at hA hval
  obtain⟨v0,vs0,d0,ds0,p0,q0,hargs,rfl,rfl,h0,r0⟩:=trodAll_cons hA
  obtain⟨v1,vs1,d1,ds1,p1,q1,rfl,rfl,rfl,h1,r1⟩:=trodAll_cons r0
  obtain⟨v2,vs2,d2,ds2,p2,q2,rfl,rfl,rfl,h2,r2⟩:=trodAll_cons r1
  obtain⟨v3,vs3,d3,ds3,p3,q3,rfl,rfl,rfl,h3,r3⟩:=trodAll_cons r2
  obtain⟨rfl,rfl,rfl⟩:=trodAll_nil r3
  obtain rfl:args= #[v0,v1,v2,v3]:=by cases args;simp_all
  obtain⟨rfl,rfl⟩:=trodVars_none hV
  have hB:Rows.uptoBulk d0+Rows.uptoBulk d1+Rows.uptoBulk d2+Rows.uptoBulk d3≤1048576:=by
    have:=of_decide_eq_true hk
    simp only[List.append_nil,Rows.uptoBulkAll]at this
    omega
  obtain⟨u0,hf0⟩:=h0
  obtain⟨a0,e0,w0,z0⟩:=(RdA.byte (W:=W) Tryz.underlying5) H enc _ _ _ hf0
  obtain⟨u1,hf1⟩:=h1
  obtain⟨a1,e1,w1,z1⟩:=(zNZ W) H enc _ _ _ hf1
  obtain⟨u2,hf2⟩:=h2
  obtain⟨a2,e2,w2,z2⟩:=(RdA.byte (W:=W) Tryz.underlying5) H enc _ _ _ hf2
  obtain⟨u3,hf3⟩:=h3
  obtain⟨a3,e3,w3,z3⟩:=(RdA.byte (W:=W) Tryz.underlying5) H enc _ _ _ hf3
  try dsimp only at z0
  try dsimp only at z1
  try dsimp only at z2
  try dsimp only at z3
  obtain rfl:=zFJ Tryz.underlying5 (hval 0 _ v0 rfl rfl) e0
  obtain rfl:=zJv Tryz.underlying62 (hval 1 _ v1 rfl rfl) e1
  obtain rfl:=zFJ Tryz.underlying5 (hval 2 _ v2 rfl rfl) e2
  obtain rfl:=zFJ Tryz.underlying5 (hval 3 _ v3 rfl rfl) e3
  refine Calls.mono (zN7 a0.toNat a1.1 a1.2 a2.toNat a3.toNat W a0.toNat_lt V w1.2 a2.toNat_lt a3.toNat_lt w1.1) fun e W' he=> ?_
  obtain⟨v,rfl,rfl,hO⟩:=he
  exact⟨_,O,zMK laidOut O (fun ds h=>by
    rw[Tryz.params8]at h
    match ds,h with
    | [_,_,_,_],_=>rfl) rfl Tryz.underlying4 qN hW' (Own.below hO)⟩
set_option maxRecDepth 100000 in
theorem lifted(os:Os)(started:os.Started)(H:Type)(enc:TypeId×Value→H)(F:Stop.Interp):
    ReturnsInHanded {} Tryz.checked os 8 .any ((Rows.OpenSpec.upto Rows.coreLooksSpec).pre6 enc Tryz.prog Tryz.f8 Rows.coreLooksUptoRow.domain false) (((Rows.OpenSpec.upto Rows.coreLooksSpec).at F).post enc Tryz.prog Tryz.f8 false true false false):=by
  refine returnsInHanded_of_cond (C:=Tryz.checked) (s:=Rows.OpenSpec.upto Rows.coreLooksSpec) (k:=Rows.uptoSmall) O own started qN Tryz.func8
    (OpenSpec.witness (enc:=enc) (C:=Tryz.checked) (s:=Rows.OpenSpec.upto Rows.coreLooksSpec) (k:=Rows.uptoSmall) rfl false ⟨#[],#[.int .u8 0, .slice none 0 0, .int .u8 0, .int .u8 0],[]⟩ 8 qN qN qN
      (x:=([.lit (.int .u8 0), .nil, .lit (.int .u8 0), .lit (.int .u8 0)],[],[])) qN rfl qN) ?_
  intro W base args ds gs before hval hW _ hk _
  exact contract H enc W base args ds gs before hval hW hk
theorem proved:Rows.CoreLooksUptoSaid:=
  OpenClaim.holds_of_cond 8 Tryz.f8 rfl rfl rfl rfl rfl rfl rfl ⟨rfl,rfl,rfl,rfl,rfl⟩ rfl rfl rfl rfl rfl qN Tryz.func8 qN
    (of_decide_eq_true qN) (by unfold Func.isWrapper;first|(rw[if_pos (by decide+kernel)];kernel_rfl)|(rw[if_neg (by decide+kernel)];exact⟨rfl,rfl⟩))
    (fun os started H enc _ F=>lifted os started H enc F)
end coreLooks
end Go.Proofs.YtkkeknmkipkbmaaGreat
