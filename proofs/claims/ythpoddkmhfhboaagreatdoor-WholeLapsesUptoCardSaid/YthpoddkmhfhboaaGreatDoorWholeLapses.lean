/-
  WholeLapses is true of every input that is not greater than the statement's bound: the program returns, it returns true, and what came in reads as it did; the row's listed variables are tied to the program's text. Condition: the bulk that the statement names.
-/
import Derived.Test.YthpoddkmhfhboaaGreatDoorWng
import Derived.Test.YthpoddkmhfhboaaGreatDoorClC
import Derived.Test.YthpoddkmhfhboaaGreatDoorChC
import Derived.Lay
import Derived.Deep.DeepHandedRow
import Derived.Test.YthpoddkmhfhboaaGreatDoorTiM
set_option linter.unusedSimpArgs false
set_option linter.unusedVariables false
set_option maxRecDepth 10000
namespace Go.Proofs.YthpoddkmhfhboaaGreatDoor
open Go Go.Sc Go.Proofs Go.RowKit Go.ChangeShapes Go.WideShapes
theorem sum_one{α:Type}(l:List α):(l.map fun _=>1).sum=l.length:=by induction l with|nil=>rfl|cons a l ih=>simp only[List.map_cons,List.sum_cons,List.length_cons,ih];omega
theorem rdDraws(W:World):RdA Tryz.prog W 22 (fun p:Value×List Nat=>[p.1]) (fun p=>Rd W [] (Res.sl p.1 p.2.length (p.2.flatMap U1))∧∀ x∈p.2,x<18446744073709551616) (fun p=>p.2.length+1):=
 (RdA.slice (sz:=1) Tryz.underlying22 qF V (fun _=>rfl) (RdA.u64 (W:=W) Tryz.underlying31)).map id (fun _=>rfl) (fun p h=>⟨Rd.of h.1,h.2⟩) (fun p _=>by rw[sum_one];exact Nat.le_refl _)
namespace wholeLapses
theorem own:ownKnob Tryz.prog.godebug=none:=by kernel_rfl
theorem laidOut:laidOutB Tryz.prog=true:=closedLo.laidOut
theorem contract(H:Type)(enc:TypeId×Value→H)(W:World)(base:Nat)(args:Array Value)(ds gs:List (DataW H))(before:List MemPlace)
   (hval:∀ (j:Nat) t v,Tryz.f3.params[j]?=some t→args[j]?=some v→Value.okWide Tryz.prog W .any base t v)
   (hW:DataW.Whole enc Tryz.prog Tryz.f3.params.toList Rows.wholeLapsesSpec.vars false W args.toList ds gs before) (hk:Rows.uptoSmall H (ds++gs)=true):
   Calls Tryz.prog 3 args W fun e W'=>∃ v,e= .returned v∧Rows.wholeLapsesSpec.post enc Tryz.prog Tryz.f3 false true false false W args v W':=by
 have hW':=hW
 obtain⟨p,q,hA0,hV,rfl,hfz,hnd⟩:=hW
 have hA:DataW.TrodAll enc Tryz.prog W 0 (fun _=>true) true Tryz.f3.params.toList args.toList ds p:=hA0
 rw[Tryz.params3]at hA hval
 obtain⟨v0,vs0,d0,ds0,p0,q0,hargs,rfl,rfl,h0,r0⟩:=trodAll_cons hA
 obtain⟨v1,vs1,d1,ds1,p1,q1,rfl,rfl,rfl,h1,r1⟩:=trodAll_cons r0
 obtain⟨v2,vs2,d2,ds2,p2,q2,rfl,rfl,rfl,h2,r2⟩:=trodAll_cons r1
 obtain⟨rfl,rfl,rfl⟩:=trodAll_nil r2
 obtain rfl:args= #[v0,v1,v2]:=by cases args;simp_all
 obtain⟨rfl,rfl⟩:=trodVars_none hV
 have hB:Rows.uptoBulk d0+Rows.uptoBulk d1+Rows.uptoBulk d2≤1048576:=by
   have:=of_decide_eq_true hk
   simp only[List.append_nil,Rows.uptoBulkAll]at this
   omega
 obtain⟨u0,hf0⟩:=h0
 obtain⟨a0,e0,w0,z0⟩:=(RdA.byte (W:=W) Tryz.underlying5) H enc _ _ _ hf0
 obtain⟨u1,hf1⟩:=h1
 obtain⟨a1,e1,w1,z1⟩:=(RdA.byte (W:=W) Tryz.underlying5) H enc _ _ _ hf1
 obtain⟨u2,hf2⟩:=h2
 obtain⟨a2,e2,w2,z2⟩:=(rdDraws W) H enc _ _ _ hf2
 try dsimp only at z0
 try dsimp only at z1
 try dsimp only at z2
 obtain rfl:=zIf Tryz.underlying5 (hval 0 _ v0 rfl rfl) e0
 obtain rfl:=zIf Tryz.underlying5 (hval 1 _ v1 rfl rfl) e1
 obtain rfl:=zJi Tryz.underlying22 (hval 2 _ v2 rfl rfl) e2
 have ha0:=a0.toNat_lt
 have ha1:=a1.toNat_lt
 refine Calls.mono (zEI (a0.toNat:Int) (a1.toNat:Int) a2.1 a2.2 W ⟨by omega,by omega⟩ ⟨by omega,by omega⟩ w2.2 qG w2.1) fun e W' he=> ?_
 obtain⟨v,rfl,rfl,hO⟩:=he
 exact⟨_,O,zLr laidOut O (fun ds h=>by
   rw[Tryz.params3]at h
   match ds,h with
   | [_,_,_],_=>rfl) rfl Tryz.underlying4 qF hW' (Own.below hO)⟩
noncomputable abbrev laidW (os:Os):World:=(World.laidAll Tryz.prog os Rows.wholeLapsesUptoRow.laid).forCall (fun _ _=>0) ⟨#[],#[.int .u8 0, .int .u8 0, .slice none 0 0],[]⟩
theorem shaped(os:Os):(laidW os).Shaped Tryz.prog:=World.shaped_of_ZipB qF qF
theorem okW(os:Os):Input.okWideB Tryz.prog (laidW os) 3 ⟨#[],#[.int .u8 0, .int .u8 0, .slice none 0 0],[]⟩=true:=by kernel_rfl
theorem met(os:Os):laidMetH Tryz.prog Rows.wholeLapsesUptoRow.laid (laidW os).memory:=by
 rw[MakeChecks.laidMetH_plain _ _ _ qF]
 exact laidMet_laidAll _ qF qF
theorem reads(os:Os){H:Type}(enc:TypeId×Value→H):∃ places,DataW.whole enc Tryz.prog (laidW os).memory Tryz.f3.params.toList Rows.wholeLapsesSpec.vars false #[Value.int .u8 0, .int .u8 0, .slice none 0 0].toList 8=some ([.lit (.int .u8 0), .lit (.int .u8 0), .nil],[],places):=
 ⟨[],by kernel_rfl⟩
set_option maxRecDepth 100000 in
theorem lifted(os:Os)(started:os.Started)(H:Type)(enc:TypeId×Value→H)(F:Stop.Interp):
   ReturnsInHanded {} Tryz.checked os 3 .any ((Rows.OpenSpec.upto Rows.wholeLapsesSpec).preRow enc Tryz.prog Tryz.f3 Rows.wholeLapsesUptoRow.domain false Rows.wholeLapsesUptoRow.laid) (((Rows.OpenSpec.upto Rows.wholeLapsesSpec).at F).post enc Tryz.prog Tryz.f3 false true false false):=by
 obtain⟨places,hx⟩:=reads os enc
 refine returnsInHanded_of_row (C:=Tryz.checked) (s:=Rows.OpenSpec.upto Rows.wholeLapsesSpec) own started qF Tryz.func3
   ⟨World.laidAll Tryz.prog os Rows.wholeLapsesUptoRow.laid,fun _ _=>0,⟨#[],#[.int .u8 0, .int .u8 0, .slice none 0 0],[]⟩,World.laidAll_os _ _ _,shaped os,(Input.okWide_of_okWideB (base:=0) (okW os)).1,(Input.okWide_of_okWideB (okW os)).2,
     OpenSpec.preRow_of_cond 8 hx qF (fun k hk=>by cases hk;kernel_rfl) qF (met os),by simp[Assume.holds]⟩ ?_
 intro W base args ds gs before hval hW _ hk _ hL _ _
 exact contract H enc W base args ds gs before hval hW (hk _ O)
theorem said:Rows.WholeLapsesUptoSaid:=
 OpenClaim.holds_of_cond 3 Tryz.f3 rfl rfl rfl rfl rfl rfl rfl ⟨rfl,rfl,rfl,rfl,rfl⟩ rfl rfl rfl rfl rfl cardC.fid Tryz.func3 closedC.all
   ownC.inst ownC.wrap (fun os started H enc _ F=>by rw[OpenClaim.pre_eq_preRow];exact lifted os started H enc F)
theorem plain (f : FuncId) (fn : Func) (hf : Tryz.pinned.checked.prog.funcNamed "scupper/scuppertop.WholeLapses" = some f) (hfn : Tryz.pinned.checked.prog.funcs[f]? = some fn) :
    true = Tryz.pinned.checked.prog.looks [] ∧ ∀ (j : Nat) t, fn.params[j]? = some t → Tryz.pinned.checked.prog.wantsStandIn t = false := by
  obtain rfl : f = 3 := Option.some.inj (cardC.fid.symm.trans hf) |>.symm
  obtain rfl : fn = Tryz.f3 := (Option.some.inj (Tryz.func3.symm.trans hfn)).symm
  refine ⟨cardC.noLooks, fun j t ht => ?_⟩
  rw [Tryz.params3] at ht
  have ht : t = 5 ∨ t = 22 := by
    have := Array.mem_of_getElem? ht
    simp at this; omega
  rcases ht with rfl | rfl
  · exact (show Tryz.prog.wantsStandIn 5 = false by kernel_rfl)
  exact (show Tryz.prog.wantsStandIn 22 = false by kernel_rfl)
theorem proved:Rows.WholeLapsesUptoCardSaid:=
 Claim7.holds_tied_plain_at .later [] _ _ _ _ said (fun _ h=>by cases h) cardC.wfText (fun _ h=>by cases h) zJb rfl ⟨rfl,rfl⟩ cardC.mainIs rfl plain cardC.goes
end wholeLapses
end Go.Proofs.YthpoddkmhfhboaaGreatDoor
