/-
  WholeLearns is true of every input that is not greater than the statement's bound: the program returns, it returns true, and what came in reads as it did; the row's listed variables are tied to the program's text. Condition: the bulk that the statement names.
-/
import Derived.Test.YthpoddkmhfhboaaGreatDoorWmg
import Derived.Test.YthpoddkmhfhboaaGreatDoorClB
import Derived.Test.YthpoddkmhfhboaaGreatDoorChB
import Derived.Lay
import Derived.Deep.DeepHandedRow
import Derived.Test.YthpoddkmhfhboaaGreatDoorTiK
set_option linter.unusedSimpArgs false
set_option linter.unusedVariables false
set_option maxRecDepth 10000
namespace Go.Proofs.YthpoddkmhfhboaaGreatDoor
open Go Go.Sc Go.Proofs Go.RowKit Go.ChangeShapes Go.WideShapes
theorem sum_one{α:Type}(l:List α):(l.map fun _=>1).sum=l.length:=by induction l with|nil=>rfl|cons a l ih=>simp only[List.map_cons,List.sum_cons,List.length_cons,ih];omega
theorem rdDraws(W:World):RdA Tryz.prog W 22 (fun p:Value×List Nat=>[p.1]) (fun p=>Rd W [] (Res.sl p.1 p.2.length (p.2.flatMap U1))∧∀ x∈p.2,x<18446744073709551616) (fun p=>p.2.length+1):=
 (RdA.slice (sz:=1) Tryz.underlying22 qF V (fun _=>rfl) (RdA.u64 (W:=W) Tryz.underlying31)).map id (fun _=>rfl) (fun p h=>⟨Rd.of h.1,h.2⟩) (fun p _=>by rw[sum_one];exact Nat.le_refl _)
namespace wholeLearns
theorem own:ownKnob Tryz.prog.godebug=none:=by kernel_rfl
theorem laidOut:laidOutB Tryz.prog=true:=closedLo.laidOut
theorem contract(H:Type)(enc:TypeId×Value→H)(W:World)(base:Nat)(args:Array Value)(c n:List (DataW H))(b:List MemPlace)
   (a:∀ (j:Nat) t v,Tryz.f4.params[j]?=some t→args[j]?=some v→Value.okWide Tryz.prog W .any base t v)
   (o:DataW.Whole enc Tryz.prog Tryz.f4.params.toList Rows.wholeLearnsSpec.vars false W args.toList c n b) (z:Rows.uptoSmall H (c++n)=true):
   Calls Tryz.prog 4 args W fun e W'=>∃ v,e= .returned v∧Rows.wholeLearnsSpec.post enc Tryz.prog Tryz.f4 false true false false W args v W':=by
 have d:=o
 obtain⟨p,q,g,hV,rfl,a3,a4⟩:=o
 have r:DataW.TrodAll enc Tryz.prog W 0 (fun _=>true) true Tryz.f4.params.toList args.toList c p:=g
 rw[Tryz.params4]at r a
 obtain⟨v0,a5,d0,a6,p0,q0,i,rfl,rfl,h0,r0⟩:=trodAll_cons r
 obtain⟨s,a7,d1,a8,p1,q1,rfl,rfl,rfl,h1,r1⟩:=trodAll_cons r0
 obtain⟨u,a9,d2,aa,p2,q2,rfl,rfl,rfl,h2,r2⟩:=trodAll_cons r1
 obtain⟨rfl,rfl,rfl⟩:=trodAll_nil r2
 obtain rfl:args= #[v0,s,u]:=by cases args;simp_all
 obtain⟨rfl,rfl⟩:=trodVars_none hV
 have hB:Rows.uptoBulk d0+Rows.uptoBulk d1+Rows.uptoBulk d2≤1048576:=by
   have:=of_decide_eq_true z
   simp only[List.append_nil,Rows.uptoBulkAll]at this
   omega
 obtain⟨u0,k⟩:=h0
 obtain⟨a0,e0,w0,z0⟩:=(RdA.byte (W:=W) Tryz.underlying5) H enc _ _ _ k
 obtain⟨u1,l⟩:=h1
 obtain⟨w,e1,w1,z1⟩:=(RdA.byte (W:=W) Tryz.underlying5) H enc _ _ _ l
 obtain⟨u2,m⟩:=h2
 obtain⟨x,e2,y,z2⟩:=(rdDraws W) H enc _ _ _ m
 try dsimp only at z0
 try dsimp only at z1
 try dsimp only at z2
 obtain rfl:=zIu Tryz.underlying5 (a 0 _ v0 rfl rfl) e0
 obtain rfl:=zIu Tryz.underlying5 (a 1 _ s rfl rfl) e1
 obtain rfl:=zJW Tryz.underlying22 (a 2 _ u rfl rfl) e2
 have ab:=a0.toNat_lt
 have ac:=w.toNat_lt
 refine Calls.mono (zEB (a0.toNat:Int) (w.toNat:Int) x.1 x.2 W ⟨by omega,by omega⟩ ⟨by omega,by omega⟩ y.2 qG y.1) fun e W' he=> ?_
 obtain⟨v,rfl,rfl,hO⟩:=he
 exact⟨_,O,zMk laidOut O (fun c h=>by
   rw[Tryz.params4]at h
   match c,h with
   | [_,_,_],_=>rfl) rfl Tryz.underlying4 qF d (Own.below hO)⟩
noncomputable abbrev laidW (os:Os):World:=(World.laidAll Tryz.prog os Rows.wholeLearnsUptoRow.laid).forCall (fun _ _=>0) ⟨#[],#[.int .u8 0, .int .u8 0, .slice none 0 0],[]⟩
theorem shaped(os:Os):(laidW os).Shaped Tryz.prog:=World.shaped_of_ZipB qF qF
theorem okW(os:Os):Input.okWideB Tryz.prog (laidW os) 4 ⟨#[],#[.int .u8 0, .int .u8 0,zW],[]⟩=true:=by kernel_rfl
theorem met(os:Os):laidMetH Tryz.prog Rows.wholeLearnsUptoRow.laid (laidW os).memory:=by
 rw[MakeChecks.laidMetH_plain _ _ _ qF]
 exact laidMet_laidAll _ qF qF
theorem reads(os:Os){H:Type}(enc:TypeId×Value→H):∃ places,DataW.whole enc Tryz.prog (laidW os).memory Tryz.f4.params.toList Rows.wholeLearnsSpec.vars false #[Value.int .u8 0, .int .u8 0,zW].toList 8=some ([.lit (.int .u8 0), .lit (.int .u8 0), .nil],[],places):=
 ⟨[],by kernel_rfl⟩
set_option maxRecDepth 100000 in
theorem lifted(os:Os)(a:os.Started)(H:Type)(enc:TypeId×Value→H)(F:Stop.Interp):
   ReturnsInHanded {} Tryz.checked os 4 .any ((Rows.OpenSpec.upto Rows.wholeLearnsSpec).preRow enc Tryz.prog Tryz.f4 Rows.wholeLearnsUptoRow.domain false Rows.wholeLearnsUptoRow.laid) (((Rows.OpenSpec.upto Rows.wholeLearnsSpec).at F).post enc Tryz.prog Tryz.f4 false true false false):=by
 obtain⟨b,d⟩:=reads os enc
 refine returnsInHanded_of_row (C:=Tryz.checked) (s:=Rows.OpenSpec.upto Rows.wholeLearnsSpec) own a qF Tryz.func4
   ⟨World.laidAll Tryz.prog os Rows.wholeLearnsUptoRow.laid,fun _ _=>0,⟨#[],#[.int .u8 0, .int .u8 0,zW],[]⟩,World.laidAll_os _ _ _,shaped os,(Input.okWide_of_okWideB (base:=0) (okW os)).1,(Input.okWide_of_okWideB (okW os)).2,
     OpenSpec.preRow_of_cond 8 d qF (fun k c=>by cases c;kernel_rfl) qF (met os),by simp[Assume.holds]⟩ ?_
 intro W base args ds gs before hval hW _ c _ hL _ _
 exact contract H enc W base args ds gs before hval hW (c _ O)
theorem said:Rows.WholeLearnsUptoSaid:=
 OpenClaim.holds_of_cond 4 Tryz.f4 rfl rfl rfl rfl rfl rfl rfl ⟨rfl,rfl,rfl,rfl,rfl⟩ rfl rfl rfl rfl rfl cardB.fid Tryz.func4 closedB.all
   ownB.inst ownB.wrap (fun os a H b _ F=>by rw[OpenClaim.pre_eq_preRow];exact lifted os a H b F)
theorem plain (f : FuncId) (fn : Func) (c : Tryz.pinned.checked.prog.funcNamed "scupper/scuppertop.WholeLearns" = some f) (b : Tryz.pinned.checked.prog.funcs[f]? = some fn) :
    true = Tryz.pinned.checked.prog.looks [] ∧ ∀ (j : Nat) t, fn.params[j]? = some t → Tryz.pinned.checked.prog.wantsStandIn t = false := by
  obtain rfl : f = 4 := Option.some.inj (cardB.fid.symm.trans c) |>.symm
  obtain rfl : fn = Tryz.f4 := (Option.some.inj (Tryz.func4.symm.trans b)).symm
  refine ⟨cardB.noLooks, fun j t a => ?_⟩
  rw [Tryz.params4] at a
  have a : t = 5 ∨ t = 22 := by
    have := Array.mem_of_getElem? a
    simp at this; omega
  rcases a with rfl | rfl
  · exact (show Tryz.prog.wantsStandIn 5 = false by kernel_rfl)
  exact (show Tryz.prog.wantsStandIn 22 = false by kernel_rfl)
theorem proved:Rows.WholeLearnsUptoCardSaid:=
 Claim7.holds_tied_plain_at .later [] _ _ _ _ said (fun _ h=>by cases h) cardB.wfText (fun _ h=>by cases h) zJ3 rfl ⟨rfl,rfl⟩ cardB.mainIs rfl plain cardB.goes
end wholeLearns
end Go.Proofs.YthpoddkmhfhboaaGreatDoor
