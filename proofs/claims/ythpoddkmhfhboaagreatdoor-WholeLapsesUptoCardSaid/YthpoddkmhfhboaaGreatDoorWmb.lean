import Derived.Test.YthpoddkmhfhboaaGreatDoorWma
set_option linter.unusedSectionVars false
set_option linter.unusedSimpArgs false
set_option linter.unusedVariables false
set_option maxRecDepth 10000
namespace Go.Proofs.YthpoddkmhfhboaaGreatDoor
open Go.Sc
theorem zRI{x:AskD}(ho:x.ok)(hl:x.look=false):x.cmd.ok:=by
 unfold AskD.ok at ho
 rw[if_neg (by rw[hl];decide)]at ho
 exact ho.1.1
theorem zM5{aa:Int}{jj:Nat}(h:aa=((jj:Nat):Int)+1)(a:jj<2):(jD .i64 aa=1∨jD .i64 aa= -1∨jD .i64 aa= -2)∧ -2≤jD .i64 aa∧jD .i64 aa≤ -1:=by
 rcases(show jj=0∨jj=1 by omega)with q|q<;>subst q<;>subst h<;>decide
theorem zTw{ed:Int}{jj:Nat}(h:ed= -(((jj:Nat):Int)+1))(a:jj<2):jD .i64 ed=((jj:Nat):Int)+1:=by
 rcases(show jj=0∨jj=1 by omega)with q|q<;>subst q<;>subst h<;>decide
theorem zH0{S:List Nat}(wb nb e1 e2 pb cb:Nat)(st:SetD)(nv dv ev km lv:Value)(k:Nat)(cv ov:Value)(es:List EntD)(n:NdD)(c:CkD)(T:Int)(ps:PsD)(g:Int)(pv:Value)(y:AskD)(lr:RepD)(kk q m:Nat)(w:World)(hc:CkA c T)(au:ps.l=[({src:=g,dst:=1,dv:=pv,data:=y.enc}:LetD)])(h:NdM n kk q m)(av:kk≤1000)(aw:g= -1∨g= -2)(hl:n.x.es.length≤200)(ax:n.x.es.length≤97∨jP (n.x.es.map EntD.toEntA)<512)(al:c.t1=n.x.t.now)(ab:y.look=false)(ae:y.wf)(af:y.ok)(ay:y.cmd.session=u64 (-g))(hk:yn n.s.a.kr y.cmd.session y.cmd.seq=(lr,8))(hA:ApOk n.s.a n.dl)(hq:q+6200≤1048576)(hm:m+2<4000)(az:es.length=n.x.es.length)(hW:∀ r a0 cnt' kb' kl' kr',DoK (ye n.s.a.now n.dl) n.s.a.cnt n.s.a.kb (yX n.s.a.now n.dl n.s.a.kl) n.s.a.kr y.cmd r a0 cnt' kb' kl' kr'→(({seq:=y.seq,retry:=false,lead:=0,reply:=r,most:=0,lent:=0}:TldD).wf∧({seq:=y.seq,retry:=false,lead:=0,reply:=r,most:=0,lent:=0}:TldD).ok)∧r.session≠0)(b0:Own w S [jL wb st nv dv ev pb cb (Vj k) cv ov lv km,Res.vec 60 1 nv [nb].length ([nb].flatMap P1),vE lv es,Res.nd nb n,Res.ck cb c,Res.ps pb ps] w):Rets Tryz.prog 24 #[pt wb, .agg #[Vi 3,Vi 0,Vi 0,Vi 0,Vn 0,Vn 0,Vn 0,Vn 0,Vi 0,ym,Vi 0,Vi 0,Vn 0]] w fun u_ p=>∃ (am b1:Value) (z:NdD) (an:PsD) (e:EntD) (r:RepD) (a0:Bool),u_=Vi 0∧an.l=[⟨1,g,b1,({seq:=y.seq,retry:=false,lead:=0,reply:=r,most:=0,lent:=0}:TldD).enc⟩]∧NdM z kk (q+6100) (m+2)∧z.st=n.st∧z.x.t.now=n.x.t.now∧z.x.es.length=n.x.es.length+1∧z.fs.length=1∧z.s.a.now=ye n.s.a.now n.dl∧DoK (ye n.s.a.now n.dl) n.s.a.cnt n.s.a.kb (yX n.s.a.now n.dl n.s.a.kl) n.s.a.kr y.cmd r a0 z.s.a.cnt z.s.a.kb z.s.a.kl z.s.a.kr∧z.x.t.qh=n.x.t.now∧z.x.es.map EntD.toEntA=n.x.es.map EntD.toEntA++[(⟨n.x.es.length+1,1,2,n.dl,y.cmd.enc⟩:EntA)]∧Own w S [jL wb st nv dv ev pb cb (Vj k) cv ov am km,Res.vec 60 1 nv [nb].length ([nb].flatMap P1),vE am (es++z.fs),Res.nd nb z,Res.ck cb c,Res.ps pb an] p:=by
 have b2:y.cmd.ok:=(zRI af ab)
 refine zO Tryz.func24 O Tryz.ntmps24 b0<|zB<|zj O O<|fun b3=>zF O<|zA<|zK<|zd [0,1,2,3,4,6] O V qF<|fun p i b=>zD 0 O za b<|zD 1 O (zY O) b<|zD 2 O (zL (o:=13) O) b<|zD 3 O (zZ 0 (v:=pt pb) O O O) b<|zD 4 O (zL (o:=1) O) b<|zD 5 O (zZ 5 (v:=Vi 0) O O O) b<|zM 6 O i<|zG O O<|fun p i=>(zI5 pb ps ({src:=g,dst:=1,dv:=pv,data:=y.enc}:LetD) p au<|i.give [5] O V).mono ?_
 rintro _ w1 ⟨ao,rfl,ag,hO⟩
 refine(?_:CL _ _ _ _ _ _ (Own w S [_,_,_,_,_,_,_,_])) w1<|i.qc [5] O hO
 refine zE [0,1,2,3,4,5] O V<|fun p i b=>zD 7 O za b<|zD 8 O (yG (vs:=[Vi (({src:=g,dst:=1,dv:=pv,data:=y.enc}:LetD).src),Vi (({src:=g,dst:=1,dv:=pv,data:=y.enc}:LetD).dst),({src:=g,dst:=1,dv:=pv,data:=y.enc}:LetD).dv,Vi 0]) O O) b<|zD 9 O (yG (vs:=[Vi (({src:=g,dst:=1,dv:=pv,data:=y.enc}:LetD).src),Vi (({src:=g,dst:=1,dv:=pv,data:=y.enc}:LetD).dst),({src:=g,dst:=1,dv:=pv,data:=y.enc}:LetD).dv,Vi 0]) O O) b<|zD 10 O (yG (vs:=[Vi (({src:=g,dst:=1,dv:=pv,data:=y.enc}:LetD).src),Vi (({src:=g,dst:=1,dv:=pv,data:=y.enc}:LetD).dst),({src:=g,dst:=1,dv:=pv,data:=y.enc}:LetD).dv,Vi 0]) O O) b<|zD 11 O (yG (vs:=[Vi (({src:=g,dst:=1,dv:=pv,data:=y.enc}:LetD).src),Vi (({src:=g,dst:=1,dv:=pv,data:=y.enc}:LetD).dst),({src:=g,dst:=1,dv:=pv,data:=y.enc}:LetD).dv,Vi 0]) O O) b<|zD 12 O yB b<|zD 13 O yB b<|zD 14 O yB b<|zD 15 O yB b<|zX<|(?_:C _ _ _ _ _ _ _ (Own w S [_,_,_,_,_,_,_,_])) _ i
 refine zK<|zU<|zB<|zC O<|yf O O O<|zF O<|zA<|zT O (fun c1=> ?_)<|fun c1=> ?_
 ·exact absurd O c1
 refine zB<|zC O<|yY O O O<|zF O<|zA<|zT O (fun c2=> ?_)<|fun c2=> ?_
 ·refine zB<|zC O<|zC O<|zG O O<|fun p i=>(zC2 wb nb e1 e2 pb cb st nv dv ev km lv k cv ov es (({src:=g,dst:=1,dv:=pv,data:=y.enc}:LetD).dst) p O<|i.give [0,1] O V).mono ?_
  rintro _ w1 ⟨rfl,hO⟩
  refine(?_:CL _ _ _ _ _ _ (Own w S [_,_,_,_,_,_,_,_])) w1<|i.qc [0,1] O hO
  refine zF O<|zA<|zK<|zB<|zC O<|yE qF O O O<|zA<|yW O<|zN<|zK<|zd [0,2,3,4,5,6,7] O V qF<|fun p i b=>zD 0 O za b<|zD 1 O za b<|zD 2 O za b<|zD 3 O za b<|zD 4 O za b<|zD 6 O (zL (o:=4) O) b<|zD 7 O (zZ 2 (v:=Vn 0) O O O) b<|zM 5 O i<|zG O O<|fun p i=>(zDQ wb nb e1 e2 pb cb st nv dv ev km lv k cv ov es _ _ (({src:=g,dst:=1,dv:=pv,data:=y.enc}:LetD).dst) p hc (.inl O)<|i.give [6,2] O V).mono ?_
  rintro _ w1 ⟨rfl,hO⟩
  refine(?_:CL _ _ _ _ _ _ (Own w S [_,_,_,_,_,_,_,_])) w1<|i.qc [6,2] O hO
  refine zE [0,7,2,3,4,6,5] O V<|fun p i b=>zM 8 O i<|zG O O<|fun p i=>(zLc nb _ kk _ _ (({src:=g,dst:=1,dv:=pv,data:=y.enc}:LetD).src) (yt c<|({src:=g,dst:=1,dv:=pv,data:=y.enc}:LetD).dst) (({src:=g,dst:=1,dv:=pv,data:=y.enc}:LetD).dv) (({src:=g,dst:=1,dv:=pv,data:=y.enc}:LetD).data) y _ 0 p (zOB ae af ab) (by have:=zBd ae af ab;show y.enc.length≤_;omega) h av hl ax ((zJ4 O).trans al) ab ae b2 ay (by show -16≤g∧g≤ -1;omega) hk hA hq hm (fun r a0 a1 a2 a3 a4 hD=>(hW r a0 a1 a2 a3 a4 hD).1) (i.give [1] O V)<|i.rdVec 4 O [1] O O).mono ?_
  rintro _ w1 ⟨ap,a5,ad,b4,aq,ah,rfl,ai,a6,a7,u,j,a8,ar,a9,d,aa,hO⟩
  refine(?_:CL _ _ _ _ _ _ (Own w S [_,_,_,_,_,_,_,_,_,_,_])) w1<|i.qc [1] O hO
  refine zE [0,6,1,2,3,5,4] O V<|fun p i b=>zD 9 O za b<|zD 10 O (yG (vs:=[a5,Vi 0]) O O) b<|zD 11 O (yG (vs:=[a5,Vi 0]) O O) b<|zD 12 O yB b<|zD 13 O yB b<|zX<|(?_:C _ _ _ _ _ _ _ (Own w S [_,_,_,_,_,_,_,_,_,_,_])) _ i
  refine zB<|zC O<|zC O<|zC O<|zC O<|zG O O<|fun p i=>(zQl wb nb e1 e2 pb cb st nv dv ev km lv k cv ov es ad (({src:=g,dst:=1,dv:=pv,data:=y.enc}:LetD).dst) a5 ap g (⟨y.seq,false,0,aq,0,0⟩:TldD) ao p O (zLj j<|(congrArg EntA.index a8).trans (by rw[az])) qG (by rw[j];show 1≤100;decide) ((hW _ _ _ _ _ _ d).1.1) ((hW _ _ _ _ _ _ d).1.2) ((hW _ _ _ _ _ _ d).2) ag aw<|i.give [5,4,0,7,8,9,10,2] O V).mono ?_
  rintro _ w1 ⟨aj,b5,ac,rfl,ak,hO⟩
  refine(?_:CL _ _ _ _ _ _ (Own w S [_,_,_,_,_,_,_,_,_])) w1<|i.qc [5,4,0,7,8,9,10,2] O hO
  refine zF O<|zA<|zP<|zm (v:=Vi 0) O O<|fun p i=>⟨aj,b5,ad,ac,b4,aq,ah,O,ak,ai,a6,a7,(by have:=congrArg List.length u;simpa using this),(by rw[j];rfl),a9,d,aa,u,i.sel [3,4,5,6,2,8] O V⟩
 exact absurd (show(0:Int)<1 by decide) c2
theorem jh{α:Type}[Inhabited α]{l:List α}{k:Nat}{b:α}(h:k<l.length):zc (l.set k b) k=b:=by simp[zc,h]
def jl(cs:List CalD)(k:Nat)(t:TldD):List CalD:=
 (cs.set (cs.length - 1) ({(zc cs (cs.length - 1))with stop:=((k:Nat):Int)}:CalD)).set (cs.length - 1) ({(zc (cs.set (cs.length - 1) ({(zc cs (cs.length - 1))with stop:=((k:Nat):Int)}:CalD)) (cs.length - 1))with reply:=t.reply}:CalD)
theorem zJu(cs:List CalD)(x:CalD)(k:Nat)(t:TldD):jl (cs++[x]) k t=cs++[({x with stop:=((k:Nat):Int),reply:=t.reply}:CalD)]:=by
 have hl:(cs++[x]).length - 1=cs.length:=by simp
 have h1:∀ y:CalD,(cs++[x]).set cs.length y=cs++[y]:=fun y=>by simp
 have h2:∀ y:CalD,zc (cs++[y]) cs.length=y:=fun y=>jY qJ
 unfold jl
 rw[hl,h1,h2,h2]
 simp
theorem zRb{S:List Nat}(wb nb e1 e2 pb cb:Nat)(st:SetD)(nv dv ev km lv:Value)(k:Nat)(cv ov:Value)(es:List EntD)(cs:List CalD)(t:TldD)(os:List Int)(a:Nat)(j:Int)(w:World)(p:j=((a:Nat):Int)+1)(h:a<os.length∧os.length≤100)(b:os[a]?=some ((cs.length:Nat):Int))(q:1≤cs.length)(l:(zc cs (cs.length - 1)).look=false)(hl:cs.length≤1000)(c:Own w S [jL wb st nv dv ev pb cb (Vj k) cv ov lv km,Res.vec 41 21 cv cs.length (cs.flatMap CalD.cells),vI ov os] w):Rets Tryz.prog 53 #[pt wb,Vi j, .agg (TldD.cells t).toArray] w fun m d=>m= .tuple #[]∧Own w S [jL wb st nv dv ev pb cb (Vj k) cv ov lv km,Res.vec 41 21 cv (jl cs k t).length ((jl cs k t).flatMap CalD.cells),vI ov (os.set a 0)] d:=by
 refine zO Tryz.func53 O Tryz.ntmps53 c<|zB<|zj O O<|fun r=>zA<|zB<|zC O<|zV O O<|zI (o:=17) O O<|zJ 0 (v:=ov) O O O O<|zC O<|y9 O O (zt qG) O<|yL (pV 2 O) 1 a O O qG qG O<|zEQ (v:=ov) (off:=yr ov+a*1) (a*1+0) (cs:=(os.flatMap I1)) O qG (fun d e=>Vec.sl<|Own.holds e 2 _ O) (jn (sz:=1) (fun _=>O) b (i:=0) O) qF O<|y9 O O (zt qG) O<|zF O<|zA<|zB<|zC O<|zV O O<|zI (o:=17) O O<|zJ 0 (v:=ov) O O O O<|zC O<|y9 O O (zt qG) O<|yL (pV 2 O) 1 a O O qG qG O<|zK0 2 a 0 O (fun _=>O) O qG O O O qG<|zA<|zB<|zC O<|zV O O<|zI (o:=16) O O<|zJ 0 (v:=cv) O O O O<|zC O<|yL (pV 1 O) 21 (cs.length - 1) O O (by show((cs.length:Nat):Int) - 1=((cs.length - 1:Nat):Int);omega) qG O<|zF O<|zA<|zB<|zC O<|zC O<|zV O O<|zI (o:=15) O O<|zJ 0 (v:=Vj k) O O O O<|zV O O<|zI (o:=12) O O<|zSJ 1 21 (cs.length - 1) 12 ({(zc cs<|cs.length - 1)with stop:=((k:Nat):Int)}:CalD) (off:=yr cv+(cs.length - 1)*21+12) O (fun _=>O) O qG O O O qG V qF<|zA<|zB<|zC O<|zV O O<|zI (o:=1) O O<|xC (pV 1 O) 21 (cs.length - 1) 1 (off:=yr cv+(cs.length - 1)*21+1) (fun _=>O) O qP qH O O<|zA<|jJ O (fun g=> ?_)<|fun g=> ?_
 ·exact absurd g (by show ¬(zc (cs.set (cs.length - 1) _) (cs.length - 1)).look=true;rw[jh qG];show ¬(zc cs (cs.length - 1)).look=true;rw[l];decide)
 refine ze<|zC O<|zI (o:=3) O O<|xI 3 (RepD.cells t.reply) O O (yj 3 O) qF O<|zV O O<|zI (o:=13) O O<|zR1 1 21 (cs.length - 1) 13 ({(zc (cs.set (cs.length - 1) ({(zc cs<|cs.length - 1)with stop:=((k:Nat):Int)}:CalD))<|cs.length - 1)with reply:=t.reply}:CalD) (RepD.cells t.reply) (off:=yr cv+(cs.length - 1)*21+13) O (fun _=>O) O qG O (by rfl) (zz O) qH (Nat.le_of_ble_eq_true O) (Nat.le_of_ble_eq_true O) qF<|zx<|yq O<|fun d n=>⟨O,n.sel [0,1,2] O V⟩
theorem zHS{S:List Nat}(wb nb e1 e2 pb cb:Nat)(st:SetD)(nv dv ev km lv:Value)(k:Nat)(cv ov:Value)(es:List EntD)(cs:List CalD)(os:List Int)(jj eb:Nat)(g:Int)(d:EgD)(c:CkD)(T:Int)(ps:PsD)(pv:Value)(t:TldD)(w:World)(hc:CkA c T)(a3:jj<2)(hb:eb=zc [e1,e2] jj)(a5:g= -(((jj:Nat):Int)+1))(ai:os.length=2)(a9:os[jj]?=some ((cs.length:Nat):Int))(aa:ps.l=[({src:=1,dst:=g,dv:=pv,data:=t.enc}:LetD)])(ht:t.wf)(ab:t.ok)(hr:t.retry=false)(ac:d.waits=true)(hs:t.seq=d.a.seq)(hx:d.a.wf)(ad:d.nodes≤16)(ae:1≤cs.length)(hk:(zc cs (cs.length - 1)).look=false)(hl:cs.length≤1000)(af:Own w S [jL wb st nv dv ev pb cb (Vj k) cv ov lv km,Res.vec 47 1 ev [e1,e2].length ([e1,e2].flatMap P1),Res.vec 41 21 cv cs.length (cs.flatMap CalD.cells),vI ov os,Res.eg eb d,Res.ck cb c,Res.ps pb ps] w):Rets Tryz.prog 24 #[pt wb, .agg #[Vi 3,Vi 0,Vi 0,Vi 0,Vn 0,Vn 0,Vn 0,Vn 0,Vi 0,ym,Vi 0,Vi 0,Vn 0]] w fun u_ n=>∃ (z:EgD) (a6:PsD),u_=Vi 0∧a6.l=[]∧z.waits=false∧zBU z d∧(z.a=d.a∧z.seq=d.seq)∧z.next=d.next∧z.kl=(if d.a.look=false∧t.reply.e=0 then xd d.a d.since d.rho t.reply d.kl d.kn else d.kl)∧z.now=max d.now (yt c g)∧z.kn=d.kn∧Own w S [jL wb st nv dv ev pb cb (Vj k) cv ov lv km,Res.vec 47 1 ev [e1,e2].length ([e1,e2].flatMap P1),Res.vec 41 21 cv (jl cs k t).length ((jl cs k t).flatMap CalD.cells),vI ov (os.set jj 0),Res.eg eb z,Res.ck cb c,Res.ps pb a6] n:=by
 refine zO Tryz.func24 O Tryz.ntmps24 af<|zB<|zj O O<|fun b3=>zF O<|zA<|zK<|zd [0,1,2,3,4,5,7] O V qF<|fun n h m=>zD 0 O za m<|zD 1 O (zY O) m<|zD 2 O (zL (o:=13) O) m<|zD 3 O (zZ 0 (v:=pt pb) O O O) m<|zD 4 O (zL (o:=1) O) m<|zD 5 O (zZ 6 (v:=Vi 0) O O O) m<|zM 6 O h<|zG O O<|fun n h=>(zI5 pb ps ({src:=1,dst:=g,dv:=pv,data:=t.enc}:LetD) n aa<|h.give [6] O V).mono ?_
 rintro _ w1 ⟨a7,rfl,a4,hO⟩
 refine(?_:CL _ _ _ _ _ _ (Own w S [_,_,_,_,_,_,_,_,_])) w1<|h.qc [6] O hO
 refine zE [0,1,2,3,4,5,6] O V<|fun n h m=>zD 7 O za m<|zD 8 O (yG (vs:=[Vi (({src:=1,dst:=g,dv:=pv,data:=t.enc}:LetD).src),Vi (({src:=1,dst:=g,dv:=pv,data:=t.enc}:LetD).dst),({src:=1,dst:=g,dv:=pv,data:=t.enc}:LetD).dv,Vi 0]) O O) m<|zD 9 O (yG (vs:=[Vi (({src:=1,dst:=g,dv:=pv,data:=t.enc}:LetD).src),Vi (({src:=1,dst:=g,dv:=pv,data:=t.enc}:LetD).dst),({src:=1,dst:=g,dv:=pv,data:=t.enc}:LetD).dv,Vi 0]) O O) m<|zD 10 O (yG (vs:=[Vi (({src:=1,dst:=g,dv:=pv,data:=t.enc}:LetD).src),Vi (({src:=1,dst:=g,dv:=pv,data:=t.enc}:LetD).dst),({src:=1,dst:=g,dv:=pv,data:=t.enc}:LetD).dv,Vi 0]) O O) m<|zD 11 O (yG (vs:=[Vi (({src:=1,dst:=g,dv:=pv,data:=t.enc}:LetD).src),Vi (({src:=1,dst:=g,dv:=pv,data:=t.enc}:LetD).dst),({src:=1,dst:=g,dv:=pv,data:=t.enc}:LetD).dv,Vi 0]) O O) m<|zD 12 O yB m<|zD 13 O yB m<|zD 14 O yB m<|zD 15 O yB m<|zX<|(?_:C _ _ _ _ _ _ _ (Own w S [_,_,_,_,_,_,_,_,_])) _ h
 refine zK<|zU<|zB<|zC O<|yf O O O<|zF O<|zA<|zT O (fun c1=> ?_)<|fun c1=> ?_
 ·exact absurd O c1
 refine zB<|zC O<|yY O O O<|zF O<|zA<|zT O (fun c2=> ?_)<|fun c2=> ?_
 ·exact absurd c2 (show ¬(0:Int)<g by omega)
 refine zN<|zB<|zC O<|zC O<|zFr O O<|zG O O<|fun n h=>(zFZ wb nb e1 e2 pb cb st nv dv ev km lv k cv ov es jj eb (jD .i64<|({src:=1,dst:=g,dv:=pv,data:=t.enc}:LetD).dst) n (zTw a5 a3) a3 hb<|h.give [0,1] O V).mono ?_
 rintro _ w1 ⟨rfl,hO⟩
 refine(?_:CL _ _ _ _ _ _ (Own w S [_,_,_,_,_,_,_,_,_])) w1<|h.qc [0,1] O hO
 refine zF O<|zA<|zK<|zB<|zC O<|yE qF O O O<|zA<|yW O<|zN<|zB<|zC O<|zC O<|zC O<|zC O<|zC O<|zG O O<|fun n h=>(zDQ wb nb e1 e2 pb cb st nv dv ev km lv k cv ov es _ _ (({src:=1,dst:=g,dv:=pv,data:=t.enc}:LetD).dst) n hc (by show g=1∨g= -1∨g= -2;omega)<|h.give [7,3] O V).mono ?_
 rintro _ w1 ⟨rfl,hO⟩
 refine(?_:CL _ _ _ _ _ _ (Own w S [_,_,_,_,_,_,_,_,_])) w1<|h.qc [7,3] O hO
 refine zG O O<|fun n h=>(zNG eb _ (({src:=1,dst:=g,dv:=pv,data:=t.enc}:LetD).src) (({src:=1,dst:=g,dv:=pv,data:=t.enc}:LetD).dv) (({src:=1,dst:=g,dv:=pv,data:=t.enc}:LetD).data) (yt c<|({src:=1,dst:=g,dv:=pv,data:=t.enc}:LetD).dst) n (by have:=zBe ht;show t.enc.length≤_;omega) hx ad (h.give [2] O V)<|h.rdVec 5 O [2] O O).mono ?_
 rintro _ w1 ⟨b,p,j,r,y,a1,a8,rfl,a0,s,u,i,hO⟩
 have q:=(a0).yes (zIN ht ab) ac hs hr
 have a2:=(s q.2.done)
 refine(?_:CL _ _ _ _ _ _ (Own w S [_,_,_,_,_,_,_,_,_,_])) w1<|h.qc [2] O hO
 refine zC O<|zb (vs:=[.bool b, .agg (TldD.cells p).toArray,Vi j,y,Vi r]) O O O<|zb (vs:=[.bool b, .agg (TldD.cells p).toArray,Vi j,y,Vi r]) O O O<|zb (vs:=[.bool b, .agg (TldD.cells p).toArray,Vi j,y,Vi r]) O O O<|zb (vs:=[.bool b, .agg (TldD.cells p).toArray,Vi j,y,Vi r]) O O O<|zb (vs:=[.bool b, .agg (TldD.cells p).toArray,Vi j,y,Vi r]) O O O<|zk (v:= .agg #[Vn 0,yC,Vi 0,Vn 0,Vn 0,Vi 0,Vn 0,Vi 0,Vi 0,Vi 0,Vi 0]) qF O<|fun aj=>zF O<|zf 10 O O O (zz O) O<|zF O<|zF O<|zF O<|zA<|zK<|zB<|zC O<|zLG (len:=a1.length) (cs:=(a1.map vb)) qF O O (fun n ag=>Vec.sl<|Own.holds ag 9 _ O) O<|zA<|jJ O (fun c4=> ?_)<|fun c4=> ?_
 ·exact absurd c4 (by rw[a2.1];exact Bool.false_ne_true)
 refine zN<|zK<|zB<|zC O<|zA<|jJ O (fun c5=> ?_)<|fun c5=> ?_
 ·refine ze<|zC O<|zC O<|zFr O O<|z6 (cs:=(TldD.cells p)) 10 O O O<|zG O O<|fun n h=>(zRb wb nb e1 e2 pb cb st nv dv ev km lv k cv ov es cs p os jj (jD .i64<|({src:=1,dst:=g,dv:=pv,data:=t.enc}:LetD).dst) n (zTw a5 a3) qG a9 ae hk hl<|h.give [6,0,1] O V).mono ?_
  rintro _ w1 ⟨rfl,hO⟩
  refine(?_:CL _ _ _ _ _ _ (Own w S [_,_,_,_,_,_,_,_,_,_,_])) w1<|h.qc [6,0,1] O hO
  refine zA<|zB<|zC O<|zF O<|zA<|zP<|zm (v:=Vi r) O O<|fun n h=>⟨a8,a7,(by rw[q.1]),a4,q.2.waits,u,i.1,a2.2,q.2.kl,q.2.now,i.2.2,(by have ah:=q.2.x;subst ah;exact h.sel [8,3,9,10,5,4,1] rfl V)⟩
 exact absurd (q.2.done.symm.trans c5) V
def zHL(aa:Int)(a:CmdD)(k:Nat):CalD:={edge:=aa,look:=false,lazy:=false,cmd:=a,key:=⟨#[]⟩,start:=((k:Nat):Int),stop:= -1,reply:=RepD.zero,cap:=0,lent:=0}
structure AskY(aa:Int)(jj:Nat)(cm:CmdD)(k:Nat)(d:EgD)(t:Int)(cs:List CalD)(os:List Int)(e:Int)(d':EgD)(pv:Value)(l':List LetD)(cs':List CalD)(os':List Int):Prop where
 good:¬ xW cm.op cm.key cm.amount cm.span
 e:e=0
 waits:d'.waits=true
 seq:d'.seq=d.seq+1
 a:d'.a=zCw (zBf cm.op cm.key cm.amount cm.span cm.lease) d.id (d.seq+1)
 l:l'=[⟨jD .i64 aa,1,pv,d'.a.enc⟩]
 cs:cs'=cs++[zHL aa d'.a.cmd k]
 os:os'=os.set jj ((cs'.length:Nat):Int)
 since:d'.since=max d.now t
 now:d'.now=max d.now t
 kl:d'.kl=if cm.op=4 then zAF cm.lease d.kl else d.kl
 kn:d'.kn=if cm.op=4 then yZ cm.lease true d.kn else d.kn
structure AskN(cm:CmdD)(d:EgD)(cs:List CalD)(os:List Int)(e:Int)(d':EgD)(l':List LetD)(cs':List CalD)(os':List Int):Prop where
 bad:xW cm.op cm.key cm.amount cm.span
 e:e=1
 waits:d'.waits=false
 seq:d'.seq=d.seq
 a:d'.a=d.a
 l:l'=[]
 cs:cs'=cs
 os:os'=os
section
variable {a:AskD} {since:Int} {waits:Bool} {op:Int} {key:ByteArray} {am sp:Int} {le:Nat} {t id:Int} {seq:Nat} {now:Int} {kl:List (Nat×TruD)} {kn:List (Nat×Bool)} {to nx e:Int} {a':AskD} {since':Int} {waits':Bool} {seq':Nat} {now':Int} {kl':List (Nat×TruD)} {kn':List (Nat×Bool)}
theorem CallK.bad(h:CallK a since waits op key am sp le t id seq now kl kn to nx e a' since' waits' seq' now' kl' kn')(b:waits=false)(c:e≠0):xW op key am sp∧e=1∧a'=a∧waits'=waits∧seq'=seq:=by
 rcases h with⟨h|h,q⟩|h
 · rw[b]at h;cases h.1
 · exact⟨h.2.1,h.2.2,q.1,q.2.2.1,q.2.2.2.1⟩
 exact absurd h.2.e c
theorem CallK.ok0(h:CallK a since waits op key am sp le t id seq now kl kn to nx e a' since' waits' seq' now' kl' kn')(b:e=0):CallY op key am sp le t id seq now kl kn to nx e a' since' waits' seq' now' kl' kn':=by
 rcases h with⟨h|h,q⟩|h
 · have:=h.2;omega
 · have:=h.2.2;omega
 exact h.2
end
theorem zJK{x:AskD}{id:Int}{seq:Nat}:(zCw x id seq).look=x.look:=by unfold zCw;split<;>rfl
theorem zJF{op:Int}{key:ByteArray}{am sp:Int}{le:Nat}{id:Int}{seq:Nat}(h:¬ xW op key am sp):(zCw (zBf op key am sp le) id seq).ok:=by
 rw[zBp rfl]
 unfold AskD.ok
 rw[if_neg (by show ¬(false=true);decide)]
 have h1:(1≤op∧op≤5)∧key.size≤64:=by
   unfold xW at h
   omega
 exact⟨⟨h1,O⟩,O⟩
theorem _root_.Go.Sc.wa{p:Prop}(h:p:=by simp[Value.cells,CalD.cells,CmdD.cells,RepD.cells]):p:=h
theorem _root_.Go.Sc.wc{p:Prop}(h:p:=by simp[cell1,CalD.cells,CmdD.cells,RepD.cells,vu]):p:=h
theorem zOd{S:List Nat}(wb nb e1 e2 pb cb:Nat)(st:SetD)(nv dv ev km lv:Value)(k:Nat)(cv ov:Value)(es:List EntD)(cs:List CalD)(os:List Int)(jj eb:Nat)(aa:Int)(d:EgD)(c:CkD)(T:Int)(ps:PsD)(cm:CmdD)(w:World)(hc:CkA c T)(a2:cm.wf)(a7:aa=((jj:Nat):Int)+1)(a8:jj<2)(hb:eb=zc [e1,e2] jj)(b0:os.length=2)(hs:d.seq≤1000)(aj:d.waits=false)(ad:ps.l=[])(hl:cs.length≤1000)(aw:d.next=1)(ax:Own w S [jL wb st nv dv ev pb cb (Vj k) cv ov lv km,Res.vec 47 1 ev [e1,e2].length ([e1,e2].flatMap P1),Res.vec 41 21 cv cs.length (cs.flatMap CalD.cells),vI ov os,Res.eg eb d,Res.ck cb c,Res.ps pb ps] w):Rets Tryz.prog 29 #[pt wb, .agg #[Vi 11,Vi aa,Vi 0,Vi 0,Vn 0,Vn 0,Vn cm.session,Vn cm.seq,Vi cm.op, .string cm.key,Vi cm.amount,Vi cm.span,Vn cm.lease]] w fun u_ n=>∃ (e:Int) (ak:Value) (d':EgD) (ae:PsD) (pv:Value) (a9:List CalD) (af:List Int),u_=Vi e∧zBU d' d∧d'.next=d.next∧(AskN cm d cs os e d' ae.l a9 af∨AskY aa jj cm k d (yt c (jD .i64 aa)) cs os e d' pv ae.l a9 af)∧Own w S [jL wb st nv dv ev pb cb (Vj k) ak ov lv km,Res.vec 47 1 ev [e1,e2].length ([e1,e2].flatMap P1),Res.vec 41 21 ak a9.length (a9.flatMap CalD.cells),vI ov af,Res.eg eb d',Res.ck cb c,Res.ps pb ae] n:=by
 have az:os[jj]?=some (zc os jj):=y8 qG
 refine zO Tryz.func29 O Tryz.ntmps29 ax<|zB<|zj O O<|fun b3=>zF O<|zA<|zB<|zC O<|zI (o:=1) O O<|zJ 7 (v:=Vi aa) O O O O<|zG O O<|fun n j=>(zFZ wb nb e1 e2 pb cb st nv dv ev km lv k cv ov es jj eb aa n a7 a8 hb<|j.give [0,1] O V).mono ?_
 rintro _ w1 ⟨rfl,hO⟩
 refine(?_:CL _ _ _ _ _ _ (Own w S [_,_,_,_,_,_,_,_])) w1<|j.qc [0,1] O hO
 refine zF O<|zA<|zK<|zB<|zC O<|yE qF O O O<|zA<|yW O<|zN<|zB<|zC O<|zI (o:=1) O O<|zJ 5 (v:=Vi aa) O O O O<|zFr O O<|zG O O<|fun n j=>(zDQ wb nb e1 e2 pb cb st nv dv ev km lv k cv ov es _ _ (jD .i64 aa) n hc ((zM5 a7 a8).1)<|j.give [6,3] O V).mono ?_
 rintro _ w1 ⟨rfl,hO⟩
 refine(?_:CL _ _ _ _ _ _ (Own w S [_,_,_,_,_,_,_,_])) w1<|j.qc [6,3] O hO
 refine zF O<|zA<|zK<|zd [0,1,2,3,4,5,6,7] O V qF<|fun n j h=>zD 0 O (zL (o:=1) O) h<|zD 1 O (zZ 4 (v:=Vi aa) O O O) h<|zD 2 O za h<|zD 3 O (zY O) h<|zD 4 O (zL (o:=15) O) h<|zD 5 O (zZ 6 (v:=Vj k) O O O) h<|zD 6 O (xY (cs:=[Vi aa,yC,yC,Vn 0,Vn 0,Vi 0,ym,Vi 0,Vi 0,Vn 0,ym,Vj k,Vi (-1),Vn 0,Vn 0,Vi 0,Vn 0,Vi 0,Vi 0,Vi 0,Vi 0]) (z:=[Vi 0,yC,yC,Vn 0,Vn 0,Vi 0,ym,Vi 0,Vi 0,Vn 0,ym,Vi 0,Vi 0,Vn 0,Vn 0,Vi 0,Vn 0,Vi 0,Vi 0,Vi 0,Vi 0]) (pl:=[(0,1),(1,1),(2,1),(3,7),(10,1),(11,1),(12,1),(13,6),(19,1),(20,1)]) qF qF) h<|zM 7 O j<|zk (v:= .agg #[Vi 0,yC,yC,Vn 0,Vn 0,Vi 0,ym,Vi 0,Vi 0,Vn 0,ym,Vi 0,Vi 0,Vn 0,Vn 0,Vi 0,Vn 0,Vi 0,Vi 0,Vi 0,Vi 0]) qF O<|fun b7=>(zE [0,1,2,3,4,5,6,7] O V<|fun n j h=>zM 8 O j<|zf 8 O O O (zz O) O<|zE [0,1,2,3,4,5,6,7] O V<|fun n j h=>zX<|(?_:C _ _ _ _ _ _ _ (Own w S [_,_,_,_,_,_,_,_,_])) _ j)
 refine zB<|zF O<|zA<|zB<|zF O<|zA<|zB<|zF O<|zA<|zK<|zB<|zI (o:=0) O O<|zJ 4 (v:=Vi 11) O O O O<|zA<|zU<|zB<|yT O O O<|zF O<|zA<|zT O (fun c2=> ?_)<|fun c2=> ?_
 ·exact absurd c2 V
 refine zB<|yT O O O<|zF O<|zA<|zT O (fun c3=> ?_)<|fun c3=> ?_
 ·exact absurd c3 V
 refine zB<|yT O O O<|zF O<|zA<|zT O (fun c4=> ?_)<|fun c4=> ?_
 ·exact absurd c4 V
 refine ze<|zC O<|zI (o:=6) O O<|zI (o:=2) O O<|zJ 4 (v:=Vi cm.op) O O O O<|zI (o:=6) O O<|zI (o:=3) O O<|zJ 4 (v:= .string cm.key) O O O O<|zI (o:=6) O O<|zI (o:=4) O O<|zJ 4 (v:=Vi cm.amount) O O O O<|zI (o:=6) O O<|zI (o:=5) O O<|zJ 4 (v:=Vi cm.span) O O O O<|zI (o:=6) O O<|zI (o:=6) O O<|zJ 4 (v:=Vn cm.lease) O O O O<|zC O<|zG O O<|fun n j=>(zPC eb _ cm.op cm.key cm.amount cm.span cm.lease (yt c<|jD .i64 aa) n a2.amount a2.span a2.lease qG<|j.give [2] O V).mono ?_
 rintro _ w1 ⟨x,a4,a5,a6,p,rfl,a0,a3,r,s,hO⟩
 refine(?_:CL _ _ _ _ _ _ (Own w S [_,_,_,_,_,_,_,_,_,_])) w1<|j.qc [2] O hO
 refine zC O<|zb (vs:=[Vi x,a5,Vi a4]) O O O<|zb (vs:=[Vi x,a5,Vi a4]) O O O<|zb (vs:=[Vi x,a5,Vi a4]) O O O<|zF O<|zF O<|zF O<|zA<|zK<|zB<|zC O<|yf O O O<|zA<|zT O (fun c5=> ?_)<|fun c5=> ?_
 ·have hN:=(a0).bad aj c5
  refine zB<|zC O<|zF O<|zA<|zP<|zm (v:=Vi a4) O O<|fun n j=>⟨a4,cv,p,ps,zW,cs,os,O,r,s, .inl ⟨hN.1,hN.2.1,hN.2.2.2.1.trans aj,hN.2.2.2.2,hN.2.2.1,ad,O,O⟩,j.sel [5,4,0,1,8,6,2] O V⟩
 have u:=(a0).ok0 qG
 have ag:p.a.ok:=by rw[u.a];exact zJF u.good
 have al:p.a.wf:=by rw[u.a];exact zFd (zBT a2.key a2.amount a2.span a2.lease) qG
 have am:p.a.look=false:=by rw[u.a,zJK];rfl
 have ab:a6=p.a.enc:=(a3 u.e).trans (if_pos ag)
 have an:x=1:=u.to.trans aw
 refine zN<|zK<|zB<|zC O<|zG O O<|fun n j=>(zHw eb p n<|j.give [8] O V).mono ?_
 rintro _ w1 ⟨m,ao,rfl,ac,hO⟩
 have hy:m=p.a:=(ac).trans (if_pos u.waits)
 refine(?_:CL _ _ _ _ _ _ (Own w S [_,_,_,_,_,_,_,_,_,_])) w1<|j.qc [8] O hO
 refine zC O<|zb (vs:=[.agg (AskD.cells m).toArray, .bool ao]) O O O<|zb (vs:=[.agg (AskD.cells m).toArray, .bool ao]) O O O<|zk (v:= .agg #[yC,yC,Vn 0,Vn 0,Vn 0,Vi 0,ym,Vi 0,Vi 0,Vn 0,ym]) qF O<|fun b1=>zf 10 O O O (zz O) O<|zF O<|zA<|zB<|zI (o:=1) O O<|zJ 7 (v:=yC) O O O O<|xo (b:=false) O O<|zA<|x0 O<|ze<|zI (o:=3) O O<|xI 10 (CmdD.cells m.cmd) O O (yj 3 O) qF O<|zI (o:=3) O O<|zf 7 O O O (zz O) O<|zA<|zK<|zd [1,2,3,4,6,7,8,9,10] O V qF<|fun n j h=>zD 0 O za h<|zD 1 O za h<|zD 2 O (zY O) h<|zD 3 O (zL (o:=16) O) h<|zD 5 O (xG 5 O O) h<|z7 4 6 ?_ ?_
 ·refine zo 4 O j<|zJ 5 (v:=cv) O O O O<|zE [1,2,3,4,6,7,8,9,10] O V<|fun n j h=>zM 6 O j<|yH (e:=41) (sz:=21) (vs:=[.agg #[Vi aa,yC,yC,Vn m.cmd.session,Vn m.cmd.seq,Vi m.cmd.op, .string m.cmd.key,Vi m.cmd.amount,Vi m.cmd.span,Vn m.cmd.lease,ym,Vj k,Vi (-1),Vn 0,Vn 0,Vi 0,Vn 0,Vi 0,Vi 0,Vi 0,Vi 0]]) qF O O wa V O<|fun ap=>zE [1,2,3,4,6,7,8,9,10] O V<|fun n j h=>zM 7 O j<|yF (g:=CalD.cells) (sz:=21) (by':=176) (fun _=>O) (l:=cs) (l':=[({edge:=aa,look:=false,lazy:=false,cmd:=m.cmd,key:=yEb,start:=((k:Nat):Int),stop:=(-1),reply:=({session:=0,seq:=0,e:=0,lease:=0,amount:=0,until_:=0}:RepD),cap:=0,lent:=0}:CalD)]) wc 0 qF O O O (fun n ah=>Vec.sl<|Own.holds ah 11 _ O) qH V O<|fun a1=>zE [1,2,3,4,6,7,8,9,10] O V<|fun n j h=>zD 8 O (zY O) h<|zD 9 O (zL (o:=16) O) h<|zM 10 O j<|zS (fun n j=>Own.qa (i:=0) O j)<|fun aq=>(zi 5 O O O aq O<|zE [1,2,3,4,6,7,8,9,10] O V<|fun n j h=>zX<|(?_:C _ _ _ _ _ _ _ (Own w S [_,_,_,_,_,_,_,_,_,_,_,_])) _ j)
  refine zK<|zd [0,2,3,4,5,6,7,8,9,10,11] O V qF<|fun n j h=>zD 0 O za h<|zD 1 O (zY O) h<|zD 2 O (zL (o:=17) O) h<|zD 3 O (zZ 4 (v:=ov) O O O) h<|zD 4 O (zL (o:=1) O) h<|zD 5 O (zZ 2 (v:=Vi aa) O O O) h<|zD 6 O (ji O O<|zt qG) h<|zD 7 O za h<|zD 8 O (zY O) h<|zD 9 O (zL (o:=16) O) h<|zD 10 O (zZ 4 (v:=a1) O O O) h<|zD 11 O (kY (pV 0 O) O) h<|zM 12 O j<|yL (pV 1 O) 1 jj O O qG qG O<|zE [0,2,3,4,5,6,7,8,9,10,11] O V<|fun n j h=>zM 13 O j<|zK0 1 jj (((cs++[({edge:=aa,look:=false,lazy:=false,cmd:=m.cmd,key:=yEb,start:=((k:Nat):Int),stop:=(-1),reply:=({session:=0,seq:=0,e:=0,lease:=0,amount:=0,until_:=0}:RepD),cap:=0,lent:=0}:CalD)]).length:Nat):Int) O (fun _=>O) O qG O O O qG<|zE [0,2,3,4,5,6,7,8,9,10,11] O V<|fun n j h=>zX<|(?_:C _ _ _ _ _ _ _ (Own w S [_,_,_,_,_,_,_,_,_,_,_,_])) _ j
  refine zK<|zd [0,1,3,4,5,6,7,8,9,10,11] O V qF<|fun n j h=>zD 0 O za h<|zD 1 O (zY O) h<|zD 2 O (zL (o:=13) O) h<|zD 3 O (zZ 4 (v:=pt pb) O O O) h<|zD 4 O (zL (o:=1) O) h<|zD 5 O (zZ 2 (v:=Vi aa) O O O) h<|zD 6 O (zGL O) h<|zD 7 O za h<|zD 8 O za h<|zM 9 O j<|zG O O<|fun n j=>((zFA pb ps (jD .i64 aa) x a5 a6 n ad (by rw[ab];exact zBd al ag am) (by have:=(zM5 a7 a8).2;omega) (j.give [2] O V)<|j.rdVec 8 O [2] O O).mono ?_)
  rintro _ w1 ⟨ar,ay,rfl,y,hO⟩
  refine(?_:CL _ _ _ _ _ _ (Own w S [_,_,_,_,_,_,_,_,_,_,_,_])) w1<|j.qc [2] O hO
  refine zE [0,1,2,3,4,5,6,7,8,9,10] O V<|fun n j h=>zX<|(?_:C _ _ _ _ _ _ _ (Own w S [_,_,_,_,_,_,_,_,_,_,_,_])) _ j
  refine zB<|zF O<|zA<|zP<|zm (v:=Vi 0) O O<|fun n j=>⟨0,a1,p,ar,ay,cs++[zHL aa p.a.cmd k],(os.set jj (((cs++[zHL aa p.a.cmd k]).length:Nat):Int)),O,r,s, .inr ⟨u.good,O,u.waits,u.seq,u.a,(by have q:=y;rw[an,ab]at q;exact q),O,O,u.since,u.now,u.kl,u.kn⟩,(by subst hy;exact j.sel [4,3,0,1,8,5,11] rfl V)⟩
 refine zo 6 O j<|yH (e:=41) (sz:=21) (vs:=[.agg #[Vi aa,yC,yC,Vn m.cmd.session,Vn m.cmd.seq,Vi m.cmd.op, .string m.cmd.key,Vi m.cmd.amount,Vi m.cmd.span,Vn m.cmd.lease,ym,Vj k,Vi (-1),Vn 0,Vn 0,Vi 0,Vn 0,Vi 0,Vi 0,Vi 0,Vi 0]]) qF O O wa V O<|fun ap=>zE [1,2,3,4,6,7,8,9,10] O V<|fun n j h=>zM 4 O j<|zJ 5 (v:=cv) O O O O<|zE [1,2,3,4,6,7,8,9,10] O V<|fun n j h=>zM 7 O j<|yF (g:=CalD.cells) (sz:=21) (by':=176) (fun _=>O) (l:=cs) (l':=[({edge:=aa,look:=false,lazy:=false,cmd:=m.cmd,key:=yEb,start:=((k:Nat):Int),stop:=(-1),reply:=({session:=0,seq:=0,e:=0,lease:=0,amount:=0,until_:=0}:RepD),cap:=0,lent:=0}:CalD)]) wc 0 qF O O O (fun n ah=>Vec.sl<|Own.holds ah 11 _ O) qH V O<|fun a1=>zE [1,2,3,4,6,7,8,9,10] O V<|fun n j h=>zD 8 O (zY O) h<|zD 9 O (zL (o:=16) O) h<|zM 10 O j<|zS (fun n j=>Own.qa (i:=0) O j)<|fun au=>(zi 5 O O O au O<|zE [1,2,3,4,6,7,8,9,10] O V<|fun n j h=>zX<|(?_:C _ _ _ _ _ _ _ (Own w S [_,_,_,_,_,_,_,_,_,_,_,_])) _ j)
 refine zK<|zd [0,2,3,4,5,6,7,8,9,10,11] O V qF<|fun n j h=>zD 0 O za h<|zD 1 O (zY O) h<|zD 2 O (zL (o:=17) O) h<|zD 3 O (zZ 4 (v:=ov) O O O) h<|zD 4 O (zL (o:=1) O) h<|zD 5 O (zZ 2 (v:=Vi aa) O O O) h<|zD 6 O (ji O O<|zt qG) h<|zD 7 O za h<|zD 8 O (zY O) h<|zD 9 O (zL (o:=16) O) h<|zD 10 O (zZ 4 (v:=a1) O O O) h<|zD 11 O (kY (pV 0 O) O) h<|zM 12 O j<|yL (pV 1 O) 1 jj O O qG qG O<|zE [0,2,3,4,5,6,7,8,9,10,11] O V<|fun n j h=>zM 13 O j<|zK0 1 jj (((cs++[({edge:=aa,look:=false,lazy:=false,cmd:=m.cmd,key:=yEb,start:=((k:Nat):Int),stop:=(-1),reply:=({session:=0,seq:=0,e:=0,lease:=0,amount:=0,until_:=0}:RepD),cap:=0,lent:=0}:CalD)]).length:Nat):Int) O (fun _=>O) O qG O O O qG<|zE [0,2,3,4,5,6,7,8,9,10,11] O V<|fun n j h=>zX<|(?_:C _ _ _ _ _ _ _ (Own w S [_,_,_,_,_,_,_,_,_,_,_,_])) _ j
 refine zK<|zd [0,1,3,4,5,6,7,8,9,10,11] O V qF<|fun n j h=>zD 0 O za h<|zD 1 O (zY O) h<|zD 2 O (zL (o:=13) O) h<|zD 3 O (zZ 4 (v:=pt pb) O O O) h<|zD 4 O (zL (o:=1) O) h<|zD 5 O (zZ 2 (v:=Vi aa) O O O) h<|zD 6 O (zGL O) h<|zD 7 O za h<|zD 8 O za h<|zM 9 O j<|zG O O<|fun n j=>((zFA pb ps (jD .i64 aa) x a5 a6 n ad (by rw[ab];exact zBd al ag am) (by have:=(zM5 a7 a8).2;omega) (j.give [2] O V)<|j.rdVec 8 O [2] O O).mono ?_)
 rintro _ w1 ⟨ai,av,rfl,y,hO⟩
 refine(?_:CL _ _ _ _ _ _ (Own w S [_,_,_,_,_,_,_,_,_,_,_,_])) w1<|j.qc [2] O hO
 refine zE [0,1,2,3,4,5,6,7,8,9,10] O V<|fun n j h=>zX<|(?_:C _ _ _ _ _ _ _ (Own w S [_,_,_,_,_,_,_,_,_,_,_,_])) _ j
 refine zB<|zF O<|zA<|zP<|zm (v:=Vi 0) O O<|fun n j=>⟨0,a1,p,ai,av,cs++[zHL aa p.a.cmd k],(os.set jj (((cs++[zHL aa p.a.cmd k]).length:Nat):Int)),O,r,s, .inr ⟨u.good,O,u.waits,u.seq,u.a,(by have q:=y;rw[an,ab]at q;exact q),O,O,u.since,u.now,u.kl,u.kn⟩,(by subst hy;exact j.sel [4,3,0,1,8,5,11] rfl V)⟩
end Go.Proofs.YthpoddkmhfhboaaGreatDoor
