import Derived.Test.YthpoddkmhfhboaaGreatDoorWma
set_option linter.unusedSectionVars false
set_option linter.unusedSimpArgs false
set_option linter.unusedVariables false
set_option maxRecDepth 10000
namespace Go.Proofs.YthpoddkmhfhboaaGreatDoor
open Go.Sc
theorem zP6{x:AskD}(ho:x.ok)(hl:x.look=false):x.cmd.ok:=by
 unfold AskD.ok at ho
 rw[if_neg (by rw[hl];decide)]at ho
 exact ho.1.1
theorem zIY{aa:Int}{jj:Nat}(h:aa=((jj:Nat):Int)+1)(a:jj<2):(kQ .i64 aa=1∨kQ .i64 aa= -1∨kQ .i64 aa= -2)∧ -2≤kQ .i64 aa∧kQ .i64 aa≤ -1:=by
 rcases(show jj=0∨jj=1 by omega)with q|q<;>subst q<;>subst h<;>decide
theorem zSZ{ed:Int}{jj:Nat}(h:ed= -(((jj:Nat):Int)+1))(a:jj<2):kQ .i64 ed=((jj:Nat):Int)+1:=by
 rcases(show jj=0∨jj=1 by omega)with q|q<;>subst q<;>subst h<;>decide
theorem zHr{S:List Nat}(wb nb e1 e2 pb cb:Nat)(st:SetD)(nv dv ev km lv:Value)(k:Nat)(cv ov:Value)(es:List EntD)(n:NdD)(c:CkD)(T:Int)(ps:PsD)(g:Int)(pv:Value)(y:AskD)(lr:RepD)(kk q m:Nat)(w:World)(hc:CkA c T)(au:ps.l=[({src:=g,dst:=1,dv:=pv,data:=y.enc}:LetD)])(h:NdM n kk q m)(av:kk≤1000)(aw:g= -1∨g= -2)(hl:n.x.es.length≤90)(al:c.t1=n.x.t.now)(ab:y.look=false)(ae:y.wf)(af:y.ok)(ax:y.cmd.session=u64 (-g))(hk:yn n.s.a.kr y.cmd.session y.cmd.seq=(lr,8))(hA:ApOk n.s.a n.dl)(hq:q+6200≤1048576)(hm:m+2<4000)(ay:es.length=n.x.es.length)(hW:∀ r z cnt' kb' kl' kr',DoK (yY n.s.a.now n.dl) n.s.a.cnt n.s.a.kb (yO n.s.a.now n.dl n.s.a.kl) n.s.a.kr y.cmd r z cnt' kb' kl' kr'→(({seq:=y.seq,retry:=false,lead:=0,reply:=r,most:=0,lent:=0}:TldD).wf∧({seq:=y.seq,retry:=false,lead:=0,reply:=r,most:=0,lent:=0}:TldD).ok)∧r.session≠0)(az:Own w S [kq wb st nv dv ev pb cb (Vj k) cv ov lv km,Res.vec 60 1 nv [nb].length ([nb].flatMap P1),vE lv es,Res.nd nb n,Res.ck cb c,Res.ps pb ps] w):Rets Tryz.prog 24 #[pt wb, .agg #[Vi 3,Vi 0,Vi 0,Vi 0,Vn 0,Vn 0,Vn 0,Vn 0,Vi 0,yk,Vi 0,Vi 0,Vn 0]] w fun u_ p=>∃ (am b0:Value) (u:NdD) (an:PsD) (e:EntD) (r:RepD) (z:Bool),u_=Vi 0∧an.l=[⟨1,g,b0,({seq:=y.seq,retry:=false,lead:=0,reply:=r,most:=0,lent:=0}:TldD).enc⟩]∧NdM u kk (q+6100) (m+2)∧u.st=n.st∧u.x.t.now=n.x.t.now∧u.x.es.length=n.x.es.length+1∧u.fs.length=1∧u.s.a.now=yY n.s.a.now n.dl∧DoK (yY n.s.a.now n.dl) n.s.a.cnt n.s.a.kb (yO n.s.a.now n.dl n.s.a.kl) n.s.a.kr y.cmd r z u.s.a.cnt u.s.a.kb u.s.a.kl u.s.a.kr∧u.x.t.qg=n.x.t.now∧Own w S [kq wb st nv dv ev pb cb (Vj k) cv ov am km,Res.vec 60 1 nv [nb].length ([nb].flatMap P1),vE am (es++u.fs),Res.nd nb u,Res.ck cb c,Res.ps pb an] p:=by
 have b1:y.cmd.ok:=(zP6 af ab)
 refine zO Tryz.func24 O Tryz.ntmps24 az (zB (zj O O (fun b3=>zF O (zA (zK (zd [0,1,2,3,4,6] O V qF (fun p i b=>zD 0 O za b (zD 1 O (zY O) b (zD 2 O (zL (o:=13) O) b (zD 3 O (zZ 0 (v:=pt pb) O O O) b (zD 4 O (zL (o:=1) O) b (zD 5 O (zZ 5 (v:=Vi 0) O O O) b (zM 6 O i (zG O O (fun p i=>(zIg pb ps ({src:=g,dst:=1,dv:=pv,data:=y.enc}:LetD) p au (i.give [5] O V)).mono ?_)))))))))))))))
 rintro _ w1 ⟨ao,rfl,ag,hO⟩
 refine fq [5] O i hO (zE [0,1,2,3,4,5] O V (fun p i b=>zD 7 O za b (zD 8 O (yH (vs:=[Vi (({src:=g,dst:=1,dv:=pv,data:=y.enc}:LetD).src),Vi (({src:=g,dst:=1,dv:=pv,data:=y.enc}:LetD).dst),({src:=g,dst:=1,dv:=pv,data:=y.enc}:LetD).dv,Vi 0]) O O) b (zD 9 O (yH (vs:=[Vi (({src:=g,dst:=1,dv:=pv,data:=y.enc}:LetD).src),Vi (({src:=g,dst:=1,dv:=pv,data:=y.enc}:LetD).dst),({src:=g,dst:=1,dv:=pv,data:=y.enc}:LetD).dv,Vi 0]) O O) b (zD 10 O (yH (vs:=[Vi (({src:=g,dst:=1,dv:=pv,data:=y.enc}:LetD).src),Vi (({src:=g,dst:=1,dv:=pv,data:=y.enc}:LetD).dst),({src:=g,dst:=1,dv:=pv,data:=y.enc}:LetD).dv,Vi 0]) O O) b (zD 11 O (yH (vs:=[Vi (({src:=g,dst:=1,dv:=pv,data:=y.enc}:LetD).src),Vi (({src:=g,dst:=1,dv:=pv,data:=y.enc}:LetD).dst),({src:=g,dst:=1,dv:=pv,data:=y.enc}:LetD).dv,Vi 0]) O O) b (zD 12 O yA b (zD 13 O yA b (zD 14 O yA b (zD 15 O yA b (zX ((?_:C _ _ _ _ _ _ _ (Own w S [_,_,_,_,_,_,_,_])) _ i))))))))))))
 refine zK (zU (zB (zC O (ye O O O (zF O (zA (zT O (fun c1=> ?_) (fun c1=> ?_))))))))
 ·exact absurd O c1
 refine zB (zC O (yX O O O (zF O (zA (zT O (fun c2=> ?_) (fun c2=> ?_))))))
 ·refine zB (zC O (zC O (zG O O (fun p i=>(zC5 wb nb e1 e2 pb cb st nv dv ev km lv k cv ov es (({src:=g,dst:=1,dv:=pv,data:=y.enc}:LetD).dst) p O (i.give [0,1] O V)).mono ?_))))
  rintro _ w1 ⟨rfl,hO⟩
  refine fq [0,1] O i hO (zF O (zA (zK (zB (zC O (yE qF O O O (zA (yW O (zN (zK (zd [0,2,3,4,5,6,7] O V qF (fun p i b=>zD 0 O za b (zD 1 O za b (zD 2 O za b (zD 3 O za b (zD 4 O za b (zD 6 O (zL (o:=4) O) b (zD 7 O (zZ 2 (v:=Vn 0) O O O) b (zM 5 O i (zG O O (fun p i=>(zDd wb nb e1 e2 pb cb st nv dv ev km lv k cv ov es _ _ (({src:=g,dst:=1,dv:=pv,data:=y.enc}:LetD).dst) p hc (.inl O) (i.give [6,2] O V)).mono ?_)))))))))))))))))))))
  rintro _ w1 ⟨rfl,hO⟩
  refine fq [6,2] O i hO (zE [0,7,2,3,4,6,5] O V (fun p i b=>zM 8 O i (zG O O (fun p i=>(zMZ nb _ kk _ _ (({src:=g,dst:=1,dv:=pv,data:=y.enc}:LetD).src) (y9 c (({src:=g,dst:=1,dv:=pv,data:=y.enc}:LetD).dst)) (({src:=g,dst:=1,dv:=pv,data:=y.enc}:LetD).dv) (({src:=g,dst:=1,dv:=pv,data:=y.enc}:LetD).data) y _ 0 p (zO4 ae af ab) (by have:=zBT ae af ab;show y.enc.length≤_;omega) h av hl ((zJf O).trans al) ab ae b1 ax (by show -16≤g∧g≤ -1;omega) hk hA hq hm (fun r z a1 a2 a3 a4 hD=>(hW r z a1 a2 a3 a4 hD).1) (i.give [1] O V) (i.rdVec 4 O [1] O O)).mono ?_))))
  rintro _ w1 ⟨ap,a0,ad,b2,aq,ah,rfl,ai,a5,a6,a7,j,a8,ar,a9,d,aa,hO⟩
  refine fq [1] O i hO (zE [0,6,1,2,3,5,4] O V (fun p i b=>zD 9 O za b (zD 10 O (yH (vs:=[a0,Vi 0]) O O) b (zD 11 O (yH (vs:=[a0,Vi 0]) O O) b (zD 12 O yA b (zD 13 O yA b (zX ((?_:C _ _ _ _ _ _ _ (Own w S [_,_,_,_,_,_,_,_,_,_,_])) _ i))))))))
  refine zB (zC O (zC O (zC O (zC O (zG O O (fun p i=>(zRg wb nb e1 e2 pb cb st nv dv ev km lv k cv ov es ad (({src:=g,dst:=1,dv:=pv,data:=y.enc}:LetD).dst) a0 ap g (⟨y.seq,false,0,aq,0,0⟩:TldD) ao p O (zKQ j ((congrArg EntA.index a8).trans (by rw[ay]))) qG (by rw[j];show 1≤100;decide) ((hW _ _ _ _ _ _ d).1.1) ((hW _ _ _ _ _ _ d).1.2) ((hW _ _ _ _ _ _ d).2) ag aw (i.give [5,4,0,7,8,9,10,2] O V)).mono ?_))))))
  rintro _ w1 ⟨aj,b4,ac,rfl,ak,hO⟩
  refine fq [5,4,0,7,8,9,10,2] O i hO (zF O (zA (zP (zm (v:=Vi 0) O O (fun p i=>⟨aj,b4,ad,ac,b2,aq,ah,O,ak,ai,a5,a6,(by have:=congrArg List.length a7;simpa using this),(by rw[j];rfl),a9,d,aa,i.sel [3,4,5,6,2,8] O V⟩)))))
 exact absurd (show(0:Int)<1 by decide) c2
theorem jy{α:Type}[Inhabited α]{l:List α}{k:Nat}{b:α}(h:k<l.length):zc (l.set k b) k=b:=by simp[zc,h]
def jY(cs:List CalD)(k:Nat)(t:TldD):List CalD:=
 (cs.set (cs.length - 1) ({(zc cs (cs.length - 1))with stop:=((k:Nat):Int)}:CalD)).set (cs.length - 1) ({(zc (cs.set (cs.length - 1) ({(zc cs (cs.length - 1))with stop:=((k:Nat):Int)}:CalD)) (cs.length - 1))with reply:=t.reply}:CalD)
theorem zJY(cs:List CalD)(x:CalD)(k:Nat)(t:TldD):jY (cs++[x]) k t=cs++[({x with stop:=((k:Nat):Int),reply:=t.reply}:CalD)]:=by
 have hl:(cs++[x]).length - 1=cs.length:=by simp
 have h1:∀ y:CalD,(cs++[x]).set cs.length y=cs++[y]:=fun y=>by simp
 have h2:∀ y:CalD,zc (cs++[y]) cs.length=y:=fun y=>jU qJ
 unfold jY
 rw[hl,h1,h2,h2]
 simp
theorem zQJ{S:List Nat}(wb nb e1 e2 pb cb:Nat)(st:SetD)(nv dv ev km lv:Value)(k:Nat)(cv ov:Value)(es:List EntD)(cs:List CalD)(t:TldD)(os:List Int)(jj:Nat)(j:Int)(w:World)(n:j=((jj:Nat):Int)+1)(g:jj<os.length∧os.length≤100)(a:os[jj]?=some ((cs.length:Nat):Int))(p:1≤cs.length)(h:(zc cs (cs.length - 1)).look=false)(hl:cs.length≤1000)(b:Own w S [kq wb st nv dv ev pb cb (Vj k) cv ov lv km,Res.vec 41 21 cv cs.length (cs.flatMap CalD.cells),vI ov os] w):Rets Tryz.prog 53 #[pt wb,Vi j, .agg (TldD.cells t).toArray] w fun l c=>l= .tuple #[]∧Own w S [kq wb st nv dv ev pb cb (Vj k) cv ov lv km,Res.vec 41 21 cv (jY cs k t).length ((jY cs k t).flatMap CalD.cells),vI ov (os.set jj 0)] c:=by
 refine zO Tryz.func53 O Tryz.ntmps53 b (zB (zj O O (fun q=>zA (zB (zC O (zV O O (zI (o:=17) O O (zJ 0 (v:=ov) O O O O (zC O (y7 O O (zt qG) O (yL (pV 2 O) 1 jj O O qG qG O (zEX (v:=ov) (off:=yq ov+jj*1) (jj*1+0) (cs:=(os.flatMap I1)) O qG (fun c d=>Vec.sl (Own.holds d 2 _ O)) (je (sz:=1) (fun _=>O) a (i:=0) O) qF O (y7 O O (zt qG) O (zF O (zA (zB (zC O (zV O O (zI (o:=17) O O (zJ 0 (v:=ov) O O O O (zC O (y7 O O (zt qG) O (yL (pV 2 O) 1 jj O O qG qG O (zMx 2 jj 0 O (fun _=>O) O qG O O O qG (zA (zB (zC O (zV O O (zI (o:=16) O O (zJ 0 (v:=cv) O O O O (zC O (yL (pV 1 O) 21 (cs.length - 1) O O (by show((cs.length:Nat):Int) - 1=((cs.length - 1:Nat):Int);omega) qG O (zF O (zA (zB (zC O (zC O (zV O O (zI (o:=15) O O (zJ 0 (v:=Vj k) O O O O (zV O O (zI (o:=12) O O (zQ9 1 21 (cs.length - 1) 12 ({(zc cs (cs.length - 1))with stop:=((k:Nat):Int)}:CalD) (off:=yq cv+(cs.length - 1)*21+12) O (fun _=>O) O qG O O O qG V qF (zA (zB (zC O (zV O O (zI (o:=1) O O (xC (pV 1 O) 21 (cs.length - 1) 1 (off:=yq cv+(cs.length - 1)*21+1) (fun _=>O) O qP qH O O (zA (k9 O (fun e=> ?_) (fun e=> ?_))))))))))))))))))))))))))))))))))))))))))))))))))))
 ·exact absurd e (by show ¬(zc (cs.set (cs.length - 1) _) (cs.length - 1)).look=true;rw[jy qG];show ¬(zc cs (cs.length - 1)).look=true;rw[h];decide)
 refine ze (zC O (zI (o:=3) O O (xL 3 (RepD.cells t.reply) O O (yj 3 O) qF O (zV O O (zI (o:=13) O O (zQ2 1 21 (cs.length - 1) 13 ({(zc (cs.set (cs.length - 1) ({(zc cs (cs.length - 1))with stop:=((k:Nat):Int)}:CalD)) (cs.length - 1))with reply:=t.reply}:CalD) (RepD.cells t.reply) (off:=yq cv+(cs.length - 1)*21+13) O (fun _=>O) O qG O (by rfl) (zz O) qH (Nat.le_of_ble_eq_true O) (Nat.le_of_ble_eq_true O) qF (zx (yp O (fun c m=>⟨O,m.sel [0,1,2] O V⟩)))))))))
theorem zGq{S:List Nat}(wb nb e1 e2 pb cb:Nat)(st:SetD)(nv dv ev km lv:Value)(k:Nat)(cv ov:Value)(es:List EntD)(cs:List CalD)(os:List Int)(jj eb:Nat)(g:Int)(d:EgD)(c:CkD)(T:Int)(ps:PsD)(pv:Value)(t:TldD)(w:World)(hc:CkA c T)(a3:jj<2)(hb:eb=zc [e1,e2] jj)(a5:g= -(((jj:Nat):Int)+1))(ai:os.length=2)(a9:os[jj]?=some ((cs.length:Nat):Int))(aa:ps.l=[({src:=1,dst:=g,dv:=pv,data:=t.enc}:LetD)])(ht:t.wf)(ab:t.ok)(hr:t.retry=false)(ac:d.waits=true)(hs:t.seq=d.a.seq)(hx:d.a.wf)(ad:d.nodes≤16)(ae:1≤cs.length)(hk:(zc cs (cs.length - 1)).look=false)(hl:cs.length≤1000)(af:Own w S [kq wb st nv dv ev pb cb (Vj k) cv ov lv km,Res.vec 47 1 ev [e1,e2].length ([e1,e2].flatMap P1),Res.vec 41 21 cv cs.length (cs.flatMap CalD.cells),vI ov os,Res.eg eb d,Res.ck cb c,Res.ps pb ps] w):Rets Tryz.prog 24 #[pt wb, .agg #[Vi 3,Vi 0,Vi 0,Vi 0,Vn 0,Vn 0,Vn 0,Vn 0,Vi 0,yk,Vi 0,Vi 0,Vn 0]] w fun u_ n=>∃ (z:EgD) (a6:PsD),u_=Vi 0∧a6.l=[]∧z.waits=false∧zBV z d∧(z.a=d.a∧z.seq=d.seq)∧z.next=d.next∧z.kl=(if d.a.look=false∧t.reply.e=0 then xd d.a d.since d.rho t.reply d.kl d.kn else d.kl)∧z.now=max d.now (y9 c g)∧z.kn=d.kn∧Own w S [kq wb st nv dv ev pb cb (Vj k) cv ov lv km,Res.vec 47 1 ev [e1,e2].length ([e1,e2].flatMap P1),Res.vec 41 21 cv (jY cs k t).length ((jY cs k t).flatMap CalD.cells),vI ov (os.set jj 0),Res.eg eb z,Res.ck cb c,Res.ps pb a6] n:=by
 refine zO Tryz.func24 O Tryz.ntmps24 af (zB (zj O O (fun b3=>zF O (zA (zK (zd [0,1,2,3,4,5,7] O V qF (fun n h m=>zD 0 O za m (zD 1 O (zY O) m (zD 2 O (zL (o:=13) O) m (zD 3 O (zZ 0 (v:=pt pb) O O O) m (zD 4 O (zL (o:=1) O) m (zD 5 O (zZ 6 (v:=Vi 0) O O O) m (zM 6 O h (zG O O (fun n h=>(zIg pb ps ({src:=1,dst:=g,dv:=pv,data:=t.enc}:LetD) n aa (h.give [6] O V)).mono ?_)))))))))))))))
 rintro _ w1 ⟨a7,rfl,a4,hO⟩
 refine fq [6] O h hO (zE [0,1,2,3,4,5,6] O V (fun n h m=>zD 7 O za m (zD 8 O (yH (vs:=[Vi (({src:=1,dst:=g,dv:=pv,data:=t.enc}:LetD).src),Vi (({src:=1,dst:=g,dv:=pv,data:=t.enc}:LetD).dst),({src:=1,dst:=g,dv:=pv,data:=t.enc}:LetD).dv,Vi 0]) O O) m (zD 9 O (yH (vs:=[Vi (({src:=1,dst:=g,dv:=pv,data:=t.enc}:LetD).src),Vi (({src:=1,dst:=g,dv:=pv,data:=t.enc}:LetD).dst),({src:=1,dst:=g,dv:=pv,data:=t.enc}:LetD).dv,Vi 0]) O O) m (zD 10 O (yH (vs:=[Vi (({src:=1,dst:=g,dv:=pv,data:=t.enc}:LetD).src),Vi (({src:=1,dst:=g,dv:=pv,data:=t.enc}:LetD).dst),({src:=1,dst:=g,dv:=pv,data:=t.enc}:LetD).dv,Vi 0]) O O) m (zD 11 O (yH (vs:=[Vi (({src:=1,dst:=g,dv:=pv,data:=t.enc}:LetD).src),Vi (({src:=1,dst:=g,dv:=pv,data:=t.enc}:LetD).dst),({src:=1,dst:=g,dv:=pv,data:=t.enc}:LetD).dv,Vi 0]) O O) m (zD 12 O yA m (zD 13 O yA m (zD 14 O yA m (zD 15 O yA m (zX ((?_:C _ _ _ _ _ _ _ (Own w S [_,_,_,_,_,_,_,_,_])) _ h))))))))))))
 refine zK (zU (zB (zC O (ye O O O (zF O (zA (zT O (fun c1=> ?_) (fun c1=> ?_))))))))
 ·exact absurd O c1
 refine zB (zC O (yX O O O (zF O (zA (zT O (fun c2=> ?_) (fun c2=> ?_))))))
 ·exact absurd c2 (show ¬(0:Int)<g by omega)
 refine zN (zB (zC O (zC O (zEM O O (zG O O (fun n h=>(zEy wb nb e1 e2 pb cb st nv dv ev km lv k cv ov es jj eb (kQ .i64 (({src:=1,dst:=g,dv:=pv,data:=t.enc}:LetD).dst)) n (zSZ a5 a3) a3 hb (h.give [0,1] O V)).mono ?_))))))
 rintro _ w1 ⟨rfl,hO⟩
 refine fq [0,1] O h hO (zF O (zA (zK (zB (zC O (yE qF O O O (zA (yW O (zN (zB (zC O (zC O (zC O (zC O (zC O (zG O O (fun n h=>(zDd wb nb e1 e2 pb cb st nv dv ev km lv k cv ov es _ _ (({src:=1,dst:=g,dv:=pv,data:=t.enc}:LetD).dst) n hc (by show g=1∨g= -1∨g= -2;omega) (h.give [7,3] O V)).mono ?_)))))))))))))))))
 rintro _ w1 ⟨rfl,hO⟩
 refine fq [7,3] O h hO (zG O O (fun n h=>(zOl eb _ (({src:=1,dst:=g,dv:=pv,data:=t.enc}:LetD).src) (({src:=1,dst:=g,dv:=pv,data:=t.enc}:LetD).dv) (({src:=1,dst:=g,dv:=pv,data:=t.enc}:LetD).data) (y9 c (({src:=1,dst:=g,dv:=pv,data:=t.enc}:LetD).dst)) n (by have:=zBU ht;show t.enc.length≤_;omega) hx ad (h.give [2] O V) (h.rdVec 5 O [2] O O)).mono ?_))
 rintro _ w1 ⟨b,p,j,r,y,a1,a8,rfl,a0,s,u,i,hO⟩
 have q:=(a0).yes (zIb ht ab) ac hs hr
 have a2:=(s q.2.done)
 refine fq [2] O h hO (zC O (zb (vs:=[.bool b, .agg (TldD.cells p).toArray,Vi j,y,Vi r]) O O O (zb (vs:=[.bool b, .agg (TldD.cells p).toArray,Vi j,y,Vi r]) O O O (zb (vs:=[.bool b, .agg (TldD.cells p).toArray,Vi j,y,Vi r]) O O O (zb (vs:=[.bool b, .agg (TldD.cells p).toArray,Vi j,y,Vi r]) O O O (zb (vs:=[.bool b, .agg (TldD.cells p).toArray,Vi j,y,Vi r]) O O O (zk (v:= .agg #[Vn 0,yC,Vi 0,Vn 0,Vn 0,Vi 0,Vn 0,Vi 0,Vi 0,Vi 0,Vi 0]) qF O (fun aj=>zF O (zf 10 O O O (zz O) O (zF O (zF O (zF O (zA (zK (zB (zC O (zKc (len:=a1.length) (cs:=(a1.map vb)) qF O O (fun n ag=>Vec.sl (Own.holds ag 9 _ O)) O (zA (k9 O (fun c4=> ?_) (fun c4=> ?_))))))))))))))))))))
 ·exact absurd c4 (by rw[a2.1];exact Bool.false_ne_true)
 refine zN (zK (zB (zC O (zA (k9 O (fun c5=> ?_) (fun c5=> ?_))))))
 ·refine ze (zC O (zC O (zEM O O (z6 (cs:=(TldD.cells p)) 10 O O O (zG O O (fun n h=>(zQJ wb nb e1 e2 pb cb st nv dv ev km lv k cv ov es cs p os jj (kQ .i64 (({src:=1,dst:=g,dv:=pv,data:=t.enc}:LetD).dst)) n (zSZ a5 a3) qG a9 ae hk hl (h.give [6,0,1] O V)).mono ?_))))))
  rintro _ w1 ⟨rfl,hO⟩
  refine fq [6,0,1] O h hO (zA (zB (zC O (zF O (zA (zP (zm (v:=Vi r) O O (fun n h=>⟨a8,a7,(by rw[q.1]),a4,q.2.waits,u,i.1,a2.2,q.2.kl,q.2.now,i.2.2,(by have ah:=q.2.x;subst ah;exact h.sel [8,3,9,10,5,4,1] rfl V)⟩))))))))
 exact absurd (q.2.done.symm.trans c5) V
def zH3(aa:Int)(a:CmdD)(k:Nat):CalD:={edge:=aa,look:=false,lazy:=false,cmd:=a,key:=⟨#[]⟩,start:=((k:Nat):Int),stop:= -1,reply:=RepD.zero,cap:=0,lent:=0}
structure AskY(aa:Int)(jj:Nat)(cm:CmdD)(k:Nat)(d:EgD)(t:Int)(cs:List CalD)(os:List Int)(e:Int)(d':EgD)(pv:Value)(l':List LetD)(cs':List CalD)(os':List Int):Prop where
 good:¬ xD cm.op cm.key cm.amount cm.span
 e:e=0
 waits:d'.waits=true
 seq:d'.seq=d.seq+1
 a:d'.a=zCr (zB0 cm.op cm.key cm.amount cm.span cm.lease) d.id (d.seq+1)
 l:l'=[⟨kQ .i64 aa,1,pv,d'.a.enc⟩]
 cs:cs'=cs++[zH3 aa d'.a.cmd k]
 os:os'=os.set jj ((cs'.length:Nat):Int)
 since:d'.since=max d.now t
 now:d'.now=max d.now t
 kl:d'.kl=if cm.op=4 then zAD cm.lease d.kl else d.kl
 kn:d'.kn=if cm.op=4 then yZ cm.lease true d.kn else d.kn
structure AskN(cm:CmdD)(d:EgD)(cs:List CalD)(os:List Int)(e:Int)(d':EgD)(l':List LetD)(cs':List CalD)(os':List Int):Prop where
 bad:xD cm.op cm.key cm.amount cm.span
 e:e=1
 waits:d'.waits=false
 seq:d'.seq=d.seq
 a:d'.a=d.a
 l:l'=[]
 cs:cs'=cs
 os:os'=os
section
variable {a:AskD} {since:Int} {waits:Bool} {op:Int} {key:ByteArray} {am sp:Int} {le:Nat} {t id:Int} {seq:Nat} {now:Int} {kl:List (Nat×TruD)} {kn:List (Nat×Bool)} {to nx e:Int} {a':AskD} {since':Int} {waits':Bool} {seq':Nat} {now':Int} {kl':List (Nat×TruD)} {kn':List (Nat×Bool)}
theorem CallK.bad(h:CallK a since waits op key am sp le t id seq now kl kn to nx e a' since' waits' seq' now' kl' kn')(b:waits=false)(c:e≠0):xD op key am sp∧e=1∧a'=a∧waits'=waits∧seq'=seq:=by
 rcases h with⟨h|h,q⟩|h
 · rw[b]at h;cases h.1
 · exact⟨h.2.1,h.2.2,q.1,q.2.2.1,q.2.2.2.1⟩
 exact absurd h.2.e c
theorem CallK.ok0(h:CallK a since waits op key am sp le t id seq now kl kn to nx e a' since' waits' seq' now' kl' kn')(b:e=0):CallY op key am sp le t id seq now kl kn to nx e a' since' waits' seq' now' kl' kn':=by
 rcases h with⟨h|h,q⟩|h
 · have:=h.2;omega
 · have:=h.2.2;omega
 exact h.2
end
theorem zJA{x:AskD}{id:Int}{seq:Nat}:(zCr x id seq).look=x.look:=by unfold zCr;split<;>rfl
theorem zIX{op:Int}{key:ByteArray}{am sp:Int}{le:Nat}{id:Int}{seq:Nat}(h:¬ xD op key am sp):(zCr (zB0 op key am sp le) id seq).ok:=by
 rw[zCD rfl]
 unfold AskD.ok
 rw[if_neg (by show ¬(false=true);decide)]
 have h1:(1≤op∧op≤5)∧key.size≤64:=by
   unfold xD at h
   omega
 exact⟨⟨h1,O⟩,O⟩
theorem _root_.Go.Sc.wa{p:Prop}(h:p:=by simp[Value.cells,CalD.cells,CmdD.cells,RepD.cells]):p:=h
theorem _root_.Go.Sc.wc{p:Prop}(h:p:=by simp[cell1,CalD.cells,CmdD.cells,RepD.cells,vu]):p:=h
theorem zM3{S:List Nat}(wb nb e1 e2 pb cb:Nat)(st:SetD)(nv dv ev km lv:Value)(k:Nat)(cv ov:Value)(es:List EntD)(cs:List CalD)(os:List Int)(jj eb:Nat)(u:Int)(d:EgD)(c:CkD)(T:Int)(ps:PsD)(cm:CmdD)(w:World)(hc:CkA c T)(a3:cm.wf)(a8:u=((jj:Nat):Int)+1)(a9:jj<2)(hb:eb=zc [e1,e2] jj)(b1:os.length=2)(hs:d.seq≤1000)(ak:d.waits=false)(ae:ps.l=[])(hl:cs.length≤1000)(ax:d.next=1)(ay:Own w S [kq wb st nv dv ev pb cb (Vj k) cv ov lv km,Res.vec 47 1 ev [e1,e2].length ([e1,e2].flatMap P1),Res.vec 41 21 cv cs.length (cs.flatMap CalD.cells),vI ov os,Res.eg eb d,Res.ck cb c,Res.ps pb ps] w):Rets Tryz.prog 29 #[pt wb, .agg #[Vi 11,Vi u,Vi 0,Vi 0,Vn 0,Vn 0,Vn cm.session,Vn cm.seq,Vi cm.op, .string cm.key,Vi cm.amount,Vi cm.span,Vn cm.lease]] w fun u_ n=>∃ (e:Int) (al:Value) (d':EgD) (af:PsD) (pv:Value) (ab:List CalD) (ag:List Int),u_=Vi e∧zBV d' d∧d'.next=d.next∧(AskN cm d cs os e d' af.l ab ag∨AskY u jj cm k d (y9 c (kQ .i64 u)) cs os e d' pv af.l ab ag)∧Own w S [kq wb st nv dv ev pb cb (Vj k) al ov lv km,Res.vec 47 1 ev [e1,e2].length ([e1,e2].flatMap P1),Res.vec 41 21 al ab.length (ab.flatMap CalD.cells),vI ov ag,Res.eg eb d',Res.ck cb c,Res.ps pb af] n:=by
 have b0:os[jj]?=some (zc os jj):=y8 qG
 refine zO Tryz.func29 O Tryz.ntmps29 ay (zB (zj O O (fun b3=>zF O (zA (zB (zC O (zI (o:=1) O O (zJ 7 (v:=Vi u) O O O O (zG O O (fun n j=>(zEy wb nb e1 e2 pb cb st nv dv ev km lv k cv ov es jj eb u n a8 a9 hb (j.give [0,1] O V)).mono ?_))))))))))
 rintro _ w1 ⟨rfl,hO⟩
 refine fq [0,1] O j hO (zF O (zA (zK (zB (zC O (yE qF O O O (zA (yW O (zN (zB (zC O (zI (o:=1) O O (zJ 5 (v:=Vi u) O O O O (zEM O O (zG O O (fun n j=>(zDd wb nb e1 e2 pb cb st nv dv ev km lv k cv ov es _ _ (kQ .i64 u) n hc ((zIY a8 a9).1) (j.give [6,3] O V)).mono ?_))))))))))))))))
 rintro _ w1 ⟨rfl,hO⟩
 refine fq [6,3] O j hO (zF O (zA (zK (zd [0,1,2,3,4,5,6,7] O V qF (fun n j h=>zD 0 O (zL (o:=1) O) h (zD 1 O (zZ 4 (v:=Vi u) O O O) h (zD 2 O za h (zD 3 O (zY O) h (zD 4 O (zL (o:=15) O) h (zD 5 O (zZ 6 (v:=Vj k) O O O) h (zD 6 O (xX (cs:=[Vi u,yC,yC,Vn 0,Vn 0,Vi 0,yk,Vi 0,Vi 0,Vn 0,yk,Vj k,Vi (-1),Vn 0,Vn 0,Vi 0,Vn 0,Vi 0,Vi 0,Vi 0,Vi 0]) (z:=[Vi 0,yC,yC,Vn 0,Vn 0,Vi 0,yk,Vi 0,Vi 0,Vn 0,yk,Vi 0,Vi 0,Vn 0,Vn 0,Vi 0,Vn 0,Vi 0,Vi 0,Vi 0,Vi 0]) (pl:=[(0,1),(1,1),(2,1),(3,7),(10,1),(11,1),(12,1),(13,6),(19,1),(20,1)]) qF qF) h (zM 7 O j (zk (v:= .agg #[Vi 0,yC,yC,Vn 0,Vn 0,Vi 0,yk,Vi 0,Vi 0,Vn 0,yk,Vi 0,Vi 0,Vn 0,Vn 0,Vi 0,Vn 0,Vi 0,Vi 0,Vi 0,Vi 0]) qF O (fun b7=>(zE [0,1,2,3,4,5,6,7] O V (fun n j h=>zM 8 O j (zf 8 O O O (zz O) O (zE [0,1,2,3,4,5,6,7] O V (fun n j h=>zX ((?_:C _ _ _ _ _ _ _ (Own w S [_,_,_,_,_,_,_,_,_])) _ j))))))))))))))))))))
 refine zB (zF O (zA (zB (zF O (zA (zB (zF O (zA (zK (zB (zI (o:=0) O O (zJ 4 (v:=Vi 11) O O O O (zA (zU (zB (yT O O O (zF O (zA (zT O (fun c2=> ?_) (fun c2=> ?_))))))))))))))))))))
 ·exact absurd c2 V
 refine zB (yT O O O (zF O (zA (zT O (fun c3=> ?_) (fun c3=> ?_)))))
 ·exact absurd c3 V
 refine zB (yT O O O (zF O (zA (zT O (fun c4=> ?_) (fun c4=> ?_)))))
 ·exact absurd c4 V
 refine ze (zC O (zI (o:=6) O O (zI (o:=2) O O (zJ 4 (v:=Vi cm.op) O O O O (zI (o:=6) O O (zI (o:=3) O O (zJ 4 (v:= .string cm.key) O O O O (zI (o:=6) O O (zI (o:=4) O O (zJ 4 (v:=Vi cm.amount) O O O O (zI (o:=6) O O (zI (o:=5) O O (zJ 4 (v:=Vi cm.span) O O O O (zI (o:=6) O O (zI (o:=6) O O (zJ 4 (v:=Vn cm.lease) O O O O (zC O (zG O O (fun n j=>(zNX eb _ cm.op cm.key cm.amount cm.span cm.lease (y9 c (kQ .i64 u)) n a3.amount a3.span a3.lease qG (j.give [2] O V)).mono ?_)))))))))))))))))))
 rintro _ w1 ⟨y,a5,a6,a7,p,rfl,a1,a4,r,s,hO⟩
 refine fq [2] O j hO (zC O (zb (vs:=[Vi y,a6,Vi a5]) O O O (zb (vs:=[Vi y,a6,Vi a5]) O O O (zb (vs:=[Vi y,a6,Vi a5]) O O O (zF O (zF O (zF O (zA (zK (zB (zC O (ye O O O (zA (zT O (fun c5=> ?_) (fun c5=> ?_)))))))))))))))
 ·have hN:=(a1).bad ak c5
  refine zB (zC O (zF O (zA (zP (zm (v:=Vi a5) O O (fun n j=>⟨a5,cv,p,ps,zW,cs,os,O,r,s, .inl ⟨hN.1,hN.2.1,hN.2.2.2.1.trans ak,hN.2.2.2.2,hN.2.2.1,ae,O,O⟩,j.sel [5,4,0,1,8,6,2] O V⟩))))))
 have x:=(a1).ok0 qG
 have ah:p.a.ok:=by rw[x.a];exact zIX x.good
 have am:p.a.wf:=by rw[x.a];exact zFC (zBS a3.key a3.amount a3.span a3.lease) qG
 have an:p.a.look=false:=by rw[x.a,zJA];rfl
 have ac:a7=p.a.enc:=(a4 x.e).trans (if_pos ah)
 have ao:y=1:=x.to.trans ax
 refine zN (zK (zB (zC O (zG O O (fun n j=>(zHF eb p n (j.give [8] O V)).mono ?_)))))
 rintro _ w1 ⟨m,ap,rfl,ad,hO⟩
 have hy:m=p.a:=(ad).trans (if_pos x.waits)
 refine(?_:CL _ _ _ _ _ _ (Own w S [_,_,_,_,_,_,_,_,_,_])) w1 (j.qh [8] O hO)
 refine zC O (zb (vs:=[.agg (AskD.cells m).toArray, .bool ap]) O O O (zb (vs:=[.agg (AskD.cells m).toArray, .bool ap]) O O O (zk (v:= .agg #[yC,yC,Vn 0,Vn 0,Vn 0,Vi 0,yk,Vi 0,Vi 0,Vn 0,yk]) qF O (fun b2=>zf 10 O O O (zz O) O (zF O (zA (zB (zI (o:=1) O O (zJ 7 (v:=yC) O O O O (xp (b:=false) O O (zA (x0 O (ze (zI (o:=3) O O (xL 10 (CmdD.cells m.cmd) O O (yj 3 O) qF O (zI (o:=3) O O (zf 7 O O O (zz O) O (zA (zK (zd [1,2,3,4,6,7,8,9,10] O V qF (fun n j h=>zD 0 O za h (zD 1 O za h (zD 2 O (zY O) h (zD 3 O (zL (o:=16) O) h (zD 5 O (xI 5 O O) h (z7 4 6 ?_ ?_))))))))))))))))))))))))))
 ·refine zo 4 O j (zJ 5 (v:=cv) O O O O (zE [1,2,3,4,6,7,8,9,10] O V (fun n j h=>zM 6 O j (yG (e:=41) (sz:=21) (vs:=[.agg #[Vi u,yC,yC,Vn m.cmd.session,Vn m.cmd.seq,Vi m.cmd.op, .string m.cmd.key,Vi m.cmd.amount,Vi m.cmd.span,Vn m.cmd.lease,yk,Vj k,Vi (-1),Vn 0,Vn 0,Vi 0,Vn 0,Vi 0,Vi 0,Vi 0,Vi 0]]) qF O O wa V O (fun aq=>zE [1,2,3,4,6,7,8,9,10] O V (fun n j h=>zM 7 O j (yF (g:=CalD.cells) (sz:=21) (by':=176) (fun _=>O) (l:=cs) (l':=[({edge:=u,look:=false,lazy:=false,cmd:=m.cmd,key:=yEb,start:=((k:Nat):Int),stop:=(-1),reply:=({session:=0,seq:=0,e:=0,lease:=0,amount:=0,until_:=0}:RepD),cap:=0,lent:=0}:CalD)]) wc 0 qF O O O (fun n ai=>Vec.sl (Own.holds ai 11 _ O)) qH V O (fun a2=>zE [1,2,3,4,6,7,8,9,10] O V (fun n j h=>zD 8 O (zY O) h (zD 9 O (zL (o:=16) O) h (zM 10 O j (zS (fun n j=>Own.qa (i:=0) O j) (fun ar=>(zi 5 O O O ar O (zE [1,2,3,4,6,7,8,9,10] O V (fun n j h=>zX ((?_:C _ _ _ _ _ _ _ (Own w S [_,_,_,_,_,_,_,_,_,_,_,_])) _ j)))))))))))))))))
  refine zK (zd [0,2,3,4,5,6,7,8,9,10,11] O V qF (fun n j h=>zD 0 O za h (zD 1 O (zY O) h (zD 2 O (zL (o:=17) O) h (zD 3 O (zZ 4 (v:=ov) O O O) h (zD 4 O (zL (o:=1) O) h (zD 5 O (zZ 2 (v:=Vi u) O O O) h (zD 6 O (jX O O (zt qG)) h (zD 7 O za h (zD 8 O (zY O) h (zD 9 O (zL (o:=16) O) h (zD 10 O (zZ 4 (v:=a2) O O O) h (zD 11 O (kT (pV 0 O) O) h (zM 12 O j (yL (pV 1 O) 1 jj O O qG qG O (zE [0,2,3,4,5,6,7,8,9,10,11] O V (fun n j h=>zM 13 O j (zMx 1 jj (((cs++[({edge:=u,look:=false,lazy:=false,cmd:=m.cmd,key:=yEb,start:=((k:Nat):Int),stop:=(-1),reply:=({session:=0,seq:=0,e:=0,lease:=0,amount:=0,until_:=0}:RepD),cap:=0,lent:=0}:CalD)]).length:Nat):Int) O (fun _=>O) O qG O O O qG (zE [0,2,3,4,5,6,7,8,9,10,11] O V (fun n j h=>zX ((?_:C _ _ _ _ _ _ _ (Own w S [_,_,_,_,_,_,_,_,_,_,_,_])) _ j)))))))))))))))))))))
  refine zK (zd [0,1,3,4,5,6,7,8,9,10,11] O V qF (fun n j h=>zD 0 O za h (zD 1 O (zY O) h (zD 2 O (zL (o:=13) O) h (zD 3 O (zZ 4 (v:=pt pb) O O O) h (zD 4 O (zL (o:=1) O) h (zD 5 O (zZ 2 (v:=Vi u) O O O) h (zD 6 O (zFt O) h (zD 7 O za h (zD 8 O za h (zM 9 O j (zG O O (fun n j=>((zE9 pb ps (kQ .i64 u) y a6 a7 n ae (by rw[ac];exact zBT am ah an) (by have:=(zIY a8 a9).2;omega) (j.give [2] O V) (j.rdVec 8 O [2] O O)).mono ?_))))))))))))))
  rintro _ w1 ⟨au,az,rfl,a0,hO⟩
  refine(?_:CL _ _ _ _ _ _ (Own w S [_,_,_,_,_,_,_,_,_,_,_,_])) w1 (j.qh [2] O hO)
  refine zE [0,1,2,3,4,5,6,7,8,9,10] O V (fun n j h=>zX ((?_:C _ _ _ _ _ _ _ (Own w S [_,_,_,_,_,_,_,_,_,_,_,_])) _ j))
  refine zB (zF O (zA (zP (zm (v:=Vi 0) O O (fun n j=>⟨0,a2,p,au,az,cs++[zH3 u p.a.cmd k],(os.set jj (((cs++[zH3 u p.a.cmd k]).length:Nat):Int)),O,r,s, .inr ⟨x.good,O,x.waits,x.seq,x.a,(by have q:=a0;rw[ao,ac]at q;exact q),O,O,x.since,x.now,x.kl,x.kn⟩,(by subst hy;exact j.sel [4,3,0,1,8,5,11] rfl V)⟩)))))
 refine zo 6 O j (yG (e:=41) (sz:=21) (vs:=[.agg #[Vi u,yC,yC,Vn m.cmd.session,Vn m.cmd.seq,Vi m.cmd.op, .string m.cmd.key,Vi m.cmd.amount,Vi m.cmd.span,Vn m.cmd.lease,yk,Vj k,Vi (-1),Vn 0,Vn 0,Vi 0,Vn 0,Vi 0,Vi 0,Vi 0,Vi 0]]) qF O O wa V O (fun aq=>zE [1,2,3,4,6,7,8,9,10] O V (fun n j h=>zM 4 O j (zJ 5 (v:=cv) O O O O (zE [1,2,3,4,6,7,8,9,10] O V (fun n j h=>zM 7 O j (yF (g:=CalD.cells) (sz:=21) (by':=176) (fun _=>O) (l:=cs) (l':=[({edge:=u,look:=false,lazy:=false,cmd:=m.cmd,key:=yEb,start:=((k:Nat):Int),stop:=(-1),reply:=({session:=0,seq:=0,e:=0,lease:=0,amount:=0,until_:=0}:RepD),cap:=0,lent:=0}:CalD)]) wc 0 qF O O O (fun n ai=>Vec.sl (Own.holds ai 11 _ O)) qH V O (fun a2=>zE [1,2,3,4,6,7,8,9,10] O V (fun n j h=>zD 8 O (zY O) h (zD 9 O (zL (o:=16) O) h (zM 10 O j (zS (fun n j=>Own.qa (i:=0) O j) (fun av=>(zi 5 O O O av O (zE [1,2,3,4,6,7,8,9,10] O V (fun n j h=>zX ((?_:C _ _ _ _ _ _ _ (Own w S [_,_,_,_,_,_,_,_,_,_,_,_])) _ j)))))))))))))))))
 refine zK (zd [0,2,3,4,5,6,7,8,9,10,11] O V qF (fun n j h=>zD 0 O za h (zD 1 O (zY O) h (zD 2 O (zL (o:=17) O) h (zD 3 O (zZ 4 (v:=ov) O O O) h (zD 4 O (zL (o:=1) O) h (zD 5 O (zZ 2 (v:=Vi u) O O O) h (zD 6 O (jX O O (zt qG)) h (zD 7 O za h (zD 8 O (zY O) h (zD 9 O (zL (o:=16) O) h (zD 10 O (zZ 4 (v:=a2) O O O) h (zD 11 O (kT (pV 0 O) O) h (zM 12 O j (yL (pV 1 O) 1 jj O O qG qG O (zE [0,2,3,4,5,6,7,8,9,10,11] O V (fun n j h=>zM 13 O j (zMx 1 jj (((cs++[({edge:=u,look:=false,lazy:=false,cmd:=m.cmd,key:=yEb,start:=((k:Nat):Int),stop:=(-1),reply:=({session:=0,seq:=0,e:=0,lease:=0,amount:=0,until_:=0}:RepD),cap:=0,lent:=0}:CalD)]).length:Nat):Int) O (fun _=>O) O qG O O O qG (zE [0,2,3,4,5,6,7,8,9,10,11] O V (fun n j h=>zX ((?_:C _ _ _ _ _ _ _ (Own w S [_,_,_,_,_,_,_,_,_,_,_,_])) _ j)))))))))))))))))))))
 refine zK (zd [0,1,3,4,5,6,7,8,9,10,11] O V qF (fun n j h=>zD 0 O za h (zD 1 O (zY O) h (zD 2 O (zL (o:=13) O) h (zD 3 O (zZ 4 (v:=pt pb) O O O) h (zD 4 O (zL (o:=1) O) h (zD 5 O (zZ 2 (v:=Vi u) O O O) h (zD 6 O (zFt O) h (zD 7 O za h (zD 8 O za h (zM 9 O j (zG O O (fun n j=>((zE9 pb ps (kQ .i64 u) y a6 a7 n ae (by rw[ac];exact zBT am ah an) (by have:=(zIY a8 a9).2;omega) (j.give [2] O V) (j.rdVec 8 O [2] O O)).mono ?_))))))))))))))
 rintro _ w1 ⟨aj,aw,rfl,a0,hO⟩
 refine fq [2] O j hO (zE [0,1,2,3,4,5,6,7,8,9,10] O V (fun n j h=>zX ((?_:C _ _ _ _ _ _ _ (Own w S [_,_,_,_,_,_,_,_,_,_,_,_])) _ j)))
 refine zB (zF O (zA (zP (zm (v:=Vi 0) O O (fun n j=>⟨0,a2,p,aj,aw,cs++[zH3 u p.a.cmd k],(os.set jj (((cs++[zH3 u p.a.cmd k]).length:Nat):Int)),O,r,s, .inr ⟨x.good,O,x.waits,x.seq,x.a,(by have q:=a0;rw[ao,ac]at q;exact q),O,O,x.since,x.now,x.kl,x.kn⟩,(by subst hy;exact j.sel [4,3,0,1,8,5,11] rfl V)⟩)))))
end Go.Proofs.YthpoddkmhfhboaaGreatDoor
