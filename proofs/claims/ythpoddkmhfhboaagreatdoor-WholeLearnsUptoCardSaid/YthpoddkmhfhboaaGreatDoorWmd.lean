import Derived.Test.YthpoddkmhfhboaaGreatDoorWmb
set_option linter.unusedSimpArgs false
set_option linter.unusedVariables false
set_option maxRecDepth 10000
namespace Go.Proofs.YthpoddkmhfhboaaGreatDoor
open Go.Sc
theorem zGX{S:List Nat}(wb nb e1 e2 pb cb:Nat)(st:SetD)(nv dv ev km lv:Value)(k:Nat)(cv ov:Value)(n:NdD)(c:CkD)(N:Int)(y:Nat)(w:World)(a5:k≤1000)(z:st.nodes=1)(hc:CkA c 0)(hN:0≤N∧N≤1000)(a0:32≤yU N c.rho)(a1:y<18446744073709551616)(h:NdF n)(hA:ApOk n.s.a 0)(a2:Own w S [kq wb st nv dv ev pb cb (Vj k) cv ov lv km,Res.vec 60 1 nv [nb].length ([nb].flatMap P1),vE lv ([]:List EntD),Res.nd nb n,Res.ck cb c] w):Rets Tryz.prog 8 #[pt wb, .agg #[Vi 2,Vi 0,Vi 0,Vi N,Vn y,Vn 0,Vn 0,Vn 0,Vi 0,yk,Vi 0,Vi 0,Vn 0]] w fun u_ q=>∃ (l:Value) (b:NdD) (g:CkD) (e:EntD) (r:RepD),u_=Vi 0∧(CkA g 2000∧(g.rho=c.rho∧(c.t1+yU N c.rho≤g.t1∧g.t1≤c.t1+yu N c.rho)∧(c.e1+yU N c.rho≤g.e1∧g.e1≤c.e1+yu N c.rho)∧(c.e2+yU N c.rho≤g.e2∧g.e2≤c.e2+yu N c.rho)))∧(((((((b.fs=[e]∧e.toEntA=(⟨1,1,1,0,[]⟩:EntA))∧NdL b 6100 3)∧b.st=n.st)∧b.x.t.now=g.t1)∧b.s.idx=1)∧b.x.es.map EntD.toEntA=[(⟨1,1,1,0,[]⟩:EntA)])∧zA0 0 n.s.a.now n.s.a.cnt n.s.a.kb n.s.a.kl n.s.a.kr (⟨1,1,1,0,[]⟩:EntA) r false 0 b.s.idx b.s.a.now b.s.a.cnt b.s.a.kb b.s.a.kl b.s.a.kr)∧Own w S [kq wb st nv dv ev pb cb (Vj (k+1)) cv ov l km,Res.vec 60 1 nv [nb].length ([nb].flatMap P1),vE l (b.fs),Res.nd nb b,Res.ck cb g,sE b.fs] q:=by
 refine zO Tryz.func8 O Tryz.ntmps8 a2 (zB (zj O O (fun b3=>zF O (zA (zK (zB (zC O (yE qF O O O (zA (yW O (zN (zB (zC O (zV O O (zI (o:=15) O O (zJ 0 (v:=Vj k) O O O O (zr O O (zt qG) O (zV O O (zI (o:=15) O O (zi 0 O O O O O (zA (zK (zB (zI (o:=0) O O (zJ 5 (v:=Vi 2) O O O O (zA (zU (zB (yT O O O (zF O (zA (zT O (fun c2=> ?_) (fun c2=> ?_)))))))))))))))))))))))))))))))))
 ·exact absurd c2 V
 refine zB (yT O O O (zF O (zA (zT O (fun c3=> ?_) (fun c3=> ?_)))))
 ·refine zB (zC O (z6 5 O O O (zG O O (fun q u=>(zQN wb nb e1 e2 pb cb st nv dv ev km lv (k+1) cv ov [] _ _ N y q z hc hN a0 a1 h hA O (u.give [0,1,2,3,4] O V)).mono ?_))))
  rintro _ w1 ⟨i,m,p,a3,a4,rfl,j,d,hO⟩
  refine fq [0,1,2,3,4] O u hO (zF O (zA (zP (zm (v:=Vi 0) O O (fun q u=>⟨i,m,p,a3,a4,O,j,d,u.sel [1,2,3,4,5,6] O V⟩)))))
 exact absurd O c3
theorem zJS{S:List Nat}(wb nb e1 e2 pb cb:Nat)(st:SetD)(nv dv ev km lv:Value)(k:Nat)(cv ov:Value)(es:List EntD)(n:NdD)(c:CkD)(T N:Int)(y z q m:Nat)(w:World)(a5:k≤1000)(a0:st.nodes=1)(hc:CkA c T)(hT:T≤1000000)(hN:0≤N∧N≤1000)(a1:y<18446744073709551616)(h:NdM n z q m)(a2:z≤1000)(a3:n.x.es.length≤90)(i:c.t1=n.x.t.now)(hq:q+6200≤1048576)(hm:m+2<4000)(hl:es.length≤200)(a4:Own w S [kq wb st nv dv ev pb cb (Vj k) cv ov lv km,Res.vec 60 1 nv [nb].length ([nb].flatMap P1),vE lv es,Res.nd nb n,Res.ck cb c] w):Rets Tryz.prog 8 #[pt wb, .agg #[Vi 2,Vi 0,Vi 0,Vi N,Vn y,Vn 0,Vn 0,Vn 0,Vi 0,yk,Vi 0,Vi 0,Vn 0]] w fun u_ r=>∃ (j:Value) (d:NdD) (b:CkD),u_=Vi 0∧(CkA b (T+2000)∧(b.rho=c.rho∧(c.t1+yU N c.rho≤b.t1∧b.t1≤c.t1+yu N c.rho)∧(c.e1+yU N c.rho≤b.e1∧b.e1≤c.e1+yu N c.rho)∧(c.e2+yU N c.rho≤b.e2∧b.e2≤c.e2+yu N c.rho)))∧((((((NdM d (z+1) q m∧d.st=n.st)∧d.x.t.now=b.t1)∧d.x.es.map EntD.toEntA=n.x.es.map EntD.toEntA)∧d.x.t.qg=n.x.t.qg)∧d.fs=[])∧d.s=n.s)∧Own w S [kq wb st nv dv ev pb cb (Vj (k+1)) cv ov j km,Res.vec 60 1 nv [nb].length ([nb].flatMap P1),vE j es,Res.nd nb d,Res.ck cb b] r:=by
 refine zO Tryz.func8 O Tryz.ntmps8 a4 (zB (zj O O (fun b3=>zF O (zA (zK (zB (zC O (yE qF O O O (zA (yW O (zN (zB (zC O (zV O O (zI (o:=15) O O (zJ 0 (v:=Vj k) O O O O (zr O O (zt qG) O (zV O O (zI (o:=15) O O (zi 0 O O O O O (zA (zK (zB (zI (o:=0) O O (zJ 5 (v:=Vi 2) O O O O (zA (zU (zB (yT O O O (zF O (zA (zT O (fun c2=> ?_) (fun c2=> ?_)))))))))))))))))))))))))))))))))
 ·exact absurd c2 V
 refine zB (yT O O O (zF O (zA (zT O (fun c3=> ?_) (fun c3=> ?_)))))
 ·refine zB (zC O (z6 5 O O O (zG O O (fun r u=>(zRc wb nb e1 e2 pb cb st nv dv ev km lv (k+1) cv ov es _ _ _ N y _ _ _ r a0 hc hT hN a1 h a2 a3 i hq hm hl (u.give [0,1,2,3,4] O V)).mono ?_))))
  rintro _ w1 ⟨e,l,p,rfl,g,a,hO⟩
  refine fq [0,1,2,3,4] O u hO (zF O (zA (zP (zm (v:=Vi 0) O O (fun r u=>⟨e,l,p,O,g,a,u.sel [1,2,3,4,5] O V⟩)))))
 exact absurd O c3
theorem zJ1{S:List Nat}(wb nb e1 e2 pb cb:Nat)(st:SetD)(nv dv ev km lv:Value)(k:Nat)(cv ov:Value)(es:List EntD)(n:NdD)(c:CkD)(T:Int)(ps:PsD)(ed:Int)(pv:Value)(y:AskD)(lr:RepD)(kk q m:Nat)(w:World)(an:k≤1000)(hc:CkA c T)(ab:ps.l=[({src:=ed,dst:=1,dv:=pv,data:=y.enc}:LetD)])(h:NdM n kk q m)(ac:kk≤1000)(ad:ed= -1∨ed= -2)(hl:n.x.es.length≤90)(a7:c.t1=n.x.t.now)(ae:y.look=false)(af:y.wf)(ag:y.ok)(ah:y.cmd.session=u64 (-ed))(hk:yn n.s.a.kr y.cmd.session y.cmd.seq=(lr,8))(hA:ApOk n.s.a n.dl)(hq:q+6200≤1048576)(hm:m+2<4000)(ai:es.length=n.x.es.length)(hW:∀ r a2 cnt' kb' kl' kr',DoK (yY n.s.a.now n.dl) n.s.a.cnt n.s.a.kb (yO n.s.a.now n.dl n.s.a.kl) n.s.a.kr y.cmd r a2 cnt' kb' kl' kr'→(({seq:=y.seq,retry:=false,lead:=0,reply:=r,most:=0,lent:=0}:TldD).wf∧({seq:=y.seq,retry:=false,lead:=0,reply:=r,most:=0,lent:=0}:TldD).ok)∧r.session≠0)(aj:Own w S [kq wb st nv dv ev pb cb (Vj k) cv ov lv km,Res.vec 60 1 nv [nb].length ([nb].flatMap P1),vE lv es,Res.nd nb n,Res.ck cb c,Res.ps pb ps] w):Rets Tryz.prog 8 #[pt wb, .agg #[Vi 3,Vi 0,Vi 0,Vi 0,Vn 0,Vn 0,Vn 0,Vn 0,Vi 0,yk,Vi 0,Vi 0,Vn 0]] w fun u_ w'=>∃ (a8 ak:Value) (b:NdD) (a9:PsD) (e:EntD) (r:RepD) (a2:Bool),u_=Vi 0∧a9.l=[⟨1,ed,ak,({seq:=y.seq,retry:=false,lead:=0,reply:=r,most:=0,lent:=0}:TldD).enc⟩]∧NdM b kk (q+6100) (m+2)∧b.st=n.st∧b.x.t.now=n.x.t.now∧b.x.es.length=n.x.es.length+1∧b.fs.length=1∧b.s.a.now=yY n.s.a.now n.dl∧DoK (yY n.s.a.now n.dl) n.s.a.cnt n.s.a.kb (yO n.s.a.now n.dl n.s.a.kl) n.s.a.kr y.cmd r a2 b.s.a.cnt b.s.a.kb b.s.a.kl b.s.a.kr∧b.x.t.qg=n.x.t.now∧Own w S [kq wb st nv dv ev pb cb (Vj (k+1)) cv ov a8 km,Res.vec 60 1 nv [nb].length ([nb].flatMap P1),vE a8 (es++b.fs),Res.nd nb b,Res.ck cb c,Res.ps pb a9] w':=by
 refine zO Tryz.func8 O Tryz.ntmps8 aj (zB (zj O O (fun b3=>zF O (zA (zK (zB (zC O (yE qF O O O (zA (yW O (zN (zB (zC O (zV O O (zI (o:=15) O O (zJ 0 (v:=Vj k) O O O O (zr O O (zt qG) O (zV O O (zI (o:=15) O O (zi 0 O O O O O (zA (zK (zB (zI (o:=0) O O (zJ 6 (v:=Vi 3) O O O O (zA (zU (zB (yT O O O (zF O (zA (zT O (fun c2=> ?_) (fun c2=> ?_)))))))))))))))))))))))))))))))))
 ·exact absurd c2 V
 refine zB (yT O O O (zF O (zA (zT O (fun c3=> ?_) (fun c3=> ?_)))))
 ·exact absurd c3 V
 refine zB (yT O O O (zF O (zA (zT O (fun c4=> ?_) (fun c4=> ?_)))))
 ·refine zB (zC O (z6 6 O O O (zG O O (fun w' hw=>(zHr wb nb e1 e2 pb cb st nv dv ev km lv (k+1) cv ov es _ _ _ _ ed pv y _ kk _ _ w' hc ab h ac ad hl a7 ae af ag ah hk hA hq hm ai hW (hw.give [0,1,2,3,4,5] O V)).mono ?_))))
  rintro _ w1 ⟨a3,a4,aa,a5,al,am,a6,rfl,a1,d,g,i,j,p,u,z,a0,hO⟩
  refine fq [0,1,2,3,4,5] O hw hO (zF O (zA (zP (zm (v:=Vi 0) O O (fun w' hw=>⟨a3,a4,aa,a5,al,am,a6,O,a1,d,g,i,j,p,u,z,a0,hw.sel [1,2,3,4,5,6] O V⟩)))))
 exact absurd O c4
theorem zJP{S:List Nat}(wb nb e1 e2 pb cb:Nat)(st:SetD)(nv dv ev km lv:Value)(k:Nat)(cv ov:Value)(es:List EntD)(cs:List CalD)(os:List Int)(jj x:Nat)(y:Int)(d:EgD)(c:CkD)(T:Int)(ps:PsD)(pv:Value)(t:TldD)(w:World)(aa:k≤1000)(hc:CkA c T)(a0:jj<2)(hb:x=zc [e1,e2] jj)(a1:y= -(((jj:Nat):Int)+1))(a2:os.length=2)(a3:os[jj]?=some ((cs.length:Nat):Int))(a4:ps.l=[({src:=1,dst:=y,dv:=pv,data:=t.enc}:LetD)])(ht:t.wf)(a5:t.ok)(hr:t.retry=false)(a6:d.waits=true)(hs:t.seq=d.a.seq)(hx:d.a.wf)(a7:d.nodes≤16)(a8:1≤cs.length)(hk:(zc cs (cs.length - 1)).look=false)(hl:cs.length≤1000)(a9:Own w S [kq wb st nv dv ev pb cb (Vj k) cv ov lv km,Res.vec 47 1 ev [e1,e2].length ([e1,e2].flatMap P1),Res.vec 41 21 cv cs.length (cs.flatMap CalD.cells),vI ov os,Res.eg x d,Res.ck cb c,Res.ps pb ps] w):Rets Tryz.prog 8 #[pt wb, .agg #[Vi 3,Vi 0,Vi 0,Vi 0,Vn 0,Vn 0,Vn 0,Vn 0,Vi 0,yk,Vi 0,Vi 0,Vn 0]] w fun u_ z=>∃ (p:EgD) (s:PsD),u_=Vi 0∧s.l=[]∧p.waits=false∧zBV p d∧(p.a=d.a∧p.seq=d.seq)∧p.next=d.next∧p.kl=(if d.a.look=false∧t.reply.e=0 then xd d.a d.since d.rho t.reply d.kl d.kn else d.kl)∧p.now=max d.now (y9 c y)∧p.kn=d.kn∧Own w S [kq wb st nv dv ev pb cb (Vj (k+1)) cv ov lv km,Res.vec 47 1 ev [e1,e2].length ([e1,e2].flatMap P1),Res.vec 41 21 cv (jY cs (k+1) t).length ((jY cs (k+1) t).flatMap CalD.cells),vI ov (os.set jj 0),Res.eg x p,Res.ck cb c,Res.ps pb s] z:=by
 refine zO Tryz.func8 O Tryz.ntmps8 a9 (zB (zj O O (fun b3=>zF O (zA (zK (zB (zC O (yE qF O O O (zA (yW O (zN (zB (zC O (zV O O (zI (o:=15) O O (zJ 0 (v:=Vj k) O O O O (zr O O (zt qG) O (zV O O (zI (o:=15) O O (zi 0 O O O O O (zA (zK (zB (zI (o:=0) O O (zJ 7 (v:=Vi 3) O O O O (zA (zU (zB (yT O O O (zF O (zA (zT O (fun c2=> ?_) (fun c2=> ?_)))))))))))))))))))))))))))))))))
 ·exact absurd c2 V
 refine zB (yT O O O (zF O (zA (zT O (fun c3=> ?_) (fun c3=> ?_)))))
 ·exact absurd c3 V
 refine zB (yT O O O (zF O (zA (zT O (fun c4=> ?_) (fun c4=> ?_)))))
 ·refine zB (zC O (z6 7 O O O (zG O O (fun z hw=>(zGq wb nb e1 e2 pb cb st nv dv ev km lv (k+1) cv ov es cs os jj x y _ _ _ _ pv t z hc a0 hb a1 a2 a3 a4 ht a5 hr a6 hs hx a7 a8 hk hl (hw.give [0,1,2,3,4,5,6] O V)).mono ?_))))
  rintro _ w1 ⟨u,r,rfl,q,b,g,h,i,j,m,n,hO⟩
  refine fq [0,1,2,3,4,5,6] O hw hO (zF O (zA (zP (zm (v:=Vi 0) O O (fun z hw=>⟨u,r,O,q,b,g,h,i,j,m,n,hw.sel [1,2,3,4,5,6,7] O V⟩)))))
 exact absurd O c4
theorem zOA{S:List Nat}(wb nb e1 e2 pb cb:Nat)(st:SetD)(nv dv ev km lv:Value)(k:Nat)(cv ov:Value)(es:List EntD)(cs:List CalD)(os:List Int)(jj eb:Nat)(r:Int)(d:EgD)(c:CkD)(T:Int)(ps:PsD)(cm:CmdD)(w:World)(a9:k≤1000)(hc:CkA c T)(a1:cm.wf)(a2:r=((jj:Nat):Int)+1)(a3:jj<2)(hb:eb=zc [e1,e2] jj)(a4:os.length=2)(hs:d.seq≤1000)(a5:d.waits=false)(a6:ps.l=[])(hl:cs.length≤1000)(a7:d.next=1)(a8:Own w S [kq wb st nv dv ev pb cb (Vj k) cv ov lv km,Res.vec 47 1 ev [e1,e2].length ([e1,e2].flatMap P1),Res.vec 41 21 cv cs.length (cs.flatMap CalD.cells),vI ov os,Res.eg eb d,Res.ck cb c,Res.ps pb ps] w):Rets Tryz.prog 8 #[pt wb, .agg #[Vi 11,Vi r,Vi 0,Vi 0,Vn 0,Vn 0,Vn cm.session,Vn cm.seq,Vi cm.op, .string cm.key,Vi cm.amount,Vi cm.span,Vn cm.lease]] w fun u_ w'=>∃ (e:Int) (s:Value) (u:EgD) (i:PsD) (pv:Value) (g:List CalD) (j:List Int),u_=Vi e∧zBV u d∧u.next=d.next∧(AskN cm d cs os e u i.l g j∨AskY r jj cm (k+1) d (y9 c (kQ .i64 r)) cs os e u pv i.l g j)∧Own w S [kq wb st nv dv ev pb cb (Vj (k+1)) s ov lv km,Res.vec 47 1 ev [e1,e2].length ([e1,e2].flatMap P1),Res.vec 41 21 s g.length (g.flatMap CalD.cells),vI ov j,Res.eg eb u,Res.ck cb c,Res.ps pb i] w':=by
 refine zO Tryz.func8 O Tryz.ntmps8 a8 (zB (zj O O (fun b3=>zF O (zA (zK (zB (zC O (yE qF O O O (zA (yW O (zN (zB (zC O (zV O O (zI (o:=15) O O (zJ 0 (v:=Vj k) O O O O (zr O O (zt qG) O (zV O O (zI (o:=15) O O (zi 0 O O O O O (zA (zK (zB (zI (o:=0) O O (zJ 7 (v:=Vi 11) O O O O (zA (zU (zB (yT O O O (zF O (zA (zT O (fun c2=> ?_) (fun c2=> ?_)))))))))))))))))))))))))))))))))
 ·exact absurd c2 V
 refine zB (yT O O O (zF O (zA (zT O (fun c3=> ?_) (fun c3=> ?_)))))
 ·exact absurd c3 V
 refine zB (yT O O O (zF O (zA (zT O (fun c4=> ?_) (fun c4=> ?_)))))
 ·exact absurd c4 V
 refine zB (yT O O O (zF O (zA (zT O (fun c5=> ?_) (fun c5=> ?_)))))
 ·exact absurd c5 V
 refine zB (yT O O O (zF O (zA (zT O (fun c6=> ?_) (fun c6=> ?_)))))
 ·exact absurd c6 V
 refine zB (yT O O O (zF O (zA (zT O (fun c7=> ?_) (fun c7=> ?_)))))
 ·exact absurd c7 V
 refine zB (yT O O O (zF O (zA (zT O (fun c8=> ?_) (fun c8=> ?_)))))
 ·exact absurd c8 V
 refine zK (zB (yT O O O (zF O (zA (zT O (fun c9=> ?_) (fun c9=> ?_))))))
 ·refine zN (zT O (fun x=> ?_) (fun x=> ?_))
  ·refine zB (zC O (z6 7 O O O (zG O O (fun w' hw=>(zM3 wb nb e1 e2 pb cb st nv dv ev km lv (k+1) cv ov es cs os jj eb r _ _ _ _ _ w' hc a1 a2 a3 hb a4 hs a5 a6 hl a7 (hw.give [0,1,2,3,4,5,6] O V)).mono ?_))))
   rintro _ w1 ⟨y,m,z,n,a0,p,q,rfl,h,a,b,hO⟩
   refine fq [0,1,2,3,4,5,6] O hw hO (zF O (zA (zP (zm (v:=Vi y) O O (fun w' hw=>⟨y,m,z,n,a0,p,q,O,h,a,b,hw.sel [1,2,3,4,5,6,7] O V⟩)))))
  exact absurd O x
 exact absurd O c9
theorem zKv(v:Value)(l:List CalD)(w:World)(hl:l.length≤1000)(hv:Rd w [] (Res.sl v l.length (l.flatMap CalD.cells))):Rets Tryz.prog 31 #[v] w fun i b=>∃ (r:Value),i=r∧Own w [] [Res.vec 41 21 r l.length (l.flatMap CalD.cells)] b:=by
 refine zO Tryz.func31 O Tryz.ntmps31 (Own.start w) (zB (zF O (zA (zK (zB (zC O (zAr (len:=l.length) (cs:=(l.flatMap CalD.cells)) qF O O (fun b a=>Own.rd hv a) O (zA (k9 O (fun d=> ?_) (fun d=> ?_))))))))))
 ·refine zB (zF O (zA (zP (zm (v:=zW) O O (fun b c=>⟨.slice none 0 0,O,by obtain⟨_,j⟩:=Sl.isNil hv.φ d;rw[List.eq_nil_of_length_eq_zero j];exact zq c 41 21⟩)))))
 refine zN (zB (yG (e:=41) (sz:=21) (vs:=[]) qF O O wa V O (fun k=>zC O (yF (g:=CalD.cells) (sz:=21) (by':=176) (fun _=>O) (l:=[]) (l':=l) wc 0 qF O O O (fun b a=>Own.rd hv a) qH V O (fun h=>zF O (zA (zP (zm (v:=h) O O (fun b c=>⟨h,O,c⟩)))))))))
theorem zKX{S:List Nat}(wb nb e1 e2 pb cb:Nat)(st:SetD)(nv dv ev km lv:Value)(k:Nat)(cv ov:Value)(es:List EntD)(cs:List CalD)(w:World)(hl:cs.length≤1000)(d:Own w S [kq wb st nv dv ev pb cb (Vj k) cv ov lv km,Res.vec 41 21 cv cs.length (cs.flatMap CalD.cells)] w):Rets Tryz.prog 10 #[pt wb] w fun e b=>∃ (r:Value),e=r∧Own w S [kq wb st nv dv ev pb cb (Vj k) cv ov lv km,Res.vec 41 21 cv cs.length (cs.flatMap CalD.cells),Res.vec 41 21 r cs.length (cs.flatMap CalD.cells)] b:=by
 refine zO Tryz.func10 O Tryz.ntmps10 d (zB (zF O (zA (zK (zB (zC O (yE qF O O O (zA (yW O (zN (zB (zC O (zV O O (zI (o:=16) O O (zJ 0 (v:=cv) O O O O (zG O O (fun b c=>(zKv cv cs b qH (c.qj 1 O)).mono ?_)))))))))))))))))
 rintro a g ⟨_,rfl,h⟩
 refine(?_:CL _ _ _ _ _ _ (Own w S [_,_,_])) g (c.qb h)
 refine zF O (zA (zP (zm (v:=a) O O (fun b c=>⟨a,O,c⟩))))
theorem zQ7{S:List Nat}(wb nb e1 e2 pb cb:Nat)(st:SetD)(nv dv ev km lv:Value)(k:Nat)(cv ov:Value)(es:List EntD)(w:World)(hl:es.length≤1000)(y:∀ x∈es,x.data.length≤1000000)(p:Own w S [kq wb st nv dv ev pb cb (Vj k) cv ov lv km,vE lv es,sE es] w):Rets Tryz.prog 18 #[pt wb] w fun z c=>∃ (r:Value) (m:List EntD),z= .tuple #[r,Vi 0]∧m.length=es.length∧Own w S [kq wb st nv dv ev pb cb (Vj k) cv ov lv km,vE lv es,sE es,vE r m] c:=by
 refine zO Tryz.func18 O Tryz.ntmps18 p (zB (zF O (zF O (zA (zK (zB (zC O (yE qF O O O (zA (yW O (zN (zB (zF O (zA (zK (zB (zC O (zV O O (zI (o:=18) O O (zJ 0 (v:=lv) O O O O (zn (pV 1 O) O O (zC O (zA (zU (xP (fun(i:Nat) (r:Value) (a:List EntD)=>[(0,pt wb),(4,r),(12,lv),(13,Vj es.length),(14,Vj i)]) (fun(i:Nat) (r:Value) (a:List EntD)=>i≤es.length∧a.length=i) (fun(i:Nat) (r:Value) (a:List EntD)=>[kq wb st nv dv ev pb cb (Vj k) cv ov lv km,vE lv es,sE es,vE r a]) (fun(i:Nat) (r:Value) (a:List EntD)=>es.length - i) (fun c b=>⟨0,zW,[],⟨O,O,O,O,O,trivial⟩,⟨Nat.zero_le _,O⟩,(zq b 113 5)⟩) (fun i r a g q=>(zB (zw O O O (zA (zK (zT O (fun c2=> ?_) (fun c2=> ?_))))))))))))))))))))))))))))))))
 ·refine zN (zK (zU (zB (yL (pV 1 O) 5 i O O O qG O (jo (pV 1 O) 5 i (off:=yq lv+i*5) (fun _=>O) O O qG O (zk (v:= .agg #[Vn 0,Vn 0,Vi 0,Vi 0,zW]) qF O (fun b6=>(zS (fun c b=>Sl.cell1 (Rd.φ (EntD.rd.star0 2 O b _ (zy (l:=es) (j:=i) qG)).dv)) (fun n=>(zf 4 O O O (zH O (zH O (zH O (zH O (zH n zh))))) O (zA (zB (zI (o:=4) O O (zJ 4 (v:=(zc es i).dv) O O O O (zG O O (fun c b=>(y1 ((zc es i).dv) ((zc es i).data) c (by have:=y _ (zy (l:=es) (j:=i) qG);omega) (EntD.rd.star0 2 O b _ (zy qG)).dv).mono ?_))))))))))))))))
  rintro h w1 ⟨_,rfl,hO⟩
  refine(?_:CL _ _ _ _ _ _ (Own w S [_,_,_,_,_,_])) w1 (b.qb hO)
  refine zI (o:=4) O O (zS (fun c b=>Own.qa (i:=5) O b) (fun d=>(zi (cs:=(EntD.cells (zc es i))) 4 O O O d O (zA (ze (zC O (z6 4 O O O (yG (e:=113) (sz:=5) (vs:=[.agg #[Vn ((zc es i).index),Vn ((zc es i).term),Vi ((zc es i).kind),Vi ((zc es i).delta),h]]) qF O O qS V O (fun a0=>yF (g:=EntD.cells) (sz:=5) (by':=56) (fun _=>O) (l:=a) (l':=[({(zc es i)with dv:=h}:EntD)]) (all_cons ((zH O (zH O (zH O (zH O (zH d zh)))))) qJ) 3 qF O O O (fun c s=>Vec.sl (Own.holds s 6 _ O)) qH V O (fun u=>zF O (zA (ze (zr O O (zt qG) O (zC O (zx (fun c b=>⟨i+1,u,a++[({(zc es i)with dv:=h}:EntD)],⟨O,O,O,O,O,trivial⟩,⟨by omega,by rw[List.length_append,q.2];rfl⟩,b.sel [0,1,2,3] O V,qG⟩))))))))))))))))
 refine zu O (zK (zB (zC O (zV O O (zI (o:=19) O O (zJ 0 (v:=yC) O O O O (zA (yW O (zN (zB (zC O (zF O (zF O (zA (zP (yh (v:=r) (v':=Vi 0) O O O (fun c b=>⟨r,a,O,(by have:=q.1;have:=q.2;omega),b⟩)))))))))))))))))
theorem zPH(room:Int)(w:World)(l:room=1048576):Rets Tryz.prog 40 #[Vi room] w fun k g=>∃ (db fm h:Nat),k= .tuple #[pt db,Vi 0]∧Own w [] [Res.row db 174 [.map (some fm), .map (some h),zW,Vi room,Vi 0,yC],Res.mp Value.string FilD.val fm ([]:List (ByteArray×FilD)),Res.mp Value.string FilD.val h ([]:List (ByteArray×FilD))] g:=by
 refine zO Tryz.func40 O Tryz.ntmps40 (Own.start w) (zB (zF O (zF O (zA (zK (zB (zC O (zw O O O (zC O (yP (q:=room<0) 2 2 [8,7] (4194304<room) O O O O O O trivial O (fun a=> ?_) (fun i=> ?_)))))))))))
 ·refine zQ O (gF a) (zC O (zQ O (gF a) (yX O O O (z8 O (fun _ e=>e)))))
 refine zA (zT O (fun j=> ?_) (fun j=> ?_))
 ·exact absurd j qG
 refine zN (zB (xk (α:=FilD) Value.string FilD.val O O (fun b=>xk (α:=FilD) Value.string FilD.val O O (fun c=>zC O (yJ (cs:=[.map (some b), .map (some c),zW,Vi room,Vi 0,yC]) (z:=[.map none, .map none,zW,Vi 0,Vi 0,yC]) (pl:=[(0,1),(1,1),(2,1),(3,1),(4,1),(5,1)]) qF qF O (zj O O (fun d=>zF O (zF O (zA (zP (yh (v:=pt d) (v':=Vi 0) O O O (fun g e=>⟨d,b,c,O,e.sel [2,0,1] O V⟩))))))))))))
theorem zO5(room:Int)(w:World)(a:room=1048576):Rets Tryz.prog 40 #[Vi room] w fun b c=>∃ (db:Nat) (D:DskD) (kf:List (ByteArray×FilD)),b= .tuple #[pt db,Vi 0]∧DskCl D∧D.room=1048576∧kf.length=0∧Own w [] [Res.dk db D kf] c:=by
 refine(zPH room w a).mono ?_
 rintro _ g ⟨db,fm,d,rfl,e⟩
 have h1:=(zq (zq e 323 4) 323 4).qn
 exact⟨db,⟨fm, .map (some d),zW,[],room,0,false⟩,[],O,⟨⟨O,O,by show room≤4194304;omega,by show([]:List WriD).length≤1000;decide⟩,O⟩,a,O,(h1.qf [0,1,5,3] O V).sel [2] O V⟩
theorem zNt(a b rho:Int)(w:World)(d:a=1)(hb:b=2)(e:0≤rho∧rho≤500000):Rets Tryz.prog 38 #[Vi a,Vi b,Vi rho] w fun g h=>∃ (cb:Nat) (c:CkD),g= .tuple #[pt cb,Vi 0]∧CkA c 0∧c.rho=rho∧Own w [] [Res.ck cb c] h:=by
 subst d hb
 refine(zOc rho w e).mono ?_
 rintro _ l ⟨cb,c,rfl,i,j,m,n,o,k⟩
 exact⟨cb,c,O,i,j,k⟩
theorem zLD{S:List Nat}(id:Int)(db:Nat)(D:DskD)(kf:List (ByteArray×FilD))(st:SetD)(qd:Nat)(w:World)(a:id=1)(c:st=jp st.rho)(d:0≤st.rho∧st.rho≤500000)(e:DskCl D)(hl:kf.length=0)(g:D.room=1048576)(h:qd<18446744073709551616)(b:Own w S [Res.dk db D kf] w):Rets Tryz.prog 41 #[Vi id,pt db, .agg (SetD.cells st).toArray,Vi 0,Vn qd] w fun i j=>∃ (nb:Nat) (n:NdD),i= .tuple #[pt nb,Vi 0]∧NdF n∧n.st=st∧Own w S [Res.nd nb n] j:=by
 subst a
 exact zLo db D kf st qd w c d e hl g h b
def ndR(p:Nat×NdD):Res:=Res.nd p.1 p.2
def Res.nds(l:List (Nat×NdD)):Res:=Res.star (l.map ndR)
def egR(p:Nat×EgD):Res:=Res.eg p.1 p.2
def Res.egs(l:List (Nat×EgD)):Res:=Res.star (l.map egR)
def EgZ(d:EgD)(rho:Int):Prop:=((((d.nodes=1∧d.rho=rho)∧(d.waits=false∧d.seq=0))∧d.next=1)∧d.a=askZ)∧((d.kl=[]∧d.kn=[])∧d.now=0)
theorem zMs(st:SetD)(w:World)(a8:st=jp st.rho)(af:0≤st.rho∧st.rho≤500000):Rets Tryz.prog 17 #[.agg (SetD.cells st).toArray] w fun u_ d=>∃ (wb nb e1 e2 pb cb:Nat) (nv dv ev ov cv lv:Value) (m:Nat) (n:NdD) (d1 d2:EgD) (c:CkD) (ps:PsD),u_= .tuple #[pt wb,Vi 0]∧(NdF n∧n.st=st)∧(EgZ d1 st.rho∧d1.id=1)∧(EgZ d2 st.rho∧d2.id=2)∧(CkA c 0∧c.rho=st.rho)∧ps.l=[]∧Own w [] [Res.row wb 72 [Vi st.nodes,Vi st.voters,Vi st.edges,Vi st.rho,Vi st.base,Vi st.spread,Vi st.beat,Vi st.disk,Vi st.post,Vi st.keep,nv,dv,ev,pt pb,pt cb,Vj 0,cv,ov,lv,yC,zW, .map (some m)],Res.vec 60 1 nv [nb].length ([nb].flatMap P1),Res.vec 47 1 ev [e1,e2].length ([e1,e2].flatMap P1),vI ov [0,0],Res.nd nb n,Res.eg e1 d1,Res.eg e2 d2,Res.ck cb c,Res.ps pb ps,Res.vec 41 21 cv ([]:List CalD).length (([]:List CalD).flatMap CalD.cells),vE lv ([]:List EntD)] d:=by
 have am:st.nodes=1:=by rw[a8];rfl
 have av:st.edges=2:=by rw[a8];rfl
 have aw:st.disk=1048576:=by rw[a8];rfl
 have ba:st.post=400:=by rw[a8];rfl
 refine zO Tryz.func17 O Tryz.ntmps17 (Own.start w) (zB (zj O O (fun b1=>zF O (zF O (zA (zK (zB (z6 (cs:=(SetD.cells st)) 0 O O O (zG O O (fun d a=>(zEh st d qH qH).mono ?_))))))))))
 rintro _ w1 ⟨rfl,hO⟩
 refine O1 ?_ (a.qb hO)
 refine xp (b:=true) O O (zA (yW O (zN (zB (z6 (cs:=(SetD.cells st)) 0 O O O (xk (α:=Int) xn kc O O (fun a3=>yJ (cs:=[Vi st.nodes,Vi st.voters,Vi st.edges,Vi st.rho,Vi st.base,Vi st.spread,Vi st.beat,Vi st.disk,Vi st.post,Vi st.keep,zW,zW,zW, .pointer none, .pointer none,Vi 0,zW,zW,zW,yC,zW, .map (some a3)]) (z:=[Vi 0,Vi 0,Vi 0,Vi 0,Vi 0,Vi 0,Vi 0,Vi 0,Vi 0,Vi 0,zW,zW,zW, .pointer none, .pointer none,Vi 0,zW,zW,zW,yC,zW, .map none]) (pl:=[(0,10),(10,1),(11,1),(12,1),(13,1),(14,1),(15,1),(16,1),(17,1),(18,1),(19,1),(20,1),(21,1)]) qF qF O (zj O O (fun a4=>zF O (zA (zB (zC O (zI (o:=0) O O (zJ 0 (v:=Vi st.nodes) O O O O (zI (o:=2) O O (zJ 0 (v:=Vi st.edges) O O O O (zI (o:=3) O O (zJ 0 (v:=Vi st.rho) O O O O (zG O O (fun d a=>(zNt st.nodes st.edges st.rho d am av af).mono ?_))))))))))))))))))))
 rintro _ w1 ⟨k,ag,rfl,ah,a9,hO⟩
 refine(?_:CL _ _ _ _ _ _ (Own w [] [_,_,_,_])) w1 (a.qb hO)
 refine zC O (zb (vs:=[pt k,Vi 0]) O O O (zb (vs:=[pt k,Vi 0]) O O O (zV O O (zI (o:=14) O O (zi 2 O O O O O (zA (zB (zC O (zI (o:=8) O O (zJ 0 (v:=Vi st.post) O O O O (zG O O (fun d a=>(zQb st.post d qH).mono ?_))))))))))))
 rintro _ w1 ⟨r,ai,rfl,aj,hO⟩
 refine(?_:CL _ _ _ _ _ _ (Own w [] [_,_,_,_,_])) w1 (a.qb hO)
 refine zC O (zb (vs:=[pt r,Vi 0]) O O O (zb (vs:=[pt r,Vi 0]) O O O (zV O O (zI (o:=13) O O (zi 2 O O O O O (zA (zK (zB (zF O (zA (zU (zAy (fun(i:Nat) (nv dv:Value) (nl:List (Nat×NdD)) (dl:List Nat)=>[(1,pt b1),(4,pt a4),(5,Vj i)]) (fun(i:Nat) (nv dv:Value) (nl:List (Nat×NdD)) (dl:List Nat)=>((i=1∧nl=[])∨(i=2∧∃ b n,nl=[(b,n)]∧NdF n∧n.st=st))∧dl.length≤i) (fun(i:Nat) (nv dv:Value) (nl:List (Nat×NdD)) (dl:List Nat)=>[Res.row b1 24 (SetD.cells st),Res.mp xn kc a3 ([]:List (Nat×Int)),Res.row a4 72 [Vi st.nodes,Vi st.voters,Vi st.edges,Vi st.rho,Vi st.base,Vi st.spread,Vi st.beat,Vi st.disk,Vi st.post,Vi st.keep,nv,dv,zW,pt r,pt k,Vj 0,zW,zW,zW,yC,zW, .map (some a3)],Res.ck k ag,Res.ps r ai,Res.vec 60 1 nv (nl.map Prod.fst).length ((nl.map Prod.fst).flatMap P1),Res.vec 105 1 dv dl.length (dl.flatMap P1),Res.nds nl]) (fun(i:Nat) (nv dv:Value) (nl:List (Nat×NdD)) (dl:List Nat)=>2 - i) (fun d a=>⟨1,zW,zW,[],[],⟨O,O,O,trivial⟩,⟨.inl ⟨O,O⟩,Nat.zero_le _⟩,((zq (zq a 60 1) 105 1).qn)⟩) (fun i nv dv nl dl g hΦ=>(zK (zB (zC O (zI (o:=0) O O (zJ 0 (v:=Vi st.nodes) O O O O (yr O O O (zA (zT O (fun c2=> ?_) (fun c2=> ?_))))))))))))))))))))))
 ·have ac:i=1∧nl=[]:=by rcases hΦ.1 with q|⟨q,_⟩;exact q;omega
  have b7:nl.length≤1:=by rw[ac.2];decide
  refine zN (zK (zU (zB (zI (o:=7) O O (zJ 0 (v:=Vi st.disk) O O O O (zG O O (fun d a=>(zO5 st.disk d aw).mono ?_)))))))
  rintro _ w1 ⟨s,D6_,an,rfl,ak,aa,ab,hO⟩
  refine(?_:CL _ _ _ _ _ _ (Own w [] [_,_,_,_,_,_,_,_,_])) w1 (a.qb hO)
  refine zC O (zb (vs:=[pt s,Vi 0]) O O O (zb (vs:=[pt s,Vi 0]) O O O (zF O (zF O (zA (zB (zC O (zC O (z6 (cs:=(SetD.cells st)) 0 O O O (zC O (yi qF O (yy qG) O ?_ qF)))))))))))
  refine zG O O (fun d a=>(zLD ((i:Nat):Int) s D6_ an st i d qG a8 af ak ab aa qG (a.give [8] O V)).mono ?_)
  rintro _ w1 ⟨a1,ax,rfl,ad,a5,hO⟩
  refine fq [8] O a hO (zC O (zb (vs:=[pt a1,Vi 0]) O O O (zb (vs:=[pt a1,Vi 0]) O O O (zF O (zF O (zA (zB (zC O (zC O (zV O O (zI (o:=11) O O (zJ 2 (v:=dv) O O O O (zC O (yG (e:=105) (sz:=1) (vs:=[pt s]) qF O O qQ V O (fun bb=>yF (g:=P1) (sz:=1) (by':=8) (fun _=>O) (l:=dl) (l':=[s]) qR 6 qF O O O (fun d a2=>Vec.sl (Own.holds a2 9 _ O)) qH V O (fun ay=>zV O O (zI (o:=11) O O (zS (fun d a=>Own.qa (i:=6) O a) (fun ao=>(zi 2 O O O ao O (zA (ze (zC O (zC O (zV O O (zI (o:=10) O O (zJ 2 (v:=nv) O O O O (zC O (yG (e:=60) (sz:=1) (vs:=[pt a1]) qF O O qQ V O (fun bc=>yF (g:=P1) (sz:=1) (by':=8) (fun _=>O) (l:=(nl.map Prod.fst)) (l':=[a1]) qR 5 qF O O O (fun d a2=>Vec.sl (Own.holds a2 10 _ O)) qH V O (fun az=>zV O O (zI (o:=10) O O (zS (fun d a=>Own.qa (i:=5) O a) (fun ap=>(zi 2 O O O ap O (zA (ze (zC O (zr O O (zt qG) O (zF O (zx (fun d a=>⟨i+1,az,ay,[(a1,ax)],dl++[s],⟨O,O,O,trivial⟩,⟨.inr ⟨by omega,_,_,O,ad,a5⟩,by have:=hΦ.2;rw[List.length_append,List.length_singleton];omega⟩,(by have q:=ac.2;subst q;exact(a.qf [8] rfl V).sel [0,1,2,3,4,5,6,10] rfl V),qG⟩))))))))))))))))))))))))))))))))))))))))))
 have b0:∃ b n,nl=[(b,n)]∧NdF n∧n.st=st:=by rcases hΦ.1 with⟨q,_⟩|⟨_,q⟩;omega;exact q
 obtain⟨nb,n,ac,b2,b3⟩:=b0
 refine zu O (zK (zB (zF O (zA (zU (zAy (fun(j:Nat) (ev ov:Value) (el:List (Nat×EgD)) (os:List Int)=>[(1,pt b1),(4,pt a4),(10,Vj j)]) (fun(j:Nat) (ev ov:Value) (el:List (Nat×EgD)) (os:List Int)=>((j=1∧el=[]∧os=[])∨(j=2∧os=[0]∧∃ p,el=[p]∧EgZ p.2 st.rho∧p.2.id=1)∨(j=3∧os=[0,0]∧∃ p q,el=[p,q]∧(EgZ p.2 st.rho∧p.2.id=1)∧EgZ q.2 st.rho∧q.2.id=2))) (fun(j:Nat) (ev ov:Value) (el:List (Nat×EgD)) (os:List Int)=>[Res.row b1 24 (SetD.cells st),Res.mp xn kc a3 ([]:List (Nat×Int)),Res.row a4 72 [Vi st.nodes,Vi st.voters,Vi st.edges,Vi st.rho,Vi st.base,Vi st.spread,Vi st.beat,Vi st.disk,Vi st.post,Vi st.keep,nv,dv,ev,pt r,pt k,Vj 0,zW,ov,zW,yC,zW, .map (some a3)],Res.ck k ag,Res.ps r ai,Res.vec 60 1 nv (nl.map Prod.fst).length ((nl.map Prod.fst).flatMap P1),Res.vec 105 1 dv dl.length (dl.flatMap P1),Res.nds nl,Res.vec 47 1 ev (el.map Prod.fst).length ((el.map Prod.fst).flatMap P1),vI ov os,Res.egs el]) (fun(j:Nat) (ev ov:Value) (el:List (Nat×EgD)) (os:List Int)=>3 - j) (fun d a=>⟨1,zW,zW,[],[],⟨O,O,O,trivial⟩, .inl ⟨O,O,O⟩,((zq (zq a 47 1) 3 1).qn)⟩) (fun j ev ov el os g hΦ=>(zK (zB (zC O (zI (o:=2) O O (zJ 0 (v:=Vi st.edges) O O O O (yr O O O (zA (zT O (fun c3=> ?_) (fun c3=> ?_))))))))))))))))
 ·have bd:el.length≤3∧os.length≤3:=by rcases hΦ with⟨_,q2,q3⟩|⟨_,q2,p,q3,_⟩|⟨_,q2,p,q,q3,_⟩<;>rw[q2,q3]<;>exact⟨by simp,by simp⟩
  refine zN (zK (zU (zB (zC O (zI (o:=0) O O (zJ 0 (v:=Vi st.nodes) O O O O (zI (o:=3) O O (zJ 0 (v:=Vi st.rho) O O O O (zG O O (fun d a=>(zQ5 ((j:Nat):Int) st.nodes st.rho d qG qG qG).mono ?_))))))))))
  rintro _ w1 ⟨h,u,rfl,a0,y,a6,a7,hO⟩
  have ae:EgZ u st.rho∧u.id=((j:Nat):Int):=⟨⟨⟨⟨⟨⟨(a0).1.2.trans am,(a0).2⟩,(y).1⟩,(y).2⟩,a6⟩,a7⟩,(a0).1.1⟩
  refine(?_:CL _ _ _ _ _ _ (Own w [] [_,_,_,_,_,_,_,_,_,_,_,_])) w1 (a.qb hO)
  refine zC O (zb (vs:=[pt h,Vi 0]) O O O (zb (vs:=[pt h,Vi 0]) O O O (zF O (zF O (zA (zB (zC O (zC O (zV O O (zI (o:=12) O O (zJ 2 (v:=ev) O O O O (zC O (yG (e:=47) (sz:=1) (vs:=[pt h]) qF O O qQ V O (fun b8=>yF (g:=P1) (sz:=1) (by':=8) (fun _=>O) (l:=(el.map Prod.fst)) (l':=[h]) qR 8 qF O O O (fun d a2=>Vec.sl (Own.holds a2 12 _ O)) qH V O (fun v105=>zV O O (zI (o:=12) O O (zS (fun d a=>Own.qa (i:=8) O a) (fun aq=>(zi 2 O O O aq O (zA (ze (zC O (zC O (zV O O (zI (o:=17) O O (zJ 2 (v:=ov) O O O O (yG (e:=3) (sz:=1) (vs:=[Vi 0]) qF O O qL V O (fun b9=>yF (g:=I1) (sz:=1) (by':=8) (fun _=>O) (l:=os) (l':=[0]) qO 9 qF O O O (fun d a2=>Vec.sl (Own.holds a2 13 _ O)) qH V O (fun ar=>zV O O (zI (o:=17) O O (zS (fun d a=>Own.qa (i:=9) O a) (fun au=>(zi 2 O O O au O (zA (ze (zC O (zr O O (zt qG) O (zF O (zx (fun d a=>⟨j+1,v105,ar,el++[(h,u)],os++[0],⟨O,O,O,trivial⟩,(by rcases hΦ with⟨q1,q2,q3⟩|⟨q1,q2,p,q3,q4⟩|⟨q1,_⟩;exact .inr (.inl ⟨by omega,by rw[q3];rfl,(h,u),by rw[q2];rfl,ae.1,ae.2.trans qG⟩);exact .inr (.inr ⟨by omega,by rw[q2];rfl,p,(h,u),by rw[q3];rfl,q4,ae.1,ae.2.trans qG⟩);omega),(by rw[List.map_append];exact(a.qw (g:=egR) (x:=(h,u)) 10 11 V rfl rfl).sel [0,1,2,3,4,5,6,7,8,9,10] rfl V),qG⟩))))))))))))))))))))))))))))))))))))))))
 have al:os=[0,0]∧∃ p q,el=[p,q]∧(EgZ p.2 st.rho∧p.2.id=1)∧EgZ q.2 st.rho∧q.2.id=2:=by rcases hΦ with⟨q,_⟩|⟨q,_⟩|⟨_,q⟩;omega;omega;exact q
 obtain⟨b4,p,q,al,b5,b6⟩:=al
 refine zu O (zB (zC O (zF O (zF O (zA (zP (yh (v:=pt a4) (v':=Vi 0) O O O (fun d a=>⟨a4,nb,p.1,q.1,r,k,nv,dv,ev,ov,zW,zW,a3,n,p.2,q.2,ag,ai,O,⟨b2,b3⟩,b5,b6,⟨ah,a9⟩,aj,(by subst ac al b4;exact(((zq (zq a 41 21) 113 5).qi 7 rfl).qi 9 rfl).sel [2,5,7,8,11,12,13,3,4,9,10] rfl V)⟩))))))))
end Go.Proofs.YthpoddkmhfhboaaGreatDoor
