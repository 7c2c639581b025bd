import Derived.Test.YthpoddkmhfhboaaGreatDoorWmb
set_option linter.unusedSimpArgs false
set_option linter.unusedVariables false
set_option maxRecDepth 10000
namespace Go.Proofs.YthpoddkmhfhboaaGreatDoor
open Go.Sc
theorem zGT{S:List Nat}(wb nb e1 e2 pb cb:Nat)(st:SetD)(nv dv ev km lv:Value)(k:Nat)(cv ov:Value)(n:NdD)(c:CkD)(N:Int)(y:Nat)(w:World)(a5:k≤1000)(z:st.nodes=1)(hc:CkA c 0)(hN:0≤N∧N≤1000)(a0:32≤yR N c.rho)(a1:y<18446744073709551616)(h:NdF n)(hA:ApOk n.s.a 0)(a2:Own w S [jL wb st nv dv ev pb cb (Vj k) cv ov lv km,Res.vec 60 1 nv [nb].length ([nb].flatMap P1),vE lv ([]:List EntD),Res.nd nb n,Res.ck cb c] w):Rets Tryz.prog 8 #[pt wb, .agg #[Vi 2,Vi 0,Vi 0,Vi N,Vn y,Vn 0,Vn 0,Vn 0,Vi 0,ym,Vi 0,Vi 0,Vn 0]] w fun u_ q=>∃ (l:Value) (b:NdD) (g:CkD) (e:EntD) (r:RepD),u_=Vi 0∧(CkA g 2000∧(g.rho=c.rho∧(c.t1+yR N c.rho≤g.t1∧g.t1≤c.t1+yo N c.rho)∧(c.e1+yR N c.rho≤g.e1∧g.e1≤c.e1+yo N c.rho)∧(c.e2+yR N c.rho≤g.e2∧g.e2≤c.e2+yo N c.rho)))∧(((((((b.fs=[e]∧e.toEntA=(⟨1,1,1,0,[]⟩:EntA))∧NdL b 6100 3)∧b.st=n.st)∧b.x.t.now=g.t1)∧b.s.idx=1)∧b.x.es.map EntD.toEntA=[(⟨1,1,1,0,[]⟩:EntA)])∧zA6 0 n.s.a.now n.s.a.cnt n.s.a.kb n.s.a.kl n.s.a.kr (⟨1,1,1,0,[]⟩:EntA) r false 0 b.s.idx b.s.a.now b.s.a.cnt b.s.a.kb b.s.a.kl b.s.a.kr)∧Own w S [jL wb st nv dv ev pb cb (Vj (k+1)) cv ov l km,Res.vec 60 1 nv [nb].length ([nb].flatMap P1),vE l (b.fs),Res.nd nb b,Res.ck cb g,sE b.fs] q:=by
 refine zO Tryz.func8 O Tryz.ntmps8 a2<|zB<|zj O O<|fun b3=>zF O<|zA<|zK<|zB<|zC O<|yE qF O O O<|zA<|yW O<|zN<|zB<|zC O<|zV O O<|zI (o:=15) O O<|zJ 0 (v:=Vj k) O O O O<|zr O O (zt qG) O<|zV O O<|zI (o:=15) O O<|zi 0 O O O O O<|zA<|zK<|zB<|zI (o:=0) O O<|zJ 5 (v:=Vi 2) O O O O<|zA<|zU<|zB<|yT O O O<|zF O<|zA<|zT O (fun c2=> ?_)<|fun c2=> ?_
 ·exact absurd c2 V
 refine zB<|yT O O O<|zF O<|zA<|zT O (fun c3=> ?_)<|fun c3=> ?_
 ·refine zB<|zC O<|z6 5 O O O<|zG O O<|fun q u=>(zSS wb nb e1 e2 pb cb st nv dv ev km lv (k+1) cv ov [] _ _ N y q z hc hN a0 a1 h hA O<|u.give [0,1,2,3,4] O V).mono ?_
  rintro _ w1 ⟨i,m,p,a3,a4,rfl,j,d,hO⟩
  refine(?_:CL _ _ _ _ _ _ (Own w S [_,_,_,_,_,_,_])) w1<|u.qc [0,1,2,3,4] O hO
  refine zF O<|zA<|zP<|zm (v:=Vi 0) O O<|fun q u=>⟨i,m,p,a3,a4,O,j,d,u.sel [1,2,3,4,5,6] O V⟩
 exact absurd O c3
theorem zJL{S:List Nat}(wb nb e1 e2 pb cb:Nat)(st:SetD)(nv dv ev km lv:Value)(k:Nat)(cv ov:Value)(es:List EntD)(n:NdD)(c:CkD)(T N:Int)(y z q m:Nat)(w:World)(a5:k≤1000)(a0:st.nodes=1)(hc:CkA c T)(hT:T≤1000000)(hN:0≤N∧N≤1000)(a1:y<18446744073709551616)(h:NdM n z q m)(a2:z≤1000)(a3:n.x.es.length≤200)(i:c.t1=n.x.t.now)(hq:q+6200≤1048576)(hm:m+2<4000)(hl:es.length≤200)(a4:Own w S [jL wb st nv dv ev pb cb (Vj k) cv ov lv km,Res.vec 60 1 nv [nb].length ([nb].flatMap P1),vE lv es,Res.nd nb n,Res.ck cb c] w):Rets Tryz.prog 8 #[pt wb, .agg #[Vi 2,Vi 0,Vi 0,Vi N,Vn y,Vn 0,Vn 0,Vn 0,Vi 0,ym,Vi 0,Vi 0,Vn 0]] w fun u_ r=>∃ (j:Value) (d:NdD) (b:CkD),u_=Vi 0∧(CkA b (T+2000)∧(b.rho=c.rho∧(c.t1+yR N c.rho≤b.t1∧b.t1≤c.t1+yo N c.rho)∧(c.e1+yR N c.rho≤b.e1∧b.e1≤c.e1+yo N c.rho)∧(c.e2+yR N c.rho≤b.e2∧b.e2≤c.e2+yo N c.rho)))∧((((((NdM d (z+1) q m∧d.st=n.st)∧d.x.t.now=b.t1)∧d.x.es.map EntD.toEntA=n.x.es.map EntD.toEntA)∧d.x.t.qh=n.x.t.qh)∧d.fs=[])∧d.s=n.s)∧Own w S [jL wb st nv dv ev pb cb (Vj (k+1)) cv ov j km,Res.vec 60 1 nv [nb].length ([nb].flatMap P1),vE j es,Res.nd nb d,Res.ck cb b] r:=by
 refine zO Tryz.func8 O Tryz.ntmps8 a4<|zB<|zj O O<|fun b3=>zF O<|zA<|zK<|zB<|zC O<|yE qF O O O<|zA<|yW O<|zN<|zB<|zC O<|zV O O<|zI (o:=15) O O<|zJ 0 (v:=Vj k) O O O O<|zr O O (zt qG) O<|zV O O<|zI (o:=15) O O<|zi 0 O O O O O<|zA<|zK<|zB<|zI (o:=0) O O<|zJ 5 (v:=Vi 2) O O O O<|zA<|zU<|zB<|yT O O O<|zF O<|zA<|zT O (fun c2=> ?_)<|fun c2=> ?_
 ·exact absurd c2 V
 refine zB<|yT O O O<|zF O<|zA<|zT O (fun c3=> ?_)<|fun c3=> ?_
 ·refine zB<|zC O<|z6 5 O O O<|zG O O<|fun r u=>(zQx wb nb e1 e2 pb cb st nv dv ev km lv (k+1) cv ov es _ _ _ N y _ _ _ r a0 hc hT hN a1 h a2 a3 i hq hm hl<|u.give [0,1,2,3,4] O V).mono ?_
  rintro _ w1 ⟨e,l,p,rfl,g,a,hO⟩
  refine(?_:CL _ _ _ _ _ _ (Own w S [_,_,_,_,_,_])) w1<|u.qc [0,1,2,3,4] O hO
  refine zF O<|zA<|zP<|zm (v:=Vi 0) O O<|fun r u=>⟨e,l,p,O,g,a,u.sel [1,2,3,4,5] O V⟩
 exact absurd O c3
theorem zJq{S:List Nat}(wb nb e1 e2 pb cb:Nat)(st:SetD)(nv dv ev km lv:Value)(k:Nat)(cv ov:Value)(es:List EntD)(n:NdD)(c:CkD)(T:Int)(ps:PsD)(ed:Int)(pv:Value)(y:AskD)(lr:RepD)(kk q m:Nat)(w:World)(ap:k≤1000)(hc:CkA c T)(ac:ps.l=[({src:=ed,dst:=1,dv:=pv,data:=y.enc}:LetD)])(h:NdM n kk q m)(ad:kk≤1000)(ae:ed= -1∨ed= -2)(hl:n.x.es.length≤200)(af:n.x.es.length≤97∨jP (n.x.es.map EntD.toEntA)<512)(a8:c.t1=n.x.t.now)(ag:y.look=false)(ah:y.wf)(ai:y.ok)(aj:y.cmd.session=u64 (-ed))(hk:yn n.s.a.kr y.cmd.session y.cmd.seq=(lr,8))(hA:ApOk n.s.a n.dl)(hq:q+6200≤1048576)(hm:m+2<4000)(ak:es.length=n.x.es.length)(hW:∀ r a3 cnt' kb' kl' kr',DoK (ye n.s.a.now n.dl) n.s.a.cnt n.s.a.kb (yX n.s.a.now n.dl n.s.a.kl) n.s.a.kr y.cmd r a3 cnt' kb' kl' kr'→(({seq:=y.seq,retry:=false,lead:=0,reply:=r,most:=0,lent:=0}:TldD).wf∧({seq:=y.seq,retry:=false,lead:=0,reply:=r,most:=0,lent:=0}:TldD).ok)∧r.session≠0)(al:Own w S [jL wb st nv dv ev pb cb (Vj k) cv ov lv km,Res.vec 60 1 nv [nb].length ([nb].flatMap P1),vE lv es,Res.nd nb n,Res.ck cb c,Res.ps pb ps] w):Rets Tryz.prog 8 #[pt wb, .agg #[Vi 3,Vi 0,Vi 0,Vi 0,Vn 0,Vn 0,Vn 0,Vn 0,Vi 0,ym,Vi 0,Vi 0,Vn 0]] w fun u_ w'=>∃ (a9 am:Value) (b:NdD) (aa:PsD) (e:EntD) (r:RepD) (a3:Bool),u_=Vi 0∧aa.l=[⟨1,ed,am,({seq:=y.seq,retry:=false,lead:=0,reply:=r,most:=0,lent:=0}:TldD).enc⟩]∧NdM b kk (q+6100) (m+2)∧b.st=n.st∧b.x.t.now=n.x.t.now∧b.x.es.length=n.x.es.length+1∧b.fs.length=1∧b.s.a.now=ye n.s.a.now n.dl∧DoK (ye n.s.a.now n.dl) n.s.a.cnt n.s.a.kb (yX n.s.a.now n.dl n.s.a.kl) n.s.a.kr y.cmd r a3 b.s.a.cnt b.s.a.kb b.s.a.kl b.s.a.kr∧b.x.t.qh=n.x.t.now∧b.x.es.map EntD.toEntA=n.x.es.map EntD.toEntA++[(⟨n.x.es.length+1,1,2,n.dl,y.cmd.enc⟩:EntA)]∧Own w S [jL wb st nv dv ev pb cb (Vj (k+1)) cv ov a9 km,Res.vec 60 1 nv [nb].length ([nb].flatMap P1),vE a9 (es++b.fs),Res.nd nb b,Res.ck cb c,Res.ps pb aa] w':=by
 refine zO Tryz.func8 O Tryz.ntmps8 al<|zB<|zj O O<|fun b3=>zF O<|zA<|zK<|zB<|zC O<|yE qF O O O<|zA<|yW O<|zN<|zB<|zC O<|zV O O<|zI (o:=15) O O<|zJ 0 (v:=Vj k) O O O O<|zr O O (zt qG) O<|zV O O<|zI (o:=15) O O<|zi 0 O O O O O<|zA<|zK<|zB<|zI (o:=0) O O<|zJ 6 (v:=Vi 3) O O O O<|zA<|zU<|zB<|yT O O O<|zF O<|zA<|zT O (fun c2=> ?_)<|fun c2=> ?_
 ·exact absurd c2 V
 refine zB<|yT O O O<|zF O<|zA<|zT O (fun c3=> ?_)<|fun c3=> ?_
 ·exact absurd c3 V
 refine zB<|yT O O O<|zF O<|zA<|zT O (fun c4=> ?_)<|fun c4=> ?_
 ·refine zB<|zC O<|z6 6 O O O<|zG O O<|fun w' hw=>(zH0 wb nb e1 e2 pb cb st nv dv ev km lv (k+1) cv ov es _ _ _ _ ed pv y _ kk _ _ w' hc ac h ad ae hl af a8 ag ah ai aj hk hA hq hm ak hW<|hw.give [0,1,2,3,4,5] O V).mono ?_
  rintro _ w1 ⟨a4,a5,ab,a6,an,ao,a7,rfl,a2,d,g,i,j,p,u,z,a0,a1,hO⟩
  refine(?_:CL _ _ _ _ _ _ (Own w S [_,_,_,_,_,_,_])) w1<|hw.qc [0,1,2,3,4,5] O hO
  refine zF O<|zA<|zP<|zm (v:=Vi 0) O O<|fun w' hw=>⟨a4,a5,ab,a6,an,ao,a7,O,a2,d,g,i,j,p,u,z,a0,a1,hw.sel [1,2,3,4,5,6] O V⟩
 exact absurd O c4
theorem zJZ{S:List Nat}(wb nb e1 e2 pb cb:Nat)(st:SetD)(nv dv ev km lv:Value)(k:Nat)(cv ov:Value)(es:List EntD)(cs:List CalD)(os:List Int)(s y:Nat)(z:Int)(d:EgD)(c:CkD)(T:Int)(ps:PsD)(pv:Value)(t:TldD)(w:World)(aa:k≤1000)(hc:CkA c T)(a0:s<2)(hb:y=zc [e1,e2] s)(a1:z= -(((s:Nat):Int)+1))(a2:os.length=2)(a3:os[s]?=some ((cs.length:Nat):Int))(a4:ps.l=[({src:=1,dst:=z,dv:=pv,data:=t.enc}:LetD)])(ht:t.wf)(a5:t.ok)(hr:t.retry=false)(a6:d.waits=true)(hs:t.seq=d.a.seq)(hx:d.a.wf)(a7:d.nodes≤16)(a8:1≤cs.length)(hk:(zc cs (cs.length - 1)).look=false)(hl:cs.length≤1000)(a9:Own w S [jL wb st nv dv ev pb cb (Vj k) cv ov lv km,Res.vec 47 1 ev [e1,e2].length ([e1,e2].flatMap P1),Res.vec 41 21 cv cs.length (cs.flatMap CalD.cells),vI ov os,Res.eg y d,Res.ck cb c,Res.ps pb ps] w):Rets Tryz.prog 8 #[pt wb, .agg #[Vi 3,Vi 0,Vi 0,Vi 0,Vn 0,Vn 0,Vn 0,Vn 0,Vi 0,ym,Vi 0,Vi 0,Vn 0]] w fun u_ w'=>∃ (p:EgD) (u:PsD),u_=Vi 0∧u.l=[]∧p.waits=false∧zBU p d∧(p.a=d.a∧p.seq=d.seq)∧p.next=d.next∧p.kl=(if d.a.look=false∧t.reply.e=0 then xd d.a d.since d.rho t.reply d.kl d.kn else d.kl)∧p.now=max d.now (yt c z)∧p.kn=d.kn∧Own w S [jL wb st nv dv ev pb cb (Vj (k+1)) cv ov lv km,Res.vec 47 1 ev [e1,e2].length ([e1,e2].flatMap P1),Res.vec 41 21 cv (jl cs (k+1) t).length ((jl cs (k+1) t).flatMap CalD.cells),vI ov (os.set s 0),Res.eg y p,Res.ck cb c,Res.ps pb u] w':=by
 refine zO Tryz.func8 O Tryz.ntmps8 a9<|zB<|zj O O<|fun b3=>zF O<|zA<|zK<|zB<|zC O<|yE qF O O O<|zA<|yW O<|zN<|zB<|zC O<|zV O O<|zI (o:=15) O O<|zJ 0 (v:=Vj k) O O O O<|zr O O (zt qG) O<|zV O O<|zI (o:=15) O O<|zi 0 O O O O O<|zA<|zK<|zB<|zI (o:=0) O O<|zJ 7 (v:=Vi 3) O O O O<|zA<|zU<|zB<|yT O O O<|zF O<|zA<|zT O (fun c2=> ?_)<|fun c2=> ?_
 ·exact absurd c2 V
 refine zB<|yT O O O<|zF O<|zA<|zT O (fun c3=> ?_)<|fun c3=> ?_
 ·exact absurd c3 V
 refine zB<|yT O O O<|zF O<|zA<|zT O (fun c4=> ?_)<|fun c4=> ?_
 ·refine zB<|zC O<|z6 7 O O O<|zG O O<|fun w' hw=>(zHS wb nb e1 e2 pb cb st nv dv ev km lv (k+1) cv ov es cs os s y z _ _ _ _ pv t w' hc a0 hb a1 a2 a3 a4 ht a5 hr a6 hs hx a7 a8 hk hl<|hw.give [0,1,2,3,4,5,6] O V).mono ?_
  rintro _ w1 ⟨x,r,rfl,q,b,g,h,i,j,m,n,hO⟩
  refine(?_:CL _ _ _ _ _ _ (Own w S [_,_,_,_,_,_,_,_])) w1<|hw.qc [0,1,2,3,4,5,6] O hO
  refine zF O<|zA<|zP<|zm (v:=Vi 0) O O<|fun w' hw=>⟨x,r,O,q,b,g,h,i,j,m,n,hw.sel [1,2,3,4,5,6,7] O V⟩
 exact absurd O c4
theorem zO1{S:List Nat}(wb nb e1 e2 pb cb:Nat)(st:SetD)(nv dv ev km lv:Value)(k:Nat)(cv ov:Value)(es:List EntD)(cs:List CalD)(os:List Int)(r eb:Nat)(aa:Int)(d:EgD)(c:CkD)(T:Int)(ps:PsD)(cm:CmdD)(w:World)(a9:k≤1000)(hc:CkA c T)(a1:cm.wf)(a2:aa=((r:Nat):Int)+1)(a3:r<2)(hb:eb=zc [e1,e2] r)(a4:os.length=2)(hs:d.seq≤1000)(a5:d.waits=false)(a6:ps.l=[])(hl:cs.length≤1000)(a7:d.next=1)(a8:Own w S [jL wb st nv dv ev pb cb (Vj k) cv ov lv km,Res.vec 47 1 ev [e1,e2].length ([e1,e2].flatMap P1),Res.vec 41 21 cv cs.length (cs.flatMap CalD.cells),vI ov os,Res.eg eb d,Res.ck cb c,Res.ps pb ps] w):Rets Tryz.prog 8 #[pt wb, .agg #[Vi 11,Vi aa,Vi 0,Vi 0,Vn 0,Vn 0,Vn cm.session,Vn cm.seq,Vi cm.op, .string cm.key,Vi cm.amount,Vi cm.span,Vn cm.lease]] w fun u_ w'=>∃ (e:Int) (s:Value) (u:EgD) (i:PsD) (pv:Value) (g:List CalD) (j:List Int),u_=Vi e∧zBU u d∧u.next=d.next∧(AskN cm d cs os e u i.l g j∨AskY aa r cm (k+1) d (yt c (jD .i64 aa)) cs os e u pv i.l g j)∧Own w S [jL wb st nv dv ev pb cb (Vj (k+1)) s ov lv km,Res.vec 47 1 ev [e1,e2].length ([e1,e2].flatMap P1),Res.vec 41 21 s g.length (g.flatMap CalD.cells),vI ov j,Res.eg eb u,Res.ck cb c,Res.ps pb i] w':=by
 refine zO Tryz.func8 O Tryz.ntmps8 a8<|zB<|zj O O<|fun b3=>zF O<|zA<|zK<|zB<|zC O<|yE qF O O O<|zA<|yW O<|zN<|zB<|zC O<|zV O O<|zI (o:=15) O O<|zJ 0 (v:=Vj k) O O O O<|zr O O (zt qG) O<|zV O O<|zI (o:=15) O O<|zi 0 O O O O O<|zA<|zK<|zB<|zI (o:=0) O O<|zJ 7 (v:=Vi 11) O O O O<|zA<|zU<|zB<|yT O O O<|zF O<|zA<|zT O (fun c2=> ?_)<|fun c2=> ?_
 ·exact absurd c2 V
 refine zB<|yT O O O<|zF O<|zA<|zT O (fun c3=> ?_)<|fun c3=> ?_
 ·exact absurd c3 V
 refine zB<|yT O O O<|zF O<|zA<|zT O (fun c4=> ?_)<|fun c4=> ?_
 ·exact absurd c4 V
 refine zB<|yT O O O<|zF O<|zA<|zT O (fun c5=> ?_)<|fun c5=> ?_
 ·exact absurd c5 V
 refine zB<|yT O O O<|zF O<|zA<|zT O (fun c6=> ?_)<|fun c6=> ?_
 ·exact absurd c6 V
 refine zB<|yT O O O<|zF O<|zA<|zT O (fun c7=> ?_)<|fun c7=> ?_
 ·exact absurd c7 V
 refine zB<|yT O O O<|zF O<|zA<|zT O (fun c8=> ?_)<|fun c8=> ?_
 ·exact absurd c8 V
 refine zK<|zB<|yT O O O<|zF O<|zA<|zT O (fun c9=> ?_)<|fun c9=> ?_
 ·refine zN<|zT O (fun x=> ?_)<|fun x=> ?_
  ·refine zB<|zC O<|z6 7 O O O<|zG O O<|fun w' hw=>(zOd wb nb e1 e2 pb cb st nv dv ev km lv (k+1) cv ov es cs os r eb aa _ _ _ _ _ w' hc a1 a2 a3 hb a4 hs a5 a6 hl a7<|hw.give [0,1,2,3,4,5,6] O V).mono ?_
   rintro _ w1 ⟨y,m,z,n,a0,p,q,rfl,h,a,b,hO⟩
   refine(?_:CL _ _ _ _ _ _ (Own w S [_,_,_,_,_,_,_,_])) w1<|hw.qc [0,1,2,3,4,5,6] O hO
   refine zF O<|zA<|zP<|zm (v:=Vi y) O O<|fun w' hw=>⟨y,m,z,n,a0,p,q,O,h,a,b,hw.sel [1,2,3,4,5,6,7] O V⟩
  exact absurd O x
 exact absurd O c9
theorem zMz(v:Value)(l:List CalD)(w:World)(hl:l.length≤1000)(hv:Rd w [] (Res.sl v l.length (l.flatMap CalD.cells))):Rets Tryz.prog 31 #[v] w fun i b=>∃ (r:Value),i=r∧Own w [] [Res.vec 41 21 r l.length (l.flatMap CalD.cells)] b:=by
 refine zO Tryz.func31 O Tryz.ntmps31 (Own.start w)<|zB<|zF O<|zA<|zK<|zB<|zC O<|zAu (len:=l.length) (cs:=(l.flatMap CalD.cells)) qF O O (fun b a=>Own.rd hv a) O<|zA<|jJ O (fun d=> ?_)<|fun d=> ?_
 ·refine zB<|zF O<|zA<|zP<|zm (v:=zW) O O<|fun b c=>⟨.slice none 0 0,O,by obtain⟨_,j⟩:=Sl.isNil hv.φ d;rw[List.eq_nil_of_length_eq_zero j];exact zq c 41 21⟩
 refine zN<|zB<|yH (e:=41) (sz:=21) (vs:=[]) qF O O wa V O<|fun k=>zC O<|yF (g:=CalD.cells) (sz:=21) (by':=176) (fun _=>O) (l:=[]) (l':=l) wc 0 qF O O O (fun b a=>Own.rd hv a) qH V O<|fun h=>zF O<|zA<|zP<|zm (v:=h) O O<|fun b c=>⟨h,O,c⟩
theorem zK1{S:List Nat}(wb nb e1 e2 pb cb:Nat)(st:SetD)(nv dv ev km lv:Value)(k:Nat)(cv ov:Value)(es:List EntD)(cs:List CalD)(w:World)(hl:cs.length≤1000)(d:Own w S [jL wb st nv dv ev pb cb (Vj k) cv ov lv km,Res.vec 41 21 cv cs.length (cs.flatMap CalD.cells)] w):Rets Tryz.prog 10 #[pt wb] w fun e b=>∃ (r:Value),e=r∧Own w S [jL wb st nv dv ev pb cb (Vj k) cv ov lv km,Res.vec 41 21 cv cs.length (cs.flatMap CalD.cells),Res.vec 41 21 r cs.length (cs.flatMap CalD.cells)] b:=by
 refine zO Tryz.func10 O Tryz.ntmps10 d<|zB<|zF O<|zA<|zK<|zB<|zC O<|yE qF O O O<|zA<|yW O<|zN<|zB<|zC O<|zV O O<|zI (o:=16) O O<|zJ 0 (v:=cv) O O O O<|zG O O<|fun b c=>(zMz cv cs b qH<|c.qj 1 O).mono ?_
 rintro a g ⟨_,rfl,h⟩
 refine(?_:CL _ _ _ _ _ _ (Own w S [_,_,_])) g<|c.qb h
 refine zF O<|zA<|zP<|zm (v:=a) O O<|fun b c=>⟨a,O,c⟩
theorem zQg{S:List Nat}(wb nb e1 e2 pb cb:Nat)(st:SetD)(nv dv ev km lv:Value)(k:Nat)(cv ov:Value)(es:List EntD)(w:World)(hl:es.length≤1000)(y:∀ x∈es,x.data.length≤1000000)(p:Own w S [jL wb st nv dv ev pb cb (Vj k) cv ov lv km,vE lv es,sE es] w):Rets Tryz.prog 18 #[pt wb] w fun z c=>∃ (r:Value) (m:List EntD),z= .tuple #[r,Vi 0]∧m.length=es.length∧Own w S [jL wb st nv dv ev pb cb (Vj k) cv ov lv km,vE lv es,sE es,vE r m] c:=by
 refine zO Tryz.func18 O Tryz.ntmps18 p<|zB<|zF O<|zF O<|zA<|zK<|zB<|zC O<|yE qF O O O<|zA<|yW O<|zN<|zB<|zF O<|zA<|zK<|zB<|zC O<|zV O O<|zI (o:=18) O O<|zJ 0 (v:=lv) O O O O<|zn (pV 1 O) O O<|zC O<|zA<|zU<|xV (fun(i:Nat) (r:Value) (a:List EntD)=>[(0,pt wb),(4,r),(12,lv),(13,Vj es.length),(14,Vj i)]) (fun(i:Nat) (r:Value) (a:List EntD)=>i≤es.length∧a.length=i) (fun(i:Nat) (r:Value) (a:List EntD)=>[jL wb st nv dv ev pb cb (Vj k) cv ov lv km,vE lv es,sE es,vE r a]) (fun(i:Nat) (r:Value) (a:List EntD)=>es.length - i) (fun c b=>⟨0,zW,[],⟨O,O,O,O,O,trivial⟩,⟨Nat.zero_le _,O⟩,(zq b 113 5)⟩)<|fun i r a g q=>(zB<|zu O O O<|zA<|zK<|zT O (fun c2=> ?_)<|fun c2=> ?_)
 ·refine zN<|zK<|zU<|zB<|yL (pV 1 O) 5 i O O O qG O<|jy (pV 1 O) 5 i (off:=yr lv+i*5) (fun _=>O) O O qG O<|zk (v:= .agg #[Vn 0,Vn 0,Vi 0,Vi 0,zW]) qF O<|fun b6=>(zS (fun c b=>Sl.cell1<|Rd.φ (EntD.rd.star0 2 O b _<|zy (l:=es) (j:=i) qG).dv)<|fun n=>(zf 4 O O O (zH O<|zH O<|zH O<|zH O<|zH n zh) O<|zA<|zB<|zI (o:=4) O O<|zJ 4 (v:=(zc es i).dv) O O O O<|zG O O<|fun c b=>(y3 ((zc es i).dv) ((zc es i).data) c (by have:=y _ (zy (l:=es) (j:=i) qG);omega) (EntD.rd.star0 2 O b _<|zy qG).dv).mono ?_))
  rintro h w1 ⟨_,rfl,hO⟩
  refine(?_:CL _ _ _ _ _ _ (Own w S [_,_,_,_,_,_])) w1<|b.qb hO
  refine zI (o:=4) O O<|zS (fun c b=>Own.qa (i:=5) O b)<|fun d=>(zi (cs:=(EntD.cells<|zc es i)) 4 O O O d O<|zA<|ze<|zC O<|z6 4 O O O<|yH (e:=113) (sz:=5) (vs:=[.agg #[Vn ((zc es i).index),Vn ((zc es i).term),Vi ((zc es i).kind),Vi ((zc es i).delta),h]]) qF O O qS V O<|fun a0=>yF (g:=EntD.cells) (sz:=5) (by':=56) (fun _=>O) (l:=a) (l':=[({(zc es i)with dv:=h}:EntD)]) (all_cons ((zH O<|zH O<|zH O<|zH O<|zH d zh)) qJ) 3 qF O O O (fun c s=>Vec.sl<|Own.holds s 6 _ O) qH V O<|fun u=>zF O<|zA<|ze<|zr O O (zt qG) O<|zC O<|zx<|fun c b=>⟨i+1,u,a++[({(zc es i)with dv:=h}:EntD)],⟨O,O,O,O,O,trivial⟩,⟨by omega,by rw[List.length_append,q.2];rfl⟩,b.sel [0,1,2,3] O V,qG⟩)
 refine zw O<|zK<|zB<|zC O<|zV O O<|zI (o:=19) O O<|zJ 0 (v:=yC) O O O O<|zA<|yW O<|zN<|zB<|zC O<|zF O<|zF O<|zA<|zP<|yg (v:=r) (v':=Vi 0) O O O<|fun c b=>⟨r,a,O,(by have:=q.1;have:=q.2;omega),b⟩
theorem zNw(room:Int)(w:World)(l:room=1048576):Rets Tryz.prog 40 #[Vi room] w fun k g=>∃ (db fm h:Nat),k= .tuple #[pt db,Vi 0]∧Own w [] [Res.row db 174 [.map (some fm), .map (some h),zW,Vi room,Vi 0,yC],Res.mp Value.string FilD.val fm ([]:List (ByteArray×FilD)),Res.mp Value.string FilD.val h ([]:List (ByteArray×FilD))] g:=by
 refine zO Tryz.func40 O Tryz.ntmps40 (Own.start w) (zB (zF O (zF O (zA (zK (zB (zC O (zu O O O (zC O (yP (q:=room<0) 2 2 [8,7] (4194304<room) O O O O O O trivial O (fun a=> ?_) (fun i=> ?_)))))))))))
 ·refine zQ O (gF a) (zC O (zQ O (gF a) (yY O O O (z8 O (fun _ e=>e)))))
 refine zA (zT O (fun j=> ?_) (fun j=> ?_))
 ·exact absurd j qG
 refine zN (zB (xl (α:=FilD) Value.string FilD.val O O (fun b=>xl (α:=FilD) Value.string FilD.val O O (fun c=>zC O (yJ (cs:=[.map (some b), .map (some c),zW,Vi room,Vi 0,yC]) (z:=[.map none, .map none,zW,Vi 0,Vi 0,yC]) (pl:=[(0,1),(1,1),(2,1),(3,1),(4,1),(5,1)]) qF qF O (zj O O (fun d=>zF O (zF O (zA (zP (yg (v:=pt d) (v':=Vi 0) O O O (fun g e=>⟨d,b,c,O,e.sel [2,0,1] O V⟩))))))))))))
theorem zPb(room:Int)(w:World)(a:room=1048576):Rets Tryz.prog 40 #[Vi room] w fun b c=>∃ (db:Nat) (D:DskD) (kf:List (ByteArray×FilD)),b= .tuple #[pt db,Vi 0]∧DskCl D∧D.room=1048576∧kf.length=0∧Own w [] [Res.dk db D kf] c:=by
 refine(zNw room w a).mono ?_
 rintro _ g ⟨db,fm,d,rfl,e⟩
 have h1:=(zq (zq e 323 4) 323 4).qn
 exact⟨db,⟨fm, .map (some d),zW,[],room,0,false⟩,[],O,⟨⟨O,O,by show room≤4194304;omega,by show([]:List WriD).length≤1000;decide⟩,O⟩,a,O,(h1.qg [0,1,5,3] O V).sel [2] O V⟩
theorem zO9(a b rho:Int)(w:World)(d:a=1)(hb:b=2)(e:0≤rho∧rho≤500000):Rets Tryz.prog 38 #[Vi a,Vi b,Vi rho] w fun g h=>∃ (cb:Nat) (c:CkD),g= .tuple #[pt cb,Vi 0]∧CkA c 0∧c.rho=rho∧Own w [] [Res.ck cb c] h:=by
 subst d hb
 refine(zNZ rho w e).mono ?_
 rintro _ l ⟨cb,c,rfl,i,j,m,n,o,k⟩
 exact⟨cb,c,O,i,j,k⟩
theorem zL0{S:List Nat}(id:Int)(db:Nat)(D:DskD)(kf:List (ByteArray×FilD))(st:SetD)(qe:Nat)(w:World)(a:id=1)(c:st=jT st.rho)(d:0≤st.rho∧st.rho≤500000)(e:DskCl D)(hl:kf.length=0)(g:D.room=1048576)(h:qe<18446744073709551616)(b:Own w S [Res.dk db D kf] w):Rets Tryz.prog 41 #[Vi id,pt db, .agg (SetD.cells st).toArray,Vi 0,Vn qe] w fun i j=>∃ (nb:Nat) (n:NdD),i= .tuple #[pt nb,Vi 0]∧NdF n∧n.st=st∧Own w S [Res.nd nb n] j:=by
 subst a
 exact zKs db D kf st qe w c d e hl g h b
def ndR(p:Nat×NdD):Res:=Res.nd p.1 p.2
def Res.nds(l:List (Nat×NdD)):Res:=Res.star (l.map ndR)
def egR(p:Nat×EgD):Res:=Res.eg p.1 p.2
def Res.egs(l:List (Nat×EgD)):Res:=Res.star (l.map egR)
def EgZ(d:EgD)(rho:Int):Prop:=((((d.nodes=1∧d.rho=rho)∧(d.waits=false∧d.seq=0))∧d.next=1)∧d.a=askZ)∧((d.kl=[]∧d.kn=[])∧d.now=0)
theorem zM1(st:SetD)(w:World)(a8:st=jT st.rho)(af:0≤st.rho∧st.rho≤500000):Rets Tryz.prog 17 #[.agg (SetD.cells st).toArray] w fun u_ d=>∃ (wb nb e1 e2 pb cb:Nat) (nv dv ev ov cv lv:Value) (m:Nat) (n:NdD) (d1 d2:EgD) (c:CkD) (ps:PsD),u_= .tuple #[pt wb,Vi 0]∧(NdF n∧n.st=st)∧(EgZ d1 st.rho∧d1.id=1)∧(EgZ d2 st.rho∧d2.id=2)∧(CkA c 0∧c.rho=st.rho)∧ps.l=[]∧Own w [] [Res.row wb 72 [Vi st.nodes,Vi st.voters,Vi st.edges,Vi st.rho,Vi st.base,Vi st.spread,Vi st.beat,Vi st.disk,Vi st.post,Vi st.keep,nv,dv,ev,pt pb,pt cb,Vj 0,cv,ov,lv,yC,zW, .map (some m)],Res.vec 60 1 nv [nb].length ([nb].flatMap P1),Res.vec 47 1 ev [e1,e2].length ([e1,e2].flatMap P1),vI ov [0,0],Res.nd nb n,Res.eg e1 d1,Res.eg e2 d2,Res.ck cb c,Res.ps pb ps,Res.vec 41 21 cv ([]:List CalD).length (([]:List CalD).flatMap CalD.cells),vE lv ([]:List EntD)] d:=by
 have am:st.nodes=1:=by rw[a8];rfl
 have av:st.edges=2:=by rw[a8];rfl
 have aw:st.disk=1048576:=by rw[a8];rfl
 have ba:st.post=400:=by rw[a8];rfl
 refine zO Tryz.func17 O Tryz.ntmps17 (Own.start w) (zB (zj O O (fun b1=>zF O (zF O (zA (zK (zB (z6 (cs:=(SetD.cells st)) 0 O O O (zG O O (fun d a=>(zEt st d qH qH).mono ?_))))))))))
 rintro _ w1 ⟨rfl,hO⟩
 refine O1 ?_ (a.qb hO)
 refine xo (b:=true) O O (zA (yW O (zN (zB (z6 (cs:=(SetD.cells st)) 0 O O O (xl (α:=Int) xr kh O O (fun a3=>yJ (cs:=[Vi st.nodes,Vi st.voters,Vi st.edges,Vi st.rho,Vi st.base,Vi st.spread,Vi st.beat,Vi st.disk,Vi st.post,Vi st.keep,zW,zW,zW, .pointer none, .pointer none,Vi 0,zW,zW,zW,yC,zW, .map (some a3)]) (z:=[Vi 0,Vi 0,Vi 0,Vi 0,Vi 0,Vi 0,Vi 0,Vi 0,Vi 0,Vi 0,zW,zW,zW, .pointer none, .pointer none,Vi 0,zW,zW,zW,yC,zW, .map none]) (pl:=[(0,10),(10,1),(11,1),(12,1),(13,1),(14,1),(15,1),(16,1),(17,1),(18,1),(19,1),(20,1),(21,1)]) qF qF O (zj O O (fun a4=>zF O (zA (zB (zC O (zI (o:=0) O O (zJ 0 (v:=Vi st.nodes) O O O O (zI (o:=2) O O (zJ 0 (v:=Vi st.edges) O O O O (zI (o:=3) O O (zJ 0 (v:=Vi st.rho) O O O O (zG O O (fun d a=>(zO9 st.nodes st.edges st.rho d am av af).mono ?_))))))))))))))))))))
 rintro _ w1 ⟨k,ag,rfl,ah,a9,hO⟩
 refine(?_:CL _ _ _ _ _ _ (Own w [] [_,_,_,_])) w1 (a.qb hO)
 refine zC O (zb (vs:=[pt k,Vi 0]) O O O (zb (vs:=[pt k,Vi 0]) O O O (zV O O (zI (o:=14) O O (zi 2 O O O O O (zA (zB (zC O (zI (o:=8) O O (zJ 0 (v:=Vi st.post) O O O O (zG O O (fun d a=>(zR0 st.post d qH).mono ?_))))))))))))
 rintro _ w1 ⟨r,ai,rfl,aj,hO⟩
 refine(?_:CL _ _ _ _ _ _ (Own w [] [_,_,_,_,_])) w1 (a.qb hO)
 refine zC O (zb (vs:=[pt r,Vi 0]) O O O (zb (vs:=[pt r,Vi 0]) O O O (zV O O (zI (o:=13) O O (zi 2 O O O O O (zA (zK (zB (zF O (zA (zU (zAz (fun(i:Nat) (nv dv:Value) (nl:List (Nat×NdD)) (dl:List Nat)=>[(1,pt b1),(4,pt a4),(5,Vj i)]) (fun(i:Nat) (nv dv:Value) (nl:List (Nat×NdD)) (dl:List Nat)=>((i=1∧nl=[])∨(i=2∧∃ b n,nl=[(b,n)]∧NdF n∧n.st=st))∧dl.length≤i) (fun(i:Nat) (nv dv:Value) (nl:List (Nat×NdD)) (dl:List Nat)=>[Res.row b1 24 (SetD.cells st),Res.mp xr kh a3 ([]:List (Nat×Int)),Res.row a4 72 [Vi st.nodes,Vi st.voters,Vi st.edges,Vi st.rho,Vi st.base,Vi st.spread,Vi st.beat,Vi st.disk,Vi st.post,Vi st.keep,nv,dv,zW,pt r,pt k,Vj 0,zW,zW,zW,yC,zW, .map (some a3)],Res.ck k ag,Res.ps r ai,Res.vec 60 1 nv (nl.map Prod.fst).length ((nl.map Prod.fst).flatMap P1),Res.vec 105 1 dv dl.length (dl.flatMap P1),Res.nds nl]) (fun(i:Nat) (nv dv:Value) (nl:List (Nat×NdD)) (dl:List Nat)=>2 - i) (fun d a=>⟨1,zW,zW,[],[],⟨O,O,O,trivial⟩,⟨.inl ⟨O,O⟩,Nat.zero_le _⟩,((zq (zq a 60 1) 105 1).qn)⟩) (fun i nv dv nl dl g hΦ=>(zK (zB (zC O (zI (o:=0) O O (zJ 0 (v:=Vi st.nodes) O O O O (yx O O O (zA (zT O (fun c2=> ?_) (fun c2=> ?_))))))))))))))))))))))
 ·have ac:i=1∧nl=[]:=by rcases hΦ.1 with q|⟨q,_⟩;exact q;omega
  have b7:nl.length≤1:=by rw[ac.2];decide
  refine zN (zK (zU (zB (zI (o:=7) O O (zJ 0 (v:=Vi st.disk) O O O O (zG O O (fun d a=>(zPb st.disk d aw).mono ?_)))))))
  rintro _ w1 ⟨s,D6_,an,rfl,ak,aa,ab,hO⟩
  refine(?_:CL _ _ _ _ _ _ (Own w [] [_,_,_,_,_,_,_,_,_])) w1 (a.qb hO)
  refine zC O (zb (vs:=[pt s,Vi 0]) O O O (zb (vs:=[pt s,Vi 0]) O O O (zF O (zF O (zA (zB (zC O (zC O (z6 (cs:=(SetD.cells st)) 0 O O O (zC O (yh qF O (yz qG) O ?_ qF)))))))))))
  refine zG O O (fun d a=>(zL0 ((i:Nat):Int) s D6_ an st i d qG a8 af ak ab aa qG (a.give [8] O V)).mono ?_)
  rintro _ w1 ⟨a1,ax,rfl,ad,a5,hO⟩
  refine fq [8] O a hO (zC O (zb (vs:=[pt a1,Vi 0]) O O O (zb (vs:=[pt a1,Vi 0]) O O O (zF O (zF O (zA (zB (zC O (zC O (zV O O (zI (o:=11) O O (zJ 2 (v:=dv) O O O O (zC O (yH (e:=105) (sz:=1) (vs:=[pt s]) qF O O qQ V O (fun bb=>yF (g:=P1) (sz:=1) (by':=8) (fun _=>O) (l:=dl) (l':=[s]) qR 6 qF O O O (fun d a2=>Vec.sl (Own.holds a2 9 _ O)) qH V O (fun ay=>zV O O (zI (o:=11) O O (zS (fun d a=>Own.qa (i:=6) O a) (fun ao=>(zi 2 O O O ao O (zA (ze (zC O (zC O (zV O O (zI (o:=10) O O (zJ 2 (v:=nv) O O O O (zC O (yH (e:=60) (sz:=1) (vs:=[pt a1]) qF O O qQ V O (fun bc=>yF (g:=P1) (sz:=1) (by':=8) (fun _=>O) (l:=(nl.map Prod.fst)) (l':=[a1]) qR 5 qF O O O (fun d a2=>Vec.sl (Own.holds a2 10 _ O)) qH V O (fun az=>zV O O (zI (o:=10) O O (zS (fun d a=>Own.qa (i:=5) O a) (fun ap=>(zi 2 O O O ap O (zA (ze (zC O (zr O O (zt qG) O (zF O (zx (fun d a=>⟨i+1,az,ay,[(a1,ax)],dl++[s],⟨O,O,O,trivial⟩,⟨.inr ⟨by omega,_,_,O,ad,a5⟩,by have:=hΦ.2;rw[List.length_append,List.length_singleton];omega⟩,(by have q:=ac.2;subst q;exact(a.qg [8] rfl V).sel [0,1,2,3,4,5,6,10] rfl V),qG⟩))))))))))))))))))))))))))))))))))))))))))
 have b0:∃ b n,nl=[(b,n)]∧NdF n∧n.st=st:=by rcases hΦ.1 with⟨q,_⟩|⟨_,q⟩;omega;exact q
 obtain⟨nb,n,ac,b2,b3⟩:=b0
 refine zw O (zK (zB (zF O (zA (zU (zAz (fun(j:Nat) (ev ov:Value) (el:List (Nat×EgD)) (os:List Int)=>[(1,pt b1),(4,pt a4),(10,Vj j)]) (fun(j:Nat) (ev ov:Value) (el:List (Nat×EgD)) (os:List Int)=>((j=1∧el=[]∧os=[])∨(j=2∧os=[0]∧∃ p,el=[p]∧EgZ p.2 st.rho∧p.2.id=1)∨(j=3∧os=[0,0]∧∃ p q,el=[p,q]∧(EgZ p.2 st.rho∧p.2.id=1)∧EgZ q.2 st.rho∧q.2.id=2))) (fun(j:Nat) (ev ov:Value) (el:List (Nat×EgD)) (os:List Int)=>[Res.row b1 24 (SetD.cells st),Res.mp xr kh a3 ([]:List (Nat×Int)),Res.row a4 72 [Vi st.nodes,Vi st.voters,Vi st.edges,Vi st.rho,Vi st.base,Vi st.spread,Vi st.beat,Vi st.disk,Vi st.post,Vi st.keep,nv,dv,ev,pt r,pt k,Vj 0,zW,ov,zW,yC,zW, .map (some a3)],Res.ck k ag,Res.ps r ai,Res.vec 60 1 nv (nl.map Prod.fst).length ((nl.map Prod.fst).flatMap P1),Res.vec 105 1 dv dl.length (dl.flatMap P1),Res.nds nl,Res.vec 47 1 ev (el.map Prod.fst).length ((el.map Prod.fst).flatMap P1),vI ov os,Res.egs el]) (fun(j:Nat) (ev ov:Value) (el:List (Nat×EgD)) (os:List Int)=>3 - j) (fun d a=>⟨1,zW,zW,[],[],⟨O,O,O,trivial⟩, .inl ⟨O,O,O⟩,((zq (zq a 47 1) 3 1).qn)⟩) (fun j ev ov el os g hΦ=>(zK (zB (zC O (zI (o:=2) O O (zJ 0 (v:=Vi st.edges) O O O O (yx O O O (zA (zT O (fun c3=> ?_) (fun c3=> ?_))))))))))))))))
 ·have bd:el.length≤3∧os.length≤3:=by rcases hΦ with⟨_,q2,q3⟩|⟨_,q2,p,q3,_⟩|⟨_,q2,p,q,q3,_⟩<;>rw[q2,q3]<;>exact⟨by simp,by simp⟩
  refine zN (zK (zU (zB (zC O (zI (o:=0) O O (zJ 0 (v:=Vi st.nodes) O O O O (zI (o:=3) O O (zJ 0 (v:=Vi st.rho) O O O O (zG O O (fun d a=>(zRJ ((j:Nat):Int) st.nodes st.rho d qG qG qG).mono ?_))))))))))
  rintro _ w1 ⟨h,u,rfl,a0,y,a6,a7,hO⟩
  have ae:EgZ u st.rho∧u.id=((j:Nat):Int):=⟨⟨⟨⟨⟨⟨(a0).1.2.trans am,(a0).2⟩,(y).1⟩,(y).2⟩,a6⟩,a7⟩,(a0).1.1⟩
  refine(?_:CL _ _ _ _ _ _ (Own w [] [_,_,_,_,_,_,_,_,_,_,_,_])) w1 (a.qb hO)
  refine zC O (zb (vs:=[pt h,Vi 0]) O O O (zb (vs:=[pt h,Vi 0]) O O O (zF O (zF O (zA (zB (zC O (zC O (zV O O (zI (o:=12) O O (zJ 2 (v:=ev) O O O O (zC O (yH (e:=47) (sz:=1) (vs:=[pt h]) qF O O qQ V O (fun b8=>yF (g:=P1) (sz:=1) (by':=8) (fun _=>O) (l:=(el.map Prod.fst)) (l':=[h]) qR 8 qF O O O (fun d a2=>Vec.sl (Own.holds a2 12 _ O)) qH V O (fun v105=>zV O O (zI (o:=12) O O (zS (fun d a=>Own.qa (i:=8) O a) (fun aq=>(zi 2 O O O aq O (zA (ze (zC O (zC O (zV O O (zI (o:=17) O O (zJ 2 (v:=ov) O O O O (yH (e:=3) (sz:=1) (vs:=[Vi 0]) qF O O qL V O (fun b9=>yF (g:=I1) (sz:=1) (by':=8) (fun _=>O) (l:=os) (l':=[0]) qO 9 qF O O O (fun d a2=>Vec.sl (Own.holds a2 13 _ O)) qH V O (fun ar=>zV O O (zI (o:=17) O O (zS (fun d a=>Own.qa (i:=9) O a) (fun au=>(zi 2 O O O au O (zA (ze (zC O (zr O O (zt qG) O (zF O (zx (fun d a=>⟨j+1,v105,ar,el++[(h,u)],os++[0],⟨O,O,O,trivial⟩,(by rcases hΦ with⟨q1,q2,q3⟩|⟨q1,q2,p,q3,q4⟩|⟨q1,_⟩;exact .inr (.inl ⟨by omega,by rw[q3];rfl,(h,u),by rw[q2];rfl,ae.1,ae.2.trans qG⟩);exact .inr (.inr ⟨by omega,by rw[q2];rfl,p,(h,u),by rw[q3];rfl,q4,ae.1,ae.2.trans qG⟩);omega),(by rw[List.map_append];exact(a.qw (g:=egR) (x:=(h,u)) 10 11 V rfl rfl).sel [0,1,2,3,4,5,6,7,8,9,10] rfl V),qG⟩))))))))))))))))))))))))))))))))))))))))
 have al:os=[0,0]∧∃ p q,el=[p,q]∧(EgZ p.2 st.rho∧p.2.id=1)∧EgZ q.2 st.rho∧q.2.id=2:=by rcases hΦ with⟨q,_⟩|⟨q,_⟩|⟨_,q⟩;omega;omega;exact q
 obtain⟨b4,p,q,al,b5,b6⟩:=al
 refine zw O (zB (zC O (zF O (zF O (zA (zP (yg (v:=pt a4) (v':=Vi 0) O O O (fun d a=>⟨a4,nb,p.1,q.1,r,k,nv,dv,ev,ov,zW,zW,a3,n,p.2,q.2,ag,ai,O,⟨b2,b3⟩,b5,b6,⟨ah,a9⟩,aj,(by subst ac al b4;exact(((zq (zq a 41 21) 113 5).qi 7 rfl).qi 9 rfl).sel [2,5,7,8,11,12,13,3,4,9,10] rfl V)⟩))))))))
theorem zUH{r:Int}(h:0≤r∧r≤255):r.tmod 4=r%4:=Int.tmod_eq_emod_of_nonneg h.1
theorem zSP(r:Int)(w:World)(b:0≤r∧r≤255):Rets Tryz.prog 5 #[.int .u8 0, .int .u8 0, .int .u8 r] w fun d a=>d= .agg (SetD.cells (jT (r%4*100000))).toArray∧Own w [] [] a:=by
 refine zO Tryz.func5 O Tryz.ntmps5 (Own.start w) (zB (zk (v:= .agg #[Vi 0,Vi 0,Vi 0,Vi 0,Vi 0,Vi 0,Vi 0,Vi 0,Vi 0,Vi 0]) qF O (fun g=>zA (zB (zC O (zI4 (c:=0) O O V O O (yh qF O (zt qG) O ?_ qF)))))))
 refine zr O O (zt qG) O (zC O (zI4 (c:=r%4) O O V (zUH b) O (yh qF O (zt qG) O ?_ qF)))
 refine zAU O O (zt qG) O (zC O (zI4 (c:=0) O O V O O (yh qF O (zt qG) O ?_ qF)))
 refine zAU O O (zt qG) O (yJ (cs:=[Vj (0+1),Vi 0,Vi 2,Vi ((r%4)*100000),Vi 12,Vi 20,Vi 4,Vi 1048576,Vi 400,Vj (0*2)]) (z:=[Vi 0,Vi 0,Vi 0,Vi 0,Vi 0,Vi 0,Vi 0,Vi 0,Vi 0,Vi 0]) (pl:=[(0,1),(1,1),(2,1),(3,1),(4,1),(5,1),(6,1),(7,1),(8,1),(9,1)]) qF qF O (zk (v:= .agg #[Vi 0,Vi 0,Vi 0,Vi 0,Vi 0,Vi 0,Vi 0,Vi 0,Vi 0,Vi 0]) qF O (fun h=>zf 1 O O O (zz O) O (zA (zB (zI (o:=0) O O (zJ 1 (v:=Vj (0+1)) O O O O (zI (o:=1) O O (zi 1 O O O O O (zA (zB (z6 1 O O O (zf 0 O O O (zz O) O (zA (zP (xg (cs:=[Vj (0+1),Vj (0+1),Vi 2,Vi ((r%4)*100000),Vi 12,Vi 20,Vi 4,Vi 1048576,Vi 400,Vj (0*2)]) O O qF (Own.qd (i:=0) O) (fun a e=>⟨O,e.drop⟩)))))))))))))))))
theorem zP7(a b r:Int)(w:World)(c:a=0)(hb:b=0)(d:0≤r∧r≤255):Rets Tryz.prog 5 #[.int .u8 a, .int .u8 b, .int .u8 r] w fun e g=>e= .agg (SetD.cells (jT (r%4*100000))).toArray∧Own w [] [] g:=by
 subst c hb
 exact zSP r w d
theorem zMc(cs:List CalD)(k:Nat)(t:TldD):(jl cs k t).length=cs.length:=by
 unfold jl
 rw[List.length_set,List.length_set]
theorem zMr:ApOk lgZ 0:=by
 have h:yX 0 0 ([]:List (Nat×LeaD))=[]:=by unfold yX;split<;>rfl
 have g:kZ 0 0 ([]:List (Nat×LeaD))=[]:=by unfold kZ;split<;>rfl
 refine⟨by unfold kE;decide,by decide,by decide,List.nodup_nil,by decide,fun k=> ?_,fun i l hl=> ?_,?_,?_⟩
 · show 0≤yi k (yX 0 0 [])∧yi k (yX 0 0 [])≤9223372036854775807
   rw[h];exact⟨Int.le_refl 0,(show(0:Int)≤9223372036854775807 by decide)⟩
 · have hl:zl i (yX 0 0 [])=some l:=hl
   rw[h]at hl;cases hl
 · decide
 show(kZ 0 0 []).length≤1
 rw[g];decide
theorem zO4(w:World):Rets Tryz.prog 7 #[] w fun u_ g=>u_=xx∧Own w [] [] g:=by
 refine zO Tryz.func7 O Tryz.ntmps7 (Own.start w) (zB (zF O (zA (zB (zG O O (fun g a=>(zP7 ((0:Nat):Int) ((0:Nat):Int) ((0:Nat):Int) g qH qH qH).mono ?_))))))
 rintro _ w1 ⟨rfl,l⟩
 refine O0 ?_ (a.qb l)
 refine zG O O (fun g a=>(zM1 (jT (((0:Nat):Int)%4*100000)) g O V).mono ?_)
 rintro _ w1 ⟨d,j,m,n,o,p,r,s,t,h,i,a6,u,ab,ah,ai,ac,aj,rfl,y,ad,ae,e,af,l⟩
 refine(?_:CL _ _ _ _ _ _ (Own w [] [_,_,_,_,_,_,_,_,_,_,_])) w1 (a.qb l)
 refine zC O (zb (vs:=[pt d,Vi 0]) O O O (zb (vs:=[pt d,Vi 0]) O O O (zF O (zF O (zA (zK (zB (zC O (yf O O O (zC O (yP (q:=0≠0) 2 2 [14,13] (false=true) O O O O O O trivial O (fun a4=> ?_) (fun ao=> ?_))))))))))))
 ·refine zQ O (gF a4) (zC O (zQ O (gF a4) (yE qF O O O (z8 (y2 _) (fun _ a=>a)))))
 refine zA (zT O (fun c1=> ?_) (fun c1=> ?_))
 ·exact absurd c1 V
 refine zN (zB (zC O (yJ (cs:=[Vi 2,Vi 0,Vi 0,Vi 40,Vn 0,Vn 0,Vn 0,Vn 0,Vi 0,ym,Vi 0,Vi 0,Vn 0]) (z:=[Vi 0,Vi 0,Vi 0,Vi 0,Vn 0,Vn 0,Vn 0,Vn 0,Vi 0,ym,Vi 0,Vi 0,Vn 0]) (pl:=[(0,1),(1,1),(2,1),(3,1),(4,1),(5,1),(6,7)]) qF qF O (zG O O (fun g a=>(zGT d j m n o p (jT (((0:Nat):Int)%4*100000)) r s t (.map (some u)) a6 0 i h ab ac 40 0 g (Nat.zero_le _) O ((e).1) V (by rw[(e).2];decide) V ((y).1) (by rw[(y).1.lg];exact zMr) (a.give [0,1,10,4,7] O V)).mono ?_)))))
 rintro _ w1 ⟨k,c,ak,ap,aq,rfl,al,a0,l⟩
 obtain⟨⟨⟨⟨⟨⟨⟨a7,am⟩,ax⟩,ar⟩,au⟩,ag⟩,av⟩,ay⟩:=a0
 have an:∀ x∈c.fs,x.data.length≤1000000:=fun x hx=>by
  rw[a7]at hx
  have hx:=List.mem_singleton.1 hx
  subst hx
  have h3:x.data=[]:=congrArg EntA.data am
  rw[h3];decide
 refine fq [0,1,10,4,7] O a l (zA (zB (zC O (zG O O (fun g a=>(zQg d j m n o p (jT (((0:Nat):Int)%4*100000)) r s t (.map (some u)) k (0+1) i h (c.fs) g (by rw[a7];show 1≤1000;decide) an (a.give [6,8,11] O V)).mono ?_)))))
 rintro _ w1 ⟨a5,b,rfl,a8,l⟩
 have a9:b.length=1:=by have q:=a8;rw[a7]at q;exact q
 refine fq [6,8,11] O a l (zC O (zb (vs:=[a5,Vi 0]) O O O (zb (vs:=[a5,Vi 0]) O O O (zF O (zF O (zA (zB (zC O (yT O O O (zC O (yA (q:=0=0) 3 2 [29,28,27] (((b.length:Nat):Int)=1) O O O O O O trivial O (fun a1=> ?_) (fun aw=> ?_))))))))))))
 ·refine zQ O (gT a1) (zC O (zQ O (gT a1) (zn (pV 12 O) O O (zQ O (gT a1) (yT O O O (z8 O (fun _ a=>a)))))))
 refine zC O ?_
 by_cases s6_7:((0:Int)=0)∧(((b.length:Nat):Int)=1)
 ·refine zQ O (gT s6_7) (zC O (zQ O (gT s6_7) (zG O O (fun g a=>(zC2 d j m n o p (jT (((0:Nat):Int)%4*100000)) r s t (.map (some u)) k (0+1) i h (c.fs) 1 g qH (a.give [9,6] O V)).mono ?_))))
  rintro _ w1 ⟨rfl,l⟩
  refine fq [9,6] O a l (zQ O (gT s6_7) (zG O O (fun g a=>(zJt j c g (a.give [6] O V)).mono ?_)))
  rintro _ w1 ⟨aa,a2,rfl,a3,l⟩
  refine fq [6] O a l (zQ O (gT s6_7) (zG O O (fun g a=>(jX aa a2 g (a.give [13] O V)).mono ?_)))
  rintro _ w1 ⟨rfl,l⟩
  refine fq [13] O a l (zQ O (gT s6_7) (yT O O O (zC6 (gT s6_7) O (zF O (zA (zP (zm (v:= .bool (decide (((a2.idx:Nat):Int)=((1:Nat):Int)))) O O (fun g a=>⟨(congrArg Value.bool (decide_eq_true (by have q:=a3;rw[ag]at q;rw[q]))),a.drop⟩))))))))
 exact absurd (show((0:Int)=0)∧(((b.length:Nat):Int)=1)from⟨O,by rw[a9];rfl⟩) s6_7
def ki(cm:CmdD)(aa:Int)(s:Nat):CmdD:={cm with session:=u64 aa,seq:=s}
def zA2(cm:CmdD)(aa:Int)(s:Nat):AskD:=zCw (zBf cm.op cm.key cm.amount cm.span cm.lease) aa s
theorem zB0(cm:CmdD)(aa:Int)(s:Nat):zA2 cm aa s={look:=false,lazy:=false,seq:=s,cmd:=ki cm aa s,key:=⟨#[]⟩}:=by
 unfold zA2
 rw[zBp rfl]
 rfl
theorem zPX{cm:CmdD}{aa:Int}{s:Nat}(h:cm.wf)(a:s≤1000):(ki cm aa s).wf:=⟨ya _,by show s<_;omega,h.key,h.amount,h.span,h.lease⟩
theorem zIM{cm:CmdD}{aa:Int}{s:Nat}(h:cm.wf)(a:s≤1000):(zA2 cm aa s).wf:=by
 rw[zB0]
 exact⟨by show s<_;omega,zPX h a,by show(0:Nat)≤_;decide⟩
theorem zOT{cm:CmdD}{aa:Int}{s:Nat}(h:¬ xW cm.op cm.key cm.amount cm.span):(zA2 cm aa s).ok:=zJF h
def zAW(s:Nat)(r:RepD):TldD:={seq:=s,retry:=false,lead:=0,reply:=r,most:=0,lent:=0}
theorem zIu{s:Nat}{r:RepD}(h:r.wf)(a:s≤1000):(zAW s r).wf:=⟨by show s<_;omega,h,by show kE 0;unfold kE;decide,by show kE 0;unfold kE;decide⟩
theorem zIy{s:Nat}{r:RepD}(h:r.ok):(zAW s r).ok:=⟨⟨by show(0:Int)≤0;decide,by show(0:Int)≤16;decide⟩,h⟩
theorem zTn{aa:Int}{jj:Nat}(h:aa=((jj:Nat):Int)+1)(a:jj<2):jD .i64 aa= -(((jj:Nat):Int)+1):=by
 rcases(show jj=0∨jj=1 by omega)with q|q<;>subst q<;>subst h<;>decide
theorem zSo{jj:Nat}{a:Int}(h:jj<2):(([0,0]:List Int).set jj a).set jj 0=[0,0]∧(([0,0]:List Int).set jj a)[jj]?=some a∧(([0,0]:List Int).set jj a).length=2:=by
 rcases(show jj=0∨jj=1 by omega)with q|q<;>subst q<;>exact⟨rfl,rfl,rfl⟩
instance iWme1:Inhabited EgD:=⟨⟨0,0,0,0,0,askZ,0,false,0,0,0,[],[]⟩⟩
theorem zEy{el:List (Nat×EgD)}{e1 e2:Nat}(h:el.map Prod.fst=[e1,e2]):el.length=2∧∀ j,j<2→(zc el j).1=zc [e1,e2] j:=by
 have hl:el.length=2:=by have:=congrArg List.length h;simpa using this
 refine⟨hl,fun j a=> ?_⟩
 rw[←h]
 exact(Go.Sc.nth_map qG).symm
theorem zFl{el:List (Nat×EgD)}{e1 e2 j b:Nat}{d:EgD}(h:el.map Prod.fst=[e1,e2])(a:j<2)(hb:b=(zc el j).1):(el.set j (b,d)).map Prod.fst=[e1,e2]:=by
 rw[List.map_set,h,hb,(zEy h).2 j a]
 rcases(show j=0∨j=1 by omega)with q|q<;>subst q<;>rfl
theorem zCF{α:Type}[Inhabited α]{l:List α}{k j:Nat}{b:α}(h:j≠k):zc (l.set k b) j=zc l j:=by
 unfold zc
 rw[List.getElem?_set_ne (fun e=>h e.symm)]
structure WdE where
 nb:Nat
 e1:Nat
 e2:Nat
 pb:Nat
 cb:Nat
 st:SetD
 nv:Value
 dv:Value
 ev:Value
 km:Value
 lv:Value
 cv:Value
 ov:Value
 k:Nat
 es:List EntD
 cs:List CalD
 n:NdD
 el:List (Nat×EgD)
 c:CkD
 ps:PsD
def Res.we(wb:Nat)(W:WdE):Res:=Res.star [Res.row wb 72 [Vi W.st.nodes,Vi W.st.voters,Vi W.st.edges,Vi W.st.rho,Vi W.st.base,Vi W.st.spread,Vi W.st.beat,Vi W.st.disk,Vi W.st.post,Vi W.st.keep,W.nv,W.dv,W.ev,pt W.pb,pt W.cb,Vj W.k,W.cv,W.ov,W.lv, .bool false, .slice none 0 0,W.km],Res.vec 60 1 W.nv [W.nb].length ([W.nb].flatMap P1),Res.vec 47 1 W.ev [W.e1,W.e2].length ([W.e1,W.e2].flatMap P1),vE W.lv W.es,Res.vec 41 21 W.cv W.cs.length (W.cs.flatMap CalD.cells),vI W.ov [0,0],Res.nd W.nb W.n,Res.star (W.el.map egR),Res.ck W.cb W.c,Res.ps W.pb W.ps]
structure WeF(W:WdE):Prop where
 st:W.st=jT W.st.rho
 rr:0≤W.st.rho∧W.st.rho≤500000
 n:NdF W.n
 ns:W.n.st=W.st
 em:W.el.map Prod.fst=[W.e1,W.e2]
 eg:∀ j:Nat,j<2→EgZ (zc W.el j).2 W.st.rho∧(zc W.el j).2.id=((j:Nat):Int)+1
 c:CkA W.c 0
 cr:W.c.rho=W.st.rho
 ps:W.ps.l=[]
 es:W.es=[]
 cs:W.cs=[]
 k:W.k=0
structure EgI(d:EgD)(j:Nat)(rho:Int)(i:Nat)(t:Int):Prop where
 nodes:d.nodes=1
 rho:d.rho=rho
 id:d.id=((j:Nat):Int)+1
 next:d.next=1
 waits:d.waits=false
 seq:d.seq≤i
 now:d.now≤t
structure WeI(W:WdE)(rho:Int)(i p:Nat):Prop where
 no:W.st.nodes=1
 ro:0≤rho∧rho≤500000
 cr:W.c.rho=rho
 n:NdM W.n (1+p) (6100+6100*i) (3+2*i)
 c:CkA W.c (2000+2000*((p:Nat):Int))
 t:W.c.t1=W.n.x.t.now
 es:W.es.length=W.n.x.es.length
 ne:W.n.x.es.length=i+1
 em:W.el.map Prod.fst=[W.e1,W.e2]
 eg:∀ j:Nat,j<2→EgI (zc W.el j).2 j rho i (yt W.c (-(((j:Nat):Int)+1)))
 ps:W.ps.l=[]
 k:W.k≤1+3*i+p
 cl:W.cs.length≤i
theorem zTP{c:CkD}{T:Int}(h:CkA c T)(e:Int):0≤yt c e:=by
 have:=h.bd
 unfold yt
 split
 · omega
 split<;>omega
def zRg(c c':CkD)(N rho:Int):Prop:=∀ e,yt c e+yR N rho≤yt c' e∧yt c' e≤yt c e+yo N rho
theorem zTt{c c':CkD}{N rho:Int}(h1:c.t1+yR N rho≤c'.t1∧c'.t1≤c.t1+yo N rho)(h2:c.e1+yR N rho≤c'.e1∧c'.e1≤c.e1+yo N rho)(a:c.e2+yR N rho≤c'.e2∧c'.e2≤c.e2+yo N rho):zRg c c' N rho:=by
 intro e
 unfold yt
 split
 · exact h1
 split
 · exact h2
 exact a
theorem zJ8{a:LgA}{r:RepD}{idx:Nat}(h:zA6 0 0 0 [] [] [] (⟨1,1,1,0,[]⟩:EntA) r false 0 idx a.now a.cnt a.kb a.kl a.kr):a=lgZ:=by
 have e:yX 0 0 ([]:List (Nat×LeaD))=[]:=by unfold yX;split<;>rfl
 have lg:∀ {a b:LgA},a.now=b.now→a.cnt=b.cnt→a.kb=b.kb→a.kl=b.kl→a.kr=b.kr→a=b:=fun{a b} h1 h2 c d h5=>by
   cases a;cases b
   dsimp only at *
   subst h1 h2 c d h5
   rfl
 rcases h with⟨⟨q,_⟩|⟨_,q,_⟩,_⟩|⟨_,_,_,f,⟨_,_,_,h1,h2,c,d⟩|⟨q,_⟩⟩
 · exact absurd (by unfold EntA.ok;decide) q
 · exact absurd rfl q
 · exact lg (f.trans V) h1 h2 (c.trans e) d
 exact absurd q V
theorem zQ0(st:SetD)(w:World)(b:st=jT st.rho)(a:0≤st.rho∧st.rho≤500000):Rets Tryz.prog 17 #[.agg (SetD.cells st).toArray] w fun g h=>∃ (wb:Nat) (W:WdE),g= .tuple #[pt wb,Vi 0]∧WeF W∧W.st=st∧Own w [] [Res.we wb W] h:=by
 refine(zM1 st w b a).mono ?_
 rintro _ s ⟨wb,nb,e1,e2,pb,cb,nv,dv,ev,ov,cv,lv,m,n,i,k,c,ps,rfl,d,l,o,e,p,r⟩
 have h1:=r.qg [5,6] rfl V
 refine⟨wb,⟨nb,e1,e2,pb,cb,st,nv,dv,ev, .map (some m),lv,cv,ov,0,[],[],n,[(e1,i),(e2,k)],c,ps⟩,O,⟨b,a,d.1,d.2,O,?_,e.1,e.2,p,O,O,O⟩,O,(h1.qg [0,1,2,8,7,3,4,9,5,6] O V).sel [0] O V⟩
 intro j hj
 rcases(show j=0∨j=1 by omega)with q|q<;>subst q
 · exact l
 exact o
theorem zPM{S:List Nat}(wb:Nat)(W:WdE)(N:Int)(y:Nat)(w:World)(h:WeF W)(hN:0≤N∧N≤1000)(a0:32≤yR N W.st.rho)(a1:y<18446744073709551616)(a2:Own w S [Res.we wb W] w):Rets Tryz.prog 8 #[pt wb, .agg #[Vi 2,Vi 0,Vi 0,Vi N,Vn y,Vn 0,Vn 0,Vn 0,Vi 0,ym,Vi 0,Vi 0,Vn 0]] w fun u_ w'=>∃ (W':WdE),u_=Vi 0∧WeI W' W.st.rho 0 0∧W'.n.x.t.qh=W'.n.x.t.now∧W'.n.s.a=lgZ∧W'.el=W.el∧W'.n.x.es.map EntD.toEntA=[(⟨1,1,1,0,[]⟩:EntA)]∧Own w S [Res.we wb W'] w':=by
 have hi:=a2.qi 0 rfl
 have a3:Own w _ [_,_,_,_,_] w:=hi.give [0,1,3,6,8] rfl V
 obtain⟨nb,e1,e2,pb,cb,st,nv,dv,ev,km,lv,cv,ov,k,es,cs,n,el,c,ps⟩:=W
 have a4:es=[]:=h.es
 subst a4
 have a5:cs=[]:=h.cs
 subst a5
 have g:st.nodes=1:=by have q:st=jT st.rho:=h.st;rw[q];rfl
 have i:c.rho=st.rho:=h.cr
 refine(zGT wb nb e1 e2 pb cb st nv dv ev km lv k cv ov n c N y w (by have q:k=0:=h.k;omega) g h.c hN (by rw[i];exact a0) a1 h.n (by have q:n.s.a=lgZ:=h.n.lg;rw[q];exact zMr) a3).mono ?_
 rintro _ w1 ⟨a6,d,c',e,r,rfl,f1,f2,hO⟩
 obtain⟨⟨⟨⟨⟨⟨⟨a7,ab⟩,l⟩,a9⟩,o⟩,aa⟩,b⟩,p⟩:=f2
 have u:d.x.es.length=1:=by have q:=congrArg List.length b;simpa using q
 have v:d.s.a=lgZ:=by
   have q:n.s.a=lgZ:=h.n.lg
   rw[q]at p;exact zJ8 p
 have a8:=hi.qc [0,1,3,6,8] rfl hO
 have ac:k=0:=h.k
 refine⟨⟨nb,e1,e2,pb,cb,st,nv,dv,ev,km,a6,cv,ov,k+1,d.fs,[],d,el,c',ps⟩,O,⟨g,h.rr,f1.2.1.trans i,l.m,f1.1,o.symm,by show d.fs.length=d.x.es.length;rw[a7,u];rfl,u,h.em,?_,h.ps,by show k+1≤1;omega,Nat.le_refl 0⟩,l.qh,v,O,b,(a8.qg [5,6,0,7,1,2,8,3,9,4] O V).sel [1] O V⟩
 intro j hj
 have z:=h.eg j hj
 exact⟨z.1.1.1.1.1.1,z.1.1.1.1.1.2,z.2,z.1.1.1.2,z.1.1.1.1.2.1,Nat.le_of_eq z.1.1.1.1.2.2,by rw[z.1.2.2];exact zTP f1.1 _⟩
theorem zFv{S:List Nat}(wb:Nat)(W:WdE)(rho:Int)(i p:Nat)(N:Int)(o:Nat)(w:World)(h:WeI W rho i p)(hi:i≤150)(hp:p≤200)(hN:0≤N∧N≤1000)(r:o<18446744073709551616)(v:Own w S [Res.we wb W] w):Rets Tryz.prog 8 #[pt wb, .agg #[Vi 2,Vi 0,Vi 0,Vi N,Vn o,Vn 0,Vn 0,Vn 0,Vi 0,ym,Vi 0,Vi 0,Vn 0]] w fun u_ w'=>∃ (W':WdE),u_=Vi 0∧WeI W' rho i (p+1)∧W'.n.s=W.n.s∧W'.n.x.t.qh=W.n.x.t.qh∧W'.el=W.el∧zRg W.c W'.c N rho∧W'.n.x.es.map EntD.toEntA=W.n.x.es.map EntD.toEntA∧Own w S [Res.we wb W'] w':=by
 have g:=v.qi 0 rfl
 obtain⟨nb,e1,e2,pb,cb,st,nv,dv,ev,km,lv,cv,ov,k,es,cs,n,el,c,ps⟩:=W
 have hk:k≤1+3*i+p:=h.k
 have y:n.x.es.length=i+1:=h.ne
 have a0:es.length=n.x.es.length:=h.es
 have a1:c.rho=rho:=h.cr
 refine(zJL wb nb e1 e2 pb cb st nv dv ev km lv k cv ov es n c (2000+2000*((p:Nat):Int)) N o (1+p) (6100+6100*i) (3+2*i) w qG h.no h.c qG hN r h.n qG qG h.t qG qG qG (g.give [0,1,3,6,8] O V)).mono ?_
 rintro _ w1 ⟨a2,n2,c',rfl,e,f2,hO⟩
 obtain⟨⟨⟨⟨⟨⟨hM,a4⟩,l⟩,b⟩,a⟩,a5⟩,hs⟩:=f2
 rw[a1]at e
 have m:=zTt e.2.2.1 e.2.2.2.1 e.2.2.2.2
 have a6:=(zKw hN h.ro).1
 have d:n2.x.es.length=n.x.es.length:=by have q:=congrArg List.length b;simpa using q
 have a3:=g.qc [0,1,3,6,8] rfl hO
 refine⟨⟨nb,e1,e2,pb,cb,st,nv,dv,ev,km,a2,cv,ov,k+1,es,cs,n2,el,c',ps⟩,O,⟨h.no,h.ro,e.2.1,?_,?_,l.symm,a0.trans d.symm,d.trans y,h.em,?_,h.ps,by show k+1≤1+3*i+(p+1);omega,h.cl⟩,hs,a,O,m,b,(a3.qg [5,6,0,7,1,2,8,3,9,4] O V).sel [0] O V⟩
 · rw[show 1+(p+1)=1+p+1 by omega];exact hM
 · have q:=e.1
   show CkA c' (2000+2000*(((p+1:Nat)):Int))
   rw[show(2000:Int)+2000*(((p+1:Nat)):Int)=2000+2000*((p:Nat):Int)+2000 by omega];exact q
 intro j hj
 have z:=h.eg j hj
 have u:=(m (-(((j:Nat):Int)+1))).1
 exact⟨z.nodes,z.rho,z.id,z.next,z.waits,z.seq,Int.le_trans z.now (by show yt c _≤yt c' _;omega)⟩
structure LrnH(W:WdE)(jj:Nat)(aa:Int)(cm:CmdD):Prop where
 cw:cm.wf
 gd:¬ xW cm.op cm.key cm.amount cm.span
 op:cm.op≠4
 sg:W.n.x.es.length≤97∨jP (W.n.x.es.map EntD.toEntA)<512
 ea:aa=((jj:Nat):Int)+1
 ej:jj<2
 k:yn W.n.s.a.kr (u64 aa) ((zc W.el jj).2.seq+1)=(RepD.zero,8)
 ap:ApOk W.n.s.a W.n.dl
 ok:∀ r did cnt' kb' kl' kr',DoK (ye W.n.s.a.now W.n.dl) W.n.s.a.cnt W.n.s.a.kb (yX W.n.s.a.now W.n.dl W.n.s.a.kl) W.n.s.a.kr (ki cm aa ((zc W.el jj).2.seq+1)) r did cnt' kb' kl' kr'→(r.wf∧r.ok)∧r.session≠0
structure LrnK(W:WdE)(rho:Int)(i p jj:Nat)(aa:Int)(cm:CmdD)(W':WdE)(r:RepD)(did:Bool):Prop where
 w:WeI W' rho (i+1) p
 c:W'.c=W.c
 st:W'.n.x.t.qh=W'.n.x.t.now
 nw:W'.n.s.a.now=ye W.n.s.a.now W.n.dl
 d:DoK (ye W.n.s.a.now W.n.dl) W.n.s.a.cnt W.n.s.a.kb (yX W.n.s.a.now W.n.dl W.n.s.a.kl) W.n.s.a.kr (ki cm aa ((zc W.el jj).2.seq+1)) r did W'.n.s.a.cnt W'.n.s.a.kb W'.n.s.a.kl W'.n.s.a.kr
 sq:(zc W'.el jj).2.seq=(zc W.el jj).2.seq+1
 kl:(zc W'.el jj).2.kl=(if r.e=0 then xd (zA2 cm aa ((zc W.el jj).2.seq+1)) (yt W.c (-aa)) rho r (zc W.el jj).2.kl (zc W.el jj).2.kn else(zc W.el jj).2.kl)
 kn:(zc W'.el jj).2.kn=(zc W.el jj).2.kn
 ot:∀ j,j≠jj→zc W'.el j=zc W.el j
 en:W'.n.x.es.map EntD.toEntA=W.n.x.es.map EntD.toEntA++[(⟨W.n.x.es.length+1,1,2,W.n.dl,(ki cm aa ((zc W.el jj).2.seq+1)).enc⟩:EntA)]
end Go.Proofs.YthpoddkmhfhboaaGreatDoor
