import Derived.Test.YtmpaljnacfidaaaGreatDoorWlg
import Derived.Test.YtmpaljnacfidaaaGreatDoorIn
import Derived.Test.YtmpaljnacfidaaaGreatDoorFw3
import Derived.Test.YtmpaljnacfidaaaGreatDoorWhRd
set_option linter.unusedSectionVars false
set_option linter.unusedSimpArgs false
set_option linter.unusedVariables false
set_option maxRecDepth 10000
namespace Go.Proofs.YtmpaljnacfidaaaGreatDoor
open Go Go.Sc Go.Proofs
theorem zQo(w:World):Rets Tryz.prog 7 #[.int .u8 0, .int .u8 0, .int .u8 0] w fun b a=>b= .agg (SetD.cells (jc 0)).toArray∧Own w [] [] a:=by
  refine zO Tryz.func7 O Tryz.ntmps7 (Own.start w) (zB (zk (v:= .agg #[Vi 0,Vi 0,Vi 0,Vi 0,Vi 0,Vi 0,Vi 0,Vi 0,Vi 0,Vi 0]) qD O (fun e=>zA (zB (zC O (zHz (c:=0) O O V O O (ya qD O (zt qE) O ?_ qD)))))))
  refine zr O O (zt qE) O (zC O (zHz (c:=0) O O V O O (ya qD O (zt qE) O ?_ qD)))
  refine zAD O O (zt qE) O (zC O (zHz (c:=0) O O V O O (ya qD O (zt qE) O ?_ qD)))
  refine zAD O O (zt qE) O (yG (cs:=[Vj (0+1),Vi 0,Vi 2,Vj (0*100000),Vi 12,Vi 20,Vi 4,Vi 1048576,Vi 400,Vj (0*2)]) (z:=[Vi 0,Vi 0,Vi 0,Vi 0,Vi 0,Vi 0,Vi 0,Vi 0,Vi 0,Vi 0]) (pl:=[(0,1),(1,1),(2,1),(3,1),(4,1),(5,1),(6,1),(7,1),(8,1),(9,1)]) qD qD O (zk (v:= .agg #[Vi 0,Vi 0,Vi 0,Vi 0,Vi 0,Vi 0,Vi 0,Vi 0,Vi 0,Vi 0]) qD O (fun g=>ze 1 O O O (z6 O) O (zA (zB (zI (o:=0) O O (zJ 1 (v:=Vj (0+1)) O O O O (zI (o:=1) O O (zi 1 O O O O O (zA (zB (z1 1 O O O (ze 0 O O O (z6 O) O (zA (zP (xc (cs:=[Vj (0+1),Vj (0+1),Vi 2,Vj (0*100000),Vi 12,Vi 20,Vi 4,Vi 1048576,Vi 400,Vj (0*2)]) O O qD (Own.qc (i:=0) O) (fun a d=>⟨O,d.drop⟩)))))))))))))))))
theorem zPA(a b c:Int)(w:World)(d:a=0)(hb:b=0)(e:c=0):Rets Tryz.prog 7 #[.int .u8 a, .int .u8 b, .int .u8 c] w fun g h=>g= .agg (SetD.cells (jc 0)).toArray∧Own w [] [] h:=by
  subst d hb e
  exact zQo w
theorem zL8:ApOk lgZ 0:=by
  have h:yf 0 0 ([]:List (Nat×LeaD))=[]:=by unfold yf;split<;>rfl
  have g:kw 0 0 ([]:List (Nat×LeaD))=[]:=by unfold kw;split<;>rfl
  refine⟨by unfold x3;decide,by decide,by decide,List.nodup_nil,by decide,fun k=> ?_,fun i l hl=> ?_,?_,?_⟩
  · show 0≤yY k (yf 0 0 [])∧yY k (yf 0 0 [])≤9223372036854775807
    rw[h];exact⟨Int.le_refl 0,(show(0:Int)≤9223372036854775807 by decide)⟩
  · have hl:zl i (yf 0 0 [])=some l:=hl
    rw[h]at hl;cases hl
  · decide
  show(kw 0 0 []).length≤1
  rw[g];decide
theorem zNC(w:World):Rets Tryz.prog 8 #[] w fun u_ g=>u_=xl∧Own w [] [] g:=by
  refine zO Tryz.func8 O Tryz.ntmps8 (Own.start w) (zB (zG O (zA (zB (zH O O (fun g a=>(zPA ((0:Nat):Int) ((0:Nat):Int) ((0:Nat):Int) g qF qF qF).mono ?_))))))
  rintro _ w1 ⟨rfl,l⟩
  refine O0 ?_ (a.qb l)
  refine zH O O (fun g a=>(zKZ (jc 0) g O).mono ?_)
  rintro _ w1 ⟨d,j,m,n,o,p,r,s,t,h,i,a6,u,ab,ag,ac,ah,rfl,y,ad,e,ae,l⟩
  refine(?_:CL _ _ _ _ _ _ (Own w [] [_,_,_,_,_,_,_,_,_,_])) w1 (a.qb l)
  refine zC O (zb (vs:=[pt d,Vi 0]) O O O (zb (vs:=[pt d,Vi 0]) O O O (zG O (zG O (zA (zK (zB (zC O (yd O O O (zC O (yK (q:=0≠0) 2 2 [14,13] (false=true) O O O O O O trivial O (fun a4=> ?_) (fun am=> ?_))))))))))))
  ·refine zQ O (gF a4) (zC O (zQ O (gF a4) (yF qD O O O (z8 (yt _) (fun _ a=>a)))))
  refine zA (zT O (fun c1=> ?_) (fun c1=> ?_))
  ·exact absurd c1 V
  refine zN (zB (zC O (yG (cs:=[Vi 2,Vi 0,Vi 0,Vi 40,Vn 0,Vn 0,Vn 0,Vn 0,Vi 0,yh,Vi 0,Vi 0,Vn 0]) (z:=[Vi 0,Vi 0,Vi 0,Vi 0,Vn 0,Vn 0,Vn 0,Vn 0,Vi 0,yh,Vi 0,Vi 0,Vn 0]) (pl:=[(0,1),(1,1),(2,1),(3,1),(4,1),(5,1),(6,7)]) qD qD O (zH O O (fun g a=>(zFs d j m n o p (jc 0) r s t (.map (some u)) a6 0 i h ab ac g (Nat.zero_le _) O ((e).1) ((e).2) ((y).1) (by rw[(y).1.lg];exact zL8) (a.give [0,1,9,4,6] O V)).mono ?_)))))
  rintro _ w1 ⟨k,c,ai,an,ao,rfl,aj,a0,l⟩
  obtain⟨⟨⟨⟨⟨⟨⟨a7,ak⟩,av⟩,ap⟩,aq⟩,af⟩,ar⟩,aw⟩:=a0
  have al:∀ x∈c.fs,x.data.length≤1000000:=fun x hx=>by
   rw[a7]at hx
   have hx:=List.mem_singleton.1 hx
   subst hx
   have h3:x.data=[]:=congrArg EntA.data ak
   rw[h3];decide
  refine fq [0,1,9,4,6] O a l (zA (zB (zC O (zH O O (fun g a=>(zPe d j m n o p (jc 0) r s t (.map (some u)) k (0+1) i h (c.fs) g (by rw[a7];show 1≤1000;decide) al (a.give [5,7,10] O V)).mono ?_)))))
  rintro _ w1 ⟨a5,b,rfl,a8,l⟩
  have a9:b.length=1:=by have q:=a8;rw[a7]at q;exact q
  refine fq [5,7,10] O a l (zC O (zb (vs:=[a5,Vi 0]) O O O (zb (vs:=[a5,Vi 0]) O O O (zG O (zG O (zA (zB (zC O (yR O O O (zC O (yA (q:=0=0) 3 2 [29,28,27] (((b.length:Nat):Int)=1) O O O O O O trivial O (fun a1=> ?_) (fun au=> ?_))))))))))))
  ·refine zQ O (gT a1) (zC O (zQ O (gT a1) (zo (pV 11 O) O O (zQ O (gT a1) (yR O O O (z8 O (fun _ a=>a)))))))
  refine zC O ?_
  by_cases s6_7:((0:Int)=0)∧(((b.length:Nat):Int)=1)
  ·refine zQ O (gT s6_7) (zC O (zQ O (gT s6_7) (zH O O (fun g a=>(zFD d j m n o p (jc 0) r s t (.map (some u)) k (0+1) i h (c.fs) 1 g qF (a.give [8,5] O V)).mono ?_))))
   rintro _ w1 ⟨rfl,l⟩
   refine fq [8,5] O a l (zQ O (gT s6_7) (zH O O (fun g a=>(zJb j c g (a.give [5] O V)).mono ?_)))
   rintro _ w1 ⟨aa,a2,rfl,a3,l⟩
   refine fq [5] O a l (zQ O (gT s6_7) (zH O O (fun g a=>(jh aa a2 g (a.give [12] O V)).mono ?_)))
   rintro _ w1 ⟨rfl,l⟩
   refine fq [12] O a l (zQ O (gT s6_7) (yR O O O (zCp (gT s6_7) O (zG O (zA (zP (zn (v:= .bool (decide (((a2.idx:Nat):Int)=((1:Nat):Int)))) O O (fun g a=>⟨(congrArg Value.bool (decide_eq_true (by have q:=a3;rw[af]at q;rw[q]))),a.drop⟩))))))))
  exact absurd (show((0:Int)=0)∧(((b.length:Nat):Int)=1)from⟨O,by rw[a9];rfl⟩) s6_7
structure WdD where
  nb:Nat
  e1:Nat
  e2:Nat
  pb:Nat
  cb:Nat
  st:SetD
  nv:Value
  dv:Value
  ev:Value
  km:Value
  lv:Value
  cv:Value
  ov:Value
  k:Nat
  es:List EntD
  cs:List CalD
  os:List Int
  n:NdD
  d:EgD
  c:CkD
  ps:PsD
def Res.wd(wb:Nat)(W:WdD):Res:=Res.star [Res.row wb 76 [Vi W.st.nodes,Vi W.st.voters,Vi W.st.edges,Vi W.st.rho,Vi W.st.base,Vi W.st.spread,Vi W.st.beat,Vi W.st.disk,Vi W.st.post,Vi W.st.keep,W.nv,W.dv,W.ev,pt W.pb,pt W.cb,Vj W.k,W.cv,W.ov,W.lv, .bool false, .slice none 0 0,W.km],Res.vec 65 1 W.nv [W.nb].length ([W.nb].flatMap P1),Res.vec 53 1 W.ev [W.e1,W.e2].length ([W.e1,W.e2].flatMap P1),vE W.lv W.es,Res.vec 45 21 W.cv W.cs.length (W.cs.flatMap CalD.cells),vI W.ov W.os,Res.nd W.nb W.n,Res.eg W.e1 W.d,Res.ck W.cb W.c,Res.ps W.pb W.ps]
structure WdF(W:WdD):Prop where
  st:W.st=jc 0
  n:NdF W.n
  ns:W.n.st=W.st
  d:EgZ W.d
  di:W.d.id=1
  c:CkA W.c 0
  cr:W.c.rho=0
  ps:W.ps.l=[]
  es:W.es=[]
  cs:W.cs=[]
  os:W.os=[0,0]
  k:W.k=0
structure WdI(W:WdD)(i m:Nat):Prop where
  n:NdL W.n (6100+6100*i) (3+2*i)
  c:CkA W.c 2000
  t:W.c.t1=W.n.x.t.now
  es:W.es.length=W.n.x.es.length
  ne:W.n.x.es.length=i+1
  dn:W.d.nodes=1
  di:W.d.id=1
  dw:W.d.waits=false
  ds:W.d.seq=i
  dx:W.d.next=1
  ps:W.ps.l=[]
  os:W.os=[0,0]
  k:W.k≤m
  cl:W.cs.length≤i
theorem zPo(st:SetD)(w:World)(a:st=jc 0):Rets Tryz.prog 20 #[.agg (SetD.cells st).toArray] w fun g h=>∃ (wb:Nat) (W:WdD),g= .tuple #[pt wb,Vi 0]∧WdF W∧Own w [] [Res.wd wb W] h:=by
  refine(zKZ st w a).mono ?_
  rintro _ l ⟨wb,nb,e1,e2,pb,cb,nv,dv,ev,ov,cv,lv,m,n,i,c,ps,rfl,b,d,e,j,k⟩
  exact⟨wb,⟨nb,e1,e2,pb,cb,st,nv,dv,ev, .map (some m),lv,cv,ov,0,[],[],[0,0],n,i,c,ps⟩,O,⟨a,b.1,b.2,d.1,d.2,e.1,e.2,j,O,O,O,O⟩,(k.qf [0,1,2,9,8,3,4,5,6,7] O V).sel [0] O V⟩
theorem zNV{S:List Nat}(wb:Nat)(W:WdD)(w:World)(h:WdF W)(p:Own w S [Res.wd wb W] w):Rets Tryz.prog 9 #[pt wb, .agg #[Vi 2,Vi 0,Vi 0,Vi 40,Vn 0,Vn 0,Vn 0,Vn 0,Vi 0,yh,Vi 0,Vi 0,Vn 0]] w fun u_ w'=>∃ (W':WdD) (r:RepD),u_=Vi 0∧WdI W' 0 1∧zAG 0 0 0 [] [] [] (⟨1,1,1,0,[]⟩:EntA) r false 0 W'.n.s.idx W'.n.s.a.now W'.n.s.a.cnt W'.n.s.a.kb W'.n.s.a.kl W'.n.s.a.kr∧Own w S [Res.wd wb W'] w':=by
  have hi:=p.qg 0 rfl
  have a3:=h.n.lg
  have g:=h.es
  have t:Own w _ [_,_,_,_,_] w:=hi.give [0,1,3,6,8] rfl V
  obtain⟨nb,e1,e2,pb,cb,st,nv,dv,ev,km,lv,cv,ov,k,es,cs,os,n,d,c,ps⟩:=W
  have g:es=[]:=g
  subst g
  have u:cs=[]:=h.cs
  subst u
  refine(zFs wb nb e1 e2 pb cb st nv dv ev km lv k cv ov n c w (by have q:=h.k;have q:k=0:=q;omega) (by have q:st=jc 0:=h.st;rw[q];rfl) h.c h.cr h.n (by have q:n.s.a=lgZ:=h.n.lg;rw[q];exact zL8) t).mono ?_
  rintro _ w1 ⟨v,b,c',e,r,rfl,f1,f2,hO⟩
  obtain⟨⟨⟨⟨⟨⟨⟨y,a4⟩,z⟩,a1⟩,i⟩,a2⟩,j⟩,l⟩:=f2
  have m:b.x.es.length=1:=by have q:=congrArg List.length j;simpa using q
  have o:zAG 0 0 0 [] [] [] (⟨1,1,1,0,[]⟩:EntA) r false 0 b.s.idx b.s.a.now b.s.a.cnt b.s.a.kb b.s.a.kl b.s.a.kr:=by
    have q:n.s.a=lgZ:=h.n.lg
    rw[q]at l;exact l
  have a0:=hi.qi [0,1,3,6,8] rfl hO
  refine⟨⟨nb,e1,e2,pb,cb,st,nv,dv,ev,km,v,cv,ov,k+1,b.fs,[],os,b,d,c',ps⟩,r,O,⟨z,f1.1,f1.2.trans i.symm,by show b.fs.length=b.x.es.length;rw[y,m];rfl,m,h.d.1.1.1.1,h.di,h.d.1.1.2.1,h.d.1.1.2.2,h.d.1.2,h.ps,h.os,?_,Nat.le_refl 0⟩,o,(a0.qf [5,6,0,7,1,2,8,3,9,4] O V).sel [1] O V⟩
  show k+1≤1
  have q:k=0:=h.k
  omega
structure WdA(W:WdD)(i m:Nat)(y:AskD)(pv:Value):Prop where
  n:NdL W.n (6100+6100*i) (3+2*i)
  c:CkA W.c 2000
  t:W.c.t1=W.n.x.t.now
  es:W.es.length=W.n.x.es.length
  ne:W.n.x.es.length=i+1
  dn:W.d.nodes=1
  di:W.d.id=1
  dw:W.d.waits=true
  ds:W.d.seq=i+1
  dx:W.d.next=1
  da:W.d.a=y
  ps:W.ps.l=[({src:= -1,dst:=1,dv:=pv,data:=y.enc}:LetD)]
  os:W.os=[((W.cs.length:Nat):Int),0]
  k:W.k≤m
  cs:∃ cs0 q,W.cs=cs0++[zDn y.cmd q]
  cl:W.cs.length≤i+1
structure WdB(W:WdD)(i m:Nat)(y:AskD)(x:TldD)(pv:Value):Prop where
  n:NdL W.n (6100+6100*(i+1)) (3+2*(i+1))
  c:CkA W.c 2000
  t:W.c.t1=W.n.x.t.now
  es:W.es.length=W.n.x.es.length
  ne:W.n.x.es.length=i+1+1
  dn:W.d.nodes=1
  di:W.d.id=1
  dw:W.d.waits=true
  ds:W.d.seq=i+1
  dx:W.d.next=1
  da:W.d.a=y
  ps:W.ps.l=[({src:=1,dst:= -1,dv:=pv,data:=x.enc}:LetD)]
  os:W.os=[((W.cs.length:Nat):Int),0]
  k:W.k≤m
  cs:∃ cs0 q,W.cs=cs0++[zDn y.cmd q]
  cl:W.cs.length≤i+1
def zAH(cm:CmdD)(i:Nat):AskD:=zCg (zBu cm.op cm.key cm.amount cm.span cm.lease) 1 (i+1)
def zEh(cm:CmdD)(i:Nat):CmdD:={cm with session:=1,seq:=i+1}
theorem jx(cm:CmdD)(i:Nat):zAH cm i={look:=false,lazy:=false,seq:=i+1,cmd:=zEh cm i,key:=⟨#[]⟩}:=by
  unfold zAH
  rw[zBn rfl]
  rfl
theorem zE9{cm:CmdD}{i:Nat}(h:cm.wf)(hi:i≤100):(zEh cm i).wf:=⟨by show(1:Nat)<_;decide,by show i+1<_;omega,h.key,h.amount,h.span,h.lease⟩
theorem zID{cm:CmdD}{i:Nat}(h:¬ xf cm.op cm.key cm.amount cm.span):(zEh cm i).ok:=by
  have h1:(1≤cm.op∧cm.op≤5)∧cm.key.size≤64:=by
    unfold xf at h
    omega
  exact h1
theorem zIP{cm:CmdD}{i:Nat}(h:cm.wf)(hi:i≤100):(zAH cm i).wf:=by
  rw[jx]
  exact⟨by show i+1<_;omega,zE9 h hi,by show(0:Nat)≤_;decide⟩
theorem zNS{cm:CmdD}{i:Nat}(h:¬ xf cm.op cm.key cm.amount cm.span):(zAH cm i).ok:=zIR h
def zFF(i:Nat)(r:RepD):TldD:={seq:=i+1,retry:=false,lead:=0,reply:=r,most:=0,lent:=0}
theorem zIX{i:Nat}{r:RepD}(h:r.wf)(hi:i≤100):(zFF i r).wf:=⟨by show i+1<_;omega,h,by show x3 0;unfold x3;decide,by show x3 0;unfold x3;decide⟩
theorem zIC{i:Nat}{r:RepD}(h:r.ok):(zFF i r).ok:=⟨⟨by show(0:Int)≤0;decide,by show(0:Int)≤16;decide⟩,h⟩
theorem zP7{S:List Nat}(wb:Nat)(W:WdD)(i m:Nat)(cm:CmdD)(w:World)(h:WdI W i m)(hi:i≤40)(hm:m≤900)(s:cm.wf)(u:Own w S [Res.wd wb W] w):Rets Tryz.prog 9 #[pt wb, .agg #[Vi 11,Vi 1,Vi 0,Vi 0,Vn 0,Vn 0,Vn cm.session,Vn cm.seq,Vi cm.op, .string cm.key,Vi cm.amount,Vi cm.span,Vn cm.lease]] w fun u_ w'=>∃ (e:Int) (W':WdD) (pv:Value),u_=Vi e∧W'.n=W.n∧((e≠0∧WdI W' i (m+1))∨(e=0∧¬ xf cm.op cm.key cm.amount cm.span∧WdA W' i (m+1) (zAH cm i) pv))∧Own w S [Res.wd wb W'] w':=by
  have g:=u.qg 0 rfl
  obtain⟨nb,e1,e2,pb,cb,st,nv,dv,ev,km,lv,cv,ov,k,es,cs,os,n,d,c,ps⟩:=W
  have v:os=[0,0]:=h.os
  subst v
  have hk:k≤m:=h.k
  have x:cs.length≤i:=h.cl
  have o:d.seq=i:=h.ds
  refine(zNP wb nb e1 e2 pb cb st nv dv ev km lv k cv ov es cs d c 2000 ps cm w qE h.c s qE h.dw h.ps qE h.dx (g.give [0,2,4,5,7,8,9] O V)).mono ?_
  rintro _ w1 ⟨e,y,z,p,pv,b,a0,rfl,r,f2,f3,hO⟩
  have a1:=((g.qi [0,2,4,5,7,8,9] rfl hO).qf [3,0,4,1,5,6,2,7,8,9] rfl V).sel [0] rfl V
  refine⟨e,⟨nb,e1,e2,pb,cb,st,nv,dv,ev,km,lv,y,ov,k+1,es,b,a0,n,z,c,p⟩,pv,O,O,?_,a1⟩
  rcases f3 with q|q
  · refine .inl ⟨by rw[q.e];decide,⟨h.n,h.c,h.t,h.es,h.ne,r.1.2.trans h.dn,r.1.1.trans h.di,q.waits,q.seq.trans h.ds,f2.trans h.dx,q.l,q.os,?_,?_⟩⟩
    · show k+1≤m+1
      omega
    show b.length≤i
    rw[q.cs];exact x
  have j:z.a=zAH cm i:=by
    rw[q.a]
    have q1:d.id=1:=h.di
    rw[q1,o];rfl
  refine .inr ⟨q.e,q.good,⟨h.n,h.c,h.t,h.es,h.ne,r.1.2.trans h.dn,r.1.1.trans h.di,q.waits,?_,f2.trans h.dx,j,?_,q.os,?_,⟨cs,k+1,?_⟩,?_⟩⟩
  · show z.seq=i+1
    rw[q.seq,o]
  · show p.l=_
    rw[q.l,j]
  · show k+1≤m+1
    omega
  · show b=_
    rw[q.cs,j]
  show b.length≤i+1
  rw[q.cs,List.length_append]
  show cs.length+1≤i+1
  omega
theorem zK7{S:List Nat}(wb:Nat)(W:WdD)(i m:Nat)(cm:CmdD)(pv:Value)(w:World)(h:WdA W i m (zAH cm i) pv)(hi:i≤40)(hm:m≤900)(z:cm.wf)(hb:¬ xf cm.op cm.key cm.amount cm.span)(hL:LgI W.n.s.a i)(a4:Own w S [Res.wd wb W] w):Rets Tryz.prog 9 #[pt wb, .agg #[Vi 3,Vi 0,Vi 0,Vi 0,Vn 0,Vn 0,Vn 0,Vn 0,Vi 0,yh,Vi 0,Vi 0,Vn 0]] w fun u_ w'=>∃ (W':WdD) (u:Value) (r:RepD) (b:Bool),u_=Vi 0∧WdB W' i (m+1) (zAH cm i) (zFF i r) u∧LgI W'.n.s.a (i+1)∧DoK 0 W.n.s.a.cnt W.n.s.a.kb W.n.s.a.kl W.n.s.a.kr (zEh cm i) r b W'.n.s.a.cnt W'.n.s.a.kb W'.n.s.a.kl W'.n.s.a.kr∧(r.wf∧r.ok)∧Own w S [Res.wd wb W'] w':=by
  have p:=a4.qg 0 rfl
  have hp:=zKw hL.kl.unt
  have a0:=hL.now
  have a5:(zAH cm i).cmd=zEh cm i:=by rw[jx]
  have a1:(zAH cm i).seq=i+1:=by rw[jx]
  have a2:∀ r b g j l o,DoK (yr W.n.s.a.now 0) W.n.s.a.cnt W.n.s.a.kb (yf W.n.s.a.now 0 W.n.s.a.kl) W.n.s.a.kr (zAH cm i).cmd r b g j l o→DoK 0 W.n.s.a.cnt W.n.s.a.kb W.n.s.a.kl W.n.s.a.kr (zEh cm i) r b g j l o:=fun r b g j l o y=>by
    rw[a0,zEf,hp.1,a5]at y
    exact y
  have a3:=fun r b g j l o y=>zRi hL qE (zE9 z qE) (zID hb) rfl rfl (a2 r b g j l o y)
  have hk:W.k≤m:=h.k
  have a6:=h.ne
  refine(zI1 wb W.nb W.e1 W.e2 W.pb W.cb W.st W.nv W.dv W.ev W.km W.lv W.k W.cv W.ov W.es W.n W.c 2000 W.ps pv (zAH cm i) RepD.zero (6100+6100*i) (3+2*i) w qE h.c h.ps h.n qE h.t (by rw[jx]) (zIP z qE) (zNS hb) (by rw[jx];rfl) (by rw[jx];exact hL.find) (hL.ap qE) qE qE h.es (fun r b g j l o y=> ?_) (p.give [0,1,3,6,8,9] O V)).mono ?_
  · have q:=a3 r b g j l o y
    rw[a1]
    exact⟨⟨zIX q.2.1.1 qE,zIC q.2.1.2⟩,by rw[q.2.2];decide⟩
  rintro _ w1 ⟨a7,u,v,a8,e,r,b,rfl,f1,f2,f3,f4,f5,f6,f7,f8,hO⟩
  have a9:=((p.qi [0,1,3,6,8,9] rfl hO).qf [4,5,0,6,1,2,7,3,8,9] rfl V).sel [0] rfl V
  have q:=a3 _ _ _ _ _ _ f8
  have q2:=a2 _ _ _ _ _ _ f8
  rw[a0,zEf]at f7
  rw[a1]at f1
  refine⟨⟨W.nb,W.e1,W.e2,W.pb,W.cb,W.st,W.nv,W.dv,W.ev,W.km,a7,W.cv,W.ov,W.k+1,W.es++v.fs,W.cs,W.os,v,W.d,W.c,a8⟩,u,r,b,O,⟨?_,h.c,?_,?_,?_,h.dn,h.di,h.dw,h.ds,h.dx,h.da,f1,h.os,?_,h.cs,h.cl⟩,⟨f7,q.1.kl,q.1.kr⟩,q2,q.2.1,a9⟩
  · have e1:6100+6100*(i+1)=6100+6100*i+6100:=by omega
    have e2:3+2*(i+1)=3+2*i+2:=by omega
    show NdL v _ _
    rw[e1,e2];exact f2
  · show W.c.t1=v.x.t.now
    rw[f4];exact h.t
  · show(W.es++v.fs).length=v.x.es.length
    rw[List.length_append,f5,f6,h.es]
  · show v.x.es.length=i+1+1
    rw[f5,a6]
  show W.k+1≤m+1
  omega
theorem zLw{S:List Nat}(wb:Nat)(W:WdD)(i m:Nat)(cm:CmdD)(r:RepD)(pv:Value)(w:World)(h:WdB W i m (zAH cm i) (zFF i r) pv)(hi:i≤40)(hm:m≤900)(o:cm.wf)(hr:r.wf∧r.ok)(p:Own w S [Res.wd wb W] w):Rets Tryz.prog 9 #[pt wb, .agg #[Vi 3,Vi 0,Vi 0,Vi 0,Vn 0,Vn 0,Vn 0,Vn 0,Vi 0,yh,Vi 0,Vi 0,Vn 0]] w fun u_ w'=>∃ (W':WdD) (b:List CalD) (x:CalD),u_=Vi 0∧W'.n=W.n∧WdI W' (i+1) (m+1)∧W'.cs=b++[x]∧(0≤x.stop∧x.reply=r)∧Own w S [Res.wd wb W'] w':=by
  have g:=p.qg 0 rfl
  obtain⟨nb,e1,e2,pb,cb,st,nv,dv,ev,km,lv,cv,ov,k,es,cs,os,n,d,c,ps⟩:=W
  have s:os=[((cs.length:Nat):Int),0]:=h.os
  subst s
  have hk:k≤m:=h.k
  have u:cs.length≤i+1:=h.cl
  obtain⟨b,q,e⟩:=h.cs
  have e:cs=b++[zDn (zAH cm i).cmd q]:=e
  have l:d.a=zAH cm i:=h.da
  have v:cs.length=b.length+1:=by rw[e,List.length_append];rfl
  have j:zf cs (cs.length - 1)=zDn (zAH cm i).cmd q:=by
    rw[v,Nat.add_sub_cancel,e]
    exact jd qH
  refine(zJf wb nb e1 e2 pb cb st nv dv ev km lv k cv ov es cs d c 2000 ps pv (zFF i r) w qE h.c h.ps (zIX hr.1 qE) (zIC hr.2) O h.dw (by rw[l,jx];rfl) (by rw[l];exact zIP o qE) (by have z:d.nodes=1:=h.dn;omega) qE (by rw[j];rfl) qE (g.give [0,2,4,5,7,8,9] O V)).mono ?_
  rintro _ w1 ⟨d',y,rfl,f1,f2,f3,f4,f5,hO⟩
  have a0:=((g.qi [0,2,4,5,7,8,9] rfl hO).qf [3,0,4,1,5,6,2,7,8,9] rfl V).sel [0] rfl V
  refine⟨⟨nb,e1,e2,pb,cb,st,nv,dv,ev,km,lv,cv,ov,k+1,es,zCc cs (k+1) (zFF i r),[0,0],n,d',c,y⟩,b,({zDn (zAH cm i).cmd q with stop:=((k+1:Nat):Int),reply:=r}:CalD),O,O,⟨h.n,h.c,h.t,h.es,h.ne,f3.1.2.trans h.dn,f3.1.1.trans h.di,f2,f4.2.trans h.ds,f5.trans h.dx,f1,O,?_,?_⟩,?_,⟨?_,O⟩,a0⟩
  · show k+1≤m+1
    omega
  · show(zCc cs (k+1) (zFF i r)).length≤i+1
    unfold zCc
    rw[List.length_set,List.length_set]
    exact u
  · show zCc cs (k+1) (zFF i r)=_
    rw[e,zJd]
    rfl
  show 0≤((k+1:Nat):Int)
  omega
theorem zJ0{S:List Nat}(wb:Nat)(W:WdD)(w:World)(hl:W.cs.length≤1000)(b:Own w S [Res.wd wb W] w):Rets Tryz.prog 12 #[pt wb] w fun c d=>∃ (r:Value),c=r∧Own w S [Res.wd wb W,Res.vec 45 21 r W.cs.length (W.cs.flatMap CalD.cells)] d:=by
  have a:=b.qg 0 rfl
  refine(zK1 wb W.nb W.e1 W.e2 W.pb W.cb W.st W.nv W.dv W.ev W.km W.lv W.k W.cv W.ov W.es W.cs w hl (a.give [0,4] O V)).mono ?_
  rintro _ h ⟨r,e,g⟩
  exact⟨r,e,((a.qi [0,4] O g).qf [8,0,1,2,9,3,4,5,6,7] O V).sel [1,0] O V⟩
theorem zKQ(st:SetD)(w:World)(l:st=jc 0):Rets Tryz.prog 6 #[.agg (SetD.cells st).toArray,zW,Vi 0] w fun m e=>∃ (wb:Nat) (W:WdD),m=pt wb∧WdF W∧Own w [] [Res.wd wb W] e:=by
  refine zO Tryz.func6 O Tryz.ntmps6 (Own.start w) (zB (zj O O (fun n=>zG O (zA (zB (z1 (cs:=(SetD.cells st)) 0 O O O (zH O O (fun e c=>(zPo st e l).mono ?_))))))))
  rintro _ o ⟨a,W2_,rfl,d,p⟩
  refine(?_:CL _ _ _ _ _ _ (Own w [] [_,_])) o (c.qb p)
  refine zC O (zb (vs:=[pt a,Vi 0]) O O O (zb (vs:=[pt a,Vi 0]) O O O (zG O (zG O (zA (zK (zB (zC O (yd O O O (zA (zT O (fun h=> ?_) (fun h=> ?_))))))))))))
  ·exact absurd O h
  refine zN (zK (zB (zG O (zA (zU (yP (fun(i:Nat)=>[(1,zW),(2,Vi 0),(7,pt a),(9,Vj i)]) (fun(i:Nat)=>i=0) (fun(i:Nat)=>[Res.row n 26 (SetD.cells st),Res.wd a W2_]) (fun(i:Nat)=>0) (fun e c=>⟨0,⟨O,O,O,O,trivial⟩,O,c⟩) (fun i g r=>(zK (zB (zC O (zC O (jK qD O O (zy O O O (zC O (yA (q:=((i:Nat):Int)<((0:Nat):Int)) 3 4 [24,23,22] (((i:Nat):Int)<0) O O O O O O trivial O (fun b=> ?_) (fun j=> ?_))))))))))))))))
  ·refine zQ O (gT b) (zC O (zQ O (gT b) (zC O (zQ O (gT b) (zy O O O (z8 O (fun _ c=>c)))))))
  refine zA (zT O (fun k=> ?_) (fun k=> ?_))
  ·exact absurd k.1 qE
  refine zz O (zB (zC O (zG O (zA (zP (zn (v:=pt a) O O (fun e c=>⟨a,W2_,O,d,c.sel [1] O V⟩)))))))
instance iWh9:Inhabited CmdD:=⟨zGX⟩
theorem zKO{a b:LgA}(h1:a.now=b.now)(h2:a.cnt=b.cnt)(c:a.kb=b.kb)(d:a.kl=b.kl)(e:a.kr=b.kr):a=b:=by
  cases a;cases b
  dsimp only at *
  subst h1 h2 c d e
  rfl
theorem zEN{a:LgA}{r:RepD}{idx:Nat}(h:zAG 0 0 0 [] [] [] (⟨1,1,1,0,[]⟩:EntA) r false 0 idx a.now a.cnt a.kb a.kl a.kr):a=lgZ:=by
  have hp:=zKw (kl:=[]) (fun p hp=>nomatch hp)
  rcases h with⟨⟨q,_⟩|⟨_,q,_⟩,_⟩|⟨_,_,_,b,⟨_,_,_,h1,h2,c,d⟩|⟨q,_⟩⟩
  · exact absurd (by unfold EntA.ok;decide) q
  · exact absurd rfl q
  · exact zKO (b.trans zEf) h1 h2 (c.trans hp.1) d
  exact absurd q V
theorem zPw:LgI lgZ 0:=⟨rfl,⟨Nat.le_refl 0,List.nodup_nil,Nat.le_refl 0,(fun p hp=>nomatch hp),fun k=>by show(0:Int)≤_;decide⟩, .inl ⟨rfl,rfl⟩⟩
theorem WdI.up{W:WdD}{i m m':Nat}(h:WdI W i m)(a:m≤m'):WdI W i m':=⟨h.n,h.c,h.t,h.es,h.ne,h.dn,h.di,h.dw,h.ds,h.dx,h.ps,h.os,Nat.le_trans h.k a,h.cl⟩
theorem zOE{i:Nat}{cm:CmdD}{a0 a1 b0 b1:LgA}{r s:RepD}{d1 d2:Bool}(hb:¬ xf cm.op cm.key cm.amount cm.span)(a:LgI a0 i)(d:a0=b0)(e:a1.now=0)(b:b1.now=b0.now)
    (h1:DoK 0 a0.cnt a0.kb a0.kl a0.kr (zEh cm i) r d1 a1.cnt a1.kb a1.kl a1.kr) (h2:DoK b0.now b0.cnt b0.kb b0.kl b0.kr (zEh cm i) s d2 b1.cnt b1.kb b1.kl b1.kr):r=s∧a1=b1:=by
  subst d
  rw[a.now]at h2 b
  obtain⟨⟨q1,f⟩,g,h,j⟩:=zP0 (c:=zEh cm i) (zID hb) (by show(1:Nat)≠0;decide) (by show i+1≠0;omega) (by show(ym a0.kr 1 (i+1)).2=8;rw[a.find]) h1 h2
  exact⟨q1,zKO (e.trans b.symm) f g h j⟩
theorem zEV(v:Value)(l:List CmdD)(w:World)(ax:∀ c∈l,c.wf)(b5:l.length≤10000000)(hv:Rd w [] (Res.sl v l.length (l.flatMap CmdD.cells))):Rets Tryz.prog 3 #[v] w fun u_ h=>u_=xl∧Own w [] [] h:=by
  refine zO Tryz.func3 O Tryz.ntmps3 (Own.start w) (zB (zG O (zA (zB (zH O O (fun h d=>(zPA ((0:Nat):Int) ((0:Nat):Int) ((0:Nat):Int) h qF qF qF).mono ?_))))))
  rintro _ w1 ⟨rfl,u⟩
  refine O0 ?_ (d.qb u)
  refine zH O O (fun h d=>(zKQ (jc 0) h O).mono ?_)
  rintro _ w1 ⟨m,W2_,rfl,ag,u⟩
  refine O1 ?_ (d.qb u)
  refine zG O (zA (zK (zB (zH O O (fun h d=>(zNC h).mono ?_)))))
  rintro _ w1 ⟨rfl,u⟩
  refine O1 ?_ (d.qb u)
  refine xi (b:=true) O O (zC O (zQ O O (zC O (zQ O O (yF qD O O O (y2 O O (zA (yT O (zN (zB (zC O (yG (cs:=[Vi 2,Vi 0,Vi 0,Vi 40,Vn 0,Vn 0,Vn 0,Vn 0,Vi 0,yh,Vi 0,Vi 0,Vn 0]) (z:=[Vi 0,Vi 0,Vi 0,Vi 0,Vn 0,Vn 0,Vn 0,Vn 0,Vi 0,yh,Vi 0,Vi 0,Vn 0]) (pl:=[(0,1),(1,1),(2,1),(3,1),(4,1),(5,1),(6,7)]) qD qD O (zH O O (fun h d=>(zNV m W2_ h ag (d.give [0] O V)).mono ?_))))))))))))))
  rintro _ w1 ⟨W'3_,b6,rfl,ah,y,u⟩
  refine fq [0] O d u (zA (zB (zH O O (fun h d=>(zLE h).mono ?_))))
  rintro _ w1 ⟨ai,ay,rfl,az,a7,u⟩
  refine(?_:CL _ _ _ _ _ _ (Own w [] [_,_])) w1 (d.qb u)
  refine zG O (zA (zB (zG O (zA (zK (zB (zG O (zA (zU (zIj (fun(j:Nat) (i:Nat) (W:WdD) (s:LgD)=>[(0,v),(3,pt m),(4,pt ai),(5,Vn i),(6,Vj j)]) (fun(j:Nat) (i:Nat) (W:WdD) (s:LgD)=>((j≤40∧i≤j)∧WdI W i (1+3*j))∧LgI W.n.s.a i∧W.n.s.a=s.a) (fun(j:Nat) (i:Nat) (W:WdD) (s:LgD)=>[Res.wd m W,Res.lg ai s]) (fun(j:Nat) (i:Nat) (W:WdD) (s:LgD)=>40 - j) (fun h d=>⟨0,0,W'3_,ay,⟨O,O,O,O,O,trivial⟩,⟨⟨⟨Nat.zero_le _,Nat.le_refl 0⟩,ah⟩,by rw[zEN y];exact zPw,(zEN y).trans a7.symm⟩,d⟩) (fun j i W s g hΦ=> ?_)))))))))))
  have hj:=hΦ.1.1
  have b0:=hΦ.1.2
  have aj:=hΦ.2.1
  have ak:=hΦ.2.2
  refine zK (zB (zC O (zC O (zo (pR hv) O O (zy O O O (zC O (yA (q:=((j:Nat):Int)<((l.length:Nat):Int)) 2 4 [30,29] (((j:Nat):Int)<40) O O O O O O trivial O (fun ae=> ?_) (fun b3=> ?_))))))))
  ·refine zQ O (gT ae) (zC O (zQ O (gT ae) (zy O O O (z8 O (fun _ d=>d)))))
  refine zA (zT O (fun c2=> ?_) (fun c2=> ?_))
  ·have a9:=ax _ (zx (l:=l) (j:=j) qE)
   refine zN (zK (zU (zB (zC O (zC O (yH (pR hv) 7 j O O O qE O (jC (pR hv) 7 j (off:=yk v+j*7) (fun _=>O) O O qE O (zk (v:= .agg #[Vn 0,Vn 0,Vi 0,yh,Vi 0,Vi 0,Vn 0]) qD O (fun b7=>ze 2 O O O (z6 O) O (zA (zK (zB (zC O (z1 (cs:=(CmdD.cells (zf l j))) 2 O O O (yG (cs:=[Vi 11,Vi 1,Vi 0,Vi 0,Vn 0,Vn 0,Vn ((zf l j).session),Vn ((zf l j).seq),Vi ((zf l j).op), .string ((zf l j).key),Vi ((zf l j).amount),Vi ((zf l j).span),Vn ((zf l j).lease)]) (z:=[Vi 0,Vi 0,Vi 0,Vi 0,Vn 0,Vn 0,Vn 0,Vn 0,Vi 0,yh,Vi 0,Vi 0,Vn 0]) (pl:=[(0,1),(1,1),(2,1),(3,1),(4,1),(5,1),(6,7)]) qD qD O (zH O O (fun h d=>(zP7 m _ _ _ _ h b0 qE qE a9 (d.give [0] O V)).mono ?_)))))))))))))))))
   rintro _ w1 ⟨b9,W'8_,af,rfl,k,p,u⟩
   refine fq [0] O d u (yd O O O (zA (zT O (fun c3=> ?_) (fun c3=> ?_))))
   ·have b1:WdI W'8_ i (1+3*j+1):=by rcases p with q|q;exact q.2;exact absurd q.1 c3
    refine zz O (zd (zC O (zr O O (zt qE) O (zG O (zw (fun h d=>⟨j+1,i,W'8_,s,⟨O,O,O,O,O,trivial⟩,⟨⟨⟨by omega,by omega⟩,b1.up qE⟩,by rw[k];exact aj,by rw[k];exact ak⟩,d.sel [2,0] O V,qE⟩))))))
   have al:¬ xf (zf l j).op (zf l j).key (zf l j).amount (zf l j).span∧WdA W'8_ i (1+3*j+1) (zAH (zf l j) i) af:=by rcases p with q|q;exact absurd q.1 c3;exact q.2
   have ao:LgI W'8_.n.s.a i:=by rw[k];exact aj
   refine zN (zB (zC O (yG (cs:=[Vi 3,Vi 0,Vi 0,Vi 0,Vn 0,Vn 0,Vn 0,Vn 0,Vi 0,yh,Vi 0,Vi 0,Vn 0]) (z:=[Vi 0,Vi 0,Vi 0,Vi 0,Vn 0,Vn 0,Vn 0,Vn 0,Vi 0,yh,Vi 0,Vi 0,Vn 0]) (pl:=[(0,1),(1,1),(2,1),(3,1),(4,1),(5,1),(6,7)]) qD qD O (zH O O (fun h d=>(zK7 m W'8_ i (1+3*j+1) (zf l j) af h al.2 qE qE a9 al.1 ao (d.give [2] O V)).mono ?_)))))
   rintro _ w1 ⟨W'10_,aa,ap,aw,rfl,ab,r,a3,a4,u⟩
   refine fq [2] O d u (zA (zB (zC O (yG (cs:=[Vi 3,Vi 0,Vi 0,Vi 0,Vn 0,Vn 0,Vn 0,Vn 0,Vi 0,yh,Vi 0,Vi 0,Vn 0]) (z:=[Vi 0,Vi 0,Vi 0,Vi 0,Vn 0,Vn 0,Vn 0,Vn 0,Vi 0,yh,Vi 0,Vi 0,Vn 0]) (pl:=[(0,1),(1,1),(2,1),(3,1),(4,1),(5,1),(6,7)]) qD qD O (zH O O (fun h d=>(zLw m W'10_ i (1+3*j+1+1) (zf l j) ap aa h ab qE qE a9 a4 (d.give [2] O V)).mono ?_))))))
   rintro _ w1 ⟨W'14_,ac,aq,rfl,a1,e,a5,t,u⟩
   refine fq [2] O d u (zA (zB (zC O (zr O O (yp qE) O (zG O (zA (zB (zC O (zI (o:=0) O O (zi (cs:=(CmdD.cells (zf l j))) 1 O O O O O (zI (o:=1) O O (zi 1 O O O O O (zA (zB (zC O (z1 1 O O O (zH O O (fun h d=>(zST ai _ ({(zf l j)with session:=1,seq:=i+1}:CmdD) h (zE9 (i:=i) a9 qE) (by rw[←ak];exact aj.dk qE _) (d.give [0] O V)).mono ?_))))))))))))))))))
   rintro _ w1 ⟨am,a0,a2,rfl,ad,a6,u⟩
   have a8:=zOE (cm:=zf l j) al.1 ao ((congrArg (fun n:NdD=>n.s.a) k).trans ak) r.now a6 a3 ad
   refine(?_:CL _ _ _ _ _ _ (Own w [] [_,_,_])) w1 (d.qi [0] O u)
   refine zC O (zb (vs:=[.agg (RepD.cells a0).toArray, .bool a2]) O O O (zb (vs:=[.agg (RepD.cells a0).toArray, .bool a2]) O O O (zk (v:= .agg #[Vn 0,Vn 0,Vi 0,Vn 0,Vi 0,Vi 0]) qD O (fun b8=>ze 3 O O O (z6 O) O (zG O (zA (zB (zC O (zH O O (fun h d=>(zJ0 m W'14_ h (by have:=(e).cl;omega) (d.give [1] O V)).mono ?_))))))))))
   rintro ar w1 ⟨_,rfl,u⟩
   have au:=a5
   have av:W'14_.cs.length=ac.length+1:=by rw[au,List.length_append];rfl
   have b4:W'14_.cs.length≤1000:=by have:=(e).cl;omega
   have an:zf W'14_.cs (W'14_.cs.length - 1)=aq:=by rw[av,Nat.add_sub_cancel,au];exact jd qH
   refine(?_:CL _ _ _ _ _ _ (Own w [] [_,_,_,_,_])) w1 (d.qi [1] O u)
   refine zG O (zA (zK (zB (zC O (zo (pV 4 O) O O (yR O O O (zA (zT O (fun c4=> ?_) (fun c4=> ?_)))))))))
   ·exact absurd c4 qE
   refine zN (zB (zC O (zC O (zo (pV 4 O) O O (y5 O O (zt qE) O (yH (pV 4 O) 21 (W'14_.cs.length - 1) O O qE qE O (jC (pV 4 O) 21 (W'14_.cs.length - 1) (off:=yk ar+(W'14_.cs.length - 1)*21) (fun _=>O) O O qE O (zk (v:= .agg #[Vi 0,zu,zu,Vn 0,Vn 0,Vi 0,yh,Vi 0,Vi 0,Vn 0,yh,Vi 0,Vi 0,Vn 0,Vn 0,Vi 0,Vn 0,Vi 0,Vi 0,Vi 0,Vi 0]) qD O (fun ba=>ze 5 O O O (z6 O) O (zA (zB (zI (o:=12) O O (zJ 5 (v:=Vi ((zf W'14_.cs (W'14_.cs.length - 1)).stop)) O O O O (zy O O O (zC O (yK (q:=((zf W'14_.cs (W'14_.cs.length - 1)).stop)<0) 4 3 [78,77,76,75] (¬(((zf W'14_.cs (W'14_.cs.length - 1)).reply)=a0)) O O O O O O trivial O (fun x=> ?_) (fun b2=> ?_)))))))))))))))))
   ·refine zQ O (gF x) (zI (o:=13) O O (zQ O (gF x) (xC 5 (RepD.cells ((zf W'14_.cs (W'14_.cs.length - 1)).reply)) O O (ye 13 O) qD O (zQ O (gF x) (z1 (cs:=(RepD.cells a0)) 2 O O O (zQ O (gF x) (yI O (zO5 (zQD ((zf W'14_.cs (W'14_.cs.length - 1)).reply) a0) qD qD O O O O) (z8 O (fun _ d=>d)))))))))
   refine zA (zT O (fun c5=> ?_) (fun c5=> ?_))
   ·exact absurd c5 (by rw[an];rintro(q|q);exact absurd t.1 qE;exact q (t.2.trans a8.1))
   refine zN (zd (zC O (zr O O (zt qE) O (zG O (zw (fun h d=>⟨j+1,i+1,W'14_,am,⟨O,O,O,O,O,trivial⟩,⟨⟨⟨by omega,by omega⟩,(e).up qE⟩,by rw[a1];exact r,by rw[a1];exact a8.2⟩,d.sel [3,1] O V,qE⟩))))))
  refine zz O (zB (zG O (zA (zP (zn (v:=xl) O O (fun h d=>⟨O,d.drop⟩))))))
end Go.Proofs.YtmpaljnacfidaaaGreatDoor
