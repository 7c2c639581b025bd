import Derived.Test.YthpoddkmhfhboaaGreatDoorWme
set_option linter.unusedSectionVars false
set_option linter.unusedSimpArgs false
set_option linter.unusedVariables false
set_option maxRecDepth 10000
namespace Go.Proofs.YthpoddkmhfhboaaGreatDoor
open Go.Sc
structure WdE where
 nb:Nat
 e1:Nat
 e2:Nat
 pb:Nat
 cb:Nat
 st:SetD
 nv:Value
 dv:Value
 ev:Value
 km:Value
 lv:Value
 cv:Value
 ov:Value
 k:Nat
 es:List EntD
 cs:List CalD
 n:NdD
 el:List (Nat×EgD)
 c:CkD
 ps:PsD
def Res.we(wb:Nat)(W:WdE):Res:=Res.star [Res.row wb 72 [Vi W.st.nodes,Vi W.st.voters,Vi W.st.edges,Vi W.st.rho,Vi W.st.base,Vi W.st.spread,Vi W.st.beat,Vi W.st.disk,Vi W.st.post,Vi W.st.keep,W.nv,W.dv,W.ev,pt W.pb,pt W.cb,Vj W.k,W.cv,W.ov,W.lv, .bool false, .slice none 0 0,W.km],Res.vec 60 1 W.nv [W.nb].length ([W.nb].flatMap P1),Res.vec 47 1 W.ev [W.e1,W.e2].length ([W.e1,W.e2].flatMap P1),vE W.lv W.es,Res.vec 41 21 W.cv W.cs.length (W.cs.flatMap CalD.cells),vI W.ov [0,0],Res.nd W.nb W.n,Res.star (W.el.map egR),Res.ck W.cb W.c,Res.ps W.pb W.ps]
structure WeF(W:WdE):Prop where
 st:W.st=jp W.st.rho
 rr:0≤W.st.rho∧W.st.rho≤500000
 n:NdF W.n
 ns:W.n.st=W.st
 em:W.el.map Prod.fst=[W.e1,W.e2]
 eg:∀ j:Nat,j<2→EgZ (zc W.el j).2 W.st.rho∧(zc W.el j).2.id=((j:Nat):Int)+1
 c:CkA W.c 0
 cr:W.c.rho=W.st.rho
 ps:W.ps.l=[]
 es:W.es=[]
 cs:W.cs=[]
 k:W.k=0
structure EgI(d:EgD)(j:Nat)(rho:Int)(i:Nat)(t:Int):Prop where
 nodes:d.nodes=1
 rho:d.rho=rho
 id:d.id=((j:Nat):Int)+1
 next:d.next=1
 waits:d.waits=false
 seq:d.seq≤i
 now:d.now≤t
structure WeI(W:WdE)(rho:Int)(i p:Nat):Prop where
 no:W.st.nodes=1
 ro:0≤rho∧rho≤500000
 cr:W.c.rho=rho
 n:NdM W.n (1+p) (6100+6100*i) (3+2*i)
 c:CkA W.c (2000+2000*((p:Nat):Int))
 t:W.c.t1=W.n.x.t.now
 es:W.es.length=W.n.x.es.length
 ne:W.n.x.es.length=i+1
 em:W.el.map Prod.fst=[W.e1,W.e2]
 eg:∀ j:Nat,j<2→EgI (zc W.el j).2 j rho i (y9 W.c (-(((j:Nat):Int)+1)))
 ps:W.ps.l=[]
 k:W.k≤1+3*i+p
 cl:W.cs.length≤i
theorem zPw{c:CkD}{T:Int}(h:CkA c T)(e:Int):0≤y9 c e:=by
 have:=h.bd
 unfold y9
 split
 · omega
 split<;>omega
def zRY(c c':CkD)(N rho:Int):Prop:=∀ e,y9 c e+yU N rho≤y9 c' e∧y9 c' e≤y9 c e+yu N rho
theorem zSd{c c':CkD}{N rho:Int}(h1:c.t1+yU N rho≤c'.t1∧c'.t1≤c.t1+yu N rho)(h2:c.e1+yU N rho≤c'.e1∧c'.e1≤c.e1+yu N rho)(a:c.e2+yU N rho≤c'.e2∧c'.e2≤c.e2+yu N rho):zRY c c' N rho:=by
 intro e
 unfold y9
 split
 · exact h1
 split
 · exact h2
 exact a
theorem zJc{a:LgA}{r:RepD}{idx:Nat}(h:zA0 0 0 0 [] [] [] (⟨1,1,1,0,[]⟩:EntA) r false 0 idx a.now a.cnt a.kb a.kl a.kr):a=lgZ:=by
 have e:yO 0 0 ([]:List (Nat×LeaD))=[]:=by unfold yO;split<;>rfl
 have lg:∀ {a b:LgA},a.now=b.now→a.cnt=b.cnt→a.kb=b.kb→a.kl=b.kl→a.kr=b.kr→a=b:=fun{a b} h1 h2 c d h5=>by
   cases a;cases b
   dsimp only at *
   subst h1 h2 c d h5
   rfl
 rcases h with⟨⟨q,_⟩|⟨_,q,_⟩,_⟩|⟨_,_,_,f,⟨_,_,_,h1,h2,c,d⟩|⟨q,_⟩⟩
 · exact absurd (by unfold EntA.ok;decide) q
 · exact absurd rfl q
 · exact lg (f.trans V) h1 h2 (c.trans e) d
 exact absurd q V
theorem zRm(st:SetD)(w:World)(b:st=jp st.rho)(a:0≤st.rho∧st.rho≤500000):Rets Tryz.prog 17 #[.agg (SetD.cells st).toArray] w fun g h=>∃ (wb:Nat) (W:WdE),g= .tuple #[pt wb,Vi 0]∧WeF W∧W.st=st∧Own w [] [Res.we wb W] h:=by
 refine(zMs st w b a).mono ?_
 rintro _ s ⟨wb,nb,e1,e2,pb,cb,nv,dv,ev,ov,cv,lv,m,n,i,k,c,ps,rfl,d,l,o,e,p,r⟩
 have h1:=r.qf [5,6] rfl V
 refine⟨wb,⟨nb,e1,e2,pb,cb,st,nv,dv,ev, .map (some m),lv,cv,ov,0,[],[],n,[(e1,i),(e2,k)],c,ps⟩,O,⟨b,a,d.1,d.2,O,?_,e.1,e.2,p,O,O,O⟩,O,(h1.qf [0,1,2,8,7,3,4,9,5,6] O V).sel [0] O V⟩
 intro j hj
 rcases(show j=0∨j=1 by omega)with q|q<;>subst q
 · exact l
 exact o
theorem zOw{S:List Nat}(wb:Nat)(W:WdE)(N:Int)(y:Nat)(w:World)(h:WeF W)(hN:0≤N∧N≤1000)(a0:32≤yU N W.st.rho)(a1:y<18446744073709551616)(a2:Own w S [Res.we wb W] w):Rets Tryz.prog 8 #[pt wb, .agg #[Vi 2,Vi 0,Vi 0,Vi N,Vn y,Vn 0,Vn 0,Vn 0,Vi 0,yk,Vi 0,Vi 0,Vn 0]] w fun u_ w'=>∃ (W':WdE),u_=Vi 0∧WeI W' W.st.rho 0 0∧W'.n.x.t.qg=W'.n.x.t.now∧W'.n.s.a=lgZ∧W'.el=W.el∧Own w S [Res.we wb W'] w':=by
 have hi:=a2.qi 0 rfl
 have a3:Own w _ [_,_,_,_,_] w:=hi.give [0,1,3,6,8] rfl V
 obtain⟨nb,e1,e2,pb,cb,st,nv,dv,ev,km,lv,cv,ov,k,es,cs,n,el,c,ps⟩:=W
 have a4:es=[]:=h.es
 subst a4
 have a5:cs=[]:=h.cs
 subst a5
 have d:st.nodes=1:=by have q:st=jp st.rho:=h.st;rw[q];rfl
 have g:c.rho=st.rho:=h.cr
 refine(zGX wb nb e1 e2 pb cb st nv dv ev km lv k cv ov n c N y w (by have q:k=0:=h.k;omega) d h.c hN (by rw[g];exact a0) a1 h.n (by have q:n.s.a=lgZ:=h.n.lg;rw[q];exact zKL) a3).mono ?_
 rintro _ w1 ⟨a6,b,c',e,r,rfl,f1,f2,hO⟩
 obtain⟨⟨⟨⟨⟨⟨⟨a7,ab⟩,i⟩,a9⟩,l⟩,aa⟩,o⟩,p⟩:=f2
 have u:b.x.es.length=1:=by have q:=congrArg List.length o;simpa using q
 have v:b.s.a=lgZ:=by
   have q:n.s.a=lgZ:=h.n.lg
   rw[q]at p;exact zJc p
 have a8:=hi.qh [0,1,3,6,8] rfl hO
 have ac:k=0:=h.k
 refine⟨⟨nb,e1,e2,pb,cb,st,nv,dv,ev,km,a6,cv,ov,k+1,b.fs,[],b,el,c',ps⟩,O,⟨d,h.rr,f1.2.1.trans g,i.m,f1.1,l.symm,by show b.fs.length=b.x.es.length;rw[a7,u];rfl,u,h.em,?_,h.ps,by show k+1≤1;omega,Nat.le_refl 0⟩,i.qg,v,O,(a8.qf [5,6,0,7,1,2,8,3,9,4] O V).sel [1] O V⟩
 intro j hj
 have z:=h.eg j hj
 exact⟨z.1.1.1.1.1.1,z.1.1.1.1.1.2,z.2,z.1.1.1.2,z.1.1.1.1.2.1,Nat.le_of_eq z.1.1.1.1.2.2,by rw[z.1.2.2];exact zPw f1.1 _⟩
theorem zFm{S:List Nat}(wb:Nat)(W:WdE)(rho:Int)(i p:Nat)(N:Int)(o:Nat)(w:World)(h:WeI W rho i p)(hi:i≤80)(hp:p≤200)(hN:0≤N∧N≤1000)(r:o<18446744073709551616)(v:Own w S [Res.we wb W] w):Rets Tryz.prog 8 #[pt wb, .agg #[Vi 2,Vi 0,Vi 0,Vi N,Vn o,Vn 0,Vn 0,Vn 0,Vi 0,yk,Vi 0,Vi 0,Vn 0]] w fun u_ w'=>∃ (W':WdE),u_=Vi 0∧WeI W' rho i (p+1)∧W'.n.s=W.n.s∧W'.n.x.t.qg=W.n.x.t.qg∧W'.el=W.el∧zRY W.c W'.c N rho∧Own w S [Res.we wb W'] w':=by
 have e:=v.qi 0 rfl
 obtain⟨nb,e1,e2,pb,cb,st,nv,dv,ev,km,lv,cv,ov,k,es,cs,n,el,c,ps⟩:=W
 have hk:k≤1+3*i+p:=h.k
 have y:n.x.es.length=i+1:=h.ne
 have a0:es.length=n.x.es.length:=h.es
 have a1:c.rho=rho:=h.cr
 refine(zJS wb nb e1 e2 pb cb st nv dv ev km lv k cv ov es n c (2000+2000*((p:Nat):Int)) N o (1+p) (6100+6100*i) (3+2*i) w qG h.no h.c qG hN r h.n qG qG h.t qG qG qG (e.give [0,1,3,6,8] O V)).mono ?_
 rintro _ w1 ⟨a2,n2,c',rfl,d,f2,hO⟩
 obtain⟨⟨⟨⟨⟨⟨hM,a4⟩,g⟩,l⟩,a⟩,a5⟩,hs⟩:=f2
 rw[a1]at d
 have m:=zSd d.2.2.1 d.2.2.2.1 d.2.2.2.2
 have a6:=(zIQ hN h.ro).1
 have b:n2.x.es.length=n.x.es.length:=by have q:=congrArg List.length l;simpa using q
 have a3:=e.qh [0,1,3,6,8] rfl hO
 refine⟨⟨nb,e1,e2,pb,cb,st,nv,dv,ev,km,a2,cv,ov,k+1,es,cs,n2,el,c',ps⟩,O,⟨h.no,h.ro,d.2.1,?_,?_,g.symm,a0.trans b.symm,b.trans y,h.em,?_,h.ps,by show k+1≤1+3*i+(p+1);omega,h.cl⟩,hs,a,O,m,(a3.qf [5,6,0,7,1,2,8,3,9,4] O V).sel [0] O V⟩
 · rw[show 1+(p+1)=1+p+1 by omega];exact hM
 · have q:=d.1
   show CkA c' (2000+2000*(((p+1:Nat)):Int))
   rw[show(2000:Int)+2000*(((p+1:Nat)):Int)=2000+2000*((p:Nat):Int)+2000 by omega];exact q
 intro j hj
 have z:=h.eg j hj
 have u:=(m (-(((j:Nat):Int)+1))).1
 exact⟨z.nodes,z.rho,z.id,z.next,z.waits,z.seq,Int.le_trans z.now (by show y9 c _≤y9 c' _;omega)⟩
structure LrnH(W:WdE)(jj:Nat)(aa:Int)(cm:CmdD):Prop where
 cw:cm.wf
 gd:¬ xD cm.op cm.key cm.amount cm.span
 op:cm.op≠4
 ea:aa=((jj:Nat):Int)+1
 ej:jj<2
 k:yn W.n.s.a.kr (u64 aa) ((zc W.el jj).2.seq+1)=(RepD.zero,8)
 ap:ApOk W.n.s.a W.n.dl
 ok:∀ r did cnt' kb' kl' kr',DoK (yY W.n.s.a.now W.n.dl) W.n.s.a.cnt W.n.s.a.kb (yO W.n.s.a.now W.n.dl W.n.s.a.kl) W.n.s.a.kr (zAO cm aa ((zc W.el jj).2.seq+1)) r did cnt' kb' kl' kr'→(r.wf∧r.ok)∧r.session≠0
structure LrnK(W:WdE)(rho:Int)(i p jj:Nat)(aa:Int)(cm:CmdD)(W':WdE)(r:RepD)(did:Bool):Prop where
 w:WeI W' rho (i+1) p
 c:W'.c=W.c
 st:W'.n.x.t.qg=W'.n.x.t.now
 nw:W'.n.s.a.now=yY W.n.s.a.now W.n.dl
 d:DoK (yY W.n.s.a.now W.n.dl) W.n.s.a.cnt W.n.s.a.kb (yO W.n.s.a.now W.n.dl W.n.s.a.kl) W.n.s.a.kr (zAO cm aa ((zc W.el jj).2.seq+1)) r did W'.n.s.a.cnt W'.n.s.a.kb W'.n.s.a.kl W'.n.s.a.kr
 sq:(zc W'.el jj).2.seq=(zc W.el jj).2.seq+1
 kl:(zc W'.el jj).2.kl=(if r.e=0 then xd (zA4 cm aa ((zc W.el jj).2.seq+1)) (y9 W.c (-aa)) rho r (zc W.el jj).2.kl (zc W.el jj).2.kn else(zc W.el jj).2.kl)
 kn:(zc W'.el jj).2.kn=(zc W.el jj).2.kn
 ot:∀ j,j≠jj→zc W'.el j=zc W.el j
theorem zAq{S:List Nat}(pw wb:Nat)(W:WdE)(rho:Int)(i p jj:Nat)(s:Int)(cm:CmdD)(w:World)(h:WeI W rho i p)(hi:i≤80)(hp:p≤200)(d:LrnH W jj s cm)(a3:Own w S [Res.row pw 26 [pt wb],Res.we wb W] w):Rets Tryz.prog 15 #[Vi s, .agg (CmdD.cells cm).toArray,pt pw] w fun u_ w'=>∃ (W':WdE) (r:RepD) (l:Bool),u_= .agg (RepD.cells r).toArray∧LrnK W rho i p jj s cm W' r l∧Own w S [Res.row pw 26 [pt wb],Res.we wb W'] w':=by
 have h1:=a3.qi 1 rfl
 have m:=d.ea
 have b:=d.ej
 obtain⟨nb,e1,e2,pb,cb,st,nv,dv,ev,km,lv,cv,ov,k,es,cs,n,el,c,ps⟩:=W
 have hE:=zFI h.em
 have a:jj<el.length:=by have q:el.length=2:=hE.1;omega
 have h2:=h1.qz (g:=egR) 8 jj a rfl
 have af:k≤1+3*i+p:=h.k
 have a4:n.x.es.length=i+1:=h.ne
 have v:es.length=n.x.es.length:=h.es
 have a5:c.rho=rho:=h.cr
 have ag:cs.length≤i:=h.cl
 have z:EgI (zc el jj).2 jj rho i (y9 c (-(((jj:Nat):Int)+1))):=h.eg jj b
 have y:=zR9 m b
 have a6:=z.now
 have ah:=z.seq
 refine(zNO pw wb nb e1 e2 pb cb st nv dv ev km lv k cv ov es cs jj (zc el jj).1 s (zc el jj).2 n c (2000+2000*((p:Nat):Int)) ps (1+p) (6100+6100*i) (3+2*i) cm RepD.zero w qG h.c d.cw d.gd d.op m b (hE.2 jj b) qG z.waits h.ps qG z.next (z.id.trans m.symm) z.nodes h.n qG qG h.t d.k d.ap qG qG v d.ok (h2.give [0,1,2,3,4,5,6,7,10,8,9] O V)).mono ?_
 rintro _ w1 ⟨a7,a8,a0,e,o,a9,r,l,rfl,f1,f2,f3,f4,f5,f6,f7,f8,f9,a1,ab,a2,ac,ad,ae,ai,hO⟩
 have h3:=h2.qh [0,1,2,3,4,5,6,7,10,8,9] rfl hO
 have h4:=h3.qB (g:=egR) 9 0 jj ((zc el jj).1,e) a V rfl rfl
 rw[y,Int.max_eq_right a6]at f5 f6
 refine⟨⟨nb,e1,e2,pb,cb,st,nv,dv,ev,km,a7,a8,ov,k+1+1+1,es++o.fs,a0,o,el.set jj ((zc el jj).1,e),c,a9⟩,r,l,O,⟨⟨h.no,h.ro,a5,?_,h.c,?_,?_,?_,?_,?_,f1,by show k+1+1+1≤1+3*(i+1)+p;omega,by show a0.length≤i+1;omega⟩,O,ab.trans a1.symm,ad,ae,?_,?_,?_,?_⟩,(h4.qf [1,2,3,4,5,6,7,10,8,9] O V).sel [0,1] O V⟩
 · show NdM o (1+p) _ _
   rw[show 6100+6100*(i+1)=6100+6100*i+6100 by omega,show 3+2*(i+1)=3+2*i+2 by omega];exact f8
 · show c.t1=o.x.t.now
   rw[a1];exact h.t
 · show(es++o.fs).length=o.x.es.length
   rw[List.length_append,ac,a2,v]
 · show o.x.es.length=i+1+1
   rw[a2,a4]
 · exact zGV h.em b rfl
 · intro j hj
   show EgI (zc (el.set jj ((zc el jj).1,e)) j).2 j rho (i+1) (y9 c (-(((j:Nat):Int)+1)))
   by_cases q:j=jj
   · subst q
     rw[jy a]
     exact⟨f3.1.2.trans z.nodes,f3.2.trans z.rho,f3.1.1.trans z.id,f4,f2.1,by show e.seq≤i+1;rw[f2.2];omega,by show e.now≤_;rw[f5];exact Int.le_refl _⟩
   rw[zDp q]
   have u:EgI (zc el j).2 j rho i (y9 c (-(((j:Nat):Int)+1))):=h.eg j hj
   exact⟨u.nodes,u.rho,u.id,u.next,u.waits,Nat.le_succ_of_le u.seq,u.now⟩
 · show(zc (el.set jj ((zc el jj).1,e)) jj).2.seq=_
   rw[jy a];exact f2.2
 · show(zc (el.set jj ((zc el jj).1,e)) jj).2.kl=_
   rw[jy a,show -s= -(((jj:Nat):Int)+1)by omega,←z.rho];exact f6
 · show(zc (el.set jj ((zc el jj).1,e)) jj).2.kn=_
   rw[jy a];exact f7
 intro j q
 exact zDp q
theorem zKe{S:List Nat}(wb:Nat)(W:WdE)(rho:Int)(i p:Nat)(key:ByteArray)(w:World)(h:WeI W rho i p)(hl:∀ j,j<2→(zc W.el j).2.kl.length≤1)(e:∀ j:Nat,j<2→∀ t',y9 W.c (-(((j:Nat):Int)+1))≤t'→∀ ids,List.Perm ids ((zc W.el j).2.kl.map (·.1))→jr key t' (zc W.el j).2.kl ids=[])(b:Own w S [Res.we wb W] w):Rets Tryz.prog 16 #[pt wb, .string key] w fun g l=>∃ (W':WdE),g= .tuple #[Vi 0,xi]∧WeI W' rho i p∧W'.c=W.c∧W'.n=W.n∧(∀ j,j<2→((zc W'.el j).2.kl=(zc W.el j).2.kl∧(zc W'.el j).2.kn=(zc W.el j).2.kn)∧(zc W'.el j).2.seq=(zc W.el j).2.seq)∧Own w S [Res.we wb W'] l:=by
 have h1:=b.qi 0 rfl
 obtain⟨nb,e1,e2,pb,cb,st,nv,dv,ev,km,lv,cv,ov,k,es,cs,n,el,c,ps⟩:=W
 refine(zL7 wb nb e1 e2 pb cb st nv dv ev km lv k cv ov es el c (2000+2000*((p:Nat):Int)) key w h.c h.em hl e (h1.give [0,2,7,8] O V)).mono ?_
 rintro _ r ⟨a,rfl,m,d,o⟩
 have q:=h1.qh [0,2,7,8] rfl o
 refine⟨⟨nb,e1,e2,pb,cb,st,nv,dv,ev,km,lv,cv,ov,k,es,cs,n,a,c,ps⟩,O,⟨h.no,h.ro,h.cr,h.n,h.c,h.t,h.es,h.ne,m,?_,h.ps,h.k,h.cl⟩,O,O,?_,(q.qf [6,0,7,1,2,3,4,8,9,5] O V).sel [0] O V⟩
 · intro j hj
   show EgI (zc a j).2 j rho i _
   have z:EgI (zc el j).2 j rho i (y9 c (-(((j:Nat):Int)+1))):=h.eg j hj
   have s:=z.now
   rw[d j hj]
   exact⟨z.nodes,z.rho,z.id,z.next,z.waits,z.seq,by show max (zc el j).2.now (y9 c (-(((j:Nat):Int)+1)))≤y9 c (-(((j:Nat):Int)+1));omega⟩
 intro j hj
 show((zc a j).2.kl=_∧_)∧_
 rw[d j hj]
 exact⟨⟨O,O⟩,O⟩
theorem zEN{now:Int}{cnt:Nat}{kb:List (ByteArray×Int)}{kl:List (Nat×LeaD)}{kr:List (Nat×RepD)}{c:CmdD}{r:RepD}{did:Bool}{cnt':Nat}{kb':List (ByteArray×Int)}{kl':List (Nat×LeaD)}{kr':List (Nat×RepD)}
   (h:DoK now cnt kb kl kr c r did cnt' kb' kl' kr') (a:c.ok) (d:c.session≠0) (e:c.seq≠0) (f:(yn kr c.session c.seq).2=8):zHI now cnt kb kl c r cnt' kb' kl'∧kr'=ji kr r:=by
 rcases h with⟨g,_⟩|⟨_,i,_,b⟩
 · exfalso
   rcases g with⟨q,_⟩|⟨_,q,_⟩|⟨_,_,q,_⟩|⟨_,q,_⟩
   · exact q a
   · exact d q
   · exact e q
   exact q f
 exact⟨i,b⟩
section
variable {now:Int} {cnt:Nat} {kb:List (ByteArray×Int)} {kl:List (Nat×LeaD)} {c:CmdD} {r:RepD} {cnt':Nat} {kb':List (ByteArray×Int)} {kl':List (Nat×LeaD)}
theorem zTj(h:zHI now cnt kb kl c r cnt' kb' kl')(ho:c.op=1):r=zQq c (ku c.key c.amount kb) (yg c.key kl)∧cnt'=cnt∧kb'=zDP c.key c.amount kb∧kl'=kl:=by
 rcases h with⟨_,h⟩|⟨q,_⟩|⟨q,_⟩|⟨q,_⟩|⟨q,_⟩
 · exact h
 all_goals omega
theorem zRX(h:zHI now cnt kb kl c r cnt' kb' kl')(ho:c.op=2):∃ x e,e=xl c.session c.key c.amount c.span kb kl∧x=zGJ e cnt c.session c.key c.amount (now+c.span)∧r=zCw c x e∧cnt'=zKS e cnt∧kb'=kb∧kl'=zME e x kl:=by
 rcases h with⟨q,_⟩|⟨_,h⟩|⟨q,_⟩|⟨q,_⟩|⟨q,_⟩
 · omega
 · exact h
 all_goals omega
theorem zUC(h:zHI now cnt kb kl c r cnt' kb' kl')(ho:c.op=3):∃ x e,zBa now kb kl c.session c.lease c.span x e kl'∧r=zCw c x e∧cnt'=cnt∧kb'=kb:=by
 rcases h with⟨q,_⟩|⟨q,_⟩|⟨_,h⟩|⟨q,_⟩|⟨q,_⟩
 · omega
 · omega
 · exact h
 all_goals omega
end
theorem zDy{a b:LgA}(h1:a.now=b.now)(h2:a.cnt=b.cnt)(c:a.kb=b.kb)(d:a.kl=b.kl)(e:a.kr=b.kr):a=b:=by
 cases a;cases b
 dsimp only at *
 subst h1 h2 c d e
 rfl
abbrev kK:ByteArray:=⟨#[107]⟩
abbrev cmC(n:Int):CmdD:={session:=0,seq:=0,op:=1,key:=⟨#[107]⟩,amount:=n,span:=0,lease:=0}
abbrev cmA(n sp:Int):CmdD:={session:=0,seq:=0,op:=2,key:=⟨#[107]⟩,amount:=n,span:=sp,lease:=0}
abbrev cmN(l:Nat)(sp:Int):CmdD:={session:=0,seq:=0,op:=3,key:=⟨#[]⟩,amount:=0,span:=sp,lease:=l}
def LX:LeaD:=⟨1,1,⟨#[107]⟩,300,50⟩
def R1:RepD:=⟨1,1,0,0,0,0⟩
def R2:RepD:=⟨1,2,0,1,300,50⟩
def R3:RepD:=⟨2,1,0,0,300,0⟩
def R4:RepD:=⟨1,3,16,0,0,0⟩
def R5:RepD:=⟨2,2,16,0,0,0⟩
def LA1:LgA:=⟨0,0,[(kK,300)],[],[(1,R1)]⟩
def LA2:LgA:=⟨0,1,[(kK,300)],[(1,LX)],[(1,R2)]⟩
def LA3(le:Int):LgA:=⟨0,1,[(kK,le+1)],[(1,LX)],[(1,R2),(2,R3)]⟩
def LA4(le:Int):LgA:=⟨0,1,[(kK,le+1)],[(1,LX)],[(1,R4),(2,R3)]⟩
def LA5(le:Int):LgA:=⟨0,1,[(kK,le+1)],[(1,LX)],[(1,R4),(2,R5)]⟩
theorem zMh:yg kK [(1,LX)]=300:=by decide
theorem zJ6(n:Int):zl kK [(kK,n)]=some n:=by simp[zl]
theorem zTW{n:Int}{aa:Int}{s:Nat}:(zAO (cmC n) aa s).ok:=⟨show(1:Int)≤1∧(1:Int)≤5 by decide,show kK.size≤64 by decide⟩
theorem zQn{n sp:Int}{aa:Int}{s:Nat}:(zAO (cmA n sp) aa s).ok:=⟨show(1:Int)≤2∧(2:Int)≤5 by decide,show kK.size≤64 by decide⟩
theorem zT2{l:Nat}{sp:Int}{aa:Int}{s:Nat}:(zAO (cmN l sp) aa s).ok:=⟨show(1:Int)≤3∧(3:Int)≤5 by decide,show yEb.size≤64 by decide⟩
section
variable {a b:LgA} {d:Int} {r:RepD} {did:Bool} {le:Int}
theorem zTM(c:a=lgZ)(e:d=0)(f:b.now=yY a.now d)(h:DoK (yY a.now d) a.cnt a.kb (yO a.now d a.kl) a.kr (zAO (cmC 300) 1 1) r did b.cnt b.kb b.kl b.kr):r=R1∧b=LA1:=by
 subst c e
 obtain⟨g,i⟩:=zEN h zTW V V V
 obtain⟨h1,h2,j,k⟩:=zTj g rfl
 have l:r=R1:=h1.trans V
 subst l
 exact⟨O,zDy (f.trans V) h2 (j.trans V) (k.trans V) (i.trans V)⟩
theorem zTo(g:a=LA1)(i:d=0)(j:b.now=yY a.now d)(h:DoK (yY a.now d) a.cnt a.kb (yO a.now d a.kl) a.kr (zAO (cmA 300 50) 1 2) r did b.cnt b.kb b.kl b.kr):r=R2∧b=LA2:=by
 subst g i
 obtain⟨k,l⟩:=zEN h zQn V V V
 obtain⟨x,e,m,n,h1,h2,o,p⟩:=zRX k rfl
 have c:e=0:=m.trans V
 subst c
 have f:x=LX:=n.trans V
 subst f
 have q:r=R2:=h1.trans V
 subst q
 exact⟨O,zDy (j.trans V) (h2.trans V) o (p.trans V) (l.trans V)⟩
theorem zTG(hl:0≤le∧le≤255)(g:a=LA2)(i:d=0)(j:b.now=yY a.now d)(h:DoK (yY a.now d) a.cnt a.kb (yO a.now d a.kl) a.kr (zAO (cmC (le+1)) 2 1) r did b.cnt b.kb b.kl b.kr):r=R3∧b=LA3 le:=by
 subst g i
 obtain⟨k,l⟩:=zEN h zTW (show u64 2≠0 by decide) (show 1≠0 by decide) (show(yn [(1,R2)] 2 1).2=8 by decide)
 obtain⟨h1,h2,m,e⟩:=zTj k rfl
 have f:ku kK (le+1) [(kK,300)]=0:=by
   unfold ku
   rw[if_neg (by intro q;rcases q with q|q;exact q V;omega),if_neg (fun q=>by rw[zJ6]at q;cases q.2.1)]
 have c:yO LA2.now 0 LA2.kl=[(1,LX)]:=by decide
 rw[c]at h1 e
 have n:r=R3:=by
   rw[h1,show ku (zAO (cmC (le+1)) 2 1).key (zAO (cmC (le+1)) 2 1).amount LA2.kb=0 from f];exact(show zQq (zAO (cmC 0) 2 1) 0 (yg kK [(1,LX)])=R3 by decide)
 subst n
 refine⟨O,zDy (j.trans (show yY 0 0=0 by decide)) h2 (m.trans ?_) e (l.trans (show ji [(1,R2)] R3=[(1,R2),(2,R3)]by decide))⟩
 show zDP kK (le+1) [(kK,300)]=[(kK,le+1)]
 unfold zDP
 rw[if_pos f,if_neg qG]
 simp[yZ]
theorem zS6{l:Nat}(f:l=1)(hl:0≤le∧le≤255)(k:a=LA3 le)(n:d=0)(o:b.now=yY a.now d)(h:DoK (yY a.now d) a.cnt a.kb (yO a.now d a.kl) a.kr (zAO (cmN l 500) 1 3) r did b.cnt b.kb b.kl b.kr):r=R4∧b=LA4 le:=by
 subst f k n
 obtain⟨p,s⟩:=zEN h zT2 (show u64 1≠0 by decide) (show 3≠0 by decide) (show(yn [(1,R2),(2,R3)] 1 3).2=8 by decide)
 obtain⟨x,e,c,h1,h2,t⟩:=zUC p rfl
 have g:yO (LA3 le).now 0 (LA3 le).kl=[(1,LX)]:=show yO 0 0 [(1,LX)]=[(1,LX)]by decide
 rw[g]at c
 have c:zBa (yY 0 0) [(kK,le+1)] [(1,LX)] 1 1 500 x e b.kl:=c
 have i:(e=16∧x=LeaD.zero)∧b.kl=[(1,LX)]:=by
   rcases c with⟨q,_⟩|⟨_,q,_⟩|⟨_,m,u,_,⟨_,q⟩|⟨q,_⟩⟩
   · exact absurd V q
   · exact absurd rfl (q LX rfl)
   · exact⟨⟨q.1,q.2.1⟩,q.2.2⟩
   have v:m=LX:=(Option.some.inj u).symm
   subst v
   have q:yg kK [(1,LX)]≤(zl kK [(kK,le+1)]).getD 0:=q
   rw[zMh,zJ6]at q
   have q:(300:Int)≤le+1:=q
   omega
 obtain⟨⟨w,i⟩,j⟩:=i
 subst w i
 have y:r=R4:=h1.trans V
 subst y
 exact⟨O,zDy (o.trans (show yY 0 0=0 by decide)) h2 t j (s.trans (show ji [(1,R2),(2,R3)] R4=[(1,R4),(2,R3)]by decide))⟩
theorem zS2(hl:0≤le∧le≤255)(k:a=LA4 le)(l:d=0)(m:b.now=yY a.now d)(h:DoK (yY a.now d) a.cnt a.kb (yO a.now d a.kl) a.kr (zAO (cmA 1 5) 2 2) r did b.cnt b.kb b.kl b.kr):r=R5∧b=LA5 le:=by
 subst k l
 obtain⟨n,o⟩:=zEN h zQn (show u64 2≠0 by decide) (show 2≠0 by decide) (show(yn [(1,R4),(2,R3)] 2 2).2=8 by decide)
 obtain⟨x,e,i,p,h1,h2,s,j⟩:=zRX n rfl
 have c:yO (LA4 le).now 0 (LA4 le).kl=[(1,LX)]:=show yO 0 0 [(1,LX)]=[(1,LX)]by decide
 rw[c]at i j
 have f:e=16:=by
   rw[i]
   show xl 2 kK 1 5 [(kK,le+1)] [(1,LX)]=16
   unfold xl
   rw[if_neg V,if_neg (by rw[zJ6];exact fun q=>nomatch q),if_neg (by rw[zMh];decide),if_pos (by rw[zJ6,zMh];show le+1<300+1;omega)]
 subst f
 have g:x=LeaD.zero:=p.trans rfl
 subst g
 have t:r=R5:=h1.trans V
 subst t
 exact⟨O,zDy (m.trans (show yY 0 0=0 by decide)) (h2.trans O) s (j.trans O) (o.trans (show ji [(1,R4),(2,R3)] R5=[(1,R4),(2,R5)]by decide))⟩
theorem zAS{d:Int}(a:0≤d∧d≤1099511627776):ka 0 d=0:=by
 unfold ka
 rw[if_neg qG,if_neg qG]
theorem zSU{d:Int}(b:50≤d∧d≤1099511627776):yO 0 d [(1,LX)]=[]∧yY 0 d=d:=by
 have a:=zAS (d:=d) qG
 have h1:zCu d LX=true:=by unfold zCu;exact decide_eq_true (show(50:Int)≤d by omega)
 constructor
 · unfold yO
   rw[if_pos a]
   simp[h1]
 unfold yY
 rw[if_pos a];omega
theorem zTE(hl:0≤le∧le≤255)(m:a=LA5 le)(n:50≤d∧d≤1099511627776)(h:DoK (yY a.now d) a.cnt a.kb (yO a.now d a.kl) a.kr (zAO (cmA (le+1) 5) 2 3) r did b.cnt b.kb b.kl b.kr):r=⟨2,3,0,2,le+1,d+5⟩:=by
 subst m
 obtain⟨o,s⟩:=zEN h zQn (show u64 2≠0 by decide) (show 3≠0 by decide) (show(yn [(1,R4),(2,R5)] 2 3).2=8 by decide)
 obtain⟨x,e,j,k,h1,h2,t,p⟩:=zRX o rfl
 have hp:=zSU n
 have c:yO (LA5 le).now d (LA5 le).kl=[]:=hp.1
 have f:yY (LA5 le).now d=d:=hp.2
 rw[c]at j p
 rw[f]at k
 have g:e=0:=by
   rw[j]
   show xl 2 kK (le+1) 5 [(kK,le+1)] []=0
   have l:yg kK []=0:=by decide
   unfold xl
   rw[if_neg (by intro q;rcases q with q|q|q|q;cases q;exact q V;omega;exact q V),if_neg (by rw[zJ6];exact fun q=>nomatch q),if_neg (by rw[l];omega),if_neg (by rw[zJ6,l];show ¬ le+1<0+(le+1);omega),if_neg V]
 subst g
 have i:x=⟨2,2,kK,le+1,d+5⟩:=k.trans rfl
 subst i
 exact h1.trans O
theorem zKq{a:LgA}{d:Int}(b:a.kl=[])(c:a.now=0)(g:a.cnt≤1)(e:0≤d∧d≤1099511627776):ApOk a d:=by
 have f:=zAS e
 have h1:yO a.now d a.kl=[]:=by rw[b];unfold yO;split<;>rfl
 have h2:kX a.now d a.kl=[]:=by rw[b];unfold kX;split<;>rfl
 have h:yY a.now d=d:=by rw[c];unfold yY;rw[if_pos f];omega
 refine⟨⟨by omega,by omega⟩,by rw[c];decide,by omega,by rw[b];exact List.nodup_nil,by rw[b];decide,fun k=> ?_,fun i l hl=> ?_,by omega,by rw[h2];decide⟩
 · rw[h1];exact⟨Int.le_refl 0,(show(0:Int)≤9223372036854775807 by decide)⟩
 rw[h1]at hl;cases hl
theorem zOt{a:LgA}{d:Int}(b:a.kl=[(1,LX)])(f:a.now=0)(j:a.cnt≤1)(h:0≤d∧d≤1099511627776):ApOk a d:=by
 have g:=zAS h
 have h1:yO a.now d a.kl=[(1,LX)]∨yO a.now d a.kl=[]:=by
   rw[b,f];unfold yO
   rw[if_pos g]
   cases q:zCu d LX
   · left;simp[q]
   right;simp[q]
 have h2:(kX a.now d a.kl).length≤1:=by
   rw[b];unfold kX
   split
   · rw[List.length_map]
     exact Nat.le_trans (List.length_filter_le _ _) (Nat.le_refl 1)
   decide
 have m:yY a.now d=d:=by rw[f];unfold yY;rw[if_pos g];omega
 refine⟨⟨by omega,by omega⟩,by rw[f];decide,by omega,by rw[b];unfold KNd;decide,by rw[b];decide,fun k=> ?_,fun i l hl=> ?_,by omega,h2⟩
 · rcases h1 with q|q<;>rw[q]
   · have e:jI k ([(1,LX)].map (·.2))=300∨jI k ([(1,LX)].map (·.2))=0:=by
       show(if LX.key=k then LX.amount else 0)+0=300∨(if LX.key=k then LX.amount else 0)+0=(0:Int)
       split
       · left;rfl
       right;rfl
     unfold yg zDB
     rcases e with e|e<;>rw[e]<;>decide
   exact⟨Int.le_refl 0,(show(0:Int)≤9223372036854775807 by decide)⟩
 rcases h1 with q|q<;>rw[q]at hl
 · by_cases c:i=1
   · subst c
     have hl:LX=l:=by simp[zl]at hl;exact hl
     subst hl
     exact⟨by decide,by unfold xw;decide,by unfold xw;decide⟩
   simp[zl,c]at hl
 cases hl
end
theorem zLV{rho:Int}(h:0≤rho∧rho≤300000):51≤yU 200 rho:=by
 unfold yU
 exact Int.le_ediv_of_mul_le qG qG
theorem zPA{rho:Int}(h:0≤rho∧rho≤300000):32≤yU 60 rho:=by
 unfold yU
 exact Int.le_ediv_of_mul_le qG qG
theorem zO7{a:AskD}{since rho:Int}(d:0≤since∧since≤1000000000)(e:0≤rho∧rho≤300000)(b:a.cmd.span=50):kV a since rho≤since+50:=by
 have c:=zLf (t:=50) (rho:=rho) (by unfold zAk;omega)
 unfold kV
 rw[b,c.1]
 show IntKind.i64.wrap (since+shr (shr 50 rho) rho)≤since+50
 have h2:=c.2.2
 rw[zt qG];omega
structure EdS(W:WdE)(s1 s2:Nat)(kl:List (Nat×TruD)):Prop where
 q1:(zc W.el 0).2.seq=s1
 q2:(zc W.el 1).2.seq=s2
 l1:(zc W.el 0).2.kl=kl
 l2:(zc W.el 1).2.kl=[]
 k1:(zc W.el 0).2.kn=[]
structure StL(W:WdE)(rho:Int)(i:Nat)(a:LgA)(s1 s2:Nat)(kl:List (Nat×TruD)):Prop where
 w:WeI W rho i 0
 a:W.n.s.a=a
 d:W.n.dl=0
 e:EdS W s1 s2 kl
theorem zJm{n:NdD}(h:n.x.t.qg=n.x.t.now):n.dl=0:=by
 unfold NdD.dl
 rw[h,Int.sub_self];decide
theorem zFd{a:AskD}{since rho:Int}{r:RepD}{kl:List (Nat×TruD)}{kn:List (Nat×Bool)}(h:a.cmd.op=1):xd a since rho r kl kn=kl:=by
 unfold xd
 rw[if_neg qG,if_neg qG]
theorem zE6(cm:CmdD)(a:Int)(s:Nat):(zA4 cm a s).cmd.op=cm.op∧(zA4 cm a s).cmd.span=cm.span∧(zA4 cm a s).cmd.amount=cm.amount∧(zA4 cm a s).cmd.key=cm.key:=by
 rw[zBd];exact⟨rfl,rfl,rfl,rfl⟩
section
variable {W W':WdE} {rho:Int} {r:RepD} {did:Bool} {le:Int} {kl:List (Nat×TruD)}
theorem zUg:(R1.wf∧R1.ok)∧R1.session≠0:=⟨⟨⟨by decide,by decide,by decide,by unfold xw;decide,by unfold xw;decide⟩,show(0:Int)≤0∧(0:Int)≤20 by decide⟩,by decide⟩
theorem zUM:(R2.wf∧R2.ok)∧R2.session≠0:=⟨⟨⟨by decide,by decide,by decide,by unfold xw;decide,by unfold xw;decide⟩,show(0:Int)≤0∧(0:Int)≤20 by decide⟩,by decide⟩
theorem zUW:(R3.wf∧R3.ok)∧R3.session≠0:=⟨⟨⟨by decide,by decide,by decide,by unfold xw;decide,by unfold xw;decide⟩,show(0:Int)≤0∧(0:Int)≤20 by decide⟩,by decide⟩
theorem zUX:(R4.wf∧R4.ok)∧R4.session≠0:=⟨⟨⟨by decide,by decide,by decide,by unfold xw;decide,by unfold xw;decide⟩,show(0:Int)≤16∧(16:Int)≤20 by decide⟩,by decide⟩
theorem zUG:(R5.wf∧R5.ok)∧R5.session≠0:=⟨⟨⟨by decide,by decide,by decide,by unfold xw;decide,by unfold xw;decide⟩,show(0:Int)≤16∧(16:Int)≤20 by decide⟩,by decide⟩
theorem cw1{n:Int}(h:0≤n∧n≤1000):(cmC n).wf∧¬ xD (cmC n).op (cmC n).key (cmC n).amount (cmC n).span:=by
 refine⟨⟨show(0:Nat)<18446744073709551616 by decide,show(0:Nat)<18446744073709551616 by decide,show kK.size≤1048576 by decide,⟨by show _≤n;omega,by show n≤_;omega⟩,show xw 0 by unfold xw;decide,show(0:Nat)<18446744073709551616 by decide⟩,?_⟩
 have a:kK.size=1:=by decide
 show ¬ xD 1 kK n 0
 unfold xD
 rw[a];omega
theorem cw2{n sp:Int}(h:1≤n∧n≤1000)(b:1≤sp∧sp≤1000):(cmA n sp).wf∧¬ xD (cmA n sp).op (cmA n sp).key (cmA n sp).amount (cmA n sp).span:=by
 refine⟨⟨show(0:Nat)<18446744073709551616 by decide,show(0:Nat)<18446744073709551616 by decide,show kK.size≤1048576 by decide,⟨by show _≤n;omega,by show n≤_;omega⟩,⟨by show _≤sp;omega,by show sp≤_;omega⟩,show(0:Nat)<18446744073709551616 by decide⟩,?_⟩
 have a:kK.size=1:=by decide
 show ¬ xD 2 kK n sp
 unfold xD
 rw[a];omega
theorem cw3{l:Nat}(h:l=1):(cmN l 500).wf∧¬ xD (cmN l 500).op (cmN l 500).key (cmN l 500).amount (cmN l 500).span:=by
 subst h
 refine⟨⟨by decide,by decide,show yEb.size≤1048576 by decide,show xw 0 by unfold xw;decide,show xw 500 by unfold xw;decide,by decide⟩,?_⟩
 have a:yEb.size=0:=by decide
 show ¬ xD 3 ⟨#[]⟩ 0 500
 unfold xD
 rw[a];omega
theorem zT3(h:StL W rho 0 lgZ 0 0 []):LrnH W 0 1 (cmC 300):=
 ⟨(cw1 V).1, (cw1 V).2, by decide, by decide, by decide, by rw [h.a, h.e.q1]; decide, zKq (by rw [h.a]; rfl) (by rw [h.a]; rfl) (by rw [h.a]; decide) (by rw [h.d]; decide), fun r g c k l kr f => by
   rw[h.e.q1]at f
   rw[(zTM (b:=⟨_,c,k,l,kr⟩) h.a h.d rfl f).1];exact zUg⟩
theorem zUi(h:StL W rho 0 lgZ 0 0 [])(k:LrnK W rho 0 0 0 1 (cmC 300) W' r did):r=R1∧StL W' rho 1 LA1 1 0 []:=by
 have b:=k.d
 rw[h.e.q1]at b
 have z:=zTM h.a h.d k.nw b
 refine⟨z.1,k.w,z.2,zJm k.st,by rw[k.sq,h.e.q1],by rw[k.ot 1 V];exact h.e.q2,?_,by rw[k.ot 1 V];exact h.e.l2,by rw[k.kn];exact h.e.k1⟩
 rw[k.kl,zFd (zE6 _ _ _).1,h.e.l1];split<;>rfl
theorem zUO(h:StL W rho 1 LA1 1 0 []):LrnH W 0 1 (cmA 300 50):=
 ⟨(cw2 V V).1, (cw2 V V).2, by decide, by decide, by decide, by rw [h.a, h.e.q1]; decide, zKq (by rw [h.a]; rfl) (by rw [h.a]; rfl) (by rw [h.a]; decide) (by rw [h.d]; decide), fun r g c k l kr f => by
   rw[h.e.q1]at f
   rw[(zTo (b:=⟨_,c,k,l,kr⟩) h.a h.d rfl f).1];exact zUM⟩
theorem zUD(g:0≤rho∧rho≤300000)(h:StL W rho 1 LA1 1 0 [])(k:LrnK W rho 1 0 0 1 (cmA 300 50) W' r did):r=R2∧∃ T:Int,T≤y9 W'.c (-1)+50∧StL W' rho 2 LA2 2 0 [(1,⟨kK,300,T⟩)]:=by
 have f:=k.d
 rw[h.e.q1]at f
 have z:=zTo h.a h.d k.nw f
 have b:=k.kl
 have ho:=zE6 (cmA 300 50) 1 ((zc W.el 0).2.seq+1)
 rw[z.1,h.e.l1,h.e.k1,if_pos (show R2.e=0 by decide)]at b
 unfold xd at b
 rw[if_pos (ho.1.trans rfl),if_pos ⟨(show(300:Int)=_ from ho.2.2.1.symm),rfl⟩,ho.2.2.2]at b
 have i:=h.w.c.bd
 refine⟨z.1,kV (zA4 (cmA 300 50) 1 ((zc W.el 0).2.seq+1)) (y9 W.c (-1)) rho,?_,k.w,z.2,zJm k.st,by rw[k.sq,h.e.q1],by rw[k.ot 1 V];exact h.e.q2,b,by rw[k.ot 1 V];exact h.e.l2,by rw[k.kn];exact h.e.k1⟩
 rw[k.c]
 exact zO7 (by show 0≤W.c.e1∧W.c.e1≤1000000000;omega) g (ho.2.1.trans O)
theorem zUP(hl:0≤le∧le≤255)(h:StL W rho 2 LA2 2 0 kl):LrnH W 1 2 (cmC (le+1)):=
 ⟨(cw1 qG).1, (cw1 qG).2, show (1 : Int) ≠ 4 by decide, by decide, by decide, by rw [h.a, h.e.q2]; decide, zOt (by rw [h.a]; rfl) (by rw [h.a]; rfl) (by rw [h.a]; decide) (by rw [h.d]; decide), fun r g c k l kr f => by
   rw[h.e.q2]at f
   rw[(zTG (b:=⟨_,c,k,l,kr⟩) hl h.a h.d rfl f).1];exact zUW⟩
theorem zUZ(hl:0≤le∧le≤255)(h:StL W rho 2 LA2 2 0 kl)(k:LrnK W rho 2 0 1 2 (cmC (le+1)) W' r did):r=R3∧StL W' rho 3 (LA3 le) 2 1 kl:=by
 have b:=k.d
 rw[h.e.q2]at b
 have z:=zTG hl h.a h.d k.nw b
 refine⟨z.1,k.w,z.2,zJm k.st,by rw[k.ot 0 V];exact h.e.q1,by rw[k.sq,h.e.q2],by rw[k.ot 0 V];exact h.e.l1,?_,by rw[k.ot 0 V];exact h.e.k1⟩
 rw[k.kl,zFd (zE6 _ _ _).1,h.e.l2];split<;>rfl
theorem zUb{l:Nat}(f:l=1)(hl:0≤le∧le≤255)(h:StL W rho 3 (LA3 le) 2 1 kl):LrnH W 0 1 (cmN l 500):=
 ⟨(cw3 f).1, (cw3 f).2, show (3 : Int) ≠ 4 by decide, by decide, by decide, by rw [h.a, h.e.q1]; exact (show yn [(1, R2), (2, R3)] 1 3 = (RepD.zero, 8) by decide), zOt (by rw [h.a]; rfl) (by rw [h.a]; rfl) (by rw [h.a]; exact Nat.le_refl 1) (by rw [h.d]; decide), fun r i c k l kr g => by
   rw[h.e.q1]at g
   rw[(zS6 (b:=⟨_,c,k,l,kr⟩) f hl h.a h.d rfl g).1];exact zUX⟩
theorem zUe{l:Nat}(b:l=1)(hl:0≤le∧le≤255)(h:StL W rho 3 (LA3 le) 2 1 kl)(k:LrnK W rho 3 0 0 1 (cmN l 500) W' r did):r=R4∧StL W' rho 4 (LA4 le) 3 1 kl:=by
 have c:=k.d
 rw[h.e.q1]at c
 have z:=zS6 b hl h.a h.d k.nw c
 refine⟨z.1,k.w,z.2,zJm k.st,by rw[k.sq,h.e.q1],by rw[k.ot 1 V];exact h.e.q2,?_,by rw[k.ot 1 V];exact h.e.l2,by rw[k.kn];exact h.e.k1⟩
 rw[k.kl,z.1,if_neg V];exact h.e.l1
theorem zT0(hl:0≤le∧le≤255)(h:StL W rho 4 (LA4 le) 3 1 kl):LrnH W 1 2 (cmA 1 5):=
 ⟨(cw2 V V).1, (cw2 V V).2, by decide, by decide, by decide, by rw [h.a, h.e.q2]; exact (show yn [(1, R4), (2, R3)] 2 2 = (RepD.zero, 8) by decide), zOt (by rw [h.a]; rfl) (by rw [h.a]; rfl) (by rw [h.a]; exact Nat.le_refl 1) (by rw [h.d]; decide), fun r g c k l kr f => by
   rw[h.e.q2]at f
   rw[(zS2 (b:=⟨_,c,k,l,kr⟩) hl h.a h.d rfl f).1];exact zUG⟩
theorem zUT(hl:0≤le∧le≤255)(h:StL W rho 4 (LA4 le) 3 1 kl)(k:LrnK W rho 4 0 1 2 (cmA 1 5) W' r did):r=R5∧StL W' rho 5 (LA5 le) 3 2 kl:=by
 have b:=k.d
 rw[h.e.q2]at b
 have z:=zS2 hl h.a h.d k.nw b
 refine⟨z.1,k.w,z.2,zJm k.st,by rw[k.ot 0 V];exact h.e.q1,by rw[k.sq,h.e.q2],by rw[k.ot 0 V];exact h.e.l1,?_,by rw[k.ot 0 V];exact h.e.k1⟩
 rw[k.kl,z.1,if_neg V];exact h.e.l2
structure StM(W:WdE)(rho:Int)(p:Nat)(le:Int)(c0:CkD)(u:Int)(kl:List (Nat×TruD)):Prop where
 w:WeI W rho 5 p
 a:W.n.s.a=LA5 le
 st:W.n.x.t.qg=c0.t1
 up:∀ e,y9 c0 e+u≤y9 W.c e
 e:EdS W 3 2 kl
theorem zT6(h:StL W rho 5 (LA5 le) 3 2 kl)(b:W.n.x.t.qg=W.n.x.t.now):StM W rho 0 le W.c 0 kl:=⟨h.w,h.a,b.trans h.w.t.symm,fun e=>by omega,h.e⟩
theorem EdS.el(h:EdS W 3 2 kl)(a:W'.el=W.el):EdS W' 3 2 kl:=⟨by rw[a];exact h.q1,by rw[a];exact h.q2,by rw[a];exact h.l1,by rw[a];exact h.l2,by rw[a];exact h.k1⟩
theorem StM.pass{p:Nat}{c0:CkD}{u N:Int}(h:StM W rho p le c0 u kl)(b:WeI W' rho 5 (p+1))(d:W'.n.s=W.n.s)(f:W'.n.x.t.qg=W.n.x.t.qg)(g:W'.el=W.el)(i:zRY W.c W'.c N rho):StM W' rho (p+1) le c0 (u+yU N rho) kl:=
 ⟨b,by rw[d];exact h.a,f.trans h.st,fun e=>by have h1:=h.up e;have h2:=(i e).1;omega,h.e.el g⟩
theorem StM.use{p:Nat}{c0:CkD}{u:Int}(h:StM W rho p le c0 u kl)(f:WeI W' rho 5 p)(g:W'.c=W.c)(d:W'.n=W.n)(b:∀ j,j<2→((zc W'.el j).2.kl=(zc W.el j).2.kl∧(zc W'.el j).2.kn=(zc W.el j).2.kn)∧(zc W'.el j).2.seq=(zc W.el j).2.seq):StM W' rho p le c0 u kl:=
 ⟨f,by rw[d];exact h.a,by rw[d];exact h.st,fun e=>by rw[g];exact h.up e,(b 0 V).2.trans h.e.q1,(b 1 V).2.trans h.e.q2,(b 0 V).1.1.trans h.e.l1,(b 1 V).1.1.trans h.e.l2,(b 0 V).1.2.trans h.e.k1⟩
theorem StM.dl{p:Nat}{c0:CkD}{u:Int}(h:StM W rho p le c0 u kl)(a:51≤u)(hp:p≤200)(b:∀ e,0≤y9 c0 e):50≤W.n.dl∧W.n.dl≤1099511627776:=by
 have h1:c0.t1+u≤W.c.t1:=h.up 1
 have h2:=h.w.t
 have d:=h.st
 unfold NdD.dl
 omega
theorem zUA{p:Nat}{c0:CkD}{u:Int}(hl:0≤le∧le≤255)(h:StM W rho p le c0 u kl)(f:50≤W.n.dl∧W.n.dl≤1099511627776):LrnH W 1 2 (cmA (le+1) 5):=
 ⟨(cw2 qG V).1, (cw2 qG V).2, show (2 : Int) ≠ 4 by decide, by decide, by decide, by rw [h.a, h.e.q2]; exact (show yn [(1, R4), (2, R5)] 2 3 = (RepD.zero, 8) by decide), zOt (by rw [h.a]; rfl) (by rw [h.a]; rfl) (by rw [h.a]; exact Nat.le_refl 1) qG, fun r g c k l kr d => by
   rw[h.e.q2]at d
   rw[zTE (b:=⟨0,c,k,l,kr⟩) hl h.a f d]
   exact⟨⟨⟨show(2:Nat)<18446744073709551616 by decide,show(3:Nat)<18446744073709551616 by decide,show(2:Nat)<18446744073709551616 by decide,⟨by show _≤le+1;omega,by show le+1≤_;omega⟩,⟨by show _≤W.n.dl+5;omega,by show W.n.dl+5≤_;omega⟩⟩,show(0:Int)≤0∧(0:Int)≤20 by decide⟩,show(2:Nat)≠0 by decide⟩⟩
theorem zT1{p:Nat}{c0:CkD}{u:Int}(hl:0≤le∧le≤255)(h:StM W rho p le c0 u kl)(c:50≤W.n.dl∧W.n.dl≤1099511627776)(k:LrnK W rho 5 p 1 2 (cmA (le+1) 5) W' r did):r.e=0:=by
 have b:=k.d
 rw[h.e.q2]at b
 rw[zTE hl h.a c b]
theorem zUR{p:Nat}{c0:CkD}{u T:Int}(b:51≤u)(d:T≤y9 c0 (-1)+50)(h:StM W rho p le c0 u [(1,⟨kK,300,T⟩)]):(∀ j,j<2→(zc W.el j).2.kl.length≤1)∧∀ j:Nat,j<2→∀ t',y9 W.c (-(((j:Nat):Int)+1))≤t'→∀ ids,List.Perm ids ((zc W.el j).2.kl.map (·.1))→jr kK t' (zc W.el j).2.kl ids=[]:=by
 constructor
 · intro j hj
   rcases(show j=0∨j=1 by omega)with q|q<;>subst q
   · rw[h.e.l1];exact Nat.le_refl 1
   rw[h.e.l2];exact Nat.zero_le 1
 intro j hj t' a ids hp
 rcases(show j=0∨j=1 by omega)with q|q<;>subst q
 · rw[h.e.l1]at hp ⊢
   rw[zNN hp,if_neg]
   intro z
   have f:t'<T:=z.2
   have h1:=h.up (-1)
   have a:y9 W.c (-1)≤t':=a
   omega
 rw[h.e.l2]at hp ⊢
 exact zO8 hp
end
theorem zMP(st:SetD)(w:World)(k:st=jp st.rho)(h:0≤st.rho∧st.rho≤500000):Rets Tryz.prog 6 #[.agg (SetD.cells st).toArray,zW,Vi 0] w fun o j=>∃ (wb:Nat) (W:WdE),o=pt wb∧WeF W∧W.st=st∧Own w [] [Res.we wb W] j:=by
 refine zO Tryz.func6 O Tryz.ntmps6 (Own.start w) (zB (zj O O (fun p=>zF O (zA (zB (z6 (cs:=(SetD.cells st)) 0 O O O (zG O O (fun j d=>(zRm st j k h).mono ?_))))))))
 rintro _ r ⟨a,W2_,rfl,e,b,s⟩
 refine(?_:CL _ _ _ _ _ _ (Own w [] [_,_])) r (d.qb s)
 refine zC O (zb (vs:=[pt a,Vi 0]) O O O (zb (vs:=[pt a,Vi 0]) O O O (zF O (zF O (zA (zK (zB (zC O (ye O O O (zA (zT O (fun l=> ?_) (fun l=> ?_))))))))))))
 ·exact absurd O l
 refine zN (zK (zB (zF O (zA (zU (yQ (fun(i:Nat)=>[(1,zW),(2,Vi 0),(7,pt a),(9,Vj i)]) (fun(i:Nat)=>i=0) (fun(i:Nat)=>[Res.row p 24 (SetD.cells st),Res.we a W2_]) (fun(i:Nat)=>0) (fun j d=>⟨0,⟨O,O,O,O,trivial⟩,O,d⟩) (fun i g u=>(zK (zB (zC O (zC O (jJ qF O O (zw O O O (zC O (yB (q:=((i:Nat):Int)<((0:Nat):Int)) 3 4 [24,23,22] (((i:Nat):Int)<0) O O O O O O trivial O (fun c=> ?_) (fun m=> ?_))))))))))))))))
 ·refine zQ O (gT c) (zC O (zQ O (gT c) (zC O (zQ O (gT c) (zw O O O (z8 O (fun _ d=>d)))))))
 refine zA (zT O (fun n=> ?_) (fun n=> ?_))
 ·exact absurd n.1 qG
 refine zu O (zB (zC O (zF O (zA (zP (zm (v:=pt a) O O (fun j d=>⟨a,W2_,O,e,b,d.sel [1] O V⟩)))))))
theorem zEB(r le:Int)(v:Value)(l:List Nat)(w:World)(hr:0≤r∧r≤255)(hl:0≤le∧le≤255)(br:∀ x∈l,x<18446744073709551616)(c9:l.length≤10000000)(hv:Rd w [] (Res.sl v l.length (l.flatMap U1))):Rets Tryz.prog 4 #[.int .u8 r, .int .u8 le,v] w fun u_ i=>u_=xi∧Own w [] [] i:=by
 have ai:0≤r%4*100000∧r%4*100000≤300000:=by omega
 refine zO Tryz.func4 O Tryz.ntmps4 (Own.start w) (zB (zF O (zA (zB (zC O (zG O O (fun i a=>(zPg ((0:Nat):Int) ((0:Nat):Int) r i qH qH hr).mono ?_)))))))
 rintro _ m ⟨rfl,p⟩
 refine(?_:CL _ _ _ _ _ _ (Own w [] [])) m (a.qb p)
 refine zG O O (fun i a=>(zMP (jp (r%4*100000)) i O (by show 0≤r%4*100000∧r%4*100000≤500000;omega)).mono ?_)
 rintro _ m ⟨d,W2_,rfl,k,aj,p⟩
 have ba:W2_.st.rho=r%4*100000:=by rw[aj];rfl
 refine(?_:CL _ _ _ _ _ _ (Own w [] [_])) m (a.qb p)
 refine zk (v:= .pointer none) qF O (fun b7=>zi (cs:=[.pointer none]) 1 O O O O O (zA (zK (zB (zG O O (fun i a=>(zOg i).mono ?_))))))
 rintro _ m ⟨rfl,p⟩
 refine(?_:CL _ _ _ _ _ _ (Own w [] [_,_])) m (a.qb p)
 refine xp (b:=true) O O (zC O (zQ O O (zJ 1 (v:=pt d) O O O O (zQ O O (yE qF O O O (xB O O (zA (yW O (zN (zB (zJ 1 (v:=pt d) O O O O (yJ (cs:=[Vi 2,Vi 0,Vi 0,Vi 60,Vn 0,Vn 0,Vn 0,Vn 0,Vi 0,yk,Vi 0,Vi 0,Vn 0]) (z:=[Vi 0,Vi 0,Vi 0,Vi 0,Vn 0,Vn 0,Vn 0,Vn 0,Vi 0,yk,Vi 0,Vi 0,Vn 0]) (pl:=[(0,1),(1,1),(2,1),(3,1),(4,1),(5,1),(6,7)]) qF qF O (zG O O (fun i a=>(zOw d W2_ 60 0 i k V (by rw[ba];exact zPA ai) V (a.give [0] O V)).mono ?_))))))))))))))
 rintro _ m ⟨W'3_,rfl,b0,ak,al,h,p⟩
 have b1:StL W'3_ (r%4*100000) 0 lgZ 0 0 []:=⟨by have q:=b0;rw[ba]at q;exact q,al,zJm ak,by rw[h];exact((k).eg 0 V).1.1.1.1.2.2,by rw[h];exact((k).eg 1 V).1.1.1.1.2.2,by rw[h];exact((k).eg 0 V).1.2.1.1,by rw[h];exact((k).eg 1 V).1.2.1.1,by rw[h];exact((k).eg 0 V).1.2.1.2⟩
 refine(?_:CL _ _ _ _ _ _ (Own w [] [_,_])) m (a.qh [0] O p)
 refine zA (zB (j2 (va:=[]) (vb:=[pt b7]) O O O (zF O (zA (zB (zC O (yJ (cs:=[Vn 0,Vn 0,Vi 1, .string (⟨#[107]⟩:ByteArray),Vi 300,Vi 0,Vn 0]) (z:=[Vn 0,Vn 0,Vi 0,yk,Vi 0,Vi 0,Vn 0]) (pl:=[(0,1),(1,1),(2,1),(3,1),(4,1),(5,1),(6,1)]) qF qF O (yK (fst:=[]) (cap:=[pt b7]) O qF O O (fun i a=>(zAq b7 d W'3_ (r%4*100000) 0 0 0 1 ({session:=0,seq:=0,op:=1,key:=(⟨#[107]⟩:ByteArray),amount:=300,span:=0,lease:=0}:CmdD) i b1.w V V (zT3 b1) (a.give [0,1] O V)).mono ?_)))))))))
 rintro _ m ⟨W'4_,ca,bs,rfl,b2,p⟩
 obtain⟨cb,b3⟩:=zUi b1 b2
 refine(?_:CL _ _ _ _ _ _ (Own w [] [_,_])) m (a.qh [0,1] O p)
 refine zA (zB (zC O (yJ (cs:=[Vn 0,Vn 0,Vi 2, .string (⟨#[107]⟩:ByteArray),Vi 300,Vi 50,Vn 0]) (z:=[Vn 0,Vn 0,Vi 0,yk,Vi 0,Vi 0,Vn 0]) (pl:=[(0,1),(1,1),(2,1),(3,1),(4,1),(5,1),(6,1)]) qF qF O (yK (fst:=[]) (cap:=[pt b7]) O qF O O (fun i a=>(zAq b7 d W'4_ (r%4*100000) 1 0 0 1 ({session:=0,seq:=0,op:=2,key:=(⟨#[107]⟩:ByteArray),amount:=300,span:=50,lease:=0}:CmdD) i b3.w V V (zUO b3) (a.give [0,1] O V)).mono ?_)))))
 rintro _ m ⟨W'7_,s,bt,rfl,b4,p⟩
 obtain⟨bb,T7,bu,b5⟩:=zUD ai b3 b4
 refine(?_:CL _ _ _ _ _ _ (Own w [] [_,_])) m (a.qh [0,1] O p)
 refine zk (v:= .agg #[Vn 0,Vn 0,Vi 0,Vn 0,Vi 0,Vi 0]) qF O (fun b9=>zf 2 O O O (zz O) O (zA (zB (zC O (zC O (yi qF O (zt qG) O ?_ qF))))))
 refine zr O O (zt qG) O (yJ (cs:=[Vn 0,Vn 0,Vi 1, .string (⟨#[107]⟩:ByteArray),Vi (le+1),Vi 0,Vn 0]) (z:=[Vn 0,Vn 0,Vi 0,yk,Vi 0,Vi 0,Vn 0]) (pl:=[(0,1),(1,1),(2,1),(3,1),(4,1),(5,1),(6,1)]) qF qF O (yK (fst:=[]) (cap:=[pt b7]) O qF O O (fun i a=>(zAq b7 d W'7_ (r%4*100000) 2 0 1 2 ({session:=0,seq:=0,op:=1,key:=(⟨#[107]⟩:ByteArray),amount:=le+1,span:=0,lease:=0}:CmdD) i b5.w V V (zUP hl b5) (a.give [0,1] O V)).mono ?_)))
 rintro _ m ⟨W'10_,a1,bl,rfl,am,p⟩
 obtain⟨bv,b6⟩:=zUZ hl b5 am
 have bw:=(am).c
 have bc:s.lease=1:=by rw[bb];rfl
 refine(?_:CL _ _ _ _ _ _ (Own w [] [_,_,_])) m (a.qh [0,1] O p)
 refine zk (v:= .agg #[Vn 0,Vn 0,Vi 0,Vn 0,Vi 0,Vi 0]) qF O (fun bx=>zf 3 O O O (zz O) O (zA (zB (zC O (zI (o:=3) O O (zJ 0 (v:=Vn s.lease) O O O O (yJ (cs:=[Vn 0,Vn 0,Vi 3,yk,Vi 0,Vi 500,Vn s.lease]) (z:=[Vn 0,Vn 0,Vi 0,yk,Vi 0,Vi 0,Vn 0]) (pl:=[(0,1),(1,1),(2,1),(3,1),(4,1),(5,1),(6,1)]) qF qF O (yK (fst:=[]) (cap:=[pt b7]) O qF O O (fun i a=>(zAq b7 d W'10_ (r%4*100000) 3 0 0 1 ({session:=0,seq:=0,op:=3,key:=yEb,amount:=0,span:=500,lease:=s.lease}:CmdD) i b6.w V V (zUb bc hl b6) (a.give [1,2] O V)).mono ?_)))))))))
 rintro _ m ⟨W'13_,a5,bm,rfl,an,p⟩
 obtain⟨bz,b8⟩:=zUe bc hl b6 an
 have c0:=(an).c
 refine(?_:CL _ _ _ _ _ _ (Own w [] [_,_,_,_])) m (a.qh [1,2] O p)
 refine zk (v:= .agg #[Vn 0,Vn 0,Vi 0,Vn 0,Vi 0,Vi 0]) qF O (fun c1=>zf 4 O O O (zz O) O (zA (zB (zC O (yJ (cs:=[Vn 0,Vn 0,Vi 2, .string (⟨#[107]⟩:ByteArray),Vi 1,Vi 5,Vn 0]) (z:=[Vn 0,Vn 0,Vi 0,yk,Vi 0,Vi 0,Vn 0]) (pl:=[(0,1),(1,1),(2,1),(3,1),(4,1),(5,1),(6,1)]) qF qF O (yK (fst:=[]) (cap:=[pt b7]) O qF O O (fun i a=>(zAq b7 d W'13_ (r%4*100000) 4 0 1 2 ({session:=0,seq:=0,op:=2,key:=(⟨#[107]⟩:ByteArray),amount:=1,span:=5,lease:=0}:CmdD) i b8.w V V (zT0 hl b8) (a.give [2,3] O V)).mono ?_)))))))
 rintro _ m ⟨W'16_,ao,bn,rfl,y,p⟩
 obtain⟨bd,ay⟩:=zUT hl b8 y
 have bf:=(y).c
 have bg:=zT6 ay (y).st
 have bh:T7≤y9 W'16_.c (-1)+50:=by rw[bf,c0,bw];exact bu
 have bi:=zPw ay.w.c
 refine(?_:CL _ _ _ _ _ _ (Own w [] [_,_,_,_,_])) m (a.qh [2,3] O p)
 refine zk (v:= .agg #[Vn 0,Vn 0,Vi 0,Vn 0,Vi 0,Vi 0]) qF O (fun c4=>zf 5 O O O (zz O) O (zA (zK (zB (zI (o:=2) O O (zJ 0 (v:=Vi s.e) O O O O (ye O O O (zC O (yP (q:=s.e≠0) 3 3 [56,55,54] (a1.amount≠300) O O O O O O trivial O (fun a2=> ?_) (fun c5=> ?_))))))))))
 ·refine zQ O (gF a2) (zI (o:=4) O O (zQ O (gF a2) (zJ 1 (v:=Vi a1.amount) O O O O (zQ O (gF a2) (ye O O O (z8 O (fun _ a=>a)))))))
 refine zC O (yP (q:=(s.e≠0)∨(a1.amount≠300)) 3 8 [61,60,59] (a5.e≠16) O O O O O O trivial O (fun a3=> ?_) (fun bo=> ?_))
 ·refine zQ O (gF a3) (zI (o:=2) O O (zQ O (gF a3) (zJ 2 (v:=Vi a5.e) O O O O (zQ O (gF a3) (ye O O O (z8 O (fun _ a=>a)))))))
 refine zC O (yP (q:=((s.e≠0)∨(a1.amount≠300))∨(a5.e≠16)) 3 13 [66,65,64] (ao.e≠16) O O O O O O trivial O (fun a0=> ?_) (fun bp=> ?_))
 ·refine zQ O (gF a0) (zI (o:=2) O O (zQ O (gF a0) (zJ 5 (v:=Vi ao.e) O O O O (zQ O (gF a0) (ye O O O (z8 O (fun _ a=>a)))))))
 refine zA (zT O (fun c2=> ?_) (fun c2=> ?_))
 ·exact absurd c2 (by rw[bb,bv,bz,bd];decide)
 refine zN (zK (zB (zF O (zA (zU (xP (fun(j:Nat) (W:WdE) (u:Int)=>[(1, .int .u8 le),(2,v),(7,pt b7),(8, .func (.func 15) #[] #[pt b7]),(13,Vj j)]) (fun(j:Nat) (W:WdE) (u:Int)=>(j≤30∧0≤u)∧StM W (r%4*100000) j le W'16_.c u [(1,⟨kK,300,T7⟩)]) (fun(j:Nat) (W:WdE) (u:Int)=>[Res.row b9 37 (RepD.cells s),Res.row bx 37 (RepD.cells a1),Res.row c1 37 (RepD.cells a5),Res.row b7 26 [pt d],Res.we d W,Res.row c4 37 (RepD.cells ao)]) (fun(j:Nat) (W:WdE) (u:Int)=>30 - j) (fun i a=>⟨0,W'16_,0,⟨O,O,O,O,O,trivial⟩,⟨⟨Nat.zero_le _,Int.le_refl 0⟩,bg⟩,a⟩) (fun j W u g hΦ=> ?_)))))))
 have hj:=hΦ.1.1
 have hu:=hΦ.1.2
 have hM:=hΦ.2
 refine zK (zB (zC O (zC O (zn (pR hv) O O (zw O O O (zC O (yB (q:=((j:Nat):Int)<((l.length:Nat):Int)) 2 4 [74,73] (((j:Nat):Int)<30) O O O O O O trivial O (fun ap=> ?_) (fun c6=> ?_))))))))
 ·refine zQ O (gT ap) (zC O (zQ O (gT ap) (zw O O O (z8 O (fun _ a=>a)))))
 refine zA (zT O (fun c3=> ?_) (fun c3=> ?_))
 ·have c7:=br _ (zy (l:=l) (j:=j) qG)
  refine zN (zK (zU (zd [0,1,2,3,5] O V qF (fun i a hS=>zD 0 O (zZ 3 (v:=pt d) O O O) hS (zD 1 O za hS (zD 2 O za hS (zD 3 O (kI (pR hv) 1 j O O O qG) hS (zD 4 O (zA6 (pR hv) 1 j 0 (fun _=>O) O O qG O) hS (zD 5 O (xX (cs:=[Vi 2,Vi 0,Vi 0,Vi 5,Vn (zc l j),Vn 0,Vn 0,Vn 0,Vi 0,yk,Vi 0,Vi 0,Vn 0]) (z:=[Vi 0,Vi 0,Vi 0,Vi 0,Vn 0,Vn 0,Vn 0,Vn 0,Vi 0,yk,Vi 0,Vi 0,Vn 0]) (pl:=[(0,1),(1,1),(2,1),(3,1),(4,1),(5,1),(6,7)]) qF qF) hS (zM 6 O a (zG O O (fun i a=>(zFm d _ (r%4*100000) 5 j 5 (zc l j) i hM.w V qG V c7 (a.give [4] O V)).mono ?_))))))))))))
  rintro _ m ⟨W'19_,rfl,au,a7,a8,a9,aa,p⟩
  refine(?_:CL _ _ _ _ _ _ (Own w [] [_,_,_,_,_,_])) m (a.qh [4] O p)
  refine zE [0,1,2,3,4] O V (fun i a hS=>zX ((?_:C _ _ _ _ _ _ _ (Own w [] [_,_,_,_,_,_])) _ a))
  refine ze (zC O (zr O O (zt qG) O (zF O (zx (fun i a=>⟨j+1,W'19_,(u+yU 5 (r%4*100000)),⟨O,O,O,O,O,trivial⟩,⟨⟨by omega,by have:=(zIQ (n:=5) V hM.w.ro).1;omega⟩,hM.pass au a7 a8 a9 aa⟩,a.sel [0,1,2,3,5,4] O V,qG⟩)))))
 refine zu O (zB (zJ 3 (v:=pt d) O O O O (yJ (cs:=[Vi 2,Vi 0,Vi 0,Vi 200,Vn 0,Vn 0,Vn 0,Vn 0,Vi 0,yk,Vi 0,Vi 0,Vn 0]) (z:=[Vi 0,Vi 0,Vi 0,Vi 0,Vn 0,Vn 0,Vn 0,Vn 0,Vi 0,yk,Vi 0,Vi 0,Vn 0]) (pl:=[(0,1),(1,1),(2,1),(3,1),(4,1),(5,1),(6,7)]) qF qF O (zG O O (fun i a=>(zFm d _ (r%4*100000) 5 j 200 0 i hM.w V qG V V (a.give [4] O V)).mono ?_)))))
 rintro _ m ⟨W'20_,rfl,av,ab,ac,ad,ae,p⟩
 have aq:=hM.pass av ab ac ad ae
 have bj:51≤u+yU 200 (r%4*100000):=by have:=zLV ai;omega
 have hU:=zUR bj bh aq
 refine(?_:CL _ _ _ _ _ _ (Own w [] [_,_,_,_,_,_])) m (a.qh [4] O p)
 refine zA (zB (zJ 3 (v:=pt d) O O O O (zG O O (fun i a=>(zKe d W'20_ (r%4*100000) 5 (j+1) (⟨#[107]⟩:ByteArray) i aq.w hU.1 hU.2 (a.give [5] O V)).mono ?_))))
 rintro _ m ⟨W'21_,rfl,aw,af,ag,ah,p⟩
 have a6:=aq.use aw af ag ah
 have az:=a6.dl bj qG bi
 refine(?_:CL _ _ _ _ _ _ (Own w [] [_,_,_,_,_,_])) m (a.qh [5] O p)
 refine zC O (zb (vs:=[Vi 0,xi]) O O O (zb (vs:=[Vi 0,xi]) O O O (zF O (zF O (zA (zB (zC O (zC O (yi qF O (zt qG) O ?_ qF)))))))))
 refine zr O O (zt qG) O (yJ (cs:=[Vn 0,Vn 0,Vi 2, .string (⟨#[107]⟩:ByteArray),Vi (le+1),Vi 5,Vn 0]) (z:=[Vn 0,Vn 0,Vi 0,yk,Vi 0,Vi 0,Vn 0]) (pl:=[(0,1),(1,1),(2,1),(3,1),(4,1),(5,1),(6,1)]) qF qF O (yK (fst:=[]) (cap:=[pt b7]) O qF O O (fun i a=>(zAq b7 d W'21_ (r%4*100000) 5 (j+1) 1 2 ({session:=0,seq:=0,op:=2,key:=(⟨#[107]⟩:ByteArray),amount:=le+1,span:=5,lease:=0}:CmdD) i a6.w V qG (zUA hl a6 az) (a.give [3,5] O V)).mono ?_)))
 rintro _ m ⟨W'22_,ar,bq,rfl,ax,p⟩
 have bk:=zT1 hl a6 az ax
 refine(?_:CL _ _ _ _ _ _ (Own w [] [_,_,_,_,_,_])) m (a.qh [3,5] O p)
 refine zk (v:= .agg #[Vn 0,Vn 0,Vi 0,Vn 0,Vi 0,Vi 0]) qF O (fun cc=>zf 6 O O O (zz O) O (zA (zB (zC O (zC O (zQ O O (zC O (zQ O O (yT O O O (zBy O O (zC O (yB (q:=0=0) 3 5 [107,106,105] (ar.e=0) O O O O O O trivial O (fun a4=> ?_) (fun c8=> ?_)))))))))))))
 ·refine zQ O (gT a4) (zI (o:=2) O O (zQ O (gT a4) (zJ 6 (v:=Vi ar.e) O O O O (zQ O (gT a4) (yT O O O (z8 O (fun _ a=>a)))))))
 refine zF O (zA (zP (zm (v:= .bool (decide ((0=0)∧(ar.e=0)))) O O (fun i a=>⟨(congrArg Value.bool (decide_eq_true ⟨O,bk⟩)),a.drop⟩))))
end Go.Proofs.YthpoddkmhfhboaaGreatDoor
