import Derived.Test.YthpoddkmhfhboaaGreatDoorWmf
set_option linter.unusedSectionVars false
set_option linter.unusedSimpArgs false
set_option linter.unusedVariables false
set_option maxRecDepth 10000
namespace Go.Proofs.YthpoddkmhfhboaaGreatDoor
open Go.Sc
theorem zNJ{S:List Nat}(pw:Nat)(wb nb e1 e2 pb cb:Nat)(st:SetD)(nv dv ev km lv:Value)(k:Nat)(cv ov:Value)(es:List EntD)(cs:List CalD)(jj eb:Nat)(aa:Int)(d:EgD)(n:NdD)(c:CkD)(T:Int)(ps:PsD)(kk q m:Nat)(cm:CmdD)(lr:RepD)(w:World)(c8:k≤900)(hc:CkA c T)(b0:cm.wf)(bg:¬ xW cm.op cm.key cm.amount cm.span)(b1:cm.op≠4)(bh:aa=((jj:Nat):Int)+1)(ar:jj<2)(hb:eb=zc [e1,e2] jj)(hs:d.seq≤900)(bu:d.waits=false)(bv:ps.l=[])(hl:cs.length≤900)(bi:d.next=1)(bw:d.id=aa)(bx:d.nodes=1)(h:NdM n kk q m)(bz:kk≤1000)(c0:n.x.es.length≤200)(c2:n.x.es.length≤97∨jP (n.x.es.map EntD.toEntA)<512)(bj:c.t1=n.x.t.now)(hk:yn n.s.a.kr (u64 aa) (d.seq+1)=(lr,8))(hA:ApOk n.s.a n.dl)(hq:q+6200≤1048576)(hm:m+2<4000)(c3:es.length=n.x.es.length)(hW:∀ r a6 cnt' kb' kl' kr',DoK (ye n.s.a.now n.dl) n.s.a.cnt n.s.a.kb (yX n.s.a.now n.dl n.s.a.kl) n.s.a.kr (ki cm aa (d.seq+1)) r a6 cnt' kb' kl' kr'→(r.wf∧r.ok)∧r.session≠0)(c4:Own w S [Res.row pw 26 [pt wb],jL wb st nv dv ev pb cb (Vj k) cv ov lv km,Res.vec 60 1 nv [nb].length ([nb].flatMap P1),Res.vec 47 1 ev [e1,e2].length ([e1,e2].flatMap P1),vE lv es,Res.vec 41 21 cv cs.length (cs.flatMap CalD.cells),vI ov [0,0],Res.nd nb n,Res.eg eb d,Res.ck cb c,Res.ps pb ps] w):Rets Tryz.prog 9 #[Vi aa, .agg (CmdD.cells cm).toArray,pt pw] w fun u_ w'=>∃ (bk bl:Value) (b2:List CalD) (d':EgD) (n':NdD) (bm:PsD) (r:RepD) (a6:Bool),u_= .agg (RepD.cells r).toArray∧bm.l=[]∧(d'.waits=false∧d'.seq=d.seq+1)∧zBU d' d∧d'.next=1∧d'.now=max d.now (yt c (jD .i64 aa))∧d'.kl=(if r.e=0 then xd (zA2 cm aa (d.seq+1)) (max d.now (yt c (jD .i64 aa))) d.rho r d.kl d.kn else d.kl)∧d'.kn=d.kn∧NdM n' kk (q+6100) (m+2)∧n'.st=n.st∧n'.x.t.now=n.x.t.now∧n'.x.t.qh=n.x.t.now∧n'.x.es.length=n.x.es.length+1∧n'.fs.length=1∧n'.s.a.now=ye n.s.a.now n.dl∧DoK (ye n.s.a.now n.dl) n.s.a.cnt n.s.a.kb (yX n.s.a.now n.dl n.s.a.kl) n.s.a.kr (ki cm aa (d.seq+1)) r a6 n'.s.a.cnt n'.s.a.kb n'.s.a.kl n'.s.a.kr∧b2.length=cs.length+1∧n'.x.es.map EntD.toEntA=n.x.es.map EntD.toEntA++[(⟨n.x.es.length+1,1,2,n.dl,(ki cm aa (d.seq+1)).enc⟩:EntA)]∧Own w S [Res.row pw 26 [pt wb],jL wb st nv dv ev pb cb (Vj (k+1+1+1)) bl ov bk km,Res.vec 60 1 nv [nb].length ([nb].flatMap P1),Res.vec 47 1 ev [e1,e2].length ([e1,e2].flatMap P1),vE bk (es++n'.fs),Res.vec 41 21 bl b2.length (b2.flatMap CalD.cells),vI ov [0,0],Res.nd nb n',Res.eg eb d',Res.ck cb c,Res.ps pb bm] w':=by
 have c9:([0,0]:List Int).length=2:=rfl
 refine zO Tryz.func9 O Tryz.ntmps9 c4 (zB (zj O O (fun b4=>zk (v:= .agg #[Vn 0,Vn 0,Vi 0,Vn 0,Vi 0,Vi 0]) qF O (fun b5=>zA (zB (zJ 0 (v:=pt wb) O O O O (zC O (z6 (cs:=(CmdD.cells cm)) 11 O O O (yJ (cs:=[Vi 11,Vi aa,Vi 0,Vi 0,Vn 0,Vn 0,Vn cm.session,Vn cm.seq,Vi cm.op, .string cm.key,Vi cm.amount,Vi cm.span,Vn cm.lease]) (z:=[Vi 0,Vi 0,Vi 0,Vi 0,Vn 0,Vn 0,Vn 0,Vn 0,Vi 0,ym,Vi 0,Vi 0,Vn 0]) (pl:=[(0,1),(1,1),(2,1),(3,1),(4,1),(5,1),(6,7)]) qF qF O (zG O O (fun w' hw=>(zO1 wb nb e1 e2 pb cb st nv dv ev km lv k cv ov es cs [0,0] jj eb aa _ _ _ _ _ w' qG hc b0 bh ar hb O qG bu bv qG bi (hw.give [1,3,5,6,8,9,10] O V)).mono ?_)))))))))))
 rintro _ w1 ⟨ca,u,a5,b3,bn,b,a7,rfl,j,a8,a9,hO⟩
 have hY:=(a9).resolve_left (fun q=>bg q.bad)
 have au:a5.a=zA2 cm aa (d.seq+1):=by rw[hY.a,bw];rfl
 have bo:(zA2 cm aa (d.seq+1)).look=false:=by rw[zB0]
 have ab:(zA2 cm aa (d.seq+1)).cmd=ki cm aa (d.seq+1):=by rw[zB0]
 have b6:(zA2 cm aa (d.seq+1)).seq=d.seq+1:=by rw[zB0]
 have bp:=zTn bh ar
 have bq:=hY.l
 rw[au]at bq
 refine fq [1,3,5,6,8,9,10] O hw hO (zA (zB (zJ 0 (v:=pt wb) O O O O (yJ (cs:=[Vi 3,Vi 0,Vi 0,Vi 0,Vn 0,Vn 0,Vn 0,Vn 0,Vi 0,ym,Vi 0,Vi 0,Vn 0]) (z:=[Vi 0,Vi 0,Vi 0,Vi 0,Vn 0,Vn 0,Vn 0,Vn 0,Vi 0,ym,Vi 0,Vi 0,Vn 0]) (pl:=[(0,1),(1,1),(2,1),(3,1),(4,1),(5,1),(6,7)]) qF qF O (zG O O (fun w' hw=>(zJq wb nb e1 e2 pb cb st nv dv ev km lv (k+1) u ov es _ _ _ b3 (jD .i64 aa) bn (zA2 cm aa (d.seq+1)) lr kk q m w' qG hc bq h bz qG c0 c2 bj bo (zIM b0 qG) (zOT bg) (by rw[ab,bp,show -(-(((jj:Nat):Int)+1))=aa by omega];rfl) (by rw[ab];exact hk) hA hq hm c3 (fun r a6 a1 a2 a3 a4 hD=>by rw[ab]at hD;have z:=hW r a6 a1 a2 a3 a4 hD;rw[b6];exact⟨⟨zIu z.1.1 qG,zIy z.1.2⟩,z.2⟩) (hw.give [6,1,2,3,11,12] O V)).mono ?_))))))
 rintro _ w1 ⟨y,b7,a0,av,c7,g,aw,rfl,b8,ac,ad,ae,af,ag,ah,ai,aj,ak,hO⟩
 have hD:=ai
 rw[ab]at hD
 have hz:=hW _ _ _ _ _ _ hD
 have ay:=b8
 rw[b6]at ay
 have b9:=hY.cs
 have br:b.length=cs.length+1:=by rw[b9,List.length_append];rfl
 have ba:zc b (b.length - 1)=zHL aa a5.a.cmd (k+1):=by rw[br,Nat.add_sub_cancel,b9];exact jY qJ
 have bb:=hY.os
 have bc:=zSo (a:=((b.length:Nat):Int)) ar
 refine fq [6,1,2,3,11,12] O hw hO (zA (zB (zJ 0 (v:=pt wb) O O O O (yJ (cs:=[Vi 3,Vi 0,Vi 0,Vi 0,Vn 0,Vn 0,Vn 0,Vn 0,Vi 0,ym,Vi 0,Vi 0,Vn 0]) (z:=[Vi 0,Vi 0,Vi 0,Vi 0,Vn 0,Vn 0,Vn 0,Vn 0,Vi 0,ym,Vi 0,Vi 0,Vn 0]) (pl:=[(0,1),(1,1),(2,1),(3,1),(4,1),(5,1),(6,7)]) qF qF O (zG O O (fun w' hw=>(zJZ wb nb e1 e2 pb cb st nv dv ev km y ((k+1)+1) u ov (es++a0.fs) b a7 jj eb (jD .i64 aa) a5 _ _ av b7 (zAW (d.seq+1) g) w' qG hc ar hb bp (by rw[bb];exact bc.2.2) (by rw[bb];exact bc.2.1) ay (zIu hz.1.1 qG) (zIy hz.1.2) O hY.waits (by rw[au,b6];rfl) (by rw[au];exact zIM b0 qG) (by rw[(j).1.2,bx];decide) qG (by rw[ba];rfl) qG (hw.give [7,3,4,5,6,11,12] O V)).mono ?_))))))
 rintro _ w1 ⟨bd,ax,rfl,bf,al,p,am,an,ao,ap,aq,hO⟩
 have c5:=zMc b (k+1+1+1) (zAW (d.seq+1) g)
 have bs:zc (jl b (k+1+1+1) (zAW (d.seq+1) g)) cs.length=({zHL aa a5.a.cmd (k+1)with stop:=((k+1+1+1:Nat):Int),reply:=g}:CalD):=by rw[b9,zJu];exact jY (by simp[zAW])
 have bt:a7.set jj 0=[0,0]:=by rw[bb];exact bc.1
 refine fq [7,3,4,5,6,11,12] O hw hO (zA (zB (zJ 0 (v:=pt wb) O O O O (zG O O (fun w' hw=>(zK1 wb nb e1 e2 pb cb st nv dv ev km y (((k+1)+1)+1) u ov (es++a0.fs) (jl b (((k+1)+1)+1) (zAW (d.seq+1) g)) w' qG (hw.give [6,8] O V)).mono ?_)))))
 rintro az w1 ⟨_,rfl,hO⟩
 refine(?_:CL _ _ _ _ _ _ (Own w S [_,_,_,_,_,_,_,_,_,_,_,_,_,_])) w1 (hw.qc [6,8] O hO)
 refine zF O (zA (zK (zB (zC O (zn (pV 13 O) O O (yT O O O (zA (zT O (fun c1=> ?_) (fun c1=> ?_)))))))))
 ·exact absurd c1 qG
 refine zN (zB (zC O (zC O (zn (pV 13 O) O O (y9 O O (zt qG) O (yL (pV 13 O) 21 cs.length O O qG qG O (zI (o:=13) O O (zKk (v:=az) (off:=yr az+cs.length*21+13) (cs.length*21+13) (cs:=((jl b (((k+1)+1)+1) (zAW (d.seq+1) g)).flatMap CalD.cells)) (RepD.cells ((zc (jl b (((k+1)+1)+1) (zAW (d.seq+1) g)) cs.length).reply)) O qG (fun w' c6=>Vec.sl (Own.holds c6 13 _ O)) (zD5 (sz:=21) (fun _=>O) (y8 qG) (o:=13) (us:=(RepD.cells ((zc (jl b (((k+1)+1)+1) (zAW (d.seq+1) g)) cs.length).reply))) (yj 13 O)) qF O (zf 2 O O O (zz O) O (zA (zP (xg (cs:=[Vn (((zc (jl b (((k+1)+1)+1) (zAW (d.seq+1) g)) cs.length).reply).session),Vn (((zc (jl b (((k+1)+1)+1) (zAW (d.seq+1) g)) cs.length).reply).seq),Vi (((zc (jl b (((k+1)+1)+1) (zAW (d.seq+1) g)) cs.length).reply).e),Vn (((zc (jl b (((k+1)+1)+1) (zAW (d.seq+1) g)) cs.length).reply).lease),Vi (((zc (jl b (((k+1)+1)+1) (zAW (d.seq+1) g)) cs.length).reply).amount),Vi (((zc (jl b (((k+1)+1)+1) (zAW (d.seq+1) g)) cs.length).reply).until_)]) O O qF (Own.qd (i:=2) O) (fun w' hw=>⟨y,u,jl b (k+1+1+1) (zAW (d.seq+1) g),bd,a0,ax,g,aw,(by rw[bs];rfl),bf,⟨al,(am).2.trans hY.seq⟩,⟨⟨(p).1.1.trans (j).1.1,(p).1.2.trans (j).1.2⟩,(p).2.trans (j).2⟩,(an).trans ((a8).trans bi),(ap).trans (by rw[hY.now,Int.max_assoc,Int.max_self]),(by rw[ao,au,bo,hY.since,(j).2,hY.kl,hY.kn,if_neg b1,if_neg b1];simp only[true_and];rfl),(aq).trans (by rw[hY.kn,if_neg b1]),ac,ad,ae,aj,af,ag,ah,hD,(c5.trans br),(by have q:=ak;rw[ab]at q;exact q),(by rw[bt]at hw;exact hw.sel [0,11,3,6,4,12,7,5,8,9,10] rfl V)⟩)))))))))))))
theorem zDD{S:List Nat}(pw wb:Nat)(W:WdE)(rho:Int)(i p a:Nat)(aa:Int)(cm:CmdD)(w:World)(h:WeI W rho i p)(hi:i≤150)(hp:p≤200)(e:LrnH W a aa cm)(a3:Own w S [Res.row pw 26 [pt wb],Res.we wb W] w):Rets Tryz.prog 9 #[Vi aa, .agg (CmdD.cells cm).toArray,pt pw] w fun u_ w'=>∃ (W':WdE) (r:RepD) (m:Bool),u_= .agg (RepD.cells r).toArray∧LrnK W rho i p a aa cm W' r m∧Own w S [Res.row pw 26 [pt wb],Res.we wb W'] w':=by
 have h1:=a3.qi 1 rfl
 have o:=e.ea
 have d:=e.ej
 obtain⟨nb,e1,e2,pb,cb,st,nv,dv,ev,km,lv,cv,ov,k,es,cs,n,el,c,ps⟩:=W
 have hE:=zEy h.em
 have b:a<el.length:=by have q:el.length=2:=hE.1;omega
 have h2:=h1.qz (g:=egR) 8 a b rfl
 have ag:k≤1+3*i+p:=h.k
 have a4:n.x.es.length=i+1:=h.ne
 have v:es.length=n.x.es.length:=h.es
 have a5:c.rho=rho:=h.cr
 have ah:cs.length≤i:=h.cl
 have z:EgI (zc el a).2 a rho i (yt c (-(((a:Nat):Int)+1))):=h.eg a d
 have y:=zTn o d
 have a6:=z.now
 have ai:=z.seq
 refine(zNJ pw wb nb e1 e2 pb cb st nv dv ev km lv k cv ov es cs a (zc el a).1 aa (zc el a).2 n c (2000+2000*((p:Nat):Int)) ps (1+p) (6100+6100*i) (3+2*i) cm RepD.zero w qG h.c e.cw e.gd e.op o d (hE.2 a d) qG z.waits h.ps qG z.next (z.id.trans o.symm) z.nodes h.n qG qG e.sg h.t e.k e.ap qG qG v e.ok (h2.give [0,1,2,3,4,5,6,7,10,8,9] O V)).mono ?_
 rintro _ w1 ⟨a7,a8,a0,l,s,a9,r,m,rfl,f1,f2,f3,f4,f5,f6,f7,f8,f9,a1,ab,a2,ac,ad,ae,aj,af,hO⟩
 have h3:=h2.qc [0,1,2,3,4,5,6,7,10,8,9] rfl hO
 have h4:=h3.qB (g:=egR) 9 0 a ((zc el a).1,l) b V rfl rfl
 rw[y,Int.max_eq_right a6]at f5 f6
 refine⟨⟨nb,e1,e2,pb,cb,st,nv,dv,ev,km,a7,a8,ov,k+1+1+1,es++s.fs,a0,s,el.set a ((zc el a).1,l),c,a9⟩,r,m,O,⟨⟨h.no,h.ro,a5,?_,h.c,?_,?_,?_,?_,?_,f1,by show k+1+1+1≤1+3*(i+1)+p;omega,by show a0.length≤i+1;omega⟩,O,ab.trans a1.symm,ad,ae,?_,?_,?_,?_,af⟩,(h4.qg [1,2,3,4,5,6,7,10,8,9] O V).sel [0,1] O V⟩
 · show NdM s (1+p) _ _
   rw[show 6100+6100*(i+1)=6100+6100*i+6100 by omega,show 3+2*(i+1)=3+2*i+2 by omega];exact f8
 · show c.t1=s.x.t.now
   rw[a1];exact h.t
 · show(es++s.fs).length=s.x.es.length
   rw[List.length_append,ac,a2,v]
 · show s.x.es.length=i+1+1
   rw[a2,a4]
 · exact zFl h.em d rfl
 · intro j hj
   show EgI (zc (el.set a ((zc el a).1,l)) j).2 j rho (i+1) (yt c (-(((j:Nat):Int)+1)))
   by_cases q:j=a
   · subst q
     rw[jh b]
     exact⟨f3.1.2.trans z.nodes,f3.2.trans z.rho,f3.1.1.trans z.id,f4,f2.1,by show l.seq≤i+1;rw[f2.2];omega,by show l.now≤_;rw[f5];exact Int.le_refl _⟩
   rw[zCF q]
   have u:EgI (zc el j).2 j rho i (yt c (-(((j:Nat):Int)+1))):=h.eg j hj
   exact⟨u.nodes,u.rho,u.id,u.next,u.waits,Nat.le_succ_of_le u.seq,u.now⟩
 · show(zc (el.set a ((zc el a).1,l)) a).2.seq=_
   rw[jh b];exact f2.2
 · show(zc (el.set a ((zc el a).1,l)) a).2.kl=_
   rw[jh b,show -aa= -(((a:Nat):Int)+1)by omega,←z.rho];exact f6
 · show(zc (el.set a ((zc el a).1,l)) a).2.kn=_
   rw[jh b];exact f7
 intro j q
 exact zCF q
theorem zJm{S:List Nat}(wb:Nat)(W:WdE)(w:World)(a:Own w S [Res.we wb W] w):Rets Tryz.prog 11 #[pt wb] w fun b c=>b=pt W.cb∧Own w S [Res.we wb W] c:=by
 have h1:=a.qi 0 rfl
 refine(zJ1 wb W.nb W.e1 W.e2 W.pb W.cb W.st W.nv W.dv W.ev W.km W.lv W.k W.cv W.ov W.es w (h1.give [0] O V)).mono ?_
 rintro _ e ⟨rfl,d⟩
 exact⟨O,((h1.qc [0] O d).qg [9,0,1,2,3,4,5,6,7,8] O V).sel [0] O V⟩
theorem zNy{S:List Nat}(wb:Nat)(W:WdE)(j:Int)(w:World)(b:j=1)(a:Own w S [Res.we wb W] w):Rets Tryz.prog 13 #[pt wb,Vi j] w fun c d=>c=pt W.e1∧Own w S [Res.we wb W] d:=by
 have h1:=a.qi 0 rfl
 refine(zFZ wb W.nb W.e1 W.e2 W.pb W.cb W.st W.nv W.dv W.ev W.km W.lv W.k W.cv W.ov W.es 0 W.e1 j w b V O (h1.give [0,2] O V)).mono ?_
 rintro _ g ⟨rfl,e⟩
 exact⟨O,((h1.qc [0,2] O e).qg [8,0,9,1,2,3,4,5,6,7] O V).sel [0] O V⟩
theorem zRu{S:List Nat}(b wb:Nat)(W:WdE)(e T:Int)(w:World)(hb:b=W.cb)(d:CkA W.c T)(g:e=1∨e= -1∨e= -2)(a:Own w S [Res.we wb W] w):Rets Tryz.prog 12 #[pt b,Vi e] w fun h i=>h= .tuple #[Vi (yt W.c e),Vi 0]∧Own w S [Res.we wb W] i:=by
 have h1:=a.qi 0 rfl
 subst hb
 refine(zIc W.cb W.c e T w d g (h1.give [8] O V)).mono ?_
 rintro _ k ⟨rfl,j⟩
 exact⟨O,((h1.qc [8] O j).qg [0,1,2,3,4,5,6,7,9,8] O V).sel [0] O V⟩
theorem zSU{S:List Nat}(b wb:Nat)(W:WdE)(rho:Int)(i p:Nat)(key:ByteArray)(t:Int)(w:World)(hb:b=W.e1)(h:WeI W rho i p)(hl:(zc W.el 0).2.kl.length≤1)(l:t=yt W.c (-1))(m:Own w S [Res.we wb W] w):Rets Tryz.prog 14 #[pt b, .string key,Vi t] w fun u v=>∃ (d:List Nat) (W':WdE),u= .tuple #[Vi ((kL 0 (jK key t (zc W.el 0).2.kl d)).1),Vi ((kL 0 (jK key t (zc W.el 0).2.kl d)).2)]∧d.Perm ((zc W.el 0).2.kl.map (·.1))∧WeI W' rho i p∧W'.c=W.c∧W'.n=W.n∧(((zc W'.el 0).2.kl=(zc W.el 0).2.kl∧(zc W'.el 0).2.kn=(zc W.el 0).2.kn)∧(zc W'.el 0).2.seq=(zc W.el 0).2.seq)∧zc W'.el 1=zc W.el 1∧Own w S [Res.we wb W'] v:=by
 have h1:=m.qi 0 rfl
 obtain⟨nb,e1,e2,pb,cb,st,nv,dv,ev,km,lv,cv,ov,k,es,cs,n,el,c,ps⟩:=W
 have r:=zEy h.em
 have a:0<el.length:=by have q:el.length=2:=r.1;omega
 have h2:=h1.qz (g:=egR) 7 0 a rfl
 have z:EgI (zc el 0).2 0 rho i (yt c (-(((0:Nat):Int)+1))):=h.eg 0 V
 have o:=z.now
 have hb:b=(zc el 0).1:=hb.trans (r.2 0 V).symm
 subst hb
 have l:t=yt c (-1):=l
 have e:max (zc el 0).2.now t=t:=by rw[l];exact Int.max_eq_right o
 refine(zJa (zc el 0).1 (zc el 0).2 key t w hl (h2.give [9] O V)).mono ?_
 rintro _ w1 ⟨d,d',rfl,x,s,y⟩
 rw[e]at s
 subst s
 have h3:=h2.qc [9] rfl y
 have h4:=h3.qB (g:=egR) 10 9 0 ((zc el 0).1,{(zc el 0).2 with now:=t}) a V rfl rfl
 refine⟨d,⟨nb,e1,e2,pb,cb,st,nv,dv,ev,km,lv,cv,ov,k,es,cs,n,el.set 0 ((zc el 0).1,{(zc el 0).2 with now:=t}),c,ps⟩,by rw[e],x,⟨h.no,h.ro,h.cr,h.n,h.c,h.t,h.es,h.ne,zFl h.em V O,?_,h.ps,h.k,h.cl⟩,O,O,?_,zCF V,(h4.qg [0,1,2,3,4,5,6,9,7,8] O V).sel [0] O V⟩
 · intro j hj
   show EgI (zc (el.set 0 ((zc el 0).1,{(zc el 0).2 with now:=t})) j).2 j rho i (yt c (-(((j:Nat):Int)+1)))
   by_cases q:j=0
   · subst q
     rw[jh a]
     exact⟨z.nodes,z.rho,z.id,z.next,z.waits,z.seq,by show t≤_;rw[l];exact Int.le_refl _⟩
   rw[zCF q];exact h.eg j hj
 show((zc (el.set 0 ((zc el 0).1,{(zc el 0).2 with now:=t})) 0).2.kl=_∧_)∧_
 rw[jh a];exact⟨⟨rfl,rfl⟩,rfl⟩
theorem zIY{now:Int}{cnt:Nat}{kb:List (ByteArray×Int)}{kl:List (Nat×LeaD)}{kr:List (Nat×RepD)}{c:CmdD}{r:RepD}{did:Bool}{cnt':Nat}{kb':List (ByteArray×Int)}{kl':List (Nat×LeaD)}{kr':List (Nat×RepD)}
   (h:DoK now cnt kb kl kr c r did cnt' kb' kl' kr') (a:c.ok) (d:c.session≠0) (e:c.seq≠0) (f:(yn kr c.session c.seq).2=8):zJn now cnt kb kl c r cnt' kb' kl'∧kr'=jZ kr r:=by
 rcases h with⟨g,_⟩|⟨_,i,_,b⟩
 · exfalso
   rcases g with⟨q,_⟩|⟨_,q,_⟩|⟨_,_,q,_⟩|⟨_,q,_⟩
   · exact q a
   · exact d q
   · exact e q
   exact q f
 exact⟨i,b⟩
section
variable {now:Int} {cnt:Nat} {kb:List (ByteArray×Int)} {kl:List (Nat×LeaD)} {c:CmdD} {r:RepD} {cnt':Nat} {kb':List (ByteArray×Int)} {kl':List (Nat×LeaD)}
theorem zUg(h:zJn now cnt kb kl c r cnt' kb' kl')(ho:c.op=1):r=zTY c (ju c.key c.amount kb) (yi c.key kl)∧cnt'=cnt∧kb'=zFQ c.key c.amount kb∧kl'=kl:=by
 rcases h with⟨_,h⟩|⟨q,_⟩|⟨q,_⟩|⟨q,_⟩|⟨q,_⟩
 · exact h
 all_goals omega
theorem zRM(h:zJn now cnt kb kl c r cnt' kb' kl')(ho:c.op=2):∃ x e,e=xe c.session c.key c.amount c.span kb kl∧x=zDK e cnt c.session c.key c.amount (now+c.span)∧r=zDe c x e∧cnt'=zMe e cnt∧kb'=kb∧kl'=zIm e x kl:=by
 rcases h with⟨q,_⟩|⟨_,h⟩|⟨q,_⟩|⟨q,_⟩|⟨q,_⟩
 · omega
 · exact h
 all_goals omega
end
theorem zL3{a b:LgA}(h1:a.now=b.now)(h2:a.cnt=b.cnt)(c:a.kb=b.kb)(d:a.kl=b.kl)(e:a.kr=b.kr):a=b:=by
 cases a;cases b
 dsimp only at *
 subst h1 h2 c d e
 rfl
abbrev kK:ByteArray:=⟨#[107]⟩
abbrev cmC(n:Int):CmdD:={session:=0,seq:=0,op:=1,key:=⟨#[107]⟩,amount:=n,span:=0,lease:=0}
abbrev cmA(n sp:Int):CmdD:={session:=0,seq:=0,op:=2,key:=⟨#[107]⟩,amount:=n,span:=sp,lease:=0}
abbrev cmN(l:Nat)(sp:Int):CmdD:={session:=0,seq:=0,op:=3,key:=⟨#[]⟩,amount:=0,span:=sp,lease:=l}
def LX:LeaD:=⟨1,1,⟨#[107]⟩,300,50⟩
def R1:RepD:=⟨1,1,0,0,0,0⟩
def R2:RepD:=⟨1,2,0,1,300,50⟩
def R3:RepD:=⟨2,1,0,0,300,0⟩
def R4:RepD:=⟨1,3,16,0,0,0⟩
def R5:RepD:=⟨2,2,16,0,0,0⟩
def LA1:LgA:=⟨0,0,[(kK,300)],[],[(1,R1)]⟩
def LA2:LgA:=⟨0,1,[(kK,300)],[(1,LX)],[(1,R2)]⟩
def LA3(le:Int):LgA:=⟨0,1,[(kK,le+1)],[(1,LX)],[(1,R2),(2,R3)]⟩
def LA4(le:Int):LgA:=⟨0,1,[(kK,le+1)],[(1,LX)],[(1,R4),(2,R3)]⟩
def LA5(le:Int):LgA:=⟨0,1,[(kK,le+1)],[(1,LX)],[(1,R4),(2,R5)]⟩
theorem zN9(n:Int):zl kK [(kK,n)]=some n:=by simp[zl]
theorem zUj{n:Int}{aa:Int}{s:Nat}:(ki (cmC n) aa s).ok:=⟨show(1:Int)≤1∧(1:Int)≤5 by decide,show kK.size≤64 by decide⟩
theorem zQT{n sp:Int}{aa:Int}{s:Nat}:(ki (cmA n sp) aa s).ok:=⟨show(1:Int)≤2∧(2:Int)≤5 by decide,show kK.size≤64 by decide⟩
section
variable {a b:LgA} {d:Int} {r:RepD} {did:Bool} {le:Int}
theorem zCT{d:Int}(a:0≤d∧d≤1099511627776):kP 0 d=0:=by
 unfold kP
 rw[if_neg qG,if_neg qG]
theorem zKU{a:LgA}{d:Int}(b:a.kl=[])(c:a.now=0)(g:a.cnt≤1)(e:0≤d∧d≤1099511627776):ApOk a d:=by
 have f:=zCT e
 have h1:yX a.now d a.kl=[]:=by rw[b];unfold yX;split<;>rfl
 have h2:kZ a.now d a.kl=[]:=by rw[b];unfold kZ;split<;>rfl
 have h:ye a.now d=d:=by rw[c];unfold ye;rw[if_pos f];omega
 refine⟨⟨by omega,by omega⟩,by rw[c];decide,by omega,by rw[b];exact List.nodup_nil,by rw[b];decide,fun k=> ?_,fun i l hl=> ?_,by omega,by rw[h2];decide⟩
 · rw[h1];exact⟨Int.le_refl 0,(show(0:Int)≤9223372036854775807 by decide)⟩
 rw[h1]at hl;cases hl
end
theorem least200{rho:Int}(h:0≤rho∧rho≤300000):51≤yR 200 rho:=by
 unfold yR
 exact Int.le_ediv_of_mul_le qG qG
theorem zO5{rho:Int}(h:0≤rho∧rho≤300000):32≤yR 60 rho:=by
 unfold yR
 exact Int.le_ediv_of_mul_le qG qG
structure EdS(W:WdE)(s1 s2:Nat)(kl:List (Nat×TruD)):Prop where
 q1:(zc W.el 0).2.seq=s1
 q2:(zc W.el 1).2.seq=s2
 l1:(zc W.el 0).2.kl=kl
 l2:(zc W.el 1).2.kl=[]
 k1:(zc W.el 0).2.kn=[]
structure StL(W:WdE)(rho:Int)(i:Nat)(a:LgA)(s1 s2:Nat)(kl:List (Nat×TruD)):Prop where
 w:WeI W rho i 0
 a:W.n.s.a=a
 d:W.n.dl=0
 e:EdS W s1 s2 kl
theorem zT0{n:NdD}(h:n.x.t.qh=n.x.t.now):n.dl=0:=by
 unfold NdD.dl
 rw[h,Int.sub_self];decide
theorem zMS{a:AskD}{since rho:Int}{r:RepD}{kl:List (Nat×TruD)}{kn:List (Nat×Bool)}(h:a.cmd.op=1):xd a since rho r kl kn=kl:=by
 unfold xd
 rw[if_neg qG,if_neg qG]
theorem zIG(cm:CmdD)(aa:Int)(s:Nat):(zA2 cm aa s).cmd.op=cm.op∧(zA2 cm aa s).cmd.span=cm.span∧(zA2 cm aa s).cmd.amount=cm.amount∧(zA2 cm aa s).cmd.key=cm.key:=by
 rw[zB0];exact⟨rfl,rfl,rfl,rfl⟩
section
variable {W W':WdE} {rho:Int} {r:RepD} {did:Bool} {le:Int} {kl:List (Nat×TruD)}
theorem zUi:(R1.wf∧R1.ok)∧R1.session≠0:=⟨⟨⟨by decide,by decide,by decide,by unfold kE;decide,by unfold kE;decide⟩,show(0:Int)≤0∧(0:Int)≤20 by decide⟩,by decide⟩
theorem cw1{n:Int}(h:0≤n∧n≤1000):(cmC n).wf∧¬ xW (cmC n).op (cmC n).key (cmC n).amount (cmC n).span:=by
 refine⟨⟨show(0:Nat)<18446744073709551616 by decide,show(0:Nat)<18446744073709551616 by decide,show kK.size≤1048576 by decide,⟨by show _≤n;omega,by show n≤_;omega⟩,show kE 0 by unfold kE;decide,show(0:Nat)<18446744073709551616 by decide⟩,?_⟩
 have a:kK.size=1:=by decide
 show ¬ xW 1 kK n 0
 unfold xW
 rw[a];omega
theorem cw2{n sp:Int}(h:1≤n∧n≤1000)(b:1≤sp∧sp≤1000):(cmA n sp).wf∧¬ xW (cmA n sp).op (cmA n sp).key (cmA n sp).amount (cmA n sp).span:=by
 refine⟨⟨show(0:Nat)<18446744073709551616 by decide,show(0:Nat)<18446744073709551616 by decide,show kK.size≤1048576 by decide,⟨by show _≤n;omega,by show n≤_;omega⟩,⟨by show _≤sp;omega,by show sp≤_;omega⟩,show(0:Nat)<18446744073709551616 by decide⟩,?_⟩
 have a:kK.size=1:=by decide
 show ¬ xW 2 kK n sp
 unfold xW
 rw[a];omega
structure StM(W:WdE)(rho:Int)(p:Nat)(le:Int)(c0:CkD)(u:Int)(kl:List (Nat×TruD)):Prop where
 w:WeI W rho 5 p
 a:W.n.s.a=LA5 le
 st:W.n.x.t.qh=c0.t1
 up:∀ e,yt c0 e+u≤yt W.c e
 e:EdS W 3 2 kl
end
def LY(S:Int):LeaD:=⟨1,1,⟨#[107]⟩,7,S⟩
def Q2(S:Int):RepD:=⟨1,2,0,1,7,S⟩
def LB1:LgA:=⟨0,0,[(kK,7)],[],[(1,R1)]⟩
def LB2(S:Int):LgA:=⟨0,1,[(kK,7)],[(1,LY S)],[(1,Q2 S)]⟩
section
variable {a b:LgA} {d S:Int} {r:RepD} {did:Bool}
theorem zTG(c:a=lgZ)(e:d=0)(f:b.now=ye a.now d)(h:DoK (ye a.now d) a.cnt a.kb (yX a.now d a.kl) a.kr (ki (cmC 7) 1 1) r did b.cnt b.kb b.kl b.kr):r=R1∧b=LB1:=by
 subst c e
 obtain⟨g,i⟩:=zIY h zUj V V V
 obtain⟨h1,h2,j,k⟩:=zUg g rfl
 have l:r=R1:=h1.trans V
 subst l
 exact⟨O,zL3 (f.trans V) h2 (j.trans V) (k.trans V) (i.trans V)⟩
theorem zGK{s:Nat}{sp:Int}(b:s≠0)(hp:1≤sp∧sp≤256):xe s kK 7 sp [(kK,7)] []=0:=by
 have a:yi kK []=0:=by decide
 have c:x1 kK:=by decide
 unfold xe
 rw[if_neg (by intro q;rcases q with q|q|q|q;exact b q;exact q c;omega;exact q ⟨by omega,by omega⟩),if_neg (by rw[zN9];exact fun q=>nomatch q),if_neg (by rw[a];omega),if_neg (by rw[zN9,a];decide),if_neg V]
theorem zS1(l:1≤S∧S≤256)(m:a=LB1)(n:d=0)(o:b.now=ye a.now d)(h:DoK (ye a.now d) a.cnt a.kb (yX a.now d a.kl) a.kr (ki (cmA 7 S) 1 2) r did b.cnt b.kb b.kl b.kr):r=Q2 S∧b=LB2 S:=by
 subst m n
 obtain⟨p,q⟩:=zIY h zQT (show u64 1≠0 by decide) (show 2≠0 by decide) (show(yn [(1,R1)] 1 2).2=8 by decide)
 obtain⟨x,e,j,t,h1,h2,u,k⟩:=zRM p rfl
 have c:yX LB1.now 0 LB1.kl=[]:=by decide
 rw[c]at j k
 have f:e=0:=j.trans (zGK (s:=1) V l)
 subst f
 have g:x=LY S:=by
   rw[t]
   show(⟨0+1,1,kK,7,ye 0 0+S⟩:LeaD)=⟨1,1,kK,7,S⟩
   rw[show ye 0 0=0 by decide,Int.zero_add]
 subst g
 have v:r=Q2 S:=h1.trans rfl
 subst v
 exact⟨O,zL3 (o.trans (show ye 0 0=0 by decide)) (h2.trans O) u (k.trans O) (q.trans (by
   show jZ [(1,R1)] (Q2 S)=[(1,Q2 S)]
   have i:(Q2 S).ok:=show(0:Int)≤0∧(0:Int)≤20 by decide
   unfold jZ
   rw[if_pos ⟨i,show(yn [(1,R1)] 1 2).2=8 by decide⟩];rfl))⟩
structure LcI(a:LgA)(S:Int)(j:Nat):Prop where
 now:a.now=3*((j:Nat):Int)
 kb:a.kb=[(kK,7)]
 cnt:1≤a.cnt∧a.cnt≤j+1
 kl:∃ (u:Int) (s:Nat),a.kl=[(a.cnt,(⟨a.cnt,s,kK,7,u⟩:LeaD))]∧3*((j:Nat):Int)<u∧(u=S∨(S≤3*((j:Nat):Int)∧u=3*((j:Nat):Int)+1))
 kr:∃ q:RepD,(j=0∧a.kr=[(1,q)])∨∃ r:RepD,a.kr=[(1,q),(2,r)]∧r.seq=j
theorem lc0(c:1≤S)(b:a=LB2 S):LcI a S 0:=by
 subst b
 exact⟨by show(0:Int)=3*((0:Nat):Int);decide,O,⟨Nat.le_refl 1,Nat.le_refl 1⟩,⟨S,1,O,by show 3*((0:Nat):Int)<S;omega, .inl O⟩,⟨Q2 S, .inl ⟨O,O⟩⟩⟩
theorem LcI.find{j:Nat}(h:LcI a S j):yn a.kr 2 (j+1)=(RepD.zero,8)∧∀ r:RepD,∃ q,yZ 2 r a.kr=[(1,q),(2,r)]:=by
 obtain⟨q,⟨_,e⟩|⟨r,e,c⟩⟩:=h.kr
 · rw[e]
   refine⟨?_,fun r=>⟨q,by simp[yZ]⟩⟩
   unfold yn
   rw[if_neg qG]
   simp[zl]
 rw[e]
 refine⟨?_,fun r=>⟨q,by simp[yZ]⟩⟩
 unfold yn
 rw[if_neg qG]
 have b:zl 2 [(1,q),(2,r)]=some r:=by simp[zl]
 rw[b]
 show(if r.seq<j+1 then(RepD.zero,(8:Int))else _)=_
 rw[if_pos qG]
theorem zMV{now:Int}{c:Nat}{x:LeaD}(b:0≤d∧d≤1099511627776)(e:0≤now∧now≤1000000):ye now d=now+d∧yX now d [(c,x)]=if x.until_≤now+d then []else [(c,x)]:=by
 have a:kP now d=0:=by
   unfold kP
   rw[if_neg qG,if_neg qG]
 refine⟨by unfold ye;rw[if_pos a],?_⟩
 unfold yX
 rw[if_pos a]
 by_cases q:x.until_≤now+d
 · rw[if_pos q,List.filter_cons_of_neg (by simp[zDU,q])];rfl
 rw[if_neg q,List.filter_cons_of_pos (by simp[zDU,q])];rfl
theorem zPr{c s:Nat}{u:Int}:yi kK [(c,(⟨c,s,kK,7,u⟩:LeaD))]=7:=by
 have e:kd kK ([(c,(⟨c,s,kK,7,u⟩:LeaD))].map (·.2))=7:=by simp[kd]
 unfold yi zCl
 rw[e];decide
theorem LcI.ap{j:Nat}(h:LcI a S j)(n:1≤S∧S≤256)(o:j≤200)(p:0≤d∧d≤1000000):ApOk a d:=by
 obtain⟨u,s,b,r,f⟩:=h.kl
 have t:=h.now
 have g:=h.cnt
 have m:u≤1000:=by rcases f with q|q<;>omega
 have hp:=zMV (d:=d) (now:=a.now) (c:=a.cnt) (x:=⟨a.cnt,s,kK,7,u⟩) qG qG
 have h1:yX a.now d a.kl=[(a.cnt,(⟨a.cnt,s,kK,7,u⟩:LeaD))]∨yX a.now d a.kl=[]:=by
   rw[b,hp.2]
   split
   · exact .inr rfl
   exact .inl rfl
 have h2:(kZ a.now d a.kl).length≤1:=by
   rw[b];unfold kZ
   split
   · rw[List.length_map]
     exact Nat.le_trans (List.length_filter_le _ _) (Nat.le_refl 1)
   decide
 refine⟨⟨by omega,by omega⟩,⟨by omega,by omega⟩,by omega,by rw[b];unfold KNd;simp,by rw[b];show 1≤128;decide,fun k=> ?_,fun i l hl=> ?_,by rw[hp.1];omega,h2⟩
 · rcases h1 with q|q<;>rw[q]
   · have e:kd k ([(a.cnt,(⟨a.cnt,s,kK,7,u⟩:LeaD))].map (·.2))=7∨kd k ([(a.cnt,(⟨a.cnt,s,kK,7,u⟩:LeaD))].map (·.2))=0:=by
       show(if kK=k then(7:Int)else 0)+0=7∨(if kK=k then(7:Int)else 0)+0=0
       split
       · left;rfl
       right;rfl
     unfold yi zCl
     rcases e with e|e<;>rw[e]<;>decide
   exact⟨Int.le_refl 0,(show(0:Int)≤9223372036854775807 by decide)⟩
 rcases h1 with q|q<;>rw[q]at hl
 · by_cases c:i=a.cnt
   · have hl:(⟨a.cnt,s,kK,7,u⟩:LeaD)=l:=by simp[zl,c]at hl;exact hl
     subst hl
     exact⟨by show a.cnt<_;omega,⟨by show _≤(7:Int);omega,by show(7:Int)≤_;omega⟩,⟨by show _≤u;omega,by show u≤_;omega⟩⟩
   simp[zl,c]at hl
 cases hl
theorem stl{j:Nat}(hj:j≤200)(hS:1≤S∧S≤256)(h:LcI a S j)(hd:d=3)(hn:b.now=ye a.now d)(hD:DoK (ye a.now d) a.cnt a.kb (yX a.now d a.kl) a.kr (ki (cmA 7 1) 2 (j+1)) r did b.cnt b.kb b.kl b.kr):
   LcI b S (j+1)∧((r.wf∧r.ok)∧r.session≠0)∧(r.e=16∨(r.e=0∧S≤3*(((j+1:Nat)):Int))):=by
 subst hd
 obtain⟨u,s,y,hu,hc⟩:=h.kl
 have a1:=h.now
 have a2:=h.cnt
 have t:=h.find
 have hp:=zMV (d:=3) (now:=a.now) (c:=a.cnt) (x:=⟨a.cnt,s,kK,7,u⟩) V qG
 obtain⟨hT,hk⟩:=zIY hD zQT (show u64 2≠0 by decide) (show j+1≠0 by omega) (by show(yn a.kr 2 (j+1)).2=8;rw[t.1])
 obtain⟨x,e,i,v,h1,h2,p,g⟩:=zRM hT rfl
 rw[y,hp.2]at i g
 rw[hp.1]at hn v
 have i:e=xe 2 kK 7 1 a.kb (if u≤a.now+3 then []else [(a.cnt,(⟨a.cnt,s,kK,7,u⟩:LeaD))]):=i
 have v:x=zDK e a.cnt 2 kK 7 (a.now+3+1):=v
 have g:b.kl=zIm e x (if u≤a.now+3 then []else [(a.cnt,(⟨a.cnt,s,kK,7,u⟩:LeaD))]):=g
 rw[h.kb]at i
 have w:b.now=3*(((j+1:Nat)):Int):=by omega
 by_cases q:u≤a.now+3
 · rw[if_pos q]at i g
   have k:e=0:=i.trans (zGK (s:=2) V V)
   subst k
   have l:x=⟨a.cnt+1,2,kK,7,a.now+3+1⟩:=v.trans rfl
   subst l
   have f:r=⟨2,j+1,0,a.cnt+1,7,a.now+3+1⟩:=h1.trans rfl
   have m:r.ok:=by rw[f];exact(show(0:Int)≤0∧(0:Int)≤20 by decide)
   obtain⟨q2,n⟩:=t.2 r
   have o:b.kr=[(1,q2),(2,r)]:=by
     rw[hk]
     unfold jZ
     rw[if_pos ⟨m,by rw[f];show(yn a.kr 2 (j+1)).2=8;rw[t.1]⟩,←n]
     rw[show r.session=2 by rw[f]]
   have h2:b.cnt=a.cnt+1:=h2.trans rfl
   have p:b.kb=[(kK,7)]:=p.trans h.kb
   have g:b.kl=[(a.cnt+1,(⟨a.cnt+1,2,kK,7,a.now+3+1⟩:LeaD))]:=g.trans rfl
   refine⟨⟨w,p,⟨by omega,by omega⟩,⟨a.now+3+1,2,by rw[g,h2],by omega, .inr ⟨by rcases hc with z|z<;>omega,by omega⟩⟩,⟨q2, .inr ⟨r,o,by rw[f]⟩⟩⟩,?_, .inr ⟨by rw[f],by rcases hc with z|z<;>omega⟩⟩
   rw[f]
   exact⟨⟨⟨show(2:Nat)<18446744073709551616 by decide,by show j+1<_;omega,by show a.cnt+1<_;omega,⟨show -9223372036854775808≤(7:Int)by decide,show(7:Int)≤9223372036854775807 by decide⟩,⟨by show _≤a.now+3+1;omega,by show a.now+3+1≤_;omega⟩⟩,show(0:Int)≤0∧(0:Int)≤20 by decide⟩,show(2:Nat)≠0 by decide⟩
 rw[if_neg q]at i g
 have k:e=16:=by
   rw[i]
   have a0:x1 kK:=by decide
   unfold xe
   rw[if_neg (by intro z;rcases z with z|z|z|z;cases z;exact z a0;omega;exact z V),if_neg (by rw[zN9];exact fun z=>nomatch z),if_neg (by rw[zPr];decide),if_pos (by rw[zN9,zPr];decide)]
 subst k
 have l:x=LeaD.zero:=v.trans rfl
 subst l
 have f:r=⟨2,j+1,16,0,0,0⟩:=h1.trans rfl
 have m:r.ok:=by rw[f];exact(show(0:Int)≤16∧(16:Int)≤20 by decide)
 obtain⟨q2,n⟩:=t.2 r
 have o:b.kr=[(1,q2),(2,r)]:=by
   rw[hk]
   unfold jZ
   rw[if_pos ⟨m,by rw[f];show(yn a.kr 2 (j+1)).2=8;rw[t.1]⟩,←n]
   rw[show r.session=2 by rw[f]]
 have h2:b.cnt=a.cnt:=h2.trans rfl
 have p:b.kb=[(kK,7)]:=p.trans h.kb
 have g:b.kl=[(a.cnt,(⟨a.cnt,s,kK,7,u⟩:LeaD))]:=g.trans rfl
 refine⟨⟨w,p,⟨by omega,by omega⟩,⟨u,s,by rw[g,h2],by omega, .inl (by rcases hc with z|z<;>omega)⟩,⟨q2, .inr ⟨r,o,by rw[f]⟩⟩⟩,?_, .inl (by rw[f])⟩
 rw[f]
 exact⟨⟨⟨show(2:Nat)<18446744073709551616 by decide,by show j+1<_;omega,show(0:Nat)<18446744073709551616 by decide,by show kE 0;unfold kE;decide,by show kE 0;unfold kE;decide⟩,show(0:Int)≤16∧(16:Int)≤20 by decide⟩,show(2:Nat)≠0 by decide⟩
theorem stz{j:Nat}(w:j≤200)(y:1≤S∧S≤256)(h:LcI a S j)(hd:256≤d∧d≤1000000)(m:DoK (ye a.now d) a.cnt a.kb (yX a.now d a.kl) a.kr (ki (cmA 7 1) 2 (j+1)) r did b.cnt b.kb b.kl b.kr):
   ((r.wf∧r.ok)∧r.session≠0)∧r.e=0:=by
 obtain⟨u,s,i,hu,n⟩:=h.kl
 have o:=h.now
 have p:=h.cnt
 have q:=h.find
 have hp:=zMV (d:=d) (now:=a.now) (c:=a.cnt) (x:=⟨a.cnt,s,kK,7,u⟩) qG qG
 obtain⟨t,hk⟩:=zIY m zQT (show u64 2≠0 by decide) (show j+1≠0 by omega) (by show(yn a.kr 2 (j+1)).2=8;rw[q.1])
 obtain⟨x,e,f,g,h1,h2,h3,h4⟩:=zRM t rfl
 rw[i,hp.2]at f
 rw[hp.1]at g
 have f:e=xe 2 kK 7 1 a.kb (if u≤a.now+d then []else [(a.cnt,(⟨a.cnt,s,kK,7,u⟩:LeaD))]):=f
 have g:x=zDK e a.cnt 2 kK 7 (a.now+d+1):=g
 rw[h.kb,if_pos (by rcases n with z|z<;>omega)]at f
 have k:e=0:=f.trans (zGK (s:=2) V V)
 subst k
 have l:x=⟨a.cnt+1,2,kK,7,a.now+d+1⟩:=g.trans rfl
 subst l
 have v:r=⟨2,j+1,0,a.cnt+1,7,a.now+d+1⟩:=h1.trans rfl
 rw[v]
 exact⟨⟨⟨⟨show(2:Nat)<18446744073709551616 by decide,by show j+1<_;omega,by show a.cnt+1<_;omega,⟨show -9223372036854775808≤(7:Int)by decide,show(7:Int)≤9223372036854775807 by decide⟩,⟨by show _≤a.now+d+1;omega,by show a.now+d+1≤_;omega⟩⟩,show(0:Int)≤0∧(0:Int)≤20 by decide⟩,show(2:Nat)≠0 by decide⟩,O⟩
end
theorem xk{n:Nat}(h:1≤n∧n≤255):(xS n).length=2:=by
 rw[jV,zAC qG,show n / 256=0 by omega,jQ]
theorem zLB{n:Nat}(h:256≤n∧n≤65535):(xS n).length=3:=by
 rw[jV,zAC qG,zAC qG,show n / 256 / 256=0 by omega,jQ]
theorem zAp:(xS 0).length=1:=by rw[jV,jQ]
theorem zC4{op am sp:Int}{aa:Int}{s z:Nat}(ho:1≤op∧op≤5)(a:1≤s∧s≤255)(b:aa=1∨aa=2)(c:am=7)(d:(xS (u64 sp)).length=z):
   (ki {session:=0,seq:=0,op:=op,key:=⟨#[107]⟩,amount:=am,span:=sp,lease:=0} aa s).enc.length=12+z:=by
 have h1:(xS (u64 aa)).length=2:=by rcases b with q|q<;>subst q<;>exact xk V
 have h2:(xS (u64 op)).length=2:=xk (by unfold u64;omega)
 have e:(xS (u64 am)).length=2:=by subst c;exact xk V
 have f:(dat (jW ⟨#[107]⟩)).length=3:=by
   unfold dat
   rw[List.length_append,show(jW ⟨#[107]⟩).length=1 by decide,xk V]
 show(yO [u64 aa,s,u64 op]++dat (jW ⟨#[107]⟩)++yO [u64 am,u64 sp,0]).length=_
 simp only[yO,List.flatMap_cons,List.flatMap_nil,List.length_append,List.length_nil,h1,h2,e,f,d,xk a,zAp]
 omega
theorem zC3{i:Nat}{dl:Int}{data:List UInt8}{z n:Nat}(hi:1≤i∧i≤255)(a:(xS (u64 dl)).length=z)(b:data.length=n)(c:1≤n∧n≤255):zEz ⟨i,1,2,dl,data⟩=18+z+n - 2+2:=by
 have h1:(xS 1).length=2:=xk V
 have h2:(xS (u64 2)).length=2:=xk V
 unfold zEz
 show 8+((xS i).length+(yO [i,1,u64 2,u64 dl]++dat data).length)=_
 unfold dat
 simp only[yO,List.flatMap_cons,List.flatMap_nil,List.length_append,List.length_nil,h1,h2,a,b,xk hi,xk c]
 omega
def LE0(S:Int):List EntA:=[⟨1,1,1,0,[]⟩,⟨2,1,2,0,(ki (cmC 7) 1 1).enc⟩,⟨3,1,2,0,(ki (cmA 7 S) 1 2).enc⟩]
def LEx(k:Nat):EntA:=⟨4+k,1,2,3,(ki (cmA 7 1) 2 (k+1)).enc⟩
def LE(S:Int)(j:Nat):List EntA:=LE0 S++(List.range j).map LEx
theorem zI0(S:Int)(j:Nat):LE S (j+1)=LE S j++[LEx j]:=by
 unfold LE
 rw[List.range_succ,List.map_append,←List.append_assoc];rfl
theorem zLA(S:Int)(j:Nat):(LE S j).length=3+j:=by
 unfold LE
 rw[List.length_append,List.length_map,List.length_range];rfl
theorem zOm{k:Nat}(h:k≤200):zEz (LEx k)=34:=by
 have a:=zC4 (op:=2) (am:=7) (sp:=1) (aa:=2) (s:=k+1) (z:=2) V qG (.inr rfl) rfl (xk V)
 unfold LEx
 rw[zC3 (i:=4+k) (dl:=3) (z:=2) (n:=14) qG (xk V) a V]
def itE:Nat→Int→Int
 |0,e=>e
 |n+1,e=>(if itE n e<512 then itE n e else 0)+34
theorem zUR{S:Int}(d:1≤S∧S≤256):jP (LE0 S)=83∨jP (LE0 S)=84:=by
 have h1:zEz ⟨1,1,1,0,[]⟩=18:=by decide
 have b:=zC4 (op:=1) (am:=7) (sp:=0) (aa:=1) (s:=1) (z:=1) V V (.inl rfl) rfl zAp
 have h2:zEz ⟨2,1,2,0,(ki (cmC 7) 1 1).enc⟩=32:=by rw[zC3 (i:=2) (dl:=0) (z:=1) (n:=13) V zAp b V]
 have c:zEz ⟨3,1,2,0,(ki (cmA 7 S) 1 2).enc⟩=33∨zEz ⟨3,1,2,0,(ki (cmA 7 S) 1 2).enc⟩=34:=by
   by_cases q:S≤255
   · have a:=zC4 (op:=2) (am:=7) (sp:=S) (aa:=1) (s:=2) (z:=2) V V (.inl rfl) rfl (xk (by unfold u64;omega))
     left;rw[zC3 (i:=3) (dl:=0) (z:=1) (n:=14) V zAp a V]
   have a:=zC4 (op:=2) (am:=7) (sp:=S) (aa:=1) (s:=2) (z:=3) V V (.inl rfl) rfl (zLB (by unfold u64;omega))
   right;rw[zC3 (i:=3) (dl:=0) (z:=1) (n:=15) V zAp a V]
 show zGH (zGH (zGH 0 ⟨1,1,1,0,[]⟩) ⟨2,1,2,0,(ki (cmC 7) 1 1).enc⟩) ⟨3,1,2,0,(ki (cmA 7 S) 1 2).enc⟩=83∨zGH (zGH (zGH 0 ⟨1,1,1,0,[]⟩) ⟨2,1,2,0,(ki (cmC 7) 1 1).enc⟩) ⟨3,1,2,0,(ki (cmA 7 S) 1 2).enc⟩=84
 unfold zGH
 rw[h1,h2]
 rcases c with q|q<;>rw[q]
 · left;decide
 right;decide
theorem zP2{S:Int}:∀ {j:Nat},j≤200→jP (LE S j)=itE j (jP (LE0 S))
 |0,_=>by
   show jP (LE0 S++[])=jP (LE0 S)
   rw[List.append_nil]
 |j+1,h=>by
   rw[zI0,zEb,zP2 qG,zOm qG];rfl
theorem zSj:(List.range 103).all (fun j=>decide (j<95)||(decide (itE j 83<512)&&decide (itE j 84<512)))=true:=by decide+kernel
theorem zQ1{S:Int}(a:1≤S∧S≤256){j:Nat}(b:j≤102):(LE S j).length≤97∨jP (LE S j)<512:=by
 rw[zLA]
 by_cases q:j<95
 · exact .inl qG
 right
 rw[zP2 qG]
 have h:=List.all_eq_true.1 zSj j (List.mem_range.2 qG)
 rw[decide_eq_false q,Bool.false_or,Bool.and_eq_true]at h
 rcases zUR a with z|z<;>rw[z]
 · exact of_decide_eq_true h.1
 exact of_decide_eq_true h.2
end Go.Proofs.YthpoddkmhfhboaaGreatDoor
