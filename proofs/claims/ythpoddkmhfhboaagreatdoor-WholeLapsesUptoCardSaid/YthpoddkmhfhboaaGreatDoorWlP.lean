import Derived.Test.YthpoddkmhfhboaaGreatDoorAlk
set_option linter.unusedSectionVars false
set_option linter.unusedSimpArgs false
set_option linter.unusedVariables false
set_option maxRecDepth 10000
namespace Go.Proofs.YthpoddkmhfhboaaGreatDoor
open Go.Sc
theorem zIF{S:List Nat}(cb jb:Nat)(t:TimD)(a:StA)(r:RolD)(b:StB)(lead yv out:Value)(qe:Nat)(w:World)(p:b.vs.length≤1000)(m:Own w S [xh cb t lead a r b yv jb qe out,vI b.vv b.vs,vI b.wv ([]:List Int),vY b.dv ([]:List UInt8)] w):Rets Tryz.prog 128 #[pt cb] w fun q g=>∃ (cv cw n:Value),q= .agg #[Vn 0,Vn 0,cv,cw,n]∧Own w S [xh cb t lead a r b yv jb qe out,vI b.vv b.vs,vI b.wv ([]:List Int),vY b.dv ([]:List UInt8),vI cv b.vs,vI cw ([]:List Int),vY n ([]:List UInt8)] g:=by
 refine zO Tryz.func128 O Tryz.ntmps128 m (zB (zk (v:= .agg #[Vn 0,Vn 0,zW,zW,zW]) qF O (fun x=>zA (zK (zB (zC O (yE qF O O O (zA (yW O (zN (zB (zC O (zV O O (zI (o:=24) O O (xI 0 [Vn 0,Vn 0,b.vv,b.wv,b.dv] O O (yj 24 O) qF O (zG O O (fun g c=>(zId ({index:=0,term:=0,conf:=({vv:=b.vv,vs:=b.vs,lv:=b.wv,ls:=[]}:ConfD),dv:=b.dv,data:=[]}:ShtD) g qI qI qI ⟨⟨(c.qj 1 O),(c.qj 2 O)⟩,(c.qj 3 O)⟩).mono ?_)))))))))))))))))
 rintro _ s ⟨d,e,h,rfl,u⟩
 refine(?_:CL _ _ _ _ _ _ (Own w S [_,_,_,_,_,_,_,_])) s (c.qb u)
 refine zS (fun g c=>Own.qa (i:=5) O c) (fun j=>(zS (fun g c=>Own.qa (i:=6) O c) (fun k=>(zS (fun g c=>Own.qa (i:=7) O c) (fun l=>(zf 4 O O O (zH O (zH O (zH j (zH k (zH l zh))))) O (zA (zP (xg (cs:=[Vn (({index:=0,term:=0,conf:=({vv:=b.vv,vs:=b.vs,lv:=b.wv,ls:=[]}:ConfD),dv:=b.dv,data:=[]}:ShtD).index),Vn (({index:=0,term:=0,conf:=({vv:=b.vv,vs:=b.vs,lv:=b.wv,ls:=[]}:ConfD),dv:=b.dv,data:=[]}:ShtD).term),d,e,h]) O O qF (Own.qd (i:=4) O) (fun g c=>⟨d,e,h,O,c.sel [0,1,2,3,5,6,7] O V⟩))))))))))
theorem zQU{S:List Nat}(cb jb:Nat)(t:TimD)(a:StA)(r:RolD)(b:StB)(lead yv out:Value)(qe:Nat)(lv:Value)(es:List EntD)(w:World)(p:(LG 0 0 es).good)(hl:es.length≤100000)(l:Own w S [xh cb t lead a r b yv jb qe out,Res.row b.lb 415 [Vn 0,Vn 0,lv],vE lv es,sE es] w):Rets Tryz.prog 170 #[pt cb] w fun m j=>∃ (lb:Nat) (h:Value) (c:List EntD),m=pt lb∧c.map EntD.toEntA=es.map EntD.toEntA∧Own w S [xh cb t lead a r b yv jb qe out,Res.row b.lb 415 [Vn 0,Vn 0,lv],vE lv es,sE es,Res.row lb 415 [Vn 0,Vn 0,h],vE h c,sE c] j:=by
 refine zO Tryz.func170 O Tryz.ntmps170 l (zB (zF O (zA (zK (zB (zC O (yE qF O O O (zA (yW O (zN (zB (zC O (zV O O (zI (o:=29) O O (zJ 0 (v:=pt b.lb) O O O O (zG O O (fun j k=>(zHj b.lb 0 0 lv es j qH ‹_› (k.give [1,2,3] O V)).mono ?_)))))))))))))))))
 rintro _ q ⟨i,d,e,rfl,g,n⟩
 refine fq [1,2,3] O k n (zF O (zA (zP (zm (v:=pt i) O O (fun j k=>⟨i,d,e,O,g,k⟩)))))
abbrev zSa:=Option (Nat×Value×List Int×Nat)
structure AlD where
 jb:Nat
 t:TimD
 r:RolD
 b:StB
 qe:Nat
 lv:Value
 es:List EntD
 ld:zSa
def ldV:zSa→Value
 |none=> .pointer none
 |some q=>pt q.1
def laP:zSa→List Res
 |none=>[]
 |some q=>[Res.row q.1 334 [.slice none 0 0, .slice none 0 0,q.2.1,Vn q.2.2.2, .slice none 0 0,Vi 0, .bool false],vT q.2.1 q.2.2.1]
def Res.al(cb:Nat)(a:StA)(x:AlD):Res:=Res.star [xh cb x.t (ldV x.ld) a x.r x.b (.slice none 0 0) x.jb x.qe (.pointer none),Res.nl x.b x.lv x.es,vY x.b.dv ([]:List UInt8),Res.row x.jb 422 [Vn 0,Vn 0, .slice none 0 0],Res.star (laP x.ld)]
structure AlI(a:StA)(x:AlD):Prop where
 es:EsOk x.es
 vs:x.b.vs=[1]
 id:a.id=1
 ao:a.ok
 T:TmOk x.t
structure AlF(a:StA)(x:AlD):Prop extends AlI a x where
 ld:x.ld=none
 qm:x.r.qm=1
 hard:x.t.term=0∧x.t.ql=0
 com:x.r.qf=0
 nil:x.es=[]
structure AlL(a:StA)(x:AlD)(k:Nat):Prop extends AlI a x where
 ld:∃ q,x.ld=some q∧q.2.2.1.length≤k
 qm:x.r.qm=4
 hard:x.t.term=1∧x.t.ql=1
 com:x.r.qf=x.es.length
def zJ5(x:AlD):List EntA:=if x.ld.isNone then [⟨1,1,1,0,[]⟩]else []
theorem zRm{S:List Nat}(cb:Nat)(a:StA)(x:AlD)(k:Nat)(now:Int)(d:Nat)(w:World)(hS:(AlF a x∧x.t.due≤max x.t.now now)∨AlL a x k)(hl:x.es.length≤800)(hk:k≤1000)(hn:now≤1000000000000000)(y:d<18446744073709551616)(m:Own w S [Res.al cb a x] w):Rets Tryz.prog 83 #[pt cb,Vi now,Vn d] w fun u_ w'=>∃ (e:AlD),u_= .agg (OutD.cells xn).toArray∧AlL a e (k+1)∧e.t.now=max x.t.now now∧e.es.map EntD.toEntA=x.es.map EntD.toEntA++zJ5 x∧e.t.qh=(if x.ld.isNone then e.t.now else x.t.qh)∧e.b=x.b∧Own w S [Res.al cb a e] w':=by
 have n:=m.qi 0 rfl
 rcases hS with⟨h,hq⟩|h
 · obtain⟨jb,t,r,b,qe,lv,es,ld⟩:=x
   have e1:ld=none:=h.ld
   have e2:es=[]:=h.nil
   have o:=h.T
   have hr:r.qm=1:=h.qm
   have a0:r.qf=0:=h.com
   have a1:0≤t.now∧t.now≤1000000000000000:=o.now
   have c:0≤max t.now now∧max t.now now≤1000000000000000:=⟨by omega,by omega⟩
   subst e1;subst e2
   refine(zRR cb jb t a r b zW qe lv [] now d w h.es V h.vs h.id qG hq h.hard.1 qG c h.ao y (n.give [0,1] O V)).mono ?_
   rintro _ w1 ⟨ld,tv,p,i,rfl,g1,z,g3,q⟩
   have s:=n.qc [0,1] rfl q
   refine⟨⟨jb,{t with term:=1,ql:=a.id,now:=max t.now now,due:=max t.now now+ka a d,qh:=max t.now now,qk:=max t.now now,qo:=max t.now now},⟨4,a.id,i.length⟩,b,d,p,i,some (ld,tv,[max t.now now],1)⟩,O,⟨⟨g1,h.vs,h.id,h.ao,⟨c,c,c,c.1,Int.le_refl _⟩⟩,⟨_,O,?_⟩,O,⟨O,h.id⟩,O⟩,O,?_,O,O,(((s.qg [5,6] O V).sel [3,4,0,1,5] O V).qg [0,1,2,3,4] O V).sel [0] O V⟩
   · show 1≤k+1;omega
   rw[g3];show []++[(⟨0+1,1,1,min (max t.now now - max t.now now) 1099511627776,[]⟩:EntA)]=_
   rw[show min (max t.now now - max t.now now) (1099511627776:Int)=0 by omega];rfl
 obtain⟨jb,t,r,b,qe,lv,es,ld⟩:=x
 obtain⟨⟨ld,tv,u,sure⟩,e1,j⟩:=h.ld
 have e1:_=some (ld,tv,u,sure):=e1
 have o:=h.T
 have j:u.length≤k:=j
 subst e1
 have hC:=(n.qi 4 rfl).sel [0,1,4,5,2,3] rfl V
 refine(zSZ cb jb t a r b zW qe lv es ld tv u sure now d w h.es (Nat.le_trans (show es.length≤800 from hl) V) h.vs h.id h.qm qG o hn h.ao y (hC.give [0,1,2,3] O V)).mono ?_
 rintro _ w1 ⟨t',v,l,g,rfl,g1,z,g3,g4,g5,g6,q⟩
 have s:=hC.qc [0,1,2,3] rfl q
 have hh:=h.hard
 exact⟨⟨jb,t',r,b,d,lv,es,some (ld,v,l,g)⟩,O,⟨⟨h.es,h.vs,h.id,h.ao,g6⟩,⟨_,O,by show l.length≤k+1;omega⟩,h.qm,⟨z.trans hh.1,g3.trans hh.2⟩,h.com⟩,g4,(List.append_nil _).symm,g5,O,(((s.qg [4,5] O V).sel [2,3,0,1,4] O V).qg [0,1,2,3,4] O V).sel [0] O V⟩
theorem zPG{S:List Nat}(cb:Nat)(a:StA)(x:AlD)(k:Nat)(dv:Value)(data:List UInt8)(now:Int)(w:World)(h:AlL a x k)(hl:x.es.length≤800)(p:now=x.t.now)(j:data.length≤4096)(l:Own w S [Res.al cb a x] w)(m:Rd w S (Res.sl dv data.length (data.map vb))):Rets Tryz.prog 155 #[pt cb,dv,Vi now] w fun q s=>∃ (d:AlD),q= .tuple #[Vn (x.es.length+1), .agg (OutD.cells xn).toArray,Vi 0]∧AlL a d k∧d.t.now=x.t.now∧d.es.map EntD.toEntA=x.es.map EntD.toEntA++[(⟨x.es.length+1,1,2,min (x.t.now - x.t.qh) 1099511627776,data⟩:EntA)]∧d.t.qh=x.t.now∧d.b=x.b∧Own w S [Res.al cb a d] s:=by
 have u:=l.qi 0 rfl
 obtain⟨jb,t,r,b,qe,lv,es,ld⟩:=x
 obtain⟨⟨ld,tv,i,sure⟩,e1,c⟩:=h.ld
 have e1:_=some (ld,tv,i,sure):=e1
 have e:=h.T
 have c:i.length≤k:=c
 have hh:=h.hard
 subst e1
 have n:=(u.qi 4 rfl).sel [0,1,4,5,2,3] rfl V
 refine(zNP cb jb t a r b zW qe lv es ld tv i sure dv data now w h.es (Nat.le_trans (show es.length≤800 from hl) V) h.vs h.id h.qm e p hh.1 h.com j (n.give [0,1,2,3] O V) (n.rdTo m [0,1,2,3] O)).mono ?_
 rintro _ z ⟨o,g,rfl,g1,g2,g3,v⟩
 have y:=n.qc [0,1,2,3] rfl v
 have hs:=e.qh
 exact⟨⟨jb,{t with qh:=t.now},⟨r.qm,r.who,g.length⟩,b,qe,o,g,some (ld,tv,i,sure)⟩,O,⟨⟨g1,h.vs,h.id,h.ao,⟨e.now,e.qo,e.qk,e.now.1,Int.le_refl _⟩⟩,⟨_,O,c⟩,h.qm,hh,O⟩,O,g3,O,O,(((y.qg [4,5] O V).sel [2,3,0,1,4] O V).qg [0,1,2,3,4] O V).sel [0] O V⟩
theorem zAY{S:List Nat}(cb:Nat)(a:StA)(x:AlD)(w:World)(c:Own w S [Res.al cb a x] w):Rets Tryz.prog 156 #[pt cb] w fun e g=>e= .tuple #[.agg #[Vn x.t.term,Vi x.t.ql],Vi x.r.qm,Vi x.r.who,Vn x.r.qf]∧Own w S [Res.al cb a x] g:=by
 have d:=c.qi 0 rfl
 refine(zJC cb x.jb x.t a x.r x.b (ldV x.ld) zW (.pointer none) x.qe w (d.give [0] O V)).mono ?_
 rintro _ i ⟨rfl,h⟩
 exact⟨O,(((d.qc [0] O h).sel [4,0,1,2,3] O V).qg [0,1,2,3,4] O V).sel [0] O V⟩
theorem zIi{S:List Nat}(cb:Nat)(a:StA)(x:AlD)(w:World)(h:AlI a x)(d:Own w S [Res.al cb a x] w):Rets Tryz.prog 128 #[pt cb] w fun g i=>∃ (cv cw c:Value),g= .agg #[Vn 0,Vn 0,cv,cw,c]∧Own w S [Res.al cb a x,vI cv x.b.vs,vI cw ([]:List Int),vY c ([]:List UInt8)] i:=by
 have e:=((d.qi 0 rfl).qi 1 rfl).sel [0,7,8,1,2,3,4,5,6] rfl V
 refine(zIF cb x.jb x.t a x.r x.b (ldV x.ld) zW (.pointer none) x.qe w (by rw[h.vs];decide) (e.give [0,1,2,3] O V)).mono ?_
 rintro _ k ⟨cv,cw,c,rfl,j⟩
 exact⟨cv,cw,c,O,((((e.qc [0,1,2,3] O j).qg [2,3,4,6,7] O V).sel [2,7,3,0,1,4,5,6] O V).qg [0,1,2,3,4] O V).sel [3,0,1,2] O V⟩
theorem zFD{S:List Nat}(cb:Nat)(a:StA)(x:AlD)(w:World)(h:AlI a x)(hl:x.es.length≤1000)(e:Own w S [Res.al cb a x] w):Rets Tryz.prog 170 #[pt cb] w fun i j=>∃ (lb:Nat) (d:Value) (c:List EntD),i=pt lb∧c.map EntD.toEntA=x.es.map EntD.toEntA∧Own w S [Res.al cb a x,Res.row lb 415 [Vn 0,Vn 0,d],vE d c,sE c] j:=by
 have g:=((e.qi 0 rfl).qi 1 rfl).sel [0,4,5,6,1,2,3,7,8] rfl V
 refine(zQU cb x.jb x.t a x.r x.b (ldV x.ld) zW (.pointer none) x.qe x.lv x.es w h.es.good qG (g.give [0,1,2,3] O V)).mono ?_
 rintro _ l ⟨lb,d,c,rfl,g1,k⟩
 exact⟨lb,d,c,O,g1,((((g.qc [0,1,2,3] O k).qg [6,7,8,3,4] O V).sel [3,7,0,1,2,4,5,6] O V).qg [0,1,2,3,4] O V).sel [3,0,1,2] O V⟩
structure CqD where
 jb:Nat
 t:TimD
 lead:Value
 r:RolD
 b:StB
 yv:Value
 qe:Nat
def Res.cq(cb:Nat)(a:StA)(y:CqD):Res:=Res.star [xh cb y.t y.lead a y.r y.b y.yv y.jb y.qe (.pointer none),vI y.b.vv y.b.vs,vI y.b.wv ([]:List Int),vY y.b.dv ([]:List UInt8)]
theorem zKo{S:List Nat}(cb:Nat)(a:StA)(y:CqD)(w:World)(c:Own w S [Res.cq cb a y] w):Rets Tryz.prog 156 #[pt cb] w fun e g=>e= .tuple #[.agg #[Vn y.t.term,Vi y.t.ql],Vi y.r.qm,Vi y.r.who,Vn y.r.qf]∧Own w S [Res.cq cb a y] g:=by
 have d:=c.qi 0 rfl
 refine(zJC cb y.jb y.t a y.r y.b y.lead y.yv (.pointer none) y.qe w (d.give [0] O V)).mono ?_
 rintro _ i ⟨rfl,h⟩
 exact⟨O,(((d.qc [0] O h).sel [3,0,1,2] O V).qg [0,1,2,3] O V).sel [0] O V⟩
theorem zPR{S:List Nat}(cb:Nat)(a:StA)(y:CqD)(w:World)(hv:y.b.vs=[1])(d:Own w S [Res.cq cb a y] w):Rets Tryz.prog 128 #[pt cb] w fun e g=>∃ (cv cw c:Value),e= .agg #[Vn 0,Vn 0,cv,cw,c]∧Own w S [Res.cq cb a y,vI cv y.b.vs,vI cw ([]:List Int),vY c ([]:List UInt8)] g:=by
 have h:=d.qi 0 rfl
 refine(zIF cb y.jb y.t a y.r y.b y.lead y.yv (.pointer none) y.qe w (by rw[hv];decide) h).mono ?_
 rintro _ j ⟨cv,cw,c,rfl,i⟩
 exact⟨cv,cw,c,O,(i.qg [0,1,2,3] O V).sel [3,0,1,2] O V⟩
theorem zOu{S:List Nat}(cb:Nat)(a:StA)(x:AlD)(k:Nat)(w:World)(s:AlF a x∨AlL a x k)(hl:x.es.length≤800)(hk:k≤1000)(j:Own w S [Res.al cb a x] w):Rets Tryz.prog 174 #[pt cb] w fun u v=>∃ (c:Nat) (y:CqD),u=pt c∧y.t=x.t∧y.b.vs=[1]∧Own w S [Res.al cb a x,Res.cq c a y] v:=by
 have q:=(j.qi 0 rfl).qi 1 rfl
 obtain⟨jb,t,r,b,qe,lv,es,ld⟩:=x
 rcases s with h|h
 · have e1:ld=none:=h.ld
   subst e1
   have i:=q.sel [0,4,5,6,7,8,1,2,3] rfl V
   refine(zKb cb jb t a r b qe lv es w h.es (Nat.le_trans (show es.length≤800 from hl) V) h.vs (i.give [0,1,2,3,4,5,6,7] O V)).mono ?_
   rintro _ z ⟨c,d,e,cv,cw,l,m,rfl,n⟩
   exact⟨c,⟨d,t, .pointer none,r,⟨cv,b.vs,cw,l,e⟩,m,qe⟩,O,O,h.vs,(((((i.qc [0,1,2,3,4,5,6,7] O n).qg [2,3,4,5,6] O V).sel [1,8,2,3,0,4,5,6,7] O V).qg [0,1,2,3,4] O V).qg [0,1,2,3] O V).sel [0,1] O V⟩
 obtain⟨⟨ld,tv,o,sure⟩,e1,g⟩:=h.ld
 have e1:_=some (ld,tv,o,sure):=e1
 have g:o.length≤k:=g
 subst e1
 have i:=(q.qi 3 rfl).sel [0,3,4,5,6,7,1,2,8,9] rfl V
 refine(zKd cb jb t a r b qe lv es ld tv o sure w h.es (Nat.le_trans (show es.length≤800 from hl) V) h.vs qG i).mono ?_
 rintro _ z ⟨c,d,e,p,cv,cw,l,m,rfl,n⟩
 have hC:=(n.qi 0 rfl).qi 2 rfl
 exact⟨c,⟨d,t,pt p,r,⟨cv,b.vs,cw,l,e⟩,m,qe⟩,O,O,h.vs,((((((hC.qg [3,4,5,6,7] O V).qg [5,0] O V).sel [1,7,2,3,8,0,4,5,6] O V).qg [0,1,2,3,4] O V).qg [0,1,2,3] O V)).sel [0,1] O V⟩
theorem zSM(id:Int)(st:SetD)(vv:Value)(vs:List Int)(qe:Nat)(b c g:Value)(w:World)(h:id=1)(m:st=jT st.rho)(l:0≤st.rho∧st.rho≤500000)(i:vs=[1])(n:qe<18446744073709551616)(j:Rd w [] (Res.sl vv vs.length (vs.flatMap I1)))(d:Rd w [] (Res.sl b nI.length (nI.flatMap I1)))(e:Rd w [] (Res.sl c nB.length (nB.map vb)))(k:Rd w [] (Res.sl g nE.length (nE.flatMap EntD.cells)))(a:∀ p∈nE,EntD.rd p w []):Rets Tryz.prog 76 #[Vi id, .agg #[Vn 0,Vi 0], .agg #[Vn 0,Vn 0,vv,b,c],g, .agg (SetD.cells st).toArray,Vi 0,Vn qe] w fun o q=>∃ (cb:Nat) (x:AlD),o= .tuple #[pt cb,Vi 0]∧AlF (zCb st.rho) x∧x.t.now=0∧x.t.due=12+((qe%21:Nat):Int)∧Own w [] [Res.al cb (zCb st.rho) x] q:=by
 subst h;subst i
 generalize st.rho=rho at *
 subst m
 refine(zRj 1 (jT rho) vv [1] qe b c g w V l (by show(1:Int)≤12∧(12:Int)≤_;omega) (by show(1:Int)≤20∧(20:Int)≤_;omega) (by show(1:Int)≤4∧(4:Int)≤_;omega) ⟨by simp,by simp⟩ V V n j d e k a).mono ?_
 rintro _ v ⟨cb,jb,lb,cv,cw,dv,lv,es,rfl,g1,r⟩
 have s:es=[]:=List.eq_nil_of_length_eq_zero g1
 subst s
 have u:=((r.qg [4,5,6,1,2] rfl V).qn).sel [0,3,1,2,4] rfl V
 exact⟨cb,⟨jb,⟨0,0,0,0,0+(12+((qe%(Int.toNat 20+1):Nat):Int)),0,0,0,0⟩,⟨1,0,0⟩,⟨cv,[1],cw,dv,lb⟩,qe,lv,[],none⟩,O,⟨⟨EsOk.start,O,O,zPd l,⟨⟨Int.le_refl 0,by show(0:Int)≤_;omega⟩,⟨Int.le_refl 0,by show(0:Int)≤_;omega⟩,⟨Int.le_refl 0,by show(0:Int)≤_;omega⟩,Int.le_refl 0,Int.le_refl 0⟩⟩,O,O,⟨O,O⟩,O,O⟩,O,Int.zero_add _,(u.qg [0,1,2,3,4] O V).sel [0] O V⟩
structure FilD where
 v:Value
 bs:List UInt8
 deriving Inhabited
def kT:FilD:=⟨.slice none 0 0,[]⟩
def FilD.val(f:FilD):Value:=f.v
def FilD.dres(f:FilD):Res:=vY f.v f.bs
def tot(l:List (ByteArray×FilD)):Nat:=(l.map fun p=>p.2.bs.length).sum
theorem zJI{q1 q2:List (ByteArray×FilD)}{k:ByteArray}{f:FilD}:tot (q1++(k,f)::q2)=tot (q1++q2)+f.bs.length:=by
 unfold tot
 simp only[List.map_append,List.map_cons,List.sum_append,List.sum_cons]
 omega
theorem zC1{k:ByteArray}:∀ {l:List (ByteArray×FilD)},((zl k l).getD kT).bs.length≤tot l
 | []=>Nat.zero_le _
 |(x,f)::r=>by
   have a:=zC1 (k:=k) (l:=r)
   unfold zl
   have e:tot ((x,f)::r)=f.bs.length+tot r:=rfl
   split
   · show f.bs.length≤_;omega
   omega
theorem zAt{k:ByteArray}{f:FilD}:∀ {l:List (ByteArray×FilD)},tot (yZ k f l)+((zl k l).getD kT).bs.length=tot l+f.bs.length
 | []=>by show f.bs.length+0+0=0+f.bs.length;omega
 |(x,g)::r=>by
   have a:=zAt (k:=k) (f:=f) (l:=r)
   unfold yZ zl
   by_cases c:k=x
   · rw[if_pos c,if_pos c]
     show f.bs.length+tot r+g.bs.length=g.bs.length+tot r+f.bs.length
     omega
   rw[if_neg c,if_neg c]
   show g.bs.length+tot (yZ k f r)+_=g.bs.length+tot r+f.bs.length
   omega
theorem zEV{κ α:Type}[DecidableEq κ]{k:κ}{v:α}:∀ {l:List (κ×α)},zl k l=some v→v∈l.map Prod.snd
 | [],h=>by cases h
 |(x,u)::r,h=>by
   unfold zl at h
   split at h
   · cases h;exact .head _
   exact .tail _ (zEV h)
theorem zFg{w:World}{k:ByteArray}{kf:List (ByteArray×FilD)}(h:∀ r∈(kf.map Prod.snd).map FilD.dres,Rd w [] r):Sl w ((zl k kf).getD kT).v ((zl k kf).getD kT).bs.length (((zl k kf).getD kT).bs.map vb):=by
 cases hg:zl k kf with
 |none=>exact Sl.nil
 |some f=>exact Vec.sl (h _ (List.mem_map_of_mem (zEV hg))).φ
theorem zKT{w:World}{f:FilD}{kf:List (ByteArray×FilD)}(h:∀ r∈(kf.map Prod.snd).map FilD.dres,Rd w [] r)(a:f∈kf.map Prod.snd):Sl w f.v f.bs.length (f.bs.map vb):=Vec.sl (h _ (List.mem_map_of_mem a)).φ
theorem zFy{κ α:Type}[DecidableEq κ]{k:κ}{v:α}:∀ (l:List (κ×α)),∃ φ:Nat→Nat,(∀ a b,a≠b→φ a≠φ b)∧∀ (i:Nat) (r:α),((yZ k v l).map Prod.snd)[i]?=some r→(l.map Prod.snd++[v])[φ i]?=some r
 | []=>⟨id,fun _ _ h=>h,fun i r h=>h⟩
 |(x,u)::l=>by
   by_cases c:k=x
   · refine⟨fun i=>if i=0 then l.length+1 else if i=l.length+1 then 0 else i,fun a b h=> ?_,fun i r h=> ?_⟩
     · dsimp only;split<;>split<;>(try split)<;>(try split)<;>omega
     unfold yZ at h
     rw[if_pos c]at h
     cases i with
     |zero=>
       simp only[List.map_cons,List.getElem?_cons_zero]at h
       show(List.map Prod.snd ((x,u)::l)++[v])[l.length+1]?=some r
       simp only[List.map_cons,List.cons_append,List.getElem?_cons_succ]
       rw[List.getElem?_append_right qJ]
       simpa using h
     |succ i=>
       simp only[List.map_cons,List.getElem?_cons_succ]at h
       have hi:=(List.getElem?_eq_some_iff.1 h).1
       rw[List.length_map]at hi
       show(List.map Prod.snd ((x,u)::l)++[v])[if i+1=0 then l.length+1 else if i+1=l.length+1 then 0 else i+1]?=some r
       rw[if_neg qG,if_neg qG]
       simp only[List.map_cons,List.cons_append,List.getElem?_cons_succ]
       rw[List.getElem?_append_left (by rw[List.length_map];exact hi)]
       exact h
   obtain⟨φ,h1,h2⟩:=zFy (k:=k) (v:=v) l
   refine⟨fun i=>match i with|0=>0|i+1=>φ i+1,fun a b h=> ?_,fun i r h=> ?_⟩
   · cases a<;>cases b
     · exact absurd rfl h
     · exact fun q=>by cases q
     · exact fun q=>by cases q
     rename_i a b
     have:=h1 a b (fun q=>h (by rw[q]))
     dsimp only;omega
   unfold yZ at h
   rw[if_neg c]at h
   cases i with
   |zero=>exact h
   |succ i=>
     simp only[List.map_cons,List.getElem?_cons_succ]at h
     simp only[List.map_cons,List.cons_append,List.getElem?_cons_succ]
     exact h2 i r h
theorem _root_.Go.Sc.Own.filPut{w0 w:World}{S:List Nat}{L:List Res}{kf:List (ByteArray×FilD)}{k:ByteArray}{f:FilD}(i j:Nat)(m:i≠j)(h1:L[i]?=some (Res.star ((kf.map Prod.snd).map FilD.dres)))(h2:L[j]?=some f.dres)(h:Own w0 S L w):Own w0 S ((L.eraseIdx j).set (if j<i then i - 1 else i) (Res.star (((yZ k f kf).map Prod.snd).map FilD.dres))) w:=by
 have p:=h.qw (g:=FilD.dres) (x:=f) i j m h1 h2
 obtain⟨φ,q1,q2⟩:=zFy (k:=k) (v:=f) kf
 have b:=(List.getElem?_eq_some_iff.1 h1).1
 have e1:((L.set i (Res.star ((kf.map Prod.snd++[f]).map FilD.dres))).eraseIdx j)[if j<i then i - 1 else i]?=some (Res.star ((kf.map Prod.snd++[f]).map FilD.dres)):=by
   rw[List.getElem?_eraseIdx]
   by_cases c:j<i
   · rw[if_pos c,if_neg qG,show i - 1+1=i by omega,List.getElem?_set_self b]
   rw[if_neg c,if_pos qG,List.getElem?_set_self b]
 have o:=p.starSel (ss:=((yZ k f kf).map Prod.snd).map FilD.dres) _ φ (fun a r l=>by
   rw[List.getElem?_map]at l ⊢
   cases hx:((yZ k f kf).map Prod.snd)[a]? with
   |none=>rw[hx]at l;cases l
   |some y=>rw[hx]at l;rw[q2 a y hx];exact l) q1 e1
 have e2:((L.set i (Res.star ((kf.map Prod.snd++[f]).map FilD.dres))).eraseIdx j).set (if j<i then i - 1 else i) (Res.star (((yZ k f kf).map Prod.snd).map FilD.dres))=(L.eraseIdx j).set (if j<i then i - 1 else i) (Res.star (((yZ k f kf).map Prod.snd).map FilD.dres)):=by
   refine List.ext_getElem? fun a=> ?_
   rw[List.getElem?_set,List.getElem?_set]
   by_cases c:(if j<i then i - 1 else i)=a
   · rw[if_pos c,if_pos c]
     have n:((L.set i (Res.star ((kf.map Prod.snd++[f]).map FilD.dres))).eraseIdx j).length=(L.eraseIdx j).length:=by
       rw[List.length_eraseIdx,List.length_eraseIdx,List.length_set]
     rw[n]
   rw[if_neg c,if_neg c,List.getElem?_eraseIdx,List.getElem?_eraseIdx,List.getElem?_set,List.getElem?_set]
   by_cases d:a<j
   · rw[if_pos d,if_pos d]
     by_cases e:i=a
     · exfalso;rw[if_neg qG]at c;exact c e
     rw[if_neg e]
   rw[if_neg d,if_neg d]
   by_cases e:i=a+1
   · exfalso;rw[if_pos qG]at c;omega
   rw[if_neg e]
 rw[e2]at o
 exact o
def kj(l:RepD):Value:= .agg l.cells.toArray
def ekR(n:Nat):Value:= .int .u64 n
def RepD.zero:RepD:=⟨0,0,0,0,0,0⟩
instance:Inhabited RepD:=⟨RepD.zero⟩
theorem zT9:KeyL Tryz.prog 31 ekR:=zGY qF
theorem zQO:kU Tryz.prog 272=some (31,37):=by kernel_rfl
theorem zSq:x2 Tryz.prog 37=some (kj RepD.zero):=by kernel_rfl
def yn(kl:List (Nat×RepD))(s q:Nat):RepD×Int:=
 if s=0∨q=0 then(RepD.zero,1)else
 match zl s kl with
 |none=>if 32≤kl.length then(RepD.zero,7)else(RepD.zero,8)
 |some r=>if r.seq<q then(RepD.zero,8)else if q<r.seq then(RepD.zero,13)else(r,0)
def zBh(r:RepD)(e:Int):Int:=if ¬ r.ok then 2 else if e=8 then 0 else if e=0 then 9 else e
def jZ(kl:List (Nat×RepD))(r:RepD):List (Nat×RepD):=if r.ok∧(yn kl r.session r.seq).2=8 then yZ r.session r kl else kl
section
variable {kl:List (Nat×RepD)} {s q:Nat} {r:RepD}
theorem zTx(h:(((s:Nat):Int)=((0:Nat):Int))∨(((q:Nat):Int)=((0:Nat):Int))):yn kl s q=(RepD.zero,1):=by
 unfold yn;rw[if_pos qG]
theorem zS6(h:¬((((s:Nat):Int)=((0:Nat):Int))∨(((q:Nat):Int)=((0:Nat):Int))))(h2:(!(zl s kl).isSome)=true∧32≤((kl.length:Nat):Int)):yn kl s q=(RepD.zero,7):=by
 unfold yn
 rw[if_neg qG]
 cases hg:zl s kl with
 |none=>show(if 32≤kl.length then _ else _)=_;rw[if_pos qG]
 |some r=>rw[hg]at h2;exact absurd h2.1 qJ
theorem zTl(h:¬((((s:Nat):Int)=((0:Nat):Int))∨(((q:Nat):Int)=((0:Nat):Int))))(h2:¬((!(zl s kl).isSome)=true∧32≤((kl.length:Nat):Int)))(a:(!(zl s kl).isSome)=true∨((((zl s kl).getD RepD.zero).seq:Nat):Int)<((q:Nat):Int)):yn kl s q=(RepD.zero,8):=by
 unfold yn
 rw[if_neg qG]
 cases hg:zl s kl with
 |none=>
   show(if 32≤kl.length then _ else _)=_
   rw[if_neg fun q=>h2 ⟨by rw[hg];rfl,by omega⟩]
 |some r=>
   rw[hg,Option.getD_some]at a
   have a:r.seq<q:=by rcases a with a|a;exact absurd a qJ;omega
   show(if r.seq<q then _ else _)=_
   rw[if_pos a]
theorem zEh{k:Nat}(a:¬((!(zl s kl).isSome)=true∨((((zl s kl).getD RepD.zero).seq:Nat):Int)<((k:Nat):Int))):∃ r,zl s kl=some r∧¬ r.seq<k:=by
 cases hg:zl s kl with
 |none=>exact absurd (.inl (by rw[hg];rfl)) a
 |some r=>exact⟨r,rfl,fun q=>a (.inr (by rw[hg,Option.getD_some];omega))⟩
theorem zQf(h:¬((((s:Nat):Int)=((0:Nat):Int))∨(((q:Nat):Int)=((0:Nat):Int))))(b:¬((!(zl s kl).isSome)=true∨((((zl s kl).getD RepD.zero).seq:Nat):Int)<((q:Nat):Int)))(c:((q:Nat):Int)<((((zl s kl).getD RepD.zero).seq:Nat):Int)):yn kl s q=(RepD.zero,13):=by
 obtain⟨r,a,d⟩:=zEh b
 unfold yn
 rw[if_neg qG,a]
 rw[a,Option.getD_some]at c
 show(if r.seq<q then _ else if q<r.seq then _ else _)=_
 rw[if_neg d,if_pos qG]
theorem zTc(h:¬((((s:Nat):Int)=((0:Nat):Int))∨(((q:Nat):Int)=((0:Nat):Int))))(b:¬((!(zl s kl).isSome)=true∨((((zl s kl).getD RepD.zero).seq:Nat):Int)<((q:Nat):Int)))(c:¬((q:Nat):Int)<((((zl s kl).getD RepD.zero).seq:Nat):Int)):yn kl s q=((zl s kl).getD RepD.zero,0):=by
 obtain⟨r,a,d⟩:=zEh b
 unfold yn
 rw[if_neg qG,a]
 rw[a,Option.getD_some]at c
 show(if r.seq<q then _ else if q<r.seq then _ else _)=_
 rw[if_neg d,if_neg qG];rfl
theorem zPp(h:yI r.ok≠0)(kl:List (Nat×RepD)):2=zBh r (yn kl r.session r.seq).2∧kl=jZ kl r:=by
 have a:¬ r.ok:=fun k=>h (errOf_zero.2 k)
 unfold zBh jZ
 rw[if_pos a,if_neg fun k=>a k.1]
 exact⟨O,O⟩
theorem zP5(h:¬ yI r.ok≠0)(a:(yn kl r.session r.seq).2=8):0=zBh r (yn kl r.session r.seq).2∧yZ r.session r kl=jZ kl r:=by
 have b:r.ok:=errOf_zero.1 (Decidable.not_not.1 h)
 unfold zBh jZ
 rw[if_neg fun k=>k b,if_pos a,if_pos ⟨b,a⟩]
 exact⟨O,O⟩
theorem zPt(h:¬ yI r.ok≠0)(a:(yn kl r.session r.seq).2=0):9=zBh r (yn kl r.session r.seq).2∧kl=jZ kl r:=by
 have b:r.ok:=errOf_zero.1 (Decidable.not_not.1 h)
 unfold zBh jZ
 rw[if_neg fun k=>k b,a,if_neg V,if_pos rfl,if_neg (by rintro⟨_,k⟩;cases k)]
 exact⟨O,O⟩
theorem zPm{e:Int}(h:¬ yI r.ok≠0)(b:(yn kl r.session r.seq).2=e)(a:¬ e=8)(c:¬ e=0):e=zBh r (yn kl r.session r.seq).2∧kl=jZ kl r:=by
 have d:r.ok:=errOf_zero.1 (Decidable.not_not.1 h)
 unfold zBh jZ
 rw[if_neg fun k=>k d,b,if_neg a,if_neg c,if_neg fun k=>a k.2]
 exact⟨O,O⟩
end
theorem zR4(w:World):Rets Tryz.prog 127 #[] w fun e a=>∃ (b m:Nat),e= .pointer (some ⟨b,0,none⟩)∧Own w [] [Res.row b 275 [.map (some m)],Res.mp ekR kj m ([]:List (Nat×RepD))] a:=by
 refine zO Tryz.func127 O Tryz.ntmps127 (Own.start w) (zB (zF O (zA (zB (xl (α:=RepD) ekR kj O O (fun c=>yJ (cs:=[.map (some c)]) (z:=[.map none]) (pl:=[(0,1)]) qF qF O (zj O O (fun d=>zF O (zA (zP (zm (v:= .pointer (some ⟨d,0,none⟩)) O O (fun a g=>⟨d,c,O,g.sel [1,0] O V⟩))))))))))))
theorem zC8{S:List Nat}(b m:Nat)(kl:List (Nat×RepD))(s q:Nat)(w:World)(p:Own w S [Res.row b 275 [.map (some m)],Res.mp ekR kj m kl] w):Rets Tryz.prog 283 #[.pointer (some ⟨b,0,none⟩),Vn s,Vn q] w fun u_ g=>∃ (x:RepD) (e:Int),u_= .tuple #[.agg (RepD.cells x).toArray,Vi e]∧yn kl s q=(x,e)∧Own w S [Res.row b 275 [.map (some m)],Res.mp ekR kj m kl] g:=by
 refine zO Tryz.func283 O Tryz.ntmps283 p (zB (zk (v:= .agg #[Vn 0,Vn 0,Vi 0,Vn 0,Vi 0,Vi 0]) qF O (fun b6=>zF O (zA (zK (zB (zC O (yE qF O O O (zC O (zQ O O (zC O (zQ O O (yT O O O (xA O O (zC O (yP (q:=((s:Nat):Int)=((0:Nat):Int)) 2 6 [18,17] (((q:Nat):Int)=((0:Nat):Int)) O O O O O O trivial O (fun h=> ?_) (fun y=> ?_)))))))))))))))))
 ·refine zQ O (gF h) (zC O (zQ O (gF h) (yT O O O (z8 O (fun _ c=>c)))))
 refine zA (zT O (fun l=> ?_) (fun l=> ?_))
 ·refine zB (yJ (cs:=[Vn 0,Vn 0,Vi 0,Vn 0,Vi 0,Vi 0]) (z:=[Vn 0,Vn 0,Vi 0,Vn 0,Vi 0,Vi 0]) (pl:=[(0,1),(1,1),(2,1),(3,1),(4,1),(5,1)]) qF qF O (zf 2 O O O (zz O) O (zF O (zA (zP (yk (cs:=[Vn 0,Vn 0,Vi 0,Vn 0,Vi 0,Vi 0]) (v:=Vi 1) O O O qF (Own.qd (i:=2) O) (fun g c=>⟨RepD.zero,1,O,zTx l,c.sel [0,1] O V⟩)))))))
 refine zN (zB (zC O (zV O O (zI (o:=0) O O (zJ 0 (v:= .map (some m)) O O O O (zC O (zD4 (k:=s) (kv:=kl) (zv:=RepD.zero) zT9 zQO zSq O O (fun g j=>Own.holds j 1 _ O) O (zC O (zb (vs:=[.agg (RepD.cells ((zl s kl).getD RepD.zero)).toArray, .bool ((zl s kl).isSome)]) O O O (zb (vs:=[.agg (RepD.cells ((zl s kl).getD RepD.zero)).toArray, .bool ((zl s kl).isSome)]) O O O (zk (v:= .agg #[Vn 0,Vn 0,Vi 0,Vn 0,Vi 0,Vi 0]) qF O (fun b8=>zf 3 O O O (zz O) O (zF O (zA (zK (zU (zB (zC O (xo (b:=(zl s kl).isSome) O O (zC O (yA (q:=(!((zl s kl).isSome))=true) 6 2 [39,38,37,36,35,34] (32≤((kl.length:Nat):Int)) O O (y2 _) O O O trivial O (fun a=> ?_) (fun a0=> ?_))))))))))))))))))))))
 ·refine zQ O (bT a) (zC O (zQ O (bT a) (zV O O (zQ O (bT a) (zI (o:=0) O O (zQ O (bT a) (zJ 0 (v:= .map (some m)) O O O O (zQ O (bT a) (zDC ekR kj (kv:=kl) zQO O (fun g j=>Own.holds j 1 _ O) O (zQ O (bT a) (xJ O O O (z8 O (fun _ c=>c)))))))))))))
 refine zF O (zA (zT O (fun r=> ?_) (fun r=> ?_)))
 ·refine zB (yJ (cs:=[Vn 0,Vn 0,Vi 0,Vn 0,Vi 0,Vi 0]) (z:=[Vn 0,Vn 0,Vi 0,Vn 0,Vi 0,Vi 0]) (pl:=[(0,1),(1,1),(2,1),(3,1),(4,1),(5,1)]) qF qF O (zf 2 O O O (zz O) O (zF O (zA (zP (yk (cs:=[Vn 0,Vn 0,Vi 0,Vn 0,Vi 0,Vi 0]) (v:=Vi 7) O O O qF (Own.qd (i:=2) O) (fun g c=>⟨RepD.zero,7,O,zS6 l r,c.sel [0,1] O V⟩)))))))
 refine zB (zC O (xo (b:=(zl s kl).isSome) O O (zC O (yP (q:=(!((zl s kl).isSome))=true) 4 2 [49,48,47,46] (((((zl s kl).getD RepD.zero).seq:Nat):Int)<((q:Nat):Int)) O O (y2 _) O O O trivial O (fun d=> ?_) (fun a1=> ?_)))))
 ·refine zQ O (bF d) (zC O (zQ O (bF d) (zI (o:=1) O O (zQ O (bF d) (zJ 3 (v:=Vn (((zl s kl).getD RepD.zero).seq)) O O O O (zQ O (bF d) (yY O O O (z8 O (fun _ c=>c)))))))))
 refine zF O (zA (zT O (fun n=> ?_) (fun n=> ?_)))
 ·refine zB (yJ (cs:=[Vn 0,Vn 0,Vi 0,Vn 0,Vi 0,Vi 0]) (z:=[Vn 0,Vn 0,Vi 0,Vn 0,Vi 0,Vi 0]) (pl:=[(0,1),(1,1),(2,1),(3,1),(4,1),(5,1)]) qF qF O (zf 2 O O O (zz O) O (zF O (zA (zP (yk (cs:=[Vn 0,Vn 0,Vi 0,Vn 0,Vi 0,Vi 0]) (v:=Vi 8) O O O qF (Own.qd (i:=2) O) (fun g c=>⟨RepD.zero,8,O,zTl l r n,c.sel [0,1] O V⟩)))))))
 refine zB (zC O (zI (o:=1) O O (zJ 3 (v:=Vn (((zl s kl).getD RepD.zero).seq)) O O O O (zu O O O (zF O (zA (zT O (fun u=> ?_) (fun u=> ?_))))))))
 ·refine zB (yJ (cs:=[Vn 0,Vn 0,Vi 0,Vn 0,Vi 0,Vi 0]) (z:=[Vn 0,Vn 0,Vi 0,Vn 0,Vi 0,Vi 0]) (pl:=[(0,1),(1,1),(2,1),(3,1),(4,1),(5,1)]) qF qF O (zf 2 O O O (zz O) O (zF O (zA (zP (yk (cs:=[Vn 0,Vn 0,Vi 0,Vn 0,Vi 0,Vi 0]) (v:=Vi 13) O O O qF (Own.qd (i:=2) O) (fun g c=>⟨RepD.zero,13,O,zQf l n u,c.sel [0,1] O V⟩)))))))
 refine zN (zB (z6 (cs:=(RepD.cells ((zl s kl).getD RepD.zero))) 3 O O O (zf 2 O O O (zz O) O (zF O (zA (zP (yk (cs:=(RepD.cells ((zl s kl).getD RepD.zero))) (v:=Vi 0) O O O qF (Own.qd (i:=2) O) (fun g c=>⟨(zl s kl).getD RepD.zero,0,O,zTc l n u,c.sel [0,1] O V⟩))))))))
theorem zNh{S:List Nat}(b m:Nat)(kl:List (Nat×RepD))(r:RepD)(w:World)(z:r.wf)(s:Own w S [Res.row b 275 [.map (some m)],Res.mp ekR kj m kl] w):Rets Tryz.prog 487 #[.pointer (some ⟨b,0,none⟩), .agg (RepD.cells r).toArray] w fun y d=>∃ (e:Int) (kl':List (Nat×RepD)),y=Vi e∧e=zBh r (yn kl r.session r.seq).2∧kl'=jZ kl r∧Own w S [Res.row b 275 [.map (some m)],Res.mp ekR kj m kl'] d:=by
 refine zO Tryz.func487 O Tryz.ntmps487 s (zB (zj O O (fun b3=>zF O (zA (zK (zB (zC O (yE qF O O O (zA (yW O (zN (zK (zB (z6 (cs:=(RepD.cells r)) 2 O O O (zG O O (fun d a=>(zG7 r d ‹_›).mono ?_))))))))))))))))
 rintro _ x ⟨l,rfl,u⟩
 refine(?_:CL _ _ _ _ _ _ (Own w S [_,_,_,_])) x (a.qb u)
 refine zC O (zb (vs:=[l,Vi (yI r.ok)]) O O O (zb (vs:=[l,Vi (yI r.ok)]) O O O (zF O (zF O (zA (zB (zC O (yf O O O (zA (zT O (fun h=> ?_) (fun h=> ?_)))))))))))
 ·refine zB (zF O (zA (zP (zm (v:=Vi 2) O O (fun d a=>⟨2,kl,O,(zPp h kl).1,(zPp h kl).2,a.sel [0,1] O V⟩)))))
 refine zN (zB (zC O (zI (o:=0) O O (zJ 2 (v:=Vn r.session) O O O O (zI (o:=1) O O (zJ 2 (v:=Vn r.seq) O O O O (zG O O (fun d a=>(zC8 b m kl r.session r.seq d (a.give [0,1] O V)).mono ?_))))))))
 rintro _ x ⟨n,g,rfl,j,u⟩
 have c:(yn kl r.session r.seq).2=g:=congrArg Prod.snd j
 refine fq [0,1] O a u (zC O (zb (vs:=[.agg (RepD.cells n).toArray,Vi g]) O O O (zb (vs:=[.agg (RepD.cells n).toArray,Vi g]) O O O (zk (v:= .agg #[Vn 0,Vn 0,Vi 0,Vn 0,Vi 0,Vi 0]) qF O (fun b7=>zf 4 O O O (zz O) O (zF O (zA (zB (zC O (zA (zU (zB (yT O O O (zF O (zA (zT O (fun p=> ?_) (fun p=> ?_)))))))))))))))))
 ·refine zK (zd [0,1,2,4] O V qF (fun d a i=>zD 0 O za i (zD 1 O (zY O) i (zD 2 O (zL (o:=0) O) i (zD 3 O (zZ 2 (v:= .map (some m)) O O O) i (zD 4 O (zL (o:=0) O) i (zD 5 O (zZ 0 (v:=Vn r.session) O O O) i (zD 6 O (xG (cs:=(RepD.cells r)) 0 O O) i (zM 7 O a (jC 3 (k:=r.session) (v:=r) zT9 zQO O O O O (zE [0,1,2,4] O V (fun d a i=>zX ((?_:C _ _ _ _ _ _ _ (Own w S [_,_,_,_,_])) _ a)))))))))))))
  refine zB (zF O (zA (zP (zm (v:=Vi 0) O O (fun d a=>⟨0,yZ r.session r kl,O,(zP5 h (c.trans p)).1,(zP5 h (c.trans p)).2,a.sel [2,3] O V⟩)))))
 refine zB (yT O O O (zF O (zA (zT O (fun q=> ?_) (fun q=> ?_)))))
 ·refine zB (zF O (zA (zP (zm (v:=Vi 9) O O (fun d a=>⟨9,kl,O,(zPt h (c.trans q)).1,(zPt h (c.trans q)).2,a.sel [2,3] O V⟩)))))
 refine zB (zC O (zF O (zA (zP (zm (v:=Vi g) O O (fun d a=>⟨g,kl,O,(zPm h c p q).1,(zPm h c p q).2,a.sel [2,3] O V⟩))))))
def zCu(c:CmdD)(e:Int):RepD:=⟨c.session,c.seq,e,0,0,0⟩
def zDe(c:CmdD)(x:LeaD)(e:Int):RepD:=if e≠0 then zCu c e else⟨c.session,c.seq,0,x.id,x.amount,x.until_⟩
def zTY(c:CmdD)(e n:Int):RepD:=⟨c.session,c.seq,e,0,if e=0 then n else 0,0⟩
def zJn(now:Int)(cnt:Nat)(kb:List (ByteArray×Int))(kl:List (Nat×LeaD))(c:CmdD)(r:RepD)(cnt':Nat)(kb':List (ByteArray×Int))(kl':List (Nat×LeaD)):Prop:=
 (c.op=1∧r=zTY c (ju c.key c.amount kb) (yi c.key kl)∧cnt'=cnt∧kb'=zFQ c.key c.amount kb∧kl'=kl)
 ∨(c.op=2∧∃ x e,e=xe c.session c.key c.amount c.span kb kl∧x=zDK e cnt c.session c.key c.amount (now+c.span)∧r=zDe c x e∧cnt'=zMe e cnt∧kb'=kb∧kl'=zIm e x kl)
 ∨(c.op=3∧∃ x e,zDI now kb kl c.session c.lease c.span x e kl'∧r=zDe c x e∧cnt'=cnt∧kb'=kb)
 ∨(c.op=4∧∃ x e,zJG kl c.session c.lease x e kl'∧r=zDe c x e∧cnt'=cnt∧kb'=kb)
 ∨(((c.op≠1∧c.op≠2)∧c.op≠3∧c.op≠4)∧r=zCu c 0∧cnt'=cnt∧kb'=kb∧kl'=kl)
def zPB(c:CmdD)(q:RepD×Int)(r:RepD):Prop:=
 (¬ c.ok∧r=zCu c 2)∨(c.ok∧c.session=0∧r=zCu c (if c.op=5 then 0 else 1))∨(c.ok∧c.session≠0∧c.seq=0∧r=zCu c 18)
 ∨((c.ok∧c.session≠0∧c.seq≠0)∧q.2≠8∧r=if q.2=0 then q.1 else zCu c (if q.2=13 then 18 else q.2))
def GoR(c:CmdD)(q:RepD×Int):Prop:=(c.ok∧c.session≠0∧c.seq≠0)∧q.2=8
def DoK(now:Int)(cnt:Nat)(kb:List (ByteArray×Int))(kl:List (Nat×LeaD))(kr:List (Nat×RepD))(c:CmdD)(r:RepD)(did:Bool)(cnt':Nat)(kb':List (ByteArray×Int))(kl':List (Nat×LeaD))(kr':List (Nat×RepD)):Prop:=
 (zPB c (yn kr c.session c.seq) r∧did=false∧cnt'=cnt∧kb'=kb∧kl'=kl∧kr'=kr)
 ∨(GoR c (yn kr c.session c.seq)∧zJn now cnt kb kl c r cnt' kb' kl'∧did=true∧kr'=jZ kr r)
theorem zKr{cnt:Nat}{c:CmdD}{e:Int}{t:Int}(d:cnt≤1000000000)(a:kE c.amount)(b:kE t):∀ x,x=zDK e cnt c.session c.key c.amount t→x.id<18446744073709551616∧kE x.amount∧kE x.until_:=by
 rintro x rfl
 unfold zDK
 split
 · exact⟨by show cnt+1<_;omega,a,b⟩
 exact⟨by decide,by unfold kE;decide,by unfold kE;decide⟩
theorem zAg{c:CmdD}{e:Int}(a:c.wf):(zCu c e).wf:=⟨a.session,a.seq,by show(0:Nat)<_;omega,by show kE 0;unfold kE;decide,by show kE 0;unfold kE;decide⟩
theorem zFX{c:CmdD}{x:LeaD}{e:Int}(a:c.wf)(h:x.id<18446744073709551616∧kE x.amount∧kE x.until_):(zDe c x e).wf:=by
 unfold zDe
 split
 · exact zAg a
 exact⟨a.session,a.seq,h.1,h.2.1,h.2.2⟩
end Go.Proofs.YthpoddkmhfhboaaGreatDoor
