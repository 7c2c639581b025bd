import Derived.Test.YthpoddkmhfhboaaGreatDoorNodB
set_option linter.unusedSimpArgs false
set_option linter.unusedVariables false
set_option maxRecDepth 10000
namespace Go.Proofs.YthpoddkmhfhboaaGreatDoor
open Go.Sc
theorem zPW:Rises [1]:=⟨by simp,by simp⟩
theorem zB3{es:List EntD}{N:List EntA}{E:EntA}{i:Nat}(a:es.map EntD.toEntA=N++[E])(b:N.length=i):es.length=i+1:=by
 have:=congrArg List.length a
 simp at this
 omega
theorem zEt(st:SetD)(w:World)(a:st=jT st.rho)(b:0≤st.rho∧st.rho≤500000):Rets Tryz.prog 37 #[.agg (SetD.cells st).toArray] w fun c d=>c=xx∧Own w [] [] d:=by
 have h:=zLZ st.rho w
 rw[a]
 exact h.mono fun u e h1=>⟨by rw[h1.1,decide_eq_true b],h1.2⟩
theorem zNn(db:Nat)(D:DskD)(kf:List (ByteArray×FilD))(vv:Value)(vs:List Int)(w:World)(k:DskCl D)(hl:kf.length=0)(l:D.room=1048576)(e:Rises vs)(g:0<vs.length)(h:vs.length≤12)(i:Own w (xL [Res.dk db D kf]) [Res.dk db D kf] w)(j:Rd w (xL [Res.dk db D kf]) (Res.sl vv vs.length (vs.flatMap I1))):Rets Tryz.prog 74 #[pt db, .agg #[Vn 0,Vn 0,vv,zW,zW]] w fun m n=>∃ (stb:Nat) (s:StoD) (a b c d:Value),m= .tuple #[pt stb, .agg #[Vn 0,Vi 0,Vn 0,Vn 0,a,b,c,d],Vi 0]∧StoOk s 0 1∧s.hh=false∧s.es=[]∧Own w (xL [Res.dk db D kf]) [Res.sto stb s,vI a vs,vI b ([]:List Int),vY c ([]:List UInt8),vE d ([]:List EntD),sE ([]:List EntD)] n:=by
 refine(zNg db D kf vv vs w k hl l e g h i j).mono ?_
 rintro _ r ⟨stb,s,a,b,c,d,o,rfl,h1,h2,t,u,p,v,rfl,q⟩
 exact⟨stb,s,a,b,c,d,O,h1,h2,p,q⟩
theorem zLo{S:List Nat}(db:Nat)(D:DskD)(kf:List (ByteArray×FilD))(st:SetD)(qe:Nat)(w:World)(hs:st=jT st.rho)(hr:0≤st.rho∧st.rho≤500000)(hk:DskCl D)(hl:kf.length=0)(hR:D.room=1048576)(hd:qe<18446744073709551616)(ac:Own w S [Res.dk db D kf] w):Rets Tryz.prog 41 #[Vi 1,pt db, .agg (SetD.cells st).toArray,Vi 0,Vn qe] w fun u_ e=>∃ (nb cb gb stb:Nat) (x:AlD) (s:LgD) (o:StoD),u_= .tuple #[pt nb,Vi 0]∧AlF (zCb st.rho) x∧x.t.now=0∧x.t.due=12+((qe%21:Nat):Int)∧s.idx=0∧s.a=lgZ∧StoOk o 0 1∧o.hh=false∧o.es=[]∧Own w S [kV nb cb gb zW 0 stb st zW zW zW,Res.al cb (zCb st.rho) x,Res.lg gb s,Res.sto stb o] e:=by
 refine zO Tryz.func41 O Tryz.ntmps41 ac<|zB<|zj O O<|fun b7=>zF O<|zF O<|zA<|zK<|zB<|zC O<|yE qF O O O<|zC O<|zQ O O<|z6 (cs:=(SetD.cells st)) 1 O O O<|zQ O O<|zG O O<|fun e c=>(zEt st e hs hr).mono ?_
 rintro _ w1 ⟨rfl,u⟩
 refine(?_:CL _ _ _ _ _ _ (Own w S [_,_])) w1<|c.qb u
 refine zQ O O<|xo (b:=true) O O<|xA O O<|zA<|yW O<|zN<|zB<|zC O<|z6 (cs:=(SetD.cells st)) 1 O O O<|zG O O<|fun e c=>(zJr st e (by rw[hs];rfl)).mono ?_
 rintro _ w1 ⟨a6,rfl,u⟩
 refine(?_:CL _ _ _ _ _ _ (Own w S [_,_,_])) w1<|c.qb u
 refine zG O O<|fun e c=>(zNn db _ _ a6 [1] e hk hl hR zPW V V (c.give [0] O V)<|c.rdVec 2 O [0] O O).mono ?_
 rintro _ w1 ⟨d,ad,h,j,k,l,rfl,a3,y,a0,u⟩
 refine fq [0] O c u<|zC O<|zb (vs:=[pt d, .agg #[Vn 0,Vi 0,Vn 0,Vn 0,h,j,k,l],Vi 0]) O O O<|zb (vs:=[pt d, .agg #[Vn 0,Vi 0,Vn 0,Vn 0,h,j,k,l],Vi 0]) O O O<|zb (vs:=[pt d, .agg #[Vn 0,Vi 0,Vn 0,Vn 0,h,j,k,l],Vi 0]) O O O<|zk (v:= .agg #[Vn 0,Vi 0,Vn 0,Vn 0,zW,zW,zW,zW]) qF O<|fun ae=>zF O<|zS (fun e c=>Own.qa (i:=3) O c)<|fun a7=>(zS (fun e c=>Own.qa (i:=4) O c)<|fun a8=>(zS (fun e c=>Own.qa (i:=5) O c)<|fun a9=>(zS (fun e c=>Own.qa (i:=6) O c)<|fun aa=>(zf 8 O O O (zH O<|zH O<|zH O<|zH O<|zH a7<|zH a8<|zH a9<|zH aa zh) O<|zF O<|zA<|zK<|zB<|zC O<|yf O O O<|zA<|zT O (fun c2=> ?_)<|fun c2=> ?_))))
 ·exact absurd O c2
 refine zN<|zB<|zC O<|zI (o:=0) O O<|xI 8 [Vn 0,Vi 0] O O (yj 0 O) qF O<|zI (o:=2) O O<|xI 8 [Vn 0,Vn 0,h,j,k] O O (yj 2 O) qF O<|zI (o:=7) O O<|zJ 8 (v:=l) O O O O<|z6 (cs:=(SetD.cells st)) 0 O O O<|zC O<|zC O<|zG O O<|fun e c=>((zSM 1 st h [1] qe j k l e O hs hr O hd (c.qj 3 O) (c.qj 4 O) (c.qj 5 O) (c.qj 6 O) (fun p hp=>by cases hp)).mono ?_)
 rintro _ w1 ⟨g,ab,rfl,m,q,r,u⟩
 refine(?_:CL _ _ _ _ _ _ (Own w S [_,_,_,_,_,_,_,_,_,_])) w1<|c.qb u
 refine zC O<|zb (vs:=[pt g,Vi 0]) O O O<|zb (vs:=[pt g,Vi 0]) O O O<|zF O<|zF O<|zA<|zK<|zB<|zC O<|yf O O O<|zA<|zT O (fun c3=> ?_)<|fun c3=> ?_
 ·exact absurd O c3
 refine zN<|zK<|zd [0,1,2,3,4,5,6,8,9] O V qF<|fun e c hS=>zD 0 O za hS<|zD 3 O za hS<|zD 4 O (xG (cs:=(SetD.cells st)) 0 O O) hS<|zM 1 O c<|zG O O<|fun e c=>(zQ4 e).mono ?_
 rintro _ w1 ⟨n,a2,rfl,a4,a1,u⟩
 refine(?_:CL _ _ _ _ _ _ (Own w S [_,_,_,_,_,_,_,_,_,_,_])) w1<|c.qb u
 refine zE [0,1,2,3,4,5,6,8,9] O V<|fun e c hS=>zD 2 O (xY (cs:=[pt g,pt n,zW,Vn 0]) (z:=[.pointer none, .pointer none,zW,Vn 0]) (pl:=[(0,1),(1,1),(2,1),(3,1)]) qF qF) hS<|zD 5 O (xY (cs:=[pt g,pt n,zW,Vn 0,pt d,Vi st.nodes,Vi st.voters,Vi st.edges,Vi st.rho,Vi st.base,Vi st.spread,Vi st.beat,Vi st.disk,Vi st.post,Vi st.keep,yC,zW,zW,zW]) (z:=[.pointer none, .pointer none,zW,Vn 0, .pointer none,Vi 0,Vi 0,Vi 0,Vi 0,Vi 0,Vi 0,Vi 0,Vi 0,Vi 0,Vi 0,yC,zW,zW,zW]) (pl:=[(0,4),(4,1),(5,10),(15,1),(16,1),(17,1),(18,1)]) qF qF) hS<|zM 6 O c<|zj O O<|fun a5=>zE [0,1,2,3,4,5,6,8,9] O V<|fun e c hS=>zD 7 O yB hS<|zX<|(?_:C _ _ _ _ _ _ _ (Own w S [_,_,_,_,_,_,_,_,_,_,_,_])) _ c
 refine zK<|zB<|zC O<|zG O O<|fun e c=>(zBq a5 g n 0 d st zW zW zW zW (zCb st.rho) ab a2 e ((m).toAlI)<|c.give [11,9,10] O V).mono ?_
 rintro _ w1 ⟨rfl,u⟩
 refine fq [11,9,10] O c u<|xo (b:=true) O O<|zA<|yW O<|zN<|zB<|zC O<|zF O<|zF O<|zA<|zP<|yg (v:=pt a5) (v':=Vi 0) O O O<|fun e c=>⟨a5,g,n,d,ab,a2,ad,O,m,q,r,a4,a1,a3,y,a0,c.sel [9,10,11,2] O V⟩
theorem zPu{idx:Nat}{now:Int}{cnt:Nat}{kb kb':List (ByteArray×Int)}{kl kl':List (Nat×LeaD)}{kr kr':List (Nat×RepD)}{x:EntA}{r:RepD}{has:Bool}{e:Int}{idx':Nat}{now':Int}{cnt':Nat}(h:zA6 idx now cnt kb kl kr x r has e idx' now' cnt' kb' kl' kr')(b:x.ok)(hi:x.index=idx+1)(d:x.kind=1):(e=0∧idx'=idx+1)∧has=false:=by
 rcases h with⟨⟨q,_⟩|⟨_,q,_⟩,_⟩|⟨_,c,a,_,⟨_,_,q,_⟩|⟨q,_⟩⟩
 · exact absurd b q
 · exact absurd hi q
 · exact⟨⟨c,a.trans hi⟩,q⟩
 omega
theorem zGN{idx:Nat}{now:Int}{cnt:Nat}{kb kb':List (ByteArray×Int)}{kl kl':List (Nat×LeaD)}{kr kr':List (Nat×RepD)}{x:EntA}{r:RepD}{has:Bool}{e:Int}{idx':Nat}{now':Int}{cnt':Nat}{c:CmdD}(h:zA6 idx now cnt kb kl kr x r has e idx' now' cnt' kb' kl' kr')(g:x.ok)(hi:x.index=idx+1)(i:x.kind=2)(d:zAK x.data=some c):((e=0∧idx'=idx+1)∧has=true)∧now'=ye now x.delta∧∃ a,DoK (ye now x.delta) cnt kb (yX now x.delta kl) kr c r a cnt' kb' kl' kr':=by
 rcases h with⟨⟨q,_⟩|⟨_,q,_⟩,_⟩|⟨_,j,b,k,⟨q,_⟩|⟨_,q,m,a,f,l⟩⟩
 · exact absurd g q
 · exact absurd hi q
 · rcases q with q|q
   · exact absurd i q
   rw[d]at q;cases q
 rw[d]at f
 cases f
 exact⟨⟨⟨j,b.trans hi⟩,q⟩,k,a,l⟩
theorem zGe{es:List EntD}{N:List EntA}{E:EntA}{i:Nat}(h:EsOk es)(hl:es.length≤1000)(b:es.map EntD.toEntA=N++[E])(d:N.length=i):(E.ok∧E.wf)∧E.index=i+1:=by
 have c:es.length=N.length+1:=by have:=congrArg List.length b;simpa using this
 have a:=zPo h hl i qG
 have e1:(zc es i).toEntA=E:=by
   have h2:(es.map EntD.toEntA)[i]?=some E:=by rw[b,List.getElem?_append_right qG];simp[d]
   rw[List.getElem?_map,y8 qG]at h2
   exact Option.some.inj h2
 rw[e1]at a
 exact⟨a.1,a.2⟩
theorem zEu{es' rs:List EntD}{N:List EntA}{E:EntA}{i:Nat}{e:Int}(c:es'.map EntD.toEntA=N++[E])(f:N.length=i)(a:(LG 0 0 es').fromE (i+1) 1=(rs.map EntD.toEntA,e)):(e=0∧rs.length=1)∧(zc rs 0).toEntA=E:=by
 have d:es'.length=N.length+1:=by have:=congrArg List.length c;simpa using this
 rw[LG.fromE_eq,if_neg qG,if_neg qG,if_neg qG,c]at a
 have e1:((N++[E]).drop (i+1 - 0 - 1)).take (1:Int).toNat=rs.map EntD.toEntA:=congrArg Prod.fst a
 have e2:(0:Int)=e:=congrArg Prod.snd a
 rw[show i+1 - 0 - 1=N.length by omega,List.drop_left]at e1
 have e1: [E]=rs.map EntD.toEntA:=e1
 have b:rs.length=1:=by have:=congrArg List.length e1;simpa using this.symm
 refine⟨⟨e2.symm,b⟩,?_⟩
 have h2:(rs.map EntD.toEntA)[0]?=some E:=by rw[←e1];rfl
 rw[List.getElem?_map,y8 qG]at h2
 exact Option.some.inj h2
theorem zNc{α:Type}[Inhabited α]{l:List α}(h:l.length=1): [zc l 0]=l:=by
 match l,h with
 | [x],_=>rfl
theorem zAi{α:Type}{l:List α}(h:l.length=1):∃ x,l=[x]:=by
 match l,h with
 | [x],_=>exact⟨x,rfl⟩
theorem zJp{S:List Nat}(nb cb gb lk stb:Nat)(st:SetD)(av ov tv:Value)(a:StA)(x:AlD)(k:Nat)(s:LgD)(N:List EntA)(E:EntA)(w:World)(h:AlL a x k)(hl:x.es.length≤1000)(hm:x.es.map EntD.toEntA=N++[E])(hN:N.length=s.idx)(hA:ApOk s.a E.delta)(hk:E.kind=1)(bi:Own w S [kV nb cb gb av lk stb st ov tv zW,x5 av [],Res.al cb a x,Res.lg gb s] w):Rets Tryz.prog 138 #[pt nb] w fun u_ m=>∃ (bb fv:Value) (e:EntD) (s':LgD) (r:RepD),u_= .tuple #[]∧e.toEntA=E∧zA6 s.idx s.a.now s.a.cnt s.a.kb s.a.kl s.a.kr E r false 0 s'.idx s'.a.now s'.a.cnt s'.a.kb s'.a.kl s'.a.kr∧Own w S [kV nb cb gb bb lk stb st ov tv fv,x5 bb [],Res.al cb a x,Res.lg gb s',vE fv [e],sE [e]] m:=by
 have af:=zGe h.es hl hm hN
 have hi:=h.toAlI
 have bq:x.r.qf=s.idx+1:=h.com.trans (zB3 hm hN)
 have bj:s.idx≤1000:=by have:=zB3 hm hN;omega
 refine zO Tryz.func138 O Tryz.ntmps138 bi<|zB<|zj O O<|fun b1=>zA<|zB<|zJ 4 (v:=pt nb) O O O O<|zG O O<|fun m b=>(zBq nb cb gb lk stb st av ov tv zW _ _ _ m ‹_› (b.give [0,2,3] O V)).mono ?_
 rintro _ w1 ⟨rfl,hO⟩
 refine(?_:CL _ _ _ _ _ _ (Own w S [_,_,_,_,_])) w1<|b.qc [0,2,3] O hO
 refine zA<|zB<|zJ 1 (v:=pt nb) O O O O<|zV O O<|zI (o:=0) O O<|zI (o:=0) O O<|zJ 2 (v:=pt cb) O O O O<|zG O O<|fun m b=>(zAY cb _ _ m<|b.give [3] O V).mono ?_
 rintro _ w1 ⟨rfl,hO⟩
 refine(?_:CL _ _ _ _ _ _ (Own w S [_,_,_,_,_])) w1<|b.qc [3] O hO
 refine zC O<|zb (vs:=[.agg #[Vn x.t.term,Vi x.t.ql],Vi x.r.qm,Vi x.r.who,Vn x.r.qf]) O O O<|zb (vs:=[.agg #[Vn x.t.term,Vi x.t.ql],Vi x.r.qm,Vi x.r.who,Vn x.r.qf]) O O O<|zb (vs:=[.agg #[Vn x.t.term,Vi x.t.ql],Vi x.r.qm,Vi x.r.who,Vn x.r.qf]) O O O<|zb (vs:=[.agg #[Vn x.t.term,Vi x.t.ql],Vi x.r.qm,Vi x.r.who,Vn x.r.qf]) O O O<|zk (v:= .agg #[Vn 0,Vi 0]) qF O<|fun b2=>zf 5 O O O (zz O) O<|zF O<|zF O<|zF O<|zA<|zB<|zJ 1 (v:=pt nb) O O O O<|zV O O<|zI (o:=0) O O<|zI (o:=0) O O<|zJ 2 (v:=pt cb) O O O O<|zG O O<|fun m b=>(zFD cb _ _ m ‹_› qH<|b.give [4] O V).mono ?_
 rintro _ w1 ⟨ae,a5,a0,rfl,ag,hO⟩
 have br:a0.length=x.es.length:=by have:=congrArg List.length ag;simpa using this
 refine(?_:CL _ _ _ _ _ _ (Own w S [_,_,_,_,_,_,_,_,_])) w1<|b.qc [4] O hO
 refine zF O<|zA<|zK<|zU<|zAz (fun(av fv:Value) (es:List EntD) (z:LgD) (r:RepD)=>[(1,pt b1),(5,Vn x.r.qf),(6,pt ae)]) (fun(av fv:Value) (es:List EntD) (z:LgD) (r:RepD)=>(es=[]∧z=s)∨(z.idx=s.idx+1∧∃ e:EntD,es=[e]∧e.toEntA=E∧zA6 s.idx s.a.now s.a.cnt s.a.kb s.a.kl s.a.kr E r false 0 z.idx z.a.now z.a.cnt z.a.kb z.a.kl z.a.kr)) (fun(av fv:Value) (es:List EntD) (z:LgD) (r:RepD)=>[x5 av [],Res.row b1 60 [pt nb],kV nb cb gb av lk stb st ov tv fv,Res.lg gb z,Res.al cb a x,Res.row ae 415 [Vn 0,Vn 0,a5],vE a5 a0,sE a0,vE fv es,sE es]) (fun(av fv:Value) (es:List EntD) (z:LgD) (r:RepD)=>s.idx+1 - z.idx) (fun m b=>⟨av,zW,[],s,RepD.zero,⟨O,O,O,trivial⟩, .inl ⟨O,O⟩,(Own.qn<|zq b 113 5).sel [0,1,2,3,5,6,7,8,9,10] O V⟩)<|fun av fv es z r g hΦ=>(zK<|zB<|zJ 1 (v:=pt nb) O O O O<|zV O O<|zI (o:=0) O O<|zI (o:=1) O O<|zJ 2 (v:=pt gb) O O O O<|zG O O<|fun m b=>(jX gb z m<|b.give [3] O V).mono ?_)
 rintro _ w1 ⟨rfl,hO⟩
 refine(?_:CL _ _ _ _ _ _ (Own w S [_,_,_,_,_,_,_,_,_,_])) w1<|b.qc [3] O hO
 refine zC O<|zu O O O<|zA<|zT O (fun c1=> ?_)<|fun c1=> ?_
 ·have h0:es=[]∧z=s:=by rcases hΦ with q|⟨q,_⟩;exact q;omega
  have bo:es.length=0:=by rw[h0.1];rfl
  have bs:z.idx≤1000:=by rw[h0.2];exact bj
  refine zN<|zU<|zB<|zC O<|zJ 1 (v:=pt nb) O O O O<|zV O O<|zI (o:=0) O O<|zI (o:=1) O O<|zJ 2 (v:=pt gb) O O O O<|zG O O<|fun m b=>(jX gb z m<|b.give [9] O V).mono ?_
  rintro _ w1 ⟨rfl,hO⟩
  refine(?_:CL _ _ _ _ _ _ (Own w S [_,_,_,_,_,_,_,_,_,_])) w1<|b.qc [9] O hO
  refine zr O O (yz qG) O<|zG O O<|fun m b=>(zE7 ae 0 0 a5 a0 (z.idx+1) 1 m qG (by have h2:=hi.es.good;unfold LG at h2 ⊢;rw[ag];exact h2) (b.rdRes0 4 O) (b.qj 5 O)<|EntD.rd.star0 6 O b).mono ?_
  rintro _ w1 ⟨a8,d,aq,rfl,ar,hO⟩
  have n:=zEu (i:=z.idx) (ag.trans hm) (by rw[h0.2];exact hN) ar
  have bt:=n.1.2
  have bu: [zc d 0]=d:=zNc n.1.2
  refine(?_:CL _ _ _ _ _ _ (Own w S [_,_,_,_,_,_,_,_,_,_,_,_])) w1<|b.qb hO
  refine zC O<|zb (vs:=[a8,Vi aq]) O O O<|zb (vs:=[a8,Vi aq]) O O O<|zk (v:=zW) qF O<|fun b7=>(zS (fun m b=>Own.qa (i:=10) O b)<|fun bc=>(zi (cs:=[zW]) 12 O O O bc O<|zF O<|zA<|zK<|zB<|zC O<|yf O O O<|zC O<|yP (q:=aq≠0) 3 2 [55,54,53] (((d.length:Nat):Int)=0) O O O O O O trivial O (fun am=> ?_)<|fun bp=> ?_))
  ·refine zQ O (gF am)<|zJ 12 (v:=a8) O O O O<|zQ O (gF am)<|zn (pV 10 O) O O<|zQ O (gF am)<|yT O O O<|z8 O<|fun _ b=>b
  refine zA<|zT O (fun c2=> ?_)<|fun c2=> ?_
  ·exact absurd c2 (by have h1:=n.1.1;have h2:=n.1.2;omega)
  refine zN<|zQi (fun(s':LgD) (r:RepD) (an:Bool) (er:Int) (b9 u:Nat)=>[(1,pt b1),(5,Vn x.r.qf),(6,pt ae),(7,pt b7),(8,Vi er),(9,pt b9),(10,pt u)]) (fun(s':LgD) (r:RepD) (an:Bool) (er:Int) (b9 u:Nat)=>zA6 s.idx s.a.now s.a.cnt s.a.kb s.a.kl s.a.kr E r an er s'.idx s'.a.now s'.a.cnt s'.a.kb s'.a.kl s'.a.kr) (fun(s':LgD) (r:RepD) (an:Bool) (er:Int) (b9 u:Nat)=>[x5 av [],Res.row b1 60 [pt nb],kV nb cb gb av lk stb st ov tv fv,Res.lg gb s',Res.al cb a x,Res.row ae 415 [Vn 0,Vn 0,a5],vE a5 a0,sE a0,vE fv es,sE es,vE a8 d,sE d,Res.row b7 56 [a8],Res.row b9 37 [Vn r.session,Vn r.seq,Vi r.e,Vn r.lease,Vi r.amount,Vi r.until_],Res.row u 4 [.bool an]]) ?_<|fun s' r an er b9 u g hΦ=> ?_
  ·refine zd [0,1,2,3,4,5,7,10,12] O V qF<|fun m b c=>zD 0 O (zZ 1 (v:=pt nb) O O O) c<|zD 1 O (zY O) c<|zD 2 O (zL (o:=0) O) c<|zD 3 O (zL (o:=1) O) c<|zD 4 O (zZ 2 (v:=pt gb) O O O) c<|zD 5 O (zZ 8 (v:=a8) O O O) c<|zD 6 O (kN (pV 7 O) 5 0 O O O qG) c<|zD 7 O (zD0 (pV 7 O) 5 0 (off:=yr a8+0*5) (fun _=>O) O qP qG) c<|zCA (i:=8) (j:=13) (k:=14) qF ?_ ?_ ?_
   ·refine zo 8 O b<|zG O O<|fun m b=>(kB gb z (zc d 0) m (by show(zc d 0).toEntA.wf;rw[n.2];exact af.1.2) (by show ApOk z.a (zc d 0).toEntA.delta;rw[h0.2,n.2];exact hA) qG (b.give [9] O V)<|EntD.rd.star 11 O [9] O O b _<|zy qG).mono ?_
    rintro _ w1 ⟨ap,ao,a6,a7,rfl,p,hO⟩
    refine(?_:CL _ _ _ _ _ _ (Own w S [_,_,_,_,_,_,_,_,_,_,_,_,_])) w1<|b.qc [9] O hO
    refine zE [0,1,2,3,4,5,7,9,11] O V<|fun m b c=>zD 9 O za c<|zD 10 O (yG (vs:=[.agg (RepD.cells ao).toArray, .bool a6,Vi a7]) O O) c<|zD 11 O (yG (vs:=[.agg (RepD.cells ao).toArray, .bool a6,Vi a7]) O O) c<|zD 12 O (yG (vs:=[.agg (RepD.cells ao).toArray, .bool a6,Vi a7]) O O) c<|z7 13 14 ?_ ?_
    ·refine zo 13 O b<|zk (v:= .agg #[Vn 0,Vn 0,Vi 0,Vn 0,Vi 0,Vi 0]) qF O<|fun b9=>zE [0,1,2,3,4,5,7,9,11] O V<|fun m b c=>zM 14 O b<|zk (v:=yC) qF O<|fun u=>zE [0,1,2,3,4,5,7,9,11] O V<|fun m b c=>zM 15 O b<|zf 13 O O O (zz O) O<|zE [0,1,2,3,4,5,7,9,11] O V<|fun m b c=>zM 16 O b<|zi (cs:=[yC]) 14 O O O O O<|zE [0,1,2,3,4,5,7,9,11] O V<|fun m b c=>zD 17 O yB c<|zX (⟨ap,ao,a6,a7,b9,u,⟨O,O,O,O,O,O,O,trivial⟩,(by have q:=p;rw[h0.2,n.2]at q;exact q),b.sel [0,1,2,12,3,4,5,6,7,8,9,10,11,13,14] O V⟩)
    refine zo 14 O b<|zk (v:=yC) qF O<|fun u=>zE [0,1,2,3,4,5,7,9,11] O V<|fun m b c=>zM 13 O b<|zk (v:= .agg #[Vn 0,Vn 0,Vi 0,Vn 0,Vi 0,Vi 0]) qF O<|fun b9=>zE [0,1,2,3,4,5,7,9,11] O V<|fun m b c=>zM 15 O b<|zf 14 O O O (zz O) O<|zE [0,1,2,3,4,5,7,9,11] O V<|fun m b c=>zM 16 O b<|zi (cs:=[yC]) 13 O O O O O<|zE [0,1,2,3,4,5,7,9,11] O V<|fun m b c=>zD 17 O yB c<|zX (⟨ap,ao,a6,a7,b9,u,⟨O,O,O,O,O,O,O,trivial⟩,(by have q:=p;rw[h0.2,n.2]at q;exact q),b.sel [0,1,2,12,3,4,5,6,7,8,9,10,11,14,13] O V⟩)
   ·refine zo 13 O b<|zk (v:= .agg #[Vn 0,Vn 0,Vi 0,Vn 0,Vi 0,Vi 0]) qF O<|fun b9=>zE [0,1,2,3,4,5,7,10,12] O V<|fun m b c=>z7 8 14 ?_ ?_
    ·refine zo 8 O b<|zG O O<|fun m b=>(kB gb z (zc d 0) m (by show(zc d 0).toEntA.wf;rw[n.2];exact af.1.2) (by show ApOk z.a (zc d 0).toEntA.delta;rw[h0.2,n.2];exact hA) qG (b.give [9] O V)<|EntD.rd.star 11 O [9] O O b _<|zy qG).mono ?_
     rintro _ w1 ⟨au,ah,a1,a9,rfl,p,hO⟩
     refine(?_:CL _ _ _ _ _ _ (Own w S [_,_,_,_,_,_,_,_,_,_,_,_,_,_])) w1<|b.qc [9] O hO
     refine zE [0,1,2,3,4,5,7,9,11] O V<|fun m b c=>zD 9 O za c<|zD 10 O (yG (vs:=[.agg (RepD.cells ah).toArray, .bool a1,Vi a9]) O O) c<|zD 11 O (yG (vs:=[.agg (RepD.cells ah).toArray, .bool a1,Vi a9]) O O) c<|zD 12 O (yG (vs:=[.agg (RepD.cells ah).toArray, .bool a1,Vi a9]) O O) c<|zM 14 O b<|zk (v:=yC) qF O<|fun u=>zE [0,1,2,3,4,5,7,9,11] O V<|fun m b c=>zM 15 O b<|zf 12 O O O (zz O) O<|zE [0,1,2,3,4,5,7,9,11] O V<|fun m b c=>zM 16 O b<|zi (cs:=[yC]) 14 O O O O O<|zE [0,1,2,3,4,5,7,9,11] O V<|fun m b c=>zD 17 O yB c<|zX (⟨au,ah,a1,a9,b9,u,⟨O,O,O,O,O,O,O,trivial⟩,(by have q:=p;rw[h0.2,n.2]at q;exact q),b.sel [0,1,2,13,3,4,5,6,7,8,9,10,11,12,14] O V⟩)
    refine zo 14 O b<|zk (v:=yC) qF O<|fun u=>zE [0,1,2,3,4,5,7,10,12] O V<|fun m b c=>zM 8 O b<|zG O O<|fun m b=>(kB gb z (zc d 0) m (by show(zc d 0).toEntA.wf;rw[n.2];exact af.1.2) (by show ApOk z.a (zc d 0).toEntA.delta;rw[h0.2,n.2];exact hA) qG (b.give [9] O V)<|EntD.rd.star 11 O [9] O O b _<|zy qG).mono ?_
    rintro _ w1 ⟨aw,ai,a2,aa,rfl,p,hO⟩
    refine(?_:CL _ _ _ _ _ _ (Own w S [_,_,_,_,_,_,_,_,_,_,_,_,_,_,_])) w1<|b.qc [9] O hO
    refine zE [0,1,2,3,4,5,7,9,11] O V<|fun m b c=>zD 9 O za c<|zD 10 O (yG (vs:=[.agg (RepD.cells ai).toArray, .bool a2,Vi aa]) O O) c<|zD 11 O (yG (vs:=[.agg (RepD.cells ai).toArray, .bool a2,Vi aa]) O O) c<|zD 12 O (yG (vs:=[.agg (RepD.cells ai).toArray, .bool a2,Vi aa]) O O) c<|zM 15 O b<|zf 12 O O O (zz O) O<|zE [0,1,2,3,4,5,7,9,11] O V<|fun m b c=>zM 16 O b<|zi (cs:=[yC]) 13 O O O O O<|zE [0,1,2,3,4,5,7,9,11] O V<|fun m b c=>zD 17 O yB c<|zX (⟨aw,ai,a2,aa,b9,u,⟨O,O,O,O,O,O,O,trivial⟩,(by have q:=p;rw[h0.2,n.2]at q;exact q),b.sel [0,1,2,14,3,4,5,6,7,8,9,10,11,12,13] O V⟩)
   refine zo 14 O b<|zk (v:=yC) qF O<|fun u=>zE [0,1,2,3,4,5,7,10,12] O V<|fun m b c=>z7 8 13 ?_ ?_
   ·refine zo 8 O b<|zG O O<|fun m b=>(kB gb z (zc d 0) m (by show(zc d 0).toEntA.wf;rw[n.2];exact af.1.2) (by show ApOk z.a (zc d 0).toEntA.delta;rw[h0.2,n.2];exact hA) qG (b.give [9] O V)<|EntD.rd.star 11 O [9] O O b _<|zy qG).mono ?_
    rintro _ w1 ⟨ax,aj,a3,ab,rfl,p,hO⟩
    refine(?_:CL _ _ _ _ _ _ (Own w S [_,_,_,_,_,_,_,_,_,_,_,_,_,_])) w1<|b.qc [9] O hO
    refine zE [0,1,2,3,4,5,7,9,11] O V<|fun m b c=>zD 9 O za c<|zD 10 O (yG (vs:=[.agg (RepD.cells aj).toArray, .bool a3,Vi ab]) O O) c<|zD 11 O (yG (vs:=[.agg (RepD.cells aj).toArray, .bool a3,Vi ab]) O O) c<|zD 12 O (yG (vs:=[.agg (RepD.cells aj).toArray, .bool a3,Vi ab]) O O) c<|zM 13 O b<|zk (v:= .agg #[Vn 0,Vn 0,Vi 0,Vn 0,Vi 0,Vi 0]) qF O<|fun b9=>zE [0,1,2,3,4,5,7,9,11] O V<|fun m b c=>zM 15 O b<|zf 14 O O O (zz O) O<|zE [0,1,2,3,4,5,7,9,11] O V<|fun m b c=>zM 16 O b<|zi (cs:=[yC]) 12 O O O O O<|zE [0,1,2,3,4,5,7,9,11] O V<|fun m b c=>zD 17 O yB c<|zX (⟨ax,aj,a3,ab,b9,u,⟨O,O,O,O,O,O,O,trivial⟩,(by have q:=p;rw[h0.2,n.2]at q;exact q),b.sel [0,1,2,13,3,4,5,6,7,8,9,10,11,14,12] O V⟩)
   refine zo 13 O b<|zk (v:= .agg #[Vn 0,Vn 0,Vi 0,Vn 0,Vi 0,Vi 0]) qF O<|fun b9=>zE [0,1,2,3,4,5,7,10,12] O V<|fun m b c=>zM 8 O b<|zG O O<|fun m b=>(kB gb z (zc d 0) m (by show(zc d 0).toEntA.wf;rw[n.2];exact af.1.2) (by show ApOk z.a (zc d 0).toEntA.delta;rw[h0.2,n.2];exact hA) qG (b.give [9] O V)<|EntD.rd.star 11 O [9] O O b _<|zy qG).mono ?_
   rintro _ w1 ⟨ay,ak,a4,ac,rfl,p,hO⟩
   refine(?_:CL _ _ _ _ _ _ (Own w S [_,_,_,_,_,_,_,_,_,_,_,_,_,_,_])) w1<|b.qc [9] O hO
   refine zE [0,1,2,3,4,5,7,9,11] O V<|fun m b c=>zD 9 O za c<|zD 10 O (yG (vs:=[.agg (RepD.cells ak).toArray, .bool a4,Vi ac]) O O) c<|zD 11 O (yG (vs:=[.agg (RepD.cells ak).toArray, .bool a4,Vi ac]) O O) c<|zD 12 O (yG (vs:=[.agg (RepD.cells ak).toArray, .bool a4,Vi ac]) O O) c<|zM 15 O b<|zf 13 O O O (zz O) O<|zE [0,1,2,3,4,5,7,9,11] O V<|fun m b c=>zM 16 O b<|zi (cs:=[yC]) 12 O O O O O<|zE [0,1,2,3,4,5,7,9,11] O V<|fun m b c=>zD 17 O yB c<|zX (⟨ay,ak,a4,ac,b9,u,⟨O,O,O,O,O,O,O,trivial⟩,(by have q:=p;rw[h0.2,n.2]at q;exact q),b.sel [0,1,2,14,3,4,5,6,7,8,9,10,11,13,12] O V⟩)
  have ad:=zPu hΦ af.1.1 af.2 hk
  refine zK<|zB<|zC O<|yf O O O<|zA<|zT O (fun c3=> ?_)<|fun c3=> ?_
  ·exact absurd ad.1.1 c3
  refine zN<|zK<|zd [0,1,3,4,5,6,10,12,13,14] O V qF<|fun m b c=>zD 0 O (zZ 1 (v:=pt nb) O O O) c<|zD 1 O (zZ 1 (v:=pt nb) O O O) c<|zD 2 O (zY O) c<|zD 3 O (zL (o:=18) O) c<|zD 5 O (zZ 7 (v:=a8) O O O) c<|zD 6 O (kN (pV 6 O) 5 0 O O O qG) c<|zD 7 O (zD0 (pV 6 O) 5 0 (off:=yr a8+0*5) (fun _=>O) O qP qG) c<|z7 4 8 ?_ ?_
  ·refine zo 4 O b<|zJ 2 (v:=fv) O O O O<|zE [0,1,3,4,5,6,10,12,13,14] O V<|fun m b c=>zM 8 O b<|yH (e:=113) (sz:=5) (vs:=[.agg (EntD.cells<|zc d 0).toArray]) qF O O qS V O<|fun bk=>zE [0,1,3,4,5,6,10,12,13,14] O V<|fun m b c=>zM 9 O b<|zS (fun m b=>Sl.cell1<|Rd.φ (EntD.rd.star0 11 O b _<|zy (l:=d) (j:=0) qG).dv)<|fun bd=>(yF (g:=EntD.cells) (sz:=5) (by':=56) (fun _=>O) (l:=es) (l':=[(zc d 0)]) (all_cons ((zH O<|zH O<|zH O<|zH O<|zH bd zh)) qJ) 8 qF O O O (fun m az=>Vec.sl<|Own.holds az 15 _ O) qH V O<|fun b0=>zE [0,1,3,4,5,6,10,12,13,14] O V<|fun m b c=>zD 10 O (zY O) c<|zD 11 O (zL (o:=18) O) c<|zM 12 O b<|zS (fun m b=>Own.qa (i:=8) O b)<|fun bf=>(zi 2 O O O bf O<|zE [0,1,3,4,5,6,10,12,13,14] O V<|fun m b c=>zX<|(?_:C _ _ _ _ _ _ _ (Own w S [_,_,_,_,_,_,_,_,_,_,_,_,_,_,_,_])) _ b))
   refine zd [1,3,4,5,6,8,10,12,13,14,15] O V qF<|fun m b c=>zD 0 O (zZ 0 (v:=pt nb) O O O) c<|zD 1 O (zZ 0 (v:=pt nb) O O O) c<|zD 2 O (zY O) c<|zD 3 O (zL (o:=0) O) c<|zD 4 O (zL (o:=2) O) c<|zD 6 O (zEF (va:=[]) (vb:=[pt b7,pt u,pt b1,pt b9]) O O) c<|zM 5 O b<|zJ 2 (v:=av) O O O O<|zE [1,3,4,5,6,8,10,12,13,14,15] O V<|fun m b c=>zM 7 O b<|zG O O<|fun m b=>(zI1 av b7 u b1 b9 m<|b.give [0] O V).mono ?_
   rintro b3 w1 ⟨_,rfl,hO⟩
   refine(?_:CL _ _ _ _ _ _ (Own w S [_,_,_,_,_,_,_,_,_,_,_,_,_,_,_,_])) w1<|b.qc [0] O hO
   refine zE [0,2,3,4,5,7,9,11,12,13,14] O V<|fun m b c=>zD 8 O (zY O) c<|zD 9 O (zL (o:=0) O) c<|zD 10 O (zL (o:=2) O) c<|zM 11 O b<|zS (fun m b=>Own.qa (i:=15) O b)<|fun bg=>(zi 1 O O O bg O<|zE [0,2,3,4,5,7,9,11,12,13,14] O V<|fun m b c=>zX (⟨b3,b0,es++[zc d 0],s',r,⟨O,O,O,trivial⟩,(.inr ⟨ad.1.2,zc d 0,by rw[h0.1];rfl,n.2,by have q:=hΦ;rw[ad.2,ad.1.1]at q;exact q⟩),(by have q1:=h0.1;obtain⟨y,hy⟩:=zAi n.1.2;subst q1 hy;exact b.sel [15,0,1,2,3,4,5,6,7,10] rfl V),(by have q1:=ad.1.2;have q2:=h0.2;rw[q2];omega)⟩))
  refine zo 8 O b<|yH (e:=113) (sz:=5) (vs:=[.agg (EntD.cells<|zc d 0).toArray]) qF O O qS V O<|fun bk=>zE [0,1,3,4,5,6,10,12,13,14] O V<|fun m b c=>zM 4 O b<|zJ 2 (v:=fv) O O O O<|zE [0,1,3,4,5,6,10,12,13,14] O V<|fun m b c=>zM 9 O b<|zS (fun m b=>Sl.cell1<|Rd.φ (EntD.rd.star0 11 O b _<|zy (l:=d) (j:=0) qG).dv)<|fun bh=>(yF (g:=EntD.cells) (sz:=5) (by':=56) (fun _=>O) (l:=es) (l':=[(zc d 0)]) (all_cons ((zH O<|zH O<|zH O<|zH O<|zH bh zh)) qJ) 8 qF O O O (fun m az=>Vec.sl<|Own.holds az 15 _ O) qH V O<|fun b0=>zE [0,1,3,4,5,6,10,12,13,14] O V<|fun m b c=>zD 10 O (zY O) c<|zD 11 O (zL (o:=18) O) c<|zM 12 O b<|zS (fun m b=>Own.qa (i:=8) O b)<|fun b4=>(zi 2 O O O b4 O<|zE [0,1,3,4,5,6,10,12,13,14] O V<|fun m b c=>zX<|(?_:C _ _ _ _ _ _ _ (Own w S [_,_,_,_,_,_,_,_,_,_,_,_,_,_,_,_])) _ b))
  refine zd [1,3,4,5,6,8,10,12,13,14,15] O V qF<|fun m b c=>zD 0 O (zZ 0 (v:=pt nb) O O O) c<|zD 1 O (zZ 0 (v:=pt nb) O O O) c<|zD 2 O (zY O) c<|zD 3 O (zL (o:=0) O) c<|zD 4 O (zL (o:=2) O) c<|zD 6 O (zEF (va:=[]) (vb:=[pt b7,pt u,pt b1,pt b9]) O O) c<|zM 5 O b<|zJ 2 (v:=av) O O O O<|zE [1,3,4,5,6,8,10,12,13,14,15] O V<|fun m b c=>zM 7 O b<|zG O O<|fun m b=>(zI1 av b7 u b1 b9 m<|b.give [0] O V).mono ?_
  rintro b5 w1 ⟨_,rfl,hO⟩
  refine(?_:CL _ _ _ _ _ _ (Own w S [_,_,_,_,_,_,_,_,_,_,_,_,_,_,_,_])) w1<|b.qc [0] O hO
  refine zE [0,2,3,4,5,7,9,11,12,13,14] O V<|fun m b c=>zD 8 O (zY O) c<|zD 9 O (zL (o:=0) O) c<|zD 10 O (zL (o:=2) O) c<|zM 11 O b<|zS (fun m b=>Own.qa (i:=15) O b)<|fun b6=>(zi 1 O O O b6 O<|zE [0,2,3,4,5,7,9,11,12,13,14] O V<|fun m b c=>zX (⟨b5,b0,es++[zc d 0],s',r,⟨O,O,O,trivial⟩,(.inr ⟨ad.1.2,zc d 0,by rw[h0.1];rfl,n.2,by have q:=hΦ;rw[ad.2,ad.1.1]at q;exact q⟩),(by have q1:=h0.1;obtain⟨y,hy⟩:=zAi n.1.2;subst q1 hy;exact b.sel [15,0,1,2,3,4,5,6,7,10] rfl V),(by have q1:=ad.1.2;have q2:=h0.2;rw[q2];omega)⟩))
 have h1:z.idx=s.idx+1∧∃ e:EntD,es=[e]∧e.toEntA=E∧zA6 s.idx s.a.now s.a.cnt s.a.kb s.a.kl s.a.kr E r false 0 z.idx z.a.now z.a.cnt z.a.kb z.a.kl z.a.kr:=by rcases hΦ with⟨_,q⟩|q;(rw[q]at c1;omega);exact q
 obtain⟨bv,e,bl,bm,bn⟩:=h1
 refine zw O<|zd [1,3,4,5,7,9] O V qF<|fun m b c=>zD 0 O (zZ 0 (v:=pt nb) O O O) c<|zD 1 O (zZ 0 (v:=pt nb) O O O) c<|zD 2 O (zY O) c<|zD 3 O (zL (o:=0) O) c<|zD 4 O (zL (o:=2) O) c<|zD 6 O (zEF (va:=[]) (vb:=[pt b1]) O O) c<|zM 5 O b<|zJ 2 (v:=av) O O O O<|zE [1,3,4,5,7,9] O V<|fun m b c=>zM 7 O b<|zG O O<|fun m b=>((zFj av b1 m<|b.give [0] O V).mono ?_)
 rintro b8 w1 ⟨_,rfl,hO⟩
 refine(?_:CL _ _ _ _ _ _ (Own w S [_,_,_,_,_,_,_,_,_,_])) w1<|b.qc [0] O hO
 refine zE [0,2,3,4,6,8] O V<|fun m b c=>zD 8 O (zY O) c<|zD 9 O (zL (o:=0) O) c<|zD 10 O (zL (o:=2) O) c<|zM 11 O b<|zS (fun m b=>Own.qa (i:=9) O b)<|fun ba=>(zi 1 O O O ba O<|zE [0,2,3,4,6,8] O V<|fun m b c=>zX<|(yq O<|fun m b=>⟨b8,fv,e,z,r,O,bm,bn,(by subst bl;exact b.sel [1,9,2,8,6,7] rfl V)⟩) _ b)
theorem zMF{S:List Nat}(nb cb gb lk stb:Nat)(st:SetD)(av ov:Value)(a:WaiD)(sa:StA)(x:AlD)(k:Nat)(s:LgD)(N:List EntA)(E:EntA)(c:CmdD)(w:World)(h:AlL sa x k)(hl:x.es.length≤1000)(hm:x.es.map EntD.toEntA=N++[E])(hN:N.length=s.idx)(hA:ApOk s.a E.delta)(hk:E.kind=2)(hc:zAK E.data=some c)(ha:a.look=0)(hp:a.place=E.index)(ht:a.term=E.term)(hW:∀ r a0 cnt' kb' kl' kr',DoK (ye s.a.now E.delta) s.a.cnt s.a.kb (yX s.a.now E.delta s.a.kl) s.a.kr c r a0 cnt' kb' kl' kr'→({seq:=a.seq,retry:=false,lead:=0,reply:=r,most:=0,lent:=0}:TldD).wf∧({seq:=a.seq,retry:=false,lead:=0,reply:=r,most:=0,lent:=0}:TldD).ok)(bu:Own w S [kV nb cb gb av lk stb st ov zW zW,x5 av [a],Res.al cb sa x,Res.lg gb s] w):Rets Tryz.prog 138 #[pt nb] w fun u_ m=>∃ (bl fv tv rv:Value) (e:EntD) (s':LgD) (r:RepD) (a0:Bool),u_= .tuple #[]∧e.toEntA=E∧s'.idx=s.idx+1∧s'.a.now=ye s.a.now E.delta∧DoK (ye s.a.now E.delta) s.a.cnt s.a.kb (yX s.a.now E.delta s.a.kl) s.a.kr c r a0 s'.a.cnt s'.a.kb s'.a.kl s'.a.kr∧Own w S [kV nb cb gb bl lk stb st ov tv fv,x5 bl [],Res.al cb sa x,Res.lg gb s',vE fv [e],sE [e],ySv tv [({dst:=a.edge,dv:=rv,data:=({seq:=a.seq,retry:=false,lead:=0,reply:=r,most:=0,lent:=0}:TldD).enc}:SndD)],vY rv (({seq:=a.seq,retry:=false,lead:=0,reply:=r,most:=0,lent:=0}:TldD).enc)] m:=by
 have a7:=zGe h.es hl hm hN
 have hi:=h.toAlI
 have c9:x.r.qf=s.idx+1:=h.com.trans (zB3 hm hN)
 have bv:s.idx≤1000:=by have:=zB3 hm hN;omega
 refine zO Tryz.func138 O Tryz.ntmps138 bu<|zB<|zj O O<|fun b1=>zA<|zB<|zJ 4 (v:=pt nb) O O O O<|zG O O<|fun m b=>(zBq nb cb gb lk stb st av ov zW zW sa _ _ m ‹_› (b.give [0,2,3] O V)).mono ?_
 rintro _ w1 ⟨rfl,hO⟩
 refine(?_:CL _ _ _ _ _ _ (Own w S [_,_,_,_,_])) w1<|b.qc [0,2,3] O hO
 refine zA<|zB<|zJ 1 (v:=pt nb) O O O O<|zV O O<|zI (o:=0) O O<|zI (o:=0) O O<|zJ 2 (v:=pt cb) O O O O<|zG O O<|fun m b=>(zAY cb sa _ m<|b.give [3] O V).mono ?_
 rintro _ w1 ⟨rfl,hO⟩
 refine(?_:CL _ _ _ _ _ _ (Own w S [_,_,_,_,_])) w1<|b.qc [3] O hO
 refine zC O<|zb (vs:=[.agg #[Vn x.t.term,Vi x.t.ql],Vi x.r.qm,Vi x.r.who,Vn x.r.qf]) O O O<|zb (vs:=[.agg #[Vn x.t.term,Vi x.t.ql],Vi x.r.qm,Vi x.r.who,Vn x.r.qf]) O O O<|zb (vs:=[.agg #[Vn x.t.term,Vi x.t.ql],Vi x.r.qm,Vi x.r.who,Vn x.r.qf]) O O O<|zb (vs:=[.agg #[Vn x.t.term,Vi x.t.ql],Vi x.r.qm,Vi x.r.who,Vn x.r.qf]) O O O<|zk (v:= .agg #[Vn 0,Vi 0]) qF O<|fun b2=>zf 5 O O O (zz O) O<|zF O<|zF O<|zF O<|zA<|zB<|zJ 1 (v:=pt nb) O O O O<|zV O O<|zI (o:=0) O O<|zI (o:=0) O O<|zJ 2 (v:=pt cb) O O O O<|zG O O<|fun m b=>(zFD cb sa _ m ‹_› qH<|b.give [4] O V).mono ?_
 rintro _ w1 ⟨am,a9,a8,rfl,an,hO⟩
 have ca:a8.length=x.es.length:=by have:=congrArg List.length an;simpa using this
 refine(?_:CL _ _ _ _ _ _ (Own w S [_,_,_,_,_,_,_,_,_])) w1<|b.qc [4] O hO
 refine zF O<|zA<|zK<|zU<|zK8 (fun(av fv tv rv:Value) (wl:List WaiD) (es:List EntD) (s2:LgD) (td:List SndD) (bs:List UInt8) (r:RepD) (a0:Bool)=>[(1,pt b1),(5,Vn x.r.qf),(6,pt am)]) (fun(av fv tv rv:Value) (wl:List WaiD) (es:List EntD) (s2:LgD) (td:List SndD) (bs:List UInt8) (r:RepD) (a0:Bool)=>(wl=[a]∧es=[]∧s2=s∧td=[])∨(s2.idx=s.idx+1∧∃ e:EntD,(((wl=[]∧es=[e])∧e.toEntA=E)∧td=[({dst:=a.edge,dv:=rv,data:=({seq:=a.seq,retry:=false,lead:=0,reply:=r,most:=0,lent:=0}:TldD).enc}:SndD)]∧bs=({seq:=a.seq,retry:=false,lead:=0,reply:=r,most:=0,lent:=0}:TldD).enc)∧s2.a.now=ye s.a.now E.delta∧DoK (ye s.a.now E.delta) s.a.cnt s.a.kb (yX s.a.now E.delta s.a.kl) s.a.kr c r a0 s2.a.cnt s2.a.kb s2.a.kl s2.a.kr)) (fun(av fv tv rv:Value) (wl:List WaiD) (es:List EntD) (s2:LgD) (td:List SndD) (bs:List UInt8) (r:RepD) (a0:Bool)=>[Res.vec 296 7 av wl.length (wl.flatMap WaiD.cells),Res.row b1 60 [pt nb],kV nb cb gb av lk stb st ov tv fv,Res.lg gb s2,Res.al cb sa x,Res.row am 415 [Vn 0,Vn 0,a9],vE a9 a8,sE a8,vE fv es,sE es,Res.vec 199 2 tv td.length (td.flatMap SndD.cells),vY rv bs]) (fun(av fv tv rv:Value) (wl:List WaiD) (es:List EntD) (s2:LgD) (td:List SndD) (bs:List UInt8) (r:RepD) (a0:Bool)=>s.idx+1 - s2.idx) (fun m b=>⟨av,zW,zW,zW,[a],[],s,[],[],RepD.zero,false,⟨O,O,O,trivial⟩, .inl ⟨O,O,O,O⟩,(zq (zq (Own.qn<|zq b 113 5) 199 2) 5 1).sel [0,1,2,3,5,6,7,8,9,10,11,12] O V⟩)<|fun av fv tv rv wl es s2 td bs r a0 g hΦ=>(zK<|zB<|zJ 1 (v:=pt nb) O O O O<|zV O O<|zI (o:=0) O O<|zI (o:=1) O O<|zJ 2 (v:=pt gb) O O O O<|zG O O<|fun m b=>(jX gb s2 m<|b.give [3] O V).mono ?_)
 rintro _ w1 ⟨rfl,hO⟩
 refine(?_:CL _ _ _ _ _ _ (Own w S [_,_,_,_,_,_,_,_,_,_,_,_])) w1<|b.qc [3] O hO
 refine zC O<|zu O O O<|zA<|zT O (fun c1=> ?_)<|fun c1=> ?_
 ·have h0:wl=[a]∧es=[]∧s2=s∧td=[]:=by rcases hΦ with q|⟨q,_⟩;exact q;omega
  have c7:es.length=0:=by rw[h0.2.1];rfl
  have cc:s2.idx≤1000:=by rw[h0.2.2.1];exact bv
  refine zN<|zU<|zB<|zC O<|zJ 1 (v:=pt nb) O O O O<|zV O O<|zI (o:=0) O O<|zI (o:=1) O O<|zJ 2 (v:=pt gb) O O O O<|zG O O<|fun m b=>(jX gb s2 m<|b.give [11] O V).mono ?_
  rintro _ w1 ⟨rfl,hO⟩
  refine(?_:CL _ _ _ _ _ _ (Own w S [_,_,_,_,_,_,_,_,_,_,_,_])) w1<|b.qc [11] O hO
  refine zr O O (yz qG) O<|zG O O<|fun m b=>(zE7 am 0 0 a9 a8 (s2.idx+1) 1 m qG (by have h2:=hi.es.good;unfold LG at h2 ⊢;rw[an];exact h2) (b.rdRes0 4 O) (b.qj 5 O)<|EntD.rd.star0 6 O b).mono ?_
  rintro _ w1 ⟨aa,n,b4,rfl,b5,hO⟩
  have p:=zEu (i:=s2.idx) (an.trans hm) (by rw[h0.2.2.1];exact hN) b5
  have cd:=p.1.2
  refine(?_:CL _ _ _ _ _ _ (Own w S [_,_,_,_,_,_,_,_,_,_,_,_,_,_])) w1<|b.qb hO
  refine zC O<|zb (vs:=[aa,Vi b4]) O O O<|zb (vs:=[aa,Vi b4]) O O O<|zk (v:=zW) qF O<|fun b7=>(zS (fun m b=>Own.qa (i:=12) O b)<|fun bm=>(zi (cs:=[zW]) 14 O O O bm O<|zF O<|zA<|zK<|zB<|zC O<|yf O O O<|zC O<|yP (q:=b4≠0) 3 2 [55,54,53] (((n.length:Nat):Int)=0) O O O O O O trivial O (fun aw=> ?_)<|fun c8=> ?_))
  ·refine zQ O (gF aw)<|zJ 14 (v:=aa) O O O O<|zQ O (gF aw)<|zn (pV 12 O) O O<|zQ O (gF aw)<|yT O O O<|z8 O<|fun _ b=>b
  refine zA<|zT O (fun c2=> ?_)<|fun c2=> ?_
  ·exact absurd c2 (by have h1:=p.1.1;have h2:=p.1.2;omega)
  refine zN<|zLb (fun(s':LgD) (r:RepD) (er:Int) (b9 u:Nat) (a0:Bool) (e:EntD)=>[(1,pt b1),(5,Vn x.r.qf),(6,pt am),(7,pt b7),(8,Vi er),(9,pt b9),(10,pt u)]) (fun(s':LgD) (r:RepD) (er:Int) (b9 u:Nat) (a0:Bool) (e:EntD)=>(er=0∧s'.idx=s.idx+1∧e.toEntA=E)∧s'.a.now=ye s.a.now E.delta∧DoK (ye s.a.now E.delta) s.a.cnt s.a.kb (yX s.a.now E.delta s.a.kl) s.a.kr c r a0 s'.a.cnt s'.a.kb s'.a.kl s'.a.kr) (fun(s':LgD) (r:RepD) (er:Int) (b9 u:Nat) (a0:Bool) (e:EntD)=>[x5 av [a],Res.row b1 60 [pt nb],kV nb cb gb av lk stb st ov tv fv,Res.lg gb s',Res.al cb sa x,Res.row am 415 [Vn 0,Vn 0,a9],vE a9 a8,sE a8,vE fv ([]:List EntD),sE ([]:List EntD),ySv tv [],vY rv bs,vE aa [e],sE [e],Res.row b7 56 [aa],Res.row b9 37 [Vn r.session,Vn r.seq,Vi r.e,Vn r.lease,Vi r.amount,Vi r.until_],Res.row u 4 [xx]]) ?_<|fun s' r er b9 u a0 e g hΦ=> ?_
  ·refine zd [0,1,2,3,4,5,7,9,10,12,14] O V qF<|fun m b d=>zD 0 O (zZ 1 (v:=pt nb) O O O) d<|zD 1 O (zY O) d<|zD 2 O (zL (o:=0) O) d<|zD 3 O (zL (o:=1) O) d<|zD 4 O (zZ 2 (v:=pt gb) O O O) d<|zD 5 O (zZ 10 (v:=aa) O O O) d<|zD 6 O (kN (pV 9 O) 5 0 O O O qG) d<|zD 7 O (zD0 (pV 9 O) 5 0 (off:=yr aa+0*5) (fun _=>O) O qP qG) d<|zCA (i:=8) (j:=13) (k:=14) qF ?_ ?_ ?_
   ·refine zo 8 O b<|zG O O<|fun m b=>(kB gb s2 (zc n 0) m (by show(zc n 0).toEntA.wf;rw[p.2];exact a7.1.2) (by show ApOk s2.a (zc n 0).toEntA.delta;rw[h0.2.2.1,p.2];exact hA) qG (b.give [11] O V)<|EntD.rd.star 13 O [11] O O b _<|zy qG).mono ?_
    rintro _ w1 ⟨az,ax,ao,ab,rfl,z,hO⟩
    have ac:=by have q:=z;rw[h0.2.2.1,p.2]at q;exact zGN q a7.1.1 a7.2 hk hc
    obtain⟨⟨⟨a1,a2⟩,a3⟩,a4,a5,a6⟩:=ac
    refine(?_:CL _ _ _ _ _ _ (Own w S [_,_,_,_,_,_,_,_,_,_,_,_,_,_,_])) w1<|b.qc [11] O hO
    refine zE [0,1,2,3,4,5,7,9,10,11,13] O V<|fun m b d=>zD 9 O za d<|zD 10 O (yG (vs:=[.agg (RepD.cells ax).toArray, .bool ao,Vi ab]) O O) d<|zD 11 O (yG (vs:=[.agg (RepD.cells ax).toArray, .bool ao,Vi ab]) O O) d<|zD 12 O (yG (vs:=[.agg (RepD.cells ax).toArray, .bool ao,Vi ab]) O O) d<|z7 13 14 ?_ ?_
    ·refine zo 13 O b<|zk (v:= .agg #[Vn 0,Vn 0,Vi 0,Vn 0,Vi 0,Vi 0]) qF O<|fun b9=>zE [0,1,2,3,4,5,7,9,10,11,13] O V<|fun m b d=>zM 14 O b<|zk (v:=yC) qF O<|fun u=>zE [0,1,2,3,4,5,7,9,10,11,13] O V<|fun m b d=>zM 15 O b<|zf 15 O O O (zz O) O<|zE [0,1,2,3,4,5,7,9,10,11,13] O V<|fun m b d=>zM 16 O b<|zi (cs:=[yC]) 16 O O O O O<|zE [0,1,2,3,4,5,7,9,10,11,13] O V<|fun m b d=>zD 17 O yB d<|zX (⟨az,ax,ab,b9,u,a5,zc n 0,⟨O,O,O,O,O,O,O,trivial⟩,⟨⟨a1,a2,p.2⟩,a4,a6⟩,(by obtain⟨q1,q2,_,q4⟩:=h0;obtain⟨y,hy⟩:=zAi p.1.2;subst q1 q2 q4 hy a3;exact b.sel [0,1,2,14,3,4,5,6,7,8,9,10,11,12,13,15,16] rfl V)⟩)
    refine zo 14 O b<|zk (v:=yC) qF O<|fun u=>zE [0,1,2,3,4,5,7,9,10,11,13] O V<|fun m b d=>zM 13 O b<|zk (v:= .agg #[Vn 0,Vn 0,Vi 0,Vn 0,Vi 0,Vi 0]) qF O<|fun b9=>zE [0,1,2,3,4,5,7,9,10,11,13] O V<|fun m b d=>zM 15 O b<|zf 16 O O O (zz O) O<|zE [0,1,2,3,4,5,7,9,10,11,13] O V<|fun m b d=>zM 16 O b<|zi (cs:=[yC]) 15 O O O O O<|zE [0,1,2,3,4,5,7,9,10,11,13] O V<|fun m b d=>zD 17 O yB d<|zX (⟨az,ax,ab,b9,u,a5,zc n 0,⟨O,O,O,O,O,O,O,trivial⟩,⟨⟨a1,a2,p.2⟩,a4,a6⟩,(by obtain⟨q1,q2,_,q4⟩:=h0;obtain⟨y,hy⟩:=zAi p.1.2;subst q1 q2 q4 hy a3;exact b.sel [0,1,2,14,3,4,5,6,7,8,9,10,11,12,13,16,15] rfl V)⟩)
   ·refine zo 13 O b<|zk (v:= .agg #[Vn 0,Vn 0,Vi 0,Vn 0,Vi 0,Vi 0]) qF O<|fun b9=>zE [0,1,2,3,4,5,7,9,10,12,14] O V<|fun m b d=>z7 8 14 ?_ ?_
    ·refine zo 8 O b<|zG O O<|fun m b=>(kB gb s2 (zc n 0) m (by show(zc n 0).toEntA.wf;rw[p.2];exact a7.1.2) (by show ApOk s2.a (zc n 0).toEntA.delta;rw[h0.2.2.1,p.2];exact hA) qG (b.give [11] O V)<|EntD.rd.star 13 O [11] O O b _<|zy qG).mono ?_
     rintro _ w1 ⟨b6,ap,ad,ae,rfl,z,hO⟩
     have ac:=by have q:=z;rw[h0.2.2.1,p.2]at q;exact zGN q a7.1.1 a7.2 hk hc
     obtain⟨⟨⟨a1,a2⟩,a3⟩,a4,a5,a6⟩:=ac
     refine(?_:CL _ _ _ _ _ _ (Own w S [_,_,_,_,_,_,_,_,_,_,_,_,_,_,_,_])) w1<|b.qc [11] O hO
     refine zE [0,1,2,3,4,5,7,9,10,11,13] O V<|fun m b d=>zD 9 O za d<|zD 10 O (yG (vs:=[.agg (RepD.cells ap).toArray, .bool ad,Vi ae]) O O) d<|zD 11 O (yG (vs:=[.agg (RepD.cells ap).toArray, .bool ad,Vi ae]) O O) d<|zD 12 O (yG (vs:=[.agg (RepD.cells ap).toArray, .bool ad,Vi ae]) O O) d<|zM 14 O b<|zk (v:=yC) qF O<|fun u=>zE [0,1,2,3,4,5,7,9,10,11,13] O V<|fun m b d=>zM 15 O b<|zf 14 O O O (zz O) O<|zE [0,1,2,3,4,5,7,9,10,11,13] O V<|fun m b d=>zM 16 O b<|zi (cs:=[yC]) 16 O O O O O<|zE [0,1,2,3,4,5,7,9,10,11,13] O V<|fun m b d=>zD 17 O yB d<|zX (⟨b6,ap,ae,b9,u,a5,zc n 0,⟨O,O,O,O,O,O,O,trivial⟩,⟨⟨a1,a2,p.2⟩,a4,a6⟩,(by obtain⟨q1,q2,_,q4⟩:=h0;obtain⟨y,hy⟩:=zAi p.1.2;subst q1 q2 q4 hy a3;exact b.sel [0,1,2,15,3,4,5,6,7,8,9,10,11,12,13,14,16] rfl V)⟩)
    refine zo 14 O b<|zk (v:=yC) qF O<|fun u=>zE [0,1,2,3,4,5,7,9,10,12,14] O V<|fun m b d=>zM 8 O b<|zG O O<|fun m b=>(kB gb s2 (zc n 0) m (by show(zc n 0).toEntA.wf;rw[p.2];exact a7.1.2) (by show ApOk s2.a (zc n 0).toEntA.delta;rw[h0.2.2.1,p.2];exact hA) qG (b.give [11] O V)<|EntD.rd.star 13 O [11] O O b _<|zy qG).mono ?_
    rintro _ w1 ⟨b8,aq,af,ag,rfl,z,hO⟩
    have ac:=by have q:=z;rw[h0.2.2.1,p.2]at q;exact zGN q a7.1.1 a7.2 hk hc
    obtain⟨⟨⟨a1,a2⟩,a3⟩,a4,a5,a6⟩:=ac
    refine(?_:CL _ _ _ _ _ _ (Own w S [_,_,_,_,_,_,_,_,_,_,_,_,_,_,_,_,_])) w1<|b.qc [11] O hO
    refine zE [0,1,2,3,4,5,7,9,10,11,13] O V<|fun m b d=>zD 9 O za d<|zD 10 O (yG (vs:=[.agg (RepD.cells aq).toArray, .bool af,Vi ag]) O O) d<|zD 11 O (yG (vs:=[.agg (RepD.cells aq).toArray, .bool af,Vi ag]) O O) d<|zD 12 O (yG (vs:=[.agg (RepD.cells aq).toArray, .bool af,Vi ag]) O O) d<|zM 15 O b<|zf 14 O O O (zz O) O<|zE [0,1,2,3,4,5,7,9,10,11,13] O V<|fun m b d=>zM 16 O b<|zi (cs:=[yC]) 15 O O O O O<|zE [0,1,2,3,4,5,7,9,10,11,13] O V<|fun m b d=>zD 17 O yB d<|zX (⟨b8,aq,ag,b9,u,a5,zc n 0,⟨O,O,O,O,O,O,O,trivial⟩,⟨⟨a1,a2,p.2⟩,a4,a6⟩,(by obtain⟨q1,q2,_,q4⟩:=h0;obtain⟨y,hy⟩:=zAi p.1.2;subst q1 q2 q4 hy a3;exact b.sel [0,1,2,16,3,4,5,6,7,8,9,10,11,12,13,14,15] rfl V)⟩)
   refine zo 14 O b<|zk (v:=yC) qF O<|fun u=>zE [0,1,2,3,4,5,7,9,10,12,14] O V<|fun m b d=>z7 8 13 ?_ ?_
   ·refine zo 8 O b<|zG O O<|fun m b=>(kB gb s2 (zc n 0) m (by show(zc n 0).toEntA.wf;rw[p.2];exact a7.1.2) (by show ApOk s2.a (zc n 0).toEntA.delta;rw[h0.2.2.1,p.2];exact hA) qG (b.give [11] O V)<|EntD.rd.star 13 O [11] O O b _<|zy qG).mono ?_
    rintro _ w1 ⟨ba,ar,ah,ai,rfl,z,hO⟩
    have ac:=by have q:=z;rw[h0.2.2.1,p.2]at q;exact zGN q a7.1.1 a7.2 hk hc
    obtain⟨⟨⟨a1,a2⟩,a3⟩,a4,a5,a6⟩:=ac
    refine(?_:CL _ _ _ _ _ _ (Own w S [_,_,_,_,_,_,_,_,_,_,_,_,_,_,_,_])) w1<|b.qc [11] O hO
    refine zE [0,1,2,3,4,5,7,9,10,11,13] O V<|fun m b d=>zD 9 O za d<|zD 10 O (yG (vs:=[.agg (RepD.cells ar).toArray, .bool ah,Vi ai]) O O) d<|zD 11 O (yG (vs:=[.agg (RepD.cells ar).toArray, .bool ah,Vi ai]) O O) d<|zD 12 O (yG (vs:=[.agg (RepD.cells ar).toArray, .bool ah,Vi ai]) O O) d<|zM 13 O b<|zk (v:= .agg #[Vn 0,Vn 0,Vi 0,Vn 0,Vi 0,Vi 0]) qF O<|fun b9=>zE [0,1,2,3,4,5,7,9,10,11,13] O V<|fun m b d=>zM 15 O b<|zf 16 O O O (zz O) O<|zE [0,1,2,3,4,5,7,9,10,11,13] O V<|fun m b d=>zM 16 O b<|zi (cs:=[yC]) 14 O O O O O<|zE [0,1,2,3,4,5,7,9,10,11,13] O V<|fun m b d=>zD 17 O yB d<|zX (⟨ba,ar,ai,b9,u,a5,zc n 0,⟨O,O,O,O,O,O,O,trivial⟩,⟨⟨a1,a2,p.2⟩,a4,a6⟩,(by obtain⟨q1,q2,_,q4⟩:=h0;obtain⟨y,hy⟩:=zAi p.1.2;subst q1 q2 q4 hy a3;exact b.sel [0,1,2,15,3,4,5,6,7,8,9,10,11,12,13,16,14] rfl V)⟩)
   refine zo 13 O b<|zk (v:= .agg #[Vn 0,Vn 0,Vi 0,Vn 0,Vi 0,Vi 0]) qF O<|fun b9=>zE [0,1,2,3,4,5,7,9,10,12,14] O V<|fun m b d=>zM 8 O b<|zG O O<|fun m b=>(kB gb s2 (zc n 0) m (by show(zc n 0).toEntA.wf;rw[p.2];exact a7.1.2) (by show ApOk s2.a (zc n 0).toEntA.delta;rw[h0.2.2.1,p.2];exact hA) qG (b.give [11] O V)<|EntD.rd.star 13 O [11] O O b _<|zy qG).mono ?_
   rintro _ w1 ⟨bb,au,aj,ak,rfl,z,hO⟩
   have ac:=by have q:=z;rw[h0.2.2.1,p.2]at q;exact zGN q a7.1.1 a7.2 hk hc
   obtain⟨⟨⟨a1,a2⟩,a3⟩,a4,a5,a6⟩:=ac
   refine(?_:CL _ _ _ _ _ _ (Own w S [_,_,_,_,_,_,_,_,_,_,_,_,_,_,_,_,_])) w1<|b.qc [11] O hO
   refine zE [0,1,2,3,4,5,7,9,10,11,13] O V<|fun m b d=>zD 9 O za d<|zD 10 O (yG (vs:=[.agg (RepD.cells au).toArray, .bool aj,Vi ak]) O O) d<|zD 11 O (yG (vs:=[.agg (RepD.cells au).toArray, .bool aj,Vi ak]) O O) d<|zD 12 O (yG (vs:=[.agg (RepD.cells au).toArray, .bool aj,Vi ak]) O O) d<|zM 15 O b<|zf 15 O O O (zz O) O<|zE [0,1,2,3,4,5,7,9,10,11,13] O V<|fun m b d=>zM 16 O b<|zi (cs:=[yC]) 14 O O O O O<|zE [0,1,2,3,4,5,7,9,10,11,13] O V<|fun m b d=>zD 17 O yB d<|zX (⟨bb,au,ak,b9,u,a5,zc n 0,⟨O,O,O,O,O,O,O,trivial⟩,⟨⟨a1,a2,p.2⟩,a4,a6⟩,(by obtain⟨q1,q2,_,q4⟩:=h0;obtain⟨y,hy⟩:=zAi p.1.2;subst q1 q2 q4 hy a3;exact b.sel [0,1,2,16,3,4,5,6,7,8,9,10,11,12,13,15,14] rfl V)⟩)
  have ce: [e].length=1:=rfl
  refine zK<|zB<|zC O<|yf O O O<|zA<|zT O (fun c3=> ?_)<|fun c3=> ?_
  ·exact absurd hΦ.1.1 c3
  refine zN<|zK<|zd [0,1,3,4,5,6,10,11,12,14,15,16] O V qF<|fun m b d=>zD 0 O (zZ 1 (v:=pt nb) O O O) d<|zD 1 O (zZ 1 (v:=pt nb) O O O) d<|zD 2 O (zY O) d<|zD 3 O (zL (o:=18) O) d<|zD 5 O (zZ 9 (v:=aa) O O O) d<|zD 6 O (kN (pV 8 O) 5 0 O O O qG) d<|zD 7 O (zD0 (pV 8 O) 5 0 (off:=yr aa+0*5) (fun _=>O) O qP qG) d<|z7 4 8 ?_ ?_
  ·refine zo 4 O b<|zJ 2 (v:=fv) O O O O<|zE [0,1,3,4,5,6,10,11,12,14,15,16] O V<|fun m b d=>zM 8 O b<|yH (e:=113) (sz:=5) (vs:=[.agg (EntD.cells<|zc [e] 0).toArray]) qF O O qS V O<|fun bw=>zE [0,1,3,4,5,6,10,11,12,14,15,16] O V<|fun m b d=>zM 9 O b<|zS (fun m b=>Sl.cell1<|Rd.φ (EntD.rd.star0 13 O b _<|zy (l:=[e]) (j:=0) qG).dv)<|fun bn=>(yF (g:=EntD.cells) (sz:=5) (by':=56) (fun _=>O) (l:=[]) (l':=[(zc [e] 0)]) (all_cons ((zH O<|zH O<|zH O<|zH O<|zH bn zh)) qJ) 8 qF O O O (fun m bc=>Vec.sl<|Own.holds bc 17 _ O) qH V O<|fun ay=>zE [0,1,3,4,5,6,10,11,12,14,15,16] O V<|fun m b d=>zD 10 O (zY O) d<|zD 11 O (zL (o:=18) O) d<|zM 12 O b<|zS (fun m b=>Own.qa (i:=8) O b)<|fun bo=>(zi 2 O O O bo O<|zE [0,1,3,4,5,6,10,11,12,14,15,16] O V<|fun m b d=>zX<|(?_:C _ _ _ _ _ _ _ (Own w S [_,_,_,_,_,_,_,_,_,_,_,_,_,_,_,_,_,_])) _ b))
   refine zd [1,3,4,5,6,8,11,12,14,15,16,17] O V qF<|fun m b d=>zD 0 O (zZ 0 (v:=pt nb) O O O) d<|zD 1 O (zZ 0 (v:=pt nb) O O O) d<|zD 2 O (zY O) d<|zD 3 O (zL (o:=0) O) d<|zD 4 O (zL (o:=2) O) d<|zD 6 O (zEF (va:=[]) (vb:=[pt b7,pt u,pt b1,pt b9]) O O) d<|zM 5 O b<|zJ 2 (v:=av) O O O O<|zE [1,3,4,5,6,8,11,12,14,15,16,17] O V<|fun m b d=>zM 7 O b<|zG O O<|fun m b=>(zLy nb cb gb lk stb st av av ov ay aa tv [] a e r b7 u b1 b9 m (Nat.zero_le _) ha (hp.trans (congrArg EntA.index hΦ.1.2.2).symm) (ht.trans (congrArg EntA.term hΦ.1.2.2).symm) ((hW _ _ _ _ _ _ hΦ.2.2).1) ((hW _ _ _ _ _ _ hΦ.2.2).2)<|b.give [0,14,12,16,1,15,2,10] O V).mono ?_
   rintro bd w1 ⟨_,bf,b0,rfl,hO⟩
   refine(?_:CL _ _ _ _ _ _ (Own w S [_,_,_,_,_,_,_,_,_,_,_,_,_,_,_,_,_,_,_])) w1<|b.qc [0,14,12,16,1,15,2,10] O hO
   refine zE [14,0,1,2,3,5,7,12,11,15,13,9] O V<|fun m b d=>zD 8 O (zY O) d<|zD 9 O (zL (o:=0) O) d<|zD 10 O (zL (o:=2) O) d<|zM 11 O b<|zS (fun m b=>Own.qa (i:=10) O b)<|fun bp=>(zi 16 O O O bp O<|zE [14,0,1,2,3,5,7,12,11,15,13,9] O V<|fun m b d=>zX (⟨bd,ay,bf,b0,[],[e],s',[({dst:=a.edge,dv:=b0,data:=({seq:=a.seq,retry:=false,lead:=0,reply:=r,most:=0,lent:=0}:TldD).enc}:SndD)],({seq:=a.seq,retry:=false,lead:=0,reply:=r,most:=0,lent:=0}:TldD).enc,r,a0,⟨O,O,O,trivial⟩,(.inr ⟨hΦ.1.2.1,e,⟨⟨⟨O,O⟩,hΦ.1.2.2⟩,O,O⟩,hΦ.2.1,hΦ.2.2⟩),(b.sel [10,14,16,0,1,2,3,4,5,8,17,18] O V),(by have q1:=hΦ.1.2.1;have q2:=h0.2.2.1;rw[q2];omega)⟩))
  refine zo 8 O b<|yH (e:=113) (sz:=5) (vs:=[.agg (EntD.cells<|zc [e] 0).toArray]) qF O O qS V O<|fun bw=>zE [0,1,3,4,5,6,10,11,12,14,15,16] O V<|fun m b d=>zM 4 O b<|zJ 2 (v:=fv) O O O O<|zE [0,1,3,4,5,6,10,11,12,14,15,16] O V<|fun m b d=>zM 9 O b<|zS (fun m b=>Sl.cell1<|Rd.φ (EntD.rd.star0 13 O b _<|zy (l:=[e]) (j:=0) qG).dv)<|fun bq=>(yF (g:=EntD.cells) (sz:=5) (by':=56) (fun _=>O) (l:=[]) (l':=[(zc [e] 0)]) (all_cons ((zH O<|zH O<|zH O<|zH O<|zH bq zh)) qJ) 8 qF O O O (fun m bc=>Vec.sl<|Own.holds bc 17 _ O) qH V O<|fun ay=>zE [0,1,3,4,5,6,10,11,12,14,15,16] O V<|fun m b d=>zD 10 O (zY O) d<|zD 11 O (zL (o:=18) O) d<|zM 12 O b<|zS (fun m b=>Own.qa (i:=8) O b)<|fun br=>(zi 2 O O O br O<|zE [0,1,3,4,5,6,10,11,12,14,15,16] O V<|fun m b d=>zX<|(?_:C _ _ _ _ _ _ _ (Own w S [_,_,_,_,_,_,_,_,_,_,_,_,_,_,_,_,_,_])) _ b))
  refine zd [1,3,4,5,6,8,11,12,14,15,16,17] O V qF<|fun m b d=>zD 0 O (zZ 0 (v:=pt nb) O O O) d<|zD 1 O (zZ 0 (v:=pt nb) O O O) d<|zD 2 O (zY O) d<|zD 3 O (zL (o:=0) O) d<|zD 4 O (zL (o:=2) O) d<|zD 6 O (zEF (va:=[]) (vb:=[pt b7,pt u,pt b1,pt b9]) O O) d<|zM 5 O b<|zJ 2 (v:=av) O O O O<|zE [1,3,4,5,6,8,11,12,14,15,16,17] O V<|fun m b d=>zM 7 O b<|zG O O<|fun m b=>(zLy nb cb gb lk stb st av av ov ay aa tv [] a e r b7 u b1 b9 m (Nat.zero_le _) ha (hp.trans (congrArg EntA.index hΦ.1.2.2).symm) (ht.trans (congrArg EntA.term hΦ.1.2.2).symm) ((hW _ _ _ _ _ _ hΦ.2.2).1) ((hW _ _ _ _ _ _ hΦ.2.2).2)<|b.give [0,14,12,16,1,15,2,10] O V).mono ?_
  rintro bg w1 ⟨_,bh,b3,rfl,hO⟩
  refine(?_:CL _ _ _ _ _ _ (Own w S [_,_,_,_,_,_,_,_,_,_,_,_,_,_,_,_,_,_,_])) w1<|b.qc [0,14,12,16,1,15,2,10] O hO
  refine zE [14,0,1,2,3,5,7,12,11,15,13,9] O V<|fun m b d=>zD 8 O (zY O) d<|zD 9 O (zL (o:=0) O) d<|zD 10 O (zL (o:=2) O) d<|zM 11 O b<|zS (fun m b=>Own.qa (i:=10) O b)<|fun bi=>(zi 16 O O O bi O<|zE [14,0,1,2,3,5,7,12,11,15,13,9] O V<|fun m b d=>zX (⟨bg,ay,bh,b3,[],[e],s',[({dst:=a.edge,dv:=b3,data:=({seq:=a.seq,retry:=false,lead:=0,reply:=r,most:=0,lent:=0}:TldD).enc}:SndD)],({seq:=a.seq,retry:=false,lead:=0,reply:=r,most:=0,lent:=0}:TldD).enc,r,a0,⟨O,O,O,trivial⟩,(.inr ⟨hΦ.1.2.1,e,⟨⟨⟨O,O⟩,hΦ.1.2.2⟩,O,O⟩,hΦ.2.1,hΦ.2.2⟩),(b.sel [10,14,16,0,1,2,3,4,5,8,17,18] O V),(by have q1:=hΦ.1.2.1;have q2:=h0.2.2.1;rw[q2];omega)⟩))
 have h1:s2.idx=s.idx+1∧∃ e:EntD,(((wl=[]∧es=[e])∧e.toEntA=E)∧td=[({dst:=a.edge,dv:=rv,data:=({seq:=a.seq,retry:=false,lead:=0,reply:=r,most:=0,lent:=0}:TldD).enc}:SndD)]∧bs=({seq:=a.seq,retry:=false,lead:=0,reply:=r,most:=0,lent:=0}:TldD).enc)∧s2.a.now=ye s.a.now E.delta∧DoK (ye s.a.now E.delta) s.a.cnt s.a.kb (yX s.a.now E.delta s.a.kl) s.a.kr c r a0 s2.a.cnt s2.a.kb s2.a.kl s2.a.kr:=by rcases hΦ with⟨_,_,q,_⟩|q;(rw[q]at c1;omega);exact q
 obtain⟨bx,e,⟨⟨⟨bz,c0⟩,c4⟩,c5,c6⟩,bt,hD⟩:=h1
 subst bz
 refine zw O<|zd [1,3,4,5,7,9,10,11] O V qF<|fun m b d=>zD 0 O (zZ 0 (v:=pt nb) O O O) d<|zD 1 O (zZ 0 (v:=pt nb) O O O) d<|zD 2 O (zY O) d<|zD 3 O (zL (o:=0) O) d<|zD 4 O (zL (o:=2) O) d<|zD 6 O (zEF (va:=[]) (vb:=[pt b1]) O O) d<|zM 5 O b<|zJ 2 (v:=av) O O O O<|zE [1,3,4,5,7,9,10,11] O V<|fun m b d=>zM 7 O b<|zG O O<|fun m b=>((zFj av b1 m<|b.give [0] O V).mono ?_)
 rintro bj w1 ⟨_,rfl,hO⟩
 refine(?_:CL _ _ _ _ _ _ (Own w S [_,_,_,_,_,_,_,_,_,_,_,_])) w1<|b.qc [0] O hO
 refine zE [0,2,3,4,6,8,9,10] O V<|fun m b d=>zD 8 O (zY O) d<|zD 9 O (zL (o:=0) O) d<|zD 10 O (zL (o:=2) O) d<|zM 11 O b<|zS (fun m b=>Own.qa (i:=11) O b)<|fun bk=>(zi 1 O O O bk O<|zE [0,2,3,4,6,8,9,10] O V<|fun m b d=>zX<|(yq O<|fun m b=>⟨bj,fv,tv,rv,e,s2,r,a0,O,c4,bx,bt,hD,(by subst c0 c5 c6;exact b.sel [1,11,2,10,6,7,8,9] rfl V)⟩) _ b)
end Go.Proofs.YthpoddkmhfhboaaGreatDoor
