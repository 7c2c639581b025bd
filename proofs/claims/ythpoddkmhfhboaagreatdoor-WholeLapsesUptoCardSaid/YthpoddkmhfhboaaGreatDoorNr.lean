import Derived.Test.YthpoddkmhfhboaaGreatDoorSto
import Derived.Test.YthpoddkmhfhboaaGreatDoorEdU
set_option linter.unusedSimpArgs false
set_option linter.unusedVariables false
set_option maxRecDepth 10000
namespace Go.Proofs.YthpoddkmhfhboaaGreatDoor
open Go.Sc
structure SndD where
 dst:Int
 dv:Value
 data:List UInt8
 deriving Inhabited
def SndD.cells(x:SndD):List Value:=[Vi x.dst,x.dv]
structure WaiD where
 edge:Int
 seq:Nat
 key:ByteArray
 place:Nat
 term:Nat
 look:Nat
 ready:Bool
 deriving Inhabited
def WaiD.cells(x:WaiD):List Value:=[Vi x.edge,Vn x.seq, .string x.key,Vn x.place,Vn x.term,Vn x.look, .bool x.ready]
theorem zNH(x:TldD)(w:World)(b:x.wf)(ho:x.ok):Rets Tryz.prog 254 #[.agg (TldD.cells x).toArray] w fun c d=>∃ (r:Value),c= .tuple #[r,Vi 0]∧Own w [] [vY r x.enc] d:=by
 refine(zKD x w b).mono ?_
 rintro _ e ⟨r,rfl,a⟩
 rw[if_pos ho]at a
 exact⟨r,by rw[xp ho],a⟩
theorem zR2{S:List Nat}(nb cb gb p stb:Nat)(st:SetD)(av ov fv c:Value)(td:List SndD)(edge:Int)(t:TldD)(w:World)(hx:t.wf)(ho:t.ok)(q:td.length≤1000)(k:Own w S [Res.row nb 122 [pt cb,pt gb,av,Vn p,pt stb,Vi st.nodes,Vi st.voters,Vi st.edges,Vi st.rho,Vi st.base,Vi st.spread,Vi st.beat,Vi st.disk,Vi st.post,Vi st.keep, .bool false,ov,c,fv],Res.vec 199 2 c td.length (td.flatMap SndD.cells)] w):Rets Tryz.prog 136 #[pt nb,Vi edge, .agg (TldD.cells t).toArray] w fun s d=>∃ (tv r:Value),s= .tuple #[]∧Own w S [Res.row nb 122 [pt cb,pt gb,av,Vn p,pt stb,Vi st.nodes,Vi st.voters,Vi st.edges,Vi st.rho,Vi st.base,Vi st.spread,Vi st.beat,Vi st.disk,Vi st.post,Vi st.keep, .bool false,ov,tv,fv],Res.vec 199 2 tv (td++[({dst:=edge,dv:=r,data:=t.enc}:SndD)]).length ((td++[({dst:=edge,dv:=r,data:=t.enc}:SndD)]).flatMap SndD.cells),vY r t.enc] d:=by
 refine zO Tryz.func136 O Tryz.ntmps136 k<|zB<|zj O O<|fun b5=>zA<|zB<|z6 (cs:=(TldD.cells t)) 2 O O O<|zG O O<|fun d h=>(zNH t d ‹_› ‹_›).mono ?_
 rintro _ u ⟨a,rfl,x⟩
 refine(?_:CL _ _ _ _ _ _ (Own w S [_,_,_,_])) u<|h.qb x
 refine zC O<|zb (vs:=[a,Vi 0]) O O O<|zb (vs:=[a,Vi 0]) O O O<|zF O<|zF O<|zA<|ze<|zC O<|zC O<|zV O O<|zI (o:=17) O O<|zJ 0 (v:=c) O O O O<|zC O<|zC O<|zS (fun d h=>Own.qa (i:=3) O h)<|fun b=>(xP (cs:=[Vi edge,a]) (z:=[Vi 0, .slice none 0 0]) (pl:=[(0,1),(1,1)]) qF ⟨O,b,trivial⟩ qF O<|yH (e:=199) (sz:=2) (vs:=[.agg #[Vi edge,a]]) qF O O (by simp[Value.cells,SndD.cells]) V O<|fun y=>yF (g:=SndD.cells) (sz:=2) (by':=32) (fun _=>O) (l:=td) (l':=[({dst:=edge,dv:=a,data:=t.enc}:SndD)]) (all_cons ((zH O<|zH b zh)) qJ) 1 qF O O O (fun d m=>Vec.sl<|Own.holds m 4 _ O) qH V O<|fun n=>zV O O<|zI (o:=17) O O<|zS (fun d h=>Own.qa (i:=1) O h)<|fun j=>(zi 0 O O O j O<|zx<|yq O<|fun d h=>⟨n,a,O,h.sel [0,1,3] O V⟩))
theorem zQ6{S:List Nat}(cb:Nat)(a:StA)(x:AlD)(w:World)(h:AlI a x)(hl:x.es.length≤1000)(q:Own w S [Res.al cb a x] w):Rets Tryz.prog 252 #[pt cb] w fun s i=>∃ (r:Value) (k:List EntD),s=r∧k.map EntD.toEntA=x.es.map EntD.toEntA∧Own w S [Res.al cb a x,vE r k,sE k] i:=by
 refine zO Tryz.func252 O Tryz.ntmps252 q<|zB<|zF O<|zA<|zB<|zC O<|zG O O<|fun i d=>(zFD cb _ _ i ‹_› qH<|d.give [0] O V).mono ?_
 rintro _ p ⟨j,e,b,rfl,c,m⟩
 have t:b.length=x.es.length:=by have:=congrArg List.length c;simpa using this
 refine fq [0] O d m<|zF O<|zA<|zB<|zC O<|zG O O<|fun i d=>(zRv j 0 0 e b i (d.rdRes0 1 O) (d.qj 2 O)<|EntD.rd.star0 3 O d).mono ?_
 rintro _ p ⟨rfl,m⟩
 refine(?_:CL _ _ _ _ _ _ (Own w S [_,_,_,_])) p<|d.qb m
 refine zC O<|zb (vs:=[Vn 0,Vn 0]) O O O<|zb (vs:=[Vn 0,Vn 0]) O O O<|zF O<|zF O<|zA<|zB<|zC O<|zC O<|zr O O (yz qG) O<|zG O O<|fun i d=>(zE7 j 0 0 e b (0+1) 1073741824 i qH (by have h2:=h.es.good;unfold LG at h2 ⊢;rw[c];exact h2) (d.rdRes0 1 O) (d.qj 2 O)<|EntD.rd.star0 3 O d).mono ?_
 rintro _ p ⟨g,n,o,rfl,l,m⟩
 refine(?_:CL _ _ _ _ _ _ (Own w S [_,_,_,_,_,_])) p<|d.qb m
 refine zC O<|zb (vs:=[g,Vi o]) O O O<|zb (vs:=[g,Vi o]) O O O<|zF O<|zF O<|zA<|zB<|zC O<|zF O<|zA<|zP<|zm (v:=g) O O<|fun i d=>⟨g,n,O,((zGG qG l).trans c),d.sel [0,4,5] O V⟩
theorem zPo{es:List EntD}(h:EsOk es)(hl:es.length≤1000):∀ j,j<es.length→((zc es j).toEntA.ok∧(zc es j).toEntA.wf)∧(zc es j).index=j+1:=fun j c=>by
 have e:zc es j∈es:=zy c
 have d:(zc es j).toEntA∈es.map EntD.toEntA:=List.mem_map_of_mem e
 have a:=folA.ok h.good.fol _ d
 have b:=folA.idx h.good.fol j (by simpa using c)
 rw[jY (by rw[List.getElem?_map,y8 c];rfl)]at b
 have h1:=a.1
 exact⟨⟨a,⟨by omega,by omega,by omega⟩⟩,(show(zc es j).toEntA.index=j+1 from by simpa using b)⟩
theorem nth_map{A B:List EntD}{j:Nat}(a:j<A.length)(b:j<B.length)(h:(A.map EntD.toEntA)[j]?=(B.map EntD.toEntA)[j]?):(zc A j).toEntA=(zc B j).toEntA:=by
 rw[List.getElem?_map,List.getElem?_map,y8 a,y8 b]at h
 exact Option.some.inj h
theorem zK9{A B:List EntD}{N:List EntA}(h:B.map EntD.toEntA=A.map EntD.toEntA++N)(j:Nat)(b:j<A.length):j<B.length∧(zc A j).term=(zc B j).term:=by
 have c:B.length=A.length+N.length:=by have:=congrArg List.length h;simpa using this
 have a:j<B.length:=by omega
 have e:=nth_map b a (by rw[h,List.getElem?_append_left (by simpa using b)])
 exact⟨a,congrArg EntA.term e⟩
theorem zPI{es es':List EntD}(h:EsOk es)(hl:es.length≤1000)(b:es'.map EntD.toEntA=es.map EntD.toEntA){k:Nat}(l:es'.length=k+1):∀ e∈es'.drop k,(e.toEntA.ok∧e.toEntA.wf)∧e.index=0+1+k:=fun e d=>by
 have c:es'.length=es.length:=by have:=congrArg List.length b;simpa using this
 obtain⟨i,hi⟩:=List.mem_iff_getElem?.1 d
 rw[List.getElem?_drop]at hi
 have f:=(List.getElem?_eq_some_iff.1 hi).1
 have g:i=0:=by omega
 subst g
 have e1:zc es' k=e:=jY hi
 have e2:=nth_map (A:=es') (B:=es) (j:=k) qG qG (by rw[b])
 rw[e1]at e2
 have a:=zPo h hl k qG
 rw[←e2]at a
 exact⟨a.1,by have m:=a.2;have n:e.index=(zc es k).index:=congrArg EntA.index e2;omega⟩
theorem zSF(r s:HrdD):eqL [(0,some (some .u64)),(1,some (some .i64))] r.cells s.cells=decide (r=s):=by
 obtain⟨a,b⟩:=r
 obtain⟨c,d⟩:=s
 simp[eqL,HrdD.cells,eqC,HrdD.mk.injEq,Bool.decide_and]
 have h:∀ m n:Nat,decide ((m:Int)=n)=decide (m=n):=fun m n=>decide_eq_decide.2 qG
 simp only[h]
theorem StoOk.mono{s:StoD}{c m c' m':Nat}(h:StoOk s c m)(h1:c≤c')(h2:m≤m'):StoOk s c' m':=⟨h.W,h.D,h.room,Nat.le_trans h.tot h1,Nat.le_trans h.len h2,h.hh,h.vs,h.es,h.fin⟩
theorem zGz{S:List Nat}(nb cb gb lk stb:Nat)(st:SetD)(av ov tv fv:Value)(a2:Nat)(a:StA)(x:AlD)(k:Nat)(y:CqD)(s:StoD)(c m:Nat)(N:List EntA)(w:World)(h:AlL a x k)(hy:y.b.vs=[1])(hs:StoOk s c m)(hh:(y.t.term=1∧y.t.ql=1)∨s.hh=false)(hN:x.es.map EntD.toEntA=s.es.map EntD.toEntA++N)(bh:N.length≤1)(hl:s.es.length≤900)(b6:N=[]∨s.es.length<98∨jP (s.es.map EntD.toEntA)<512)(hc:c+6200≤1048576)(hm:m+2<4000)(b7:Own w S [Res.row nb 122 [pt cb,pt gb,av,Vn lk,pt stb,Vi st.nodes,Vi st.voters,Vi st.edges,Vi st.rho,Vi st.base,Vi st.spread,Vi st.beat,Vi st.disk,Vi st.post,Vi st.keep, .bool false,ov,tv,fv],Res.al cb a x,Res.cq a2 a y,Res.sto stb s] w):Rets Tryz.prog 135 #[pt nb,pt a2] w fun u_ u=>∃ (s':StoD),u_=Vi 0∧StoOk s' (c+6100) (m+2)∧s'.es.map EntD.toEntA=x.es.map EntD.toEntA∧(N=[]→(y.t.term=1∧y.t.ql=1)→StoOk s' c m)∧Own w S [Res.row nb 122 [pt cb,pt gb,av,Vn lk,pt stb,Vi st.nodes,Vi st.voters,Vi st.edges,Vi st.rho,Vi st.base,Vi st.spread,Vi st.beat,Vi st.disk,Vi st.post,Vi st.keep, .bool false,ov,tv,fv],Res.al cb a x,Res.cq a2 a y,Res.sto stb s'] u:=by
 have hi:=h.toAlI
 have bi:x.es.length=s.es.length+N.length:=by have:=congrArg List.length hN;simpa using this
 have a9:=h.hard
 refine zO Tryz.func135 O Tryz.ntmps135 b7<|zB<|zF O<|zA<|zB<|zC O<|zG O O<|fun u e=>(zKo a2 _ _ u<|e.give [2] O V).mono ?_
 rintro _ w1 ⟨rfl,hO⟩
 refine fq [2] O e hO<|zC O<|zb (vs:=[.agg #[Vn y.t.term,Vi y.t.ql],Vi y.r.qm,Vi y.r.who,Vn y.r.qf]) O O O<|zb (vs:=[.agg #[Vn y.t.term,Vi y.t.ql],Vi y.r.qm,Vi y.r.who,Vn y.r.qf]) O O O<|zb (vs:=[.agg #[Vn y.t.term,Vi y.t.ql],Vi y.r.qm,Vi y.r.who,Vn y.r.qf]) O O O<|zb (vs:=[.agg #[Vn y.t.term,Vi y.t.ql],Vi y.r.qm,Vi y.r.who,Vn y.r.qf]) O O O<|zk (v:= .agg #[Vn 0,Vi 0]) qF O<|fun b5=>zf 4 O O O (zz O) O<|zF O<|zF O<|zF O<|zA<|zB<|zC O<|zV O O<|zI (o:=0) O O<|zI (o:=0) O O<|zJ 0 (v:=pt cb) O O O O<|zG O O<|fun u e=>(zAY cb _ _ u<|e.give [1] O V).mono ?_
 rintro _ w1 ⟨rfl,hO⟩
 refine fq [1] O e hO<|zC O<|zb (vs:=[.agg #[Vn x.t.term,Vi x.t.ql],Vi x.r.qm,Vi x.r.who,Vn x.r.qf]) O O O<|zb (vs:=[.agg #[Vn x.t.term,Vi x.t.ql],Vi x.r.qm,Vi x.r.who,Vn x.r.qf]) O O O<|zb (vs:=[.agg #[Vn x.t.term,Vi x.t.ql],Vi x.r.qm,Vi x.r.who,Vn x.r.qf]) O O O<|zb (vs:=[.agg #[Vn x.t.term,Vi x.t.ql],Vi x.r.qm,Vi x.r.who,Vn x.r.qf]) O O O<|zk (v:= .agg #[Vn 0,Vi 0]) qF O<|fun b9=>zf 5 O O O (zz O) O<|zF O<|zF O<|zF O<|zA<|jf (fun(s1:StoD)=>[(0,pt nb),(1,pt a2)]) (fun(s1:StoD)=>(StoOk s1 (c+30) (m+1)∧s1.es=s.es)∧((y.t.term=1∧y.t.ql=1)→StoOk s1 c m)) (fun(s1:StoD)=>[Res.row nb 122 [pt cb,pt gb,av,Vn lk,pt stb,Vi st.nodes,Vi st.voters,Vi st.edges,Vi st.rho,Vi st.base,Vi st.spread,Vi st.beat,Vi st.disk,Vi st.post,Vi st.keep, .bool false,ov,tv,fv],Res.al cb a x,Res.cq a2 a y,Res.sto stb s1]) ?_<|fun s1 g hΦ=> ?_
 ·refine zB<|z6 (cs:=[Vn y.t.term,Vi y.t.ql]) 3 O O O<|z6 (cs:=[Vn x.t.term,Vi x.t.ql]) 5 O O O<|yN O (zTK (zSF ({term:=y.t.term,ql:=y.t.ql}:HrdD) ({term:=x.t.term,ql:=x.t.ql}:HrdD)) qF qF O O O O)<|zA<|zT O (fun c1=> ?_)<|fun c1=> ?_
  ·have b8:s.hh=false:=hh.resolve_left (fun q=>c1 (by rw[q.1,q.2,a9.1,a9.2]))
   refine zK<|zd [0,2,3,4,5] O V qF<|fun u e p=>zD 0 O za p<|zD 1 O (zY O) p<|zD 2 O (zL (o:=4) O) p<|zD 3 O (zZ 0 (v:=pt stb) O O O) p<|zD 4 O (xG (cs:=[Vn x.t.term,Vi x.t.ql]) 4 O O) p<|zM 5 O e<|zG O O<|fun u e=>(zFt stb _ _ _ ({term:=x.t.term,ql:=x.t.ql}:HrdD) u hs b8 (by show 0≤x.t.ql∧x.t.ql≤16;omega) qI qH qH<|e.give [1] O V).mono ?_
   rintro _ w1 ⟨an,rfl,ag,ao,ap,a6,aq,hO⟩
   refine fq [1] O e hO<|zE [0,1,2,3,4] O V<|fun u e p=>zD 6 O yB p<|zX<|(?_:C _ _ _ _ _ _ _ (Own w S [_,_,_,_,_,_])) _ e
   refine zB<|zC O<|yf O O O<|zA<|zT O (fun c2=> ?_)<|fun c2=> ?_
   ·exact absurd O c2
   exact x4<|fun u e=>⟨an,⟨O,O,trivial⟩,⟨⟨ag,a6⟩,fun q=>absurd (show _=_ by rw[q.1,q.2,a9.1,a9.2]) c1⟩,e.sel [0,3,1,5] O V⟩
  exact x4<|fun u e=>⟨s,⟨O,O,trivial⟩,⟨⟨hs.mono qG qG,O⟩,fun _=>hs⟩,e.sel [0,4,2,1] O V⟩
 have ar:=hΦ.1.1
 have a3:=hΦ.1.2
 have ba:=hΦ.2
 refine zB<|zC O<|zV O O<|zI (o:=0) O O<|zI (o:=0) O O<|zJ 0 (v:=pt cb) O O O O<|zG O O<|fun u e=>(zIi cb _ _ u ‹_› (e.give [1] O V)).mono ?_
 rintro _ w1 ⟨ad,ae,af,rfl,hO⟩
 refine fq [1] O e hO<|zk (v:= .agg #[Vn 0,Vn 0, .slice none 0 0, .slice none 0 0, .slice none 0 0]) qF O<|fun au=>(zS (fun u e=>Own.qa (i:=4) O e)<|fun aw=>(zS (fun u e=>Own.qa (i:=5) O e)<|fun ax=>(zS (fun u e=>Own.qa (i:=6) O e)<|fun ay=>(zf 7 O O O (zH O<|zH O<|zH aw<|zH ax<|zH ay zh) O<|zA<|zK<|zK<|zd [0,1,2,3,4,5,6,7] O V qF<|fun u e p=>zD 0 O (zL (o:=0) O) p<|zD 1 O (zZ 7 (v:=Vn 0) O O O) p<|zD 2 O za p<|zM 3 O e<|zG O O<|fun u e=>(zPR a2 _ _ u qK<|e.give [1] O V).mono ?_))))
 rintro _ w1 ⟨az,b0,b1,rfl,hO⟩
 refine fq [1] O e hO<|zE [0,7,1,2,3,4,5,6] O V<|fun u e p=>zD 4 O (zDh (o:=0) (v:=Vn 0) O qF O) p<|zD 5 O (zGC O O) p<|zX<|(?_:C _ _ _ _ _ _ _ (Own w S [_,_,_,_,_,_,_,_,_,_,_])) _ e
 refine zT O (fun c3=> ?_)<|fun c3=> ?_
 ·exact absurd O c3
 refine zN<|zK<|zd [0,1,2,3,4,5,6,7,8,9,10] O V qF<|fun u e p=>zD 0 O za p<|zD 1 O (zY O) p<|zD 2 O (zL (o:=4) O) p<|zD 3 O (zZ 0 (v:=pt stb) O O O) p<|zD 6 O za p<|zD 7 O (zY O) p<|zD 8 O (zL (o:=0) O) p<|zD 9 O (zL (o:=0) O) p<|zD 10 O (zZ 0 (v:=pt cb) O O O) p<|zM 4 O e<|zG O O<|fun u e=>(zKp stb s1 _ _ u ‹_› (by rw[a3];omega)<|e.give [1] O V).mono ?_
 rintro _ w1 ⟨bd,bf,bg,z,n,rfl,aa,hO⟩
 have b2:n.map EntD.toEntA=s.es.map EntD.toEntA:=aa.trans (by rw[a3])
 have bj:n.length=s.es.length:=by have:=congrArg List.length b2;simpa using this
 refine fq [1] O e hO<|zE [0,10,1,2,3,4,5,6,7,8,9] O V<|fun u e p=>zD 5 O (zDh (o:=7) (v:=z) O qF O) p<|zM 11 O e<|zG O O<|fun u e=>(zQ6 cb _ _ u ‹_› qH<|e.give [1] O V).mono ?_
 rintro a5 w1 ⟨_,d,rfl,a7,hO⟩
 have ab:d.map EntD.toEntA=x.es.map EntD.toEntA:=a7
 have bk:d.length=s.es.length+N.length:=by have:=congrArg List.length (ab.trans hN);simpa using this
 have b3:=zK9 (A:=n) (ab.trans (hN.trans (by rw[b2])))
 refine fq [1] O e hO<|zE [0,9,12,1,2,3,4,5,6,7,8] O V<|fun u e p=>zD 12 O yB p<|zD 13 O yB p<|zX<|(?_:C _ _ _ _ _ _ _ (Own w S [_,_,_,_,_,_,_,_,_,_,_,_,_,_,_])) _ e
 refine zB<|zF O<|zA<|zK<|zU<|yQ (fun(k:Nat)=>[(0,pt nb),(14,pt au),(17,z),(18,a5),(19,Vj k)]) (fun(k:Nat)=>k≤s.es.length) (fun(k:Nat)=>[Res.row nb 122 [pt cb,pt gb,av,Vn lk,pt stb,Vi st.nodes,Vi st.voters,Vi st.edges,Vi st.rho,Vi st.base,Vi st.spread,Vi st.beat,Vi st.disk,Vi st.post,Vi st.keep, .bool false,ov,tv,fv],vI ad x.b.vs,vI ae ([]:List Int),vY af ([]:List UInt8),Res.row au 180 [Vn 0,Vn 0,ad,ae,af],Res.cq a2 a y,vI az y.b.vs,vI b0 ([]:List Int),vY b1 ([]:List UInt8),Res.sto stb s1,vE z n,sE n,Res.al cb a x,vE a5 d,sE d]) (fun(k:Nat)=>s.es.length - k) (fun u e=>⟨0,⟨O,O,O,O,O,trivial⟩,Nat.zero_le _,e⟩)<|fun k g hΦ=>(zK<|yd qF qF<|zR O (za)<|zR O (za)<|zR O (kY (pV 10 O) O)<|zR O (zIQ O O)<|zR O (za)<|zCf (q:=((k:Nat):Int)<((n.length:Nat):Int)) 4 4 [104,103,102,101] (((k:Nat):Int)<((d.length:Nat):Int)) O O O O O O trivial O (fun a0=> ?_)<|fun bb=> ?_)
 ·refine yU O (gT a0)<|zR O (za)<|yU O (gT a0)<|zR O (za)<|yU O (gT a0)<|zR O (kY (pV 13 O) O)<|yU O (gT a0)<|zR O (zIQ O O)<|zCx O
 refine zR O (za)<|zCf (q:=(((k:Nat):Int)<((n.length:Nat):Int))∧(((k:Nat):Int)<((d.length:Nat):Int))) 11 10 [117,116,115,114,113,112,111,110,109,108,107] ((((zc n k).term:Nat):Int)=(((zc d k).term:Nat):Int)) O O O O O O trivial O (fun j=> ?_)<|fun b4=> ?_
 ·refine yU O (gT j)<|zR O (za)<|yU O (gT j)<|zR O (za)<|yU O (gT j)<|zR O (kN (pV 10 O) 5 k O O O qG)<|yU O (gT j)<|zR O (zL (o:=1) O)<|yU O (gT j)<|zR O (zA8 (pV 10 O) 5 k 1 (off:=yr z+k*5+1) (fun _=>O) O qP qG O)<|yU O (gT j)<|zR O (za)<|yU O (gT j)<|zR O (za)<|yU O (gT j)<|zR O (kN (pV 13 O) 5 k O O O qG)<|yU O (gT j)<|zR O (zL (o:=1) O)<|yU O (gT j)<|zR O (zA8 (pV 13 O) 5 k 1 (off:=yr a5+k*5+1) (fun _=>O) O qP qG O)<|yU O (gT j)<|zR O (zLD O O)<|zCx O
 refine xX<|zT O (fun c4=> ?_)<|fun c4=> ?_
 ·refine zN<|zU<|ze<|zC O<|zr O O (zt qG) O<|zF O<|zx<|fun u e=>⟨k+1,⟨O,O,O,O,O,trivial⟩,qG,e,qG⟩
 have bl:k=s.es.length:=by by_cases q:k<s.es.length;exact absurd ⟨⟨by omega,by have:=(b3 k qG).1;omega⟩,by have:=(b3 k qG).2;omega⟩ c4;omega
 refine zw O<|zK<|zB<|zC O<|zC O<|zn (pV 10 O) O O<|yT O O O<|zC O<|yA (q:=((k:Nat):Int)=((n.length:Nat):Int)) 4 4 [129,128,127,126] (((k:Nat):Int)=((d.length:Nat):Int)) O O O O O O trivial O (fun a1=> ?_)<|fun bc=> ?_
 ·refine zQ O (gT a1)<|zC O<|zQ O (gT a1)<|zC O<|zQ O (gT a1)<|zn (pV 13 O) O O<|zQ O (gT a1)<|yT O O O<|z8 O<|fun _ e=>e
 refine zA<|zT O (fun c5=> ?_)<|fun c5=> ?_
 ·refine zB<|zF O<|zA<|zP<|zm (v:=Vi 0) O O<|fun u e=>⟨s1,O,(ar.mono qG qG),(by rw[a3,hN,List.eq_nil_of_length_eq_zero (show N.length=0 by omega),List.append_nil]),(fun _=>ba),e.sel [0,12,5,9] O V⟩
 have ac:N.length=1:=by omega
 refine zN<|zK<|zd [0,1,2,3,4,5,6,7,8,10,12,13] O V qF<|fun u e p=>zD 0 O za p<|zD 1 O (zY O) p<|zD 2 O (zL (o:=4) O) p<|zD 3 O (zZ 0 (v:=pt stb) O O O) p<|zD 4 O (zL (o:=0) O) p<|zD 5 O (zZ 4 (v:=Vn 0) O O O) p<|zD 6 O (xN O O<|yz qG) p<|zD 7 O za p<|zD 8 O (kQ qF O (yz qG) qF) p<|zD 9 O (xN O O<|yz qG) p<|zD 10 O za p<|zD 11 O za p<|zD 12 O (zAr (pV 11 O) 5 k d.length qF O ⟨_,O⟩ O qG qG) p<|zM 13 O e<|zG O O<|fun u e=>(zG9 stb s1 _ _ ((0+1)+k) (xj a5 k d.length 5) (d.drop k) u ar (by rw[List.length_drop];omega) (by rw[a3];omega) (zPI hi.es qG ab qG) (by rw[a3];exact hl) (by rw[a3];rcases b6 with q|q;rw[q]at ac;cases ac;exact q) qH qH (e.give [9] O V) (Rd.dropL_f (g:=EntD.cells) (xs:=d) (sz:=5) (fun _=>O) (e.rdVec 13 O [9] O O) (l:=k) qG)<|jk<|EntD.rd.star 14 O [9] O O e).mono ?_
 rintro _ w1 ⟨ah,rfl,a8,ai,aj,a4,ak,am,hO⟩
 refine fq [9] O e hO<|zE [0,1,2,3,4,5,6,7,8,9,11,12] O V<|fun u e p=>zD 14 O yB p<|zX<|(?_:C _ _ _ _ _ _ _ (Own w S [_,_,_,_,_,_,_,_,_,_,_,_,_,_,_])) _ e
 exact zP<|zm (v:=Vi 0) O O<|fun u e=>⟨ah,O,((a8).mono qG qG),(by rw[a4,a3,List.map_drop,ab,hN,List.drop_append_of_le_length qN,List.drop_of_length_le qN,List.nil_append]),(fun q=>by rw[q]at ac;cases ac),e.sel [0,11,5,14] O V⟩
abbrev x5(v:Value)(l:List WaiD):Res:=Res.vec 296 7 v l.length (l.flatMap WaiD.cells)
abbrev ySv(v:Value)(l:List SndD):Res:=Res.vec 199 2 v l.length (l.flatMap SndD.cells)
end Go.Proofs.YthpoddkmhfhboaaGreatDoor
