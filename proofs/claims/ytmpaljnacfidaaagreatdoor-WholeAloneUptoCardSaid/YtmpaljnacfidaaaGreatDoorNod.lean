import Derived.Test.YtmpaljnacfidaaaGreatDoorPst
import Derived.Test.YtmpaljnacfidaaaGreatDoorWlP
import Derived.Test.YtmpaljnacfidaaaGreatDoorSto
import Derived.Test.YtmpaljnacfidaaaGreatDoorWlC
import Derived.Test.YtmpaljnacfidaaaGreatDoorIn
import Derived.Test.YtmpaljnacfidaaaGreatDoorFw3
set_option linter.unusedSectionVars false
set_option linter.unusedSimpArgs false
set_option linter.unusedVariables false
set_option maxRecDepth 10000
namespace Go.Proofs.YtmpaljnacfidaaaGreatDoor
open Go Go.Sc Go.Proofs
structure SndD where
  dst:Int
  dv:Value
  data:List UInt8
  deriving Inhabited
def SndD.cells(x:SndD):List Value:=[Vi x.dst,x.dv]
structure WaiD where
  edge:Int
  seq:Nat
  key:ByteArray
  place:Nat
  term:Nat
  look:Nat
  ready:Bool
  deriving Inhabited
def WaiD.cells(x:WaiD):List Value:=[Vi x.edge,Vn x.seq, .string x.key,Vn x.place,Vn x.term,Vn x.look, .bool x.ready]
theorem zNN(x:TldD)(w:World)(b:x.wf)(ho:x.ok):Rets Tryz.prog 289 #[.agg (TldD.cells x).toArray] w fun c d=>∃ (r:Value),c= .tuple #[r,Vi 0]∧Own w [] [vY r x.enc] d:=by
  refine(zJC x w b).mono ?_
  rintro _ e ⟨r,rfl,a⟩
  rw[if_pos ho]at a
  exact⟨r,by rw[xe ho],a⟩
theorem zRF{S:List Nat}(nb cb gb p stb:Nat)(st:SetD)(av ov fv c:Value)(td:List SndD)(edge:Int)(t:TldD)(w:World)(hx:t.wf)(ho:t.ok)(q:td.length≤1000)(k:Own w S [Res.row nb 139 [pt cb,pt gb,av,Vn p,pt stb,Vi st.nodes,Vi st.voters,Vi st.edges,Vi st.rho,Vi st.base,Vi st.spread,Vi st.beat,Vi st.disk,Vi st.post,Vi st.keep,zu,ov,c,fv],Res.vec 230 2 c td.length (td.flatMap SndD.cells)] w):Rets Tryz.prog 165 #[pt nb,Vi edge, .agg (TldD.cells t).toArray] w fun s d=>∃ (tv r:Value),s= .tuple #[]∧Own w S [Res.row nb 139 [pt cb,pt gb,av,Vn p,pt stb,Vi st.nodes,Vi st.voters,Vi st.edges,Vi st.rho,Vi st.base,Vi st.spread,Vi st.beat,Vi st.disk,Vi st.post,Vi st.keep,zu,ov,tv,fv],Res.vec 230 2 tv (td++[({dst:=edge,dv:=r,data:=t.enc}:SndD)]).length ((td++[({dst:=edge,dv:=r,data:=t.enc}:SndD)]).flatMap SndD.cells),vY r t.enc] d:=by
  refine zO Tryz.func165 O Tryz.ntmps165 k (zB (zj O O (fun b5=>zA (zB (z1 (cs:=(TldD.cells t)) 2 O O O (zH O O (fun d h=>(zNN t d ‹_› ‹_›).mono ?_)))))))
  rintro _ u ⟨a,rfl,x⟩
  refine(?_:CL _ _ _ _ _ _ (Own w S [_,_,_,_])) u (h.qb x)
  refine zC O (zb (vs:=[a,Vi 0]) O O O (zb (vs:=[a,Vi 0]) O O O (zG O (zG O (zA (zd (zC O (zC O (zV O O (zI (o:=17) O O (zJ 0 (v:=c) O O O O (zC O (zC O (zS (fun d h=>Own.qa (i:=3) O h) (fun b=>(xK (cs:=[Vi edge,a]) (z:=[Vi 0,zW]) (pl:=[(0,1),(1,1)]) qD ⟨O,b,trivial⟩ qD O (yC (e:=230) (sz:=2) (vs:=[.agg #[Vi edge,a]]) qD O O (by simp[Value.cells,SndD.cells]) V O (fun y=>yE (g:=SndD.cells) (sz:=2) (by':=32) (fun _=>O) (l:=td) (l':=[({dst:=edge,dv:=a,data:=t.enc}:SndD)]) (all_cons ((zF O (zF b zh))) qH) 1 qD O O O (fun d m=>Vec.sl (Own.holds m 4 _ O)) qF V O (fun n=>zV O O (zI (o:=17) O O (zS (fun d h=>Own.qa (i:=1) O h) (fun j=>(zi 0 O O O j O (zw (yl O (fun d h=>⟨n,a,O,h.sel [0,1,3] O V⟩))))))))))))))))))))))))))
theorem zQO{S:List Nat}(cb:Nat)(a:StA)(x:AlD)(w:World)(h:AlI a x)(hl:x.es.length≤1000)(q:Own w S [Res.al cb a x] w):Rets Tryz.prog 287 #[pt cb] w fun s i=>∃ (r:Value) (k:List EntD),s=r∧k.map EntD.toEntA=x.es.map EntD.toEntA∧Own w S [Res.al cb a x,vE r k,sE k] i:=by
  refine zO Tryz.func287 O Tryz.ntmps287 q (zB (zG O (zA (zB (zC O (zH O O (fun i d=>(zG2 cb _ _ i ‹_› qF (d.give [0] O V)).mono ?_)))))))
  rintro _ p ⟨j,e,b,rfl,c,m⟩
  have t:b.length=x.es.length:=by have:=congrArg List.length c;simpa using this
  refine fq [0] O d m (zG O (zA (zB (zC O (zH O O (fun i d=>(zPy j 0 0 e b i (d.rdRes0 1 O) (d.qh 2 O) (EntD.rd.star0 3 O d)).mono ?_))))))
  rintro _ p ⟨rfl,m⟩
  refine(?_:CL _ _ _ _ _ _ (Own w S [_,_,_,_])) p (d.qb m)
  refine zC O (zb (vs:=[Vn 0,Vn 0]) O O O (zb (vs:=[Vn 0,Vn 0]) O O O (zG O (zG O (zA (zB (zC O (zC O (zr O O (yp qE) O (zH O O (fun i d=>(zFE j 0 0 e b (0+1) 1073741824 i qF (by have h2:=h.es.good;unfold LG at h2 ⊢;rw[c];exact h2) (d.rdRes0 1 O) (d.qh 2 O) (EntD.rd.star0 3 O d)).mono ?_)))))))))))
  rintro _ p ⟨g,n,o,rfl,l,m⟩
  refine(?_:CL _ _ _ _ _ _ (Own w S [_,_,_,_,_,_])) p (d.qb m)
  refine zC O (zb (vs:=[g,Vi o]) O O O (zb (vs:=[g,Vi o]) O O O (zG O (zG O (zA (zB (zC O (zG O (zA (zP (zn (v:=g) O O (fun i d=>⟨g,n,O,((zFW qE l).trans c),d.sel [0,4,5] O V⟩))))))))))))
theorem zOr{es:List EntD}(h:EsOk es)(hl:es.length≤1000):∀ j,j<es.length→((zf es j).toEntA.ok∧(zf es j).toEntA.wf)∧(zf es j).index=j+1:=fun j c=>by
  have e:zf es j∈es:=zx c
  have d:(zf es j).toEntA∈es.map EntD.toEntA:=List.mem_map_of_mem e
  have a:=folA.ok h.good.fol _ d
  have b:=folA.idx h.good.fol j (by simpa using c)
  rw[jd (by rw[List.getElem?_map,xO c];rfl)]at b
  have h1:=a.1
  exact⟨⟨a,⟨by omega,by omega,by omega⟩⟩,(show(zf es j).toEntA.index=j+1 from by simpa using b)⟩
theorem j2{A B:List EntD}{j:Nat}(a:j<A.length)(b:j<B.length)(h:(A.map EntD.toEntA)[j]?=(B.map EntD.toEntA)[j]?):(zf A j).toEntA=(zf B j).toEntA:=by
  rw[List.getElem?_map,List.getElem?_map,xO a,xO b]at h
  exact Option.some.inj h
theorem zKW{A B:List EntD}{N:List EntA}(h:B.map EntD.toEntA=A.map EntD.toEntA++N)(j:Nat)(b:j<A.length):j<B.length∧(zf A j).term=(zf B j).term:=by
  have c:B.length=A.length+N.length:=by have:=congrArg List.length h;simpa using this
  have a:j<B.length:=by omega
  have e:=j2 b a (by rw[h,List.getElem?_append_left (by simpa using b)])
  exact⟨a,congrArg EntA.term e⟩
theorem zNA{es es':List EntD}(h:EsOk es)(hl:es.length≤1000)(b:es'.map EntD.toEntA=es.map EntD.toEntA){k:Nat}(l:es'.length=k+1):∀ e∈es'.drop k,(e.toEntA.ok∧e.toEntA.wf)∧e.index=0+1+k:=fun e d=>by
  have c:es'.length=es.length:=by have:=congrArg List.length b;simpa using this
  obtain⟨i,hi⟩:=List.mem_iff_getElem?.1 d
  rw[List.getElem?_drop]at hi
  have f:=(List.getElem?_eq_some_iff.1 hi).1
  have g:i=0:=by omega
  subst g
  have e1:zf es' k=e:=jd hi
  have e2:=j2 (A:=es') (B:=es) (j:=k) qE qE (by rw[b])
  rw[e1]at e2
  have a:=zOr h hl k qE
  rw[←e2]at a
  exact⟨a.1,by have m:=a.2;have n:e.index=(zf es k).index:=congrArg EntA.index e2;omega⟩
theorem zP6(r s:HrdD):eqL [(0,some (some .u64)),(1,some (some .i64))] r.cells s.cells=decide (r=s):=by
  obtain⟨a,b⟩:=r
  obtain⟨c,d⟩:=s
  simp[eqL,HrdD.cells,eqC,HrdD.mk.injEq,Bool.decide_and]
  have h:∀ m n:Nat,decide ((m:Int)=n)=decide (m=n):=fun m n=>decide_eq_decide.2 qE
  simp only[h]
theorem StoOk.mono{s:StoD}{c m c' m':Nat}(h:StoOk s c m)(h1:c≤c')(h2:m≤m'):StoOk s c' m':=⟨h.W,h.D,h.room,Nat.le_trans h.tot h1,Nat.le_trans h.len h2,h.hh,h.vs,h.es⟩
theorem zLJ{S:List Nat}(nb cb gb lk stb:Nat)(st:SetD)(av ov tv fv:Value)(a2:Nat)(a:StA)(x:AlD)(k:Nat)(y:CqD)(s:StoD)(c m:Nat)(N:List EntA)(w:World)(h:AlL a x k)(hy:y.b.vs=[1])(hs:StoOk s c m)(hh:(y.t.term=1∧y.t.ql=1)∨s.hh=false)(hN:x.es.map EntD.toEntA=s.es.map EntD.toEntA++N)(bd:N.length≤1)(hl:s.es.length<98)(hc:c+6200≤1048576)(hm:m+2<4000)(b4:Own w S [Res.row nb 139 [pt cb,pt gb,av,Vn lk,pt stb,Vi st.nodes,Vi st.voters,Vi st.edges,Vi st.rho,Vi st.base,Vi st.spread,Vi st.beat,Vi st.disk,Vi st.post,Vi st.keep,zu,ov,tv,fv],Res.al cb a x,Res.cq a2 a y,Res.sto stb s] w):Rets Tryz.prog 164 #[pt nb,pt a2] w fun u_ u=>∃ (s':StoD),u_=Vi 0∧StoOk s' (c+6100) (m+2)∧s'.es.map EntD.toEntA=x.es.map EntD.toEntA∧Own w S [Res.row nb 139 [pt cb,pt gb,av,Vn lk,pt stb,Vi st.nodes,Vi st.voters,Vi st.edges,Vi st.rho,Vi st.base,Vi st.spread,Vi st.beat,Vi st.disk,Vi st.post,Vi st.keep,zu,ov,tv,fv],Res.al cb a x,Res.cq a2 a y,Res.sto stb s'] u:=by
  have hi:=h.toAlI
  have bf:x.es.length=s.es.length+N.length:=by have:=congrArg List.length hN;simpa using this
  have ak:=h.hard
  refine zO Tryz.func164 O Tryz.ntmps164 b4 (zB (zG O (zA (zB (zC O (zH O O (fun u e=>(zLB a2 _ _ u (e.give [2] O V)).mono ?_)))))))
  rintro _ w1 ⟨rfl,hO⟩
  refine fq [2] O e hO (zC O (zb (vs:=[.agg #[Vn y.t.term,Vi y.t.ql],Vi y.r.qm,Vi y.r.who,Vn y.r.qe]) O O O (zb (vs:=[.agg #[Vn y.t.term,Vi y.t.ql],Vi y.r.qm,Vi y.r.who,Vn y.r.qe]) O O O (zb (vs:=[.agg #[Vn y.t.term,Vi y.t.ql],Vi y.r.qm,Vi y.r.who,Vn y.r.qe]) O O O (zb (vs:=[.agg #[Vn y.t.term,Vi y.t.ql],Vi y.r.qm,Vi y.r.who,Vn y.r.qe]) O O O (zk (v:= .agg #[Vn 0,Vi 0]) qD O (fun b5=>ze 4 O O O (z6 O) O (zG O (zG O (zG O (zA (zB (zC O (zV O O (zI (o:=0) O O (zI (o:=0) O O (zJ 0 (v:=pt cb) O O O O (zH O O (fun u e=>(zBg cb _ _ u (e.give [1] O V)).mono ?_)))))))))))))))))))
  rintro _ w1 ⟨rfl,hO⟩
  refine fq [1] O e hO (zC O (zb (vs:=[.agg #[Vn x.t.term,Vi x.t.ql],Vi x.r.qm,Vi x.r.who,Vn x.r.qe]) O O O (zb (vs:=[.agg #[Vn x.t.term,Vi x.t.ql],Vi x.r.qm,Vi x.r.who,Vn x.r.qe]) O O O (zb (vs:=[.agg #[Vn x.t.term,Vi x.t.ql],Vi x.r.qm,Vi x.r.who,Vn x.r.qe]) O O O (zb (vs:=[.agg #[Vn x.t.term,Vi x.t.ql],Vi x.r.qm,Vi x.r.who,Vn x.r.qe]) O O O (zk (v:= .agg #[Vn 0,Vi 0]) qD O (fun b9=>ze 5 O O O (z6 O) O (zG O (zG O (zG O (zA (jN (fun(s1:StoD)=>[(0,pt nb),(1,pt a2)]) (fun(s1:StoD)=>StoOk s1 (c+30) (m+1)∧s1.es=s.es) (fun(s1:StoD)=>[Res.row nb 139 [pt cb,pt gb,av,Vn lk,pt stb,Vi st.nodes,Vi st.voters,Vi st.edges,Vi st.rho,Vi st.base,Vi st.spread,Vi st.beat,Vi st.disk,Vi st.post,Vi st.keep,zu,ov,tv,fv],Res.al cb a x,Res.cq a2 a y,Res.sto stb s1]) ?_ (fun s1 g hΦ=> ?_)))))))))))))
  ·refine zB (z1 (cs:=[Vn y.t.term,Vi y.t.ql]) 3 O O O (z1 (cs:=[Vn x.t.term,Vi x.t.ql]) 5 O O O (yI O (zO5 (zP6 ({term:=y.t.term,ql:=y.t.ql}:HrdD) ({term:=x.t.term,ql:=x.t.ql}:HrdD)) qD qD O O O O) (zA (zT O (fun c1=> ?_) (fun c1=> ?_))))))
   ·have b6:s.hh=false:=hh.resolve_left (fun q=>c1 (by rw[q.1,q.2,ak.1,ak.2]))
    refine zK (zc [0,2,3,4,5] O V qD (fun u e p=>zD 0 O za p (zD 1 O (zX O) p (zD 2 O (zL (o:=4) O) p (zD 3 O (zZ 0 (v:=pt stb) O O O) p (zD 4 O (xB (cs:=[Vn x.t.term,Vi x.t.ql]) 4 O O) p (zM 5 O e (zH O O (fun u e=>(zFX stb _ _ _ ({term:=x.t.term,ql:=x.t.ql}:HrdD) u hs b6 (by show 0≤x.t.ql∧x.t.ql≤16;omega) qG qF qF (e.give [1] O V)).mono ?_)))))))))
    rintro _ w1 ⟨am,rfl,ae,an,ao,a6,ap,hO⟩
    refine fq [1] O e hO (zE [0,1,2,3,4] O V (fun u e p=>zD 6 O z7 p (zY ((?_:C _ _ _ _ _ _ _ (Own w S [_,_,_,_,_,_])) _ e))))
    refine zB (zC O (yd O O O (zA (zT O (fun c2=> ?_) (fun c2=> ?_)))))
    ·exact absurd O c2
    exact xy (fun u e=>⟨am,⟨O,O,trivial⟩,⟨ae,a6⟩,e.sel [0,3,1,5] O V⟩)
   exact xy (fun u e=>⟨s,⟨O,O,trivial⟩,⟨hs.mono qE qE,O⟩,e.sel [0,4,2,1] O V⟩)
  have aq:=hΦ.1
  have a5:=hΦ.2
  refine zB (zC O (zV O O (zI (o:=0) O O (zI (o:=0) O O (zJ 0 (v:=pt cb) O O O O (zH O O (fun u e=>(zIc cb _ _ u ‹_› (e.give [1] O V)).mono ?_)))))))
  rintro _ w1 ⟨ab,ac,ad,rfl,hO⟩
  refine fq [1] O e hO (zk (v:= .agg #[Vn 0,Vn 0,zW,zW,zW]) qD O (fun ar=>(zS (fun u e=>Own.qa (i:=4) O e) (fun au=>(zS (fun u e=>Own.qa (i:=5) O e) (fun aw=>(zS (fun u e=>Own.qa (i:=6) O e) (fun ax=>(ze 7 O O O (zF O (zF O (zF au (zF aw (zF ax zh))))) O (zA (zK (zK (zc [0,1,2,3,4,5,6,7] O V qD (fun u e p=>zD 0 O (zL (o:=0) O) p (zD 1 O (zZ 7 (v:=Vn 0) O O O) p (zD 2 O za p (zM 3 O e (zH O O (fun u e=>(zM0 a2 _ _ u qI (e.give [1] O V)).mono ?_)))))))))))))))))))
  rintro _ w1 ⟨ay,az,b0,rfl,hO⟩
  refine fq [1] O e hO (zE [0,7,1,2,3,4,5,6] O V (fun u e p=>zD 4 O (zC9 (o:=0) (v:=Vn 0) O qD O) p (zD 5 O (zF1 O O) p (zY ((?_:C _ _ _ _ _ _ _ (Own w S [_,_,_,_,_,_,_,_,_,_,_])) _ e)))))
  refine zT O (fun c3=> ?_) (fun c3=> ?_)
  ·exact absurd O c3
  refine zN (zK (zc [0,1,2,3,4,5,6,7,8,9,10] O V qD (fun u e p=>zD 0 O za p (zD 1 O (zX O) p (zD 2 O (zL (o:=4) O) p (zD 3 O (zZ 0 (v:=pt stb) O O O) p (zD 6 O za p (zD 7 O (zX O) p (zD 8 O (zL (o:=0) O) p (zD 9 O (zL (o:=0) O) p (zD 10 O (zZ 0 (v:=pt cb) O O O) p (zM 4 O e (zH O O (fun u e=>(zLa stb s1 _ _ u ‹_› (by rw[a5];omega) (e.give [1] O V)).mono ?_))))))))))))))
  rintro _ w1 ⟨ba,bb,bc,z,n,rfl,a9,hO⟩
  have b1:n.map EntD.toEntA=s.es.map EntD.toEntA:=a9.trans (by rw[a5])
  have bg:n.length=s.es.length:=by have:=congrArg List.length b1;simpa using this
  refine fq [1] O e hO (zE [0,10,1,2,3,4,5,6,7,8,9] O V (fun u e p=>zD 5 O (zC9 (o:=7) (v:=z) O qD O) p (zM 11 O e (zH O O (fun u e=>(zQO cb _ _ u ‹_› qF (e.give [1] O V)).mono ?_)))))
  rintro a4 w1 ⟨_,d,rfl,a7,hO⟩
  have aa:d.map EntD.toEntA=x.es.map EntD.toEntA:=a7
  have bh:d.length=s.es.length+N.length:=by have:=congrArg List.length (aa.trans hN);simpa using this
  have b2:=zKW (A:=n) (aa.trans (hN.trans (by rw[b1])))
  refine fq [1] O e hO (zE [0,9,12,1,2,3,4,5,6,7,8] O V (fun u e p=>zD 12 O z7 p (zD 13 O z7 p (zY ((?_:C _ _ _ _ _ _ _ (Own w S [_,_,_,_,_,_,_,_,_,_,_,_,_,_,_])) _ e)))))
  refine zB (zG O (zA (zK (zU (yP (fun(k:Nat)=>[(0,pt nb),(14,pt ar),(17,z),(18,a4),(19,Vj k)]) (fun(k:Nat)=>k≤s.es.length) (fun(k:Nat)=>[Res.row nb 139 [pt cb,pt gb,av,Vn lk,pt stb,Vi st.nodes,Vi st.voters,Vi st.edges,Vi st.rho,Vi st.base,Vi st.spread,Vi st.beat,Vi st.disk,Vi st.post,Vi st.keep,zu,ov,tv,fv],vI ab x.b.vs,vI ac ([]:List Int),vY ad ([]:List UInt8),Res.row ar 213 [Vn 0,Vn 0,ab,ac,ad],Res.cq a2 a y,vI ay y.b.vs,vI az ([]:List Int),vY b0 ([]:List UInt8),Res.sto stb s1,vE z n,sE n,Res.al cb a x,vE a4 d,sE d]) (fun(k:Nat)=>s.es.length - k) (fun u e=>⟨0,⟨O,O,O,O,O,trivial⟩,Nat.zero_le _,e⟩) (fun k g hΦ=>(zK (yZ qD qD (zR O za (zR O za (zR O (kM (pV 10 O) O) (zR O (zIU O O) (zR O za (zB7 (q:=((k:Nat):Int)<((n.length:Nat):Int)) 4 4 [104,103,102,101] (((k:Nat):Int)<((d.length:Nat):Int)) O O O O O O trivial O (fun a0=> ?_) (fun b7=> ?_)))))))))))))))
  ·refine yQ O (gT a0) (zR O za (yQ O (gT a0) (zR O za (yQ O (gT a0) (zR O (kM (pV 13 O) O) (yQ O (gT a0) (zR O (zIU O O) (zCh O))))))))
  refine zR O za (zB7 (q:=(((k:Nat):Int)<((n.length:Nat):Int))∧(((k:Nat):Int)<((d.length:Nat):Int))) 11 10 [117,116,115,114,113,112,111,110,109,108,107] ((((zf n k).term:Nat):Int)=(((zf d k).term:Nat):Int)) O O O O O O trivial O (fun j=> ?_) (fun b3=> ?_))
  ·refine yQ O (gT j) (zR O za (yQ O (gT j) (zR O za (yQ O (gT j) (zR O (kN (pV 10 O) 5 k O O O qE) (yQ O (gT j) (zR O (zL (o:=1) O) (yQ O (gT j) (zR O (zBy (pV 10 O) 5 k 1 (off:=yk z+k*5+1) (fun _=>O) O qM qE O) (yQ O (gT j) (zR O za (yQ O (gT j) (zR O za (yQ O (gT j) (zR O (kN (pV 13 O) 5 k O O O qE) (yQ O (gT j) (zR O (zL (o:=1) O) (yQ O (gT j) (zR O (zBy (pV 13 O) 5 k 1 (off:=yk a4+k*5+1) (fun _=>O) O qM qE O) (yQ O (gT j) (zR O (zMA O O) (zCh O))))))))))))))))))))))
  refine xP (zT O (fun c4=> ?_) (fun c4=> ?_))
  ·refine zN (zU (zd (zC O (zr O O (zt qE) O (zG O (zw (fun u e=>⟨k+1,⟨O,O,O,O,O,trivial⟩,qE,e,qE⟩)))))))
  have bi:k=s.es.length:=by by_cases q:k<s.es.length;exact absurd ⟨⟨by omega,by have:=(b2 k qE).1;omega⟩,by have:=(b2 k qE).2;omega⟩ c4;omega
  refine zz O (zK (zB (zC O (zC O (zo (pV 10 O) O O (yR O O O (zC O (yA (q:=((k:Nat):Int)=((n.length:Nat):Int)) 4 4 [129,128,127,126] (((k:Nat):Int)=((d.length:Nat):Int)) O O O O O O trivial O (fun a1=> ?_) (fun b8=> ?_)))))))))
  ·refine zQ O (gT a1) (zC O (zQ O (gT a1) (zC O (zQ O (gT a1) (zo (pV 13 O) O O (zQ O (gT a1) (yR O O O (z8 O (fun _ e=>e)))))))))
  refine zA (zT O (fun c5=> ?_) (fun c5=> ?_))
  ·refine zB (zG O (zA (zP (zn (v:=Vi 0) O O (fun u e=>⟨s1,O,(aq.mono qE qE),(by rw[a5,hN,List.eq_nil_of_length_eq_zero (show N.length=0 by omega),List.append_nil]),e.sel [0,12,5,9] O V⟩)))))
  have bj:N.length=1:=by omega
  refine zN (zK (zc [0,1,2,3,4,5,6,7,8,10,12,13] O V qD (fun u e p=>zD 0 O za p (zD 1 O (zX O) p (zD 2 O (zL (o:=4) O) p (zD 3 O (zZ 0 (v:=pt stb) O O O) p (zD 4 O (zL (o:=0) O) p (zD 5 O (zZ 4 (v:=Vn 0) O O O) p (zD 6 O (xL O O (yp qE)) p (zD 7 O za p (zD 8 O (kP qD O (yp qE) qD) p (zD 9 O (xL O O (yp qE)) p (zD 10 O za p (zD 11 O za p (zD 12 O (zAO (pV 11 O) 5 k d.length qD O ⟨_,O⟩ O qE qE) p (zM 13 O e (zH O O (fun u e=>(zGP stb s1 _ _ ((0+1)+k) (xa a4 k d.length 5) (d.drop k) u aq (by rw[List.length_drop];omega) (by rw[a5];omega) (zNA hi.es qE aa qE) (by rw[a5];exact hl) qF qF (e.give [9] O V) (Rd.dropL_f (g:=EntD.cells) (xs:=d) (sz:=5) (fun _=>O) (e.rdVec 13 O [9] O O) (l:=k) qE) (jM (EntD.rd.star 14 O [9] O O e))).mono ?_))))))))))))))))))
  rintro _ w1 ⟨af,rfl,a8,ag,ah,a3,ai,aj,hO⟩
  refine fq [9] O e hO (zE [0,1,2,3,4,5,6,7,8,9,11,12] O V (fun u e p=>zD 14 O z7 p (zY ((?_:C _ _ _ _ _ _ _ (Own w S [_,_,_,_,_,_,_,_,_,_,_,_,_,_,_])) _ e))))
  exact zP (zn (v:=Vi 0) O O (fun u e=>⟨af,O,((a8).mono qE qE),(by rw[a3,a5,List.map_drop,aa,hN,List.drop_append_of_le_length qL,List.drop_of_length_le qL,List.nil_append]),e.sel [0,11,5,14] O V⟩))
end Go.Proofs.YtmpaljnacfidaaaGreatDoor
