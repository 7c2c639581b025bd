import Derived.Test.YtmpaljnacfidaaaGreatDoorWal
import Derived.Test.YtmpaljnacfidaaaGreatDoorCoC
import Derived.Test.YtmpaljnacfidaaaGreatDoorFwN
import Derived.Test.YtmpaljnacfidaaaGreatDoorIn
import Derived.Test.YtmpaljnacfidaaaGreatDoorFw3
set_option linter.unusedSectionVars false
set_option linter.unusedSimpArgs false
set_option linter.unusedVariables false
set_option maxRecDepth 10000
namespace Go.Proofs.YtmpaljnacfidaaaGreatDoor
open Go Go.Sc Go.Proofs
def zA9(b db tm:Nat)(vo:Int)(vv wv dv lv:Value)(hb sb wb:Nat):Res:=Res.row b 280 [pt db,Vn tm,Vi vo,Vn 0,Vn 0,vv,wv,dv,lv,pt hb,pt sb,pt wb, .bool false]
def bsR(p:Value×List UInt8):Res:=vY p.1 p.2
theorem BsRd.star{es:List (Value×List UInt8)}{w0 w:World}{S:List Nat}{L Lin:List Res}(j:Nat)(a:L[j]?=some (Res.star (es.map bsR)))(m:List Nat)(b:m.mapM (fun i=>L[i]?)=some Lin)(c:m.any (Nat.beq j)=false)(h:Own w0 S L w):∀ p∈es,BsRd p w (xH Lin):=fun p hp=>(h.star j a m b c _ (List.mem_map_of_mem hp)).sub Vec.sl jf
theorem zLF(v:Value)(l:List ByteArray)(x:ByteArray)(w:World)(d:∀ y∈l,y≠x)(hl:l.length≤1000000)(hv:Rd w [] (Res.sl v l.length (l.flatMap S1))):Rets Tryz.prog 254 #[v, .string x] w fun e b=>e=Vi (-1)∧Own w [] [] b:=by
  refine zO Tryz.func254 O Tryz.ntmps254 (Own.start w) (zB (zG O (zA (zK (zB (zC O (zo (pR hv) O O (zC O (zA (zU (yP (fun(k:Nat)=>[(0,v),(1, .string x),(7,Vj l.length),(8,Vj k)]) (fun(k:Nat)=>k≤l.length) (fun(k:Nat)=>[]) (fun(k:Nat)=>l.length - k) (fun b a=>⟨0,⟨O,O,O,O,trivial⟩,Nat.zero_le _,a⟩) (fun k g i=>(zB (zy O O O (zA (zK (zT O (fun h=> ?_) (fun h=> ?_))))))))))))))))))
  ·refine zN (zK (zU (zB (zC O (zG O (zA (zB (zC O (zC O (zC O (yH (pR hv) 1 k O O O qE O (y8 (pR hv) 1 k 0 (fun _=>O) O O qE O O (zGF O O O (zA (zT O (fun c=> ?_) (fun c=> ?_))))))))))))))))
   ·exact absurd c.symm (d _ (zx qE))
   refine zN (zd (zr O O (zt qE) O (zC O (zw (fun b a=>⟨k+1,⟨O,O,O,O,trivial⟩,qE,a,qE⟩)))))
  refine zz O (zB (zG O (zA (zP (zn (v:=Vi (-1)) O O (fun b a=>⟨O,a.drop⟩))))))
theorem zFb(v:Value)(l:List ByteArray)(x:ByteArray)(w:World)(g:∀ y∈l,y≠x)(hl:l.length≤1000000)(hv:Rd w [] (Res.sl v l.length (l.flatMap S1))):Rets Tryz.prog 145 #[v, .string x] w fun c a=>c=zu∧Own w [] [] a:=by
  refine zO Tryz.func145 O Tryz.ntmps145 (Own.start w) (zB (zG O (zA (zB (zC O (zC O (zH O O (fun a b=>(zLF v l x a ‹_› qF (b.rd0 hv)).mono ?_))))))))
  rintro _ d ⟨rfl,e⟩
  refine(?_:CL _ _ _ _ _ _ (Own w [] [])) d (b.qb e)
  refine xE O O O (zG O (zA (zP (zn (v:= .bool (decide (0≤(-1)))) O O (fun a b=>⟨O,b.drop⟩)))))
theorem zFg{S:List Nat}(stb db tm:Nat)(vo:Int)(vv wv dv lv:Value)(hb sb wb:Nat)(w:World)(a:Own w S [zA9 stb db tm vo vv wv dv lv hb sb wb] w):Rets Tryz.prog 348 #[pt stb] w fun c b=>c=Vi 0∧Own w S [zA9 stb db tm vo vv wv dv lv hb sb wb] b:=by
  refine zO Tryz.func348 O Tryz.ntmps348 a (zB (zG O (zA (zK (zU (zB (zC O (yF qD O O O (zG O (zA (yT O (zB (zC O (zV O O (zI (o:=12) O O (zJ 0 (v:=zu) O O O O (zG O (zA (yT O (zN (zB (zG O (zA (zP (zn (v:=Vi 0) O O (fun b d=>⟨O,d⟩))))))))))))))))))))))))))
theorem zG1{S:List Nat}(stb db tm:Nat)(vo:Int)(vv wv dv lv:Value)(hb sb wb:Nat)(w:World)(a:Own w S [zA9 stb db tm vo vv wv dv lv hb sb wb] w):Rets Tryz.prog 349 #[pt stb,Vi 0] w fun c b=>c=Vi 0∧Own w S [zA9 stb db tm vo vv wv dv lv hb sb wb] b:=by
  refine zO Tryz.func349 O Tryz.ntmps349 a (zB (zG O (zA (zB (zC O (zC O (zV O O (zI (o:=12) O O (zJ 0 (v:=zu) O O O O (zC O (zQ O O (zC O (zQ O O (yR O O O (y2 O O (zV O O (zI (o:=12) O O (zi 0 O O O O O (zA (zB (zC O (zG O (zA (zP (zn (v:=Vi 0) O O (fun b d=>⟨O,d⟩))))))))))))))))))))))))))
theorem zLD(v:Value)(l:List Int)(w:World)(hl:l.length≤1000)(d:∀ x∈l,x=0)(hv:Rd w [] (Res.sl v l.length (l.flatMap I1))):Rets Tryz.prog 144 #[v] w fun e b=>e=Vi 0∧Own w [] [] b:=by
  refine zO Tryz.func144 O Tryz.ntmps144 (Own.start w) (zB (zG O (zA (zK (zB (zC O (zo (pR hv) O O (zC O (zA (zU (yP (fun(k:Nat)=>[(5,v),(6,Vj l.length),(7,Vj k)]) (fun(k:Nat)=>k≤l.length) (fun(k:Nat)=>[]) (fun(k:Nat)=>l.length - k) (fun b a=>⟨0,⟨O,O,O,trivial⟩,Nat.zero_le _,a⟩) (fun k g i=>(zB (zy O O O (zA (zK (zT O (fun h=> ?_) (fun h=> ?_))))))))))))))))))
  ·refine zN (zK (zU (zB (yH (pR hv) 1 k O O O qE O (y8 (pR hv) 1 k 0 (fun _=>O) O O qE O O (zG O (zA (zB (zC O (yd O O O (zA (zT O (fun c=> ?_) (fun c=> ?_)))))))))))))
   ·exact absurd (d _ (zx qE)) c
   refine zN (zd (zr O O (zt qE) O (zC O (zw (fun b a=>⟨k+1,⟨O,O,O,trivial⟩,qE,a,qE⟩)))))
  refine zz O (zB (zG O (zA (zP (zn (v:=Vi 0) O O (fun b a=>⟨O,a.drop⟩))))))
theorem zN2{S:List Nat}(sb db:Nat)(nm:ByteArray)(a:Nat)(d ov:Value)(w:World)(e:Own w S [ka sb db nm a d false ov] w):Rets Tryz.prog 259 #[pt sb, .func (.func 260) #[] #[]] w fun h b=>h= .tuple #[.agg #[Vn 0,Vi 0],zu]∧Own w S [ka sb db nm a d false ov] b:=by
  refine zO Tryz.func259 O Tryz.ntmps259 e (zB (zk (v:= .agg #[Vn 0,Vi 0]) qD O (fun k=>zG O (zA (zB (zC O (zH O O (fun b c=>(zDs sb db nm a d ov b (c.give [0] O V)).mono ?_))))))))
  rintro _ l ⟨rfl,j⟩
  refine fq [0] O c j (zC O (zb (vs:=[zW,Vi 8]) O O O (zb (vs:=[zW,Vi 8]) O O O (zG O (zG O (zA (zK (zB (zC O (yd O O O (zA (zT O (fun g=> ?_) (fun g=> ?_)))))))))))))
  ·refine zB (z1 (cs:=[Vn 0,Vi 0]) 0 O O O (ze 0 O O O (z6 O) O (zG O (zA (zP (yc (cs:=[Vn 0,Vi 0]) (v:=zu) O O O qD (Own.qc (i:=0) O) (fun b c=>⟨O,c.sel [1] O V⟩)))))))
  exact absurd V g
theorem zAL(tm:Nat)(vo:Int)(ix st:Nat)(vv:Value)(vs:List Int)(wv:Value)(ws:List Int)(dv:Value)(data:List UInt8)(lv:Value)(es:List EntD)(w:World)(h1:vs.length≤100000)(h2:ws.length≤100000)(h3:data.length≤1000000)(h4:es.length≤100000)(h5:∀ e∈es,e.data.length≤1000000)(a9:Rd w [] (Res.sl vv vs.length (vs.flatMap I1)))(aa:Rd w [] (Res.sl wv ws.length (ws.flatMap I1)))(ak:Rd w [] (Res.sl dv data.length (data.map vb)))(ab:Rd w [] (Res.sl lv es.length (es.flatMap EntD.cells)))(h:∀ p∈es,EntD.rd p w []):Rets Tryz.prog 149 #[.agg #[Vn tm,Vi vo,Vn ix,Vn st,vv,wv,dv,lv]] w fun u_ b=>∃ (cv s r u:Value) (c:List EntD),u_= .agg #[Vn tm,Vi vo,Vn ix,Vn st,cv,s,r,u]∧c.map EntD.toEntA=es.map EntD.toEntA∧Own w [] [vI cv vs,vI s ws,vY r data,vE u c,sE c] b:=by
  refine zO Tryz.func149 O Tryz.ntmps149 (Own.start w) (zB (zj O O (fun b1=>zk (v:= .agg #[Vn 0,Vi 0,Vn 0,Vn 0,zW,zW,zW,zW]) qD O (fun b2=>zA (zB (zI (o:=2) O O (zI (o:=4) O O (zJ 0 (v:=dv) O O O O (zH O O (fun b a=>(yu dv data b qG (a.rd0 ak)).mono ?_))))))))))
  rintro m n ⟨_,rfl,q⟩
  refine(?_:CL _ _ _ _ _ _ (Own w [] [_,_,_])) n (a.qb q)
  refine zI (o:=2) O O (zI (o:=4) O O (zS (fun b a=>Own.qa (i:=2) O a) (fun a2=>(zi (cs:=[Vn tm,Vi vo,Vn ix,Vn st,vv,wv,dv,lv]) 0 O O O a2 O (zA (zL1 (fun(cv s:Value)=>[(1,pt b1),(2,pt b2)]) (fun(cv s:Value)=>True) (fun(cv s:Value)=>[Res.row b1 215 [Vn tm,Vi vo,Vn ix,Vn st,cv,s,m,lv],Res.row b2 215 [Vn 0,Vi 0,Vn 0,Vn 0,zW,zW,zW,zW],vI cv vs,vI s ws,vY m data]) ?_ (fun cv s g hΦ=> ?_)))))))
  ·refine zc [1,2] O V qD (fun b a d=>zD 0 O (zL (o:=2) O) d (zD 1 O (zL (o:=2) O) d (zD 2 O (zL (o:=0) O) d (zD 5 O (zL (o:=2) O) d (zD 6 O (zL (o:=2) O) d (zD 7 O (zL (o:=1) O) d (z2 3 8 ?_ ?_)))))))
   ·refine zm 3 O a (zJ 0 (v:=vv) O O O O (zE [1,2] O V (fun b a d=>z2 4 8 ?_ ?_)))
    ·refine zm 4 O a (zH O O (fun b a=>(y0 vv vs b qG (a.rd0 a9)).mono ?_))
     rintro ae n ⟨_,rfl,q⟩
     refine(?_:CL _ _ _ _ _ _ (Own w [] [_,_,_,_])) n (a.qb q)
     refine zE [1,2] O V (fun b a d=>zM 8 O a (zJ 0 (v:=wv) O O O O (zE [1,2] O V (fun b a d=>zM 9 O a (zH O O (fun b a=>(y0 wv ws b qG (a.rd0 aa)).mono ?_))))))
     rintro af n ⟨_,rfl,q⟩
     refine(?_:CL _ _ _ _ _ _ (Own w [] [_,_,_,_,_])) n (a.qb q)
     refine zE [1,2] O V (fun b a d=>zM 10 O a (zS (fun b a=>Own.qa (i:=3) O a) (fun a3=>(zS (fun b a=>Own.qa (i:=4) O a) (fun a4=>(xK (cs:=[ae,af]) (z:=[zW,zW]) (pl:=[(0,1),(1,1)]) qD ⟨a3,a4,trivial⟩ qD O (zE [1,2] O V (fun b a d=>zD 11 O (zL (o:=2) O) d (zD 12 O (zL (o:=2) O) d (zM 13 O a (ze 0 O O O (zF a3 (zF a4 zh)) O (zE [1,2] O V (fun b a d=>zY (⟨ae,af,⟨O,O,trivial⟩,trivial,a.sel [0,1,3,4,2] O V⟩))))))))))))))
    refine zm 8 O a (zJ 0 (v:=wv) O O O O (zE [1,2] O V (fun b a d=>zM 4 O a (zH O O (fun b a=>(y0 vv vs b qG (a.rd0 a9)).mono ?_)))))
    rintro ag n ⟨_,rfl,q⟩
    refine(?_:CL _ _ _ _ _ _ (Own w [] [_,_,_,_])) n (a.qb q)
    refine zE [1,2] O V (fun b a d=>zM 9 O a (zH O O (fun b a=>(y0 wv ws b qG (a.rd0 aa)).mono ?_)))
    rintro ah n ⟨_,rfl,q⟩
    refine(?_:CL _ _ _ _ _ _ (Own w [] [_,_,_,_,_])) n (a.qb q)
    refine zE [1,2] O V (fun b a d=>zM 10 O a (zS (fun b a=>Own.qa (i:=3) O a) (fun a5=>(zS (fun b a=>Own.qa (i:=4) O a) (fun a6=>(xK (cs:=[ag,ah]) (z:=[zW,zW]) (pl:=[(0,1),(1,1)]) qD ⟨a5,a6,trivial⟩ qD O (zE [1,2] O V (fun b a d=>zD 11 O (zL (o:=2) O) d (zD 12 O (zL (o:=2) O) d (zM 13 O a (ze 0 O O O (zF a5 (zF a6 zh)) O (zE [1,2] O V (fun b a d=>zY (⟨ag,ah,⟨O,O,trivial⟩,trivial,a.sel [0,1,3,4,2] O V⟩))))))))))))))
   refine zm 8 O a (zJ 0 (v:=wv) O O O O (zE [1,2] O V (fun b a d=>zM 3 O a (zJ 0 (v:=vv) O O O O (zE [1,2] O V (fun b a d=>zM 4 O a (zH O O (fun b a=>(y0 vv vs b qG (a.rd0 a9)).mono ?_))))))))
   rintro ai n ⟨_,rfl,q⟩
   refine(?_:CL _ _ _ _ _ _ (Own w [] [_,_,_,_])) n (a.qb q)
   refine zE [1,2] O V (fun b a d=>zM 9 O a (zH O O (fun b a=>(y0 wv ws b qG (a.rd0 aa)).mono ?_)))
   rintro aj n ⟨_,rfl,q⟩
   refine(?_:CL _ _ _ _ _ _ (Own w [] [_,_,_,_,_])) n (a.qb q)
   refine zE [1,2] O V (fun b a d=>zM 10 O a (zS (fun b a=>Own.qa (i:=3) O a) (fun a7=>(zS (fun b a=>Own.qa (i:=4) O a) (fun a8=>(xK (cs:=[ai,aj]) (z:=[zW,zW]) (pl:=[(0,1),(1,1)]) qD ⟨a7,a8,trivial⟩ qD O (zE [1,2] O V (fun b a d=>zD 11 O (zL (o:=2) O) d (zD 12 O (zL (o:=2) O) d (zM 13 O a (ze 0 O O O (zF a7 (zF a8 zh)) O (zE [1,2] O V (fun b a d=>zY (⟨ai,aj,⟨O,O,trivial⟩,trivial,a.sel [0,1,3,4,2] O V⟩))))))))))))))
  refine zB (zG O (zA (zK (zB (zI (o:=7) O O (zJ 0 (v:=lv) O O O O (zo (pR ab) O O (zC O (zA (zU (xt (fun(k:Nat) (u:Value) (c:List EntD)=>[(1,pt b1),(2,pt b2),(3,u),(26,lv),(27,Vj es.length),(28,Vj k)]) (fun(k:Nat) (u:Value) (c:List EntD)=>k≤es.length∧c.map EntD.toEntA=(es.take k).map EntD.toEntA) (fun(k:Nat) (u:Value) (c:List EntD)=>[Res.row b1 215 [Vn tm,Vi vo,Vn ix,Vn st,cv,s,m,lv],Res.row b2 215 [Vn 0,Vi 0,Vn 0,Vn 0,zW,zW,zW,zW],vI cv vs,vI s ws,vY m data,vE u c,sE c]) (fun(k:Nat) (u:Value) (c:List EntD)=>es.length - k) (fun b a=>⟨0,zW,[],⟨O,O,O,O,O,O,trivial⟩,⟨Nat.zero_le _,O⟩,(zq a 130 5).qn⟩) (fun k u c g hΦ=> ?_))))))))))))
  have an:c.length=min k es.length:=by have:=congrArg List.length hΦ.2;simpa using this
  refine zB (zy O O O (zA (zK (zT O (fun c1=> ?_) (fun c1=> ?_)))))
  ·have ao:=h5 _ (zx (l:=es) (j:=k) qE)
   refine zN (zK (zU (zB (yH (pR ab) 5 k O O O qE O (jC (pR ab) 5 k (off:=yk lv+k*5) (fun _=>O) O O qE O (zk (v:= .agg #[Vn 0,Vn 0,Vi 0,Vi 0,zW]) qD O (fun b5=>ze 7 O O O (zF O (zF O (zF O (zF O (zF (Sl.cell1 (Rd.φ ((h _ (zx qE)).dv))) zh))))) O (zA (zB (zI (o:=4) O O (zJ 7 (v:=(zf es k).dv) O O O O (zH O O (fun b a=>((yu ((zf es k).dv) ((zf es k).data) b qG (a.rd0 ((h _ (zx qE)).dv))).mono ?_))))))))))))))
   rintro a1 n ⟨_,rfl,q⟩
   refine(?_:CL _ _ _ _ _ _ (Own w [] [_,_,_,_,_,_,_,_,_])) n (a.qb q)
   refine zI (o:=4) O O (zS (fun b a=>Own.qa (i:=8) O a) (fun y=>(zi (cs:=(EntD.cells (zf es k))) 7 O O O y O (zA (zd (zC O (z1 7 O O O (yC (e:=130) (sz:=5) (vs:=[.agg #[Vn ((zf es k).index),Vn ((zf es k).term),Vi ((zf es k).kind),Vi ((zf es k).delta),a1]]) qD O O qQ V O (fun ap=>yE (g:=EntD.cells) (sz:=5) (by':=56) (fun _=>O) (l:=c) (l':=[({(zf es k)with dv:=a1}:EntD)]) (all_cons ((zF O (zF O (zF O (zF O (zF y zh)))))) qH) 5 qD O O O (fun b al=>Vec.sl (Own.holds al 9 _ O)) qF V O (fun am=>zG O (zA (zd (zr O O (zt qE) O (zC O (zw (fun b a=>⟨k+1,am,c++[({(zf es k)with dv:=a1}:EntD)],⟨O,O,O,O,O,O,trivial⟩,⟨by omega,by rw[List.map_append,yj qE,List.map_append,hΦ.2];rfl⟩,((a.qw (x:=({(zf es k)with dv:=a1}:EntD)) 6 8 V O O).sel [0,1,2,3,4,5,6] O V),qE⟩))))))))))))))))
  refine zz O (zB (zC O (zI (o:=7) O O (zS (fun b a=>Own.qa (i:=5) O a) (fun a0=>(zi (cs:=[Vn tm,Vi vo,Vn ix,Vn st,cv,s,m,lv]) 0 O O O a0 O (zA (zB (z1 (cs:=[Vn tm,Vi vo,Vn ix,Vn st,cv,s,m,u]) 0 O O O (zS (fun b a=>Own.qa (i:=2) O a) (fun ac=>(zS (fun b a=>Own.qa (i:=3) O a) (fun ad=>(ze 1 O O O (zF O (zF O (zF O (zF O (zF ac (zF ad (zF a2 (zF a0 zh)))))))) O (zA (zP (xc (cs:=[Vn tm,Vi vo,Vn ix,Vn st,cv,s,m,u]) O O qD (Own.qc (i:=1) O) (fun b a=>⟨cv,s,m,u,c,O,by rw[hΦ.2,List.take_of_length_le qE],a.sel [2,3,4,5,6] O V⟩))))))))))))))))))
theorem zM1{S:List Nat}(sb db:Nat)(nm:ByteArray)(a:Nat)(d ov:Value)(w:World)(e:Own w S [ka sb db nm a d false ov] w):Rets Tryz.prog 261 #[pt sb, .func (.func 262) #[] #[]] w fun h b=>h= .tuple #[.agg #[Vn 0,Vn 0,zW,zW,zW],zu]∧Own w S [ka sb db nm a d false ov] b:=by
  refine zO Tryz.func261 O Tryz.ntmps261 e (zB (zk (v:= .agg #[Vn 0,Vn 0,zW,zW,zW]) qD O (fun k=>zG O (zA (zB (zC O (zH O O (fun b c=>(zDs sb db nm a d ov b (c.give [0] O V)).mono ?_))))))))
  rintro _ l ⟨rfl,j⟩
  refine fq [0] O c j (zC O (zb (vs:=[zW,Vi 8]) O O O (zb (vs:=[zW,Vi 8]) O O O (zG O (zG O (zA (zK (zB (zC O (yd O O O (zA (zT O (fun g=> ?_) (fun g=> ?_)))))))))))))
  ·refine zB (z1 0 O O O (ze 0 O O O (z6 O) O (zG O (zA (zP (yc (cs:=[Vn 0,Vn 0,zW,zW,zW]) (v:=zu) O O O qD (Own.qc (i:=0) O) (fun b c=>⟨O,c.sel [1] O V⟩)))))))
  exact absurd V g
def zAy:ByteArray:=⟨#[104,97,114,100]⟩
def zFG:ByteArray:=⟨#[115,104,111,116]⟩
theorem zFM:zA6 zAy:=⟨⟨by decide,by decide⟩,by decide⟩
theorem zKR:zA6 zFG:=⟨⟨by decide,by decide⟩,by decide⟩
theorem zMT{S:List Nat}(stb db hb sb wb:Nat)(W:WlS)(vv:Value)(vs:List Int)(w:World)(hW:WlOk W 0)(hv:vs.length≤100)(a0:Own w S [zA9 stb db 0 0 zW zW zW zW hb sb wb,ka hb db zAy 0 zW false zW,ka sb db zFG 0 zW false zW,Res.wl db wb W] w)(a1:Rd w S (Res.sl vv vs.length (vs.flatMap I1))):Rets Tryz.prog 148 #[pt stb, .agg #[Vn 0,Vn 0,vv,zW,zW]] w fun u_ e=>∃ (cv cw r:Value),u_=Vi 0∧Own w S [zA9 stb db 0 0 cv cw r zW hb sb wb,ka hb db zAy 0 zW false zW,ka sb db zFG 0 zW false zW,Res.wl db wb W,vI cv vs,vI cw ([]:List Int),vY r ([]:List UInt8)] e:=by
  refine zO Tryz.func148 O Tryz.ntmps148 a0 (zB (zj O O (fun b3=>zG O (zA (zB (zC O (zC O (zV O O (zI (o:=9) O O (zJ 0 (v:=pt hb) O O O O (zH O O (fun e a=>(zN2 hb db zAy 0 zW zW e (a.give [1] O V)).mono ?_))))))))))))
  rintro _ x ⟨rfl,n⟩
  refine fq [1] O a n (zC O (zb (vs:=[.agg #[Vn 0,Vi 0],zu]) O O O (zb (vs:=[.agg #[Vn 0,Vi 0],zu]) O O O (zV O O (zI (o:=1) O O (zI (o:=0) O O (ze 0 O O O (z6 O) O (zA (zB (zC O (zV O O (zI (o:=10) O O (zJ 0 (v:=pt sb) O O O O (zH O O (fun e a=>(zM1 sb db zFG 0 zW zW e (a.give [1] O V)).mono ?_)))))))))))))))
  rintro _ x ⟨rfl,n⟩
  refine fq [1] O a n (zC O (zb (vs:=[.agg #[Vn 0,Vn 0,zW,zW,zW],zu]) O O O (zb (vs:=[.agg #[Vn 0,Vn 0,zW,zW,zW],zu]) O O O (zk (v:= .agg #[Vn 0,Vn 0,zW,zW,zW]) qD O (fun b5=>ze 5 O O O (z6 O) O (zG O (zA (zK (zB (zC O (xi (b:=false) O O (zA (x2 O (zd (z1 (cs:=[Vn 0,Vn 0,vv,zW,zW]) 2 O O O (xK (cs:=[Vn 0,Vi 0,Vn 0,Vn 0,vv,zW,zW,zW]) (z:=[Vn 0,Vi 0,Vn 0,Vn 0,zW,zW,zW,zW]) (pl:=[(0,2),(2,5),(7,1)]) qD ⟨trivial,trivial⟩ qD O (zH O O (fun e a=>(zAL 0 0 0 0 vv vs zW [] zW [] zW [] e qF qF qF qF (fun _ h=>by cases h) (a.rd0 a1) Rd.nil Rd.nil Rd.nil (fun p hp=>by cases hp)).mono ?_))))))))))))))))))
  rintro _ x ⟨c,d,j,y,l,rfl,a2,n⟩
  refine(?_:CL _ _ _ _ _ _ (Own w S [_,_,_,_,_,_,_,_,_,_,_])) x (a.qb n)
  refine zRc (o:=2) (m:=5) (us:= #[Vn 0,Vn 0,c,d,j]) O qD O O (zS (fun e a=>Own.qa (i:=6) O a) (fun q=>(zS (fun e a=>Own.qa (i:=7) O a) (fun s=>(zS (fun e a=>Own.qa (i:=8) O a) (fun u=>(ze 5 O O O (zF O (zF O (zF q (zF s (zF u zh))))) O (zA (zB (zC O (z1 (cs:=[Vn 0,Vn 0,c,d,j]) 5 O O O (zV O O (zI (o:=1) O O (zI (o:=2) O O (ze 0 O O O (zF O (zF O (zF q (zF s (zF u zh))))) O (zA (zB (zI (o:=0) O O (zJ 5 (v:=Vn 0) O O O O (zG O (zG O (zA (zK (zB (zC O (zV O O (zI (o:=11) O O (zJ 0 (v:=pt wb) O O O O (zH O O (fun e a=>(zL2 _ wb _ e (a.give [1] O V)).mono ?_))))))))))))))))))))))))))))))
  rintro _ x ⟨rfl,n⟩
  refine fq [1] O a n (zC O (zr O O (yp qE) O (yR O O O (zA (zT O (fun c2=> ?_) (fun c2=> ?_))))))
  ·refine zd (zG O (zA (zK (zB (zC O (xi (b:=true) O O (zA (yT O (zN (zK (zB (zC O (zr O O (yp qE) O (zG O (zA (zU (yP (fun(k:Nat)=>[(0,pt stb),(11,Vn k)]) (fun(k:Nat)=>k=1) (fun(k:Nat)=>[zA9 stb db 0 0 c d j zW hb sb wb,Res.row b3 213 [Vn 0,Vn 0,vv,zW,zW],ka hb db zAy 0 zW false zW,ka sb db zFG 0 zW false zW,Res.row b5 213 [Vn 0,Vn 0,c,d,j],vI c vs,vI d ([]:List Int),vY j ([]:List UInt8),vE y l,sE l,Res.wl db wb W]) (fun(k:Nat)=>0) (fun e a=>⟨1,⟨O,O,trivial⟩,O,a⟩) (fun k g hΦ=> ?_))))))))))))))))))
   have a3:=hΦ
   refine zK (zB (zC O (zC O (zV O O (zI (o:=11) O O (zJ 0 (v:=pt wb) O O O O (zH O O (fun e a=>(zM4 _ wb _ 0 e ‹_› qF (a.give [10] O V)).mono ?_))))))))
   rintro _ x ⟨rfl,n⟩
   refine fq [10] O a n (zy O O O (zA (zT O (fun c4=> ?_) (fun c4=> ?_))))
   ·exact absurd c4 qE
   refine zz O (zB (zG O (zA (zP (zn (v:=Vi 0) O O (fun e a=>⟨c,d,j,O,a.sel [0,2,3,10,5,6,7] O V⟩))))))
  exact absurd O c2
theorem zNT{vv:Value}{vs:List Int}(b:Rises vs)(c:0<vs.length):({index:=0,term:=0,conf:=({vv:=vv,vs:=vs,lv:=zW,ls:=[]}:ConfD),dv:=zW,data:=[]}:ShtD).a.ok:=by
  have d:Rises ([]:List Int):=⟨by simp,by simp⟩
  have e:(({vs:=vs,ls:=[]}:ConfA)).ok:=⟨⟨⟨b,d⟩,c⟩,fun v _ h=>by cases h⟩
  exact⟨⟨⟨⟨e,by show 0≤32768;decide⟩,by show(0:Nat)=0↔(0:Nat)=0;exact Iff.rfl⟩,by show(0:Nat)≤_;decide⟩,by show(0:Nat)≤_;decide⟩
theorem zMk{S:List Nat}(db:Nat)(D:DskD)(kf:List (ByteArray×FilD))(vv:Value)(vs:List Int)(w:World)(hk:DskCl D)(hl:kf.length=0)(hr:1000≤D.room)(am:Rises vs)(an:0<vs.length)(au:vs.length≤12)(ao:Own w S [Res.dk db D kf] w)(af:Rd w S (Res.sl vv vs.length (vs.flatMap I1))):Rets Tryz.prog 92 #[pt db, .agg #[Vn 0,Vn 0,vv,zW,zW]] w fun u_ c=>∃ (stb hb sb wb:Nat) (W:WlS) (cv cw r c2 c3 r2 v2:Value) (ac:List EntD) (D':DskD) (fn:ByteArray) (f:FilD),u_= .tuple #[pt stb, .agg #[Vn 0,Vi 0,Vn 0,Vn 0,c2,c3,r2,v2],Vi 0]∧WlOk W 0∧f.bs.length=0∧DskCl D'∧D'.room=D.room∧ac.length=0∧Own w S [zA9 stb db 0 0 cv cw r zW hb sb wb,ka hb db zAy 0 zW false zW,Res.wl db wb W,Res.dk db D' (yS fn f kf),vI cv vs,vI cw ([]:List Int),vY r ([]:List UInt8),vI c2 vs,vI c3 ([]:List Int),vY r2 ([]:List UInt8),vE v2 ac,sE ac] c:=by
  refine zO Tryz.func92 O Tryz.ntmps92 ao (zB (zj O O (fun b3=>zG O (zk (v:= .agg #[Vn 0,Vi 0,Vn 0,Vn 0,zW,zW,zW,zW]) qD O (fun b5=>zG O (zA (zK (zB (zC O (yF qD O O O (zA (yT O (zN (zK (zB (z1 (cs:=[Vn 0,Vn 0,vv,zW,zW]) 1 O O O (zH O O (fun c b=>(zEB ({index:=0,term:=0,conf:=({vv:=vv,vs:=vs,lv:=zW,ls:=[]}:ConfD),dv:=zW,data:=[]}:ShtD) c ⟨by show(0:Nat)<_;decide,by show(0:Nat)<_;decide,⟨by show vs.length≤_;omega,by show(0:Nat)≤_;decide⟩,by show(0:Nat)≤_;decide⟩ ⟨⟨(b.rd0 af),Rd.nil⟩,Rd.nil⟩).mono ?_))))))))))))))))))
  rintro _ w1 ⟨ag,rfl,d⟩
  refine(?_:CL _ _ _ _ _ _ (Own w S [_,_,_,_])) w1 (b.qb d)
  refine zC O (zb (vs:=[ag,Vi (yB ({index:=0,term:=0,conf:=({vv:=vv,vs:=vs,lv:=zW,ls:=[]}:ConfD),dv:=zW,data:=[]}:ShtD).a.ok)]) O O O (zb (vs:=[ag,Vi (yB ({index:=0,term:=0,conf:=({vv:=vv,vs:=vs,lv:=zW,ls:=[]}:ConfD),dv:=zW,data:=[]}:ShtD).a.ok)]) O O O (zG O (zG O (zA (zB (zC O (yd O O O (zA (zT O (fun c2=> ?_) (fun c2=> ?_)))))))))))
  ·exact absurd c2 (by rw[xe (zNT am an)];omega)
  refine zN (zB (zC O (yG (cs:=[pt db,Vn 0,Vi 0,Vn 0,Vn 0,zW,zW,zW,zW, .pointer none, .pointer none, .pointer none,zu]) (z:=[.pointer none,Vn 0,Vi 0,Vn 0,Vn 0,zW,zW,zW,zW, .pointer none, .pointer none, .pointer none,zu]) (pl:=[(0,1),(1,8),(9,1),(10,1),(11,1),(12,1)]) qD qD O (zj O O (fun ad=>zG O (zA (zB (zG O (zG O (zG O (zA (zK (zB (zC O (zC O (zH O O (fun c b=>(zEL db _ _ (⟨#[104,97,114,100]⟩:ByteArray) c ‹_› qF zFM (b.give [0] O V)).mono ?_)))))))))))))))))
  rintro _ w1 ⟨m,rfl,d⟩
  refine fq [0] O b d (zC O (zb (vs:=[pt m,Vi 0]) O O O (zb (vs:=[pt m,Vi 0]) O O O (zV O O (zI (o:=9) O O (zi 3 O O O O O (zG O (zA (zB (zC O (yR O O O (zA (zT O (fun c3=> ?_) (fun c3=> ?_))))))))))))))
  ·refine zB (zC O (zC O (zH O O (fun c b=>(zEL db _ _ (⟨#[115,104,111,116]⟩:ByteArray) c ‹_› qF zKR (b.give [4] O V)).mono ?_))))
   rintro _ w1 ⟨n,rfl,d⟩
   refine fq [4] O b d (zC O (zb (vs:=[pt n,Vi 0]) O O O (zb (vs:=[pt n,Vi 0]) O O O (zV O O (zI (o:=10) O O (zi 3 O O O O O (zG O (zA (zB (zC O (yR O O O (zA (zT O (fun c4=> ?_) (fun c4=> ?_))))))))))))))
   ·refine zd (zC O (zC O (zH O O (fun c b=>(zOV db _ _ c ‹_› qF qF (b.give [5] O V)).mono ?_))))
    rintro _ w1 ⟨s,W5_,D'6_,g,a7,rfl,a8,x,a0,a1,a2,d⟩
    have ap:∀ y∈(yS g a7 kf).map (·.1),y≠jR:=by
     rw[show kf=[]from List.eq_nil_of_length_eq_zero hl];intro y hy;have:y=g:=by simpa [yS]using hy
     rw[this];exact x
    have av:(yS g a7 kf).length≤1:=by rw[show kf=[]from List.eq_nil_of_length_eq_zero hl];exact Nat.le_refl _
    refine fq [5] O b d (zC O (zb (vs:=[pt s,Vi 0]) O O O (zb (vs:=[pt s,Vi 0]) O O O (zV O O (zI (o:=11) O O (zi 3 O O O O O (zG O (zA (zB (zC O (zC O (zC O (yC (e:=29) (sz:=1) (vs:=[Vi 0,Vi 0,Vi 0]) qD O O qJ V O (fun aq=>(zH O O (fun c b=>(zLD (.slice (some ⟨aq,0,none⟩) 3 3) [0,0,0] c qI qH (b.qh 8 O)).mono ?_))))))))))))))))
    rintro _ w1 ⟨rfl,d⟩
    refine(?_:CL _ _ _ _ _ _ (Own w S [_,_,_,_,_,_,_,_,_])) w1 (b.qb d)
    refine zG O (zA (zK (zB (zC O (yR O O O (zC O (yA (q:=0=0) 3 2 [66,65,64] (false=true) O O O O O O trivial O (fun j=> ?_) (fun ar=> ?_))))))))
    ·refine zQ O (gT j) (zC O (zQ O (gT j) (zH O O (fun c b=>(zDh db D'6_ (yS g a7 kf) c ‹_› qF (b.give [7] O V)).mono ?_))))
     rintro ah w1 ⟨_,ae,rfl,u,d⟩
     refine fq [7] O b d (zQ O (gT j) (zH O O (fun c b=>(zFb ah ae (⟨#[116,46,120]⟩:ByteArray) c (fun y hy=>ap y (u.mem_iff.1 hy)) (by rw[u.length_eq,List.length_map];omega) (b.qh 9 O)).mono ?_)))
     rintro _ w1 ⟨rfl,d⟩
     refine(?_:CL _ _ _ _ _ _ (Own w S [_,_,_,_,_,_,_,_,_,_])) w1 (b.qb d)
     exact z8 (yt _) (fun _ b=>b.sel [0,1,2,3,4,5,6,8,7] O V)
    refine zA (zT O (fun c5=> ?_) (fun c5=> ?_))
    ·exact absurd c5.2 V
    refine zN (zK (zB (zC O (yR O O O (zA (zT O (fun c6=> ?_) (fun c6=> ?_)))))))
    ·refine zd (zC O (z1 (cs:=[Vn 0,Vn 0,vv,zW,zW]) 0 O O O (zH O O (fun c b=>(zMT ad db m n s W5_ vv vs c ‹_› qF (b.give [3,4,5,6] O V) (b.rdTo af [3,4,5,6] O)).mono ?_))))
     rintro _ w1 ⟨k,l,a3,rfl,d⟩
     refine fq [3,4,5,6] O b d (zG O (zA (zK (zB (zC O (yd O O O (zA (zT O (fun c7=> ?_) (fun c7=> ?_)))))))))
     ·exact absurd O c7
     refine zN (zB (zC O (zC O (zV O O (zI (o:=1) O O (xC 5 [Vn 0,Vi 0,Vn 0,Vn 0,k,l,a3,zW] O O (ye 1 O) qD O (zH O O (fun c b=>(zAL 0 0 0 0 k vs l [] a3 [] zW [] c qF qF qF qF (fun _ h=>by cases h) (b.qh 9 O) (b.qh 10 O) (b.qh 11 O) Rd.nil (fun p hp=>by cases hp)).mono ?_))))))))
     rintro _ w1 ⟨a4,a5,ab,a6,a9,rfl,aa,d⟩
     refine(?_:CL _ _ _ _ _ _ (Own w S [_,_,_,_,_,_,_,_,_,_,_,_,_,_,_,_,_])) w1 (b.qb d)
     refine zG O (zS (fun c b=>Own.qa (i:=12) O b) (fun ai=>(zS (fun c b=>Own.qa (i:=13) O b) (fun aj=>(zS (fun c b=>Own.qa (i:=14) O b) (fun ak=>(zS (fun c b=>Own.qa (i:=15) O b) (fun al=>(ze 1 O O O (zF O (zF O (zF O (zF O (zF ai (zF aj (zF ak (zF al zh)))))))) O (zG O (zA (zP (zO3 (cs:=[Vn 0,Vi 0,Vn 0,Vn 0,a4,a5,ab,a6]) (v0:=pt ad) (v2:=Vi 0) O O O O qD (Own.qc (i:=1) O) (fun c b=>⟨ad,m,n,s,W5_,k,l,a3,a4,a5,ab,a6,a9,D'6_,g,a7,O,a8,a0,a1,a2,(by have:=congrArg List.length aa;simpa using this),b.sel [5,6,8,3,9,10,11,12,13,14,15,16] O V⟩))))))))))))))
    exact absurd O c6
   exact absurd O c4
  exact absurd O c3
theorem zKh{x:HrdD}(h:x.term<18446744073709551616):(if x.ok then x.enc else []).length≤18:=by
  split
  · have:=yL (ns:=[x.term,u64 x.ql]) (by simp[yW,h])
    unfold HrdD.enc;simpa using this
  exact Nat.zero_le _
theorem zML{α:Type}{P:α→Prop}{l:List α}{x:α}(h:∀ p∈l,P p)(a:P x):∀ p∈l++[x],P p:=fun p hp=>by
  rcases List.mem_append.1 hp with q|q
  · exact h p q
  rw[List.mem_singleton.1 q];exact a
theorem zFz{S:List Nat}(stb db hb sb wb:Nat)(tm:Nat)(vo:Int)(vv wv dv lv:Value)(D:DskD)(kf:List (ByteArray×FilD))(x:HrdD)(w:World)(u:x.ok)(y:x.term<18446744073709551616)(hk:DskCl D)(hl:kf.length<4096)(hr:((tot kf+100:Nat):Int)≤D.room)(n:Own w S [zA9 stb db tm vo vv wv dv lv hb sb wb,ka hb db zAy 0 zW false zW,Res.dk db D kf] w):Rets Tryz.prog 285 #[pt stb, .agg (HrdD.cells x).toArray] w fun z c=>∃ (v1 v2:Value) (la:Nat) (D':DskD) (f:FilD) (q:ByteArray),z=Vi 0∧DskCl D'∧D'.room=D.room∧f.bs.length≤((zl q kf).getD kJ).bs.length+30∧Own w S [zA9 stb db x.term x.ql vv wv dv lv hb sb wb,ka hb db zAy la v1 true v2,Res.dk db D' (yS q f kf)] c:=by
  have a0:=zKh y
  refine zO Tryz.func285 O Tryz.ntmps285 n (zB (zj O O (fun b3=>zG O (zA (zK (zB (zC O (zH O O (fun c a=>(zFg stb db tm vo vv wv dv lv hb sb wb c (a.give [0] O V)).mono ?_)))))))))
  rintro _ m ⟨rfl,d⟩
  refine fq [0] O a d (zG O (zA (zB (zC O (yd O O O (zA (zT O (fun r=> ?_) (fun r=> ?_))))))))
  ·exact absurd O r
  refine zN (zB (z1 (cs:=(HrdD.cells x)) 2 O O O (zH O O (fun c a=>(zDu x c qF).mono ?_))))
  rintro _ m ⟨e,rfl,d⟩
  refine(?_:CL _ _ _ _ _ _ (Own w S [_,_,_,_,_])) m (a.qb d)
  refine zC O (zb (vs:=[e,Vi (yB x.ok)]) O O O (zb (vs:=[e,Vi (yB x.ok)]) O O O (zG O (zG O (zA (zK (zB (zC O (yd O O O (zA (zT O (fun s=> ?_) (fun s=> ?_))))))))))))
  ·exact absurd s (by rw[xe u];omega)
  refine zN (zK (zB (zC O (zC O (zV O O (zI (o:=9) O O (zJ 3 (v:=pt hb) O O O O (zC O (zH O O (fun c a=>(zI7 hb db zAy _ _ e (if x.ok then x.enc else []) c ‹_› zFM qF qI qI (a.give [0,1] O V) (a.rdVec 4 O [0,1] O O)).mono ?_))))))))))
  rintro _ m ⟨h,i,j,D'5_,p,k,rfl,g,b,l,d⟩
  refine fq [0,1] O a d (zH O O (fun c a=>(zG1 stb db tm vo vv wv dv lv hb sb wb c (a.give [1] O V)).mono ?_))
  rintro _ m ⟨rfl,d⟩
  refine fq [1] O a d (zG O (zA (zB (zC O (yR O O O (zA (zT O (fun t=> ?_) (fun t=> ?_))))))))
  ·refine zd (zC O (z1 (cs:=(HrdD.cells x)) 0 O O O (zV O O (zI (o:=1) O O (zI (o:=0) O O (ze 4 O O O (z6 O) O (zA (zB (zC O (zG O (zA (zP (zn (v:=Vi 0) O O (fun c a=>⟨h,i,j,D'5_,p,k,O,g,b,qE,a.sel [4,2,3] O V⟩))))))))))))))
  exact absurd O t
theorem zHG(k0:Nat)(v:Value)(l:List EntD)(w:World)(hl:l.length=1)(hk:k0≤1000000)(hx:∀ e∈l,(e.toEntA.ok∧e.toEntA.wf)∧e.index=k0)(hv:Rd w [] (Res.sl v l.length (l.flatMap EntD.cells)))(d:∀ p∈l,EntD.rd p w []):Rets Tryz.prog 420 #[Vn k0,v] w fun u_ s=>∃ (r:Value) (bs:List (Value×List UInt8)),u_= .tuple #[r,xl]∧bs.length=1∧(∀ p∈bs,p.2.length≤4200)∧Own w [] [vB r bs,Res.star (bs.map bsR)] s:=by
  refine zO Tryz.func420 O Tryz.ntmps420 (Own.start w) (zB (zG O (zG O (zA (zB (zG O (zA (zK (zB (zC O (zo (pR hv) O O (zC O (zA (zU (xt (fun(k:Nat) (rv:Value) (bs:List (Value×List UInt8))=>[(0,Vn k0),(1,v),(6,rv),(11,v),(12,Vj l.length),(13,Vj k)]) (fun(k:Nat) (rv:Value) (bs:List (Value×List UInt8))=>(k≤l.length∧bs.length=k)∧∀ p∈bs,p.2.length≤4200) (fun(k:Nat) (rv:Value) (bs:List (Value×List UInt8))=>[vB rv bs,Res.star (bs.map bsR)]) (fun(k:Nat) (rv:Value) (bs:List (Value×List UInt8))=>l.length - k) (fun s n=>⟨0,zW,[],⟨O,O,O,O,O,O,trivial⟩,⟨⟨Nat.zero_le _,O⟩,fun p hp=>by cases hp⟩,(zq n 77 1).qn⟩) (fun k rv bs g z=> ?_))))))))))))))))
  have a6:=z.1.1
  have a0:=z.1.2
  have y:=z.2
  refine zB (zy O O O (zA (zK (zT O (fun c1=> ?_) (fun c1=> ?_)))))
  ·have h:=hx _ (zx (l:=l) (j:=k) qE)
   have a7:=EntA.enc_le h.1.2
   have a8:(zf l k).wf:=h.1.2
   have a9:=h.1.1.1.2.2.2
   have aa:k=0:=by omega
   refine zN (zK (zU (zB (zC O (yH (pR hv) 5 k O O O qE O (jC (pR hv) 5 k (off:=yk v+k*5) (fun _=>O) O O qE O (zk (v:= .agg #[Vn 0,Vn 0,Vi 0,Vi 0,zW]) qD O (fun b8=>zG O (ze 2 O O O (zF O (zF O (zF O (zF O (zF (Sl.cell1 (Rd.φ ((d _ (zx qE)).dv))) zh))))) O (zA (zB (z1 (cs:=(EntD.cells (zf l k))) 2 O O O (zH O O (fun s n=>(zBO (zf l k) s ‹_› ((d _ (zx qE)).at0 n)).mono ?_))))))))))))))
   rintro _ w1 ⟨m,rfl,hO⟩
   refine(?_:CL _ _ _ _ _ _ (Own w [] [_,_,_,_])) w1 (n.qb hO)
   refine zC O (zb (vs:=[m,Vi (yB (zf l k).ok)]) O O O (zb (vs:=[m,Vi (yB (zf l k).ok)]) O O O (zG O (zG O (zA (zK (yZ qD qD (zR O za (zR O (zF1 O O) (zR O za (zDw (q:=(yB (zf l k).ok)≠0) 7 2 [32,31,30,29,28,27,26] ((((zf l k).index:Nat):Int)≠((k0+k:Nat):Int)) O O O O O O trivial O (fun b=> ?_) (fun a1=> ?_))))))))))))
   ·refine yQ O (gF b) (zR O (zL (o:=0) O) (yQ O (gF b) (zR O (zZ 2 (v:=Vn ((zf l k).index)) O O O) (yQ O (gF b) (zR O za (yQ O (gF b) (zR O za (yQ O (gF b) (zR O (kP qD O (yp qE) qD) (yQ O (gF b) (zR O (xL O O (yp qE)) (yQ O (gF b) (zR O (zF1 O O) (zCh O))))))))))))))
   refine zR O za (zDw (q:=((yB (zf l k).ok)≠0)∨((((zf l k).index:Nat):Int)≠((k0+k:Nat):Int))) 13 11 [47,46,45,44,43,42,41,40,39,38,37,36,35] ((0<((k:Nat):Int))∧((((zf l k).term:Nat):Int)<(((zf l ((((k:Nat):Int) - 1).toNat)).term:Nat):Int))) O O O O O O trivial O (fun c=> ?_) (fun a2=> ?_))
   ·refine yQ O (gF c) (zR O za (yQ O (gF c) (zR O (zCX O O) (yQ O (gF c) (zR O za (zB7 (q:=0<((k:Nat):Int)) 9 14 [46,45,44,43,42,41,40,39,38] ((((zf l k).term:Nat):Int)<(((zf l ((((k:Nat):Int) - 1).toNat)).term:Nat):Int)) O O O O O O ⟨_,O,O,gF c⟩ O (fun a=> ?_) (fun a3=> ?_)))))))
    ·refine yQ O (gT a) (zR O (zL (o:=1) O) (yQ O (gT a) (zR O (zZ 2 (v:=Vn ((zf l k).term)) O O O) (yQ O (gT a) (zR O za (yQ O (gT a) (zR O za (yQ O (gT a) (zR O (jO O O (zt qE)) (yQ O (gT a) (zR O (kN (pR hv) 5 ((((k:Nat):Int) - 1).toNat) O O qE qE) (yQ O (gT a) (zR O (zL (o:=1) O) (yQ O (gT a) (zR O (zBy (pR hv) 5 ((((k:Nat):Int) - 1).toNat) 1 (off:=yk v+((((k:Nat):Int) - 1).toNat)*5+1) (fun _=>O) O qM qE O) (yQ O (gT a) (zR O (zIU O O) (zCh O))))))))))))))))))
    exact zCh O
   refine xP (zT O (fun c2=> ?_) (fun c2=> ?_))
   ·exact absurd c2 (by rw[xe h.1.1];have:=h.2;omega)
   refine zN (zd (zC O (zC O (zS (fun s n=>Own.qa (i:=3) O n) (fun u=>(kU (e:=77) (vs:=[m]) qD O O (zF u zh) V O (fun ab=>yE (g:=pv) (sz:=1) (by':=24) (fun _=>O) (l:=bs) (l':=[(m,(if(zf l k).ok then(zf l k).enc else []))]) (all_cons ((zF u zh)) qH) 0 qD O O O (fun s a4=>Vec.sl (Own.holds a4 4 _ O)) qF V O (fun a5=>zG O (zA (zd (zr O O (zt qE) O (zC O (zw (fun s n=>⟨k+1,a5,bs++[(m,(if(zf l k).ok then(zf l k).enc else []))],⟨O,O,O,O,O,O,trivial⟩,⟨⟨by omega,by rw[List.length_append,a0];rfl⟩,zML y (by show(if(zf l k).ok then(zf l k).enc else []).length≤4200;rw[if_pos h.1.1];omega)⟩,((n.qw (g:=bsR) (x:=(m,(if(zf l k).ok then(zf l k).enc else []))) 1 3 V O O).sel [0,1] O V),qE⟩))))))))))))))
  refine zz O (zB (zC O (zG O (zG O (zA (zP (yg (v:=rv) (v':=xl) O O O (fun s n=>⟨rv,bs,O,qE,y,n⟩))))))))
theorem zGv{S:List Nat}(stb db hb sb wb:Nat)(tm:Nat)(vo:Int)(vv wv dv lv:Value)(es:List EntD)(W:WlS)(D:DskD)(kf:List (ByteArray×FilD))(k0:Nat)(v:Value)(l:List EntD)(w:World)(hl:l.length=1)(ao:k0=1+es.length)(hx:∀ e∈l,(e.toEntA.ok∧e.toEntA.wf)∧e.index=k0)(hW:WlOk W es.length)(hn:es.length<98)(hk:DskCl D)(ap:kf.length<4000)(hr:((tot kf+6000:Nat):Int)≤D.room)(aq:D.room≤4194304)(af:Own w S [zA9 stb db tm vo vv wv dv lv hb sb wb,vE lv es,sE es,Res.wl db wb W,Res.dk db D kf] w)(hv:Rd w S (Res.sl v l.length (l.flatMap EntD.cells)))(t:∀ p∈l,EntD.rd p w S):Rets Tryz.prog 288 #[pt stb,Vn k0,v] w fun u_ c=>∃ (v2:Value) (a4:List EntD) (W':WlS) (D':DskD) (fn:ByteArray) (f:FilD),u_=Vi 0∧a4.map EntD.toEntA=es.map EntD.toEntA++l.map EntD.toEntA∧WlOk W' (es.length+1)∧DskCl D'∧D'.room=D.room∧f.bs.length≤((zl fn kf).getD kJ).bs.length+6000∧Own w S [zA9 stb db tm vo vv wv dv v2 hb sb wb,vE v2 a4,sE a4,Res.wl db wb W',Res.dk db D' (yS fn f kf)] c:=by
  refine zO Tryz.func288 O Tryz.ntmps288 af (zB (zG O (zA (zK (zB (zC O (zH O O (fun c a=>(zFg stb db tm vo vv wv dv lv hb sb wb c (a.give [0] O V)).mono ?_))))))))
  rintro _ w1 ⟨rfl,u⟩
  refine fq [0] O a u (zG O (zA (zB (zC O (yd O O O (zA (zT O (fun c1=> ?_) (fun c1=> ?_))))))))
  ·exact absurd O c1
  refine zN (zB (zC O (zC O (zH O O (fun c a=>(zHG k0 v l c qF qF ‹_› (a.rd0 hv) (fun p hp=>EntD.rd.at0 (t p hp) a)).mono ?_)))))
  rintro _ w1 ⟨a5,aa,rfl,ag,a1,u⟩
  refine(?_:CL _ _ _ _ _ _ (Own w S [_,_,_,_,_,_,_])) w1 (a.qb u)
  refine zC O (zb (vs:=[a5,xl]) O O O (zb (vs:=[a5,xl]) O O O (zG O (zG O (zA (zB (zC O (zV O O (zI (o:=1) O O (zI (o:=2) O O (zI (o:=0) O O (zJ 4 (v:=Vn 0) O O O O (zG O (zA (zB (zC O (zr O O (yp qE) O (zC O (zV O O (zI (o:=1) O O (zI (o:=7) O O (zJ 4 (v:=lv) O O O O (zo (pV 0 O) O O (ya qD O (yp qE) O ?_ qD))))))))))))))))))))))))
  refine zr O O (yp qE) O (zG O (zA (zK (zU (zB (zC O (xi (b:=true) O O (zG O (zA (yT O (zB (zC O (zC O (yq O O O (zG O (zA (zT O (fun c3=> ?_) (fun c3=> ?_))))))))))))))))))
  ·exact absurd c3 qE
  refine zB (zC O (zC O (yU O O O (zG O (zA (zT O (fun c4=> ?_) (fun c4=> ?_)))))))
  ·exact absurd c4 qE
  refine zN (zK (zB (zC O (zC O (zy O O O (zA (zT O (fun c5=> ?_) (fun c5=> ?_))))))))
  ·exact absurd c5 qE
  refine zN (zK (zB (zC O (zC O (zV O O (zI (o:=11) O O (zJ 4 (v:=pt wb) O O O O (zC O (zH O O (fun c a=>(zPl _ wb _ es.length _ _ a5 aa c ‹_› qF (fun p hp=>Nat.le_trans (a1 p hp) V) ‹_› qF qF qF (a.give [2,3] O V) (a.rdVec 5 O [2,3] O O) (BsRd.star 6 O [2,3] O O a)).mono ?_))))))))))
  rintro _ w1 ⟨W'3_,D'4_,x,a3,rfl,y,a9,q,r,u⟩
  refine fq [2,3] O a u (zH O O (fun c a=>(zG1 stb db tm vo vv wv dv lv hb sb wb c (a.give [2] O V)).mono ?_))
  rintro _ w1 ⟨rfl,u⟩
  refine fq [2] O a u (zG O (zA (zB (zC O (yd O O O (zA (zT O (fun c6=> ?_) (fun c6=> ?_))))))))
  ·exact absurd O c6
  refine zN (zK (zB (zC O (zC O (zV O O (zI (o:=11) O O (zJ 6 (v:=pt wb) O O O O (zH O O (fun c a=>(zOM _ wb W'3_ D'4_ (yS x a3 kf) c ‹_› (by have:=zAe (k:=x) (f:=a3) (l:=kf);omega) (a.give [4,5] O V)).mono ?_)))))))))
  rintro _ w1 ⟨D'7_,rfl,a0,s,u⟩
  refine fq [4,5] O a u (zH O O (fun c a=>(zG1 stb db tm vo vv wv dv lv hb sb wb c (a.give [4] O V)).mono ?_))
  rintro _ w1 ⟨rfl,u⟩
  refine fq [4] O a u (zG O (zA (zB (zC O (yd O O O (zA (zT O (fun c7=> ?_) (fun c7=> ?_))))))))
  ·exact absurd O c7
  refine zN (zK (zc [2,4,5] O V qD (fun c a n=>zD 0 O za n (zD 1 O za n (zD 2 O (zX O) n (zD 3 O (zL (o:=1) O) n (zD 4 O (zL (o:=7) O) n (zD 6 O za n (zD 7 O (zG4 (cs:=[Vn 0,Vi 0,Vn 0,Vn 0,zW,zW,zW,v]) (z:=[Vn 0,Vi 0,Vn 0,Vn 0,zW,zW,zW,zW]) (pl:=[(0,2),(2,5),(7,1)]) qD ⟨(Sl.cell1 (Rd.φ hv)),trivial⟩ qD) n (z2 5 8 ?_ ?_))))))))))
  ·refine zm 5 O a (zJ 6 (v:=lv) O O O O (zE [2,4,5] O V (fun c a n=>zM 8 O a (zH O O (fun c a=>(zAL 0 0 0 0 zW [] zW [] zW [] v l c qF qF qF qF (fun e he=>Nat.le_trans (hx e he).1.1.1.2.2.2 V) Rd.nil Rd.nil Rd.nil (a.rd0 hv) (fun p hp=>EntD.rd.at0 (t p hp) a)).mono ?_)))))
   rintro _ w1 ⟨ak,al,am,a6,h,rfl,d,u⟩
   have ah:h.length=l.length:=by have:=congrArg List.length d;simpa using this
   refine(?_:CL _ _ _ _ _ _ (Own w S [_,_,_,_,_,_,_,_,_,_,_,_])) w1 (a.qb u)
   refine zE [2,4,5] O V (fun c a n=>zD 9 O (zC9 (o:=7) (v:=a6) O qD O) n (zM 10 O a (zS (fun c a=>EntD.c1all (EntD.rd.star0 11 O a)) (fun ab=>(yE (g:=EntD.cells) (sz:=5) (by':=56) (fun _=>O) (l:=es) (l':=h) ab 0 qD O O O (fun c a7=>Vec.sl (Own.holds a7 10 _ O)) qF V O (fun a2=>zE [2,4,5] O V (fun c a n=>zD 11 O (zX O) n (zD 12 O (zL (o:=1) O) n (zD 13 O (zL (o:=7) O) n (zM 14 O a (zS (fun c a=>Own.qa (i:=0) O a) (fun ac=>(zi 6 O O O ac O (zE [2,4,5] O V (fun c a n=>zY ((?_:C _ _ _ _ _ _ _ (Own w S [_,_,_,_,_,_,_,_,_,_,_,_])) _ a))))))))))))))))
   refine zB (zG O (zA (zP (zn (v:=Vi 0) O O (fun c a=>⟨a2,es++h,W'3_,D'7_,x,a3,O,(by rw[List.map_append,d]),y,a0,s.trans q,r,((a.starApp (g:=EntD.dres) (l:=es) (m:=h) 1 11 V O O).sel [6,0,1,4,5] O V)⟩)))))
  refine zm 8 O a (zH O O (fun c a=>(zAL 0 0 0 0 zW [] zW [] zW [] v l c qF qF qF qF (fun e he=>Nat.le_trans (hx e he).1.1.1.2.2.2 V) Rd.nil Rd.nil Rd.nil (a.rd0 hv) (fun p hp=>EntD.rd.at0 (t p hp) a)).mono ?_))
  rintro _ w1 ⟨ai,aj,an,a8,j,rfl,d,u⟩
  have ah:j.length=l.length:=by have:=congrArg List.length d;simpa using this
  refine(?_:CL _ _ _ _ _ _ (Own w S [_,_,_,_,_,_,_,_,_,_,_,_])) w1 (a.qb u)
  refine zE [2,4,5] O V (fun c a n=>zD 9 O (zC9 (o:=7) (v:=a8) O qD O) n (zM 5 O a (zJ 6 (v:=lv) O O O O (zE [2,4,5] O V (fun c a n=>zM 10 O a (zS (fun c a=>EntD.c1all (EntD.rd.star0 11 O a)) (fun ad=>(yE (g:=EntD.cells) (sz:=5) (by':=56) (fun _=>O) (l:=es) (l':=j) ad 0 qD O O O (fun c a7=>Vec.sl (Own.holds a7 10 _ O)) qF V O (fun a2=>zE [2,4,5] O V (fun c a n=>zD 11 O (zX O) n (zD 12 O (zL (o:=1) O) n (zD 13 O (zL (o:=7) O) n (zM 14 O a (zS (fun c a=>Own.qa (i:=0) O a) (fun ae=>(zi 6 O O O ae O (zE [2,4,5] O V (fun c a n=>zY ((?_:C _ _ _ _ _ _ _ (Own w S [_,_,_,_,_,_,_,_,_,_,_,_])) _ a)))))))))))))))))))
  refine zB (zG O (zA (zP (zn (v:=Vi 0) O O (fun c a=>⟨a2,es++j,W'3_,D'7_,x,a3,O,(by rw[List.map_append,d]),y,a0,s.trans q,r,((a.starApp (g:=EntD.dres) (l:=es) (m:=j) 1 11 V O O).sel [6,0,1,4,5] O V)⟩)))))
theorem zJ2{S:List Nat}(stb db hb sb wb:Nat)(tm:Nat)(vo:Int)(vv:Value)(vs:List Int)(wv:Value)(ws:List Int)(dv:Value)(data:List UInt8)(lv:Value)(es:List EntD)(w:World)(h1:vs.length≤100000)(h2:ws.length≤100000)(h3:data.length≤1000000)(h4:es.length≤100000)(h5:∀ e∈es,e.data.length≤1000000)(s:Own w S [zA9 stb db tm vo vv wv dv lv hb sb wb,vI vv vs,vI wv ws,vY dv data,vE lv es,sE es] w):Rets Tryz.prog 286 #[pt stb] w fun u b=>∃ (cv x r t:Value) (h:List EntD),u= .agg #[Vn tm,Vi vo,Vn 0,Vn 0,cv,x,r,t]∧h.map EntD.toEntA=es.map EntD.toEntA∧Own w S [zA9 stb db tm vo vv wv dv lv hb sb wb,vI vv vs,vI wv ws,vY dv data,vE lv es,sE es,vE t h,sE h] b:=by
  refine zO Tryz.func286 O Tryz.ntmps286 s (zB (zk (v:= .agg #[Vn 0,Vi 0,Vn 0,Vn 0,zW,zW,zW,zW]) qD O (fun b2=>zA (zK (zB (zC O (yF qD O O O (zA (yT O (zN (zB (zC O (zV O O (zI (o:=1) O O (xC 0 [Vn tm,Vi vo,Vn 0,Vn 0,vv,wv,dv,lv] O O (ye 1 O) qD O (zH O O (fun b a=>(zAL tm vo 0 0 vv vs wv ws dv data lv es b qF qF qF qF ‹_› (a.qh 1 O) (a.qh 2 O) (a.qh 3 O) (a.qh 4 O) (EntD.rd.star0 5 O a)).mono ?_)))))))))))))))))
  rintro _ y ⟨c,d,l,g,j,rfl,k,z⟩
  refine(?_:CL _ _ _ _ _ _ (Own w S [_,_,_,_,_,_,_,_,_,_,_,_])) y (a.qb z)
  refine zS (fun b a=>Own.qa (i:=7) O a) (fun m=>(zS (fun b a=>Own.qa (i:=8) O a) (fun n=>(zS (fun b a=>Own.qa (i:=9) O a) (fun p=>(zS (fun b a=>Own.qa (i:=10) O a) (fun q=>(ze 6 O O O (zF O (zF O (zF O (zF O (zF m (zF n (zF p (zF q zh)))))))) O (zA (zP (xc (cs:=[Vn tm,Vi vo,Vn 0,Vn 0,c,d,l,g]) O O qD (Own.qc (i:=6) O) (fun b a=>⟨c,d,l,g,j,O,k,a.sel [0,1,2,3,4,5,10,11] O V⟩))))))))))))
structure StoD where
  db:Nat
  hb:Nat
  sb:Nat
  wb:Nat
  tm:Nat
  vo:Int
  hl:Nat
  hv:Value
  hh:Bool
  ho:Value
  vv:Value
  vs:List Int
  wv:Value
  dv:Value
  lv:Value
  es:List EntD
  W:WlS
  D:DskD
  kf:List (ByteArray×FilD)
def Res.sto(b:Nat)(s:StoD):Res:=Res.star [zA9 b s.db s.tm s.vo s.vv s.wv s.dv s.lv s.hb s.sb s.wb,ka s.hb s.db zAy s.hl s.hv s.hh s.ho,vI s.vv s.vs,vI s.wv [],vY s.dv [],vE s.lv s.es,sE s.es,Res.wl s.db s.wb s.W,Res.dk s.db s.D s.kf]
structure StoOk(s:StoD)(c m:Nat):Prop where
  W:WlOk s.W s.es.length
  D:DskCl s.D
  room:s.D.room=1048576
  tot:tot s.kf≤c
  len:s.kf.length≤m
  hh:s.hh=false→s.hl=0∧s.hv= .slice none 0 0∧s.ho= .slice none 0 0
  vs:s.vs.length≤12
  es:∀ e∈s.es,e.data.length≤1000000
theorem zMc(db:Nat)(D:DskD)(kf:List (ByteArray×FilD))(vv:Value)(vs:List Int)(w:World)(n:DskCl D)(hl:kf.length=0)(o:D.room=1048576)(j:Rises vs)(k:0<vs.length)(b:vs.length≤12)(l:Own w (xH [Res.dk db D kf]) [Res.dk db D kf] w)(m:Rd w (xH [Res.dk db D kf]) (Res.sl vv vs.length (vs.flatMap I1))):Rets Tryz.prog 92 #[pt db, .agg #[Vn 0,Vn 0,vv,zW,zW]] w fun p q=>∃ (stb:Nat) (s:StoD) (d g h i:Value) (a:List EntD),p= .tuple #[pt stb, .agg #[Vn 0,Vi 0,Vn 0,Vn 0,d,g,h,i],Vi 0]∧StoOk s 0 1∧s.hh=false∧s.tm=0∧s.vo=0∧s.es=[]∧s.vs=vs∧a=[]∧Own w (xH [Res.dk db D kf]) [Res.sto stb s,vI d vs,vI g ([]:List Int),vY h ([]:List UInt8),vE i a,sE a] q:=by
  refine(zMk db D kf vv vs w n hl qE j k b l m).mono ?_
  rintro _ w1 ⟨stb,hb,sb,wb,W,cv,u,r,d,g,h,i,a,D',v,f,rfl,g1,g2,g3,g4,x,y⟩
  have c:kf=[]:=List.eq_nil_of_length_eq_zero hl
  refine⟨stb,⟨db,hb,sb,wb,0,0,0,zW,false,zW,cv,vs,u,r,zW,[],W,D',yS v f kf⟩,d,g,h,i,a,O,⟨g1,g3,g4.trans o,?_,?_,fun _=>⟨O,O,O⟩,b,fun e z=>by cases z⟩,O,O,O,O,O,List.eq_nil_of_length_eq_zero x,?_⟩
  · rw[c];show f.bs.length+0≤0;omega
  · rw[c];exact Nat.le_refl _
  exact((((zq y 130 5).qn).sel [0,1,4,5,6,12,13,2,3,7,8,9,10,11] rfl V).qf [0,1,2,3,4,5,6,7,8] rfl V).sel [5,0,1,2,3,4] rfl V
theorem zFX(stb:Nat)(s:StoD)(c m:Nat)(x:HrdD)(w:World)(a:StoOk s c m)(hh:s.hh=false)(i:x.ok)(j:x.term<18446744073709551616)(hc:c+100≤1048576)(hm:m<4096)(e:Own w (xH [Res.sto stb s]) [Res.sto stb s] w):Rets Tryz.prog 285 #[pt stb, .agg (HrdD.cells x).toArray] w fun n o=>∃ (b:StoD),n=Vi 0∧StoOk b (c+30) (m+1)∧b.tm=x.term∧b.vo=x.ql∧b.es=s.es∧b.vs=s.vs∧Own w (xH [Res.sto stb s]) [Res.sto stb b] o:=by
  obtain⟨q1,p,q⟩:=a.hh hh
  have r:=a.room
  have h1:=a.tot
  have h2:=a.len
  have g:=(e.qg 0 rfl).sel [0,1,8,2,3,4,5,6,7] rfl V
  rw[q1,p,q,hh]at g
  refine(zFz stb s.db s.hb s.sb s.wb s.tm s.vo s.vv s.wv s.dv s.lv s.D s.kf x w i j a.D qE qE (g.give [0,1,2] O V)).mono ?_
  rintro _ w1 ⟨t,u,v,D',f,d,rfl,g1,y,g3,z⟩
  have hp:=zAe (k:=d) (f:=f) (l:=s.kf)
  refine⟨⟨s.db,s.hb,s.sb,s.wb,x.term,x.ql,v,t,true,u,s.vv,s.vs,s.wv,s.dv,s.lv,s.es,s.W,D',yS d f s.kf⟩,O,⟨a.W,g1,y.trans r,by show tot (yS d f s.kf)≤_;omega,?_,fun h=>(by cases h),a.vs,a.es⟩,O,O,O,O,?_⟩
  · show(yS d f s.kf).length≤_
    rw[Go.Sc.zAT];split<;>omega
  exact((g.qi [0,1,2] rfl z).sel [6,7,0,1,2,3,4,5,8] rfl V).qf [0,1,2,3,4,5,6,7,8] rfl V
theorem zGP(stb:Nat)(s:StoD)(c m:Nat)(k0:Nat)(v:Value)(l:List EntD)(w:World)(d:StoOk s c m)(hl:l.length=1)(n:k0=1+s.es.length)(u:∀ e∈l,(e.toEntA.ok∧e.toEntA.wf)∧e.index=k0)(z:s.es.length<98)(hc:c+6000≤1048576)(hm:m<4000)(o:Own w (xH [Res.sto stb s]) [Res.sto stb s] w)(hv:Rd w (xH [Res.sto stb s]) (Res.sl v l.length (l.flatMap EntD.cells)))(a:∀ p∈l,EntD.rd p w (xH [Res.sto stb s])):Rets Tryz.prog 288 #[pt stb,Vn k0,v] w fun u_ w'=>∃ (g:StoD),u_=Vi 0∧StoOk g (c+6000) (m+1)∧g.tm=s.tm∧g.vo=s.vo∧g.es.map EntD.toEntA=s.es.map EntD.toEntA++l.map EntD.toEntA∧g.vs=s.vs∧g.hh=s.hh∧Own w (xH [Res.sto stb s]) [Res.sto stb g] w':=by
  have h0:=d.room
  have h1:=d.tot
  have h2:=d.len
  have i:=(o.qg 0 rfl).sel [0,5,6,7,8,1,2,3,4] rfl V
  refine(zGv stb s.db s.hb s.sb s.wb s.tm s.vo s.vv s.wv s.dv s.lv s.es s.W s.D s.kf k0 v l w hl n u d.W z d.D qE qE qE (i.give [0,1,2,3,4] O V) (i.rdTo hv [0,1,2,3,4] O) (fun p hp=>(a p hp).at i [0,1,2,3,4] O)).mono ?_
  rintro _ w1 ⟨v2,b,W',D',j,f,rfl,g1,g2,g3,g4,g5,hO⟩
  have hp:=zAe (k:=j) (f:=f) (l:=s.kf)
  have h:b.length=s.es.length+1:=by have:=congrArg List.length g1;simpa [hl]using this
  refine⟨⟨s.db,s.hb,s.sb,s.wb,s.tm,s.vo,s.hl,s.hv,s.hh,s.ho,s.vv,s.vs,s.wv,s.dv,v2,b,W',D',yS j f s.kf⟩,O,⟨by show WlOk W' b.length;rw[h];exact g2,g3,g4.trans h0,by show tot (yS j f s.kf)≤_;omega,?_,d.hh,d.vs,?_⟩,O,O,g1,O,O,?_⟩
  · show(yS j f s.kf).length≤_
    rw[Go.Sc.zAT];split<;>omega
  · intro e he
    have x:e.toEntA∈b.map EntD.toEntA:=List.mem_map_of_mem he
    rw[g1]at x
    rcases List.mem_append.1 x with q|q
    · obtain⟨y,r,t⟩:=List.mem_map.1 q
      rw[show e.data=y.data from congrArg EntA.data t.symm];exact d.es y r
    obtain⟨y,r,t⟩:=List.mem_map.1 q
    rw[show e.data=y.data from congrArg EntA.data t.symm]
    have:=(u y r).1.1.1.2.2.2
    show y.toEntA.data.length≤_;omega
  exact((i.qi [0,1,2,3,4] rfl hO).sel [4,0,1,2,3,5,6,7,8] rfl V).qf [0,1,2,3,4,5,6,7,8] rfl V
theorem zLa(stb:Nat)(s:StoD)(c m:Nat)(w:World)(g:StoOk s c m)(l:s.es.length≤1000)(d:Own w (xH [Res.sto stb s]) [Res.sto stb s] w):Rets Tryz.prog 286 #[pt stb] w fun i j=>∃ (cv e r b:Value) (a:List EntD),i= .agg #[Vn s.tm,Vi s.vo,Vn 0,Vn 0,cv,e,r,b]∧a.map EntD.toEntA=s.es.map EntD.toEntA∧Own w (xH [Res.sto stb s]) [Res.sto stb s,vE b a,sE a] j:=by
  have h:=(d.qg 0 rfl).sel [0,2,3,4,5,6,1,7,8] rfl V
  have hv:=g.vs
  refine(zJ2 stb s.db s.hb s.sb s.wb s.tm s.vo s.vv s.vs s.wv [] s.dv [] s.lv s.es w qE V V qE g.es (h.give [0,1,2,3,4,5] O V)).mono ?_
  rintro _ n ⟨cv,e,r,b,a,rfl,g1,k⟩
  exact⟨cv,e,r,b,a,O,g1,(((h.qi [0,1,2,3,4,5] O k).sel [3,0,4,5,6,7,8,1,2,9,10] O V).qf [0,1,2,3,4,5,6,7,8] O V).sel [2,0,1] O V⟩
end Go.Proofs.YtmpaljnacfidaaaGreatDoor
