import Derived.Test.YthpoddkmhfhboaaGreatDoorWal
set_option linter.unusedSimpArgs false
set_option linter.unusedVariables false
set_option maxRecDepth 10000
namespace Go.Proofs.YthpoddkmhfhboaaGreatDoor
open Go.Sc
def zBa(b db tm:Nat)(vo:Int)(vv wv dv lv:Value)(hb sb wb:Nat):Res:=Res.row b 233 [pt db,Vn tm,Vi vo,Vn 0,Vn 0,vv,wv,dv,lv,pt hb,pt sb,pt wb, .bool false]
def bsR(p:Value×List UInt8):Res:=vY p.1 p.2
theorem BsRd.star{es:List (Value×List UInt8)}{w0 w:World}{S:List Nat}{L Lin:List Res}(j:Nat)(a:L[j]?=some (Res.star (es.map bsR)))(m:List Nat)(b:m.mapM (fun i=>L[i]?)=some Lin)(c:m.any (Nat.beq j)=false)(h:Own w0 S L w):∀ p∈es,BsRd p w (xL Lin):=fun p hp=>(h.star j a m b c _ (List.mem_map_of_mem hp)).sub Vec.sl zAA
theorem zMX(v:Value)(l:List ByteArray)(x:ByteArray)(w:World)(d:∀ y∈l,y≠x)(hl:l.length≤1000000)(hv:Rd w [] (Res.sl v l.length (l.flatMap S1))):Rets Tryz.prog 219 #[v, .string x] w fun e b=>e=Vi (-1)∧Own w [] [] b:=by
 refine zO Tryz.func219 O Tryz.ntmps219 (Own.start w)<|zB<|zF O<|zA<|zK<|zB<|zC O<|zn (pR hv) O O<|zC O<|zA<|zU<|yQ (fun(k:Nat)=>[(0,v),(1, .string x),(7,Vj l.length),(8,Vj k)]) (fun(k:Nat)=>k≤l.length) (fun(k:Nat)=>[]) (fun(k:Nat)=>l.length - k) (fun b a=>⟨0,⟨O,O,O,O,trivial⟩,Nat.zero_le _,a⟩)<|fun k g i=>(zB<|zu O O O<|zA<|zK<|zT O (fun h=> ?_)<|fun h=> ?_)
 ·refine zN<|zK<|zU<|zB<|zC O<|zF O<|zA<|zB<|zC O<|zC O<|zC O<|yL (pR hv) 1 k O O O qG O<|xC (pR hv) 1 k 0 (fun _=>O) O O qG O O<|zEq O O O<|zA<|zT O (fun c=> ?_)<|fun c=> ?_
  ·exact absurd c.symm<|d _<|zy qG
  refine zN<|ze<|zr O O (zt qG) O<|zC O<|zx<|fun b a=>⟨k+1,⟨O,O,O,O,trivial⟩,qG,a,qG⟩
 refine zw O<|zB<|zF O<|zA<|zP<|zm (v:=Vi (-1)) O O<|fun b a=>⟨O,a.drop⟩
theorem zF4(v:Value)(l:List ByteArray)(x:ByteArray)(w:World)(g:∀ y∈l,y≠x)(hl:l.length≤1000000)(hv:Rd w [] (Res.sl v l.length (l.flatMap S1))):Rets Tryz.prog 114 #[v, .string x] w fun c a=>c=yC∧Own w [] [] a:=by
 refine zO Tryz.func114 O Tryz.ntmps114 (Own.start w)<|zB<|zF O<|zA<|zB<|zC O<|zC O<|zG O O<|fun a b=>(zMX v l x a ‹_› qH<|b.rd0 hv).mono ?_
 rintro _ d ⟨rfl,e⟩
 refine(?_:CL _ _ _ _ _ _ (Own w [] [])) d<|b.qb e
 refine xJ O O O<|zF O<|zA<|zP<|zm (v:= .bool (decide (0≤(-1)))) O O<|fun a b=>⟨O,b.drop⟩
theorem zF8{S:List Nat}(stb db tm:Nat)(vo:Int)(vv wv dv lv:Value)(hb sb wb:Nat)(w:World)(a:Own w S [zBa stb db tm vo vv wv dv lv hb sb wb] w):Rets Tryz.prog 325 #[pt stb] w fun c b=>c=Vi 0∧Own w S [zBa stb db tm vo vv wv dv lv hb sb wb] b:=by
 refine zO Tryz.func325 O Tryz.ntmps325 a<|zB<|zF O<|zA<|zK<|zU<|zB<|zC O<|yE qF O O O<|zF O<|zA<|yW O<|zB<|zC O<|zV O O<|zI (o:=12) O O<|zJ 0 (v:=yC) O O O O<|zF O<|zA<|yW O<|zN<|zB<|zF O<|zA<|zP<|zm (v:=Vi 0) O O<|fun b d=>⟨O,d⟩
theorem zGu{S:List Nat}(stb db tm:Nat)(vo:Int)(vv wv dv lv:Value)(hb sb wb:Nat)(w:World)(a:Own w S [zBa stb db tm vo vv wv dv lv hb sb wb] w):Rets Tryz.prog 326 #[pt stb,Vi 0] w fun c b=>c=Vi 0∧Own w S [zBa stb db tm vo vv wv dv lv hb sb wb] b:=by
 refine zO Tryz.func326 O Tryz.ntmps326 a<|zB<|zF O<|zA<|zB<|zC O<|zC O<|zV O O<|zI (o:=12) O O<|zJ 0 (v:=yC) O O O O<|zC O<|zQ O O<|zC O<|zQ O O<|yT O O O<|xA O O<|zV O O<|zI (o:=12) O O<|zi 0 O O O O O<|zA<|zB<|zC O<|zF O<|zA<|zP<|zm (v:=Vi 0) O O<|fun b d=>⟨O,d⟩
theorem zLg(v:Value)(l:List Int)(w:World)(hl:l.length≤1000)(d:∀ x∈l,x=0)(hv:Rd w [] (Res.sl v l.length (l.flatMap I1))):Rets Tryz.prog 113 #[v] w fun e b=>e=Vi 0∧Own w [] [] b:=by
 refine zO Tryz.func113 O Tryz.ntmps113 (Own.start w)<|zB<|zF O<|zA<|zK<|zB<|zC O<|zn (pR hv) O O<|zC O<|zA<|zU<|yQ (fun(k:Nat)=>[(5,v),(6,Vj l.length),(7,Vj k)]) (fun(k:Nat)=>k≤l.length) (fun(k:Nat)=>[]) (fun(k:Nat)=>l.length - k) (fun b a=>⟨0,⟨O,O,O,trivial⟩,Nat.zero_le _,a⟩)<|fun k g i=>(zB<|zu O O O<|zA<|zK<|zT O (fun h=> ?_)<|fun h=> ?_)
 ·refine zN<|zK<|zU<|zB<|yL (pR hv) 1 k O O O qG O<|xC (pR hv) 1 k 0 (fun _=>O) O O qG O O<|zF O<|zA<|zB<|zC O<|yf O O O<|zA<|zT O (fun c=> ?_)<|fun c=> ?_
  ·exact absurd (d _<|zy qG) c
  refine zN<|ze<|zr O O (zt qG) O<|zC O<|zx<|fun b a=>⟨k+1,⟨O,O,O,trivial⟩,qG,a,qG⟩
 refine zw O<|zB<|zF O<|zA<|zP<|zm (v:=Vi 0) O O<|fun b a=>⟨O,a.drop⟩
theorem zOV{S:List Nat}(sb db:Nat)(nm:ByteArray)(a:Nat)(d ov:Value)(w:World)(e:Own w S [k9 sb db nm a d false ov] w):Rets Tryz.prog 224 #[pt sb, .func (.func 225) #[] #[]] w fun h b=>h= .tuple #[.agg #[Vn 0,Vi 0],yC]∧Own w S [k9 sb db nm a d false ov] b:=by
 refine zO Tryz.func224 O Tryz.ntmps224 e<|zB<|zk (v:= .agg #[Vn 0,Vi 0]) qF O<|fun l=>zF O<|zA<|zB<|zC O<|zG O O<|fun b c=>(zEM sb db nm a d ov b<|c.give [0] O V).mono ?_
 rintro _ j ⟨rfl,k⟩
 refine(?_:CL _ _ _ _ _ _ (Own w S [_,_])) j<|c.qc [0] O k
 refine zC O<|zb (vs:=[zW,Vi 8]) O O O<|zb (vs:=[zW,Vi 8]) O O O<|zF O<|zF O<|zA<|zK<|zB<|zC O<|yf O O O<|zA<|zT O (fun g=> ?_)<|fun g=> ?_
 ·refine zB<|z6 (cs:=[Vn 0,Vi 0]) 0 O O O<|zf 0 O O O (zz O) O<|zF O<|zA<|zP<|yk (cs:=[Vn 0,Vi 0]) (v:=yC) O O O qF (Own.qd (i:=0) O)<|fun b c=>⟨O,c.sel [1] O V⟩
 exact absurd V g
theorem zAh(tm:Nat)(vo:Int)(ix st:Nat)(vv:Value)(vs:List Int)(wv:Value)(ws:List Int)(dv:Value)(data:List UInt8)(lv:Value)(es:List EntD)(w:World)(h1:vs.length≤100000)(h2:ws.length≤100000)(h3:data.length≤1000000)(h4:es.length≤100000)(h5:∀ e∈es,e.data.length≤1000000)(a8:Rd w [] (Res.sl vv vs.length (vs.flatMap I1)))(a9:Rd w [] (Res.sl wv ws.length (ws.flatMap I1)))(aj:Rd w [] (Res.sl dv data.length (data.map vb)))(aa:Rd w [] (Res.sl lv es.length (es.flatMap EntD.cells)))(h:∀ p∈es,EntD.rd p w []):Rets Tryz.prog 118 #[.agg #[Vn tm,Vi vo,Vn ix,Vn st,vv,wv,dv,lv]] w fun u_ b=>∃ (cv cw r s:Value) (c:List EntD),u_= .agg #[Vn tm,Vi vo,Vn ix,Vn st,cv,cw,r,s]∧c.map EntD.toEntA=es.map EntD.toEntA∧Own w [] [vI cv vs,vI cw ws,vY r data,vE s c,sE c] b:=by
 refine zO Tryz.func118 O Tryz.ntmps118 (Own.start w)<|zB<|zj O O<|fun b1=>zk (v:= .agg #[Vn 0,Vi 0,Vn 0,Vn 0,zW,zW,zW,zW]) qF O<|fun b2=>zA<|zB<|zI (o:=2) O O<|zI (o:=4) O O<|zJ 0 (v:=dv) O O O O<|zG O O<|fun b a=>(y3 dv data b qI<|a.rd0 aj).mono ?_
 rintro m n ⟨_,rfl,q⟩
 refine(?_:CL _ _ _ _ _ _ (Own w [] [_,_,_])) n<|a.qb q
 refine zI (o:=2) O O<|zI (o:=4) O O<|zS (fun b a=>Own.qa (i:=2) O a)<|fun a1=>(zi (cs:=[Vn tm,Vi vo,Vn ix,Vn st,vv,wv,dv,lv]) 0 O O O a1 O<|zA<|zLm (fun(cv cw:Value)=>[(1,pt b1),(2,pt b2)]) (fun(cv cw:Value)=>True) (fun(cv cw:Value)=>[Res.row b1 182 [Vn tm,Vi vo,Vn ix,Vn st,cv,cw,m,lv],Res.row b2 182 [Vn 0,Vi 0,Vn 0,Vn 0,zW,zW,zW,zW],vI cv vs,vI cw ws,vY m data]) ?_<|fun cv cw g hΦ=> ?_)
 ·refine zd [1,2] O V qF<|fun b a d=>zD 0 O (zL (o:=2) O) d<|zD 1 O (zL (o:=2) O) d<|zD 2 O (zL (o:=0) O) d<|zD 5 O (zL (o:=2) O) d<|zD 6 O (zL (o:=2) O) d<|zD 7 O (zL (o:=1) O) d<|z7 3 8 ?_ ?_
  ·refine zo 3 O a<|zJ 0 (v:=vv) O O O O<|zE [1,2] O V<|fun b a d=>z7 4 8 ?_ ?_
   ·refine zo 4 O a<|zG O O<|fun b a=>(y4 vv vs b qI<|a.rd0 a8).mono ?_
    rintro ad n ⟨_,rfl,q⟩
    refine(?_:CL _ _ _ _ _ _ (Own w [] [_,_,_,_])) n<|a.qb q
    refine zE [1,2] O V<|fun b a d=>zM 8 O a<|zJ 0 (v:=wv) O O O O<|zE [1,2] O V<|fun b a d=>zM 9 O a<|zG O O<|fun b a=>(y4 wv ws b qI<|a.rd0 a9).mono ?_
    rintro ae n ⟨_,rfl,q⟩
    refine(?_:CL _ _ _ _ _ _ (Own w [] [_,_,_,_,_])) n<|a.qb q
    refine zE [1,2] O V<|fun b a d=>zM 10 O a<|zS (fun b a=>Own.qa (i:=3) O a)<|fun a2=>(zS (fun b a=>Own.qa (i:=4) O a)<|fun a3=>(xP (cs:=[ad,ae]) (z:=[zW,zW]) (pl:=[(0,1),(1,1)]) qF ⟨a2,a3,trivial⟩ qF O<|zE [1,2] O V<|fun b a d=>zD 11 O (zL (o:=2) O) d<|zD 12 O (zL (o:=2) O) d<|zM 13 O a<|zf 0 O O O (zH a2<|zH a3 zh) O<|zE [1,2] O V<|fun b a d=>zX (⟨ad,ae,⟨O,O,trivial⟩,trivial,a.sel [0,1,3,4,2] O V⟩)))
   refine zo 8 O a<|zJ 0 (v:=wv) O O O O<|zE [1,2] O V<|fun b a d=>zM 4 O a<|zG O O<|fun b a=>(y4 vv vs b qI<|a.rd0 a8).mono ?_
   rintro af n ⟨_,rfl,q⟩
   refine(?_:CL _ _ _ _ _ _ (Own w [] [_,_,_,_])) n<|a.qb q
   refine zE [1,2] O V<|fun b a d=>zM 9 O a<|zG O O<|fun b a=>(y4 wv ws b qI<|a.rd0 a9).mono ?_
   rintro ag n ⟨_,rfl,q⟩
   refine(?_:CL _ _ _ _ _ _ (Own w [] [_,_,_,_,_])) n<|a.qb q
   refine zE [1,2] O V<|fun b a d=>zM 10 O a<|zS (fun b a=>Own.qa (i:=3) O a)<|fun a4=>(zS (fun b a=>Own.qa (i:=4) O a)<|fun a5=>(xP (cs:=[af,ag]) (z:=[zW,zW]) (pl:=[(0,1),(1,1)]) qF ⟨a4,a5,trivial⟩ qF O<|zE [1,2] O V<|fun b a d=>zD 11 O (zL (o:=2) O) d<|zD 12 O (zL (o:=2) O) d<|zM 13 O a<|zf 0 O O O (zH a4<|zH a5 zh) O<|zE [1,2] O V<|fun b a d=>zX (⟨af,ag,⟨O,O,trivial⟩,trivial,a.sel [0,1,3,4,2] O V⟩)))
  refine zo 8 O a<|zJ 0 (v:=wv) O O O O<|zE [1,2] O V<|fun b a d=>zM 3 O a<|zJ 0 (v:=vv) O O O O<|zE [1,2] O V<|fun b a d=>zM 4 O a<|zG O O<|fun b a=>(y4 vv vs b qI<|a.rd0 a8).mono ?_
  rintro ah n ⟨_,rfl,q⟩
  refine(?_:CL _ _ _ _ _ _ (Own w [] [_,_,_,_])) n<|a.qb q
  refine zE [1,2] O V<|fun b a d=>zM 9 O a<|zG O O<|fun b a=>(y4 wv ws b qI<|a.rd0 a9).mono ?_
  rintro ai n ⟨_,rfl,q⟩
  refine(?_:CL _ _ _ _ _ _ (Own w [] [_,_,_,_,_])) n<|a.qb q
  refine zE [1,2] O V<|fun b a d=>zM 10 O a<|zS (fun b a=>Own.qa (i:=3) O a)<|fun a6=>(zS (fun b a=>Own.qa (i:=4) O a)<|fun a7=>(xP (cs:=[ah,ai]) (z:=[zW,zW]) (pl:=[(0,1),(1,1)]) qF ⟨a6,a7,trivial⟩ qF O<|zE [1,2] O V<|fun b a d=>zD 11 O (zL (o:=2) O) d<|zD 12 O (zL (o:=2) O) d<|zM 13 O a<|zf 0 O O O (zH a6<|zH a7 zh) O<|zE [1,2] O V<|fun b a d=>zX (⟨ah,ai,⟨O,O,trivial⟩,trivial,a.sel [0,1,3,4,2] O V⟩)))
 refine zB<|zF O<|zA<|zK<|zB<|zI (o:=7) O O<|zJ 0 (v:=lv) O O O O<|zn (pR aa) O O<|zC O<|zA<|zU<|xV (fun(k:Nat) (s:Value) (c:List EntD)=>[(1,pt b1),(2,pt b2),(3,s),(26,lv),(27,Vj es.length),(28,Vj k)]) (fun(k:Nat) (s:Value) (c:List EntD)=>k≤es.length∧c.map EntD.toEntA=(es.take k).map EntD.toEntA) (fun(k:Nat) (s:Value) (c:List EntD)=>[Res.row b1 182 [Vn tm,Vi vo,Vn ix,Vn st,cv,cw,m,lv],Res.row b2 182 [Vn 0,Vi 0,Vn 0,Vn 0,zW,zW,zW,zW],vI cv vs,vI cw ws,vY m data,vE s c,sE c]) (fun(k:Nat) (s:Value) (c:List EntD)=>es.length - k) (fun b a=>⟨0,zW,[],⟨O,O,O,O,O,O,trivial⟩,⟨Nat.zero_le _,O⟩,(zq a 113 5).qn⟩)<|fun k s c g hΦ=> ?_
 have am:c.length=min k es.length:=by have:=congrArg List.length hΦ.2;simpa using this
 refine zB<|zu O O O<|zA<|zK<|zT O (fun c1=> ?_)<|fun c1=> ?_
 ·have an:=h5 _ (zy (l:=es) (j:=k) qG)
  refine zN<|zK<|zU<|zB<|yL (pR aa) 5 k O O O qG O<|jy (pR aa) 5 k (off:=yr lv+k*5) (fun _=>O) O O qG O<|zk (v:= .agg #[Vn 0,Vn 0,Vi 0,Vi 0,zW]) qF O<|fun b5=>zf 7 O O O (zH O<|zH O<|zH O<|zH O<|zH (Sl.cell1<|Rd.φ<|(h _<|zy qG).dv) zh) O<|zA<|zB<|zI (o:=4) O O<|zJ 7 (v:=(zc es k).dv) O O O O<|zG O O<|fun b a=>((y3 ((zc es k).dv) ((zc es k).data) b qI<|a.rd0<|(h _<|zy qG).dv).mono ?_)
  rintro a0 n ⟨_,rfl,q⟩
  refine(?_:CL _ _ _ _ _ _ (Own w [] [_,_,_,_,_,_,_,_,_])) n<|a.qb q
  refine zI (o:=4) O O<|zS (fun b a=>Own.qa (i:=8) O a)<|fun u=>(zi (cs:=(EntD.cells<|zc es k)) 7 O O O u O<|zA<|ze<|zC O<|z6 7 O O O<|yH (e:=113) (sz:=5) (vs:=[.agg #[Vn ((zc es k).index),Vn ((zc es k).term),Vi ((zc es k).kind),Vi ((zc es k).delta),a0]]) qF O O qS V O<|fun ao=>yF (g:=EntD.cells) (sz:=5) (by':=56) (fun _=>O) (l:=c) (l':=[({(zc es k)with dv:=a0}:EntD)]) (all_cons ((zH O<|zH O<|zH O<|zH O<|zH u zh)) qJ) 5 qF O O O (fun b ak=>Vec.sl<|Own.holds ak 9 _ O) qH V O<|fun al=>zF O<|zA<|ze<|zr O O (zt qG) O<|zC O<|zx<|fun b a=>⟨k+1,al,c++[({(zc es k)with dv:=a0}:EntD)],⟨O,O,O,O,O,O,trivial⟩,⟨by omega,by rw[List.map_append,yl qG,List.map_append,hΦ.2];rfl⟩,((a.qw (x:=({(zc es k)with dv:=a0}:EntD)) 6 8 V O O).sel [0,1,2,3,4,5,6] O V),qG⟩)
 refine zw O<|zB<|zC O<|zI (o:=7) O O<|zS (fun b a=>Own.qa (i:=5) O a)<|fun y=>(zi (cs:=[Vn tm,Vi vo,Vn ix,Vn st,cv,cw,m,lv]) 0 O O O y O<|zA<|zB<|z6 (cs:=[Vn tm,Vi vo,Vn ix,Vn st,cv,cw,m,s]) 0 O O O<|zS (fun b a=>Own.qa (i:=2) O a)<|fun ab=>(zS (fun b a=>Own.qa (i:=3) O a)<|fun ac=>(zf 1 O O O (zH O<|zH O<|zH O<|zH O<|zH ab<|zH ac<|zH a1<|zH y zh) O<|zA<|zP<|xg (cs:=[Vn tm,Vi vo,Vn ix,Vn st,cv,cw,m,s]) O O qF (Own.qd (i:=1) O)<|fun b a=>⟨cv,cw,m,s,c,O,by rw[hΦ.2,List.take_of_length_le qG],a.sel [2,3,4,5,6] O V⟩)))
theorem zNO{S:List Nat}(sb db:Nat)(nm:ByteArray)(a:Nat)(d ov:Value)(w:World)(e:Own w S [k9 sb db nm a d false ov] w):Rets Tryz.prog 226 #[pt sb, .func (.func 227) #[] #[]] w fun h b=>h= .tuple #[.agg #[Vn 0,Vn 0,zW,zW,zW],yC]∧Own w S [k9 sb db nm a d false ov] b:=by
 refine zO Tryz.func226 O Tryz.ntmps226 e<|zB<|zk (v:= .agg #[Vn 0,Vn 0,zW,zW,zW]) qF O<|fun l=>zF O<|zA<|zB<|zC O<|zG O O<|fun b c=>(zEM sb db nm a d ov b<|c.give [0] O V).mono ?_
 rintro _ j ⟨rfl,k⟩
 refine(?_:CL _ _ _ _ _ _ (Own w S [_,_])) j<|c.qc [0] O k
 refine zC O<|zb (vs:=[zW,Vi 8]) O O O<|zb (vs:=[zW,Vi 8]) O O O<|zF O<|zF O<|zA<|zK<|zB<|zC O<|yf O O O<|zA<|zT O (fun g=> ?_)<|fun g=> ?_
 ·refine zB<|z6 0 O O O<|zf 0 O O O (zz O) O<|zF O<|zA<|zP<|yk (cs:=[Vn 0,Vn 0,zW,zW,zW]) (v:=yC) O O O qF (Own.qd (i:=0) O)<|fun b c=>⟨O,c.sel [1] O V⟩
 exact absurd V g
def zBJ:ByteArray:=⟨#[104,97,114,100]⟩
def zGF:ByteArray:=⟨#[115,104,111,116]⟩
theorem zGS:zBR zBJ:=⟨⟨by decide,by decide⟩,by decide⟩
theorem zM8:zBR zGF:=⟨⟨by decide,by decide⟩,by decide⟩
theorem zOY{S:List Nat}(stb db hb sb wb:Nat)(W:WlS)(vv:Value)(vs:List Int)(w:World)(hW:WlOk W 0)(hv:vs.length≤100)(a0:Own w S [zBa stb db 0 0 zW zW zW zW hb sb wb,k9 hb db zBJ 0 zW false zW,k9 sb db zGF 0 zW false zW,Res.wl db wb W] w)(a1:Rd w S (Res.sl vv vs.length (vs.flatMap I1))):Rets Tryz.prog 117 #[pt stb, .agg #[Vn 0,Vn 0,vv,zW,zW]] w fun u_ e=>∃ (cv cw r:Value),u_=Vi 0∧Own w S [zBa stb db 0 0 cv cw r zW hb sb wb,k9 hb db zBJ 0 zW false zW,k9 sb db zGF 0 zW false zW,Res.wl db wb W,vI cv vs,vI cw ([]:List Int),vY r ([]:List UInt8)] e:=by
 refine zO Tryz.func117 O Tryz.ntmps117 a0<|zB<|zj O O<|fun b3=>zF O<|zA<|zB<|zC O<|zC O<|zV O O<|zI (o:=9) O O<|zJ 0 (v:=pt hb) O O O O<|zG O O<|fun e a=>(zOV hb db zBJ 0 zW zW e<|a.give [1] O V).mono ?_
 rintro _ n ⟨rfl,q⟩
 refine(?_:CL _ _ _ _ _ _ (Own w S [_,_,_,_,_])) n<|a.qc [1] O q
 refine zC O<|zb (vs:=[.agg #[Vn 0,Vi 0],yC]) O O O<|zb (vs:=[.agg #[Vn 0,Vi 0],yC]) O O O<|zV O O<|zI (o:=1) O O<|zI (o:=0) O O<|zf 0 O O O (zz O) O<|zA<|zB<|zC O<|zV O O<|zI (o:=10) O O<|zJ 0 (v:=pt sb) O O O O<|zG O O<|fun e a=>(zNO sb db zGF 0 zW zW e<|a.give [1] O V).mono ?_
 rintro _ n ⟨rfl,q⟩
 refine(?_:CL _ _ _ _ _ _ (Own w S [_,_,_,_,_])) n<|a.qc [1] O q
 refine zC O<|zb (vs:=[.agg #[Vn 0,Vn 0,zW,zW,zW],yC]) O O O<|zb (vs:=[.agg #[Vn 0,Vn 0,zW,zW,zW],yC]) O O O<|zk (v:= .agg #[Vn 0,Vn 0,zW,zW,zW]) qF O<|fun b5=>zf 5 O O O (zz O) O<|zF O<|zA<|zK<|zB<|zC O<|xo (b:=false) O O<|zA<|x0 O<|ze<|z6 (cs:=[Vn 0,Vn 0,vv,zW,zW]) 2 O O O<|xP (cs:=[Vn 0,Vi 0,Vn 0,Vn 0,vv,zW,zW,zW]) (z:=[Vn 0,Vi 0,Vn 0,Vn 0,zW,zW,zW,zW]) (pl:=[(0,2),(2,5),(7,1)]) qF ⟨trivial,trivial⟩ qF O<|zG O O<|fun e a=>(zAh 0 0 0 0 vv vs zW [] zW [] zW [] e qH qH qH qH (fun _ h=>by cases h) (a.rd0 a1) Rd.nil Rd.nil Rd.nil (fun p hp=>by cases hp)).mono ?_
 rintro _ n ⟨c,d,j,y,l,rfl,a2,q⟩
 refine(?_:CL _ _ _ _ _ _ (Own w S [_,_,_,_,_,_,_,_,_,_,_])) n<|a.qb q
 refine zRB (o:=2) (m:=5) (us:= #[Vn 0,Vn 0,c,d,j]) O qF O O<|zS (fun e a=>Own.qa (i:=6) O a)<|fun s=>(zS (fun e a=>Own.qa (i:=7) O a)<|fun u=>(zS (fun e a=>Own.qa (i:=8) O a)<|fun x=>(zf 5 O O O (zH O<|zH O<|zH s<|zH u<|zH x zh) O<|zA<|zB<|zC O<|z6 (cs:=[Vn 0,Vn 0,c,d,j]) 5 O O O<|zV O O<|zI (o:=1) O O<|zI (o:=2) O O<|zf 0 O O O (zH O<|zH O<|zH s<|zH u<|zH x zh) O<|zA<|zB<|zI (o:=0) O O<|zJ 5 (v:=Vn 0) O O O O<|zF O<|zF O<|zA<|zK<|zB<|zC O<|zV O O<|zI (o:=11) O O<|zJ 0 (v:=pt wb) O O O O<|zG O O<|fun e a=>(zMp _ wb _ e<|a.give [1] O V).mono ?_)))
 rintro _ n ⟨rfl,q⟩
 refine(?_:CL _ _ _ _ _ _ (Own w S [_,_,_,_,_,_,_,_,_,_,_])) n<|a.qc [1] O q
 refine zC O<|zr O O (yz qG) O<|yT O O O<|zA<|zT O (fun c2=> ?_)<|fun c2=> ?_
 ·refine ze<|zF O<|zA<|zK<|zB<|zC O<|xo (b:=true) O O<|zA<|yW O<|zN<|zK<|zB<|zC O<|zr O O (yz qG) O<|zF O<|zA<|zU<|yQ (fun(k:Nat)=>[(0,pt stb),(11,Vn k)]) (fun(k:Nat)=>k=1) (fun(k:Nat)=>[zBa stb db 0 0 c d j zW hb sb wb,Res.row b3 180 [Vn 0,Vn 0,vv,zW,zW],k9 hb db zBJ 0 zW false zW,k9 sb db zGF 0 zW false zW,Res.row b5 180 [Vn 0,Vn 0,c,d,j],vI c vs,vI d ([]:List Int),vY j ([]:List UInt8),vE y l,sE l,Res.wl db wb W]) (fun(k:Nat)=>0) (fun e a=>⟨1,⟨O,O,trivial⟩,O,a⟩)<|fun k g hΦ=> ?_
  have a3:=hΦ
  refine zK<|zB<|zC O<|zC O<|zV O O<|zI (o:=11) O O<|zJ 0 (v:=pt wb) O O O O<|zG O O<|fun e a=>(zPS _ wb _ 0 e ‹_› qH<|a.give [10] O V).mono ?_
  rintro _ n ⟨rfl,q⟩
  refine(?_:CL _ _ _ _ _ _ (Own w S [_,_,_,_,_,_,_,_,_,_,_])) n<|a.qc [10] O q
  refine zu O O O<|zA<|zT O (fun c4=> ?_)<|fun c4=> ?_
  ·exact absurd c4 qG
  refine zw O<|zB<|zF O<|zA<|zP<|zm (v:=Vi 0) O O<|fun e a=>⟨c,d,j,O,a.sel [0,2,3,10,5,6,7] O V⟩
 exact absurd O c2
theorem zOO{vv:Value}{vs:List Int}(b:Rises vs)(c:0<vs.length):({index:=0,term:=0,conf:=({vv:=vv,vs:=vs,lv:=zW,ls:=[]}:ConfD),dv:=zW,data:=[]}:ShtD).a.ok:=by
 have d:Rises ([]:List Int):=⟨by simp,by simp⟩
 have e:(({vs:=vs,ls:=[]}:ConfA)).ok:=⟨⟨⟨b,d⟩,c⟩,fun v _ h=>by cases h⟩
 exact⟨⟨⟨⟨e,by show 0≤32768;decide⟩,by show(0:Nat)=0↔(0:Nat)=0;exact Iff.rfl⟩,by show(0:Nat)≤_;decide⟩,by show(0:Nat)≤_;decide⟩
theorem zNi{S:List Nat}(db:Nat)(D:DskD)(kf:List (ByteArray×FilD))(vv:Value)(vs:List Int)(w:World)(hk:DskCl D)(hl:kf.length=0)(hr:1000≤D.room)(ao:Rises vs)(ap:0<vs.length)(aw:vs.length≤12)(aq:Own w S [Res.dk db D kf] w)(ah:Rd w S (Res.sl vv vs.length (vs.flatMap I1))):Rets Tryz.prog 74 #[pt db, .agg #[Vn 0,Vn 0,vv,zW,zW]] w fun u_ c=>∃ (stb hb sb wb:Nat) (W:WlS) (cv cw r c2 c3 r2 v2:Value) (ae:List EntD) (D':DskD) (fn:ByteArray) (f:FilD),u_= .tuple #[pt stb, .agg #[Vn 0,Vi 0,Vn 0,Vn 0,c2,c3,r2,v2],Vi 0]∧WlOk W 0∧wlE W=0∧f.bs.length=0∧DskCl D'∧D'.room=D.room∧ae.length=0∧Own w S [zBa stb db 0 0 cv cw r zW hb sb wb,k9 hb db zBJ 0 zW false zW,Res.wl db wb W,Res.dk db D' (yZ fn f kf),vI cv vs,vI cw ([]:List Int),vY r ([]:List UInt8),vI c2 vs,vI c3 ([]:List Int),vY r2 ([]:List UInt8),vE v2 ae,sE ae] c:=by
 refine zO Tryz.func74 O Tryz.ntmps74 aq<|zB<|zj O O<|fun b3=>zF O<|zk (v:= .agg #[Vn 0,Vi 0,Vn 0,Vn 0,zW,zW,zW,zW]) qF O<|fun b5=>zF O<|zA<|zK<|zB<|zC O<|yE qF O O O<|zA<|yW O<|zN<|zK<|zB<|z6 (cs:=[Vn 0,Vn 0,vv,zW,zW]) 1 O O O<|zG O O<|fun c b=>(zEU ({index:=0,term:=0,conf:=({vv:=vv,vs:=vs,lv:=zW,ls:=[]}:ConfD),dv:=zW,data:=[]}:ShtD) c ⟨by show(0:Nat)<_;decide,by show(0:Nat)<_;decide,⟨by show vs.length≤_;omega,by show(0:Nat)≤_;decide⟩,by show(0:Nat)≤_;decide⟩ ⟨⟨(b.rd0 ah),Rd.nil⟩,Rd.nil⟩).mono ?_
 rintro _ d ⟨ai,rfl,g⟩
 refine(?_:CL _ _ _ _ _ _ (Own w S [_,_,_,_])) d<|b.qb g
 refine zC O<|zb (vs:=[ai,Vi (yI ({index:=0,term:=0,conf:=({vv:=vv,vs:=vs,lv:=zW,ls:=[]}:ConfD),dv:=zW,data:=[]}:ShtD).a.ok)]) O O O<|zb (vs:=[ai,Vi (yI ({index:=0,term:=0,conf:=({vv:=vv,vs:=vs,lv:=zW,ls:=[]}:ConfD),dv:=zW,data:=[]}:ShtD).a.ok)]) O O O<|zF O<|zF O<|zA<|zB<|zC O<|yf O O O<|zA<|zT O (fun c2=> ?_)<|fun c2=> ?_
 ·exact absurd c2 (by rw[xp (zOO ao ap)];omega)
 refine zN<|zB<|zC O<|yJ (cs:=[pt db,Vn 0,Vi 0,Vn 0,Vn 0,zW,zW,zW,zW, .pointer none, .pointer none, .pointer none,yC]) (z:=[.pointer none,Vn 0,Vi 0,Vn 0,Vn 0,zW,zW,zW,zW, .pointer none, .pointer none, .pointer none,yC]) (pl:=[(0,1),(1,8),(9,1),(10,1),(11,1),(12,1)]) qF qF O<|zj O O<|fun af=>zF O<|zA<|zB<|zF O<|zF O<|zF O<|zA<|zK<|zB<|zC O<|zC O<|zG O O<|fun c b=>(zEe db _ _ (⟨#[104,97,114,100]⟩:ByteArray) c ‹_› qH zGS<|b.give [0] O V).mono ?_
 rintro _ d ⟨n,rfl,g⟩
 refine(?_:CL _ _ _ _ _ _ (Own w S [_,_,_,_,_,_])) d<|b.qc [0] O g
 refine zC O<|zb (vs:=[pt n,Vi 0]) O O O<|zb (vs:=[pt n,Vi 0]) O O O<|zV O O<|zI (o:=9) O O<|zi 3 O O O O O<|zF O<|zA<|zB<|zC O<|yT O O O<|zA<|zT O (fun c3=> ?_)<|fun c3=> ?_
 ·refine zB<|zC O<|zC O<|zG O O<|fun c b=>(zEe db _ _ (⟨#[115,104,111,116]⟩:ByteArray) c ‹_› qH zM8<|b.give [4] O V).mono ?_
  rintro _ d ⟨s,rfl,g⟩
  refine(?_:CL _ _ _ _ _ _ (Own w S [_,_,_,_,_,_,_])) d<|b.qc [4] O g
  refine zC O<|zb (vs:=[pt s,Vi 0]) O O O<|zb (vs:=[pt s,Vi 0]) O O O<|zV O O<|zI (o:=10) O O<|zi 3 O O O O O<|zF O<|zA<|zB<|zC O<|yT O O O<|zA<|zT O (fun c4=> ?_)<|fun c4=> ?_
  ·refine ze<|zC O<|zC O<|zG O O<|fun c b=>(zPE db _ _ c ‹_› qH qH<|b.give [5] O V).mono ?_
   rintro _ d ⟨u,W5_,D'6_,j,a9,rfl,aa,a0,a1,a2,a3,a4,g⟩
   have ar:∀ y∈(yZ j a9 kf).map (·.1),y≠jp:=by
    rw[show kf=[]from List.eq_nil_of_length_eq_zero hl];intro y hy;have:y=j:=by simpa [yZ]using hy
    rw[this];exact a1
   have ax:(yZ j a9 kf).length≤1:=by rw[show kf=[]from List.eq_nil_of_length_eq_zero hl];exact Nat.le_refl _
   refine(?_:CL _ _ _ _ _ _ (Own w S [_,_,_,_,_,_,_,_])) d<|b.qc [5] O g
   refine zC O<|zb (vs:=[pt u,Vi 0]) O O O<|zb (vs:=[pt u,Vi 0]) O O O<|zV O O<|zI (o:=11) O O<|zi 3 O O O O O<|zF O<|zA<|zB<|zC O<|zC O<|zC O<|yH (e:=29) (sz:=1) (vs:=[Vi 0,Vi 0,Vi 0]) qF O O qL V O<|fun au=>(zG O O<|fun c b=>(zLg (.slice (some ⟨au,0,none⟩) 3 3) [0,0,0] c qK qJ<|b.qj 8 O).mono ?_)
   rintro _ d ⟨rfl,g⟩
   refine(?_:CL _ _ _ _ _ _ (Own w S [_,_,_,_,_,_,_,_,_])) d<|b.qb g
   refine zF O<|zA<|zK<|zB<|zC O<|yT O O O<|zC O<|yA (q:=0=0) 3 2 [66,65,64] (false=true) O O O O O O trivial O (fun k=> ?_)<|fun av=> ?_
   ·refine zQ O (gT k)<|zC O<|zQ O (gT k)<|zG O O<|fun c b=>(zDo db D'6_ (yZ j a9 kf) c ‹_› qH<|b.give [7] O V).mono ?_
    rintro aj d ⟨_,ag,rfl,x,g⟩
    refine(?_:CL _ _ _ _ _ _ (Own w S [_,_,_,_,_,_,_,_,_,_])) d<|b.qc [7] O g
    refine zQ O (gT k)<|zG O O<|fun c b=>(zF4 aj ag (⟨#[116,46,120]⟩:ByteArray) c (fun y hy=>ar y<|x.mem_iff.1 hy) (by rw[x.length_eq,List.length_map];omega)<|b.qj 9 O).mono ?_
    rintro _ d ⟨rfl,g⟩
    refine(?_:CL _ _ _ _ _ _ (Own w S [_,_,_,_,_,_,_,_,_,_])) d<|b.qb g
    exact z8 (y2 _)<|fun _ b=>b.sel [0,1,2,3,4,5,6,8,7] O V
   refine zA<|zT O (fun c5=> ?_)<|fun c5=> ?_
   ·exact absurd c5.2 V
   refine zN<|zK<|zB<|zC O<|yT O O O<|zA<|zT O (fun c6=> ?_)<|fun c6=> ?_
   ·refine ze<|zC O<|z6 (cs:=[Vn 0,Vn 0,vv,zW,zW]) 0 O O O<|zG O O<|fun c b=>(zOY af db n s u W5_ vv vs c ‹_› qH (b.give [3,4,5,6] O V)<|b.rdTo ah [3,4,5,6] O).mono ?_
    rintro _ d ⟨l,m,a5,rfl,g⟩
    refine(?_:CL _ _ _ _ _ _ (Own w S [_,_,_,_,_,_,_,_,_,_,_,_])) d<|b.qc [3,4,5,6] O g
    refine zF O<|zA<|zK<|zB<|zC O<|yf O O O<|zA<|zT O (fun c7=> ?_)<|fun c7=> ?_
    ·exact absurd O c7
    refine zN<|zB<|zC O<|zC O<|zV O O<|zI (o:=1) O O<|xI 5 [Vn 0,Vi 0,Vn 0,Vn 0,l,m,a5,zW] O O (yj 1 O) qF O<|zG O O<|fun c b=>(zAh 0 0 0 0 l vs m [] a5 [] zW [] c qH qH qH qH (fun _ h=>by cases h) (b.qj 9 O) (b.qj 10 O) (b.qj 11 O) Rd.nil (fun p hp=>by cases hp)).mono ?_
    rintro _ d ⟨a6,a7,ad,a8,ab,rfl,ac,g⟩
    refine(?_:CL _ _ _ _ _ _ (Own w S [_,_,_,_,_,_,_,_,_,_,_,_,_,_,_,_,_])) d<|b.qb g
    refine zF O<|zS (fun c b=>Own.qa (i:=12) O b)<|fun ak=>(zS (fun c b=>Own.qa (i:=13) O b)<|fun al=>(zS (fun c b=>Own.qa (i:=14) O b)<|fun am=>(zS (fun c b=>Own.qa (i:=15) O b)<|fun an=>(zf 1 O O O (zH O<|zH O<|zH O<|zH O<|zH ak<|zH al<|zH am<|zH an zh) O<|zF O<|zA<|zP<|zP4 (cs:=[Vn 0,Vi 0,Vn 0,Vn 0,a6,a7,ad,a8]) (v0:=pt af) (v2:=Vi 0) O O O O qF (Own.qd (i:=1) O)<|fun c b=>⟨af,n,s,u,W5_,l,m,a5,a6,a7,ad,a8,ab,D'6_,j,a9,O,aa,a0,a2,a3,a4,(by have:=congrArg List.length ac;simpa using this),b.sel [5,6,8,3,9,10,11,12,13,14,15,16] O V⟩))))
   exact absurd O c6
  exact absurd O c4
 exact absurd O c3
theorem zKe{x:HrdD}(h:x.term<18446744073709551616):(if x.ok then x.enc else []).length≤18:=by
 split
 · have:=yS (ns:=[x.term,u64 x.ql]) (by simp[ya,h])
   unfold HrdD.enc;simpa using this
 exact Nat.zero_le _
theorem zLS{α:Type}{P:α→Prop}{l:List α}{x:α}(h:∀ p∈l,P p)(a:P x):∀ p∈l++[x],P p:=fun p hp=>by
 rcases List.mem_append.1 hp with q|q
 · exact h p q
 rw[List.mem_singleton.1 q];exact a
theorem zFo{S:List Nat}(stb db hb sb wb:Nat)(tm:Nat)(vo:Int)(vv wv dv lv:Value)(D:DskD)(kf:List (ByteArray×FilD))(x:HrdD)(w:World)(u:x.ok)(y:x.term<18446744073709551616)(hk:DskCl D)(hl:kf.length<4096)(hr:((tot kf+100:Nat):Int)≤D.room)(n:Own w S [zBa stb db tm vo vv wv dv lv hb sb wb,k9 hb db zBJ 0 zW false zW,Res.dk db D kf] w):Rets Tryz.prog 250 #[pt stb, .agg (HrdD.cells x).toArray] w fun z c=>∃ (v1 v2:Value) (la:Nat) (D':DskD) (f:FilD) (q:ByteArray),z=Vi 0∧DskCl D'∧D'.room=D.room∧f.bs.length≤((zl q kf).getD kT).bs.length+30∧Own w S [zBa stb db x.term x.ql vv wv dv lv hb sb wb,k9 hb db zBJ la v1 true v2,Res.dk db D' (yZ q f kf)] c:=by
 have a0:=zKe y
 refine zO Tryz.func250 O Tryz.ntmps250 n<|zB<|zj O O<|fun b3=>zF O<|zA<|zK<|zB<|zC O<|zG O O<|fun c a=>(zF8 stb db tm vo vv wv dv lv hb sb wb c<|a.give [0] O V).mono ?_
 rintro _ d ⟨rfl,e⟩
 refine(?_:CL _ _ _ _ _ _ (Own w S [_,_,_,_])) d<|a.qc [0] O e
 refine zF O<|zA<|zB<|zC O<|yf O O O<|zA<|zT O (fun r=> ?_)<|fun r=> ?_
 ·exact absurd O r
 refine zN<|zB<|z6 (cs:=(HrdD.cells x)) 2 O O O<|zG O O<|fun c a=>(zEW x c qH).mono ?_
 rintro _ d ⟨g,rfl,e⟩
 refine(?_:CL _ _ _ _ _ _ (Own w S [_,_,_,_,_])) d<|a.qb e
 refine zC O<|zb (vs:=[g,Vi (yI x.ok)]) O O O<|zb (vs:=[g,Vi (yI x.ok)]) O O O<|zF O<|zF O<|zA<|zK<|zB<|zC O<|yf O O O<|zA<|zT O (fun s=> ?_)<|fun s=> ?_
 ·exact absurd s (by rw[xp u];omega)
 refine zN<|zK<|zB<|zC O<|zC O<|zV O O<|zI (o:=9) O O<|zJ 3 (v:=pt hb) O O O O<|zC O<|zG O O<|fun c a=>(zJs hb db zBJ _ _ g (if x.ok then x.enc else []) c ‹_› zGS qH qK qK (a.give [0,1] O V)<|a.rdVec 4 O [0,1] O O).mono ?_
 rintro _ d ⟨i,j,k,D'5_,p,l,rfl,h,b,m,e⟩
 refine(?_:CL _ _ _ _ _ _ (Own w S [_,_,_,_,_])) d<|a.qc [0,1] O e
 refine zG O O<|fun c a=>(zGu stb db tm vo vv wv dv lv hb sb wb c<|a.give [1] O V).mono ?_
 rintro _ d ⟨rfl,e⟩
 refine(?_:CL _ _ _ _ _ _ (Own w S [_,_,_,_,_])) d<|a.qc [1] O e
 refine zF O<|zA<|zB<|zC O<|yT O O O<|zA<|zT O (fun t=> ?_)<|fun t=> ?_
 ·refine ze<|zC O<|z6 (cs:=(HrdD.cells x)) 0 O O O<|zV O O<|zI (o:=1) O O<|zI (o:=0) O O<|zf 4 O O O (zz O) O<|zA<|zB<|zC O<|zF O<|zA<|zP<|zm (v:=Vi 0) O O<|fun c a=>⟨i,j,k,D'5_,p,l,O,h,b,qG,a.sel [4,2,3] O V⟩
 exact absurd O t
theorem zHe(k0:Nat)(v:Value)(l:List EntD)(w:World)(hl:l.length=1)(hk:k0≤1000000)(hx:∀ e∈l,(e.toEntA.ok∧e.toEntA.wf)∧e.index=k0)(hv:Rd w [] (Res.sl v l.length (l.flatMap EntD.cells)))(m:∀ p∈l,EntD.rd p w []):Rets Tryz.prog 400 #[Vn k0,v] w fun u_ u=>∃ (r:Value) (bs:List (Value×List UInt8)),u_= .tuple #[r,xx]∧bs.length=1∧(∀ p∈bs,p.2.length≤4200)∧(zc bs 0).2.length=(zc l 0).toEntA.enc.length∧Own w [] [vB r bs,Res.star (bs.map bsR)] u:=by
 refine zO Tryz.func400 O Tryz.ntmps400 (Own.start w)<|zB<|zF O<|zF O<|zA<|zB<|zF O<|zA<|zK<|zB<|zC O<|zn (pR hv) O O<|zC O<|zA<|zU<|xV (fun(k:Nat) (rv:Value) (bs:List (Value×List UInt8))=>[(0,Vn k0),(1,v),(6,rv),(11,v),(12,Vj l.length),(13,Vj k)]) (fun(k:Nat) (rv:Value) (bs:List (Value×List UInt8))=>(k≤l.length∧bs.length=k)∧(∀ p∈bs,p.2.length≤4200)∧(k=1→(zc bs 0).2.length=(zc l 0).toEntA.enc.length)) (fun(k:Nat) (rv:Value) (bs:List (Value×List UInt8))=>[vB rv bs,Res.star (bs.map bsR)]) (fun(k:Nat) (rv:Value) (bs:List (Value×List UInt8))=>l.length - k) (fun u s=>⟨0,zW,[],⟨O,O,O,O,O,O,trivial⟩,⟨⟨Nat.zero_le _,O⟩,(fun p hp=>by cases hp),fun h=>absurd h V⟩,(zq s 73 1).qn⟩)<|fun k rv bs g hΦ=> ?_
 have a8:=hΦ.1.1
 have z:=hΦ.1.2
 have a0:=hΦ.2.1
 have a1:=hΦ.2.2
 refine zB<|zu O O O<|zA<|zK<|zT O (fun c1=> ?_)<|fun c1=> ?_
 ·have d:=hx _ (zy (l:=l) (j:=k) qG)
  have a9:=EntA.enc_le d.1.2
  have aa:(zc l k).wf:=d.1.2
  have ab:=d.1.1.1.2.2.2
  have a2:k=0:=by omega
  refine zN<|zK<|zU<|zB<|zC O<|yL (pR hv) 5 k O O O qG O<|jy (pR hv) 5 k (off:=yr v+k*5) (fun _=>O) O O qG O<|zk (v:= .agg #[Vn 0,Vn 0,Vi 0,Vi 0,zW]) qF O<|fun b8=>zF O<|zf 2 O O O (zH O<|zH O<|zH O<|zH O<|zH (Sl.cell1<|Rd.φ<|(m _<|zy qG).dv) zh) O<|zA<|zB<|z6 (cs:=(EntD.cells<|zc l k)) 2 O O O<|zG O O<|fun u s=>(zBW (zc l k) u ‹_› ((m _<|zy qG).at0 s)).mono ?_
  rintro _ w1 ⟨n,rfl,hO⟩
  refine(?_:CL _ _ _ _ _ _ (Own w [] [_,_,_,_])) w1<|s.qb hO
  refine zC O<|zb (vs:=[n,Vi (yI (zc l k).ok)]) O O O<|zb (vs:=[n,Vi (yI (zc l k).ok)]) O O O<|zF O<|zF O<|zA<|zK<|yd qF qF<|zR O (za)<|zR O (zGC O O)<|zR O (za)<|zEm (q:=(yI (zc l k).ok)≠0) 7 2 [32,31,30,29,28,27,26] ((((zc l k).index:Nat):Int)≠((k0+k:Nat):Int)) O O O O O O trivial O (fun b=> ?_)<|fun a3=> ?_
  ·refine yU O (gF b)<|zR O (zL (o:=0) O)<|yU O (gF b)<|zR O (zZ 2 (v:=Vn ((zc l k).index)) O O O)<|yU O (gF b)<|zR O (za)<|yU O (gF b)<|zR O (za)<|yU O (gF b)<|zR O (kQ qF O (yz qG) qF)<|yU O (gF b)<|zR O (xN O O<|yz qG)<|yU O (gF b)<|zR O (zGC O O)<|zCx O
  refine zR O (za)<|zEm (q:=((yI (zc l k).ok)≠0)∨((((zc l k).index:Nat):Int)≠((k0+k:Nat):Int))) 13 11 [47,46,45,44,43,42,41,40,39,38,37,36,35] ((0<((k:Nat):Int))∧((((zc l k).term:Nat):Int)<(((zc l<|(((k:Nat):Int) - 1).toNat).term:Nat):Int))) O O O O O O trivial O (fun c=> ?_)<|fun a4=> ?_
  ·refine yU O (gF c)<|zR O (za)<|yU O (gF c)<|zR O (zBm O O)<|yU O (gF c)<|zR O (za)<|zCf (q:=0<((k:Nat):Int)) 9 14 [46,45,44,43,42,41,40,39,38] ((((zc l k).term:Nat):Int)<(((zc l<|(((k:Nat):Int) - 1).toNat).term:Nat):Int)) O O O O O O ⟨_,O,O,gF c⟩ O (fun a=> ?_)<|fun a5=> ?_
   ·refine yU O (gT a)<|zR O (zL (o:=1) O)<|yU O (gT a)<|zR O (zZ 2 (v:=Vn ((zc l k).term)) O O O)<|yU O (gT a)<|zR O (za)<|yU O (gT a)<|zR O (za)<|yU O (gT a)<|zR O (ji O O<|zt qG)<|yU O (gT a)<|zR O (kN (pR hv) 5 ((((k:Nat):Int) - 1).toNat) O O qG qG)<|yU O (gT a)<|zR O (zL (o:=1) O)<|yU O (gT a)<|zR O (zA8 (pR hv) 5 ((((k:Nat):Int) - 1).toNat) 1 (off:=yr v+((((k:Nat):Int) - 1).toNat)*5+1) (fun _=>O) O qP qG O)<|yU O (gT a)<|zR O (zIQ O O)<|zCx O
   exact zCx O
  refine xX<|zT O (fun c2=> ?_)<|fun c2=> ?_
  ·exact absurd c2 (by rw[xp d.1.1];have:=d.2;omega)
  refine zN<|ze<|zC O<|zC O<|zS (fun u s=>Own.qa (i:=3) O s)<|fun y=>(ko (e:=73) (vs:=[n]) qF O O (zH y zh) V O<|fun ac=>yF (g:=pv) (sz:=1) (by':=24) (fun _=>O) (l:=bs) (l':=[(n,(if(zc l k).ok then(zc l k).enc else []))]) (all_cons ((zH y zh)) qJ) 0 qF O O O (fun u a6=>Vec.sl<|Own.holds a6 4 _ O) qH V O<|fun a7=>zF O<|zA<|ze<|zr O O (zt qG) O<|zC O<|zx<|fun u s=>⟨k+1,a7,bs++[(n,(if(zc l k).ok then(zc l k).enc else []))],⟨O,O,O,O,O,O,trivial⟩,⟨⟨by omega,by rw[List.length_append,z];rfl⟩,zLS a0 (by show(if(zc l k).ok then(zc l k).enc else []).length≤4200;rw[if_pos d.1.1];omega),fun h=>by subst a2;rw[List.eq_nil_of_length_eq_zero z];show(if(zc l 0).ok then(zc l 0).enc else []).length=_;rw[if_pos d.1.1]⟩,((s.qw (g:=bsR) (x:=(n,(if(zc l k).ok then(zc l k).enc else []))) 1 3 V O O).sel [0,1] O V),qG⟩)
 refine zw O<|zB<|zC O<|zF O<|zF O<|zA<|zP<|yg (v:=rv) (v':=xx) O O O<|fun u s=>⟨rv,bs,O,qG,a0,a1 qG,s⟩
theorem zHA{S:List Nat}(stb db hb sb wb:Nat)(tm:Nat)(vo:Int)(vv wv dv lv:Value)(es:List EntD)(W:WlS)(D:DskD)(kf:List (ByteArray×FilD))(k0:Nat)(v:Value)(l:List EntD)(w:World)(hl:l.length=1)(aq:k0=1+es.length)(hx:∀ e∈l,(e.toEntA.ok∧e.toEntA.wf)∧e.index=k0)(hW:WlOk W es.length)(hn:es.length≤900)(ar:es.length<98∨wlE W<512)(hk:DskCl D)(au:kf.length<4000)(hr:((tot kf+6000:Nat):Int)≤D.room)(av:D.room≤4194304)(ah:Own w S [zBa stb db tm vo vv wv dv lv hb sb wb,vE lv es,sE es,Res.wl db wb W,Res.dk db D kf] w)(hv:Rd w S (Res.sl v l.length (l.flatMap EntD.cells)))(u:∀ p∈l,EntD.rd p w S):Rets Tryz.prog 253 #[pt stb,Vn k0,v] w fun u_ c=>∃ (v2:Value) (a6:List EntD) (W':WlS) (D':DskD) (fn:ByteArray) (f:FilD),u_=Vi 0∧a6.map EntD.toEntA=es.map EntD.toEntA++l.map EntD.toEntA∧WlOk W' (es.length+1)∧DskCl D'∧D'.room=D.room∧f.bs.length≤((zl fn kf).getD kT).bs.length+6000∧wlE W'=(if wlE W<512 then wlE W else 0)+((8+((xS (1+es.length)).length+(zc l 0).toEntA.enc.length):Nat):Int)∧Own w S [zBa stb db tm vo vv wv dv v2 hb sb wb,vE v2 a6,sE a6,Res.wl db wb W',Res.dk db D' (yZ fn f kf)] c:=by
 refine zO Tryz.func253 O Tryz.ntmps253 ah<|zB<|zF O<|zA<|zK<|zB<|zC O<|zG O O<|fun c a=>(zF8 stb db tm vo vv wv dv lv hb sb wb c<|a.give [0] O V).mono ?_
 rintro _ y ⟨rfl,hO⟩
 refine(?_:CL _ _ _ _ _ _ (Own w S [_,_,_,_,_])) y<|a.qc [0] O hO
 refine zF O<|zA<|zB<|zC O<|yf O O O<|zA<|zT O (fun c1=> ?_)<|fun c1=> ?_
 ·exact absurd O c1
 refine zN<|zB<|zC O<|zC O<|zG O O<|fun c a=>(zHe k0 v l c qH qH ‹_› (a.rd0 hv)<|fun p hp=>EntD.rd.at0 (u p hp) a).mono ?_
 rintro _ y ⟨a7,ac,rfl,ai,a3,x,hO⟩
 refine(?_:CL _ _ _ _ _ _ (Own w S [_,_,_,_,_,_,_])) y<|a.qb hO
 refine zC O<|zb (vs:=[a7,xx]) O O O<|zb (vs:=[a7,xx]) O O O<|zF O<|zF O<|zA<|zB<|zC O<|zV O O<|zI (o:=1) O O<|zI (o:=2) O O<|zI (o:=0) O O<|zJ 4 (v:=Vn 0) O O O O<|zF O<|zA<|zB<|zC O<|zr O O (yz qG) O<|zC O<|zV O O<|zI (o:=1) O O<|zI (o:=7) O O<|zJ 4 (v:=lv) O O O O<|zn (pV 0 O) O O<|yh qF O (yz qG) O ?_ qF
 refine zr O O (yz qG) O<|zF O<|zA<|zK<|zU<|zB<|zC O<|xo (b:=true) O O<|zF O<|zA<|yW O<|zB<|zC O<|zC O<|yx O O O<|zF O<|zA<|zT O (fun c3=> ?_)<|fun c3=> ?_
 ·exact absurd c3 qG
 refine zB<|zC O<|zC O<|yY O O O<|zF O<|zA<|zT O (fun c4=> ?_)<|fun c4=> ?_
 ·exact absurd c4 qG
 refine zN<|zK<|zB<|zC O<|zC O<|zu O O O<|zA<|zT O (fun c5=> ?_)<|fun c5=> ?_
 ·exact absurd c5 qG
 refine zN<|zK<|zB<|zC O<|zC O<|zV O O<|zI (o:=11) O O<|zJ 4 (v:=pt wb) O O O O<|zC O<|zG O O<|fun c a=>(zRV _ wb _ es.length _ _ a7 ac c ‹_› qH (fun p hp=>Nat.le_trans (a3 p hp) V) ‹_› qH qH qH qH (a.give [2,3] O V) (a.rdVec 5 O [2,3] O O)<|BsRd.star 6 O [2,3] O O a).mono ?_
 rintro _ y ⟨W'3_,D'4_,a0,a5,rfl,a1,ab,q,r,s,hO⟩
 refine(?_:CL _ _ _ _ _ _ (Own w S [_,_,_,_,_,_,_])) y<|a.qc [2,3] O hO
 refine zG O O<|fun c a=>(zGu stb db tm vo vv wv dv lv hb sb wb c<|a.give [2] O V).mono ?_
 rintro _ y ⟨rfl,hO⟩
 refine(?_:CL _ _ _ _ _ _ (Own w S [_,_,_,_,_,_,_])) y<|a.qc [2] O hO
 refine zF O<|zA<|zB<|zC O<|yf O O O<|zA<|zT O (fun c6=> ?_)<|fun c6=> ?_
 ·exact absurd O c6
 refine zN<|zK<|zB<|zC O<|zC O<|zV O O<|zI (o:=11) O O<|zJ 6 (v:=pt wb) O O O O<|zG O O<|fun c a=>(zNI _ wb W'3_ D'4_ (yZ a0 a5 kf) c ‹_› (by have:=zAt (k:=a0) (f:=a5) (l:=kf);omega)<|a.give [4,5] O V).mono ?_
 rintro _ y ⟨D'7_,rfl,a2,t,hO⟩
 refine(?_:CL _ _ _ _ _ _ (Own w S [_,_,_,_,_,_,_])) y<|a.qc [4,5] O hO
 refine zG O O<|fun c a=>(zGu stb db tm vo vv wv dv lv hb sb wb c<|a.give [4] O V).mono ?_
 rintro _ y ⟨rfl,hO⟩
 refine(?_:CL _ _ _ _ _ _ (Own w S [_,_,_,_,_,_,_])) y<|a.qc [4] O hO
 refine zF O<|zA<|zB<|zC O<|yf O O O<|zA<|zT O (fun c7=> ?_)<|fun c7=> ?_
 ·exact absurd O c7
 refine zN<|zK<|zd [2,4,5] O V qF<|fun c a n=>zD 0 O za n<|zD 1 O za n<|zD 2 O (zY O) n<|zD 3 O (zL (o:=1) O) n<|zD 4 O (zL (o:=7) O) n<|zD 6 O za n<|zD 7 O (zGq (cs:=[Vn 0,Vi 0,Vn 0,Vn 0,zW,zW,zW,v]) (z:=[Vn 0,Vi 0,Vn 0,Vn 0,zW,zW,zW,zW]) (pl:=[(0,2),(2,5),(7,1)]) qF ⟨(Sl.cell1<|Rd.φ hv),trivial⟩ qF) n<|z7 5 8 ?_ ?_
 ·refine zo 5 O a<|zJ 6 (v:=lv) O O O O<|zE [2,4,5] O V<|fun c a n=>zM 8 O a<|zG O O<|fun c a=>(zAh 0 0 0 0 zW [] zW [] zW [] v l c qH qH qH qH (fun e he=>Nat.le_trans (hx e he).1.1.1.2.2.2 V) Rd.nil Rd.nil Rd.nil (a.rd0 hv)<|fun p hp=>EntD.rd.at0 (u p hp) a).mono ?_
  rintro _ y ⟨am,an,ao,a8,h,rfl,d,hO⟩
  have aj:h.length=l.length:=by have:=congrArg List.length d;simpa using this
  refine(?_:CL _ _ _ _ _ _ (Own w S [_,_,_,_,_,_,_,_,_,_,_,_])) y<|a.qb hO
  refine zE [2,4,5] O V<|fun c a n=>zD 9 O (zDh (o:=7) (v:=a8) O qF O) n<|zM 10 O a<|zS (fun c a=>EntD.c1all<|EntD.rd.star0 11 O a)<|fun ad=>(yF (g:=EntD.cells) (sz:=5) (by':=56) (fun _=>O) (l:=es) (l':=h) ad 0 qF O O O (fun c a9=>Vec.sl<|Own.holds a9 10 _ O) qH V O<|fun a4=>zE [2,4,5] O V<|fun c a n=>zD 11 O (zY O) n<|zD 12 O (zL (o:=1) O) n<|zD 13 O (zL (o:=7) O) n<|zM 14 O a<|zS (fun c a=>Own.qa (i:=0) O a)<|fun ae=>(zi 6 O O O ae O<|zE [2,4,5] O V<|fun c a n=>zX<|(?_:C _ _ _ _ _ _ _ (Own w S [_,_,_,_,_,_,_,_,_,_,_,_])) _ a))
  refine zB<|zF O<|zA<|zP<|zm (v:=Vi 0) O O<|fun c a=>⟨a4,es++h,W'3_,D'7_,a0,a5,O,(by rw[List.map_append,d]),a1,a2,t.trans q,r,(s.trans (by rw[x])),((a.starApp (g:=EntD.dres) (l:=es) (m:=h) 1 11 V O O).sel [6,0,1,4,5] O V)⟩
 refine zo 8 O a<|zG O O<|fun c a=>(zAh 0 0 0 0 zW [] zW [] zW [] v l c qH qH qH qH (fun e he=>Nat.le_trans (hx e he).1.1.1.2.2.2 V) Rd.nil Rd.nil Rd.nil (a.rd0 hv)<|fun p hp=>EntD.rd.at0 (u p hp) a).mono ?_
 rintro _ y ⟨ak,al,ap,aa,j,rfl,d,hO⟩
 have aj:j.length=l.length:=by have:=congrArg List.length d;simpa using this
 refine(?_:CL _ _ _ _ _ _ (Own w S [_,_,_,_,_,_,_,_,_,_,_,_])) y<|a.qb hO
 refine zE [2,4,5] O V<|fun c a n=>zD 9 O (zDh (o:=7) (v:=aa) O qF O) n<|zM 5 O a<|zJ 6 (v:=lv) O O O O<|zE [2,4,5] O V<|fun c a n=>zM 10 O a<|zS (fun c a=>EntD.c1all<|EntD.rd.star0 11 O a)<|fun af=>(yF (g:=EntD.cells) (sz:=5) (by':=56) (fun _=>O) (l:=es) (l':=j) af 0 qF O O O (fun c a9=>Vec.sl<|Own.holds a9 10 _ O) qH V O<|fun a4=>zE [2,4,5] O V<|fun c a n=>zD 11 O (zY O) n<|zD 12 O (zL (o:=1) O) n<|zD 13 O (zL (o:=7) O) n<|zM 14 O a<|zS (fun c a=>Own.qa (i:=0) O a)<|fun ag=>(zi 6 O O O ag O<|zE [2,4,5] O V<|fun c a n=>zX<|(?_:C _ _ _ _ _ _ _ (Own w S [_,_,_,_,_,_,_,_,_,_,_,_])) _ a))
 refine zB<|zF O<|zA<|zP<|zm (v:=Vi 0) O O<|fun c a=>⟨a4,es++j,W'3_,D'7_,a0,a5,O,(by rw[List.map_append,d]),a1,a2,t.trans q,r,(s.trans (by rw[x])),((a.starApp (g:=EntD.dres) (l:=es) (m:=j) 1 11 V O O).sel [6,0,1,4,5] O V)⟩
theorem zMs{S:List Nat}(stb db hb sb wb:Nat)(tm:Nat)(vo:Int)(vv:Value)(vs:List Int)(wv:Value)(ws:List Int)(dv:Value)(data:List UInt8)(lv:Value)(es:List EntD)(w:World)(h1:vs.length≤100000)(h2:ws.length≤100000)(z:data.length≤1000000)(h4:es.length≤100000)(h5:∀ e∈es,e.data.length≤1000000)(s:Own w S [zBa stb db tm vo vv wv dv lv hb sb wb,vI vv vs,vI wv ws,vY dv data,vE lv es,sE es] w):Rets Tryz.prog 251 #[pt stb] w fun u b=>∃ (cv cw r t:Value) (h:List EntD),u= .agg #[Vn tm,Vi vo,Vn 0,Vn 0,cv,cw,r,t]∧h.map EntD.toEntA=es.map EntD.toEntA∧Own w S [zBa stb db tm vo vv wv dv lv hb sb wb,vI vv vs,vI wv ws,vY dv data,vE lv es,sE es,vE t h,sE h] b:=by
 refine zO Tryz.func251 O Tryz.ntmps251 s<|zB<|zk (v:= .agg #[Vn 0,Vi 0,Vn 0,Vn 0,zW,zW,zW,zW]) qF O<|fun b2=>zA<|zK<|zB<|zC O<|yE qF O O O<|zA<|yW O<|zN<|zB<|zC O<|zV O O<|zI (o:=1) O O<|xI 0 [Vn tm,Vi vo,Vn 0,Vn 0,vv,wv,dv,lv] O O (yj 1 O) qF O<|zG O O<|fun b a=>(zAh tm vo 0 0 vv vs wv ws dv data lv es b qH qH qH qH ‹_› (a.qj 1 O) (a.qj 2 O) (a.qj 3 O) (a.qj 4 O)<|EntD.rd.star0 5 O a).mono ?_
 rintro _ x ⟨c,d,l,g,j,rfl,k,y⟩
 refine(?_:CL _ _ _ _ _ _ (Own w S [_,_,_,_,_,_,_,_,_,_,_,_])) x<|a.qb y
 refine zS (fun b a=>Own.qa (i:=7) O a)<|fun m=>(zS (fun b a=>Own.qa (i:=8) O a)<|fun n=>(zS (fun b a=>Own.qa (i:=9) O a)<|fun p=>(zS (fun b a=>Own.qa (i:=10) O a)<|fun q=>(zf 6 O O O (zH O<|zH O<|zH O<|zH O<|zH m<|zH n<|zH p<|zH q zh) O<|zA<|zP<|xg (cs:=[Vn tm,Vi vo,Vn 0,Vn 0,c,d,l,g]) O O qF (Own.qd (i:=6) O)<|fun b a=>⟨c,d,l,g,j,O,k,a.sel [0,1,2,3,4,5,10,11] O V⟩))))
structure StoD where
 db:Nat
 hb:Nat
 sb:Nat
 wb:Nat
 tm:Nat
 vo:Int
 hl:Nat
 hv:Value
 hh:Bool
 ho:Value
 vv:Value
 vs:List Int
 wv:Value
 dv:Value
 lv:Value
 es:List EntD
 W:WlS
 D:DskD
 kf:List (ByteArray×FilD)
def Res.sto(b:Nat)(s:StoD):Res:=Res.star [zBa b s.db s.tm s.vo s.vv s.wv s.dv s.lv s.hb s.sb s.wb,k9 s.hb s.db zBJ s.hl s.hv s.hh s.ho,vI s.vv s.vs,vI s.wv [],vY s.dv [],vE s.lv s.es,sE s.es,Res.wl s.db s.wb s.W,Res.dk s.db s.D s.kf]
def zEz(x:EntA):Nat:=8+((xS x.index).length+x.enc.length)
def zGH(e:Int)(x:EntA):Int:=(if e<512 then e else 0)+((zEz x:Nat):Int)
def jP(l:List EntA):Int:=l.foldl zGH 0
theorem zEb(l:List EntA)(x:EntA):jP (l++[x])=(if jP l<512 then jP l else 0)+((zEz x:Nat):Int):=by
 unfold jP
 rw[List.foldl_append];rfl
structure StoOk(s:StoD)(c m:Nat):Prop where
 W:WlOk s.W s.es.length
 D:DskCl s.D
 room:s.D.room=1048576
 tot:tot s.kf≤c
 len:s.kf.length≤m
 hh:s.hh=false→s.hl=0∧s.hv= .slice none 0 0∧s.ho= .slice none 0 0
 vs:s.vs.length≤12
 es:∀ e∈s.es,e.data.length≤1000000
 fin:wlE s.W=jP (s.es.map EntD.toEntA)
theorem zNg(db:Nat)(D:DskD)(kf:List (ByteArray×FilD))(vv:Value)(vs:List Int)(w:World)(n:DskCl D)(hl:kf.length=0)(o:D.room=1048576)(j:Rises vs)(k:0<vs.length)(b:vs.length≤12)(l:Own w (xL [Res.dk db D kf]) [Res.dk db D kf] w)(m:Rd w (xL [Res.dk db D kf]) (Res.sl vv vs.length (vs.flatMap I1))):Rets Tryz.prog 74 #[pt db, .agg #[Vn 0,Vn 0,vv,zW,zW]] w fun p q=>∃ (stb:Nat) (s:StoD) (d g h i:Value) (a:List EntD),p= .tuple #[pt stb, .agg #[Vn 0,Vi 0,Vn 0,Vn 0,d,g,h,i],Vi 0]∧StoOk s 0 1∧s.hh=false∧s.tm=0∧s.vo=0∧s.es=[]∧s.vs=vs∧a=[]∧Own w (xL [Res.dk db D kf]) [Res.sto stb s,vI d vs,vI g ([]:List Int),vY h ([]:List UInt8),vE i a,sE a] q:=by
 refine(zNi db D kf vv vs w n hl qG j k b l m).mono ?_
 rintro _ w1 ⟨stb,hb,sb,wb,W,cv,cw,r,d,g,h,i,a,D',u,f,rfl,g1,v,g2,g3,g4,x,y⟩
 have c:kf=[]:=List.eq_nil_of_length_eq_zero hl
 refine⟨stb,⟨db,hb,sb,wb,0,0,0,zW,false,zW,cv,vs,cw,r,zW,[],W,D',yZ u f kf⟩,d,g,h,i,a,O,⟨g1,g3,g4.trans o,?_,?_,fun _=>⟨O,O,O⟩,b,(fun e z=>by cases z),v⟩,O,O,O,O,O,List.eq_nil_of_length_eq_zero x,?_⟩
 · rw[c];show f.bs.length+0≤0;omega
 · rw[c];exact Nat.le_refl _
 exact((((zq y 113 5).qn).sel [0,1,4,5,6,12,13,2,3,7,8,9,10,11] rfl V).qg [0,1,2,3,4,5,6,7,8] rfl V).sel [5,0,1,2,3,4] rfl V
theorem zFt(stb:Nat)(s:StoD)(c m:Nat)(x:HrdD)(w:World)(a:StoOk s c m)(hh:s.hh=false)(i:x.ok)(j:x.term<18446744073709551616)(z:c+100≤1048576)(hm:m<4096)(e:Own w (xL [Res.sto stb s]) [Res.sto stb s] w):Rets Tryz.prog 250 #[pt stb, .agg (HrdD.cells x).toArray] w fun n o=>∃ (b:StoD),n=Vi 0∧StoOk b (c+30) (m+1)∧b.tm=x.term∧b.vo=x.ql∧b.es=s.es∧b.vs=s.vs∧Own w (xL [Res.sto stb s]) [Res.sto stb b] o:=by
 obtain⟨q1,q2,p⟩:=a.hh hh
 have q:=a.room
 have h1:=a.tot
 have h2:=a.len
 have g:=(e.qi 0 rfl).sel [0,1,8,2,3,4,5,6,7] rfl V
 rw[q1,q2,p,hh]at g
 refine(zFo stb s.db s.hb s.sb s.wb s.tm s.vo s.vv s.wv s.dv s.lv s.D s.kf x w i j a.D qG qG<|g.give [0,1,2] O V).mono ?_
 rintro _ w1 ⟨r,t,u,D',f,d,rfl,g1,v,g3,y⟩
 have hp:=zAt (k:=d) (f:=f) (l:=s.kf)
 refine⟨⟨s.db,s.hb,s.sb,s.wb,x.term,x.ql,u,r,true,t,s.vv,s.vs,s.wv,s.dv,s.lv,s.es,s.W,D',yZ d f s.kf⟩,O,⟨a.W,g1,v.trans q,by show tot (yZ d f s.kf)≤_;omega,?_,fun h=>(by cases h),a.vs,a.es,a.fin⟩,O,O,O,O,?_⟩
 · show(yZ d f s.kf).length≤_
   rw[zDJ];split<;>omega
 exact((g.qc [0,1,2] rfl y).sel [6,7,0,1,2,3,4,5,8] rfl V).qg [0,1,2,3,4,5,6,7,8] rfl V
theorem zG9(stb:Nat)(s:StoD)(c m:Nat)(k0:Nat)(v:Value)(l:List EntD)(w:World)(b:StoOk s c m)(hl:l.length=1)(h:k0=1+s.es.length)(o:∀ e∈l,(e.toEntA.ok∧e.toEntA.wf)∧e.index=k0)(hn:s.es.length≤900)(r:s.es.length<98∨jP (s.es.map EntD.toEntA)<512)(hc:c+6000≤1048576)(hm:m<4000)(t:Own w (xL [Res.sto stb s]) [Res.sto stb s] w)(hv:Rd w (xL [Res.sto stb s]) (Res.sl v l.length (l.flatMap EntD.cells)))(d:∀ p∈l,EntD.rd p w (xL [Res.sto stb s])):Rets Tryz.prog 253 #[pt stb,Vn k0,v] w fun u_ w'=>∃ (g:StoD),u_=Vi 0∧StoOk g (c+6000) (m+1)∧g.tm=s.tm∧g.vo=s.vo∧g.es.map EntD.toEntA=s.es.map EntD.toEntA++l.map EntD.toEntA∧g.vs=s.vs∧g.hh=s.hh∧Own w (xL [Res.sto stb s]) [Res.sto stb g] w':=by
 have h0:=b.room
 have h1:=b.tot
 have h2:=b.len
 have j:=(t.qi 0 rfl).sel [0,5,6,7,8,1,2,3,4] rfl V
 refine(zHA stb s.db s.hb s.sb s.wb s.tm s.vo s.vv s.wv s.dv s.lv s.es s.W s.D s.kf k0 v l w hl h o b.W hn (by rw[b.fin];exact r) b.D qG qG qG (j.give [0,1,2,3,4] O V) (j.rdTo hv [0,1,2,3,4] O)<|fun p hp=>(d p hp).at j [0,1,2,3,4] O).mono ?_
 rintro _ w1 ⟨v2,a,W',D',n,f,rfl,g1,g2,g3,g4,g5,g6,hO⟩
 have hp:=zAt (k:=n) (f:=f) (l:=s.kf)
 have i:a.length=s.es.length+1:=by have:=congrArg List.length g1;simpa [hl]using this
 refine⟨⟨s.db,s.hb,s.sb,s.wb,s.tm,s.vo,s.hl,s.hv,s.hh,s.ho,s.vv,s.vs,s.wv,s.dv,v2,a,W',D',yZ n f s.kf⟩,O,⟨by show WlOk W' a.length;rw[i];exact g2,g3,g4.trans h0,by show tot (yZ n f s.kf)≤_;omega,?_,b.hh,b.vs,?_,?_⟩,O,O,g1,O,O,?_⟩
 · show(yZ n f s.kf).length≤_
   rw[zDJ];split<;>omega
 · intro e he
   have h3:e.toEntA∈a.map EntD.toEntA:=List.mem_map_of_mem he
   rw[g1]at h3
   rcases List.mem_append.1 h3 with q|q
   · obtain⟨y,u,x⟩:=List.mem_map.1 q
     rw[show e.data=y.data from congrArg EntA.data x.symm];exact b.es y u
   obtain⟨y,u,x⟩:=List.mem_map.1 q
   rw[show e.data=y.data from congrArg EntA.data x.symm]
   have:=(o y u).1.1.1.2.2.2
   show y.toEntA.data.length≤_;omega
 · obtain⟨y,rfl⟩:∃ y,l=[y]:=by
     match l,hl with
     | [y],_=>exact⟨y,rfl⟩
   have z:y.index=1+s.es.length:=(o y (List.mem_singleton.2 rfl)).2.trans h
   show wlE W'=jP (a.map EntD.toEntA)
   rw[g1,g6,b.fin]
   show _=jP (s.es.map EntD.toEntA++[y.toEntA])
   rw[zEb]
   show _=_+((8+((xS y.index).length+y.toEntA.enc.length):Nat):Int)
   rw[z];rfl
 exact((j.qc [0,1,2,3,4] rfl hO).sel [4,0,1,2,3,5,6,7,8] rfl V).qg [0,1,2,3,4,5,6,7,8] rfl V
theorem zKp(stb:Nat)(s:StoD)(c m:Nat)(w:World)(e:StoOk s c m)(k:s.es.length≤1000)(d:Own w (xL [Res.sto stb s]) [Res.sto stb s] w):Rets Tryz.prog 251 #[pt stb] w fun h i=>∃ (cv cw r b:Value) (a:List EntD),h= .agg #[Vn s.tm,Vi s.vo,Vn 0,Vn 0,cv,cw,r,b]∧a.map EntD.toEntA=s.es.map EntD.toEntA∧Own w (xL [Res.sto stb s]) [Res.sto stb s,vE b a,sE a] i:=by
 have g:=(d.qi 0 rfl).sel [0,2,3,4,5,6,1,7,8] rfl V
 have hv:=e.vs
 refine(zMs stb s.db s.hb s.sb s.wb s.tm s.vo s.vv s.vs s.wv [] s.dv [] s.lv s.es w qG V V qG e.es<|g.give [0,1,2,3,4,5] O V).mono ?_
 rintro _ l ⟨cv,cw,r,b,a,rfl,g1,j⟩
 exact⟨cv,cw,r,b,a,O,g1,(((g.qc [0,1,2,3,4,5] O j).sel [3,0,4,5,6,7,8,1,2,9,10] O V).qg [0,1,2,3,4,5,6,7,8] O V).sel [2,0,1] O V⟩
end Go.Proofs.YthpoddkmhfhboaaGreatDoor
