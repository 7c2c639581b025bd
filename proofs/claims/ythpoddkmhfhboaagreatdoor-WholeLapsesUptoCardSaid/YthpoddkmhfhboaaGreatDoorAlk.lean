import Derived.Test.YthpoddkmhfhboaaGreatDoorAlN
set_option linter.unusedSimpArgs false
set_option linter.unusedVariables false
set_option maxRecDepth 10000
namespace Go.Proofs.YthpoddkmhfhboaaGreatDoor
open Go.Sc
theorem zIa{S:List Nat}(jb:Nat)(w:World)(j:Own w S [Res.row jb 422 [Vn 0,Vn 0,zW]] w):Rets Tryz.prog 320 #[pt jb] w fun k c=>∃ (d:Nat) (l:Value),k=pt d∧Own w S [Res.row jb 422 [Vn 0,Vn 0,zW],Res.row d 422 [Vn 0,Vn 0,l]] c:=by
 refine zO Tryz.func320 O Tryz.ntmps320 j<|zB<|zF O<|zA<|zK<|zB<|zC O<|yE qF O O O<|zA<|yW O<|zN<|zK<|zd [0] O V qF<|fun c a b=>zD 0 O za b<|zD 1 O (zY O) b<|zD 2 O (zL (o:=0) O) b<|zD 3 O (zBL 0 [Vn 0,Vn 0] O O (yj 0 O) qF) b<|zD 4 O za b<|zD 5 O (zY O) b<|zD 6 O (zL (o:=2) O) b<|zD 7 O (zZ 0 (v:=zW) O O O) b<|zM 8 O a<|zG O O<|fun c a=>(y3 zW [] c qI Rd.nil).mono ?_
 rintro e m ⟨_,rfl,n⟩
 refine(?_:CL _ _ _ _ _ _ (Own w S [_,_])) m<|a.qb n
 refine zE [0] O V<|fun c a b=>zM 9 O a<|zS (fun c a=>Own.qa (i:=1) O a)<|fun g=>(xP (cs:=[Vn 0,Vn 0,e]) (z:=[Vn 0,Vn 0,zW]) (pl:=[(0,2),(2,1)]) qF ⟨trivial,g,trivial⟩ qF O<|zE [0] O V<|fun c a b=>zM 10 O a<|zj O O<|fun h=>zE [0] O V<|fun c a b=>zD 11 O yB b<|zX<|(?_:C _ _ _ _ _ _ _ (Own w S [_,_,_])) _ a)
 exact zP<|zm (v:=pt h) O O<|fun c a=>⟨h,e,O,a.sel [0,2] O V⟩
theorem xH(v:Value)(l:List Int)(w:World)(hl:l.length≤1000000)(hv:Rd w [] (Res.sl v l.length (l.flatMap I1))):Rets Tryz.prog 321 #[v] w fun i b=>∃ (r:Value),i=r∧Own w [] [vT r l] b:=by
 refine zO Tryz.func321 O Tryz.ntmps321 (Own.start w)<|zB<|zF O<|zA<|zK<|zB<|zC O<|zAu (len:=l.length) (cs:=(l.flatMap I1)) qF O O (fun b a=>Own.rd hv a) O<|zA<|jJ O (fun d=> ?_)<|fun d=> ?_
 ·refine zB<|zF O<|zA<|zP<|zm (v:=zW) O O<|fun b c=>⟨.slice none 0 0,O,by obtain⟨_,j⟩:=Sl.isNil hv.φ d;rw[List.eq_nil_of_length_eq_zero j];exact zq c 2 1⟩
 refine zN<|zB<|yH (e:=2) (sz:=1) (vs:=[]) qF O O qL V O<|fun k=>zC O<|yF (g:=I1) (sz:=1) (by':=8) (fun _=>O) (l:=[]) (l':=l) qO 0 qF O O O (fun b a=>Own.rd hv a) qH V O<|fun h=>zF O<|zA<|zP<|zm (v:=h) O O<|fun b c=>⟨h,O,c⟩
theorem xF(w:World):Rets Tryz.prog 322 #[zW] w fun b a=>b=zW∧Own w [] [] a:=by
 refine zO Tryz.func322 O Tryz.ntmps322 (Own.start w)<|zB<|zF O<|zA<|zK<|zB<|zC O<|zGw qF O O O<|zA<|x0 O<|zB<|zF O<|zA<|zP<|zm (v:=zW) O O<|fun a c=>⟨O,c.drop⟩
def Res.ap(cb jb:Nat)(t:TimD)(a:StA)(r:RolD)(b:StB)(qe:Nat)(lv:Value)(es:List EntD)(ld:Nat)(tv:Value)(sure:Nat):Res:=
 Res.star [xh cb t (pt ld) a r b (.slice none 0 0) jb qe (.pointer none),Res.row b.lb 415 [Vn 0,Vn 0,lv],vE lv es,sE es,vI b.vv b.vs,vI b.wv ([]:List Int),vY b.dv ([]:List UInt8),Res.row jb 422 [Vn 0,Vn 0, .slice none 0 0],Res.row ld 334 [.slice none 0 0, .slice none 0 0,tv,Vn sure, .slice none 0 0,Vi 0, .bool false]]
def Res.sv(vs:List Int)(cv cw dw:Value):Res:=Res.star [vI cv vs,vI cw ([]:List Int),vY dw ([]:List UInt8)]
theorem zKb{S:List Nat}(cb jb:Nat)(t:TimD)(a:StA)(r:RolD)(b:StB)(qe:Nat)(lv:Value)(es:List EntD)(w:World)(hE:EsOk es)(hl:es.length≤1000)(z:b.vs=[1])(a0:Own w S [xh cb t (.pointer none) a r b zW jb qe (.pointer none),Res.row b.lb 415 [Vn 0,Vn 0,lv],vE lv es,sE es,vI b.vv b.vs,vI b.wv ([]:List Int),vY b.dv ([]:List UInt8),Res.row jb 422 [Vn 0,Vn 0,zW]] w):Rets Tryz.prog 174 #[pt cb] w fun u_ e=>∃ (k a1 a2:Nat) (cv cw dw yw:Value),u_=pt k∧Own w S [xh cb t (.pointer none) a r b zW jb qe (.pointer none),Res.row b.lb 415 [Vn 0,Vn 0,lv],vE lv es,sE es,vI b.vv b.vs,vI b.wv ([]:List Int),vY b.dv ([]:List UInt8),Res.row jb 422 [Vn 0,Vn 0,zW],Res.row k 260 (TimD.cells t++(.pointer none::(StA.cells a++(RolD.cells r++[Vn 0,Vn 0,cv,cw,dw,pt a2,yw,pt a1,Vn qe, .pointer none])))),vI cv b.vs,vI cw ([]:List Int),vY dw ([]:List UInt8)] e:=by
 have hg:=hE.good
 have aa:b.vs.length≤1000:=by rw[z];decide
 refine zO Tryz.func174 O Tryz.ntmps174 a0<|zB<|zF O<|zA<|zK<|zB<|zC O<|yE qF O O O<|zA<|yW O<|zN<|zB<|zC O<|zV O O<|z6 0 O O O<|zk (v:= .agg #[Vn 0,Vi 0,Vi 0,Vi 0,Vi 0,Vi 0,Vi 0,Vi 0,Vi 0, .pointer none,Vi 0,Vi 0,Vi 0,Vi 0,Vi 0,Vi 0,Vi 0,Vi 0,Vi 0,Vi 0,Vi 0,Vi 0,Vi 0,Vn 0,Vn 0,Vn 0,zW,zW,zW, .pointer none,zW, .pointer none,Vn 0, .pointer none]) qF O<|fun b3=>(zS (fun e c=>Own.qa (i:=4) O c)<|fun l=>(zS (fun e c=>Own.qa (i:=5) O c)<|fun m=>(zS (fun e c=>Own.qa (i:=6) O c)<|fun n=>(zf 8 O O O (zH O<|zH O<|zH O<|zH O<|zH O<|zH O<|zH O<|zH O<|zH O<|zH O<|zH O<|zH O<|zH O<|zH O<|zH O<|zH O<|zH O<|zH O<|zH O<|zH O<|zH O<|zH O<|zH O<|zH O<|zH O<|zH O<|zH l<|zH m<|zH n<|zH O<|zH O<|zH O<|zH O<|zH O zh) O<|zA<|zK<|zd [0,1,2,4,5,6,7] O V qF<|fun e c d=>zD 0 O za d<|zD 1 O (zY O) d<|zD 2 O (zL (o:=24) O) d<|zD 3 O (zBL 0 [Vn 0,Vn 0,b.vv,b.wv,b.dv] O O (yj 24 O) qF) d<|zD 5 O za d<|zD 6 O (zY O) d<|zD 7 O (zL (o:=29) O) d<|zD 8 O (zZ 0 (v:=pt b.lb) O O O) d<|zD 10 O za d<|zD 11 O (zY O) d<|zD 12 O (zL (o:=30) O) d<|zD 13 O (zZ 0 (v:=zW) O O O) d<|zD 15 O za d<|zD 16 O (zY O) d<|zD 17 O (zL (o:=31) O) d<|zD 18 O (zZ 0 (v:=pt jb) O O O) d<|zM 4 O c<|zG O O<|fun e c=>(zId ({index:=0,term:=0,conf:=({vv:=b.vv,vs:=b.vs,lv:=b.wv,ls:=[]}:ConfD),dv:=b.dv,data:=[]}:ShtD) e qI qI qI ⟨⟨(c.qj 4 O),(c.qj 5 O)⟩,(c.qj 6 O)⟩).mono ?_))))
 rintro _ p ⟨q,s,a3,rfl,g⟩
 refine(?_:CL _ _ _ _ _ _ (Own w S [_,_,_,_,_,_,_,_,_,_,_,_])) p<|c.qb g
 refine zE [0,1,2,4,5,6,7] O V<|fun e c d=>zM 9 O c<|zG O O<|fun e c=>(zHj b.lb 0 0 lv es e qH ‹_› (c.give [1,2,3] O V)).mono ?_
 rintro _ p ⟨a4,a5,a6,rfl,a7,g⟩
 refine fq [1,2,3] O c g<|zE [0,9,10,1,2,3,4] O V<|fun e c d=>zM 14 O c<|zG O O<|fun e c=>(y4 zW [] e qI Rd.nil).mono ?_
 rintro a8 p ⟨_,rfl,g⟩
 refine(?_:CL _ _ _ _ _ _ (Own w S [_,_,_,_,_,_,_,_,_,_,_,_,_,_,_,_])) p<|c.qb g
 refine zE [0,9,10,1,2,3,4] O V<|fun e c d=>zM 19 O c<|zG O O<|fun e c=>(zIa jb e<|c.give [4] O V).mono ?_
 rintro _ p ⟨h,a9,rfl,g⟩
 refine fq [4] O c g<|zE [0,8,9,1,2,3,15] O V<|fun e c d=>zD 20 O (zL (o:=24) O) d<|zM 21 O c<|zS (fun e c=>Own.qa (i:=5) O c)<|fun u=>(zS (fun e c=>Own.qa (i:=6) O c)<|fun x=>(zS (fun e c=>Own.qa (i:=7) O c)<|fun y=>(zf 4 O O O (zH O<|zH O<|zH u<|zH x<|zH y zh) O<|zE [0,8,9,1,2,3,15] O V<|fun e c d=>zD 22 O (zL (o:=29) O) d<|zM 23 O c<|zi 4 O O O O O<|zE [0,8,9,1,2,3,15] O V<|fun e c d=>zD 24 O (zL (o:=30) O) d<|zM 25 O c<|zS (fun e c=>Own.qa (i:=14) O c)<|fun j=>(zi 4 O O O j O<|zE [0,8,9,1,2,3,15] O V<|fun e c d=>zD 26 O (zL (o:=31) O) d<|zM 27 O c<|zi 4 O O O O O<|zE [0,8,9,1,2,3,15] O V<|fun e c d=>zX<|(?_:C _ _ _ _ _ _ _ (Own w S [_,_,_,_,_,_,_,_,_,_,_,_,_,_,_,_,_])) _ c))))
 refine zK<|zB<|zC O<|zV O O<|zI (o:=9) O O<|zJ 0 (v:= .pointer none) O O O O<|jt qF O O O<|zA<|yW O<|zN<|zB<|zF O<|zA<|zP<|zm (v:=pt b3) O O<|fun e c=>⟨b3,h,a4,q,s,a3,a8,O,c.sel [0,8,9,10,1,2,3,15,4,5,6,7] O V⟩
theorem zKd{S:List Nat}(cb jb:Nat)(t:TimD)(a:StA)(r:RolD)(b:StB)(qe:Nat)(lv:Value)(es:List EntD)(ld:Nat)(tv:Value)(y:List Int)(sure:Nat)(w:World)(hE:EsOk es)(hl:es.length≤1000)(b8:b.vs=[1])(ht:y.length≤1000)(b9:Own w S [xh cb t (pt ld) a r b zW jb qe (.pointer none),Res.row b.lb 415 [Vn 0,Vn 0,lv],vE lv es,sE es,vI b.vv b.vs,vI b.wv ([]:List Int),vY b.dv ([]:List UInt8),Res.row jb 422 [Vn 0,Vn 0,zW],Res.row ld 334 [zW,zW,tv,Vn sure,zW,Vi 0,yC],vT tv y] w):Rets Tryz.prog 174 #[pt cb] w fun u_ d=>∃ (az ba bb bc:Nat) (cv cw dw yw:Value),u_=pt az∧Own w S [Res.ap cb jb t a r b qe lv es ld tv sure,vT tv y,Res.row az 260 (TimD.cells t++(pt bc::(StA.cells a++(RolD.cells r++[Vn 0,Vn 0,cv,cw,dw,pt bb,yw,pt ba,Vn qe, .pointer none])))),Res.sv b.vs cv cw dw] d:=by
 have hg:=hE.good
 have ca:b.vs.length≤1000:=by rw[b8];decide
 refine zO Tryz.func174 O Tryz.ntmps174 b9<|zB<|zF O<|zA<|zK<|zB<|zC O<|yE qF O O O<|zA<|yW O<|zN<|zB<|zC O<|zV O O<|z6 0 O O O<|zk (v:= .agg #[Vn 0,Vi 0,Vi 0,Vi 0,Vi 0,Vi 0,Vi 0,Vi 0,Vi 0, .pointer none,Vi 0,Vi 0,Vi 0,Vi 0,Vi 0,Vi 0,Vi 0,Vi 0,Vi 0,Vi 0,Vi 0,Vi 0,Vi 0,Vn 0,Vn 0,Vn 0,zW,zW,zW, .pointer none,zW, .pointer none,Vn 0, .pointer none]) qF O<|fun x=>(zS (fun d c=>Own.qa (i:=4) O c)<|fun b0=>(zS (fun d c=>Own.qa (i:=5) O c)<|fun b1=>(zS (fun d c=>Own.qa (i:=6) O c)<|fun b2=>(zf 10 O O O (zH O<|zH O<|zH O<|zH O<|zH O<|zH O<|zH O<|zH O<|zH O<|zH O<|zH O<|zH O<|zH O<|zH O<|zH O<|zH O<|zH O<|zH O<|zH O<|zH O<|zH O<|zH O<|zH O<|zH O<|zH O<|zH O<|zH b0<|zH b1<|zH b2<|zH O<|zH O<|zH O<|zH O<|zH O zh) O<|zA<|zK<|zd [0,1,2,4,5,6,7,8,9] O V qF<|fun d c e=>zD 0 O za e<|zD 1 O (zY O) e<|zD 2 O (zL (o:=24) O) e<|zD 3 O (zBL 0 [Vn 0,Vn 0,b.vv,b.wv,b.dv] O O (yj 24 O) qF) e<|zD 5 O za e<|zD 6 O (zY O) e<|zD 7 O (zL (o:=29) O) e<|zD 8 O (zZ 0 (v:=pt b.lb) O O O) e<|zD 10 O za e<|zD 11 O (zY O) e<|zD 12 O (zL (o:=30) O) e<|zD 13 O (zZ 0 (v:=zW) O O O) e<|zD 15 O za e<|zD 16 O (zY O) e<|zD 17 O (zL (o:=31) O) e<|zD 18 O (zZ 0 (v:=pt jb) O O O) e<|zM 4 O c<|zG O O<|fun d c=>(zId ({index:=0,term:=0,conf:=({vv:=b.vv,vs:=b.vs,lv:=b.wv,ls:=[]}:ConfD),dv:=b.dv,data:=[]}:ShtD) d qI qI qI ⟨⟨(c.qj 4 O),(c.qj 5 O)⟩,(c.qj 6 O)⟩).mono ?_))))
 rintro _ l ⟨n,p,q,rfl,h⟩
 refine(?_:CL _ _ _ _ _ _ (Own w S [_,_,_,_,_,_,_,_,_,_,_,_,_,_])) l<|c.qb h
 refine zE [0,1,2,4,5,6,7,8,9] O V<|fun d c e=>zM 9 O c<|zG O O<|fun d c=>(zHj b.lb 0 0 lv es d qH ‹_› (c.give [1,2,3] O V)).mono ?_
 rintro _ l ⟨s,bd,bf,rfl,bg,h⟩
 refine fq [1,2,3] O c h<|zE [0,11,12,1,2,3,4,5,6] O V<|fun d c e=>zM 14 O c<|zG O O<|fun d c=>(y4 zW [] d qI Rd.nil).mono ?_
 rintro u l ⟨_,rfl,h⟩
 refine(?_:CL _ _ _ _ _ _ (Own w S [_,_,_,_,_,_,_,_,_,_,_,_,_,_,_,_,_,_])) l<|c.qb h
 refine zE [0,11,12,1,2,3,4,5,6] O V<|fun d c e=>zM 19 O c<|zG O O<|fun d c=>(zIa jb d<|c.give [4] O V).mono ?_
 rintro _ l ⟨m,bh,rfl,h⟩
 refine fq [4] O c h<|zE [0,10,11,1,2,3,17,4,5] O V<|fun d c e=>zD 20 O (zL (o:=24) O) e<|zM 21 O c<|zS (fun d c=>Own.qa (i:=7) O c)<|fun b5=>(zS (fun d c=>Own.qa (i:=8) O c)<|fun b6=>(zS (fun d c=>Own.qa (i:=9) O c)<|fun b7=>(zf 6 O O O (zH O<|zH O<|zH b5<|zH b6<|zH b7 zh) O<|zE [0,10,11,1,2,3,17,4,5] O V<|fun d c e=>zD 22 O (zL (o:=29) O) e<|zM 23 O c<|zi 6 O O O O O<|zE [0,10,11,1,2,3,17,4,5] O V<|fun d c e=>zD 24 O (zL (o:=30) O) e<|zM 25 O c<|zS (fun d c=>Own.qa (i:=16) O c)<|fun a0=>(zi 6 O O O a0 O<|zE [0,10,11,1,2,3,17,4,5] O V<|fun d c e=>zD 26 O (zL (o:=31) O) e<|zM 27 O c<|zi 6 O O O O O<|zE [0,10,11,1,2,3,17,4,5] O V<|fun d c e=>zX<|(?_:C _ _ _ _ _ _ _ (Own w S [_,_,_,_,_,_,_,_,_,_,_,_,_,_,_,_,_,_,_])) _ c))))
 refine zK<|zB<|zC O<|zV O O<|zI (o:=9) O O<|zJ 0 (v:=pt ld) O O O O<|jt qF O O O<|zA<|x0 O<|zB<|zC O<|zV O O<|zI (o:=9) O O<|zJ 0 (v:=pt ld) O O O O<|zV O O<|z6 4 O O O<|zk (v:= .agg #[zW,zW,zW,Vn 0,zW,Vi 0,yC]) qF O<|fun z=>(zS (fun d c=>Own.qa (i:=5) O c)<|fun a1=>(zf 19 O O O (zH O<|zH O<|zH a1<|zH O<|zH O<|zH O<|zH O zh) O<|zA<|zB<|zI (o:=0) O O<|zi 19 O O O O O<|zA<|zK<|zB<|zC O<|zV O O<|zI (o:=9) O O<|zJ 0 (v:=pt ld) O O O O<|zV O O<|zI (o:=0) O O<|zJ 4 (v:=zW) O O O O<|jM qF O O<|zC O<|zA<|zU<|yQ (fun(k:Nat)=>[(3,pt x),(4,pt z),(55,zW),(56,Vj 0),(57,Vj k)]) (fun(k:Nat)=>k=0) (fun(k:Nat)=>[Res.ap cb jb t a r b qe lv es ld tv sure,vT tv y,Res.row x 260 (TimD.cells t++(pt ld::(StA.cells a++(RolD.cells r++[Vn 0,Vn 0,n,p,q,pt s,u,pt m,Vn qe, .pointer none])))),Res.sv b.vs n p q,Res.row z 334 [zW,zW,tv,Vn sure,zW,Vi 0,yC]]) (fun(k:Nat)=>0) (fun d c=>⟨0,⟨O,O,O,O,O,trivial⟩,O,(((c.qg [0,10,11,12,1,2,3,17,4] O V).qg [2,3,4] O V).sel [8,0,1,9,7] O V)⟩)<|fun k g hΦ=> ?_))
 have cc:=hΦ
 refine zB<|zu O O O<|zA<|zK<|zT O (fun c3=> ?_)<|fun c3=> ?_
 ·exact absurd c3 qG
 refine zw O<|zK<|zd [0,1,2,3] O V qF<|fun d c e=>zD 0 O (zL (o:=1) O) e<|zD 3 O (zL (o:=2) O) e<|zD 6 O (zL (o:=4) O) e<|zCA (i:=1) (j:=4) (k:=7) qF ?_ ?_ ?_
 ·refine zo 1 O c<|zJ 4 (v:=zW) O O O O<|zE [0,1,2,3] O V<|fun d c e=>zCA (i:=2) (j:=4) (k:=7) qF ?_ ?_ ?_
  ·refine zo 2 O c<|zG O O<|fun d c=>(y4 zW [] d qI Rd.nil).mono ?_
   rintro bi l ⟨_,rfl,h⟩
   refine(?_:CL _ _ _ _ _ _ (Own w S [_,_,_,_,_,_])) l<|c.qb h
   refine zE [0,1,2,3] O V<|fun d c e=>z7 4 7 ?_ ?_
   ·refine zo 4 O c<|zJ 4 (v:=tv) O O O O<|zE [0,1,2,3] O V<|fun d c e=>z7 5 7 ?_ ?_
    ·refine zo 5 O c<|zG O O<|fun d c=>(xH tv y d qH<|c.qj 1 O).mono ?_
     rintro bj l ⟨_,rfl,h⟩
     refine(?_:CL _ _ _ _ _ _ (Own w S [_,_,_,_,_,_,_])) l<|c.qb h
     refine zE [0,1,2,3] O V<|fun d c e=>zM 7 O c<|zJ 4 (v:=zW) O O O O<|zE [0,1,2,3] O V<|fun d c e=>zM 8 O c<|zG O O<|fun d c=>(xF d).mono ?_
     rintro _ l ⟨rfl,h⟩
     refine(?_:CL _ _ _ _ _ _ (Own w S [_,_,_,_,_,_,_])) l<|c.qb h
     refine zE [0,1,2,3] O V<|fun d c e=>zD 9 O (zL (o:=1) O) e<|zM 10 O c<|zS (fun d c=>Own.qa (i:=5) O c)<|fun a2=>(zi 4 O O O a2 O<|zE [0,1,2,3] O V<|fun d c e=>zD 11 O (zL (o:=2) O) e<|zM 12 O c<|zS (fun d c=>Own.qa (i:=6) O c)<|fun a3=>(zi 4 O O O a3 O<|zE [0,1,2,3] O V<|fun d c e=>zD 13 O (zL (o:=4) O) e<|zM 14 O c<|zi 4 O O O O O<|zE [0,1,2,3] O V<|fun d c e=>zX<|(?_:C _ _ _ _ _ _ _ (Own w S [_,_,_,_,_,_,_])) _ c))
     refine ze<|zI (o:=9) O O<|zi 2 O O O O O<|zA<|zB<|zF O<|zA<|zP<|zm (v:=pt x) O O<|fun d c=>⟨x,m,s,z,n,p,q,u,O,c.sel [0,1,2,3] O V⟩
    refine zo 7 O c<|zJ 4 (v:=zW) O O O O<|zE [0,1,2,3] O V<|fun d c e=>zM 5 O c<|zG O O<|fun d c=>(xH tv y d qH<|c.qj 1 O).mono ?_
    rintro bk l ⟨_,rfl,h⟩
    refine(?_:CL _ _ _ _ _ _ (Own w S [_,_,_,_,_,_,_])) l<|c.qb h
    refine zE [0,1,2,3] O V<|fun d c e=>zM 8 O c<|zG O O<|fun d c=>(xF d).mono ?_
    rintro _ l ⟨rfl,h⟩
    refine(?_:CL _ _ _ _ _ _ (Own w S [_,_,_,_,_,_,_])) l<|c.qb h
    refine zE [0,1,2,3] O V<|fun d c e=>zD 9 O (zL (o:=1) O) e<|zM 10 O c<|zS (fun d c=>Own.qa (i:=5) O c)<|fun a4=>(zi 4 O O O a4 O<|zE [0,1,2,3] O V<|fun d c e=>zD 11 O (zL (o:=2) O) e<|zM 12 O c<|zS (fun d c=>Own.qa (i:=6) O c)<|fun a5=>(zi 4 O O O a5 O<|zE [0,1,2,3] O V<|fun d c e=>zD 13 O (zL (o:=4) O) e<|zM 14 O c<|zi 4 O O O O O<|zE [0,1,2,3] O V<|fun d c e=>zX<|(?_:C _ _ _ _ _ _ _ (Own w S [_,_,_,_,_,_,_])) _ c))
    refine ze<|zI (o:=9) O O<|zi 2 O O O O O<|zA<|zB<|zF O<|zA<|zP<|zm (v:=pt x) O O<|fun d c=>⟨x,m,s,z,n,p,q,u,O,c.sel [0,1,2,3] O V⟩
   refine zo 7 O c<|zJ 4 (v:=zW) O O O O<|zE [0,1,2,3] O V<|fun d c e=>zM 4 O c<|zJ 4 (v:=tv) O O O O<|zE [0,1,2,3] O V<|fun d c e=>zM 5 O c<|zG O O<|fun d c=>(xH tv y d qH<|c.qj 1 O).mono ?_
   rintro bl l ⟨_,rfl,h⟩
   refine(?_:CL _ _ _ _ _ _ (Own w S [_,_,_,_,_,_,_])) l<|c.qb h
   refine zE [0,1,2,3] O V<|fun d c e=>zM 8 O c<|zG O O<|fun d c=>(xF d).mono ?_
   rintro _ l ⟨rfl,h⟩
   refine(?_:CL _ _ _ _ _ _ (Own w S [_,_,_,_,_,_,_])) l<|c.qb h
   refine zE [0,1,2,3] O V<|fun d c e=>zD 9 O (zL (o:=1) O) e<|zM 10 O c<|zS (fun d c=>Own.qa (i:=5) O c)<|fun a6=>(zi 4 O O O a6 O<|zE [0,1,2,3] O V<|fun d c e=>zD 11 O (zL (o:=2) O) e<|zM 12 O c<|zS (fun d c=>Own.qa (i:=6) O c)<|fun a7=>(zi 4 O O O a7 O<|zE [0,1,2,3] O V<|fun d c e=>zD 13 O (zL (o:=4) O) e<|zM 14 O c<|zi 4 O O O O O<|zE [0,1,2,3] O V<|fun d c e=>zX<|(?_:C _ _ _ _ _ _ _ (Own w S [_,_,_,_,_,_,_])) _ c))
   refine ze<|zI (o:=9) O O<|zi 2 O O O O O<|zA<|zB<|zF O<|zA<|zP<|zm (v:=pt x) O O<|fun d c=>⟨x,m,s,z,n,p,q,u,O,c.sel [0,1,2,3] O V⟩
  ·refine zo 4 O c<|zJ 4 (v:=tv) O O O O<|zE [0,1,2,3] O V<|fun d c e=>z7 2 7 ?_ ?_
   ·refine zo 2 O c<|zG O O<|fun d c=>(y4 zW [] d qI Rd.nil).mono ?_
    rintro bm l ⟨_,rfl,h⟩
    refine(?_:CL _ _ _ _ _ _ (Own w S [_,_,_,_,_,_])) l<|c.qb h
    refine zE [0,1,2,3] O V<|fun d c e=>z7 5 7 ?_ ?_
    ·refine zo 5 O c<|zG O O<|fun d c=>(xH tv y d qH<|c.qj 1 O).mono ?_
     rintro bn l ⟨_,rfl,h⟩
     refine(?_:CL _ _ _ _ _ _ (Own w S [_,_,_,_,_,_,_])) l<|c.qb h
     refine zE [0,1,2,3] O V<|fun d c e=>zM 7 O c<|zJ 4 (v:=zW) O O O O<|zE [0,1,2,3] O V<|fun d c e=>zM 8 O c<|zG O O<|fun d c=>(xF d).mono ?_
     rintro _ l ⟨rfl,h⟩
     refine(?_:CL _ _ _ _ _ _ (Own w S [_,_,_,_,_,_,_])) l<|c.qb h
     refine zE [0,1,2,3] O V<|fun d c e=>zD 9 O (zL (o:=1) O) e<|zM 10 O c<|zS (fun d c=>Own.qa (i:=5) O c)<|fun a8=>(zi 4 O O O a8 O<|zE [0,1,2,3] O V<|fun d c e=>zD 11 O (zL (o:=2) O) e<|zM 12 O c<|zS (fun d c=>Own.qa (i:=6) O c)<|fun a9=>(zi 4 O O O a9 O<|zE [0,1,2,3] O V<|fun d c e=>zD 13 O (zL (o:=4) O) e<|zM 14 O c<|zi 4 O O O O O<|zE [0,1,2,3] O V<|fun d c e=>zX<|(?_:C _ _ _ _ _ _ _ (Own w S [_,_,_,_,_,_,_])) _ c))
     refine ze<|zI (o:=9) O O<|zi 2 O O O O O<|zA<|zB<|zF O<|zA<|zP<|zm (v:=pt x) O O<|fun d c=>⟨x,m,s,z,n,p,q,u,O,c.sel [0,1,2,3] O V⟩
    refine zo 7 O c<|zJ 4 (v:=zW) O O O O<|zE [0,1,2,3] O V<|fun d c e=>zM 5 O c<|zG O O<|fun d c=>(xH tv y d qH<|c.qj 1 O).mono ?_
    rintro bo l ⟨_,rfl,h⟩
    refine(?_:CL _ _ _ _ _ _ (Own w S [_,_,_,_,_,_,_])) l<|c.qb h
    refine zE [0,1,2,3] O V<|fun d c e=>zM 8 O c<|zG O O<|fun d c=>(xF d).mono ?_
    rintro _ l ⟨rfl,h⟩
    refine(?_:CL _ _ _ _ _ _ (Own w S [_,_,_,_,_,_,_])) l<|c.qb h
    refine zE [0,1,2,3] O V<|fun d c e=>zD 9 O (zL (o:=1) O) e<|zM 10 O c<|zS (fun d c=>Own.qa (i:=5) O c)<|fun aa=>(zi 4 O O O aa O<|zE [0,1,2,3] O V<|fun d c e=>zD 11 O (zL (o:=2) O) e<|zM 12 O c<|zS (fun d c=>Own.qa (i:=6) O c)<|fun ab=>(zi 4 O O O ab O<|zE [0,1,2,3] O V<|fun d c e=>zD 13 O (zL (o:=4) O) e<|zM 14 O c<|zi 4 O O O O O<|zE [0,1,2,3] O V<|fun d c e=>zX<|(?_:C _ _ _ _ _ _ _ (Own w S [_,_,_,_,_,_,_])) _ c))
    refine ze<|zI (o:=9) O O<|zi 2 O O O O O<|zA<|zB<|zF O<|zA<|zP<|zm (v:=pt x) O O<|fun d c=>⟨x,m,s,z,n,p,q,u,O,c.sel [0,1,2,3] O V⟩
   refine zo 7 O c<|zJ 4 (v:=zW) O O O O<|zE [0,1,2,3] O V<|fun d c e=>zM 2 O c<|zG O O<|fun d c=>(y4 zW [] d qI Rd.nil).mono ?_
   rintro bp l ⟨_,rfl,h⟩
   refine(?_:CL _ _ _ _ _ _ (Own w S [_,_,_,_,_,_])) l<|c.qb h
   refine zE [0,1,2,3] O V<|fun d c e=>zM 5 O c<|zG O O<|fun d c=>(xH tv y d qH<|c.qj 1 O).mono ?_
   rintro bq l ⟨_,rfl,h⟩
   refine(?_:CL _ _ _ _ _ _ (Own w S [_,_,_,_,_,_,_])) l<|c.qb h
   refine zE [0,1,2,3] O V<|fun d c e=>zM 8 O c<|zG O O<|fun d c=>(xF d).mono ?_
   rintro _ l ⟨rfl,h⟩
   refine(?_:CL _ _ _ _ _ _ (Own w S [_,_,_,_,_,_,_])) l<|c.qb h
   refine zE [0,1,2,3] O V<|fun d c e=>zD 9 O (zL (o:=1) O) e<|zM 10 O c<|zS (fun d c=>Own.qa (i:=5) O c)<|fun ac=>(zi 4 O O O ac O<|zE [0,1,2,3] O V<|fun d c e=>zD 11 O (zL (o:=2) O) e<|zM 12 O c<|zS (fun d c=>Own.qa (i:=6) O c)<|fun ad=>(zi 4 O O O ad O<|zE [0,1,2,3] O V<|fun d c e=>zD 13 O (zL (o:=4) O) e<|zM 14 O c<|zi 4 O O O O O<|zE [0,1,2,3] O V<|fun d c e=>zX<|(?_:C _ _ _ _ _ _ _ (Own w S [_,_,_,_,_,_,_])) _ c))
   refine ze<|zI (o:=9) O O<|zi 2 O O O O O<|zA<|zB<|zF O<|zA<|zP<|zm (v:=pt x) O O<|fun d c=>⟨x,m,s,z,n,p,q,u,O,c.sel [0,1,2,3] O V⟩
  refine zo 7 O c<|zJ 4 (v:=zW) O O O O<|zE [0,1,2,3] O V<|fun d c e=>z7 2 4 ?_ ?_
  ·refine zo 2 O c<|zG O O<|fun d c=>(y4 zW [] d qI Rd.nil).mono ?_
   rintro br l ⟨_,rfl,h⟩
   refine(?_:CL _ _ _ _ _ _ (Own w S [_,_,_,_,_,_])) l<|c.qb h
   refine zE [0,1,2,3] O V<|fun d c e=>zM 4 O c<|zJ 4 (v:=tv) O O O O<|zE [0,1,2,3] O V<|fun d c e=>zM 5 O c<|zG O O<|fun d c=>(xH tv y d qH<|c.qj 1 O).mono ?_
   rintro bs l ⟨_,rfl,h⟩
   refine(?_:CL _ _ _ _ _ _ (Own w S [_,_,_,_,_,_,_])) l<|c.qb h
   refine zE [0,1,2,3] O V<|fun d c e=>zM 8 O c<|zG O O<|fun d c=>(xF d).mono ?_
   rintro _ l ⟨rfl,h⟩
   refine(?_:CL _ _ _ _ _ _ (Own w S [_,_,_,_,_,_,_])) l<|c.qb h
   refine zE [0,1,2,3] O V<|fun d c e=>zD 9 O (zL (o:=1) O) e<|zM 10 O c<|zS (fun d c=>Own.qa (i:=5) O c)<|fun ae=>(zi 4 O O O ae O<|zE [0,1,2,3] O V<|fun d c e=>zD 11 O (zL (o:=2) O) e<|zM 12 O c<|zS (fun d c=>Own.qa (i:=6) O c)<|fun af=>(zi 4 O O O af O<|zE [0,1,2,3] O V<|fun d c e=>zD 13 O (zL (o:=4) O) e<|zM 14 O c<|zi 4 O O O O O<|zE [0,1,2,3] O V<|fun d c e=>zX<|(?_:C _ _ _ _ _ _ _ (Own w S [_,_,_,_,_,_,_])) _ c))
   refine ze<|zI (o:=9) O O<|zi 2 O O O O O<|zA<|zB<|zF O<|zA<|zP<|zm (v:=pt x) O O<|fun d c=>⟨x,m,s,z,n,p,q,u,O,c.sel [0,1,2,3] O V⟩
  refine zo 4 O c<|zJ 4 (v:=tv) O O O O<|zE [0,1,2,3] O V<|fun d c e=>zM 2 O c<|zG O O<|fun d c=>(y4 zW [] d qI Rd.nil).mono ?_
  rintro bt l ⟨_,rfl,h⟩
  refine(?_:CL _ _ _ _ _ _ (Own w S [_,_,_,_,_,_])) l<|c.qb h
  refine zE [0,1,2,3] O V<|fun d c e=>zM 5 O c<|zG O O<|fun d c=>(xH tv y d qH<|c.qj 1 O).mono ?_
  rintro bu l ⟨_,rfl,h⟩
  refine(?_:CL _ _ _ _ _ _ (Own w S [_,_,_,_,_,_,_])) l<|c.qb h
  refine zE [0,1,2,3] O V<|fun d c e=>zM 8 O c<|zG O O<|fun d c=>(xF d).mono ?_
  rintro _ l ⟨rfl,h⟩
  refine(?_:CL _ _ _ _ _ _ (Own w S [_,_,_,_,_,_,_])) l<|c.qb h
  refine zE [0,1,2,3] O V<|fun d c e=>zD 9 O (zL (o:=1) O) e<|zM 10 O c<|zS (fun d c=>Own.qa (i:=5) O c)<|fun ag=>(zi 4 O O O ag O<|zE [0,1,2,3] O V<|fun d c e=>zD 11 O (zL (o:=2) O) e<|zM 12 O c<|zS (fun d c=>Own.qa (i:=6) O c)<|fun ah=>(zi 4 O O O ah O<|zE [0,1,2,3] O V<|fun d c e=>zD 13 O (zL (o:=4) O) e<|zM 14 O c<|zi 4 O O O O O<|zE [0,1,2,3] O V<|fun d c e=>zX<|(?_:C _ _ _ _ _ _ _ (Own w S [_,_,_,_,_,_,_])) _ c))
  refine ze<|zI (o:=9) O O<|zi 2 O O O O O<|zA<|zB<|zF O<|zA<|zP<|zm (v:=pt x) O O<|fun d c=>⟨x,m,s,z,n,p,q,u,O,c.sel [0,1,2,3] O V⟩
 ·refine zo 4 O c<|zJ 4 (v:=tv) O O O O<|zE [0,1,2,3] O V<|fun d c e=>z7 1 7 ?_ ?_
  ·refine zo 1 O c<|zJ 4 (v:=zW) O O O O<|zE [0,1,2,3] O V<|fun d c e=>z7 2 7 ?_ ?_
   ·refine zo 2 O c<|zG O O<|fun d c=>(y4 zW [] d qI Rd.nil).mono ?_
    rintro bv l ⟨_,rfl,h⟩
    refine(?_:CL _ _ _ _ _ _ (Own w S [_,_,_,_,_,_])) l<|c.qb h
    refine zE [0,1,2,3] O V<|fun d c e=>z7 5 7 ?_ ?_
    ·refine zo 5 O c<|zG O O<|fun d c=>(xH tv y d qH<|c.qj 1 O).mono ?_
     rintro bw l ⟨_,rfl,h⟩
     refine(?_:CL _ _ _ _ _ _ (Own w S [_,_,_,_,_,_,_])) l<|c.qb h
     refine zE [0,1,2,3] O V<|fun d c e=>zM 7 O c<|zJ 4 (v:=zW) O O O O<|zE [0,1,2,3] O V<|fun d c e=>zM 8 O c<|zG O O<|fun d c=>(xF d).mono ?_
     rintro _ l ⟨rfl,h⟩
     refine(?_:CL _ _ _ _ _ _ (Own w S [_,_,_,_,_,_,_])) l<|c.qb h
     refine zE [0,1,2,3] O V<|fun d c e=>zD 9 O (zL (o:=1) O) e<|zM 10 O c<|zS (fun d c=>Own.qa (i:=5) O c)<|fun ai=>(zi 4 O O O ai O<|zE [0,1,2,3] O V<|fun d c e=>zD 11 O (zL (o:=2) O) e<|zM 12 O c<|zS (fun d c=>Own.qa (i:=6) O c)<|fun aj=>(zi 4 O O O aj O<|zE [0,1,2,3] O V<|fun d c e=>zD 13 O (zL (o:=4) O) e<|zM 14 O c<|zi 4 O O O O O<|zE [0,1,2,3] O V<|fun d c e=>zX<|(?_:C _ _ _ _ _ _ _ (Own w S [_,_,_,_,_,_,_])) _ c))
     refine ze<|zI (o:=9) O O<|zi 2 O O O O O<|zA<|zB<|zF O<|zA<|zP<|zm (v:=pt x) O O<|fun d c=>⟨x,m,s,z,n,p,q,u,O,c.sel [0,1,2,3] O V⟩
    refine zo 7 O c<|zJ 4 (v:=zW) O O O O<|zE [0,1,2,3] O V<|fun d c e=>zM 5 O c<|zG O O<|fun d c=>(xH tv y d qH<|c.qj 1 O).mono ?_
    rintro bx l ⟨_,rfl,h⟩
    refine(?_:CL _ _ _ _ _ _ (Own w S [_,_,_,_,_,_,_])) l<|c.qb h
    refine zE [0,1,2,3] O V<|fun d c e=>zM 8 O c<|zG O O<|fun d c=>(xF d).mono ?_
    rintro _ l ⟨rfl,h⟩
    refine(?_:CL _ _ _ _ _ _ (Own w S [_,_,_,_,_,_,_])) l<|c.qb h
    refine zE [0,1,2,3] O V<|fun d c e=>zD 9 O (zL (o:=1) O) e<|zM 10 O c<|zS (fun d c=>Own.qa (i:=5) O c)<|fun ak=>(zi 4 O O O ak O<|zE [0,1,2,3] O V<|fun d c e=>zD 11 O (zL (o:=2) O) e<|zM 12 O c<|zS (fun d c=>Own.qa (i:=6) O c)<|fun al=>(zi 4 O O O al O<|zE [0,1,2,3] O V<|fun d c e=>zD 13 O (zL (o:=4) O) e<|zM 14 O c<|zi 4 O O O O O<|zE [0,1,2,3] O V<|fun d c e=>zX<|(?_:C _ _ _ _ _ _ _ (Own w S [_,_,_,_,_,_,_])) _ c))
    refine ze<|zI (o:=9) O O<|zi 2 O O O O O<|zA<|zB<|zF O<|zA<|zP<|zm (v:=pt x) O O<|fun d c=>⟨x,m,s,z,n,p,q,u,O,c.sel [0,1,2,3] O V⟩
   refine zo 7 O c<|zJ 4 (v:=zW) O O O O<|zE [0,1,2,3] O V<|fun d c e=>zM 2 O c<|zG O O<|fun d c=>(y4 zW [] d qI Rd.nil).mono ?_
   rintro bz l ⟨_,rfl,h⟩
   refine(?_:CL _ _ _ _ _ _ (Own w S [_,_,_,_,_,_])) l<|c.qb h
   refine zE [0,1,2,3] O V<|fun d c e=>zM 5 O c<|zG O O<|fun d c=>(xH tv y d qH<|c.qj 1 O).mono ?_
   rintro c0 l ⟨_,rfl,h⟩
   refine(?_:CL _ _ _ _ _ _ (Own w S [_,_,_,_,_,_,_])) l<|c.qb h
   refine zE [0,1,2,3] O V<|fun d c e=>zM 8 O c<|zG O O<|fun d c=>(xF d).mono ?_
   rintro _ l ⟨rfl,h⟩
   refine(?_:CL _ _ _ _ _ _ (Own w S [_,_,_,_,_,_,_])) l<|c.qb h
   refine zE [0,1,2,3] O V<|fun d c e=>zD 9 O (zL (o:=1) O) e<|zM 10 O c<|zS (fun d c=>Own.qa (i:=5) O c)<|fun am=>(zi 4 O O O am O<|zE [0,1,2,3] O V<|fun d c e=>zD 11 O (zL (o:=2) O) e<|zM 12 O c<|zS (fun d c=>Own.qa (i:=6) O c)<|fun an=>(zi 4 O O O an O<|zE [0,1,2,3] O V<|fun d c e=>zD 13 O (zL (o:=4) O) e<|zM 14 O c<|zi 4 O O O O O<|zE [0,1,2,3] O V<|fun d c e=>zX<|(?_:C _ _ _ _ _ _ _ (Own w S [_,_,_,_,_,_,_])) _ c))
   refine ze<|zI (o:=9) O O<|zi 2 O O O O O<|zA<|zB<|zF O<|zA<|zP<|zm (v:=pt x) O O<|fun d c=>⟨x,m,s,z,n,p,q,u,O,c.sel [0,1,2,3] O V⟩
  refine zo 7 O c<|zJ 4 (v:=zW) O O O O<|zE [0,1,2,3] O V<|fun d c e=>zM 1 O c<|zJ 4 (v:=zW) O O O O<|zE [0,1,2,3] O V<|fun d c e=>zM 2 O c<|zG O O<|fun d c=>(y4 zW [] d qI Rd.nil).mono ?_
  rintro c1 l ⟨_,rfl,h⟩
  refine(?_:CL _ _ _ _ _ _ (Own w S [_,_,_,_,_,_])) l<|c.qb h
  refine zE [0,1,2,3] O V<|fun d c e=>zM 5 O c<|zG O O<|fun d c=>(xH tv y d qH<|c.qj 1 O).mono ?_
  rintro c2 l ⟨_,rfl,h⟩
  refine(?_:CL _ _ _ _ _ _ (Own w S [_,_,_,_,_,_,_])) l<|c.qb h
  refine zE [0,1,2,3] O V<|fun d c e=>zM 8 O c<|zG O O<|fun d c=>(xF d).mono ?_
  rintro _ l ⟨rfl,h⟩
  refine(?_:CL _ _ _ _ _ _ (Own w S [_,_,_,_,_,_,_])) l<|c.qb h
  refine zE [0,1,2,3] O V<|fun d c e=>zD 9 O (zL (o:=1) O) e<|zM 10 O c<|zS (fun d c=>Own.qa (i:=5) O c)<|fun ao=>(zi 4 O O O ao O<|zE [0,1,2,3] O V<|fun d c e=>zD 11 O (zL (o:=2) O) e<|zM 12 O c<|zS (fun d c=>Own.qa (i:=6) O c)<|fun aq=>(zi 4 O O O aq O<|zE [0,1,2,3] O V<|fun d c e=>zD 13 O (zL (o:=4) O) e<|zM 14 O c<|zi 4 O O O O O<|zE [0,1,2,3] O V<|fun d c e=>zX<|(?_:C _ _ _ _ _ _ _ (Own w S [_,_,_,_,_,_,_])) _ c))
  refine ze<|zI (o:=9) O O<|zi 2 O O O O O<|zA<|zB<|zF O<|zA<|zP<|zm (v:=pt x) O O<|fun d c=>⟨x,m,s,z,n,p,q,u,O,c.sel [0,1,2,3] O V⟩
 refine zo 7 O c<|zJ 4 (v:=zW) O O O O<|zE [0,1,2,3] O V<|fun d c e=>z7 1 4 ?_ ?_
 ·refine zo 1 O c<|zJ 4 (v:=zW) O O O O<|zE [0,1,2,3] O V<|fun d c e=>z7 2 4 ?_ ?_
  ·refine zo 2 O c<|zG O O<|fun d c=>(y4 zW [] d qI Rd.nil).mono ?_
   rintro c4 l ⟨_,rfl,h⟩
   refine(?_:CL _ _ _ _ _ _ (Own w S [_,_,_,_,_,_])) l<|c.qb h
   refine zE [0,1,2,3] O V<|fun d c e=>zM 4 O c<|zJ 4 (v:=tv) O O O O<|zE [0,1,2,3] O V<|fun d c e=>zM 5 O c<|zG O O<|fun d c=>(xH tv y d qH<|c.qj 1 O).mono ?_
   rintro c5 l ⟨_,rfl,h⟩
   refine(?_:CL _ _ _ _ _ _ (Own w S [_,_,_,_,_,_,_])) l<|c.qb h
   refine zE [0,1,2,3] O V<|fun d c e=>zM 8 O c<|zG O O<|fun d c=>(xF d).mono ?_
   rintro _ l ⟨rfl,h⟩
   refine(?_:CL _ _ _ _ _ _ (Own w S [_,_,_,_,_,_,_])) l<|c.qb h
   refine zE [0,1,2,3] O V<|fun d c e=>zD 9 O (zL (o:=1) O) e<|zM 10 O c<|zS (fun d c=>Own.qa (i:=5) O c)<|fun ar=>(zi 4 O O O ar O<|zE [0,1,2,3] O V<|fun d c e=>zD 11 O (zL (o:=2) O) e<|zM 12 O c<|zS (fun d c=>Own.qa (i:=6) O c)<|fun au=>(zi 4 O O O au O<|zE [0,1,2,3] O V<|fun d c e=>zD 13 O (zL (o:=4) O) e<|zM 14 O c<|zi 4 O O O O O<|zE [0,1,2,3] O V<|fun d c e=>zX<|(?_:C _ _ _ _ _ _ _ (Own w S [_,_,_,_,_,_,_])) _ c))
   refine ze<|zI (o:=9) O O<|zi 2 O O O O O<|zA<|zB<|zF O<|zA<|zP<|zm (v:=pt x) O O<|fun d c=>⟨x,m,s,z,n,p,q,u,O,c.sel [0,1,2,3] O V⟩
  refine zo 4 O c<|zJ 4 (v:=tv) O O O O<|zE [0,1,2,3] O V<|fun d c e=>zM 2 O c<|zG O O<|fun d c=>(y4 zW [] d qI Rd.nil).mono ?_
  rintro c6 l ⟨_,rfl,h⟩
  refine(?_:CL _ _ _ _ _ _ (Own w S [_,_,_,_,_,_])) l<|c.qb h
  refine zE [0,1,2,3] O V<|fun d c e=>zM 5 O c<|zG O O<|fun d c=>(xH tv y d qH<|c.qj 1 O).mono ?_
  rintro c7 l ⟨_,rfl,h⟩
  refine(?_:CL _ _ _ _ _ _ (Own w S [_,_,_,_,_,_,_])) l<|c.qb h
  refine zE [0,1,2,3] O V<|fun d c e=>zM 8 O c<|zG O O<|fun d c=>(xF d).mono ?_
  rintro _ l ⟨rfl,h⟩
  refine(?_:CL _ _ _ _ _ _ (Own w S [_,_,_,_,_,_,_])) l<|c.qb h
  refine zE [0,1,2,3] O V<|fun d c e=>zD 9 O (zL (o:=1) O) e<|zM 10 O c<|zS (fun d c=>Own.qa (i:=5) O c)<|fun av=>(zi 4 O O O av O<|zE [0,1,2,3] O V<|fun d c e=>zD 11 O (zL (o:=2) O) e<|zM 12 O c<|zS (fun d c=>Own.qa (i:=6) O c)<|fun aw=>(zi 4 O O O aw O<|zE [0,1,2,3] O V<|fun d c e=>zD 13 O (zL (o:=4) O) e<|zM 14 O c<|zi 4 O O O O O<|zE [0,1,2,3] O V<|fun d c e=>zX<|(?_:C _ _ _ _ _ _ _ (Own w S [_,_,_,_,_,_,_])) _ c))
  refine ze<|zI (o:=9) O O<|zi 2 O O O O O<|zA<|zB<|zF O<|zA<|zP<|zm (v:=pt x) O O<|fun d c=>⟨x,m,s,z,n,p,q,u,O,c.sel [0,1,2,3] O V⟩
 refine zo 4 O c<|zJ 4 (v:=tv) O O O O<|zE [0,1,2,3] O V<|fun d c e=>zM 1 O c<|zJ 4 (v:=zW) O O O O<|zE [0,1,2,3] O V<|fun d c e=>zM 2 O c<|zG O O<|fun d c=>(y4 zW [] d qI Rd.nil).mono ?_
 rintro c8 l ⟨_,rfl,h⟩
 refine(?_:CL _ _ _ _ _ _ (Own w S [_,_,_,_,_,_])) l<|c.qb h
 refine zE [0,1,2,3] O V<|fun d c e=>zM 5 O c<|zG O O<|fun d c=>(xH tv y d qH<|c.qj 1 O).mono ?_
 rintro c9 l ⟨_,rfl,h⟩
 refine(?_:CL _ _ _ _ _ _ (Own w S [_,_,_,_,_,_,_])) l<|c.qb h
 refine zE [0,1,2,3] O V<|fun d c e=>zM 8 O c<|zG O O<|fun d c=>(xF d).mono ?_
 rintro _ l ⟨rfl,h⟩
 refine(?_:CL _ _ _ _ _ _ (Own w S [_,_,_,_,_,_,_])) l<|c.qb h
 refine zE [0,1,2,3] O V<|fun d c e=>zD 9 O (zL (o:=1) O) e<|zM 10 O c<|zS (fun d c=>Own.qa (i:=5) O c)<|fun ax=>(zi 4 O O O ax O<|zE [0,1,2,3] O V<|fun d c e=>zD 11 O (zL (o:=2) O) e<|zM 12 O c<|zS (fun d c=>Own.qa (i:=6) O c)<|fun ay=>(zi 4 O O O ay O<|zE [0,1,2,3] O V<|fun d c e=>zD 13 O (zL (o:=4) O) e<|zM 14 O c<|zi 4 O O O O O<|zE [0,1,2,3] O V<|fun d c e=>zX<|(?_:C _ _ _ _ _ _ _ (Own w S [_,_,_,_,_,_,_])) _ c))
 refine ze<|zI (o:=9) O O<|zi 2 O O O O O<|zA<|zB<|zF O<|zA<|zP<|zm (v:=pt x) O O<|fun d c=>⟨x,m,s,z,n,p,q,u,O,c.sel [0,1,2,3] O V⟩
end Go.Proofs.YthpoddkmhfhboaaGreatDoor
