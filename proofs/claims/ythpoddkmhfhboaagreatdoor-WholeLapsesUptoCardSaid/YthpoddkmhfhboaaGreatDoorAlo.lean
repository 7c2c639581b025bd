import Derived.Test.YthpoddkmhfhboaaGreatDoorAlC
set_option linter.unusedSimpArgs false
set_option linter.unusedVariables false
set_option maxRecDepth 10000
namespace Go.Proofs.YthpoddkmhfhboaaGreatDoor
open Go.Sc
theorem zO3{es:List EntD}{n:Nat}(a:EsOk es):zAk [1] (es.map EntD.toEntA) n=((⟨[1],[]⟩:ConfA),0):=by
 unfold zAk
 rw[List.find?_eq_none.2 fun x b=> ?_]
 obtain⟨y,c,rfl⟩:=List.mem_map.1 (List.mem_reverse.1 b)
 have:=(a.all y c).1
 unfold zGM
 rw[decide_eq_true_iff]
 exact fun q=>this q.1
theorem jo{S:List Nat}(cb jb:Nat)(t:TimD)(a:StA)(r:RolD)(b:StB)(lead yv out:Value)(qe:Nat)(lv:Value)(es:List EntD)(w:World)(m:EsOk es)(hl:es.length≤1000)(l:b.vs=[1])(n:Own w S [xh cb t lead a r b yv jb qe out,Res.nl b lv es] w):Rets Tryz.prog 143 #[pt cb] w fun s g=>∃ (cv cw:Value),s= .agg #[cv,cw]∧Own w S [xh cb t lead a r b yv jb qe out,Res.nl b lv es,vI cv ([1]:List Int),vI cw ([]:List Int)] g:=by
 have hb:=(LG.le m.good).1
 have x:=m.good
 refine zO Tryz.func143 O Tryz.ntmps143 n<|zB<|zk (v:= .agg #[zW,zW]) qF O<|fun y=>zA<|zB<|zC O<|zV O O<|zI (o:=29) O O<|zJ 0 (v:=pt b.lb) O O O O<|zG O O<|fun g e=>(zDH b.lb 0 0 lv es g qI qH (e.qq 1 0 O O) (e.qr 1 1 O O)<|EntD.rd.qq 1 2 O O e).mono ?_
 rintro _ q ⟨rfl,p⟩
 refine(?_:CL _ _ _ _ _ _ (Own w S [_,_,_])) q<|e.qb p
 refine zC O<|zb (vs:=[Vn (0+es.length),Vn ((LG 0 0 es).end_)]) O O O<|zb (vs:=[Vn (0+es.length),Vn ((LG 0 0 es).end_)]) O O O<|zF O<|zF O<|zA<|zB<|zC O<|zC O<|zG O O<|fun g e=>(zHf cb jb t a r b lead yv out qe _ _ (0+es.length) g ‹_› qH (by rw[l];decide)<|e.give [0,1] O V).mono ?_
 rintro _ q ⟨c,d,F3_,I4_,rfl,k,p⟩
 have u:F3_=(⟨[1],[]⟩:ConfA):=congrArg Prod.fst (k.trans (by rw[l];exact zO3 m):(F3_,I4_)=((⟨[1],[]⟩:ConfA),0))
 refine fq [0,1] O e p<|zC O<|zb (vs:=[.agg #[c,d],Vn I4_]) O O O<|zb (vs:=[.agg #[c,d],Vn I4_]) O O O<|zk (v:= .agg #[zW,zW]) qF O<|fun z=>(zS (fun g e=>Own.qa (i:=3) O e)<|fun h=>(zS (fun g e=>Own.qa (i:=4) O e)<|fun j=>(zf 5 O O O (zH h<|zH j zh) O<|zF O<|zA<|zB<|z6 (cs:=[c,d]) 5 O O O<|zf 0 O O O (zH h<|zH j zh) O<|zA<|zP<|xg (cs:=[c,d]) O O qF (Own.qd (i:=0) O)<|fun g e=>⟨c,d,O,(by rw[u]at e;exact e.sel [1,2,3,4] rfl V)⟩)))
theorem j0{S:List Nat}(cb jb:Nat)(t:TimD)(a:StA)(r:RolD)(b:StB)(lead yv out:Value)(qe:Nat)(lv:Value)(es:List EntD)(w:World)(x:EsOk es)(hl:es.length≤1000)(s:b.vs=[1])(m:a.id=1)(p:Own w S [xh cb t lead a r b yv jb qe out,Res.nl b lv es] w):Rets Tryz.prog 264 #[pt cb] w fun u d=>u=xx∧Own w S [xh cb t lead a r b yv jb qe out,Res.nl b lv es] d:=by
 refine zO Tryz.func264 O Tryz.ntmps264 p<|zB<|zF O<|zA<|zK<|zd [0,1] O V qF<|fun d c g=>zD 0 O za g<|zD 2 O za g<|zD 3 O (zY O) g<|zD 4 O (zL (o:=10) O) g<|zD 5 O (zZ 0 (v:=Vi a.id) O O O) g<|z7 1 6 ?_ ?_
 ·refine zo 1 O c<|zG O O<|fun d c=>(jo cb jb t a r b lead yv out qe _ _ d ‹_› qH qK<|c.give [0,1] O V).mono ?_
  rintro _ n ⟨h,i,rfl,l⟩
  refine fq [0,1] O c l<|zE [0,1] O V<|fun d c g=>zM 6 O c<|yH (e:=3) (sz:=1) (vs:=[Vi a.id]) qF O O qL V O<|fun q=>zE [0,1] O V<|fun d c g=>zM 7 O c<|zG O O<|fun d c=>(zCB ({vv:=h,vs:=([1]:List Int),lv:=i,ls:=[]}:ConfD) (.slice (some ⟨q,0,none⟩) 1 1) [a.id] d qI qI (c.qj 4 O) ⟨(c.qj 2 O),(c.qj 3 O)⟩).mono ?_
  rintro _ n ⟨rfl,l⟩
  refine(?_:CL _ _ _ _ _ _ (Own w S [_,_,_,_,_])) n<|c.qb l
  refine zE [0,1] O V<|fun d c g=>zD 8 O yB g<|zX<|(?_:C _ _ _ _ _ _ _ (Own w S [_,_,_,_,_])) _ c
  exact zP<|zm (v:= .bool (decide (({vv:=h,vs:=([1]:List Int),lv:=i,ls:=[]}:ConfD).qu [a.id]))) O O<|fun d c=>⟨(by rw[m];rfl),c.sel [0,1] O V⟩
 refine zo 6 O c<|yH (e:=3) (sz:=1) (vs:=[Vi a.id]) qF O O qL V O<|fun q=>zE [0,1] O V<|fun d c g=>zM 1 O c<|zG O O<|fun d c=>(jo cb jb t a r b lead yv out qe _ _ d ‹_› qH qK<|c.give [0,1] O V).mono ?_
 rintro _ n ⟨j,k,rfl,l⟩
 refine fq [0,1] O c l<|zE [1,2] O V<|fun d c g=>zM 7 O c<|zG O O<|fun d c=>(zCB ({vv:=j,vs:=([1]:List Int),lv:=k,ls:=[]}:ConfD) (.slice (some ⟨q,0,none⟩) 1 1) [a.id] d qI qI (c.qj 0 O) ⟨(c.qj 3 O),(c.qj 4 O)⟩).mono ?_
 rintro _ n ⟨rfl,l⟩
 refine(?_:CL _ _ _ _ _ _ (Own w S [_,_,_,_,_])) n<|c.qb l
 refine zE [1,2] O V<|fun d c g=>zD 8 O yB g<|zX<|(?_:C _ _ _ _ _ _ _ (Own w S [_,_,_,_,_])) _ c
 exact zP<|zm (v:= .bool (decide (({vv:=j,vs:=([1]:List Int),lv:=k,ls:=[]}:ConfD).qu [a.id]))) O O<|fun d c=>⟨(by rw[m];rfl),c.sel [1,2] O V⟩
theorem zGj{es es':List EntD}{kind now qh:Int}{term:Nat}{data:List UInt8}(a:EsOk es)(b:(kind=1∧data.length=0)∨(kind=2∧data.length≤4096))(c:qh≤now)(hl:es.length≤1000)(d:term=1)
   (h:LG 0 0 es'=(LG 0 0 es).append es.length (LG 0 0 es).end_ [(⟨es.length+1,term,kind,min (now - qh) 1099511627776,data⟩:EntA)]):EsOk es'∧es'.length=es.length+1∧es'.map EntD.toEntA=es.map EntD.toEntA++[(⟨es.length+1,1,kind,min (now - qh) 1099511627776,data⟩:EntA)]:=
 zN2 (xv:=zW) a b c hl (by subst d;rw[Nat.zero_add];exact h)
structure TmOk(t:TimD):Prop where
 now:0≤t.now∧t.now≤1000000000000000
 qo:0≤t.qo∧t.qo≤1000000000000000
 qk:0≤t.qk∧t.qk≤1000000000000000
 qh:0≤t.qh∧t.qh≤t.now
theorem zHE{S:List Nat}(c:ConfD)(v:Value)(l:List Nat)(w:World)(u:c.few)(j:c.ok)(h1:c.vs.length=1)(hl:l.length=1)(k:Own w S [vU v l] w)(d:ConfD.rd c w S):Rets Tryz.prog 336 #[.agg (ConfD.cells c).toArray,v] w fun t e=>t= .tuple #[Vn (zc l 0),Vi 0]∧Own w S [vU v l] e:=by
 refine zO Tryz.func336 O Tryz.ntmps336 k<|zB<|zj O O<|fun x=>zF O<|zF O<|zA<|zK<|zB<|z6 (cs:=(ConfD.cells c)) 1 O O O<|zG O O<|fun e b=>(zE4 c e ‹_› (d.at0 b)).mono ?_
 rintro _ m ⟨rfl,h⟩
 refine(?_:CL _ _ _ _ _ _ (Own w S [_,_])) m<|b.qb h
 refine zF O<|zA<|zB<|zC O<|yf O O O<|zA<|zT O (fun q=> ?_)<|fun q=> ?_
 ·exact absurd (errOf_zero.2 j) q
 refine zN<|zK<|zB<|zC O<|zn (pV 0 O) O O<|zI (o:=0) O O<|zJ 1 (v:=c.vv) O O O O<|zn (pR d.vv) O O<|yf O O O<|zA<|zT O (fun r=> ?_)<|fun r=> ?_
 ·exact absurd (by rw[h1,hl]) r
 refine zN<|zB<|zC O<|zG O O<|fun e b=>(zRZ v l e<|b.give [0] O V).mono ?_
 rintro _ m ⟨n,rfl,h⟩
 refine fq [0] O b h<|zG O O<|fun e b=>(zJW n v l e qH<|b.give [2,1] O V).mono ?_
 rintro s m ⟨_,a,rfl,g,h⟩
 have i:a=l:=g
 have p:a.length=1:=by rw[i];exact hl
 refine fq [2,1] O b h<|zF O<|zA<|zB<|zC O<|zC O<|zn (pV 3 O) O O<|y9 (c:=((0:Nat):Int)) O O (by rw[p];rfl) O<|zEw (c:=((0:Nat):Int)) O O V O O<|yL (pV 3 O) 1 0 O O O qG O<|xC (pV 3 O) 1 0 0 (fun _=>O) O qP qG O O<|zF O<|zF O<|zA<|zP<|yg (v:=Vn (zc a 0)) (v':=Vi 0) O O O<|fun e b=>⟨(by rw[i]),b.sel [2] O V⟩
theorem zJx{S:List Nat}(cb jb:Nat)(t:TimD)(a:StA)(r:RolD)(b:StB)(lead yv out:Value)(qe:Nat)(lv:Value)(es:List EntD)(c:Nat)(fv:Value)(w:World)(hE:EsOk es)(hl:es.length≤1000)(a0:b.vs=[1])(n:a.id=1)(p:Own w S [xh cb t lead a r b yv jb qe out,Res.nl b lv es] w):Rets Tryz.prog 337 #[pt cb,Vn c,fv] w fun u_ i=>∃ (pv:Value),u_=pv∧Own w S [xh cb t lead a r b yv jb qe out,Res.nl b lv es,vU pv [c]] i:=by
 refine zO Tryz.func337 O Tryz.ntmps337 p<|zB<|zF O<|zA<|zB<|zF O<|zA<|zK<|zB<|zC O<|zG O O<|fun i h=>(jo cb jb t a r b lead yv out qe _ _ i ‹_› qH qK<|h.give [0,1] O V).mono ?_
 rintro _ w1 ⟨d,m,rfl,hO⟩
 refine fq [0,1] O h hO<|zKx (o:=0) (v:=d) O qF O O<|zn (pV 2 O) O O<|zC O<|zA<|zU<|xV (fun(k:Nat) (pv:Value) (pl:List Nat)=>[(0,pt cb),(1,Vn c),(2,fv),(7,pv),(14,d),(15,Vj<|([1]:List Int).length),(16,Vj k)]) (fun(k:Nat) (pv:Value) (pl:List Nat)=>(k=0∧pl=[])∨(k=1∧pl=[c])) (fun(k:Nat) (pv:Value) (pl:List Nat)=>[xh cb t lead a r b yv jb qe out,Res.nl b lv es,vI d ([1]:List Int),vI m ([]:List Int),vU pv pl]) (fun(k:Nat) (pv:Value) (pl:List Nat)=>1 - k) (fun i h=>⟨0,zW,[],⟨O,O,O,O,O,O,O,trivial⟩, .inl ⟨O,O⟩,(zq h 31 1)⟩)<|fun k pv pl g s=> ?_
 have hk:k≤1:=by rcases s with⟨q,_⟩|⟨q,_⟩<;>omega
 refine zB<|zu O O O<|zA<|zK<|zT O (fun u=> ?_)<|fun u=> ?_
 ·have j:k=0∧pl=[]:=by rcases s with q|q;exact q;exact absurd u (by rw[q.1];decide)
  have a1:pl.length=0:=by rw[j.2];rfl
  refine zN<|zK<|zU<|zB<|yL (pV 2 O) 1 k O O O qG O<|xC (pV 2 O) 1 k 0 (fun _=>O) O O qG O O<|zF O<|zA<|zB<|zF O<|zA<|zK<|zB<|zC O<|zC O<|zV O O<|zI (o:=10) O O<|zJ 0 (v:=Vi a.id) O O O O<|yT O O O<|zA<|zT O (fun c2=> ?_)<|fun c2=> ?_
  ·refine ze<|zC O<|zF O<|zA<|ze<|zC O<|zC O<|yH (e:=31) (sz:=1) (vs:=[Vn c]) qF O O qL V O<|fun a2=>yF (g:=U1) (sz:=1) (by':=8) (fun _=>O) (l:=pl) (l':=[c]) (by simp[cell1,U1]) 4 qF O O O (fun i x=>Vec.sl<|Own.holds x 5 _ O) qH V O<|fun y=>zF O<|zA<|ze<|zr O O (zt qG) O<|zC O<|zx<|fun i h=>⟨k+1,y,pl++[c],⟨O,O,O,O,O,O,O,trivial⟩, .inr ⟨by omega,by rw[j.2];rfl⟩,h.sel [0,1,2,3,4] O V,qG⟩
  exact absurd (by rw[j.1,n];rfl) c2
 have z:k=1∧pl=[c]:=by rcases s with q|q;exact absurd (by rw[q.1];decide) u;exact q
 refine zw O<|zB<|zC O<|zF O<|zA<|zP<|zm (v:=pv) O O<|fun i h=>⟨pv,O,by rw[z.2]at h;exact h.sel [0,1,4] rfl V⟩
theorem zFm{S:List Nat}(cb jb:Nat)(t:TimD)(a:StA)(r:RolD)(b:StB)(lead yv out:Value)(qe:Nat)(lv:Value)(es:List EntD)(w:World)(y:EsOk es)(hl:es.length≤1000)(a0:b.vs=[1])(a1:a.id=1)(s:t.term=1)(hc:r.qf<es.length)(u:Own w S [xh cb t lead a r b yv jb qe out,Res.nl b lv es] w):Rets Tryz.prog 191 #[pt cb] w fun u_ e=>u_= .tuple #[]∧Own w S [xh cb t lead a ({r with qf:=es.length}:RolD) b yv jb qe out,Res.nl b lv es] e:=by
 have hg:=y.good
 have hb:=(LG.le hg).1
 have x:=y.fits qG
 refine zO Tryz.func191 O Tryz.ntmps191 u<|zB<|zC O<|zV O O<|zI (o:=29) O O<|zJ 0 (v:=pt b.lb) O O O O<|zG O O<|fun e d=>(zDH b.lb 0 0 lv es e qI qH (d.qq 1 0 O O) (d.qr 1 1 O O)<|EntD.rd.qq 1 2 O O d).mono ?_
 rintro _ m ⟨rfl,j⟩
 refine(?_:CL _ _ _ _ _ _ (Own w S [_,_])) m<|d.qb j
 refine zC O<|zb (vs:=[Vn (0+es.length),Vn ((LG 0 0 es).end_)]) O O O<|zb (vs:=[Vn (0+es.length),Vn ((LG 0 0 es).end_)]) O O O<|zF O<|zF O<|zA<|zB<|zC O<|zG O O<|fun e d=>(jo cb jb t a r b lead yv out qe _ _ e ‹_› qH qK<|d.give [0,1] O V).mono ?_
 rintro _ m ⟨g,h,rfl,j⟩
 refine fq [0,1] O d j<|zk (v:= .agg #[zW,zW]) qF O<|fun b4=>(zS (fun e d=>Own.qa (i:=2) O d)<|fun n=>(zS (fun e d=>Own.qa (i:=3) O d)<|fun p=>(zf 4 O O O (zH n<|zH p zh) O<|zA<|zK<|zd [0,1,2,3,4] O V qF<|fun e d c=>zD 0 O (xG (cs:=[g,h]) 4 O O) c<|zD 1 O za c<|zD 2 O za c<|zM 3 O d<|zG O O<|fun e d=>(zJx cb jb t a r b lead yv out qe _ _ (0+es.length) (.func (.func 338) #[] #[]) e ‹_› qH qK qH<|d.give [0,1] O V).mono ?_)))
 rintro k m ⟨_,rfl,j⟩
 refine fq [0,1] O d j<|zE [3,4,0,1,2] O V<|fun e d c=>zM 4 O d<|zG O O<|fun e d=>(zHE ({vv:=g,vs:=([1]:List Int),lv:=h,ls:=[]}:ConfD) k [(0+es.length)] e qI (of_decide_eq_true O) O O (d.give [5] O V) ⟨(d.rdVec 0 O [5] O O),(d.rdVec 1 O [5] O O)⟩).mono ?_
 rintro _ m ⟨rfl,j⟩
 have l:zc [0+es.length] 0=es.length:=by simp[zc]
 refine fq [5] O d j<|zE [3,4,0,1,2] O V<|fun e d c=>zD 5 O za c<|zD 6 O (yG (vs:=[Vn (zc [(0+es.length)] 0),Vi 0]) O O) c<|zD 7 O (yG (vs:=[Vn (zc [(0+es.length)] 0),Vi 0]) O O) c<|zD 8 O yB c<|zD 9 O yB c<|zX<|(?_:C _ _ _ _ _ _ _ (Own w S [_,_,_,_,_,_])) _ d
 refine zK<|zK<|zd [0,1,2,3,4,5] O V qF<|fun e d c=>zD 0 O za c<|zD 1 O za c<|zD 2 O (zY O) c<|zD 3 O (zL (o:=23) O) c<|zD 4 O (zZ 3 (v:=Vn r.qf) O O O) c<|zD 5 O (zJH O O) c<|zD 6 O za c ?_
 by_cases g3_6:((zc [(0+es.length)] 0:Nat):Int)≤((r.qf:Nat):Int)
 ·refine yD 7 O O (gT g3_6) O c<|yD 8 O O (gT g3_6) O c<|yD 9 O O (gT g3_6) O c<|yD 10 O O (gT g3_6) O c<|yD 11 O O (gT g3_6) O c<|yD 12 O O (gT g3_6) O c<|yD 13 O O (gT g3_6) O c<|yD 14 O O (gT g3_6) O c<|yD 15 O O (gT g3_6) O c<|yD 16 O O (gT g3_6) O c<|yD 17 O O (gT g3_6) O c<|yD 18 O O (gT g3_6) O c<|zD 19 O (zC5<|gT g3_6) c<|zX<|(?_:C _ _ _ _ _ _ _ (Own w S [_,_,_,_,_,_])) _ d
  refine x0 O<|zP<|yq O<|fun e d=>⟨O,absurd g3_6 (by rw[l];omega)⟩
 refine xR 7 O O (gF g3_6) za c<|xR 8 O O (gF g3_6) (zY O) c<|xR 9 O O (gF g3_6) (zL (o:=29) O) c<|xR 10 O O (gF g3_6) (zZ 3 (v:=pt b.lb) O O O) c<|xR 11 O O (gF g3_6) za c<|xR 12 O O (gF g3_6) za c<|xR 13 O O (gF g3_6) (zY O) c<|xR 14 O O (gF g3_6) (zL (o:=0) O) c<|xR 15 O O (gF g3_6) (zL (o:=0) O) c<|xR 16 O O (gF g3_6) (zZ 3 (v:=Vn t.term) O O O) c<|zM 17 O d<|zQ O (gF g3_6)<|zG O O<|fun e d=>((zFH b.lb 0 0 lv es (zc [(0+es.length)] 0) t.term e qI qH qK (d.qq 4 0 O O) (d.qr 4 1 O O)<|EntD.rd.qq 4 2 O O d).mono ?_)
 rintro _ m ⟨rfl,j⟩
 refine(?_:CL _ _ _ _ _ _ (Own w S [_,_,_,_,_,_])) m<|d.qb j
 refine zE [0,1,2,3,4,5] O V<|fun e d c=>xR 18 O O (gF g3_6) (zHF (q:=(LG 0 0 es).fits (zc [(0+es.length)] 0) t.term) O) c<|zD 19 O (jw<|gF g3_6) c<|zX<|(?_:C _ _ _ _ _ _ _ (Own w S [_,_,_,_,_,_])) _ d
 refine zT O (fun z=> ?_)<|fun z=> ?_
 ·exact absurd (by rw[l,s];exact x) z
 refine zN<|ze<|zC O<|zC O<|zV O O<|zI (o:=23) O O<|zi 3 O O O O O<|zx<|yq O<|fun e d=>⟨O,(by have d:Own w S [vI g ([1]:List Int),vI h ([]:List Int),Res.row b4 178 [g,h],xh cb t lead a ({r with qf:=zc [(0+es.length)] 0}:RolD) b yv jb qe out,Res.nl b lv es,vU k [(0+es.length)]] e:=d;rw[l]at d;exact d.sel [3,4] rfl V)⟩
theorem zIR{S:List Nat}(cb jb:Nat)(t:TimD)(a:StA)(r:RolD)(b:StB)(yv out:Value)(qe:Nat)(lv:Value)(es:List EntD)(ld:Nat)(tv:Value)(m:List Int)(sure:Nat)(w:World)(hE:EsOk es)(hl:es.length≤1000)(a1:b.vs=[1])(a2:a.id=1)(ht:m.length≤1000)(y:Own w S [xh cb t (pt ld) a r b yv jb qe out,Res.nl b lv es,Res.row ld 334 [zW,zW,tv,Vn sure,zW,Vi 0,yC],vT tv m] w):Rets Tryz.prog 267 #[pt cb] w fun u_ h=>∃ (q:Value),u_= .tuple #[]∧Own w S [xh cb ({t with qo:=t.now}:TimD) (pt ld) a r b yv jb qe out,Res.nl b lv es,Res.row ld 334 [zW,zW,q,Vn (m.length+1),zW,Vi 0,yC],vT q (m++[t.now])] h:=by
 have s:(m++[t.now]).length=m.length+1:=by simp
 refine zO Tryz.func267 O Tryz.ntmps267 y<|zB<|zC O<|zC O<|zV O O<|zI (o:=2) O O<|zI (o:=0) O O<|zJ 0 (v:=Vi t.now) O O O O<|zV O O<|zI (o:=2) O O<|zI (o:=3) O O<|zi 0 O O O O O<|zA<|zK<|zd [0,1] O V qF<|fun h d c=>zD 0 O za c<|zD 1 O (zY O) c<|zD 2 O (zL (o:=9) O) c<|zD 3 O (zZ 0 (v:=pt ld) O O O) c<|zD 4 O za c<|zD 5 O (zY O) c<|zD 6 O (zL (o:=9) O) c<|zD 7 O (zZ 0 (v:=pt ld) O O O) c<|zD 8 O (zY O) c<|zD 9 O (zL (o:=2) O) c<|zD 11 O za c<|zD 12 O (zY O) c<|zD 13 O (zL (o:=2) O) c<|zD 14 O (zL (o:=0) O) c<|zD 15 O (zZ 0 (v:=Vi t.now) O O O) c<|z7 10 16 ?_ ?_
 ·refine zo 10 O d<|zJ 2 (v:=tv) O O O O<|zE [0,1] O V<|fun h d c=>zM 16 O d<|yH (e:=2) (sz:=1) (vs:=[Vi t.now]) qF O O qL V O<|fun n=>zE [0,1] O V<|fun h d c=>zM 17 O d<|yF (g:=I1) (sz:=1) (by':=8) (fun _=>O) (l:=m) (l':=[t.now]) qO 3 qF O O O (fun h p=>Vec.sl<|Own.holds p 4 _ O) qH V O<|fun j=>zE [0,1] O V<|fun h d c=>zD 18 O (zY O) c<|zD 19 O (zL (o:=2) O) c<|zM 20 O d<|zS (fun h d=>Own.qa (i:=3) O d)<|fun u=>(zi 2 O O O u O<|zE [0,1] O V<|fun h d c=>zX<|(?_:C _ _ _ _ _ _ _ (Own w S [_,_,_,_,_])) _ d)
  refine zK<|zB<|zC O<|zV O O<|zI (o:=9) O O<|zJ 0 (v:=pt ld) O O O O<|zV O O<|zI (o:=0) O O<|zJ 2 (v:=zW) O O O O<|jM qF O O<|zC O<|zA<|zU<|yQ (fun(k:Nat)=>[(0,pt cb),(39,zW),(40,Vj 0),(41,Vj k)]) (fun(k:Nat)=>k=0) (fun(k:Nat)=>[xh cb ({t with qo:=t.now}:TimD) (pt ld) a r b yv jb qe out,Res.nl b lv es,Res.row ld 334 [zW,zW,j,Vn sure,zW,Vi 0,yC],vT j (m++[t.now]),vT (.slice (some ⟨n,0,none⟩) 1 1) [t.now]]) (fun(k:Nat)=>0) (fun h d=>⟨0,⟨O,O,O,O,trivial⟩,O,d⟩)<|fun k g z=> ?_
  have a0:=z
  refine zB<|zu O O O<|zA<|zK<|zT O (fun c1=> ?_)<|fun c1=> ?_
  ·exact absurd c1 qG
  refine zw O<|zB<|zC O<|zG O O<|fun h d=>(j0 cb jb ({t with qo:=t.now}:TimD) a r b (pt ld) yv out qe _ _ h ‹_› qH qK qH<|d.give [0,1] O V).mono ?_
  rintro _ w1 ⟨rfl,hO⟩
  refine fq [0,1] O d hO<|zA<|x0 O<|zd [1,2,3,4] O V qF<|fun h d c=>zD 0 O za c<|zD 1 O (zY O) c<|zD 2 O (zL (o:=9) O) c<|zD 3 O (zZ 2 (v:=pt ld) O O O) c<|zD 4 O za c<|zD 5 O (zY O) c<|zD 6 O (zL (o:=9) O) c<|zD 7 O (zZ 2 (v:=pt ld) O O O) c<|zD 8 O (zY O) c<|zD 9 O (zL (o:=2) O) c<|zM 10 O d<|zJ 0 (v:=j) O O O O<|zE [1,2,3,4] O V<|fun h d c=>zD 11 O (kY (pV 0 O) O) c<|zD 12 O (kQ qF O (yz qG) qF) c<|zD 13 O (zY O) c<|zD 14 O (zL (o:=3) O) c<|zM 15 O d<|zi 0 O O O O O<|zE [1,2,3,4] O V<|fun h d c=>zX<|(yq O<|fun h d=>⟨j,O,by rw[←s];exact d.sel [3,4,0,1] rfl V⟩) _ d
 refine zo 16 O d<|yH (e:=2) (sz:=1) (vs:=[Vi t.now]) qF O O qL V O<|fun n=>zE [0,1] O V<|fun h d c=>zM 10 O d<|zJ 2 (v:=tv) O O O O<|zE [0,1] O V<|fun h d c=>zM 17 O d<|yF (g:=I1) (sz:=1) (by':=8) (fun _=>O) (l:=m) (l':=[t.now]) qO 3 qF O O O (fun h p=>Vec.sl<|Own.holds p 4 _ O) qH V O<|fun j=>zE [0,1] O V<|fun h d c=>zD 18 O (zY O) c<|zD 19 O (zL (o:=2) O) c<|zM 20 O d<|zS (fun h d=>Own.qa (i:=3) O d)<|fun x=>(zi 2 O O O x O<|zE [0,1] O V<|fun h d c=>zX<|(?_:C _ _ _ _ _ _ _ (Own w S [_,_,_,_,_])) _ d)
 refine zK<|zB<|zC O<|zV O O<|zI (o:=9) O O<|zJ 0 (v:=pt ld) O O O O<|zV O O<|zI (o:=0) O O<|zJ 2 (v:=zW) O O O O<|jM qF O O<|zC O<|zA<|zU<|yQ (fun(k:Nat)=>[(0,pt cb),(39,zW),(40,Vj 0),(41,Vj k)]) (fun(k:Nat)=>k=0) (fun(k:Nat)=>[xh cb ({t with qo:=t.now}:TimD) (pt ld) a r b yv jb qe out,Res.nl b lv es,Res.row ld 334 [zW,zW,j,Vn sure,zW,Vi 0,yC],vT j (m++[t.now]),vT (.slice (some ⟨n,0,none⟩) 1 1) [t.now]]) (fun(k:Nat)=>0) (fun h d=>⟨0,⟨O,O,O,O,trivial⟩,O,d⟩)<|fun k g z=> ?_
 have a0:=z
 refine zB<|zu O O O<|zA<|zK<|zT O (fun c3=> ?_)<|fun c3=> ?_
 ·exact absurd c3 qG
 refine zw O<|zB<|zC O<|zG O O<|fun h d=>(j0 cb jb ({t with qo:=t.now}:TimD) a r b (pt ld) yv out qe _ _ h ‹_› qH qK qH<|d.give [0,1] O V).mono ?_
 rintro _ w1 ⟨rfl,hO⟩
 refine fq [0,1] O d hO<|zA<|x0 O<|zd [1,2,3,4] O V qF<|fun h d c=>zD 0 O za c<|zD 1 O (zY O) c<|zD 2 O (zL (o:=9) O) c<|zD 3 O (zZ 2 (v:=pt ld) O O O) c<|zD 4 O za c<|zD 5 O (zY O) c<|zD 6 O (zL (o:=9) O) c<|zD 7 O (zZ 2 (v:=pt ld) O O O) c<|zD 8 O (zY O) c<|zD 9 O (zL (o:=2) O) c<|zM 10 O d<|zJ 0 (v:=j) O O O O<|zE [1,2,3,4] O V<|fun h d c=>zD 11 O (kY (pV 0 O) O) c<|zD 12 O (kQ qF O (yz qG) qF) c<|zD 13 O (zY O) c<|zD 14 O (zL (o:=3) O) c<|zM 15 O d<|zi 0 O O O O O<|zE [1,2,3,4] O V<|fun h d c=>zX<|(yq O<|fun h d=>⟨j,O,by rw[←s];exact d.sel [3,4,0,1] rfl V⟩) _ d
theorem zHt{S:List Nat}(cb jb:Nat)(t:TimD)(a:StA)(r:RolD)(b:StB)(yv out:Value)(qe ld:Nat)(tv:Value)(c:List Int)(sure:Nat)(w:World)(d:Own w S [xh cb t (pt ld) a r b yv jb qe out,Res.row ld 334 [zW,zW,tv,Vn sure,zW,Vi 0,yC],vT tv c] w):Rets Tryz.prog 192 #[pt cb] w fun j e=>j= .tuple #[]∧Own w S [xh cb t (pt ld) a r b yv jb qe out,Res.row ld 334 [zW,zW,tv,Vn sure,zW,Vi 0,yC],vT tv c] e:=by
 refine zO Tryz.func192 O Tryz.ntmps192 d<|zB<|zC O<|zV O O<|zI (o:=9) O O<|zJ 0 (v:=pt ld) O O O O<|zV O O<|zI (o:=0) O O<|zJ 1 (v:=zW) O O O O<|jM qF O O<|zC O<|zA<|zU<|yQ (fun(k:Nat)=>[(0,pt cb),(10,zW),(11,Vj 0),(12,Vj k)]) (fun(k:Nat)=>k=0) (fun(k:Nat)=>[xh cb t (pt ld) a r b yv jb qe out,Res.row ld 334 [zW,zW,tv,Vn sure,zW,Vi 0,yC],vT tv c]) (fun(k:Nat)=>0) (fun e h=>⟨0,⟨O,O,O,O,trivial⟩,O,h⟩)<|fun k g l=> ?_
 have m:=l
 refine zB<|zu O O O<|zA<|zK<|zT O (fun i=> ?_)<|fun i=> ?_
 ·exact absurd i qG
 exact xy O<|yq O<|fun e h=>⟨O,h⟩
theorem zEp{S:List Nat}(cb jb:Nat)(t:TimD)(a:StA)(r:RolD)(b:StB)(yv out:Value)(qe:Nat)(lv:Value)(es:List EntD)(w:World)(hE:EsOk es)(hl:es.length≤900)(ab:b.vs=[1])(ac:a.id=1)(a7:t.term=1)(hc:r.qf≤es.length)(hn:0≤t.now∧t.now≤1000000000000000)(ad:Own w S [xh cb t (.pointer none) a r b yv jb qe out,Res.nl b lv es] w):Rets Tryz.prog 413 #[pt cb] w fun u_ j=>∃ (ld:Nat) (tv ae:Value) (y:List EntD),u_= .tuple #[]∧EsOk y∧y.length=es.length+1∧y.map EntD.toEntA=es.map EntD.toEntA++[(⟨es.length+1,1,1,min (t.now - t.now) 1099511627776,[]⟩:EntA)]∧Own w S [xh cb ({t with qh:=t.now,qk:=t.now,qo:=t.now}:TimD) (pt ld) a ({qm:=4,who:=a.id,qf:=y.length}:RolD) b zW jb qe out,Res.nl b ae y,Res.row ld 334 [zW,zW,tv,Vn 1,zW,Vi 0,yC],vT tv [t.now]] j:=by
 refine zO Tryz.func413 O Tryz.ntmps413 ad<|zB<|zC O<|zG O O<|fun j c=>(jv cb jb t a r b yv out qe 0 j<|c.give [0] O V).mono ?_
 rintro _ w1 ⟨rfl,s⟩
 refine fq [0] O c s<|zA<|zB<|zC O<|zC O<|zC O<|zC O<|zV O O<|zI (o:=10) O O<|zJ 1 (v:=Vi a.id) O O O O<|yJ (cs:=[zW,zW,zW,Vn 0,zW,Vi 0,yC]) (z:=[zW,zW,zW,Vn 0,zW,Vi 0,yC]) (pl:=[(0,1),(1,1),(2,1),(3,1),(4,1),(5,1),(6,1)]) qF qF O<|zj O O<|fun m=>zV O O<|zI (o:=21) O O<|zi 1 O O O O O<|zV O O<|zI (o:=22) O O<|zi 1 O O O O O<|zV O O<|zI (o:=9) O O<|zi 1 O O O O O<|zA<|zE6 ([(0,pt cb)]) (True) ([Res.nl b lv es,xh cb ({t with qk:=t.now,qh:=t.now}:TimD) (pt m) a ({qm:=4,who:=a.id,qf:=r.qf}:RolD) b zW jb qe out,Res.row m 334 [zW,zW,zW,Vn 0,zW,Vi 0,yC]]) ?_<|fun g hΦ=> ?_
 ·refine zd [0,2] O V qF<|fun j c l=>zD 0 O za l<|zD 1 O za l<|zD 2 O za l<|zD 3 O (zY O) l<|zD 4 O (zL (o:=2) O) l<|zD 5 O (zL (o:=0) O) l<|zD 7 O za l<|zD 8 O (zY O) l<|zD 9 O (zL (o:=2) O) l<|zD 10 O (zL (o:=0) O) l<|z7 6 11 ?_ ?_
  ·refine zo 6 O c<|zJ 1 (v:=Vi t.now) O O O O<|zE [0,2] O V<|fun j c l=>zM 11 O c<|zJ 1 (v:=Vi t.now) O O O O<|zE [0,2] O V<|fun j c l=>zD 12 O (zY O) l<|zD 13 O (zL (o:=2) O) l<|zD 14 O (zL (o:=4) O) l<|zM 15 O c<|zi 1 O O O O O<|zE [0,2] O V<|fun j c l=>zD 16 O (zY O) l<|zD 17 O (zL (o:=2) O) l<|zD 18 O (zL (o:=6) O) l<|zM 19 O c<|zi 1 O O O O O<|zE [0,2] O V<|fun j c l=>zX (⟨⟨O,trivial⟩,trivial,c⟩)
  refine zo 11 O c<|zJ 1 (v:=Vi t.now) O O O O<|zE [0,2] O V<|fun j c l=>zM 6 O c<|zJ 1 (v:=Vi t.now) O O O O<|zE [0,2] O V<|fun j c l=>zD 12 O (zY O) l<|zD 13 O (zL (o:=2) O) l<|zD 14 O (zL (o:=4) O) l<|zM 15 O c<|zi 1 O O O O O<|zE [0,2] O V<|fun j c l=>zD 16 O (zY O) l<|zD 17 O (zL (o:=2) O) l<|zD 18 O (zL (o:=6) O) l<|zM 19 O c<|zi 1 O O O O O<|zE [0,2] O V<|fun j c l=>zX (⟨⟨O,trivial⟩,trivial,c⟩)
 refine zB<|zC O<|zG O O<|fun j c=>(jo cb jb ({t with qk:=t.now,qh:=t.now}:TimD) a ({qm:=4,who:=a.id,qf:=r.qf}:RolD) b (pt m) zW out qe _ _ j ‹_› qH qK<|c.give [1,0] O V).mono ?_
 rintro _ w1 ⟨d,h,rfl,s⟩
 refine fq [1,0] O c s<|zk (v:= .agg #[zW,zW]) qF O<|fun b2=>(zS (fun j c=>Own.qa (i:=3) O c)<|fun a2=>(zS (fun j c=>Own.qa (i:=4) O c)<|fun a3=>(zf 5 O O O (zH a2<|zH a3 zh) O<|zA<|zK<|zB<|zI (o:=0) O O<|zJ 5 (v:=d) O O O O<|zI (o:=1) O O<|zJ 5 (v:=h) O O O O<|ko (e:=68) (vs:=[d,h]) qF O O (zH a2<|zH a3 zh) V O<|fun a8=>zG O O<|fun j c=>(zLC (.slice (some ⟨a8,0,none⟩) 2 2) [(d,([1]:List Int)),(h,[])] j ⟨by show(1:Nat)≤1;decide,by show(1:Nat)≤1000000;decide⟩ qI (c.qj 6 O)<|all_cons (c.qj 3 O)<|all_cons (c.qj 4 O) (fun p hp=>by cases hp)).mono ?_)))
 rintro a0 w1 ⟨_,rfl,s⟩
 refine(?_:CL _ _ _ _ _ _ (Own w S [_,_,_,_,_,_,_,_])) w1<|c.qb s
 refine zG O O<|fun j c=>(zSD a0 ([(d,([1]:List Int)),(h,[])].flatMap Prod.snd) j<|c.give [7] O V).mono ?_
 rintro _ w1 ⟨a9,rfl,s⟩
 refine fq [7] O c s<|zG O O<|fun j c=>(zJS a9 a0 ([(d,([1]:List Int)),(h,[])].flatMap Prod.snd) j (by show(1:Nat)≤1;decide)<|c.give [8,7] O V).mono ?_
 rintro a4 w1 ⟨_,q,rfl,a5,s⟩
 have aa:q=[1]:=a5
 have ai:q.length=1:=by rw[aa];rfl
 refine fq [8,7] O c s<|zn (pV 9 O) O O<|zC O<|zA<|zU<|yQ (fun(k:Nat)=>[(0,pt cb),(49,a4),(50,Vj q.length),(51,Vj k)]) (fun(k:Nat)=>k≤1) (fun(k:Nat)=>[Res.row m 334 [zW,zW,zW,Vn 0,zW,Vi 0,yC],xh cb ({t with qk:=t.now,qh:=t.now}:TimD) (pt m) a ({qm:=4,who:=a.id,qf:=r.qf}:RolD) b zW jb qe out,Res.nl b lv es,vI d ([1]:List Int),vI h ([]:List Int),Res.row b2 178 [d,h],Res.vec 68 1 (.slice (some ⟨a8,0,none⟩) 2 2) [(d,([1]:List Int)),(h,[])].length ([(d,([1]:List Int)),(h,[])].flatMap pis),Res.row a9 68 [a0],vI a0 ([(d,([1]:List Int)),(h,[])].flatMap Prod.snd),vI a4 q]) (fun(k:Nat)=>1 - k) (fun j c=>⟨0,⟨O,O,O,O,trivial⟩,Nat.zero_le _,c⟩)<|fun k g hΦ=> ?_
 have hk:=hΦ
 refine zB<|zu O O O<|zA<|zK<|zT O (fun c1=> ?_)<|fun c1=> ?_
 ·have af:k=0:=by omega
  have ag:zc q k=1:=by rw[aa,af];rfl
  refine zN<|zK<|zU<|zB<|yL (pV 9 O) 1 k O O O qG O<|xC (pV 9 O) 1 k 0 (fun _=>O) O O qG O O<|zF O<|zA<|zB<|zC O<|zC O<|zV O O<|zI (o:=10) O O<|zJ 1 (v:=Vi a.id) O O O O<|yf O O O<|zA<|zT O (fun c2=> ?_)<|fun c2=> ?_
  ·exact absurd (ag.trans ac.symm) c2
  refine zN<|ze<|zr O O (zt qG) O<|zC O<|zx<|fun j c=>⟨k+1,⟨O,O,O,O,trivial⟩,qG,c,qG⟩
 refine zw O<|zB<|zC O<|zG O O<|fun j c=>(zMD cb jb ({t with qk:=t.now,qh:=t.now}:TimD) a ({qm:=4,who:=a.id,qf:=r.qf}:RolD) b (pt m) zW out qe _ _ 1 zW [] j hE.good qH (by rw[ab];decide) hn hn qH qI (c.give [1,2] O V) Rd.nil).mono ?_
 rintro _ w1 ⟨u,n,rfl,a1,s⟩
 have x:=zGj hE (.inl ⟨rfl,rfl⟩) (Int.le_refl _) qG a7 a1
 have ah:=x.2.1
 refine fq [1,2] O c s<|zA<|zB<|zC O<|zG O O<|fun j c=>(zFm cb jb ({t with qk:=t.now,qh:=t.now}:TimD) a ({qm:=4,who:=a.id,qf:=r.qf}:RolD) b (pt m) zW out qe u n j x.1 qH qK qH a7 qI<|c.give [8,9] O V).mono ?_
 rintro _ w1 ⟨rfl,s⟩
 refine fq [8,9] O c s<|zA<|ze<|zC O<|y1 2 1<|zG O O<|fun j c=>(zIR cb jb ({t with qk:=t.now,qh:=t.now}:TimD) a ({qm:=4,who:=a.id,qf:=n.length}:RolD) b zW out qe u n m zW [] 0 j x.1 qH qK qH qH<|c.give [8,9,0,10] O V).mono ?_
 rintro _ w1 ⟨a6,rfl,s⟩
 refine fq [8,9,0,10] O c s<|zx<|yq O<|fun j c=>⟨m,a6,u,n,O,x.1,x.2.1,x.2.2,c.sel [7,8,9,10] O V⟩
theorem zKy{S:List Nat}(cb jb:Nat)(t:TimD)(a:StA)(r:RolD)(b:StB)(yv out:Value)(qe:Nat)(lv:Value)(es:List EntD)(j:Bool)(w:World)(hE:EsOk es)(hl:es.length≤900)(a7:b.vs=[1])(a8:a.id=1)(a9:t.term=0)(hc:r.qf≤es.length)(hn:0≤t.now∧t.now≤1000000000000000)(ha:a.ok)(hd:qe<18446744073709551616)(a5:Own w S [xh cb t (.pointer none) a r b yv jb qe out,Res.nl b lv es] w):Rets Tryz.prog 271 #[pt cb, .bool j] w fun u_ i=>∃ (ld:Nat) (tv a6:Value) (p:List EntD),u_= .tuple #[]∧EsOk p∧p.length=es.length+1∧p.map EntD.toEntA=es.map EntD.toEntA++[(⟨es.length+1,1,1,min (t.now - t.now) 1099511627776,[]⟩:EntA)]∧Own w S [xh cb ({t with term:=1,ql:=a.id,due:=t.now+ka a qe,qh:=t.now,qk:=t.now,qo:=t.now}:TimD) (pt ld) a ({qm:=4,who:=a.id,qf:=p.length}:RolD) b zW jb qe out,Res.nl b a6 p,Res.row ld 334 [zW,zW,tv,Vn 1,zW,Vi 0,yC],vT tv [t.now]] i:=by
 have aa:=zFp (qe:=qe) ha
 refine zO Tryz.func271 O Tryz.ntmps271 a5<|zK<|zd [1] O V qF<|fun i c d=>zD 0 O za d<|zD 1 O za d<|zD 2 O (zY O) d<|zD 3 O (zL (o:=0) O) d<|zD 4 O (zL (o:=0) O) d<|zD 7 O za d<|zD 8 O (zY O) d<|zD 9 O (zL (o:=10) O) d<|z7 5 10 ?_ ?_
 ·refine zo 5 O c<|zJ 0 (v:=Vn t.term) O O O O<|zE [1] O V<|fun i c d=>zD 6 O (xN O O<|yz qG) d<|zM 10 O c<|zJ 0 (v:=Vi a.id) O O O O<|zE [1] O V<|fun i c d=>zD 11 O (xY (cs:=[Vn (t.term+1),Vi a.id]) (z:=[Vn 0,Vi 0]) (pl:=[(0,1),(1,1)]) qF qF) d<|zD 12 O (zY O) d<|zD 13 O (zL (o:=0) O) d<|zM 14 O c<|zf 0 O O O (zz O) O<|zE [1] O V<|fun i c d=>(zX<|(?_:C _ _ _ _ _ _ _ (Own w S [_,_])) _ c)
  refine zB<|zC O<|zG O O<|fun i c=>(jv cb jb ({t with term:=t.term+1,ql:=a.id}:TimD) a r b yv out qe 0 i<|c.give [0] O V).mono ?_
  rintro _ q ⟨rfl,m⟩
  refine fq [0] O c m<|zA<|jf (fun(h:Value)=>[(0,pt cb),(1, .bool j)]) (fun(h:Value)=>True) (fun(h:Value)=>[xh cb ({t with term:=t.term+1,ql:=a.id}:TimD) (.pointer none) a ({qm:=3,who:=0,qf:=r.qf}:RolD) b h jb qe out,Res.nl b lv es]) ?_<|fun h g hΦ=> ?_
  ·refine ze<|zC O<|zC O<|zC O<|zV O O<|zI (o:=10) O O<|zJ 1 (v:=Vi a.id) O O O O<|yH (e:=3) (sz:=1) (vs:=[Vi a.id]) qF O O qL V O<|fun s=>zV O O<|zI (o:=21) O O<|zi 1 O O O O O<|zV O O<|zI (o:=30) O O<|zi 1 O O O O O<|zx<|fun i c=>⟨(.slice (some ⟨s,0,none⟩) 1 1),⟨O,O,trivial⟩,trivial,c.sel [1,0] O V⟩
  refine jf (fun(h:Value)=>[(0,pt cb),(1, .bool j)]) (fun(h:Value)=>True) (fun(h:Value)=>[xh cb ({t with term:=t.term+1,ql:=a.id,due:=t.now+ka a qe}:TimD) (.pointer none) a ({qm:=3,who:=0,qf:=r.qf}:RolD) b h jb qe out,Res.nl b lv es]) ?_<|fun h g hΦ=> ?_
  ·refine zd [1] O V qF<|fun i c d=>zD 0 O za d<|zD 1 O za d<|zD 2 O (zY O) d<|zD 3 O (zL (o:=2) O) d<|zD 4 O (zL (o:=0) O) d<|zD 6 O za d<|z7 5 7 ?_ ?_
   ·refine zo 5 O c<|zJ 0 (v:=Vi t.now) O O O O<|zE [1] O V<|fun i c d=>zM 7 O c<|zG O O<|fun i c=>(zCS cb jb ({t with term:=t.term+1,ql:=a.id}:TimD) a ({qm:=3,who:=0,qf:=r.qf}:RolD) b (.pointer none) h out qe i ‹_› qH<|c.give [0] O V).mono ?_
    rintro _ q ⟨rfl,m⟩
    refine fq [0] O c m<|zE [0] O V<|fun i c d=>zD 8 O (xN O O<|zt qG) d<|zD 9 O (zY O) d<|zD 10 O (zL (o:=2) O) d<|zD 11 O (zL (o:=2) O) d<|zM 12 O c<|zi 1 O O O O O<|zE [0] O V<|fun i c d=>zX (⟨h,⟨O,O,trivial⟩,trivial,c.sel [1,0] O V⟩)
   refine zo 7 O c<|zG O O<|fun i c=>(zCS cb jb ({t with term:=t.term+1,ql:=a.id}:TimD) a ({qm:=3,who:=0,qf:=r.qf}:RolD) b (.pointer none) h out qe i ‹_› qH<|c.give [0] O V).mono ?_
   rintro _ q ⟨rfl,m⟩
   refine fq [0] O c m<|zE [0] O V<|fun i c d=>zM 5 O c<|zJ 1 (v:=Vi t.now) O O O O<|zE [0] O V<|fun i c d=>zD 8 O (xN O O<|zt qG) d<|zD 9 O (zY O) d<|zD 10 O (zL (o:=2) O) d<|zD 11 O (zL (o:=2) O) d<|zM 12 O c<|zi 1 O O O O O<|zE [0] O V<|fun i c d=>zX (⟨h,⟨O,O,trivial⟩,trivial,c.sel [1,0] O V⟩)
  refine zK<|zB<|zC O<|zG O O<|fun i c=>(j0 cb jb ({t with term:=t.term+1,ql:=a.id,due:=t.now+ka a qe}:TimD) a ({qm:=3,who:=0,qf:=r.qf}:RolD) b (.pointer none) h out qe _ _ i ‹_› qH qK qH<|c.give [0,1] O V).mono ?_
  rintro _ q ⟨rfl,m⟩
  refine fq [0,1] O c m<|zA<|x0 O<|zB<|zC O<|zG O O<|fun i c=>(zEp cb jb ({t with term:=t.term+1,ql:=a.id,due:=t.now+ka a qe}:TimD) a ({qm:=3,who:=0,qf:=r.qf}:RolD) b h out qe _ _ i ‹_› qH qK qH (by show t.term+1=1;omega) qI hn<|c.give [0,1] O V).mono ?_
  rintro _ q ⟨a1,a2,u,x,rfl,n,k,l,m⟩
  refine fq [0,1] O c m<|zA<|zP<|yq O<|fun i c=>⟨a1,a2,u,x,O,n,k,l,(by rw[show t.term+1=1 by omega]at c;exact c)⟩
 refine zo 10 O c<|zJ 0 (v:=Vi a.id) O O O O<|zE [1] O V<|fun i c d=>zM 5 O c<|zJ 0 (v:=Vn t.term) O O O O<|zE [1] O V<|fun i c d=>zD 6 O (xN O O<|yz qG) d<|zD 11 O (xY (cs:=[Vn (t.term+1),Vi a.id]) (z:=[Vn 0,Vi 0]) (pl:=[(0,1),(1,1)]) qF qF) d<|zD 12 O (zY O) d<|zD 13 O (zL (o:=0) O) d<|zM 14 O c<|zf 0 O O O (zz O) O<|zE [1] O V<|fun i c d=>(zX<|(?_:C _ _ _ _ _ _ _ (Own w S [_,_])) _ c)
 refine zB<|zC O<|zG O O<|fun i c=>(jv cb jb ({t with term:=t.term+1,ql:=a.id}:TimD) a r b yv out qe 0 i<|c.give [0] O V).mono ?_
 rintro _ q ⟨rfl,m⟩
 refine fq [0] O c m<|zA<|jf (fun(h:Value)=>[(0,pt cb),(1, .bool j)]) (fun(h:Value)=>True) (fun(h:Value)=>[xh cb ({t with term:=t.term+1,ql:=a.id}:TimD) (.pointer none) a ({qm:=3,who:=0,qf:=r.qf}:RolD) b h jb qe out,Res.nl b lv es]) ?_<|fun h g hΦ=> ?_
 ·refine ze<|zC O<|zC O<|zC O<|zV O O<|zI (o:=10) O O<|zJ 1 (v:=Vi a.id) O O O O<|yH (e:=3) (sz:=1) (vs:=[Vi a.id]) qF O O qL V O<|fun s=>zV O O<|zI (o:=21) O O<|zi 1 O O O O O<|zV O O<|zI (o:=30) O O<|zi 1 O O O O O<|zx<|fun i c=>⟨(.slice (some ⟨s,0,none⟩) 1 1),⟨O,O,trivial⟩,trivial,c.sel [1,0] O V⟩
 refine jf (fun(h:Value)=>[(0,pt cb),(1, .bool j)]) (fun(h:Value)=>True) (fun(h:Value)=>[xh cb ({t with term:=t.term+1,ql:=a.id,due:=t.now+ka a qe}:TimD) (.pointer none) a ({qm:=3,who:=0,qf:=r.qf}:RolD) b h jb qe out,Res.nl b lv es]) ?_<|fun h g hΦ=> ?_
 ·refine zd [1] O V qF<|fun i c d=>zD 0 O za d<|zD 1 O za d<|zD 2 O (zY O) d<|zD 3 O (zL (o:=2) O) d<|zD 4 O (zL (o:=0) O) d<|zD 6 O za d<|z7 5 7 ?_ ?_
  ·refine zo 5 O c<|zJ 0 (v:=Vi t.now) O O O O<|zE [1] O V<|fun i c d=>zM 7 O c<|zG O O<|fun i c=>(zCS cb jb ({t with term:=t.term+1,ql:=a.id}:TimD) a ({qm:=3,who:=0,qf:=r.qf}:RolD) b (.pointer none) h out qe i ‹_› qH<|c.give [0] O V).mono ?_
   rintro _ q ⟨rfl,m⟩
   refine fq [0] O c m<|zE [0] O V<|fun i c d=>zD 8 O (xN O O<|zt qG) d<|zD 9 O (zY O) d<|zD 10 O (zL (o:=2) O) d<|zD 11 O (zL (o:=2) O) d<|zM 12 O c<|zi 1 O O O O O<|zE [0] O V<|fun i c d=>zX (⟨h,⟨O,O,trivial⟩,trivial,c.sel [1,0] O V⟩)
  refine zo 7 O c<|zG O O<|fun i c=>(zCS cb jb ({t with term:=t.term+1,ql:=a.id}:TimD) a ({qm:=3,who:=0,qf:=r.qf}:RolD) b (.pointer none) h out qe i ‹_› qH<|c.give [0] O V).mono ?_
  rintro _ q ⟨rfl,m⟩
  refine fq [0] O c m<|zE [0] O V<|fun i c d=>zM 5 O c<|zJ 1 (v:=Vi t.now) O O O O<|zE [0] O V<|fun i c d=>zD 8 O (xN O O<|zt qG) d<|zD 9 O (zY O) d<|zD 10 O (zL (o:=2) O) d<|zD 11 O (zL (o:=2) O) d<|zM 12 O c<|zi 1 O O O O O<|zE [0] O V<|fun i c d=>zX (⟨h,⟨O,O,trivial⟩,trivial,c.sel [1,0] O V⟩)
 refine zK<|zB<|zC O<|zG O O<|fun i c=>(j0 cb jb ({t with term:=t.term+1,ql:=a.id,due:=t.now+ka a qe}:TimD) a ({qm:=3,who:=0,qf:=r.qf}:RolD) b (.pointer none) h out qe _ _ i ‹_› qH qK qH<|c.give [0,1] O V).mono ?_
 rintro _ q ⟨rfl,m⟩
 refine fq [0,1] O c m<|zA<|x0 O<|zB<|zC O<|zG O O<|fun i c=>(zEp cb jb ({t with term:=t.term+1,ql:=a.id,due:=t.now+ka a qe}:TimD) a ({qm:=3,who:=0,qf:=r.qf}:RolD) b h out qe _ _ i ‹_› qH qK qH (by show t.term+1=1;omega) qI hn<|c.give [0,1] O V).mono ?_
 rintro _ q ⟨a3,a4,y,a0,rfl,n,k,l,m⟩
 refine fq [0,1] O c m<|zA<|zP<|yq O<|fun i c=>⟨a3,a4,y,a0,O,n,k,l,(by rw[show t.term+1=1 by omega]at c;exact c)⟩
theorem zQW{S:List Nat}(cb jb:Nat)(t:TimD)(a:StA)(r:RolD)(b:StB)(yv out:Value)(qe:Nat)(lv:Value)(es:List EntD)(w:World)(hE:EsOk es)(hl:es.length≤900)(y:b.vs=[1])(z:a.id=1)(a0:t.term=0)(hc:r.qf≤es.length)(hn:0≤t.now∧t.now≤1000000000000000)(ha:a.ok)(hd:qe<18446744073709551616)(s:Own w S [xh cb t (.pointer none) a r b yv jb qe out,Res.nl b lv es] w):Rets Tryz.prog 144 #[pt cb] w fun u_ i=>∃ (ld:Nat) (tv u:Value) (c:List EntD),u_= .tuple #[]∧EsOk c∧c.length=es.length+1∧c.map EntD.toEntA=es.map EntD.toEntA++[(⟨es.length+1,1,1,min (t.now - t.now) 1099511627776,[]⟩:EntA)]∧Own w S [xh cb ({t with term:=1,ql:=a.id,due:=t.now+ka a qe,qh:=t.now,qk:=t.now,qo:=t.now}:TimD) (pt ld) a ({qm:=4,who:=a.id,qf:=c.length}:RolD) b zW jb qe out,Res.nl b u c,Res.row ld 334 [zW,zW,tv,Vn 1,zW,Vi 0,yC],vT tv [t.now]] i:=by
 refine zO Tryz.func144 O Tryz.ntmps144 s<|zB<|zC O<|zG O O<|fun i h=>(jv cb jb t a r b yv out qe 0 i<|h.give [0] O V).mono ?_
 rintro _ x ⟨rfl,m⟩
 refine fq [0] O h m<|zA<|zB<|zC O<|zC O<|zC O<|zV O O<|zI (o:=10) O O<|zJ 1 (v:=Vi a.id) O O O O<|yH (e:=3) (sz:=1) (vs:=[Vi a.id]) qF O O qL V O<|fun n=>zV O O<|zI (o:=21) O O<|zi 1 O O O O O<|zV O O<|zI (o:=30) O O<|zi 1 O O O O O<|zA<|zK<|zB<|zC O<|zG O O<|fun i h=>(j0 cb jb t a ({qm:=2,who:=0,qf:=r.qf}:RolD) b (.pointer none) (.slice (some ⟨n,0,none⟩) 1 1) out qe _ _ i ‹_› qH qK qH<|h.give [1,0] O V).mono ?_
 rintro _ x ⟨rfl,m⟩
 refine fq [1,0] O h m<|zA<|x0 O<|zB<|zC O<|zG O O<|fun i h=>(zKy cb jb t a ({qm:=2,who:=0,qf:=r.qf}:RolD) b (.slice (some ⟨n,0,none⟩) 1 1) out qe _ _ false i ‹_› qH qK qH qH qI qH ‹_› qH<|h.give [1,2] O V).mono ?_
 rintro _ x ⟨p,q,j,k,rfl,l,d,g,m⟩
 refine fq [1,2] O h m<|zA<|zP<|yq O<|fun i h=>⟨p,q,j,k,O,l,d,g,h.sel [1,2,3,4] O V⟩
theorem zJM{S:List Nat}(cb jb:Nat)(t:TimD)(a:StA)(r:RolD)(b:StB)(yv out:Value)(qe:Nat)(lv:Value)(es:List EntD)(ld:Nat)(tv:Value)(m:List Int)(sure:Nat)(w:World)(hE:EsOk es)(hl:es.length≤900)(aa:b.vs=[1])(a3:a.id=1)(ht:m.length≤1000)(hT:TmOk t)(ha:a.ok)(a6:Own w S [xh cb t (pt ld) a r b yv jb qe out,Res.nl b lv es,Res.row ld 334 [zW,zW,tv,Vn sure,zW,Vi 0,yC],vT tv m] w):Rets Tryz.prog 141 #[pt cb] w fun u_ h=>∃ (t':TimD) (a4:Value) (a5:List Int) (y:Nat),u_= .tuple #[]∧a5.length≤m.length+1∧t'.term=t.term∧t'.ql=t.ql∧t'.now=t.now∧t'.qh=t.qh∧TmOk t'∧Own w S [xh cb t' (pt ld) a r b yv jb qe out,Res.nl b lv es,Res.row ld 334 [zW,zW,a4,Vn y,zW,Vi 0,yC],vT a4 a5] h:=by
 have ab:=ha.base
 have ac:=ha.beat
 have j:=hT.now
 have a7:=hT.qo
 have a8:=hT.qk
 refine zO Tryz.func141 O Tryz.ntmps141 a6<|zE6 ([(0,pt cb)]) (True) ([xh cb ({t with qt:=t.now}:TimD) (pt ld) a r b yv jb qe out,Res.nl b lv es,Res.row ld 334 [zW,zW,tv,Vn sure,zW,Vi 0,yC],vT tv m]) ?_<|fun g hΦ=> ?_
 ·refine zB<|zC O<|zG O O<|fun h c=>(j0 cb jb t a r b (pt ld) yv out qe _ _ h ‹_› qH qK qH<|c.give [0,1] O V).mono ?_
  rintro _ z ⟨rfl,k⟩
  refine fq [0,1] O c k<|zA<|x0 O<|ze<|zC O<|zC O<|zV O O<|zI (o:=2) O O<|zI (o:=0) O O<|zJ 2 (v:=Vi t.now) O O O O<|zV O O<|zI (o:=2) O O<|zI (o:=1) O O<|zi 2 O O O O O<|zx<|fun h c=>⟨⟨O,trivial⟩,trivial,c.sel [2,3,0,1] O V⟩
 refine jf (fun(i:Int)=>[(0,pt cb)]) (fun(i:Int)=>0≤i∧i≤1000000000000000) (fun(i:Int)=>[xh cb ({t with qt:=t.now,qk:=i}:TimD) (pt ld) a r b yv jb qe out,Res.nl b lv es,Res.row ld 334 [zW,zW,tv,Vn sure,zW,Vi 0,yC],vT tv m]) ?_<|fun i g hΦ=> ?_
 ·refine yd qF qF<|zR O (za)<|zR O (zY O)<|zR O (zL (o:=2) O)<|zR O (zL (o:=0) O)<|zR O (zZ 0 (v:=Vi t.now) O O O)<|zR O (za)<|zR O (zY O)<|zR O (zL (o:=2) O)<|zR O (zL (o:=4) O)<|zR O (zZ 0 (v:=Vi t.qk) O O O)<|zR O (za)<|zR O (zY O)<|zR O (zL (o:=11) O)<|zR O (zL (o:=4) O)<|zR O (zZ 0 (v:=Vi a.base) O O O)<|zR O (xN O O<|zt qG)<|zR O (zGk O O)<|xX<|zT O (fun c2=> ?_)<|fun c2=> ?_
  ·refine zK<|zK<|zd [0,1,2,3] O V qF<|fun h c d=>zD 0 O za d<|zD 2 O za d<|zD 3 O (zY O) d<|zD 4 O (zL (o:=9) O) d<|zD 5 O (zZ 0 (v:=pt ld) O O O) d<|zD 6 O (zY O) d<|zD 7 O (zL (o:=1) O) d<|zD 8 O (zZ 2 (v:=zW) O O O) d<|zD 9 O za d<|zD 10 O (zY O) d<|zD 11 O (zL (o:=10) O) d<|zD 12 O (zZ 0 (v:=Vi a.id) O O O) d<|z7 1 13 ?_ ?_
   ·refine zo 1 O c<|zG O O<|fun h c=>(jo cb jb ({t with qt:=t.now}:TimD) a r b (pt ld) yv out qe _ _ h ‹_› qH qK<|c.give [0,1] O V).mono ?_
    rintro _ z ⟨n,p,rfl,k⟩
    refine fq [0,1] O c k<|zE [2,3,0,1] O V<|fun h c d=>zM 13 O c<|yH (e:=3) (sz:=1) (vs:=[Vi a.id]) qF O O qL V O<|fun a9=>zE [2,3,0,1] O V<|fun h c d=>zM 14 O c<|y1 3 1<|yF (g:=I1) (sz:=1) (by':=8) (fun _=>O) (l:=[]) (l':=[a.id]) qO 7 qF O O O (fun h a0=>Vec.sl<|Own.holds a0 6 _ O) qH V O<|fun a1=>zE [2,3,0,1] O V<|fun h c d=>zM 15 O c<|zG O O<|fun h c=>(zCB ({vv:=n,vs:=([1]:List Int),lv:=p,ls:=[]}:ConfD) a1 [a.id] h qI qI (c.qj 7 O) ⟨(c.qj 4 O),(c.qj 5 O)⟩).mono ?_
    rintro _ z ⟨rfl,k⟩
    refine(?_:CL _ _ _ _ _ _ (Own w S [_,_,_,_,_,_,_,_])) z<|c.qb k
    refine zE [2,3,0,1] O V<|fun h c d=>zD 16 O (zHF (q:=({vv:=n,vs:=([1]:List Int),lv:=p,ls:=[]}:ConfD).qu [a.id]) O) d<|zX<|(?_:C _ _ _ _ _ _ _ (Own w S [_,_,_,_,_,_,_,_])) _ c
    refine zT O (fun c3=> ?_)<|fun c3=> ?_
    ·exact absurd (by rw[a3];exact of_decide_eq_true rfl) c3
    refine zN<|zd [0,1,3,4,5,6,7] O V qF<|fun h c d=>zD 0 O za d<|zD 1 O za d<|zD 2 O (zY O) d<|zD 3 O (zL (o:=9) O) d<|zD 5 O za d<|zD 6 O (zY O) d<|zD 7 O (zL (o:=2) O) d<|zD 8 O (zL (o:=0) O) d<|z7 4 9 ?_ ?_
    ·refine zo 4 O c<|zJ 2 (v:=pt ld) O O O O<|zE [0,1,3,4,5,6,7] O V<|fun h c d=>zM 9 O c<|zJ 2 (v:=Vi t.now) O O O O<|zE [0,1,3,4,5,6,7] O V<|fun h c d=>zD 10 O (zY O) d<|zD 11 O (zL (o:=2) O) d<|zD 12 O (zL (o:=4) O) d<|zM 13 O c<|zi 2 O O O O O<|zE [0,1,3,4,5,6,7] O V<|fun h c d=>zD 14 O (zY O) d<|zD 15 O (zL (o:=1) O) d<|zM 16 O c<|zi 0 O O O O O<|zE [0,1,3,4,5,6,7] O V<|fun h c d=>zX (⟨t.now,⟨O,trivial⟩,j,c.sel [2,3,0,1] O V⟩)
    refine zo 9 O c<|zJ 2 (v:=Vi t.now) O O O O<|zE [0,1,3,4,5,6,7] O V<|fun h c d=>zM 4 O c<|zJ 2 (v:=pt ld) O O O O<|zE [0,1,3,4,5,6,7] O V<|fun h c d=>zD 10 O (zY O) d<|zD 11 O (zL (o:=2) O) d<|zD 12 O (zL (o:=4) O) d<|zM 13 O c<|zi 2 O O O O O<|zE [0,1,3,4,5,6,7] O V<|fun h c d=>zD 14 O (zY O) d<|zD 15 O (zL (o:=1) O) d<|zM 16 O c<|zi 0 O O O O O<|zE [0,1,3,4,5,6,7] O V<|fun h c d=>zX (⟨t.now,⟨O,trivial⟩,j,c.sel [2,3,0,1] O V⟩)
   refine zo 13 O c<|yH (e:=3) (sz:=1) (vs:=[Vi a.id]) qF O O qL V O<|fun a9=>zE [0,1,2,3] O V<|fun h c d=>zM 1 O c<|zG O O<|fun h c=>(jo cb jb ({t with qt:=t.now}:TimD) a r b (pt ld) yv out qe _ _ h ‹_› qH qK<|c.give [0,1] O V).mono ?_
   rintro _ z ⟨s,u,rfl,k⟩
   refine fq [0,1] O c k<|zE [3,4,0,1] O V<|fun h c d=>zM 14 O c<|y1 3 1<|yF (g:=I1) (sz:=1) (by':=8) (fun _=>O) (l:=[]) (l':=[a.id]) qO 7 qF O O O (fun h a0=>Vec.sl<|Own.holds a0 2 _ O) qH V O<|fun a1=>zE [3,4,0,1] O V<|fun h c d=>zM 15 O c<|zG O O<|fun h c=>(zCB ({vv:=s,vs:=([1]:List Int),lv:=u,ls:=[]}:ConfD) a1 [a.id] h qI qI (c.qj 7 O) ⟨(c.qj 5 O),(c.qj 6 O)⟩).mono ?_
   rintro _ z ⟨rfl,k⟩
   refine(?_:CL _ _ _ _ _ _ (Own w S [_,_,_,_,_,_,_,_])) z<|c.qb k
   refine zE [3,4,0,1] O V<|fun h c d=>zD 16 O (zHF (q:=({vv:=s,vs:=([1]:List Int),lv:=u,ls:=[]}:ConfD).qu [a.id]) O) d<|zX<|(?_:C _ _ _ _ _ _ _ (Own w S [_,_,_,_,_,_,_,_])) _ c
   refine zT O (fun c4=> ?_)<|fun c4=> ?_
   ·exact absurd (by rw[a3];exact of_decide_eq_true rfl) c4
   refine zN<|zd [0,1,2,4,5,6,7] O V qF<|fun h c d=>zD 0 O za d<|zD 1 O za d<|zD 2 O (zY O) d<|zD 3 O (zL (o:=9) O) d<|zD 5 O za d<|zD 6 O (zY O) d<|zD 7 O (zL (o:=2) O) d<|zD 8 O (zL (o:=0) O) d<|z7 4 9 ?_ ?_
   ·refine zo 4 O c<|zJ 3 (v:=pt ld) O O O O<|zE [0,1,2,4,5,6,7] O V<|fun h c d=>zM 9 O c<|zJ 3 (v:=Vi t.now) O O O O<|zE [0,1,2,4,5,6,7] O V<|fun h c d=>zD 10 O (zY O) d<|zD 11 O (zL (o:=2) O) d<|zD 12 O (zL (o:=4) O) d<|zM 13 O c<|zi 3 O O O O O<|zE [0,1,2,4,5,6,7] O V<|fun h c d=>zD 14 O (zY O) d<|zD 15 O (zL (o:=1) O) d<|zM 16 O c<|zi 0 O O O O O<|zE [0,1,2,4,5,6,7] O V<|fun h c d=>zX (⟨t.now,⟨O,trivial⟩,j,c.sel [3,4,0,1] O V⟩)
   refine zo 9 O c<|zJ 3 (v:=Vi t.now) O O O O<|zE [0,1,2,4,5,6,7] O V<|fun h c d=>zM 4 O c<|zJ 3 (v:=pt ld) O O O O<|zE [0,1,2,4,5,6,7] O V<|fun h c d=>zD 10 O (zY O) d<|zD 11 O (zL (o:=2) O) d<|zD 12 O (zL (o:=4) O) d<|zM 13 O c<|zi 3 O O O O O<|zE [0,1,2,4,5,6,7] O V<|fun h c d=>zD 14 O (zY O) d<|zD 15 O (zL (o:=1) O) d<|zM 16 O c<|zi 0 O O O O O<|zE [0,1,2,4,5,6,7] O V<|fun h c d=>zX (⟨t.now,⟨O,trivial⟩,j,c.sel [3,4,0,1] O V⟩)
  exact x4<|fun h c=>⟨t.qk,⟨O,trivial⟩,a8,c⟩
 have x:=hΦ
 refine zE6 ([(0,pt cb)]) (True) ([xh cb ({t with qt:=t.now,qk:=i}:TimD) (pt ld) a r b yv jb qe out,Res.nl b lv es,Res.row ld 334 [zW,zW,tv,Vn sure,zW,Vi 0,yC],vT tv m]) ?_<|fun g hΦ=> ?_
 ·refine yd qF qF<|zR O (za)<|zR O (zY O)<|zR O (zL (o:=2) O)<|zR O (zL (o:=0) O)<|zR O (zZ 0 (v:=Vi t.now) O O O)<|zR O (za)<|zR O (zY O)<|zR O (zL (o:=2) O)<|zR O (zL (o:=5) O)<|zR O (zZ 0 (v:=Vi t.gd) O O O)<|zR O (zGk O O)<|xX<|zT O (fun c5=> ?_)<|fun c5=> ?_
  ·refine ze<|zC O<|zV O O<|zI (o:=9) O O<|zJ 0 (v:=pt ld) O O O O<|zV O O<|zI (o:=5) O O<|zi 2 O O O O O<|zx<|fun h c=>⟨⟨O,trivial⟩,trivial,c⟩
  exact x4<|fun h c=>⟨⟨O,trivial⟩,trivial,c⟩
 refine yd qF qF<|zR O (za)<|zR O (zY O)<|zR O (zL (o:=2) O)<|zR O (zL (o:=0) O)<|zR O (zZ 0 (v:=Vi t.now) O O O)<|zR O (za)<|zR O (zY O)<|zR O (zL (o:=2) O)<|zR O (zL (o:=3) O)<|zR O (zZ 0 (v:=Vi t.qo) O O O)<|zR O (za)<|zR O (zY O)<|zR O (zL (o:=11) O)<|zR O (zL (o:=6) O)<|zR O (zZ 0 (v:=Vi a.beat) O O O)<|zR O (xN O O<|zt qG)<|zR O (zGk O O)<|xX<|zT O (fun c6=> ?_)<|fun c6=> ?_
 ·refine ze<|zC O<|zG O O<|fun h c=>(zIR cb jb ({t with qt:=t.now,qk:=i}:TimD) a r b yv out qe _ _ ld tv m sure h ‹_› qH qK qH qH<|c.give [0,1,2,3] O V).mono ?_
  rintro _ z ⟨a2,rfl,k⟩
  refine fq [0,1,2,3] O c k<|zx<|yq O<|fun h c=>⟨({t with qt:=t.now,qo:=t.now,qk:=i}:TimD),a2,m++[t.now],m.length+1,O,qJ,O,O,O,O,⟨j,j,x,hT.qh⟩,c⟩
 exact x4<|yq O<|fun h c=>⟨({t with qt:=t.now,qk:=i}:TimD),tv,m,sure,O,qG,O,O,O,O,⟨j,a7,x,hT.qh⟩,c⟩
theorem zRR{S:List Nat}(cb jb:Nat)(t:TimD)(a:StA)(r:RolD)(b:StB)(yv:Value)(qe:Nat)(lv:Value)(es:List EntD)(now:Int)(j:Nat)(w:World)(hE:EsOk es)(hl:es.length≤900)(a4:b.vs=[1])(a1:a.id=1)(hr:r.qm≠4)(hq:t.due≤max t.now now)(a5:t.term=0)(hc:r.qf≤es.length)(hn:0≤max t.now now∧max t.now now≤1000000000000000)(ha:a.ok)(hd:j<18446744073709551616)(a2:Own w S [xh cb t (.pointer none) a r b yv jb qe (.pointer none),Res.nl b lv es] w):Rets Tryz.prog 83 #[pt cb,Vi now,Vn j] w fun u_ e=>∃ (ld:Nat) (tv a3:Value) (l:List EntD),u_= .agg (OutD.cells xn).toArray∧EsOk l∧l.length=es.length+1∧l.map EntD.toEntA=es.map EntD.toEntA++[(⟨es.length+1,1,1,min (max t.now now - max t.now now) 1099511627776,[]⟩:EntA)]∧Own w S [xh cb ({t with term:=1,ql:=a.id,now:=max t.now now,due:=max t.now now+ka a j,qh:=max t.now now,qk:=max t.now now,qo:=max t.now now}:TimD) (pt ld) a ({qm:=4,who:=a.id,qf:=l.length}:RolD) b zW jb j (.pointer none),Res.nl b a3 l,Res.row ld 334 [zW,zW,tv,Vn 1,zW,Vi 0,yC],vT tv [max t.now now]] e:=by
 have a6:=zFp (qe:=j) ha
 refine zO Tryz.func83 O Tryz.ntmps83 a2<|zB<|zk (v:= .agg #[zW,yC,zW,zW]) qF O<|fun b6=>zA<|zK<|zB<|zC O<|yE qF O O O<|zA<|yW O<|zN<|zB<|zC O<|zC O<|zC O<|zG O O<|fun e c=>(zFB cb jb t a r b (.pointer none) yv (.pointer none) qe now j e<|c.give [0] O V).mono ?_
 rintro _ x ⟨h,rfl,k⟩
 refine fq [0] O c k<|zA<|zK<|zB<|zC O<|zV O O<|zI (o:=21) O O<|zJ 2 (v:=Vi r.qm) O O O O<|yT O O O<|zA<|zT O (fun c2=> ?_)<|fun c2=> ?_
 ·exact absurd c2 hr
 refine yd qF qF<|zR O (za)<|zR O (zY O)<|zR O (zL (o:=2) O)<|zR O (zL (o:=0) O)<|zR O (zZ 2 (v:=Vi (max t.now now)) O O O)<|zR O (za)<|zR O (zY O)<|zR O (zL (o:=2) O)<|zR O (zL (o:=2) O)<|zR O (zZ 2 (v:=Vi t.due) O O O)<|zR O (zGk O O)<|xX<|zT O (fun c3=> ?_)<|fun c3=> ?_
 ·refine zE6 ([(0,pt cb),(6,pt b6)]) (True) ([xh cb ({t with now:=max t.now now,due:=max t.now now+ka a j}:TimD) (.pointer none) a r b yv jb j (pt h),Res.nl b lv es,Res.ou h xn,Res.row b6 194 [zW,yC,zW,zW]]) ?_<|fun g hΦ=> ?_
  ·refine zd [0,1,3] O V qF<|fun e c d=>zD 0 O za d<|zD 1 O za d<|zD 2 O (zY O) d<|zD 3 O (zL (o:=2) O) d<|zD 4 O (zL (o:=0) O) d<|zD 6 O za d<|z7 5 7 ?_ ?_
   ·refine zo 5 O c<|zJ 2 (v:=Vi (max t.now now)) O O O O<|zE [0,1,3] O V<|fun e c d=>zM 7 O c<|zG O O<|fun e c=>(zCS cb jb ({t with now:=max t.now now}:TimD) a r b (.pointer none) yv (pt h) j e ‹_› qH<|c.give [2] O V).mono ?_
    rintro _ x ⟨rfl,k⟩
    refine fq [2] O c k<|zE [0,1,2] O V<|fun e c d=>zD 8 O (xN O O<|zt qG) d<|zD 9 O (zY O) d<|zD 10 O (zL (o:=2) O) d<|zD 11 O (zL (o:=2) O) d<|zM 12 O c<|zi 3 O O O O O<|zE [0,1,2] O V<|fun e c d=>zX (⟨⟨O,O,trivial⟩,trivial,c.sel [3,0,2,1] O V⟩)
   refine zo 7 O c<|zG O O<|fun e c=>(zCS cb jb ({t with now:=max t.now now}:TimD) a r b (.pointer none) yv (pt h) j e ‹_› qH<|c.give [2] O V).mono ?_
   rintro _ x ⟨rfl,k⟩
   refine fq [2] O c k<|zE [0,1,2] O V<|fun e c d=>zM 5 O c<|zJ 3 (v:=Vi (max t.now now)) O O O O<|zE [0,1,2] O V<|fun e c d=>zD 8 O (xN O O<|zt qG) d<|zD 9 O (zY O) d<|zD 10 O (zL (o:=2) O) d<|zD 11 O (zL (o:=2) O) d<|zM 12 O c<|zi 3 O O O O O<|zE [0,1,2] O V<|fun e c d=>zX (⟨⟨O,O,trivial⟩,trivial,c.sel [3,0,2,1] O V⟩)
  refine zK<|zd [0,1,2,3] O V qF<|fun e c d=>zD 0 O za d<|zD 2 O za d<|zD 3 O (zY O) d<|zD 4 O (zL (o:=10) O) d<|zD 5 O (zZ 0 (v:=Vi a.id) O O O) d<|zM 1 O c<|zG O O<|fun e c=>(jo cb jb ({t with now:=max t.now now,due:=max t.now now+ka a j}:TimD) a r b (.pointer none) yv (pt h) j _ _ e ‹_› qH qK<|c.give [0,1] O V).mono ?_
  rintro _ x ⟨m,n,rfl,k⟩
  refine fq [0,1] O c k<|zE [2,3,0,1] O V<|fun e c d=>zM 6 O c<|zG O O<|fun e c=>(zO7 ({vv:=m,vs:=([1]:List Int),lv:=n,ls:=[]}:ConfD) a.id e qI ⟨(c.qj 4 O),(c.qj 5 O)⟩).mono ?_
  rintro _ x ⟨rfl,k⟩
  refine(?_:CL _ _ _ _ _ _ (Own w S [_,_,_,_,_,_])) x<|c.qb k
  refine zE [2,3,0,1] O V<|fun e c d=>zD 7 O za d ?_
  by_cases g8_7:({vv:=m,vs:=([1]:List Int),lv:=n,ls:=[]}:ConfD).ok∧a.id∈({vv:=m,vs:=([1]:List Int),lv:=n,ls:=[]}:ConfD).vs
  ·refine xR 8 O O (gT g8_7) za d<|xR 9 O O (gT g8_7) (zY O) d<|xR 10 O O (gT g8_7) (zL (o:=0) O) d<|xR 11 O O (gT g8_7) (zL (o:=0) O) d<|xR 12 O O (gT g8_7) (zZ 0 (v:=Vn t.term) O O O) d<|xR 13 O O (gT g8_7) (zIQ O O) d<|zD 14 O (zC5<|gT g8_7) d<|zX<|(?_:C _ _ _ _ _ _ _ (Own w S [_,_,_,_,_,_])) _ c
   refine zT O (fun c4=> ?_)<|fun c4=> ?_
   ·refine ze<|zC O<|zG O O<|fun e c=>(zQW cb jb ({t with now:=max t.now now,due:=max t.now now+ka a j}:TimD) a r b yv (pt h) j _ _ e ‹_› qH qK qH qI qH qI ‹_› qH<|c.give [2,3] O V).mono ?_
    rintro _ x ⟨u,a0,y,p,rfl,z,q,s,k⟩
    refine fq [2,3] O c k<|zA<|zB<|zC O<|zG O O<|fun e c=>(zLk cb jb ({term:=1,ql:=a.id,now:=max t.now now,qt:=t.qt,due:=({t with now:=max t.now now,due:=max t.now now+ka a j}:TimD).now+ka a j,qo:=max t.now now,qk:=max t.now now,gd:=t.gd,qh:=max t.now now}:TimD) a ({qm:=4,who:=a.id,qf:=p.length}:RolD) b (pt u) zW j h xn e<|c.give [4,0] O V).mono ?_
    rintro _ x ⟨rfl,k⟩
    refine fq [4,0] O c k<|zf 0 O O O (zz O) O<|zA<|zP<|xg (cs:=(OutD.cells xn)) O O qF (Own.qd (i:=0) O)<|fun e c=>⟨u,a0,y,p,O,z,q,s,c.sel [6,3,4,5] O V⟩
   exact absurd qG c4
  exact absurd (by rw[a1];exact of_decide_eq_true rfl) g8_7
 exact absurd hq c3
theorem zSZ{S:List Nat}(cb jb:Nat)(t:TimD)(a:StA)(r:RolD)(b:StB)(yv:Value)(qe:Nat)(lv:Value)(es:List EntD)(ld:Nat)(tv:Value)(ts:List Int)(sure:Nat)(now:Int)(x:Nat)(w:World)(hE:EsOk es)(hl:es.length≤900)(a3:b.vs=[1])(a4:a.id=1)(hr:r.qm=4)(ht:ts.length≤1000)(hT:TmOk t)(hn:now≤1000000000000000)(ha:a.ok)(hd:x<18446744073709551616)(a1:Own w S [xh cb t (pt ld) a r b yv jb qe (.pointer none),Res.nl b lv es,Res.row ld 334 [zW,zW,tv,Vn sure,zW,Vi 0,yC],vT tv ts] w):Rets Tryz.prog 83 #[pt cb,Vi now,Vn x] w fun u_ l=>∃ (y:TimD) (z:Value) (a0:List Int) (p:Nat),u_= .agg (OutD.cells xn).toArray∧a0.length≤ts.length+1∧y.term=t.term∧y.ql=t.ql∧y.now=max t.now now∧y.qh=t.qh∧TmOk y∧Own w S [xh cb y (pt ld) a r b yv jb x (.pointer none),Res.nl b lv es,Res.row ld 334 [zW,zW,z,Vn p,zW,Vi 0,yC],vT z a0] l:=by
 have a5:=hT.now
 have a2:=hT.qh
 refine zO Tryz.func83 O Tryz.ntmps83 a1<|zB<|zk (v:= .agg #[zW,yC,zW,zW]) qF O<|fun b6=>zA<|zK<|zB<|zC O<|yE qF O O O<|zA<|yW O<|zN<|zB<|zC O<|zC O<|zC O<|zG O O<|fun l k=>(zFB cb jb t a r b (pt ld) yv (.pointer none) qe now x l<|k.give [0] O V).mono ?_
 rintro _ w1 ⟨m,rfl,hO⟩
 refine fq [0] O k hO<|zA<|zK<|zB<|zC O<|zV O O<|zI (o:=21) O O<|zJ 4 (v:=Vi r.qm) O O O O<|yT O O O<|zA<|zT O (fun c2=> ?_)<|fun c2=> ?_
 ·refine ze<|zC O<|zG O O<|fun l k=>(zJM cb jb ({t with now:=max t.now now}:TimD) a r b yv (pt m) x _ _ ld tv ts sure l ‹_› qH qK qH qH ⟨⟨by show 0≤max t.now now;omega,by show max t.now now≤_;omega⟩,hT.qo,hT.qk,⟨a2.1,by show t.qh≤max t.now now;omega⟩⟩ ‹_› (k.give [4,0,1,2] O V)).mono ?_
  rintro _ w1 ⟨n,q,s,c,rfl,u,d,e,g,h,j,hO⟩
  refine fq [4,0,1,2] O k hO<|zA<|zB<|zC O<|zG O O<|fun l k=>(zLk cb jb n a r b (pt ld) yv x m xn l<|k.give [2,1] O V).mono ?_
  rintro _ w1 ⟨rfl,hO⟩
  refine fq [2,1] O k hO<|zf 0 O O O (zz O) O<|zA<|zP<|xg (cs:=(OutD.cells xn)) O O qF (Own.qd (i:=0) O)<|fun l k=>⟨n,q,s,c,O,u,d,e,g,h,j,k.sel [4,1,2,3] O V⟩
 exact absurd hr c2
theorem zNP{S:List Nat}(cb jb:Nat)(t:TimD)(a:StA)(r:RolD)(b:StB)(yv:Value)(qe:Nat)(lv:Value)(es:List EntD)(ld:Nat)(tv:Value)(z:List Int)(sure:Nat)(dv:Value)(data:List UInt8)(now:Int)(w:World)(hE:EsOk es)(hl:es.length≤900)(a0:b.vs=[1])(a7:a.id=1)(hr:r.qm=4)(hT:TmOk t)(hn:now=t.now)(x:t.term=1)(hc:r.qf=es.length)(a1:data.length≤4096)(a2:Own w S [xh cb t (pt ld) a r b yv jb qe (.pointer none),Res.nl b lv es,Res.row ld 334 [zW,zW,tv,Vn sure,zW,Vi 0,yC],vT tv z] w)(y:Rd w S (Res.sl dv data.length (data.map vb))):Rets Tryz.prog 155 #[pt cb,dv,Vi now] w fun u_ j=>∃ (a3:Value) (m:List EntD),u_= .tuple #[Vn (es.length+1), .agg (OutD.cells xn).toArray,Vi 0]∧EsOk m∧m.length=es.length+1∧m.map EntD.toEntA=es.map EntD.toEntA++[(⟨es.length+1,1,2,min (t.now - t.qh) 1099511627776,data⟩:EntA)]∧Own w S [xh cb ({t with qh:=t.now}:TimD) (pt ld) a ({r with qf:=m.length}:RolD) b yv jb qe (.pointer none),Res.nl b a3 m,Res.row ld 334 [zW,zW,tv,Vn sure,zW,Vi 0,yC],vT tv z] j:=by
 have a8:=hT.now
 have a9:=hT.qh
 refine zO Tryz.func155 O Tryz.ntmps155 a2<|zB<|zF O<|zk (v:= .agg #[zW,yC,zW,zW]) qF O<|fun b7=>zF O<|zA<|zK<|zB<|zC O<|yE qF O O O<|zA<|yW O<|zN<|zB<|zC O<|zC O<|zC O<|zV O O<|zI (o:=32) O O<|zJ 0 (v:=Vn qe) O O O O<|zG O O<|fun j d=>(zFB cb jb t a r b (pt ld) yv (.pointer none) qe now qe j<|d.give [0] O V).mono ?_
 rintro _ u ⟨k,rfl,l⟩
 refine fq [0] O d l<|zA<|zB<|zC O<|zV O O<|zI (o:=29) O O<|zJ 4 (v:=pt b.lb) O O O O<|zG O O<|fun j d=>(zDH b.lb 0 0 lv es j qI qH (d.qq 0 0 O O) (d.qr 0 1 O O)<|EntD.rd.qq 0 2 O O d).mono ?_
 rintro _ u ⟨rfl,l⟩
 refine(?_:CL _ _ _ _ _ _ (Own w S [_,_,_,_,_,_])) u<|d.qb l
 refine zC O<|zb (vs:=[Vn (0+es.length),Vn ((LG 0 0 es).end_)]) O O O<|zb (vs:=[Vn (0+es.length),Vn ((LG 0 0 es).end_)]) O O O<|zF O<|zF O<|zA<|zK<|zU<|zB<|zC O<|zV O O<|zI (o:=21) O O<|zJ 4 (v:=Vi r.qm) O O O O<|yf O O O<|zF O<|zA<|zT O (fun c2=> ?_)<|fun c2=> ?_
 ·exact absurd hr c2
 refine zB<|zC O<|zn (pR y) O O<|yY O O O<|zF O<|zA<|zT O (fun c3=> ?_)<|fun c3=> ?_
 ·exact absurd c3 qG
 refine zB<|zC O<|zV O O<|zI (o:=9) O O<|zJ 4 (v:=pt ld) O O O O<|zV O O<|zI (o:=5) O O<|zJ 1 (v:=Vi 0) O O O O<|yf O O O<|zC O<|yP (q:=0≠0) 8 8 [61,60,59,58,57,56,55,54] (((min (r.qf+4096) 4611686018427387904:Nat):Int)≤((0+es.length:Nat):Int)) O O O O O O trivial O (fun e=> ?_)<|fun a4=> ?_
 ·refine zQ O (gF e)<|zC O<|zQ O (gF e)<|zC O<|zQ O (gF e)<|zV O O<|zQ O (gF e)<|zI (o:=23) O O<|zQ O (gF e)<|zJ 4 (v:=Vn r.qf) O O O O<|zQ O (gF e)<|zr O O (yz qG) O<|zQ O (gF e)<|zPv (c:=((min (r.qf+4096) 4611686018427387904:Nat):Int)) O O (zUl _ _) O<|zQ O (gF e)<|xJ O O O<|z8 O<|fun _ d=>d
 refine zF O<|zA<|zT O (fun c4=> ?_)<|fun c4=> ?_
 ·exact absurd c4 (by rw[hc];omega)
 refine zN<|zB<|zC O<|zC O<|zG O O<|fun j d=>(y3 dv data j qI<|d.rd0 y).mono ?_
 rintro a5 u ⟨_,rfl,l⟩
 refine(?_:CL _ _ _ _ _ _ (Own w S [_,_,_,_,_,_,_])) u<|d.qb l
 refine zG O O<|fun j d=>(zMD cb jb ({t with now:=max t.now now}:TimD) a r b (pt ld) yv (pt k) qe _ _ 2 a5 data j hE.good qH (by rw[a0];decide) (by show 0≤max t.now now∧max t.now now≤_;omega) (by show 0≤t.qh∧t.qh≤_;omega) qH (by show t.term≤_;omega) (d.give [4,0] O V)<|d.rdVec 6 O [4,0] O O).mono ?_
 rintro _ u ⟨n,g,rfl,s,l⟩
 have p:=zGj hE (.inr ⟨rfl,a1⟩) (by show t.qh≤max t.now now;omega) qG x s
 have a6:=p.2.1
 refine fq [4,0] O d l<|zF O<|zA<|zB<|zC O<|zG O O<|fun j d=>(zFm cb jb ({t with now:=max t.now now,qh:=max t.now now}:TimD) a r b (pt ld) yv (pt k) qe n g j p.1 qH qK qH x qH<|d.give [5,6] O V).mono ?_
 rintro _ u ⟨rfl,l⟩
 refine fq [5,6] O d l<|zA<|zB<|zC O<|zG O O<|fun j d=>(zHt cb jb ({t with now:=max t.now now,qh:=max t.now now}:TimD) a ({r with qf:=g.length}:RolD) b yv (pt k) qe ld tv z sure j<|d.give [5,0,1] O V).mono ?_
 rintro _ u ⟨rfl,l⟩
 refine fq [5,0,1] O d l<|zA<|zB<|zC O<|zC O<|zG O O<|fun j d=>(zLk cb jb ({t with now:=max t.now now,qh:=max t.now now}:TimD) a ({r with qf:=g.length}:RolD) b (pt ld) yv qe k xn j<|d.give [4,1] O V).mono ?_
 rintro _ u ⟨rfl,l⟩
 refine fq [4,1] O d l<|zF O<|zf 0 O O O (zz O) O<|zF O<|zA<|zP<|zP4 (cs:=(OutD.cells xn)) (v0:=Vn (es.length+1)) (v2:=Vi 0) O O O O qF (Own.qd (i:=0) O)<|fun j d=>⟨n,g,O,p.1,p.2.1,(by have h:=p.2.2;rwa [show max t.now now=t.now by omega]at h),(by rw[show max t.now now=t.now by omega]at d;exact d.sel [5,2,3,4] rfl V)⟩
end Go.Proofs.YthpoddkmhfhboaaGreatDoor
