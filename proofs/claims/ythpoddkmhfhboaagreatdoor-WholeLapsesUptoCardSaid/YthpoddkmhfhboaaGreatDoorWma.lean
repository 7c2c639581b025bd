import Derived.Test.YthpoddkmhfhboaaGreatDoorNodH
set_option linter.unusedSimpArgs false
set_option linter.unusedVariables false
set_option maxRecDepth 10000
namespace Go.Proofs.YthpoddkmhfhboaaGreatDoor
open Go.Sc
structure CalD where
 edge:Int
 look:Bool
 lazy:Bool
 cmd:CmdD
 key:ByteArray
 start:Int
 stop:Int
 reply:RepD
 cap:Int
 lent:Int
instance iWld1:Inhabited CalD:=⟨⟨0,false,false,zJe,⟨#[]⟩,0,0,RepD.zero,0,0⟩⟩
def CalD.cells(x:CalD):List Value:=[Vi x.edge, .bool x.look, .bool x.lazy]++(x.cmd.cells++([.string x.key,Vi x.start,Vi x.stop]++(x.reply.cells++[Vi x.cap,Vi x.lent])))
theorem zC2{S:List Nat}(wb nb e1 e2 pb cb:Nat)(st:SetD)(nv dv ev km lv:Value)(k:Nat)(cv ov:Value)(es:List EntD)(j:Int)(w:World)(n:j=1)(b:Own w S [jL wb st nv dv ev pb cb (Vj k) cv ov lv km,Res.vec 60 1 nv [nb].length ([nb].flatMap P1)] w):Rets Tryz.prog 19 #[pt wb,Vi j] w fun l c=>l=pt nb∧Own w S [jL wb st nv dv ev pb cb (Vj k) cv ov lv km,Res.vec 60 1 nv [nb].length ([nb].flatMap P1)] c:=by
 have m: [nb].length=1:=rfl
 refine zO Tryz.func19 O Tryz.ntmps19 b<|zB<|zF O<|zA<|zK<|zB<|zC O<|yE qF O O O<|zC O<|zQ O O<|zC O<|zQ O O<|zu O O O<|xA O O<|zC O<|yP (q:=j<1) 7 6 [18,17,16,15,14,13,12] ((([nb].length:Nat):Int)<j) O O O O O O trivial O (fun a=> ?_)<|fun d=> ?_
 ·refine zQ O (gF a)<|zC O<|zQ O (gF a)<|zC O<|zQ O (gF a)<|zV O O<|zQ O (gF a)<|zI (o:=10) O O<|zQ O (gF a)<|zJ 0 (v:=nv) O O O O<|zQ O (gF a)<|zn (pV 1 O) O O<|zQ O (gF a)<|yY O O O<|z8 O<|fun _ e=>e
 refine zA<|zT O (fun h=> ?_)<|fun h=> ?_
 ·exact absurd h qG
 refine zN<|zB<|zC O<|zV O O<|zI (o:=10) O O<|zJ 0 (v:=nv) O O O O<|zC O<|y9 O O (zt qG) O<|yL (pV 1 O) 1 0 O O qG qJ O<|zEQ (v:=nv) (off:=yr nv+0*1) (0*1+0) (cs:=([nb].flatMap P1)) O qG (fun c g=>Vec.sl<|Own.holds g 1 _ O) (jn (sz:=1) (fun _=>O) O (i:=0) O) qF O<|zF O<|zA<|zP<|zm (v:=pt nb) O O<|fun c e=>⟨O,e⟩
theorem zFZ{S:List Nat}(wb nb e1 e2 pb cb:Nat)(st:SetD)(nv dv ev km lv:Value)(k:Nat)(cv ov:Value)(es:List EntD)(b d:Nat)(j:Int)(w:World)(s:j=((b:Nat):Int)+1)(p:b<2)(hb:d=zc [e1,e2] b)(e:Own w S [jL wb st nv dv ev pb cb (Vj k) cv ov lv km,Res.vec 47 1 ev [e1,e2].length ([e1,e2].flatMap P1)] w):Rets Tryz.prog 13 #[pt wb,Vi j] w fun r g=>r=pt d∧Own w S [jL wb st nv dv ev pb cb (Vj k) cv ov lv km,Res.vec 47 1 ev [e1,e2].length ([e1,e2].flatMap P1)] g:=by
 have c: [e1,e2].length=2:=rfl
 refine zO Tryz.func13 O Tryz.ntmps13 e<|zB<|zF O<|zA<|zK<|zB<|zC O<|yE qF O O O<|zC O<|zQ O O<|zC O<|zQ O O<|zu O O O<|xA O O<|zC O<|yP (q:=j<1) 7 6 [18,17,16,15,14,13,12] ((([e1,e2].length:Nat):Int)<j) O O O O O O trivial O (fun a=> ?_)<|fun h=> ?_
 ·refine zQ O (gF a)<|zC O<|zQ O (gF a)<|zC O<|zQ O (gF a)<|zV O O<|zQ O (gF a)<|zI (o:=12) O O<|zQ O (gF a)<|zJ 0 (v:=ev) O O O O<|zQ O (gF a)<|zn (pV 1 O) O O<|zQ O (gF a)<|yY O O O<|z8 O<|fun _ l=>l
 refine zA<|zT O (fun n=> ?_)<|fun n=> ?_
 ·exact absurd n qG
 refine zN<|zB<|zC O<|zV O O<|zI (o:=12) O O<|zJ 0 (v:=ev) O O O O<|zC O<|y9 O O (zt qG) O<|yL (pV 1 O) 1 b O O qG (by rw[c];omega) O<|zEQ (v:=ev) (off:=yr ev+b*1) (b*1+0) (cs:=([e1,e2].flatMap P1)) O qG (fun g m=>Vec.sl<|Own.holds m 1 _ O) (jn (sz:=1) (fun _=>O) ((y8 (by rw[c];omega)).trans<|congrArg some hb.symm) (i:=0) O) qF O<|zF O<|zA<|zP<|zm (v:=pt d) O O<|fun g l=>⟨O,l⟩
theorem zJ1{S:List Nat}(wb nb e1 e2 pb cb:Nat)(st:SetD)(nv dv ev km lv:Value)(k:Nat)(cv ov:Value)(es:List EntD)(w:World)(a:Own w S [jL wb st nv dv ev pb cb (Vj k) cv ov lv km] w):Rets Tryz.prog 11 #[pt wb] w fun c b=>c=pt cb∧Own w S [jL wb st nv dv ev pb cb (Vj k) cv ov lv km] b:=by
 refine zO Tryz.func11 O Tryz.ntmps11 a<|zB<|zF O<|zA<|zK<|zB<|zC O<|yE qF O O O<|zA<|yW O<|zN<|zB<|zC O<|zV O O<|zI (o:=14) O O<|zJ 0 (v:=pt cb) O O O O<|zF O<|zA<|zP<|zm (v:=pt cb) O O<|fun b d=>⟨O,d⟩
theorem zDQ{S:List Nat}(wb nb e1 e2 pb cb:Nat)(st:SetD)(nv dv ev km lv:Value)(k:Nat)(cv ov:Value)(es:List EntD)(c:CkD)(T:Int)(e:Int)(w:World)(j:CkA c T)(l:e=1∨e= -1∨e= -2)(d:Own w S [jL wb st nv dv ev pb cb (Vj k) cv ov lv km,Res.ck cb c] w):Rets Tryz.prog 47 #[pt wb,Vi e] w fun g a=>g=Vi (yt c e)∧Own w S [jL wb st nv dv ev pb cb (Vj k) cv ov lv km,Res.ck cb c] a:=by
 refine zO Tryz.func47 O Tryz.ntmps47 d<|zB<|zF O<|zA<|zB<|zC O<|zV O O<|zI (o:=14) O O<|zJ 0 (v:=pt cb) O O O O<|zC O<|zG O O<|fun a b=>(zIc cb _ e _ a ‹_› qH<|b.give [1] O V).mono ?_
 rintro _ h ⟨rfl,i⟩
 refine(?_:CL _ _ _ _ _ _ (Own w S [_,_])) h<|b.qc [1] O i
 refine zC O<|zb (vs:=[Vi (yt c e),Vi 0]) O O O<|zb (vs:=[Vi (yt c e),Vi 0]) O O O<|zF O<|zF O<|zA<|zB<|zC O<|zF O<|zA<|zP<|zm (v:=Vi (yt c e)) O O<|fun a b=>⟨O,b⟩
theorem zKW{S:List Nat}(wb nb e1 e2 pb cb:Nat)(st:SetD)(nv dv ev km lv:Value)(k:Nat)(cv ov:Value)(es:List EntD)(x:EntD)(w:World)(y:x.index=es.length+1)(hl:es.length≤1000)(q:Own w S [jL wb st nv dv ev pb cb (Vj k) cv ov lv km,vE lv es] w)(d:EntD.rd x w S):Rets Tryz.prog 147 #[pt wb, .agg (EntD.cells x).toArray] w fun u c=>∃ (m:Value),u= .tuple #[]∧Own w S [jL wb st nv dv ev pb cb (Vj k) cv ov m km,vE m (es++[x])] c:=by
 refine zO Tryz.func147 O Tryz.ntmps147 q<|zB<|zj O O<|fun z=>zA<|zB<|zC O<|zV O O<|zI (o:=18) O O<|zJ 0 (v:=lv) O O O O<|zn (pV 1 O) O O<|yh qF O (yz qG) O ?_ qF
 refine zF O<|zA<|zU<|zB<|zI (o:=0) O O<|zJ 2 (v:=Vn x.index) O O O O<|zC O<|zr O O (yz qG) O<|yT O O O<|zF O<|zA<|zT O (fun s=> ?_)<|fun s=> ?_
 ·refine zd [2] O V qF<|fun c a b=>zD 0 O za b<|zD 1 O za b<|zD 2 O (zY O) b<|zD 3 O (zL (o:=18) O) b<|zD 5 O (xG (cs:=(EntD.cells x)) 0 O O) b<|z7 4 6 ?_ ?_
  ·refine zo 4 O a<|zJ 0 (v:=lv) O O O O<|zE [2] O V<|fun c a b=>zM 6 O a<|yH (e:=113) (sz:=5) (vs:=[.agg (EntD.cells x).toArray]) qF O O qS V O<|fun r=>zE [2] O V<|fun c a b=>zM 7 O a<|yF (g:=EntD.cells) (sz:=5) (by':=56) (fun _=>O) (l:=es) (l':=[x]) (all_cons ((zH O<|zH O<|zH O<|zH O<|zH (Sl.cell1<|Rd.φ d.dv) zh)) qJ) 1 qF O O O (fun c h=>Vec.sl<|Own.holds h 3 _ O) qH V O<|fun j=>zE [2] O V<|fun c a b=>zD 8 O (zY O) b<|zD 9 O (zL (o:=18) O) b<|zM 10 O a<|zS (fun c a=>Own.qa (i:=1) O a)<|fun n=>(zi 0 O O O n O<|zE [2] O V<|fun c a b=>zX<|(yq O<|fun c a=>⟨j,O,a.sel [0,1] O V⟩) _ a)
  refine zo 6 O a<|yH (e:=113) (sz:=5) (vs:=[.agg (EntD.cells x).toArray]) qF O O qS V O<|fun r=>zE [2] O V<|fun c a b=>zM 4 O a<|zJ 0 (v:=lv) O O O O<|zE [2] O V<|fun c a b=>zM 7 O a<|yF (g:=EntD.cells) (sz:=5) (by':=56) (fun _=>O) (l:=es) (l':=[x]) (all_cons ((zH O<|zH O<|zH O<|zH O<|zH (Sl.cell1<|Rd.φ d.dv) zh)) qJ) 1 qF O O O (fun c h=>Vec.sl<|Own.holds h 3 _ O) qH V O<|fun j=>zE [2] O V<|fun c a b=>zD 8 O (zY O) b<|zD 9 O (zL (o:=18) O) b<|zM 10 O a<|zS (fun c a=>Own.qa (i:=1) O a)<|fun p=>(zi 0 O O O p O<|zE [2] O V<|fun c a b=>zX<|(yq O<|fun c a=>⟨j,O,a.sel [0,1] O V⟩) _ a)
 exact absurd qG s
theorem zIw{S:List Nat}(wb nb e1 e2 pb cb:Nat)(st:SetD)(nv dv ev km lv:Value)(k:Nat)(cv ov:Value)(es:List EntD)(n:NdD)(j:Int)(w:World)(hj:j=1)(u:∀ i,i<n.fs.length→(zc n.fs i).index=es.length+i+1)(hl:es.length≤200)(x:n.fs.length≤100)(p:Own w S [jL wb st nv dv ev pb cb (Vj k) cv ov lv km,Res.vec 60 1 nv [nb].length ([nb].flatMap P1),vE lv es,Res.nd nb n,sE n.fs] w):Rets Tryz.prog 84 #[pt wb,Vi j] w fun y c=>∃ (h:Value),y= .tuple #[]∧Own w S [jL wb st nv dv ev pb cb (Vj k) cv ov h km,Res.vec 60 1 nv [nb].length ([nb].flatMap P1),vE h (es++n.fs),Res.nd nb n,sE n.fs] c:=by
 have z: [nb].length=1:=rfl
 refine zO Tryz.func84 O Tryz.ntmps84 p<|zB<|zC O<|zV O O<|zI (o:=10) O O<|zJ 0 (v:=nv) O O O O<|zC O<|y9 O O (zt qG) O<|yL (pV 1 O) 1 0 O O qG qJ O<|zEQ (v:=nv) (off:=yr nv+0*1) (0*1+0) (cs:=([nb].flatMap P1)) O qG (fun c q=>Vec.sl<|Own.holds q 1 _ O) (jn (sz:=1) (fun _=>O) O (i:=0) O) qF O<|zG O O<|fun c b=>(zG2 nb _ c qH<|b.give [3,4] O V).mono ?_
 rintro d r ⟨_,rfl,s⟩
 refine(?_:CL _ _ _ _ _ _ (Own w S [_,_,_,_,_,_])) r<|b.qc [3,4] O s
 refine zn (pV 5 O) O O<|zC O<|zA<|zU<|xD (fun(i:Nat) (a:Value)=>[(0,pt wb),(14,d),(15,Vj n.fs.length),(16,Vj i)]) (fun(i:Nat) (a:Value)=>i≤n.fs.length) (fun(i:Nat) (a:Value)=>[jL wb st nv dv ev pb cb (Vj k) cv ov a km,Res.vec 60 1 nv [nb].length ([nb].flatMap P1),vE a (es++n.fs.take i),Res.nd nb n,sE n.fs,vE d n.fs]) (fun(i:Nat) (a:Value)=>n.fs.length - i) (fun c b=>⟨0,lv,⟨O,O,O,O,trivial⟩,Nat.zero_le _,(by rw[show es++n.fs.take 0=es from by simp];exact b)⟩)<|fun i a g hΦ=>(zB<|zu O O O<|zA<|zK<|zT O (fun c1=> ?_)<|fun c1=> ?_)
 ·refine zN<|zK<|zU<|zB<|yL (pV 5 O) 5 i O O O qG O<|jy (pV 5 O) 5 i (off:=yr d+i*5) (fun _=>O) O O qG O<|zk (v:= .agg #[Vn 0,Vn 0,Vi 0,Vi 0,zW]) qF O<|fun b5=>(zS (fun c b=>Sl.cell1<|Rd.φ (EntD.rd.star0 4 O b _<|zy (l:=n.fs) (j:=i) qG).dv)<|fun m=>(zf 6 O O O (zH O<|zH O<|zH O<|zH O<|zH m zh) O<|zA<|ze<|zC O<|z6 (cs:=(EntD.cells<|zc n.fs i)) 6 O O O<|zG O O<|fun c b=>(zKW wb nb e1 e2 pb cb st nv dv ev km a k cv ov (es++n.fs.take i) (zc n.fs i) c (by rw[u i qG,List.length_append,List.length_take];omega) (by rw[List.length_append,List.length_take];omega) (b.give [0,2] O V)<|EntD.rd.star 4 O [0,2] O O b _<|zy qG).mono ?_))
  rintro _ r ⟨e,rfl,s⟩
  refine(?_:CL _ _ _ _ _ _ (Own w S [_,_,_,_,_,_,_])) r<|b.qc [0,2] O s
  refine zA<|ze<|zr O O (zt qG) O<|zC O<|zx<|fun c b=>⟨i+1,e,⟨O,O,O,O,trivial⟩,qG,(by rw[yl qG,←List.append_assoc];exact b.sel [5,0,6,1,2,3] rfl V),qG⟩
 have e1:es++n.fs=es++n.fs.take i:=by rw[List.take_of_length_le qG]
 exact xy O<|yq O<|fun c b=>⟨a,O,(by rw[e1];exact b.sel [0,1,2,3,4] rfl V)⟩
theorem zL4{S:List Nat}(wb nb e1 e2 pb cb:Nat)(st:SetD)(nv dv ev km lv:Value)(k:Nat)(cv ov:Value)(es:List EntD)(n:NdD)(j:Int)(h:Value)(w:World)(y:j=1)(z:∀ i,i<n.fs.length→(zc n.fs i).index=es.length+i+1)(hl:es.length≤200)(s:n.fs.length≤100)(l:Own w S [jL wb st nv dv ev pb cb (Vj k) cv ov lv km,Res.vec 60 1 nv [nb].length ([nb].flatMap P1),vE lv es,Res.nd nb n,sE n.fs,ySv h []] w):Rets Tryz.prog 48 #[pt wb,Vi j,h,Vi 0] w fun u d=>∃ (e:Value),u=Vi 0∧Own w S [jL wb st nv dv ev pb cb (Vj k) cv ov e km,Res.vec 60 1 nv [nb].length ([nb].flatMap P1),vE e (es++n.fs),Res.nd nb n,sE n.fs] d:=by
 refine zO Tryz.func48 O Tryz.ntmps48 l<|zB<|zF O<|zA<|zB<|zC O<|zC O<|zG O O<|fun d c=>(zIw wb nb e1 e2 pb cb st nv dv ev km lv k cv ov es _ j d qH ‹_› qH qH<|c.give [0,1,2,3,4] O V).mono ?_
 rintro _ m ⟨a,rfl,p⟩
 refine(?_:CL _ _ _ _ _ _ (Own w S [_,_,_,_,_,_])) m<|c.qc [0,1,2,3,4] O p
 refine zA<|zK<|zB<|zC O<|zn (pV 0 O) O O<|zC O<|zA<|zU<|yQ (fun(i:Nat)=>[(0,pt wb),(1,Vi j),(3,Vi 0),(15,h),(16,Vj<|[].length),(17,Vj i)]) (fun(i:Nat)=>i=0) (fun(i:Nat)=>[ySv h [],jL wb st nv dv ev pb cb (Vj k) cv ov a km,Res.vec 60 1 nv [nb].length ([nb].flatMap P1),vE a (es++n.fs),Res.nd nb n,sE n.fs]) (fun(i:Nat)=>0) (fun d c=>⟨0,⟨O,O,O,O,O,O,trivial⟩,O,c⟩)<|fun i g x=>(zB<|zu O O O<|zA<|zK<|zT O (fun r=> ?_)<|fun r=> ?_)
 ·exact absurd r (by rw[x];decide)
 refine zw O<|zK<|zB<|zC O<|zV O O<|zI (o:=10) O O<|zJ 1 (v:=nv) O O O O<|zC O<|y9 O O (zt qG) O<|yL (pV 2 O) 1 0 O O qG qJ O<|zEQ (v:=nv) (off:=yr nv+0*1) (0*1+0) (cs:=([nb].flatMap P1)) O qG (fun d q=>Vec.sl<|Own.holds q 2 _ O) (jn (sz:=1) (fun _=>O) O (i:=0) O) qF O<|zF O<|zA<|zB<|zC O<|jt qF O O O<|zC O<|zQ O O<|zC O<|zQ O O<|zG O O<|fun d c=>(zPq nb _ d<|c.give [4] O V).mono ?_
 rintro _ m ⟨rfl,p⟩
 refine(?_:CL _ _ _ _ _ _ (Own w S [_,_,_,_,_,_])) m<|c.qc [4] O p
 refine zQ O O<|xo (b:=true) O O<|zC6 O O<|zA<|yW O<|zN<|zB<|zC O<|zF O<|zA<|zP<|zm (v:=Vi 0) O O<|fun d c=>⟨a,O,c.sel [1,2,3,5,4] O V⟩
theorem zPN{d:Option TldD}{x y:TldD}{e:Int}(h:ValPost d x zQv e)(a:d=some y):e=0∧x=y:=by
 by_cases q:e≠0
 · have:=h.bad q
   rw[a]at this;cases this
 have h2:=h.good q
 rw[a]at h2
 exact⟨by omega,(Option.some.inj h2).symm⟩
theorem zQw(wb:Nat)(j dst:Int)(rv:Value)(t:TldD)(w:World)(ht:t.wf)(y:t.ok)(hs:t.reply.session≠0)(a0:Rd w [] (Res.sl rv t.enc.length (t.enc.map vb))):Rets Tryz.prog 85 #[pt wb,Vi j, .agg #[Vi dst,rv]] w fun u_ x=>u_= .tuple #[]∧Own w [] [] x:=by
 refine zO Tryz.func85 O Tryz.ntmps85 (Own.start w)<|zB<|zj O O<|fun b5=>zA<|zB<|zI (o:=1) O O<|zJ 0 (v:=rv) O O O O<|zG O O<|fun x h=>(zIT rv t.enc x (by have:=zBe ht;omega)<|h.rd0 a0).mono ?_
 rintro _ w1 ⟨i,a,k,d,u,l,m,n,p,e,g,b,rfl,s,hO⟩
 have hv:=zPN s (zIN ht y)
 have a3:d=t.reply.session:=congrArg (fun z:TldD=>z.reply.session) hv.2
 refine(?_:CL _ _ _ _ _ _ (Own w [] [_])) w1<|h.qb hO
 refine zC O<|zb (vs:=[.agg #[Vn i, .bool a,Vi k,Vn d,Vn u,Vi l,Vn m,Vi n,Vi p,Vi e,Vi g],Vi b]) O O O<|zb (vs:=[.agg #[Vn i, .bool a,Vi k,Vn d,Vn u,Vi l,Vn m,Vi n,Vi p,Vi e,Vi g],Vi b]) O O O<|zk (v:= .agg #[Vn 0,yC,Vi 0,Vn 0,Vn 0,Vi 0,Vn 0,Vi 0,Vi 0,Vi 0,Vi 0]) qF O<|fun b6=>zf 1 O O O (zz O) O<|zF O<|zA<|zK<|zB<|zC O<|yf O O O<|zC O<|yP (q:=b≠0) 2 2 [21,20] (a=true) O O O O O O trivial O (fun r=> ?_)<|fun a2=> ?_
 ·refine zQ O (gF r)<|zI (o:=1) O O<|zQ O (gF r)<|zJ 1 (v:= .bool a) O O O O<|z8 (y2 _)<|fun _ h=>h
 refine zC O<|yP (q:=(b≠0)∨(a=true)) 4 6 [27,26,25,24] (((d:Nat):Int)≠((0:Nat):Int)) O O O O O O trivial O (fun c=> ?_)<|fun a1=> ?_
 ·refine zQ O (gF c)<|zI (o:=3) O O<|zQ O (gF c)<|zI (o:=0) O O<|zQ O (gF c)<|zJ 1 (v:=Vn d) O O O O<|zQ O (gF c)<|yf O O O<|z8 O<|fun _ h=>h
 refine zA<|zT O (fun c1=> ?_)<|fun c1=> ?_
 ·exact zP<|yq O<|fun x h=>⟨O,h.drop⟩
 exact absurd (Or.inr qG) c1
theorem zQl{S:List Nat}(wb nb e1 e2 pb cb:Nat)(st:SetD)(nv dv ev km lv:Value)(k:Nat)(cv ov:Value)(es:List EntD)(n:NdD)(j:Int)(qv rv:Value)(d:Int)(t:TldD)(ps:PsD)(w:World)(hj:j=1)(hx:∀ i,i<n.fs.length→(zc n.fs i).index=es.length+i+1)(hl:es.length≤200)(aa:n.fs.length≤100)(ht:t.wf)(a4:t.ok)(hs:t.reply.session≠0)(a5:ps.l=[])(ab:d= -1∨d= -2)(a6:Own w S [jL wb st nv dv ev pb cb (Vj k) cv ov lv km,Res.vec 60 1 nv [nb].length ([nb].flatMap P1),vE lv es,Res.nd nb n,sE n.fs,ySv qv [({dst:=d,dv:=rv,data:=t.enc}:SndD)],vY rv t.enc,Res.ps pb ps] w):Rets Tryz.prog 48 #[pt wb,Vi j,qv,Vi 0] w fun u_ e=>∃ (a0 r:Value) (a1:PsD),u_=Vi 0∧a1.l=[⟨1,d,r,t.enc⟩]∧Own w S [jL wb st nv dv ev pb cb (Vj k) cv ov a0 km,Res.vec 60 1 nv [nb].length ([nb].flatMap P1),vE a0 (es++n.fs),Res.nd nb n,sE n.fs,Res.ps pb a1] e:=by
 have ac: [({dst:=d,dv:=rv,data:=t.enc}:SndD)].length=1:=rfl
 refine zO Tryz.func48 O Tryz.ntmps48 a6<|zB<|zF O<|zA<|zB<|zC O<|zC O<|zG O O<|fun e a=>(zIw wb nb e1 e2 pb cb st nv dv ev km lv k cv ov es _ j e qH ‹_› qH qH<|a.give [0,1,2,3,4] O V).mono ?_
 rintro _ s ⟨m,rfl,x⟩
 refine(?_:CL _ _ _ _ _ _ (Own w S [_,_,_,_,_,_,_,_])) s<|a.qc [0,1,2,3,4] O x
 refine zA<|zK<|zB<|zC O<|zn (pV 0 O) O O<|zC O<|zA<|zU<|xV (fun(i:Nat) (c:PsD) (r:Value)=>[(0,pt wb),(1,Vi j),(3,Vi 0),(15,qv),(16,Vj<|[({dst:=d,dv:=rv,data:=t.enc}:SndD)].length),(17,Vj i)]) (fun(i:Nat) (c:PsD) (r:Value)=>(i=0∧c.l=[])∨(i=1∧c.l=[⟨1,d,r,t.enc⟩])) (fun(i:Nat) (c:PsD) (r:Value)=>[ySv qv [({dst:=d,dv:=rv,data:=t.enc}:SndD)],vY rv t.enc,Res.ps pb c,jL wb st nv dv ev pb cb (Vj k) cv ov m km,Res.vec 60 1 nv [nb].length ([nb].flatMap P1),vE m (es++n.fs),Res.nd nb n,sE n.fs]) (fun(i:Nat) (c:PsD) (r:Value)=>1 - i) (fun e a=>⟨0,ps,rv,⟨O,O,O,O,O,O,trivial⟩, .inl ⟨O,a5⟩,a⟩)<|fun i c r g hΦ=>(zB<|zu O O O<|zA<|zK<|zT O (fun c1=> ?_)<|fun c1=> ?_)
 ·have a7:i=0∧c.l=[]:=by rcases hΦ with q|⟨q,_⟩;exact q;omega
  refine zN<|zK<|zU<|zB<|yL (pV 0 O) 2 0 O O qG qJ O<|zKk (v:=qv) (off:=yr qv+0*2) (0*2+0) (cs:=([({dst:=d,dv:=rv,data:=t.enc}:SndD)].flatMap SndD.cells)) (SndD.cells ({dst:=d,dv:=rv,data:=t.enc}:SndD)) O qG (fun e y=>Vec.sl<|Own.holds y 0 _ O) (zD5 (sz:=2) (fun _=>O) O (o:=0) (us:=(SndD.cells ({dst:=d,dv:=rv,data:=t.enc}:SndD))) (fun k u h=>by rw[Nat.zero_add];exact h)) qF O<|zk (v:= .agg #[Vi 0,zW]) qF O<|fun ad=>(zS (fun e a=>Own.qa (i:=1) O a)<|fun a2=>(zf 8 O O O (zH O<|zH a2 zh) O<|zA<|zK<|zB<|zI (o:=0) O O<|zJ 8 (v:=Vi d) O O O O<|zu O O O<|zA<|zT O (fun c2=> ?_)<|fun c2=> ?_))
  ·refine ze<|zC O<|zC O<|z6 8 O O O<|zG O O<|fun e a=>(zQw wb j d rv _ e ht a4 hs<|a.qj 1 O).mono ?_
   rintro _ s ⟨rfl,x⟩
   refine(?_:CL _ _ _ _ _ _ (Own w S [_,_,_,_,_,_,_,_,_])) s<|a.qb x
   refine zA<|zd [0,1,3,4,5,6,8] O V qF<|fun e a p=>zD 0 O za p<|zD 1 O (zY O) p<|zD 2 O (zL (o:=13) O) p<|zD 3 O (zZ 2 (v:=pt pb) O O O) p<|zD 4 O za p<|zD 5 O (zL (o:=0) O) p<|zD 6 O (zZ 6 (v:=Vi d) O O O) p<|zD 7 O (zL (o:=1) O) p<|zD 8 O (zZ 6 (v:=rv) O O O) p<|zM 9 O a<|zG O O<|fun e a=>((zFA pb c j d rv t.enc e a7.2 (by have:=zBe ht;omega) qG (a.give [2] O V)<|a.rdVec 1 O [2] O O).mono ?_)
   rintro _ s ⟨a3,a8,rfl,z,x⟩
   refine(?_:CL _ _ _ _ _ _ (Own w S [_,_,_,_,_,_,_,_,_])) s<|a.qc [2] O x
   refine zE [0,1,2,3,4,5,7] O V<|fun e a p=>zX<|(?_:C _ _ _ _ _ _ _ (Own w S [_,_,_,_,_,_,_,_,_])) _ a
   refine ze<|zr O O (zt qG) O<|zC O<|zx<|fun e a=>⟨i+1,a3,a8,⟨O,O,O,O,O,O,trivial⟩,(.inr ⟨by omega,by have q:=z;rw[hj]at q;exact q⟩),a.sel [0,1,8,2,3,4,5,6] O V,qG⟩
  exact absurd (show d<0 by omega) c2
 have a9:c.l=[⟨1,d,r,t.enc⟩]:=by rcases hΦ with⟨q,_⟩|⟨_,q⟩;omega;exact q
 refine zw O<|zK<|zB<|zC O<|zV O O<|zI (o:=10) O O<|zJ 3 (v:=nv) O O O O<|zC O<|y9 O O (zt qG) O<|yL (pV 4 O) 1 0 O O qG qJ O<|zEQ (v:=nv) (off:=yr nv+0*1) (0*1+0) (cs:=([nb].flatMap P1)) O qG (fun e y=>Vec.sl<|Own.holds y 4 _ O) (jn (sz:=1) (fun _=>O) O (i:=0) O) qF O<|zF O<|zA<|zB<|zC O<|jt qF O O O<|zC O<|zQ O O<|zC O<|zQ O O<|zG O O<|fun e a=>(zPq nb _ e<|a.give [6] O V).mono ?_
 rintro _ s ⟨rfl,x⟩
 refine(?_:CL _ _ _ _ _ _ (Own w S [_,_,_,_,_,_,_,_])) s<|a.qc [6] O x
 refine zQ O O<|xo (b:=true) O O<|zC6 O O<|zA<|yW O<|zN<|zB<|zC O<|zF O<|zA<|zP<|zm (v:=Vi 0) O O<|fun e a=>⟨m,r,c,O,a9,a.sel [3,4,5,7,6,2] O V⟩
theorem zLj{fs:List EntD}{e:EntD}{k:Nat}(h:fs=[e])(a:e.index=k+1):∀ i,i<fs.length→(zc fs i).index=k+i+1:=by
 subst h
 intro i hi
 have b:i=0:=by simpa using hi
 subst b
 exact a
theorem zJ4{c:CkD}{e:Int}(h:e=1):yt c e=c.t1:=by unfold yt;rw[if_pos h]
theorem zPj(a b:Nat):IntKind.u64.wrap (((a:Nat):Int)+((b:Nat):Int))=(((a+b)%18446744073709551616:Nat):Int):=by
 unfold IntKind.wrap
 simp[IntKind.bits,IntKind.signed]
theorem zQI{c c':CkD}{N:Int}(a:CkA c 0)(b:32≤yR N c.rho)(h:c.t1+yR N c.rho≤c'.t1∧c'.t1≤c.t1+yo N c.rho):32≤c'.t1:=by
 have d:=a.bd.1
 omega
theorem zSS{S:List Nat}(wb nb e1 e2 pb cb:Nat)(st:SetD)(nv dv ev km lv:Value)(k:Nat)(cv ov:Value)(es:List EntD)(n:NdD)(c:CkD)(N:Int)(dw:Nat)(w:World)(ao:st.nodes=1)(hc:CkA c 0)(hN:0≤N∧N≤1000)(ah:32≤yR N c.rho)(ap:dw<18446744073709551616)(h:NdF n)(hA:ApOk n.s.a 0)(ai:es=[])(aj:Own w S [jL wb st nv dv ev pb cb (Vj k) cv ov lv km,Res.vec 60 1 nv [nb].length ([nb].flatMap P1),vE lv es,Res.nd nb n,Res.ck cb c] w):Rets Tryz.prog 23 #[pt wb, .agg #[Vi 2,Vi 0,Vi 0,Vi N,Vn dw,Vn 0,Vn 0,Vn 0,Vi 0,ym,Vi 0,Vi 0,Vn 0]] w fun u_ u=>∃ (ae:Value) (b:NdD) (c':CkD) (e:EntD) (r:RepD),u_=Vi 0∧(CkA c' 2000∧(c'.rho=c.rho∧(c.t1+yR N c.rho≤c'.t1∧c'.t1≤c.t1+yo N c.rho)∧(c.e1+yR N c.rho≤c'.e1∧c'.e1≤c.e1+yo N c.rho)∧(c.e2+yR N c.rho≤c'.e2∧c'.e2≤c.e2+yo N c.rho)))∧(((((((b.fs=[e]∧e.toEntA=(⟨1,1,1,0,[]⟩:EntA))∧NdL b 6100 3)∧b.st=n.st)∧b.x.t.now=c'.t1)∧b.s.idx=1)∧b.x.es.map EntD.toEntA=[(⟨1,1,1,0,[]⟩:EntA)])∧zA6 0 n.s.a.now n.s.a.cnt n.s.a.kb n.s.a.kl n.s.a.kr (⟨1,1,1,0,[]⟩:EntA) r false 0 b.s.idx b.s.a.now b.s.a.cnt b.s.a.kb b.s.a.kl b.s.a.kr)∧Own w S [jL wb st nv dv ev pb cb (Vj k) cv ov ae km,Res.vec 60 1 nv [nb].length ([nb].flatMap P1),vE ae (es++b.fs),Res.nd nb b,Res.ck cb c',sE b.fs] u:=by
 refine zO Tryz.func23 O Tryz.ntmps23 aj<|zB<|zj O O<|fun b3=>zF O<|zA<|zK<|zK<|zd [0,1,2,3,5] O V qF<|fun u d j=>zD 0 O za j<|zD 1 O (zY O) j<|zD 2 O (zL (o:=14) O) j<|zD 3 O (zZ 0 (v:=pt cb) O O O) j<|zD 4 O (zL (o:=3) O) j<|zD 5 O (zZ 4 (v:=Vi N) O O O) j<|zD 6 O (zL (o:=4) O) j<|zD 7 O (zZ 4 (v:=Vn dw) O O O) j<|zM 8 O d<|zG O O<|fun u d=>(zGU cb _ N dw _ u hN ‹_› qH<|d.give [4] O V).mono ?_
 rintro _ w1 ⟨p,rfl,a1,a3,z,a4,a5,hO⟩
 have ak:=zQI hc ah z
 have aq:=(a1).bd.1
 refine(?_:CL _ _ _ _ _ _ (Own w S [_,_,_,_,_,_])) w1<|d.qc [4] O hO
 refine zE [0,1,2,3,4] O V<|fun u d j=>zD 9 O yB j<|zX<|(?_:C _ _ _ _ _ _ _ (Own w S [_,_,_,_,_,_])) _ d
 refine zB<|zC O<|yf O O O<|zA<|zT O (fun c1=> ?_)<|fun c1=> ?_
 ·exact absurd O c1
 refine zN<|zK<|zB<|zF O<|zA<|zU<|zPL (fun(i:Nat) (m:Value) (b:NdD) (e:EntD) (r:RepD) (l2 y:List EntD)=>[(0,pt wb),(3,pt b3),(6,Vj i)]) (fun(i:Nat) (m:Value) (b:NdD) (e:EntD) (r:RepD) (l2 y:List EntD)=>((i=1∧b=n)∧l2=es∧y=[])∨((i=2∧l2=es++b.fs∧y=b.fs)∧(((((((b.fs=[e]∧e.toEntA=(⟨1,1,1,0,[]⟩:EntA))∧NdL b 6100 3)∧b.st=n.st)∧b.x.t.now=p.t1)∧b.s.idx=1)∧b.x.es.map EntD.toEntA=[(⟨1,1,1,0,[]⟩:EntA)])∧zA6 0 n.s.a.now n.s.a.cnt n.s.a.kb n.s.a.kl n.s.a.kr (⟨1,1,1,0,[]⟩:EntA) r false 0 b.s.idx b.s.a.now b.s.a.cnt b.s.a.kb b.s.a.kl b.s.a.kr))) (fun(i:Nat) (m:Value) (b:NdD) (e:EntD) (r:RepD) (l2 y:List EntD)=>[jL wb st nv dv ev pb cb (Vj k) cv ov m km,Res.vec 60 1 nv [nb].length ([nb].flatMap P1),vE m l2,Res.nd nb b,Res.row b3 35 [Vi 2,Vi 0,Vi 0,Vi N,Vn dw,Vn 0,Vn 0,Vn 0,Vi 0,ym,Vi 0,Vi 0,Vn 0],Res.ck cb p,sE y]) (fun(i:Nat) (m:Value) (b:NdD) (e:EntD) (r:RepD) (l2 y:List EntD)=>2 - i) (fun u d=>⟨1,lv,n,default,RepD.zero,es,[],⟨O,O,O,trivial⟩, .inl ⟨⟨O,O⟩,O,O⟩,(Own.qn d)⟩)<|fun i m b e r l2 y g hΦ=>(zK<|zB<|zC O<|zC O<|zV O O<|zI (o:=0) O O<|zI (o:=0) O O<|zJ 0 (v:=Vi st.nodes) O O O O<|yx O O O<|zA<|zT O (fun c2=> ?_)<|fun c2=> ?_)
 ·have h0:(i=1∧b=n)∧l2=es∧y=[]:=by rcases hΦ with q|⟨⟨q,_⟩,_⟩;exact q;omega
  have af:l2=[]:=h0.2.1.trans ai
  refine zN<|zK<|zU<|zB<|zC O<|zC O<|zG O O<|fun u d=>(zC2 wb nb e1 e2 pb cb st nv dv ev km m k cv ov l2 ((i:Nat):Int) u qG<|d.give [0,1] O V).mono ?_
  rintro _ w1 ⟨rfl,hO⟩
  refine(?_:CL _ _ _ _ _ _ (Own w S [_,_,_,_,_,_,_])) w1<|d.qc [0,1] O hO
  refine zF O<|zA<|zB<|zC O<|jt qF O O O<|zA<|x0 O<|zK<|zd [0,2,3,5,6] O V qF<|fun u d j=>zD 0 O za j<|zD 1 O za j<|zD 2 O za j<|zD 4 O (zL (o:=4) O) j<|zD 5 O (zZ 1 (v:=Vn dw) O O O) j<|zD 6 O za j<|zD 7 O (kQ qF O (yz qG) qF) j<|zD 8 O (xN (c:=((((dw+i)%18446744073709551616):Nat):Int)) O O<|zPj _ _) j<|zM 3 O d<|zG O O<|fun u d=>(zDQ wb nb e1 e2 pb cb st nv dv ev km m k cv ov l2 p _ ((i:Nat):Int) u a1 (.inl qG)<|d.give [5,3] O V).mono ?_
  rintro _ w1 ⟨rfl,hO⟩
  refine(?_:CL _ _ _ _ _ _ (Own w S [_,_,_,_,_,_,_])) w1<|d.qc [5,3] O hO
  refine zE [0,2,6,5,4] O V<|fun u d j=>zM 9 O d<|zG O O<|fun u d=>(zNL nb b (yt p ((i:Nat):Int)) ((dw+i)%18446744073709551616) u (by rw[h0.1.2];exact h) (by rw[zJ4 qG];exact ak) (by rw[zJ4 qG];omega) qG (by rw[h0.1.2];exact hA)<|d.give [1] O V).mono ?_
  rintro _ w1 ⟨a6,a2,al,am,rfl,ac,a7,a8,a9,l,a0,aa,ab,hO⟩
  refine(?_:CL _ _ _ _ _ _ (Own w S [_,_,_,_,_,_,_,_,_])) w1<|d.qc [1] O hO
  refine zE [0,1,5,4,3] O V<|fun u d j=>zD 10 O za j<|zD 11 O (yG (vs:=[a6,Vi 0]) O O) j<|zD 12 O (yG (vs:=[a6,Vi 0]) O O) j<|zD 13 O yB j<|zD 14 O yB j<|zX<|(?_:C _ _ _ _ _ _ _ (Own w S [_,_,_,_,_,_,_,_,_])) _ d
  refine ze<|zC O<|zC O<|zC O<|zC O<|zG O O<|fun u d=>(zL4 wb nb e1 e2 pb cb st nv dv ev km m k cv ov l2 a2 ((i:Nat):Int) a6 u qG (zLj l<|(congrArg EntA.index a0).trans (by rw[af];rfl)) (by rw[af];decide) (by rw[l];show 1≤100;decide)<|d.give [4,3,0,6,7,8] O V).mono ?_
  rintro _ w1 ⟨ad,rfl,hO⟩
  refine(?_:CL _ _ _ _ _ _ (Own w S [_,_,_,_,_,_,_,_])) w1<|d.qc [4,3,0,6,7,8] O hO
  refine zA<|ze<|zC O<|zr O O (zt qG) O<|zF O<|zx<|fun u d=>⟨i+1,ad,a2,al,am,l2++a2.fs,a2.fs,⟨O,O,O,trivial⟩,(.inr ⟨⟨by omega,by rw[h0.2.1],O⟩,⟨⟨⟨⟨⟨⟨⟨l,a0⟩,ac⟩,a7.trans<|congrArg NdD.st h0.1.2⟩,a8.trans<|zJ4 qG⟩,aa⟩,a9⟩,(by have q:=ab;rw[h0.1.2]at q;exact q)⟩⟩),(d.sel [3,4,5,6,0,2,7] O V),qG⟩
 have h1:(i=2∧l2=es++b.fs∧y=b.fs)∧(((((((b.fs=[e]∧e.toEntA=(⟨1,1,1,0,[]⟩:EntA))∧NdL b 6100 3)∧b.st=n.st)∧b.x.t.now=p.t1)∧b.s.idx=1)∧b.x.es.map EntD.toEntA=[(⟨1,1,1,0,[]⟩:EntA)])∧zA6 0 n.s.a.now n.s.a.cnt n.s.a.kb n.s.a.kl n.s.a.kr (⟨1,1,1,0,[]⟩:EntA) r false 0 b.s.idx b.s.a.now b.s.a.cnt b.s.a.kb b.s.a.kl b.s.a.kr):=by rcases hΦ with⟨⟨q,_⟩,_⟩|q;omega;exact q
 obtain⟨⟨_,an,ag⟩,hF⟩:=h1
 refine zw O<|zB<|zF O<|zA<|zP<|zm (v:=Vi 0) O O<|fun u d=>⟨m,b,p,e,r,O,⟨a1,a3,z,a4,a5⟩,hF,(by subst an ag;exact d.sel [0,1,2,3,5,6] rfl V)⟩
theorem zQx{S:List Nat}(wb nb e1 e2 pb cb:Nat)(st:SetD)(nv dv ev km lv:Value)(k:Nat)(cv ov:Value)(es:List EntD)(n:NdD)(c:CkD)(T N:Int)(dw kk q m:Nat)(w:World)(ah:st.nodes=1)(hc:CkA c T)(hT:T≤1000000)(hN:0≤N∧N≤1000)(ai:dw<18446744073709551616)(h:NdM n kk q m)(ac:kk≤1000)(ad:n.x.es.length≤200)(af:c.t1=n.x.t.now)(hq:q+6200≤1048576)(hm:m+2<4000)(hl:es.length≤200)(ae:Own w S [jL wb st nv dv ev pb cb (Vj k) cv ov lv km,Res.vec 60 1 nv [nb].length ([nb].flatMap P1),vE lv es,Res.nd nb n,Res.ck cb c] w):Rets Tryz.prog 23 #[pt wb, .agg #[Vi 2,Vi 0,Vi 0,Vi N,Vn dw,Vn 0,Vn 0,Vn 0,Vi 0,ym,Vi 0,Vi 0,Vn 0]] w fun u_ p=>∃ (aa:Value) (a:NdD) (c':CkD),u_=Vi 0∧(CkA c' (T+2000)∧(c'.rho=c.rho∧(c.t1+yR N c.rho≤c'.t1∧c'.t1≤c.t1+yo N c.rho)∧(c.e1+yR N c.rho≤c'.e1∧c'.e1≤c.e1+yo N c.rho)∧(c.e2+yR N c.rho≤c'.e2∧c'.e2≤c.e2+yo N c.rho)))∧((((((NdM a (kk+1) q m∧a.st=n.st)∧a.x.t.now=c'.t1)∧a.x.es.map EntD.toEntA=n.x.es.map EntD.toEntA)∧a.x.t.qh=n.x.t.qh)∧a.fs=[])∧a.s=n.s)∧Own w S [jL wb st nv dv ev pb cb (Vj k) cv ov aa km,Res.vec 60 1 nv [nb].length ([nb].flatMap P1),vE aa es,Res.nd nb a,Res.ck cb c'] p:=by
 have ag:=(zKw hN hc.rho).1
 refine zO Tryz.func23 O Tryz.ntmps23 ae<|zB<|zj O O<|fun b3=>zF O<|zA<|zK<|zK<|zd [0,1,2,3,5] O V qF<|fun p b e=>zD 0 O za e<|zD 1 O (zY O) e<|zD 2 O (zL (o:=14) O) e<|zD 3 O (zZ 0 (v:=pt cb) O O O) e<|zD 4 O (zL (o:=3) O) e<|zD 5 O (zZ 4 (v:=Vi N) O O O) e<|zD 6 O (zL (o:=4) O) e<|zD 7 O (zZ 4 (v:=Vn dw) O O O) e<|zM 8 O b<|zG O O<|fun p b=>(zGU cb _ N dw _ p hN ‹_› qH<|b.give [4] O V).mono ?_
 rintro _ w1 ⟨l,rfl,u,y,r,z,a0,hO⟩
 have aj:=(u).bd.1
 have ak:=r
 refine(?_:CL _ _ _ _ _ _ (Own w S [_,_,_,_,_,_])) w1<|b.qc [4] O hO
 refine zE [0,1,2,3,4] O V<|fun p b e=>zD 9 O yB e<|zX<|(?_:C _ _ _ _ _ _ _ (Own w S [_,_,_,_,_,_])) _ b
 refine zB<|zC O<|yf O O O<|zA<|zT O (fun c1=> ?_)<|fun c1=> ?_
 ·exact absurd O c1
 refine zN<|zK<|zB<|zF O<|zA<|zU<|xV (fun(i:Nat) (j:Value) (a:NdD)=>[(0,pt wb),(3,pt b3),(6,Vj i)]) (fun(i:Nat) (j:Value) (a:NdD)=>(i=1∧a=n)∨(i=2∧((((((NdM a (kk+1) q m∧a.st=n.st)∧a.x.t.now=l.t1)∧a.x.es.map EntD.toEntA=n.x.es.map EntD.toEntA)∧a.x.t.qh=n.x.t.qh)∧a.fs=[])∧a.s=n.s))) (fun(i:Nat) (j:Value) (a:NdD)=>[jL wb st nv dv ev pb cb (Vj k) cv ov j km,Res.vec 60 1 nv [nb].length ([nb].flatMap P1),vE j es,Res.nd nb a,Res.row b3 35 [Vi 2,Vi 0,Vi 0,Vi N,Vn dw,Vn 0,Vn 0,Vn 0,Vi 0,ym,Vi 0,Vi 0,Vn 0],Res.ck cb l]) (fun(i:Nat) (j:Value) (a:NdD)=>2 - i) (fun p b=>⟨1,lv,n,⟨O,O,O,trivial⟩, .inl ⟨O,O⟩,b⟩)<|fun i j a g hΦ=>(zK<|zB<|zC O<|zC O<|zV O O<|zI (o:=0) O O<|zI (o:=0) O O<|zJ 0 (v:=Vi st.nodes) O O O O<|yx O O O<|zA<|zT O (fun c2=> ?_)<|fun c2=> ?_)
 ·have h0:i=1∧a=n:=by rcases hΦ with q|⟨q,_⟩;exact q;omega
  refine zN<|zK<|zU<|zB<|zC O<|zC O<|zG O O<|fun p b=>(zC2 wb nb e1 e2 pb cb st nv dv ev km j k cv ov es ((i:Nat):Int) p qG<|b.give [0,1] O V).mono ?_
  rintro _ w1 ⟨rfl,hO⟩
  refine(?_:CL _ _ _ _ _ _ (Own w S [_,_,_,_,_,_])) w1<|b.qc [0,1] O hO
  refine zF O<|zA<|zB<|zC O<|jt qF O O O<|zA<|x0 O<|zK<|zd [0,2,3,4,5] O V qF<|fun p b e=>zD 0 O za e<|zD 1 O za e<|zD 2 O za e<|zD 4 O (zL (o:=4) O) e<|zD 5 O (zZ 1 (v:=Vn dw) O O O) e<|zD 6 O za e<|zD 7 O (kQ qF O (yz qG) qF) e<|zD 8 O (xN (c:=((((dw+i)%18446744073709551616):Nat):Int)) O O<|zPj _ _) e<|zM 3 O b<|zG O O<|fun p b=>(zDQ wb nb e1 e2 pb cb st nv dv ev km j k cv ov es l _ ((i:Nat):Int) p u (.inl qG)<|b.give [4,3] O V).mono ?_
  rintro _ w1 ⟨rfl,hO⟩
  refine(?_:CL _ _ _ _ _ _ (Own w S [_,_,_,_,_,_])) w1<|b.qc [4,3] O hO
  refine zE [0,2,5,4,3] O V<|fun p b e=>zM 9 O b<|zG O O<|fun p b=>(zKS nb a kk q m (yt l ((i:Nat):Int)) ((dw+i)%18446744073709551616) p (by rw[h0.2];exact h) ac (by rw[h0.2];exact ad) (by rw[zJ4 qG];omega) qG hq hm<|b.give [1] O V).mono ?_
  rintro _ w1 ⟨a1,a7,rfl,a8,a2,a3,a4,a5,d,a6,hO⟩
  refine(?_:CL _ _ _ _ _ _ (Own w S [_,_,_,_,_,_,_,_])) w1<|b.qc [1] O hO
  refine zE [0,1,4,3,2] O V<|fun p b e=>zD 10 O za e<|zD 11 O (yG (vs:=[a1,Vi 0]) O O) e<|zD 12 O (yG (vs:=[a1,Vi 0]) O O) e<|zD 13 O yB e<|zD 14 O yB e<|zX<|(?_:C _ _ _ _ _ _ _ (Own w S [_,_,_,_,_,_,_,_])) _ b
  refine ze<|zC O<|zC O<|zC O<|zC O<|zG O O<|fun p b=>(zL4 wb nb e1 e2 pb cb st nv dv ev km j k cv ov es a7 ((i:Nat):Int) a1 p qG (fun i hi=>by rw[d]at hi;cases hi) hl (by rw[d];show 0≤100;decide)<|b.give [3,2,0,5,6,7] O V).mono ?_
  rintro _ w1 ⟨a9,rfl,hO⟩
  have ab:=d
  refine(?_:CL _ _ _ _ _ _ (Own w S [_,_,_,_,_,_,_])) w1<|b.qc [3,2,0,5,6,7] O hO
  refine zA<|ze<|zC O<|zr O O (zt qG) O<|zF O<|zx<|fun p b=>⟨i+1,a9,a7,⟨O,O,O,trivial⟩,(.inr ⟨by omega,⟨⟨⟨⟨⟨⟨a8,a2.trans (congrArg NdD.st h0.2)⟩,(a3).trans (by rw[h0.2,zJ4 qG];omega)⟩,(a4).trans (by rw[h0.2])⟩,(a5).trans (by rw[h0.2])⟩,d⟩,(a6).trans (by rw[h0.2])⟩⟩),(by rw[ab,List.append_nil]at b;exact b.sel [2,3,4,5,0,1] rfl V),qG⟩
 have hF:((((((NdM a (kk+1) q m∧a.st=n.st)∧a.x.t.now=l.t1)∧a.x.es.map EntD.toEntA=n.x.es.map EntD.toEntA)∧a.x.t.qh=n.x.t.qh)∧a.fs=[])∧a.s=n.s):=by rcases hΦ with⟨q,_⟩|q;omega;exact q.2
 refine zw O<|zB<|zF O<|zA<|zP<|zm (v:=Vi 0) O O<|fun p b=>⟨j,a,l,O,⟨u,y,r,z,a0⟩,hF,(b.sel [0,1,2,3,5] O V)⟩
end Go.Proofs.YthpoddkmhfhboaaGreatDoor
