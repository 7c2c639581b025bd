import Derived.Test.YthpoddkmhfhboaaGreatDoorNr
set_option linter.unusedSimpArgs false
set_option linter.unusedVariables false
set_option maxRecDepth 10000
namespace Go.Proofs.YthpoddkmhfhboaaGreatDoor
open Go.Sc
theorem zQ9{S:List Nat}(v fv:Value)(w:World)(a:Own w S [x5 v []] w):Rets Tryz.prog 405 #[v,fv] w fun e b=>e=Vi (-1)∧Own w S [x5 v []] b:=by
 refine zO Tryz.func405 O Tryz.ntmps405 a<|zB<|zF O<|zA<|zK<|zB<|zC O<|zn (pV 0 O) O O<|zC O<|zA<|zU<|yQ (fun(k:Nat)=>[(0,v),(1,fv),(7,Vj<|[].length),(8,Vj k)]) (fun(k:Nat)=>k=0) (fun(k:Nat)=>[x5 v []]) (fun(k:Nat)=>0) (fun b c=>⟨0,⟨O,O,O,O,trivial⟩,O,c⟩)<|fun k g h=> ?_
 have i:=h
 refine zB<|zu O O O<|zA<|zK<|zT O (fun d=> ?_)<|fun d=> ?_
 ·exact absurd d (by show ¬((k:Int)<((0:Nat):Int));omega)
 refine zw O<|zB<|zF O<|zA<|zP<|zm (v:=Vi (-1)) O O<|fun b c=>⟨O,c⟩
theorem zFi{S:List Nat}(v fv:Value)(w:World)(c:Own w S [x5 v []] w):Rets Tryz.prog 255 #[v,fv] w fun e a=>e=v∧Own w S [x5 v []] a:=by
 refine zO Tryz.func255 O Tryz.ntmps255 c<|zB<|zF O<|zA<|zB<|zC O<|zC O<|zG O O<|fun a b=>(zQ9 v fv a<|b.give [0] O V).mono ?_
 rintro _ h ⟨rfl,g⟩
 refine fq [0] O b g<|zF O<|zA<|zK<|zB<|zC O<|yT O O O<|zA<|zT O (fun d=> ?_)<|fun d=> ?_
 ·refine zB<|zC O<|zF O<|zA<|zP<|zm (v:=v) O O<|fun a b=>⟨O,b⟩
 exact absurd O d
theorem zR7{S:List Nat}(b c:Nat)(a:WaiD)(w:World)(g:a.look=0)(d:Own w S [Res.row b 194 [zW,yC,zW,zW]] w):Rets Tryz.prog 256 #[.agg (WaiD.cells a).toArray,pt b,pt c] w fun h e=>h=yC∧Own w S [Res.row b 194 [zW,yC,zW,zW]] e:=by
 refine zO Tryz.func256 O Tryz.ntmps256 d<|zB<|zj O O<|fun j=>zF O<|zA<|zB<|zI (o:=5) O O<|zJ 1 (v:=Vn a.look) O O O O<|yY O O O<|zC O ?_
 by_cases s1_3:((0:Nat):Int)<((a.look:Nat):Int)
 ·exact absurd s1_3 (by rw[g];decide)
 refine zGX O (gF s1_3) O O<|zGX O (gF s1_3) O O<|zGX O (gF s1_3) O O<|zGX O (gF s1_3) O O<|zGX O (gF s1_3) O O<|xA (gF s1_3) O<|zF O<|zA<|zK<|zB<|zC O<|zA<|yW O<|zN<|zB<|zC O<|zF O<|zA<|zP<|zm (v:=yC) O O<|fun e i=>⟨O,i.sel [0] O V⟩
theorem zRf{S:List Nat}(v:Value)(a:WaiD)(d b:Nat)(w:World)(l:a.look=0)(h:Own w S [x5 v [a],Res.row d 194 [zW,yC,zW,zW]] w):Rets Tryz.prog 405 #[v, .func (.func 256) #[] #[pt d,pt b]] w fun m e=>m=Vi (-1)∧Own w S [x5 v [a],Res.row d 194 [zW,yC,zW,zW]] e:=by
 have n: [a].length=1:=rfl
 refine zO Tryz.func405 O Tryz.ntmps405 h<|zB<|zF O<|zA<|zK<|zB<|zC O<|zn (pV 0 O) O O<|zC O<|zA<|zU<|yQ (fun(k:Nat)=>[(0,v),(1, .func (.func 256) #[] #[pt d,pt b]),(7,Vj<|[a].length),(8,Vj k)]) (fun(k:Nat)=>k≤1) (fun(k:Nat)=>[x5 v [a],Res.row d 194 [zW,yC,zW,zW]]) (fun(k:Nat)=>1 - k) (fun e c=>⟨0,⟨O,O,O,O,trivial⟩,Nat.zero_le _,c⟩)<|fun k g o=> ?_
 have p:=o
 refine zB<|zu O O O<|zA<|zK<|zT O (fun q=> ?_)<|fun q=> ?_
 ·have i:k=0:=by omega
  have j:zc [a] k=a:=by rw[i];rfl
  refine zN<|zK<|zU<|zB<|zC O<|zF O<|zA<|zB<|zC O<|zC O<|zC O<|yL (pV 0 O) 7 k O O O qG O<|jy (pV 0 O) 7 k (off:=yr v+k*7) (fun _=>O) O O qG O<|yM (fst:=[]) (cap:=[pt d,pt b]) O qF O O<|fun e c=>(zR7 d b (zc [a] k) e (by rw[j];exact l)<|c.give [1] O V).mono ?_
  rintro _ s ⟨rfl,r⟩
  refine fq [1] O c r<|zA<|yW O<|zN<|ze<|zr O O (zt qG) O<|zC O<|zx<|fun e c=>⟨k+1,⟨O,O,O,O,trivial⟩,qG,c,qG⟩
 refine zw O<|zB<|zF O<|zA<|zP<|zm (v:=Vi (-1)) O O<|fun e c=>⟨O,c⟩
theorem zR3{S:List Nat}(v:Value)(a:WaiD)(c b:Nat)(w:World)(l:a.look=0)(g:Own w S [x5 v [a],Res.row c 194 [zW,yC,zW,zW]] w):Rets Tryz.prog 255 #[v, .func (.func 256) #[] #[pt c,pt b]] w fun j d=>∃ (h:Value),j=h∧Own w S [x5 h [a],Res.row c 194 [zW,yC,zW,zW]] d:=by
 refine zO Tryz.func255 O Tryz.ntmps255 g<|zB<|zF O<|zA<|zB<|zC O<|zC O<|zG O O<|fun d e=>(zRf v a c b d qH<|e.give [0,1] O V).mono ?_
 rintro _ m ⟨rfl,k⟩
 refine fq [0,1] O e k<|zF O<|zA<|zK<|zB<|zC O<|yT O O O<|zA<|zT O (fun i=> ?_)<|fun i=> ?_
 ·refine zB<|zC O<|zF O<|zA<|zP<|zm (v:=v) O O<|fun d e=>⟨v,O,e⟩
 exact absurd O i
theorem zTW{S:List Nat}(nb cb gb j stb:Nat)(st:SetD)(av ov fv xv d:Value)(td:List SndD)(a:WaiD)(e:EntD)(b:RepD)(k hb pb l:Nat)(w:World)(x:td.length≤1000)(y:a.look=0)(hp:a.place=e.index)(ht:a.term=e.term)(hx:({seq:=a.seq,retry:=false,lead:=0,reply:=b,most:=0,lent:=0}:TldD).wf)(ho:({seq:=a.seq,retry:=false,lead:=0,reply:=b,most:=0,lent:=0}:TldD).ok)(m:Own w S [Res.row k 56 [xv],vE xv [e],Res.row hb 4 [xx],Res.row pb 60 [pt nb],Res.row l 37 [Vn b.session,Vn b.seq,Vi b.e,Vn b.lease,Vi b.amount,Vi b.until_],kV nb cb gb av j stb st ov d fv,Res.vec 199 2 d td.length (td.flatMap SndD.cells)] w):Rets Tryz.prog 260 #[.agg (WaiD.cells a).toArray,pt k,pt hb,pt pb,pt l] w fun u_ h=>∃ (tv r:Value),u_=xx∧Own w S [Res.row k 56 [xv],vE xv [e],Res.row hb 4 [xx],Res.row pb 60 [pt nb],Res.row l 37 [Vn b.session,Vn b.seq,Vi b.e,Vn b.lease,Vi b.amount,Vi b.until_],kV nb cb gb av j stb st ov tv fv,ySv tv (td++[({dst:=a.edge,dv:=r,data:=({seq:=a.seq,retry:=false,lead:=0,reply:=b,most:=0,lent:=0}:TldD).enc}:SndD)]),vY r (({seq:=a.seq,retry:=false,lead:=0,reply:=b,most:=0,lent:=0}:TldD).enc)] h:=by
 have a0: [e].length=1:=rfl
 refine zO Tryz.func260 O Tryz.ntmps260 m<|zB<|zj O O<|fun b5=>zF O<|zA<|zK<|yd qF qF<|zR O (zL (o:=5) O)<|zR O (zZ 7 (v:=Vn a.look) O O O)<|zR O (zBm O O)<|zR O (za)<|zEm (q:=((0:Nat):Int)<((a.look:Nat):Int)) 7 3 [17,16,15,14,13,12,11] (((a.place:Nat):Int)≠(((zc [e] 0).index:Nat):Int)) O O O O O O trivial O (fun c=> ?_)<|fun n=> ?_
 ·refine yU O (gF c)<|zR O (zL (o:=3) O)<|yU O (gF c)<|zR O (zZ 7 (v:=Vn a.place) O O O)<|yU O (gF c)<|zR O (zZ 0 (v:=xv) O O O)<|yU O (gF c)<|zR O (kN (pV 1 O) 5 0 O O O qG)<|yU O (gF c)<|zR O (zL (o:=0) O)<|yU O (gF c)<|zR O (zA8 (pV 1 O) 5 0 0 (off:=yr xv+0*5+0) (fun _=>O) O qP qG O)<|yU O (gF c)<|zR O (zGC O O)<|zCx O
 refine xX<|zT O (fun s=> ?_)<|fun s=> ?_
 ·exact absurd s (by rw[show zc [e] 0=e from rfl,y,hp];simp)
 refine zN<|zK<|yd qF qF<|zR O (zZ 2 (v:=xx) O O O)<|zR O (za)<|yU O O<|zR O (zL (o:=4) O)<|yU O O<|zR O (zZ 7 (v:=Vn a.term) O O O)<|yU O O<|zR O (zZ 0 (v:=xv) O O O)<|yU O O<|zR O (kN (pV 1 O) 5 0 O O O qG)<|yU O O<|zR O (zL (o:=1) O)<|yU O O<|zR O (zA8 (pV 1 O) 5 0 1 (off:=yr xv+0*5+1) (fun _=>O) O qP qG O)<|yU O O<|zR O (zLD O O)<|zR O (zC5 O)<|xX<|zT O (fun u=> ?_)<|fun u=> ?_
 ·refine ze<|zJ 3 (v:=pt nb) O O O O<|zI (o:=0) O O<|zJ 7 (v:=Vi a.edge) O O O O<|zI (o:=1) O O<|zJ 7 (v:=Vn a.seq) O O O O<|z6 4 O O O<|yJ (cs:=[Vn a.seq,yC,Vi 0,Vn b.session,Vn b.seq,Vi b.e,Vn b.lease,Vi b.amount,Vi b.until_,Vi 0,Vi 0]) (z:=[Vn 0,yC,Vi 0,Vn 0,Vn 0,Vi 0,Vn 0,Vi 0,Vi 0,Vi 0,Vi 0]) (pl:=[(0,1),(1,1),(2,1),(3,6),(9,1),(10,1)]) qF qF O<|zG O O<|fun h i=>(zR2 nb cb gb j stb st av ov fv d td a.edge ({seq:=a.seq,retry:=false,lead:=0,reply:=b,most:=0,lent:=0}:TldD) h qI qI qH<|i.give [5,6] O V).mono ?_
  rintro _ w1 ⟨g,p,rfl,hO⟩
  refine fq [5,6] O i hO<|zA<|zB<|zF O<|zA<|zP<|zm (v:=xx) O O<|fun h i=>⟨g,p,O,i.sel [0,1,2,3,4,6,7,8] O V⟩
 exact absurd (by rw[show zc [e] 0=e from rfl,ht]) u
theorem zQs{S:List Nat}(nb cb gb o stb:Nat)(st:SetD)(v av ov fv xv c:Value)(td:List SndD)(a:WaiD)(e:EntD)(b:RepD)(i hb pb j:Nat)(w:World)(x:td.length≤1000)(y:a.look=0)(hp:a.place=e.index)(z:a.term=e.term)(hx:({seq:=a.seq,retry:=false,lead:=0,reply:=b,most:=0,lent:=0}:TldD).wf)(ho:({seq:=a.seq,retry:=false,lead:=0,reply:=b,most:=0,lent:=0}:TldD).ok)(p:Own w S [x5 v [a],Res.row i 56 [xv],vE xv [e],Res.row hb 4 [xx],Res.row pb 60 [pt nb],Res.row j 37 [Vn b.session,Vn b.seq,Vi b.e,Vn b.lease,Vi b.amount,Vi b.until_],kV nb cb gb av o stb st ov c fv,Res.vec 199 2 c td.length (td.flatMap SndD.cells)] w):Rets Tryz.prog 405 #[v, .func (.func 260) #[] #[pt i,pt hb,pt pb,pt j]] w fun u_ m=>∃ (tv r:Value),u_=Vi 0∧Own w S [x5 v [a],Res.row i 56 [xv],vE xv [e],Res.row hb 4 [xx],Res.row pb 60 [pt nb],Res.row j 37 [Vn b.session,Vn b.seq,Vi b.e,Vn b.lease,Vi b.amount,Vi b.until_],kV nb cb gb av o stb st ov tv fv,ySv tv (td++[({dst:=a.edge,dv:=r,data:=({seq:=a.seq,retry:=false,lead:=0,reply:=b,most:=0,lent:=0}:TldD).enc}:SndD)]),vY r (({seq:=a.seq,retry:=false,lead:=0,reply:=b,most:=0,lent:=0}:TldD).enc)] m:=by
 have q: [a].length=1:=rfl
 refine zO Tryz.func405 O Tryz.ntmps405 p<|zB<|zF O<|zA<|zK<|zB<|zC O<|zn (pV 0 O) O O<|zC O<|zA<|zU<|yQ (fun(k:Nat)=>[(0,v),(1, .func (.func 260) #[] #[pt i,pt hb,pt pb,pt j]),(7,Vj<|[a].length),(8,Vj k)]) (fun(k:Nat)=>k=0) (fun(k:Nat)=>[x5 v [a],Res.row i 56 [xv],vE xv [e],Res.row hb 4 [xx],Res.row pb 60 [pt nb],Res.row j 37 [Vn b.session,Vn b.seq,Vi b.e,Vn b.lease,Vi b.amount,Vi b.until_],kV nb cb gb av o stb st ov c fv,Res.vec 199 2 c td.length (td.flatMap SndD.cells)]) (fun(k:Nat)=>0) (fun m l=>⟨0,⟨O,O,O,O,trivial⟩,O,l⟩)<|fun k g hΦ=> ?_
 have h:=hΦ
 have d:zc [a] k=a:=by rw[h];rfl
 refine zB<|zu O O O<|zA<|zK<|zT O (fun u=> ?_)<|fun u=> ?_
 ·refine zN<|zK<|zU<|zB<|zC O<|zF O<|zA<|zB<|zC O<|zC O<|zC O<|yL (pV 0 O) 7 k O O O qG O<|jy (pV 0 O) 7 k (off:=yr v+k*7) (fun _=>O) O O qG O<|yM (fst:=[]) (cap:=[pt i,pt hb,pt pb,pt j]) O qF O O<|fun m l=>(zTW nb cb gb o stb st av ov fv xv c td (zc [a] k) e b i hb pb j m qH (by rw[d];exact y) (by rw[d];exact hp) (by rw[d];exact z) (by rw[d];exact hx) (by rw[d];exact ho)<|l.give [1,2,3,4,5,6,7] O V).mono ?_
  rintro _ w1 ⟨n,s,rfl,hO⟩
  refine fq [1,2,3,4,5,6,7] O l hO<|zA<|x0 O<|zB<|zC O<|zF O<|zA<|zP<|zm (v:=Vj k) O O<|fun m l=>⟨n,s,(by rw[h];rfl),(by cases h;exact l)⟩
 exact absurd (show((k:Nat):Int)<(([a].length:Nat):Int)by rw[h,q];decide) u
theorem zS3{g cap sz:Nat}:xj (.slice (some ⟨g,0,none⟩) 1 cap) 0 1 sz= .slice (some ⟨g,0,none⟩) 1 cap:=by
 show kS (some ⟨g,0,none⟩) cap 0 1 cap sz=_
 unfold kS;simp[Addr.add]
theorem zQn{S:List Nat}(nb cb gb q stb:Nat)(st:SetD)(i cap:Nat)(av ov fv xv j:Value)(td:List SndD)(a:WaiD)(e:EntD)(b:RepD)(m hb pb n:Nat)(w:World)(a0:td.length≤1000)(ha:a.look=0)(hp:a.place=e.index)(ht:a.term=e.term)(hx:({seq:=a.seq,retry:=false,lead:=0,reply:=b,most:=0,lent:=0}:TldD).wf)(ho:({seq:=a.seq,retry:=false,lead:=0,reply:=b,most:=0,lent:=0}:TldD).ok)(s:Own w S [x5 (.slice (some ⟨i,0,none⟩) 1 cap) [a],Res.row m 56 [xv],vE xv [e],Res.row hb 4 [xx],Res.row pb 60 [pt nb],Res.row n 37 [Vn b.session,Vn b.seq,Vi b.e,Vn b.lease,Vi b.amount,Vi b.until_],kV nb cb gb av q stb st ov j fv,Res.vec 199 2 j td.length (td.flatMap SndD.cells)] w):Rets Tryz.prog 255 #[(.slice (some ⟨i,0,none⟩) 1 cap), .func (.func 260) #[] #[pt m,pt hb,pt pb,pt n]] w fun u_ p=>∃ (tv r:Value),u_=(.slice (some ⟨i,0,none⟩) 0 cap)∧Own w S [x5 (.slice (some ⟨i,0,none⟩) 0 cap) [],Res.row m 56 [xv],vE xv [e],Res.row hb 4 [xx],Res.row pb 60 [pt nb],Res.row n 37 [Vn b.session,Vn b.seq,Vi b.e,Vn b.lease,Vi b.amount,Vi b.until_],kV nb cb gb av q stb st ov tv fv,ySv tv (td++[({dst:=a.edge,dv:=r,data:=({seq:=a.seq,retry:=false,lead:=0,reply:=b,most:=0,lent:=0}:TldD).enc}:SndD)]),vY r (({seq:=a.seq,retry:=false,lead:=0,reply:=b,most:=0,lent:=0}:TldD).enc)] p:=by
 have u: [a].length=1:=rfl
 refine zO Tryz.func255 O Tryz.ntmps255 s<|zB<|zF O<|zA<|zB<|zC O<|zC O<|zG O O<|fun p o=>(zQs nb cb gb q stb st (.slice (some ⟨i,0,none⟩) 1 cap) av ov fv xv j td a e b m hb pb n p qH qH qH qH qI qI<|o.give [0,1,2,3,4,5,6,7] O V).mono ?_
 rintro _ w1 ⟨c,d,rfl,hO⟩
 refine fq [0,1,2,3,4,5,6,7] O o hO<|zF O<|zA<|zK<|zB<|zC O<|yT O O O<|zA<|zT O (fun y=> ?_)<|fun y=> ?_
 ·exact absurd y V
 refine zN<|zK<|zB<|zC O<|zr O O (zt qG) O<|zF O<|zA<|zU<|yQ (fun(k:Nat)=>[(0,(.slice (some ⟨i,0,none⟩) 1 cap)),(1, .func (.func 260) #[] #[pt m,pt hb,pt pb,pt n]),(5,Vj 0),(6,Vj k)]) (fun(k:Nat)=>k=1) (fun(k:Nat)=>[x5 (.slice (some ⟨i,0,none⟩) 1 cap) [a],Res.row m 56 [xv],vE xv [e],Res.row hb 4 [xx],Res.row pb 60 [pt nb],Res.row n 37 [Vn b.session,Vn b.seq,Vi b.e,Vn b.lease,Vi b.amount,Vi b.until_],kV nb cb gb av q stb st ov c fv,ySv c (td++[({dst:=a.edge,dv:=d,data:=({seq:=a.seq,retry:=false,lead:=0,reply:=b,most:=0,lent:=0}:TldD).enc}:SndD)]),vY d (({seq:=a.seq,retry:=false,lead:=0,reply:=b,most:=0,lent:=0}:TldD).enc)]) (fun(k:Nat)=>0) (fun p o=>⟨1,⟨O,O,O,O,trivial⟩,O,o⟩)<|fun k g hΦ=> ?_
 have x:=hΦ
 refine zK<|zB<|zC O<|zC O<|zn (pV 0 O) O O<|zu O O O<|zA<|zT O (fun z=> ?_)<|fun z=> ?_
 ·exact absurd (show((k:Nat):Int)<(([a].length:Nat):Int)from z) (by rw[x,u];omega)
 refine zw O<|zB<|zC O<|zC O<|zBS (pV 0 O) 7 0 ([a].length) qF O ⟨_,O⟩ O qG qG O<|zND (T:=296) (sz:=7) (z0:= .agg #[Vi 0,Vn 0,ym,Vn 0,Vn 0,Vn 0,yC]) (zs:=[Vi 0,Vn 0,ym,Vn 0,Vn 0,Vn 0,yC]) 0 O zS3 qF qF qF O V (by simp[cell1])<|zA<|zB<|zC O<|zC O<|zTE (sz:=7) (l:=0) (h:=0) O O O ⟨.i64,O⟩ (Nat.le_refl _) (Nat.zero_le _) O<|zF O<|zA<|zP<|zm (v:=(xj (.slice (some ⟨i,0,none⟩) 1 cap) 0 0 7)) O O<|fun p o=>⟨c,d,(zPw),o⟩
theorem zLy{S:List Nat}(nb cb gb j stb:Nat)(st:SetD)(v av ov fv xv c:Value)(td:List SndD)(a:WaiD)(e:EntD)(b:RepD)(g hb pb i:Nat)(w:World)(k:td.length≤1000)(m:a.look=0)(hp:a.place=e.index)(n:a.term=e.term)(o:({seq:=a.seq,retry:=false,lead:=0,reply:=b,most:=0,lent:=0}:TldD).wf)(ho:({seq:=a.seq,retry:=false,lead:=0,reply:=b,most:=0,lent:=0}:TldD).ok)(d:Own w S [x5 v [a],Res.row g 56 [xv],vE xv [e],Res.row hb 4 [xx],Res.row pb 60 [pt nb],Res.row i 37 [Vn b.session,Vn b.seq,Vi b.e,Vn b.lease,Vi b.amount,Vi b.until_],kV nb cb gb av j stb st ov c fv,Res.vec 199 2 c td.length (td.flatMap SndD.cells)] w):Rets Tryz.prog 255 #[v, .func (.func 260) #[] #[pt g,pt hb,pt pb,pt i]] w fun p q=>∃ (l tv r:Value),p=l∧Own w S [x5 l [],Res.row g 56 [xv],vE xv [e],Res.row hb 4 [xx],Res.row pb 60 [pt nb],Res.row i 37 [Vn b.session,Vn b.seq,Vi b.e,Vn b.lease,Vi b.amount,Vi b.until_],kV nb cb gb av j stb st ov tv fv,ySv tv (td++[({dst:=a.edge,dv:=r,data:=({seq:=a.seq,retry:=false,lead:=0,reply:=b,most:=0,lent:=0}:TldD).enc}:SndD)]),vY r (({seq:=a.seq,retry:=false,lead:=0,reply:=b,most:=0,lent:=0}:TldD).enc)] q:=by
 obtain⟨hl,⟨_,h1⟩|⟨s,cap,x,rfl,h⟩⟩:=d.holds 0 _ rfl
 · cases h1
 refine(zQn nb cb gb j stb st s cap av ov fv xv c td a e b g hb pb i w k m hp n o ho d).mono ?_
 rintro u y ⟨tv,r,h⟩
 exact⟨_,tv,r,h.1,h.2⟩
theorem zNb{S:List Nat}(v:Value)(pb:Nat)(w:World)(a:Own w S [x5 v []] w):Rets Tryz.prog 255 #[v, .func (.func 262) #[] #[pt pb]] w fun c d=>∃ (b:Value),c=b∧Own w S [x5 b []] d:=by
 exact(zFi v _ w a).mono fun u e h=>⟨v,h.1,h.2⟩
theorem zFj{S:List Nat}(v:Value)(pb:Nat)(w:World)(a:Own w S [x5 v []] w):Rets Tryz.prog 255 #[v, .func (.func 261) #[] #[pt pb]] w fun c d=>∃ (b:Value),c=b∧Own w S [x5 b []] d:=by
 exact(zFi v _ w a).mono fun u e h=>⟨v,h.1,h.2⟩
theorem zI1{S:List Nat}(v:Value)(c hb pb d:Nat)(w:World)(a:Own w S [x5 v []] w):Rets Tryz.prog 255 #[v, .func (.func 260) #[] #[pt c,pt hb,pt pb,pt d]] w fun e g=>∃ (b:Value),e=b∧Own w S [x5 b []] g:=by
 exact(zFi v _ w a).mono fun u i h=>⟨v,h.1,h.2⟩
theorem zPg{S:List Nat}(v:Value)(d a:Nat)(w:World)(b:Own w S [x5 v []] w):Rets Tryz.prog 255 #[v, .func (.func 256) #[] #[pt d,pt a]] w fun e g=>∃ (c:Value),e=c∧Own w S [x5 c []] g:=by
 exact(zFi v _ w b).mono fun u i h=>⟨v,h.1,h.2⟩
theorem zBq{S:List Nat}(nb cb gb m stb:Nat)(st:SetD)(av ov tv fv:Value)(a:StA)(x:AlD)(s:LgD)(w:World)(h:AlI a x)(k:Own w S [kV nb cb gb av m stb st ov tv fv,Res.al cb a x,Res.lg gb s] w):Rets Tryz.prog 78 #[pt nb] w fun u c=>u=xx∧Own w S [kV nb cb gb av m stb st ov tv fv,Res.al cb a x,Res.lg gb s] c:=by
 refine zO Tryz.func78 O Tryz.ntmps78 k<|zB<|zF O<|zA<|zB<|zC O<|zV O O<|zI (o:=0) O O<|zI (o:=0) O O<|zJ 0 (v:=pt cb) O O O O<|zG O O<|fun c b=>(zIi cb _ _ c ‹_› (b.give [1] O V)).mono ?_
 rintro _ y ⟨n,p,q,rfl,l⟩
 refine fq [1] O b l<|zk (v:= .agg #[Vn 0,Vn 0,zW,zW,zW]) qF O<|fun z=>(zS (fun c b=>Own.qa (i:=3) O b)<|fun e=>(zS (fun c b=>Own.qa (i:=4) O b)<|fun g=>(zS (fun c b=>Own.qa (i:=5) O b)<|fun j=>(zf 6 O O O (zH O<|zH O<|zH e<|zH g<|zH j zh) O<|zA<|zK<|zK<|zd [0,1,2,3,4,5,6] O V qF<|fun c b d=>zD 0 O (zL (o:=0) O) d<|zD 1 O (zZ 6 (v:=Vn 0) O O O) d<|zD 2 O za d<|zD 3 O (zY O) d<|zD 4 O (zL (o:=0) O) d<|zD 5 O (zL (o:=1) O) d<|zD 6 O (zZ 0 (v:=pt gb) O O O) d<|zM 7 O b<|zG O O<|fun c b=>(jX gb _ c<|b.give [1] O V).mono ?_))))
 rintro _ y ⟨rfl,l⟩
 refine fq [1] O b l<|zE [0,6,1,2,3,4,5] O V<|fun c b d=>zD 8 O (zJH O O) d<|zX<|(?_:C _ _ _ _ _ _ _ (Own w S [_,_,_,_,_,_,_])) _ b
 refine zT O (fun r=> ?_)<|fun r=> ?_
 ·refine zB<|zF O<|zA<|zP<|zm (v:=xx) O O<|fun c b=>⟨O,b.sel [0,1,6] O V⟩
 exact absurd (show((0:Nat):Int)≤((s.idx:Nat):Int)by omega) r
theorem zDi{S:List Nat}(nb cb gb j stb:Nat)(st:SetD)(av ov tv fv:Value)(w:World)(h:Own w S [kV nb cb gb av j stb st ov tv fv,x5 av []] w):Rets Tryz.prog 139 #[pt nb] w fun l c=>∃ (d:Value),l= .tuple #[]∧Own w S [kV nb cb gb d j stb st ov tv fv,x5 d []] c:=by
 refine zO Tryz.func139 O Tryz.ntmps139 h<|zB<|zj O O<|fun k=>zA<|zd [2] O V qF<|fun c a b=>zD 0 O (zZ 0 (v:=pt nb) O O O) b<|zD 1 O (zZ 0 (v:=pt nb) O O O) b<|zD 2 O (zY O) b<|zD 3 O (zL (o:=0) O) b<|zD 4 O (zL (o:=2) O) b<|zD 6 O (zEF (va:=[]) (vb:=[pt k]) O O) b<|zM 5 O a<|zJ 0 (v:=av) O O O O<|zE [2] O V<|fun c a b=>(zM 7 O a<|zG O O<|fun c a=>(zNb av k c<|a.give [1] O V).mono ?_)
 rintro e n ⟨_,rfl,m⟩
 refine fq [1] O a m<|zE [1] O V<|fun c a b=>zD 8 O (zY O) b<|zD 9 O (zL (o:=0) O) b<|zD 10 O (zL (o:=2) O) b<|zM 11 O a<|zS (fun c a=>Own.qa (i:=2) O a)<|fun g=>(zi 0 O O O g O<|zE [1] O V<|fun c a b=>zX<|(yq O<|fun c a=>⟨e,O,a.sel [0,2] O V⟩) _ a)
theorem zK6{S:List Nat}(nb cb gb u stb:Nat)(st:SetD)(av ov tv fv:Value)(a:StA)(x:AlD)(s:LgD)(w:World)(h:AlI a x)(hl:x.es.length≤1000)(hc:x.r.qf=s.idx)(a0:Own w S [kV nb cb gb av u stb st ov tv fv,x5 av [],Res.al cb a x,Res.lg gb s] w):Rets Tryz.prog 138 #[pt nb] w fun u_ c=>∃ (n:Value),u_= .tuple #[]∧Own w S [kV nb cb gb n u stb st ov tv fv,x5 n [],Res.al cb a x,Res.lg gb s] c:=by
 refine zO Tryz.func138 O Tryz.ntmps138 a0<|zB<|zj O O<|fun y=>zA<|zB<|zJ 4 (v:=pt nb) O O O O<|zG O O<|fun c b=>(zBq nb cb gb u stb st av ov tv fv _ _ _ c ‹_› (b.give [0,2,3] O V)).mono ?_
 rintro _ z ⟨rfl,l⟩
 refine fq [0,2,3] O b l<|zA<|zB<|zJ 1 (v:=pt nb) O O O O<|zV O O<|zI (o:=0) O O<|zI (o:=0) O O<|zJ 2 (v:=pt cb) O O O O<|zG O O<|fun c b=>(zAY cb _ _ c<|b.give [3] O V).mono ?_
 rintro _ z ⟨rfl,l⟩
 refine fq [3] O b l<|zC O<|zb (vs:=[.agg #[Vn x.t.term,Vi x.t.ql],Vi x.r.qm,Vi x.r.who,Vn x.r.qf]) O O O<|zb (vs:=[.agg #[Vn x.t.term,Vi x.t.ql],Vi x.r.qm,Vi x.r.who,Vn x.r.qf]) O O O<|zb (vs:=[.agg #[Vn x.t.term,Vi x.t.ql],Vi x.r.qm,Vi x.r.who,Vn x.r.qf]) O O O<|zb (vs:=[.agg #[Vn x.t.term,Vi x.t.ql],Vi x.r.qm,Vi x.r.who,Vn x.r.qf]) O O O<|zk (v:= .agg #[Vn 0,Vi 0]) qF O<|fun b2=>zf 5 O O O (zz O) O<|zF O<|zF O<|zF O<|zA<|zB<|zJ 1 (v:=pt nb) O O O O<|zV O O<|zI (o:=0) O O<|zI (o:=0) O O<|zJ 2 (v:=pt cb) O O O O<|zG O O<|fun c b=>(zFD cb _ _ c ‹_› qH<|b.give [4] O V).mono ?_
 rintro _ z ⟨m,e,j,rfl,a1,l⟩
 refine fq [4] O b l<|zF O<|zA<|zK<|zU<|yQ (fun(k:Nat)=>[(1,pt y),(5,Vn x.r.qf),(6,pt m)]) (fun(k:Nat)=>k=0) (fun(k:Nat)=>[x5 av [],Res.row y 60 [pt nb],kV nb cb gb av u stb st ov tv fv,Res.lg gb s,Res.row b2 176 [Vn x.t.term,Vi x.t.ql],Res.al cb a x,Res.row m 415 [Vn 0,Vn 0,e],vE e j,sE j]) (fun(k:Nat)=>0) (fun c b=>⟨0,⟨O,O,O,trivial⟩,O,b⟩)<|fun k g hΦ=>(zK<|zB<|zJ 1 (v:=pt nb) O O O O<|zV O O<|zI (o:=0) O O<|zI (o:=1) O O<|zJ 2 (v:=pt gb) O O O O<|zG O O<|fun c b=>(jX gb _ c<|b.give [3] O V).mono ?_)
 rintro _ z ⟨rfl,l⟩
 refine fq [3] O b l<|zC O<|zu O O O<|zA<|zT O (fun c1=> ?_)<|fun c1=> ?_
 ·exact absurd (show((s.idx:Nat):Int)<((x.r.qf:Nat):Int)from c1) qG
 refine zw O<|zd [1,3,4,5,6,8] O V qF<|fun c b d=>zD 0 O (zZ 0 (v:=pt nb) O O O) d<|zD 1 O (zZ 0 (v:=pt nb) O O O) d<|zD 2 O (zY O) d<|zD 3 O (zL (o:=0) O) d<|zD 4 O (zL (o:=2) O) d<|zD 6 O (zEF (va:=[]) (vb:=[pt y]) O O) d<|zM 5 O b<|zJ 2 (v:=av) O O O O<|zE [1,3,4,5,6,8] O V<|fun c b d=>zM 7 O b<|zG O O<|fun c b=>((zFj av y c<|b.give [0] O V).mono ?_)
 rintro p z ⟨_,rfl,l⟩
 refine fq [0] O b l<|zE [0,2,3,4,5,7] O V<|fun c b d=>zD 8 O (zY O) d<|zD 9 O (zL (o:=0) O) d<|zD 10 O (zL (o:=2) O) d<|zM 11 O b<|zS (fun c b=>Own.qa (i:=8) O b)<|fun q=>(zi 1 O O O q O<|zE [0,2,3,4,5,7] O V<|fun c b d=>zX<|(yq O<|fun c b=>⟨p,O,b.sel [1,8,3,7] O V⟩) _ b)
theorem zEY{S:List Nat}(nb cb gb m stb:Nat)(st:SetD)(av ov tv fv:Value)(w:World)(n:Own w S [kV nb cb gb av m stb st ov tv fv,x5 av []] w):Rets Tryz.prog 137 #[pt nb, .agg #[zW,yC,zW,zW]] w fun q c=>∃ (d:Value),q= .tuple #[]∧Own w S [kV nb cb gb d m stb st ov tv fv,x5 d []] c:=by
 refine zO Tryz.func137 O Tryz.ntmps137 n<|zB<|zj O O<|fun j=>zj O O<|fun l=>zA<|zK<|zB<|zJ 2 (v:=pt nb) O O O O<|zV O O<|zI (o:=0) O O<|zI (o:=2) O O<|zJ 0 (v:=av) O O O O<|zn (pV 1 O) O O<|zC O<|zA<|zU<|yQ (fun(k:Nat)=>[(2,pt j),(3,pt l),(13,Vj<|[].length),(14,Vj k)]) (fun(k:Nat)=>k=0) (fun(k:Nat)=>[kV nb cb gb av m stb st ov tv fv,x5 av [],Res.row j 60 [pt nb],Res.row l 194 [zW,yC,zW,zW]]) (fun(k:Nat)=>0) (fun c a=>⟨0,⟨O,O,O,O,trivial⟩,O,a⟩)<|fun k g s=>(zB<|zu O O O<|zA<|zK<|zT O (fun p=> ?_)<|fun p=> ?_)
 ·exact absurd (show((k:Nat):Int)<((0:Nat):Int)from p) qG
 refine zw O<|zd [2,3] O V qF<|fun c a b=>zD 0 O (zZ 0 (v:=pt nb) O O O) b<|zD 1 O (zZ 0 (v:=pt nb) O O O) b<|zD 2 O (zY O) b<|zD 3 O (zL (o:=0) O) b<|zD 4 O (zL (o:=2) O) b<|zD 6 O (zEF (va:=[]) (vb:=[pt l,pt j]) O O) b<|zM 5 O a<|zJ 0 (v:=av) O O O O<|zE [2,3] O V<|fun c a b=>zM 7 O a<|zG O O<|fun c a=>((zPg av l j c<|a.give [1] O V).mono ?_)
 rintro e u ⟨_,rfl,r⟩
 refine fq [1] O a r<|zE [1,2] O V<|fun c a b=>zD 8 O (zY O) b<|zD 9 O (zL (o:=0) O) b<|zD 10 O (zL (o:=2) O) b<|zM 11 O a<|zS (fun c a=>Own.qa (i:=3) O a)<|fun h=>(zi 0 O O O h O<|zE [1,2] O V<|fun c a b=>zX<|(yq O<|fun c a=>⟨e,O,a.sel [0,3] O V⟩) _ a)
theorem zJv{S:List Nat}(nb cb gb n stb:Nat)(st:SetD)(av ov tv fv:Value)(a:WaiD)(w:World)(u:a.look=0)(p:Own w S [kV nb cb gb av n stb st ov tv fv,x5 av [a]] w):Rets Tryz.prog 137 #[pt nb, .agg #[zW,yC,zW,zW]] w fun x d=>∃ (e:Value),x= .tuple #[]∧Own w S [kV nb cb gb e n stb st ov tv fv,x5 e [a]] d:=by
 have y: [a].length=1:=rfl
 refine zO Tryz.func137 O Tryz.ntmps137 p<|zB<|zj O O<|fun l=>zj O O<|fun m=>zA<|zK<|zB<|zJ 2 (v:=pt nb) O O O O<|zV O O<|zI (o:=0) O O<|zI (o:=2) O O<|zJ 0 (v:=av) O O O O<|zn (pV 1 O) O O<|zC O<|zA<|zU<|yQ (fun(k:Nat)=>[(2,pt l),(3,pt m),(13,Vj<|[a].length),(14,Vj k)]) (fun(k:Nat)=>k≤1) (fun(k:Nat)=>[kV nb cb gb av n stb st ov tv fv,x5 av [a],Res.row l 60 [pt nb],Res.row m 194 [zW,yC,zW,zW]]) (fun(k:Nat)=>1 - k) (fun d b=>⟨0,⟨O,O,O,O,trivial⟩,Nat.zero_le _,b⟩)<|fun k g z=> ?_
 have a0:=z
 refine zB<|zu O O O<|zA<|zK<|zT O (fun c1=> ?_)<|fun c1=> ?_
 ·have q:k=0:=by omega
  have r:zc [a] k=a:=by rw[q];rfl
  refine zN<|zK<|zU<|zB<|zC O<|zF O<|zA<|zB<|zJ 2 (v:=pt nb) O O O O<|zV O O<|zI (o:=0) O O<|zI (o:=2) O O<|zJ 0 (v:=av) O O O O<|zC O<|yL (pV 1 O) 7 k O O O qG O<|zF O<|zA<|zK<|zB<|zC O<|zV O O<|zI (o:=5) O O<|xC (pV 1 O) 7 k 5 (off:=yr av+k*7+5) (fun _=>O) O qP qG O O<|yT O O O<|zA<|zT O (fun s=> ?_)<|fun s=> ?_
  ·refine zw O<|ze<|zr O O (zt qG) O<|zC O<|zx<|fun d b=>⟨k+1,⟨O,O,O,O,trivial⟩,qG,b,qG⟩
  exact absurd (show(((zc [a] k).look:Nat):Int)=((0:Nat):Int)by rw[r,u]) s
 refine zw O<|zd [2,3] O V qF<|fun d b c=>zD 0 O (zZ 0 (v:=pt nb) O O O) c<|zD 1 O (zZ 0 (v:=pt nb) O O O) c<|zD 2 O (zY O) c<|zD 3 O (zL (o:=0) O) c<|zD 4 O (zL (o:=2) O) c<|zD 6 O (zEF (va:=[]) (vb:=[pt m,pt l]) O O) c<|zM 5 O b<|zJ 0 (v:=av) O O O O<|zE [2,3] O V<|fun d b c=>zM 7 O b<|zG O O<|fun d b=>((zR3 av a m l d qH<|b.give [1,3] O V).mono ?_)
 rintro h w1 ⟨_,rfl,hO⟩
 refine fq [1,3] O b hO<|zE [1,3] O V<|fun d b c=>zD 8 O (zY O) c<|zD 9 O (zL (o:=0) O) c<|zD 10 O (zL (o:=2) O) c<|zM 11 O b<|zS (fun d b=>Own.qa (i:=2) O b)<|fun j=>(zi 0 O O O j O<|zE [1,3] O V<|fun d b c=>zX<|(yq O<|fun d b=>⟨h,O,b.sel [0,2] O V⟩) _ b)
theorem zSu{S:List Nat}(nb cb gb c stb:Nat)(st:SetD)(av ov tv fv:Value)(w:World)(a:Own w S [kV nb cb gb av c stb st ov tv fv] w):Rets Tryz.prog 86 #[pt nb] w fun e d=>e=xx∧Own w S [kV nb cb gb av c stb st ov tv fv] d:=by
 refine zO Tryz.func86 O Tryz.ntmps86 a (zB (zF O (zA (zB (zC O (jt qF O O O (zC O (zQ O O (zC O (zQ O O (zV O O (zQ O O (zI (o:=15) O O (zQ O O (zJ 0 (v:=yC) O O O O (zQ O O (xo (b:=false) O O (zC6 O O (zF O (zA (zP (zm (v:=xx) O O (fun d g=>⟨O,g⟩)))))))))))))))))))))))
theorem zJh{S:List Nat}(nb cb gb h stb:Nat)(st:SetD)(av ov tv fv:Value)(s:LgD)(w:World)(g:Own w S [kV nb cb gb av h stb st ov tv fv,Res.lg gb s] w):Rets Tryz.prog 20 #[pt nb] w fun k d=>∃ (i:Nat) (j:LgD),k=pt i∧j.idx=s.idx∧Own w S [kV nb cb gb av h stb st ov tv fv,Res.lg gb s,Res.lg i j] d:=by
 refine zO Tryz.func20 O Tryz.ntmps20 g (zB (zF O (zA (zK (zB (zC O (yE qF O O O (zA (yW O (zN (zB (zC O (zV O O (zI (o:=0) O O (zI (o:=1) O O (zJ 0 (v:=pt gb) O O O O (zG O O (fun d e=>(zIe gb _ d (e.give [1] O V)).mono ?_))))))))))))))))))
 rintro _ m ⟨a,c,rfl,b,l⟩
 refine fq [1] O e l (zF O (zA (zP (zm (v:=pt a) O O (fun d e=>⟨a,c,O,b,e⟩)))))
theorem zJr(st:SetD)(w:World)(hv:st.voters=1):Rets Tryz.prog 75 #[.agg (SetD.cells st).toArray] w fun u b=>∃ (cv:Value),u= .agg #[Vn 0,Vn 0,cv,zW,zW]∧Own w [] [vI cv [1]] b:=by
 refine zO Tryz.func75 O Tryz.ntmps75 (Own.start w) (zB (zj O O (fun p=>zk (v:= .agg #[Vn 0,Vn 0,zW,zW,zW]) qF O (fun q=>zA (zB (zk (v:= .agg #[zW,zW]) qF O (fun r=>zA (zK (zB (zF O (zA (zU (xV (fun(k:Nat) (cv:Value) (vs:List Int)=>[(1,pt p),(2,pt q),(3,pt r),(4,Vi (((k:Nat):Int)+1))]) (fun(k:Nat) (cv:Value) (vs:List Int)=>k≤1∧vs=List.replicate k 1) (fun(k:Nat) (cv:Value) (vs:List Int)=>[Res.row p 24 (SetD.cells st),Res.row q 180 [Vn 0,Vn 0,zW,zW,zW],Res.row r 178 [cv,zW],vI cv vs]) (fun(k:Nat) (cv:Value) (vs:List Int)=>1 - k) (fun b a=>⟨0,zW,[],⟨O,O,O,O,trivial⟩,⟨Nat.zero_le _,O⟩,(zq a 3 1)⟩) (fun k cv vs g s=> ?_))))))))))))))
 have x:=s.1
 have c:=s.2
 have y:vs.length=k:=by rw[c];simp
 refine zK (zB (zC O (zI (o:=1) O O (zJ 0 (v:=Vi st.voters) O O O O (yx O O O (zA (zT O (fun c1=> ?_) (fun c1=> ?_))))))))
 ·have d:k=0:=by omega
  refine zN (zK (zU (ze (zI (o:=0) O O (zJ 2 (v:=cv) O O O O (zC O (yH (e:=3) (sz:=1) (vs:=[Vi (((k:Nat):Int)+1)]) qF O O qL V O (fun a0=>yF (g:=I1) (sz:=1) (by':=8) (fun _=>O) (l:=vs) (l':=[((k:Nat):Int)+1]) qO 3 qF O O O (fun b m=>Vec.sl (Own.holds m 4 _ O)) qH V O (fun n=>zI (o:=0) O O (zS (fun b a=>Own.qa (i:=3) O a) (fun h=>(zi (cs:=[cv,zW]) 2 O O O h O (zA (ze (zC O (zr O O (zt qG) O (zF O (zx (fun b a=>⟨k+1,n,vs++[((k:Nat):Int)+1],⟨O,O,O,(by show Value.int .i64 _=Value.int .i64 _;first|rfl|(congr 1;omega)),trivial⟩,⟨by omega,by rw[c,d];rfl⟩,a.sel [0,1,2,3] O V,qG⟩)))))))))))))))))))
 have d:k=1:=by omega
 have hF:vs=[1]:=by rw[c,d];rfl
 refine zw O (zB (z6 (cs:=[cv,zW]) 2 O O O (xP (cs:=[Vn 0,Vn 0,cv,zW,zW]) (z:=[Vn 0,Vn 0,zW,zW,zW]) (pl:=[(0,1),(1,1),(2,2),(4,1)]) qF ⟨trivial,trivial⟩ qF O (zS (fun b a=>Own.qa (i:=3) O a) (fun j=>(zf 1 O O O (zH O (zH O (zH j (zH O (zH O zh))))) O (zA (zP (xg (cs:=[Vn 0,Vn 0,cv,zW,zW]) O O qF (Own.qd (i:=1) O) (fun b a=>⟨cv,O,(by cases hF;exact a.sel [3] rfl V)⟩))))))))))
theorem zLZ(rho:Int)(w:World):Rets Tryz.prog 37 #[.agg #[Vi 1,Vi 1,Vi 2,Vi rho,Vi 12,Vi 20,Vi 4,Vi 1048576,Vi 400,Vi 0]] w fun u_ w'=>u_= .bool (decide (0≤rho∧rho≤500000))∧Own w [] [] w':=by
 refine zO Tryz.func37 O Tryz.ntmps37 (Own.start w) (zB (zj O O (fun b1=>zF O (zA (zB (zI (o:=0) O O (zJ 0 (v:=Vi 1) O O O O (xJ O O O (zC O (yA (q:=1≤1) 3 3 [9,8,7] (1≤16) O O O O O O trivial O (fun t=> ?_) (fun ab=> ?_)))))))))))
 ·refine zQ O (gT t) (zI (o:=0) O O (zQ O (gT t) (zJ 0 (v:=Vi 1) O O O O (zQ O (gT t) (yx O O O (z8 O (fun _ d=>d)))))))
 refine zC O (yA (q:=(1≤1)∧(1≤16)) 3 8 [14,13,12] (1≤1) O O O O O O trivial O (fun u=> ?_) (fun x=> ?_))
 ·refine zQ O (gT u) (zI (o:=1) O O (zQ O (gT u) (zJ 0 (v:=Vi 1) O O O O (zQ O (gT u) (xJ O O O (z8 O (fun _ d=>d)))))))
 refine zC O (yA (q:=((1≤1)∧(1≤16))∧(1≤1)) 5 13 [21,20,19,18,17] (1≤1) O O O O O O trivial O (fun e=> ?_) (fun y=> ?_))
 ·refine zQ O (gT e) (zI (o:=1) O O (zQ O (gT e) (zJ 0 (v:=Vi 1) O O O O (zQ O (gT e) (zI (o:=0) O O (zQ O (gT e) (zJ 0 (v:=Vi 1) O O O O (zQ O (gT e) (yx O O O (z8 O (fun _ d=>d)))))))))))
 refine zC O (yA (q:=(((1≤1)∧(1≤16))∧(1≤1))∧(1≤1)) 3 20 [26,25,24] (0≤2) O O O O O O trivial O (fun g=> ?_) (fun z=> ?_))
 ·refine zQ O (gT g) (zI (o:=2) O O (zQ O (gT g) (zJ 0 (v:=Vi 2) O O O O (zQ O (gT g) (xJ O O O (z8 O (fun _ d=>d)))))))
 refine zC O (yA (q:=((((1≤1)∧(1≤16))∧(1≤1))∧(1≤1))∧(0≤2)) 3 25 [31,30,29] (2≤16) O O O O O O trivial O (fun i=> ?_) (fun a0=> ?_))
 ·refine zQ O (gT i) (zI (o:=2) O O (zQ O (gT i) (zJ 0 (v:=Vi 2) O O O O (zQ O (gT i) (yx O O O (z8 O (fun _ d=>d)))))))
 refine zC O (yA (q:=(((((1≤1)∧(1≤16))∧(1≤1))∧(1≤1))∧(0≤2))∧(2≤16)) 3 30 [36,35,34] (0≤1048576) O O O O O O trivial O (fun j=> ?_) (fun a1=> ?_))
 ·refine zQ O (gT j) (zI (o:=7) O O (zQ O (gT j) (zJ 0 (v:=Vi 1048576) O O O O (zQ O (gT j) (xJ O O O (z8 O (fun _ d=>d)))))))
 refine zC O (yA (q:=((((((1≤1)∧(1≤16))∧(1≤1))∧(1≤1))∧(0≤2))∧(2≤16))∧(0≤1048576)) 3 35 [41,40,39] (1048576≤4194304) O O O O O O trivial O (fun k=> ?_) (fun a2=> ?_))
 ·refine zQ O (gT k) (zI (o:=7) O O (zQ O (gT k) (zJ 0 (v:=Vi 1048576) O O O O (zQ O (gT k) (yx O O O (z8 O (fun _ d=>d)))))))
 refine zC O (yA (q:=(((((((1≤1)∧(1≤16))∧(1≤1))∧(1≤1))∧(0≤2))∧(2≤16))∧(0≤1048576))∧(1048576≤4194304)) 3 40 [46,45,44] (0≤400) O O O O O O trivial O (fun l=> ?_) (fun a3=> ?_))
 ·refine zQ O (gT l) (zI (o:=8) O O (zQ O (gT l) (zJ 0 (v:=Vi 400) O O O O (zQ O (gT l) (xJ O O O (z8 O (fun _ d=>d)))))))
 refine zC O (yA (q:=((((((((1≤1)∧(1≤16))∧(1≤1))∧(1≤1))∧(0≤2))∧(2≤16))∧(0≤1048576))∧(1048576≤4194304))∧(0≤400)) 3 45 [51,50,49] (400≤4096) O O O O O O trivial O (fun m=> ?_) (fun a4=> ?_))
 ·refine zQ O (gT m) (zI (o:=8) O O (zQ O (gT m) (zJ 0 (v:=Vi 400) O O O O (zQ O (gT m) (yx O O O (z8 O (fun _ d=>d)))))))
 refine zC O (yA (q:=(((((((((1≤1)∧(1≤16))∧(1≤1))∧(1≤1))∧(0≤2))∧(2≤16))∧(0≤1048576))∧(1048576≤4194304))∧(0≤400))∧(400≤4096)) 3 50 [56,55,54] (0≤0) O O O O O O trivial O (fun n=> ?_) (fun a5=> ?_))
 ·refine zQ O (gT n) (zI (o:=9) O O (zQ O (gT n) (zJ 0 (v:=Vi 0) O O O O (zQ O (gT n) (xJ O O O (z8 O (fun _ d=>d)))))))
 refine zC O (yA (q:=((((((((((1≤1)∧(1≤16))∧(1≤1))∧(1≤1))∧(0≤2))∧(2≤16))∧(0≤1048576))∧(1048576≤4194304))∧(0≤400))∧(400≤4096))∧(0≤0)) 3 55 [61,60,59] (0≤4096) O O O O O O trivial O (fun p=> ?_) (fun a6=> ?_))
 ·refine zQ O (gT p) (zI (o:=9) O O (zQ O (gT p) (zJ 0 (v:=Vi 0) O O O O (zQ O (gT p) (yx O O O (z8 O (fun _ d=>d)))))))
 refine zC O (yA (q:=(((((((((((1≤1)∧(1≤16))∧(1≤1))∧(1≤1))∧(0≤2))∧(2≤16))∧(0≤1048576))∧(1048576≤4194304))∧(0≤400))∧(400≤4096))∧(0≤0))∧(0≤4096)) 3 60 [66,65,64] (0≤rho) O O O O O O trivial O (fun r=> ?_) (fun a7=> ?_))
 ·refine zQ O (gT r) (zI (o:=3) O O (zQ O (gT r) (zJ 0 (v:=Vi rho) O O O O (zQ O (gT r) (xJ O O O (z8 O (fun _ d=>d)))))))
 refine zC O (yA (q:=((((((((((((1≤1)∧(1≤16))∧(1≤1))∧(1≤1))∧(0≤2))∧(2≤16))∧(0≤1048576))∧(1048576≤4194304))∧(0≤400))∧(400≤4096))∧(0≤0))∧(0≤4096))∧(0≤rho)) 3 65 [71,70,69] (rho≤500000) O O O O O O trivial O (fun s=> ?_) (fun a8=> ?_))
 ·refine zQ O (gT s) (zI (o:=3) O O (zQ O (gT s) (zJ 0 (v:=Vi rho) O O O O (zQ O (gT s) (yx O O O (z8 O (fun _ d=>d)))))))
 refine zC O (yA (q:=(((((((((((((1≤1)∧(1≤16))∧(1≤1))∧(1≤1))∧(0≤2))∧(2≤16))∧(0≤1048576))∧(1048576≤4194304))∧(0≤400))∧(400≤4096))∧(0≤0))∧(0≤4096))∧(0≤rho))∧(rho≤500000)) 8 70 [81,80,79,78,77,76,75,74] (1≤((min (min 12 20) 4:Nat):Int)) O O O O O O trivial O (fun a=> ?_) (fun a9=> ?_))
 ·refine zQ O (gT a) (zI (o:=4) O O (zQ O (gT a) (zJ 0 (v:=Vi 12) O O O O (zQ O (gT a) (zI (o:=5) O O (zQ O (gT a) (zJ 0 (v:=Vi 20) O O O O (zQ O (gT a) (zI (o:=6) O O (zQ O (gT a) (zJ 0 (v:=Vi 4) O O O O (zQ O (gT a) (zMu (c:=((min (min 12 20) 4:Nat):Int)) O O O (zTv _ _ _) O (zQ O (gT a) (xJ O O O (z8 O (fun _ d=>d)))))))))))))))))
 refine zC O (yA (q:=((((((((((((((1≤1)∧(1≤16))∧(1≤1))∧(1≤1))∧(0≤2))∧(2≤16))∧(0≤1048576))∧(1048576≤4194304))∧(0≤400))∧(400≤4096))∧(0≤0))∧(0≤4096))∧(0≤rho))∧(rho≤500000))∧(1≤((min (min 12 20) 4:Nat):Int))) 8 80 [91,90,89,88,87,86,85,84] (((max (max 12 20) 4:Nat):Int)≤1073741824) O O O O O O trivial O (fun b=> ?_) (fun aa=> ?_))
 ·refine zQ O (gT b) (zI (o:=4) O O (zQ O (gT b) (zJ 0 (v:=Vi 12) O O O O (zQ O (gT b) (zI (o:=5) O O (zQ O (gT b) (zJ 0 (v:=Vi 20) O O O O (zQ O (gT b) (zI (o:=6) O O (zQ O (gT b) (zJ 0 (v:=Vi 4) O O O O (zQ O (gT b) (zKu (c:=((max (max 12 20) 4:Nat):Int)) O O O (zTq _ _ _) O (zQ O (gT b) (yx O O O (z8 O (fun _ d=>d)))))))))))))))))
 refine zF O (zA (zP (zm (v:= .bool (decide ((((((((((((((((1≤1)∧(1≤16))∧(1≤1))∧(1≤1))∧(0≤2))∧(2≤16))∧(0≤1048576))∧(1048576≤4194304))∧(0≤400))∧(400≤4096))∧(0≤0))∧(0≤4096))∧(0≤rho))∧(rho≤500000))∧(1≤((min (min 12 20) 4:Nat):Int)))∧(((max (max 12 20) 4:Nat):Int)≤1073741824)))) O O (fun w' d=>⟨(by congr 1;exact decide_eq_decide.2 (by constructor<;>intro h<;>simp at h ⊢ <;>omega)),d.drop⟩))))
theorem zKi(v:Value)(l:List WaiD)(w:World)(hl:l.length≤1000000000)(hv:Rd w [] (Res.sl v l.length (l.flatMap WaiD.cells))):Rets Tryz.prog 248 #[v] w fun i b=>∃ (r:Value),i=r∧Own w [] [Res.vec 296 7 r l.length (l.flatMap WaiD.cells)] b:=by
 refine zO Tryz.func248 O Tryz.ntmps248 (Own.start w) (zB (zF O (zA (zK (zB (zC O (zAu (len:=l.length) (cs:=(l.flatMap WaiD.cells)) qF O O (fun b a=>Own.rd hv a) O (zA (jJ O (fun d=> ?_) (fun d=> ?_))))))))))
 ·refine zB (zF O (zA (zP (zm (v:=zW) O O (fun b c=>⟨.slice none 0 0,O,by obtain⟨_,j⟩:=Sl.isNil hv.φ d;rw[List.eq_nil_of_length_eq_zero j];exact zq c 296 7⟩)))))
 refine zN (zB (yH (e:=296) (sz:=7) (vs:=[]) qF O O (by simp[Value.cells,WaiD.cells]) V O (fun k=>zC O (yF (g:=WaiD.cells) (sz:=7) (by':=64) (fun _=>O) (l:=[]) (l':=l) (by simp[cell1,WaiD.cells,vu]) 0 qF O O O (fun b a=>Own.rd hv a) qH V O (fun h=>zF O (zA (zP (zm (v:=h) O O (fun b c=>⟨h,O,c⟩)))))))))
theorem zFa{S:List Nat}(cb gb p:Nat)(av:Value)(a:StA)(x:AlD)(k:Nat)(s:LgD)(w:World)(g:AlF a x∨AlL a x k)(hl:x.es.length≤800)(hk:k≤1000)(a1:Own w S [Res.al cb a x,Res.lg gb s,x5 av []] w):Rets Tryz.prog 133 #[.agg #[pt cb,pt gb,av,Vn p]] w fun u_ d=>∃ (q r:Nat) (u:Value) (y:CqD) (s2:LgD),u_= .agg #[pt q,pt r,u,Vn p]∧y.t=x.t∧y.b.vs=[1]∧Own w S [Res.al cb a x,Res.lg gb s,x5 av [],Res.cq q a y,Res.lg r s2,x5 u []] d:=by
 refine zO Tryz.func133 O Tryz.ntmps133 a1 (zB (zj O O (fun b1=>zk (v:= .agg #[.pointer none, .pointer none,zW,Vn 0]) qF O (fun b2=>zA (zK (zd [0,1,2,3] O V qF (fun d c g=>zD 0 O (zL (o:=0) O) g (zD 1 O (zZ 3 (v:=pt cb) O O O) g (zD 3 O (zL (o:=1) O) g (zD 4 O (zZ 3 (v:=pt gb) O O O) g (zD 6 O (zL (o:=2) O) g (zD 7 O (zZ 3 (v:=av) O O O) g (zD 9 O (zL (o:=3) O) g (zD 10 O (zZ 3 (v:=Vn p) O O O) g (zM 2 O c (zG O O (fun d c=>(zOu cb _ _ _ d ‹_› qH qH (c.give [0] O V)).mono ?_)))))))))))))))))
 rintro _ w1 ⟨e,a2,rfl,m,h,hO⟩
 refine fq [0] O c hO (zE [4,0,1,2] O V (fun d c g=>zM 5 O c (zG O O (fun d c=>(zIe gb _ d (c.give [0] O V)).mono ?_))))
 rintro _ w1 ⟨j,a0,rfl,a3,hO⟩
 refine fq [0] O c hO (zE [3,5,0,1] O V (fun d c g=>zM 8 O c (zG O O (fun d c=>(zKi av [] d qH (c.qj 0 O)).mono ?_))))
 rintro n w1 ⟨_,rfl,hO⟩
 refine(?_:CL _ _ _ _ _ _ (Own w S [_,_,_,_,_,_,_,_])) w1 (c.qb hO)
 refine zE [3,5,0,1] O V (fun d c g=>zM 11 O c (zS (fun d c=>Own.qa (i:=7) O c) (fun l=>(xP (cs:=[pt e,pt j,n,Vn p]) (z:=[.pointer none, .pointer none,zW,Vn 0]) (pl:=[(0,1),(1,1),(2,1),(3,1)]) qF ⟨O,O,l,O,trivial⟩ qF O (zE [3,5,0,1] O V (fun d c g=>zM 12 O c (zf 2 O O O (zH O (zH O (zH l (zH O zh)))) O (zE [3,5,0,1] O V (fun d c g=>zX ((?_:C _ _ _ _ _ _ _ (Own w S [_,_,_,_,_,_,_,_])) _ c))))))))))
 exact zP (xg (cs:=[pt e,pt j,n,Vn p]) O O qF (Own.qd (i:=2) O) (fun d c=>⟨e,j,n,a2,a0,O,m,h,c.sel [3,5,0,4,6,7] O V⟩))
end Go.Proofs.YthpoddkmhfhboaaGreatDoor
