import Derived.Test.YthpoddkmhfhboaaGreatDoorAlo
set_option linter.unusedSimpArgs false
set_option linter.unusedVariables false
set_option maxRecDepth 10000
namespace Go.Proofs.YthpoddkmhfhboaaGreatDoor
open Go.Sc
theorem zId(x:ShtD)(w:World)(hv:x.conf.vs.length≤10000000)(hl:x.conf.ls.length≤10000000)(p:x.data.length≤1000000000)(e:ShtD.rd x w []):Rets Tryz.prog 123 #[.agg (ShtD.cells x).toArray] w fun n d=>∃ (cv cw r:Value),n= .agg #[Vn x.index,Vn x.term,cv,cw,r]∧Own w [] [vI cv x.conf.vs,vI cw x.conf.ls,vY r x.data] d:=by
 refine zO Tryz.func123 O Tryz.ntmps123 (Own.start w)<|zB<|zj O O<|fun q=>zk (v:= .agg #[Vn 0,Vn 0,zW,zW,zW]) qF O<|fun s=>zA<|zB<|zI (o:=2) O O<|xI 0 (ConfD.cells x.conf) O O (yj 2 O) qF O<|zG O O<|fun d c=>(zGl x.conf d qH qH<|e.conf.at0 c).mono ?_
 rintro _ l ⟨a,b,rfl,m⟩
 refine(?_:CL _ _ _ _ _ _ (Own w [] [_,_,_,_])) l<|c.qb m
 refine zI (o:=2) O O<|zS (fun d c=>Own.qa (i:=2) O c)<|fun g=>(zS (fun d c=>Own.qa (i:=3) O c)<|fun h=>(zf 0 O O O (zH g<|zH h zh) O<|zA<|zB<|zI (o:=4) O O<|zJ 0 (v:=x.dv) O O O O<|zG O O<|fun d c=>(y3 x.dv x.data d qI<|c.rd0 e.dv).mono ?_))
 rintro k l ⟨_,rfl,m⟩
 refine(?_:CL _ _ _ _ _ _ (Own w [] [_,_,_,_,_])) l<|c.qb m
 refine zI (o:=4) O O<|zS (fun d c=>Own.qa (i:=4) O c)<|fun j=>(zi (cs:=[Vn x.index,Vn x.term,a,b,x.dv]) 0 O O O j O<|zA<|zB<|z6 (cs:=[Vn x.index,Vn x.term,a,b,k]) 0 O O O<|zf 1 O O O (zH O<|zH O<|zH g<|zH h<|zH j zh) O<|zA<|zP<|xg (cs:=[Vn x.index,Vn x.term,a,b,k]) O O qF (Own.qd (i:=1) O)<|fun d c=>⟨a,b,k,O,c.sel [2,3,4] O V⟩)
theorem zJw(w:World):Rets Tryz.prog 124 #[] w fun d a=>∃ (b:Nat),d=pt b∧Own w [] [Res.row b 422 [Vn 0,Vn 0,zW]] a:=by
 refine zO Tryz.func124 O Tryz.ntmps124 (Own.start w)<|zB<|zF O<|zA<|zB<|yJ (cs:=[Vn 0,Vn 0,zW]) (z:=[Vn 0,Vn 0,zW]) (pl:=[(0,2),(2,1)]) qF qF O<|zj O O<|fun c=>zF O<|zA<|zP<|zm (v:=pt c) O O<|fun a e=>⟨c,O,e⟩
theorem zIl{S:List Nat}(cb:Nat)(a0 d e a3 a4 a5 g h i a9 j k l m n p q r s u x y z d3 d4 d5 d6 d7 d8 d9 e0:Value)(bs a:Int)(qe:Nat)(w:World)(hs:1≤a∧a≤1073741824)(hb:1≤bs∧bs≤1073741824)(hd:qe<18446744073709551616)(b:Own w S [Res.row cb 260 [a0,d,e,a3,a4,a5,g,h,i,a9,j,k,l,m,n,Vi bs,Vi a,p,q,r,s,u,x,y,z,d3,d4,d5,d6,d7,d8,d9,Vn qe,e0]] w):Rets Tryz.prog 125 #[pt cb] w fun u_ w'=>u_=Vi (bs+((qe%(Int.toNat a+1):Nat):Int))∧Own w S [Res.row cb 260 [a0,d,e,a3,a4,a5,g,h,i,a9,j,k,l,m,n,Vi bs,Vi a,p,q,r,s,u,x,y,z,d3,d4,d5,d6,d7,d8,d9,Vn qe,e0]] w':=by
 have hu:u64 (a+1)=Int.toNat a+1:=by unfold u64;omega
 have hm:qe%u64 (a+1)<u64 (a+1):=Nat.mod_lt qe qG
 have aa:qe%u64 (a+1)≤1073741824:=by omega
 refine zO Tryz.func125 O Tryz.ntmps125 b<|zB<|zF O<|zA<|yd qF qF<|zR O (za)<|zR O (zY O)<|zR O (zL (o:=11) O)<|zR O (zL (o:=4) O)<|zR O (zZ 0 (v:=Vi bs) O O O)<|zR O (za)<|zR O (zY O)<|zR O (zL (o:=32) O)<|zR O (zZ 0 (v:=Vn qe) O O O)<|zR O (za)<|zR O (zY O)<|zR O (zL (o:=11) O)<|zR O (zL (o:=5) O)<|zR O (zZ 0 (v:=Vi a) O O O)<|zR O (xN O O<|zt qG)<|zR O (kQ qF O (y0 _) qF)<|zR O (zQG (c:=((qe%(u64<|a+1):Nat):Int)) O O qG O)<|zR O (kQ qF O (zt qG) qF)<|zR O (xN O O<|zt qG)<|zR O (yB)<|xX<|zP<|zm (v:=Vi (bs+((qe%(u64<|a+1):Nat):Int))) O O<|fun w' hw=>⟨(by rw[hu]),hw⟩
theorem zNu{id rho mn mx:Int}(a:1≤id∧id≤16)(b:0≤rho∧rho≤500000)(h1:1≤mn)(h2:mx≤1000000):¬((((((id<1∨16<id)∨(0:Nat)<0)∨rho<0)∨500000<rho)∨mn<1)∨1073741824<mx):=by omega
abbrev nI:List Int:=[]
abbrev nB:List UInt8:=[]
abbrev nE:List EntD:=[]
structure SetD where
 nodes:Int
 voters:Int
 edges:Int
 rho:Int
 base:Int
 spread:Int
 beat:Int
 disk:Int
 post:Int
 keep:Int
 deriving Inhabited
def SetD.cells(x:SetD):List Value:=[Vi x.nodes,Vi x.voters,Vi x.edges,Vi x.rho,Vi x.base,Vi x.spread,Vi x.beat,Vi x.disk,Vi x.post,Vi x.keep]
def jT(rho:Int):SetD:=⟨1,1,2,rho,12,20,4,1048576,400,0⟩
def zCb(rho:Int):StA:=⟨1,1,1,2,rho,12,20,4,1048576,400,0⟩
theorem zPd{rho:Int}(h:0≤rho∧rho≤500000):(zCb rho).ok:=⟨by show(1:Int)≤1∧(1:Int)≤16;omega,h,by show(1:Int)≤12∧(12:Int)≤_;omega,by show(1:Int)≤20∧(20:Int)≤_;omega,by show(1:Int)≤4∧(4:Int)≤_;omega⟩
theorem zRj(id:Int)(st:SetD)(vv:Value)(vs:List Int)(qe:Nat)(g i lw:Value)(w:World)(ap:1≤id∧id≤16)(hr:0≤st.rho∧st.rho≤500000)(aj:1≤st.base∧st.base≤1000000)(ak:1≤st.spread∧st.spread≤1000000)(al:1≤st.beat∧st.beat≤1000000)(aq:Rises vs)(ar:0<vs.length)(ba:vs.length≤16)(hd:qe<18446744073709551616)(am:Rd w [] (Res.sl vv vs.length (vs.flatMap I1)))(aa:Rd w [] (Res.sl g nI.length (nI.flatMap I1)))(ab:Rd w [] (Res.sl i nB.length (nB.map vb)))(au:Rd w [] (Res.sl lw nE.length (nE.flatMap EntD.cells)))(a7:∀ p∈nE,EntD.rd p w []):Rets Tryz.prog 76 #[Vi id, .agg #[Vn 0,Vi 0], .agg #[Vn 0,Vn 0,vv,g,i],lw, .agg (SetD.cells st).toArray,Vi 0,Vn qe] w fun u_ n=>∃ (cb jb lb:Nat) (cv cw dv lv:Value) (es:List EntD),u_= .tuple #[pt cb,Vi 0]∧es.length=0∧Own w [] [Res.row cb 260 [Vn 0,Vi 0,Vi 0,Vi 0,Vi (0+(st.base+((qe%(Int.toNat st.spread+1):Nat):Int))),Vi 0,Vi 0,Vi 0,Vi 0, .pointer none,Vi id,Vi st.nodes,Vi st.voters,Vi st.edges,Vi st.rho,Vi st.base,Vi st.spread,Vi st.beat,Vi st.disk,Vi st.post,Vi st.keep,Vi 1,Vi 0,Vn 0,Vn 0,Vn 0,cv,cw,dv,pt lb,zW,pt jb,Vn qe, .pointer none],vI cv vs,vI cw ([]:List Int),vY dv ([]:List UInt8),Res.row lb 415 [Vn 0,Vn 0,lv],vE lv es,sE es,Res.row jb 422 [Vn 0,Vn 0,zW]] n:=by
 have hm:qe%(Int.toNat st.spread+1)<Int.toNat st.spread+1:=Nat.mod_lt _ qG
 have av:Rises ([]:List Int):=⟨by simp,by simp⟩
 have aw:(({vs:=vs,ls:=[]}:ConfA)).ok:=⟨⟨⟨aq,av⟩,ar⟩,fun v _ h=>by cases h⟩
 refine zO Tryz.func76 O Tryz.ntmps76 (Own.start w)<|zB<|zj O O<|fun b8=>zj O O<|fun b9=>zj O O<|fun bb=>zF O<|zF O<|zA<|zK<|zB<|zC O<|zu O O O<|zC O<|yP (q:=id<1) 2 2 [31,30] (16<id) O O O O O O trivial O (fun ac=> ?_)<|fun b5=> ?_
 ·refine zQ O (gF ac)<|zC O<|zQ O (gF ac)<|yY O O O<|z8 O<|fun _ b=>b
 refine zC O<|yP (q:=(id<1)∨(16<id)) 2 6 [35,34] (0<0) O O O O O O trivial O (fun ad=> ?_)<|fun b6=> ?_
 ·refine zQ O (gF ad)<|zC O<|zQ O (gF ad)<|zu O O O<|z8 O<|fun _ b=>b
 refine zC O<|yP (q:=((id<1)∨(16<id))∨(0<0)) 3 10 [40,39,38] (st.rho<0) O O O O O O trivial O (fun a2=> ?_)<|fun ax=> ?_
 ·refine zQ O (gF a2)<|zI (o:=3) O O<|zQ O (gF a2)<|zJ 2 (v:=Vi st.rho) O O O O<|zQ O (gF a2)<|zu O O O<|z8 O<|fun _ b=>b
 refine zC O<|yP (q:=(((id<1)∨(16<id))∨(0<0))∨(st.rho<0)) 3 15 [45,44,43] (500000<st.rho) O O O O O O trivial O (fun a3=> ?_)<|fun ay=> ?_
 ·refine zQ O (gF a3)<|zI (o:=3) O O<|zQ O (gF a3)<|zJ 2 (v:=Vi st.rho) O O O O<|zQ O (gF a3)<|yY O O O<|z8 O<|fun _ b=>b
 refine zC O<|yP (q:=((((id<1)∨(16<id))∨(0<0))∨(st.rho<0))∨(500000<st.rho)) 8 20 [55,54,53,52,51,50,49,48] ((min (min st.base st.spread) st.beat)<1) O O O O O O trivial O (fun j=> ?_)<|fun az=> ?_
 ·refine zQ O (gF j)<|zI (o:=4) O O<|zQ O (gF j)<|zJ 2 (v:=Vi st.base) O O O O<|zQ O (gF j)<|zI (o:=5) O O<|zQ O (gF j)<|zJ 2 (v:=Vi st.spread) O O O O<|zQ O (gF j)<|zI (o:=6) O O<|zQ O (gF j)<|zJ 2 (v:=Vi st.beat) O O O O<|zQ O (gF j)<|zMu (c:=min (min st.base st.spread) st.beat) O O O (zP6 _ _ _) O<|zQ O (gF j)<|zu O O O<|z8 O<|fun _ b=>b
 refine zC O<|yP (q:=(((((id<1)∨(16<id))∨(0<0))∨(st.rho<0))∨(500000<st.rho))∨((min (min st.base st.spread) st.beat)<1)) 8 30 [65,64,63,62,61,60,59,58] (1073741824<(max (max st.base st.spread) st.beat)) O O O O O O trivial O (fun k=> ?_)<|fun b0=> ?_
 ·refine zQ O (gF k)<|zI (o:=4) O O<|zQ O (gF k)<|zJ 2 (v:=Vi st.base) O O O O<|zQ O (gF k)<|zI (o:=5) O O<|zQ O (gF k)<|zJ 2 (v:=Vi st.spread) O O O O<|zQ O (gF k)<|zI (o:=6) O O<|zQ O (gF k)<|zJ 2 (v:=Vi st.beat) O O O O<|zQ O (gF k)<|zKu (c:=max (max st.base st.spread) st.beat) O O O (zQB _ _ _) O<|zQ O (gF k)<|yY O O O<|z8 O<|fun _ b=>b
 refine zA<|zT O (fun c1=> ?_)<|fun c1=> ?_
 ·exact absurd c1<|zNu ap hr (Int.le_min.2 ⟨Int.le_min.2 ⟨aj.1,ak.1⟩,al.1⟩)<|Int.max_le.2 ⟨Int.max_le.2 ⟨aj.2,ak.2⟩,al.2⟩
 refine zN<|zB<|z6 (cs:=[Vn 0,Vi 0]) 0 O O O<|zG O O<|fun n b=>(zEW ({term:=0,ql:=0}:HrdD) n qI).mono ?_
 rintro _ w1 ⟨an,rfl,u⟩
 have hk:({term:=0,ql:=0}:HrdD).ok:=⟨by decide,by decide⟩
 refine(?_:CL _ _ _ _ _ _ (Own w [] [_,_,_,_])) w1<|b.qb u
 refine zC O<|zb (vs:=[an,Vi (yI ({term:=0,ql:=0}:HrdD).ok)]) O O O<|zb (vs:=[an,Vi (yI ({term:=0,ql:=0}:HrdD).ok)]) O O O<|zF O<|zF O<|zA<|zB<|z6 (cs:=[Vn 0,Vn 0,vv,g,i]) 1 O O O<|zG O O<|fun n b=>(zEU ({index:=0,term:=0,conf:=({vv:=vv,vs:=vs,lv:=g,ls:=nI}:ConfD),dv:=i,data:=nB}:ShtD) n ⟨by show(0:Nat)<_;decide,by show(0:Nat)<_;decide,⟨by show vs.length≤_;omega,by show(0:Nat)≤_;decide⟩,by show(0:Nat)≤_;decide⟩ ⟨⟨(b.rd0 am),(b.rd0 aa)⟩,(b.rd0 ab)⟩).mono ?_
 rintro _ w1 ⟨ao,rfl,u⟩
 have sk:({index:=0,term:=0,conf:=({vv:=vv,vs:=vs,lv:=g,ls:=[]}:ConfD),dv:=i,data:=[]}:ShtD).a.ok:=⟨⟨⟨⟨aw,by show 0≤32768;decide⟩,by show(0:Nat)=0↔(0:Nat)=0;exact Iff.rfl⟩,by show(0:Nat)≤_;decide⟩,by show(0:Nat)≤_;decide⟩
 refine(?_:CL _ _ _ _ _ _ (Own w [] [_,_,_,_,_])) w1<|b.qb u
 refine zC O<|zb (vs:=[ao,Vi (yI ({index:=0,term:=0,conf:=({vv:=vv,vs:=vs,lv:=g,ls:=nI}:ConfD),dv:=i,data:=nB}:ShtD).a.ok)]) O O O<|zb (vs:=[ao,Vi (yI ({index:=0,term:=0,conf:=({vv:=vv,vs:=vs,lv:=g,ls:=nI}:ConfD),dv:=i,data:=nB}:ShtD).a.ok)]) O O O<|zF O<|zF O<|zA<|zK<|zB<|zC O<|yf O O O<|zC O<|yP (q:=(yI ({term:=0,ql:=0}:HrdD).ok)≠0) 2 2 [81,80] ((yI ({index:=0,term:=0,conf:=({vv:=vv,vs:=vs,lv:=g,ls:=nI}:ConfD),dv:=i,data:=nB}:ShtD).a.ok)≠0) O O O O O O trivial O (fun ae=> ?_)<|fun b7=> ?_
 ·refine zQ O (gF ae)<|zC O<|zQ O (gF ae)<|yf O O O<|z8 O<|fun _ b=>b
 refine zC O<|yP (q:=((yI ({term:=0,ql:=0}:HrdD).ok)≠0)∨((yI ({index:=0,term:=0,conf:=({vv:=vv,vs:=vs,lv:=g,ls:=nI}:ConfD),dv:=i,data:=nB}:ShtD).a.ok)≠0)) 5 6 [88,87,86,85,84] (((0:Nat):Int)<((0:Nat):Int)) O O O O O O trivial O (fun x=> ?_)<|fun b1=> ?_
 ·refine zQ O (gF x)<|zI (o:=0) O O<|zQ O (gF x)<|zJ 0 (v:=Vn 0) O O O O<|zQ O (gF x)<|zI (o:=1) O O<|zQ O (gF x)<|zJ 1 (v:=Vn 0) O O O O<|zQ O (gF x)<|zu O O O<|z8 O<|fun _ b=>b
 refine zC O<|yP (q:=(((yI ({term:=0,ql:=0}:HrdD).ok)≠0)∨((yI ({index:=0,term:=0,conf:=({vv:=vv,vs:=vs,lv:=g,ls:=nI}:ConfD),dv:=i,data:=nB}:ShtD).a.ok)≠0))∨(((0:Nat):Int)<((0:Nat):Int))) 3 13 [93,92,91] (((4611686018427387904:Nat):Int)<((0:Nat):Int)) O O O O O O trivial O (fun a4=> ?_)<|fun b2=> ?_
 ·refine zQ O (gF a4)<|zI (o:=0) O O<|zQ O (gF a4)<|zJ 0 (v:=Vn 0) O O O O<|zQ O (gF a4)<|yY O O O<|z8 O<|fun _ b=>b
 refine zA<|zT O (fun c2=> ?_)<|fun c2=> ?_
 ·exact absurd c2 (by rw[xp hk,xp sk];omega)
 refine zN<|zB<|zI (o:=0) O O<|zJ 1 (v:=Vn 0) O O O O<|zI (o:=1) O O<|zJ 1 (v:=Vn 0) O O O O<|zG O O<|fun n b=>(zSw 0 0 n qH qH).mono ?_
 rintro _ w1 ⟨a5,rfl,u⟩
 refine(?_:CL _ _ _ _ _ _ (Own w [] [_,_,_,_,_,_,_,_])) w1<|b.qb u
 refine zF O<|zA<|zK<|zB<|zC O<|zI (o:=0) O O<|zJ 1 (v:=Vn 0) O O O O<|zI (o:=1) O O<|zJ 1 (v:=Vn 0) O O O O<|zC O<|zG O O<|fun n b=>(zGZ a5 0 0 zW [] 0 0 lw nE n qH (⟨Nat.zero_le _,Nat.zero_le _,trivial⟩:(LG 0 0 ([]:List EntD)).good) (fun e he=>by cases he) qH (b.give [5,6,7] O V) (b.rdTo au [5,6,7] O)<|fun p hp=>EntD.rd.at (a7 p hp) b [5,6,7] O).mono ?_
 rintro _ w1 ⟨a6,d,af,ag,a9,rfl,ah,a8,u⟩
 have ai:d.length=0:=by have h:(d.map EntD.toEntA).length=0:=congrArg (fun q:LogA=>q.l.length) ah;simpa using h
 have b3:d=[]:=List.eq_nil_of_length_eq_zero ai
 have b4:a9=0:=(congrArg (fun q:Nat×Nat×Int=>q.2.2) a8).symm
 refine fq [5,6,7] O b u<|zC O<|zb (vs:=[Vn af,Vn ag,Vi a9]) O O O<|zb (vs:=[Vn af,Vn ag,Vi a9]) O O O<|zb (vs:=[Vn af,Vn ag,Vi a9]) O O O<|zF O<|zF O<|zF O<|zA<|zB<|zC O<|yf O O O<|zA<|zT O (fun c3=> ?_)<|fun c3=> ?_
 ·exact absurd b4 c3
 refine zN<|zK<|zB<|zC O<|zG O O<|fun n b=>(zDH a5 0 0 a6 d n qI qH (b.rdRes0 5 O) (b.qj 6 O)<|EntD.rd.star0 7 O b).mono ?_
 rintro _ w1 ⟨rfl,u⟩
 refine(?_:CL _ _ _ _ _ _ (Own w [] [_,_,_,_,_,_,_,_])) w1<|b.qb u
 refine zC O<|zb (vs:=[Vn (0+d.length),Vn ((LG 0 0 d).end_)]) O O O<|zb (vs:=[Vn (0+d.length),Vn ((LG 0 0 d).end_)]) O O O<|zF O<|zF O<|zA<|zB<|zC O<|zI (o:=0) O O<|zJ 0 (v:=Vn 0) O O O O<|yY O O O<|zA<|zT O (fun c4=> ?_)<|fun c4=> ?_
 ·exact absurd c4 (by rw[b3];show ¬((0:Nat):Int)<((0:Nat):Int);omega)
 refine zN<|zK<|zd [0,1,2,3,4,5,6] O V qF<|fun n b m=>zD 0 O (xG (cs:=[Vn 0,Vi 0]) 0 O O) m<|zD 1 O za m<|zD 2 O (xG (cs:=(SetD.cells st)) 2 O O) m<|zD 3 O (zL (o:=0) O) m<|zD 4 O (zZ 1 (v:=Vn 0) O O O) m<|zD 5 O (xG (cs:=[Vn 0,Vn 0,vv,g,i]) 1 O O) m<|zD 7 O za m<|zD 9 O za m<|zM 6 O b<|zG O O<|fun n b=>((zId ({index:=0,term:=0,conf:=({vv:=vv,vs:=vs,lv:=g,ls:=nI}:ConfD),dv:=i,data:=nB}:ShtD) n qI qI qI ⟨⟨(b.rd0 am),(b.rd0 aa)⟩,(b.rd0 ab)⟩).mono ?_)
 rintro _ w1 ⟨y,r,a0,rfl,u⟩
 refine(?_:CL _ _ _ _ _ _ (Own w [] [_,_,_,_,_,_,_,_,_,_,_])) w1<|b.qb u
 refine zE [0,1,2,3,4,5,6] O V<|fun n b m=>zM 8 O b<|zG O O<|fun n b=>(zJw n).mono ?_
 rintro _ w1 ⟨a1,rfl,u⟩
 refine(?_:CL _ _ _ _ _ _ (Own w [] [_,_,_,_,_,_,_,_,_,_,_,_])) w1<|b.qb u
 refine zE [0,1,2,3,4,5,6] O V<|fun n b m=>zD 10 O (zGq (cs:=[Vn 0,Vi 0,Vi 0,Vi 0,Vi 0,Vi 0,Vi 0,Vi 0,Vi 0, .pointer none,Vi id,Vi st.nodes,Vi st.voters,Vi st.edges,Vi st.rho,Vi st.base,Vi st.spread,Vi st.beat,Vi st.disk,Vi st.post,Vi st.keep,Vi 1,Vi 0,Vn 0,Vn (({index:=0,term:=0,conf:=({vv:=vv,vs:=vs,lv:=g,ls:=nI}:ConfD),dv:=i,data:=nB}:ShtD).index),Vn (({index:=0,term:=0,conf:=({vv:=vv,vs:=vs,lv:=g,ls:=nI}:ConfD),dv:=i,data:=nB}:ShtD).term),y,r,a0,pt a5,zW,pt a1,Vn qe, .pointer none]) (z:=[Vn 0,Vi 0,Vi 0,Vi 0,Vi 0,Vi 0,Vi 0,Vi 0,Vi 0, .pointer none,Vi 0,Vi 0,Vi 0,Vi 0,Vi 0,Vi 0,Vi 0,Vi 0,Vi 0,Vi 0,Vi 0,Vi 0,Vi 0,Vn 0,Vn 0,Vn 0,zW,zW,zW, .pointer none,zW, .pointer none,Vn 0, .pointer none]) (pl:=[(0,2),(2,7),(9,1),(10,1),(11,10),(21,1),(22,1),(23,1),(24,5),(29,1),(30,1),(31,1),(32,1),(33,1)]) qF ⟨trivial,O,trivial,O,O,trivial,O,O,O,trivial⟩ qF) m<|zM 11 O b<|zj O O<|fun s=>zE [0,1,2,3,4,5,6] O V<|fun n b m=>zD 12 O yB m<|zX<|(?_:C _ _ _ _ _ _ _ (Own w [] [_,_,_,_,_,_,_,_,_,_,_,_,_])) _ b
 refine zB<|zC O<|zC O<|zC O<|zC O<|yJ (cs:=[Vi 0,Vi 0,Vi 0,Vi 0,Vi 0,Vi 0,Vi 0]) (z:=[Vi 0,Vi 0,Vi 0,Vi 0,Vi 0,Vi 0,Vi 0]) (pl:=[(0,1),(1,1),(2,1),(3,1),(4,1),(5,1),(6,1)]) qF qF O<|zV O O<|zI (o:=2) O O<|zf 12 O O O (zz O) O<|zA<|zK<|zd [0,1,2,3,4,5,6,8,9,10,11] O V qF<|fun n b m=>zD 0 O za m<|zD 1 O (zY O) m<|zD 2 O (zL (o:=2) O) m<|zD 3 O (zL (o:=2) O) m<|zD 5 O za m<|z7 4 6 ?_ ?_
 ·refine zo 4 O b<|zJ 12 (v:=Vi 0) O O O O<|zE [0,1,2,3,4,5,6,8,9,10,11] O V<|fun n b m=>zM 6 O b<|zG O O<|fun n b=>(zIl s (Vn 0) (Vi 0) (Vi 0) (Vi 0) (Vi 0) (Vi 0) (Vi 0) (Vi 0) (Vi 0) (.pointer none) (Vi id) (Vi st.nodes) (Vi st.voters) (Vi st.edges) (Vi st.rho) (Vi st.beat) (Vi st.disk) (Vi st.post) (Vi st.keep) (Vi 1) (Vi 0) (Vn 0) (Vn<|({index:=0,term:=0,conf:=({vv:=vv,vs:=vs,lv:=g,ls:=nI}:ConfD),dv:=i,data:=nB}:ShtD).index) (Vn<|({index:=0,term:=0,conf:=({vv:=vv,vs:=vs,lv:=g,ls:=nI}:ConfD),dv:=i,data:=nB}:ShtD).term) y r a0 (pt a5) zW (pt a1) (.pointer none) st.base st.spread qe n qH qH qH<|b.give [12] O V).mono ?_
  rintro _ w1 ⟨rfl,u⟩
  refine fq [12] O b u<|zE [0,1,2,3,4,5,6,8,9,10,11] O V<|fun n b m=>zD 7 O (xN O O<|zt qG) m<|zD 8 O (zY O) m<|zD 9 O (zL (o:=2) O) m<|zD 10 O (zL (o:=2) O) m<|zM 11 O b<|zi 12 O O O O O<|zE [0,1,2,3,4,5,6,8,9,10,11] O V<|fun n b m=>zX<|(?_:C _ _ _ _ _ _ _ (Own w [] [_,_,_,_,_,_,_,_,_,_,_,_,_])) _ b
  refine zB<|zC O<|zF O<|zF O<|zA<|zP<|yg (v:=pt s) (v':=Vi 0) O O O<|fun n b=>⟨s,a1,a5,y,r,a0,a6,d,O,ai,b.sel [12,8,9,10,5,6,7,11] O V⟩
 refine zo 6 O b<|zG O O<|fun n b=>(zIl s (Vn 0) (Vi 0) (Vi 0) (Vi 0) (Vi 0) (Vi 0) (Vi 0) (Vi 0) (Vi 0) (.pointer none) (Vi id) (Vi st.nodes) (Vi st.voters) (Vi st.edges) (Vi st.rho) (Vi st.beat) (Vi st.disk) (Vi st.post) (Vi st.keep) (Vi 1) (Vi 0) (Vn 0) (Vn<|({index:=0,term:=0,conf:=({vv:=vv,vs:=vs,lv:=g,ls:=nI}:ConfD),dv:=i,data:=nB}:ShtD).index) (Vn<|({index:=0,term:=0,conf:=({vv:=vv,vs:=vs,lv:=g,ls:=nI}:ConfD),dv:=i,data:=nB}:ShtD).term) y r a0 (pt a5) zW (pt a1) (.pointer none) st.base st.spread qe n qH qH qH<|b.give [12] O V).mono ?_
 rintro _ w1 ⟨rfl,u⟩
 refine fq [12] O b u<|zE [0,1,2,3,4,5,6,8,9,10,11] O V<|fun n b m=>zM 4 O b<|zJ 12 (v:=Vi 0) O O O O<|zE [0,1,2,3,4,5,6,8,9,10,11] O V<|fun n b m=>zD 7 O (xN O O<|zt qG) m<|zD 8 O (zY O) m<|zD 9 O (zL (o:=2) O) m<|zD 10 O (zL (o:=2) O) m<|zM 11 O b<|zi 12 O O O O O<|zE [0,1,2,3,4,5,6,8,9,10,11] O V<|fun n b m=>zX<|(?_:C _ _ _ _ _ _ _ (Own w [] [_,_,_,_,_,_,_,_,_,_,_,_,_])) _ b
 refine zB<|zC O<|zF O<|zF O<|zA<|zP<|yg (v:=pt s) (v':=Vi 0) O O O<|fun n b=>⟨s,a1,a5,y,r,a0,a6,d,O,ai,b.sel [12,8,9,10,5,6,7,11] O V⟩
end Go.Proofs.YthpoddkmhfhboaaGreatDoor
