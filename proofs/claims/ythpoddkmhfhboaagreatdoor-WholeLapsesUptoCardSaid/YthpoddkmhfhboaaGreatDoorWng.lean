import Derived.Test.YthpoddkmhfhboaaGreatDoorPlP
set_option linter.unusedSectionVars false
set_option linter.unusedSimpArgs false
set_option linter.unusedVariables false
namespace Go.Proofs.YthpoddkmhfhboaaGreatDoor
open Go.Sc
structure StQ(W:WdE)(rho S:Int)(j:Nat)(c0:CkD)(T:Int):Prop where
 w:WeI W rho (2+j) j
 a:LcI W.n.s.a S j
 st:W.n.x.t.qh=W.n.x.t.now
 ck:∀ e,yt W.c e=yt c0 e+3*((j:Nat):Int)
 s2:(zc W.el 1).2.seq=j
 l1:(zc W.el 0).2.kl=[(1,⟨kK,7,T⟩)]
 en:W.n.x.es.map EntD.toEntA=LE S j
structure StR(W:WdE)(rho S:Int)(j:Nat)(c0:CkD)(T lo hi:Int):Prop where
 w:WeI W rho (2+j) (j+1)
 a:LcI W.n.s.a S j
 dl:lo≤W.n.dl∧W.n.dl≤hi
 ck:∀ e,yt c0 e+3*((j:Nat):Int)+lo≤yt W.c e∧yt W.c e≤yt c0 e+3*((j:Nat):Int)+hi
 s2:(zc W.el 1).2.seq=j
 l1:(zc W.el 0).2.kl=[(1,⟨kK,7,T⟩)]
 en:W.n.x.es.map EntD.toEntA=LE S j
section
variable {W W':WdE} {rho S T:Int} {r:RepD} {did:Bool} {j:Nat} {c0:CkD}
theorem zTU(h:StL W rho 0 lgZ 0 0 []):LrnH W 0 1 (cmC 7):=
 ⟨(cw1 V).1, (cw1 V).2, by decide, .inl (by rw [h.w.ne]; decide), by decide, by decide, by rw [h.a, h.e.q1]; decide, zKU (by rw [h.a]; rfl) (by rw [h.a]; rfl) (by rw [h.a]; decide) (by rw [h.d]; decide), fun r g c k l kr f => by
   rw[h.e.q1]at f
   rw[(zTG (b:=⟨_,c,k,l,kr⟩) h.a h.d rfl f).1];exact zUi⟩
theorem zUC(h:StL W rho 0 lgZ 0 0 [])(k:LrnK W rho 0 0 0 1 (cmC 7) W' r did):r=R1∧StL W' rho 1 LB1 1 0 []:=by
 have b:=k.d
 rw[h.e.q1]at b
 have z:=zTG h.a h.d k.nw b
 refine⟨z.1,k.w,z.2,zT0 k.st,by rw[k.sq,h.e.q1],by rw[k.ot 1 V];exact h.e.q2,?_,by rw[k.ot 1 V];exact h.e.l2,by rw[k.kn];exact h.e.k1⟩
 rw[k.kl,zMS (zIG _ _ _).1,h.e.l1];split<;>rfl
theorem zUa(a:1≤S∧S≤256):((Q2 S).wf∧(Q2 S).ok)∧(Q2 S).session≠0:=
 ⟨⟨⟨show(1:Nat)<18446744073709551616 by decide,show(2:Nat)<18446744073709551616 by decide,show(1:Nat)<18446744073709551616 by decide,show kE 7 by unfold kE;decide,⟨by show _≤S;omega,by show S≤_;omega⟩⟩,show(0:Int)≤0∧(0:Int)≤20 by decide⟩,show(1:Nat)≠0 by decide⟩
theorem zSi(f:1≤S∧S≤256)(h:StL W rho 1 LB1 1 0 []):LrnH W 0 1 (cmA 7 S):=
 ⟨(cw2 V qG).1, (cw2 V qG).2, show (2 : Int) ≠ 4 by decide, .inl (by rw [h.w.ne]; decide), by decide, by decide, by rw [h.a, h.e.q1]; decide, zKU (by rw [h.a]; rfl) (by rw [h.a]; rfl) (by rw [h.a]; decide) (by rw [h.d]; decide), fun r i c k l kr g => by
   rw[h.e.q1]at g
   rw[(zS1 (b:=⟨_,c,k,l,kr⟩) f h.a h.d rfl g).1];exact zUa f⟩
theorem zMQ{a:AskD}{since rho:Int}(d:0≤since∧since≤1000000000)(e:0≤rho∧rho≤300000)(f:1≤S∧S≤256)(b:a.cmd.span=S):kW a since rho≤since+S:=by
 have c:=zLX (t:=S) (rho:=rho) (by unfold zAm;omega)
 unfold kW
 rw[b,c.1]
 show IntKind.i64.wrap (since+shr (shr S rho) rho)≤since+S
 have h2:=c.2.2
 rw[zt qG];omega
theorem zTk(m:0≤rho∧rho≤300000)(g:1≤S∧S≤256)(h:StL W rho 1 LB1 1 0 [])(j:W.n.x.es.map EntD.toEntA=[⟨1,1,1,0,[]⟩,⟨2,1,2,0,(ki (cmC 7) 1 1).enc⟩])(k:LrnK W rho 1 0 0 1 (cmA 7 S) W' r did):
   r=Q2 S∧∃ T:Int,T≤yt W'.c (-1)+S∧StQ W' rho S 0 W'.c T:=by
 have l:=k.d
 rw[h.e.q1]at l
 have z:=zS1 g h.a h.d k.nw l
 have f:=k.kl
 have ho:=zIG (cmA 7 S) 1 ((zc W.el 0).2.seq+1)
 rw[z.1,h.e.l1,h.e.k1,if_pos (show(Q2 S).e=0 from rfl)]at f
 unfold xd at f
 rw[if_pos (ho.1.trans rfl),if_pos ⟨(show(7:Int)=_ from ho.2.2.1.symm),rfl⟩,ho.2.2.2]at f
 have o:=h.w.c.bd
 have b:=k.en
 have i:W.n.x.es.length=2:=by have:=congrArg List.length j;simpa using this
 rw[j,i,h.d,h.e.q1]at b
 refine⟨z.1,kW (zA2 (cmA 7 S) 1 ((zc W.el 0).2.seq+1)) (yt W.c (-1)) rho,?_,k.w,lc0 g.1 z.2,k.st,fun e=>by show _=_+3*((0:Nat):Int);omega,by rw[k.ot 1 V];exact h.e.q2,f,?_⟩
 · rw[k.c]
   exact zMQ (by show 0≤W.c.e1∧W.c.e1≤1000000000;omega) m g (ho.2.1.trans O)
 rw[b];rfl
theorem lm3(a:0≤rho∧rho≤300000):yR 3 rho=3∧yo 3 rho=3:=by
 unfold yR yo
 constructor
 · have h1:3≤(3*1000000+1000000+rho - 1) / (1000000+rho):=Int.le_ediv_of_mul_le qG qG
   have h2:(3*1000000+1000000+rho - 1) / (1000000+rho)<4:=Int.ediv_lt_of_lt_mul qG qG
   omega
 omega
theorem zJg(a:0≤rho∧rho≤300000):256≤yR 1000 rho∧yo 1000 rho≤2000:=by
 unfold yR yo
 exact⟨Int.le_ediv_of_mul_le qG qG,by omega⟩
theorem StQ.pass{N lo hi:Int}(h:StQ W rho S j c0 T)(d:WeI W' rho (2+j) (j+1))(i:W'.n.s=W.n.s)(k:W'.n.x.t.qh=W.n.x.t.qh)(f:W'.el=W.el)(g:zRg W.c W'.c N rho)(b:W'.n.x.es.map EntD.toEntA=W.n.x.es.map EntD.toEntA)
   (h1:yR N rho=lo) (h2:yo N rho=hi) (l:0≤lo∧hi≤1000000):StR W' rho S j c0 T lo hi:=by
 subst h1 h2
 refine⟨d,by rw[i];exact h.a,?_,fun e=>by have q1:=g e;have q2:=h.ck e;omega,by rw[f];exact h.s2,by rw[f];exact h.l1,b.trans h.en⟩
 have q1:W.c.t1+yR N rho≤W'.c.t1∧W'.c.t1≤W.c.t1+yo N rho:=g 1
 have q2:=d.t
 have m:=h.w.t
 have o:=h.st
 unfold NdD.dl
 rw[k];omega
theorem zLE(a:1≤S∧S≤256)(b:j≤102)(h:W.n.x.es.map EntD.toEntA=LE S j):W.n.x.es.length≤97∨jP (W.n.x.es.map EntD.toEntA)<512:=by
 have hl:W.n.x.es.length=(LE S j).length:=by have:=congrArg List.length h;simpa using this
 rw[hl,h];exact zQ1 a b
theorem zTM(d:1≤S∧S≤256)(f:j≤102)(h:StR W rho S j c0 T 3 3):LrnH W 1 2 (cmA 7 1):=
 ⟨(cw2 V V).1, (cw2 V V).2, by decide, zLE d f h.en, by decide, by decide, by rw [h.s2]; exact h.a.find.1, h.a.ap d qG (by have := h.dl; omega), fun r g c k l kr e => by
   rw[h.s2]at e
   exact(stl (b:=⟨_,c,k,l,kr⟩) qG d h.a (by have:=h.dl;omega) O e).2.1⟩
theorem zTf(i:1≤S∧S≤256)(l:j≤102)(h:StR W rho S j c0 T 3 3)(k:LrnK W rho (2+j) (j+1) 1 2 (cmA 7 1) W' r did):
   StQ W' rho S (j+1) c0 T∧(r.e=16∨(r.e=0∧S≤3*(((j+1:Nat)):Int))):=by
 have g:=k.d
 rw[h.s2]at g
 have b:W.n.dl=3:=by have:=h.dl;omega
 have z:=stl qG i h.a b k.nw g
 have f:=k.en
 have hl:W.n.x.es.length=3+j:=by have:=congrArg List.length h.en;rw[zLA]at this;simpa using this
 rw[h.en,hl,b,h.s2]at f
 refine⟨⟨k.w,z.1,k.st,fun e=> ?_,by rw[k.sq,h.s2],by rw[k.ot 0 V];exact h.l1,?_⟩,z.2.2⟩
 · rw[k.c]
   have:=h.ck e
   omega
 rw[f,zI0]
 unfold LEx
 rw[show 3+j+1=4+j by omega]
theorem zTr(d:1≤S∧S≤256)(f:j≤102){lo hi:Int}(h:StR W rho S j c0 T lo hi)(h1:256≤lo)(h2:hi≤1000000):LrnH W 1 2 (cmA 7 1):=
 ⟨(cw2 V V).1, (cw2 V V).2, by decide, zLE d f h.en, by decide, by decide, by rw [h.s2]; exact h.a.find.1, h.a.ap d qG (by have := h.dl; omega), fun r g c k l kr e => by
   rw[h.s2]at e
   exact(stz (b:=⟨0,c,k,l,kr⟩) qG d h.a (by have:=h.dl;omega) e).1⟩
theorem zUA(c:1≤S∧S≤256)(f:j≤102){lo hi:Int}(h:StR W rho S j c0 T lo hi)(h1:256≤lo)(h2:hi≤1000000)(k:LrnK W rho (2+j) (j+1) 1 2 (cmA 7 1) W' r did):r.e=0:=by
 have b:=k.d
 rw[h.s2]at b
 exact(stz qG c h.a (by have:=h.dl;omega) b).2
theorem StQ.use(h:StQ W rho S j c0 T)(d:WeI W' rho (2+j) j)(f:W'.c=W.c)(b:W'.n=W.n)(g:((zc W'.el 0).2.kl=(zc W.el 0).2.kl∧(zc W'.el 0).2.kn=(zc W.el 0).2.kn)∧(zc W'.el 0).2.seq=(zc W.el 0).2.seq)(h1:zc W'.el 1=zc W.el 1):StQ W' rho S j c0 T:=
 ⟨d,by rw[b];exact h.a,by rw[b];exact h.st,fun e=>by rw[f];exact h.ck e,by rw[h1];exact h.s2,g.1.1.trans h.l1,by rw[b];exact h.en⟩
theorem zUG(h:StQ W rho S j c0 T)(a:T≤yt c0 (-1)+S)(b:S≤3*((j:Nat):Int)){ids:List Nat}(hp:List.Perm ids ((zc W.el 0).2.kl.map (·.1))):¬ 0<(kL 0 (jK kK (yt W.c (-1)) (zc W.el 0).2.kl ids)).1:=by
 have d:=h.ck (-1)
 rw[h.l1]at hp ⊢
 rw[zPJ hp,if_neg (by rintro⟨_,z⟩;have z:yt W.c (-1)<T:=z;omega)]
 decide
end
theorem zMh(st:SetD)(w:World)(k:st=jT st.rho)(h:0≤st.rho∧st.rho≤500000):Rets Tryz.prog 6 #[.agg (SetD.cells st).toArray,zW,Vi 0] w fun o j=>∃ (wb:Nat) (W:WdE),o=pt wb∧WeF W∧W.st=st∧Own w [] [Res.we wb W] j:=by
 refine zO Tryz.func6 O Tryz.ntmps6 (Own.start w) (zB (zj O O (fun p=>zF O (zA (zB (z6 (cs:=(SetD.cells st)) 0 O O O (zG O O (fun j d=>(zQ0 st j k h).mono ?_))))))))
 rintro _ r ⟨a,W2_,rfl,e,b,s⟩
 refine(?_:CL _ _ _ _ _ _ (Own w [] [_,_])) r (d.qb s)
 refine zC O (zb (vs:=[pt a,Vi 0]) O O O (zb (vs:=[pt a,Vi 0]) O O O (zF O (zF O (zA (zK (zB (zC O (yf O O O (zA (zT O (fun l=> ?_) (fun l=> ?_))))))))))))
 ·exact absurd O l
 refine zN (zK (zB (zF O (zA (zU (yQ (fun(i:Nat)=>[(1,zW),(2,Vi 0),(7,pt a),(9,Vj i)]) (fun(i:Nat)=>i=0) (fun(i:Nat)=>[Res.row p 24 (SetD.cells st),Res.we a W2_]) (fun(i:Nat)=>0) (fun j d=>⟨0,⟨O,O,O,O,trivial⟩,O,d⟩) (fun i g u=>(zK (zB (zC O (zC O (jM qF O O (zu O O O (zC O (yA (q:=((i:Nat):Int)<((0:Nat):Int)) 3 4 [24,23,22] (((i:Nat):Int)<0) O O O O O O trivial O (fun c=> ?_) (fun m=> ?_))))))))))))))))
 ·refine zQ O (gT c) (zC O (zQ O (gT c) (zC O (zQ O (gT c) (zu O O O (z8 O (fun _ d=>d)))))))
 refine zA (zT O (fun n=> ?_) (fun n=> ?_))
 ·exact absurd n.1 qG
 refine zw O (zB (zC O (zF O (zA (zP (zm (v:=pt a) O O (fun j d=>⟨a,W2_,O,e,b,d.sel [1] O V⟩)))))))
theorem zEI(r sp:Int)(v:Value)(l:List Nat)(w:World)(hr:0≤r∧r≤255)(bz:0≤sp∧sp≤255)(bk:∀ x∈l,x<18446744073709551616)(c0:l.length≤10000000)(hv:Rd w [] (Res.sl v l.length (l.flatMap U1))):Rets Tryz.prog 3 #[.int .u8 r, .int .u8 sp,v] w fun u_ k=>u_=xx∧Own w [] [] k:=by
 have a0:0≤r%4*100000∧r%4*100000≤300000:=by omega
 have a2:1≤sp+1∧sp+1≤256:=by omega
 refine zO Tryz.func3 O Tryz.ntmps3 (Own.start w) (zB (zF O (zA (zB (zC O (zG O O (fun k h=>(zP7 ((0:Nat):Int) ((0:Nat):Int) r k qH qH hr).mono ?_)))))))
 rintro _ w1 ⟨rfl,p⟩
 refine O0 ?_ (h.qb p)
 refine zk (v:= .agg #[Vi 0,Vi 0,Vi 0,Vi 0,Vi 0,Vi 0,Vi 0,Vi 0,Vi 0,Vi 0]) qF O (fun b7=>zf 0 O O O (zz O) O (zA (zB (z6 (cs:=(SetD.cells (jT (r%4*100000)))) 0 O O O (zG O O (fun k h=>(zMh (jT (r%4*100000)) k O (by show 0≤r%4*100000∧r%4*100000≤500000;omega)).mono ?_))))))
 rintro _ w1 ⟨a,W2_,rfl,s,aj,p⟩
 have ba:W2_.st.rho=r%4*100000:=by rw[aj];rfl
 refine(?_:CL _ _ _ _ _ _ (Own w [] [_,_])) w1 (h.qb p)
 refine zk (v:= .pointer none) qF O (fun b8=>zi (cs:=[.pointer none]) 2 O O O O O (zA (zK (zB (zG O O (fun k h=>(zO4 k).mono ?_))))))
 rintro _ w1 ⟨rfl,p⟩
 refine(?_:CL _ _ _ _ _ _ (Own w [] [_,_,_])) w1 (h.qb p)
 refine xo (b:=true) O O (zC O (zQ O O (zJ 2 (v:=pt a) O O O O (zQ O O (yE qF O O O (xA O O (zA (yW O (zN (zB (zJ 2 (v:=pt a) O O O O (yJ (cs:=[Vi 2,Vi 0,Vi 0,Vi 60,Vn 0,Vn 0,Vn 0,Vn 0,Vi 0,ym,Vi 0,Vi 0,Vn 0]) (z:=[Vi 0,Vi 0,Vi 0,Vi 0,Vn 0,Vn 0,Vn 0,Vn 0,Vi 0,ym,Vi 0,Vi 0,Vn 0]) (pl:=[(0,1),(1,1),(2,1),(3,1),(4,1),(5,1),(6,7)]) qF qF O (zG O O (fun k h=>(zPM a W2_ 60 0 k s V (by rw[ba];exact zO5 a0) V (h.give [1] O V)).mono ?_))))))))))))))
 rintro _ w1 ⟨W'3_,rfl,b3,ak,al,i,am,p⟩
 have a3:StL W'3_ (r%4*100000) 0 lgZ 0 0 []:=⟨by have q:=b3;rw[ba]at q;exact q,al,zT0 ak,by rw[i];exact((s).eg 0 V).1.1.1.1.2.2,by rw[i];exact((s).eg 1 V).1.1.1.1.2.2,by rw[i];exact((s).eg 0 V).1.2.1.1,by rw[i];exact((s).eg 1 V).1.2.1.1,by rw[i];exact((s).eg 0 V).1.2.1.2⟩
 have bl:=am
 refine fq [1] O h p (zA (zB (j7 (va:=[]) (vb:=[pt b8]) O O O (zF O (zA (zB (zC O (yJ (cs:=[Vn 0,Vn 0,Vi 1, .string (⟨#[107]⟩:ByteArray),Vi 7,Vi 0,Vn 0]) (z:=[Vn 0,Vn 0,Vi 0,ym,Vi 0,Vi 0,Vn 0]) (pl:=[(0,1),(1,1),(2,1),(3,1),(4,1),(5,1),(6,1)]) qF qF O (yM (fst:=[]) (cap:=[pt b8]) O qF O O (fun k h=>(zDD b8 a W'3_ (r%4*100000) 0 0 0 1 ({session:=0,seq:=0,op:=1,key:=(⟨#[107]⟩:ByteArray),amount:=7,span:=0,lease:=0}:CmdD) k a3.w V V (zTU a3) (h.give [1,2] O V)).mono ?_))))))))))
 rintro _ w1 ⟨W'4_,b4,bm,rfl,an,p⟩
 obtain⟨bn,b5⟩:=zUC a3 an
 have bb:=(an).en
 rw[bl,a3.w.ne,a3.d,a3.e.q1]at bb
 refine fq [1,2] O h p (zk (v:= .agg #[Vn 0,Vn 0,Vi 0,Vn 0,Vi 0,Vi 0]) qF O (fun bo=>zf 3 O O O (zz O) O (zA (zB (zC O (zC O (yh qF O (zt qG) O ?_ qF)))))))
 refine zr O O (zt qG) O (yJ (cs:=[Vn 0,Vn 0,Vi 2, .string (⟨#[107]⟩:ByteArray),Vi 7,Vi (sp+1),Vn 0]) (z:=[Vn 0,Vn 0,Vi 0,ym,Vi 0,Vi 0,Vn 0]) (pl:=[(0,1),(1,1),(2,1),(3,1),(4,1),(5,1),(6,1)]) qF qF O (yM (fst:=[]) (cap:=[pt b8]) O qF O O (fun k h=>(zDD b8 a W'4_ (r%4*100000) 1 0 0 1 ({session:=0,seq:=0,op:=2,key:=(⟨#[107]⟩:ByteArray),amount:=7,span:=sp+1,lease:=0}:CmdD) k b5.w V V (zSi a2 b5) (h.give [1,2] O V)).mono ?_)))
 rintro _ w1 ⟨W'7_,b6,bp,rfl,b9,p⟩
 obtain⟨bq,T8,br,bs⟩:=zTk a0 a2 b5 bb b9
 refine(?_:CL _ _ _ _ _ _ (Own w [] [_,_,_,_])) w1 (h.qc [1,2] O p)
 refine zk (v:= .agg #[Vn 0,Vn 0,Vi 0,Vn 0,Vi 0,Vi 0]) qF O (fun bt=>zf 4 O O O (zz O) O (zA (zK (zB (zI (o:=1) O O (zJ 1 (v:=Vn b4.seq) O O O O (yT O O O (zC O (yP (q:=((b4.seq:Nat):Int)=((0:Nat):Int)) 3 3 [47,46,45] (((b6.lease:Nat):Int)≠((1:Nat):Int)) O O O O O O trivial O (fun ao=> ?_) (fun bx=> ?_))))))))))
 ·refine zQ O (gF ao) (zI (o:=3) O O (zQ O (gF ao) (zJ 4 (v:=Vn b6.lease) O O O O (zQ O (gF ao) (yf O O O (z8 O (fun _ h=>h)))))))
 refine zA (zT O (fun c2=> ?_) (fun c2=> ?_))
 ·exact absurd c2 (by rw[bn,bq];rintro(q|q);exact absurd q V;exact q rfl)
 refine zN (zK (zB (zF O (zA (zU (xD (fun(j:Nat) (W:WdE)=>[(2,v),(8,pt b8),(9, .func (.func 9) #[] #[pt b8]),(12,Vj j)]) (fun(j:Nat) (W:WdE)=>j≤100∧StQ W (r%4*100000) (sp+1) j W'7_.c T8) (fun(j:Nat) (W:WdE)=>[Res.row b7 24 (SetD.cells (jT (r%4*100000))),Res.row bo 37 (RepD.cells b4),Res.row b8 26 [pt a],Res.we a W,Res.row bt 37 (RepD.cells b6)]) (fun(j:Nat) (W:WdE)=>100 - j) (fun k h=>⟨0,W'7_,⟨O,O,O,O,trivial⟩,⟨Nat.zero_le _,bs⟩,h⟩) (fun j W g hΦ=> ?_)))))))
 have hj:=hΦ.1
 have hQ:=hΦ.2
 refine zK (zB (zC O (zC O (zn (pR hv) O O (zu O O O (zC O (yA (q:=((j:Nat):Int)<((l.length:Nat):Int)) 2 4 [55,54] (((j:Nat):Int)<100) O O O O O O trivial O (fun ap=> ?_) (fun bu=> ?_))))))))
 ·refine zQ O (gT ap) (zC O (zQ O (gT ap) (zu O O O (z8 O (fun _ h=>h)))))
 refine zA (zT O (fun c3=> ?_) (fun c3=> ?_))
 ·have bv:=bk _ (zy (l:=l) (j:=j) qG)
  refine zN (zK (zU (zK (zd [0,1,2,4] O V qF (fun k h hS=>zD 0 O (zZ 2 (v:=pt a) O O O) hS (zD 1 O za hS (zD 2 O za hS (zD 3 O (kN (pR hv) 1 j O O O qG) hS (zD 4 O (zA8 (pR hv) 1 j 0 (fun _=>O) O O qG O) hS (zD 5 O (xY (cs:=[Vi 2,Vi 0,Vi 0,Vi 3,Vn (zc l j),Vn 0,Vn 0,Vn 0,Vi 0,ym,Vi 0,Vi 0,Vn 0]) (z:=[Vi 0,Vi 0,Vi 0,Vi 0,Vn 0,Vn 0,Vn 0,Vn 0,Vi 0,ym,Vi 0,Vi 0,Vn 0]) (pl:=[(0,1),(1,1),(2,1),(3,1),(4,1),(5,1),(6,7)]) qF qF) hS (zM 6 O h (zG O O (fun k h=>((zFv a _ (r%4*100000) (2+j) j 3 (zc l j) k hQ.w qG qG V bv (h.give [3] O V)).mono ?_))))))))))))))
  rintro _ w1 ⟨W'10_,rfl,aw,a4,a5,a6,a7,a8,p⟩
  have aq:=hQ.pass (lo:=3) (hi:=3) aw a4 a5 a6 a7 a8 (lm3 a0).1 (lm3 a0).2 V
  refine fq [3] O h p (zE [0,1,2,3] O V (fun k h hS=>zX ((?_:C _ _ _ _ _ _ _ (Own w [] [_,_,_,_,_])) _ h)))
  refine zB (zC O (yJ (cs:=[Vn 0,Vn 0,Vi 2, .string (⟨#[107]⟩:ByteArray),Vi 7,Vi 1,Vn 0]) (z:=[Vn 0,Vn 0,Vi 0,ym,Vi 0,Vi 0,Vn 0]) (pl:=[(0,1),(1,1),(2,1),(3,1),(4,1),(5,1),(6,1)]) qF qF O (yM (fst:=[]) (cap:=[pt b8]) O qF O O (fun k h=>(zDD b8 a W'10_ (r%4*100000) (2+j) (j+1) 1 2 ({session:=0,seq:=0,op:=2,key:=(⟨#[107]⟩:ByteArray),amount:=7,span:=1,lease:=0}:CmdD) k aq.w qG qG (zTM a2 qG aq) (h.give [2,4] O V)).mono ?_))))
  rintro _ w1 ⟨W'11_,n,bg,rfl,ax,p⟩
  obtain⟨a1,b1⟩:=zTf a2 qG aq ax
  refine fq [2,4] O h p (zk (v:= .agg #[Vn 0,Vn 0,Vi 0,Vn 0,Vi 0,Vi 0]) qF O (fun c1=>zf 5 O O O (zz O) O (zA (zB (zJ 3 (v:=pt a) O O O O (zG O O (fun k h=>(zJm a W'11_ k (h.give [4] O V)).mono ?_)))))))
  rintro _ w1 ⟨rfl,p⟩
  refine fq [4] O h p (zG O O (fun k h=>(zRu W'11_.cb a W'11_ (-1) _ k O a1.w.c (.inr (.inl O)) (h.give [5] O V)).mono ?_))
  rintro _ w1 ⟨rfl,p⟩
  refine fq [5] O h p (zC O (zb (vs:=[Vi (yt W'11_.c (-1)),Vi 0]) O O O (zb (vs:=[Vi (yt W'11_.c (-1)),Vi 0]) O O O (zF O (zF O (zA (zB (zJ 3 (v:=pt a) O O O O (zG O O (fun k h=>(zNy a W'11_ 1 k O (h.give [5] O V)).mono ?_))))))))))
  rintro _ w1 ⟨rfl,p⟩
  refine fq [5] O h p (zC O (zG O O (fun k h=>(zSU W'11_.e1 a W'11_ (r%4*100000) (2+(j+1)) (j+1) (⟨#[107]⟩:ByteArray) (yt W'11_.c (-1)) k O a1.w (by rw[a1.l1];exact Nat.le_refl 1) O (h.give [5] O V)).mono ?_)))
  rintro _ w1 ⟨m,W'15_,rfl,ay,a9,aa,ab,ac,ad,p⟩
  have bc:=a1.use a9 aa ab ac ad
  have bd:=fun q=>zUG a1 br q ay
  refine fq [5] O h p (zC O (zb (vs:=[Vi ((kL 0 (jK (⟨#[107]⟩:ByteArray) (yt W'11_.c (-1)) (zc W'11_.el 0).2.kl m)).1),Vi ((kL 0 (jK (⟨#[107]⟩:ByteArray) (yt W'11_.c (-1)) (zc W'11_.el 0).2.kl m)).2)]) O O O (zb (vs:=[Vi ((kL 0 (jK (⟨#[107]⟩:ByteArray) (yt W'11_.c (-1)) (zc W'11_.el 0).2.kl m)).1),Vi ((kL 0 (jK (⟨#[107]⟩:ByteArray) (yt W'11_.c (-1)) (zc W'11_.el 0).2.kl m)).2)]) O O O (zF O (zF O (zA (zB (zI (o:=2) O O (zJ 4 (v:=Vi n.e) O O O O (yT O O O (zC O (yA (q:=n.e=0) 2 3 [87,86] (0<((kL 0 (jK (⟨#[107]⟩:ByteArray) (yt W'11_.c (-1)) (zc W'11_.el 0).2.kl m)).1)) O O O O O O trivial O (fun ar=> ?_) (fun bw=> ?_)))))))))))))
  ·refine zQ O (gT ar) (zC O (zQ O (gT ar) (yY O O O (z8 O (fun _ h=>h)))))
  refine zC O (yP (q:=(n.e=0)∧(0<((kL 0 (jK (⟨#[107]⟩:ByteArray) (yt W'11_.c (-1)) (zc W'11_.el 0).2.kl m)).1))) 8 7 [97,96,95,94,93,92,91,90] ((n.e≠0)∧(n.e≠16)) O O O O O O trivial O (fun u=> ?_) (fun bh=> ?_))
  ·refine zQ O (gF u) (zI (o:=2) O O (zQ O (gF u) (zJ 4 (v:=Vi n.e) O O O O (zQ O (gF u) (yf O O O (zQ O (gF u) (zC O (yA (q:=n.e≠0) 3 11 [96,95,94] (n.e≠16) O O O O O O ⟨_,O,O,gF u⟩ O (fun y=> ?_) (fun bi=> ?_)))))))))
   ·refine zQ O (gT y) (zI (o:=2) O O (zQ O (gT y) (zJ 4 (v:=Vi n.e) O O O O (zQ O (gT y) (yf O O O (z8 O (fun _ h=>h)))))))
   exact z8 O (fun _ h=>h)
  refine zA (zT O (fun c4=> ?_) (fun c4=> ?_))
  ·exact absurd c4 (by rintro(⟨q1,q2⟩|⟨q1,q2⟩);rcases b1 with q|⟨_,q⟩;omega;exact bd q q2;rcases b1 with q|⟨q,_⟩<;>omega)
  refine zN (ze (zC O (zr O O (zt qG) O (zF O (zx (fun k h=>⟨j+1,W'15_,⟨O,O,O,O,trivial⟩,⟨by omega,bc⟩,h.sel [0,1,3,5,2] O V,qG⟩))))))
 refine zw O (zB (zJ 2 (v:=pt a) O O O O (yJ (cs:=[Vi 2,Vi 0,Vi 0,Vi 1000,Vn 0,Vn 0,Vn 0,Vn 0,Vi 0,ym,Vi 0,Vi 0,Vn 0]) (z:=[Vi 0,Vi 0,Vi 0,Vi 0,Vn 0,Vn 0,Vn 0,Vn 0,Vi 0,ym,Vi 0,Vi 0,Vn 0]) (pl:=[(0,1),(1,1),(2,1),(3,1),(4,1),(5,1),(6,7)]) qF qF O (zG O O (fun k h=>(zFv a _ (r%4*100000) (2+j) j 1000 0 k hQ.w qG qG V V (h.give [3] O V)).mono ?_)))))
 rintro _ w1 ⟨W'16_,rfl,az,ae,af,ag,ah,ai,p⟩
 have au:=zJg a0
 have av:=hQ.pass az ae af ag ah ai rfl rfl qG
 refine fq [3] O h p (zA (zB (zC O (yJ (cs:=[Vn 0,Vn 0,Vi 2, .string (⟨#[107]⟩:ByteArray),Vi 7,Vi 1,Vn 0]) (z:=[Vn 0,Vn 0,Vi 0,ym,Vi 0,Vi 0,Vn 0]) (pl:=[(0,1),(1,1),(2,1),(3,1),(4,1),(5,1),(6,1)]) qF qF O (yM (fst:=[]) (cap:=[pt b8]) O qF O O (fun k h=>(zDD b8 a W'16_ (r%4*100000) (2+j) (j+1) 1 2 ({session:=0,seq:=0,op:=2,key:=(⟨#[107]⟩:ByteArray),amount:=7,span:=1,lease:=0}:CmdD) k av.w qG qG (zTr a2 qG av au.1 qG) (h.give [2,4] O V)).mono ?_))))))
 rintro _ w1 ⟨W'17_,b2,bj,rfl,b0,p⟩
 have bf:=zUA a2 qG av au.1 qG b0
 refine fq [2,4] O h p (zKx (o:=2) (v:=Vi b2.e) O qF O O (yT O O O (zF O (zA (zP (zm (v:= .bool (decide (b2.e=0))) O O (fun k h=>⟨(congrArg Value.bool (decide_eq_true bf)),h.drop⟩)))))))
end Go.Proofs.YthpoddkmhfhboaaGreatDoor
