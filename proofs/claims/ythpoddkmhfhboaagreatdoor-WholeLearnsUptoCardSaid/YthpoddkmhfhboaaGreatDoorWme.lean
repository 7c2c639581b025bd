import Derived.Test.YthpoddkmhfhboaaGreatDoorWmd
set_option linter.unusedSimpArgs false
set_option linter.unusedVariables false
set_option maxRecDepth 10000
namespace Go.Proofs.YthpoddkmhfhboaaGreatDoor
open Go.Sc
theorem zUK{r:Int}(h:0≤r∧r≤255):r.tmod 4=r%4:=Int.tmod_eq_emod_of_nonneg h.1
theorem zSM(r:Int)(w:World)(b:0≤r∧r≤255):Rets Tryz.prog 5 #[.int .u8 0, .int .u8 0, .int .u8 r] w fun d a=>d= .agg (SetD.cells (jp (r%4*100000))).toArray∧Own w [] [] a:=by
 refine zO Tryz.func5 O Tryz.ntmps5 (Own.start w) (zB (zk (v:= .agg #[Vi 0,Vi 0,Vi 0,Vi 0,Vi 0,Vi 0,Vi 0,Vi 0,Vi 0,Vi 0]) qF O (fun g=>zA (zB (zC O (zIt (c:=0) O O V O O (yi qF O (zt qG) O ?_ qF)))))))
 refine zr O O (zt qG) O (zC O (zIt (c:=r%4) O O V (zUK b) O (yi qF O (zt qG) O ?_ qF)))
 refine zAQ O O (zt qG) O (zC O (zIt (c:=0) O O V O O (yi qF O (zt qG) O ?_ qF)))
 refine zAQ O O (zt qG) O (yJ (cs:=[Vj (0+1),Vi 0,Vi 2,Vi ((r%4)*100000),Vi 12,Vi 20,Vi 4,Vi 1048576,Vi 400,Vj (0*2)]) (z:=[Vi 0,Vi 0,Vi 0,Vi 0,Vi 0,Vi 0,Vi 0,Vi 0,Vi 0,Vi 0]) (pl:=[(0,1),(1,1),(2,1),(3,1),(4,1),(5,1),(6,1),(7,1),(8,1),(9,1)]) qF qF O (zk (v:= .agg #[Vi 0,Vi 0,Vi 0,Vi 0,Vi 0,Vi 0,Vi 0,Vi 0,Vi 0,Vi 0]) qF O (fun h=>zf 1 O O O (zz O) O (zA (zB (zI (o:=0) O O (zJ 1 (v:=Vj (0+1)) O O O O (zI (o:=1) O O (zi 1 O O O O O (zA (zB (z6 1 O O O (zf 0 O O O (zz O) O (zA (zP (xe (cs:=[Vj (0+1),Vj (0+1),Vi 2,Vi ((r%4)*100000),Vi 12,Vi 20,Vi 4,Vi 1048576,Vi 400,Vj (0*2)]) O O qF (Own.qc (i:=0) O) (fun a e=>⟨O,e.drop⟩)))))))))))))))))
theorem zPg(a b r:Int)(w:World)(c:a=0)(hb:b=0)(d:0≤r∧r≤255):Rets Tryz.prog 5 #[.int .u8 a, .int .u8 b, .int .u8 r] w fun e g=>e= .agg (SetD.cells (jp (r%4*100000))).toArray∧Own w [] [] g:=by
 subst c hb
 exact zSM r w d
theorem zLT(cs:List CalD)(k:Nat)(t:TldD):(jY cs k t).length=cs.length:=by
 unfold jY
 rw[List.length_set,List.length_set]
theorem zKL:ApOk lgZ 0:=by
 have h:yO 0 0 ([]:List (Nat×LeaD))=[]:=by unfold yO;split<;>rfl
 have g:kX 0 0 ([]:List (Nat×LeaD))=[]:=by unfold kX;split<;>rfl
 refine⟨by unfold xw;decide,by decide,by decide,List.nodup_nil,by decide,fun k=> ?_,fun i l hl=> ?_,?_,?_⟩
 · show 0≤yg k (yO 0 0 [])∧yg k (yO 0 0 [])≤9223372036854775807
   rw[h];exact⟨Int.le_refl 0,(show(0:Int)≤9223372036854775807 by decide)⟩
 · have hl:zl i (yO 0 0 [])=some l:=hl
   rw[h]at hl;cases hl
 · decide
 show(kX 0 0 []).length≤1
 rw[g];decide
theorem zOg(w:World):Rets Tryz.prog 7 #[] w fun u_ g=>u_=xi∧Own w [] [] g:=by
 refine zO Tryz.func7 O Tryz.ntmps7 (Own.start w) (zB (zF O (zA (zB (zG O O (fun g a=>(zPg ((0:Nat):Int) ((0:Nat):Int) ((0:Nat):Int) g qH qH qH).mono ?_))))))
 rintro _ w1 ⟨rfl,l⟩
 refine O0 ?_ (a.qb l)
 refine zG O O (fun g a=>(zMs (jp (((0:Nat):Int)%4*100000)) g O V).mono ?_)
 rintro _ w1 ⟨d,j,m,n,o,p,r,s,t,h,i,a6,u,ab,ah,ai,ac,aj,rfl,y,ad,ae,e,af,l⟩
 refine(?_:CL _ _ _ _ _ _ (Own w [] [_,_,_,_,_,_,_,_,_,_,_])) w1 (a.qb l)
 refine zC O (zb (vs:=[pt d,Vi 0]) O O O (zb (vs:=[pt d,Vi 0]) O O O (zF O (zF O (zA (zK (zB (zC O (ye O O O (zC O (yP (q:=0≠0) 2 2 [14,13] (false=true) O O O O O O trivial O (fun a4=> ?_) (fun ao=> ?_))))))))))))
 ·refine zQ O (gF a4) (zC O (zQ O (gF a4) (yE qF O O O (z8 (y0 _) (fun _ a=>a)))))
 refine zA (zT O (fun c1=> ?_) (fun c1=> ?_))
 ·exact absurd c1 V
 refine zN (zB (zC O (yJ (cs:=[Vi 2,Vi 0,Vi 0,Vi 40,Vn 0,Vn 0,Vn 0,Vn 0,Vi 0,yk,Vi 0,Vi 0,Vn 0]) (z:=[Vi 0,Vi 0,Vi 0,Vi 0,Vn 0,Vn 0,Vn 0,Vn 0,Vi 0,yk,Vi 0,Vi 0,Vn 0]) (pl:=[(0,1),(1,1),(2,1),(3,1),(4,1),(5,1),(6,7)]) qF qF O (zG O O (fun g a=>(zGX d j m n o p (jp (((0:Nat):Int)%4*100000)) r s t (.map (some u)) a6 0 i h ab ac 40 0 g (Nat.zero_le _) O ((e).1) V (by rw[(e).2];decide) V ((y).1) (by rw[(y).1.lg];exact zKL) (a.give [0,1,10,4,7] O V)).mono ?_)))))
 rintro _ w1 ⟨k,c,ak,ap,aq,rfl,al,a0,l⟩
 obtain⟨⟨⟨⟨⟨⟨⟨a7,am⟩,ax⟩,ar⟩,au⟩,ag⟩,av⟩,ay⟩:=a0
 have an:∀ x∈c.fs,x.data.length≤1000000:=fun x hx=>by
  rw[a7]at hx
  have hx:=List.mem_singleton.1 hx
  subst hx
  have h3:x.data=[]:=congrArg EntA.data am
  rw[h3];decide
 refine fq [0,1,10,4,7] O a l (zA (zB (zC O (zG O O (fun g a=>(zQ7 d j m n o p (jp (((0:Nat):Int)%4*100000)) r s t (.map (some u)) k (0+1) i h (c.fs) g (by rw[a7];show 1≤1000;decide) an (a.give [6,8,11] O V)).mono ?_)))))
 rintro _ w1 ⟨a5,b,rfl,a8,l⟩
 have a9:b.length=1:=by have q:=a8;rw[a7]at q;exact q
 refine fq [6,8,11] O a l (zC O (zb (vs:=[a5,Vi 0]) O O O (zb (vs:=[a5,Vi 0]) O O O (zF O (zF O (zA (zB (zC O (yT O O O (zC O (yB (q:=0=0) 3 2 [29,28,27] (((b.length:Nat):Int)=1) O O O O O O trivial O (fun a1=> ?_) (fun aw=> ?_))))))))))))
 ·refine zQ O (gT a1) (zC O (zQ O (gT a1) (zn (pV 12 O) O O (zQ O (gT a1) (yT O O O (z8 O (fun _ a=>a)))))))
 refine zC O ?_
 by_cases s6_7:((0:Int)=0)∧(((b.length:Nat):Int)=1)
 ·refine zQ O (gT s6_7) (zC O (zQ O (gT s6_7) (zG O O (fun g a=>(zC5 d j m n o p (jp (((0:Nat):Int)%4*100000)) r s t (.map (some u)) k (0+1) i h (c.fs) 1 g qH (a.give [9,6] O V)).mono ?_))))
  rintro _ w1 ⟨rfl,l⟩
  refine fq [9,6] O a l (zQ O (gT s6_7) (zG O O (fun g a=>(zJJ j c g (a.give [6] O V)).mono ?_)))
  rintro _ w1 ⟨aa,a2,rfl,a3,l⟩
  refine fq [6] O a l (zQ O (gT s6_7) (zG O O (fun g a=>(jO aa a2 g (a.give [13] O V)).mono ?_)))
  rintro _ w1 ⟨rfl,l⟩
  refine fq [13] O a l (zQ O (gT s6_7) (yT O O O (zBy (gT s6_7) O (zF O (zA (zP (zm (v:= .bool (decide (((a2.idx:Nat):Int)=((1:Nat):Int)))) O O (fun g a=>⟨(congrArg Value.bool (decide_eq_true (by have q:=a3;rw[ag]at q;rw[q]))),a.drop⟩))))))))
 exact absurd (show((0:Int)=0)∧(((b.length:Nat):Int)=1)from⟨O,by rw[a9];rfl⟩) s6_7
def zAO(cm:CmdD)(aa:Int)(s:Nat):CmdD:={cm with session:=u64 aa,seq:=s}
def zA4(cm:CmdD)(aa:Int)(s:Nat):AskD:=zCr (zB0 cm.op cm.key cm.amount cm.span cm.lease) aa s
theorem zBd(cm:CmdD)(a:Int)(s:Nat):zA4 cm a s={look:=false,lazy:=false,seq:=s,cmd:=zAO cm a s,key:=⟨#[]⟩}:=by
 unfold zA4
 rw[zCD rfl]
 rfl
theorem zN8{cm:CmdD}{aa:Int}{s:Nat}(h:cm.wf)(a:s≤1000):(zAO cm aa s).wf:=⟨yc _,by show s<_;omega,h.key,h.amount,h.span,h.lease⟩
theorem zIV{cm:CmdD}{aa:Int}{s:Nat}(h:cm.wf)(a:s≤1000):(zA4 cm aa s).wf:=by
 rw[zBd]
 exact⟨by show s<_;omega,zN8 h a,by show(0:Nat)≤_;decide⟩
theorem zNV{cm:CmdD}{aa:Int}{s:Nat}(h:¬ xD cm.op cm.key cm.amount cm.span):(zA4 cm aa s).ok:=zIX h
def zAj(s:Nat)(r:RepD):TldD:={seq:=s,retry:=false,lead:=0,reply:=r,most:=0,lent:=0}
theorem zIH{s:Nat}{r:RepD}(h:r.wf)(a:s≤1000):(zAj s r).wf:=⟨by show s<_;omega,h,by show xw 0;unfold xw;decide,by show xw 0;unfold xw;decide⟩
theorem zIR{s:Nat}{r:RepD}(h:r.ok):(zAj s r).ok:=⟨⟨by show(0:Int)≤0;decide,by show(0:Int)≤16;decide⟩,h⟩
theorem zR9{aa:Int}{jj:Nat}(h:aa=((jj:Nat):Int)+1)(a:jj<2):kQ .i64 aa= -(((jj:Nat):Int)+1):=by
 rcases(show jj=0∨jj=1 by omega)with q|q<;>subst q<;>subst h<;>decide
theorem zSY{jj:Nat}{a:Int}(h:jj<2):(([0,0]:List Int).set jj a).set jj 0=[0,0]∧(([0,0]:List Int).set jj a)[jj]?=some a∧(([0,0]:List Int).set jj a).length=2:=by
 rcases(show jj=0∨jj=1 by omega)with q|q<;>subst q<;>exact⟨rfl,rfl,rfl⟩
theorem zNO{S:List Nat}(pw:Nat)(wb nb e1 e2 pb cb:Nat)(st:SetD)(nv dv ev km lv:Value)(k:Nat)(cv ov:Value)(es:List EntD)(cs:List CalD)(jj eb:Nat)(u:Int)(d:EgD)(n:NdD)(c:CkD)(T:Int)(ps:PsD)(kk q m:Nat)(cm:CmdD)(lr:RepD)(w:World)(c7:k≤900)(hc:CkA c T)(b0:cm.wf)(bg:¬ xD cm.op cm.key cm.amount cm.span)(b1:cm.op≠4)(bh:u=((jj:Nat):Int)+1)(aq:jj<2)(hb:eb=zc [e1,e2] jj)(hs:d.seq≤900)(bu:d.waits=false)(bv:ps.l=[])(hl:cs.length≤900)(bi:d.next=1)(bw:d.id=u)(bx:d.nodes=1)(h:NdM n kk q m)(bz:kk≤1000)(c0:n.x.es.length≤90)(bj:c.t1=n.x.t.now)(hk:yn n.s.a.kr (u64 u) (d.seq+1)=(lr,8))(hA:ApOk n.s.a n.dl)(hq:q+6200≤1048576)(hm:m+2<4000)(c2:es.length=n.x.es.length)(hW:∀ r a7 cnt' kb' kl' kr',DoK (yY n.s.a.now n.dl) n.s.a.cnt n.s.a.kb (yO n.s.a.now n.dl n.s.a.kl) n.s.a.kr (zAO cm u (d.seq+1)) r a7 cnt' kb' kl' kr'→(r.wf∧r.ok)∧r.session≠0)(c3:Own w S [Res.row pw 26 [pt wb],kq wb st nv dv ev pb cb (Vj k) cv ov lv km,Res.vec 60 1 nv [nb].length ([nb].flatMap P1),Res.vec 47 1 ev [e1,e2].length ([e1,e2].flatMap P1),vE lv es,Res.vec 41 21 cv cs.length (cs.flatMap CalD.cells),vI ov [0,0],Res.nd nb n,Res.eg eb d,Res.ck cb c,Res.ps pb ps] w):Rets Tryz.prog 15 #[Vi u, .agg (CmdD.cells cm).toArray,pt pw] w fun u_ w'=>∃ (bk bl:Value) (b2:List CalD) (d':EgD) (n':NdD) (bm:PsD) (r:RepD) (a7:Bool),u_= .agg (RepD.cells r).toArray∧bm.l=[]∧(d'.waits=false∧d'.seq=d.seq+1)∧zBV d' d∧d'.next=1∧d'.now=max d.now (y9 c (kQ .i64 u))∧d'.kl=(if r.e=0 then xd (zA4 cm u (d.seq+1)) (max d.now (y9 c (kQ .i64 u))) d.rho r d.kl d.kn else d.kl)∧d'.kn=d.kn∧NdM n' kk (q+6100) (m+2)∧n'.st=n.st∧n'.x.t.now=n.x.t.now∧n'.x.t.qg=n.x.t.now∧n'.x.es.length=n.x.es.length+1∧n'.fs.length=1∧n'.s.a.now=yY n.s.a.now n.dl∧DoK (yY n.s.a.now n.dl) n.s.a.cnt n.s.a.kb (yO n.s.a.now n.dl n.s.a.kl) n.s.a.kr (zAO cm u (d.seq+1)) r a7 n'.s.a.cnt n'.s.a.kb n'.s.a.kl n'.s.a.kr∧b2.length=cs.length+1∧Own w S [Res.row pw 26 [pt wb],kq wb st nv dv ev pb cb (Vj (k+1+1+1)) bl ov bk km,Res.vec 60 1 nv [nb].length ([nb].flatMap P1),Res.vec 47 1 ev [e1,e2].length ([e1,e2].flatMap P1),vE bk (es++n'.fs),Res.vec 41 21 bl b2.length (b2.flatMap CalD.cells),vI ov [0,0],Res.nd nb n',Res.eg eb d',Res.ck cb c,Res.ps pb bm] w':=by
 have c8:([0,0]:List Int).length=2:=rfl
 refine zO Tryz.func15 O Tryz.ntmps15 c3 (zB (zj O O (fun b4=>zk (v:= .agg #[Vn 0,Vn 0,Vi 0,Vn 0,Vi 0,Vi 0]) qF O (fun b5=>zA (zB (zJ 0 (v:=pt wb) O O O O (zC O (z6 (cs:=(CmdD.cells cm)) 11 O O O (yJ (cs:=[Vi 11,Vi u,Vi 0,Vi 0,Vn 0,Vn 0,Vn cm.session,Vn cm.seq,Vi cm.op, .string cm.key,Vi cm.amount,Vi cm.span,Vn cm.lease]) (z:=[Vi 0,Vi 0,Vi 0,Vi 0,Vn 0,Vn 0,Vn 0,Vn 0,Vi 0,yk,Vi 0,Vi 0,Vn 0]) (pl:=[(0,1),(1,1),(2,1),(3,1),(4,1),(5,1),(6,7)]) qF qF O (zG O O (fun w' hw=>(zOA wb nb e1 e2 pb cb st nv dv ev km lv k cv ov es cs [0,0] jj eb u _ _ _ _ _ w' qG hc b0 bh aq hb O qG bu bv qG bi (hw.give [1,3,5,6,8,9,10] O V)).mono ?_)))))))))))
 rintro _ w1 ⟨c9,y,a6,b3,bn,b,a8,rfl,j,a9,ab,hO⟩
 have hY:=(ab).resolve_left (fun q=>bg q.bad)
 have ar:a6.a=zA4 cm u (d.seq+1):=by rw[hY.a,bw];rfl
 have bo:(zA4 cm u (d.seq+1)).look=false:=by rw[zBd]
 have au:(zA4 cm u (d.seq+1)).cmd=zAO cm u (d.seq+1):=by rw[zBd]
 have b6:(zA4 cm u (d.seq+1)).seq=d.seq+1:=by rw[zBd]
 have bp:=zR9 bh aq
 have bq:=hY.l
 rw[ar]at bq
 refine fq [1,3,5,6,8,9,10] O hw hO (zA (zB (zJ 0 (v:=pt wb) O O O O (yJ (cs:=[Vi 3,Vi 0,Vi 0,Vi 0,Vn 0,Vn 0,Vn 0,Vn 0,Vi 0,yk,Vi 0,Vi 0,Vn 0]) (z:=[Vi 0,Vi 0,Vi 0,Vi 0,Vn 0,Vn 0,Vn 0,Vn 0,Vi 0,yk,Vi 0,Vi 0,Vn 0]) (pl:=[(0,1),(1,1),(2,1),(3,1),(4,1),(5,1),(6,7)]) qF qF O (zG O O (fun w' hw=>(zJ1 wb nb e1 e2 pb cb st nv dv ev km lv (k+1) y ov es _ _ _ b3 (kQ .i64 u) bn (zA4 cm u (d.seq+1)) lr kk q m w' qG hc bq h bz qG c0 bj bo (zIV b0 qG) (zNV bg) (by rw[au,bp,show -(-(((jj:Nat):Int)+1))=u by omega];rfl) (by rw[au];exact hk) hA hq hm c2 (fun r a7 a1 a2 a3 a4 hD=>by rw[au]at hD;have z:=hW r a7 a1 a2 a3 a4 hD;rw[b6];exact⟨⟨zIH z.1.1 qG,zIR z.1.2⟩,z.2⟩) (hw.give [6,1,2,3,11,12] O V)).mono ?_))))))
 rintro _ w1 ⟨a0,b7,a5,av,c6,g,aw,rfl,b8,ac,ad,ae,af,ag,ah,ai,aj,hO⟩
 have hD:=ai
 rw[au]at hD
 have hz:=hW _ _ _ _ _ _ hD
 have ay:=b8
 rw[b6]at ay
 have b9:=hY.cs
 have br:b.length=cs.length+1:=by rw[b9,List.length_append];rfl
 have ba:zc b (b.length - 1)=zH3 u a6.a.cmd (k+1):=by rw[br,Nat.add_sub_cancel,b9];exact jU qJ
 have bb:=hY.os
 have bc:=zSY (a:=((b.length:Nat):Int)) aq
 refine fq [6,1,2,3,11,12] O hw hO (zA (zB (zJ 0 (v:=pt wb) O O O O (yJ (cs:=[Vi 3,Vi 0,Vi 0,Vi 0,Vn 0,Vn 0,Vn 0,Vn 0,Vi 0,yk,Vi 0,Vi 0,Vn 0]) (z:=[Vi 0,Vi 0,Vi 0,Vi 0,Vn 0,Vn 0,Vn 0,Vn 0,Vi 0,yk,Vi 0,Vi 0,Vn 0]) (pl:=[(0,1),(1,1),(2,1),(3,1),(4,1),(5,1),(6,7)]) qF qF O (zG O O (fun w' hw=>(zJP wb nb e1 e2 pb cb st nv dv ev km a0 ((k+1)+1) y ov (es++a5.fs) b a8 jj eb (kQ .i64 u) a6 _ _ av b7 (zAj (d.seq+1) g) w' qG hc aq hb bp (by rw[bb];exact bc.2.2) (by rw[bb];exact bc.2.1) ay (zIH hz.1.1 qG) (zIR hz.1.2) O hY.waits (by rw[ar,b6];rfl) (by rw[ar];exact zIV b0 qG) (by rw[(j).1.2,bx];decide) qG (by rw[ba];rfl) qG (hw.give [7,3,4,5,6,11,12] O V)).mono ?_))))))
 rintro _ w1 ⟨bd,ax,rfl,bf,ak,p,al,am,an,ao,ap,hO⟩
 have c4:=zLT b (k+1+1+1) (zAj (d.seq+1) g)
 have bs:zc (jY b (k+1+1+1) (zAj (d.seq+1) g)) cs.length=({zH3 u a6.a.cmd (k+1)with stop:=((k+1+1+1:Nat):Int),reply:=g}:CalD):=by rw[b9,zJY];exact jU (by simp[zAj])
 have bt:a8.set jj 0=[0,0]:=by rw[bb];exact bc.1
 refine fq [7,3,4,5,6,11,12] O hw hO (zA (zB (zJ 0 (v:=pt wb) O O O O (zG O O (fun w' hw=>(zKX wb nb e1 e2 pb cb st nv dv ev km a0 (((k+1)+1)+1) y ov (es++a5.fs) (jY b (((k+1)+1)+1) (zAj (d.seq+1) g)) w' qG (hw.give [6,8] O V)).mono ?_)))))
 rintro az w1 ⟨_,rfl,hO⟩
 refine(?_:CL _ _ _ _ _ _ (Own w S [_,_,_,_,_,_,_,_,_,_,_,_,_,_])) w1 (hw.qh [6,8] O hO)
 refine zF O (zA (zK (zB (zC O (zn (pV 13 O) O O (yT O O O (zA (zT O (fun c1=> ?_) (fun c1=> ?_)))))))))
 ·exact absurd c1 qG
 refine zN (zB (zC O (zC O (zn (pV 13 O) O O (y7 O O (zt qG) O (yL (pV 13 O) 21 cs.length O O qG qG O (zI (o:=13) O O (zMd (v:=az) (off:=yq az+cs.length*21+13) (cs.length*21+13) (cs:=((jY b (((k+1)+1)+1) (zAj (d.seq+1) g)).flatMap CalD.cells)) (RepD.cells ((zc (jY b (((k+1)+1)+1) (zAj (d.seq+1) g)) cs.length).reply)) O qG (fun w' c5=>Vec.sl (Own.holds c5 13 _ O)) (zDf (sz:=21) (fun _=>O) (y8 qG) (o:=13) (us:=(RepD.cells ((zc (jY b (((k+1)+1)+1) (zAj (d.seq+1) g)) cs.length).reply))) (yj 13 O)) qF O (zf 2 O O O (zz O) O (zA (zP (xe (cs:=[Vn (((zc (jY b (((k+1)+1)+1) (zAj (d.seq+1) g)) cs.length).reply).session),Vn (((zc (jY b (((k+1)+1)+1) (zAj (d.seq+1) g)) cs.length).reply).seq),Vi (((zc (jY b (((k+1)+1)+1) (zAj (d.seq+1) g)) cs.length).reply).e),Vn (((zc (jY b (((k+1)+1)+1) (zAj (d.seq+1) g)) cs.length).reply).lease),Vi (((zc (jY b (((k+1)+1)+1) (zAj (d.seq+1) g)) cs.length).reply).amount),Vi (((zc (jY b (((k+1)+1)+1) (zAj (d.seq+1) g)) cs.length).reply).until_)]) O O qF (Own.qc (i:=2) O) (fun w' hw=>⟨a0,y,jY b (k+1+1+1) (zAj (d.seq+1) g),bd,a5,ax,g,aw,(by rw[bs];rfl),bf,⟨ak,(al).2.trans hY.seq⟩,⟨⟨(p).1.1.trans (j).1.1,(p).1.2.trans (j).1.2⟩,(p).2.trans (j).2⟩,(am).trans ((a9).trans bi),(ao).trans (by rw[hY.now,Int.max_assoc,Int.max_self]),(by rw[an,ar,bo,hY.since,(j).2,hY.kl,hY.kn,if_neg b1,if_neg b1];simp only[true_and];rfl),(ap).trans (by rw[hY.kn,if_neg b1]),ac,ad,ae,aj,af,ag,ah,hD,(c4.trans br),(by rw[bt]at hw;exact hw.sel [0,11,3,6,4,12,7,5,8,9,10] rfl V)⟩)))))))))))))
instance iWme1:Inhabited EgD:=⟨⟨0,0,0,0,0,askZ,0,false,0,0,0,[],[]⟩⟩
theorem zKB{S:List Nat}(el:List (Nat×EgD))(j b:Nat)(key:ByteArray)(t:Int)(w:World)(d:j<el.length)(hb:b=(zc el j).1)(hl:(zc el j).2.kl.length≤1)(h:∀ t',t≤t'→∀ a,List.Perm a ((zc el j).2.kl.map (·.1))→jr key t' (zc el j).2.kl a=[])(c:Own w S [Res.star (el.map egR)] w):Rets Tryz.prog 14 #[pt b, .string key,Vi t] w fun i k=>∃ (el':List (Nat×EgD)),i= .tuple #[Vi 0,Vi 0]∧el'=el.set j (b,{(zc el j).2 with now:=max (zc el j).2.now t})∧Own w S [Res.star (el'.map egR)] k:=by
 have h1:=c.qz (g:=egR) 0 j d rfl
 have h2:Own w S [Res.eg (zc el j).1 (zc el j).2,Res.star ((el.eraseIdx j).map egR)] w:=h1
 refine(zJu b (zc el j).2 key t w hl (by rw[hb];exact h2.give [0] rfl V)).mono ?_
 rintro _ l ⟨a,s,rfl,m,n,e⟩
 have o:=h (max (zc el j).2.now t) qG a m
 have p:=h2.qh [0] rfl (by rw[hb]at e;exact e)
 refine⟨_,by rw[o];rfl,O,?_⟩
 subst n
 have q:Own w S [Res.star ((el.eraseIdx j).map egR),egR ((zc el j).1,{(zc el j).2 with now:=max (zc el j).2.now t})] l:=p
 have r:=q.qB (g:=egR) 1 0 j _ d V rfl rfl
 rw[hb]
 exact r.sel [0] O V
theorem zFI{el:List (Nat×EgD)}{e1 e2:Nat}(h:el.map Prod.fst=[e1,e2]):el.length=2∧∀ j,j<2→(zc el j).1=zc [e1,e2] j:=by
 have hl:el.length=2:=by have:=congrArg List.length h;simpa using this
 refine⟨hl,fun j a=> ?_⟩
 rw[←h]
 exact(Go.Sc.nth_map qG).symm
theorem zGV{el:List (Nat×EgD)}{e1 e2 j b:Nat}{d:EgD}(h:el.map Prod.fst=[e1,e2])(a:j<2)(hb:b=(zc el j).1):(el.set j (b,d)).map Prod.fst=[e1,e2]:=by
 rw[List.map_set,h,hb,(zFI h).2 j a]
 rcases(show j=0∨j=1 by omega)with q|q<;>subst q<;>rfl
theorem zDp{α:Type}[Inhabited α]{l:List α}{k j:Nat}{b:α}(h:j≠k):zc (l.set k b) j=zc l j:=by
 unfold zc
 rw[List.getElem?_set_ne (fun e=>h e.symm)]
theorem zL7{S:List Nat}(wb nb e1 e2 pb cb:Nat)(st:SetD)(nv dv ev km lv:Value)(k:Nat)(cv ov:Value)(es:List EntD)(el:List (Nat×EgD))(c:CkD)(T:Int)(key:ByteArray)(w:World)(hc:CkA c T)(hm:el.map Prod.fst=[e1,e2])(hl:∀ j,j<2→(zc el j).2.kl.length≤1)(hu:∀ j:Nat,j<2→∀ t',y9 c (-(((j:Nat):Int)+1))≤t'→∀ ids,List.Perm ids ((zc el j).2.kl.map (·.1))→jr key t' (zc el j).2.kl ids=[])(x:Own w S [kq wb st nv dv ev pb cb (Vj k) cv ov lv km,Res.vec 47 1 ev [e1,e2].length ([e1,e2].flatMap P1),Res.star (el.map egR),Res.ck cb c] w):Rets Tryz.prog 16 #[pt wb, .string key] w fun u_ d=>∃ (el':List (Nat×EgD)),u_= .tuple #[Vi 0,xi]∧el'.map Prod.fst=[e1,e2]∧(∀ j,j<2→(zc el' j).2={(zc el j).2 with now:=max (zc el j).2.now (y9 c (-(((j:Nat):Int)+1)))})∧Own w S [kq wb st nv dv ev pb cb (Vj k) cv ov lv km,Res.vec 47 1 ev [e1,e2].length ([e1,e2].flatMap P1),Res.star (el'.map egR),Res.ck cb c] d:=by
 refine zO Tryz.func16 O Tryz.ntmps16 x (zB (zF O (zF O (zA (zB (zF O (zA (zK (zB (zF O (zA (zU (xE (fun(i:Nat) (a:List (Nat×EgD))=>[(0,pt wb),(1, .string key),(6,Vi 0),(7,Vj i)]) (fun(i:Nat) (a:List (Nat×EgD))=>((1≤i∧i≤3)∧a.map Prod.fst=[e1,e2])∧∀ j,j<2→(zc a j).2=(if j+1<i then{(zc el j).2 with now:=max (zc el j).2.now (y9 c (-(((j:Nat):Int)+1)))}else(zc el j).2)) (fun(i:Nat) (a:List (Nat×EgD))=>[kq wb st nv dv ev pb cb (Vj k) cv ov lv km,Res.vec 47 1 ev [e1,e2].length ([e1,e2].flatMap P1),Res.star (a.map egR),Res.ck cb c]) (fun(i:Nat) (a:List (Nat×EgD))=>3 - i) (fun d b=>⟨1,el,⟨O,O,O,O,trivial⟩,⟨⟨⟨by omega,by omega⟩,hm⟩,fun j u=>by rw[if_neg qG]⟩,b⟩) (fun i a g p=> ?_))))))))))))))
 have y:=zFI p.1.2
 refine zK (zB (zC O (yr O O O (zA (zT O (fun c1=> ?_) (fun c1=> ?_))))))
 ·have m:((i:Nat):Int)=((i - 1:Nat):Int)+1:=by omega
  have r:kQ .i64 ((i:Nat):Int)= -(((i - 1:Nat):Int)+1):=zR9 m qG
  have n:(zc a (i - 1)).2=(zc el (i - 1)).2:=by rw[p.2 (i - 1) qG,if_neg qG]
  refine zN (zK (zU (zB (zC O (zG O O (fun d b=>(zKE wb nb e1 e2 pb cb st nv dv ev km lv k cv ov es d (b.give [0] O V)).mono ?_))))))
  rintro _ s ⟨rfl,h⟩
  refine fq [0] O b h (zC O (zEM O O (zG O O (fun d b=>(zID cb _ (kQ .i64 ((i:Nat):Int)) _ d hc ((zIY (jj:=i - 1) m qG).1) (b.give [2] O V)).mono ?_))))
  rintro _ s ⟨rfl,h⟩
  refine fq [2] O b h (zC O (zb (vs:=[Vi (y9 c (kQ .i64 ((i:Nat):Int))),Vi 0]) O O O (zb (vs:=[Vi (y9 c (kQ .i64 ((i:Nat):Int))),Vi 0]) O O O (zF O (zF O (zA (zB (zC O (zC O (zG O O (fun d b=>(zEy wb nb e1 e2 pb cb st nv dv ev km lv k cv ov es (i - 1) (zc [e1,e2] (i - 1)) ((i:Nat):Int) d m qG O (b.give [2,0] O V)).mono ?_)))))))))))
  rintro _ s ⟨rfl,h⟩
  refine fq [2,0] O b h (zC O (zC O (zG O O (fun d b=>(zKB a (i - 1) (zc [e1,e2] (i - 1)) key (y9 c (kQ .i64 ((i:Nat):Int))) d qG ((y.2 (i - 1) qG).symm) (by rw[n];exact hl _ qG) (by rw[n,r];exact hu _ qG) (b.give [0] O V)).mono ?_))))
  rintro _ s ⟨o,rfl,e,h⟩
  refine fq [0] O b h (zC O (zb (vs:=[Vi 0,Vi 0]) O O O (zb (vs:=[Vi 0,Vi 0]) O O O (zF O (zF O (zA (zB (zC O (zC O (zG O O (fun d b=>(zK8 0 0 d).mono ?_)))))))))))
  rintro _ s ⟨rfl,h⟩
  refine(?_:CL _ _ _ _ _ _ (Own w S [_,_,_,_])) s (b.qb h)
  refine zC O (zb (vs:=[Vi ((jZ 0 0).1),Vi ((jZ 0 0).2)]) O O O (zb (vs:=[Vi ((jZ 0 0).1),Vi ((jZ 0 0).2)]) O O O (zF O (zF O (zA (zK (zB (zC O (ye O O O (zC O (yP (q:=0≠0) 2 2 [45,44] (((jZ 0 0).2)≠0) O O O O O O trivial O (fun l=> ?_) (fun z=> ?_))))))))))))
  ·refine zQ O (gF l) (zC O (zQ O (gF l) (ye O O O (z8 O (fun _ b=>b)))))
  refine zA (zT O (fun c2=> ?_) (fun c2=> ?_))
  ·exact absurd c2 V
  refine zN (ze (zC O (zF O (zA (ze (zC O (zr O O (zt qG) O (zF O (zx (fun d b=>⟨i+1,o,⟨O,O,(by rfl),O,trivial⟩,⟨⟨⟨by omega,by omega⟩,by rw[e];exact zGV p.1.2 qG (y.2 (i - 1) qG).symm⟩,by intro j u;rw[e];by_cases q:j=i - 1;(subst q;rw[jy qG,if_pos qG,n,r]);(rw[zDp q,p.2 j u];by_cases q2:j+1<i;rw[if_pos q2,if_pos qG];rw[if_neg q2,if_neg qG])⟩,b.sel [1,2,3,0] O V,qG⟩))))))))))
 refine zu O (zB (zC O (zF O (zF O (zA (zP (yh (v:=Vi 0) (v':=xi) O O O (fun d b=>⟨a,O,p.1.2,(fun j u=>by rw[p.2 j u,if_pos qG]),b⟩))))))))
end Go.Proofs.YthpoddkmhfhboaaGreatDoor
