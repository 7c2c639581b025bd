import Derived.Test.YthpoddkmhfhboaaGreatDoorCoC
set_option linter.unusedSectionVars false
set_option linter.unusedSimpArgs false
set_option linter.unusedVariables false
set_option maxRecDepth 10000
namespace Go.Proofs.YthpoddkmhfhboaaGreatDoor
open Go.Sc
theorem zJC{S:List Nat}(cb jb:Nat)(t:TimD)(a:StA)(r:RolD)(b:StB)(lead yv out:Value)(qe:Nat)(w:World)(g:Own w S [xh cb t lead a r b yv jb qe out] w):Rets Tryz.prog 156 #[pt cb] w fun h e=>h= .tuple #[.agg #[Vn t.term,Vi t.ql],Vi r.qm,Vi r.who,Vn r.qf]∧Own w S [xh cb t lead a r b yv jb qe out] e:=by
 refine zO Tryz.func156 O Tryz.ntmps156 g (zB (zk (v:= .agg #[Vn 0,Vi 0]) qF O (fun j=>zF O (zF O (zF O (zA (zK (zB (zC O (yE qF O O O (zA (yW O (zN (zK (zd [0] O V qF (fun e d c=>zD 0 O za c (zD 1 O (zY O) c (zD 2 O (zL (o:=0) O) c (zD 3 O (zBL 0 [Vn t.term,Vi t.ql] O O (yj 0 O) qF) c (zD 4 O za c (zD 5 O (zY O) c (zD 6 O (zL (o:=21) O) c (zD 7 O (zZ 0 (v:=Vi r.qm) O O O) c (zD 8 O za c (zD 9 O (zY O) c (zD 10 O (zL (o:=22) O) c (zD 11 O (zZ 0 (v:=Vi r.who) O O O) c (zD 12 O za c (zD 13 O (zY O) c (zD 14 O (zL (o:=23) O) c (zD 15 O (zZ 0 (v:=Vn r.qf) O O O) c (zM 16 O d (zf 1 O O O (zz O) O (zE [0] O V (fun e d c=>zD 17 O yB c (zD 18 O yB c (zD 19 O yB c (zX ((?_:C _ _ _ _ _ _ _ (Own w S [_,_])) _ d)))))))))))))))))))))))))))))))))))))))
 exact zP (zTg (cs:=[Vn t.term,Vi t.ql]) (v:=Vi r.qm) (v2:=Vi r.who) (v3:=Vn r.qf) O O O O O qF (Own.qd (i:=1) O) (fun e d=>⟨O,d.sel [0] O V⟩))
theorem zMD{S:List Nat}(cb jb:Nat)(t:TimD)(a:StA)(r:RolD)(b:StB)(lead yv out:Value)(qe:Nat)(lv:Value)(es:List EntD)(kind:Int)(xv:Value)(data:List UInt8)(w:World)(hg:(LG 0 0 es).good)(hl:es.length≤1000000)(a0:b.vs.length≤1000)(hn:0≤t.now∧t.now≤1000000000000000)(hs:0≤t.qh∧t.qh≤1000000000000000)(hd:data.length≤1000000000)(ht:t.term≤4611686018427387904)(u:Own w S [xh cb t lead a r b yv jb qe out,Res.nl b lv es] w)(j:Rd w S (Res.sl xv data.length (data.map vb))):Rets Tryz.prog 183 #[pt cb,Vi kind,xv] w fun u_ i=>∃ (x:Value) (n:List EntD),u_=Vn (es.length+1)∧LG 0 0 n=(LG 0 0 es).append es.length (LG 0 0 es).end_ [⟨es.length+1,t.term,kind,min (t.now - t.qh) 1099511627776,data⟩]∧Own w S [xh cb ({t with qh:=t.now}:TimD) lead a r b yv jb qe out,Res.nl b x n] i:=by
 have hb:=(LG.le hg).1
 refine zO Tryz.func183 O Tryz.ntmps183 u (zB (zF O (zA (zB (zC O (zV O O (zI (o:=29) O O (zJ 0 (v:=pt b.lb) O O O O (zG O O (fun i g=>(zDH b.lb 0 0 lv es i qI qH (g.qq 1 0 O O) (g.qr 1 1 O O) (EntD.rd.qq 1 2 O O g)).mono ?_))))))))))
 rintro _ w1 ⟨rfl,y⟩
 refine(?_:CL _ _ _ _ _ _ (Own w S [_,_])) w1 (g.qb y)
 refine zC O (zb (vs:=[Vn (0+es.length),Vn ((LG 0 0 es).end_)]) O O O (zb (vs:=[Vn (0+es.length),Vn ((LG 0 0 es).end_)]) O O O (zF O (zF O (zA (zB (zC O (zr O O (yz qG) O (zC O (zV O O (zI (o:=0) O O (zI (o:=0) O O (zJ 0 (v:=Vn t.term) O O O O (zC O (zC O (xP (cs:=[Vn ((0+es.length)+1),Vn t.term,Vi kind,Vi 0,xv]) (z:=[Vn 0,Vn 0,Vi 0,Vi 0,zW]) (pl:=[(0,1),(1,1),(2,1),(3,1),(4,1)]) qF ⟨O,O,O,(Sl.cell1 (Rd.φ j)),trivial⟩ qF O (zk (v:= .agg #[Vn 0,Vn 0,Vi 0,Vi 0,zW]) qF O (fun b9=>zf 2 O O O (zH O (zH O (zH O (zH O (zH (Sl.cell1 (Rd.φ j)) zh))))) O (zA (zK (zd [0,1] O V qF (fun i g d=>zD 0 O za d (zD 1 O (zY O) d (zD 2 O (zL (o:=2) O) d (zD 3 O (zL (o:=0) O) d (zD 4 O (zZ 0 (v:=Vi t.now) O O O) d (zD 5 O za d (zD 6 O (zY O) d (zD 7 O (zL (o:=2) O) d (zD 8 O (zL (o:=6) O) d (zD 9 O (zZ 0 (v:=Vi t.qh) O O O) d (zD 10 O (ji O O (zt qG)) d (zD 11 O (zP3 (c:=min (t.now - t.qh) 1099511627776) O O (zT6 _ _)) d (zD 12 O (zL (o:=3) O) d (zM 13 O g (zi (cs:=[Vn ((0+es.length)+1),Vn t.term,Vi kind,Vi 0,xv]) 2 O O O O O (zE [0,1] O V (fun i g d=>zX ((?_:C _ _ _ _ _ _ _ (Own w S [_,_,_])) _ g)))))))))))))))))))))))))))))))))))))))
 refine zB (zC O (zC O (zV O O (zI (o:=2) O O (zI (o:=0) O O (zJ 0 (v:=Vi t.now) O O O O (zV O O (zI (o:=2) O O (zI (o:=6) O O (zi 0 O O O O O (zA (zK (zd [0,2] O V qF (fun i g d=>zD 0 O za d (zD 1 O (zY O) d (zD 2 O (zL (o:=29) O) d (zD 3 O (zZ 0 (v:=pt b.lb) O O O) d (zD 4 O za d (zD 5 O za d (zD 6 O (xG 1 O O) d (zM 7 O g (yH (e:=113) (sz:=5) (vs:=[.agg #[Vn ((0+es.length)+1),Vn t.term,Vi kind,Vi (min (t.now - t.qh) 1099511627776),xv]]) qF O O qS V O (fun q=>zE [0,2] O V (fun i g d=>zM 8 O g (kC [xh cb ({t with qh:=t.now}:TimD) lead a r b yv jb qe out,Res.row b9 113 [Vn ((0+es.length)+1),Vn t.term,Vi kind,Vi (min (t.now - t.qh) 1099511627776),xv],vE (.slice (some ⟨q,0,none⟩) 1 1) [({index:=(0+es.length)+1,term:=t.term,kind:=kind,delta:=min (t.now - t.qh) 1099511627776,dv:=xv,data:=data}:EntD)],Res.row b.lb 415 [Vn 0,Vn 0,lv],vE lv es,sE es,vI b.vv b.vs,vI b.wv ([]:List Int)] (fun i g=>g.qi 1 O) (zG O O (fun i g=>(zGZ b.lb 0 0 lv es (0+es.length) ((LG 0 0 es).end_) (.slice (some ⟨q,0,none⟩) 1 1) [({index:=(0+es.length)+1,term:=t.term,kind:=kind,delta:=min (t.now - t.qh) 1099511627776,dv:=xv,data:=data}:EntD)] i qI ‹_› (fun e he=>by rw[List.mem_singleton.1 he];exact⟨by show(0+es.length)+1<_;omega,by show t.term<_;omega,by show data.length≤_;omega⟩) qH (g.give [3,4,5] O V) (g.rdVec 2 O [3,4,5] O O) (all_cons ⟨(g.rdTo j [3,4,5] O)⟩ (fun p hp=>by cases hp))).mono ?_)))))))))))))))))))))))))))
 rintro _ w1 ⟨k,l,a1,a2,a3,rfl,m,s,y⟩
 refine fq [3,4,5] O g y (zE [0,1] O V (fun i g d=>zX ((?_:C _ _ _ _ _ _ _ (Own w S [_,_,_,_,_,_,_,_])) _ g)))
 refine zB (zI (o:=0) O O (zJ 1 (v:=Vn ((0+es.length)+1)) O O O O (zF O (zA (zP (zm (v:=Vn ((0+es.length)+1)) O O (fun i g=>⟨k,l,(by rw[Nat.zero_add]),(by have h:=m;rw[Nat.zero_add]at h;exact h),(g.qg [5,6,7,3,4] O V).sel [0,3] O V⟩)))))))
structure EsOk(es:List EntD):Prop where
 good:(LG 0 0 es).good
 all:∀ e∈es,e.kind≠3∧e.term=1
theorem EsOk.start:EsOk []:=⟨⟨Nat.zero_le _,Nat.zero_le _,trivial⟩,by simp⟩
theorem EsOk.end_le{es:List EntD}(h:EsOk es):(LG 0 0 es).end_≤1:=by
 by_cases q:es.length=0
 · unfold LogA.end_;rw[List.eq_nil_of_length_eq_zero q];exact Nat.zero_le _
 have e:(LG 0 0 es).end_=(zc es (es.length - 1)).term:=by
   show zAL 0 (es.map EntD.toEntA)=_
   rw[zBw (by simpa using(by omega:0<es.length)),List.length_map,zGi qG]
 rw[e,(h.all _ (zy qG)).2];exact Nat.le_refl _
theorem EsOk.fits{es:List EntD}(h:EsOk es)(a:0<es.length):(LG 0 0 es).fits es.length 1:=by
 unfold LogA.fits
 rw[LG.term_in (j:=es.length - 1) a qG qG]
 exact⟨O,(h.all _ (zy qG)).2⟩
theorem EsOk.fits_self{es:List EntD}:(LG 0 0 es).fits es.length (LG 0 0 es).end_:=by
 refine LogA.fits_of ⟨Nat.zero_le _,by rw[LG.last_eq];omega⟩ ?_
 show zAL 0 ((es.map EntD.toEntA).take (es.length - 0))=_
 rw[List.take_of_length_le qJ];rfl
theorem EsOk.app{es es':List EntD}{x:EntD}(h:EsOk es)(j:x.toEntA.ok)(hi:x.index=es.length+1)(g:x.term=1)(k:x.kind≠3)(i:LG 0 0 es'=(LG 0 0 es).append es.length (LG 0 0 es).end_ ([x].map EntD.toEntA)):
   EsOk es'∧es'.length=es.length+1∧es'.map EntD.toEntA=es.map EntD.toEntA++[x.toEntA]:=by
 have a:folA es.length (LG 0 0 es).end_ [x.toEntA]:=⟨⟨j,hi,by have:=h.end_le;rw[g];exact this⟩,trivial⟩
 have m:(LG 0 0 es').good:=by rw[i];exact LogA.append_good h.good
 have d:(LG 0 0 es).kn [x.toEntA]=0:=(LG 0 0 es).kn_of (Nat.zero_le _) qJ fun _ q=>by
   have:=(LogA.fits_end q).1.2
   rw[LG.last_eq]at this
   have e:(zc [x.toEntA] 0).index=es.length+1:=hi
   omega
 have e2:LG 0 0 es'=⟨0,0,es.map EntD.toEntA++[x.toEntA]⟩:=by
   rw[i]
   unfold LogA.append LogA.put
   rw[if_pos ⟨a,EsOk.fits_self⟩,List.map_cons,List.map_nil,d,if_pos qJ]
   show(⟨0,0,(es.map EntD.toEntA).take (x.index - 0 - 1)++[x.toEntA].drop 0⟩:LogA)=_
   rw[hi,List.take_of_length_le qJ];rfl
 have f:es'.map EntD.toEntA=es.map EntD.toEntA++[x.toEntA]:=congrArg LogA.l e2
 refine⟨⟨m,fun e n=> ?_⟩,by have:=congrArg List.length f;simpa using this,f⟩
 have b:e.toEntA∈es'.map EntD.toEntA:=List.mem_map_of_mem n
 rw[f]at b
 rcases List.mem_append.1 b with q|q
 · obtain⟨y,o,c⟩:=List.mem_map.1 q
   have:=h.all y o
   rw[show e.kind=y.kind from congrArg EntA.kind c.symm,show e.term=y.term from congrArg EntA.term c.symm];exact this
 have c:e.toEntA=x.toEntA:=by simpa using q
 rw[show e.kind=x.kind from congrArg EntA.kind c,show e.term=x.term from congrArg EntA.term c];exact⟨k,g⟩
theorem zKH(sb:Nat)(v:Value)(l:List Nat)(hl:zg l.length):zFz Tryz.prog 512 [.pointer (some ⟨sb,0,none⟩)] (fun x:Nat=>Value.int .u64 (x:Nat)) (fun j=>j=l) l.length [Res.row sb 22 [v],Res.vec 31 1 v l.length (l.flatMap U1)]:=by
 intro ly J L0 w Y hJ hin
 refine xi (args:=[.func (.yield ly) #[] #[], .pointer (some ⟨sb,0,none⟩)]) Tryz.func512 O Tryz.ntmps512 O (show Own w (xL ([Res.row sb 22 [v],Res.vec 31 1 v l.length (l.flatMap U1)]++L0)) (Res.row sb 22 [v]::Res.vec 31 1 v l.length (l.flatMap U1)::L0) w from hin) (zB (zJ 0 (v:=v) O O O O (zn (pV 1 O) O O (zC O (zA (zU (xD (fun(k:Nat) (Lr:List Res)=>[(0, .func (.yield ly) #[] #[]),(5,v),(6,Vj l.length),(7,Vj k)]) (fun(k:Nat) (Lr:List Res)=>k≤l.length∧J (l.take k) Lr) (fun(k:Nat) (Lr:List Res)=>(Res.row sb 22 [v]::Res.vec 31 1 v l.length (l.flatMap U1)::Lr)) (fun(k:Nat) (Lr:List Res)=>l.length - k) (fun e c=>⟨0,L0,⟨O,O,O,O,trivial⟩,⟨Nat.zero_le _,by simpa using hJ⟩,c⟩) (fun k Lr g i=> ?_))))))))
 have n:=i.1
 have d:=i.2
 refine zB (zu O O O (zA (zK (zT O (fun m=> ?_) (fun m=> ?_)))))
 ·refine zN (zK (zU (zB (yL (pV 1 O) 1 k O O O qG O (xC (pV 1 O) 1 k 0 (fun _=>O) O O qG O O (zF O (zA (zBo (xm O za (xm O za (zDA [Res.row sb 22 [v],Res.vec 31 1 v l.length (l.flatMap U1)] (zc l k) Y O O d (by rw[List.length_take];omega) O (fun Ly1_ a=>(xm O (zDT (b:=true) O) (zF3 (yW O (zN (ze (zr O O (zt qG) O (zC O (zx (fun e c=>⟨k+1,Ly1_,⟨O,O,O,O,trivial⟩,⟨by omega,by rw[yl qG];exact a⟩,c,qG⟩)))))))))))))))))))))
 exact xy O (yq O (fun e c=>⟨l,Lr,O,(by have h:=d;rwa [List.take_of_length_le qG]at h),c⟩))
theorem zRZ{S:List Nat}(v:Value)(l:List Nat)(w:World)(c:Own w S [Res.vec 31 1 v l.length (l.flatMap U1)] w):Rets Tryz.prog 459 #[v] w fun h d=>∃ (b:Nat),h= .func (.func 512) #[] #[.pointer (some ⟨b,0,none⟩)]∧Own w S [Res.vec 31 1 v l.length (l.flatMap U1),Res.row b 22 [v]] d:=by
 refine zO Tryz.func459 O Tryz.ntmps459 c (zB (zS (fun d e=>Own.qa (i:=0) O e) (fun a=>(zHs O a O (fun g=>zF O (zA (zB (j7 (va:=[]) (vb:=[.pointer (some ⟨g,0,none⟩)]) O O O (zF O (zA (zP (zm (v:= .func (.func 512) #[] #[.pointer (some ⟨g,0,none⟩)]) O O (fun d e=>⟨g,O,e⟩)))))))))))))
theorem zF5{Sx:List Nat→Prop}{N:Nat}{Ls:List Res}(s:FuncId)(lb:List Value)(j:x9 Tryz.prog s=true)(m:zFz Tryz.prog s lb (fun x=>Vn x) Sx N Ls)(hN:N≤1000000000)(w:World)(u:Own w (xL Ls) Ls w):Rets Tryz.prog 107 #[zW, .func (.func s) #[] lb.toArray] w fun u_ c=>∃ (v:Value) (n:List Nat),u_=v∧Sx n∧Own w (xL Ls) (Ls++[Res.vec 31 1 v n.length (n.flatMap U1)]) c:=by
 refine zCQ (args:=[zW, .func (.func s) #[] lb.toArray]) Tryz.func107 O Tryz.ntmps107 O O O (show Own w (xL Ls) Ls w from u) (zj O O (fun b=>(zF O (zx (fun w1 d=>((?_:CL _ _ _ _ _ _ (Own w (xL Ls) (Ls++[Res.row b 22 [zW]]))) w1 d))))))
 refine zC O (zx (fun w2 d=> ?_))
 have o:=zq d 31 1
 rw[List.append_assoc]at o
 refine zE8 (enc:=(fun x=>Vn x)) (p:=7) (q:=5) (Ju:=fun h L=>∃ v,L=[Res.row b 22 [v],Res.vec 31 1 v h.length (h.flatMap U1)]) O j m ⟨.slice none 0 0,O⟩ o O O O ?_ ?_ ?_
 · intro x w
   exact(zF O (zx (fun c k=>⟨O,k⟩)):CL _ _ _ _ _ _ (fun c=>c=w)) w O
 · rintro h x L w ⟨v,rfl⟩ a0
   refine zJ 0 (v:=v) O O O O (zC O (yH (e:=31) (sz:=1) (vs:=[Vn x]) qF O O qL V O (fun a1=>(yF (g:=U1) (sz:=1) (by':=8) (fun _=>O) (l:=h) (l':=[x]) (by simp[cell1,U1]) 1 qF O O O (fun c k=>Vec.sl (Own.holds k 2 _ O)) qH V O (fun a2=>(zS (fun c d=>Own.qa (i:=1) O d) (fun r=>(zi (cs:=[v]) 0 O O O r O (zx (fun c d=>⟨_,⟨_,O⟩,d.sel [0,1] O V⟩))))))))))
 rintro n L' D c hS ⟨v,rfl⟩ hO a ha
 have y:=hO.perm (List.Perm.cons _ (List.perm_append_comm))
 refine zIA (v:=v) O ?_ y (fun a3 z=>⟨v,n,O,hS,?_⟩) a ha
 · exact xm rfl (zIv 1 (v:=v) rfl rfl rfl qF) (xm rfl yB (zKg (fun c d=>⟨rfl,d⟩)))
 exact(Own.tail z).perm (List.perm_append_comm (l₁:=[_]))
theorem zHD{S:List Nat}(b:Nat)(v:Value)(l:List Nat)(w:World)(hl:l.length≤1000000000)(h:Own w S [Res.row b 22 [v],Res.vec 31 1 v l.length (l.flatMap U1)] w):Rets Tryz.prog 71 #[.func (.func 512) #[] #[.pointer (some ⟨b,0,none⟩)]] w fun k e=>∃ (j:Value) (i:List Nat),k=j∧i=l∧Own w S [Res.row b 22 [v],Res.vec 31 1 v l.length (l.flatMap U1),Res.vec 31 1 j i.length (i.flatMap U1)] e:=by
 refine zO Tryz.func71 O Tryz.ntmps71 h (zB (zF O (zA (zB (zC O (zG O O (fun e g=>(zF5 512 [.pointer (some ⟨b,0,none⟩)] qF (zKH b v l (by first|assumption|omega)) qG e (g.give [0,1] O V)).mono ?_)))))))
 rintro c n ⟨_,d,rfl,a,m⟩
 refine fq [0,1] O g m (zF O (zA (zP (zm (v:=c) O O (fun e g=>⟨c,d,O,a,g⟩)))))
theorem zJW{S:List Nat}(b:Nat)(v:Value)(l:List Nat)(w:World)(hl:l.length≤1)(h:Own w S [Res.row b 22 [v],Res.vec 31 1 v l.length (l.flatMap U1)] w):Rets Tryz.prog 33 #[.func (.func 512) #[] #[.pointer (some ⟨b,0,none⟩)]] w fun m g=>∃ (k:Value) (i:List Nat),m=k∧i=l∧Own w S [Res.row b 22 [v],Res.vec 31 1 v l.length (l.flatMap U1),Res.vec 31 1 k i.length (i.flatMap U1)] g:=by
 refine zO Tryz.func33 O Tryz.ntmps33 h (zB (zF O (zA (zB (zC O (zG O O (fun g e=>(zHD b v l g qH (e.give [0,1] O V)).mono ?_)))))))
 rintro a n ⟨_,c,rfl,d,j⟩
 have o:c.length≤1:=by rw[d];exact hl
 refine fq [0,1] O e j (zF O (zA (zB (zC O (zG O O (fun g e=>(zFK a c g qH (e.give [2] O V)).mono ?_))))))
 rintro _ n ⟨rfl,j⟩
 refine fq [2] O e j (zA (zB (zC O (zF O (zA (zP (zm (v:=a) O O (fun g e=>⟨a,c,O,d,e⟩))))))))
theorem zJ6(sb:Nat)(v:Value)(l:List Int)(hl:zg l.length):zFz Tryz.prog 548 [.pointer (some ⟨sb,0,none⟩)] (fun x:Int=>Value.int .i64 x) (fun j=>j=l) l.length [Res.row sb 68 [v],Res.vec 3 1 v l.length (l.flatMap I1)]:=by
 intro ly J L0 w Y hJ hin
 refine xi (args:=[.func (.yield ly) #[] #[], .pointer (some ⟨sb,0,none⟩)]) Tryz.func548 O Tryz.ntmps548 O (show Own w (xL ([Res.row sb 68 [v],Res.vec 3 1 v l.length (l.flatMap I1)]++L0)) (Res.row sb 68 [v]::Res.vec 3 1 v l.length (l.flatMap I1)::L0) w from hin) (zB (zJ 0 (v:=v) O O O O (zn (pV 1 O) O O (zC O (zA (zU (xD (fun(k:Nat) (Lr:List Res)=>[(0, .func (.yield ly) #[] #[]),(5,v),(6,Vj l.length),(7,Vj k)]) (fun(k:Nat) (Lr:List Res)=>k≤l.length∧J (l.take k) Lr) (fun(k:Nat) (Lr:List Res)=>(Res.row sb 68 [v]::Res.vec 3 1 v l.length (l.flatMap I1)::Lr)) (fun(k:Nat) (Lr:List Res)=>l.length - k) (fun e c=>⟨0,L0,⟨O,O,O,O,trivial⟩,⟨Nat.zero_le _,by simpa using hJ⟩,c⟩) (fun k Lr g i=> ?_))))))))
 have n:=i.1
 have d:=i.2
 refine zB (zu O O O (zA (zK (zT O (fun m=> ?_) (fun m=> ?_)))))
 ·refine zN (zK (zU (zB (yL (pV 1 O) 1 k O O O qG O (xC (pV 1 O) 1 k 0 (fun _=>O) O O qG O O (zF O (zA (zBo (xm O za (xm O za (zDA [Res.row sb 68 [v],Res.vec 3 1 v l.length (l.flatMap I1)] (zc l k) Y O O d (by rw[List.length_take];omega) O (fun Ly1_ a=>(xm O (zDT (b:=true) O) (zF3 (yW O (zN (ze (zr O O (zt qG) O (zC O (zx (fun e c=>⟨k+1,Ly1_,⟨O,O,O,O,trivial⟩,⟨by omega,by rw[yl qG];exact a⟩,c,qG⟩)))))))))))))))))))))
 exact xy O (yq O (fun e c=>⟨l,Lr,O,(by have h:=d;rwa [List.take_of_length_le qG]at h),c⟩))
theorem zSD{S:List Nat}(v:Value)(l:List Int)(w:World)(c:Own w S [Res.vec 3 1 v l.length (l.flatMap I1)] w):Rets Tryz.prog 490 #[v] w fun h d=>∃ (b:Nat),h= .func (.func 548) #[] #[.pointer (some ⟨b,0,none⟩)]∧Own w S [Res.vec 3 1 v l.length (l.flatMap I1),Res.row b 68 [v]] d:=by
 refine zO Tryz.func490 O Tryz.ntmps490 c (zB (zS (fun d e=>Own.qa (i:=0) O e) (fun a=>(zHs O a O (fun g=>zF O (zA (zB (j7 (va:=[]) (vb:=[.pointer (some ⟨g,0,none⟩)]) O O O (zF O (zA (zP (zm (v:= .func (.func 548) #[] #[.pointer (some ⟨g,0,none⟩)]) O O (fun d e=>⟨g,O,e⟩)))))))))))))
theorem zMj{Sx:List Int→Prop}{N:Nat}{Ls:List Res}(s:FuncId)(lb:List Value)(j:x9 Tryz.prog s=true)(m:zFz Tryz.prog s lb (fun x=>Vi x) Sx N Ls)(hN:N≤1000000000)(w:World)(u:Own w (xL Ls) Ls w):Rets Tryz.prog 578 #[zW, .func (.func s) #[] lb.toArray] w fun u_ c=>∃ (v:Value) (n:List Int),u_=v∧Sx n∧Own w (xL Ls) (Ls++[Res.vec 3 1 v n.length (n.flatMap I1)]) c:=by
 refine zCQ (args:=[zW, .func (.func s) #[] lb.toArray]) Tryz.func578 O Tryz.ntmps578 O O O (show Own w (xL Ls) Ls w from u) (zj O O (fun b=>(zF O (zx (fun w1 d=>((?_:CL _ _ _ _ _ _ (Own w (xL Ls) (Ls++[Res.row b 68 [zW]]))) w1 d))))))
 refine zC O (zx (fun w2 d=> ?_))
 have o:=zq d 3 1
 rw[List.append_assoc]at o
 refine zE8 (enc:=(fun x=>Vi x)) (p:=7) (q:=5) (Ju:=fun h L=>∃ v,L=[Res.row b 68 [v],Res.vec 3 1 v h.length (h.flatMap I1)]) O j m ⟨.slice none 0 0,O⟩ o O O O ?_ ?_ ?_
 · intro x w
   exact(zF O (zx (fun c k=>⟨O,k⟩)):CL _ _ _ _ _ _ (fun c=>c=w)) w O
 · rintro h x L w ⟨v,rfl⟩ a0
   refine zJ 0 (v:=v) O O O O (zC O (yH (e:=3) (sz:=1) (vs:=[Vi x]) qF O O qL V O (fun a1=>(yF (g:=I1) (sz:=1) (by':=8) (fun _=>O) (l:=h) (l':=[x]) qO 1 qF O O O (fun c k=>Vec.sl (Own.holds k 2 _ O)) qH V O (fun a2=>(zS (fun c d=>Own.qa (i:=1) O d) (fun r=>(zi (cs:=[v]) 0 O O O r O (zx (fun c d=>⟨_,⟨_,O⟩,d.sel [0,1] O V⟩))))))))))
 rintro n L' D c hS ⟨v,rfl⟩ hO a ha
 have y:=hO.perm (List.Perm.cons _ (List.perm_append_comm))
 refine zIA (v:=v) O ?_ y (fun a3 z=>⟨v,n,O,hS,?_⟩) a ha
 · exact xm rfl (zIv 1 (v:=v) rfl rfl rfl qF) (xm rfl yB (zKg (fun c d=>⟨rfl,d⟩)))
 exact(Own.tail z).perm (List.perm_append_comm (l₁:=[_]))
theorem zGy{S:List Nat}(b:Nat)(v:Value)(l:List Int)(w:World)(hl:l.length≤1000000000)(h:Own w S [Res.row b 68 [v],Res.vec 3 1 v l.length (l.flatMap I1)] w):Rets Tryz.prog 547 #[.func (.func 548) #[] #[.pointer (some ⟨b,0,none⟩)]] w fun k e=>∃ (j:Value) (i:List Int),k=j∧i=l∧Own w S [Res.row b 68 [v],Res.vec 3 1 v l.length (l.flatMap I1),Res.vec 3 1 j i.length (i.flatMap I1)] e:=by
 refine zO Tryz.func547 O Tryz.ntmps547 h (zB (zF O (zA (zB (zC O (zG O O (fun e g=>(zMj 548 [.pointer (some ⟨b,0,none⟩)] qF (zJ6 b v l (by first|assumption|omega)) qG e (g.give [0,1] O V)).mono ?_)))))))
 rintro c n ⟨_,d,rfl,a,m⟩
 refine fq [0,1] O g m (zF O (zA (zP (zm (v:=c) O O (fun e g=>⟨c,d,O,a,g⟩)))))
theorem zJS{S:List Nat}(b:Nat)(v:Value)(l:List Int)(w:World)(hl:l.length≤1)(h:Own w S [Res.row b 68 [v],Res.vec 3 1 v l.length (l.flatMap I1)] w):Rets Tryz.prog 489 #[.func (.func 548) #[] #[.pointer (some ⟨b,0,none⟩)]] w fun m g=>∃ (k:Value) (i:List Int),m=k∧i=l∧Own w S [Res.row b 68 [v],Res.vec 3 1 v l.length (l.flatMap I1),Res.vec 3 1 k i.length (i.flatMap I1)] g:=by
 refine zO Tryz.func489 O Tryz.ntmps489 h (zB (zF O (zA (zB (zC O (zG O O (fun g e=>(zGy b v l g qH (e.give [0,1] O V)).mono ?_)))))))
 rintro a n ⟨_,c,rfl,d,j⟩
 have o:c.length≤1:=by rw[d];exact hl
 refine fq [0,1] O e j (zF O (zA (zB (zC O (zG O O (fun g e=>(zOW a c g qH (e.give [2] O V)).mono ?_))))))
 rintro _ n ⟨rfl,j⟩
 refine fq [2] O e j (zA (zB (zC O (zF O (zA (zP (zm (v:=a) O O (fun g e=>⟨a,c,O,d,e⟩))))))))
end Go.Proofs.YthpoddkmhfhboaaGreatDoor
namespace Go.Sc
open Go
theorem zCz{P:Program}{w:World}(t g ty e:TypeId)(i:TypeInfo)(z:Value)(h:P.underlying t=some (.slice e))(f:P.underlying g=some (.int .i64))(hi:P.info? e=some i)(j:i.zero=some z)(k:i.size=1)
   {n:Nat} (l:0<n) (m:(n:Int)≤4611686018427387904) (o:n*i.bytes≤281474976710656):
   (Builtin.append_ #[t,g] ty #[zW, .int .i64 (n:Int)]).run P w=
     .ok (.slice (some ⟨w.heap.size,0,none⟩) n (grownCap w n 0 e)) (w.drew.alloc (.cells (Builtin.zeroCells z.cells n++Builtin.zeroCells z.cells (grownCap w n 0 e - n)) e)):=by
 have p:n≠0:=by omega
 have q:IntKind.i64.wrap (n:Int)=(n:Int):=zt qG
 have a:¬(9223372036854775807<(n:Int)):=by omega
 have b:¬((n:Int)<0):=by omega
 have c:¬(281474976710656<(n:Int)*(i.bytes:Int)):=by
   have e:(n:Int)*(i.bytes:Int)=((n*i.bytes:Nat):Int):=(Int.natCast_mul n i.bytes).symm
   rw[e];omega
 have d:¬(281474976710656<Builtin.nextslicecap n 0*i.bytes):=by rw[nextslicecap_zero l];omega
 simp[Builtin.append_,zp h,zp f,sizeOf,typeInfo,zeroValue,hi,j,k,asInt,asIntOf,q,p,b,a,c,d,Question.forced,run_firstCells_none,newRow,grownCap]
section
variable {P:Program} {n:Nat} {ops:Array Oper} {N:K} {f:Nat→Value} {A:World→Prop} {rest:List Oper} {w0:World} {S:List Nat} {L:List Res}
variable {d:Nat} {ty:TypeId} {p:String} {af:Array Edge} {x y:Operand} {t ti e:TypeId} {by':Nat}
theorem zQp{α:Type}{g:α→List Value}{z:α}{zv:Value}{m:Nat}(ht:slT P t=some (e,1,by'))(h:zCv P ti=some .i64)(hz:x2 P e=some zv)(hc:zv.cells= #[zv])(hg:g z=[zv])(hx:ev f x=zW)(hy:ev f y= .int .i64 (m:Int))(h0:0<m)(hm:m≤1000000000000)(hb:m*by'≤140737488355328)(hd:Nat.blt d n=true)
   (k:∀ b c,m≤c→CL P n ops rest N (upd f d (.slice (some ⟨b,0,none⟩) m c)) (Own w0 S (L++[Res.vec e 1 (.slice (some ⟨b,0,none⟩) m c) (List.replicate m z).length ((List.replicate m z).flatMap g)]))):
   CL P n ops (⟨some d, .call ⟨.builtin .append,#[x,y],#[t,ti]⟩,ty,p,af,none⟩::rest) N f (Own w0 S L):=by
 intro w hw
 obtain⟨hu,i,j,hi,o,hs,s,l,a0⟩:=zAl ht
 have e0:j=zv:=by
   simp only[x2,hi,Option.bind_some,o]at hz
   exact Option.some.inj hz
 subst e0
 subst s
 have q:P.underlying ti=some (.int .i64):=by
   unfold zCv at h
   split at h
   · rename_i k' hk';cases h;exact hk'
   cases h
 have u:=xB
 have hr:=zCz (P:=P) (w:=w) t ti ty e i j hu q hi o hs h0 qG qG
 have r:=grownCap_ge w m 0 e
 have v:grownCap w m 0 e≤maxLen:=grownCap_le_maxLen w m 0 e (by rw[u];omega)
 have a:(Builtin.zeroCells j.cells m).toList=(List.replicate m z).flatMap g:=by
   rw[hc]
   simp only[Builtin.zeroCells,List.flatMap,hg]
   have e2:(fun i:Nat=>[j][i%1]?.getD default)=fun _=>j:=by funext i;rw[Nat.mod_one];rfl
   simp
   rw[e2,List.map_const',List.length_range,hg];simp
 have hO:Own w [] [Res.vec e 1 (.slice (some ⟨w.heap.size,0,none⟩) m (grownCap w m 0 e)) (List.replicate m z).length ((List.replicate m z).flatMap g)] (w.drew.alloc (.cells (Builtin.zeroCells j.cells m++Builtin.zeroCells j.cells (grownCap w m 0 e - m)) e)):=by
   refine Own.mk1 ⟨O,O,O,by simp,fun k hk _=>heap_alloc_old w.drew _ hk⟩ ?_ (fun b hb=>by simp[Res.vec,xK]at hb;right;omega)
   rw[List.length_replicate]
   refine⟨by rw[←a,Array.length_toList,size_zeroCells,l], .inr ⟨w.heap.size,_,_,O,Nat.zero_le _,heap_alloc_new w.drew _,r,v,?_,?_⟩⟩
   · simp only[Array.size_append,size_zeroCells,l];omega
   rw[Array.toList_append,a]
   exact List.take_left' (by rw[←a,Array.length_toList,size_zeroCells,l])
 refine xc (w':=_) ?_ hd (k w.heap.size _ r _ (hw.qb hO))
 simp[execOp,resolve,invoke,builtin,hx,hy,hr]
theorem zQc(a:kA P t=true)(b:ev f x=zW):RV P f ⟨some d, .call ⟨.builtin .cap,#[x],#[t]⟩,ty,p,af,none⟩ A (.int .i64 0):=by
 intro w _
 unfold kA at a
 split at a
 · rename_i e he
   simp[execOp,resolve,invoke,builtin,b,Builtin.cap_,zp he,goInt]
 cases a
theorem zMA(a:kA P t=true)(b:ev f x=zW)(c:Nat.blt d n=true)(k:CL P n ops rest N (upd f d (.int .i64 0)) A):CL P n ops (⟨some d, .call ⟨.builtin .cap,#[x],#[t]⟩,ty,p,af,none⟩::rest) N f A:=yN c (zQc a b) k
theorem zFV(l:List Int):l.flatMap I1=l.map (Value.int .i64):=by induction l<;>simp_all[I1]
theorem Own.vecCutL{w:World}{T:TypeId}{v:Value}{l:List Int}(i k:Nat)(n:L[i]?=some (Res.vec T 1 v l.length (l.flatMap I1)))(o:k≤l.length)(h:Own w0 S L w):Own w0 S (L.set i (Res.vec T 1 (xj v 0 k 1) (l.take k).length ((l.take k).flatMap I1))) w:=by
 refine h.turn n ?_ ?_
 · rintro⟨hl,⟨rfl,h1⟩|⟨g,cap,f,rfl,p,h1,h2,q,r,s⟩⟩
   · have:l=[]:=List.eq_nil_of_length_eq_zero h1
     subst this
     have j:k=0:=by simpa using o
     subst j
     exact⟨O, .inl ⟨O,O⟩⟩
   have e:xj (.slice (some ⟨g,0,none⟩) l.length cap) 0 k 1= .slice (some ⟨g,0,none⟩) k cap:=by
     show kS (some ⟨g,0,none⟩) cap 0 k cap 1=_
     unfold kS
     simp[Addr.add]
   rw[e]
   have c:(l.take k).length=k:=by simp;omega
   refine⟨by rw[zFV,List.length_map];omega, .inr ⟨g,cap,f,by rw[c],p,h1,by omega,q,r,?_⟩⟩
   rw[c,zFV,List.map_take,←zFV,←s,List.take_take]
   congr 1;omega
 intro b hb
 have:xK (xj v 0 k 1)=xK v∨xK (xj v 0 k 1)=[]:=by
   cases v with
   |slice a m cap=>left;show xK (kS a cap 0 k cap 1)=_;exact zGb a m cap 0 k cap 1
   |_=>left;rfl
 rcases this with h1|h1
 · show b∈xK v;rw[←h1];exact hb
 have d:b∈xK (xj v 0 k 1):=hb
 rw[h1]at d;cases d
end
end Go.Sc
namespace Go.Proofs.YthpoddkmhfhboaaGreatDoor
open Go.Sc
def pis(p:Value×List Int):List Value:=[p.1]
abbrev zUk(p:Value×List Int)(w:World)(S:List Nat):Prop:=Rd w S (Res.sl p.1 p.2.length (p.2.flatMap I1))
theorem zSA(m:Nat)(w:World)(n:1≤m∧m≤1000000):Rets Tryz.prog 549 #[zW,Vj m] w fun j a=>∃ (v:Value),j=v∧Own w [] [vI v ([]:List Int)] a:=by
 refine zO Tryz.func549 O Tryz.ntmps549 (Own.start w) (zB (zF O (zA (zK (zB (zC O (zu O O O (zA (zT O (fun b=> ?_) (fun b=> ?_))))))))))
 ·exact absurd b qG
 refine zN (zK (zB (zC O (zC O (zMA O O O (zC O (jM qF O O (y9 (c:=0) O O O O (y9 (c:=((m:Nat):Int)) O O (by rw[Int.sub_zero];exact zt qG) O (zF O (zA (zB (zC O (yY O O O (zA (zT O (fun d=> ?_) (fun d=> ?_)))))))))))))))))
 ·refine ze (zC O (zC O (zMA O O O (zSY (v:=zW) (sz:=1) (l:=0) (h:=0) (len:=0) (cs:=[]) qF O (fun _ _=>Sl.nil) O ⟨_,O⟩ qG qG O (zC O (zQp (g:=I1) (z:=(0:Int)) (zv:= .int .i64 0) (m:=m) O O O O O O O qG qG (by show m*8≤_;omega) O (fun e i o=>zC O (jM qF O O (zBS (pV 0 O) 1 0 0 qF O O ⟨_,O⟩ qG qG O (zF O (zA (zB (zC O (zF O (zA (zP (zm (v:=(xj (.slice (some ⟨e,0,none⟩) m i) 0 0 1)) O O (fun a k=>⟨(xj (.slice (some ⟨e,0,none⟩) m i) 0 0 1),O,k.vecCutL 0 0 O qG⟩))))))))))))))))))
 exact absurd qG d
theorem zLC(lv:Value)(ps:List (Value×List Int))(w:World)(o:1≤(ps.flatMap Prod.snd).length∧(ps.flatMap Prod.snd).length≤1000000)(y:zg ps.length)(hl:Rd w [] (Res.sl lv ps.length (ps.flatMap pis)))(a:∀ p∈ps,zUk p w []):Rets Tryz.prog 491 #[lv] w fun q d=>∃ (v:Value),q=v∧Own w [] [vI v (ps.flatMap Prod.snd)] d:=by
 refine zO Tryz.func491 O Tryz.ntmps491 (Own.start w) (zB (zF O (zA (zB (zF O (zA (zK (zB (zC O (zn (pR hl) O O (zC O (zA (zU (yQ (fun(k:Nat)=>[(0,lv),(3,Vj (((ps.take k).flatMap Prod.snd).length)),(9,lv),(10,Vj ps.length),(11,Vj k)]) (fun(k:Nat)=>k≤ps.length) (fun(k:Nat)=>[]) (fun(k:Nat)=>ps.length - k) (fun d b=>⟨0,⟨O,O,O,O,O,trivial⟩,Nat.zero_le _,b⟩) (fun k g r=> ?_)))))))))))))))
 have e:=jG (Prod.snd:Value×List Int→List Int) ps (k+1)
 refine zB (zu O O O (zA (zK (zT O (fun s=> ?_) (fun s=> ?_)))))
 ·have c:(ps.take (k+1)).flatMap Prod.snd=(ps.take k).flatMap Prod.snd++(zc ps k).2:=by rw[yl qG,List.flatMap_append];simp
  rw[c,List.length_append]at e
  refine zN (zK (zU (zB (yL (pR hl) 1 k O O O qG O (xC (pR hl) 1 k 0 (fun _=>O) O O qG O O (zF O (zA (zB (zC O (zC O (zn (pR (a _ (zy qG))) O O (zr O O (zt qG) O (zF O (zA (zB (zC O (zu O O O (zA (zT O (fun n=> ?_) (fun n=> ?_))))))))))))))))))))
  ·exact absurd n qG
  refine zN (ze (zr O O (zt qG) O (zC O (zx (fun d b=>⟨k+1,⟨O,(by rw[c,List.length_append];rfl),O,O,O,trivial⟩,qG,b,qG⟩)))))
 have h:(ps.take k).flatMap Prod.snd=ps.flatMap Prod.snd:=by rw[List.take_of_length_le qG]
 refine zw O (zB (zC O (zG O O (fun d b=>(zSA (((ps.take k).flatMap Prod.snd).length) d (by rw[h];exact o)).mono ?_))))
 rintro i t ⟨_,rfl,u⟩
 refine(?_:CL _ _ _ _ _ _ (Own w [] [_])) t (b.qb u)
 refine zF O (zA (zK (zB (zC O (zn (pR hl) O O (zC O (zA (zU (xD (fun(k:Nat) (v:Value)=>[(6,v),(25,lv),(26,Vj ps.length),(27,Vj k)]) (fun(k:Nat) (v:Value)=>k≤ps.length) (fun(k:Nat) (v:Value)=>[vI v ((ps.take k).flatMap Prod.snd)]) (fun(k:Nat) (v:Value)=>ps.length - k) (fun d b=>⟨0,i,⟨O,O,O,O,trivial⟩,Nat.zero_le _,b⟩) (fun k v g r=> ?_))))))))))
 have e:=jG (Prod.snd:Value×List Int→List Int) ps (k+1)
 refine zB (zu O O O (zA (zK (zT O (fun x=> ?_) (fun x=> ?_)))))
 ·have c:(ps.take (k+1)).flatMap Prod.snd=(ps.take k).flatMap Prod.snd++(zc ps k).2:=by rw[yl qG,List.flatMap_append];simp
  rw[c,List.length_append]at e
  refine zN (zK (zU (zB (yL (pR hl) 1 k O O O qG O (xC (pR hl) 1 k 0 (fun _=>O) O O qG O O (zF O (zA (ze (zC O (zC O (yF (g:=I1) (sz:=1) (by':=8) (fun _=>O) (l:=((ps.take k).flatMap Prod.snd)) (l':=(zc ps k).2) qO 0 qF O O O (fun d j=>Own.rd (a _ (zy qG)) j) qH V O (fun m=>zF O (zA (ze (zr O O (zt qG) O (zC O (zx (fun d b=>⟨k+1,m,⟨O,O,O,O,trivial⟩,qG,by rw[c];exact b,qG⟩))))))))))))))))))
 have h:(ps.take k).flatMap Prod.snd=ps.flatMap Prod.snd:=by rw[List.take_of_length_le qG]
 refine zw O (zB (zC O (zF O (zA (zP (zm (v:=v) O O (fun d b=>⟨v,O,by rw[←h];exact b⟩)))))))
theorem zN2{es es':List EntD}{kind now qh:Int}{xv:Value}{data:List UInt8}(a:EsOk es)(b:(kind=1∧data.length=0)∨(kind=2∧data.length≤4096))(c:qh≤now)(hl:es.length≤1000)
   (h:LG 0 0 es'=(LG 0 0 es).append (0+es.length) (LG 0 0 es).end_ ([({index:=(0+es.length)+1,term:=1,kind:=kind,delta:=min (now - qh) 1099511627776,dv:=xv,data:=data}:EntD)].map EntD.toEntA)):EsOk es'∧es'.length=es.length+1∧es'.map EntD.toEntA=es.map EntD.toEntA++[(⟨es.length+1,1,kind,min (now - qh) 1099511627776,data⟩:EntA)]:=by
 have hb:=(LG.le a.good).1
 rw[Nat.zero_add]at h
 refine a.app (x:={index:=es.length+1,term:=1,kind:=kind,delta:=min (now - qh) 1099511627776,dv:=xv,data:=data}) ⟨⟨⟨by show 1≤es.length+1;omega,Nat.le_refl 1⟩,⟨?_,by show 1≤4611686018427387904;decide⟩,⟨?_,?_⟩,?_⟩,?_⟩ O O (by show kind≠3;omega) h
 · show es.length+1≤4611686018427387904
   omega
 · show 0≤min (now - qh) 1099511627776
   omega
 · show min (now - qh) 1099511627776≤1099511627776
   omega
 · show data.length≤4096
   omega
 show if kind=1 then data.length=0 else if kind=3 then(zAJ data).isSome=true else kind=2
 rcases b with⟨q,q2⟩|⟨q,_⟩
 · rw[if_pos q];exact q2
 rw[if_neg qG,if_neg qG];exact q
end Go.Proofs.YthpoddkmhfhboaaGreatDoor
