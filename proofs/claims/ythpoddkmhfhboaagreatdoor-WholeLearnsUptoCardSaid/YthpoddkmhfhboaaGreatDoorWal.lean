import Derived.Test.YthpoddkmhfhboaaGreatDoorSlt
set_option linter.unusedSimpArgs false
set_option linter.unusedVariables false
set_option maxRecDepth 10000
namespace Go.Proofs.YthpoddkmhfhboaaGreatDoor
open Go.Sc
def P1(b:Nat):List Value:=[.pointer (some ⟨b,0,none⟩)]
def jk:ByteArray:=⟨#[116,46,120]⟩
theorem zOS{s t:ByteArray}:(((⟨#[119,46]⟩:ByteArray)++s)++(⟨#[46]⟩:ByteArray))++t≠jk:=by
 intro h
 have h2:=congrArg (fun b:ByteArray=>b.data.toList.head?) h
 simp only[ByteArray.data_append,Array.toList_append]at h2
 revert h2
 show some (119:UInt8)=some 116→False
 decide
theorem zKF{s t:ByteArray}(b:s.size≤2∧∀ c∈s.data.toList,c∈nameSet)(d:t.size≤2∧∀ c∈t.data.toList,c∈nameSet):kZ ((((⟨#[119,46]⟩:ByteArray)++s)++(⟨#[46]⟩:ByteArray))++t):=by
 have e1:(⟨#[119,46]⟩:ByteArray).size=2:=rfl
 have e2:(⟨#[46]⟩:ByteArray).size=1:=rfl
 refine⟨?_,fun c a=> ?_⟩
 · rw[ByteArray.size_append,ByteArray.size_append,ByteArray.size_append,e1,e2];omega
 rw[ByteArray.data_append,ByteArray.data_append,ByteArray.data_append,Array.toList_append,Array.toList_append,Array.toList_append]at a
 rcases List.mem_append.1 a with a|a
 · rcases List.mem_append.1 a with a|a
   · rcases List.mem_append.1 a with a|a
     · have:c=119∨c=46:=by simpa using a
       rcases this with rfl|rfl<;>decide
     exact b.2 c a
   have:c=46:=by simpa using a
   rw[this];decide
 exact d.2 c a
theorem zEm{l:List Int}{x:Int}:zc (l++[x]) ((l++[x]).length - 1)=x:=by
 rw[List.length_append]
 show zc (l++[x]) (l.length+1 - 1)=x
 rw[Nat.add_sub_cancel]
 unfold zc
 rw[List.getElem?_append_right (Nat.le_refl _),Nat.sub_self];rfl
def vG(v:Value)(l:List Nat):Res:=Res.vec 544 1 v l.length (l.flatMap P1)
def vB(v:Value)(l:List (Value×List UInt8)):Res:=Res.vec 73 1 v l.length (l.flatMap pv)
def xt(b db:Nat)(sv rv:Value):Res:=Res.row b 380 [pt db,Vn 0,sv,rv,Vn 1, .bool false]
def jF(b:Nat)(nm:ByteArray)(fi:Nat)(mv:Value):Res:=Res.row b 546 [.string nm,Vn fi,mv]
theorem zS0(w:World):Rets Tryz.prog 472 #[zW,Vj 0,Vj 0, .func (.func 217) #[] #[]] w fun d a=>d= .tuple #[]∧Own w [] [] a:=by
 refine zO Tryz.func472 O Tryz.ntmps472 (Own.start w) (zB (zC O (zr O O (zt qG) O (zF O (zA (zU (yQ (fun(k:Nat)=>[(0,zW),(1,Vj 0),(2,Vj 0),(3, .func (.func 217) #[] #[]),(8,Vj k)]) (fun(k:Nat)=>k=1) (fun(k:Nat)=>[]) (fun(k:Nat)=>0) (fun a b=>⟨1,⟨O,O,O,O,O,trivial⟩,O,b⟩) (fun k g e=> ?_))))))))
 have h:=e
 refine zK (zB (zC O (zC O (zw O O O (zA (zT O (fun c=> ?_) (fun c=> ?_)))))))
 ·exact absurd c qG
 exact xx O (yp O (fun a b=>⟨O,b.drop⟩))
theorem zSa(a:Int)(w:World):Rets Tryz.prog 366 #[zW,Vj 0,Vj 0,Vi a, .func (.func 217) #[] #[]] w fun h b=>h= .tuple #[]∧Own w [] [] b:=by
 refine zO Tryz.func366 O Tryz.ntmps366 (Own.start w) (zB (zF O (zA (zB (zF O (zA (zU (yQ (fun(k:Nat)=>[(0,zW),(1,Vj 0),(2,Vj 0),(3,Vi a),(4, .func (.func 217) #[] #[]),(10,xi),(11,xi)]) (fun(k:Nat)=>k=1) (fun(k:Nat)=>[]) (fun(k:Nat)=>0) (fun b d=>⟨1,⟨O,O,O,O,O,O,O,trivial⟩,O,d⟩) (fun k g l=>(zU (zB (zC O (zC O (y7 (c:=((0:Nat):Int)) O O (zt qG) O (zF O (zA (zK (zB (zC O (yr O O O (zA (zT O (fun e=> ?_) (fun e=> ?_)))))))))))))))))))))))
 ·refine zB (zC O (zC O (zC O (zC O (zG O O (fun b d=>(zS0 b).mono ?_))))))
  rintro _ i ⟨rfl,j⟩
  refine(?_:CL _ _ _ _ _ _ (Own w [] [])) i (d.qb j)
  refine zA (zP (yp O (fun b d=>⟨O,d.drop⟩)))
 exact absurd e qG
theorem zQW(w:World):Rets Tryz.prog 216 #[zW, .func (.func 217) #[] #[]] w fun e a=>e= .tuple #[]∧Own w [] [] a:=by
 refine zO Tryz.func216 O Tryz.ntmps216 (Own.start w) (zB (zC O (jJ qF O O (zF O (zA (ze (zC O (zC O (zC O (yi qF O (yy qG) O ?_ qF))))))))))
 refine zG O O (fun a b=>(zIz 0 a qH).mono ?_)
 rintro _ c ⟨rfl,d⟩
 refine(?_:CL _ _ _ _ _ _ (Own w [] [])) c (b.qb d)
 refine zC O (zG O O (fun a b=>(zSa (((yN 0):Nat):Int) a).mono ?_))
 rintro _ c ⟨rfl,d⟩
 refine(?_:CL _ _ _ _ _ _ (Own w [] [])) c (b.qb d)
 exact zx (yp O (fun a b=>⟨O,b.drop⟩))
theorem zBh{S:List Nat}(wb db:Nat)(sv rv:Value)(recs:List (Value×List UInt8))(w:World)(hl:recs.length≤1000000)(a:Own w S [xt wb db sv rv,vB rv recs] w):Rets Tryz.prog 231 #[pt wb] w fun c b=>c=Vn (1+recs.length)∧Own w S [xt wb db sv rv,vB rv recs] b:=by
 refine zO Tryz.func231 O Tryz.ntmps231 a (zB (zF O (zA (zK (zB (zC O (yE qF O O O (zA (yW O (zN (yf qF qF (zR O za (zR O (zY O) (zR O (zL (o:=4) O) (zR O (zZ 0 (v:=Vn 1) O O O) (zR O za (zR O (zY O) (zR O (zL (o:=3) O) (zR O (zZ 0 (v:=rv) O O O) (zR O (kT (pV 1 O) O) (zR O (kN qF O (yy qG) qF) (zR O (xO O O (yy qG)) (zR O yA (xW (zP (zm (v:=Vn (1+recs.length)) O O (fun b d=>⟨O,d⟩)))))))))))))))))))))))))))
theorem zDI{S:List Nat}(wb db:Nat)(sv rv:Value)(w:World)(a:Own w S [xt wb db sv rv] w):Rets Tryz.prog 384 #[pt wb] w fun c b=>c=Vi 0∧Own w S [xt wb db sv rv] b:=by
 refine zO Tryz.func384 O Tryz.ntmps384 a (zB (zF O (zA (zK (zU (zB (zC O (yE qF O O O (zF O (zA (yW O (zB (zC O (zV O O (zI (o:=5) O O (zJ 0 (v:=yC) O O O O (zF O (zA (yW O (zN (zB (zF O (zA (zP (zm (v:=Vi 0) O O (fun b d=>⟨O,d⟩))))))))))))))))))))))))))
theorem zL3{S:List Nat}(wb db:Nat)(sv rv:Value)(w:World)(a:Own w S [xt wb db sv rv] w):Rets Tryz.prog 228 #[pt wb] w fun c b=>c=Vn 1∧Own w S [xt wb db sv rv] b:=by
 refine zO Tryz.func228 O Tryz.ntmps228 a (zB (zF O (zA (zK (zB (zC O (yE qF O O O (zA (yW O (zN (zB (zC O (zV O O (zI (o:=4) O O (zJ 0 (v:=Vn 1) O O O O (zF O (zA (zP (zm (v:=Vn 1) O O (fun b d=>⟨O,d⟩))))))))))))))))))))
theorem zHU{S:List Nat}(wb db:Nat)(sv rv:Value)(w:World)(a:Own w S [xt wb db sv rv] w):Rets Tryz.prog 385 #[pt wb,Vi 0] w fun c b=>c=Vi 0∧Own w S [xt wb db sv rv] b:=by
 refine zO Tryz.func385 O Tryz.ntmps385 a (zB (zF O (zA (zB (zC O (zC O (zV O O (zI (o:=5) O O (zJ 0 (v:=yC) O O O O (zC O (zQ O O (zC O (zQ O O (yT O O O (xB O O (zV O O (zI (o:=5) O O (zi (cs:=[pt db,Vn 0,sv,rv,Vn 1,yC]) 0 O O O O O (zA (zB (zC O (zF O (zA (zP (zm (v:=Vi 0) O O (fun b d=>⟨O,d⟩))))))))))))))))))))))))))
theorem zNB{S:List Nat}(wb db:Nat)(sv rv:Value)(D:DskD)(kf:List (ByteArray×FilD))(w:World)(k:DskOk D)(l:tot kf≤1000000000)(g:Own w S [xt wb db sv rv,Res.dk db D kf] w):Rets Tryz.prog 386 #[pt wb] w fun j c=>∃ (D':DskD),j=Vi 0∧DskCl D'∧D'.room=D.room∧Own w S [xt wb db sv rv,Res.dk db D' kf] c:=by
 refine zO Tryz.func386 O Tryz.ntmps386 g (zB (zF O (zA (zK (zB (zC O (zG O O (fun c b=>(zDI wb db sv rv c (b.give [0] O V)).mono ?_))))))))
 rintro _ h ⟨rfl,e⟩
 refine fq [0] O b e (zF O (zA (zB (zC O (ye O O O (zA (zT O (fun i=> ?_) (fun i=> ?_))))))))
 ·exact absurd O i
 refine zN (zB (zC O (zC O (zV O O (zI (o:=0) O O (zJ 1 (v:=pt db) O O O O (zG O O (fun c b=>(zFJ db _ _ c ‹_› qH (b.give [0] O V)).mono ?_))))))))
 rintro _ h ⟨D'1_,rfl,d,a,e⟩
 refine fq [0] O b e (zG O O (fun c b=>(zHU wb db sv rv c (b.give [0] O V)).mono ?_))
 rintro _ h ⟨rfl,e⟩
 refine fq [0] O b e (zF O (zA (zP (zm (v:=Vi 0) O O (fun c b=>⟨D'1_,O,d,a,b.sel [1,0] O V⟩)))))
theorem zAG{S:List Nat}(wb db:Nat)(sv rv:Value)(n:Nat)(w:World)(l:n<100)(h:Own w S [xt wb db sv rv] w):Rets Tryz.prog 372 #[pt wb,Vn n] w fun k c=>∃ (s:ByteArray),k= .string s∧kZ s∧s≠jk∧Own w S [xt wb db sv rv] c:=by
 refine zO Tryz.func372 O Tryz.ntmps372 h (zB (zF O (zA (zB (zC O (zV O O (zI (o:=1) O O (zJ 0 (v:=Vn 0) O O O O (zG O O (fun c d=>(zAH 0 c V).mono ?_))))))))))
 rintro _ i ⟨e,rfl,a,j⟩
 refine(?_:CL _ _ _ _ _ _ (Own w S [_])) i (d.qb j)
 refine zH8 O O qX O (zH8 O O qX O (zC O (zG O O (fun c d=>(zAH n c qH).mono ?_))))
 rintro _ i ⟨g,rfl,b,j⟩
 refine(?_:CL _ _ _ _ _ _ (Own w S [_])) i (d.qb j)
 refine zH8 O O qX O (zF O (zA (zP (zm (v:= .string ((((⟨#[119,46]⟩:ByteArray)++e)++(⟨#[46]⟩:ByteArray))++g)) O O (fun c d=>⟨(((⟨#[119,46]⟩:ByteArray)++e)++(⟨#[46]⟩:ByteArray))++g,O,zKF a b,zOS,d⟩)))))
theorem zFR{S:List Nat}(sb:Nat)(nm:ByteArray)(fi:Nat)(mv:Value)(ms:List Int)(w:World)(e:0<ms.length∧ms.length≤1000000)(a:Own w S [jF sb nm fi mv,vI mv ms] w):Rets Tryz.prog 367 #[pt sb] w fun c b=>c=Vi (zc ms (ms.length - 1))∧Own w S [jF sb nm fi mv,vI mv ms] b:=by
 refine zO Tryz.func367 O Tryz.ntmps367 a (zB (zF O (zA (yf qF qF (zR O za (zR O (zY O) (zR O (zL (o:=2) O) (zR O (zZ 0 (v:=mv) O O O) (zR O za (zR O (zY O) (zR O (zL (o:=2) O) (zR O (zZ 0 (v:=mv) O O O) (zR O (kT (pV 1 O) O) (zR O (jX O O (zt qG)) (zR O (kI (pV 1 O) 1 (ms.length - 1) O O qG qG) (zR O (zA6 (pV 1 O) 1 (ms.length - 1) 0 (fun _=>O) O O qG O) (zR O yA (xW (zP (zm (v:=Vi (zc ms (ms.length - 1))) O O (fun b d=>⟨O,d⟩)))))))))))))))))))))
theorem _root_.Go.Sc.qQ{p:Prop}(h:p:=by simp[Value.cells,pt]):p:=h
theorem _root_.Go.Sc.qR{p:Prop}(h:p:=by simp[cell1,P1]):p:=h
theorem zNs{S:List Nat}(wb db:Nat)(D:DskD)(kf:List (ByteArray×FilD))(w:World)(hk:DskCl D)(hl:kf.length=0)(hr:1000≤D.room)(ao:Own w S [xt wb db zW zW,Res.dk db D kf] w):Rets Tryz.prog 218 #[pt wb,zW] w fun u_ c=>∃ (sv mv:Value) (D':DskD) (sb:Nat) (nm s:ByteArray) (f:FilD),u_=Vi 0∧kZ nm∧s≠jk∧f.bs.length=0∧DskCl D'∧D'.room=D.room∧Own w S [xt wb db sv zW,vG sv [sb],jF sb nm 1 mv,vI mv ([0]:List Int),Res.dk db D' (yZ s f kf)] c:=by
 have ar:tot kf=0:=by rw[List.eq_nil_of_length_eq_zero hl];rfl
 refine zO Tryz.func218 O Tryz.ntmps218 ao (zB (zF O (zA (zB (zF O (zA (zK (zB (zC O (jJ qF O O (zC O (zA (zU (yQ (fun(k:Nat)=>[(0,pt wb),(5,xi),(17,zW),(18,Vj 0),(19,Vj k)]) (fun(k:Nat)=>k=0) (fun(k:Nat)=>[xt wb db zW zW,Res.dk db D kf]) (fun(k:Nat)=>0) (fun c a=>⟨0,⟨O,O,O,O,O,trivial⟩,O,a⟩) (fun k g hΦ=> ?_)))))))))))))))
 have au:=hΦ
 refine zB (zw O O O (zA (zK (zT O (fun c1=> ?_) (fun c1=> ?_)))))
 ·exact absurd c1 qG
 refine zu O (zMW (fun(sv mv:Value) (sb:Nat) (nm s:ByteArray) (D1:DskD) (f:FilD)=>[(0,pt wb)]) (fun(sv mv:Value) (sb:Nat) (nm s:ByteArray) (D1:DskD) (f:FilD)=>kZ nm∧f.bs.length=0∧DskOk D1∧D1.room=D.room∧s≠jk) (fun(sv mv:Value) (sb:Nat) (nm s:ByteArray) (D1:DskD) (f:FilD)=>[xt wb db sv zW,vG sv [sb],jF sb nm 1 mv,vI mv ([0]:List Int),Res.dk db D1 (yZ s f kf)]) ?_ (fun sv mv sb nm s D1 f g hΦ=> ?_))
 ·refine zB (zC O (zV O O (zI (o:=2) O O (zJ 0 (v:=zW) O O O O (jJ qF O O (yT O O O (zA (zT O (fun c2=> ?_) (fun c2=> ?_)))))))))
  ·refine zK (zHq (fun(D1:DskD) (s:ByteArray) (f:FilD)=>[(0,pt wb),(16,Vi 0)]) (fun(D1:DskD) (s:ByteArray) (f:FilD)=>f.bs.length=0∧DskOk D1∧D1.room=D.room∧s≠jk) (fun(D1:DskD) (s:ByteArray) (f:FilD)=>[xt wb db zW zW,Res.dk db D1 (yZ s f kf)]) ?_ (fun D1 s f g hΦ=> ?_))
   ·refine zd [0] O V qF (fun c a d=>zD 0 O za d (zD 1 O (zY O) d (zD 2 O (zL (o:=0) O) d (zD 3 O (zZ 0 (v:=pt db) O O O) d (zD 4 O za d (zM 5 O a (zG O O (fun c a=>(zAG wb db zW zW 1 c V (a.give [0] O V)).mono ?_))))))))
    rintro _ w1 ⟨aa,rfl,a6,a1,hO⟩
    refine fq [0] O a hO (zE [1] O V (fun c a d=>zM 6 O a (zG O O (fun c a=>(zEt db _ _ aa 0 zW [] c ‹_› a6 qH qH qH (a.give [0] O V) Rd.nil).mono ?_))))
    rintro _ w1 ⟨D'2_,ap,rfl,a7,a2,a3,hO⟩
    have av:=a3
    refine fq [0] O a hO (zE [0] O V (fun c a d=>zD 7 O yA d (zX (⟨D'2_,aa,ap,⟨O,O,trivial⟩,⟨by have h1:=zC4 (k:=aa) (l:=kf);have h2:([]:List UInt8).length=0:=rfl;omega,a7,a2,a1⟩,a⟩))))
   have u:=hΦ.1
   have a0:=hΦ.2.1
   have x:=hΦ.2.2.1
   have y:=hΦ.2.2.2
   refine zB (zC O (ye O O O (zA (zT O (fun c3=> ?_) (fun c3=> ?_)))))
   ·exact absurd O c3
   refine zN (zd [1] O V qF (fun c a d=>zD 0 O za d (zD 1 O za d (zD 2 O (zY O) d (zD 3 O (zL (o:=2) O) d (zD 5 O za d (zCB (i:=4) (j:=6) (k:=7) qF ?_ ?_ ?_)))))))
   ·refine zo 4 O a (zJ 0 (v:=zW) O O O O (zE [1] O V (fun c a d=>z7 6 7 ?_ ?_)))
    ·refine zo 6 O a (zG O O (fun c a=>(zAG wb db zW zW 1 c V (a.give [0] O V)).mono ?_))
     rintro _ w1 ⟨ad,rfl,h,q,hO⟩
     refine fq [0] O a hO (zE [0] O V (fun c a d=>zM 7 O a (yG (e:=3) (sz:=1) (vs:=[Vi 0]) qF O O qL V O (fun m=>zE [0] O V (fun c a d=>zD 8 O (xX (cs:=[.string ad,Vn 1,(.slice (some ⟨m,0,none⟩) 1 1)]) (z:=[yk,Vn 0,zW]) (pl:=[(0,1),(1,1),(2,1)]) qF qF) d (zM 9 O a (zj O O (fun b=>zE [0] O V (fun c a d=>zM 10 O a (yG (e:=544) (sz:=1) (vs:=[pt b]) qF O O qQ V O (fun r=>zE [0] O V (fun c a d=>zM 11 O a (yz 544 1 (yF (g:=P1) (sz:=1) (by':=8) (fun _=>O) (l:=[]) (l':=[b]) qR 5 qF O O O (fun c p=>Vec.sl (Own.holds p 4 _ O)) qH V O (fun n=>zE [0] O V (fun c a d=>zD 12 O (zY O) d (zD 13 O (zL (o:=2) O) d (zM 14 O a (zS (fun c a=>Own.qa (i:=5) O a) (fun ae=>(zi 1 O O O ae O (zE [0] O V (fun c a d=>zX (⟨n, .slice (some ⟨m,0,none⟩) 1 1,b,ad,s,D1,f,⟨O,trivial⟩,⟨h,u,a0,x,y⟩,a.sel [1,5,3,2,0] O V⟩))))))))))))))))))))))))
    refine zo 7 O a (yG (e:=3) (sz:=1) (vs:=[Vi 0]) qF O O qL V O (fun m=>zE [1] O V (fun c a d=>zM 6 O a (zG O O (fun c a=>(zAG wb db zW zW 1 c V (a.give [0] O V)).mono ?_)))))
    rintro _ w1 ⟨af,rfl,h,q,hO⟩
    refine fq [0] O a hO (zE [0] O V (fun c a d=>zD 8 O (xX (cs:=[.string af,Vn 1,(.slice (some ⟨m,0,none⟩) 1 1)]) (z:=[yk,Vn 0,zW]) (pl:=[(0,1),(1,1),(2,1)]) qF qF) d (zM 9 O a (zj O O (fun b=>zE [0] O V (fun c a d=>zM 10 O a (yG (e:=544) (sz:=1) (vs:=[pt b]) qF O O qQ V O (fun r=>zE [0] O V (fun c a d=>zM 11 O a (yz 544 1 (yF (g:=P1) (sz:=1) (by':=8) (fun _=>O) (l:=[]) (l':=[b]) qR 5 qF O O O (fun c p=>Vec.sl (Own.holds p 4 _ O)) qH V O (fun n=>zE [0] O V (fun c a d=>zD 12 O (zY O) d (zD 13 O (zL (o:=2) O) d (zM 14 O a (zS (fun c a=>Own.qa (i:=5) O a) (fun ag=>(zi 2 O O O ag O (zE [0] O V (fun c a d=>zX (⟨n, .slice (some ⟨m,0,none⟩) 1 1,b,af,s,D1,f,⟨O,trivial⟩,⟨h,u,a0,x,y⟩,a.sel [2,5,3,1,0] O V⟩)))))))))))))))))))))
   ·refine zo 6 O a (zG O O (fun c a=>(zAG wb db zW zW 1 c V (a.give [0] O V)).mono ?_))
    rintro _ w1 ⟨a4,rfl,h,q,hO⟩
    refine fq [0] O a hO (zE [0] O V (fun c a d=>z7 4 7 ?_ ?_))
    ·refine zo 4 O a (zJ 1 (v:=zW) O O O O (zE [0] O V (fun c a d=>zM 7 O a (yG (e:=3) (sz:=1) (vs:=[Vi 0]) qF O O qL V O (fun m=>zE [0] O V (fun c a d=>zD 8 O (xX (cs:=[.string a4,Vn 1,(.slice (some ⟨m,0,none⟩) 1 1)]) (z:=[yk,Vn 0,zW]) (pl:=[(0,1),(1,1),(2,1)]) qF qF) d (zM 9 O a (zj O O (fun b=>zE [0] O V (fun c a d=>zM 10 O a (yG (e:=544) (sz:=1) (vs:=[pt b]) qF O O qQ V O (fun r=>zE [0] O V (fun c a d=>(zM 11 O a (yz 544 1 (yF (g:=P1) (sz:=1) (by':=8) (fun _=>O) (l:=[]) (l':=[b]) qR 5 qF O O O (fun c p=>Vec.sl (Own.holds p 4 _ O)) qH V O (fun n=>zE [0] O V (fun c a d=>zD 12 O (zY O) d (zD 13 O (zL (o:=2) O) d (zM 14 O a (zS (fun c a=>Own.qa (i:=5) O a) (fun ah=>(zi 1 O O O ah O (zE [0] O V (fun c a d=>zX (⟨n, .slice (some ⟨m,0,none⟩) 1 1,b,a4,s,D1,f,⟨O,trivial⟩,⟨h,u,a0,x,y⟩,a.sel [1,5,3,2,0] O V⟩))))))))))))))))))))))))))
    refine zo 7 O a (yG (e:=3) (sz:=1) (vs:=[Vi 0]) qF O O qL V O (fun m=>zE [0] O V (fun c a d=>zD 8 O (xX (cs:=[.string a4,Vn 1,(.slice (some ⟨m,0,none⟩) 1 1)]) (z:=[yk,Vn 0,zW]) (pl:=[(0,1),(1,1),(2,1)]) qF qF) d (z7 4 9 ?_ ?_))))
    ·refine zo 4 O a (zJ 1 (v:=zW) O O O O (zE [0] O V (fun c a d=>zM 9 O a (zj O O (fun b=>zE [0] O V (fun c a d=>zM 10 O a (yG (e:=544) (sz:=1) (vs:=[pt b]) qF O O qQ V O (fun r=>zE [0] O V (fun c a d=>zM 11 O a (yz 544 1 (yF (g:=P1) (sz:=1) (by':=8) (fun _=>O) (l:=[]) (l':=[b]) qR 5 qF O O O (fun c p=>Vec.sl (Own.holds p 4 _ O)) qH V O (fun n=>zE [0] O V (fun c a d=>zD 12 O (zY O) d (zD 13 O (zL (o:=2) O) d (zM 14 O a (zS (fun c a=>Own.qa (i:=5) O a) (fun ai=>(zi 1 O O O ai O (zE [0] O V (fun c a d=>zX (⟨n, .slice (some ⟨m,0,none⟩) 1 1,b,a4,s,D1,f,⟨O,trivial⟩,⟨h,u,a0,x,y⟩,a.sel [1,5,3,2,0] O V⟩)))))))))))))))))))))
    refine zo 9 O a (zj O O (fun b=>zE [0] O V (fun c a d=>z7 4 10 ?_ ?_)))
    ·refine zo 4 O a (zJ 1 (v:=zW) O O O O (zE [0] O V (fun c a d=>zM 10 O a (yG (e:=544) (sz:=1) (vs:=[pt b]) qF O O qQ V O (fun r=>zE [0] O V (fun c a d=>zM 11 O a (yz 544 1 (yF (g:=P1) (sz:=1) (by':=8) (fun _=>O) (l:=[]) (l':=[b]) qR 5 qF O O O (fun c p=>Vec.sl (Own.holds p 4 _ O)) qH V O (fun n=>zE [0] O V (fun c a d=>zD 12 O (zY O) d (zD 13 O (zL (o:=2) O) d (zM 14 O a (zS (fun c a=>Own.qa (i:=5) O a) (fun aj=>(zi 1 O O O aj O (zE [0] O V (fun c a d=>zX (⟨n, .slice (some ⟨m,0,none⟩) 1 1,b,a4,s,D1,f,⟨O,trivial⟩,⟨h,u,a0,x,y⟩,a.sel [1,5,3,2,0] O V⟩))))))))))))))))))
    refine zo 10 O a (yG (e:=544) (sz:=1) (vs:=[pt b]) qF O O qQ V O (fun r=>zE [0] O V (fun c a d=>zM 4 O a (zJ 1 (v:=zW) O O O O (zE [0] O V (fun c a d=>zM 11 O a (yz 544 1 (yF (g:=P1) (sz:=1) (by':=8) (fun _=>O) (l:=[]) (l':=[b]) qR 5 qF O O O (fun c p=>Vec.sl (Own.holds p 4 _ O)) qH V O (fun n=>zE [0] O V (fun c a d=>zD 12 O (zY O) d (zD 13 O (zL (o:=2) O) d (zM 14 O a (zS (fun c a=>Own.qa (i:=5) O a) (fun ak=>(zi 1 O O O ak O (zE [0] O V (fun c a d=>zX (⟨n, .slice (some ⟨m,0,none⟩) 1 1,b,a4,s,D1,f,⟨O,trivial⟩,⟨h,u,a0,x,y⟩,a.sel [1,5,3,2,0] O V⟩))))))))))))))))))
   refine zo 7 O a (yG (e:=3) (sz:=1) (vs:=[Vi 0]) qF O O qL V O (fun m=>zE [1] O V (fun c a d=>z7 4 6 ?_ ?_)))
   ·refine zo 4 O a (zJ 0 (v:=zW) O O O O (zE [1] O V (fun c a d=>zM 6 O a (zG O O (fun c a=>(zAG wb db zW zW 1 c V (a.give [0] O V)).mono ?_)))))
    rintro _ w1 ⟨al,rfl,h,q,hO⟩
    refine fq [0] O a hO (zE [0] O V (fun c a d=>zD 8 O (xX (cs:=[.string al,Vn 1,(.slice (some ⟨m,0,none⟩) 1 1)]) (z:=[yk,Vn 0,zW]) (pl:=[(0,1),(1,1),(2,1)]) qF qF) d (zM 9 O a (zj O O (fun b=>zE [0] O V (fun c a d=>zM 10 O a (yG (e:=544) (sz:=1) (vs:=[pt b]) qF O O qQ V O (fun r=>zE [0] O V (fun c a d=>zM 11 O a (yz 544 1 (yF (g:=P1) (sz:=1) (by':=8) (fun _=>O) (l:=[]) (l':=[b]) qR 5 qF O O O (fun c p=>Vec.sl (Own.holds p 4 _ O)) qH V O (fun n=>zE [0] O V (fun c a d=>zD 12 O (zY O) d (zD 13 O (zL (o:=2) O) d (zM 14 O a (zS (fun c a=>Own.qa (i:=5) O a) (fun am=>(zi 2 O O O am O (zE [0] O V (fun c a d=>zX (⟨n, .slice (some ⟨m,0,none⟩) 1 1,b,al,s,D1,f,⟨O,trivial⟩,⟨h,u,a0,x,y⟩,a.sel [2,5,3,1,0] O V⟩)))))))))))))))))))))
   refine zo 6 O a (zG O O (fun c a=>(zAG wb db zW zW 1 c V (a.give [0] O V)).mono ?_))
   rintro _ w1 ⟨a8,rfl,h,q,hO⟩
   refine fq [0] O a hO (zE [0] O V (fun c a d=>zD 8 O (xX (cs:=[.string a8,Vn 1,(.slice (some ⟨m,0,none⟩) 1 1)]) (z:=[yk,Vn 0,zW]) (pl:=[(0,1),(1,1),(2,1)]) qF qF) d (z7 4 9 ?_ ?_)))
   ·refine zo 4 O a (zJ 2 (v:=zW) O O O O (zE [0] O V (fun c a d=>zM 9 O a (zj O O (fun b=>zE [0] O V (fun c a d=>zM 10 O a (yG (e:=544) (sz:=1) (vs:=[pt b]) qF O O qQ V O (fun r=>zE [0] O V (fun c a d=>zM 11 O a (yz 544 1 (yF (g:=P1) (sz:=1) (by':=8) (fun _=>O) (l:=[]) (l':=[b]) qR 5 qF O O O (fun c p=>Vec.sl (Own.holds p 4 _ O)) qH V O (fun n=>zE [0] O V (fun c a d=>zD 12 O (zY O) d (zD 13 O (zL (o:=2) O) d (zM 14 O a (zS (fun c a=>Own.qa (i:=5) O a) (fun an=>(zi 2 O O O an O (zE [0] O V (fun c a d=>zX (⟨n, .slice (some ⟨m,0,none⟩) 1 1,b,a8,s,D1,f,⟨O,trivial⟩,⟨h,u,a0,x,y⟩,a.sel [2,5,3,1,0] O V⟩)))))))))))))))))))))
   refine zo 9 O a (zj O O (fun b=>zE [0] O V (fun c a d=>z7 4 10 ?_ ?_)))
   ·refine zo 4 O a (zJ 2 (v:=zW) O O O O (zE [0] O V (fun c a d=>zM 10 O a (yG (e:=544) (sz:=1) (vs:=[pt b]) qF O O qQ V O (fun r=>zE [0] O V (fun c a d=>zM 11 O a (yz 544 1 (yF (g:=P1) (sz:=1) (by':=8) (fun _=>O) (l:=[]) (l':=[b]) qR 5 qF O O O (fun c p=>Vec.sl (Own.holds p 4 _ O)) qH V O (fun n=>zE [0] O V (fun c a d=>zD 12 O (zY O) d (zD 13 O (zL (o:=2) O) d (zM 14 O a (zS (fun c a=>Own.qa (i:=5) O a) (fun ab=>(zi 2 O O O ab O (zE [0] O V (fun c a d=>zX (⟨n, .slice (some ⟨m,0,none⟩) 1 1,b,a8,s,D1,f,⟨O,trivial⟩,⟨h,u,a0,x,y⟩,a.sel [2,5,3,1,0] O V⟩))))))))))))))))))
   refine zo 10 O a (yG (e:=544) (sz:=1) (vs:=[pt b]) qF O O qQ V O (fun r=>zE [0] O V (fun c a d=>zM 4 O a (zJ 2 (v:=zW) O O O O (zE [0] O V (fun c a d=>zM 11 O a (yz 544 1 (yF (g:=P1) (sz:=1) (by':=8) (fun _=>O) (l:=[]) (l':=[b]) qR 5 qF O O O (fun c p=>Vec.sl (Own.holds p 4 _ O)) qH V O (fun n=>zE [0] O V (fun c a d=>zD 12 O (zY O) d (zD 13 O (zL (o:=2) O) d (zM 14 O a (zS (fun c a=>Own.qa (i:=5) O a) (fun ac=>(zi 2 O O O ac O (zE [0] O V (fun c a d=>zX (⟨n, .slice (some ⟨m,0,none⟩) 1 1,b,a8,s,D1,f,⟨O,trivial⟩,⟨h,u,a0,x,y⟩,a.sel [2,5,3,1,0] O V⟩))))))))))))))))))
  exact absurd O c2
 have aq:=hΦ.1
 have u:=hΦ.2.1
 have a0:=hΦ.2.2.1
 have x:=hΦ.2.2.2.1
 have y:=hΦ.2.2.2.2
 have aw:=zAw (k:=s) (f:=f) (l:=kf)
 refine zB (zC O (zV O O (zI (o:=0) O O (zJ 0 (v:=pt db) O O O O (zG O O (fun c a=>(zFJ db D1 (yZ s f kf) c ‹_› qH (a.give [4] O V)).mono ?_))))))
 rintro _ w1 ⟨D'9_,rfl,a9,a5,hO⟩
 refine fq [4] O a hO (zF O (zA (zP (zm (v:=Vi 0) O O (fun c a=>⟨sv,mv,D'9_,sb,nm,s,f,O,aq,y,u,a9,a5.trans x,a⟩)))))
theorem zM6{S:List Nat}(db:Nat)(D:DskD)(kf:List (ByteArray×FilD))(w:World)(hk:DskCl D)(hl:kf.length=0)(hr:1000≤D.room)(y:Own w S [Res.dk db D kf] w):Rets Tryz.prog 112 #[pt db] w fun u_ i=>∃ (sv mv:Value) (D':DskD) (wb sb:Nat) (nm fn:ByteArray) (f:FilD),u_= .tuple #[pt wb,Vi 0]∧kZ nm∧fn≠jk∧f.bs.length=0∧DskCl D'∧D'.room=D.room∧Own w S [xt wb db sv zW,vG sv [sb],jF sb nm 1 mv,vI mv ([0]:List Int),Res.dk db D' (yZ fn f kf)] i:=by
 refine zO Tryz.func112 O Tryz.ntmps112 y (zB (zF O (zF O (zA (zK (zB (zC O (yE qF O O O (zA (yW O (zN (zK (zB (zC O (zG O O (fun i a=>(zIU db _ _ i ‹_› (a.give [0] O V)).mono ?_))))))))))))))))
 rintro _ x ⟨rfl,n⟩
 refine fq [0] O a n (zA (yW O (zN (zB (zC O (yJ (cs:=[pt db,Vn 0,zW,zW,Vn 1,yC]) (z:=[.pointer none,Vn 0,zW,zW,Vn 0,yC]) (pl:=[(0,1),(1,1),(2,1),(3,1),(4,1),(5,1)]) qF qF O (zj O O (fun j=>zF O (zA (zB (zF O (zA (zK (zB (zC O (zG O O (fun i a=>(zDb db _ _ i ‹_› qH (a.give [0] O V)).mono ?_)))))))))))))))))
 rintro m x ⟨_,b,rfl,o,n⟩
 refine fq [0] O a n (zn (pV 2 O) O O (zC O (zA (zU (yQ (fun(k:Nat)=>[(4,pt j),(5,zW),(20,m),(21,Vj b.length),(22,Vj k)]) (fun(k:Nat)=>k=0) (fun(k:Nat)=>[xt j db zW zW,Res.dk db D kf,Res.vec 9 1 m b.length (b.flatMap S1)]) (fun(k:Nat)=>0) (fun i a=>⟨0,⟨O,O,O,O,O,trivial⟩,O,a⟩) (fun k g hΦ=> ?_))))))
 have a1:=hΦ
 have a2:b.length=0:=by rw[o.length_eq,List.length_map];exact hl
 refine zB (zw O O O (zA (zK (zT O (fun c3=> ?_) (fun c3=> ?_)))))
 ·exact absurd c3 qG
 refine zu O (zB (zC O (zG O O (fun i a=>(zQW i).mono ?_))))
 rintro _ x ⟨rfl,n⟩
 refine(?_:CL _ _ _ _ _ _ (Own w S [_,_,_])) x (a.qb n)
 refine zA (zK (zB (zC O (zC O (zG O O (fun i a=>(zNs j db _ _ i ‹_› qH qH (a.give [0,1] O V)).mono ?_))))))
 rintro _ x ⟨p,q,D'5_,r,s,u,a0,rfl,l,c,d,e,h,n⟩
 refine fq [0,1] O a n (zF O (zA (zB (zC O (ye O O O (zA (zT O (fun c4=> ?_) (fun c4=> ?_))))))))
 ·exact absurd O c4
 refine zN (zB (zC O (zF O (zF O (zA (zP (yh (v:=pt j) (v':=Vi 0) O O O (fun i a=>⟨p,q,D'5_,j,r,s,u,a0,O,l,c,d,e,h,a.sel [1,2,3,4,5] O V⟩))))))))
theorem zN1{S:List Nat}(wb db:Nat)(sv rv mv:Value)(segs:List Nat)(recs:List (Value×List UInt8))(nm:ByteArray)(fi:Nat)(ms:List Int)(D:DskD)(kf:List (ByteArray×FilD))(lv:Value)(l:List (Value×List UInt8))(w:World)(hl:l.length=1)(hb:∀ p∈l,p.2.length≤5000)(hk:DskCl D)(az:kf.length<4000)(hs:0<segs.length∧segs.length≤1000)(b0:recs.length<98)(hm:0<ms.length∧ms.length≤1000)(hn:kZ nm)(hr:((tot kf+6000:Nat):Int)≤D.room)(he:0≤zc ms (ms.length - 1)∧zc ms (ms.length - 1)<512)(ao:Own w S [xt wb db sv rv,vG sv segs,vB rv recs,jF (zc segs (segs.length - 1)) nm fi mv,vI mv ms,Res.dk db D kf] w)(a0:Rd w S (Res.sl lv l.length (l.flatMap pv)))(s:∀ p∈l,BsRd p w S):Rets Tryz.prog 403 #[pt wb,lv] w fun u_ c=>∃ (sv' rv' mv':Value) (ms':List Int) (recs':List (Value×List UInt8)) (D':DskD) (f:FilD),u_=Vi 0∧recs'.length=recs.length+1∧DskOk D'∧D'.room=D.room∧f.bs.length≤((zl nm kf).getD kP).bs.length+6000∧(0<ms'.length∧ms'.length=ms.length+1)∧(0≤zc ms' (ms'.length - 1)∧zc ms' (ms'.length - 1)≤6000)∧Own w S [xt wb db sv' rv',vG sv' segs,vB rv' recs',jF (zc segs (segs.length - 1)) nm fi mv',vI mv' ms',Res.dk db D' (yZ nm f kf)] c:=by
 refine zO Tryz.func403 O Tryz.ntmps403 ao (zB (zF O (zA (zK (zB (zC O (zG O O (fun c a=>(zDI wb db sv rv c (a.give [0] O V)).mono ?_))))))))
 rintro _ w1 ⟨rfl,hO⟩
 refine fq [0] O a hO (zF O (zA (zB (zC O (ye O O O (zA (zT O (fun c1=> ?_) (fun c1=> ?_))))))))
 ·exact absurd O c1
 refine zN (zK (zB (zC O (zn (pR a0) O O (zC O (zA (zU (yQ (fun(k:Nat)=>[(0,pt wb),(1,lv),(25,lv),(26,Vj l.length),(27,Vj k)]) (fun(k:Nat)=>k≤l.length) (fun(k:Nat)=>[vG sv segs,vB rv recs,jF (zc segs (segs.length - 1)) nm fi mv,vI mv ms,Res.dk db D kf,xt wb db sv rv]) (fun(k:Nat)=>l.length - k) (fun c a=>⟨0,⟨O,O,O,O,O,trivial⟩,Nat.zero_le _,a⟩) (fun k g hΦ=>(zB (zw O O O (zA (zK (zT O (fun c2=> ?_) (fun c2=> ?_)))))))))))))))
 ·have b1:=hb _ (zy (l:=l) (j:=k) qG)
  refine zN (zK (zU (zB (yL (pR a0) 1 k O O O qG O (xC (pR a0) 1 k 0 (fun _=>O) O O qG O O (zF O (zA (zB (zC O (zn (pR (s _ (zy qG))) O O (yX O O O (zA (zT O (fun c3=> ?_) (fun c3=> ?_))))))))))))))
  ·exact absurd c3 qG
  refine zN (ze (zr O O (zt qG) O (zC O (zx (fun c a=>⟨k+1,⟨O,O,O,O,O,trivial⟩,qG,a,qG⟩)))))
 refine zu O (zK (zB (zC O (zn (pR a0) O O (yT O O O (zA (zT O (fun c4=> ?_) (fun c4=> ?_))))))))
 ·exact absurd c4 qG
 refine zN (zB (zF O (zA (zK (zB (zC O (zV O O (zI (o:=2) O O (zJ 5 (v:=sv) O O O O (zn (pV 0 O) O O (zF O (zA (zB (zC O (yX O O O (zC O (yB (q:=0<((segs.length:Nat):Int)) 10 2 [55,54,53,52,51,50,49,48,47,46] ((zc ms (ms.length - 1))<512) O O O O O O trivial O (fun r=> ?_) (fun am=> ?_))))))))))))))))))
 ·refine zQ O (gT r) (zC O (zQ O (gT r) (zV O O (zQ O (gT r) (zI (o:=2) O O (zQ O (gT r) (zJ 5 (v:=sv) O O O O (zQ O (gT r) (zC O (zQ O (gT r) (y7 O O (zt qG) O (zQ O (gT r) (yL (pV 0 O) 1 (segs.length - 1) O O qG qG O (zQ O (gT r) (xC (pV 0 O) 1 (segs.length - 1) 0 (fun _=>O) O O qG O O (zQ O (gT r) (zG O O (fun c a=>(zFR (zc segs (segs.length - 1)) nm fi mv ms c qH (a.give [2,3] O V)).mono ?_))))))))))))))))))
  rintro _ w1 ⟨rfl,hO⟩
  refine fq [2,3] O a hO (zQ O (gT r) (zw O O O (z8 O (fun _ a=>a.sel [0,1,4,5,2,3] O V))))
 refine zA (zT O (fun c5=> ?_) (fun c5=> ?_))
 ·refine ze (zC O (zV O O (zI (o:=2) O O (zJ 5 (v:=sv) O O O O (zC O (y7 O O (zt qG) O (yL (pV 0 O) 1 (segs.length - 1) O O qG qG O (xC (pV 0 O) 1 (segs.length - 1) 0 (fun _=>O) O O qG O O (zF O (zA (jW (fun(fr:Nat)=>[(0,pt wb),(1,lv),(8,pt (zc segs (segs.length - 1))),(10,Vj fr),(11,mv)]) (fun(fr:Nat)=>(fr:Int)=zc ms (ms.length - 1)) (fun(fr:Nat)=>[xt wb db sv rv,vG sv segs,vB rv recs,jF (zc segs (segs.length - 1)) nm fi mv,vI mv ms,Res.dk db D kf]) ?_ (fun fr g hΦ=> ?_))))))))))))
  ·refine zd [0,1,2,3,4,5] O V qF (fun c a n=>zD 0 O za n (zD 2 O za n (zD 3 O (zY O) n (zD 4 O (zL (o:=2) O) n (zD 5 O (zZ 2 (v:=mv) O O O) n (zM 1 O a (zG O O (fun c a=>(zFR (zc segs (segs.length - 1)) nm fi mv ms c qH (a.give [2,3] O V)).mono ?_))))))))
   rintro _ w1 ⟨rfl,hO⟩
   refine fq [2,3] O a hO (zE [0,1,4,5,2,3] O V (fun c a n=>zD 6 O yA n (zD 7 O yA n (zX (⟨(zc ms (ms.length - 1)).toNat,⟨O,O,O,(by show Vi _=Vj _;unfold Vi Vj;congr 1;omega),O,trivial⟩,qG,a.sel [3,0,1,4,5,2] O V⟩)))))
  have b2:=hΦ
  refine zB (zF O (zA (zK (zB (zC O (zn (pR a0) O O (zC O (zA (zU (zAy (fun(k:Nat) (a1:Value) (y:List Int) (bv:Value) (b:List UInt8)=>[(0,pt wb),(1,lv),(8,pt (zc segs (segs.length - 1))),(10,Vj fr),(11,a1),(12,bv),(80,lv),(81,Vj l.length),(82,Vj k)]) (fun(k:Nat) (a1:Value) (y:List Int) (bv:Value) (b:List UInt8)=>(k≤l.length∧y.length=ms.length+k)∧b.length≤5100*k∧(0<k→zc y (y.length - 1)=(fr:Int)+b.length)) (fun(k:Nat) (a1:Value) (y:List Int) (bv:Value) (b:List UInt8)=>[xt wb db sv rv,vG sv segs,vB rv recs,jF (zc segs (segs.length - 1)) nm fi mv,vI a1 y,Res.dk db D kf,vY bv b]) (fun(k:Nat) (a1:Value) (y:List Int) (bv:Value) (b:List UInt8)=>l.length - k) (fun c a=>⟨0,mv,ms,zW,[],⟨O,O,O,O,O,O,O,O,O,trivial⟩,⟨⟨Nat.zero_le _,O⟩,Nat.zero_le _,fun h=>absurd h qG⟩,(zq a 5 1)⟩) (fun k a1 y bv b g hΦ=> ?_)))))))))))
  have b3:=hΦ.1.1
  have ap:=hΦ.1.2
  have b4:=hΦ.2.1
  have aq:=hΦ.2.2
  refine zB (zw O O O (zA (zK (zT O (fun c6=> ?_) (fun c6=> ?_)))))
  ·have av:=hb _ (zy (l:=l) (j:=k) qG)
   have ar:(kD ((1+recs.length)+k)).length≤9:=jq qG
   have aw:([]++kD ((1+recs.length)+k)).length≤9:=ar
   refine zN (zK (zU (zB (zC O (yL (pR a0) 1 k O O O qG O (xC (pR a0) 1 k 0 (fun _=>O) O O qG O O (zF O (zF O (zA (zB (zC O (zG O O (fun c a=>((zBh wb db sv rv recs c qH (a.give [0,2] O V)).mono ?_))))))))))))))
   rintro _ w1 ⟨rfl,hO⟩
   refine fq [0,2] O a hO (zC O (yi qF O (yy qG) O ?_ qF))
   refine zr O O (yy qG) O (zG O O (fun c a=>(zBu zW [] ((1+recs.length)+k) c qH qH Rd.nil).mono ?_))
   rintro b5 w1 ⟨_,rfl,hO⟩
   refine(?_:CL _ _ _ _ _ _ (Own w S [_,_,_,_,_,_,_,_])) w1 (a.qb hO)
   refine zC O (zAb (l:=([]++kD ((1+recs.length)+k))) (l':=(zc l k).2) 7 qF O O O (fun c z=>Own.rd (s _ (zy qG)) z) qH O (fun au=>zG O O (fun c a=>(zFO au (([]++kD ((1+recs.length)+k))++((zc l k).2)) c qK (a.qj 7 O)).mono ?_)))
   rintro _ w1 ⟨af,x,rfl,a6,hO⟩
   have b6:x.length≤5017:=by rw[a6];simp only[List.length_append,List.length_nil];omega
   have b7:(b++x).length=b.length+x.length:=List.length_append
   refine(?_:CL _ _ _ _ _ _ (Own w S [_,_,_,_,_,_,_,_,_])) w1 (a.qb hO)
   refine zC O (zb (vs:=[af,Vi 0]) O O O (zb (vs:=[af,Vi 0]) O O O (zF O (zF O (zA (zB (zC O (zC O (zAb (l:=b) (l':=x) 4 qF O O O (fun c z=>Vec.sl (Own.holds z 8 _ O)) qH O (fun ag=>zF O (zA (ze (zC O (zC O (zC O (zn (pV 4 O) O O (zr O O (zt qG) O (yG (e:=3) (sz:=1) (vs:=[Vj (fr+((b++x).length))]) qF O O qL V O (fun ax=>yF (g:=I1) (sz:=1) (by':=8) (fun _=>O) (l:=y) (l':=[((fr+((b++x).length):Nat):Int)]) qO 2 qF O O O (fun c z=>Vec.sl (Own.holds z 9 _ O)) qH V O (fun ah=>zF O (zA (ze (zr O O (zt qG) O (zC O (zx (fun c a=>⟨k+1,ah,y++[((fr+(b++x).length:Nat):Int)],ag,b++x,⟨O,O,O,O,O,O,O,O,O,trivial⟩,⟨⟨by omega,by rw[List.length_append,ap];rfl⟩,by rw[List.length_append];omega,fun _=>by rw[zEm];omega⟩,a.sel [5,0,6,1,2,3,4] O V,qG⟩))))))))))))))))))))))))))
  refine zu O (zK (zK (zd [0,1,2,3,4,6] O V qF (fun c a n=>zD 0 O za n (zD 1 O za n (zD 2 O (zY O) n (zD 3 O (zL (o:=0) O) n (zD 4 O (zZ 0 (v:=pt db) O O O) n (zD 5 O za n (zD 6 O (zY O) n (zD 7 O (zL (o:=0) O) n (zD 8 O (zZ 3 (v:= .string nm) O O O) n (zD 9 O za n (zD 10 O za n (zM 11 O a (zG O O (fun c a=>(zEt db _ _ nm fr bv b c ‹_› ‹_› qH qH qH (a.give [5] O V) (a.rdVec 6 O [5] O O)).mono ?_)))))))))))))))))
  rintro _ w1 ⟨D'4_,ai,rfl,a5,a3,ab,hO⟩
  refine fq [5] O a hO (zE [0,1,2,3,4,5] O V (fun c a n=>zM 12 O a (zG O O (fun c a=>(zHU wb db sv rv c (a.give [0] O V)).mono ?_))))
  rintro _ w1 ⟨rfl,hO⟩
  refine fq [0] O a hO (zE [6,0,1,2,3,4] O V (fun c a n=>zD 13 O yA n (zX ((?_:C _ _ _ _ _ _ _ (Own w S [_,_,_,_,_,_,_])) _ a))))
  refine zB (zC O (ye O O O (zA (zT O (fun c7=> ?_) (fun c7=> ?_)))))
  ·exact absurd O c7
  refine zN (zK (yf qF qF (zR O za (zR O (zY O) (zR O (zL (o:=2) O) (zR O (zZ 6 (v:=sv) O O O) (zR O (kT (pV 0 O) O) (zR O (zMV O O) (zR O za (zEe (q:=((segs.length:Nat):Int)=0) 14 6 [146,145,144,143,142,141,140,139,138,137,136,135,134,133] (false=true) O O O O O O trivial O (fun d=> ?_) (fun an=> ?_)))))))))))
  ·refine yV O (gF d) (zR O za (yV O (gF d) (zR O (zY O) (yV O (gF d) (zR O (zL (o:=2) O) (yV O (gF d) (zR O (zZ 6 (v:=sv) O O O) (yV O (gF d) (zR O za (yV O (gF d) (zR O (zY O) (yV O (gF d) (zR O (zL (o:=2) O) (yV O (gF d) (zR O (zZ 6 (v:=sv) O O O) (yV O (gF d) (zR O (kT (pV 0 O) O) (yV O (gF d) (zR O (jX O O (zt qG)) (yV O (gF d) (zR O (kI (pV 0 O) 1 (segs.length - 1) O O qG qG) (yV O (gF d) (zR O (zA6 (pV 0 O) 1 (segs.length - 1) 0 (fun _=>O) O O qG O) (yV O (gF d) (zR O za (yV O (gF d) (zR O (zLa (t':=546) qF qF O O qF) (zCq (y0 _)))))))))))))))))))))))))))))
  refine xW (zT O (fun c8=> ?_) (fun c8=> ?_))
  ·exact absurd c8 (by intro q;rcases q with q|q;omega;cases q)
  refine zN (zB (zC O (zC O (zV O O (zI (o:=2) O O (zS (fun c a=>Own.qa (i:=3) O a) (fun aj=>(zi (cs:=[.string nm,Vn fi,mv]) 2 O O O aj O (zA (zK (zB (zC O (zn (pR a0) O O (zC O (zA (zU (xP (fun(j:Nat) (u:Value) (m:List (Value×List UInt8))=>[(0,pt wb),(162,lv),(163,Vj l.length),(164,Vj j)]) (fun(j:Nat) (u:Value) (m:List (Value×List UInt8))=>j≤l.length∧m.length=recs.length+j) (fun(j:Nat) (u:Value) (m:List (Value×List UInt8))=>[xt wb db sv u,vG sv segs,vB u m,jF (zc segs (segs.length - 1)) nm fi a1,vI a1 y,Res.dk db D'4_ (yZ nm ai kf)]) (fun(j:Nat) (u:Value) (m:List (Value×List UInt8))=>l.length - j) (fun c a=>⟨0,rv,recs,⟨O,O,O,O,trivial⟩,⟨Nat.zero_le _,O⟩,a.sel [6,0,1,2,3,5] O V⟩) (fun j u m g hΦ=> ?_))))))))))))))))))
  have b8:=hΦ.1
  have ac:=hΦ.2
  refine zB (zw O O O (zA (zK (zT O (fun c9=> ?_) (fun c9=> ?_)))))
  ·have ay:=hb _ (zy (l:=l) (j:=j) qG)
   refine zN (zK (zU (zB (yL (pR a0) 1 j O O O qG O (xC (pR a0) 1 j 0 (fun _=>O) O O qG O O (zF O (zA (zd [1,3,4,5] O V qF (fun c a n=>zD 0 O za n (zD 1 O za n (zD 2 O (zY O) n (zD 3 O (zL (o:=3) O) n (zD 5 O za n (z7 4 6 ?_ ?_))))))))))))))
   ·refine zo 4 O a (zJ 0 (v:=u) O O O O (zE [1,3,4,5] O V (fun c a n=>zM 6 O a (zG O O (fun c a=>(y1 ((zc l j).1) ((zc l j).2) c qI (a.rd0 (s _ (zy qG)))).mono ?_)))))
    rintro ad w1 ⟨_,rfl,hO⟩
    refine(?_:CL _ _ _ _ _ _ (Own w S [_,_,_,_,_,_,_])) w1 (a.qb hO)
    refine zE [1,3,4,5] O V (fun c a n=>zM 7 O a (zS (fun c a=>Own.qa (i:=6) O a) (fun a7=>(kg (e:=73) (vs:=[ad]) qF O O (zH a7 zh) V O (fun a8=>zE [1,3,4,5] O V (fun c a n=>zM 8 O a (yF (g:=pv) (sz:=1) (by':=24) (fun _=>O) (l:=m) (l':=[(ad,((zc l j).2))]) (all_cons ((zH a7 zh)) qJ) 2 qF O O O (fun c z=>Vec.sl (Own.holds z 7 _ O)) qH V O (fun a2=>zE [1,3,4,5] O V (fun c a n=>zD 9 O (zY O) n (zD 10 O (zL (o:=3) O) n (zM 11 O a (zS (fun c a=>Own.qa (i:=2) O a) (fun ak=>(zi (cs:=[pt db,Vn 0,sv,u,Vn 1,yC]) 0 O O O ak O (zE [1,3,4,5] O V (fun c a n=>zX ((?_:C _ _ _ _ _ _ _ (Own w S [_,_,_,_,_,_,_,_])) _ a)))))))))))))))))
    refine ze (zr O O (zt qG) O (zC O (zx (fun c a=>⟨j+1,a2,m++[(ad,(zc l j).2)],⟨O,O,O,O,trivial⟩,⟨by omega,by rw[List.length_append,ac];rfl⟩,a.sel [0,1,2,3,4,5] O V,qG⟩))))
   refine zo 6 O a (zG O O (fun c a=>(y1 ((zc l j).1) ((zc l j).2) c qI (a.rd0 (s _ (zy qG)))).mono ?_))
   rintro a4 w1 ⟨_,rfl,hO⟩
   refine(?_:CL _ _ _ _ _ _ (Own w S [_,_,_,_,_,_,_])) w1 (a.qb hO)
   refine zE [1,3,4,5] O V (fun c a n=>z7 4 7 ?_ ?_)
   ·refine zo 4 O a (zJ 0 (v:=u) O O O O (zE [1,3,4,5] O V (fun c a n=>zM 7 O a (zS (fun c a=>Own.qa (i:=6) O a) (fun a9=>(kg (e:=73) (vs:=[a4]) qF O O (zH a9 zh) V O (fun a8=>zE [1,3,4,5] O V (fun c a n=>zM 8 O a (yF (g:=pv) (sz:=1) (by':=24) (fun _=>O) (l:=m) (l':=[(a4,((zc l j).2))]) (all_cons ((zH a9 zh)) qJ) 2 qF O O O (fun c z=>Vec.sl (Own.holds z 7 _ O)) qH V O (fun a2=>zE [1,3,4,5] O V (fun c a n=>zD 9 O (zY O) n (zD 10 O (zL (o:=3) O) n (zM 11 O a (zS (fun c a=>Own.qa (i:=2) O a) (fun al=>(zi (cs:=[pt db,Vn 0,sv,u,Vn 1,yC]) 0 O O O al O (zE [1,3,4,5] O V (fun c a n=>zX ((?_:C _ _ _ _ _ _ _ (Own w S [_,_,_,_,_,_,_,_])) _ a)))))))))))))))))))
    refine ze (zr O O (zt qG) O (zC O (zx (fun c a=>⟨j+1,a2,m++[(a4,(zc l j).2)],⟨O,O,O,O,trivial⟩,⟨by omega,by rw[List.length_append,ac];rfl⟩,a.sel [0,1,2,3,4,5] O V,qG⟩))))
   refine zo 7 O a (zS (fun c a=>Own.qa (i:=6) O a) (fun aa=>(kg (e:=73) (vs:=[a4]) qF O O (zH aa zh) V O (fun a8=>zE [1,3,4,5] O V (fun c a n=>zM 4 O a (zJ 0 (v:=u) O O O O (zE [1,3,4,5] O V (fun c a n=>zM 8 O a (yF (g:=pv) (sz:=1) (by':=24) (fun _=>O) (l:=m) (l':=[(a4,((zc l j).2))]) (all_cons ((zH aa zh)) qJ) 2 qF O O O (fun c z=>Vec.sl (Own.holds z 7 _ O)) qH V O (fun a2=>zE [1,3,4,5] O V (fun c a n=>zD 9 O (zY O) n (zD 10 O (zL (o:=3) O) n (zM 11 O a (zS (fun c a=>Own.qa (i:=2) O a) (fun ae=>(zi (cs:=[pt db,Vn 0,sv,u,Vn 1,yC]) 0 O O O ae O (zE [1,3,4,5] O V (fun c a n=>zX ((?_:C _ _ _ _ _ _ _ (Own w S [_,_,_,_,_,_,_,_])) _ a)))))))))))))))))))
   refine ze (zr O O (zt qG) O (zC O (zx (fun c a=>⟨j+1,a2,m++[(a4,(zc l j).2)],⟨O,O,O,O,trivial⟩,⟨by omega,by rw[List.length_append,ac];rfl⟩,a.sel [0,1,2,3,4,5] O V,qG⟩))))
  refine zu O (zB (zF O (zA (zP (zm (v:=Vi 0) O O (fun c a=>⟨sv,u,a1,y,m,D'4_,ai,O,qG,a5,a3,qG,⟨by omega,by omega⟩,(by have:=aq qG;omega),a⟩))))))
 exact absurd ⟨by omega,he.2⟩ c5
theorem zNq{S:List Nat}(wb db:Nat)(sv rv mv:Value)(segs:List Nat)(recs:List (Value×List UInt8))(nm:ByteArray)(fi:Nat)(ms:List Int)(D:DskD)(kf:List (ByteArray×FilD))(lv:Value)(l:List (Value×List UInt8))(w:World)(hl:l.length=1)(hb:∀ p∈l,p.2.length≤5000)(hk:DskCl D)(bd:kf.length<4000)(hs:0<segs.length∧segs.length≤1000)(bf:recs.length<98)(hm:0<ms.length∧ms.length≤1000)(hn:kZ nm)(hr:((tot kf+6000:Nat):Int)≤D.room)(he:512≤zc ms (ms.length - 1))(b0:Own w S [xt wb db sv rv,vG sv segs,vB rv recs,jF (zc segs (segs.length - 1)) nm fi mv,vI mv ms,Res.dk db D kf] w)(a6:Rd w S (Res.sl lv l.length (l.flatMap pv)))(x:∀ p∈l,BsRd p w S):Rets Tryz.prog 403 #[pt wb,lv] w fun u_ c=>∃ (r:Nat) (s:ByteArray) (sv' rv' mv':Value) (ms':List Int) (recs':List (Value×List UInt8)) (D':DskD) (f:FilD),u_=Vi 0∧recs'.length=recs.length+1∧DskOk D'∧D'.room=D.room∧f.bs.length≤((zl s kf).getD kP).bs.length+6000∧(0<ms'.length∧ms'.length=2)∧(0≤zc ms' (ms'.length - 1)∧zc ms' (ms'.length - 1)≤6000)∧kZ s∧Own w S [xt wb db sv' rv',vG sv' (segs++[r]),vB rv' recs',jF r s (1+recs.length) mv',vI mv' ms',Res.dk db D' (yZ s f kf)] c:=by
 refine zO Tryz.func403 O Tryz.ntmps403 b0 (zB (zF O (zA (zK (zB (zC O (zG O O (fun c a=>(zDI wb db sv rv c (a.give [0] O V)).mono ?_))))))))
 rintro _ w1 ⟨rfl,hO⟩
 refine fq [0] O a hO (zF O (zA (zB (zC O (ye O O O (zA (zT O (fun c1=> ?_) (fun c1=> ?_))))))))
 ·exact absurd O c1
 refine zN (zK (zB (zC O (zn (pR a6) O O (zC O (zA (zU (yQ (fun(k:Nat)=>[(0,pt wb),(1,lv),(25,lv),(26,Vj l.length),(27,Vj k)]) (fun(k:Nat)=>k≤l.length) (fun(k:Nat)=>[vG sv segs,vB rv recs,jF (zc segs (segs.length - 1)) nm fi mv,vI mv ms,Res.dk db D kf,xt wb db sv rv]) (fun(k:Nat)=>l.length - k) (fun c a=>⟨0,⟨O,O,O,O,O,trivial⟩,Nat.zero_le _,a⟩) (fun k g hΦ=>(zB (zw O O O (zA (zK (zT O (fun c2=> ?_) (fun c2=> ?_)))))))))))))))
 ·have bg:=hb _ (zy (l:=l) (j:=k) qG)
  refine zN (zK (zU (zB (yL (pR a6) 1 k O O O qG O (xC (pR a6) 1 k 0 (fun _=>O) O O qG O O (zF O (zA (zB (zC O (zn (pR (x _ (zy qG))) O O (yX O O O (zA (zT O (fun c3=> ?_) (fun c3=> ?_))))))))))))))
  ·exact absurd c3 qG
  refine zN (ze (zr O O (zt qG) O (zC O (zx (fun c a=>⟨k+1,⟨O,O,O,O,O,trivial⟩,qG,a,qG⟩)))))
 refine zu O (zK (zB (zC O (zn (pR a6) O O (yT O O O (zA (zT O (fun c4=> ?_) (fun c4=> ?_))))))))
 ·exact absurd c4 qG
 refine zN (zB (zF O (zA (zHq (fun(r:Nat) (y:Value) (s:ByteArray)=>[(0,pt wb),(1,lv),(8,pt r)]) (fun(r:Nat) (y:Value) (s:ByteArray)=>kZ s) (fun(r:Nat) (y:Value) (s:ByteArray)=>[xt wb db sv rv,vG sv segs,vB rv recs,jF (zc segs (segs.length - 1)) nm fi mv,jF r s (1+recs.length) y,vI y ([0]:List Int),Res.dk db D kf]) ?_ (fun r y s g hΦ=> ?_)))))
 ·refine zB (zC O (zV O O (zI (o:=2) O O (zJ 5 (v:=sv) O O O O (zn (pV 0 O) O O (zF O (zA (zB (zC O (yX O O O (zC O (yB (q:=0<((segs.length:Nat):Int)) 10 2 [55,54,53,52,51,50,49,48,47,46] ((zc ms (ms.length - 1))<512) O O O O O O trivial O (fun u=> ?_) (fun ax=> ?_)))))))))))))
  ·refine zQ O (gT u) (zC O (zQ O (gT u) (zV O O (zQ O (gT u) (zI (o:=2) O O (zQ O (gT u) (zJ 5 (v:=sv) O O O O (zQ O (gT u) (zC O (zQ O (gT u) (y7 O O (zt qG) O (zQ O (gT u) (yL (pV 0 O) 1 (segs.length - 1) O O qG qG O (zQ O (gT u) (xC (pV 0 O) 1 (segs.length - 1) 0 (fun _=>O) O O qG O O (zQ O (gT u) (zG O O (fun c a=>(zFR (zc segs (segs.length - 1)) nm fi mv ms c qH (a.give [2,3] O V)).mono ?_))))))))))))))))))
   rintro _ w1 ⟨rfl,hO⟩
   refine fq [2,3] O a hO (zQ O (gT u) (zw O O O (z8 O (fun _ a=>a.sel [0,1,4,5,2,3] O V))))
  refine zA (zT O (fun c5=> ?_) (fun c5=> ?_))
  ·exact absurd c5.2 qG
  refine ze (zC O (zC O (zG O O (fun c a=>(zBh wb db sv rv recs c qH (a.give [5,1] O V)).mono ?_))))
  rintro _ w1 ⟨rfl,hO⟩
  refine fq [5,1] O a hO (zG O O (fun c a=>(zAG wb db sv rv (1+recs.length) c qG (a.give [4] O V)).mono ?_))
  rintro _ w1 ⟨b1,rfl,ay,al,hO⟩
  refine fq [4] O a hO (zC O (zG O O (fun c a=>(zBh wb db sv rv recs c qH (a.give [5,4] O V)).mono ?_)))
  rintro _ w1 ⟨rfl,hO⟩
  refine fq [5,4] O a hO (yG (e:=3) (sz:=1) (vs:=[Vi 0]) qF O O qL V O (fun am=>yJ (cs:=[.string b1,Vn (1+recs.length),(.slice (some ⟨am,0,none⟩) 1 1)]) (z:=[yk,Vn 0,zW]) (pl:=[(0,1),(1,1),(2,1)]) qF qF O (zj O O (fun b2=>zF O (zx (fun c a=>⟨b2, .slice (some ⟨am,0,none⟩) 1 1,_,⟨O,O,O,trivial⟩,(by assumption),a.sel [4,0,5,1,7,6,3] O V⟩))))))
 have b3:=hΦ
 refine jW (fun(fr:Nat)=>[(0,pt wb),(1,lv),(8,pt r),(10,Vj fr),(11,y)]) (fun(fr:Nat)=>fr=0) (fun(fr:Nat)=>[xt wb db sv rv,vG sv segs,vB rv recs,jF (zc segs (segs.length - 1)) nm fi mv,jF r s (1+recs.length) y,vI y ([0]:List Int),Res.dk db D kf]) ?_ (fun fr g hΦ=> ?_)
 ·refine zd [0,1,2,3,4,5,6] O V qF (fun c a n=>zD 0 O za n (zD 2 O za n (zD 3 O (zY O) n (zD 4 O (zL (o:=2) O) n (zD 5 O (zZ 4 (v:=y) O O O) n (zM 1 O a (zG O O (fun c a=>(zFR r s (1+recs.length) y ([0]:List Int) c qK (a.give [4,5] O V)).mono ?_))))))))
  rintro _ w1 ⟨rfl,hO⟩
  refine fq [4,5] O a hO (zE [0,1,2,3,5,6,4] O V (fun c a n=>zD 6 O yA n (zD 7 O yA n (zX (⟨0,⟨O,O,O,(by rfl),O,trivial⟩,O,a.sel [0,1,2,3,5,6,4] O V⟩)))))
 have bh:=hΦ
 refine zB (zF O (zA (zK (zB (zC O (zn (pR a6) O O (zC O (zA (zU (zAy (fun(k:Nat) (a4:Value) (a0:List Int) (bv:Value) (b:List UInt8)=>[(0,pt wb),(1,lv),(8,pt r),(10,Vj fr),(11,a4),(12,bv),(80,lv),(81,Vj l.length),(82,Vj k)]) (fun(k:Nat) (a4:Value) (a0:List Int) (bv:Value) (b:List UInt8)=>(k≤l.length∧a0.length=1+k)∧b.length≤5100*k∧(0<k→zc a0 (a0.length - 1)=(fr:Int)+b.length)) (fun(k:Nat) (a4:Value) (a0:List Int) (bv:Value) (b:List UInt8)=>[xt wb db sv rv,vG sv segs,vB rv recs,jF (zc segs (segs.length - 1)) nm fi mv,jF r s (1+recs.length) y,vI a4 a0,Res.dk db D kf,vY bv b]) (fun(k:Nat) (a4:Value) (a0:List Int) (bv:Value) (b:List UInt8)=>l.length - k) (fun c a=>⟨0,y,[0],zW,[],⟨O,O,O,O,O,O,O,O,O,trivial⟩,⟨⟨Nat.zero_le _,O⟩,Nat.zero_le _,fun h=>absurd h qG⟩,(zq a 5 1)⟩) (fun k a4 a0 bv b g hΦ=> ?_)))))))))))
 have bi:=hΦ.1.1
 have b4:=hΦ.1.2
 have bj:=hΦ.2.1
 have b5:=hΦ.2.2
 refine zB (zw O O O (zA (zK (zT O (fun c6=> ?_) (fun c6=> ?_)))))
 ·have b8:=hb _ (zy (l:=l) (j:=k) qG)
  have b6:(kD ((1+recs.length)+k)).length≤9:=jq qG
  have b9:([]++kD ((1+recs.length)+k)).length≤9:=b6
  refine zN (zK (zU (zB (zC O (yL (pR a6) 1 k O O O qG O (xC (pR a6) 1 k 0 (fun _=>O) O O qG O O (zF O (zF O (zA (zB (zC O (zG O O (fun c a=>((zBh wb db sv rv recs c qH (a.give [0,2] O V)).mono ?_))))))))))))))
  rintro _ w1 ⟨rfl,hO⟩
  refine fq [0,2] O a hO (zC O (yi qF O (yy qG) O ?_ qF))
  refine zr O O (yy qG) O (zG O O (fun c a=>(zBu zW [] ((1+recs.length)+k) c qH qH Rd.nil).mono ?_))
  rintro bk w1 ⟨_,rfl,hO⟩
  refine(?_:CL _ _ _ _ _ _ (Own w S [_,_,_,_,_,_,_,_,_])) w1 (a.qb hO)
  refine zC O (zAb (l:=([]++kD ((1+recs.length)+k))) (l':=(zc l k).2) 8 qF O O O (fun c a1=>Own.rd (x _ (zy qG)) a1) qH O (fun b7=>zG O O (fun c a=>(zFO b7 (([]++kD ((1+recs.length)+k))++((zc l k).2)) c qK (a.qj 8 O)).mono ?_)))
  rintro _ w1 ⟨an,a3,rfl,ac,hO⟩
  have bl:a3.length≤5017:=by rw[ac];simp only[List.length_append,List.length_nil];omega
  have bm:(b++a3).length=b.length+a3.length:=List.length_append
  refine(?_:CL _ _ _ _ _ _ (Own w S [_,_,_,_,_,_,_,_,_,_])) w1 (a.qb hO)
  refine zC O (zb (vs:=[an,Vi 0]) O O O (zb (vs:=[an,Vi 0]) O O O (zF O (zF O (zA (zB (zC O (zC O (zAb (l:=b) (l':=a3) 5 qF O O O (fun c a1=>Vec.sl (Own.holds a1 9 _ O)) qH O (fun ao=>zF O (zA (ze (zC O (zC O (zC O (zn (pV 5 O) O O (zr O O (zt qG) O (yG (e:=3) (sz:=1) (vs:=[Vj (fr+((b++a3).length))]) qF O O qL V O (fun ba=>yF (g:=I1) (sz:=1) (by':=8) (fun _=>O) (l:=a0) (l':=[((fr+((b++a3).length):Nat):Int)]) qO 3 qF O O O (fun c a1=>Vec.sl (Own.holds a1 10 _ O)) qH V O (fun ap=>zF O (zA (ze (zr O O (zt qG) O (zC O (zx (fun c a=>⟨k+1,ap,a0++[((fr+(b++a3).length:Nat):Int)],ao,b++a3,⟨O,O,O,O,O,O,O,O,O,trivial⟩,⟨⟨by omega,by rw[List.length_append,b4];rfl⟩,by rw[List.length_append];omega,fun _=>by rw[zEm];omega⟩,a.sel [6,0,7,1,2,3,4,5] O V,qG⟩))))))))))))))))))))))))))
 refine zu O (zK (zK (zd [0,1,2,3,4,5,7] O V qF (fun c a n=>zD 0 O za n (zD 1 O za n (zD 2 O (zY O) n (zD 3 O (zL (o:=0) O) n (zD 4 O (zZ 0 (v:=pt db) O O O) n (zD 5 O za n (zD 6 O (zY O) n (zD 7 O (zL (o:=0) O) n (zD 8 O (zZ 4 (v:= .string s) O O O) n (zD 9 O za n (zD 10 O za n (zM 11 O a (zG O O (fun c a=>(zEt db _ _ s fr bv b c ‹_› ‹_› qH qH qH (a.give [6] O V) (a.rdVec 7 O [6] O O)).mono ?_)))))))))))))))))
 rintro _ w1 ⟨D'5_,ag,rfl,aa,a8,ah,hO⟩
 refine fq [6] O a hO (zE [0,1,2,3,4,5,6] O V (fun c a n=>zM 12 O a (zG O O (fun c a=>(zHU wb db sv rv c (a.give [0] O V)).mono ?_))))
 rintro _ w1 ⟨rfl,hO⟩
 refine fq [0] O a hO (zE [7,0,1,2,3,4,5] O V (fun c a n=>zD 13 O yA n (zX ((?_:C _ _ _ _ _ _ _ (Own w S [_,_,_,_,_,_,_,_])) _ a))))
 refine zB (zC O (ye O O O (zA (zT O (fun c7=> ?_) (fun c7=> ?_)))))
 ·exact absurd O c7
 refine zN (jW (fun(a5:Value)=>[(0,pt wb),(1,lv),(8,pt r),(11,a4)]) (fun(a5:Value)=>True) (fun(a5:Value)=>[xt wb db a5 rv,vG a5 (segs++[r]),vB rv recs,jF r s (1+recs.length) y,vI a4 a0,Res.dk db D'5_ (yZ s ag kf)]) ?_ (fun a5 g hΦ=> ?_))
 ·refine yf qF qF (zR O za (zR O (zY O) (zR O (zL (o:=2) O) (zR O (zZ 7 (v:=sv) O O O) (zR O (kT (pV 0 O) O) (zR O (zMV O O) (zR O za (zEe (q:=((segs.length:Nat):Int)=0) 14 6 [146,145,144,143,142,141,140,139,138,137,136,135,134,133] (true=true) O O O O O O trivial O (fun d=> ?_) (fun az=> ?_)))))))))
  ·refine yV O (gF d) (zR O za (yV O (gF d) (zR O (zY O) (yV O (gF d) (zR O (zL (o:=2) O) (yV O (gF d) (zR O (zZ 7 (v:=sv) O O O) (yV O (gF d) (zR O za (yV O (gF d) (zR O (zY O) (yV O (gF d) (zR O (zL (o:=2) O) (yV O (gF d) (zR O (zZ 7 (v:=sv) O O O) (yV O (gF d) (zR O (kT (pV 0 O) O) (yV O (gF d) (zR O (jX O O (zt qG)) (yV O (gF d) (zR O (kI (pV 0 O) 1 (segs.length - 1) O O qG qG) (yV O (gF d) (zR O (zA6 (pV 0 O) 1 (segs.length - 1) 0 (fun _=>O) O O qG O) (yV O (gF d) (zR O za (yV O (gF d) (zR O (zKz (t':=546) 2 3 V qF qF O O O O (Nat.zero_lt_succ _) (Nat.zero_lt_succ _)) (zCq (y0 _)))))))))))))))))))))))))))))
  refine xW (zT O (fun c8=> ?_) (fun c8=> ?_))
  ·refine ze (zC O (zC O (zV O O (zI (o:=2) O O (zJ 7 (v:=sv) O O O O (zC O (yG (e:=544) (sz:=1) (vs:=[pt r]) qF O O qQ V O (fun bb=>yF (g:=P1) (sz:=1) (by':=8) (fun _=>O) (l:=segs) (l':=[r]) qR 0 qF O O O (fun c a1=>Vec.sl (Own.holds a1 8 _ O)) qH V O (fun aq=>zV O O (zI (o:=2) O O (zS (fun c a=>Own.qa (i:=0) O a) (fun ar=>(zi (cs:=[pt db,Vn 0,sv,rv,Vn 1,yC]) 7 O O O ar O (zx (fun c a=>⟨aq,⟨O,O,O,O,trivial⟩,trivial,a.sel [7,0,1,3,4,6] O V⟩)))))))))))))))
  exact absurd (.inr O) c8
 refine zB (zC O (zC O (zV O O (zI (o:=2) O O (zS (fun c a=>Own.qa (i:=4) O a) (fun au=>(zi (cs:=[.string s,Vn (1+recs.length),y]) 3 O O O au O (zA (zK (zB (zC O (zn (pR a6) O O (zC O (zA (zU (xP (fun(j:Nat) (a2:Value) (m:List (Value×List UInt8))=>[(0,pt wb),(162,lv),(163,Vj l.length),(164,Vj j)]) (fun(j:Nat) (a2:Value) (m:List (Value×List UInt8))=>j≤l.length∧m.length=recs.length+j) (fun(j:Nat) (a2:Value) (m:List (Value×List UInt8))=>[xt wb db a5 a2,vG a5 (segs++[r]),vB a2 m,jF r s (1+recs.length) a4,vI a4 a0,Res.dk db D'5_ (yZ s ag kf)]) (fun(j:Nat) (a2:Value) (m:List (Value×List UInt8))=>l.length - j) (fun c a=>⟨0,rv,recs,⟨O,O,O,O,trivial⟩,⟨Nat.zero_le _,O⟩,a⟩) (fun j a2 m g hΦ=> ?_)))))))))))))))))
 have bn:=hΦ.1
 have ai:=hΦ.2
 refine zB (zw O O O (zA (zK (zT O (fun c9=> ?_) (fun c9=> ?_)))))
 ·have bc:=hb _ (zy (l:=l) (j:=j) qG)
  refine zN (zK (zU (zB (yL (pR a6) 1 j O O O qG O (xC (pR a6) 1 j 0 (fun _=>O) O O qG O O (zF O (zA (zd [1,3,4,5] O V qF (fun c a n=>zD 0 O za n (zD 1 O za n (zD 2 O (zY O) n (zD 3 O (zL (o:=3) O) n (zD 5 O za n (z7 4 6 ?_ ?_))))))))))))))
  ·refine zo 4 O a (zJ 0 (v:=a2) O O O O (zE [1,3,4,5] O V (fun c a n=>zM 6 O a (zG O O (fun c a=>(y1 ((zc l j).1) ((zc l j).2) c qI (a.rd0 (x _ (zy qG)))).mono ?_)))))
   rintro aj w1 ⟨_,rfl,hO⟩
   refine(?_:CL _ _ _ _ _ _ (Own w S [_,_,_,_,_,_,_])) w1 (a.qb hO)
   refine zE [1,3,4,5] O V (fun c a n=>zM 7 O a (zS (fun c a=>Own.qa (i:=6) O a) (fun ad=>(kg (e:=73) (vs:=[aj]) qF O O (zH ad zh) V O (fun ae=>zE [1,3,4,5] O V (fun c a n=>zM 8 O a (yF (g:=pv) (sz:=1) (by':=24) (fun _=>O) (l:=m) (l':=[(aj,((zc l j).2))]) (all_cons ((zH ad zh)) qJ) 2 qF O O O (fun c a1=>Vec.sl (Own.holds a1 7 _ O)) qH V O (fun a7=>zE [1,3,4,5] O V (fun c a n=>zD 9 O (zY O) n (zD 10 O (zL (o:=3) O) n (zM 11 O a (zS (fun c a=>Own.qa (i:=2) O a) (fun av=>(zi (cs:=[pt db,Vn 0,a5,a2,Vn 1,yC]) 0 O O O av O (zE [1,3,4,5] O V (fun c a n=>zX ((?_:C _ _ _ _ _ _ _ (Own w S [_,_,_,_,_,_,_,_])) _ a)))))))))))))))))
   refine ze (zr O O (zt qG) O (zC O (zx (fun c a=>⟨j+1,a7,m++[(aj,(zc l j).2)],⟨O,O,O,O,trivial⟩,⟨by omega,by rw[List.length_append,ai];rfl⟩,a.sel [0,1,2,3,4,5] O V,qG⟩))))
  refine zo 6 O a (zG O O (fun c a=>(y1 ((zc l j).1) ((zc l j).2) c qI (a.rd0 (x _ (zy qG)))).mono ?_))
  rintro a9 w1 ⟨_,rfl,hO⟩
  refine(?_:CL _ _ _ _ _ _ (Own w S [_,_,_,_,_,_,_])) w1 (a.qb hO)
  refine zE [1,3,4,5] O V (fun c a n=>z7 4 7 ?_ ?_)
  ·refine zo 4 O a (zJ 0 (v:=a2) O O O O (zE [1,3,4,5] O V (fun c a n=>zM 7 O a (zS (fun c a=>Own.qa (i:=6) O a) (fun af=>(kg (e:=73) (vs:=[a9]) qF O O (zH af zh) V O (fun ae=>zE [1,3,4,5] O V (fun c a n=>zM 8 O a (yF (g:=pv) (sz:=1) (by':=24) (fun _=>O) (l:=m) (l':=[(a9,((zc l j).2))]) (all_cons ((zH af zh)) qJ) 2 qF O O O (fun c a1=>Vec.sl (Own.holds a1 7 _ O)) qH V O (fun a7=>zE [1,3,4,5] O V (fun c a n=>zD 9 O (zY O) n (zD 10 O (zL (o:=3) O) n (zM 11 O a (zS (fun c a=>Own.qa (i:=2) O a) (fun aw=>(zi (cs:=[pt db,Vn 0,a5,a2,Vn 1,yC]) 0 O O O aw O (zE [1,3,4,5] O V (fun c a n=>zX ((?_:C _ _ _ _ _ _ _ (Own w S [_,_,_,_,_,_,_,_])) _ a)))))))))))))))))))
   refine ze (zr O O (zt qG) O (zC O (zx (fun c a=>⟨j+1,a7,m++[(a9,(zc l j).2)],⟨O,O,O,O,trivial⟩,⟨by omega,by rw[List.length_append,ai];rfl⟩,a.sel [0,1,2,3,4,5] O V,qG⟩))))
  refine zo 7 O a (zS (fun c a=>Own.qa (i:=6) O a) (fun ab=>(kg (e:=73) (vs:=[a9]) qF O O (zH ab zh) V O (fun ae=>zE [1,3,4,5] O V (fun c a n=>zM 4 O a (zJ 0 (v:=a2) O O O O (zE [1,3,4,5] O V (fun c a n=>zM 8 O a (yF (g:=pv) (sz:=1) (by':=24) (fun _=>O) (l:=m) (l':=[(a9,((zc l j).2))]) (all_cons ((zH ab zh)) qJ) 2 qF O O O (fun c a1=>Vec.sl (Own.holds a1 7 _ O)) qH V O (fun a7=>zE [1,3,4,5] O V (fun c a n=>zD 9 O (zY O) n (zD 10 O (zL (o:=3) O) n (zM 11 O a (zS (fun c a=>Own.qa (i:=2) O a) (fun ak=>(zi (cs:=[pt db,Vn 0,a5,a2,Vn 1,yC]) 0 O O O ak O (zE [1,3,4,5] O V (fun c a n=>zX ((?_:C _ _ _ _ _ _ _ (Own w S [_,_,_,_,_,_,_,_])) _ a)))))))))))))))))))
  refine ze (zr O O (zt qG) O (zC O (zx (fun c a=>⟨j+1,a7,m++[(a9,(zc l j).2)],⟨O,O,O,O,trivial⟩,⟨by omega,by rw[List.length_append,ai];rfl⟩,a.sel [0,1,2,3,4,5] O V,qG⟩))))
 refine zu O (zB (zF O (zA (zP (zm (v:=Vi 0) O O (fun c a=>⟨r,s,a5,a2,a4,a0,m,D'5_,ag,O,qG,aa,a8,qG,⟨by omega,by omega⟩,(by have:=b5 qG;omega),b3,a⟩))))))
theorem zHO{l:List Nat}{x:Nat}:zc (l++[x]) ((l++[x]).length - 1)=x:=by
 rw[List.length_append]
 show zc (l++[x]) (l.length+1 - 1)=x
 rw[Nat.add_sub_cancel]
 unfold zc
 rw[List.getElem?_append_right (Nat.le_refl _),Nat.sub_self];rfl
theorem zQr{S:List Nat}(wb db:Nat)(sv rv mv:Value)(segs:List Nat)(recs:List (Value×List UInt8))(nm:ByteArray)(fi:Nat)(ms:List Int)(D:DskD)(kf:List (ByteArray×FilD))(lv:Value)(l:List (Value×List UInt8))(w:World)(hl:l.length=1)(hb:∀ p∈l,p.2.length≤5000)(v:DskCl D)(g:kf.length<4000)(m:0<segs.length∧segs.length≤1000)(h:recs.length<98)(x:0<ms.length∧ms.length≤1000)(n:kZ nm)(y:((tot kf+6000:Nat):Int)≤D.room)(z:0≤zc ms (ms.length - 1)∧zc ms (ms.length - 1)≤6000)(i:Own w S [xt wb db sv rv,vG sv segs,vB rv recs,jF (zc segs (segs.length - 1)) nm fi mv,vI mv ms,Res.dk db D kf] w)(j:Rd w S (Res.sl lv l.length (l.flatMap pv)))(k:∀ p∈l,BsRd p w S):Rets Tryz.prog 403 #[pt wb,lv] w fun u_ w'=>∃ (c d e:Value) (segs':List Nat) (b:List Int) (a:List (Value×List UInt8)) (nm':ByteArray) (fi':Nat) (D':DskD) (f:FilD),u_=Vi 0∧a.length=recs.length+1∧DskOk D'∧D'.room=D.room∧f.bs.length≤((zl nm' kf).getD kP).bs.length+6000∧(0<b.length∧b.length≤ms.length+1)∧(0≤zc b (b.length - 1)∧zc b (b.length - 1)≤6000)∧kZ nm'∧(0<segs'.length∧segs'.length≤segs.length+1)∧Own w S [xt wb db c d,vG c segs',vB d a,jF (zc segs' (segs'.length - 1)) nm' fi' e,vI e b,Res.dk db D' (yZ nm' f kf)] w':=by
 by_cases hq:zc ms (ms.length - 1)<512
 · refine(zN1 wb db sv rv mv segs recs nm fi ms D kf lv l w hl hb v g m h x n y ⟨z.1,hq⟩ i j ‹_›).mono ?_
   rintro _ w1 ⟨c,d,e,b,a,D',f,rfl,h1,g1,o,h2,q,r,s⟩
   exact⟨c,d,e,segs,b,a,nm,fi,D',f,O,h1,g1,o,h2,⟨q.1,by omega⟩,r,n,⟨m.1,by omega⟩,s⟩
 refine(zNq wb db sv rv mv segs recs nm fi ms D kf lv l w hl hb v g m h x n y qG i j ‹_›).mono ?_
 rintro _ w1 ⟨t,u,c,d,e,b,a,D',f,rfl,h1,g1,o,h2,q,r,h5,s⟩
 refine⟨c,d,e,segs++[t],b,a,u,1+recs.length,D',f,O,h1,g1,o,h2,⟨q.1,by omega⟩,r,h5,⟨by rw[List.length_append];exact Nat.succ_pos _,by rw[List.length_append];exact Nat.le_refl _⟩,?_⟩
 rw[zHO];exact s
structure WlS where
 sv:Value
 rv:Value
 mv:Value
 segs:List Nat
 recs:List (Value×List UInt8)
 nm:ByteArray
 fi:Nat
 ms:List Int
def Res.wl(db wb:Nat)(W:WlS):Res:=Res.star [xt wb db W.sv W.rv,vG W.sv W.segs,vB W.rv W.recs,jF (zc W.segs (W.segs.length - 1)) W.nm W.fi W.mv,vI W.mv W.ms]
structure WlOk(W:WlS)(n:Nat):Prop where
 segs:0<W.segs.length∧W.segs.length≤n+1
 recs:W.recs.length=n
 ms:0<W.ms.length∧W.ms.length≤n+1
 nm:kZ W.nm
 fin:0≤zc W.ms (W.ms.length - 1)∧zc W.ms (W.ms.length - 1)≤6000
theorem zQH{S:List Nat}(db wb:Nat)(W:WlS)(n:Nat)(D:DskD)(kf:List (ByteArray×FilD))(lv:Value)(l:List (Value×List UInt8))(w:World)(c:WlOk W n)(hl:l.length=1)(hb:∀ p∈l,p.2.length≤5000)(s:DskCl D)(h:kf.length<4000)(t:n<98)(u:((tot kf+6000:Nat):Int)≤D.room)(i:Own w S [Res.wl db wb W,Res.dk db D kf] w)(j:Rd w S (Res.sl lv l.length (l.flatMap pv)))(d:∀ p∈l,BsRd p w S):Rets Tryz.prog 403 #[pt wb,lv] w fun v x=>∃ (W':WlS) (D':DskD) (r:ByteArray) (f:FilD),v=Vi 0∧WlOk W' (n+1)∧DskOk D'∧D'.room=D.room∧f.bs.length≤((zl r kf).getD kP).bs.length+6000∧Own w S [Res.wl db wb W',Res.dk db D' (yZ r f kf)] x:=by
 have h1:=c.segs
 have h2:=c.recs
 have y:=c.ms
 refine(zQr wb db W.sv W.rv W.mv W.segs W.recs W.nm W.fi W.ms D kf lv l w hl hb s h ⟨h1.1,by omega⟩ qG ⟨y.1,by omega⟩ c.nm u c.fin ((i.qi 0 O).sel [1,2,3,4,5,0] O V) j ‹_›).mono ?_
 rintro _ w1 ⟨k,m,o,a,e,b,g,q,D',f,rfl,g1,z,g3,g4,g5,g6,g7,g8,hO⟩
 exact⟨⟨k,m,o,a,b,g,q,e⟩,D',g,f,O,⟨⟨g8.1,by show a.length≤_;omega⟩,by show b.length=_;omega,⟨g5.1,by show e.length≤_;omega⟩,g7,g6⟩,z,g3,g4,(hO.qf [0,1,2,3,4] O V).sel [1,0] O V⟩
theorem zNQ{S:List Nat}(db wb:Nat)(W:WlS)(D:DskD)(kf:List (ByteArray×FilD))(w:World)(b:DskOk D)(c:tot kf≤1000000000)(a:Own w S [Res.wl db wb W,Res.dk db D kf] w):Rets Tryz.prog 386 #[pt wb] w fun d e=>∃ (D':DskD),d=Vi 0∧DskCl D'∧D'.room=D.room∧Own w S [Res.wl db wb W,Res.dk db D' kf] e:=by
 have h1:=(a.qi 0 rfl).sel [1,0,2,3,4,5] rfl V
 refine(zNB wb db W.sv W.rv D kf w b c (h1.give [0,1] O V)).mono ?_
 rintro _ i ⟨D',rfl,g1,g,h⟩
 exact⟨D',O,g1,g,(((h1.qh [0,1] O h).sel [4,0,1,2,3,5] O V).qf [0,1,2,3,4] O V).sel [1,0] O V⟩
theorem zMg{S:List Nat}(db wb:Nat)(W:WlS)(w:World)(a:Own w S [Res.wl db wb W] w):Rets Tryz.prog 228 #[pt wb] w fun b c=>b=Vn 1∧Own w S [Res.wl db wb W] c:=by
 have h1:=a.qi 0 rfl
 refine(zL3 wb db W.sv W.rv w (h1.give [0] O V)).mono ?_
 rintro _ e ⟨rfl,d⟩
 exact⟨O,(((h1.qh [0] O d).sel [4,0,1,2,3] O V).qf [0,1,2,3,4] O V).sel [0] O V⟩
theorem zND{S:List Nat}(db wb:Nat)(W:WlS)(n:Nat)(w:World)(b:WlOk W n)(g:n≤1000)(a:Own w S [Res.wl db wb W] w):Rets Tryz.prog 231 #[pt wb] w fun c d=>c=Vn (1+n)∧Own w S [Res.wl db wb W] d:=by
 have h1:=a.qi 0 rfl
 refine(zBh wb db W.sv W.rv W.recs w (by rw[b.recs];omega) (h1.give [0,2] O V)).mono ?_
 rintro _ h ⟨rfl,e⟩
 exact⟨by rw[b.recs],(((h1.qh [0,2] O e).sel [3,0,4,1,2] O V).qf [0,1,2,3,4] O V).sel [0] O V⟩
theorem zOH{S:List Nat}(db:Nat)(D:DskD)(kf:List (ByteArray×FilD))(w:World)(c:DskCl D)(hl:kf.length=0)(d:1000≤D.room)(b:Own w S [Res.dk db D kf] w):Rets Tryz.prog 112 #[pt db] w fun e g=>∃ (wb:Nat) (W:WlS) (D':DskD) (a:ByteArray) (f:FilD),e= .tuple #[pt wb,Vi 0]∧WlOk W 0∧a≠jk∧f.bs.length=0∧DskCl D'∧D'.room=D.room∧Own w S [Res.wl db wb W,Res.dk db D' (yZ a f kf)] g:=by
 refine(zM6 db D kf w c hl d b).mono ?_
 rintro _ k ⟨sv,mv,D',wb,sb,nm,a,f,rfl,g1,h,g3,g4,i,j⟩
 exact⟨wb,⟨sv,zW,mv,[sb],[],nm,1,[0]⟩,D',a,f,O,⟨⟨by show 0<1;omega,by show 1≤0+1;omega⟩,O,⟨by show 0<1;omega,by show 1≤0+1;omega⟩,g1,⟨by show(0:Int)≤0;omega,by show(0:Int)≤6000;omega⟩⟩,h,g3,g4,i,(((zq j 73 1).sel [0,1,5,2,3,4] O V).qf [0,1,2,3,4] O V).sel [1,0] O V⟩
end Go.Proofs.YthpoddkmhfhboaaGreatDoor
