import Derived.Test.YthpoddkmhfhboaaGreatDoorSlt
set_option linter.unusedSimpArgs false
set_option linter.unusedVariables false
set_option maxRecDepth 10000
namespace Go.Proofs.YthpoddkmhfhboaaGreatDoor
open Go.Sc
def P1(b:Nat):List Value:=[.pointer (some ⟨b,0,none⟩)]
def jp:ByteArray:=⟨#[116,46,120]⟩
theorem zOG{s t:ByteArray}:(((⟨#[119,46]⟩:ByteArray)++s)++(⟨#[46]⟩:ByteArray))++t≠jp:=by
 intro h
 have h2:=congrArg (fun b:ByteArray=>b.data.toList.head?) h
 simp only[ByteArray.data_append,Array.toList_append]at h2
 revert h2
 show some (119:UInt8)=some 116→False
 decide
theorem zJo{s t:ByteArray}(b:s.size≤2∧∀ c∈s.data.toList,c∈nameSet)(d:t.size≤2∧∀ c∈t.data.toList,c∈nameSet):kg ((((⟨#[119,46]⟩:ByteArray)++s)++(⟨#[46]⟩:ByteArray))++t):=by
 have e1:(⟨#[119,46]⟩:ByteArray).size=2:=rfl
 have e2:(⟨#[46]⟩:ByteArray).size=1:=rfl
 refine⟨?_,fun c a=> ?_⟩
 · rw[ByteArray.size_append,ByteArray.size_append,ByteArray.size_append,e1,e2];omega
 rw[ByteArray.data_append,ByteArray.data_append,ByteArray.data_append,Array.toList_append,Array.toList_append,Array.toList_append]at a
 rcases List.mem_append.1 a with a|a
 · rcases List.mem_append.1 a with a|a
   · rcases List.mem_append.1 a with a|a
     · have:c=119∨c=46:=by simpa using a
       rcases this with rfl|rfl<;>decide
     exact b.2 c a
   have:c=46:=by simpa using a
   rw[this];decide
 exact d.2 c a
theorem zEx{l:List Int}{x:Int}:zc (l++[x]) ((l++[x]).length - 1)=x:=by
 rw[List.length_append]
 show zc (l++[x]) (l.length+1 - 1)=x
 rw[Nat.add_sub_cancel]
 unfold zc
 rw[List.getElem?_append_right (Nat.le_refl _),Nat.sub_self];rfl
def vG(v:Value)(l:List Nat):Res:=Res.vec 544 1 v l.length (l.flatMap P1)
def vB(v:Value)(l:List (Value×List UInt8)):Res:=Res.vec 73 1 v l.length (l.flatMap pv)
def xt(b db:Nat)(sv rv:Value):Res:=Res.row b 380 [pt db,Vn 0,sv,rv,Vn 1, .bool false]
def jB(b:Nat)(nm:ByteArray)(fi:Nat)(mv:Value):Res:=Res.row b 546 [.string nm,Vn fi,mv]
theorem zTa(w:World):Rets Tryz.prog 472 #[zW,Vj 0,Vj 0, .func (.func 217) #[] #[]] w fun d a=>d= .tuple #[]∧Own w [] [] a:=by
 refine zO Tryz.func472 O Tryz.ntmps472 (Own.start w)<|zB<|zC O<|zr O O (zt qG) O<|zF O<|zA<|zU<|yQ (fun(k:Nat)=>[(0,zW),(1,Vj 0),(2,Vj 0),(3, .func (.func 217) #[] #[]),(8,Vj k)]) (fun(k:Nat)=>k=1) (fun(k:Nat)=>[]) (fun(k:Nat)=>0) (fun a b=>⟨1,⟨O,O,O,O,O,trivial⟩,O,b⟩)<|fun k g e=> ?_
 have h:=e
 refine zK<|zB<|zC O<|zC O<|zu O O O<|zA<|zT O (fun c=> ?_)<|fun c=> ?_
 ·exact absurd c qG
 exact xy O<|yq O<|fun a b=>⟨O,b.drop⟩
theorem zSe(a:Int)(w:World):Rets Tryz.prog 366 #[zW,Vj 0,Vj 0,Vi a, .func (.func 217) #[] #[]] w fun h b=>h= .tuple #[]∧Own w [] [] b:=by
 refine zO Tryz.func366 O Tryz.ntmps366 (Own.start w)<|zB<|zF O<|zA<|zB<|zF O<|zA<|zU<|yQ (fun(k:Nat)=>[(0,zW),(1,Vj 0),(2,Vj 0),(3,Vi a),(4, .func (.func 217) #[] #[]),(10,xx),(11,xx)]) (fun(k:Nat)=>k=1) (fun(k:Nat)=>[]) (fun(k:Nat)=>0) (fun b d=>⟨1,⟨O,O,O,O,O,O,O,trivial⟩,O,d⟩)<|fun k g l=>(zU<|zB<|zC O<|zC O<|y9 (c:=((0:Nat):Int)) O O (zt qG) O<|zF O<|zA<|zK<|zB<|zC O<|yx O O O<|zA<|zT O (fun e=> ?_)<|fun e=> ?_)
 ·refine zB<|zC O<|zC O<|zC O<|zC O<|zG O O<|fun b d=>(zTa b).mono ?_
  rintro _ i ⟨rfl,j⟩
  refine(?_:CL _ _ _ _ _ _ (Own w [] [])) i<|d.qb j
  refine zA<|zP<|yq O<|fun b d=>⟨O,d.drop⟩
 exact absurd e qG
theorem zRN(w:World):Rets Tryz.prog 216 #[zW, .func (.func 217) #[] #[]] w fun e a=>e= .tuple #[]∧Own w [] [] a:=by
 refine zO Tryz.func216 O Tryz.ntmps216 (Own.start w)<|zB<|zC O<|jM qF O O<|zF O<|zA<|ze<|zC O<|zC O<|zC O<|yh qF O (yz qG) O ?_ qF
 refine zG O O<|fun a b=>(zIV 0 a qH).mono ?_
 rintro _ c ⟨rfl,d⟩
 refine(?_:CL _ _ _ _ _ _ (Own w [] [])) c<|b.qb d
 refine zC O<|zG O O<|fun a b=>(zSe (((yK 0):Nat):Int) a).mono ?_
 rintro _ c ⟨rfl,d⟩
 refine(?_:CL _ _ _ _ _ _ (Own w [] [])) c<|b.qb d
 exact zx<|yq O<|fun a b=>⟨O,b.drop⟩
theorem zB8{S:List Nat}(wb db:Nat)(sv rv:Value)(recs:List (Value×List UInt8))(w:World)(hl:recs.length≤1000000)(a:Own w S [xt wb db sv rv,vB rv recs] w):Rets Tryz.prog 231 #[pt wb] w fun c b=>c=Vn (1+recs.length)∧Own w S [xt wb db sv rv,vB rv recs] b:=by
 refine zO Tryz.func231 O Tryz.ntmps231 a<|zB<|zF O<|zA<|zK<|zB<|zC O<|yE qF O O O<|zA<|yW O<|zN<|yd qF qF<|zR O (za)<|zR O (zY O)<|zR O (zL (o:=4) O)<|zR O (zZ 0 (v:=Vn 1) O O O)<|zR O (za)<|zR O (zY O)<|zR O (zL (o:=3) O)<|zR O (zZ 0 (v:=rv) O O O)<|zR O (kY (pV 1 O) O)<|zR O (kQ qF O (yz qG) qF)<|zR O (xN O O<|yz qG)<|zR O (yB)<|xX<|zP<|zm (v:=Vn (1+recs.length)) O O<|fun b d=>⟨O,d⟩
theorem zD8{S:List Nat}(wb db:Nat)(sv rv:Value)(w:World)(a:Own w S [xt wb db sv rv] w):Rets Tryz.prog 384 #[pt wb] w fun c b=>c=Vi 0∧Own w S [xt wb db sv rv] b:=by
 refine zO Tryz.func384 O Tryz.ntmps384 a<|zB<|zF O<|zA<|zK<|zU<|zB<|zC O<|yE qF O O O<|zF O<|zA<|yW O<|zB<|zC O<|zV O O<|zI (o:=5) O O<|zJ 0 (v:=yC) O O O O<|zF O<|zA<|yW O<|zN<|zB<|zF O<|zA<|zP<|zm (v:=Vi 0) O O<|fun b d=>⟨O,d⟩
theorem zLn{S:List Nat}(wb db:Nat)(sv rv:Value)(w:World)(a:Own w S [xt wb db sv rv] w):Rets Tryz.prog 228 #[pt wb] w fun c b=>c=Vn 1∧Own w S [xt wb db sv rv] b:=by
 refine zO Tryz.func228 O Tryz.ntmps228 a<|zB<|zF O<|zA<|zK<|zB<|zC O<|yE qF O O O<|zA<|yW O<|zN<|zB<|zC O<|zV O O<|zI (o:=4) O O<|zJ 0 (v:=Vn 1) O O O O<|zF O<|zA<|zP<|zm (v:=Vn 1) O O<|fun b d=>⟨O,d⟩
theorem zHg{S:List Nat}(wb db:Nat)(sv rv:Value)(w:World)(a:Own w S [xt wb db sv rv] w):Rets Tryz.prog 385 #[pt wb,Vi 0] w fun c b=>c=Vi 0∧Own w S [xt wb db sv rv] b:=by
 refine zO Tryz.func385 O Tryz.ntmps385 a<|zB<|zF O<|zA<|zB<|zC O<|zC O<|zV O O<|zI (o:=5) O O<|zJ 0 (v:=yC) O O O O<|zC O<|zQ O O<|zC O<|zQ O O<|yT O O O<|xA O O<|zV O O<|zI (o:=5) O O<|zi (cs:=[pt db,Vn 0,sv,rv,Vn 1,yC]) 0 O O O O O<|zA<|zB<|zC O<|zF O<|zA<|zP<|zm (v:=Vi 0) O O<|fun b d=>⟨O,d⟩
theorem zPK{S:List Nat}(wb db:Nat)(sv rv:Value)(D:DskD)(kf:List (ByteArray×FilD))(w:World)(k:DskOk D)(l:tot kf≤1000000000)(h:Own w S [xt wb db sv rv,Res.dk db D kf] w):Rets Tryz.prog 386 #[pt wb] w fun j c=>∃ (D':DskD),j=Vi 0∧DskCl D'∧D'.room=D.room∧Own w S [xt wb db sv rv,Res.dk db D' kf] c:=by
 refine zO Tryz.func386 O Tryz.ntmps386 h<|zB<|zF O<|zA<|zK<|zB<|zC O<|zG O O<|fun c b=>(zD8 wb db sv rv c<|b.give [0] O V).mono ?_
 rintro _ e ⟨rfl,g⟩
 refine(?_:CL _ _ _ _ _ _ (Own w S [_,_])) e<|b.qc [0] O g
 refine zF O<|zA<|zB<|zC O<|yf O O O<|zA<|zT O (fun i=> ?_)<|fun i=> ?_
 ·exact absurd O i
 refine zN<|zB<|zC O<|zC O<|zV O O<|zI (o:=0) O O<|zJ 1 (v:=pt db) O O O O<|zG O O<|fun c b=>(zFT db _ _ c ‹_› qH<|b.give [0] O V).mono ?_
 rintro _ e ⟨D'1_,rfl,d,a,g⟩
 refine(?_:CL _ _ _ _ _ _ (Own w S [_,_])) e<|b.qc [0] O g
 refine zG O O<|fun c b=>(zHg wb db sv rv c<|b.give [0] O V).mono ?_
 rintro _ e ⟨rfl,g⟩
 refine(?_:CL _ _ _ _ _ _ (Own w S [_,_])) e<|b.qc [0] O g
 refine zF O<|zA<|zP<|zm (v:=Vi 0) O O<|fun c b=>⟨D'1_,O,d,a,b.sel [1,0] O V⟩
theorem zAG{S:List Nat}(wb db:Nat)(sv rv:Value)(n:Nat)(w:World)(l:n<100)(h:Own w S [xt wb db sv rv] w):Rets Tryz.prog 372 #[pt wb,Vn n] w fun k c=>∃ (s:ByteArray),k= .string s∧kg s∧s≠jp∧Own w S [xt wb db sv rv] c:=by
 refine zO Tryz.func372 O Tryz.ntmps372 h<|zB<|zF O<|zA<|zB<|zC O<|zV O O<|zI (o:=1) O O<|zJ 0 (v:=Vn 0) O O O O<|zG O O<|fun c d=>(zAO 0 c V).mono ?_
 rintro _ i ⟨e,rfl,a,j⟩
 refine(?_:CL _ _ _ _ _ _ (Own w S [_])) i<|d.qb j
 refine zHz O O qX O<|zHz O O qX O<|zC O<|zG O O<|fun c d=>(zAO n c qH).mono ?_
 rintro _ i ⟨g,rfl,b,j⟩
 refine(?_:CL _ _ _ _ _ _ (Own w S [_])) i<|d.qb j
 refine zHz O O qX O<|zF O<|zA<|zP<|zm (v:= .string ((((⟨#[119,46]⟩:ByteArray)++e)++(⟨#[46]⟩:ByteArray))++g)) O O<|fun c d=>⟨(((⟨#[119,46]⟩:ByteArray)++e)++(⟨#[46]⟩:ByteArray))++g,O,zJo a b,zOG,d⟩
theorem zFb{S:List Nat}(sb:Nat)(nm:ByteArray)(fi:Nat)(mv:Value)(ms:List Int)(w:World)(e:0<ms.length∧ms.length≤1000000)(a:Own w S [jB sb nm fi mv,vI mv ms] w):Rets Tryz.prog 367 #[pt sb] w fun c b=>c=Vi (zc ms (ms.length - 1))∧Own w S [jB sb nm fi mv,vI mv ms] b:=by
 refine zO Tryz.func367 O Tryz.ntmps367 a<|zB<|zF O<|zA<|yd qF qF<|zR O (za)<|zR O (zY O)<|zR O (zL (o:=2) O)<|zR O (zZ 0 (v:=mv) O O O)<|zR O (za)<|zR O (zY O)<|zR O (zL (o:=2) O)<|zR O (zZ 0 (v:=mv) O O O)<|zR O (kY (pV 1 O) O)<|zR O (ji O O<|zt qG)<|zR O (kN (pV 1 O) 1 (ms.length - 1) O O qG qG)<|zR O (zA8 (pV 1 O) 1 (ms.length - 1) 0 (fun _=>O) O O qG O)<|zR O (yB)<|xX<|zP<|zm (v:=Vi (zc ms<|ms.length - 1)) O O<|fun b d=>⟨O,d⟩
theorem _root_.Go.Sc.qQ{p:Prop}(h:p:=by simp[Value.cells,pt]):p:=h
theorem _root_.Go.Sc.qR{p:Prop}(h:p:=by simp[cell1,P1]):p:=h
theorem zPY{S:List Nat}(wb db:Nat)(D:DskD)(kf:List (ByteArray×FilD))(w:World)(hk:DskCl D)(hl:kf.length=0)(hr:1000≤D.room)(ao:Own w S [xt wb db zW zW,Res.dk db D kf] w):Rets Tryz.prog 218 #[pt wb,zW] w fun u_ c=>∃ (sv mv:Value) (D':DskD) (sb:Nat) (nm s:ByteArray) (f:FilD),u_=Vi 0∧kg nm∧s≠jp∧f.bs.length=0∧DskCl D'∧D'.room=D.room∧Own w S [xt wb db sv zW,vG sv [sb],jB sb nm 1 mv,vI mv ([0]:List Int),Res.dk db D' (yZ s f kf)] c:=by
 have ar:tot kf=0:=by rw[List.eq_nil_of_length_eq_zero hl];rfl
 refine zO Tryz.func218 O Tryz.ntmps218 ao<|zB<|zF O<|zA<|zB<|zF O<|zA<|zK<|zB<|zC O<|jM qF O O<|zC O<|zA<|zU<|yQ (fun(k:Nat)=>[(0,pt wb),(5,xx),(17,zW),(18,Vj 0),(19,Vj k)]) (fun(k:Nat)=>k=0) (fun(k:Nat)=>[xt wb db zW zW,Res.dk db D kf]) (fun(k:Nat)=>0) (fun c a=>⟨0,⟨O,O,O,O,O,trivial⟩,O,a⟩)<|fun k g hΦ=> ?_
 have au:=hΦ
 refine zB<|zu O O O<|zA<|zK<|zT O (fun c1=> ?_)<|fun c1=> ?_
 ·exact absurd c1 qG
 refine zw O<|zLb (fun(sv mv:Value) (sb:Nat) (nm s:ByteArray) (D1:DskD) (f:FilD)=>[(0,pt wb)]) (fun(sv mv:Value) (sb:Nat) (nm s:ByteArray) (D1:DskD) (f:FilD)=>kg nm∧f.bs.length=0∧DskOk D1∧D1.room=D.room∧s≠jp) (fun(sv mv:Value) (sb:Nat) (nm s:ByteArray) (D1:DskD) (f:FilD)=>[xt wb db sv zW,vG sv [sb],jB sb nm 1 mv,vI mv ([0]:List Int),Res.dk db D1 (yZ s f kf)]) ?_<|fun sv mv sb nm s D1 f g hΦ=> ?_
 ·refine zB<|zC O<|zV O O<|zI (o:=2) O O<|zJ 0 (v:=zW) O O O O<|jM qF O O<|yT O O O<|zA<|zT O (fun c2=> ?_)<|fun c2=> ?_
  ·refine zK<|zHu (fun(D1:DskD) (s:ByteArray) (f:FilD)=>[(0,pt wb),(16,Vi 0)]) (fun(D1:DskD) (s:ByteArray) (f:FilD)=>f.bs.length=0∧DskOk D1∧D1.room=D.room∧s≠jp) (fun(D1:DskD) (s:ByteArray) (f:FilD)=>[xt wb db zW zW,Res.dk db D1 (yZ s f kf)]) ?_<|fun D1 s f g hΦ=> ?_
   ·refine zd [0] O V qF<|fun c a d=>zD 0 O za d<|zD 1 O (zY O) d<|zD 2 O (zL (o:=0) O) d<|zD 3 O (zZ 0 (v:=pt db) O O O) d<|zD 4 O za d<|zM 5 O a<|zG O O<|fun c a=>(zAG wb db zW zW 1 c V<|a.give [0] O V).mono ?_
    rintro _ w1 ⟨aa,rfl,a6,a1,hO⟩
    refine(?_:CL _ _ _ _ _ _ (Own w S [_,_])) w1<|a.qc [0] O hO
    refine zE [1] O V<|fun c a d=>zM 6 O a<|zG O O<|fun c a=>(zFU db _ _ aa 0 zW [] c ‹_› a6 qH qH qH (a.give [0] O V) Rd.nil).mono ?_
    rintro _ w1 ⟨D'2_,ap,rfl,a7,a2,a3,hO⟩
    have av:=a3
    refine(?_:CL _ _ _ _ _ _ (Own w S [_,_])) w1<|a.qc [0] O hO
    refine zE [0] O V<|fun c a d=>zD 7 O yB d<|zX (⟨D'2_,aa,ap,⟨O,O,trivial⟩,⟨by have h1:=zC1 (k:=aa) (l:=kf);have h2:([]:List UInt8).length=0:=rfl;omega,a7,a2,a1⟩,a⟩)
   have u:=hΦ.1
   have a0:=hΦ.2.1
   have x:=hΦ.2.2.1
   have y:=hΦ.2.2.2
   refine zB<|zC O<|yf O O O<|zA<|zT O (fun c3=> ?_)<|fun c3=> ?_
   ·exact absurd O c3
   refine zN<|zd [1] O V qF<|fun c a d=>zD 0 O za d<|zD 1 O za d<|zD 2 O (zY O) d<|zD 3 O (zL (o:=2) O) d<|zD 5 O za d<|zCA (i:=4) (j:=6) (k:=7) qF ?_ ?_ ?_
   ·refine zo 4 O a<|zJ 0 (v:=zW) O O O O<|zE [1] O V<|fun c a d=>z7 6 7 ?_ ?_
    ·refine zo 6 O a<|zG O O<|fun c a=>(zAG wb db zW zW 1 c V<|a.give [0] O V).mono ?_
     rintro _ w1 ⟨ad,rfl,h,q,hO⟩
     refine(?_:CL _ _ _ _ _ _ (Own w S [_,_])) w1<|a.qc [0] O hO
     refine zE [0] O V<|fun c a d=>zM 7 O a<|yH (e:=3) (sz:=1) (vs:=[Vi 0]) qF O O qL V O<|fun m=>zE [0] O V<|fun c a d=>zD 8 O (xY (cs:=[.string ad,Vn 1,(.slice (some ⟨m,0,none⟩) 1 1)]) (z:=[ym,Vn 0,zW]) (pl:=[(0,1),(1,1),(2,1)]) qF qF) d<|zM 9 O a<|zj O O<|fun b=>zE [0] O V<|fun c a d=>zM 10 O a<|yH (e:=544) (sz:=1) (vs:=[pt b]) qF O O qQ V O<|fun r=>zE [0] O V<|fun c a d=>zM 11 O a<|y1 544 1<|yF (g:=P1) (sz:=1) (by':=8) (fun _=>O) (l:=[]) (l':=[b]) qR 5 qF O O O (fun c p=>Vec.sl<|Own.holds p 4 _ O) qH V O<|fun n=>zE [0] O V<|fun c a d=>zD 12 O (zY O) d<|zD 13 O (zL (o:=2) O) d<|zM 14 O a<|zS (fun c a=>Own.qa (i:=5) O a)<|fun ae=>(zi 1 O O O ae O<|zE [0] O V<|fun c a d=>zX (⟨n, .slice (some ⟨m,0,none⟩) 1 1,b,ad,s,D1,f,⟨O,trivial⟩,⟨h,u,a0,x,y⟩,a.sel [1,5,3,2,0] O V⟩))
    refine zo 7 O a<|yH (e:=3) (sz:=1) (vs:=[Vi 0]) qF O O qL V O<|fun m=>zE [1] O V<|fun c a d=>zM 6 O a<|zG O O<|fun c a=>(zAG wb db zW zW 1 c V<|a.give [0] O V).mono ?_
    rintro _ w1 ⟨af,rfl,h,q,hO⟩
    refine(?_:CL _ _ _ _ _ _ (Own w S [_,_,_])) w1<|a.qc [0] O hO
    refine zE [0] O V<|fun c a d=>zD 8 O (xY (cs:=[.string af,Vn 1,(.slice (some ⟨m,0,none⟩) 1 1)]) (z:=[ym,Vn 0,zW]) (pl:=[(0,1),(1,1),(2,1)]) qF qF) d<|zM 9 O a<|zj O O<|fun b=>zE [0] O V<|fun c a d=>zM 10 O a<|yH (e:=544) (sz:=1) (vs:=[pt b]) qF O O qQ V O<|fun r=>zE [0] O V<|fun c a d=>zM 11 O a<|y1 544 1<|yF (g:=P1) (sz:=1) (by':=8) (fun _=>O) (l:=[]) (l':=[b]) qR 5 qF O O O (fun c p=>Vec.sl<|Own.holds p 4 _ O) qH V O<|fun n=>zE [0] O V<|fun c a d=>zD 12 O (zY O) d<|zD 13 O (zL (o:=2) O) d<|zM 14 O a<|zS (fun c a=>Own.qa (i:=5) O a)<|fun ag=>(zi 2 O O O ag O<|zE [0] O V<|fun c a d=>zX (⟨n, .slice (some ⟨m,0,none⟩) 1 1,b,af,s,D1,f,⟨O,trivial⟩,⟨h,u,a0,x,y⟩,a.sel [2,5,3,1,0] O V⟩))
   ·refine zo 6 O a<|zG O O<|fun c a=>(zAG wb db zW zW 1 c V<|a.give [0] O V).mono ?_
    rintro _ w1 ⟨a4,rfl,h,q,hO⟩
    refine(?_:CL _ _ _ _ _ _ (Own w S [_,_])) w1<|a.qc [0] O hO
    refine zE [0] O V<|fun c a d=>z7 4 7 ?_ ?_
    ·refine zo 4 O a<|zJ 1 (v:=zW) O O O O<|zE [0] O V<|fun c a d=>zM 7 O a<|yH (e:=3) (sz:=1) (vs:=[Vi 0]) qF O O qL V O<|fun m=>zE [0] O V<|fun c a d=>zD 8 O (xY (cs:=[.string a4,Vn 1,(.slice (some ⟨m,0,none⟩) 1 1)]) (z:=[ym,Vn 0,zW]) (pl:=[(0,1),(1,1),(2,1)]) qF qF) d<|zM 9 O a<|zj O O<|fun b=>zE [0] O V<|fun c a d=>zM 10 O a<|yH (e:=544) (sz:=1) (vs:=[pt b]) qF O O qQ V O<|fun r=>zE [0] O V<|fun c a d=>(zM 11 O a<|y1 544 1<|yF (g:=P1) (sz:=1) (by':=8) (fun _=>O) (l:=[]) (l':=[b]) qR 5 qF O O O (fun c p=>Vec.sl<|Own.holds p 4 _ O) qH V O<|fun n=>zE [0] O V<|fun c a d=>zD 12 O (zY O) d<|zD 13 O (zL (o:=2) O) d<|zM 14 O a<|zS (fun c a=>Own.qa (i:=5) O a)<|fun ah=>(zi 1 O O O ah O<|zE [0] O V<|fun c a d=>zX (⟨n, .slice (some ⟨m,0,none⟩) 1 1,b,a4,s,D1,f,⟨O,trivial⟩,⟨h,u,a0,x,y⟩,a.sel [1,5,3,2,0] O V⟩)))
    refine zo 7 O a<|yH (e:=3) (sz:=1) (vs:=[Vi 0]) qF O O qL V O<|fun m=>zE [0] O V<|fun c a d=>zD 8 O (xY (cs:=[.string a4,Vn 1,(.slice (some ⟨m,0,none⟩) 1 1)]) (z:=[ym,Vn 0,zW]) (pl:=[(0,1),(1,1),(2,1)]) qF qF) d<|z7 4 9 ?_ ?_
    ·refine zo 4 O a<|zJ 1 (v:=zW) O O O O<|zE [0] O V<|fun c a d=>zM 9 O a<|zj O O<|fun b=>zE [0] O V<|fun c a d=>zM 10 O a<|yH (e:=544) (sz:=1) (vs:=[pt b]) qF O O qQ V O<|fun r=>zE [0] O V<|fun c a d=>zM 11 O a<|y1 544 1<|yF (g:=P1) (sz:=1) (by':=8) (fun _=>O) (l:=[]) (l':=[b]) qR 5 qF O O O (fun c p=>Vec.sl<|Own.holds p 4 _ O) qH V O<|fun n=>zE [0] O V<|fun c a d=>zD 12 O (zY O) d<|zD 13 O (zL (o:=2) O) d<|zM 14 O a<|zS (fun c a=>Own.qa (i:=5) O a)<|fun ai=>(zi 1 O O O ai O<|zE [0] O V<|fun c a d=>zX (⟨n, .slice (some ⟨m,0,none⟩) 1 1,b,a4,s,D1,f,⟨O,trivial⟩,⟨h,u,a0,x,y⟩,a.sel [1,5,3,2,0] O V⟩))
    refine zo 9 O a<|zj O O<|fun b=>zE [0] O V<|fun c a d=>z7 4 10 ?_ ?_
    ·refine zo 4 O a<|zJ 1 (v:=zW) O O O O<|zE [0] O V<|fun c a d=>zM 10 O a<|yH (e:=544) (sz:=1) (vs:=[pt b]) qF O O qQ V O<|fun r=>zE [0] O V<|fun c a d=>zM 11 O a<|y1 544 1<|yF (g:=P1) (sz:=1) (by':=8) (fun _=>O) (l:=[]) (l':=[b]) qR 5 qF O O O (fun c p=>Vec.sl<|Own.holds p 4 _ O) qH V O<|fun n=>zE [0] O V<|fun c a d=>zD 12 O (zY O) d<|zD 13 O (zL (o:=2) O) d<|zM 14 O a<|zS (fun c a=>Own.qa (i:=5) O a)<|fun aj=>(zi 1 O O O aj O<|zE [0] O V<|fun c a d=>zX (⟨n, .slice (some ⟨m,0,none⟩) 1 1,b,a4,s,D1,f,⟨O,trivial⟩,⟨h,u,a0,x,y⟩,a.sel [1,5,3,2,0] O V⟩))
    refine zo 10 O a<|yH (e:=544) (sz:=1) (vs:=[pt b]) qF O O qQ V O<|fun r=>zE [0] O V<|fun c a d=>zM 4 O a<|zJ 1 (v:=zW) O O O O<|zE [0] O V<|fun c a d=>zM 11 O a<|y1 544 1<|yF (g:=P1) (sz:=1) (by':=8) (fun _=>O) (l:=[]) (l':=[b]) qR 5 qF O O O (fun c p=>Vec.sl<|Own.holds p 4 _ O) qH V O<|fun n=>zE [0] O V<|fun c a d=>zD 12 O (zY O) d<|zD 13 O (zL (o:=2) O) d<|zM 14 O a<|zS (fun c a=>Own.qa (i:=5) O a)<|fun ak=>(zi 1 O O O ak O<|zE [0] O V<|fun c a d=>zX (⟨n, .slice (some ⟨m,0,none⟩) 1 1,b,a4,s,D1,f,⟨O,trivial⟩,⟨h,u,a0,x,y⟩,a.sel [1,5,3,2,0] O V⟩))
   refine zo 7 O a<|yH (e:=3) (sz:=1) (vs:=[Vi 0]) qF O O qL V O<|fun m=>zE [1] O V<|fun c a d=>z7 4 6 ?_ ?_
   ·refine zo 4 O a<|zJ 0 (v:=zW) O O O O<|zE [1] O V<|fun c a d=>zM 6 O a<|zG O O<|fun c a=>(zAG wb db zW zW 1 c V<|a.give [0] O V).mono ?_
    rintro _ w1 ⟨al,rfl,h,q,hO⟩
    refine(?_:CL _ _ _ _ _ _ (Own w S [_,_,_])) w1<|a.qc [0] O hO
    refine zE [0] O V<|fun c a d=>zD 8 O (xY (cs:=[.string al,Vn 1,(.slice (some ⟨m,0,none⟩) 1 1)]) (z:=[ym,Vn 0,zW]) (pl:=[(0,1),(1,1),(2,1)]) qF qF) d<|zM 9 O a<|zj O O<|fun b=>zE [0] O V<|fun c a d=>zM 10 O a<|yH (e:=544) (sz:=1) (vs:=[pt b]) qF O O qQ V O<|fun r=>zE [0] O V<|fun c a d=>zM 11 O a<|y1 544 1<|yF (g:=P1) (sz:=1) (by':=8) (fun _=>O) (l:=[]) (l':=[b]) qR 5 qF O O O (fun c p=>Vec.sl<|Own.holds p 4 _ O) qH V O<|fun n=>zE [0] O V<|fun c a d=>zD 12 O (zY O) d<|zD 13 O (zL (o:=2) O) d<|zM 14 O a<|zS (fun c a=>Own.qa (i:=5) O a)<|fun am=>(zi 2 O O O am O<|zE [0] O V<|fun c a d=>zX (⟨n, .slice (some ⟨m,0,none⟩) 1 1,b,al,s,D1,f,⟨O,trivial⟩,⟨h,u,a0,x,y⟩,a.sel [2,5,3,1,0] O V⟩))
   refine zo 6 O a<|zG O O<|fun c a=>(zAG wb db zW zW 1 c V<|a.give [0] O V).mono ?_
   rintro _ w1 ⟨a8,rfl,h,q,hO⟩
   refine(?_:CL _ _ _ _ _ _ (Own w S [_,_,_])) w1<|a.qc [0] O hO
   refine zE [0] O V<|fun c a d=>zD 8 O (xY (cs:=[.string a8,Vn 1,(.slice (some ⟨m,0,none⟩) 1 1)]) (z:=[ym,Vn 0,zW]) (pl:=[(0,1),(1,1),(2,1)]) qF qF) d<|z7 4 9 ?_ ?_
   ·refine zo 4 O a<|zJ 2 (v:=zW) O O O O<|zE [0] O V<|fun c a d=>zM 9 O a<|zj O O<|fun b=>zE [0] O V<|fun c a d=>zM 10 O a<|yH (e:=544) (sz:=1) (vs:=[pt b]) qF O O qQ V O<|fun r=>zE [0] O V<|fun c a d=>zM 11 O a<|y1 544 1<|yF (g:=P1) (sz:=1) (by':=8) (fun _=>O) (l:=[]) (l':=[b]) qR 5 qF O O O (fun c p=>Vec.sl<|Own.holds p 4 _ O) qH V O<|fun n=>zE [0] O V<|fun c a d=>zD 12 O (zY O) d<|zD 13 O (zL (o:=2) O) d<|zM 14 O a<|zS (fun c a=>Own.qa (i:=5) O a)<|fun an=>(zi 2 O O O an O<|zE [0] O V<|fun c a d=>zX (⟨n, .slice (some ⟨m,0,none⟩) 1 1,b,a8,s,D1,f,⟨O,trivial⟩,⟨h,u,a0,x,y⟩,a.sel [2,5,3,1,0] O V⟩))
   refine zo 9 O a<|zj O O<|fun b=>zE [0] O V<|fun c a d=>z7 4 10 ?_ ?_
   ·refine zo 4 O a<|zJ 2 (v:=zW) O O O O<|zE [0] O V<|fun c a d=>zM 10 O a<|yH (e:=544) (sz:=1) (vs:=[pt b]) qF O O qQ V O<|fun r=>zE [0] O V<|fun c a d=>zM 11 O a<|y1 544 1<|yF (g:=P1) (sz:=1) (by':=8) (fun _=>O) (l:=[]) (l':=[b]) qR 5 qF O O O (fun c p=>Vec.sl<|Own.holds p 4 _ O) qH V O<|fun n=>zE [0] O V<|fun c a d=>zD 12 O (zY O) d<|zD 13 O (zL (o:=2) O) d<|zM 14 O a<|zS (fun c a=>Own.qa (i:=5) O a)<|fun ab=>(zi 2 O O O ab O<|zE [0] O V<|fun c a d=>zX (⟨n, .slice (some ⟨m,0,none⟩) 1 1,b,a8,s,D1,f,⟨O,trivial⟩,⟨h,u,a0,x,y⟩,a.sel [2,5,3,1,0] O V⟩))
   refine zo 10 O a<|yH (e:=544) (sz:=1) (vs:=[pt b]) qF O O qQ V O<|fun r=>zE [0] O V<|fun c a d=>zM 4 O a<|zJ 2 (v:=zW) O O O O<|zE [0] O V<|fun c a d=>zM 11 O a<|y1 544 1<|yF (g:=P1) (sz:=1) (by':=8) (fun _=>O) (l:=[]) (l':=[b]) qR 5 qF O O O (fun c p=>Vec.sl<|Own.holds p 4 _ O) qH V O<|fun n=>zE [0] O V<|fun c a d=>zD 12 O (zY O) d<|zD 13 O (zL (o:=2) O) d<|zM 14 O a<|zS (fun c a=>Own.qa (i:=5) O a)<|fun ac=>(zi 2 O O O ac O<|zE [0] O V<|fun c a d=>zX (⟨n, .slice (some ⟨m,0,none⟩) 1 1,b,a8,s,D1,f,⟨O,trivial⟩,⟨h,u,a0,x,y⟩,a.sel [2,5,3,1,0] O V⟩))
  exact absurd O c2
 have aq:=hΦ.1
 have u:=hΦ.2.1
 have a0:=hΦ.2.2.1
 have x:=hΦ.2.2.2.1
 have y:=hΦ.2.2.2.2
 have aw:=zAt (k:=s) (f:=f) (l:=kf)
 refine zB<|zC O<|zV O O<|zI (o:=0) O O<|zJ 0 (v:=pt db) O O O O<|zG O O<|fun c a=>(zFT db D1 (yZ s f kf) c ‹_› qH<|a.give [4] O V).mono ?_
 rintro _ w1 ⟨D'9_,rfl,a9,a5,hO⟩
 refine(?_:CL _ _ _ _ _ _ (Own w S [_,_,_,_,_])) w1<|a.qc [4] O hO
 refine zF O<|zA<|zP<|zm (v:=Vi 0) O O<|fun c a=>⟨sv,mv,D'9_,sb,nm,s,f,O,aq,y,u,a9,a5.trans x,a⟩
theorem zOK{S:List Nat}(db:Nat)(D:DskD)(kf:List (ByteArray×FilD))(w:World)(hk:DskCl D)(hl:kf.length=0)(hr:1000≤D.room)(y:Own w S [Res.dk db D kf] w):Rets Tryz.prog 112 #[pt db] w fun u_ i=>∃ (sv mv:Value) (D':DskD) (wb sb:Nat) (nm fn:ByteArray) (f:FilD),u_= .tuple #[pt wb,Vi 0]∧kg nm∧fn≠jp∧f.bs.length=0∧DskCl D'∧D'.room=D.room∧Own w S [xt wb db sv zW,vG sv [sb],jB sb nm 1 mv,vI mv ([0]:List Int),Res.dk db D' (yZ fn f kf)] i:=by
 refine zO Tryz.func112 O Tryz.ntmps112 y<|zB<|zF O<|zF O<|zA<|zK<|zB<|zC O<|yE qF O O O<|zA<|yW O<|zN<|zK<|zB<|zC O<|zG O O<|fun i a=>(zJA db _ _ i ‹_› (a.give [0] O V)).mono ?_
 rintro _ n ⟨rfl,o⟩
 refine(?_:CL _ _ _ _ _ _ (Own w S [_])) n<|a.qc [0] O o
 refine zA<|yW O<|zN<|zB<|zC O<|yJ (cs:=[pt db,Vn 0,zW,zW,Vn 1,yC]) (z:=[.pointer none,Vn 0,zW,zW,Vn 0,yC]) (pl:=[(0,1),(1,1),(2,1),(3,1),(4,1),(5,1)]) qF qF O<|zj O O<|fun j=>zF O<|zA<|zB<|zF O<|zA<|zK<|zB<|zC O<|zG O O<|fun i a=>(zDo db _ _ i ‹_› qH<|a.give [0] O V).mono ?_
 rintro m n ⟨_,b,rfl,p,o⟩
 refine(?_:CL _ _ _ _ _ _ (Own w S [_,_,_])) n<|a.qc [0] O o
 refine zn (pV 2 O) O O<|zC O<|zA<|zU<|yQ (fun(k:Nat)=>[(4,pt j),(5,zW),(20,m),(21,Vj b.length),(22,Vj k)]) (fun(k:Nat)=>k=0) (fun(k:Nat)=>[xt j db zW zW,Res.dk db D kf,Res.vec 9 1 m b.length (b.flatMap S1)]) (fun(k:Nat)=>0) (fun i a=>⟨0,⟨O,O,O,O,O,trivial⟩,O,a⟩)<|fun k g hΦ=> ?_
 have a1:=hΦ
 have a2:b.length=0:=by rw[p.length_eq,List.length_map];exact hl
 refine zB<|zu O O O<|zA<|zK<|zT O (fun c3=> ?_)<|fun c3=> ?_
 ·exact absurd c3 qG
 refine zw O<|zB<|zC O<|zG O O<|fun i a=>(zRN i).mono ?_
 rintro _ n ⟨rfl,o⟩
 refine(?_:CL _ _ _ _ _ _ (Own w S [_,_,_])) n<|a.qb o
 refine zA<|zK<|zB<|zC O<|zC O<|zG O O<|fun i a=>(zPY j db _ _ i ‹_› qH qH<|a.give [0,1] O V).mono ?_
 rintro _ n ⟨q,r,D'5_,s,u,x,a0,rfl,l,c,d,e,h,o⟩
 refine(?_:CL _ _ _ _ _ _ (Own w S [_,_,_,_,_,_])) n<|a.qc [0,1] O o
 refine zF O<|zA<|zB<|zC O<|yf O O O<|zA<|zT O (fun c4=> ?_)<|fun c4=> ?_
 ·exact absurd O c4
 refine zN<|zB<|zC O<|zF O<|zF O<|zA<|zP<|yg (v:=pt j) (v':=Vi 0) O O O<|fun i a=>⟨q,r,D'5_,j,s,u,x,a0,O,l,c,d,e,h,a.sel [1,2,3,4,5] O V⟩
theorem zPU{S:List Nat}(wb db:Nat)(sv rv mv:Value)(segs:List Nat)(recs:List (Value×List UInt8))(nm:ByteArray)(fi:Nat)(ms:List Int)(D:DskD)(kf:List (ByteArray×FilD))(lv:Value)(l:List (Value×List UInt8))(w:World)(hl:l.length=1)(hb:∀ p∈l,p.2.length≤5000)(hk:DskCl D)(b2:kf.length<4000)(hs:0<segs.length∧segs.length≤1000)(b3:recs.length≤900)(hm:0<ms.length∧ms.length≤1000)(hn:kg nm)(hr:((tot kf+6000:Nat):Int)≤D.room)(he:0≤zc ms (ms.length - 1)∧zc ms (ms.length - 1)<512)(ap:Own w S [xt wb db sv rv,vG sv segs,vB rv recs,jB (zc segs (segs.length - 1)) nm fi mv,vI mv ms,Res.dk db D kf] w)(a0:Rd w S (Res.sl lv l.length (l.flatMap pv)))(s:∀ p∈l,BsRd p w S):Rets Tryz.prog 403 #[pt wb,lv] w fun u_ c=>∃ (sv' rv' mv':Value) (ms':List Int) (recs':List (Value×List UInt8)) (D':DskD) (f:FilD),u_=Vi 0∧recs'.length=recs.length+1∧DskOk D'∧D'.room=D.room∧f.bs.length≤((zl nm kf).getD kT).bs.length+6000∧(0<ms'.length∧ms'.length=ms.length+1)∧(0≤zc ms' (ms'.length - 1)∧zc ms' (ms'.length - 1)≤6000)∧zc ms' (ms'.length - 1)=zc ms (ms.length - 1)+(((8+((xS (1+recs.length)).length+(zc l 0).2.length)):Nat):Int)∧Own w S [xt wb db sv' rv',vG sv' segs,vB rv' recs',jB (zc segs (segs.length - 1)) nm fi mv',vI mv' ms',Res.dk db D' (yZ nm f kf)] c:=by
 refine zO Tryz.func403 O Tryz.ntmps403 ap<|zB<|zF O<|zA<|zK<|zB<|zC O<|zG O O<|fun c a=>(zD8 wb db sv rv c<|a.give [0] O V).mono ?_
 rintro _ w1 ⟨rfl,hO⟩
 refine(?_:CL _ _ _ _ _ _ (Own w S [_,_,_,_,_,_])) w1<|a.qc [0] O hO
 refine zF O<|zA<|zB<|zC O<|yf O O O<|zA<|zT O (fun c1=> ?_)<|fun c1=> ?_
 ·exact absurd O c1
 refine zN<|zK<|zB<|zC O<|zn (pR a0) O O<|zC O<|zA<|zU<|yQ (fun(k:Nat)=>[(0,pt wb),(1,lv),(25,lv),(26,Vj l.length),(27,Vj k)]) (fun(k:Nat)=>k≤l.length) (fun(k:Nat)=>[vG sv segs,vB rv recs,jB (zc segs<|segs.length - 1) nm fi mv,vI mv ms,Res.dk db D kf,xt wb db sv rv]) (fun(k:Nat)=>l.length - k) (fun c a=>⟨0,⟨O,O,O,O,O,trivial⟩,Nat.zero_le _,a⟩)<|fun k g hΦ=>(zB<|zu O O O<|zA<|zK<|zT O (fun c2=> ?_)<|fun c2=> ?_)
 ·have b4:=hb _ (zy (l:=l) (j:=k) qG)
  refine zN<|zK<|zU<|zB<|yL (pR a0) 1 k O O O qG O<|xC (pR a0) 1 k 0 (fun _=>O) O O qG O O<|zF O<|zA<|zB<|zC O<|zn (pR<|s _<|zy qG) O O<|yY O O O<|zA<|zT O (fun c3=> ?_)<|fun c3=> ?_
  ·exact absurd c3 qG
  refine zN<|ze<|zr O O (zt qG) O<|zC O<|zx<|fun c a=>⟨k+1,⟨O,O,O,O,O,trivial⟩,qG,a,qG⟩
 refine zw O<|zK<|zB<|zC O<|zn (pR a0) O O<|yT O O O<|zA<|zT O (fun c4=> ?_)<|fun c4=> ?_
 ·exact absurd c4 qG
 refine zN<|zB<|zF O<|zA<|zK<|zB<|zC O<|zV O O<|zI (o:=2) O O<|zJ 5 (v:=sv) O O O O<|zn (pV 0 O) O O<|zF O<|zA<|zB<|zC O<|yY O O O<|zC O<|yA (q:=0<((segs.length:Nat):Int)) 10 2 [55,54,53,52,51,50,49,48,47,46] ((zc ms<|ms.length - 1)<512) O O O O O O trivial O (fun r=> ?_)<|fun an=> ?_
 ·refine zQ O (gT r)<|zC O<|zQ O (gT r)<|zV O O<|zQ O (gT r)<|zI (o:=2) O O<|zQ O (gT r)<|zJ 5 (v:=sv) O O O O<|zQ O (gT r)<|zC O<|zQ O (gT r)<|y9 O O (zt qG) O<|zQ O (gT r)<|yL (pV 0 O) 1 (segs.length - 1) O O qG qG O<|zQ O (gT r)<|xC (pV 0 O) 1 (segs.length - 1) 0 (fun _=>O) O O qG O O<|zQ O (gT r)<|zG O O<|fun c a=>(zFb (zc segs<|segs.length - 1) nm fi mv ms c qH<|a.give [2,3] O V).mono ?_
  rintro _ w1 ⟨rfl,hO⟩
  refine(?_:CL _ _ _ _ _ _ (Own w S [_,_,_,_,_,_])) w1<|a.qc [2,3] O hO
  refine zQ O (gT r)<|zu O O O<|z8 O<|fun _ a=>a.sel [0,1,4,5,2,3] O V
 refine zA<|zT O (fun c5=> ?_)<|fun c5=> ?_
 ·refine ze<|zC O<|zV O O<|zI (o:=2) O O<|zJ 5 (v:=sv) O O O O<|zC O<|y9 O O (zt qG) O<|yL (pV 0 O) 1 (segs.length - 1) O O qG qG O<|xC (pV 0 O) 1 (segs.length - 1) 0 (fun _=>O) O O qG O O<|zF O<|zA<|jf (fun(fr:Nat)=>[(0,pt wb),(1,lv),(8,pt<|zc segs<|segs.length - 1),(10,Vj fr),(11,mv)]) (fun(fr:Nat)=>(fr:Int)=zc ms (ms.length - 1)) (fun(fr:Nat)=>[xt wb db sv rv,vG sv segs,vB rv recs,jB (zc segs<|segs.length - 1) nm fi mv,vI mv ms,Res.dk db D kf]) ?_<|fun fr g hΦ=> ?_
  ·refine zd [0,1,2,3,4,5] O V qF<|fun c a n=>zD 0 O za n<|zD 2 O za n<|zD 3 O (zY O) n<|zD 4 O (zL (o:=2) O) n<|zD 5 O (zZ 2 (v:=mv) O O O) n<|zM 1 O a<|zG O O<|fun c a=>(zFb (zc segs<|segs.length - 1) nm fi mv ms c qH<|a.give [2,3] O V).mono ?_
   rintro _ w1 ⟨rfl,hO⟩
   refine(?_:CL _ _ _ _ _ _ (Own w S [_,_,_,_,_,_])) w1<|a.qc [2,3] O hO
   refine zE [0,1,4,5,2,3] O V<|fun c a n=>zD 6 O yB n<|zD 7 O yB n<|zX (⟨(zc ms<|ms.length - 1).toNat,⟨O,O,O,(by show Vi _=Vj _;unfold Vi Vj;congr 1;omega),O,trivial⟩,qG,a.sel [3,0,1,4,5,2] O V⟩)
  have b5:=hΦ
  refine zB<|zF O<|zA<|zK<|zB<|zC O<|zn (pR a0) O O<|zC O<|zA<|zU<|zAz (fun(k:Nat) (a1:Value) (y:List Int) (bv:Value) (b:List UInt8)=>[(0,pt wb),(1,lv),(8,pt<|zc segs<|segs.length - 1),(10,Vj fr),(11,a1),(12,bv),(80,lv),(81,Vj l.length),(82,Vj k)]) (fun(k:Nat) (a1:Value) (y:List Int) (bv:Value) (b:List UInt8)=>(k≤l.length∧y.length=ms.length+k)∧(b.length≤5100*k∧(k=1→b.length=(8+((xS<|1+recs.length).length+(zc l 0).2.length))))∧(0<k→zc y (y.length - 1)=(fr:Int)+b.length)) (fun(k:Nat) (a1:Value) (y:List Int) (bv:Value) (b:List UInt8)=>[xt wb db sv rv,vG sv segs,vB rv recs,jB (zc segs<|segs.length - 1) nm fi mv,vI a1 y,Res.dk db D kf,vY bv b]) (fun(k:Nat) (a1:Value) (y:List Int) (bv:Value) (b:List UInt8)=>l.length - k) (fun c a=>⟨0,mv,ms,zW,[],⟨O,O,O,O,O,O,O,O,O,trivial⟩,⟨⟨Nat.zero_le _,O⟩,⟨Nat.zero_le _,fun h=>absurd h qG⟩,fun h=>absurd h qG⟩,(zq a 5 1)⟩)<|fun k a1 y bv b g hΦ=> ?_
  have b6:=hΦ.1.1
  have aq:=hΦ.1.2
  have b7:=hΦ.2.1.1
  have ar:=hΦ.2.1.2
  have af:=hΦ.2.2
  refine zB<|zu O O O<|zA<|zK<|zT O (fun c6=> ?_)<|fun c6=> ?_
  ·have ay:=hb _ (zy (l:=l) (j:=k) qG)
   have au:(xS ((1+recs.length)+k)).length≤9:=jz qG
   have az:([]++xS ((1+recs.length)+k)).length≤9:=au
   refine zN<|zK<|zU<|zB<|zC O<|yL (pR a0) 1 k O O O qG O<|xC (pR a0) 1 k 0 (fun _=>O) O O qG O O<|zF O<|zF O<|zA<|zB<|zC O<|zG O O<|fun c a=>((zB8 wb db sv rv recs c qH<|a.give [0,2] O V).mono ?_)
   rintro _ w1 ⟨rfl,hO⟩
   refine(?_:CL _ _ _ _ _ _ (Own w S [_,_,_,_,_,_,_])) w1<|a.qc [0,2] O hO
   refine zC O<|yh qF O (yz qG) O ?_ qF
   refine zr O O (yz qG) O<|zG O O<|fun c a=>(zCH zW [] ((1+recs.length)+k) c qH qH Rd.nil).mono ?_
   rintro b8 w1 ⟨_,rfl,hO⟩
   refine(?_:CL _ _ _ _ _ _ (Own w S [_,_,_,_,_,_,_,_])) w1<|a.qb hO
   refine zC O<|zAe (l:=([]++xS ((1+recs.length)+k))) (l':=(zc l k).2) 7 qF O O O (fun c z=>Own.rd (s _<|zy qG) z) qH O<|fun av=>zG O O<|fun c a=>(zFO av (([]++xS ((1+recs.length)+k))++((zc l k).2)) c qK<|a.qj 7 O).mono ?_
   rintro _ w1 ⟨ag,u,rfl,a4,hO⟩
   have b9:u.length≤5017:=by rw[a4];simp only[List.length_append,List.length_nil];omega
   have aw:(b++u).length=b.length+u.length:=List.length_append
   have ax:u.length=8+((xS ((1+recs.length)+k)).length+(zc l k).2.length):=by rw[a4];simp only[List.length_append,List.length_nil];omega
   refine(?_:CL _ _ _ _ _ _ (Own w S [_,_,_,_,_,_,_,_,_])) w1<|a.qb hO
   refine zC O<|zb (vs:=[ag,Vi 0]) O O O<|zb (vs:=[ag,Vi 0]) O O O<|zF O<|zF O<|zA<|zB<|zC O<|zC O<|zAe (l:=b) (l':=u) 4 qF O O O (fun c z=>Vec.sl<|Own.holds z 8 _ O) qH O<|fun ah=>zF O<|zA<|ze<|zC O<|zC O<|zC O<|zn (pV 4 O) O O<|zr O O (zt qG) O<|yH (e:=3) (sz:=1) (vs:=[Vj (fr+((b++u).length))]) qF O O qL V O<|fun b0=>yF (g:=I1) (sz:=1) (by':=8) (fun _=>O) (l:=y) (l':=[((fr+((b++u).length):Nat):Int)]) qO 2 qF O O O (fun c z=>Vec.sl<|Own.holds z 9 _ O) qH V O<|fun ai=>zF O<|zA<|ze<|zr O O (zt qG) O<|zC O<|zx<|fun c a=>⟨k+1,ai,y++[((fr+(b++u).length:Nat):Int)],ah,b++u,⟨O,O,O,O,O,O,O,O,O,trivial⟩,⟨⟨by omega,by rw[List.length_append,aq];rfl⟩,⟨by rw[List.length_append];omega,fun h=>by have h0:k=0:=qG;subst h0;rw[aw,ax];simp only[Nat.add_zero];omega⟩,fun _=>by rw[zEx];omega⟩,a.sel [5,0,6,1,2,3,4] O V,qG⟩
  refine zw O<|zK<|zK<|zd [0,1,2,3,4,6] O V qF<|fun c a n=>zD 0 O za n<|zD 1 O za n<|zD 2 O (zY O) n<|zD 3 O (zL (o:=0) O) n<|zD 4 O (zZ 0 (v:=pt db) O O O) n<|zD 5 O za n<|zD 6 O (zY O) n<|zD 7 O (zL (o:=0) O) n<|zD 8 O (zZ 3 (v:= .string nm) O O O) n<|zD 9 O za n<|zD 10 O za n<|zM 11 O a<|zG O O<|fun c a=>(zFU db _ _ nm fr bv b c ‹_› ‹_› qH qH qH (a.give [5] O V)<|a.rdVec 6 O [5] O O).mono ?_
  rintro _ w1 ⟨D'4_,aj,rfl,a6,a3,ab,hO⟩
  refine(?_:CL _ _ _ _ _ _ (Own w S [_,_,_,_,_,_,_])) w1<|a.qc [5] O hO
  refine zE [0,1,2,3,4,5] O V<|fun c a n=>zM 12 O a<|zG O O<|fun c a=>(zHg wb db sv rv c<|a.give [0] O V).mono ?_
  rintro _ w1 ⟨rfl,hO⟩
  refine(?_:CL _ _ _ _ _ _ (Own w S [_,_,_,_,_,_,_])) w1<|a.qc [0] O hO
  refine zE [6,0,1,2,3,4] O V<|fun c a n=>zD 13 O yB n<|zX<|(?_:C _ _ _ _ _ _ _ (Own w S [_,_,_,_,_,_,_])) _ a
  refine zB<|zC O<|yf O O O<|zA<|zT O (fun c7=> ?_)<|fun c7=> ?_
  ·exact absurd O c7
  refine zN<|zK<|yd qF qF<|zR O (za)<|zR O (zY O)<|zR O (zL (o:=2) O)<|zR O (zZ 6 (v:=sv) O O O)<|zR O (kY (pV 0 O) O)<|zR O (zLD O O)<|zR O (za)<|zEm (q:=((segs.length:Nat):Int)=0) 14 6 [146,145,144,143,142,141,140,139,138,137,136,135,134,133] (false=true) O O O O O O trivial O (fun d=> ?_)<|fun ao=> ?_
  ·refine yU O (gF d)<|zR O (za)<|yU O (gF d)<|zR O (zY O)<|yU O (gF d)<|zR O (zL (o:=2) O)<|yU O (gF d)<|zR O (zZ 6 (v:=sv) O O O)<|yU O (gF d)<|zR O (za)<|yU O (gF d)<|zR O (zY O)<|yU O (gF d)<|zR O (zL (o:=2) O)<|yU O (gF d)<|zR O (zZ 6 (v:=sv) O O O)<|yU O (gF d)<|zR O (kY (pV 0 O) O)<|yU O (gF d)<|zR O (ji O O<|zt qG)<|yU O (gF d)<|zR O (kN (pV 0 O) 1 (segs.length - 1) O O qG qG)<|yU O (gF d)<|zR O (zA8 (pV 0 O) 1 (segs.length - 1) 0 (fun _=>O) O O qG O)<|yU O (gF d)<|zR O (za)<|yU O (gF d)<|zR O (zMH (t':=546) qF qF O O qF)<|zCx<|y2 _
  refine xX<|zT O (fun c8=> ?_)<|fun c8=> ?_
  ·exact absurd c8 (by intro q;rcases q with q|q;omega;cases q)
  refine zN<|zB<|zC O<|zC O<|zV O O<|zI (o:=2) O O<|zS (fun c a=>Own.qa (i:=3) O a)<|fun ak=>(zi (cs:=[.string nm,Vn fi,mv]) 2 O O O ak O<|zA<|zK<|zB<|zC O<|zn (pR a0) O O<|zC O<|zA<|zU<|xV (fun(j:Nat) (x:Value) (m:List (Value×List UInt8))=>[(0,pt wb),(162,lv),(163,Vj l.length),(164,Vj j)]) (fun(j:Nat) (x:Value) (m:List (Value×List UInt8))=>j≤l.length∧m.length=recs.length+j) (fun(j:Nat) (x:Value) (m:List (Value×List UInt8))=>[xt wb db sv x,vG sv segs,vB x m,jB (zc segs<|segs.length - 1) nm fi a1,vI a1 y,Res.dk db D'4_ (yZ nm aj kf)]) (fun(j:Nat) (x:Value) (m:List (Value×List UInt8))=>l.length - j) (fun c a=>⟨0,rv,recs,⟨O,O,O,O,trivial⟩,⟨Nat.zero_le _,O⟩,a.sel [6,0,1,2,3,5] O V⟩)<|fun j x m g hΦ=> ?_)
  have ba:=hΦ.1
  have ac:=hΦ.2
  refine zB<|zu O O O<|zA<|zK<|zT O (fun c9=> ?_)<|fun c9=> ?_
  ·have b1:=hb _ (zy (l:=l) (j:=j) qG)
   refine zN<|zK<|zU<|zB<|yL (pR a0) 1 j O O O qG O<|xC (pR a0) 1 j 0 (fun _=>O) O O qG O O<|zF O<|zA<|zd [1,3,4,5] O V qF<|fun c a n=>zD 0 O za n<|zD 1 O za n<|zD 2 O (zY O) n<|zD 3 O (zL (o:=3) O) n<|zD 5 O za n<|z7 4 6 ?_ ?_
   ·refine zo 4 O a<|zJ 0 (v:=x) O O O O<|zE [1,3,4,5] O V<|fun c a n=>zM 6 O a<|zG O O<|fun c a=>(y3 ((zc l j).1) ((zc l j).2) c qI<|a.rd0<|s _<|zy qG).mono ?_
    rintro ad w1 ⟨_,rfl,hO⟩
    refine(?_:CL _ _ _ _ _ _ (Own w S [_,_,_,_,_,_,_])) w1<|a.qb hO
    refine zE [1,3,4,5] O V<|fun c a n=>zM 7 O a<|zS (fun c a=>Own.qa (i:=6) O a)<|fun a7=>(ko (e:=73) (vs:=[ad]) qF O O (zH a7 zh) V O<|fun a8=>zE [1,3,4,5] O V<|fun c a n=>zM 8 O a<|yF (g:=pv) (sz:=1) (by':=24) (fun _=>O) (l:=m) (l':=[(ad,((zc l j).2))]) (all_cons ((zH a7 zh)) qJ) 2 qF O O O (fun c z=>Vec.sl<|Own.holds z 7 _ O) qH V O<|fun a2=>zE [1,3,4,5] O V<|fun c a n=>zD 9 O (zY O) n<|zD 10 O (zL (o:=3) O) n<|zM 11 O a<|zS (fun c a=>Own.qa (i:=2) O a)<|fun al=>(zi (cs:=[pt db,Vn 0,sv,x,Vn 1,yC]) 0 O O O al O<|zE [1,3,4,5] O V<|fun c a n=>zX<|(?_:C _ _ _ _ _ _ _ (Own w S [_,_,_,_,_,_,_,_])) _ a))
    refine ze<|zr O O (zt qG) O<|zC O<|zx<|fun c a=>⟨j+1,a2,m++[(ad,(zc l j).2)],⟨O,O,O,O,trivial⟩,⟨by omega,by rw[List.length_append,ac];rfl⟩,a.sel [0,1,2,3,4,5] O V,qG⟩
   refine zo 6 O a<|zG O O<|fun c a=>(y3 ((zc l j).1) ((zc l j).2) c qI<|a.rd0<|s _<|zy qG).mono ?_
   rintro a5 w1 ⟨_,rfl,hO⟩
   refine(?_:CL _ _ _ _ _ _ (Own w S [_,_,_,_,_,_,_])) w1<|a.qb hO
   refine zE [1,3,4,5] O V<|fun c a n=>z7 4 7 ?_ ?_
   ·refine zo 4 O a<|zJ 0 (v:=x) O O O O<|zE [1,3,4,5] O V<|fun c a n=>zM 7 O a<|zS (fun c a=>Own.qa (i:=6) O a)<|fun a9=>(ko (e:=73) (vs:=[a5]) qF O O (zH a9 zh) V O<|fun a8=>zE [1,3,4,5] O V<|fun c a n=>zM 8 O a<|yF (g:=pv) (sz:=1) (by':=24) (fun _=>O) (l:=m) (l':=[(a5,((zc l j).2))]) (all_cons ((zH a9 zh)) qJ) 2 qF O O O (fun c z=>Vec.sl<|Own.holds z 7 _ O) qH V O<|fun a2=>zE [1,3,4,5] O V<|fun c a n=>zD 9 O (zY O) n<|zD 10 O (zL (o:=3) O) n<|zM 11 O a<|zS (fun c a=>Own.qa (i:=2) O a)<|fun am=>(zi (cs:=[pt db,Vn 0,sv,x,Vn 1,yC]) 0 O O O am O<|zE [1,3,4,5] O V<|fun c a n=>zX<|(?_:C _ _ _ _ _ _ _ (Own w S [_,_,_,_,_,_,_,_])) _ a))
    refine ze<|zr O O (zt qG) O<|zC O<|zx<|fun c a=>⟨j+1,a2,m++[(a5,(zc l j).2)],⟨O,O,O,O,trivial⟩,⟨by omega,by rw[List.length_append,ac];rfl⟩,a.sel [0,1,2,3,4,5] O V,qG⟩
   refine zo 7 O a<|zS (fun c a=>Own.qa (i:=6) O a)<|fun aa=>(ko (e:=73) (vs:=[a5]) qF O O (zH aa zh) V O<|fun a8=>zE [1,3,4,5] O V<|fun c a n=>zM 4 O a<|zJ 0 (v:=x) O O O O<|zE [1,3,4,5] O V<|fun c a n=>zM 8 O a<|yF (g:=pv) (sz:=1) (by':=24) (fun _=>O) (l:=m) (l':=[(a5,((zc l j).2))]) (all_cons ((zH aa zh)) qJ) 2 qF O O O (fun c z=>Vec.sl<|Own.holds z 7 _ O) qH V O<|fun a2=>zE [1,3,4,5] O V<|fun c a n=>zD 9 O (zY O) n<|zD 10 O (zL (o:=3) O) n<|zM 11 O a<|zS (fun c a=>Own.qa (i:=2) O a)<|fun ae=>(zi (cs:=[pt db,Vn 0,sv,x,Vn 1,yC]) 0 O O O ae O<|zE [1,3,4,5] O V<|fun c a n=>zX<|(?_:C _ _ _ _ _ _ _ (Own w S [_,_,_,_,_,_,_,_])) _ a))
   refine ze<|zr O O (zt qG) O<|zC O<|zx<|fun c a=>⟨j+1,a2,m++[(a5,(zc l j).2)],⟨O,O,O,O,trivial⟩,⟨by omega,by rw[List.length_append,ac];rfl⟩,a.sel [0,1,2,3,4,5] O V,qG⟩
  refine zw O<|zB<|zF O<|zA<|zP<|zm (v:=Vi 0) O O<|fun c a=>⟨sv,x,a1,y,m,D'4_,aj,O,qG,a6,a3,qG,⟨by omega,by omega⟩,(by have:=af qG;omega),(by have:=af qG;have:=ar qG;omega),a⟩
 exact absurd ⟨by omega,he.2⟩ c5
theorem zOP{S:List Nat}(wb db:Nat)(sv rv mv:Value)(segs:List Nat)(recs:List (Value×List UInt8))(nm:ByteArray)(fi:Nat)(ms:List Int)(D:DskD)(kf:List (ByteArray×FilD))(lv:Value)(l:List (Value×List UInt8))(w:World)(hl:l.length=1)(hb:∀ p∈l,p.2.length≤5000)(hk:DskCl D)(bh:kf.length<4000)(hs:0<segs.length∧segs.length≤1000)(bi:recs.length≤900)(hm:0<ms.length∧ms.length≤1000)(hn:kg nm)(hr:((tot kf+6000:Nat):Int)≤D.room)(bj:recs.length<98)(he:512≤zc ms (ms.length - 1))(b1:Own w S [xt wb db sv rv,vG sv segs,vB rv recs,jB (zc segs (segs.length - 1)) nm fi mv,vI mv ms,Res.dk db D kf] w)(a6:Rd w S (Res.sl lv l.length (l.flatMap pv)))(x:∀ p∈l,BsRd p w S):Rets Tryz.prog 403 #[pt wb,lv] w fun u_ c=>∃ (r:Nat) (s:ByteArray) (sv' rv' mv':Value) (ms':List Int) (recs':List (Value×List UInt8)) (D':DskD) (f:FilD),u_=Vi 0∧recs'.length=recs.length+1∧DskOk D'∧D'.room=D.room∧f.bs.length≤((zl s kf).getD kT).bs.length+6000∧(0<ms'.length∧ms'.length=2)∧(0≤zc ms' (ms'.length - 1)∧zc ms' (ms'.length - 1)≤6000)∧kg s∧zc ms' (ms'.length - 1)=(((8+((xS (1+recs.length)).length+(zc l 0).2.length)):Nat):Int)∧Own w S [xt wb db sv' rv',vG sv' (segs++[r]),vB rv' recs',jB r s (1+recs.length) mv',vI mv' ms',Res.dk db D' (yZ s f kf)] c:=by
 refine zO Tryz.func403 O Tryz.ntmps403 b1<|zB<|zF O<|zA<|zK<|zB<|zC O<|zG O O<|fun c a=>(zD8 wb db sv rv c<|a.give [0] O V).mono ?_
 rintro _ w1 ⟨rfl,hO⟩
 refine(?_:CL _ _ _ _ _ _ (Own w S [_,_,_,_,_,_])) w1<|a.qc [0] O hO
 refine zF O<|zA<|zB<|zC O<|yf O O O<|zA<|zT O (fun c1=> ?_)<|fun c1=> ?_
 ·exact absurd O c1
 refine zN<|zK<|zB<|zC O<|zn (pR a6) O O<|zC O<|zA<|zU<|yQ (fun(k:Nat)=>[(0,pt wb),(1,lv),(25,lv),(26,Vj l.length),(27,Vj k)]) (fun(k:Nat)=>k≤l.length) (fun(k:Nat)=>[vG sv segs,vB rv recs,jB (zc segs<|segs.length - 1) nm fi mv,vI mv ms,Res.dk db D kf,xt wb db sv rv]) (fun(k:Nat)=>l.length - k) (fun c a=>⟨0,⟨O,O,O,O,O,trivial⟩,Nat.zero_le _,a⟩)<|fun k g hΦ=>(zB<|zu O O O<|zA<|zK<|zT O (fun c2=> ?_)<|fun c2=> ?_)
 ·have bk:=hb _ (zy (l:=l) (j:=k) qG)
  refine zN<|zK<|zU<|zB<|yL (pR a6) 1 k O O O qG O<|xC (pR a6) 1 k 0 (fun _=>O) O O qG O O<|zF O<|zA<|zB<|zC O<|zn (pR<|x _<|zy qG) O O<|yY O O O<|zA<|zT O (fun c3=> ?_)<|fun c3=> ?_
  ·exact absurd c3 qG
  refine zN<|ze<|zr O O (zt qG) O<|zC O<|zx<|fun c a=>⟨k+1,⟨O,O,O,O,O,trivial⟩,qG,a,qG⟩
 refine zw O<|zK<|zB<|zC O<|zn (pR a6) O O<|yT O O O<|zA<|zT O (fun c4=> ?_)<|fun c4=> ?_
 ·exact absurd c4 qG
 refine zN<|zB<|zF O<|zA<|zHu (fun(r:Nat) (y:Value) (s:ByteArray)=>[(0,pt wb),(1,lv),(8,pt r)]) (fun(r:Nat) (y:Value) (s:ByteArray)=>kg s) (fun(r:Nat) (y:Value) (s:ByteArray)=>[xt wb db sv rv,vG sv segs,vB rv recs,jB (zc segs<|segs.length - 1) nm fi mv,jB r s (1+recs.length) y,vI y ([0]:List Int),Res.dk db D kf]) ?_<|fun r y s g hΦ=> ?_
 ·refine zB<|zC O<|zV O O<|zI (o:=2) O O<|zJ 5 (v:=sv) O O O O<|zn (pV 0 O) O O<|zF O<|zA<|zB<|zC O<|yY O O O<|zC O<|yA (q:=0<((segs.length:Nat):Int)) 10 2 [55,54,53,52,51,50,49,48,47,46] ((zc ms<|ms.length - 1)<512) O O O O O O trivial O (fun u=> ?_)<|fun ay=> ?_
  ·refine zQ O (gT u)<|zC O<|zQ O (gT u)<|zV O O<|zQ O (gT u)<|zI (o:=2) O O<|zQ O (gT u)<|zJ 5 (v:=sv) O O O O<|zQ O (gT u)<|zC O<|zQ O (gT u)<|y9 O O (zt qG) O<|zQ O (gT u)<|yL (pV 0 O) 1 (segs.length - 1) O O qG qG O<|zQ O (gT u)<|xC (pV 0 O) 1 (segs.length - 1) 0 (fun _=>O) O O qG O O<|zQ O (gT u)<|zG O O<|fun c a=>(zFb (zc segs<|segs.length - 1) nm fi mv ms c qH<|a.give [2,3] O V).mono ?_
   rintro _ w1 ⟨rfl,hO⟩
   refine(?_:CL _ _ _ _ _ _ (Own w S [_,_,_,_,_,_])) w1<|a.qc [2,3] O hO
   refine zQ O (gT u)<|zu O O O<|z8 O<|fun _ a=>a.sel [0,1,4,5,2,3] O V
  refine zA<|zT O (fun c5=> ?_)<|fun c5=> ?_
  ·exact absurd c5.2 qG
  refine ze<|zC O<|zC O<|zG O O<|fun c a=>(zB8 wb db sv rv recs c qH<|a.give [5,1] O V).mono ?_
  rintro _ w1 ⟨rfl,hO⟩
  refine(?_:CL _ _ _ _ _ _ (Own w S [_,_,_,_,_,_])) w1<|a.qc [5,1] O hO
  refine zG O O<|fun c a=>(zAG wb db sv rv (1+recs.length) c qG<|a.give [4] O V).mono ?_
  rintro _ w1 ⟨b2,rfl,az,al,hO⟩
  refine(?_:CL _ _ _ _ _ _ (Own w S [_,_,_,_,_,_])) w1<|a.qc [4] O hO
  refine zC O<|zG O O<|fun c a=>(zB8 wb db sv rv recs c qH<|a.give [5,4] O V).mono ?_
  rintro _ w1 ⟨rfl,hO⟩
  refine(?_:CL _ _ _ _ _ _ (Own w S [_,_,_,_,_,_])) w1<|a.qc [5,4] O hO
  refine yH (e:=3) (sz:=1) (vs:=[Vi 0]) qF O O qL V O<|fun am=>yJ (cs:=[.string b2,Vn (1+recs.length),(.slice (some ⟨am,0,none⟩) 1 1)]) (z:=[ym,Vn 0,zW]) (pl:=[(0,1),(1,1),(2,1)]) qF qF O<|zj O O<|fun b3=>zF O<|zx<|fun c a=>⟨b3, .slice (some ⟨am,0,none⟩) 1 1,_,⟨O,O,O,trivial⟩,(by assumption),a.sel [4,0,5,1,7,6,3] O V⟩
 have b4:=hΦ
 refine jf (fun(fr:Nat)=>[(0,pt wb),(1,lv),(8,pt r),(10,Vj fr),(11,y)]) (fun(fr:Nat)=>fr=0) (fun(fr:Nat)=>[xt wb db sv rv,vG sv segs,vB rv recs,jB (zc segs<|segs.length - 1) nm fi mv,jB r s (1+recs.length) y,vI y ([0]:List Int),Res.dk db D kf]) ?_<|fun fr g hΦ=> ?_
 ·refine zd [0,1,2,3,4,5,6] O V qF<|fun c a n=>zD 0 O za n<|zD 2 O za n<|zD 3 O (zY O) n<|zD 4 O (zL (o:=2) O) n<|zD 5 O (zZ 4 (v:=y) O O O) n<|zM 1 O a<|zG O O<|fun c a=>(zFb r s (1+recs.length) y ([0]:List Int) c qK<|a.give [4,5] O V).mono ?_
  rintro _ w1 ⟨rfl,hO⟩
  refine(?_:CL _ _ _ _ _ _ (Own w S [_,_,_,_,_,_,_])) w1<|a.qc [4,5] O hO
  refine zE [0,1,2,3,5,6,4] O V<|fun c a n=>zD 6 O yB n<|zD 7 O yB n<|zX (⟨0,⟨O,O,O,(by rfl),O,trivial⟩,O,a.sel [0,1,2,3,5,6,4] O V⟩)
 have bl:=hΦ
 refine zB<|zF O<|zA<|zK<|zB<|zC O<|zn (pR a6) O O<|zC O<|zA<|zU<|zAz (fun(k:Nat) (a4:Value) (a1:List Int) (bv:Value) (b:List UInt8)=>[(0,pt wb),(1,lv),(8,pt r),(10,Vj fr),(11,a4),(12,bv),(80,lv),(81,Vj l.length),(82,Vj k)]) (fun(k:Nat) (a4:Value) (a1:List Int) (bv:Value) (b:List UInt8)=>(k≤l.length∧a1.length=1+k)∧(b.length≤5100*k∧(k=1→b.length=(8+((xS<|1+recs.length).length+(zc l 0).2.length))))∧(0<k→zc a1 (a1.length - 1)=(fr:Int)+b.length)) (fun(k:Nat) (a4:Value) (a1:List Int) (bv:Value) (b:List UInt8)=>[xt wb db sv rv,vG sv segs,vB rv recs,jB (zc segs<|segs.length - 1) nm fi mv,jB r s (1+recs.length) y,vI a4 a1,Res.dk db D kf,vY bv b]) (fun(k:Nat) (a4:Value) (a1:List Int) (bv:Value) (b:List UInt8)=>l.length - k) (fun c a=>⟨0,y,[0],zW,[],⟨O,O,O,O,O,O,O,O,O,trivial⟩,⟨⟨Nat.zero_le _,O⟩,⟨Nat.zero_le _,fun h=>absurd h qG⟩,fun h=>absurd h qG⟩,(zq a 5 1)⟩)<|fun k a4 a1 bv b g hΦ=> ?_
 have bm:=hΦ.1.1
 have b5:=hΦ.1.2
 have bn:=hΦ.2.1.1
 have b6:=hΦ.2.1.2
 have an:=hΦ.2.2
 refine zB<|zu O O O<|zA<|zK<|zT O (fun c6=> ?_)<|fun c6=> ?_
 ·have bb:=hb _ (zy (l:=l) (j:=k) qG)
  have b7:(xS ((1+recs.length)+k)).length≤9:=jz qG
  have bc:([]++xS ((1+recs.length)+k)).length≤9:=b7
  refine zN<|zK<|zU<|zB<|zC O<|yL (pR a6) 1 k O O O qG O<|xC (pR a6) 1 k 0 (fun _=>O) O O qG O O<|zF O<|zF O<|zA<|zB<|zC O<|zG O O<|fun c a=>((zB8 wb db sv rv recs c qH<|a.give [0,2] O V).mono ?_)
  rintro _ w1 ⟨rfl,hO⟩
  refine(?_:CL _ _ _ _ _ _ (Own w S [_,_,_,_,_,_,_,_])) w1<|a.qc [0,2] O hO
  refine zC O<|yh qF O (yz qG) O ?_ qF
  refine zr O O (yz qG) O<|zG O O<|fun c a=>(zCH zW [] ((1+recs.length)+k) c qH qH Rd.nil).mono ?_
  rintro bo w1 ⟨_,rfl,hO⟩
  refine(?_:CL _ _ _ _ _ _ (Own w S [_,_,_,_,_,_,_,_,_])) w1<|a.qb hO
  refine zC O<|zAe (l:=([]++xS ((1+recs.length)+k))) (l':=(zc l k).2) 8 qF O O O (fun c a2=>Own.rd (x _<|zy qG) a2) qH O<|fun b8=>zG O O<|fun c a=>(zFO b8 (([]++xS ((1+recs.length)+k))++((zc l k).2)) c qK<|a.qj 8 O).mono ?_
  rintro _ w1 ⟨ao,a0,rfl,a9,hO⟩
  have bp:a0.length≤5017:=by rw[a9];simp only[List.length_append,List.length_nil];omega
  have b9:(b++a0).length=b.length+a0.length:=List.length_append
  have ba:a0.length=8+((xS ((1+recs.length)+k)).length+(zc l k).2.length):=by rw[a9];simp only[List.length_append,List.length_nil];omega
  refine(?_:CL _ _ _ _ _ _ (Own w S [_,_,_,_,_,_,_,_,_,_])) w1<|a.qb hO
  refine zC O<|zb (vs:=[ao,Vi 0]) O O O<|zb (vs:=[ao,Vi 0]) O O O<|zF O<|zF O<|zA<|zB<|zC O<|zC O<|zAe (l:=b) (l':=a0) 5 qF O O O (fun c a2=>Vec.sl<|Own.holds a2 9 _ O) qH O<|fun ap=>zF O<|zA<|ze<|zC O<|zC O<|zC O<|zn (pV 5 O) O O<|zr O O (zt qG) O<|yH (e:=3) (sz:=1) (vs:=[Vj (fr+((b++a0).length))]) qF O O qL V O<|fun bd=>yF (g:=I1) (sz:=1) (by':=8) (fun _=>O) (l:=a1) (l':=[((fr+((b++a0).length):Nat):Int)]) qO 3 qF O O O (fun c a2=>Vec.sl<|Own.holds a2 10 _ O) qH V O<|fun aq=>zF O<|zA<|ze<|zr O O (zt qG) O<|zC O<|zx<|fun c a=>⟨k+1,aq,a1++[((fr+(b++a0).length:Nat):Int)],ap,b++a0,⟨O,O,O,O,O,O,O,O,O,trivial⟩,⟨⟨by omega,by rw[List.length_append,b5];rfl⟩,⟨by rw[List.length_append];omega,fun h=>by have h0:k=0:=qG;subst h0;rw[b9,ba];simp only[Nat.add_zero];omega⟩,fun _=>by rw[zEx];omega⟩,a.sel [6,0,7,1,2,3,4,5] O V,qG⟩
 refine zw O<|zK<|zK<|zd [0,1,2,3,4,5,7] O V qF<|fun c a n=>zD 0 O za n<|zD 1 O za n<|zD 2 O (zY O) n<|zD 3 O (zL (o:=0) O) n<|zD 4 O (zZ 0 (v:=pt db) O O O) n<|zD 5 O za n<|zD 6 O (zY O) n<|zD 7 O (zL (o:=0) O) n<|zD 8 O (zZ 4 (v:= .string s) O O O) n<|zD 9 O za n<|zD 10 O za n<|zM 11 O a<|zG O O<|fun c a=>(zFU db _ _ s fr bv b c ‹_› ‹_› qH qH qH (a.give [6] O V)<|a.rdVec 7 O [6] O O).mono ?_
 rintro _ w1 ⟨D'5_,ag,rfl,ab,a8,ah,hO⟩
 refine(?_:CL _ _ _ _ _ _ (Own w S [_,_,_,_,_,_,_,_])) w1<|a.qc [6] O hO
 refine zE [0,1,2,3,4,5,6] O V<|fun c a n=>zM 12 O a<|zG O O<|fun c a=>(zHg wb db sv rv c<|a.give [0] O V).mono ?_
 rintro _ w1 ⟨rfl,hO⟩
 refine(?_:CL _ _ _ _ _ _ (Own w S [_,_,_,_,_,_,_,_])) w1<|a.qc [0] O hO
 refine zE [7,0,1,2,3,4,5] O V<|fun c a n=>zD 13 O yB n<|zX<|(?_:C _ _ _ _ _ _ _ (Own w S [_,_,_,_,_,_,_,_])) _ a
 refine zB<|zC O<|yf O O O<|zA<|zT O (fun c7=> ?_)<|fun c7=> ?_
 ·exact absurd O c7
 refine zN<|jf (fun(a5:Value)=>[(0,pt wb),(1,lv),(8,pt r),(11,a4)]) (fun(a5:Value)=>True) (fun(a5:Value)=>[xt wb db a5 rv,vG a5 (segs++[r]),vB rv recs,jB r s (1+recs.length) y,vI a4 a1,Res.dk db D'5_ (yZ s ag kf)]) ?_<|fun a5 g hΦ=> ?_
 ·refine yd qF qF<|zR O (za)<|zR O (zY O)<|zR O (zL (o:=2) O)<|zR O (zZ 7 (v:=sv) O O O)<|zR O (kY (pV 0 O) O)<|zR O (zLD O O)<|zR O (za)<|zEm (q:=((segs.length:Nat):Int)=0) 14 6 [146,145,144,143,142,141,140,139,138,137,136,135,134,133] (true=true) O O O O O O trivial O (fun d=> ?_)<|fun b0=> ?_
  ·refine yU O (gF d)<|zR O (za)<|yU O (gF d)<|zR O (zY O)<|yU O (gF d)<|zR O (zL (o:=2) O)<|yU O (gF d)<|zR O (zZ 7 (v:=sv) O O O)<|yU O (gF d)<|zR O (za)<|yU O (gF d)<|zR O (zY O)<|yU O (gF d)<|zR O (zL (o:=2) O)<|yU O (gF d)<|zR O (zZ 7 (v:=sv) O O O)<|yU O (gF d)<|zR O (kY (pV 0 O) O)<|yU O (gF d)<|zR O (ji O O<|zt qG)<|yU O (gF d)<|zR O (kN (pV 0 O) 1 (segs.length - 1) O O qG qG)<|yU O (gF d)<|zR O (zA8 (pV 0 O) 1 (segs.length - 1) 0 (fun _=>O) O O qG O)<|yU O (gF d)<|zR O (za)<|yU O (gF d)<|zR O (zNF (t':=546) 2 3 V qF qF O O O O (Nat.zero_lt_succ _)<|Nat.zero_lt_succ _)<|zCx<|y2 _
  refine xX<|zT O (fun c8=> ?_)<|fun c8=> ?_
  ·refine ze<|zC O<|zC O<|zV O O<|zI (o:=2) O O<|zJ 7 (v:=sv) O O O O<|zC O<|yH (e:=544) (sz:=1) (vs:=[pt r]) qF O O qQ V O<|fun bf=>yF (g:=P1) (sz:=1) (by':=8) (fun _=>O) (l:=segs) (l':=[r]) qR 0 qF O O O (fun c a2=>Vec.sl<|Own.holds a2 8 _ O) qH V O<|fun ar=>zV O O<|zI (o:=2) O O<|zS (fun c a=>Own.qa (i:=0) O a)<|fun au=>(zi (cs:=[pt db,Vn 0,sv,rv,Vn 1,yC]) 7 O O O au O<|zx<|fun c a=>⟨ar,⟨O,O,O,O,trivial⟩,trivial,a.sel [7,0,1,3,4,6] O V⟩)
  exact absurd (.inr O) c8
 refine zB<|zC O<|zC O<|zV O O<|zI (o:=2) O O<|zS (fun c a=>Own.qa (i:=4) O a)<|fun av=>(zi (cs:=[.string s,Vn (1+recs.length),y]) 3 O O O av O<|zA<|zK<|zB<|zC O<|zn (pR a6) O O<|zC O<|zA<|zU<|xV (fun(j:Nat) (a3:Value) (m:List (Value×List UInt8))=>[(0,pt wb),(162,lv),(163,Vj l.length),(164,Vj j)]) (fun(j:Nat) (a3:Value) (m:List (Value×List UInt8))=>j≤l.length∧m.length=recs.length+j) (fun(j:Nat) (a3:Value) (m:List (Value×List UInt8))=>[xt wb db a5 a3,vG a5 (segs++[r]),vB a3 m,jB r s (1+recs.length) a4,vI a4 a1,Res.dk db D'5_ (yZ s ag kf)]) (fun(j:Nat) (a3:Value) (m:List (Value×List UInt8))=>l.length - j) (fun c a=>⟨0,rv,recs,⟨O,O,O,O,trivial⟩,⟨Nat.zero_le _,O⟩,a⟩)<|fun j a3 m g hΦ=> ?_)
 have bq:=hΦ.1
 have ai:=hΦ.2
 refine zB<|zu O O O<|zA<|zK<|zT O (fun c9=> ?_)<|fun c9=> ?_
 ·have bg:=hb _ (zy (l:=l) (j:=j) qG)
  refine zN<|zK<|zU<|zB<|yL (pR a6) 1 j O O O qG O<|xC (pR a6) 1 j 0 (fun _=>O) O O qG O O<|zF O<|zA<|zd [1,3,4,5] O V qF<|fun c a n=>zD 0 O za n<|zD 1 O za n<|zD 2 O (zY O) n<|zD 3 O (zL (o:=3) O) n<|zD 5 O za n<|z7 4 6 ?_ ?_
  ·refine zo 4 O a<|zJ 0 (v:=a3) O O O O<|zE [1,3,4,5] O V<|fun c a n=>zM 6 O a<|zG O O<|fun c a=>(y3 ((zc l j).1) ((zc l j).2) c qI<|a.rd0<|x _<|zy qG).mono ?_
   rintro aj w1 ⟨_,rfl,hO⟩
   refine(?_:CL _ _ _ _ _ _ (Own w S [_,_,_,_,_,_,_])) w1<|a.qb hO
   refine zE [1,3,4,5] O V<|fun c a n=>zM 7 O a<|zS (fun c a=>Own.qa (i:=6) O a)<|fun ad=>(ko (e:=73) (vs:=[aj]) qF O O (zH ad zh) V O<|fun ae=>zE [1,3,4,5] O V<|fun c a n=>zM 8 O a<|yF (g:=pv) (sz:=1) (by':=24) (fun _=>O) (l:=m) (l':=[(aj,((zc l j).2))]) (all_cons ((zH ad zh)) qJ) 2 qF O O O (fun c a2=>Vec.sl<|Own.holds a2 7 _ O) qH V O<|fun a7=>zE [1,3,4,5] O V<|fun c a n=>zD 9 O (zY O) n<|zD 10 O (zL (o:=3) O) n<|zM 11 O a<|zS (fun c a=>Own.qa (i:=2) O a)<|fun aw=>(zi (cs:=[pt db,Vn 0,a5,a3,Vn 1,yC]) 0 O O O aw O<|zE [1,3,4,5] O V<|fun c a n=>zX<|(?_:C _ _ _ _ _ _ _ (Own w S [_,_,_,_,_,_,_,_])) _ a))
   refine ze<|zr O O (zt qG) O<|zC O<|zx<|fun c a=>⟨j+1,a7,m++[(aj,(zc l j).2)],⟨O,O,O,O,trivial⟩,⟨by omega,by rw[List.length_append,ai];rfl⟩,a.sel [0,1,2,3,4,5] O V,qG⟩
  refine zo 6 O a<|zG O O<|fun c a=>(y3 ((zc l j).1) ((zc l j).2) c qI<|a.rd0<|x _<|zy qG).mono ?_
  rintro aa w1 ⟨_,rfl,hO⟩
  refine(?_:CL _ _ _ _ _ _ (Own w S [_,_,_,_,_,_,_])) w1<|a.qb hO
  refine zE [1,3,4,5] O V<|fun c a n=>z7 4 7 ?_ ?_
  ·refine zo 4 O a<|zJ 0 (v:=a3) O O O O<|zE [1,3,4,5] O V<|fun c a n=>zM 7 O a<|zS (fun c a=>Own.qa (i:=6) O a)<|fun af=>(ko (e:=73) (vs:=[aa]) qF O O (zH af zh) V O<|fun ae=>zE [1,3,4,5] O V<|fun c a n=>zM 8 O a<|yF (g:=pv) (sz:=1) (by':=24) (fun _=>O) (l:=m) (l':=[(aa,((zc l j).2))]) (all_cons ((zH af zh)) qJ) 2 qF O O O (fun c a2=>Vec.sl<|Own.holds a2 7 _ O) qH V O<|fun a7=>zE [1,3,4,5] O V<|fun c a n=>zD 9 O (zY O) n<|zD 10 O (zL (o:=3) O) n<|zM 11 O a<|zS (fun c a=>Own.qa (i:=2) O a)<|fun ax=>(zi (cs:=[pt db,Vn 0,a5,a3,Vn 1,yC]) 0 O O O ax O<|zE [1,3,4,5] O V<|fun c a n=>zX<|(?_:C _ _ _ _ _ _ _ (Own w S [_,_,_,_,_,_,_,_])) _ a))
   refine ze<|zr O O (zt qG) O<|zC O<|zx<|fun c a=>⟨j+1,a7,m++[(aa,(zc l j).2)],⟨O,O,O,O,trivial⟩,⟨by omega,by rw[List.length_append,ai];rfl⟩,a.sel [0,1,2,3,4,5] O V,qG⟩
  refine zo 7 O a<|zS (fun c a=>Own.qa (i:=6) O a)<|fun ac=>(ko (e:=73) (vs:=[aa]) qF O O (zH ac zh) V O<|fun ae=>zE [1,3,4,5] O V<|fun c a n=>zM 4 O a<|zJ 0 (v:=a3) O O O O<|zE [1,3,4,5] O V<|fun c a n=>zM 8 O a<|yF (g:=pv) (sz:=1) (by':=24) (fun _=>O) (l:=m) (l':=[(aa,((zc l j).2))]) (all_cons ((zH ac zh)) qJ) 2 qF O O O (fun c a2=>Vec.sl<|Own.holds a2 7 _ O) qH V O<|fun a7=>zE [1,3,4,5] O V<|fun c a n=>zD 9 O (zY O) n<|zD 10 O (zL (o:=3) O) n<|zM 11 O a<|zS (fun c a=>Own.qa (i:=2) O a)<|fun ak=>(zi (cs:=[pt db,Vn 0,a5,a3,Vn 1,yC]) 0 O O O ak O<|zE [1,3,4,5] O V<|fun c a n=>zX<|(?_:C _ _ _ _ _ _ _ (Own w S [_,_,_,_,_,_,_,_])) _ a))
  refine ze<|zr O O (zt qG) O<|zC O<|zx<|fun c a=>⟨j+1,a7,m++[(aa,(zc l j).2)],⟨O,O,O,O,trivial⟩,⟨by omega,by rw[List.length_append,ai];rfl⟩,a.sel [0,1,2,3,4,5] O V,qG⟩
 refine zw O<|zB<|zF O<|zA<|zP<|zm (v:=Vi 0) O O<|fun c a=>⟨r,s,a5,a3,a4,a1,m,D'5_,ag,O,qG,ab,a8,qG,⟨by omega,by omega⟩,(by have:=an qG;omega),b4,(by have:=an qG;have:=b6 qG;omega),a⟩
theorem zHr{l:List Nat}{x:Nat}:zc (l++[x]) ((l++[x]).length - 1)=x:=by
 rw[List.length_append]
 show zc (l++[x]) (l.length+1 - 1)=x
 rw[Nat.add_sub_cancel]
 unfold zc
 rw[List.getElem?_append_right (Nat.le_refl _),Nat.sub_self];rfl
theorem zRn{S:List Nat}(wb db:Nat)(sv rv mv:Value)(segs:List Nat)(recs:List (Value×List UInt8))(nm:ByteArray)(fi:Nat)(ms:List Int)(D:DskD)(kf:List (ByteArray×FilD))(lv:Value)(l:List (Value×List UInt8))(w:World)(hl:l.length=1)(hb:∀ p∈l,p.2.length≤5000)(x:DskCl D)(g:kf.length<4000)(m:0<segs.length∧segs.length≤1000)(h:recs.length≤900)(y:0<ms.length∧ms.length≤1000)(n:kg nm)(z:((tot kf+6000:Nat):Int)≤D.room)(a0:recs.length<98∨zc ms (ms.length - 1)<512)(he:0≤zc ms (ms.length - 1)∧zc ms (ms.length - 1)≤6000)(i:Own w S [xt wb db sv rv,vG sv segs,vB rv recs,jB (zc segs (segs.length - 1)) nm fi mv,vI mv ms,Res.dk db D kf] w)(j:Rd w S (Res.sl lv l.length (l.flatMap pv)))(k:∀ p∈l,BsRd p w S):Rets Tryz.prog 403 #[pt wb,lv] w fun u_ w'=>∃ (c d e:Value) (segs':List Nat) (a:List Int) (b:List (Value×List UInt8)) (nm':ByteArray) (fi':Nat) (D':DskD) (f:FilD),u_=Vi 0∧b.length=recs.length+1∧DskOk D'∧D'.room=D.room∧f.bs.length≤((zl nm' kf).getD kT).bs.length+6000∧(0<a.length∧a.length≤ms.length+1)∧(0≤zc a (a.length - 1)∧zc a (a.length - 1)≤6000)∧kg nm'∧(0<segs'.length∧segs'.length≤segs.length+1)∧zc a (a.length - 1)=(if zc ms (ms.length - 1)<512 then zc ms (ms.length - 1)else 0)+(((8+((xS (1+recs.length)).length+(zc l 0).2.length)):Nat):Int)∧Own w S [xt wb db c d,vG c segs',vB d b,jB (zc segs' (segs'.length - 1)) nm' fi' e,vI e a,Res.dk db D' (yZ nm' f kf)] w':=by
 by_cases hq:zc ms (ms.length - 1)<512
 · refine(zPU wb db sv rv mv segs recs nm fi ms D kf lv l w hl hb x g m h y n z ⟨he.1,hq⟩ i j ‹_›).mono ?_
   rintro _ w1 ⟨c,d,e,a,b,D',f,rfl,h1,g1,o,h2,q,r,s,t⟩
   exact⟨c,d,e,segs,a,b,nm,fi,D',f,O,h1,g1,o,h2,⟨q.1,by omega⟩,r,n,⟨m.1,by omega⟩,by rw[if_pos hq];exact s,t⟩
 refine(zOP wb db sv rv mv segs recs nm fi ms D kf lv l w hl hb x g m h y n z qG qG i j ‹_›).mono ?_
 rintro _ w1 ⟨u,v,c,d,e,a,b,D',f,rfl,h1,g1,o,h2,q,r,h5,s,t⟩
 refine⟨c,d,e,segs++[u],a,b,v,1+recs.length,D',f,O,h1,g1,o,h2,⟨q.1,by omega⟩,r,h5,⟨by rw[List.length_append];exact Nat.succ_pos _,by rw[List.length_append];exact Nat.le_refl _⟩,by rw[if_neg hq,Int.zero_add];exact s,?_⟩
 rw[zHr];exact t
structure WlS where
 sv:Value
 rv:Value
 mv:Value
 segs:List Nat
 recs:List (Value×List UInt8)
 nm:ByteArray
 fi:Nat
 ms:List Int
def Res.wl(db wb:Nat)(W:WlS):Res:=Res.star [xt wb db W.sv W.rv,vG W.sv W.segs,vB W.rv W.recs,jB (zc W.segs (W.segs.length - 1)) W.nm W.fi W.mv,vI W.mv W.ms]
structure WlOk(W:WlS)(n:Nat):Prop where
 segs:0<W.segs.length∧W.segs.length≤n+1
 recs:W.recs.length=n
 ms:0<W.ms.length∧W.ms.length≤n+1
 nm:kg W.nm
 fin:0≤zc W.ms (W.ms.length - 1)∧zc W.ms (W.ms.length - 1)≤6000
def wlE(W:WlS):Int:=zc W.ms (W.ms.length - 1)
theorem zRV{S:List Nat}(db wb:Nat)(W:WlS)(n:Nat)(D:DskD)(kf:List (ByteArray×FilD))(lv:Value)(l:List (Value×List UInt8))(w:World)(c:WlOk W n)(hl:l.length=1)(hb:∀ p∈l,p.2.length≤5000)(u:DskCl D)(h:kf.length<4000)(v:n≤900)(i:n<98∨wlE W<512)(x:((tot kf+6000:Nat):Int)≤D.room)(j:Own w S [Res.wl db wb W,Res.dk db D kf] w)(k:Rd w S (Res.sl lv l.length (l.flatMap pv)))(d:∀ p∈l,BsRd p w S):Rets Tryz.prog 403 #[pt wb,lv] w fun y z=>∃ (W':WlS) (D':DskD) (s:ByteArray) (f:FilD),y=Vi 0∧WlOk W' (n+1)∧DskOk D'∧D'.room=D.room∧f.bs.length≤((zl s kf).getD kT).bs.length+6000∧wlE W'=(if wlE W<512 then wlE W else 0)+((8+((xS (1+n)).length+(zc l 0).2.length):Nat):Int)∧Own w S [Res.wl db wb W',Res.dk db D' (yZ s f kf)] z:=by
 have h1:=c.segs
 have h2:=c.recs
 have h3:=c.ms
 refine(zRn wb db W.sv W.rv W.mv W.segs W.recs W.nm W.fi W.ms D kf lv l w hl hb u h ⟨h1.1,by omega⟩ qG ⟨h3.1,by omega⟩ c.nm x (by rw[h2];exact i) c.fin ((j.qi 0 O).sel [1,2,3,4,5,0] O V) k ‹_›).mono ?_
 rintro _ w1 ⟨m,o,q,a,e,b,g,r,D',f,rfl,g1,g2,g3,g4,g5,g6,g7,g8,t,hO⟩
 rw[h2]at t
 exact⟨⟨m,o,q,a,b,g,r,e⟩,D',g,f,O,⟨⟨g8.1,by show a.length≤_;omega⟩,by show b.length=_;omega,⟨g5.1,by show e.length≤_;omega⟩,g7,g6⟩,g2,g3,g4,t,(hO.qg [0,1,2,3,4] O V).sel [1,0] O V⟩
theorem zNI{S:List Nat}(db wb:Nat)(W:WlS)(D:DskD)(kf:List (ByteArray×FilD))(w:World)(b:DskOk D)(c:tot kf≤1000000000)(a:Own w S [Res.wl db wb W,Res.dk db D kf] w):Rets Tryz.prog 386 #[pt wb] w fun d e=>∃ (D':DskD),d=Vi 0∧DskCl D'∧D'.room=D.room∧Own w S [Res.wl db wb W,Res.dk db D' kf] e:=by
 have h1:=(a.qi 0 rfl).sel [1,0,2,3,4,5] rfl V
 refine(zPK wb db W.sv W.rv D kf w b c<|h1.give [0,1] O V).mono ?_
 rintro _ i ⟨D',rfl,g1,g,h⟩
 exact⟨D',O,g1,g,(((h1.qc [0,1] O h).sel [4,0,1,2,3,5] O V).qg [0,1,2,3,4] O V).sel [1,0] O V⟩
theorem zMp{S:List Nat}(db wb:Nat)(W:WlS)(w:World)(a:Own w S [Res.wl db wb W] w):Rets Tryz.prog 228 #[pt wb] w fun b c=>b=Vn 1∧Own w S [Res.wl db wb W] c:=by
 have h1:=a.qi 0 rfl
 refine(zLn wb db W.sv W.rv w<|h1.give [0] O V).mono ?_
 rintro _ e ⟨rfl,d⟩
 exact⟨O,(((h1.qc [0] O d).sel [4,0,1,2,3] O V).qg [0,1,2,3,4] O V).sel [0] O V⟩
theorem zPS{S:List Nat}(db wb:Nat)(W:WlS)(n:Nat)(w:World)(b:WlOk W n)(g:n≤1000)(a:Own w S [Res.wl db wb W] w):Rets Tryz.prog 231 #[pt wb] w fun c d=>c=Vn (1+n)∧Own w S [Res.wl db wb W] d:=by
 have h1:=a.qi 0 rfl
 refine(zB8 wb db W.sv W.rv W.recs w (by rw[b.recs];omega)<|h1.give [0,2] O V).mono ?_
 rintro _ h ⟨rfl,e⟩
 exact⟨by rw[b.recs],(((h1.qc [0,2] O e).sel [3,0,4,1,2] O V).qg [0,1,2,3,4] O V).sel [0] O V⟩
theorem zPE{S:List Nat}(db:Nat)(D:DskD)(kf:List (ByteArray×FilD))(w:World)(c:DskCl D)(hl:kf.length=0)(d:1000≤D.room)(b:Own w S [Res.dk db D kf] w):Rets Tryz.prog 112 #[pt db] w fun e g=>∃ (wb:Nat) (W:WlS) (D':DskD) (a:ByteArray) (f:FilD),e= .tuple #[pt wb,Vi 0]∧WlOk W 0∧wlE W=0∧a≠jp∧f.bs.length=0∧DskCl D'∧D'.room=D.room∧Own w S [Res.wl db wb W,Res.dk db D' (yZ a f kf)] g:=by
 refine(zOK db D kf w c hl d b).mono ?_
 rintro _ k ⟨sv,mv,D',wb,sb,nm,a,f,rfl,g1,h,g3,g4,i,j⟩
 exact⟨wb,⟨sv,zW,mv,[sb],[],nm,1,[0]⟩,D',a,f,O,⟨⟨by show 0<1;omega,by show 1≤0+1;omega⟩,O,⟨by show 0<1;omega,by show 1≤0+1;omega⟩,g1,⟨by show(0:Int)≤0;omega,by show(0:Int)≤6000;omega⟩⟩,O,h,g3,g4,i,(((zq j 73 1).sel [0,1,5,2,3,4] O V).qg [0,1,2,3,4] O V).sel [1,0] O V⟩
end Go.Proofs.YthpoddkmhfhboaaGreatDoor
