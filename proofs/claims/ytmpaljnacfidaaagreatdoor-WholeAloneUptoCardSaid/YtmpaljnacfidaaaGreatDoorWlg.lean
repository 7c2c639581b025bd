import Derived.Test.YtmpaljnacfidaaaGreatDoorWle
import Derived.Test.YtmpaljnacfidaaaGreatDoorIn
import Derived.Test.YtmpaljnacfidaaaGreatDoorFw3
import Derived.Test.YtmpaljnacfidaaaGreatDoorWhRd
set_option linter.unusedSectionVars false
set_option linter.unusedSimpArgs false
set_option linter.unusedVariables false
set_option maxRecDepth 10000
namespace Go.Proofs.YtmpaljnacfidaaaGreatDoor
open Go Go.Sc Go.Proofs
theorem zFs{S:List Nat}(wb nb e1 e2 pb cb:Nat)(st:SetD)(nv dv ev km lv:Value)(k:Nat)(cv ov:Value)(n:NdD)(c:CkD)(w:World)(a2:k≤1000)(u:st.nodes=1)(hc:CkA c 0)(hr:c.rho=0)(h:NdF n)(hA:ApOk n.s.a 0)(y:Own w S [jr wb st nv dv ev pb cb (Vj k) cv ov lv km,Res.vec 65 1 nv [nb].length ([nb].flatMap P1),vE lv ([]:List EntD),Res.nd nb n,Res.ck cb c] w):Rets Tryz.prog 9 #[pt wb, .agg #[Vi 2,Vi 0,Vi 0,Vi 40,Vn 0,Vn 0,Vn 0,Vn 0,Vi 0,yh,Vi 0,Vi 0,Vn 0]] w fun u_ p=>∃ (j:Value) (b:NdD) (z:CkD) (e:EntD) (r:RepD),u_=Vi 0∧(CkA z 2000∧z.t1=40)∧(((((((b.fs=[e]∧e.toEntA=(⟨1,1,1,0,[]⟩:EntA))∧NdL b 6100 3)∧b.st=n.st)∧b.x.t.now=40)∧b.s.idx=1)∧b.x.es.map EntD.toEntA=[(⟨1,1,1,0,[]⟩:EntA)])∧zAG 0 n.s.a.now n.s.a.cnt n.s.a.kb n.s.a.kl n.s.a.kr (⟨1,1,1,0,[]⟩:EntA) r false 0 b.s.idx b.s.a.now b.s.a.cnt b.s.a.kb b.s.a.kl b.s.a.kr)∧Own w S [jr wb st nv dv ev pb cb (Vj (k+1)) cv ov j km,Res.vec 65 1 nv [nb].length ([nb].flatMap P1),vE j (b.fs),Res.nd nb b,Res.ck cb z,sE b.fs] p:=by
  refine zO Tryz.func9 O Tryz.ntmps9 y (zB (zj O O (fun b3=>zG O (zA (zK (zB (zC O (yF qD O O O (zA (yT O (zN (zB (zC O (zV O O (zI (o:=15) O O (zJ 0 (v:=Vj k) O O O O (zr O O (zt qE) O (zV O O (zI (o:=15) O O (zi 0 O O O O O (zA (zK (zB (zI (o:=0) O O (zJ 5 (v:=Vi 2) O O O O (zA (zU (zB (yR O O O (zG O (zA (zT O (fun c2=> ?_) (fun c2=> ?_)))))))))))))))))))))))))))))))))
  ·exact absurd c2 V
  refine zB (yR O O O (zG O (zA (zT O (fun c3=> ?_) (fun c3=> ?_)))))
  ·refine zB (zC O (z1 5 O O O (zH O O (fun p q=>(zQE wb nb e1 e2 pb cb st nv dv ev km lv (k+1) cv ov [] _ _ p u hc hr h hA O (q.give [0,1,2,3,4] O V)).mono ?_))))
   rintro _ w1 ⟨g,l,m,a0,a1,rfl,i,d,hO⟩
   refine fq [0,1,2,3,4] O q hO (zG O (zA (zP (zn (v:=Vi 0) O O (fun p q=>⟨g,l,m,a0,a1,O,i,d,q.sel [1,2,3,4,5,6] O V⟩)))))
  exact absurd O c3
theorem zI1{S:List Nat}(wb nb e1 e2 pb cb:Nat)(st:SetD)(nv dv ev km lv:Value)(k:Nat)(cv ov:Value)(es:List EntD)(n:NdD)(c:CkD)(T:Int)(ps:PsD)(pv:Value)(y:AskD)(lr:RepD)(q m:Nat)(w:World)(ak:k≤1000)(hc:CkA c T)(aa:ps.l=[({src:= -1,dst:=1,dv:=pv,data:=y.enc}:LetD)])(h:NdL n q m)(hl:n.x.es.length≤90)(a6:c.t1=n.x.t.now)(ab:y.look=false)(ac:y.wf)(ad:y.ok)(ae:y.cmd.session=1)(hk:ym n.s.a.kr y.cmd.session y.cmd.seq=(lr,8))(hA:ApOk n.s.a 0)(hq:q+6200≤1048576)(hm:m+2<4000)(af:es.length=n.x.es.length)(hW:∀ r a1 cnt' kb' kl' kr',DoK (yr n.s.a.now 0) n.s.a.cnt n.s.a.kb (yf n.s.a.now 0 n.s.a.kl) n.s.a.kr y.cmd r a1 cnt' kb' kl' kr'→(({seq:=y.seq,retry:=false,lead:=0,reply:=r,most:=0,lent:=0}:TldD).wf∧({seq:=y.seq,retry:=false,lead:=0,reply:=r,most:=0,lent:=0}:TldD).ok)∧r.session≠0)(ag:Own w S [jr wb st nv dv ev pb cb (Vj k) cv ov lv km,Res.vec 65 1 nv [nb].length ([nb].flatMap P1),vE lv es,Res.nd nb n,Res.ck cb c,Res.ps pb ps] w):Rets Tryz.prog 9 #[pt wb, .agg #[Vi 3,Vi 0,Vi 0,Vi 0,Vn 0,Vn 0,Vn 0,Vn 0,Vi 0,yh,Vi 0,Vi 0,Vn 0]] w fun u_ w'=>∃ (a7 ah:Value) (z:NdD) (a8:PsD) (e:EntD) (r:RepD) (a1:Bool),u_=Vi 0∧a8.l=[⟨1, -1,ah,({seq:=y.seq,retry:=false,lead:=0,reply:=r,most:=0,lent:=0}:TldD).enc⟩]∧NdL z (q+6100) (m+2)∧z.st=n.st∧z.x.t.now=n.x.t.now∧z.x.es.length=n.x.es.length+1∧z.fs.length=1∧z.s.a.now=yr n.s.a.now 0∧DoK (yr n.s.a.now 0) n.s.a.cnt n.s.a.kb (yf n.s.a.now 0 n.s.a.kl) n.s.a.kr y.cmd r a1 z.s.a.cnt z.s.a.kb z.s.a.kl z.s.a.kr∧Own w S [jr wb st nv dv ev pb cb (Vj (k+1)) cv ov a7 km,Res.vec 65 1 nv [nb].length ([nb].flatMap P1),vE a7 (es++z.fs),Res.nd nb z,Res.ck cb c,Res.ps pb a8] w':=by
  refine zO Tryz.func9 O Tryz.ntmps9 ag (zB (zj O O (fun b3=>zG O (zA (zK (zB (zC O (yF qD O O O (zA (yT O (zN (zB (zC O (zV O O (zI (o:=15) O O (zJ 0 (v:=Vj k) O O O O (zr O O (zt qE) O (zV O O (zI (o:=15) O O (zi 0 O O O O O (zA (zK (zB (zI (o:=0) O O (zJ 6 (v:=Vi 3) O O O O (zA (zU (zB (yR O O O (zG O (zA (zT O (fun c2=> ?_) (fun c2=> ?_)))))))))))))))))))))))))))))))))
  ·exact absurd c2 V
  refine zB (yR O O O (zG O (zA (zT O (fun c3=> ?_) (fun c3=> ?_)))))
  ·exact absurd c3 V
  refine zB (yR O O O (zG O (zA (zT O (fun c4=> ?_) (fun c4=> ?_)))))
  ·refine zB (zC O (z1 6 O O O (zH O O (fun w' hw=>(zHW wb nb e1 e2 pb cb st nv dv ev km lv (k+1) cv ov es _ _ _ _ pv y _ _ _ w' hc aa h hl a6 ab ac ad ae hk hA hq hm af hW (hw.give [0,1,2,3,4,5] O V)).mono ?_))))
   rintro _ w1 ⟨a2,a3,a9,a4,ai,aj,a5,rfl,a0,b,d,g,i,j,p,u,hO⟩
   refine fq [0,1,2,3,4,5] O hw hO (zG O (zA (zP (zn (v:=Vi 0) O O (fun w' hw=>⟨a2,a3,a9,a4,ai,aj,a5,O,a0,b,d,g,i,j,p,u,hw.sel [1,2,3,4,5,6] O V⟩)))))
  exact absurd O c4
theorem zJf{S:List Nat}(wb nb e1 e2 pb cb:Nat)(st:SetD)(nv dv ev km lv:Value)(k:Nat)(cv ov:Value)(es:List EntD)(cs:List CalD)(d:EgD)(c:CkD)(T:Int)(ps:PsD)(pv:Value)(t:TldD)(w:World)(a1:k≤1000)(hc:CkA c T)(s:ps.l=[({src:=1,dst:= -1,dv:=pv,data:=t.enc}:LetD)])(ht:t.wf)(u:t.ok)(hr:t.retry=false)(x:d.waits=true)(hs:t.seq=d.a.seq)(hx:d.a.wf)(y:d.nodes≤16)(z:1≤cs.length)(hk:(zf cs (cs.length - 1)).look=false)(hl:cs.length≤1000)(a0:Own w S [jr wb st nv dv ev pb cb (Vj k) cv ov lv km,Res.vec 53 1 ev [e1,e2].length ([e1,e2].flatMap P1),Res.vec 45 21 cv cs.length (cs.flatMap CalD.cells),vI ov [((cs.length:Nat):Int),0],Res.eg e1 d,Res.ck cb c,Res.ps pb ps] w):Rets Tryz.prog 9 #[pt wb, .agg #[Vi 3,Vi 0,Vi 0,Vi 0,Vn 0,Vn 0,Vn 0,Vn 0,Vi 0,yh,Vi 0,Vi 0,Vn 0]] w fun u_ q=>∃ (m:EgD) (n:PsD),u_=Vi 0∧n.l=[]∧m.waits=false∧zCE m d∧(m.a=d.a∧m.seq=d.seq)∧m.next=d.next∧Own w S [jr wb st nv dv ev pb cb (Vj (k+1)) cv ov lv km,Res.vec 53 1 ev [e1,e2].length ([e1,e2].flatMap P1),Res.vec 45 21 cv (zCc cs (k+1) t).length ((zCc cs (k+1) t).flatMap CalD.cells),vI ov [0,0],Res.eg e1 m,Res.ck cb c,Res.ps pb n] q:=by
  refine zO Tryz.func9 O Tryz.ntmps9 a0 (zB (zj O O (fun b3=>zG O (zA (zK (zB (zC O (yF qD O O O (zA (yT O (zN (zB (zC O (zV O O (zI (o:=15) O O (zJ 0 (v:=Vj k) O O O O (zr O O (zt qE) O (zV O O (zI (o:=15) O O (zi 0 O O O O O (zA (zK (zB (zI (o:=0) O O (zJ 7 (v:=Vi 3) O O O O (zA (zU (zB (yR O O O (zG O (zA (zT O (fun c2=> ?_) (fun c2=> ?_)))))))))))))))))))))))))))))))))
  ·exact absurd c2 V
  refine zB (yR O O O (zG O (zA (zT O (fun c3=> ?_) (fun c3=> ?_)))))
  ·exact absurd c3 V
  refine zB (yR O O O (zG O (zA (zT O (fun c4=> ?_) (fun c4=> ?_)))))
  ·refine zB (zC O (z1 7 O O O (zH O O (fun q r=>(zGe wb nb e1 e2 pb cb st nv dv ev km lv (k+1) cv ov es cs _ _ _ _ pv t q hc s ht u hr x hs hx y z hk hl (r.give [0,1,2,3,4,5,6] O V)).mono ?_))))
   rintro _ w1 ⟨p,j,rfl,i,b,e,g,h,hO⟩
   refine fq [0,1,2,3,4,5,6] O r hO (zG O (zA (zP (zn (v:=Vi 0) O O (fun q r=>⟨p,j,O,i,b,e,g,h,r.sel [1,2,3,4,5,6,7] O V⟩)))))
  exact absurd O c4
theorem zNP{S:List Nat}(wb nb e1 e2 pb cb:Nat)(st:SetD)(nv dv ev km lv:Value)(k:Nat)(cv ov:Value)(es:List EntD)(cs:List CalD)(d:EgD)(c:CkD)(T:Int)(ps:PsD)(cm:CmdD)(w:World)(a5:k≤1000)(hc:CkA c T)(a0:cm.wf)(hs:d.seq≤1000)(a1:d.waits=false)(a2:ps.l=[])(hl:cs.length≤1000)(a3:d.next=1)(a4:Own w S [jr wb st nv dv ev pb cb (Vj k) cv ov lv km,Res.vec 53 1 ev [e1,e2].length ([e1,e2].flatMap P1),Res.vec 45 21 cv cs.length (cs.flatMap CalD.cells),vI ov [0,0],Res.eg e1 d,Res.ck cb c,Res.ps pb ps] w):Rets Tryz.prog 9 #[pt wb, .agg #[Vi 11,Vi 1,Vi 0,Vi 0,Vn 0,Vn 0,Vn cm.session,Vn cm.seq,Vi cm.op, .string cm.key,Vi cm.amount,Vi cm.span,Vn cm.lease]] w fun u_ w'=>∃ (e:Int) (r:Value) (s:EgD) (i:PsD) (pv:Value) (g:List CalD) (j:List Int),u_=Vi e∧zCE s d∧s.next=d.next∧(AskN cm d cs e s i.l g j∨AskY cm (k+1) d cs e s pv i.l g j)∧Own w S [jr wb st nv dv ev pb cb (Vj (k+1)) r ov lv km,Res.vec 53 1 ev [e1,e2].length ([e1,e2].flatMap P1),Res.vec 45 21 r g.length (g.flatMap CalD.cells),vI ov j,Res.eg e1 s,Res.ck cb c,Res.ps pb i] w':=by
  refine zO Tryz.func9 O Tryz.ntmps9 a4 (zB (zj O O (fun b3=>zG O (zA (zK (zB (zC O (yF qD O O O (zA (yT O (zN (zB (zC O (zV O O (zI (o:=15) O O (zJ 0 (v:=Vj k) O O O O (zr O O (zt qE) O (zV O O (zI (o:=15) O O (zi 0 O O O O O (zA (zK (zB (zI (o:=0) O O (zJ 7 (v:=Vi 11) O O O O (zA (zU (zB (yR O O O (zG O (zA (zT O (fun c2=> ?_) (fun c2=> ?_)))))))))))))))))))))))))))))))))
  ·exact absurd c2 V
  refine zB (yR O O O (zG O (zA (zT O (fun c3=> ?_) (fun c3=> ?_)))))
  ·exact absurd c3 V
  refine zB (yR O O O (zG O (zA (zT O (fun c4=> ?_) (fun c4=> ?_)))))
  ·exact absurd c4 V
  refine zB (yR O O O (zG O (zA (zT O (fun c5=> ?_) (fun c5=> ?_)))))
  ·exact absurd c5 V
  refine zB (yR O O O (zG O (zA (zT O (fun c6=> ?_) (fun c6=> ?_)))))
  ·exact absurd c6 V
  refine zB (yR O O O (zG O (zA (zT O (fun c7=> ?_) (fun c7=> ?_)))))
  ·exact absurd c7 V
  refine zB (yR O O O (zG O (zA (zT O (fun c8=> ?_) (fun c8=> ?_)))))
  ·exact absurd c8 V
  refine zK (zB (yR O O O (zG O (zA (zT O (fun c9=> ?_) (fun c9=> ?_))))))
  ·refine zN (zT O (fun u=> ?_) (fun u=> ?_))
   ·refine zB (zC O (z1 7 O O O (zH O O (fun w' hw=>(zOZ wb nb e1 e2 pb cb st nv dv ev km lv (k+1) cv ov es cs _ _ _ _ _ w' hc a0 hs a1 a2 hl a3 (hw.give [0,1,2,3,4,5,6] O V)).mono ?_))))
    rintro _ w1 ⟨x,m,y,n,z,p,q,rfl,h,a,b,hO⟩
    refine fq [0,1,2,3,4,5,6] O hw hO (zG O (zA (zP (zn (v:=Vi x) O O (fun w' hw=>⟨x,m,y,n,z,p,q,O,h,a,b,hw.sel [1,2,3,4,5,6,7] O V⟩)))))
   exact absurd O u
  exact absurd O c9
theorem zLV(v:Value)(l:List CalD)(w:World)(hl:l.length≤1000)(hv:Rd w [] (Res.sl v l.length (l.flatMap CalD.cells))):Rets Tryz.prog 41 #[v] w fun i b=>∃ (r:Value),i=r∧Own w [] [Res.vec 45 21 r l.length (l.flatMap CalD.cells)] b:=by
  refine zO Tryz.func41 O Tryz.ntmps41 (Own.start w) (zB (zG O (zA (zK (zB (zC O (zAg (len:=l.length) (cs:=(l.flatMap CalD.cells)) qD O O (fun b a=>Own.rd hv a) O (zA (ku O (fun d=> ?_) (fun d=> ?_))))))))))
  ·refine zB (zG O (zA (zP (zn (v:=zW) O O (fun b c=>⟨.slice none 0 0,O,by obtain⟨_,j⟩:=Sl.isNil hv.φ d;rw[List.eq_nil_of_length_eq_zero j];exact zq c 45 21⟩)))))
  refine zN (zB (yC (e:=45) (sz:=21) (vs:=[]) qD O O qY V O (fun k=>zC O (yE (g:=CalD.cells) (sz:=21) (by':=176) (fun _=>O) (l:=[]) (l':=l) qZ 0 qD O O O (fun b a=>Own.rd hv a) qF V O (fun h=>zG O (zA (zP (zn (v:=h) O O (fun b c=>⟨h,O,c⟩)))))))))
theorem zK1{S:List Nat}(wb nb e1 e2 pb cb:Nat)(st:SetD)(nv dv ev km lv:Value)(k:Nat)(cv ov:Value)(es:List EntD)(cs:List CalD)(w:World)(hl:cs.length≤1000)(d:Own w S [jr wb st nv dv ev pb cb (Vj k) cv ov lv km,Res.vec 45 21 cv cs.length (cs.flatMap CalD.cells)] w):Rets Tryz.prog 12 #[pt wb] w fun e b=>∃ (r:Value),e=r∧Own w S [jr wb st nv dv ev pb cb (Vj k) cv ov lv km,Res.vec 45 21 cv cs.length (cs.flatMap CalD.cells),Res.vec 45 21 r cs.length (cs.flatMap CalD.cells)] b:=by
  refine zO Tryz.func12 O Tryz.ntmps12 d (zB (zG O (zA (zK (zB (zC O (yF qD O O O (zA (yT O (zN (zB (zC O (zV O O (zI (o:=16) O O (zJ 0 (v:=cv) O O O O (zH O O (fun b c=>(zLV cv cs b qF (c.qh 1 O)).mono ?_)))))))))))))))))
  rintro a g ⟨_,rfl,h⟩
  refine(?_:CL _ _ _ _ _ _ (Own w S [_,_,_])) g (c.qb h)
  refine zG O (zA (zP (zn (v:=a) O O (fun b c=>⟨a,O,c⟩))))
theorem zPe{S:List Nat}(wb nb e1 e2 pb cb:Nat)(st:SetD)(nv dv ev km lv:Value)(k:Nat)(cv ov:Value)(es:List EntD)(w:World)(hl:es.length≤1000)(y:∀ x∈es,x.data.length≤1000000)(p:Own w S [jr wb st nv dv ev pb cb (Vj k) cv ov lv km,vE lv es,sE es] w):Rets Tryz.prog 21 #[pt wb] w fun z c=>∃ (r:Value) (m:List EntD),z= .tuple #[r,Vi 0]∧m.length=es.length∧Own w S [jr wb st nv dv ev pb cb (Vj k) cv ov lv km,vE lv es,sE es,vE r m] c:=by
  refine zO Tryz.func21 O Tryz.ntmps21 p (zB (zG O (zG O (zA (zK (zB (zC O (yF qD O O O (zA (yT O (zN (zB (zG O (zA (zK (zB (zC O (zV O O (zI (o:=18) O O (zJ 0 (v:=lv) O O O O (zo (pV 1 O) O O (zC O (zA (zU (xt (fun(i:Nat) (r:Value) (a:List EntD)=>[(0,pt wb),(4,r),(12,lv),(13,Vj es.length),(14,Vj i)]) (fun(i:Nat) (r:Value) (a:List EntD)=>i≤es.length∧a.length=i) (fun(i:Nat) (r:Value) (a:List EntD)=>[jr wb st nv dv ev pb cb (Vj k) cv ov lv km,vE lv es,sE es,vE r a]) (fun(i:Nat) (r:Value) (a:List EntD)=>es.length - i) (fun c b=>⟨0,zW,[],⟨O,O,O,O,O,trivial⟩,⟨Nat.zero_le _,O⟩,(zq b 130 5)⟩) (fun i r a g q=>(zB (zy O O O (zA (zK (zT O (fun c2=> ?_) (fun c2=> ?_))))))))))))))))))))))))))))))))
  ·refine zN (zK (zU (zB (yH (pV 1 O) 5 i O O O qE O (jC (pV 1 O) 5 i (off:=yk lv+i*5) (fun _=>O) O O qE O (zk (v:= .agg #[Vn 0,Vn 0,Vi 0,Vi 0,zW]) qD O (fun b6=>(zS (fun c b=>Sl.cell1 (Rd.φ (EntD.rd.star0 2 O b _ (zx (l:=es) (j:=i) qE)).dv)) (fun n=>(ze 4 O O O (zF O (zF O (zF O (zF O (zF n zh))))) O (zA (zB (zI (o:=4) O O (zJ 4 (v:=(zf es i).dv) O O O O (zH O O (fun c b=>(yu ((zf es i).dv) ((zf es i).data) c (by have:=y _ (zx (l:=es) (j:=i) qE);omega) (EntD.rd.star0 2 O b _ (zx qE)).dv).mono ?_))))))))))))))))
   rintro h w1 ⟨_,rfl,hO⟩
   refine(?_:CL _ _ _ _ _ _ (Own w S [_,_,_,_,_,_])) w1 (b.qb hO)
   refine zI (o:=4) O O (zS (fun c b=>Own.qa (i:=5) O b) (fun d=>(zi (cs:=(EntD.cells (zf es i))) 4 O O O d O (zA (zd (zC O (z1 4 O O O (yC (e:=130) (sz:=5) (vs:=[.agg #[Vn ((zf es i).index),Vn ((zf es i).term),Vi ((zf es i).kind),Vi ((zf es i).delta),h]]) qD O O qQ V O (fun a0=>yE (g:=EntD.cells) (sz:=5) (by':=56) (fun _=>O) (l:=a) (l':=[({(zf es i)with dv:=h}:EntD)]) (all_cons ((zF O (zF O (zF O (zF O (zF d zh)))))) qH) 3 qD O O O (fun c s=>Vec.sl (Own.holds s 6 _ O)) qF V O (fun u=>zG O (zA (zd (zr O O (zt qE) O (zC O (zw (fun c b=>⟨i+1,u,a++[({(zf es i)with dv:=h}:EntD)],⟨O,O,O,O,O,trivial⟩,⟨by omega,by rw[List.length_append,q.2];rfl⟩,b.sel [0,1,2,3] O V,qE⟩))))))))))))))))
  refine zz O (zK (zB (zC O (zV O O (zI (o:=19) O O (zJ 0 (v:=zu) O O O O (zA (yT O (zN (zB (zC O (zG O (zG O (zA (zP (yg (v:=r) (v':=Vi 0) O O O (fun c b=>⟨r,a,O,(by have:=q.1;have:=q.2;omega),b⟩)))))))))))))))))
theorem zOB(room:Int)(w:World)(l:room=1048576):Rets Tryz.prog 50 #[Vi room] w fun k g=>∃ (db fm h:Nat),k= .tuple #[pt db,Vi 0]∧Own w [] [Res.row db 207 [.map (some fm), .map (some h),zW,Vi room,Vi 0,zu],Res.mp Value.string FilD.val fm ([]:List (ByteArray×FilD)),Res.mp Value.string FilD.val h ([]:List (ByteArray×FilD))] g:=by
  refine zO Tryz.func50 O Tryz.ntmps50 (Own.start w) (zB (zG O (zG O (zA (zK (zB (zC O (zy O O O (zC O (yK (q:=room<0) 2 2 [8,7] (4194304<room) O O O O O O trivial O (fun a=> ?_) (fun i=> ?_)))))))))))
  ·refine zQ O (gF a) (zC O (zQ O (gF a) (yU O O O (z8 O (fun _ e=>e)))))
  refine zA (zT O (fun j=> ?_) (fun j=> ?_))
  ·exact absurd j qE
  refine zN (zB (xb (α:=FilD) Value.string FilD.val O O (fun b=>xb (α:=FilD) Value.string FilD.val O O (fun c=>zC O (yG (cs:=[.map (some b), .map (some c),zW,Vi room,Vi 0,zu]) (z:=[.map none, .map none,zW,Vi 0,Vi 0,zu]) (pl:=[(0,1),(1,1),(2,1),(3,1),(4,1),(5,1)]) qD qD O (zj O O (fun d=>zG O (zG O (zA (zP (yg (v:=pt d) (v':=Vi 0) O O O (fun g e=>⟨d,b,c,O,e.sel [2,0,1] O V⟩))))))))))))
theorem zOC(room:Int)(w:World)(a:room=1048576):Rets Tryz.prog 50 #[Vi room] w fun b c=>∃ (db:Nat) (D:DskD) (kf:List (ByteArray×FilD)),b= .tuple #[pt db,Vi 0]∧DskCl D∧D.room=1048576∧kf.length=0∧Own w [] [Res.dk db D kf] c:=by
  refine(zOB room w a).mono ?_
  rintro _ g ⟨db,fm,d,rfl,e⟩
  have h1:=(zq (zq e 359 4) 359 4).qn
  exact⟨db,⟨fm, .map (some d),zW,[],room,0,false⟩,[],O,⟨⟨O,O,by show room≤4194304;omega,by show([]:List WriD).length≤1000;decide⟩,O⟩,a,O,(h1.qf [0,1,5,3] O V).sel [2] O V⟩
theorem zN9(a b rho:Int)(w:World)(d:a=1)(hb:b=2)(e:rho=0):Rets Tryz.prog 48 #[Vi a,Vi b,Vi rho] w fun g h=>∃ (cb:Nat) (c:CkD),g= .tuple #[pt cb,Vi 0]∧CkA c 0∧c.rho=0∧Own w [] [Res.ck cb c] h:=by
  subst d hb e
  refine(zNh 0 w V).mono ?_
  rintro _ l ⟨cb,c,rfl,i,j,m,n,o,k⟩
  exact⟨cb,c,O,i,j,k⟩
theorem zKL{S:List Nat}(id:Int)(db:Nat)(D:DskD)(kf:List (ByteArray×FilD))(st:SetD)(qd:Nat)(w:World)(a:id=1)(c:st=jc st.rho)(d:0≤st.rho∧st.rho≤500000)(e:DskCl D)(hl:kf.length=0)(g:D.room=1048576)(h:qd<18446744073709551616)(b:Own w S [Res.dk db D kf] w):Rets Tryz.prog 51 #[Vi id,pt db, .agg (SetD.cells st).toArray,Vi 0,Vn qd] w fun i j=>∃ (nb:Nat) (n:NdD),i= .tuple #[pt nb,Vi 0]∧NdF n∧n.st=st∧Own w S [Res.nd nb n] j:=by
  subst a
  exact zKC db D kf st qd w c d e hl g h b
def ndR(p:Nat×NdD):Res:=Res.nd p.1 p.2
def Res.nds(l:List (Nat×NdD)):Res:=Res.star (l.map ndR)
def egR(p:Nat×EgD):Res:=Res.eg p.1 p.2
def Res.egs(l:List (Nat×EgD)):Res:=Res.star (l.map egR)
def EgZ(d:EgD):Prop:=(((d.nodes=1∧d.rho=0)∧(d.waits=false∧d.seq=0))∧d.next=1)∧d.a=askZ
theorem zKZ(st:SetD)(w:World)(hs:st=jc 0):Rets Tryz.prog 20 #[.agg (SetD.cells st).toArray] w fun u_ d=>∃ (wb nb e1 e2 pb cb:Nat) (nv dv ev ov cv lv:Value) (m:Nat) (n:NdD) (d1:EgD) (c:CkD) (ps:PsD),u_= .tuple #[pt wb,Vi 0]∧(NdF n∧n.st=st)∧(EgZ d1∧d1.id=1)∧(CkA c 0∧c.rho=0)∧ps.l=[]∧Own w [] [Res.row wb 76 [Vi st.nodes,Vi st.voters,Vi st.edges,Vi st.rho,Vi st.base,Vi st.spread,Vi st.beat,Vi st.disk,Vi st.post,Vi st.keep,nv,dv,ev,pt pb,pt cb,Vj 0,cv,ov,lv,zu,zW, .map (some m)],Res.vec 65 1 nv [nb].length ([nb].flatMap P1),Res.vec 53 1 ev [e1,e2].length ([e1,e2].flatMap P1),vI ov [0,0],Res.nd nb n,Res.eg e1 d1,Res.ck cb c,Res.ps pb ps,Res.vec 45 21 cv ([]:List CalD).length (([]:List CalD).flatMap CalD.cells),vE lv ([]:List EntD)] d:=by
  have aq:st=jc st.rho:=by rw[hs];rfl
  have a7:st.rho=0:=by rw[hs];rfl
  have aj:st.nodes=1:=by rw[hs];rfl
  have ar:st.edges=2:=by rw[hs];rfl
  have au:st.disk=1048576:=by rw[hs];rfl
  have b8:st.post=400:=by rw[hs];rfl
  refine zO Tryz.func20 O Tryz.ntmps20 (Own.start w) (zB (zj O O (fun b1=>zG O (zG O (zA (zK (zB (z1 (cs:=(SetD.cells st)) 0 O O O (zH O O (fun d a=>(zDt st d qF qF).mono ?_))))))))))
  rintro _ w1 ⟨rfl,hO⟩
  refine O1 ?_ (a.qb hO)
  refine xi (b:=true) O O (zA (yT O (zN (zB (z1 (cs:=(SetD.cells st)) 0 O O O (xb (α:=Int) kK kS O O (fun a3=>yG (cs:=[Vi st.nodes,Vi st.voters,Vi st.edges,Vi st.rho,Vi st.base,Vi st.spread,Vi st.beat,Vi st.disk,Vi st.post,Vi st.keep,zW,zW,zW, .pointer none, .pointer none,Vi 0,zW,zW,zW,zu,zW, .map (some a3)]) (z:=[Vi 0,Vi 0,Vi 0,Vi 0,Vi 0,Vi 0,Vi 0,Vi 0,Vi 0,Vi 0,zW,zW,zW, .pointer none, .pointer none,Vi 0,zW,zW,zW,zu,zW, .map none]) (pl:=[(0,10),(10,1),(11,1),(12,1),(13,1),(14,1),(15,1),(16,1),(17,1),(18,1),(19,1),(20,1),(21,1)]) qD qD O (zj O O (fun a4=>zG O (zA (zB (zC O (zI (o:=0) O O (zJ 0 (v:=Vi st.nodes) O O O O (zI (o:=2) O O (zJ 0 (v:=Vi st.edges) O O O O (zI (o:=3) O O (zJ 0 (v:=Vi st.rho) O O O O (zH O O (fun d a=>(zN9 st.nodes st.edges st.rho d aj ar a7).mono ?_))))))))))))))))))))
  rintro _ w1 ⟨k,ad,rfl,ae,a8,hO⟩
  refine(?_:CL _ _ _ _ _ _ (Own w [] [_,_,_,_])) w1 (a.qb hO)
  refine zC O (zb (vs:=[pt k,Vi 0]) O O O (zb (vs:=[pt k,Vi 0]) O O O (zV O O (zI (o:=14) O O (zi 2 O O O O O (zA (zB (zC O (zI (o:=8) O O (zJ 0 (v:=Vi st.post) O O O O (zH O O (fun d a=>(zRD st.post d qF).mono ?_))))))))))))
  rintro _ w1 ⟨r,af,rfl,ag,hO⟩
  refine(?_:CL _ _ _ _ _ _ (Own w [] [_,_,_,_,_])) w1 (a.qb hO)
  refine zC O (zb (vs:=[pt r,Vi 0]) O O O (zb (vs:=[pt r,Vi 0]) O O O (zV O O (zI (o:=13) O O (zi 2 O O O O O (zA (zK (zB (zG O (zA (zU (zAm (fun(i:Nat) (nv dv:Value) (nl:List (Nat×NdD)) (dl:List Nat)=>[(1,pt b1),(4,pt a4),(5,Vj i)]) (fun(i:Nat) (nv dv:Value) (nl:List (Nat×NdD)) (dl:List Nat)=>((i=1∧nl=[])∨(i=2∧∃ b n,nl=[(b,n)]∧NdF n∧n.st=st))∧dl.length≤i) (fun(i:Nat) (nv dv:Value) (nl:List (Nat×NdD)) (dl:List Nat)=>[Res.row b1 26 (SetD.cells st),Res.mp kK kS a3 ([]:List (Nat×Int)),Res.row a4 76 [Vi st.nodes,Vi st.voters,Vi st.edges,Vi st.rho,Vi st.base,Vi st.spread,Vi st.beat,Vi st.disk,Vi st.post,Vi st.keep,nv,dv,zW,pt r,pt k,Vj 0,zW,zW,zW,zu,zW, .map (some a3)],Res.ck k ad,Res.ps r af,Res.vec 65 1 nv (nl.map Prod.fst).length ((nl.map Prod.fst).flatMap P1),Res.vec 122 1 dv dl.length (dl.flatMap P1),Res.nds nl]) (fun(i:Nat) (nv dv:Value) (nl:List (Nat×NdD)) (dl:List Nat)=>2 - i) (fun d a=>⟨1,zW,zW,[],[],⟨O,O,O,trivial⟩,⟨.inl ⟨O,O⟩,Nat.zero_le _⟩,((zq (zq a 65 1) 122 1).qn)⟩) (fun i nv dv nl dl g hΦ=>(zK (zB (zC O (zI (o:=0) O O (zJ 0 (v:=Vi st.nodes) O O O O (yq O O O (zA (zT O (fun c2=> ?_) (fun c2=> ?_))))))))))))))))))))))
  ·have ab:i=1∧nl=[]:=by rcases hΦ.1 with q|⟨q,_⟩;exact q;omega
   have b5:nl.length≤1:=by rw[ab.2];decide
   refine zN (zK (zU (zB (zI (o:=7) O O (zJ 0 (v:=Vi st.disk) O O O O (zH O O (fun d a=>(zOC st.disk d au).mono ?_)))))))
   rintro _ w1 ⟨s,D6_,ak,rfl,ah,a9,aa,hO⟩
   refine(?_:CL _ _ _ _ _ _ (Own w [] [_,_,_,_,_,_,_,_,_])) w1 (a.qb hO)
   refine zC O (zb (vs:=[pt s,Vi 0]) O O O (zb (vs:=[pt s,Vi 0]) O O O (zG O (zG O (zA (zB (zC O (zC O (z1 (cs:=(SetD.cells st)) 0 O O O (zC O (ya qD O (yp qE) O ?_ qD)))))))))))
   refine zH O O (fun d a=>(zKL ((i:Nat):Int) s D6_ ak st i d qE aq (by rw[a7];decide) ah aa a9 qE (a.give [8] O V)).mono ?_)
   rintro _ w1 ⟨a0,av,rfl,ac,a5,hO⟩
   refine fq [8] O a hO (zC O (zb (vs:=[pt a0,Vi 0]) O O O (zb (vs:=[pt a0,Vi 0]) O O O (zG O (zG O (zA (zB (zC O (zC O (zV O O (zI (o:=11) O O (zJ 2 (v:=dv) O O O O (zC O (yC (e:=122) (sz:=1) (vs:=[pt s]) qD O O qN V O (fun b9=>yE (g:=P1) (sz:=1) (by':=8) (fun _=>O) (l:=dl) (l':=[s]) qO 6 qD O O O (fun d a1=>Vec.sl (Own.holds a1 9 _ O)) qF V O (fun aw=>zV O O (zI (o:=11) O O (zS (fun d a=>Own.qa (i:=6) O a) (fun al=>(zi 2 O O O al O (zA (zd (zC O (zC O (zV O O (zI (o:=10) O O (zJ 2 (v:=nv) O O O O (zC O (yC (e:=65) (sz:=1) (vs:=[pt a0]) qD O O qN V O (fun ba=>yE (g:=P1) (sz:=1) (by':=8) (fun _=>O) (l:=(nl.map Prod.fst)) (l':=[a0]) qO 5 qD O O O (fun d a1=>Vec.sl (Own.holds a1 10 _ O)) qF V O (fun ax=>zV O O (zI (o:=10) O O (zS (fun d a=>Own.qa (i:=5) O a) (fun am=>(zi 2 O O O am O (zA (zd (zC O (zr O O (zt qE) O (zG O (zw (fun d a=>⟨i+1,ax,aw,[(a0,av)],dl++[s],⟨O,O,O,trivial⟩,⟨.inr ⟨by omega,_,_,O,ac,a5⟩,by have:=hΦ.2;rw[List.length_append,List.length_singleton];omega⟩,(by have q:=ab.2;subst q;exact(a.qf [8] rfl V).sel [0,1,2,3,4,5,6,10] rfl V),qE⟩))))))))))))))))))))))))))))))))))))))))))
  have ay:∃ b n,nl=[(b,n)]∧NdF n∧n.st=st:=by rcases hΦ.1 with⟨q,_⟩|⟨_,q⟩;omega;exact q
  obtain⟨nb,n,ab,az,b0⟩:=ay
  refine zz O (zK (zB (zG O (zA (zU (zAm (fun(j:Nat) (ev ov:Value) (el:List (Nat×EgD)) (os:List Int)=>[(1,pt b1),(4,pt a4),(10,Vj j)]) (fun(j:Nat) (ev ov:Value) (el:List (Nat×EgD)) (os:List Int)=>((j=1∧el=[]∧os=[])∨(j=2∧os=[0]∧∃ p,el=[p]∧EgZ p.2∧p.2.id=1)∨(j=3∧os=[0,0]∧∃ p q,el=[p,q]∧EgZ p.2∧p.2.id=1))) (fun(j:Nat) (ev ov:Value) (el:List (Nat×EgD)) (os:List Int)=>[Res.row b1 26 (SetD.cells st),Res.mp kK kS a3 ([]:List (Nat×Int)),Res.row a4 76 [Vi st.nodes,Vi st.voters,Vi st.edges,Vi st.rho,Vi st.base,Vi st.spread,Vi st.beat,Vi st.disk,Vi st.post,Vi st.keep,nv,dv,ev,pt r,pt k,Vj 0,zW,ov,zW,zu,zW, .map (some a3)],Res.ck k ad,Res.ps r af,Res.vec 65 1 nv (nl.map Prod.fst).length ((nl.map Prod.fst).flatMap P1),Res.vec 122 1 dv dl.length (dl.flatMap P1),Res.nds nl,Res.vec 53 1 ev (el.map Prod.fst).length ((el.map Prod.fst).flatMap P1),vI ov os,Res.egs el]) (fun(j:Nat) (ev ov:Value) (el:List (Nat×EgD)) (os:List Int)=>3 - j) (fun d a=>⟨1,zW,zW,[],[],⟨O,O,O,trivial⟩, .inl ⟨O,O,O⟩,((zq (zq a 53 1) 3 1).qn)⟩) (fun j ev ov el os g hΦ=>(zK (zB (zC O (zI (o:=2) O O (zJ 0 (v:=Vi st.edges) O O O O (yq O O O (zA (zT O (fun c3=> ?_) (fun c3=> ?_))))))))))))))))
  ·have bb:el.length≤3∧os.length≤3:=by rcases hΦ with⟨_,q2,q3⟩|⟨_,q2,p,q3,_⟩|⟨_,q2,p,q,q3,_⟩<;>rw[q2,q3]<;>exact⟨by simp,by simp⟩
   refine zN (zK (zU (zB (zC O (zI (o:=0) O O (zJ 0 (v:=Vi st.nodes) O O O O (zI (o:=3) O O (zJ 0 (v:=Vi st.rho) O O O O (zH O O (fun d a=>(zPU ((j:Nat):Int) st.nodes st.rho d qE qE qE).mono ?_))))))))))
   rintro _ w1 ⟨h,a2,rfl,y,u,a6,hO⟩
   refine(?_:CL _ _ _ _ _ _ (Own w [] [_,_,_,_,_,_,_,_,_,_,_,_])) w1 (a.qb hO)
   refine zC O (zb (vs:=[pt h,Vi 0]) O O O (zb (vs:=[pt h,Vi 0]) O O O (zG O (zG O (zA (zB (zC O (zC O (zV O O (zI (o:=12) O O (zJ 2 (v:=ev) O O O O (zC O (yC (e:=53) (sz:=1) (vs:=[pt h]) qD O O qN V O (fun b6=>yE (g:=P1) (sz:=1) (by':=8) (fun _=>O) (l:=(el.map Prod.fst)) (l':=[h]) qO 8 qD O O O (fun d a1=>Vec.sl (Own.holds a1 12 _ O)) qF V O (fun v105=>zV O O (zI (o:=12) O O (zS (fun d a=>Own.qa (i:=8) O a) (fun an=>(zi 2 O O O an O (zA (zd (zC O (zC O (zV O O (zI (o:=17) O O (zJ 2 (v:=ov) O O O O (yC (e:=3) (sz:=1) (vs:=[Vi 0]) qD O O qJ V O (fun b7=>yE (g:=I1) (sz:=1) (by':=8) (fun _=>O) (l:=os) (l':=[0]) qP 9 qD O O O (fun d a1=>Vec.sl (Own.holds a1 13 _ O)) qF V O (fun ao=>zV O O (zI (o:=17) O O (zS (fun d a=>Own.qa (i:=9) O a) (fun ap=>(zi 2 O O O ap O (zA (zd (zC O (zr O O (zt qE) O (zG O (zw (fun d a=>⟨j+1,v105,ao,el++[(h,a2)],os++[0],⟨O,O,O,trivial⟩,(by rcases hΦ with⟨q1,q2,q3⟩|⟨q1,q2,p,q3,q4⟩|⟨q1,_⟩;exact .inr (.inl ⟨by omega,by rw[q3];rfl,(h,a2),by rw[q2];rfl,⟨⟨⟨⟨(y).1.2.trans aj,(y).2.trans a7⟩,(u).1⟩,(u).2⟩,a6⟩,(y).1.1.trans qE⟩);exact .inr (.inr ⟨by omega,by rw[q2];rfl,p,(h,a2),by rw[q3];rfl,q4⟩);omega),(by rw[List.map_append];exact(a.qw (g:=egR) (x:=(h,a2)) 10 11 V rfl rfl).sel [0,1,2,3,4,5,6,7,8,9,10] rfl V),qE⟩))))))))))))))))))))))))))))))))))))))))
  have ai:os=[0,0]∧∃ p q,el=[p,q]∧EgZ p.2∧p.2.id=1:=by rcases hΦ with⟨q,_⟩|⟨q,_⟩|⟨_,q⟩;omega;omega;exact q
  obtain⟨b2,p,q,ai,b3,b4⟩:=ai
  refine zz O (zB (zC O (zG O (zG O (zA (zP (yg (v:=pt a4) (v':=Vi 0) O O O (fun d a=>⟨a4,nb,p.1,q.1,r,k,nv,dv,ev,ov,zW,zW,a3,n,p.2,ad,af,O,⟨az,b0⟩,⟨b3,b4⟩,⟨ae,a8⟩,ag,(by subst ab ai b2;exact(((zq (zq a 45 21) 130 5).qg 7 rfl).qg 9 rfl).sel [2,5,7,8,11,12,3,4,9,10] rfl V)⟩))))))))
end Go.Proofs.YtmpaljnacfidaaaGreatDoor
