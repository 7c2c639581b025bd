import Derived.Test.YtmpaljnacfidaaaGreatDoorWld
import Derived.Test.YtmpaljnacfidaaaGreatDoorIn
import Derived.Test.YtmpaljnacfidaaaGreatDoorFw3
import Derived.Test.YtmpaljnacfidaaaGreatDoorWhRd
set_option linter.unusedSectionVars false
set_option linter.unusedSimpArgs false
set_option linter.unusedVariables false
set_option maxRecDepth 10000
namespace Go.Proofs.YtmpaljnacfidaaaGreatDoor
open Go Go.Sc Go.Proofs
theorem zQn{x:AskD}(ho:x.ok)(hl:x.look=false):x.cmd.ok:=by
  unfold AskD.ok at ho
  rw[if_neg (by rw[hl];decide)]at ho
  exact ho.1.1
theorem zHW{S:List Nat}(wb nb e1 e2 pb cb:Nat)(st:SetD)(nv dv ev km lv:Value)(k:Nat)(cv ov:Value)(es:List EntD)(n:NdD)(c:CkD)(T:Int)(ps:PsD)(pv:Value)(y:AskD)(lr:RepD)(q m:Nat)(w:World)(hc:CkA c T)(aq:ps.l=[({src:= -1,dst:=1,dv:=pv,data:=y.enc}:LetD)])(h:NdL n q m)(hl:n.x.es.length≤90)(aj:c.t1=n.x.t.now)(a9:y.look=false)(ac:y.wf)(ad:y.ok)(ar:y.cmd.session=1)(hk:ym n.s.a.kr y.cmd.session y.cmd.seq=(lr,8))(hA:ApOk n.s.a 0)(hq:q+6200≤1048576)(hm:m+2<4000)(au:es.length=n.x.es.length)(hW:∀ r u cnt' kb' kl' kr',DoK (yr n.s.a.now 0) n.s.a.cnt n.s.a.kb (yf n.s.a.now 0 n.s.a.kl) n.s.a.kr y.cmd r u cnt' kb' kl' kr'→(({seq:=y.seq,retry:=false,lead:=0,reply:=r,most:=0,lent:=0}:TldD).wf∧({seq:=y.seq,retry:=false,lead:=0,reply:=r,most:=0,lent:=0}:TldD).ok)∧r.session≠0)(av:Own w S [jr wb st nv dv ev pb cb (Vj k) cv ov lv km,Res.vec 65 1 nv [nb].length ([nb].flatMap P1),vE lv es,Res.nd nb n,Res.ck cb c,Res.ps pb ps] w):Rets Tryz.prog 27 #[pt wb, .agg #[Vi 3,Vi 0,Vi 0,Vi 0,Vn 0,Vn 0,Vn 0,Vn 0,Vi 0,yh,Vi 0,Vi 0,Vn 0]] w fun u_ j=>∃ (ak aw:Value) (p:NdD) (al:PsD) (e:EntD) (r:RepD) (u:Bool),u_=Vi 0∧al.l=[⟨1, -1,aw,({seq:=y.seq,retry:=false,lead:=0,reply:=r,most:=0,lent:=0}:TldD).enc⟩]∧NdL p (q+6100) (m+2)∧p.st=n.st∧p.x.t.now=n.x.t.now∧p.x.es.length=n.x.es.length+1∧p.fs.length=1∧p.s.a.now=yr n.s.a.now 0∧DoK (yr n.s.a.now 0) n.s.a.cnt n.s.a.kb (yf n.s.a.now 0 n.s.a.kl) n.s.a.kr y.cmd r u p.s.a.cnt p.s.a.kb p.s.a.kl p.s.a.kr∧Own w S [jr wb st nv dv ev pb cb (Vj k) cv ov ak km,Res.vec 65 1 nv [nb].length ([nb].flatMap P1),vE ak (es++p.fs),Res.nd nb p,Res.ck cb c,Res.ps pb al] j:=by
  have ax:y.cmd.ok:=(zQn ad a9)
  refine zO Tryz.func27 O Tryz.ntmps27 av (zB (zj O O (fun b3=>zG O (zA (zK (zc [0,1,2,3,4,6] O V qD (fun j g b=>zD 0 O za b (zD 1 O (zX O) b (zD 2 O (zL (o:=13) O) b (zD 3 O (zZ 0 (v:=pt pb) O O O) b (zD 4 O (zL (o:=1) O) b (zD 5 O (zZ 5 (v:=Vi 0) O O O) b (zM 6 O g (zH O O (fun j g=>(zH3 pb ps ({src:= -1,dst:=1,dv:=pv,data:=y.enc}:LetD) j aq (g.give [5] O V)).mono ?_)))))))))))))))
  rintro _ w1 ⟨am,rfl,ae,hO⟩
  refine fq [5] O g hO (zE [0,1,2,3,4,5] O V (fun j g b=>zD 7 O za b (zD 8 O (yD (vs:=[Vi (({src:= -1,dst:=1,dv:=pv,data:=y.enc}:LetD).src),Vi (({src:= -1,dst:=1,dv:=pv,data:=y.enc}:LetD).dst),({src:= -1,dst:=1,dv:=pv,data:=y.enc}:LetD).dv,Vi 0]) O O) b (zD 9 O (yD (vs:=[Vi (({src:= -1,dst:=1,dv:=pv,data:=y.enc}:LetD).src),Vi (({src:= -1,dst:=1,dv:=pv,data:=y.enc}:LetD).dst),({src:= -1,dst:=1,dv:=pv,data:=y.enc}:LetD).dv,Vi 0]) O O) b (zD 10 O (yD (vs:=[Vi (({src:= -1,dst:=1,dv:=pv,data:=y.enc}:LetD).src),Vi (({src:= -1,dst:=1,dv:=pv,data:=y.enc}:LetD).dst),({src:= -1,dst:=1,dv:=pv,data:=y.enc}:LetD).dv,Vi 0]) O O) b (zD 11 O (yD (vs:=[Vi (({src:= -1,dst:=1,dv:=pv,data:=y.enc}:LetD).src),Vi (({src:= -1,dst:=1,dv:=pv,data:=y.enc}:LetD).dst),({src:= -1,dst:=1,dv:=pv,data:=y.enc}:LetD).dv,Vi 0]) O O) b (zD 12 O z7 b (zD 13 O z7 b (zD 14 O z7 b (zD 15 O z7 b (zY ((?_:C _ _ _ _ _ _ _ (Own w S [_,_,_,_,_,_,_,_])) _ g))))))))))))
  refine zK (zU (zB (zC O (yd O O O (zG O (zA (zT O (fun c1=> ?_) (fun c1=> ?_))))))))
  ·exact absurd O c1
  refine zB (zC O (yU O O O (zG O (zA (zT O (fun c2=> ?_) (fun c2=> ?_))))))
  ·refine zB (zC O (zC O (zH O O (fun j g=>(zFD wb nb e1 e2 pb cb st nv dv ev km lv k cv ov es (({src:= -1,dst:=1,dv:=pv,data:=y.enc}:LetD).dst) j O (g.give [0,1] O V)).mono ?_))))
   rintro _ w1 ⟨rfl,hO⟩
   refine fq [0,1] O g hO (zG O (zA (zK (zB (zC O (yF qD O O O (zA (yT O (zN (zK (zc [0,2,3,4,5,6,7] O V qD (fun j g b=>zD 0 O za b (zD 1 O za b (zD 2 O za b (zD 3 O za b (zD 4 O za b (zD 6 O (zL (o:=4) O) b (zD 7 O (zZ 2 (v:=Vn 0) O O O) b (zM 5 O g (zH O O (fun j g=>(zEl wb nb e1 e2 pb cb st nv dv ev km lv k cv ov es _ _ (({src:= -1,dst:=1,dv:=pv,data:=y.enc}:LetD).dst) j hc (.inl O) (g.give [6,2] O V)).mono ?_)))))))))))))))))))))
   rintro _ w1 ⟨rfl,hO⟩
   refine fq [6,2] O g hO (zE [0,7,2,3,4,6,5] O V (fun j g b=>zM 8 O g (zH O O (fun j g=>(zNW nb _ _ _ (({src:= -1,dst:=1,dv:=pv,data:=y.enc}:LetD).src) (zCj c (({src:= -1,dst:=1,dv:=pv,data:=y.enc}:LetD).dst)) (({src:= -1,dst:=1,dv:=pv,data:=y.enc}:LetD).dv) (({src:= -1,dst:=1,dv:=pv,data:=y.enc}:LetD).data) y _ 0 j (zOe ac ad a9) (by have:=zBN ac ad a9;show y.enc.length≤_;omega) h hl ((zOl O).trans aj) a9 ac ax (ar.trans O) (show -16≤(-1:Int)∧(-1:Int)≤ -1 by decide) hk hA hq hm (fun r u a1 a2 a3 a4 hD=>(hW r u a1 a2 a3 a4 hD).1) (g.give [1] O V) (g.rdVec 4 O [1] O O)).mono ?_))))
   rintro _ w1 ⟨an,z,ab,ay,ao,af,rfl,ag,a0,a5,a6,i,a7,ap,a8,d,hO⟩
   refine fq [1] O g hO (zE [0,6,1,2,3,5,4] O V (fun j g b=>zD 9 O za b (zD 10 O (yD (vs:=[z,Vi 0]) O O) b (zD 11 O (yD (vs:=[z,Vi 0]) O O) b (zD 12 O z7 b (zD 13 O z7 b (zY ((?_:C _ _ _ _ _ _ _ (Own w S [_,_,_,_,_,_,_,_,_,_,_])) _ g))))))))
   refine zB (zC O (zC O (zC O (zC O (zH O O (fun j g=>(zPq wb nb e1 e2 pb cb st nv dv ev km lv k cv ov es ab (({src:= -1,dst:=1,dv:=pv,data:=y.enc}:LetD).dst) z an (⟨y.seq,false,0,ao,0,0⟩:TldD) am j O (zLy i ((congrArg EntA.index a7).trans (by rw[au]))) qE (by rw[i];show 1≤100;decide) ((hW _ _ _ _ _ _ d).1.1) ((hW _ _ _ _ _ _ d).1.2) ((hW _ _ _ _ _ _ d).2) ae (g.give [5,4,0,7,8,9,10,2] O V)).mono ?_))))))
   rintro _ w1 ⟨ah,az,aa,rfl,ai,hO⟩
   refine fq [5,4,0,7,8,9,10,2] O g hO (zG O (zA (zP (zn (v:=Vi 0) O O (fun j g=>⟨ah,az,ab,aa,ay,ao,af,O,ai,ag,a0,a5,(by have:=congrArg List.length a6;simpa using this),(by rw[i];rfl),a8,d,g.sel [3,4,5,6,2,8] O V⟩)))))
  exact absurd (show(0:Int)<1 by decide) c2
theorem zME{α:Type}[Inhabited α]{l:List α}{k:Nat}{b:α}(h:k<l.length):zf (l.set k b) k=b:=by simp[zf,h]
def zCc(cs:List CalD)(k:Nat)(t:TldD):List CalD:=
  (cs.set (cs.length - 1) ({(zf cs (cs.length - 1))with stop:=((k:Nat):Int)}:CalD)).set (cs.length - 1) ({(zf (cs.set (cs.length - 1) ({(zf cs (cs.length - 1))with stop:=((k:Nat):Int)}:CalD)) (cs.length - 1))with reply:=t.reply}:CalD)
theorem zJd(cs:List CalD)(x:CalD)(k:Nat)(t:TldD):zCc (cs++[x]) k t=cs++[({x with stop:=((k:Nat):Int),reply:=t.reply}:CalD)]:=by
  have hl:(cs++[x]).length - 1=cs.length:=by simp
  have h1:∀ y:CalD,(cs++[x]).set cs.length y=cs++[y]:=fun y=>by simp
  have h2:∀ y:CalD,zf (cs++[y]) cs.length=y:=fun y=>jd qH
  unfold zCc
  rw[hl,h1,h2,h2]
  simp
theorem zQa{S:List Nat}(wb nb e1 e2 pb cb:Nat)(st:SetD)(nv dv ev km lv:Value)(k:Nat)(cv ov:Value)(es:List EntD)(cs:List CalD)(t:TldD)(j:Int)(w:World)(l:j=1)(m:1≤cs.length)(e:(zf cs (cs.length - 1)).look=false)(hl:cs.length≤1000)(a:Own w S [jr wb st nv dv ev pb cb (Vj k) cv ov lv km,Res.vec 45 21 cv cs.length (cs.flatMap CalD.cells),vI ov [((cs.length:Nat):Int),0]] w):Rets Tryz.prog 63 #[pt wb,Vi j, .agg (TldD.cells t).toArray] w fun g b=>g= .tuple #[]∧Own w S [jr wb st nv dv ev pb cb (Vj k) cv ov lv km,Res.vec 45 21 cv (zCc cs k t).length ((zCc cs k t).flatMap CalD.cells),vI ov [0,0]] b:=by
  refine zO Tryz.func63 O Tryz.ntmps63 a (zB (zj O O (fun n=>zA (zB (zC O (zV O O (zI (o:=17) O O (zJ 0 (v:=ov) O O O O (zC O (y5 O O (zt qE) O (yH (pV 2 O) 1 0 O O qE qH O (zEM (v:=ov) (off:=yk ov+0*1) (0*1+0) (cs:=([((cs.length:Nat):Int),0].flatMap I1)) O qE (fun b c=>Vec.sl (Own.holds c 2 _ O)) (jV (sz:=1) (fun _=>O) O (i:=0) O) qD O (y5 O O (zt qE) O (zG O (zA (zB (zC O (zV O O (zI (o:=17) O O (zJ 0 (v:=ov) O O O O (zC O (y5 O O (zt qE) O (yH (pV 2 O) 1 0 O O qE qH O (zMH 2 0 0 O (fun _=>O) O qE O O O qH (zA (zB (zC O (zV O O (zI (o:=16) O O (zJ 0 (v:=cv) O O O O (zC O (yH (pV 1 O) 21 (cs.length - 1) O O (by show((cs.length:Nat):Int) - 1=((cs.length - 1:Nat):Int);omega) qE O (zG O (zA (zB (zC O (zC O (zV O O (zI (o:=15) O O (zJ 0 (v:=Vj k) O O O O (zV O O (zI (o:=12) O O (zQM 1 21 (cs.length - 1) 12 ({(zf cs (cs.length - 1))with stop:=((k:Nat):Int)}:CalD) (off:=yk cv+(cs.length - 1)*21+12) O (fun _=>O) O qE O O O qE V qD (zA (zB (zC O (zV O O (zI (o:=1) O O (y8 (pV 1 O) 21 (cs.length - 1) 1 (off:=yk cv+(cs.length - 1)*21+1) (fun _=>O) O qM qF O O (zA (ku O (fun d=> ?_) (fun d=> ?_))))))))))))))))))))))))))))))))))))))))))))))))))))
  ·exact absurd d (by show ¬(zf (cs.set (cs.length - 1) _) (cs.length - 1)).look=true;rw[zME qE];show ¬(zf cs (cs.length - 1)).look=true;rw[e];decide)
  refine zd (zC O (zI (o:=3) O O (xC 3 (RepD.cells t.reply) O O (ye 3 O) qD O (zV O O (zI (o:=13) O O (zRS 1 21 (cs.length - 1) 13 ({(zf (cs.set (cs.length - 1) ({(zf cs (cs.length - 1))with stop:=((k:Nat):Int)}:CalD)) (cs.length - 1))with reply:=t.reply}:CalD) (RepD.cells t.reply) (off:=yk cv+(cs.length - 1)*21+13) O (fun _=>O) O qE O (by rfl) (z6 O) qF (Nat.le_of_ble_eq_true O) (Nat.le_of_ble_eq_true O) qD (zw (yl O (fun b h=>⟨O,h.sel [0,1,2] O V⟩)))))))))
theorem zGe{S:List Nat}(wb nb e1 e2 pb cb:Nat)(st:SetD)(nv dv ev km lv:Value)(k:Nat)(cv ov:Value)(es:List EntD)(cs:List CalD)(d:EgD)(c:CkD)(T:Int)(ps:PsD)(pv:Value)(t:TldD)(w:World)(hc:CkA c T)(a5:ps.l=[({src:=1,dst:= -1,dv:=pv,data:=t.enc}:LetD)])(ht:t.wf)(a6:t.ok)(hr:t.retry=false)(a7:d.waits=true)(hs:t.seq=d.a.seq)(hx:d.a.wf)(a8:d.nodes≤16)(a9:1≤cs.length)(hk:(zf cs (cs.length - 1)).look=false)(hl:cs.length≤1000)(aa:Own w S [jr wb st nv dv ev pb cb (Vj k) cv ov lv km,Res.vec 53 1 ev [e1,e2].length ([e1,e2].flatMap P1),Res.vec 45 21 cv cs.length (cs.flatMap CalD.cells),vI ov [((cs.length:Nat):Int),0],Res.eg e1 d,Res.ck cb c,Res.ps pb ps] w):Rets Tryz.prog 27 #[pt wb, .agg #[Vi 3,Vi 0,Vi 0,Vi 0,Vn 0,Vn 0,Vn 0,Vn 0,Vi 0,yh,Vi 0,Vi 0,Vn 0]] w fun u_ i=>∃ (d':EgD) (a2:PsD),u_=Vi 0∧a2.l=[]∧d'.waits=false∧zCE d' d∧(d'.a=d.a∧d'.seq=d.seq)∧d'.next=d.next∧Own w S [jr wb st nv dv ev pb cb (Vj k) cv ov lv km,Res.vec 53 1 ev [e1,e2].length ([e1,e2].flatMap P1),Res.vec 45 21 cv (zCc cs k t).length ((zCc cs k t).flatMap CalD.cells),vI ov [0,0],Res.eg e1 d',Res.ck cb c,Res.ps pb a2] i:=by
  refine zO Tryz.func27 O Tryz.ntmps27 aa (zB (zj O O (fun b3=>zG O (zA (zK (zc [0,1,2,3,4,5,7] O V qD (fun i e h=>zD 0 O za h (zD 1 O (zX O) h (zD 2 O (zL (o:=13) O) h (zD 3 O (zZ 0 (v:=pt pb) O O O) h (zD 4 O (zL (o:=1) O) h (zD 5 O (zZ 6 (v:=Vi 0) O O O) h (zM 6 O e (zH O O (fun i e=>(zH3 pb ps ({src:=1,dst:= -1,dv:=pv,data:=t.enc}:LetD) i a5 (e.give [6] O V)).mono ?_)))))))))))))))
  rintro _ w1 ⟨a3,rfl,a1,u⟩
  refine fq [6] O e u (zE [0,1,2,3,4,5,6] O V (fun i e h=>zD 7 O za h (zD 8 O (yD (vs:=[Vi (({src:=1,dst:= -1,dv:=pv,data:=t.enc}:LetD).src),Vi (({src:=1,dst:= -1,dv:=pv,data:=t.enc}:LetD).dst),({src:=1,dst:= -1,dv:=pv,data:=t.enc}:LetD).dv,Vi 0]) O O) h (zD 9 O (yD (vs:=[Vi (({src:=1,dst:= -1,dv:=pv,data:=t.enc}:LetD).src),Vi (({src:=1,dst:= -1,dv:=pv,data:=t.enc}:LetD).dst),({src:=1,dst:= -1,dv:=pv,data:=t.enc}:LetD).dv,Vi 0]) O O) h (zD 10 O (yD (vs:=[Vi (({src:=1,dst:= -1,dv:=pv,data:=t.enc}:LetD).src),Vi (({src:=1,dst:= -1,dv:=pv,data:=t.enc}:LetD).dst),({src:=1,dst:= -1,dv:=pv,data:=t.enc}:LetD).dv,Vi 0]) O O) h (zD 11 O (yD (vs:=[Vi (({src:=1,dst:= -1,dv:=pv,data:=t.enc}:LetD).src),Vi (({src:=1,dst:= -1,dv:=pv,data:=t.enc}:LetD).dst),({src:=1,dst:= -1,dv:=pv,data:=t.enc}:LetD).dv,Vi 0]) O O) h (zD 12 O z7 h (zD 13 O z7 h (zD 14 O z7 h (zD 15 O z7 h (zY ((?_:C _ _ _ _ _ _ _ (Own w S [_,_,_,_,_,_,_,_,_])) _ e))))))))))))
  refine zK (zU (zB (zC O (yd O O O (zG O (zA (zT O (fun c1=> ?_) (fun c1=> ?_))))))))
  ·exact absurd O c1
  refine zB (zC O (yU O O O (zG O (zA (zT O (fun c2=> ?_) (fun c2=> ?_))))))
  ·exact absurd c2 (show ¬(0:Int)< -1 by decide)
  refine zN (zB (zC O (zC O (zFT O O (zH O O (fun i e=>(zIG wb nb e1 e2 pb cb st nv dv ev km lv k cv ov es (zB5 .i64 (({src:=1,dst:= -1,dv:=pv,data:=t.enc}:LetD).dst)) i O (e.give [0,1] O V)).mono ?_))))))
  rintro _ w1 ⟨rfl,u⟩
  refine fq [0,1] O e u (zG O (zA (zK (zB (zC O (yF qD O O O (zA (yT O (zN (zB (zC O (zC O (zC O (zC O (zC O (zH O O (fun i e=>(zEl wb nb e1 e2 pb cb st nv dv ev km lv k cv ov es _ _ (({src:=1,dst:= -1,dv:=pv,data:=t.enc}:LetD).dst) i hc (.inr (.inl O)) (e.give [7,3] O V)).mono ?_)))))))))))))))))
  rintro _ w1 ⟨rfl,u⟩
  refine fq [7,3] O e u (zH O O (fun i e=>(zOI e1 _ (({src:=1,dst:= -1,dv:=pv,data:=t.enc}:LetD).src) (({src:=1,dst:= -1,dv:=pv,data:=t.enc}:LetD).dv) (({src:=1,dst:= -1,dv:=pv,data:=t.enc}:LetD).data) (zCj c (({src:=1,dst:= -1,dv:=pv,data:=t.enc}:LetD).dst)) i (by have:=zBP ht;show t.enc.length≤_;omega) hx a8 (e.give [2] O V) (e.rdVec 5 O [2] O O)).mono ?_))
  rintro _ w1 ⟨b,j,g,m,r,z,a4,rfl,y,n,p,q,u⟩
  have s:=(y).yes (zHw ht a6) a7 hs hr
  have a0:=(n s.2.done)
  refine fq [2] O e u (zC O (zb (vs:=[.bool b, .agg (TldD.cells j).toArray,Vi g,r,Vi m]) O O O (zb (vs:=[.bool b, .agg (TldD.cells j).toArray,Vi g,r,Vi m]) O O O (zb (vs:=[.bool b, .agg (TldD.cells j).toArray,Vi g,r,Vi m]) O O O (zb (vs:=[.bool b, .agg (TldD.cells j).toArray,Vi g,r,Vi m]) O O O (zb (vs:=[.bool b, .agg (TldD.cells j).toArray,Vi g,r,Vi m]) O O O (zk (v:= .agg #[Vn 0,zu,Vi 0,Vn 0,Vn 0,Vi 0,Vn 0,Vi 0,Vi 0,Vi 0,Vi 0]) qD O (fun ad=>zG O (ze 10 O O O (z6 O) O (zG O (zG O (zG O (zA (zK (zB (zC O (zLi (len:=z.length) (cs:=(z.map vb)) qD O O (fun i ab=>Vec.sl (Own.holds ab 9 _ O)) O (zA (ku O (fun c4=> ?_) (fun c4=> ?_))))))))))))))))))))
  ·exact absurd c4 (by rw[a0.1];exact Bool.false_ne_true)
  refine zN (zK (zB (zC O (zA (ku O (fun c5=> ?_) (fun c5=> ?_))))))
  ·refine zd (zC O (zC O (zFT O O (z1 (cs:=(TldD.cells j)) 10 O O O (zH O O (fun i e=>(zQa wb nb e1 e2 pb cb st nv dv ev km lv k cv ov es cs j (zB5 .i64 (({src:=1,dst:= -1,dv:=pv,data:=t.enc}:LetD).dst)) i O a9 hk hl (e.give [6,0,1] O V)).mono ?_))))))
   rintro _ w1 ⟨rfl,u⟩
   refine fq [6,0,1] O e u (zA (zB (zC O (zG O (zA (zP (zn (v:=Vi m) O O (fun i e=>⟨a4,a3,(by rw[s.1]),a1,s.2.waits,p,q.1,a0.2,(by have ac:=s.2.x;subst ac;exact e.sel [8,3,9,10,5,4,1] rfl V)⟩))))))))
  exact absurd (s.2.done.symm.trans c5) V
def zDn(a:CmdD)(k:Nat):CalD:={edge:=1,look:=false,lazy:=false,cmd:=a,key:=⟨#[]⟩,start:=((k:Nat):Int),stop:= -1,reply:=RepD.zero,cap:=0,lent:=0}
structure AskY(cm:CmdD)(k:Nat)(d:EgD)(cs:List CalD)(e:Int)(d':EgD)(pv:Value)(l':List LetD)(cs':List CalD)(os':List Int):Prop where
  good:¬ xf cm.op cm.key cm.amount cm.span
  e:e=0
  waits:d'.waits=true
  seq:d'.seq=d.seq+1
  a:d'.a=zCg (zBu cm.op cm.key cm.amount cm.span cm.lease) d.id (d.seq+1)
  l:l'=[⟨-1,1,pv,d'.a.enc⟩]
  cs:cs'=cs++[zDn d'.a.cmd k]
  os:os'=[((cs'.length:Nat):Int),0]
structure AskN(cm:CmdD)(d:EgD)(cs:List CalD)(e:Int)(d':EgD)(l':List LetD)(cs':List CalD)(os':List Int):Prop where
  bad:xf cm.op cm.key cm.amount cm.span
  e:e=1
  waits:d'.waits=false
  seq:d'.seq=d.seq
  a:d'.a=d.a
  l:l'=[]
  cs:cs'=cs
  os:os'=[0,0]
section
variable {a:AskD} {since:Int} {waits:Bool} {op:Int} {key:ByteArray} {am sp:Int} {le:Nat} {t id:Int} {seq:Nat} {now:Int} {kl:List (Nat×TruD)} {kn:List (Nat×Bool)} {to nx e:Int} {a':AskD} {since':Int} {waits':Bool} {seq':Nat} {now':Int} {kl':List (Nat×TruD)} {kn':List (Nat×Bool)}
theorem CallK.bad(h:CallK a since waits op key am sp le t id seq now kl kn to nx e a' since' waits' seq' now' kl' kn')(b:waits=false)(c:e≠0):xf op key am sp∧e=1∧a'=a∧waits'=waits∧seq'=seq:=by
  rcases h with⟨h|h,q⟩|h
  · rw[b]at h;cases h.1
  · exact⟨h.2.1,h.2.2,q.1,q.2.2.1,q.2.2.2.1⟩
  exact absurd h.2.e c
theorem CallK.ok0(h:CallK a since waits op key am sp le t id seq now kl kn to nx e a' since' waits' seq' now' kl' kn')(b:e=0):CallY op key am sp le t id seq now kl kn to nx e a' since' waits' seq' now' kl' kn':=by
  rcases h with⟨h|h,q⟩|h
  · have:=h.2;omega
  · have:=h.2.2;omega
  exact h.2
end
theorem zI4{x:AskD}{id:Int}{seq:Nat}:(zCg x id seq).look=x.look:=by unfold zCg;split<;>rfl
theorem zIR{op:Int}{key:ByteArray}{am sp:Int}{le:Nat}{id:Int}{seq:Nat}(h:¬ xf op key am sp):(zCg (zBu op key am sp le) id seq).ok:=by
  rw[zBn rfl]
  unfold AskD.ok
  rw[if_neg (by show ¬(false=true);decide)]
  have h1:(1≤op∧op≤5)∧key.size≤64:=by
    unfold xf at h
    omega
  exact⟨⟨h1,O⟩,O⟩
theorem _root_.Go.Sc.qY{p:Prop}(h:p:=by simp[Value.cells,CalD.cells,CmdD.cells,RepD.cells]):p:=h
theorem _root_.Go.Sc.qZ{p:Prop}(h:p:=by simp[cell1,CalD.cells,CmdD.cells,RepD.cells,vu]):p:=h
theorem zOZ{S:List Nat}(wb nb e1 e2 pb cb:Nat)(st:SetD)(nv dv ev km lv:Value)(k:Nat)(cv ov:Value)(es:List EntD)(cs:List CalD)(d:EgD)(c:CkD)(T:Int)(ps:PsD)(cm:CmdD)(w:World)(hc:CkA c T)(a1:cm.wf)(hs:d.seq≤1000)(ag:d.waits=false)(aa:ps.l=[])(hl:cs.length≤1000)(aq:d.next=1)(ar:Own w S [jr wb st nv dv ev pb cb (Vj k) cv ov lv km,Res.vec 53 1 ev [e1,e2].length ([e1,e2].flatMap P1),Res.vec 45 21 cv cs.length (cs.flatMap CalD.cells),vI ov [0,0],Res.eg e1 d,Res.ck cb c,Res.ps pb ps] w):Rets Tryz.prog 32 #[pt wb, .agg #[Vi 11,Vi 1,Vi 0,Vi 0,Vn 0,Vn 0,Vn cm.session,Vn cm.seq,Vi cm.op, .string cm.key,Vi cm.amount,Vi cm.span,Vn cm.lease]] w fun u_ n=>∃ (e:Int) (ah:Value) (d':EgD) (ab:PsD) (pv:Value) (a6:List CalD) (ac:List Int),u_=Vi e∧zCE d' d∧d'.next=d.next∧(AskN cm d cs e d' ab.l a6 ac∨AskY cm k d cs e d' pv ab.l a6 ac)∧Own w S [jr wb st nv dv ev pb cb (Vj k) ah ov lv km,Res.vec 53 1 ev [e1,e2].length ([e1,e2].flatMap P1),Res.vec 45 21 ah a6.length (a6.flatMap CalD.cells),vI ov ac,Res.eg e1 d',Res.ck cb c,Res.ps pb ab] n:=by
  refine zO Tryz.func32 O Tryz.ntmps32 ar (zB (zj O O (fun b3=>zG O (zA (zB (zC O (zI (o:=1) O O (zJ 7 (v:=Vi 1) O O O O (zH O O (fun n j=>(zIG wb nb e1 e2 pb cb st nv dv ev km lv k cv ov es 1 n O (j.give [0,1] O V)).mono ?_))))))))))
  rintro _ w1 ⟨rfl,hO⟩
  refine fq [0,1] O j hO (zG O (zA (zK (zB (zC O (yF qD O O O (zA (yT O (zN (zB (zC O (zI (o:=1) O O (zJ 5 (v:=Vi 1) O O O O (zFT O O (zH O O (fun n j=>(zEl wb nb e1 e2 pb cb st nv dv ev km lv k cv ov es _ _ (zB5 .i64 1) n hc (.inr (.inl O)) (j.give [6,3] O V)).mono ?_))))))))))))))))
  rintro _ w1 ⟨rfl,hO⟩
  refine fq [6,3] O j hO (zG O (zA (zK (zc [0,1,2,3,4,5,6,7] O V qD (fun n j h=>zD 0 O (zL (o:=1) O) h (zD 1 O (zZ 4 (v:=Vi 1) O O O) h (zD 2 O za h (zD 3 O (zX O) h (zD 4 O (zL (o:=15) O) h (zD 5 O (zZ 6 (v:=Vj k) O O O) h (zD 6 O (xU (cs:=[Vi 1,zu,zu,Vn 0,Vn 0,Vi 0,yh,Vi 0,Vi 0,Vn 0,yh,Vj k,Vi (-1),Vn 0,Vn 0,Vi 0,Vn 0,Vi 0,Vi 0,Vi 0,Vi 0]) (z:=[Vi 0,zu,zu,Vn 0,Vn 0,Vi 0,yh,Vi 0,Vi 0,Vn 0,yh,Vi 0,Vi 0,Vn 0,Vn 0,Vi 0,Vn 0,Vi 0,Vi 0,Vi 0,Vi 0]) (pl:=[(0,1),(1,1),(2,1),(3,7),(10,1),(11,1),(12,1),(13,6),(19,1),(20,1)]) qD qD) h (zM 7 O j (zk (v:= .agg #[Vi 0,zu,zu,Vn 0,Vn 0,Vi 0,yh,Vi 0,Vi 0,Vn 0,yh,Vi 0,Vi 0,Vn 0,Vn 0,Vi 0,Vn 0,Vi 0,Vi 0,Vi 0,Vi 0]) qD O (fun b7=>(zE [0,1,2,3,4,5,6,7] O V (fun n j h=>zM 8 O j (ze 8 O O O (z6 O) O (zE [0,1,2,3,4,5,6,7] O V (fun n j h=>zY ((?_:C _ _ _ _ _ _ _ (Own w S [_,_,_,_,_,_,_,_,_])) _ j))))))))))))))))))))
  refine zB (zG O (zA (zB (zG O (zA (zB (zG O (zA (zK (zB (zI (o:=0) O O (zJ 4 (v:=Vi 11) O O O O (zA (zU (zB (yR O O O (zG O (zA (zT O (fun c2=> ?_) (fun c2=> ?_))))))))))))))))))))
  ·exact absurd c2 V
  refine zB (yR O O O (zG O (zA (zT O (fun c3=> ?_) (fun c3=> ?_)))))
  ·exact absurd c3 V
  refine zB (yR O O O (zG O (zA (zT O (fun c4=> ?_) (fun c4=> ?_)))))
  ·exact absurd c4 V
  refine zd (zC O (zI (o:=6) O O (zI (o:=2) O O (zJ 4 (v:=Vi cm.op) O O O O (zI (o:=6) O O (zI (o:=3) O O (zJ 4 (v:= .string cm.key) O O O O (zI (o:=6) O O (zI (o:=4) O O (zJ 4 (v:=Vi cm.amount) O O O O (zI (o:=6) O O (zI (o:=5) O O (zJ 4 (v:=Vi cm.span) O O O O (zI (o:=6) O O (zI (o:=6) O O (zJ 4 (v:=Vn cm.lease) O O O O (zC O (zH O O (fun n j=>(zNE e1 _ cm.op cm.key cm.amount cm.span cm.lease (zCj c (zB5 .i64 1)) n a1.amount a1.span a1.lease qE (j.give [2] O V)).mono ?_)))))))))))))))))))
  rintro _ w1 ⟨u,a3,a4,a5,p,rfl,y,a2,r,s,hO⟩
  refine fq [2] O j hO (zC O (zb (vs:=[Vi u,a4,Vi a3]) O O O (zb (vs:=[Vi u,a4,Vi a3]) O O O (zb (vs:=[Vi u,a4,Vi a3]) O O O (zG O (zG O (zG O (zA (zK (zB (zC O (yd O O O (zA (zT O (fun c5=> ?_) (fun c5=> ?_)))))))))))))))
  ·have hN:=(y).bad ag c5
   refine zB (zC O (zG O (zA (zP (zn (v:=Vi a3) O O (fun n j=>⟨a3,cv,p,ps,zW,cs,[0,0],O,r,s, .inl ⟨hN.1,hN.2.1,hN.2.2.2.1.trans ag,hN.2.2.2.2,hN.2.2.1,aa,O,O⟩,j.sel [5,4,0,1,8,6,2] O V⟩))))))
  have hY:=(y).ok0 qE
  have ad:p.a.ok:=by rw[hY.a];exact zIR hY.good
  have ai:p.a.wf:=by rw[hY.a];exact zEX (zBD a1.key a1.amount a1.span a1.lease) qE
  have aj:p.a.look=false:=by rw[hY.a,zI4];rfl
  have a7:a5=p.a.enc:=(a2 hY.e).trans (if_pos ad)
  have a8:u=1:=hY.to.trans aq
  refine zN (zK (zB (zC O (zH O O (fun n j=>(zHg e1 p n (j.give [8] O V)).mono ?_)))))
  rintro _ w1 ⟨m,ak,rfl,a9,hO⟩
  have hy:m=p.a:=(a9).trans (if_pos hY.waits)
  refine(?_:CL _ _ _ _ _ _ (Own w S [_,_,_,_,_,_,_,_,_,_])) w1 (j.qi [8] O hO)
  refine zC O (zb (vs:=[.agg (AskD.cells m).toArray, .bool ak]) O O O (zb (vs:=[.agg (AskD.cells m).toArray, .bool ak]) O O O (zk (v:= .agg #[zu,zu,Vn 0,Vn 0,Vn 0,Vi 0,yh,Vi 0,Vi 0,Vn 0,yh]) qD O (fun av=>ze 10 O O O (z6 O) O (zG O (zA (zB (zI (o:=1) O O (zJ 7 (v:=zu) O O O O (xi (b:=false) O O (zA (x2 O (zd (zI (o:=3) O O (xC 10 (CmdD.cells m.cmd) O O (ye 3 O) qD O (zI (o:=3) O O (ze 7 O O O (z6 O) O (zA (zK (zc [1,2,3,4,6,7,8,9,10] O V qD (fun n j h=>zD 0 O za h (zD 1 O za h (zD 2 O (zX O) h (zD 3 O (zL (o:=16) O) h (zD 5 O (xB 5 O O) h (z2 4 6 ?_ ?_))))))))))))))))))))))))))
  ·refine zm 4 O j (zJ 5 (v:=cv) O O O O (zE [1,2,3,4,6,7,8,9,10] O V (fun n j h=>zM 6 O j (yC (e:=45) (sz:=21) (vs:=[.agg #[Vi 1,zu,zu,Vn m.cmd.session,Vn m.cmd.seq,Vi m.cmd.op, .string m.cmd.key,Vi m.cmd.amount,Vi m.cmd.span,Vn m.cmd.lease,yh,Vj k,Vi (-1),Vn 0,Vn 0,Vi 0,Vn 0,Vi 0,Vi 0,Vi 0,Vi 0]]) qD O O qY V O (fun al=>zE [1,2,3,4,6,7,8,9,10] O V (fun n j h=>zM 7 O j (yE (g:=CalD.cells) (sz:=21) (by':=176) (fun _=>O) (l:=cs) (l':=[({edge:=1,look:=false,lazy:=false,cmd:=m.cmd,key:=yEb,start:=((k:Nat):Int),stop:=(-1),reply:=({session:=0,seq:=0,e:=0,lease:=0,amount:=0,until_:=0}:RepD),cap:=0,lent:=0}:CalD)]) qZ 0 qD O O O (fun n ae=>Vec.sl (Own.holds ae 11 _ O)) qF V O (fun a0=>zE [1,2,3,4,6,7,8,9,10] O V (fun n j h=>zD 8 O (zX O) h (zD 9 O (zL (o:=16) O) h (zM 10 O j (zS (fun n j=>Own.qa (i:=0) O j) (fun am=>(zi 5 O O O am O (zE [1,2,3,4,6,7,8,9,10] O V (fun n j h=>zY ((?_:C _ _ _ _ _ _ _ (Own w S [_,_,_,_,_,_,_,_,_,_,_,_])) _ j)))))))))))))))))
   refine zK (zc [0,2,3,4,5,6,7,8,9,10,11] O V qD (fun n j h=>zD 0 O za h (zD 1 O (zX O) h (zD 2 O (zL (o:=17) O) h (zD 3 O (zZ 4 (v:=ov) O O O) h (zD 4 O (zL (o:=1) O) h (zD 5 O (zZ 2 (v:=Vi 1) O O O) h (zD 6 O (jO O O (zt qE)) h (zD 7 O za h (zD 8 O (zX O) h (zD 9 O (zL (o:=16) O) h (zD 10 O (zZ 4 (v:=a0) O O O) h (zD 11 O (kM (pV 0 O) O) h (zM 12 O j (yH (pV 1 O) 1 0 O O qE qH O (zE [0,2,3,4,5,6,7,8,9,10,11] O V (fun n j h=>zM 13 O j (zMH 1 0 (((cs++[({edge:=1,look:=false,lazy:=false,cmd:=m.cmd,key:=yEb,start:=((k:Nat):Int),stop:=(-1),reply:=({session:=0,seq:=0,e:=0,lease:=0,amount:=0,until_:=0}:RepD),cap:=0,lent:=0}:CalD)]).length:Nat):Int) O (fun _=>O) O qE O O O qH (zE [0,2,3,4,5,6,7,8,9,10,11] O V (fun n j h=>zY ((?_:C _ _ _ _ _ _ _ (Own w S [_,_,_,_,_,_,_,_,_,_,_,_])) _ j)))))))))))))))))))))
   refine zK (zc [0,1,3,4,5,6,7,8,9,10,11] O V qD (fun n j h=>zD 0 O za h (zD 1 O (zX O) h (zD 2 O (zL (o:=13) O) h (zD 3 O (zZ 4 (v:=pt pb) O O O) h (zD 4 O (zL (o:=1) O) h (zD 5 O (zZ 2 (v:=Vi 1) O O O) h (zD 6 O (zFU O) h (zD 7 O za h (zD 8 O za h (zM 9 O j (zH O O (fun n j=>((zES pb ps (zB5 .i64 1) u a4 a5 n aa (by rw[a7];exact zBN ai ad aj) (by rw[show zB5 .i64 1= -1 from rfl,a8];decide) (j.give [2] O V) (j.rdVec 8 O [2] O O)).mono ?_))))))))))))))
   rintro _ w1 ⟨an,au,rfl,x,hO⟩
   refine(?_:CL _ _ _ _ _ _ (Own w S [_,_,_,_,_,_,_,_,_,_,_,_])) w1 (j.qi [2] O hO)
   refine zE [0,1,2,3,4,5,6,7,8,9,10] O V (fun n j h=>zY ((?_:C _ _ _ _ _ _ _ (Own w S [_,_,_,_,_,_,_,_,_,_,_,_])) _ j))
   refine zB (zG O (zA (zP (zn (v:=Vi 0) O O (fun n j=>⟨0,a0,p,an,au,cs++[zDn p.a.cmd k],[(((cs++[zDn p.a.cmd k]).length:Nat):Int),0],O,r,s, .inr ⟨hY.good,O,hY.waits,hY.seq,hY.a,(by have q:=x;rw[a8,a7]at q;exact q),O,O⟩,(by subst hy;exact j.sel [4,3,0,1,8,5,11] rfl V)⟩)))))
  refine zm 6 O j (yC (e:=45) (sz:=21) (vs:=[.agg #[Vi 1,zu,zu,Vn m.cmd.session,Vn m.cmd.seq,Vi m.cmd.op, .string m.cmd.key,Vi m.cmd.amount,Vi m.cmd.span,Vn m.cmd.lease,yh,Vj k,Vi (-1),Vn 0,Vn 0,Vi 0,Vn 0,Vi 0,Vi 0,Vi 0,Vi 0]]) qD O O qY V O (fun al=>zE [1,2,3,4,6,7,8,9,10] O V (fun n j h=>zM 4 O j (zJ 5 (v:=cv) O O O O (zE [1,2,3,4,6,7,8,9,10] O V (fun n j h=>zM 7 O j (yE (g:=CalD.cells) (sz:=21) (by':=176) (fun _=>O) (l:=cs) (l':=[({edge:=1,look:=false,lazy:=false,cmd:=m.cmd,key:=yEb,start:=((k:Nat):Int),stop:=(-1),reply:=({session:=0,seq:=0,e:=0,lease:=0,amount:=0,until_:=0}:RepD),cap:=0,lent:=0}:CalD)]) qZ 0 qD O O O (fun n ae=>Vec.sl (Own.holds ae 11 _ O)) qF V O (fun a0=>zE [1,2,3,4,6,7,8,9,10] O V (fun n j h=>zD 8 O (zX O) h (zD 9 O (zL (o:=16) O) h (zM 10 O j (zS (fun n j=>Own.qa (i:=0) O j) (fun ao=>(zi 5 O O O ao O (zE [1,2,3,4,6,7,8,9,10] O V (fun n j h=>zY ((?_:C _ _ _ _ _ _ _ (Own w S [_,_,_,_,_,_,_,_,_,_,_,_])) _ j)))))))))))))))))
  refine zK (zc [0,2,3,4,5,6,7,8,9,10,11] O V qD (fun n j h=>zD 0 O za h (zD 1 O (zX O) h (zD 2 O (zL (o:=17) O) h (zD 3 O (zZ 4 (v:=ov) O O O) h (zD 4 O (zL (o:=1) O) h (zD 5 O (zZ 2 (v:=Vi 1) O O O) h (zD 6 O (jO O O (zt qE)) h (zD 7 O za h (zD 8 O (zX O) h (zD 9 O (zL (o:=16) O) h (zD 10 O (zZ 4 (v:=a0) O O O) h (zD 11 O (kM (pV 0 O) O) h (zM 12 O j (yH (pV 1 O) 1 0 O O qE qH O (zE [0,2,3,4,5,6,7,8,9,10,11] O V (fun n j h=>zM 13 O j (zMH 1 0 (((cs++[({edge:=1,look:=false,lazy:=false,cmd:=m.cmd,key:=yEb,start:=((k:Nat):Int),stop:=(-1),reply:=({session:=0,seq:=0,e:=0,lease:=0,amount:=0,until_:=0}:RepD),cap:=0,lent:=0}:CalD)]).length:Nat):Int) O (fun _=>O) O qE O O O qH (zE [0,2,3,4,5,6,7,8,9,10,11] O V (fun n j h=>zY ((?_:C _ _ _ _ _ _ _ (Own w S [_,_,_,_,_,_,_,_,_,_,_,_])) _ j)))))))))))))))))))))
  refine zK (zc [0,1,3,4,5,6,7,8,9,10,11] O V qD (fun n j h=>zD 0 O za h (zD 1 O (zX O) h (zD 2 O (zL (o:=13) O) h (zD 3 O (zZ 4 (v:=pt pb) O O O) h (zD 4 O (zL (o:=1) O) h (zD 5 O (zZ 2 (v:=Vi 1) O O O) h (zD 6 O (zFU O) h (zD 7 O za h (zD 8 O za h (zM 9 O j (zH O O (fun n j=>((zES pb ps (zB5 .i64 1) u a4 a5 n aa (by rw[a7];exact zBN ai ad aj) (by rw[show zB5 .i64 1= -1 from rfl,a8];decide) (j.give [2] O V) (j.rdVec 8 O [2] O O)).mono ?_))))))))))))))
  rintro _ w1 ⟨af,ap,rfl,x,hO⟩
  refine fq [2] O j hO (zE [0,1,2,3,4,5,6,7,8,9,10] O V (fun n j h=>zY ((?_:C _ _ _ _ _ _ _ (Own w S [_,_,_,_,_,_,_,_,_,_,_,_])) _ j)))
  refine zB (zG O (zA (zP (zn (v:=Vi 0) O O (fun n j=>⟨0,a0,p,af,ap,cs++[zDn p.a.cmd k],[(((cs++[zDn p.a.cmd k]).length:Nat):Int),0],O,r,s, .inr ⟨hY.good,O,hY.waits,hY.seq,hY.a,(by have q:=x;rw[a8,a7]at q;exact q),O,O⟩,(by subst hy;exact j.sel [4,3,0,1,8,5,11] rfl V)⟩)))))
end Go.Proofs.YtmpaljnacfidaaaGreatDoor
