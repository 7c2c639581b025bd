import Derived.Test.YtkkeknmkipkbmaaGreatCoG
set_option linter.unusedSectionVars false
set_option linter.unusedSimpArgs false
set_option linter.unusedVariables false
set_option maxRecDepth 10000
namespace Go.Proofs.YtkkeknmkipkbmaaGreat
open Go Go.Sc Go.Proofs
def yY(f:PeerM→PeerM)(ps:List PeerP)(k:Nat):List PeerP:=(ps.take k).map (fun q=>(q.1,f q.2))++ps.drop k
theorem zDm{f:PeerM→PeerM}{ps:List PeerP}:yY f ps 0=ps:=by simp[yY]
theorem zDI{f:PeerM→PeerM}{ps:List PeerP}{k:Nat}(h:ps.length≤k):yY f ps k=ps.map fun q=>(q.1,f q.2):=by
  unfold yY;rw[List.take_of_length_le h,List.drop_of_length_le h,List.append_nil]
theorem zCT{f:PeerM→PeerM}{ps:List PeerP}{k:Nat}:(yY f ps k).length=ps.length:=by
  unfold yY;rw[List.length_append,List.length_map,List.length_take,List.length_drop];omega
theorem kL{f:PeerM→PeerM}{ps:List PeerP}{k:Nat}(h:k<ps.length):zG (yY f ps k) k=zG ps k:=by
  refine xI ?_
  unfold yY
  rw[List.getElem?_append_right (by rw[List.length_map,List.length_take];omega),List.length_map,List.length_take,List.getElem?_drop,show k+(k - min k ps.length)=k by omega]
  exact xA h
theorem zFo{f:PeerM→PeerM}{ps:List PeerP}{k:Nat}(h:k<ps.length):zx (yY f ps k) k (f (zG ps k).2)=yY f ps (k+1):=by
  unfold zx
  rw[kL h]
  unfold yY
  have hl:((ps.take k).map fun q=>(q.1,f q.2)).length=k:=by rw[List.length_map,List.length_take];omega
  rw[List.set_append_right _ _ (by rw[hl];exact Nat.le_refl _),hl,Nat.sub_self,zA6 h,List.set_cons_zero,zt h,List.map_append,List.append_assoc]
  rfl
def k8(g:PeerM→List MsgA)(ps:List PeerP):List MsgA:=ps.flatMap fun q=>g q.2
theorem zBU{g:PeerM→List MsgA}{ps:List PeerP}{k:Nat}(h:k<ps.length):k8 g (ps.take (k+1))=k8 g (ps.take k)++g (zG ps k).2:=by
  unfold k8;rw[zt h,List.flatMap_append];simp
theorem zD2{a:StA}{term qc qf:Nat}{es:List EntA}{p:PeerM}{force:Bool}:(y9 a term qc qf es p force).length≤1:=by unfold y9;split<;>simp
theorem zHj{g:PeerM→List MsgA}(hg:∀ p,(g p).length≤1){ps:List PeerP}:(k8 g ps).length≤ps.length:=by
  unfold k8
  induction ps with
  |nil=>simp
  |cons q ps ih=>rw[List.flatMap_cons,List.length_append,List.length_cons];have:=hg q.2;omega
theorem zDp{S:List Nat}(cb jb:Nat)(t:TimD)(a:StA)(r:RolD)(b:StB)(yv:Value)(qd:Nat)(lv:Value)(es:List EntD)(ld:Nat)(l:LdD)(ob:Nat)(o:OutD)(w:World)(hg:(LG 0 0 es).good)(hl:es.length≤1000000)(hvl:b.vs.length≤12)(hpl:l.qa.length≤1000)(ho:o.qk.length≤1000)(hp:∀ p∈l.qa,p.2.bd 1000000)(hr:l.qf.length≤1000000)(hin:Own w S [z3 cb t (pt ld) a r b yv jb qd (pt ob),Res.nl b lv es,Res.ld ld l,Res.ou ob o] w):Rets Tryz.prog 42 #[pt cb] w fun u_ w'=>∃ (mv':Value) (ms:List MsgD),u_= .tuple #[]∧ms.map MsgD.a=k8 (fun p=>y9 a t.term r.qc l.qf.length (es.map EntD.toEntA) p false) l.qa∧Own w S [z3 cb t (pt ld) a r b yv jb qd (pt ob),Res.nl b lv es,Res.ld ld ({l with qa:=l.qa.map fun q=>(q.1,yj (es.map EntD.toEntA) q.2)}:LdD),Res.ou ob ({o with mv:=mv',qk:=o.qk++ms}:OutD)] w':=by
  refine zW Tryz.func42 O Tryz.ntmps42 hin ?_
  refine zB (zD O (zb O O (zJ (o:=9) O O (zL 0 (v:=pt ld) O O O O (zb O O (zJ (o:=0) O O (yA (v:=l.pv) 2 0 0 O O O O qM O (zq (pC 2 1 O O) O O (zD O (zA (zX ?_)))))))))))
  refine xi (fun(k:Nat) (mv':Value) (ms:List MsgD)=>[(0,pt cb),(10,l.pv),(11,Vj l.qa.length),(12,Vj k)]) (fun(k:Nat) (mv':Value) (ms:List MsgD)=>k≤l.qa.length∧ms.map MsgD.a=k8 (fun p=>y9 a t.term r.qc l.qf.length (es.map EntD.toEntA) p false) (l.qa.take k)) (fun(k:Nat) (mv':Value) (ms:List MsgD)=>[z3 cb t (pt ld) a r b yv jb qd (pt ob),Res.nl b lv es,Res.ld ld ({l with qa:=yY (yj (es.map EntD.toEntA)) l.qa k}:LdD),Res.ou ob ({o with mv:=mv',qk:=o.qk++ms}:OutD)]) (fun(k:Nat) (mv':Value) (ms:List MsgD)=>l.qa.length - k) (fun w' hw=>⟨0,o.mv,[],⟨O,O,O,O,trivial⟩,⟨Nat.zero_le _,O⟩,(by rw[List.append_nil,zDm];exact hw)⟩) (fun k mv' ms g hΦ=> ?_)
  have hkl:=hΦ.1
  have hml:ms.length≤l.qa.length:=by have h1:=congrArg List.length hΦ.2;rw[List.length_map]at h1;have h2:=zHj (g:=fun p=>y9 a t.term r.qc l.qf.length (es.map EntD.toEntA) p false) (fun p=>zD2) (ps:=l.qa.take k);rw[List.length_take]at h2;omega
  have hpl2:=zCT (f:=yj (es.map EntD.toEntA)) (ps:=l.qa) (k:=k)
  refine zB (yH O O O (zA (zN (zY O (fun c1=> ?_) (fun c1=> ?_)))))
  ·refine zO (zN (zX (zB (zh (pC 2 1 O O) 1 k O O O (by show k<(yY (yj (es.map EntD.toEntA)) l.qa k).length;omega) O (yF (pC 2 1 O O) 1 k 0 (fun _=>O) O O (by show k<(yY (yj (es.map EntD.toEntA)) l.qa k).length;omega) O O (zI O (zA (zR (zD O (zD O (a_call O O (fun w' hw=>(zBX cb jb t a r b yv qd _ _ ld ({l with qa:=yY (yj (es.map EntD.toEntA)) l.qa k}:LdD) ob ({o with mv:=mv',qk:=o.qk++ms}:OutD) k false w' ‹_› qN qN (by show k<(yY (yj (es.map EntD.toEntA)) l.qa k).length;omega) (by show(o.qk++ms).length≤_;rw[List.length_append];omega) (by show(zG (yY (yj (es.map EntD.toEntA)) l.qa k) k).2.bd _;rw[kL V];exact hp _ (zd V)) qO (hw.give [0,1,2,3] O qL)).mono ?_))))))))))))
   rintro _ w1 ⟨mv'1_,ms2_,rfl,hf3_2,hO⟩
   refine O4 ?_ (hw.qg [0,1,2,3] O hO)
   refine zA (zR (zr O O (zu V) O (zD O ?_)))
   exact ze (fun w' hw=>⟨k+1,mv'1_,ms++ms2_,⟨O,O,O,O,trivial⟩,⟨by omega,by rw[List.map_append,hΦ.2,hf3_2,zBU V,kL V]⟩,(by rw[←zFo (f:=yj (es.map EntD.toEntA)) (ps:=l.qa) (k:=k) V,←kL (f:=yj (es.map EntD.toEntA)) (ps:=l.qa) (k:=k) V,←List.append_assoc o.qk];exact hw),V⟩)
  exact kX O (yJ O (fun w' hw=>⟨mv',ms,O,(by rw[hΦ.2,List.take_of_length_le V]),(by rw[zDI V]at hw;exact hw)⟩))
def xX(p:PeerM):PeerM:={(if p.told=true then p else{p with opn:=false,next:=p.qy+1,qv:=0,asked:=false})with told:=false}
def yC(E:List EntA)(p:PeerM):PeerM:=yj E (xX p)
def jp(a:StA)(term qc qf:Nat)(E:List EntA)(p:PeerM):List MsgA:=y9 a term qc qf E (xX p) true
theorem zKc{p:PeerM}(h:(!p.told)=true):xX p={p with opn:=false,next:=p.qy+1,qv:=0,asked:=false,told:=false}:=by unfold xX;rw[if_neg (by simpa using h)]
theorem zK2{p:PeerM}(h:(!p.told)=false):xX p={p with told:=false}:=by unfold xX;rw[if_pos (by simpa using h)]
theorem zDu{p:PeerM}{n:Nat}(h:p.bd n):(xX p).bd n:=by
  unfold xX
  have h1:=h.qy
  split
  · exact⟨h.next,h.qy,h.qv⟩
  exact⟨⟨by show 1≤p.qy+1;omega,by show p.qy+1≤n+1;omega⟩,h.qy,⟨Int.le_refl 0,by show(0:Int)≤4;omega⟩⟩
theorem zBQ{ps:List PeerP}{k:Nat}{q:PeerM}(h:k<ps.length):zG (zx ps k q) k=((zG ps k).1,q):=xI (List.getElem?_set_self h)
theorem y8{ps:List PeerP}{k:Nat}{q:PeerM}(h:k<ps.length):(zG (zx ps k q) k).2=q:=by rw[zBQ h]
theorem kG{ps:List PeerP}{k:Nat}{q:PeerM}(h:k<ps.length):(zG (zx ps k q) k).1=(zG ps k).1:=by rw[zBQ h]
theorem jW{ps:List PeerP}{k:Nat}{q q':PeerM}(h:k<ps.length):zx (zx ps k q) k q'=zx ps k q':=by
  have h1:=zBQ (q:=q) h
  show(zx ps k q).set k ((zG (zx ps k q) k).1,q')=_
  rw[h1]
  show(ps.set k _).set k _=ps.set k _
  rw[List.set_set]
theorem zD0{E:List EntA}{ps:List PeerP}{k:Nat}{q:PeerM}(h:k<ps.length)(hq:q=xX (zG (yY (yC E) ps k) k).2):zx (zx (yY (yC E) ps k) k q) k (yj E (zG (zx (yY (yC E) ps k) k q) k).2)=yY (yC E) ps (k+1):=by
  have hl:k<(yY (yC E) ps k).length:=by rw[zCT];exact h
  rw[jW hl,y8 hl,hq,kL h,←zFo h];rfl
theorem zKU{S:List Nat}(cb jb:Nat)(t:TimD)(a:StA)(r:RolD)(b:StB)(yv:Value)(qd:Nat)(lv:Value)(es:List EntD)(ld:Nat)(l:LdD)(ob:Nat)(o:OutD)(w:World)(hg:(LG 0 0 es).good)(hl:es.length≤1000000)(hvl:b.vs.length≤12)(hpl:l.qa.length≤1000)(ho:o.qk.length≤1000)(hp:∀ p∈l.qa,p.2.bd 1000000)(hr:l.qf.length≤900000)(hin:Own w S [z3 cb t (pt ld) a r b yv jb qd (pt ob),Res.nl b lv es,Res.ld ld l,Res.ou ob o] w):Rets Tryz.prog 46 #[pt cb] w fun u_ w'=>∃ (mv' rv':Value) (ms:List MsgD),u_= .tuple #[]∧ms.map MsgD.a=k8 (jp a t.term r.qc (l.qf.length+1) (es.map EntD.toEntA)) l.qa∧Own w S [z3 cb ({t with qC:=t.now}:TimD) (pt ld) a r b yv jb qd (pt ob),Res.nl b lv es,Res.ld ld ({l with qa:=l.qa.map fun q=>(q.1,yC (es.map EntD.toEntA) q.2),rv:=rv',qf:=l.qf++[t.now],sure:=if(zc b.vs (es.map EntD.toEntA)).qu [a.id]then l.qf.length+1 else l.sure}:LdD),Res.ou ob ({o with mv:=mv',qk:=o.qk++ms}:OutD)] w':=by
  refine zW Tryz.func46 O Tryz.ntmps46 hin ?_
  refine zB (zD O (zD O (zb O O (zJ (o:=2) O O (zJ (o:=0) O O (zL 0 (v:=Vi t.now) O O O O (zb O O (zJ (o:=2) O O (zJ (o:=3) O O (zn 0 O O O O O (zA (yu (fun(rv':Value)=>[(0,pt cb)]) (fun(rv':Value)=>True) (fun(rv':Value)=>[z3 cb ({t with qC:=t.now}:TimD) (pt ld) a r b yv jb qd (pt ob),Res.nl b lv es,Res.ld ld ({l with rv:=rv',qf:=l.qf++[t.now]}:LdD),Res.ou ob o]) ?_ (fun rv' g hΦ=> ?_)))))))))))))
  ·refine zi [0,1,3] O qL qM (fun w' hw hS=>zC 0 O zU hS (zC 1 O (zQ O) hS (zC 2 O (zH (o:=9) O) hS (zC 3 O (za 0 (v:=pt ld) O O O) hS (zC 4 O zU hS (zC 5 O (zQ O) hS (zC 6 O (zH (o:=9) O) hS (zC 7 O (za 0 (v:=pt ld) O O O) hS (zC 8 O (zQ O) hS (zC 9 O (zH (o:=2) O) hS (zC 11 O zU hS (zC 12 O (zQ O) hS ?_))))))))))))
   refine zC 13 O (zH (o:=2) O) hS (zC 14 O (zH (o:=0) O) hS (zC 15 O (za 0 (v:=Vi t.now) O O O) hS (zw 10 16 ?_ ?_)))
   ·refine zm 10 O hw (yA (v:=l.rv) 2 0 2 O O O O qM O (zE [0,1,3] O qL (fun w' hw hS=>zK 16 O hw (zy (e:=2) (sz:=1) (vs:=[Vi t.now]) qM O O qQ qL O (fun b29=>zE [0,1,3] O qL (fun w' hw hS=>zK 17 O hw ?_))))))
    refine z2 [z3 cb ({t with qC:=t.now}:TimD) (pt ld) a r b yv jb qd (pt ob),Res.nl b lv es,Res.ou ob o,vT (.slice (some ⟨b29,0,none⟩) 1 1) [t.now],yL ld l,vP l.pv l.qa,sP l.qa,vI l.av l.qe,vT l.rv l.qf,vL l.kv l.qj] (fun w' hw=>hw.qn 2 O) ?_
    refine z8 (g:=I1) (sz:=1) (by':=8) (fun _=>O) (l:=l.qf) (l':=[t.now]) qU 8 qM O O O (fun w' hw'=>Vec.sl (Own.holds hw' 3 _ O)) qN qL O (fun v30=>zE [0,1,2] O qL (fun w' hw hS=>zC 18 O (zQ O) hS (zC 19 O (zH (o:=2) O) hS (zK 20 O hw ?_))))
    refine zP (fun w' hw=>Own.qh (i:=8) O hw) (fun hc1_=> ?_)
    refine zn (cs:=(LdD.cells l)) 4 O O O hc1_ O (zE [0,1,2] O qL (fun w' hw hS=>zV ?_))
    exact⟨v30,⟨O,trivial⟩,trivial,(hw.qo [4,5,6,7,8,9] O qL).sel [0,1,4,2] O qL⟩
   refine zm 16 O hw (zy (e:=2) (sz:=1) (vs:=[Vi t.now]) qM O O qQ qL O (fun b29=>zE [0,1,3] O qL (fun w' hw hS=>zK 10 O hw (yA (v:=l.rv) 2 0 2 O O O O qM O (zE [0,1,3] O qL (fun w' hw hS=>zK 17 O hw ?_))))))
   refine z2 [z3 cb ({t with qC:=t.now}:TimD) (pt ld) a r b yv jb qd (pt ob),Res.nl b lv es,Res.ou ob o,vT (.slice (some ⟨b29,0,none⟩) 1 1) [t.now],yL ld l,vP l.pv l.qa,sP l.qa,vI l.av l.qe,vT l.rv l.qf,vL l.kv l.qj] (fun w' hw=>hw.qn 2 O) ?_
   refine z8 (g:=I1) (sz:=1) (by':=8) (fun _=>O) (l:=l.qf) (l':=[t.now]) qU 8 qM O O O (fun w' hw'=>Vec.sl (Own.holds hw' 3 _ O)) qN qL O (fun v30=>zE [0,1,2] O qL (fun w' hw hS=>zC 18 O (zQ O) hS (zC 19 O (zH (o:=2) O) hS (zK 20 O hw ?_))))
   refine zP (fun w' hw=>Own.qh (i:=8) O hw) (fun hc2_=> ?_)
   refine zn (cs:=(LdD.cells l)) 4 O O O hc2_ O (zE [0,1,2] O qL (fun w' hw hS=>zV ?_))
   exact⟨v30,⟨O,trivial⟩,trivial,(hw.qo [4,5,6,7,8,9] O qL).sel [0,1,4,2] O qL⟩
  refine zN (zB (zD O (zb O O (zJ (o:=9) O O (zL 0 (v:=pt ld) O O O O (zb O O (zJ (o:=0) O O (yA (v:=l.pv) 2 0 0 O O O O qM O (zq (pC 2 1 O O) O O (zD O (zA (zX ?_))))))))))))
  refine xi (fun(k:Nat) (mv':Value) (ms:List MsgD)=>[(0,pt cb),(39,l.pv),(40,Vj l.qa.length),(41,Vj k)]) (fun(k:Nat) (mv':Value) (ms:List MsgD)=>k≤l.qa.length∧ms.map MsgD.a=k8 (jp a t.term r.qc (l.qf.length+1) (es.map EntD.toEntA)) (l.qa.take k)) (fun(k:Nat) (mv':Value) (ms:List MsgD)=>[z3 cb ({t with qC:=t.now}:TimD) (pt ld) a r b yv jb qd (pt ob),Res.nl b lv es,Res.ld ld ({l with qa:=yY (yC (es.map EntD.toEntA)) l.qa k,rv:=rv',qf:=l.qf++[t.now]}:LdD),Res.ou ob ({o with mv:=mv',qk:=o.qk++ms}:OutD)]) (fun(k:Nat) (mv':Value) (ms:List MsgD)=>l.qa.length - k) (fun w' hw=>⟨0,o.mv,[],⟨O,O,O,O,trivial⟩,⟨Nat.zero_le _,O⟩,(by rw[List.append_nil,zDm];exact hw)⟩) (fun k mv' ms g hΦ=> ?_)
  have hkl:=hΦ.1
  have hml:ms.length≤l.qa.length:=by have h1:=congrArg List.length hΦ.2;rw[List.length_map]at h1;have h2:=zHj (g:=jp a t.term r.qc (l.qf.length+1) (es.map EntD.toEntA)) (fun p=>zD2) (ps:=l.qa.take k);rw[List.length_take]at h2;omega
  have hpl2:=zCT (f:=yC (es.map EntD.toEntA)) (ps:=l.qa) (k:=k)
  have hms:=hΦ.2
  refine zB (yH O O O (zA (zN (zY O (fun c1=> ?_) (fun c1=> ?_)))))
  ·have hbd:(zG (yY (yC (es.map EntD.toEntA)) l.qa k) k).2.bd 1000000:=by rw[kL V];exact hp _ (zd V)
   have hmt:=hbd.qy
   refine zO (zN (zX (zB (zh (pC 2 1 O O) 1 k O O O (by show k<(yY (yC (es.map EntD.toEntA)) l.qa k).length;omega) O (yF (pC 2 1 O O) 1 k 0 (fun _=>O) O O (by show k<(yY (yC (es.map EntD.toEntA)) l.qa k).length;omega) O O (zI O (zA (zN (zB (zD O (zb O O (zJ (o:=7) O O ?_))))))))))))
   refine xx (l:=(yY (yC (es.map EntD.toEntA)) l.qa k)) 2 2 k 7 O O qS O O O qM O (zG2 (b:=((zG (yY (yC (es.map EntD.toEntA)) l.qa k) k).2).told) O O (zA (zAc O (fun c2=> ?_) (fun c2=> ?_))))
   ·refine zR (zD O (zD O (zD O (zD O (zD O (zb O O (zJ (o:=2) O O (xx (l:=(yY (yC (es.map EntD.toEntA)) l.qa k)) 2 2 k 2 O O qS O O O qM O (zr O O (xN V) O (zb O O (zJ (o:=6) O O ?_)))))))))))
    refine z2 [z3 cb ({t with qC:=t.now}:TimD) (pt ld) a r b yv jb qd (pt ob),Res.nl b lv es,Res.ou ob ({o with mv:=mv',qk:=o.qk++ms}:OutD),yL ld ({l with qa:=yY (yC (es.map EntD.toEntA)) l.qa k,rv:=rv',qf:=l.qf++[t.now]}:LdD),vP l.pv (yY (yC (es.map EntD.toEntA)) l.qa k),sP (yY (yC (es.map EntD.toEntA)) l.qa k),vI l.av l.qe,vT rv' (l.qf++[t.now]),vL l.kv l.qj] (fun w' hw=>hw.qn 2 O) ?_
    refine z2 [z3 cb ({t with qC:=t.now}:TimD) (pt ld) a r b yv jb qd (pt ob),Res.nl b lv es,Res.ou ob ({o with mv:=mv',qk:=o.qk++ms}:OutD),yL ld ({l with qa:=yY (yC (es.map EntD.toEntA)) l.qa k,rv:=rv',qf:=l.qf++[t.now]}:LdD),vP l.pv (yY (yC (es.map EntD.toEntA)) l.qa k),vI l.av l.qe,vT rv' (l.qf++[t.now]),vL l.kv l.qj,x0 ((zG (yY (yC (es.map EntD.toEntA)) l.qa k) k).1) ((zG (yY (yC (es.map EntD.toEntA)) l.qa k) k).2),sP ((yY (yC (es.map EntD.toEntA)) l.qa k).eraseIdx k)] (fun w' hw=>hw.qH (g:=PeerP.dres) (l:=(yY (yC (es.map EntD.toEntA)) l.qa k)) 5 k qS O) ?_
    refine zn 8 O O O O O (zb O O (zJ (o:=1) O O (zn 8 O O O O O (zb O O (zJ (o:=4) O O (zn 8 O O O O O (zb O O (zJ (o:=8) O O (zn 8 O O O O O (zA (jw (fun(q:PeerM) (pb:Nat)=>[(0,pt cb),(3,pt pb),(39,l.pv),(40,Vj l.qa.length),(41,Vj k)]) (fun(q:PeerM) (pb:Nat)=>q=xX (zG (yY (yC (es.map EntD.toEntA)) l.qa k) k).2∧pb=(zG (zx (yY (yC (es.map EntD.toEntA)) l.qa k) k q) k).1) (fun(q:PeerM) (pb:Nat)=>[z3 cb ({t with qC:=t.now}:TimD) (pt ld) a r b yv jb qd (pt ob),Res.nl b lv es,Res.ld ld ({l with qa:=zx (yY (yC (es.map EntD.toEntA)) l.qa k) k q,rv:=rv',qf:=l.qf++[t.now]}:LdD),Res.ou ob ({o with mv:=mv',qk:=o.qk++ms}:OutD)]) ?_ (fun q pb g hΦ=> ?_))))))))))))
    ·refine zR (zD O (zb O O (zJ (o:=7) O O (zn 8 O O O O O ?_))))
     exact ze (fun w' hw=>⟨({(zG (yY (yC (es.map EntD.toEntA)) l.qa k) k).2 with opn:=false,next:=(zG (yY (yC (es.map EntD.toEntA)) l.qa k) k).2.qy+1,qv:=0,asked:=false,told:=false}:PeerM),(zG (yY (yC (es.map EntD.toEntA)) l.qa k) k).1,⟨O,O,O,O,O,trivial⟩,⟨(zKc c2).symm,(kG V).symm⟩,((hw.peerIn 8 9 4 k ({id:=((zG (yY (yC (es.map EntD.toEntA)) l.qa k) k).2).id,next:=(((zG (yY (yC (es.map EntD.toEntA)) l.qa k) k).2).qy)+1,qy:=((zG (yY (yC (es.map EntD.toEntA)) l.qa k) k).2).qy,round:=((zG (yY (yC (es.map EntD.toEntA)) l.qa k) k).2).round,qv:=0,off:=((zG (yY (yC (es.map EntD.toEntA)) l.qa k) k).2).off,opn:=false,told:=false,asked:=false}:PeerM) qS qL O O O).qo [3,7,8,4,5,6] O qL).sel [0,1,3,2] O qL⟩)
    obtain⟨hq,rfl⟩:=hΦ
    refine zR (zD O (zD O (a_call O O (fun w' hw=>(zBX cb jb ({t with qC:=t.now}:TimD) a r b yv qd _ _ ld ({l with qa:=zx (yY (yC (es.map EntD.toEntA)) l.qa k) k q,rv:=rv',qf:=l.qf++[t.now]}:LdD) ob ({o with mv:=mv',qk:=o.qk++ms}:OutD) k true w' ‹_› qN qN (by show k<(zx (yY (yC (es.map EntD.toEntA)) l.qa k) k q).length;rw[y4];omega) (by show(o.qk++ms).length≤_;rw[List.length_append];omega) (by show(zG (zx (yY (yC (es.map EntD.toEntA)) l.qa k) k q) k).2.bd _;rw[y8 V,hq];exact zDu hbd) (by show(l.qf++[t.now]).length≤_;rw[List.length_append];simp;omega) (hw.give [0,1,2,3] O qL)).mono ?_))))
    rintro _ w1 ⟨mv'1_,ms2_,rfl,hf8_2,hO⟩
    refine O4 ?_ (hw.qg [0,1,2,3] O hO)
    refine zA (zR (zr O O (zu V) O (zD O ?_)))
    exact ze (fun w' hw=>⟨k+1,mv'1_,ms++ms2_,⟨O,O,O,O,trivial⟩,⟨by omega,by rw[List.map_append,hms,hf8_2,zBU V,y8 V,hq,kL V,List.length_append];rfl⟩,(by rw[←zD0 V hq,←List.append_assoc o.qk];exact hw),V⟩)
   refine zO (jw (fun(q:PeerM) (pb:Nat)=>[(0,pt cb),(3,pt pb),(39,l.pv),(40,Vj l.qa.length),(41,Vj k)]) (fun(q:PeerM) (pb:Nat)=>q=xX (zG (yY (yC (es.map EntD.toEntA)) l.qa k) k).2∧pb=(zG (zx (yY (yC (es.map EntD.toEntA)) l.qa k) k q) k).1) (fun(q:PeerM) (pb:Nat)=>[z3 cb ({t with qC:=t.now}:TimD) (pt ld) a r b yv jb qd (pt ob),Res.nl b lv es,Res.ld ld ({l with qa:=zx (yY (yC (es.map EntD.toEntA)) l.qa k) k q,rv:=rv',qf:=l.qf++[t.now]}:LdD),Res.ou ob ({o with mv:=mv',qk:=o.qk++ms}:OutD)]) ?_ (fun q pb g hΦ=> ?_))
   ·refine zR (zD O (zb O O (zJ (o:=7) O O ?_)))
    refine z2 [z3 cb ({t with qC:=t.now}:TimD) (pt ld) a r b yv jb qd (pt ob),Res.nl b lv es,Res.ou ob ({o with mv:=mv',qk:=o.qk++ms}:OutD),yL ld ({l with qa:=yY (yC (es.map EntD.toEntA)) l.qa k,rv:=rv',qf:=l.qf++[t.now]}:LdD),vP l.pv (yY (yC (es.map EntD.toEntA)) l.qa k),sP (yY (yC (es.map EntD.toEntA)) l.qa k),vI l.av l.qe,vT rv' (l.qf++[t.now]),vL l.kv l.qj] (fun w' hw=>hw.qn 2 O) ?_
    refine z2 [z3 cb ({t with qC:=t.now}:TimD) (pt ld) a r b yv jb qd (pt ob),Res.nl b lv es,Res.ou ob ({o with mv:=mv',qk:=o.qk++ms}:OutD),yL ld ({l with qa:=yY (yC (es.map EntD.toEntA)) l.qa k,rv:=rv',qf:=l.qf++[t.now]}:LdD),vP l.pv (yY (yC (es.map EntD.toEntA)) l.qa k),vI l.av l.qe,vT rv' (l.qf++[t.now]),vL l.kv l.qj,x0 ((zG (yY (yC (es.map EntD.toEntA)) l.qa k) k).1) ((zG (yY (yC (es.map EntD.toEntA)) l.qa k) k).2),sP ((yY (yC (es.map EntD.toEntA)) l.qa k).eraseIdx k)] (fun w' hw=>hw.qH (g:=PeerP.dres) (l:=(yY (yC (es.map EntD.toEntA)) l.qa k)) 5 k qS O) ?_
    refine zn 8 O O O O O ?_
    exact ze (fun w' hw=>⟨({(zG (yY (yC (es.map EntD.toEntA)) l.qa k) k).2 with told:=false}:PeerM),(zG (yY (yC (es.map EntD.toEntA)) l.qa k) k).1,⟨O,O,O,O,O,trivial⟩,⟨(zK2 c2).symm,(kG V).symm⟩,((hw.peerIn 8 9 4 k ({((zG (yY (yC (es.map EntD.toEntA)) l.qa k) k).2)with told:=false}:PeerM) qS qL O O O).qo [3,7,8,4,5,6] O qL).sel [0,1,3,2] O qL⟩)
   obtain⟨hq,rfl⟩:=hΦ
   refine zR (zD O (zD O (a_call O O (fun w' hw=>(zBX cb jb ({t with qC:=t.now}:TimD) a r b yv qd _ _ ld ({l with qa:=zx (yY (yC (es.map EntD.toEntA)) l.qa k) k q,rv:=rv',qf:=l.qf++[t.now]}:LdD) ob ({o with mv:=mv',qk:=o.qk++ms}:OutD) k true w' ‹_› qN qN (by show k<(zx (yY (yC (es.map EntD.toEntA)) l.qa k) k q).length;rw[y4];omega) (by show(o.qk++ms).length≤_;rw[List.length_append];omega) (by show(zG (zx (yY (yC (es.map EntD.toEntA)) l.qa k) k q) k).2.bd _;rw[y8 V,hq];exact zDu hbd) (by show(l.qf++[t.now]).length≤_;rw[List.length_append];simp;omega) (hw.give [0,1,2,3] O qL)).mono ?_))))
   rintro _ w1 ⟨mv'3_,ms4_,rfl,hf8_2,hO⟩
   refine O4 ?_ (hw.qg [0,1,2,3] O hO)
   refine zA (zR (zr O O (zu V) O (zD O ?_)))
   exact ze (fun w' hw=>⟨k+1,mv'3_,ms++ms4_,⟨O,O,O,O,trivial⟩,⟨by omega,by rw[List.map_append,hms,hf8_2,zBU V,y8 V,hq,kL V,List.length_append];rfl⟩,(by rw[←zD0 V hq,←List.append_assoc o.qk];exact hw),V⟩)
  refine yB O (zB (zD O (a_call O O (fun w' hw=>(zCH cb jb ({t with qC:=t.now}:TimD) a r b (pt ld) yv (pt ob) qd _ _ w' ‹_› qN qN (hw.give [0,1] O qL)).mono ?_))))
  rintro _ w1 ⟨rfl,hO⟩
  refine O4 ?_ (hw.qg [0,1] O hO)
  refine zA (zY O (fun c3=> ?_) (fun c3=> ?_))
  ·refine zi [1,2,3] O qL qM (fun w' hw hS=>zC 0 O zU hS (zC 1 O (zQ O) hS (zC 2 O (zH (o:=9) O) hS (zC 3 O (za 1 (v:=pt ld) O O O) hS (zC 4 O zU hS (zC 5 O (zQ O) hS (zC 6 O (zH (o:=9) O) hS (zC 7 O (za 1 (v:=pt ld) O O O) hS (zC 8 O (zQ O) hS (zC 9 O (zH (o:=2) O) hS (zK 10 O hw (yA (v:=rv') 0 0 2 O O O O qM O ?_))))))))))))
   refine zE [1,2,3] O qL (fun w' hw hS=>zK 11 O hw (zq (pC 0 4 O O) O O (zE [1,2,3] O qL (fun w' hw hS=>zC 12 O (kN (c:=(((l.qf++[t.now]).length:Nat):Int)) qM O (xN (by simp only[List.length_append,List.length_cons,List.length_nil];omega)) qM) hS (zC 13 O (zQ O) hS (zC 14 O (zH (o:=3) O) hS (zK 15 O hw ?_)))))))
   refine z2 [Res.ou ob ({o with mv:=mv',qk:=o.qk++ms}:OutD),z3 cb ({t with qC:=t.now}:TimD) (pt ld) a r b yv jb qd (pt ob),Res.nl b lv es,yL ld ({l with qa:=yY (yC (es.map EntD.toEntA)) l.qa k,rv:=rv',qf:=l.qf++[t.now]}:LdD),vP l.pv (yY (yC (es.map EntD.toEntA)) l.qa k),sP (yY (yC (es.map EntD.toEntA)) l.qa k),vI l.av l.qe,vT rv' (l.qf++[t.now]),vL l.kv l.qj] (fun w' hw=>hw.qn 0 O) ?_
   refine zn 3 O O O O O (zE [0,1,2] O qL (fun w' hw hS=>zV ?_))
   exact(yJ O (fun w' hw=>⟨mv',rv',ms,O,(by rw[hms,List.take_of_length_le V]),(by rw[if_pos c3,show l.qf.length+1=(l.qf++[t.now]).length by simp,←zDI (k:=k) (f:=yC (es.map EntD.toEntA)) (ps:=l.qa) V];exact(hw.qo [3,4,5,6,7,8] rfl qL).sel [1,2,3,0] rfl qL)⟩)) _ hw
  exact yd (yJ O (fun w' hw=>⟨mv',rv',ms,O,(by rw[hms,List.take_of_length_le V]),(by rw[if_neg c3,←zDI (k:=k) (f:=yC (es.map EntD.toEntA)) (ps:=l.qa) V];exact hw.sel [2,3,0,1] rfl qL)⟩))
end Go.Proofs.YtkkeknmkipkbmaaGreat
