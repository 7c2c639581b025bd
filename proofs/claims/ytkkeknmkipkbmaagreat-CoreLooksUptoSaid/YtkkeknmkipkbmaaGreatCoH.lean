import Derived.Test.YtkkeknmkipkbmaaGreatCoG
set_option linter.unusedSectionVars false
set_option linter.unusedSimpArgs false
set_option linter.unusedVariables false
set_option maxRecDepth 10000
namespace Go.Proofs.YtkkeknmkipkbmaaGreat
open Go Go.Sc Go.Proofs
def ye(f:PeerM→PeerM)(ps:List PeerP)(k:Nat):List PeerP:=(ps.take k).map (fun q=>(q.1,f q.2))++ps.drop k
theorem zEt{f:PeerM→PeerM}{ps:List PeerP}:ye f ps 0=ps:=by simp[ye]
theorem zDu{f:PeerM→PeerM}{ps:List PeerP}{k:Nat}(h:ps.length≤k):ye f ps k=ps.map fun q=>(q.1,f q.2):=by
  unfold ye;rw[List.take_of_length_le h,List.drop_of_length_le h,List.append_nil]
theorem zD6{f:PeerM→PeerM}{ps:List PeerP}{k:Nat}:(ye f ps k).length=ps.length:=by
  unfold ye;rw[List.length_append,List.length_map,List.length_take,List.length_drop];omega
theorem kj{f:PeerM→PeerM}{ps:List PeerP}{k:Nat}(h:k<ps.length):zG (ye f ps k) k=zG ps k:=by
  refine nth_eq ?_
  unfold ye
  rw[List.getElem?_append_right (by rw[List.length_map,List.length_take];omega),List.length_map,List.length_take,List.getElem?_drop,show k+(k - min k ps.length)=k by omega]
  exact yW h
theorem zFx{f:PeerM→PeerM}{ps:List PeerP}{k:Nat}(h:k<ps.length):z5 (ye f ps k) k (f (zG ps k).2)=ye f ps (k+1):=by
  unfold z5
  rw[kj h]
  unfold ye
  have hl:((ps.take k).map fun q=>(q.1,f q.2)).length=k:=by rw[List.length_map,List.length_take];omega
  rw[List.set_append_right _ _ (by rw[hl];exact Nat.le_refl _),hl,Nat.sub_self,ju h,List.set_cons_zero,zu h,List.map_append,List.append_assoc]
  rfl
def jR(g:PeerM→List MsgA)(ps:List PeerP):List MsgA:=ps.flatMap fun q=>g q.2
theorem zCK{g:PeerM→List MsgA}{ps:List PeerP}{k:Nat}(h:k<ps.length):jR g (ps.take (k+1))=jR g (ps.take k)++g (zG ps k).2:=by
  unfold jR;rw[zu h,List.flatMap_append];simp
theorem zEr{a:StA}{term qc qd:Nat}{es:List EntA}{p:PeerM}{force:Bool}:(xM a term qc qd es p force).length≤1:=by unfold xM;split<;>simp
theorem zIs{g:PeerM→List MsgA}(hg:∀ p,(g p).length≤1){ps:List PeerP}:(jR g ps).length≤ps.length:=by
  unfold jR
  induction ps with
  |nil=>simp
  |cons q ps ih=>rw[List.flatMap_cons,List.length_append,List.length_cons];have:=hg q.2;omega
theorem zEZ{S:List Nat}(cb jb:Nat)(t:TimD)(a:StA)(r:RolD)(b:StB)(yv:Value)(qe:Nat)(lv:Value)(es:List EntD)(ld:Nat)(l:LdD)(ob:Nat)(o:OutD)(w:World)(hg:(LG 0 0 es).good)(hl:es.length≤1000000)(hvl:b.vs.length≤12)(hpl:l.qa.length≤1000)(ho:o.qk.length≤1000)(hp:∀ p∈l.qa,p.2.bd 1000000)(hr:l.qd.length≤1000000)(hin:Own w S [z7 cb t (pt ld) a r b yv jb qe (pt ob),Res.nl b lv es,Res.ld ld l,Res.ou ob o] w):Rets Tryz.prog 42 #[pt cb] w fun u_ w'=>∃ (mv':Value) (ms:List MsgD),u_= .tuple #[]∧ms.map MsgD.a=jR (fun p=>xM a t.term r.qc l.qd.length (es.map EntD.toEntA) p false) l.qa∧Own w S [z7 cb t (pt ld) a r b yv jb qe (pt ob),Res.nl b lv es,Res.ld ld ({l with qa:=l.qa.map fun q=>(q.1,yq (es.map EntD.toEntA) q.2)}:LdD),Res.ou ob ({o with mv:=mv',qk:=o.qk++ms}:OutD)] w':=by
  refine zW Tryz.func42 O Tryz.ntmps42 hin ?_
  refine zC (zD O (zb O O (zK (o:=9) O O (zM 0 (v:=pt ld) O O O O (zb O O (zK (o:=0) O O (z6 (v:=l.pv) 2 0 0 O O O O qN O (zp (pC 2 1 O O) O O (zD O (zA (zZ ?_)))))))))))
  refine x3 (fun(k:Nat) (mv':Value) (ms:List MsgD)=>[(0,pt cb),(10,l.pv),(11,Vj l.qa.length),(12,Vj k)]) (fun(k:Nat) (mv':Value) (ms:List MsgD)=>k≤l.qa.length∧ms.map MsgD.a=jR (fun p=>xM a t.term r.qc l.qd.length (es.map EntD.toEntA) p false) (l.qa.take k)) (fun(k:Nat) (mv':Value) (ms:List MsgD)=>[z7 cb t (pt ld) a r b yv jb qe (pt ob),Res.nl b lv es,Res.ld ld ({l with qa:=ye (yq (es.map EntD.toEntA)) l.qa k}:LdD),Res.ou ob ({o with mv:=mv',qk:=o.qk++ms}:OutD)]) (fun(k:Nat) (mv':Value) (ms:List MsgD)=>l.qa.length - k) (fun w' hw=>⟨0,o.mv,[],⟨O,O,O,O,trivial⟩,⟨Nat.zero_le _,O⟩,(by rw[List.append_nil,zEt];exact hw)⟩) (fun k mv' ms g hΦ=> ?_)
  have hkl:=hΦ.1
  have hml:ms.length≤l.qa.length:=by have h1:=congrArg List.length hΦ.2;rw[List.length_map]at h1;have h2:=zIs (g:=fun p=>xM a t.term r.qc l.qd.length (es.map EntD.toEntA) p false) (fun p=>zEr) (ps:=l.qa.take k);rw[List.length_take]at h2;omega
  have hpl2:=zD6 (f:=yq (es.map EntD.toEntA)) (ps:=l.qa) (k:=k)
  refine zC (yI O O O (zA (zP (za O (fun c1=> ?_) (fun c1=> ?_)))))
  ·refine zQ (zP (zZ (zC (zk (pC 2 1 O O) 1 k O O O (by show k<(ye (yq (es.map EntD.toEntA)) l.qa k).length;omega) O (yH (pC 2 1 O O) 1 k 0 (fun _=>O) O O (by show k<(ye (yq (es.map EntD.toEntA)) l.qa k).length;omega) O O (zI O (zA (zV (zD O (zD O (a_call O O (fun w' hw=>(zB6 cb jb t a r b yv qe _ _ ld ({l with qa:=ye (yq (es.map EntD.toEntA)) l.qa k}:LdD) ob ({o with mv:=mv',qk:=o.qk++ms}:OutD) k false w' ‹_› qO qO (by show k<(ye (yq (es.map EntD.toEntA)) l.qa k).length;omega) (by show(o.qk++ms).length≤_;rw[List.length_append];omega) (by show(zG (ye (yq (es.map EntD.toEntA)) l.qa k) k).2.bd _;rw[kj V];exact hp _ (zd V)) qP (hw.give [0,1,2,3] O qM)).mono ?_))))))))))))
   rintro _ w1 ⟨mv'1_,ms2_,rfl,hf3_2,hO⟩
   refine O4 ?_ (hw.qh [0,1,2,3] O hO)
   refine zA (zV (zt O O (zr V) O (zD O ?_)))
   exact zg (fun w' hw=>⟨k+1,mv'1_,ms++ms2_,⟨O,O,O,O,trivial⟩,⟨by omega,by rw[List.map_append,hΦ.2,hf3_2,zCK V,kj V]⟩,(by rw[←zFx (f:=yq (es.map EntD.toEntA)) (ps:=l.qa) (k:=k) V,←kj (f:=yq (es.map EntD.toEntA)) (ps:=l.qa) (k:=k) V,←List.append_assoc o.qk];exact hw),V⟩)
  exact kw O (yQ O (fun w' hw=>⟨mv',ms,O,(by rw[hΦ.2,List.take_of_length_le V]),(by rw[zDu V]at hw;exact hw)⟩))
def xo(p:PeerM):PeerM:={(if p.told=true then p else{p with opn:=false,next:=p.qy+1,qx:=0,asked:=false})with told:=false}
def yG(E:List EntA)(p:PeerM):PeerM:=yq E (xo p)
def zAI(a:StA)(term qc qd:Nat)(E:List EntA)(p:PeerM):List MsgA:=xM a term qc qd E (xo p) true
theorem zLY{p:PeerM}(h:(!p.told)=true):xo p={p with opn:=false,next:=p.qy+1,qx:=0,asked:=false,told:=false}:=by unfold xo;rw[if_neg (by simpa using h)]
theorem zLu{p:PeerM}(h:(!p.told)=false):xo p={p with told:=false}:=by unfold xo;rw[if_pos (by simpa using h)]
theorem zEV{p:PeerM}{n:Nat}(h:p.bd n):(xo p).bd n:=by
  unfold xo
  have h1:=h.qy
  split
  · exact⟨h.next,h.qy,h.qx⟩
  exact⟨⟨by show 1≤p.qy+1;omega,by show p.qy+1≤n+1;omega⟩,h.qy,⟨Int.le_refl 0,by show(0:Int)≤4;omega⟩⟩
theorem zCA{ps:List PeerP}{k:Nat}{q:PeerM}(h:k<ps.length):zG (z5 ps k q) k=((zG ps k).1,q):=nth_eq (List.getElem?_set_self h)
theorem xL{ps:List PeerP}{k:Nat}{q:PeerM}(h:k<ps.length):(zG (z5 ps k q) k).2=q:=by rw[zCA h]
theorem kX{ps:List PeerP}{k:Nat}{q:PeerM}(h:k<ps.length):(zG (z5 ps k q) k).1=(zG ps k).1:=by rw[zCA h]
theorem jw{ps:List PeerP}{k:Nat}{q q':PeerM}(h:k<ps.length):z5 (z5 ps k q) k q'=z5 ps k q':=by
  have h1:=zCA (q:=q) h
  show(z5 ps k q).set k ((zG (z5 ps k q) k).1,q')=_
  rw[h1]
  show(ps.set k _).set k _=ps.set k _
  rw[List.set_set]
theorem zEc{E:List EntA}{ps:List PeerP}{k:Nat}{q:PeerM}(h:k<ps.length)(hq:q=xo (zG (ye (yG E) ps k) k).2):z5 (z5 (ye (yG E) ps k) k q) k (yq E (zG (z5 (ye (yG E) ps k) k q) k).2)=ye (yG E) ps (k+1):=by
  have hl:k<(ye (yG E) ps k).length:=by rw[zD6];exact h
  rw[jw hl,xL hl,hq,kj h,←zFx h];rfl
theorem zHF{S:List Nat}(cb jb:Nat)(t:TimD)(a:StA)(r:RolD)(b:StB)(yv:Value)(qe:Nat)(lv:Value)(es:List EntD)(ld:Nat)(l:LdD)(ob:Nat)(o:OutD)(w:World)(hg:(LG 0 0 es).good)(hl:es.length≤1000000)(hvl:b.vs.length≤12)(hpl:l.qa.length≤1000)(ho:o.qk.length≤1000)(hp:∀ p∈l.qa,p.2.bd 1000000)(hr:l.qd.length≤900000)(hin:Own w S [z7 cb t (pt ld) a r b yv jb qe (pt ob),Res.nl b lv es,Res.ld ld l,Res.ou ob o] w):Rets Tryz.prog 46 #[pt cb] w fun u_ w'=>∃ (mv' rv':Value) (ms:List MsgD),u_= .tuple #[]∧ms.map MsgD.a=jR (zAI a t.term r.qc (l.qd.length+1) (es.map EntD.toEntA)) l.qa∧Own w S [z7 cb ({t with qE:=t.now}:TimD) (pt ld) a r b yv jb qe (pt ob),Res.nl b lv es,Res.ld ld ({l with qa:=l.qa.map fun q=>(q.1,yG (es.map EntD.toEntA) q.2),rv:=rv',qd:=l.qd++[t.now],sure:=if(zc b.vs (es.map EntD.toEntA)).qv [a.id]then l.qd.length+1 else l.sure}:LdD),Res.ou ob ({o with mv:=mv',qk:=o.qk++ms}:OutD)] w':=by
  refine zW Tryz.func46 O Tryz.ntmps46 hin ?_
  refine zC (zD O (zD O (zb O O (zK (o:=2) O O (zK (o:=0) O O (zM 0 (v:=Vi t.now) O O O O (zb O O (zK (o:=2) O O (zK (o:=3) O O (zn 0 O O O O O (zA (yt (fun(rv':Value)=>[(0,pt cb)]) (fun(rv':Value)=>True) (fun(rv':Value)=>[z7 cb ({t with qE:=t.now}:TimD) (pt ld) a r b yv jb qe (pt ob),Res.nl b lv es,Res.ld ld ({l with rv:=rv',qd:=l.qd++[t.now]}:LdD),Res.ou ob o]) ?_ (fun rv' g hΦ=> ?_)))))))))))))
  ·refine ze [0,1,3] O qM qN (fun w' hw hS=>zB 0 O zS hS (zB 1 O (zO O) hS (zB 2 O (zH (o:=9) O) hS (zB 3 O (zY 0 (v:=pt ld) O O O) hS (zB 4 O zS hS (zB 5 O (zO O) hS (zB 6 O (zH (o:=9) O) hS (zB 7 O (zY 0 (v:=pt ld) O O O) hS (zB 8 O (zO O) hS (zB 9 O (zH (o:=2) O) hS (zB 11 O zS hS (zB 12 O (zO O) hS ?_))))))))))))
   refine zB 13 O (zH (o:=2) O) hS (zB 14 O (zH (o:=0) O) hS (zB 15 O (zY 0 (v:=Vi t.now) O O O) hS (zq 10 16 ?_ ?_)))
   ·refine zl 10 O hw (z6 (v:=l.rv) 2 0 2 O O O O qN O (zE [0,1,3] O qM (fun w' hw hS=>zJ 16 O hw (zx (e:=2) (sz:=1) (vs:=[Vi t.now]) qN O O qR qM O (fun b29=>zE [0,1,3] O qM (fun w' hw hS=>zJ 17 O hw ?_))))))
    refine z4 [z7 cb ({t with qE:=t.now}:TimD) (pt ld) a r b yv jb qe (pt ob),Res.nl b lv es,Res.ou ob o,vT (.slice (some ⟨b29,0,none⟩) 1 1) [t.now],yP ld l,vP l.pv l.qa,sP l.qa,vI l.av l.qf,vT l.rv l.qd,vL l.kv l.qj] (fun w' hw=>hw.qn 2 O) ?_
    refine zy (g:=I1) (sz:=1) (by':=8) (fun _=>O) (l:=l.qd) (l':=[t.now]) qV 8 qN O O O (fun w' hw'=>Vec.sl (Own.holds hw' 3 _ O)) qO qM O (fun v30=>zE [0,1,2] O qM (fun w' hw hS=>zB 18 O (zO O) hS (zB 19 O (zH (o:=2) O) hS (zJ 20 O hw ?_))))
    refine zN (fun w' hw=>Own.qg (i:=8) O hw) (fun hc1_=> ?_)
    refine zn (cs:=(LdD.cells l)) 4 O O O hc1_ O (zE [0,1,2] O qM (fun w' hw hS=>zT ?_))
    exact⟨v30,⟨O,trivial⟩,trivial,(hw.qo [4,5,6,7,8,9] O qM).sel [0,1,4,2] O qM⟩
   refine zl 16 O hw (zx (e:=2) (sz:=1) (vs:=[Vi t.now]) qN O O qR qM O (fun b29=>zE [0,1,3] O qM (fun w' hw hS=>zJ 10 O hw (z6 (v:=l.rv) 2 0 2 O O O O qN O (zE [0,1,3] O qM (fun w' hw hS=>zJ 17 O hw ?_))))))
   refine z4 [z7 cb ({t with qE:=t.now}:TimD) (pt ld) a r b yv jb qe (pt ob),Res.nl b lv es,Res.ou ob o,vT (.slice (some ⟨b29,0,none⟩) 1 1) [t.now],yP ld l,vP l.pv l.qa,sP l.qa,vI l.av l.qf,vT l.rv l.qd,vL l.kv l.qj] (fun w' hw=>hw.qn 2 O) ?_
   refine zy (g:=I1) (sz:=1) (by':=8) (fun _=>O) (l:=l.qd) (l':=[t.now]) qV 8 qN O O O (fun w' hw'=>Vec.sl (Own.holds hw' 3 _ O)) qO qM O (fun v30=>zE [0,1,2] O qM (fun w' hw hS=>zB 18 O (zO O) hS (zB 19 O (zH (o:=2) O) hS (zJ 20 O hw ?_))))
   refine zN (fun w' hw=>Own.qg (i:=8) O hw) (fun hc2_=> ?_)
   refine zn (cs:=(LdD.cells l)) 4 O O O hc2_ O (zE [0,1,2] O qM (fun w' hw hS=>zT ?_))
   exact⟨v30,⟨O,trivial⟩,trivial,(hw.qo [4,5,6,7,8,9] O qM).sel [0,1,4,2] O qM⟩
  refine zP (zC (zD O (zb O O (zK (o:=9) O O (zM 0 (v:=pt ld) O O O O (zb O O (zK (o:=0) O O (z6 (v:=l.pv) 2 0 0 O O O O qN O (zp (pC 2 1 O O) O O (zD O (zA (zZ ?_))))))))))))
  refine x3 (fun(k:Nat) (mv':Value) (ms:List MsgD)=>[(0,pt cb),(39,l.pv),(40,Vj l.qa.length),(41,Vj k)]) (fun(k:Nat) (mv':Value) (ms:List MsgD)=>k≤l.qa.length∧ms.map MsgD.a=jR (zAI a t.term r.qc (l.qd.length+1) (es.map EntD.toEntA)) (l.qa.take k)) (fun(k:Nat) (mv':Value) (ms:List MsgD)=>[z7 cb ({t with qE:=t.now}:TimD) (pt ld) a r b yv jb qe (pt ob),Res.nl b lv es,Res.ld ld ({l with qa:=ye (yG (es.map EntD.toEntA)) l.qa k,rv:=rv',qd:=l.qd++[t.now]}:LdD),Res.ou ob ({o with mv:=mv',qk:=o.qk++ms}:OutD)]) (fun(k:Nat) (mv':Value) (ms:List MsgD)=>l.qa.length - k) (fun w' hw=>⟨0,o.mv,[],⟨O,O,O,O,trivial⟩,⟨Nat.zero_le _,O⟩,(by rw[List.append_nil,zEt];exact hw)⟩) (fun k mv' ms g hΦ=> ?_)
  have hkl:=hΦ.1
  have hml:ms.length≤l.qa.length:=by have h1:=congrArg List.length hΦ.2;rw[List.length_map]at h1;have h2:=zIs (g:=zAI a t.term r.qc (l.qd.length+1) (es.map EntD.toEntA)) (fun p=>zEr) (ps:=l.qa.take k);rw[List.length_take]at h2;omega
  have hpl2:=zD6 (f:=yG (es.map EntD.toEntA)) (ps:=l.qa) (k:=k)
  have hms:=hΦ.2
  refine zC (yI O O O (zA (zP (za O (fun c1=> ?_) (fun c1=> ?_)))))
  ·have hbd:(zG (ye (yG (es.map EntD.toEntA)) l.qa k) k).2.bd 1000000:=by rw[kj V];exact hp _ (zd V)
   have hmt:=hbd.qy
   refine zQ (zP (zZ (zC (zk (pC 2 1 O O) 1 k O O O (by show k<(ye (yG (es.map EntD.toEntA)) l.qa k).length;omega) O (yH (pC 2 1 O O) 1 k 0 (fun _=>O) O O (by show k<(ye (yG (es.map EntD.toEntA)) l.qa k).length;omega) O O (zI O (zA (zP (zC (zD O (zb O O (zK (o:=7) O O ?_))))))))))))
   refine kE (l:=(ye (yG (es.map EntD.toEntA)) l.qa k)) 2 2 k 7 O O qT O O O qN O (zBu (b:=((zG (ye (yG (es.map EntD.toEntA)) l.qa k) k).2).told) O O (zA (zAu O (fun c2=> ?_) (fun c2=> ?_))))
   ·refine zV (zD O (zD O (zD O (zD O (zD O (zb O O (zK (o:=2) O O (kE (l:=(ye (yG (es.map EntD.toEntA)) l.qa k)) 2 2 k 2 O O qT O O O qN O (zt O O (xA V) O (zb O O (zK (o:=6) O O ?_)))))))))))
    refine z4 [z7 cb ({t with qE:=t.now}:TimD) (pt ld) a r b yv jb qe (pt ob),Res.nl b lv es,Res.ou ob ({o with mv:=mv',qk:=o.qk++ms}:OutD),yP ld ({l with qa:=ye (yG (es.map EntD.toEntA)) l.qa k,rv:=rv',qd:=l.qd++[t.now]}:LdD),vP l.pv (ye (yG (es.map EntD.toEntA)) l.qa k),sP (ye (yG (es.map EntD.toEntA)) l.qa k),vI l.av l.qf,vT rv' (l.qd++[t.now]),vL l.kv l.qj] (fun w' hw=>hw.qn 2 O) ?_
    refine z4 [z7 cb ({t with qE:=t.now}:TimD) (pt ld) a r b yv jb qe (pt ob),Res.nl b lv es,Res.ou ob ({o with mv:=mv',qk:=o.qk++ms}:OutD),yP ld ({l with qa:=ye (yG (es.map EntD.toEntA)) l.qa k,rv:=rv',qd:=l.qd++[t.now]}:LdD),vP l.pv (ye (yG (es.map EntD.toEntA)) l.qa k),vI l.av l.qf,vT rv' (l.qd++[t.now]),vL l.kv l.qj,kF ((zG (ye (yG (es.map EntD.toEntA)) l.qa k) k).1) ((zG (ye (yG (es.map EntD.toEntA)) l.qa k) k).2),sP ((ye (yG (es.map EntD.toEntA)) l.qa k).eraseIdx k)] (fun w' hw=>hw.qI (g:=PeerP.dres) (l:=(ye (yG (es.map EntD.toEntA)) l.qa k)) 5 k qT O) ?_
    refine zn 8 O O O O O (zb O O (zK (o:=1) O O (zn 8 O O O O O (zb O O (zK (o:=4) O O (zn 8 O O O O O (zb O O (zK (o:=8) O O (zn 8 O O O O O (zA (j9 (fun(q:PeerM) (pb:Nat)=>[(0,pt cb),(3,pt pb),(39,l.pv),(40,Vj l.qa.length),(41,Vj k)]) (fun(q:PeerM) (pb:Nat)=>q=xo (zG (ye (yG (es.map EntD.toEntA)) l.qa k) k).2∧pb=(zG (z5 (ye (yG (es.map EntD.toEntA)) l.qa k) k q) k).1) (fun(q:PeerM) (pb:Nat)=>[z7 cb ({t with qE:=t.now}:TimD) (pt ld) a r b yv jb qe (pt ob),Res.nl b lv es,Res.ld ld ({l with qa:=z5 (ye (yG (es.map EntD.toEntA)) l.qa k) k q,rv:=rv',qd:=l.qd++[t.now]}:LdD),Res.ou ob ({o with mv:=mv',qk:=o.qk++ms}:OutD)]) ?_ (fun q pb g hΦ=> ?_))))))))))))
    ·refine zV (zD O (zb O O (zK (o:=7) O O (zn 8 O O O O O ?_))))
     exact zg (fun w' hw=>⟨({(zG (ye (yG (es.map EntD.toEntA)) l.qa k) k).2 with opn:=false,next:=(zG (ye (yG (es.map EntD.toEntA)) l.qa k) k).2.qy+1,qx:=0,asked:=false,told:=false}:PeerM),(zG (ye (yG (es.map EntD.toEntA)) l.qa k) k).1,⟨O,O,O,O,O,trivial⟩,⟨(zLY c2).symm,(kX V).symm⟩,((hw.peerIn 8 9 4 k ({id:=((zG (ye (yG (es.map EntD.toEntA)) l.qa k) k).2).id,next:=(((zG (ye (yG (es.map EntD.toEntA)) l.qa k) k).2).qy)+1,qy:=((zG (ye (yG (es.map EntD.toEntA)) l.qa k) k).2).qy,round:=((zG (ye (yG (es.map EntD.toEntA)) l.qa k) k).2).round,qx:=0,off:=((zG (ye (yG (es.map EntD.toEntA)) l.qa k) k).2).off,opn:=false,told:=false,asked:=false}:PeerM) qT qM O O O).qo [3,7,8,4,5,6] O qM).sel [0,1,3,2] O qM⟩)
    obtain⟨hq,rfl⟩:=hΦ
    refine zV (zD O (zD O (a_call O O (fun w' hw=>(zB6 cb jb ({t with qE:=t.now}:TimD) a r b yv qe _ _ ld ({l with qa:=z5 (ye (yG (es.map EntD.toEntA)) l.qa k) k q,rv:=rv',qd:=l.qd++[t.now]}:LdD) ob ({o with mv:=mv',qk:=o.qk++ms}:OutD) k true w' ‹_› qO qO (by show k<(z5 (ye (yG (es.map EntD.toEntA)) l.qa k) k q).length;rw[xG];omega) (by show(o.qk++ms).length≤_;rw[List.length_append];omega) (by show(zG (z5 (ye (yG (es.map EntD.toEntA)) l.qa k) k q) k).2.bd _;rw[xL V,hq];exact zEV hbd) (by show(l.qd++[t.now]).length≤_;rw[List.length_append];simp;omega) (hw.give [0,1,2,3] O qM)).mono ?_))))
    rintro _ w1 ⟨mv'1_,ms2_,rfl,hf8_2,hO⟩
    refine O4 ?_ (hw.qh [0,1,2,3] O hO)
    refine zA (zV (zt O O (zr V) O (zD O ?_)))
    exact zg (fun w' hw=>⟨k+1,mv'1_,ms++ms2_,⟨O,O,O,O,trivial⟩,⟨by omega,by rw[List.map_append,hms,hf8_2,zCK V,xL V,hq,kj V,List.length_append];rfl⟩,(by rw[←zEc V hq,←List.append_assoc o.qk];exact hw),V⟩)
   refine zQ (j9 (fun(q:PeerM) (pb:Nat)=>[(0,pt cb),(3,pt pb),(39,l.pv),(40,Vj l.qa.length),(41,Vj k)]) (fun(q:PeerM) (pb:Nat)=>q=xo (zG (ye (yG (es.map EntD.toEntA)) l.qa k) k).2∧pb=(zG (z5 (ye (yG (es.map EntD.toEntA)) l.qa k) k q) k).1) (fun(q:PeerM) (pb:Nat)=>[z7 cb ({t with qE:=t.now}:TimD) (pt ld) a r b yv jb qe (pt ob),Res.nl b lv es,Res.ld ld ({l with qa:=z5 (ye (yG (es.map EntD.toEntA)) l.qa k) k q,rv:=rv',qd:=l.qd++[t.now]}:LdD),Res.ou ob ({o with mv:=mv',qk:=o.qk++ms}:OutD)]) ?_ (fun q pb g hΦ=> ?_))
   ·refine zV (zD O (zb O O (zK (o:=7) O O ?_)))
    refine z4 [z7 cb ({t with qE:=t.now}:TimD) (pt ld) a r b yv jb qe (pt ob),Res.nl b lv es,Res.ou ob ({o with mv:=mv',qk:=o.qk++ms}:OutD),yP ld ({l with qa:=ye (yG (es.map EntD.toEntA)) l.qa k,rv:=rv',qd:=l.qd++[t.now]}:LdD),vP l.pv (ye (yG (es.map EntD.toEntA)) l.qa k),sP (ye (yG (es.map EntD.toEntA)) l.qa k),vI l.av l.qf,vT rv' (l.qd++[t.now]),vL l.kv l.qj] (fun w' hw=>hw.qn 2 O) ?_
    refine z4 [z7 cb ({t with qE:=t.now}:TimD) (pt ld) a r b yv jb qe (pt ob),Res.nl b lv es,Res.ou ob ({o with mv:=mv',qk:=o.qk++ms}:OutD),yP ld ({l with qa:=ye (yG (es.map EntD.toEntA)) l.qa k,rv:=rv',qd:=l.qd++[t.now]}:LdD),vP l.pv (ye (yG (es.map EntD.toEntA)) l.qa k),vI l.av l.qf,vT rv' (l.qd++[t.now]),vL l.kv l.qj,kF ((zG (ye (yG (es.map EntD.toEntA)) l.qa k) k).1) ((zG (ye (yG (es.map EntD.toEntA)) l.qa k) k).2),sP ((ye (yG (es.map EntD.toEntA)) l.qa k).eraseIdx k)] (fun w' hw=>hw.qI (g:=PeerP.dres) (l:=(ye (yG (es.map EntD.toEntA)) l.qa k)) 5 k qT O) ?_
    refine zn 8 O O O O O ?_
    exact zg (fun w' hw=>⟨({(zG (ye (yG (es.map EntD.toEntA)) l.qa k) k).2 with told:=false}:PeerM),(zG (ye (yG (es.map EntD.toEntA)) l.qa k) k).1,⟨O,O,O,O,O,trivial⟩,⟨(zLu c2).symm,(kX V).symm⟩,((hw.peerIn 8 9 4 k ({((zG (ye (yG (es.map EntD.toEntA)) l.qa k) k).2)with told:=false}:PeerM) qT qM O O O).qo [3,7,8,4,5,6] O qM).sel [0,1,3,2] O qM⟩)
   obtain⟨hq,rfl⟩:=hΦ
   refine zV (zD O (zD O (a_call O O (fun w' hw=>(zB6 cb jb ({t with qE:=t.now}:TimD) a r b yv qe _ _ ld ({l with qa:=z5 (ye (yG (es.map EntD.toEntA)) l.qa k) k q,rv:=rv',qd:=l.qd++[t.now]}:LdD) ob ({o with mv:=mv',qk:=o.qk++ms}:OutD) k true w' ‹_› qO qO (by show k<(z5 (ye (yG (es.map EntD.toEntA)) l.qa k) k q).length;rw[xG];omega) (by show(o.qk++ms).length≤_;rw[List.length_append];omega) (by show(zG (z5 (ye (yG (es.map EntD.toEntA)) l.qa k) k q) k).2.bd _;rw[xL V,hq];exact zEV hbd) (by show(l.qd++[t.now]).length≤_;rw[List.length_append];simp;omega) (hw.give [0,1,2,3] O qM)).mono ?_))))
   rintro _ w1 ⟨mv'3_,ms4_,rfl,hf8_2,hO⟩
   refine O4 ?_ (hw.qh [0,1,2,3] O hO)
   refine zA (zV (zt O O (zr V) O (zD O ?_)))
   exact zg (fun w' hw=>⟨k+1,mv'3_,ms++ms4_,⟨O,O,O,O,trivial⟩,⟨by omega,by rw[List.map_append,hms,hf8_2,zCK V,xL V,hq,kj V,List.length_append];rfl⟩,(by rw[←zEc V hq,←List.append_assoc o.qk];exact hw),V⟩)
  refine yF O (zC (zD O (a_call O O (fun w' hw=>(zBe cb jb ({t with qE:=t.now}:TimD) a r b (pt ld) yv (pt ob) qe _ _ w' ‹_› qO qO (hw.give [0,1] O qM)).mono ?_))))
  rintro _ w1 ⟨rfl,hO⟩
  refine O4 ?_ (hw.qh [0,1] O hO)
  refine zA (za O (fun c3=> ?_) (fun c3=> ?_))
  ·refine ze [1,2,3] O qM qN (fun w' hw hS=>zB 0 O zS hS (zB 1 O (zO O) hS (zB 2 O (zH (o:=9) O) hS (zB 3 O (zY 1 (v:=pt ld) O O O) hS (zB 4 O zS hS (zB 5 O (zO O) hS (zB 6 O (zH (o:=9) O) hS (zB 7 O (zY 1 (v:=pt ld) O O O) hS (zB 8 O (zO O) hS (zB 9 O (zH (o:=2) O) hS (zJ 10 O hw (z6 (v:=rv') 0 0 2 O O O O qN O ?_))))))))))))
   refine zE [1,2,3] O qM (fun w' hw hS=>zJ 11 O hw (zp (pC 0 4 O O) O O (zE [1,2,3] O qM (fun w' hw hS=>zB 12 O (x7 (c:=(((l.qd++[t.now]).length:Nat):Int)) qN O (xA (by simp only[List.length_append,List.length_cons,List.length_nil];omega)) qN) hS (zB 13 O (zO O) hS (zB 14 O (zH (o:=3) O) hS (zJ 15 O hw ?_)))))))
   refine z4 [Res.ou ob ({o with mv:=mv',qk:=o.qk++ms}:OutD),z7 cb ({t with qE:=t.now}:TimD) (pt ld) a r b yv jb qe (pt ob),Res.nl b lv es,yP ld ({l with qa:=ye (yG (es.map EntD.toEntA)) l.qa k,rv:=rv',qd:=l.qd++[t.now]}:LdD),vP l.pv (ye (yG (es.map EntD.toEntA)) l.qa k),sP (ye (yG (es.map EntD.toEntA)) l.qa k),vI l.av l.qf,vT rv' (l.qd++[t.now]),vL l.kv l.qj] (fun w' hw=>hw.qn 0 O) ?_
   refine zn 3 O O O O O (zE [0,1,2] O qM (fun w' hw hS=>zT ?_))
   exact(yQ O (fun w' hw=>⟨mv',rv',ms,O,(by rw[hms,List.take_of_length_le V]),(by rw[if_pos c3,show l.qd.length+1=(l.qd++[t.now]).length by simp,←zDu (k:=k) (f:=yG (es.map EntD.toEntA)) (ps:=l.qa) V];exact(hw.qo [3,4,5,6,7,8] rfl qM).sel [1,2,3,0] rfl qM)⟩)) _ hw
  exact yZ (yQ O (fun w' hw=>⟨mv',rv',ms,O,(by rw[hms,List.take_of_length_le V]),(by rw[if_neg c3,←zDu (k:=k) (f:=yG (es.map EntD.toEntA)) (ps:=l.qa) V];exact hw.sel [2,3,0,1] rfl qM)⟩))
end Go.Proofs.YtkkeknmkipkbmaaGreat
