import Derived.Test.YtkkeknmkipkbmaaGreatCoG
set_option linter.unusedSectionVars false
set_option linter.unusedSimpArgs false
set_option linter.unusedVariables false
set_option maxRecDepth 10000
namespace Go.Proofs.YtkkeknmkipkbmaaGreat
open Go Go.Sc Go.Proofs
def yb(f:PeerM→PeerM)(ps:List PeerP)(k:Nat):List PeerP:=(ps.take k).map (fun q=>(q.1,f q.2))++ps.drop k
theorem zEX{f:PeerM→PeerM}{ps:List PeerP}:yb f ps 0=ps:=by simp[yb]
theorem zCz{f:PeerM→PeerM}{ps:List PeerP}{k:Nat}(h:ps.length≤k):yb f ps k=ps.map fun q=>(q.1,f q.2):=by
  unfold yb;rw[List.take_of_length_le h,List.drop_of_length_le h,List.append_nil]
theorem zDi{f:PeerM→PeerM}{ps:List PeerP}{k:Nat}:(yb f ps k).length=ps.length:=by
  unfold yb;rw[List.length_append,List.length_map,List.length_take,List.length_drop];omega
theorem kZ{f:PeerM→PeerM}{ps:List PeerP}{k:Nat}(h:k<ps.length):zG (yb f ps k) k=zG ps k:=by
  refine nth_eq ?_
  unfold yb
  rw[List.getElem?_append_right (by rw[List.length_map,List.length_take];omega),List.length_map,List.length_take,List.getElem?_drop,show k+(k - min k ps.length)=k by omega]
  exact ya h
theorem zGJ{f:PeerM→PeerM}{ps:List PeerP}{k:Nat}(h:k<ps.length):zx (yb f ps k) k (f (zG ps k).2)=yb f ps (k+1):=by
  unfold zx
  rw[kZ h]
  unfold yb
  have hl:((ps.take k).map fun q=>(q.1,f q.2)).length=k:=by rw[List.length_map,List.length_take];omega
  rw[List.set_append_right _ _ (by rw[hl];exact Nat.le_refl _),hl,Nat.sub_self,jp h,List.set_cons_zero,zt h,List.map_append,List.append_assoc]
  rfl
def jK(g:PeerM→List MsgA)(ps:List PeerP):List MsgA:=ps.flatMap fun q=>g q.2
theorem zCE{g:PeerM→List MsgA}{ps:List PeerP}{k:Nat}(h:k<ps.length):jK g (ps.take (k+1))=jK g (ps.take k)++g (zG ps k).2:=by
  unfold jK;rw[zt h,List.flatMap_append];simp
theorem zET{a:StA}{term qc qf:Nat}{es:List EntA}{p:PeerM}{force:Bool}:(xF a term qc qf es p force).length≤1:=by unfold xF;split<;>simp
theorem zIM{g:PeerM→List MsgA}(hg:∀ p,(g p).length≤1){ps:List PeerP}:(jK g ps).length≤ps.length:=by
  unfold jK
  induction ps with
  |nil=>simp
  |cons q ps ih=>rw[List.flatMap_cons,List.length_append,List.length_cons];have:=hg q.2;omega
theorem zEJ{S:List Nat}(cb jb:Nat)(t:TimD)(a:StA)(r:RolD)(b:StB)(yv:Value)(qd:Nat)(lv:Value)(es:List EntD)(ld:Nat)(l:LdD)(ob:Nat)(o:OutD)(w:World)(hg:(LG 0 0 es).good)(hl:es.length≤1000000)(hvl:b.vs.length≤12)(hpl:l.qa.length≤1000)(ho:o.qj.length≤1000)(hp:∀ p∈l.qa,p.2.bd 1000000)(hr:l.qf.length≤1000000)(hin:Own w S [z4 cb t (pt ld) a r b yv jb qd (pt ob),Res.nl b lv es,Res.ld ld l,Res.ou ob o] w):Rets Tryz.prog 42 #[pt cb] w fun u_ w'=>∃ (mv':Value) (ms:List MsgD),u_= .tuple #[]∧ms.map MsgD.a=jK (fun p=>xF a t.term r.qc l.qf.length (es.map EntD.toEntA) p false) l.qa∧Own w S [z4 cb t (pt ld) a r b yv jb qd (pt ob),Res.nl b lv es,Res.ld ld ({l with qa:=l.qa.map fun q=>(q.1,ym (es.map EntD.toEntA) q.2)}:LdD),Res.ou ob ({o with mv:=mv',qj:=o.qj++ms}:OutD)] w':=by
  refine zW Tryz.func42 O Tryz.ntmps42 hin ?_
  refine zB (zD O (za O O (zJ (o:=9) O O (zL 0 (v:=pt ld) O O O O (za O O (zJ (o:=0) O O (yC (v:=l.pv) 2 0 0 O O O O qN O (zo (pC 2 1 O O) O O (zD O (zA (zX ?_)))))))))))
  refine xi (fun(k:Nat) (mv':Value) (ms:List MsgD)=>[(0,pt cb),(10,l.pv),(11,Vj l.qa.length),(12,Vj k)]) (fun(k:Nat) (mv':Value) (ms:List MsgD)=>k≤l.qa.length∧ms.map MsgD.a=jK (fun p=>xF a t.term r.qc l.qf.length (es.map EntD.toEntA) p false) (l.qa.take k)) (fun(k:Nat) (mv':Value) (ms:List MsgD)=>[z4 cb t (pt ld) a r b yv jb qd (pt ob),Res.nl b lv es,Res.ld ld ({l with qa:=yb (ym (es.map EntD.toEntA)) l.qa k}:LdD),Res.ou ob ({o with mv:=mv',qj:=o.qj++ms}:OutD)]) (fun(k:Nat) (mv':Value) (ms:List MsgD)=>l.qa.length - k) (fun w' hw=>⟨0,o.mv,[],⟨O,O,O,O,trivial⟩,⟨Nat.zero_le _,O⟩,(by rw[List.append_nil,zEX];exact hw)⟩) (fun k mv' ms g hΦ=> ?_)
  have hkl:=hΦ.1
  have hml:ms.length≤l.qa.length:=by have h1:=congrArg List.length hΦ.2;rw[List.length_map]at h1;have h2:=zIM (g:=fun p=>xF a t.term r.qc l.qf.length (es.map EntD.toEntA) p false) (fun p=>zET) (ps:=l.qa.take k);rw[List.length_take]at h2;omega
  have hpl2:=zDi (f:=ym (es.map EntD.toEntA)) (ps:=l.qa) (k:=k)
  refine zB (yG O O O (zA (zN (zY O (fun c1=> ?_) (fun c1=> ?_)))))
  ·refine zO (zN (zX (zB (zi (pC 2 1 O O) 1 k O O O (by show k<(yb (ym (es.map EntD.toEntA)) l.qa k).length;omega) O (yF (pC 2 1 O O) 1 k 0 (fun _=>O) O O (by show k<(yb (ym (es.map EntD.toEntA)) l.qa k).length;omega) O O (zI O (zA (zS (zD O (zD O (a_call O O (fun w' hw=>(zBz cb jb t a r b yv qd _ _ ld ({l with qa:=yb (ym (es.map EntD.toEntA)) l.qa k}:LdD) ob ({o with mv:=mv',qj:=o.qj++ms}:OutD) k false w' ‹_› qO qO (by show k<(yb (ym (es.map EntD.toEntA)) l.qa k).length;omega) (by show(o.qj++ms).length≤_;rw[List.length_append];omega) (by show(zG (yb (ym (es.map EntD.toEntA)) l.qa k) k).2.bd _;rw[kZ V];exact hp _ (ze V)) qP (hw.give [0,1,2,3] O qM)).mono ?_))))))))))))
   rintro _ w1 ⟨mv'1_,ms2_,rfl,hf3_2,hO⟩
   refine O4 ?_ (hw.qg [0,1,2,3] O hO)
   refine zA (zS (zp O O (zq V) O (zD O ?_)))
   exact zd (fun w' hw=>⟨k+1,mv'1_,ms++ms2_,⟨O,O,O,O,trivial⟩,⟨by omega,by rw[List.map_append,hΦ.2,hf3_2,zCE V,kZ V]⟩,(by rw[←zGJ (f:=ym (es.map EntD.toEntA)) (ps:=l.qa) (k:=k) V,←kZ (f:=ym (es.map EntD.toEntA)) (ps:=l.qa) (k:=k) V,←List.append_assoc o.qj];exact hw),V⟩)
  exact kh O (yJ O (fun w' hw=>⟨mv',ms,O,(by rw[hΦ.2,List.take_of_length_le V]),(by rw[zCz V]at hw;exact hw)⟩))
def xd(p:PeerM):PeerM:={(if p.told=true then p else{p with opn:=false,next:=p.qy+1,qw:=0,asked:=false})with told:=false}
def yD(E:List EntA)(p:PeerM):PeerM:=ym E (xd p)
def jv(a:StA)(term qc qf:Nat)(E:List EntA)(p:PeerM):List MsgA:=xF a term qc qf E (xd p) true
theorem zLh{p:PeerM}(h:(!p.told)=true):xd p={p with opn:=false,next:=p.qy+1,qw:=0,asked:=false,told:=false}:=by unfold xd;rw[if_neg (by simpa using h)]
theorem zLi{p:PeerM}(h:(!p.told)=false):xd p={p with told:=false}:=by unfold xd;rw[if_pos (by simpa using h)]
theorem zEV{p:PeerM}{n:Nat}(h:p.bd n):(xd p).bd n:=by
  unfold xd
  have h1:=h.qy
  split
  · exact⟨h.next,h.qy,h.qw⟩
  exact⟨⟨by show 1≤p.qy+1;omega,by show p.qy+1≤n+1;omega⟩,h.qy,⟨Int.le_refl 0,by show(0:Int)≤4;omega⟩⟩
theorem zCA{ps:List PeerP}{k:Nat}{q:PeerM}(h:k<ps.length):zG (zx ps k q) k=((zG ps k).1,q):=nth_eq (List.getElem?_set_self h)
theorem xG{ps:List PeerP}{k:Nat}{q:PeerM}(h:k<ps.length):(zG (zx ps k q) k).2=q:=by rw[zCA h]
theorem kQ{ps:List PeerP}{k:Nat}{q:PeerM}(h:k<ps.length):(zG (zx ps k q) k).1=(zG ps k).1:=by rw[zCA h]
theorem ji{ps:List PeerP}{k:Nat}{q q':PeerM}(h:k<ps.length):zx (zx ps k q) k q'=zx ps k q':=by
  have h1:=zCA (q:=q) h
  show(zx ps k q).set k ((zG (zx ps k q) k).1,q')=_
  rw[h1]
  show(ps.set k _).set k _=ps.set k _
  rw[List.set_set]
theorem zEb{E:List EntA}{ps:List PeerP}{k:Nat}{q:PeerM}(h:k<ps.length)(hq:q=xd (zG (yb (yD E) ps k) k).2):zx (zx (yb (yD E) ps k) k q) k (ym E (zG (zx (yb (yD E) ps k) k q) k).2)=yb (yD E) ps (k+1):=by
  have hl:k<(yb (yD E) ps k).length:=by rw[zDi];exact h
  rw[ji hl,xG hl,hq,kZ h,←zGJ h];rfl
theorem zLc{S:List Nat}(cb jb:Nat)(t:TimD)(a:StA)(r:RolD)(b:StB)(yv:Value)(qd:Nat)(lv:Value)(es:List EntD)(ld:Nat)(l:LdD)(ob:Nat)(o:OutD)(w:World)(hg:(LG 0 0 es).good)(hl:es.length≤1000000)(hvl:b.vs.length≤12)(hpl:l.qa.length≤1000)(ho:o.qj.length≤1000)(hp:∀ p∈l.qa,p.2.bd 1000000)(hr:l.qf.length≤900000)(hin:Own w S [z4 cb t (pt ld) a r b yv jb qd (pt ob),Res.nl b lv es,Res.ld ld l,Res.ou ob o] w):Rets Tryz.prog 46 #[pt cb] w fun u_ w'=>∃ (mv' rv':Value) (ms:List MsgD),u_= .tuple #[]∧ms.map MsgD.a=jK (jv a t.term r.qc (l.qf.length+1) (es.map EntD.toEntA)) l.qa∧Own w S [z4 cb ({t with qE:=t.now}:TimD) (pt ld) a r b yv jb qd (pt ob),Res.nl b lv es,Res.ld ld ({l with qa:=l.qa.map fun q=>(q.1,yD (es.map EntD.toEntA) q.2),rv:=rv',qf:=l.qf++[t.now],sure:=if(zc b.vs (es.map EntD.toEntA)).qv [a.id]then l.qf.length+1 else l.sure}:LdD),Res.ou ob ({o with mv:=mv',qj:=o.qj++ms}:OutD)] w':=by
  refine zW Tryz.func46 O Tryz.ntmps46 hin ?_
  refine zB (zD O (zD O (za O O (zJ (o:=2) O O (zJ (o:=0) O O (zL 0 (v:=Vi t.now) O O O O (za O O (zJ (o:=2) O O (zJ (o:=3) O O (zn 0 O O O O O (zA (yt (fun(rv':Value)=>[(0,pt cb)]) (fun(rv':Value)=>True) (fun(rv':Value)=>[z4 cb ({t with qE:=t.now}:TimD) (pt ld) a r b yv jb qd (pt ob),Res.nl b lv es,Res.ld ld ({l with rv:=rv',qf:=l.qf++[t.now]}:LdD),Res.ou ob o]) ?_ (fun rv' g hΦ=> ?_)))))))))))))
  ·refine zg [0,1,3] O qM qN (fun w' hw hS=>zC 0 O zT hS (zC 1 O (zQ O) hS (zC 2 O (zH (o:=9) O) hS (zC 3 O (zZ 0 (v:=pt ld) O O O) hS (zC 4 O zT hS (zC 5 O (zQ O) hS (zC 6 O (zH (o:=9) O) hS (zC 7 O (zZ 0 (v:=pt ld) O O O) hS (zC 8 O (zQ O) hS (zC 9 O (zH (o:=2) O) hS (zC 11 O zT hS (zC 12 O (zQ O) hS ?_))))))))))))
   refine zC 13 O (zH (o:=2) O) hS (zC 14 O (zH (o:=0) O) hS (zC 15 O (zZ 0 (v:=Vi t.now) O O O) hS (zu 10 16 ?_ ?_)))
   ·refine zm 10 O hw (yC (v:=l.rv) 2 0 2 O O O O qN O (zE [0,1,3] O qM (fun w' hw hS=>zK 16 O hw (zy (e:=2) (sz:=1) (vs:=[Vi t.now]) qN O O qR qM O (fun b29=>zE [0,1,3] O qM (fun w' hw hS=>zK 17 O hw ?_))))))
    refine z2 [z4 cb ({t with qE:=t.now}:TimD) (pt ld) a r b yv jb qd (pt ob),Res.nl b lv es,Res.ou ob o,vT (.slice (some ⟨b29,0,none⟩) 1 1) [t.now],yN ld l,vP l.pv l.qa,sP l.qa,vI l.av l.qe,vT l.rv l.qf,vL l.kv l.qk] (fun w' hw=>hw.qn 2 O) ?_
    refine z7 (g:=I1) (sz:=1) (by':=8) (fun _=>O) (l:=l.qf) (l':=[t.now]) qV 8 qN O O O (fun w' hw'=>Vec.sl (Own.holds hw' 3 _ O)) qO qM O (fun v30=>zE [0,1,2] O qM (fun w' hw hS=>zC 18 O (zQ O) hS (zC 19 O (zH (o:=2) O) hS (zK 20 O hw ?_))))
    refine zP (fun w' hw=>Own.qh (i:=8) O hw) (fun hc1_=> ?_)
    refine zn (cs:=(LdD.cells l)) 4 O O O hc1_ O (zE [0,1,2] O qM (fun w' hw hS=>zU ?_))
    exact⟨v30,⟨O,trivial⟩,trivial,(hw.qo [4,5,6,7,8,9] O qM).sel [0,1,4,2] O qM⟩
   refine zm 16 O hw (zy (e:=2) (sz:=1) (vs:=[Vi t.now]) qN O O qR qM O (fun b29=>zE [0,1,3] O qM (fun w' hw hS=>zK 10 O hw (yC (v:=l.rv) 2 0 2 O O O O qN O (zE [0,1,3] O qM (fun w' hw hS=>zK 17 O hw ?_))))))
   refine z2 [z4 cb ({t with qE:=t.now}:TimD) (pt ld) a r b yv jb qd (pt ob),Res.nl b lv es,Res.ou ob o,vT (.slice (some ⟨b29,0,none⟩) 1 1) [t.now],yN ld l,vP l.pv l.qa,sP l.qa,vI l.av l.qe,vT l.rv l.qf,vL l.kv l.qk] (fun w' hw=>hw.qn 2 O) ?_
   refine z7 (g:=I1) (sz:=1) (by':=8) (fun _=>O) (l:=l.qf) (l':=[t.now]) qV 8 qN O O O (fun w' hw'=>Vec.sl (Own.holds hw' 3 _ O)) qO qM O (fun v30=>zE [0,1,2] O qM (fun w' hw hS=>zC 18 O (zQ O) hS (zC 19 O (zH (o:=2) O) hS (zK 20 O hw ?_))))
   refine zP (fun w' hw=>Own.qh (i:=8) O hw) (fun hc2_=> ?_)
   refine zn (cs:=(LdD.cells l)) 4 O O O hc2_ O (zE [0,1,2] O qM (fun w' hw hS=>zU ?_))
   exact⟨v30,⟨O,trivial⟩,trivial,(hw.qo [4,5,6,7,8,9] O qM).sel [0,1,4,2] O qM⟩
  refine zN (zB (zD O (za O O (zJ (o:=9) O O (zL 0 (v:=pt ld) O O O O (za O O (zJ (o:=0) O O (yC (v:=l.pv) 2 0 0 O O O O qN O (zo (pC 2 1 O O) O O (zD O (zA (zX ?_))))))))))))
  refine xi (fun(k:Nat) (mv':Value) (ms:List MsgD)=>[(0,pt cb),(39,l.pv),(40,Vj l.qa.length),(41,Vj k)]) (fun(k:Nat) (mv':Value) (ms:List MsgD)=>k≤l.qa.length∧ms.map MsgD.a=jK (jv a t.term r.qc (l.qf.length+1) (es.map EntD.toEntA)) (l.qa.take k)) (fun(k:Nat) (mv':Value) (ms:List MsgD)=>[z4 cb ({t with qE:=t.now}:TimD) (pt ld) a r b yv jb qd (pt ob),Res.nl b lv es,Res.ld ld ({l with qa:=yb (yD (es.map EntD.toEntA)) l.qa k,rv:=rv',qf:=l.qf++[t.now]}:LdD),Res.ou ob ({o with mv:=mv',qj:=o.qj++ms}:OutD)]) (fun(k:Nat) (mv':Value) (ms:List MsgD)=>l.qa.length - k) (fun w' hw=>⟨0,o.mv,[],⟨O,O,O,O,trivial⟩,⟨Nat.zero_le _,O⟩,(by rw[List.append_nil,zEX];exact hw)⟩) (fun k mv' ms g hΦ=> ?_)
  have hkl:=hΦ.1
  have hml:ms.length≤l.qa.length:=by have h1:=congrArg List.length hΦ.2;rw[List.length_map]at h1;have h2:=zIM (g:=jv a t.term r.qc (l.qf.length+1) (es.map EntD.toEntA)) (fun p=>zET) (ps:=l.qa.take k);rw[List.length_take]at h2;omega
  have hpl2:=zDi (f:=yD (es.map EntD.toEntA)) (ps:=l.qa) (k:=k)
  have hms:=hΦ.2
  refine zB (yG O O O (zA (zN (zY O (fun c1=> ?_) (fun c1=> ?_)))))
  ·have hbd:(zG (yb (yD (es.map EntD.toEntA)) l.qa k) k).2.bd 1000000:=by rw[kZ V];exact hp _ (ze V)
   have hmt:=hbd.qy
   refine zO (zN (zX (zB (zi (pC 2 1 O O) 1 k O O O (by show k<(yb (yD (es.map EntD.toEntA)) l.qa k).length;omega) O (yF (pC 2 1 O O) 1 k 0 (fun _=>O) O O (by show k<(yb (yD (es.map EntD.toEntA)) l.qa k).length;omega) O O (zI O (zA (zN (zB (zD O (za O O (zJ (o:=7) O O ?_))))))))))))
   refine x0 (l:=(yb (yD (es.map EntD.toEntA)) l.qa k)) 2 2 k 7 O O qT O O O qN O (zHn (b:=((zG (yb (yD (es.map EntD.toEntA)) l.qa k) k).2).told) O O (zA (zA0 O (fun c2=> ?_) (fun c2=> ?_))))
   ·refine zS (zD O (zD O (zD O (zD O (zD O (za O O (zJ (o:=2) O O (x0 (l:=(yb (yD (es.map EntD.toEntA)) l.qa k)) 2 2 k 2 O O qT O O O qN O (zp O O (xO V) O (za O O (zJ (o:=6) O O ?_)))))))))))
    refine z2 [z4 cb ({t with qE:=t.now}:TimD) (pt ld) a r b yv jb qd (pt ob),Res.nl b lv es,Res.ou ob ({o with mv:=mv',qj:=o.qj++ms}:OutD),yN ld ({l with qa:=yb (yD (es.map EntD.toEntA)) l.qa k,rv:=rv',qf:=l.qf++[t.now]}:LdD),vP l.pv (yb (yD (es.map EntD.toEntA)) l.qa k),sP (yb (yD (es.map EntD.toEntA)) l.qa k),vI l.av l.qe,vT rv' (l.qf++[t.now]),vL l.kv l.qk] (fun w' hw=>hw.qn 2 O) ?_
    refine z2 [z4 cb ({t with qE:=t.now}:TimD) (pt ld) a r b yv jb qd (pt ob),Res.nl b lv es,Res.ou ob ({o with mv:=mv',qj:=o.qj++ms}:OutD),yN ld ({l with qa:=yb (yD (es.map EntD.toEntA)) l.qa k,rv:=rv',qf:=l.qf++[t.now]}:LdD),vP l.pv (yb (yD (es.map EntD.toEntA)) l.qa k),vI l.av l.qe,vT rv' (l.qf++[t.now]),vL l.kv l.qk,x4 ((zG (yb (yD (es.map EntD.toEntA)) l.qa k) k).1) ((zG (yb (yD (es.map EntD.toEntA)) l.qa k) k).2),sP ((yb (yD (es.map EntD.toEntA)) l.qa k).eraseIdx k)] (fun w' hw=>hw.qI (g:=PeerP.dres) (l:=(yb (yD (es.map EntD.toEntA)) l.qa k)) 5 k qT O) ?_
    refine zn 8 O O O O O (za O O (zJ (o:=1) O O (zn 8 O O O O O (za O O (zJ (o:=4) O O (zn 8 O O O O O (za O O (zJ (o:=8) O O (zn 8 O O O O O (zA (j7 (fun(q:PeerM) (pb:Nat)=>[(0,pt cb),(3,pt pb),(39,l.pv),(40,Vj l.qa.length),(41,Vj k)]) (fun(q:PeerM) (pb:Nat)=>q=xd (zG (yb (yD (es.map EntD.toEntA)) l.qa k) k).2∧pb=(zG (zx (yb (yD (es.map EntD.toEntA)) l.qa k) k q) k).1) (fun(q:PeerM) (pb:Nat)=>[z4 cb ({t with qE:=t.now}:TimD) (pt ld) a r b yv jb qd (pt ob),Res.nl b lv es,Res.ld ld ({l with qa:=zx (yb (yD (es.map EntD.toEntA)) l.qa k) k q,rv:=rv',qf:=l.qf++[t.now]}:LdD),Res.ou ob ({o with mv:=mv',qj:=o.qj++ms}:OutD)]) ?_ (fun q pb g hΦ=> ?_))))))))))))
    ·refine zS (zD O (za O O (zJ (o:=7) O O (zn 8 O O O O O ?_))))
     exact zd (fun w' hw=>⟨({(zG (yb (yD (es.map EntD.toEntA)) l.qa k) k).2 with opn:=false,next:=(zG (yb (yD (es.map EntD.toEntA)) l.qa k) k).2.qy+1,qw:=0,asked:=false,told:=false}:PeerM),(zG (yb (yD (es.map EntD.toEntA)) l.qa k) k).1,⟨O,O,O,O,O,trivial⟩,⟨(zLh c2).symm,(kQ V).symm⟩,((hw.peerIn 8 9 4 k ({id:=((zG (yb (yD (es.map EntD.toEntA)) l.qa k) k).2).id,next:=(((zG (yb (yD (es.map EntD.toEntA)) l.qa k) k).2).qy)+1,qy:=((zG (yb (yD (es.map EntD.toEntA)) l.qa k) k).2).qy,round:=((zG (yb (yD (es.map EntD.toEntA)) l.qa k) k).2).round,qw:=0,off:=((zG (yb (yD (es.map EntD.toEntA)) l.qa k) k).2).off,opn:=false,told:=false,asked:=false}:PeerM) qT qM O O O).qo [3,7,8,4,5,6] O qM).sel [0,1,3,2] O qM⟩)
    obtain⟨hq,rfl⟩:=hΦ
    refine zS (zD O (zD O (a_call O O (fun w' hw=>(zBz cb jb ({t with qE:=t.now}:TimD) a r b yv qd _ _ ld ({l with qa:=zx (yb (yD (es.map EntD.toEntA)) l.qa k) k q,rv:=rv',qf:=l.qf++[t.now]}:LdD) ob ({o with mv:=mv',qj:=o.qj++ms}:OutD) k true w' ‹_› qO qO (by show k<(zx (yb (yD (es.map EntD.toEntA)) l.qa k) k q).length;rw[xA];omega) (by show(o.qj++ms).length≤_;rw[List.length_append];omega) (by show(zG (zx (yb (yD (es.map EntD.toEntA)) l.qa k) k q) k).2.bd _;rw[xG V,hq];exact zEV hbd) (by show(l.qf++[t.now]).length≤_;rw[List.length_append];simp;omega) (hw.give [0,1,2,3] O qM)).mono ?_))))
    rintro _ w1 ⟨mv'1_,ms2_,rfl,hf8_2,hO⟩
    refine O4 ?_ (hw.qg [0,1,2,3] O hO)
    refine zA (zS (zp O O (zq V) O (zD O ?_)))
    exact zd (fun w' hw=>⟨k+1,mv'1_,ms++ms2_,⟨O,O,O,O,trivial⟩,⟨by omega,by rw[List.map_append,hms,hf8_2,zCE V,xG V,hq,kZ V,List.length_append];rfl⟩,(by rw[←zEb V hq,←List.append_assoc o.qj];exact hw),V⟩)
   refine zO (j7 (fun(q:PeerM) (pb:Nat)=>[(0,pt cb),(3,pt pb),(39,l.pv),(40,Vj l.qa.length),(41,Vj k)]) (fun(q:PeerM) (pb:Nat)=>q=xd (zG (yb (yD (es.map EntD.toEntA)) l.qa k) k).2∧pb=(zG (zx (yb (yD (es.map EntD.toEntA)) l.qa k) k q) k).1) (fun(q:PeerM) (pb:Nat)=>[z4 cb ({t with qE:=t.now}:TimD) (pt ld) a r b yv jb qd (pt ob),Res.nl b lv es,Res.ld ld ({l with qa:=zx (yb (yD (es.map EntD.toEntA)) l.qa k) k q,rv:=rv',qf:=l.qf++[t.now]}:LdD),Res.ou ob ({o with mv:=mv',qj:=o.qj++ms}:OutD)]) ?_ (fun q pb g hΦ=> ?_))
   ·refine zS (zD O (za O O (zJ (o:=7) O O ?_)))
    refine z2 [z4 cb ({t with qE:=t.now}:TimD) (pt ld) a r b yv jb qd (pt ob),Res.nl b lv es,Res.ou ob ({o with mv:=mv',qj:=o.qj++ms}:OutD),yN ld ({l with qa:=yb (yD (es.map EntD.toEntA)) l.qa k,rv:=rv',qf:=l.qf++[t.now]}:LdD),vP l.pv (yb (yD (es.map EntD.toEntA)) l.qa k),sP (yb (yD (es.map EntD.toEntA)) l.qa k),vI l.av l.qe,vT rv' (l.qf++[t.now]),vL l.kv l.qk] (fun w' hw=>hw.qn 2 O) ?_
    refine z2 [z4 cb ({t with qE:=t.now}:TimD) (pt ld) a r b yv jb qd (pt ob),Res.nl b lv es,Res.ou ob ({o with mv:=mv',qj:=o.qj++ms}:OutD),yN ld ({l with qa:=yb (yD (es.map EntD.toEntA)) l.qa k,rv:=rv',qf:=l.qf++[t.now]}:LdD),vP l.pv (yb (yD (es.map EntD.toEntA)) l.qa k),vI l.av l.qe,vT rv' (l.qf++[t.now]),vL l.kv l.qk,x4 ((zG (yb (yD (es.map EntD.toEntA)) l.qa k) k).1) ((zG (yb (yD (es.map EntD.toEntA)) l.qa k) k).2),sP ((yb (yD (es.map EntD.toEntA)) l.qa k).eraseIdx k)] (fun w' hw=>hw.qI (g:=PeerP.dres) (l:=(yb (yD (es.map EntD.toEntA)) l.qa k)) 5 k qT O) ?_
    refine zn 8 O O O O O ?_
    exact zd (fun w' hw=>⟨({(zG (yb (yD (es.map EntD.toEntA)) l.qa k) k).2 with told:=false}:PeerM),(zG (yb (yD (es.map EntD.toEntA)) l.qa k) k).1,⟨O,O,O,O,O,trivial⟩,⟨(zLi c2).symm,(kQ V).symm⟩,((hw.peerIn 8 9 4 k ({((zG (yb (yD (es.map EntD.toEntA)) l.qa k) k).2)with told:=false}:PeerM) qT qM O O O).qo [3,7,8,4,5,6] O qM).sel [0,1,3,2] O qM⟩)
   obtain⟨hq,rfl⟩:=hΦ
   refine zS (zD O (zD O (a_call O O (fun w' hw=>(zBz cb jb ({t with qE:=t.now}:TimD) a r b yv qd _ _ ld ({l with qa:=zx (yb (yD (es.map EntD.toEntA)) l.qa k) k q,rv:=rv',qf:=l.qf++[t.now]}:LdD) ob ({o with mv:=mv',qj:=o.qj++ms}:OutD) k true w' ‹_› qO qO (by show k<(zx (yb (yD (es.map EntD.toEntA)) l.qa k) k q).length;rw[xA];omega) (by show(o.qj++ms).length≤_;rw[List.length_append];omega) (by show(zG (zx (yb (yD (es.map EntD.toEntA)) l.qa k) k q) k).2.bd _;rw[xG V,hq];exact zEV hbd) (by show(l.qf++[t.now]).length≤_;rw[List.length_append];simp;omega) (hw.give [0,1,2,3] O qM)).mono ?_))))
   rintro _ w1 ⟨mv'3_,ms4_,rfl,hf8_2,hO⟩
   refine O4 ?_ (hw.qg [0,1,2,3] O hO)
   refine zA (zS (zp O O (zq V) O (zD O ?_)))
   exact zd (fun w' hw=>⟨k+1,mv'3_,ms++ms4_,⟨O,O,O,O,trivial⟩,⟨by omega,by rw[List.map_append,hms,hf8_2,zCE V,xG V,hq,kZ V,List.length_append];rfl⟩,(by rw[←zEb V hq,←List.append_assoc o.qj];exact hw),V⟩)
  refine yA O (zB (zD O (a_call O O (fun w' hw=>(zCd cb jb ({t with qE:=t.now}:TimD) a r b (pt ld) yv (pt ob) qd _ _ w' ‹_› qO qO (hw.give [0,1] O qM)).mono ?_))))
  rintro _ w1 ⟨rfl,hO⟩
  refine O4 ?_ (hw.qg [0,1] O hO)
  refine zA (zY O (fun c3=> ?_) (fun c3=> ?_))
  ·refine zg [1,2,3] O qM qN (fun w' hw hS=>zC 0 O zT hS (zC 1 O (zQ O) hS (zC 2 O (zH (o:=9) O) hS (zC 3 O (zZ 1 (v:=pt ld) O O O) hS (zC 4 O zT hS (zC 5 O (zQ O) hS (zC 6 O (zH (o:=9) O) hS (zC 7 O (zZ 1 (v:=pt ld) O O O) hS (zC 8 O (zQ O) hS (zC 9 O (zH (o:=2) O) hS (zK 10 O hw (yC (v:=rv') 0 0 2 O O O O qN O ?_))))))))))))
   refine zE [1,2,3] O qM (fun w' hw hS=>zK 11 O hw (zo (pC 0 4 O O) O O (zE [1,2,3] O qM (fun w' hw hS=>zC 12 O (kV (c:=(((l.qf++[t.now]).length:Nat):Int)) qN O (xO (by simp only[List.length_append,List.length_cons,List.length_nil];omega)) qN) hS (zC 13 O (zQ O) hS (zC 14 O (zH (o:=3) O) hS (zK 15 O hw ?_)))))))
   refine z2 [Res.ou ob ({o with mv:=mv',qj:=o.qj++ms}:OutD),z4 cb ({t with qE:=t.now}:TimD) (pt ld) a r b yv jb qd (pt ob),Res.nl b lv es,yN ld ({l with qa:=yb (yD (es.map EntD.toEntA)) l.qa k,rv:=rv',qf:=l.qf++[t.now]}:LdD),vP l.pv (yb (yD (es.map EntD.toEntA)) l.qa k),sP (yb (yD (es.map EntD.toEntA)) l.qa k),vI l.av l.qe,vT rv' (l.qf++[t.now]),vL l.kv l.qk] (fun w' hw=>hw.qn 0 O) ?_
   refine zn 3 O O O O O (zE [0,1,2] O qM (fun w' hw hS=>zU ?_))
   exact(yJ O (fun w' hw=>⟨mv',rv',ms,O,(by rw[hms,List.take_of_length_le V]),(by rw[if_pos c3,show l.qf.length+1=(l.qf++[t.now]).length by simp,←zCz (k:=k) (f:=yD (es.map EntD.toEntA)) (ps:=l.qa) V];exact(hw.qo [3,4,5,6,7,8] rfl qM).sel [1,2,3,0] rfl qM)⟩)) _ hw
  exact yc (yJ O (fun w' hw=>⟨mv',rv',ms,O,(by rw[hms,List.take_of_length_le V]),(by rw[if_neg c3,←zCz (k:=k) (f:=yD (es.map EntD.toEntA)) (ps:=l.qa) V];exact hw.sel [2,3,0,1] rfl qM)⟩))
end Go.Proofs.YtkkeknmkipkbmaaGreat
