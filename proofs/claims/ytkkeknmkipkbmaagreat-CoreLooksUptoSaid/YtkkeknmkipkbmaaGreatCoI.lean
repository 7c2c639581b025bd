import Derived.Test.YtkkeknmkipkbmaaGreatCoH
set_option linter.unusedSectionVars false
set_option linter.unusedSimpArgs false
set_option linter.unusedVariables false
set_option maxRecDepth 10000
namespace Go.Proofs.YtkkeknmkipkbmaaGreat
open Go Go.Sc Go.Proofs
theorem zJb{S:List Nat}(cb jb:Nat)(t:TimD)(a:StA)(r:RolD)(b:StB)(yv out:Value)(qe:Nat)(lv:Value)(es:List EntD)(ld:Nat)(l:LdD)(self:Nat)(w:World)(hg:(LG 0 0 es).good)(hl:es.length≤1000000)(hvl:b.vs.length≤12)(hpl:l.qa.length≤1000000)(hin:Own w S [z7 cb t (pt ld) a r b yv jb qe out,Res.nl b lv es,Res.ld ld l] w):Rets Tryz.prog 77 #[pt cb,Vn self, .func (.func 199) #[] #[]] w fun u_ w'=>∃ (pv:Value),u_=pv∧Own w S [z7 cb t (pt ld) a r b yv jb qe out,Res.nl b lv es,Res.ld ld l,vU pv (zw a.id (zc b.vs (es.map EntD.toEntA)).vs l.qa self PeerM.round)] w':=by
  refine zW Tryz.func77 O Tryz.ntmps77 hin ?_
  refine zC (zI O (zA (zC (zI O (zA (zP (zC (zD O (a_call O O (fun w' hw=>(xq cb jb t a r b (pt ld) yv out qe _ _ w' ‹_› qO qO (hw.give [0,1] O qM)).mono ?_))))))))))
  rintro _ w1 ⟨cv1_,cw2_,F3_,rfl,hf2_1,hO⟩
  have hFl:F3_.vs.length≤1000∧F3_.ls.length≤1000:=by rw[hf2_1];exact yi V
  refine O5 ?_ (hw.qh [0,1] O hO)
  refine zHN (o:=0) (v:=cv1_) O qN O O (zp (pV 3 O) O O (zD O (zA (zZ ?_))))
  refine y7 (fun(k:Nat) (pv:Value)=>[(0,pt cb),(1,Vn self),(2, .func (.func 199) #[] #[]),(7,pv),(14,cv1_),(15,Vj F3_.vs.length),(16,Vj k)]) (fun(k:Nat) (pv:Value)=>k≤F3_.vs.length) (fun(k:Nat) (pv:Value)=>[Res.ld ld l,z7 cb t (pt ld) a r b yv jb qe out,Res.nl b lv es,vI cv1_ F3_.vs,vI cw2_ F3_.ls,vU pv (zw a.id (F3_.vs.take k) l.qa self PeerM.round)]) (fun(k:Nat) (pv:Value)=>F3_.vs.length - k) (fun w' hw=>⟨0, .slice none 0 0,⟨O,O,O,O,O,O,O,trivial⟩,Nat.zero_le _,(zm hw 22 1)⟩) (fun k pv g hΦ=> ?_)
  have hpl0:(zw a.id (F3_.vs.take k) l.qa self PeerM.round).length≤1000:=by unfold zw;rw[List.length_map,List.length_take];omega
  refine zC (yI O O O (zA (zP (za O (fun c1=> ?_) (fun c1=> ?_)))))
  ·refine zQ (zP (zZ (zC (zk (pV 3 O) 1 k O O O V O (yH (pV 3 O) 1 k 0 (fun _=>O) O O V O O (zI O (zA (zC (zI O (zA (zP (zC ?_))))))))))))
   refine zD O (zD O (zb O O (zK (o:=10) O O (zM 1 (v:=Vi a.id) O O O O (yR O O O (zA (za O (fun c2=> ?_) (fun c2=> ?_))))))))
   ·have hpm:=zAO (ps:=l.qa) (self:=self) (of:=PeerM.round) c2
    refine zV (zD O (zI O (zA (zV (zD O (zD O (zx (e:=22) (sz:=1) (vs:=[Vn self]) qN O O qR qM O (fun b37=>zy (g:=U1) (sz:=1) (by':=8) (fun _=>O) (l:=(zw a.id (F3_.vs.take k) l.qa self PeerM.round)) (l':=[self]) qZ 5 qN O O O (fun w' hw'=>Vec.sl (Own.holds hw' 6 _ O)) qO qM O (fun v38=>zI O (zA (zV (zt O O (zr V) O ?_))))))))))))
    refine zD O ?_
    exact zg (fun w' hw=>⟨k+1,v38,⟨O,O,O,O,O,O,O,trivial⟩,V,(by rw[zu V,x5,hpm];exact hw.sel [0,1,2,3,4,5] rfl qM),V⟩)
   refine zC (zD O (zD O (a_call O O (fun w' hw=>(zDj cb jb t a r b yv out qe ld _ (zG F3_.vs k) w' qO (hw.give [1,0] O qM)).mono ?_))))
   rintro _ w1 ⟨pv4_,rfl,hf8_2,hO⟩
   refine O6 ?_ (hw.qh [1,0] O hO)
   refine zI O (zA (zC (zD O (zBU qN O O O (zA (zAu O (fun c3=> ?_) (fun c3=> ?_)))))))
   ·obtain⟨j,hj,rfl,hji,hix⟩:=PeerIs.some hf8_2 c3
    have hpm:=jV (self:=self) (of:=PeerM.round) c2 hix
    refine zV (zD O (zD O (yV (fst:=[]) (cap:=[]) O qN O O (fun w' hw=>(zQM ((zG l.qa j).1) ((zG l.qa j).2) w' (hw.partStar0 5 2 j O O qT)).mono ?_))))
    rintro _ w1 ⟨rfl,hO⟩
    refine O6 ?_ (hw.qi hO)
    refine zI O (zA (zV (zD O (zD O (zx (e:=22) (sz:=1) (vs:=[Vn (((zG l.qa j).2).round)]) qN O O qR qM O (fun b37=>zy (g:=U1) (sz:=1) (by':=8) (fun _=>O) (l:=(zw a.id (F3_.vs.take k) l.qa self PeerM.round)) (l':=[((zG l.qa j).2).round]) qZ 3 qN O O O (fun w' hw'=>Vec.sl (Own.holds hw' 6 _ O)) qO qM O (fun v38=>zI O (zA (zV (zt O O (zr V) O (zD O ?_)))))))))))
    exact zg (fun w' hw=>⟨k+1,v38,⟨O,O,O,O,O,O,O,trivial⟩,V,(by rw[zu V,x5,hpm];exact hw.sel [5,4,0,1,2,3] rfl qM),V⟩)
   have hpm:=jU (self:=self) (of:=PeerM.round) c2 (PeerIs.none hf8_2 c3)
   refine zQ (zV (zD O (zD O (zx (e:=22) (sz:=1) (vs:=[Vn 0]) qN O O qR qM O (fun b37=>zy (g:=U1) (sz:=1) (by':=8) (fun _=>O) (l:=(zw a.id (F3_.vs.take k) l.qa self PeerM.round)) (l':=[0]) qZ 3 qN O O O (fun w' hw'=>Vec.sl (Own.holds hw' 6 _ O)) qO qM O (fun v38=>zI O (zA (zV (zt O O (zr V) O (zD O ?_))))))))))
   exact zg (fun w' hw=>⟨k+1,v38,⟨O,O,O,O,O,O,O,trivial⟩,V,(by rw[zu V,x5,hpm];exact hw.sel [5,4,0,1,2,3] rfl qM),V⟩)
  refine yF O (zC (zD O (zI O (zA ?_))))
  exact zU (z9 (v:=pv) O O (fun w' hw=>⟨pv,O,(by rw[List.take_of_length_le V,hf2_1]at hw;exact hw.sel [1,2,0,5] rfl qM)⟩))
def y2(at_:Nat)(p:PeerM):PeerM:={p with qy:=max p.qy at_,next:=max p.next (at_+1),opn:=true,qx:=if at_+1≥p.next then 0 else max (p.qx - 1) 0,off:=0,asked:=false}
def zAF(a:StA)(term:Nat)(c:Prop)[Decidable c](p:PeerM):List MsgA:=if c then [⟨9,a.id,p.id,term,0,0,0,0,false,[],⟨[],[]⟩,0,[]⟩]else []
def zGv(a:StA)(term:Nat)(c:Prop)[Decidable c](p:PeerM):List MsgD:=if c then [yg a term (yw 9 0 p.id 0 0 0 0 0 false (.slice none 0 0) [])]else []
theorem zL4{a:StA}{term:Nat}{c:Prop}[Decidable c]{p:PeerM}:(zGv a term c p).map MsgD.a=zAF a term c p:=by unfold zGv zAF;split<;>rfl
theorem zPJ{at_:Nat}{p:PeerM}(h:p.next≤at_+1):({p with qy:=max p.qy at_,next:=max p.next (at_+1),opn:=true,qx:=0}:PeerM)={y2 at_ p with off:=p.off,asked:=p.asked}:=by unfold y2;rw[if_pos V]
theorem zPS{at_:Nat}{p:PeerM}(h:¬ p.next≤at_+1):({p with qy:=max p.qy at_,next:=max p.next (at_+1),opn:=true,qx:=max (p.qx - 1) 0}:PeerM)={y2 at_ p with off:=p.off,asked:=p.asked}:=by unfold y2;rw[if_neg V]
theorem zM0{at_ n:Nat}{p:PeerM}(ha:at_≤n)(h:p.bd n):(y2 at_ p).bd n:=by
  have h1:=h.next;have h2:=h.qy;have h3:=h.qx
  refine⟨?_,?_,?_⟩
  · show 1≤max p.next (at_+1)∧max p.next (at_+1)≤n+1;omega
  · show max p.qy at_≤n;omega
  show 0≤(if at_+1≥p.next then 0 else max (p.qx - 1) 0)∧(if at_+1≥p.next then 0 else max (p.qx - 1) 0)≤4;split<;>omega
theorem zBp{ps:List PeerP}{k:Nat}{q:PeerM}{P:PeerM→Prop}(h:∀ p∈ps,P p.2)(hq:P q):∀ p∈z5 ps k q,P p.2:=by
  intro p hm
  rcases List.mem_or_eq_of_mem_set hm with h1|rfl
  · exact h p h1
  exact hq
theorem zQv{S:List Nat}(cb jb:Nat)(t:TimD)(a:StA)(r:RolD)(b:StB)(yv:Value)(qe:Nat)(lv:Value)(es:List EntD)(ld:Nat)(l:LdD)(ob:Nat)(o:OutD)(k at_:Nat)(w:World)(hg:(LG 0 0 es).good)(hl:es.length≤1000000)(hvl:b.vs.length≤12)(hpl:l.qa.length≤1000)(hk:k<l.qa.length)(ho:o.qk.length≤10000)(hp:∀ p∈l.qa,p.2.bd 1000000)(hr:l.qd.length≤1000000)(hcl:(zc b.vs (es.map EntD.toEntA)).vs.length≤12)(hat:at_≤es.length)(hin:Own w S [z7 cb t (pt ld) a r b yv jb qe (pt ob),Res.nl b lv es,Res.ld ld l,Res.ou ob o] w):Rets Tryz.prog 174 #[pt cb,pt ((zG l.qa k).1),Vn at_] w fun u_ w'=>∃ (mv':Value) (ms:List MsgD),u_= .tuple #[]∧ms.map MsgD.a=zAF a t.term (y6 l (y2 at_ (zG l.qa k).2) es.length false) (y2 at_ (zG l.qa k).2)++xM a t.term (yY a t.term b.vs (es.map EntD.toEntA) (z5 l.qa k (y2 at_ (zG l.qa k).2)) r.qc) l.qd.length (es.map EntD.toEntA) (y2 at_ (zG l.qa k).2) false∧Own w S [z7 cb t (pt ld) a ({r with qc:=yY a t.term b.vs (es.map EntD.toEntA) (z5 l.qa k (y2 at_ (zG l.qa k).2)) r.qc}:RolD) b yv jb qe (pt ob),Res.nl b lv es,Res.ld ld ({l with qa:=z5 l.qa k (yq (es.map EntD.toEntA) (y2 at_ (zG l.qa k).2)),qB:=if y6 l (y2 at_ (zG l.qa k).2) es.length false then true else l.qB}:LdD),Res.ou ob ({o with mv:=mv',qk:=o.qk++ms}:OutD)] w':=by
  have hbd:=hp _ (zd hk)
  have hbn:=hbd.next
  have hbf:=hbd.qx
  have hl1:(es.map EntD.toEntA).length=es.length:=List.length_map _
  refine zW Tryz.func174 O Tryz.ntmps174 hin ?_
  refine zC (zD O (zD O (zb O O (zK (o:=2) O O (kE (l:=l.qa) 2 2 k 2 O O qT O O O qN O (zD O (zD9 (c:=((max (((zG l.qa k).2).qy) at_:Nat):Int)) O O (zFE _ _) O (zb O O (zK (o:=2) O O ?_)))))))))
  refine z4 [z7 cb t (pt ld) a r b yv jb qe (pt ob),Res.nl b lv es,Res.ou ob o,yP ld l,vP l.pv l.qa,sP l.qa,vI l.av l.qf,vT l.rv l.qd,vL l.kv l.qj] (fun w' hw=>hw.qn 2 O) ?_
  refine z4 [z7 cb t (pt ld) a r b yv jb qe (pt ob),Res.nl b lv es,Res.ou ob o,yP ld l,vP l.pv l.qa,vI l.av l.qf,vT l.rv l.qd,vL l.kv l.qj,kF ((zG l.qa k).1) ((zG l.qa k).2),sP (l.qa.eraseIdx k)] (fun w' hw=>hw.qI (g:=PeerP.dres) (l:=l.qa) 5 k qT O) ?_
  refine zn (cs:=(PeerM.cells ((zG l.qa k).2))) 8 O O O O O (zA (zC (zD O (zD O (zb O O (zK (o:=1) O O (zM 8 (v:=Vn (((zG l.qa k).2).next)) O O O O (zD O (zt O O (xA V) O (zD9 (c:=((max (((zG l.qa k).2).next) (at_+1):Nat):Int)) O O (zFE _ _) O (zb O O (zK (o:=1) O O ?_))))))))))))
  refine zn 8 O O O O O (zA (zC (zD O (zb O O (zK (o:=6) O O (zn 8 O O O O O (zA (yt (fun(q:PeerM)=>[(0,pt cb),(1,pt ((zG l.qa k).1))]) (fun(q:PeerM)=>q={y2 at_ (zG l.qa k).2 with off:=(zG l.qa k).2.off,asked:=(zG l.qa k).2.asked}) (fun(q:PeerM)=>[z7 cb t (pt ld) a r b yv jb qe (pt ob),Res.nl b lv es,Res.ou ob o,yP ld l,vP l.pv l.qa,vI l.av l.qf,vT l.rv l.qd,vL l.kv l.qj,Res.row (zG l.qa k).1 162 [Vi q.id,Vn q.next,Vn q.qy,Vn q.round,Vi q.qx,Vi q.off, .bool q.opn, .bool q.told, .bool q.asked],sP (l.qa.eraseIdx k)]) ?_ (fun q g hΦ=> ?_)))))))))
  ·refine zC (zD O (zt O O (xA V) O (zD O (zb O O (zK (o:=1) O O (zM 8 (v:=Vn (max (((zG l.qa k).2).next) (at_+1))) O O O O (kK O O O (zA (za O (fun c1=> ?_) (fun c1=> ?_))))))))))
   ·refine zV (zD O (zb O O (zK (o:=4) O O (zn 8 O O O O O ?_))))
    exact zg (fun w' hw=>⟨({(zG l.qa k).2 with qy:=max (zG l.qa k).2.qy at_,next:=max (zG l.qa k).2.next (at_+1),opn:=true,qx:=0}:PeerM),⟨O,O,trivial⟩,zPJ V,hw⟩)
   refine zV (zD O (zD O (zb O O (zK (o:=4) O O (zM 8 (v:=Vi (((zG l.qa k).2).qx)) O O O O (x8 O O (zr V) O (zD9 (c:=max ((((zG l.qa k).2).qx) - 1) 0) O O (zQm _ _) O (zb O O (zK (o:=4) O O (zn 8 O O O O O ?_))))))))))
   exact zg (fun w' hw=>⟨({(zG l.qa k).2 with qy:=max (zG l.qa k).2.qy at_,next:=max (zG l.qa k).2.next (at_+1),opn:=true,qx:=max ((zG l.qa k).2.qx - 1) 0}:PeerM),⟨O,O,trivial⟩,zPS V,hw⟩)
  have hq:=hΦ
  have hq2:y2 at_ (zG l.qa k).2={q with off:=0,asked:=false}:=by rw[hq];rfl
  refine yt (fun(pb:Nat)=>[(0,pt cb),(1,pt pb)]) (fun(pb:Nat)=>pb=(zG (z5 l.qa k (y2 at_ (zG l.qa k).2)) k).1) (fun(pb:Nat)=>[z7 cb t (pt ld) a r b yv jb qe (pt ob),Res.nl b lv es,Res.ou ob o,Res.ld ld ({l with qa:=(z5 l.qa k (y2 at_ (zG l.qa k).2))}:LdD)]) ?_ (fun pb g hΦ=> ?_)
  ·refine zV (zD O (zD O (zb O O (zK (o:=5) O O (zn 8 O O O O O (zb O O (zK (o:=8) O O (zn 8 O O O O O ?_))))))))
   exact zg (fun w' hw=>⟨(zG l.qa k).1,⟨O,O,trivial⟩,(kX hk).symm,(by rw[hq2];exact((hw.peerIn 8 9 4 k ({q with off:=0,asked:=false}:PeerM) qT qM rfl rfl rfl).qo [3,7,8,4,5,6] rfl qM))⟩)
  subst hΦ
  have hbd2:=zM0 (at_:=at_) V hbd
  have hpm:∀ p∈(z5 l.qa k (y2 at_ (zG l.qa k).2)),p.2.qy≤1000000:=zBp (P:=fun p=>p.qy≤1000000) (fun p h=>(hp p h).qy) hbd2.qy
  refine zC (zD O (a_call O O (fun w' hw=>(zC0 cb jb t a r b yv (pt ob) qe _ _ ld ({l with qa:=(z5 l.qa k (y2 at_ (zG l.qa k).2))}:LdD) w' ‹_› qO qO (by show(z5 l.qa k (y2 at_ (zG l.qa k).2)).length≤_;rw[xG];omega) hcl hpm (hw.give [0,1,3] O qM)).mono ?_)))
  rintro _ w1 ⟨rfl,hO⟩
  refine O4 ?_ (hw.qh [0,1,3] O hO)
  refine zA (zC (zD O (zD O (a_call O O (fun w' hw=>(zLv cb jb t a ({r with qc:=yY a t.term b.vs (es.map EntD.toEntA) ({l with qa:=(z5 l.qa k (y2 at_ (zG l.qa k).2))}:LdD).qa r.qc}:RolD) b yv qe _ _ ld ({l with qa:=(z5 l.qa k (y2 at_ (zG l.qa k).2))}:LdD) ob _ k false w' ‹_› qO qO (by show k<(z5 l.qa k (y2 at_ (zG l.qa k).2)).length;rw[xG];exact hk) qO (hw.give [1,2,3,0] O qM)).mono ?_)))))
  rintro _ w1 ⟨mv'1_,rfl,hO⟩
  refine O4 ?_ (hw.qh [1,2,3,0] O hO)
  refine zA (zV (zD O (zD O (a_call O O (fun w' hw=>(zB6 cb jb t a ({r with qc:=yY a t.term b.vs (es.map EntD.toEntA) ({l with qa:=(z5 l.qa k (y2 at_ (zG l.qa k).2))}:LdD).qa r.qc}:RolD) b yv qe _ _ ld ({({l with qa:=(z5 l.qa k (y2 at_ (zG l.qa k).2))}:LdD)with qB:=if y6 ({l with qa:=(z5 l.qa k (y2 at_ (zG l.qa k).2))}:LdD) (zG ({l with qa:=(z5 l.qa k (y2 at_ (zG l.qa k).2))}:LdD).qa k).2 es.length false then true else({l with qa:=(z5 l.qa k (y2 at_ (zG l.qa k).2))}:LdD).qB}:LdD) ob ({o with mv:=mv'1_,qk:=o.qk++(if y6 ({l with qa:=(z5 l.qa k (y2 at_ (zG l.qa k).2))}:LdD) (zG ({l with qa:=(z5 l.qa k (y2 at_ (zG l.qa k).2))}:LdD).qa k).2 es.length false then [yg a t.term (yw 9 0 (zG ({l with qa:=(z5 l.qa k (y2 at_ (zG l.qa k).2))}:LdD).qa k).2.id 0 0 0 0 0 false (.slice none 0 0) [])]else [])}:OutD) k false w' ‹_› qO qO (by show k<(z5 l.qa k (y2 at_ (zG l.qa k).2)).length;rw[xG];exact hk) (by show(o.qk++_).length≤_;rw[List.length_append];split<;>simp<;>omega) (by show(zG (z5 l.qa k (y2 at_ (zG l.qa k).2)) k).2.bd _;rw[xL hk];exact hbd2) qP (hw.give [0,1,2,3] O qM)).mono ?_)))))
  rintro _ w1 ⟨mv'2_,ms3_,rfl,hf9_2,hO⟩
  refine O4 ?_ (hw.qh [0,1,2,3] O hO)
  exact zg (yQ O (fun w' hw=>⟨mv'2_,zGv a t.term (y6 l (y2 at_ (zG l.qa k).2) es.length false) (y2 at_ (zG l.qa k).2)++ms3_,O,(by rw[List.map_append,zL4,hf9_2,xL hk]),(by rw[xL hk,jw hk,List.append_assoc o.qk]at hw;exact hw)⟩))
def LookM.rdy(q:LookM):RdyD:=⟨q.id,q.index⟩
def xa(a:StA)(vs0:List Int)(E:List EntA)(ps:List PeerP)(qd:List Int)(sure:Nat):Nat:=
  if(zc vs0 E).ok∧sure<xY (zw a.id (zc vs0 E).vs ps qd.length PeerM.round)then xY (zw a.id (zc vs0 E).vs ps qd.length PeerM.round)else 0
def x9(n:Nat)(kv:Value)(l:LdD):LdD:=if n=0 then l else{l with sure:=n,kv:=kv,qj:=l.qj.filter (fun q=>¬ q.round≤n)}
def xZ(n:Nat)(qd:List Int)(t:TimD):TimD:=if n=0 then t else{t with qA:=zG qd (n - 1)}
def zAR(n:Nat)(rv:Value)(qj:List LookM)(o:OutD):OutD:=if n=0 then o else{o with rv:=rv,qw:=o.qw++(qj.filter (fun q=>q.round≤n)).map LookM.rdy}
theorem zMj{a:StA}{vs0:List Int}{E:List EntA}{ps:List PeerP}{qd:List Int}{sure n:Nat}(h:((zc vs0 E).ok→n=xY (zw a.id (zc vs0 E).vs ps qd.length PeerM.round)∧n∈zw a.id (zc vs0 E).vs ps qd.length PeerM.round)∧(¬(zc vs0 E).ok→n=0))(hn:n≤sure):xa a vs0 E ps qd sure=0:=by
  unfold xa
  rw[if_neg]
  rintro⟨h1,h2⟩
  rw[←(h.1 h1).1]at h2;omega
theorem zJT{a:StA}{vs0:List Int}{E:List EntA}{ps:List PeerP}{qd:List Int}{sure n:Nat}(h:((zc vs0 E).ok→n=xY (zw a.id (zc vs0 E).vs ps qd.length PeerM.round)∧n∈zw a.id (zc vs0 E).vs ps qd.length PeerM.round)∧(¬(zc vs0 E).ok→n=0))(hn:¬ n≤sure):xa a vs0 E ps qd sure=n:=by
  unfold xa
  by_cases q:(zc vs0 E).ok
  · rw[←(h.1 q).1,if_pos ⟨q,by omega⟩]
  have:=h.2 q;omega
theorem zNo{n:Nat}{kv:Value}{l:LdD}(h:n=0):x9 n kv l=l:=if_pos h
theorem zNU{n:Nat}{qd:List Int}{t:TimD}(h:n=0):xZ n qd t=t:=if_pos h
theorem zN6{n:Nat}{rv:Value}{qj:List LookM}{o:OutD}(h:n=0):zAR n rv qj o=o:=if_pos h
theorem zNz{n:Nat}{kv:Value}{l:LdD}(h:¬ n=0):x9 n kv l={l with sure:=n,kv:=kv,qj:=l.qj.filter (fun q=>¬ q.round≤n)}:=if_neg h
theorem zNV{n:Nat}{qd:List Int}{t:TimD}(h:¬ n=0):xZ n qd t={t with qA:=zG qd (n - 1)}:=if_neg h
theorem zOI{n:Nat}{rv:Value}{qj:List LookM}{o:OutD}(h:¬ n=0):zAR n rv qj o={o with rv:=rv,qw:=o.qw++(qj.filter (fun q=>q.round≤n)).map LookM.rdy}:=if_neg h
theorem zDg{α:Type}[Inhabited α]{P:α→Prop}[DecidablePred P]{l:List α}{k:Nat}(hk:k<l.length)(h:P (zG l k)):(l.take (k+1)).filter (fun q=>P q)=(l.take k).filter (fun q=>P q)++[zG l k]:=by
  rw[zu hk,List.filter_append];simp[h]
theorem zG4{α:Type}[Inhabited α]{P:α→Prop}[DecidablePred P]{l:List α}{k:Nat}(hk:k<l.length)(h:¬ P (zG l k)):(l.take (k+1)).filter (fun q=>P q)=(l.take k).filter (fun q=>P q):=by
  rw[zu hk,List.filter_append];simp[h]
theorem _root_.Go.Sc.wm{p:Prop}(h:p:=by simp[Value.cells,LookM.cells]):p:=h
theorem _root_.Go.Sc.wn{p:Prop}(h:p:=by simp[cell1,LookM.cells,vu]):p:=h
theorem _root_.Go.Sc.wo{p:Prop}(h:p:=by simp[Value.cells,RdyD.cells]):p:=h
theorem _root_.Go.Sc.wq{p:Prop}(h:p:=by simp[cell1,RdyD.cells,vu]):p:=h
theorem zOt{S:List Nat}(cb jb:Nat)(t:TimD)(a:StA)(r:RolD)(b:StB)(yv:Value)(qe:Nat)(lv:Value)(es:List EntD)(ld:Nat)(l:LdD)(ob:Nat)(o:OutD)(w:World)(hg:(LG 0 0 es).good)(hl:es.length≤1000000)(hvl:b.vs.length≤12)(hpl:l.qa.length≤1000)(hr:l.qd.length≤1000000)(hcl:(zc b.vs (es.map EntD.toEntA)).vs.length≤12)(hpr:∀ p∈l.qa,p.2.round≤l.qd.length)(hlk:l.qj.length≤10000)(hrd:o.qw.length≤10000)(hin:Own w S [z7 cb t (pt ld) a r b yv jb qe (pt ob),Res.nl b lv es,Res.ld ld l,Res.ou ob o] w):Rets Tryz.prog 175 #[pt cb] w fun u_ w'=>∃ (rv' kv':Value),u_= .tuple #[]∧Own w S [z7 cb (xZ (xa a b.vs (es.map EntD.toEntA) l.qa l.qd l.sure) l.qd t) (pt ld) a r b yv jb qe (pt ob),Res.nl b lv es,Res.ld ld (x9 (xa a b.vs (es.map EntD.toEntA) l.qa l.qd l.sure) kv' l),Res.ou ob (zAR (xa a b.vs (es.map EntD.toEntA) l.qa l.qd l.sure) rv' l.qj o)] w':=by
  refine zW Tryz.func175 O Tryz.ntmps175 hin ?_
  refine zP (ze [0,1,2,3] O qM qN (fun w' hw hS=>zB 0 O zS hS (zB 2 O zS hS (zB 3 O zS hS (zB 4 O (zO O) hS (zB 5 O (zH (o:=9) O) hS (zB 6 O (zY 0 (v:=pt ld) O O O) hS (zB 7 O (zO O) hS (zB 8 O (zH (o:=2) O) hS (zB 9 O (jz (v:=l.rv) 2 0 2 O O O O qN) hS (zB 10 O (zAA (pC 2 4 O O) O) hS (zB 11 O (x7 qN O (xA V) qN) hS ?_))))))))))))
  refine zJ 1 O hw (a_call O O (fun w' hw=>(xq cb jb t a r b (pt ld) yv (pt ob) qe _ _ w' ‹_› qO qO (hw.give [0,1] O qM)).mono ?_))
  rintro _ w1 ⟨cv1_,cw2_,F3_,rfl,hf0_1,hO⟩
  have hFl:F3_.vs.length≤1000∧F3_.ls.length≤1000:=by rw[hf0_1];exact yi V
  refine O6 ?_ (hw.qh [0,1] O hO)
  refine zE [2,3,0,1] O qM (fun w' hw hS=>zJ 12 O hw (a_call O O (fun w' hw=>(zJb cb jb t a r b yv (pt ob) qe _ _ ld _ l.qd.length w' ‹_› qO qO qO (hw.give [2,3,0] O qM)).mono ?_)))
  rintro pv4_ w1 ⟨_,rfl,hO⟩
  refine O7 ?_ (hw.qh [2,3,0] O hO)
  refine zE [3,4,5,0] O qM (fun w' hw hS=>zJ 13 O hw (a_call O O (fun w' hw=>(zEk ({vv:=cv1_,vs:=F3_.vs,lv:=cw2_,ls:=F3_.ls}:ConfD) pv4_ (zw a.id (zc b.vs (es.map EntD.toEntA)).vs l.qa l.qd.length PeerM.round) w' qP (by rw[jc];exact hcl) (hw.give [6] O qM) ⟨(hw.rdVec 1 O [6] O O),(hw.rdVec 2 O [6] O O)⟩).mono ?_)))
  rintro _ w1 ⟨n5_,e6_,rfl,hf0_13,hO⟩
  have hrf:=zDr (F:=zc b.vs (es.map EntD.toEntA)) (by rw[←hf0_1];exact Iff.rfl) (by rw[←hf0_1]) jc hf0_13
  have hnr:n5_≤l.qd.length:=by
   by_cases q:(zc b.vs (es.map EntD.toEntA)).ok
   · exact zC3 (Nat.le_refl _) hpr _ (hrf.1 q).2
   have:=hrf.2 q;omega
  refine O7 ?_ (hw.qh [6] O hO)
  refine zE [3,4,5,0] O qM (fun w' hw hS=>zB 14 O zS hS (zB 15 O (yT (vs:=[Vn n5_,Vi e6_]) O O) hS (zB 16 O (yT (vs:=[Vn n5_,Vi e6_]) O O) hS (zB 17 O yO hS (zB 18 O yO hS (zT ?_))))))
  refine Oc7 ?_ hw
  refine zP (zC (zD O (zD O (zb O O (zK (o:=9) O O (zM 3 (v:=pt ld) O O O O (zb O O (zK (o:=3) O O (z6 (v:=Vn l.sure) 5 0 3 O O O O qN O (x6 O O O (zA (za O (fun c1=> ?_) (fun c1=> ?_)))))))))))))
  ·have hN:=zMj (sure:=l.sure) hrf V
   exact zU (yQ O (fun w' hw=>⟨o.rv,l.kv,O,(by rw[zNU hN,zNo hN,zN6 hN];exact hw.sel [3,4,5,0] rfl qM)⟩))
  have hN:=zJT (sure:=l.sure) hrf V
  refine zQ (zBD ([(0,pt cb),(2,Vn n5_)]) (True) ([Res.ou ob o,vI cv1_ F3_.vs,vI cw2_ F3_.ls,z7 cb ({t with qA:=(zG l.qd (n5_ - 1))}:TimD) (pt ld) a r b yv jb qe (pt ob),Res.nl b lv es,vU pv4_ (zw a.id (zc b.vs (es.map EntD.toEntA)).vs l.qa l.qd.length PeerM.round),yP ld ({l with sure:=n5_}:LdD),vP l.pv l.qa,sP l.qa,vI l.av l.qf,vT l.rv l.qd,vL l.kv l.qj]) ?_ (fun g hΦ=> ?_))
  ·refine ze [0,1,2,4,6] O qM qN (fun w' hw hS=>zB 0 O zS hS (zB 1 O (zO O) hS (zB 2 O (zH (o:=9) O) hS (zB 4 O zS hS (zB 5 O zS hS (zB 6 O zS hS (zB 7 O (zO O) hS (zB 8 O (zH (o:=9) O) hS (zB 13 O zS hS (zB 14 O (xl (c:=((n5_ - 1:Nat):Int)) O O (ws (a:=n5_) (b:=1) V V)) hS (zq 3 9 ?_ ?_)))))))))))
   ·refine zl 3 O hw (zM 3 (v:=pt ld) O O O O (zE [0,1,2,4,6] O qM (fun w' hw hS=>zJ 9 O hw (zM 3 (v:=pt ld) O O O O (zE [0,1,2,4,6] O qM (fun w' hw hS=>zB 10 O (zO O) hS (zB 11 O (zH (o:=2) O) hS (zJ 12 O hw (z6 (v:=l.rv) 5 0 2 O O O O qN O (zE [0,1,2,4,6] O qM (fun w' hw hS=>zJ 15 O hw (zk (pC 5 4 O O) 1 (n5_ - 1) O O O V O ?_))))))))))))
    refine zE [0,1,2,4,6] O qM (fun w' hw hS=>zJ 16 O hw (yH (pC 5 4 O O) 1 (n5_ - 1) 0 (fun _=>O) O O V O O (zE [0,1,2,4,6] O qM (fun w' hw hS=>zB 17 O (zO O) hS (zB 18 O (zH (o:=3) O) hS (zJ 19 O hw ?_))))))
    refine z4 [Res.ou ob o,vI cv1_ F3_.vs,vI cw2_ F3_.ls,z7 cb t (pt ld) a r b yv jb qe (pt ob),Res.nl b lv es,vU pv4_ (zw a.id (zc b.vs (es.map EntD.toEntA)).vs l.qa l.qd.length PeerM.round),yP ld l,vP l.pv l.qa,sP l.qa,vI l.av l.qf,vT l.rv l.qd,vL l.kv l.qj] (fun w' hw=>hw.qn 5 O) ?_
    refine zn (cs:=(LdD.cells l)) 6 O O O O O (zE [0,1,2,4,5] O qM (fun w' hw hS=>zB 20 O (zO O) hS (zB 21 O (zH (o:=2) O) hS (zB 22 O (zH (o:=1) O) hS (zJ 23 O hw (zn 3 O O O O O (zE [0,1,2,4,5] O qM (fun w' hw hS=>zT ?_))))))))
    exact⟨⟨O,O,trivial⟩,trivial,hw⟩
   refine zl 9 O hw (zM 3 (v:=pt ld) O O O O (zE [0,1,2,4,6] O qM (fun w' hw hS=>zB 10 O (zO O) hS (zB 11 O (zH (o:=2) O) hS (zq 3 12 ?_ ?_)))))
   ·refine zl 3 O hw (zM 3 (v:=pt ld) O O O O (zE [0,1,2,4,6] O qM (fun w' hw hS=>zJ 12 O hw (z6 (v:=l.rv) 5 0 2 O O O O qN O (zE [0,1,2,4,6] O qM (fun w' hw hS=>zJ 15 O hw (zk (pC 5 4 O O) 1 (n5_ - 1) O O O V O (zE [0,1,2,4,6] O qM (fun w' hw hS=>zJ 16 O hw (yH (pC 5 4 O O) 1 (n5_ - 1) 0 (fun _=>O) O O V O O (zE [0,1,2,4,6] O qM (fun w' hw hS=>zB 17 O (zO O) hS ?_))))))))))))
    refine zB 18 O (zH (o:=3) O) hS (zJ 19 O hw ?_)
    refine z4 [Res.ou ob o,vI cv1_ F3_.vs,vI cw2_ F3_.ls,z7 cb t (pt ld) a r b yv jb qe (pt ob),Res.nl b lv es,vU pv4_ (zw a.id (zc b.vs (es.map EntD.toEntA)).vs l.qa l.qd.length PeerM.round),yP ld l,vP l.pv l.qa,sP l.qa,vI l.av l.qf,vT l.rv l.qd,vL l.kv l.qj] (fun w' hw=>hw.qn 5 O) ?_
    refine zn (cs:=(LdD.cells l)) 6 O O O O O (zE [0,1,2,4,5] O qM (fun w' hw hS=>zB 20 O (zO O) hS (zB 21 O (zH (o:=2) O) hS (zB 22 O (zH (o:=1) O) hS (zJ 23 O hw (zn 3 O O O O O (zE [0,1,2,4,5] O qM (fun w' hw hS=>zT ?_))))))))
    exact⟨⟨O,O,trivial⟩,trivial,hw⟩
   refine zl 12 O hw (z6 (v:=l.rv) 5 0 2 O O O O qN O (zE [0,1,2,4,6] O qM (fun w' hw hS=>zq 3 15 ?_ ?_)))
   ·refine zl 3 O hw (zM 3 (v:=pt ld) O O O O (zE [0,1,2,4,6] O qM (fun w' hw hS=>zJ 15 O hw (zk (pC 5 4 O O) 1 (n5_ - 1) O O O V O (zE [0,1,2,4,6] O qM (fun w' hw hS=>zJ 16 O hw (yH (pC 5 4 O O) 1 (n5_ - 1) 0 (fun _=>O) O O V O O (zE [0,1,2,4,6] O qM (fun w' hw hS=>zB 17 O (zO O) hS (zB 18 O (zH (o:=3) O) hS (zJ 19 O hw ?_)))))))))))
    refine z4 [Res.ou ob o,vI cv1_ F3_.vs,vI cw2_ F3_.ls,z7 cb t (pt ld) a r b yv jb qe (pt ob),Res.nl b lv es,vU pv4_ (zw a.id (zc b.vs (es.map EntD.toEntA)).vs l.qa l.qd.length PeerM.round),yP ld l,vP l.pv l.qa,sP l.qa,vI l.av l.qf,vT l.rv l.qd,vL l.kv l.qj] (fun w' hw=>hw.qn 5 O) ?_
    refine zn (cs:=(LdD.cells l)) 6 O O O O O (zE [0,1,2,4,5] O qM (fun w' hw hS=>zB 20 O (zO O) hS (zB 21 O (zH (o:=2) O) hS (zB 22 O (zH (o:=1) O) hS (zJ 23 O hw (zn 3 O O O O O (zE [0,1,2,4,5] O qM (fun w' hw hS=>zT ?_))))))))
    exact⟨⟨O,O,trivial⟩,trivial,hw⟩
   refine zl 15 O hw (zk (pC 5 4 O O) 1 (n5_ - 1) O O O V O (zE [0,1,2,4,6] O qM (fun w' hw hS=>zq 3 16 ?_ ?_)))
   ·refine zl 3 O hw (zM 3 (v:=pt ld) O O O O (zE [0,1,2,4,6] O qM (fun w' hw hS=>zJ 16 O hw (yH (pC 5 4 O O) 1 (n5_ - 1) 0 (fun _=>O) O O V O O (zE [0,1,2,4,6] O qM (fun w' hw hS=>zB 17 O (zO O) hS (zB 18 O (zH (o:=3) O) hS (zJ 19 O hw ?_))))))))
    refine z4 [Res.ou ob o,vI cv1_ F3_.vs,vI cw2_ F3_.ls,z7 cb t (pt ld) a r b yv jb qe (pt ob),Res.nl b lv es,vU pv4_ (zw a.id (zc b.vs (es.map EntD.toEntA)).vs l.qa l.qd.length PeerM.round),yP ld l,vP l.pv l.qa,sP l.qa,vI l.av l.qf,vT l.rv l.qd,vL l.kv l.qj] (fun w' hw=>hw.qn 5 O) ?_
    refine zn (cs:=(LdD.cells l)) 6 O O O O O (zE [0,1,2,4,5] O qM (fun w' hw hS=>zB 20 O (zO O) hS (zB 21 O (zH (o:=2) O) hS (zB 22 O (zH (o:=1) O) hS (zJ 23 O hw (zn 3 O O O O O (zE [0,1,2,4,5] O qM (fun w' hw hS=>zT ?_))))))))
    exact⟨⟨O,O,trivial⟩,trivial,hw⟩
   refine zl 16 O hw (yH (pC 5 4 O O) 1 (n5_ - 1) 0 (fun _=>O) O O V O O (zE [0,1,2,4,6] O qM (fun w' hw hS=>zJ 3 O hw (zM 3 (v:=pt ld) O O O O (zE [0,1,2,4,6] O qM (fun w' hw hS=>zB 17 O (zO O) hS (zB 18 O (zH (o:=3) O) hS (zJ 19 O hw ?_))))))))
   refine z4 [Res.ou ob o,vI cv1_ F3_.vs,vI cw2_ F3_.ls,z7 cb t (pt ld) a r b yv jb qe (pt ob),Res.nl b lv es,vU pv4_ (zw a.id (zc b.vs (es.map EntD.toEntA)).vs l.qa l.qd.length PeerM.round),yP ld l,vP l.pv l.qa,sP l.qa,vI l.av l.qf,vT l.rv l.qd,vL l.kv l.qj] (fun w' hw=>hw.qn 5 O) ?_
   refine zn (cs:=(LdD.cells l)) 6 O O O O O (zE [0,1,2,4,5] O qM (fun w' hw hS=>zB 20 O (zO O) hS (zB 21 O (zH (o:=2) O) hS (zB 22 O (zH (o:=1) O) hS (zJ 23 O hw (zn 3 O O O O O (zE [0,1,2,4,5] O qM (fun w' hw hS=>zT ?_))))))))
   exact⟨⟨O,O,trivial⟩,trivial,hw⟩
  refine zC (zI O (zA (zP (zC (zD O (zb O O (zK (o:=9) O O (zM 3 (v:=pt ld) O O O O (zb O O (zK (o:=4) O O (zM 6 (v:=l.kv) O O O O (zp (pV 11 O) O O ?_))))))))))))
  refine zD O (zA (zZ ?_))
  refine x3 (fun(k:Nat) (rv' xv:Value)=>[(0,pt cb),(2,Vn n5_),(4,xv),(61,l.kv),(62,Vj l.qj.length),(63,Vj k)]) (fun(k:Nat) (rv' xv:Value)=>k≤l.qj.length) (fun(k:Nat) (rv' xv:Value)=>[Res.ou ob ({o with rv:=rv',qw:=o.qw++((l.qj.take k).filter (fun q=>q.round≤n5_)).map LookM.rdy}:OutD),vI cv1_ F3_.vs,vI cw2_ F3_.ls,z7 cb ({t with qA:=(zG l.qd (n5_ - 1))}:TimD) (pt ld) a r b yv jb qe (pt ob),Res.nl b lv es,vU pv4_ (zw a.id (zc b.vs (es.map EntD.toEntA)).vs l.qa l.qd.length PeerM.round),yP ld ({l with sure:=n5_}:LdD),vP l.pv l.qa,sP l.qa,vI l.av l.qf,vT l.rv l.qd,vL l.kv l.qj,vL xv ((l.qj.take k).filter (fun q=>¬ q.round≤n5_))]) (fun(k:Nat) (rv' xv:Value)=>l.qj.length - k) (fun w' hw=>⟨0,o.rv, .slice none 0 0,⟨O,O,O,O,O,O,trivial⟩,Nat.zero_le _,(by rw[List.take_zero,List.filter_nil,List.filter_nil,List.map_nil,List.append_nil];exact(zm hw 116 3))⟩) (fun k rv' xv g hΦ=> ?_)
  have hlf:((l.qj.take k).filter (fun q=>q.round≤n5_)).length≤10000∧((l.qj.take k).filter (fun q=>¬ q.round≤n5_)).length≤10000:=⟨Nat.le_trans (List.length_filter_le _ _) (by rw[List.length_take];omega),Nat.le_trans (List.length_filter_le _ _) (by rw[List.length_take];omega)⟩
  refine zC (yI O O O (zA (zP (za O (fun c2=> ?_) (fun c2=> ?_)))))
  ·have hkk:k<l.qj.length:=by omega
   refine zQ (zP (zZ (zC (zk (pV 11 O) 3 k O O O V O (kP (pV 11 O) 3 k (off:=xH l.kv+k*3) (fun _=>O) O O V O (yC (v:= .agg #[Vn 0,Vn 0,Vn 0]) qN O (fun b6=>zo 13 O O O (xO O) O (zA (zC (zK (o:=2) O O (zM 13 (v:=Vn ((zG l.qj k).round)) O O O O (zD O ?_))))))))))))
   refine x6 O O O (zA (za O (fun c3=> ?_) (fun c3=> ?_)))
   ·have hf1:=zDg (P:=fun q:LookM=>q.round≤n5_) hkk V
    have hf2:=zG4 (P:=fun q:LookM=>¬ q.round≤n5_) hkk (not_not_intro V)
    refine ze [1,2,3,4,5,6,7,8,9,10,11,12,13] O qM qN (fun w' hw hS=>zB 0 O zS hS (zB 1 O (zO O) hS (zB 2 O (zH (o:=33) O) hS (zB 3 O (zY 2 (v:=pt ob) O O O) hS (zB 4 O zS hS (zB 5 O (zO O) hS (zB 6 O (zH (o:=33) O) hS (zB 7 O (zY 2 (v:=pt ob) O O O) hS (zB 8 O (zO O) hS (zB 9 O (zH (o:=2) O) hS (zB 11 O (zH (o:=0) O) hS (zB 12 O (zE9 12 [Vn ((zG l.qj k).id),Vn ((zG l.qj k).index)] O O (kN 0 O) qN) hS ?_))))))))))))
    refine zq 10 13 ?_ ?_
    ·refine zl 10 O hw (z6 (v:=rv') 0 0 2 O O O O qN O (zE [1,2,3,4,5,6,7,8,9,10,11,12,13] O qM (fun w' hw hS=>zJ 13 O hw (zx (e:=53) (sz:=2) (vs:=[.agg #[Vn ((zG l.qj k).id),Vn ((zG l.qj k).index)]]) qN O O wo qM O (fun b84=>zE [1,2,3,4,5,6,7,8,9,10,11,12,13] O qM (fun w' hw hS=>zJ 14 O hw ?_))))))
     refine z4 [vI cv1_ F3_.vs,vI cw2_ F3_.ls,z7 cb ({t with qA:=(zG l.qd (n5_ - 1))}:TimD) (pt ld) a r b yv jb qe (pt ob),Res.nl b lv es,vU pv4_ (zw a.id (zc b.vs (es.map EntD.toEntA)).vs l.qa l.qd.length PeerM.round),yP ld ({l with sure:=n5_}:LdD),vP l.pv l.qa,sP l.qa,vI l.av l.qf,vT l.rv l.qd,vL l.kv l.qj,vL xv ((l.qj.take k).filter (fun q=>¬ q.round≤n5_)),Res.row b6 116 (LookM.cells (zG l.qj k)),vR (.slice (some ⟨b84,0,none⟩) 1 1) [(LookM.rdy (zG l.qj k))],zAt ob ({o with rv:=rv',qw:=o.qw++((l.qj.take k).filter (fun q=>q.round≤n5_)).map LookM.rdy}:OutD),vM o.mv o.qk,sM o.qk,vR rv' (o.qw++((l.qj.take k).filter (fun q=>q.round≤n5_)).map LookM.rdy),vU o.xv o.qt] (fun w' hw=>hw.qn 0 O) ?_
     refine zy (g:=RdyD.cells) (sz:=2) (by':=16) (fun _=>O) (l:=o.qw++((l.qj.take k).filter (fun q=>q.round≤n5_)).map LookM.rdy) (l':=[(LookM.rdy (zG l.qj k))]) wq 17 qN O O O (fun w' hw'=>Vec.sl (Own.holds hw' 13 _ O)) qO qM O (fun v85=>zE [0,1,2,3,4,5,6,7,8,9,10,11,12] O qM (fun w' hw hS=>zB 15 O (zO O) hS (zB 16 O (zH (o:=2) O) hS (zJ 17 O hw ?_))))
     refine zN (fun w' hw=>Own.qg (i:=17) O hw) (fun hc1_=> ?_)
     refine zn 14 O O O hc1_ O (zE [0,1,2,3,4,5,6,7,8,9,10,11,12] O qM (fun w' hw hS=>zT ?_))
     refine Oc19 ?_ hw
     refine zV (zt O O (zr V) O (zD O ?_))
     exact zg (fun w' hw=>⟨k+1,v85,xv,⟨O,O,O,O,O,O,trivial⟩,V,(by rw[hf1,hf2,List.map_append,←List.append_assoc o.qw];exact(hw.qo [14,15,16,17,18] rfl qM).sel [14,0,1,2,3,4,5,6,7,8,9,10,11] rfl qM),V⟩)
    refine zl 13 O hw (zx (e:=53) (sz:=2) (vs:=[.agg #[Vn ((zG l.qj k).id),Vn ((zG l.qj k).index)]]) qN O O wo qM O (fun b84=>zE [1,2,3,4,5,6,7,8,9,10,11,12,13] O qM (fun w' hw hS=>zJ 10 O hw (z6 (v:=rv') 0 0 2 O O O O qN O (zE [1,2,3,4,5,6,7,8,9,10,11,12,13] O qM (fun w' hw hS=>zJ 14 O hw ?_))))))
    refine z4 [vI cv1_ F3_.vs,vI cw2_ F3_.ls,z7 cb ({t with qA:=(zG l.qd (n5_ - 1))}:TimD) (pt ld) a r b yv jb qe (pt ob),Res.nl b lv es,vU pv4_ (zw a.id (zc b.vs (es.map EntD.toEntA)).vs l.qa l.qd.length PeerM.round),yP ld ({l with sure:=n5_}:LdD),vP l.pv l.qa,sP l.qa,vI l.av l.qf,vT l.rv l.qd,vL l.kv l.qj,vL xv ((l.qj.take k).filter (fun q=>¬ q.round≤n5_)),Res.row b6 116 (LookM.cells (zG l.qj k)),vR (.slice (some ⟨b84,0,none⟩) 1 1) [(LookM.rdy (zG l.qj k))],zAt ob ({o with rv:=rv',qw:=o.qw++((l.qj.take k).filter (fun q=>q.round≤n5_)).map LookM.rdy}:OutD),vM o.mv o.qk,sM o.qk,vR rv' (o.qw++((l.qj.take k).filter (fun q=>q.round≤n5_)).map LookM.rdy),vU o.xv o.qt] (fun w' hw=>hw.qn 0 O) ?_
    refine zy (g:=RdyD.cells) (sz:=2) (by':=16) (fun _=>O) (l:=o.qw++((l.qj.take k).filter (fun q=>q.round≤n5_)).map LookM.rdy) (l':=[(LookM.rdy (zG l.qj k))]) wq 17 qN O O O (fun w' hw'=>Vec.sl (Own.holds hw' 13 _ O)) qO qM O (fun v85=>zE [0,1,2,3,4,5,6,7,8,9,10,11,12] O qM (fun w' hw hS=>zB 15 O (zO O) hS (zB 16 O (zH (o:=2) O) hS (zJ 17 O hw ?_))))
    refine zN (fun w' hw=>Own.qg (i:=17) O hw) (fun hc2_=> ?_)
    refine zn 14 O O O hc2_ O (zE [0,1,2,3,4,5,6,7,8,9,10,11,12] O qM (fun w' hw hS=>zT ?_))
    refine Oc19 ?_ hw
    refine zV (zt O O (zr V) O (zD O ?_))
    exact zg (fun w' hw=>⟨k+1,v85,xv,⟨O,O,O,O,O,O,trivial⟩,V,(by rw[hf1,hf2,List.map_append,←List.append_assoc o.qw];exact(hw.qo [14,15,16,17,18] rfl qM).sel [14,0,1,2,3,4,5,6,7,8,9,10,11] rfl qM),V⟩)
   have hf1:=zG4 (P:=fun q:LookM=>q.round≤n5_) hkk V
   have hf2:=zDg (P:=fun q:LookM=>¬ q.round≤n5_) hkk V
   refine zV (zD O (yL (cs:=(LookM.cells (zG l.qj k))) 13 O O O (zx (e:=116) (sz:=3) (vs:=[.agg (LookM.cells (zG l.qj k)).toArray]) qN O O wm qM O (fun b90=>zy (g:=LookM.cells) (sz:=3) (by':=24) (fun _=>O) (l:=((l.qj.take k).filter (fun q=>¬ q.round≤n5_))) (l':=[(zG l.qj k)]) wn 12 qN O O O (fun w' hw'=>Vec.sl (Own.holds hw' 14 _ O)) (by simp only[List.length_append,List.length_cons,List.length_nil];omega) qM O (fun v91=>zI O (zA (zV (zt O O (zr V) O (zD O ?_)))))))))
   exact zg (fun w' hw=>⟨k+1,rv',v91,⟨O,O,O,O,O,O,trivial⟩,V,(by rw[hf1,hf2];exact hw.sel [0,1,2,3,4,5,6,7,8,9,10,11,12] rfl qM),V⟩)
  refine yF O (zV (zD O (zb O O (zK (o:=9) O O (zM 3 (v:=pt ld) O O O O (zD O (zb O O (zK (o:=4) O O ?_))))))))
  refine zN (fun w' hw=>Own.qg (i:=12) O hw) (fun hc3_=> ?_)
  refine zn (cs:=(LdD.cells ({l with sure:=n5_}:LdD))) 6 O O O hc3_ O ?_
  exact zg (yQ O (fun w' hw=>⟨rv',xv,O,(by rw[List.take_of_length_le V]at hw;rw[hN,zNV V,zNz V,zOI V];exact(hw.qo [6,7,8,9,10,12] rfl qM).sel [3,4,7,0] rfl qM)⟩))
end Go.Proofs.YtkkeknmkipkbmaaGreat
