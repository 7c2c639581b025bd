import Derived.Test.YtkkeknmkipkbmaaGreatCoH
set_option linter.unusedSectionVars false
set_option linter.unusedSimpArgs false
set_option linter.unusedVariables false
set_option maxRecDepth 10000
namespace Go.Proofs.YtkkeknmkipkbmaaGreat
open Go Go.Sc Go.Proofs
theorem zJK{S:List Nat}(cb jb:Nat)(t:TimD)(a:StA)(r:RolD)(b:StB)(yv out:Value)(qd:Nat)(lv:Value)(es:List EntD)(ld:Nat)(l:LdD)(self:Nat)(w:World)(hg:(LG 0 0 es).good)(hl:es.length≤1000000)(hvl:b.vs.length≤12)(hpl:l.qa.length≤1000000)(hin:Own w S [z4 cb t (pt ld) a r b yv jb qd out,Res.nl b lv es,Res.ld ld l] w):Rets Tryz.prog 77 #[pt cb,Vn self, .func (.func 199) #[] #[]] w fun u_ w'=>∃ (pv:Value),u_=pv∧Own w S [z4 cb t (pt ld) a r b yv jb qd out,Res.nl b lv es,Res.ld ld l,vU pv (zw a.id (zc b.vs (es.map EntD.toEntA)).vs l.qa self PeerM.round)] w':=by
  refine zW Tryz.func77 O Tryz.ntmps77 hin ?_
  refine zB (zI O (zA (zB (zI O (zA (zN (zB (zD O (a_call O O (fun w' hw=>(xe cb jb t a r b (pt ld) yv out qd _ _ w' ‹_› qO qO (hw.give [0,1] O qM)).mono ?_))))))))))
  rintro _ w1 ⟨cv1_,cw2_,F3_,rfl,hf2_1,hO⟩
  have hFl:F3_.vs.length≤1000∧F3_.ls.length≤1000:=by rw[hf2_1];exact yf V
  refine O5 ?_ (hw.qg [0,1] O hO)
  refine zGW (o:=0) (v:=cv1_) O qN O O (zo (pV 3 O) O O (zD O (zA (zX ?_))))
  refine y1 (fun(k:Nat) (pv:Value)=>[(0,pt cb),(1,Vn self),(2, .func (.func 199) #[] #[]),(7,pv),(14,cv1_),(15,Vj F3_.vs.length),(16,Vj k)]) (fun(k:Nat) (pv:Value)=>k≤F3_.vs.length) (fun(k:Nat) (pv:Value)=>[Res.ld ld l,z4 cb t (pt ld) a r b yv jb qd out,Res.nl b lv es,vI cv1_ F3_.vs,vI cw2_ F3_.ls,vU pv (zw a.id (F3_.vs.take k) l.qa self PeerM.round)]) (fun(k:Nat) (pv:Value)=>F3_.vs.length - k) (fun w' hw=>⟨0, .slice none 0 0,⟨O,O,O,O,O,O,O,trivial⟩,Nat.zero_le _,(zl hw 22 1)⟩) (fun k pv g hΦ=> ?_)
  have hpl0:(zw a.id (F3_.vs.take k) l.qa self PeerM.round).length≤1000:=by unfold zw;rw[List.length_map,List.length_take];omega
  refine zB (yH O O O (zA (zN (zY O (fun c1=> ?_) (fun c1=> ?_)))))
  ·refine zO (zN (zX (zB (zi (pV 3 O) 1 k O O O V O (yE (pV 3 O) 1 k 0 (fun _=>O) O O V O O (zI O (zA (zB (zI O (zA (zN (zB ?_))))))))))))
   refine zD O (zD O (zb O O (zJ (o:=10) O O (zM 1 (v:=Vi a.id) O O O O (yQ O O O (zA (zY O (fun c2=> ?_) (fun c2=> ?_))))))))
   ·have hpm:=zAL (ps:=l.qa) (self:=self) (of:=PeerM.round) c2
    refine zT (zD O (zI O (zA (zT (zD O (zD O (zy (e:=22) (sz:=1) (vs:=[Vn self]) qN O O qR qM O (fun b37=>z7 (g:=U1) (sz:=1) (by':=8) (fun _=>O) (l:=(zw a.id (F3_.vs.take k) l.qa self PeerM.round)) (l':=[self]) qZ 5 qN O O O (fun w' hw'=>Vec.sl (Own.holds hw' 6 _ O)) qO qM O (fun v38=>zI O (zA (zT (zp O O (zt V) O ?_))))))))))))
    refine zD O ?_
    exact ze (fun w' hw=>⟨k+1,v38,⟨O,O,O,O,O,O,O,trivial⟩,V,(by rw[zr V,xq,hpm];exact hw.sel [0,1,2,3,4,5] rfl qM),V⟩)
   refine zB (zD O (zD O (a_call O O (fun w' hw=>(zDO cb jb t a r b yv out qd ld _ (zG F3_.vs k) w' qO (hw.give [1,0] O qM)).mono ?_))))
   rintro _ w1 ⟨pv4_,rfl,hf8_2,hO⟩
   refine O6 ?_ (hw.qg [1,0] O hO)
   refine zI O (zA (zB (zD O (zBM qN O O O (zA (zA5 O (fun c3=> ?_) (fun c3=> ?_)))))))
   ·obtain⟨j,hj,rfl,hji,hix⟩:=PeerIs.some hf8_2 c3
    have hpm:=zAN (self:=self) (of:=PeerM.round) c2 hix
    refine zT (zD O (zD O (yW (fst:=[]) (cap:=[]) O qN O O (fun w' hw=>(zP1 ((zG l.qa j).1) ((zG l.qa j).2) w' (hw.partStar0 5 2 j O O qT)).mono ?_))))
    rintro _ w1 ⟨rfl,hO⟩
    refine O6 ?_ (hw.qi hO)
    refine zI O (zA (zT (zD O (zD O (zy (e:=22) (sz:=1) (vs:=[Vn (((zG l.qa j).2).round)]) qN O O qR qM O (fun b37=>z7 (g:=U1) (sz:=1) (by':=8) (fun _=>O) (l:=(zw a.id (F3_.vs.take k) l.qa self PeerM.round)) (l':=[((zG l.qa j).2).round]) qZ 3 qN O O O (fun w' hw'=>Vec.sl (Own.holds hw' 6 _ O)) qO qM O (fun v38=>zI O (zA (zT (zp O O (zt V) O (zD O ?_)))))))))))
    exact ze (fun w' hw=>⟨k+1,v38,⟨O,O,O,O,O,O,O,trivial⟩,V,(by rw[zr V,xq,hpm];exact hw.sel [5,4,0,1,2,3] rfl qM),V⟩)
   have hpm:=j7 (self:=self) (of:=PeerM.round) c2 (PeerIs.none hf8_2 c3)
   refine zO (zT (zD O (zD O (zy (e:=22) (sz:=1) (vs:=[Vn 0]) qN O O qR qM O (fun b37=>z7 (g:=U1) (sz:=1) (by':=8) (fun _=>O) (l:=(zw a.id (F3_.vs.take k) l.qa self PeerM.round)) (l':=[0]) qZ 3 qN O O O (fun w' hw'=>Vec.sl (Own.holds hw' 6 _ O)) qO qM O (fun v38=>zI O (zA (zT (zp O O (zt V) O (zD O ?_))))))))))
   exact ze (fun w' hw=>⟨k+1,v38,⟨O,O,O,O,O,O,O,trivial⟩,V,(by rw[zr V,xq,hpm];exact hw.sel [5,4,0,1,2,3] rfl qM),V⟩)
  refine yC O (zB (zD O (zI O (zA ?_))))
  exact zU (z6 (v:=pv) O O (fun w' hw=>⟨pv,O,(by rw[List.take_of_length_le V,hf2_1]at hw;exact hw.sel [1,2,0,5] rfl qM)⟩))
def yw(at_:Nat)(p:PeerM):PeerM:={p with qx:=max p.qx at_,next:=max p.next (at_+1),opn:=true,qw:=if at_+1≥p.next then 0 else max (p.qw - 1) 0,off:=0,asked:=false}
def jx(a:StA)(term:Nat)(c:Prop)[Decidable c](p:PeerM):List MsgA:=if c then [⟨9,a.id,p.id,term,0,0,0,0,false,[],⟨[],[]⟩,0,[]⟩]else []
def zHT(a:StA)(term:Nat)(c:Prop)[Decidable c](p:PeerM):List MsgD:=if c then [yd a term (yp 9 0 p.id 0 0 0 0 0 false (.slice none 0 0) [])]else []
theorem zKs{a:StA}{term:Nat}{c:Prop}[Decidable c]{p:PeerM}:(zHT a term c p).map MsgD.a=jx a term c p:=by unfold zHT jx;split<;>rfl
theorem zOn{at_:Nat}{p:PeerM}(h:p.next≤at_+1):({p with qx:=max p.qx at_,next:=max p.next (at_+1),opn:=true,qw:=0}:PeerM)={yw at_ p with off:=p.off,asked:=p.asked}:=by unfold yw;rw[if_pos V]
theorem zOK{at_:Nat}{p:PeerM}(h:¬ p.next≤at_+1):({p with qx:=max p.qx at_,next:=max p.next (at_+1),opn:=true,qw:=max (p.qw - 1) 0}:PeerM)={yw at_ p with off:=p.off,asked:=p.asked}:=by unfold yw;rw[if_neg V]
theorem zNN{at_ n:Nat}{p:PeerM}(ha:at_≤n)(h:p.bd n):(yw at_ p).bd n:=by
  have h1:=h.next;have h2:=h.qx;have h3:=h.qw
  refine⟨?_,?_,?_⟩
  · show 1≤max p.next (at_+1)∧max p.next (at_+1)≤n+1;omega
  · show max p.qx at_≤n;omega
  show 0≤(if at_+1≥p.next then 0 else max (p.qw - 1) 0)∧(if at_+1≥p.next then 0 else max (p.qw - 1) 0)≤4;split<;>omega
theorem zBQ{ps:List PeerP}{k:Nat}{q:PeerM}{P:PeerM→Prop}(h:∀ p∈ps,P p.2)(hq:P q):∀ p∈zx ps k q,P p.2:=by
  intro p hm
  rcases List.mem_or_eq_of_mem_set hm with h1|rfl
  · exact h p h1
  exact hq
theorem zQO{S:List Nat}(cb jb:Nat)(t:TimD)(a:StA)(r:RolD)(b:StB)(yv:Value)(qd:Nat)(lv:Value)(es:List EntD)(ld:Nat)(l:LdD)(ob:Nat)(o:OutD)(k at_:Nat)(w:World)(hg:(LG 0 0 es).good)(hl:es.length≤1000000)(hvl:b.vs.length≤12)(hpl:l.qa.length≤1000)(hk:k<l.qa.length)(ho:o.qk.length≤10000)(hp:∀ p∈l.qa,p.2.bd 1000000)(hr:l.qf.length≤1000000)(hcl:(zc b.vs (es.map EntD.toEntA)).vs.length≤12)(hat:at_≤es.length)(hin:Own w S [z4 cb t (pt ld) a r b yv jb qd (pt ob),Res.nl b lv es,Res.ld ld l,Res.ou ob o] w):Rets Tryz.prog 174 #[pt cb,pt ((zG l.qa k).1),Vn at_] w fun u_ w'=>∃ (mv':Value) (ms:List MsgD),u_= .tuple #[]∧ms.map MsgD.a=jx a t.term (y2 l (yw at_ (zG l.qa k).2) es.length false) (yw at_ (zG l.qa k).2)++xA a t.term (yV a t.term b.vs (es.map EntD.toEntA) (zx l.qa k (yw at_ (zG l.qa k).2)) r.qc) l.qf.length (es.map EntD.toEntA) (yw at_ (zG l.qa k).2) false∧Own w S [z4 cb t (pt ld) a ({r with qc:=yV a t.term b.vs (es.map EntD.toEntA) (zx l.qa k (yw at_ (zG l.qa k).2)) r.qc}:RolD) b yv jb qd (pt ob),Res.nl b lv es,Res.ld ld ({l with qa:=zx l.qa k (ym (es.map EntD.toEntA) (yw at_ (zG l.qa k).2)),qC:=if y2 l (yw at_ (zG l.qa k).2) es.length false then true else l.qC}:LdD),Res.ou ob ({o with mv:=mv',qk:=o.qk++ms}:OutD)] w':=by
  have hbd:=hp _ (zd hk)
  have hbn:=hbd.next
  have hbf:=hbd.qw
  have hl1:(es.map EntD.toEntA).length=es.length:=List.length_map _
  refine zW Tryz.func174 O Tryz.ntmps174 hin ?_
  refine zB (zD O (zD O (zb O O (zJ (o:=2) O O (x0 (l:=l.qa) 2 2 k 2 O O qT O O O qN O (zD O (zDb (c:=((max (((zG l.qa k).2).qx) at_:Nat):Int)) O O (zE9 _ _) O (zb O O (zJ (o:=2) O O ?_)))))))))
  refine z2 [z4 cb t (pt ld) a r b yv jb qd (pt ob),Res.nl b lv es,Res.ou ob o,yN ld l,vP l.pv l.qa,sP l.qa,vI l.av l.qe,vT l.rv l.qf,vL l.kv l.qj] (fun w' hw=>hw.qn 2 O) ?_
  refine z2 [z4 cb t (pt ld) a r b yv jb qd (pt ob),Res.nl b lv es,Res.ou ob o,yN ld l,vP l.pv l.qa,vI l.av l.qe,vT l.rv l.qf,vL l.kv l.qj,x3 ((zG l.qa k).1) ((zG l.qa k).2),sP (l.qa.eraseIdx k)] (fun w' hw=>hw.qI (g:=PeerP.dres) (l:=l.qa) 5 k qT O) ?_
  refine zn (cs:=(PeerM.cells ((zG l.qa k).2))) 8 O O O O O (zA (zB (zD O (zD O (zb O O (zJ (o:=1) O O (zM 8 (v:=Vn (((zG l.qa k).2).next)) O O O O (zD O (zp O O (xK V) O (zDb (c:=((max (((zG l.qa k).2).next) (at_+1):Nat):Int)) O O (zE9 _ _) O (zb O O (zJ (o:=1) O O ?_))))))))))))
  refine zn 8 O O O O O (zA (zB (zD O (zb O O (zJ (o:=6) O O (zn 8 O O O O O (zA (yu (fun(q:PeerM)=>[(0,pt cb),(1,pt ((zG l.qa k).1))]) (fun(q:PeerM)=>q={yw at_ (zG l.qa k).2 with off:=(zG l.qa k).2.off,asked:=(zG l.qa k).2.asked}) (fun(q:PeerM)=>[z4 cb t (pt ld) a r b yv jb qd (pt ob),Res.nl b lv es,Res.ou ob o,yN ld l,vP l.pv l.qa,vI l.av l.qe,vT l.rv l.qf,vL l.kv l.qj,Res.row (zG l.qa k).1 162 [Vi q.id,Vn q.next,Vn q.qx,Vn q.round,Vi q.qw,Vi q.off, .bool q.opn, .bool q.told, .bool q.asked],sP (l.qa.eraseIdx k)]) ?_ (fun q g hΦ=> ?_)))))))))
  ·refine zB (zD O (zp O O (xK V) O (zD O (zb O O (zJ (o:=1) O O (zM 8 (v:=Vn (max (((zG l.qa k).2).next) (at_+1))) O O O O (kK O O O (zA (zY O (fun c1=> ?_) (fun c1=> ?_))))))))))
   ·refine zT (zD O (zb O O (zJ (o:=4) O O (zn 8 O O O O O ?_))))
    exact ze (fun w' hw=>⟨({(zG l.qa k).2 with qx:=max (zG l.qa k).2.qx at_,next:=max (zG l.qa k).2.next (at_+1),opn:=true,qw:=0}:PeerM),⟨O,O,trivial⟩,zOn V,hw⟩)
   refine zT (zD O (zD O (zb O O (zJ (o:=4) O O (zM 8 (v:=Vi (((zG l.qa k).2).qw)) O O O O (kF O O (zt V) O (zDb (c:=max ((((zG l.qa k).2).qw) - 1) 0) O O (zPz _ _) O (zb O O (zJ (o:=4) O O (zn 8 O O O O O ?_))))))))))
   exact ze (fun w' hw=>⟨({(zG l.qa k).2 with qx:=max (zG l.qa k).2.qx at_,next:=max (zG l.qa k).2.next (at_+1),opn:=true,qw:=max ((zG l.qa k).2.qw - 1) 0}:PeerM),⟨O,O,trivial⟩,zOK V,hw⟩)
  have hq:=hΦ
  have hq2:yw at_ (zG l.qa k).2={q with off:=0,asked:=false}:=by rw[hq];rfl
  refine yu (fun(pb:Nat)=>[(0,pt cb),(1,pt pb)]) (fun(pb:Nat)=>pb=(zG (zx l.qa k (yw at_ (zG l.qa k).2)) k).1) (fun(pb:Nat)=>[z4 cb t (pt ld) a r b yv jb qd (pt ob),Res.nl b lv es,Res.ou ob o,Res.ld ld ({l with qa:=(zx l.qa k (yw at_ (zG l.qa k).2))}:LdD)]) ?_ (fun pb g hΦ=> ?_)
  ·refine zT (zD O (zD O (zb O O (zJ (o:=5) O O (zn 8 O O O O O (zb O O (zJ (o:=8) O O (zn 8 O O O O O ?_))))))))
   exact ze (fun w' hw=>⟨(zG l.qa k).1,⟨O,O,trivial⟩,(kN hk).symm,(by rw[hq2];exact((hw.peerIn 8 9 4 k ({q with off:=0,asked:=false}:PeerM) qT qM rfl rfl rfl).qo [3,7,8,4,5,6] rfl qM))⟩)
  subst hΦ
  have hbd2:=zNN (at_:=at_) V hbd
  have hpm:∀ p∈(zx l.qa k (yw at_ (zG l.qa k).2)),p.2.qx≤1000000:=zBQ (P:=fun p=>p.qx≤1000000) (fun p h=>(hp p h).qx) hbd2.qx
  refine zB (zD O (a_call O O (fun w' hw=>(zCU cb jb t a r b yv (pt ob) qd _ _ ld ({l with qa:=(zx l.qa k (yw at_ (zG l.qa k).2))}:LdD) w' ‹_› qO qO (by show(zx l.qa k (yw at_ (zG l.qa k).2)).length≤_;rw[y8];omega) hcl hpm (hw.give [0,1,3] O qM)).mono ?_)))
  rintro _ w1 ⟨rfl,hO⟩
  refine O4 ?_ (hw.qg [0,1,3] O hO)
  refine zA (zB (zD O (zD O (a_call O O (fun w' hw=>(zK0 cb jb t a ({r with qc:=yV a t.term b.vs (es.map EntD.toEntA) ({l with qa:=(zx l.qa k (yw at_ (zG l.qa k).2))}:LdD).qa r.qc}:RolD) b yv qd _ _ ld ({l with qa:=(zx l.qa k (yw at_ (zG l.qa k).2))}:LdD) ob _ k false w' ‹_› qO qO (by show k<(zx l.qa k (yw at_ (zG l.qa k).2)).length;rw[y8];exact hk) qO (hw.give [1,2,3,0] O qM)).mono ?_)))))
  rintro _ w1 ⟨mv'1_,rfl,hO⟩
  refine O4 ?_ (hw.qg [1,2,3,0] O hO)
  refine zA (zT (zD O (zD O (a_call O O (fun w' hw=>(zB4 cb jb t a ({r with qc:=yV a t.term b.vs (es.map EntD.toEntA) ({l with qa:=(zx l.qa k (yw at_ (zG l.qa k).2))}:LdD).qa r.qc}:RolD) b yv qd _ _ ld ({({l with qa:=(zx l.qa k (yw at_ (zG l.qa k).2))}:LdD)with qC:=if y2 ({l with qa:=(zx l.qa k (yw at_ (zG l.qa k).2))}:LdD) (zG ({l with qa:=(zx l.qa k (yw at_ (zG l.qa k).2))}:LdD).qa k).2 es.length false then true else({l with qa:=(zx l.qa k (yw at_ (zG l.qa k).2))}:LdD).qC}:LdD) ob ({o with mv:=mv'1_,qk:=o.qk++(if y2 ({l with qa:=(zx l.qa k (yw at_ (zG l.qa k).2))}:LdD) (zG ({l with qa:=(zx l.qa k (yw at_ (zG l.qa k).2))}:LdD).qa k).2 es.length false then [yd a t.term (yp 9 0 (zG ({l with qa:=(zx l.qa k (yw at_ (zG l.qa k).2))}:LdD).qa k).2.id 0 0 0 0 0 false (.slice none 0 0) [])]else [])}:OutD) k false w' ‹_› qO qO (by show k<(zx l.qa k (yw at_ (zG l.qa k).2)).length;rw[y8];exact hk) (by show(o.qk++_).length≤_;rw[List.length_append];split<;>simp<;>omega) (by show(zG (zx l.qa k (yw at_ (zG l.qa k).2)) k).2.bd _;rw[xB hk];exact hbd2) qP (hw.give [0,1,2,3] O qM)).mono ?_)))))
  rintro _ w1 ⟨mv'2_,ms3_,rfl,hf9_2,hO⟩
  refine O4 ?_ (hw.qg [0,1,2,3] O hO)
  exact ze (yJ O (fun w' hw=>⟨mv'2_,zHT a t.term (y2 l (yw at_ (zG l.qa k).2) es.length false) (yw at_ (zG l.qa k).2)++ms3_,O,(by rw[List.map_append,zKs,hf9_2,xB hk]),(by rw[xB hk,jk hk,List.append_assoc o.qk]at hw;exact hw)⟩))
def LookM.rdy(q:LookM):RdyD:=⟨q.id,q.index⟩
def xT(a:StA)(vs0:List Int)(E:List EntA)(ps:List PeerP)(qf:List Int)(sure:Nat):Nat:=
  if(zc vs0 E).ok∧sure<xU (zw a.id (zc vs0 E).vs ps qf.length PeerM.round)then xU (zw a.id (zc vs0 E).vs ps qf.length PeerM.round)else 0
def ki(n:Nat)(kv:Value)(l:LdD):LdD:=if n=0 then l else{l with sure:=n,kv:=kv,qj:=l.qj.filter (fun q=>¬ q.round≤n)}
def xu(n:Nat)(qf:List Int)(t:TimD):TimD:=if n=0 then t else{t with qA:=zG qf (n - 1)}
def zAF(n:Nat)(rv:Value)(qj:List LookM)(o:OutD):OutD:=if n=0 then o else{o with rv:=rv,qz:=o.qz++(qj.filter (fun q=>q.round≤n)).map LookM.rdy}
theorem zJ5{a:StA}{vs0:List Int}{E:List EntA}{ps:List PeerP}{qf:List Int}{sure n:Nat}(h:((zc vs0 E).ok→n=xU (zw a.id (zc vs0 E).vs ps qf.length PeerM.round)∧n∈zw a.id (zc vs0 E).vs ps qf.length PeerM.round)∧(¬(zc vs0 E).ok→n=0))(hn:n≤sure):xT a vs0 E ps qf sure=0:=by
  unfold xT
  rw[if_neg]
  rintro⟨h1,h2⟩
  rw[←(h.1 h1).1]at h2;omega
theorem zIf{a:StA}{vs0:List Int}{E:List EntA}{ps:List PeerP}{qf:List Int}{sure n:Nat}(h:((zc vs0 E).ok→n=xU (zw a.id (zc vs0 E).vs ps qf.length PeerM.round)∧n∈zw a.id (zc vs0 E).vs ps qf.length PeerM.round)∧(¬(zc vs0 E).ok→n=0))(hn:¬ n≤sure):xT a vs0 E ps qf sure=n:=by
  unfold xT
  by_cases q:(zc vs0 E).ok
  · rw[←(h.1 q).1,if_pos ⟨q,by omega⟩]
  have:=h.2 q;omega
theorem zMh{n:Nat}{kv:Value}{l:LdD}(h:n=0):ki n kv l=l:=if_pos h
theorem zNa{n:Nat}{qf:List Int}{t:TimD}(h:n=0):xu n qf t=t:=if_pos h
theorem zMn{n:Nat}{rv:Value}{qj:List LookM}{o:OutD}(h:n=0):zAF n rv qj o=o:=if_pos h
theorem zMZ{n:Nat}{kv:Value}{l:LdD}(h:¬ n=0):ki n kv l={l with sure:=n,kv:=kv,qj:=l.qj.filter (fun q=>¬ q.round≤n)}:=if_neg h
theorem zMR{n:Nat}{qf:List Int}{t:TimD}(h:¬ n=0):xu n qf t={t with qA:=zG qf (n - 1)}:=if_neg h
theorem zMs{n:Nat}{rv:Value}{qj:List LookM}{o:OutD}(h:¬ n=0):zAF n rv qj o={o with rv:=rv,qz:=o.qz++(qj.filter (fun q=>q.round≤n)).map LookM.rdy}:=if_neg h
theorem zDR{α:Type}[Inhabited α]{P:α→Prop}[DecidablePred P]{l:List α}{k:Nat}(hk:k<l.length)(h:P (zG l k)):(l.take (k+1)).filter (fun q=>P q)=(l.take k).filter (fun q=>P q)++[zG l k]:=by
  rw[zr hk,List.filter_append];simp[h]
theorem zGS{α:Type}[Inhabited α]{P:α→Prop}[DecidablePred P]{l:List α}{k:Nat}(hk:k<l.length)(h:¬ P (zG l k)):(l.take (k+1)).filter (fun q=>P q)=(l.take k).filter (fun q=>P q):=by
  rw[zr hk,List.filter_append];simp[h]
theorem zPC{S:List Nat}(cb jb:Nat)(t:TimD)(a:StA)(r:RolD)(b:StB)(yv:Value)(qd:Nat)(lv:Value)(es:List EntD)(ld:Nat)(l:LdD)(ob:Nat)(o:OutD)(w:World)(hg:(LG 0 0 es).good)(hl:es.length≤1000000)(hvl:b.vs.length≤12)(hpl:l.qa.length≤1000)(hr:l.qf.length≤1000000)(hcl:(zc b.vs (es.map EntD.toEntA)).vs.length≤12)(hpr:∀ p∈l.qa,p.2.round≤l.qf.length)(hlk:l.qj.length≤10000)(hrd:o.qz.length≤10000)(hin:Own w S [z4 cb t (pt ld) a r b yv jb qd (pt ob),Res.nl b lv es,Res.ld ld l,Res.ou ob o] w):Rets Tryz.prog 175 #[pt cb] w fun u_ w'=>∃ (rv' kv':Value),u_= .tuple #[]∧Own w S [z4 cb (xu (xT a b.vs (es.map EntD.toEntA) l.qa l.qf l.sure) l.qf t) (pt ld) a r b yv jb qd (pt ob),Res.nl b lv es,Res.ld ld (ki (xT a b.vs (es.map EntD.toEntA) l.qa l.qf l.sure) kv' l),Res.ou ob (zAF (xT a b.vs (es.map EntD.toEntA) l.qa l.qf l.sure) rv' l.qj o)] w':=by
  refine zW Tryz.func175 O Tryz.ntmps175 hin ?_
  refine zN (zh [0,1,2,3] O qM qN (fun w' hw hS=>zC 0 O zS hS (zC 2 O zS hS (zC 3 O zS hS (zC 4 O (zQ O) hS (zC 5 O (zH (o:=9) O) hS (zC 6 O (zZ 0 (v:=pt ld) O O O) hS (zC 7 O (zQ O) hS (zC 8 O (zH (o:=2) O) hS (zC 9 O (zAM (v:=l.rv) 2 0 2 O O O O qN) hS (zC 10 O (zAu (pC 2 4 O O) O) hS (zC 11 O (kR qN O (xK V) qN) hS ?_))))))))))))
  refine zK 1 O hw (a_call O O (fun w' hw=>(xe cb jb t a r b (pt ld) yv (pt ob) qd _ _ w' ‹_› qO qO (hw.give [0,1] O qM)).mono ?_))
  rintro _ w1 ⟨cv1_,cw2_,F3_,rfl,hf0_1,hO⟩
  have hFl:F3_.vs.length≤1000∧F3_.ls.length≤1000:=by rw[hf0_1];exact yf V
  refine O6 ?_ (hw.qg [0,1] O hO)
  refine zF [2,3,0,1] O qM (fun w' hw hS=>zK 12 O hw (a_call O O (fun w' hw=>(zJK cb jb t a r b yv (pt ob) qd _ _ ld _ l.qf.length w' ‹_› qO qO qO (hw.give [2,3,0] O qM)).mono ?_)))
  rintro pv4_ w1 ⟨_,rfl,hO⟩
  refine O7 ?_ (hw.qg [2,3,0] O hO)
  refine zF [3,4,5,0] O qM (fun w' hw hS=>zK 13 O hw (a_call O O (fun w' hw=>(zEL ({vv:=cv1_,vs:=F3_.vs,lv:=cw2_,ls:=F3_.ls}:ConfD) pv4_ (zw a.id (zc b.vs (es.map EntD.toEntA)).vs l.qa l.qf.length PeerM.round) w' qP (by rw[jL];exact hcl) (hw.give [6] O qM) ⟨(hw.rdVec 1 O [6] O O),(hw.rdVec 2 O [6] O O)⟩).mono ?_)))
  rintro _ w1 ⟨n5_,e6_,rfl,hf0_13,hO⟩
  have hrf:=zDP (F:=zc b.vs (es.map EntD.toEntA)) (by rw[←hf0_1];exact Iff.rfl) (by rw[←hf0_1]) jL hf0_13
  have hnr:n5_≤l.qf.length:=by
   by_cases q:(zc b.vs (es.map EntD.toEntA)).ok
   · exact zC1 (Nat.le_refl _) hpr _ (hrf.1 q).2
   have:=hrf.2 q;omega
  refine O7 ?_ (hw.qg [6] O hO)
  refine zF [3,4,5,0] O qM (fun w' hw hS=>zC 14 O zS hS (zC 15 O (yT (vs:=[Vn n5_,Vi e6_]) O O) hS (zC 16 O (yT (vs:=[Vn n5_,Vi e6_]) O O) hS (zC 17 O yO hS (zC 18 O yO hS (zV ?_))))))
  refine Oc7 ?_ hw
  refine zN (zB (zD O (zD O (zb O O (zJ (o:=9) O O (zM 3 (v:=pt ld) O O O O (zb O O (zJ (o:=3) O O (yB (v:=Vn l.sure) 5 0 3 O O O O qN O (xx O O O (zA (zY O (fun c1=> ?_) (fun c1=> ?_)))))))))))))
  ·have hN:=zJ5 (sure:=l.sure) hrf V
   exact zU (yJ O (fun w' hw=>⟨o.rv,l.kv,O,(by rw[zNa hN,zMh hN,zMn hN];exact hw.sel [3,4,5,0] rfl qM)⟩))
  have hN:=zIf (sure:=l.sure) hrf V
  refine zO (zA8 ([(0,pt cb),(2,Vn n5_)]) (True) ([Res.ou ob o,vI cv1_ F3_.vs,vI cw2_ F3_.ls,z4 cb ({t with qA:=(zG l.qf (n5_ - 1))}:TimD) (pt ld) a r b yv jb qd (pt ob),Res.nl b lv es,vU pv4_ (zw a.id (zc b.vs (es.map EntD.toEntA)).vs l.qa l.qf.length PeerM.round),yN ld ({l with sure:=n5_}:LdD),vP l.pv l.qa,sP l.qa,vI l.av l.qe,vT l.rv l.qf,vL l.kv l.qj]) ?_ (fun g hΦ=> ?_))
  ·refine zh [0,1,2,4,6] O qM qN (fun w' hw hS=>zC 0 O zS hS (zC 1 O (zQ O) hS (zC 2 O (zH (o:=9) O) hS (zC 4 O zS hS (zC 5 O zS hS (zC 6 O zS hS (zC 7 O (zQ O) hS (zC 8 O (zH (o:=9) O) hS (zC 13 O zS hS (zC 14 O (xt (c:=((n5_ - 1:Nat):Int)) O O (ws (a:=n5_) (b:=1) V V)) hS (zu 3 9 ?_ ?_)))))))))))
   ·refine zm 3 O hw (zM 3 (v:=pt ld) O O O O (zF [0,1,2,4,6] O qM (fun w' hw hS=>zK 9 O hw (zM 3 (v:=pt ld) O O O O (zF [0,1,2,4,6] O qM (fun w' hw hS=>zC 10 O (zQ O) hS (zC 11 O (zH (o:=2) O) hS (zK 12 O hw (yB (v:=l.rv) 5 0 2 O O O O qN O (zF [0,1,2,4,6] O qM (fun w' hw hS=>zK 15 O hw (zi (pC 5 4 O O) 1 (n5_ - 1) O O O V O ?_))))))))))))
    refine zF [0,1,2,4,6] O qM (fun w' hw hS=>zK 16 O hw (yE (pC 5 4 O O) 1 (n5_ - 1) 0 (fun _=>O) O O V O O (zF [0,1,2,4,6] O qM (fun w' hw hS=>zC 17 O (zQ O) hS (zC 18 O (zH (o:=3) O) hS (zK 19 O hw ?_))))))
    refine z2 [Res.ou ob o,vI cv1_ F3_.vs,vI cw2_ F3_.ls,z4 cb t (pt ld) a r b yv jb qd (pt ob),Res.nl b lv es,vU pv4_ (zw a.id (zc b.vs (es.map EntD.toEntA)).vs l.qa l.qf.length PeerM.round),yN ld l,vP l.pv l.qa,sP l.qa,vI l.av l.qe,vT l.rv l.qf,vL l.kv l.qj] (fun w' hw=>hw.qn 5 O) ?_
    refine zn (cs:=(LdD.cells l)) 6 O O O O O (zF [0,1,2,4,5] O qM (fun w' hw hS=>zC 20 O (zQ O) hS (zC 21 O (zH (o:=2) O) hS (zC 22 O (zH (o:=1) O) hS (zK 23 O hw (zn 3 O O O O O (zF [0,1,2,4,5] O qM (fun w' hw hS=>zV ?_))))))))
    exact⟨⟨O,O,trivial⟩,trivial,hw⟩
   refine zm 9 O hw (zM 3 (v:=pt ld) O O O O (zF [0,1,2,4,6] O qM (fun w' hw hS=>zC 10 O (zQ O) hS (zC 11 O (zH (o:=2) O) hS (zu 3 12 ?_ ?_)))))
   ·refine zm 3 O hw (zM 3 (v:=pt ld) O O O O (zF [0,1,2,4,6] O qM (fun w' hw hS=>zK 12 O hw (yB (v:=l.rv) 5 0 2 O O O O qN O (zF [0,1,2,4,6] O qM (fun w' hw hS=>zK 15 O hw (zi (pC 5 4 O O) 1 (n5_ - 1) O O O V O (zF [0,1,2,4,6] O qM (fun w' hw hS=>zK 16 O hw (yE (pC 5 4 O O) 1 (n5_ - 1) 0 (fun _=>O) O O V O O (zF [0,1,2,4,6] O qM (fun w' hw hS=>zC 17 O (zQ O) hS ?_))))))))))))
    refine zC 18 O (zH (o:=3) O) hS (zK 19 O hw ?_)
    refine z2 [Res.ou ob o,vI cv1_ F3_.vs,vI cw2_ F3_.ls,z4 cb t (pt ld) a r b yv jb qd (pt ob),Res.nl b lv es,vU pv4_ (zw a.id (zc b.vs (es.map EntD.toEntA)).vs l.qa l.qf.length PeerM.round),yN ld l,vP l.pv l.qa,sP l.qa,vI l.av l.qe,vT l.rv l.qf,vL l.kv l.qj] (fun w' hw=>hw.qn 5 O) ?_
    refine zn (cs:=(LdD.cells l)) 6 O O O O O (zF [0,1,2,4,5] O qM (fun w' hw hS=>zC 20 O (zQ O) hS (zC 21 O (zH (o:=2) O) hS (zC 22 O (zH (o:=1) O) hS (zK 23 O hw (zn 3 O O O O O (zF [0,1,2,4,5] O qM (fun w' hw hS=>zV ?_))))))))
    exact⟨⟨O,O,trivial⟩,trivial,hw⟩
   refine zm 12 O hw (yB (v:=l.rv) 5 0 2 O O O O qN O (zF [0,1,2,4,6] O qM (fun w' hw hS=>zu 3 15 ?_ ?_)))
   ·refine zm 3 O hw (zM 3 (v:=pt ld) O O O O (zF [0,1,2,4,6] O qM (fun w' hw hS=>zK 15 O hw (zi (pC 5 4 O O) 1 (n5_ - 1) O O O V O (zF [0,1,2,4,6] O qM (fun w' hw hS=>zK 16 O hw (yE (pC 5 4 O O) 1 (n5_ - 1) 0 (fun _=>O) O O V O O (zF [0,1,2,4,6] O qM (fun w' hw hS=>zC 17 O (zQ O) hS (zC 18 O (zH (o:=3) O) hS (zK 19 O hw ?_)))))))))))
    refine z2 [Res.ou ob o,vI cv1_ F3_.vs,vI cw2_ F3_.ls,z4 cb t (pt ld) a r b yv jb qd (pt ob),Res.nl b lv es,vU pv4_ (zw a.id (zc b.vs (es.map EntD.toEntA)).vs l.qa l.qf.length PeerM.round),yN ld l,vP l.pv l.qa,sP l.qa,vI l.av l.qe,vT l.rv l.qf,vL l.kv l.qj] (fun w' hw=>hw.qn 5 O) ?_
    refine zn (cs:=(LdD.cells l)) 6 O O O O O (zF [0,1,2,4,5] O qM (fun w' hw hS=>zC 20 O (zQ O) hS (zC 21 O (zH (o:=2) O) hS (zC 22 O (zH (o:=1) O) hS (zK 23 O hw (zn 3 O O O O O (zF [0,1,2,4,5] O qM (fun w' hw hS=>zV ?_))))))))
    exact⟨⟨O,O,trivial⟩,trivial,hw⟩
   refine zm 15 O hw (zi (pC 5 4 O O) 1 (n5_ - 1) O O O V O (zF [0,1,2,4,6] O qM (fun w' hw hS=>zu 3 16 ?_ ?_)))
   ·refine zm 3 O hw (zM 3 (v:=pt ld) O O O O (zF [0,1,2,4,6] O qM (fun w' hw hS=>zK 16 O hw (yE (pC 5 4 O O) 1 (n5_ - 1) 0 (fun _=>O) O O V O O (zF [0,1,2,4,6] O qM (fun w' hw hS=>zC 17 O (zQ O) hS (zC 18 O (zH (o:=3) O) hS (zK 19 O hw ?_))))))))
    refine z2 [Res.ou ob o,vI cv1_ F3_.vs,vI cw2_ F3_.ls,z4 cb t (pt ld) a r b yv jb qd (pt ob),Res.nl b lv es,vU pv4_ (zw a.id (zc b.vs (es.map EntD.toEntA)).vs l.qa l.qf.length PeerM.round),yN ld l,vP l.pv l.qa,sP l.qa,vI l.av l.qe,vT l.rv l.qf,vL l.kv l.qj] (fun w' hw=>hw.qn 5 O) ?_
    refine zn (cs:=(LdD.cells l)) 6 O O O O O (zF [0,1,2,4,5] O qM (fun w' hw hS=>zC 20 O (zQ O) hS (zC 21 O (zH (o:=2) O) hS (zC 22 O (zH (o:=1) O) hS (zK 23 O hw (zn 3 O O O O O (zF [0,1,2,4,5] O qM (fun w' hw hS=>zV ?_))))))))
    exact⟨⟨O,O,trivial⟩,trivial,hw⟩
   refine zm 16 O hw (yE (pC 5 4 O O) 1 (n5_ - 1) 0 (fun _=>O) O O V O O (zF [0,1,2,4,6] O qM (fun w' hw hS=>zK 3 O hw (zM 3 (v:=pt ld) O O O O (zF [0,1,2,4,6] O qM (fun w' hw hS=>zC 17 O (zQ O) hS (zC 18 O (zH (o:=3) O) hS (zK 19 O hw ?_))))))))
   refine z2 [Res.ou ob o,vI cv1_ F3_.vs,vI cw2_ F3_.ls,z4 cb t (pt ld) a r b yv jb qd (pt ob),Res.nl b lv es,vU pv4_ (zw a.id (zc b.vs (es.map EntD.toEntA)).vs l.qa l.qf.length PeerM.round),yN ld l,vP l.pv l.qa,sP l.qa,vI l.av l.qe,vT l.rv l.qf,vL l.kv l.qj] (fun w' hw=>hw.qn 5 O) ?_
   refine zn (cs:=(LdD.cells l)) 6 O O O O O (zF [0,1,2,4,5] O qM (fun w' hw hS=>zC 20 O (zQ O) hS (zC 21 O (zH (o:=2) O) hS (zC 22 O (zH (o:=1) O) hS (zK 23 O hw (zn 3 O O O O O (zF [0,1,2,4,5] O qM (fun w' hw hS=>zV ?_))))))))
   exact⟨⟨O,O,trivial⟩,trivial,hw⟩
  refine zB (zI O (zA (zN (zB (zD O (zb O O (zJ (o:=9) O O (zM 3 (v:=pt ld) O O O O (zb O O (zJ (o:=4) O O (zM 6 (v:=l.kv) O O O O (zo (pV 11 O) O O ?_))))))))))))
  refine zD O (zA (zX ?_))
  refine xj (fun(k:Nat) (rv' xv:Value)=>[(0,pt cb),(2,Vn n5_),(4,xv),(61,l.kv),(62,Vj l.qj.length),(63,Vj k)]) (fun(k:Nat) (rv' xv:Value)=>k≤l.qj.length) (fun(k:Nat) (rv' xv:Value)=>[Res.ou ob ({o with rv:=rv',qz:=o.qz++((l.qj.take k).filter (fun q=>q.round≤n5_)).map LookM.rdy}:OutD),vI cv1_ F3_.vs,vI cw2_ F3_.ls,z4 cb ({t with qA:=(zG l.qf (n5_ - 1))}:TimD) (pt ld) a r b yv jb qd (pt ob),Res.nl b lv es,vU pv4_ (zw a.id (zc b.vs (es.map EntD.toEntA)).vs l.qa l.qf.length PeerM.round),yN ld ({l with sure:=n5_}:LdD),vP l.pv l.qa,sP l.qa,vI l.av l.qe,vT l.rv l.qf,vL l.kv l.qj,vL xv ((l.qj.take k).filter (fun q=>¬ q.round≤n5_))]) (fun(k:Nat) (rv' xv:Value)=>l.qj.length - k) (fun w' hw=>⟨0,o.rv, .slice none 0 0,⟨O,O,O,O,O,O,trivial⟩,Nat.zero_le _,(by rw[List.take_zero,List.filter_nil,List.filter_nil,List.map_nil,List.append_nil];exact(zl hw 116 3))⟩) (fun k rv' xv g hΦ=> ?_)
  have hlf:((l.qj.take k).filter (fun q=>q.round≤n5_)).length≤10000∧((l.qj.take k).filter (fun q=>¬ q.round≤n5_)).length≤10000:=⟨Nat.le_trans (List.length_filter_le _ _) (by rw[List.length_take];omega),Nat.le_trans (List.length_filter_le _ _) (by rw[List.length_take];omega)⟩
  refine zB (yH O O O (zA (zN (zY O (fun c2=> ?_) (fun c2=> ?_)))))
  ·have hkk:k<l.qj.length:=by omega
   refine zO (zN (zX (zB (zi (pV 11 O) 3 k O O O V O (kM (pV 11 O) 3 k (off:=xJ l.kv+k*3) (fun _=>O) O O V O (yF (v:= .agg #[Vn 0,Vn 0,Vn 0]) qN O (fun b6=>zq 13 O O O (xQ O) O (zA (zB (zJ (o:=2) O O (zM 13 (v:=Vn ((zG l.qj k).round)) O O O O (zD O ?_))))))))))))
   refine xx O O O (zA (zY O (fun c3=> ?_) (fun c3=> ?_)))
   ·have hf1:=zDR (P:=fun q:LookM=>q.round≤n5_) hkk V
    have hf2:=zGS (P:=fun q:LookM=>¬ q.round≤n5_) hkk (not_not_intro V)
    refine zh [1,2,3,4,5,6,7,8,9,10,11,12,13] O qM qN (fun w' hw hS=>zC 0 O zS hS (zC 1 O (zQ O) hS (zC 2 O (zH (o:=33) O) hS (zC 3 O (zZ 2 (v:=pt ob) O O O) hS (zC 4 O zS hS (zC 5 O (zQ O) hS (zC 6 O (zH (o:=33) O) hS (zC 7 O (zZ 2 (v:=pt ob) O O O) hS (zC 8 O (zQ O) hS (zC 9 O (zH (o:=2) O) hS (zC 11 O (zH (o:=0) O) hS (zC 12 O (zEZ 12 [Vn ((zG l.qj k).id),Vn ((zG l.qj k).index)] O O (kG 0 O) qN) hS ?_))))))))))))
    refine zu 10 13 ?_ ?_
    ·refine zm 10 O hw (yB (v:=rv') 0 0 2 O O O O qN O (zF [1,2,3,4,5,6,7,8,9,10,11,12,13] O qM (fun w' hw hS=>zK 13 O hw (zy (e:=53) (sz:=2) (vs:=[.agg #[Vn ((zG l.qj k).id),Vn ((zG l.qj k).index)]]) qN O O (by simp[Value.cells,RdyD.cells]) qM O (fun b84=>zF [1,2,3,4,5,6,7,8,9,10,11,12,13] O qM (fun w' hw hS=>zK 14 O hw ?_))))))
     refine z2 [vI cv1_ F3_.vs,vI cw2_ F3_.ls,z4 cb ({t with qA:=(zG l.qf (n5_ - 1))}:TimD) (pt ld) a r b yv jb qd (pt ob),Res.nl b lv es,vU pv4_ (zw a.id (zc b.vs (es.map EntD.toEntA)).vs l.qa l.qf.length PeerM.round),yN ld ({l with sure:=n5_}:LdD),vP l.pv l.qa,sP l.qa,vI l.av l.qe,vT l.rv l.qf,vL l.kv l.qj,vL xv ((l.qj.take k).filter (fun q=>¬ q.round≤n5_)),Res.row b6 116 (LookM.cells (zG l.qj k)),vR (.slice (some ⟨b84,0,none⟩) 1 1) [(LookM.rdy (zG l.qj k))],zBE ob ({o with rv:=rv',qz:=o.qz++((l.qj.take k).filter (fun q=>q.round≤n5_)).map LookM.rdy}:OutD),vM o.mv o.qk,sM o.qk,vR rv' (o.qz++((l.qj.take k).filter (fun q=>q.round≤n5_)).map LookM.rdy),vU o.xv o.qt] (fun w' hw=>hw.qn 0 O) ?_
     refine z7 (g:=RdyD.cells) (sz:=2) (by':=16) (fun _=>O) (l:=o.qz++((l.qj.take k).filter (fun q=>q.round≤n5_)).map LookM.rdy) (l':=[(LookM.rdy (zG l.qj k))]) (by simp[cell1,RdyD.cells,vu]) 17 qN O O O (fun w' hw'=>Vec.sl (Own.holds hw' 13 _ O)) qO qM O (fun v85=>zF [0,1,2,3,4,5,6,7,8,9,10,11,12] O qM (fun w' hw hS=>zC 15 O (zQ O) hS (zC 16 O (zH (o:=2) O) hS (zK 17 O hw ?_))))
     refine zP (fun w' hw=>Own.qh (i:=17) O hw) (fun hc1_=> ?_)
     refine zn 14 O O O hc1_ O (zF [0,1,2,3,4,5,6,7,8,9,10,11,12] O qM (fun w' hw hS=>zV ?_))
     refine Oc19 ?_ hw
     refine zT (zp O O (zt V) O (zD O ?_))
     exact ze (fun w' hw=>⟨k+1,v85,xv,⟨O,O,O,O,O,O,trivial⟩,V,(by rw[hf1,hf2,List.map_append,←List.append_assoc o.qz];exact(hw.qo [14,15,16,17,18] rfl qM).sel [14,0,1,2,3,4,5,6,7,8,9,10,11] rfl qM),V⟩)
    refine zm 13 O hw (zy (e:=53) (sz:=2) (vs:=[.agg #[Vn ((zG l.qj k).id),Vn ((zG l.qj k).index)]]) qN O O (by simp[Value.cells,RdyD.cells]) qM O (fun b84=>zF [1,2,3,4,5,6,7,8,9,10,11,12,13] O qM (fun w' hw hS=>zK 10 O hw (yB (v:=rv') 0 0 2 O O O O qN O (zF [1,2,3,4,5,6,7,8,9,10,11,12,13] O qM (fun w' hw hS=>zK 14 O hw ?_))))))
    refine z2 [vI cv1_ F3_.vs,vI cw2_ F3_.ls,z4 cb ({t with qA:=(zG l.qf (n5_ - 1))}:TimD) (pt ld) a r b yv jb qd (pt ob),Res.nl b lv es,vU pv4_ (zw a.id (zc b.vs (es.map EntD.toEntA)).vs l.qa l.qf.length PeerM.round),yN ld ({l with sure:=n5_}:LdD),vP l.pv l.qa,sP l.qa,vI l.av l.qe,vT l.rv l.qf,vL l.kv l.qj,vL xv ((l.qj.take k).filter (fun q=>¬ q.round≤n5_)),Res.row b6 116 (LookM.cells (zG l.qj k)),vR (.slice (some ⟨b84,0,none⟩) 1 1) [(LookM.rdy (zG l.qj k))],zBE ob ({o with rv:=rv',qz:=o.qz++((l.qj.take k).filter (fun q=>q.round≤n5_)).map LookM.rdy}:OutD),vM o.mv o.qk,sM o.qk,vR rv' (o.qz++((l.qj.take k).filter (fun q=>q.round≤n5_)).map LookM.rdy),vU o.xv o.qt] (fun w' hw=>hw.qn 0 O) ?_
    refine z7 (g:=RdyD.cells) (sz:=2) (by':=16) (fun _=>O) (l:=o.qz++((l.qj.take k).filter (fun q=>q.round≤n5_)).map LookM.rdy) (l':=[(LookM.rdy (zG l.qj k))]) (by simp[cell1,RdyD.cells,vu]) 17 qN O O O (fun w' hw'=>Vec.sl (Own.holds hw' 13 _ O)) qO qM O (fun v85=>zF [0,1,2,3,4,5,6,7,8,9,10,11,12] O qM (fun w' hw hS=>zC 15 O (zQ O) hS (zC 16 O (zH (o:=2) O) hS (zK 17 O hw ?_))))
    refine zP (fun w' hw=>Own.qh (i:=17) O hw) (fun hc2_=> ?_)
    refine zn 14 O O O hc2_ O (zF [0,1,2,3,4,5,6,7,8,9,10,11,12] O qM (fun w' hw hS=>zV ?_))
    refine Oc19 ?_ hw
    refine zT (zp O O (zt V) O (zD O ?_))
    exact ze (fun w' hw=>⟨k+1,v85,xv,⟨O,O,O,O,O,O,trivial⟩,V,(by rw[hf1,hf2,List.map_append,←List.append_assoc o.qz];exact(hw.qo [14,15,16,17,18] rfl qM).sel [14,0,1,2,3,4,5,6,7,8,9,10,11] rfl qM),V⟩)
   have hf1:=zGS (P:=fun q:LookM=>q.round≤n5_) hkk V
   have hf2:=zDR (P:=fun q:LookM=>¬ q.round≤n5_) hkk V
   refine zT (zD O (yI (cs:=(LookM.cells (zG l.qj k))) 13 O O O (zy (e:=116) (sz:=3) (vs:=[.agg (LookM.cells (zG l.qj k)).toArray]) qN O O (by simp[Value.cells,LookM.cells]) qM O (fun b90=>z7 (g:=LookM.cells) (sz:=3) (by':=24) (fun _=>O) (l:=((l.qj.take k).filter (fun q=>¬ q.round≤n5_))) (l':=[(zG l.qj k)]) (by simp[cell1,LookM.cells,vu]) 12 qN O O O (fun w' hw'=>Vec.sl (Own.holds hw' 14 _ O)) (by simp only[List.length_append,List.length_cons,List.length_nil];omega) qM O (fun v91=>zI O (zA (zT (zp O O (zt V) O (zD O ?_)))))))))
   exact ze (fun w' hw=>⟨k+1,rv',v91,⟨O,O,O,O,O,O,trivial⟩,V,(by rw[hf1,hf2];exact hw.sel [0,1,2,3,4,5,6,7,8,9,10,11,12] rfl qM),V⟩)
  refine yC O (zT (zD O (zb O O (zJ (o:=9) O O (zM 3 (v:=pt ld) O O O O (zD O (zb O O (zJ (o:=4) O O ?_))))))))
  refine zP (fun w' hw=>Own.qh (i:=12) O hw) (fun hc3_=> ?_)
  refine zn (cs:=(LdD.cells ({l with sure:=n5_}:LdD))) 6 O O O hc3_ O ?_
  exact ze (yJ O (fun w' hw=>⟨rv',xv,O,(by rw[List.take_of_length_le V]at hw;rw[hN,zMR V,zMZ V,zMs V];exact(hw.qo [6,7,8,9,10,12] rfl qM).sel [3,4,7,0] rfl qM)⟩))
end Go.Proofs.YtkkeknmkipkbmaaGreat
