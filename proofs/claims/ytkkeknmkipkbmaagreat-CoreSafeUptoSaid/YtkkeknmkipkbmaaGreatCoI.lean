import Derived.Test.YtkkeknmkipkbmaaGreatCoH
set_option linter.unusedSectionVars false
set_option linter.unusedSimpArgs false
set_option linter.unusedVariables false
set_option maxRecDepth 10000
namespace Go.Proofs.YtkkeknmkipkbmaaGreat
open Go Go.Sc Go.Proofs
theorem zJo{S:List Nat}(cb jb:Nat)(t:TimD)(a:StA)(r:RolD)(b:StB)(yv out:Value)(qd:Nat)(lv:Value)(es:List EntD)(ld:Nat)(l:LdD)(self:Nat)(w:World)(hg:(LG 0 0 es).good)(hl:es.length≤1000000)(hvl:b.vs.length≤12)(hpl:l.qa.length≤1000000)(hin:Own w S [z4 cb t (pt ld) a r b yv jb qd out,Res.nl b lv es,Res.ld ld l] w):Rets Tryz.prog 77 #[pt cb,Vn self, .func (.func 199) #[] #[]] w fun u_ w'=>∃ (pv:Value),u_=pv∧Own w S [z4 cb t (pt ld) a r b yv jb qd out,Res.nl b lv es,Res.ld ld l,vU pv (zw a.id (zc b.vs (es.map EntD.toEntA)).vs l.qa self PeerM.round)] w':=by
  refine zW Tryz.func77 O Tryz.ntmps77 hin ?_
  refine zB (zI O (zA (zB (zI O (zA (zN (zB (zD O (a_call O O (fun w' hw=>(xe cb jb t a r b (pt ld) yv out qd _ _ w' ‹_› qO qO (hw.give [0,1] O qM)).mono ?_))))))))))
  rintro _ w1 ⟨cv1_,cw2_,F3_,rfl,hf2_1,hO⟩
  have hFl:F3_.vs.length≤1000∧F3_.ls.length≤1000:=by rw[hf2_1];exact yf V
  refine O5 ?_ (hw.qg [0,1] O hO)
  refine zHD (o:=0) (v:=cv1_) O qN O O (zo (pV 3 O) O O (zD O (zA (zX ?_))))
  refine yw (fun(k:Nat) (pv:Value)=>[(0,pt cb),(1,Vn self),(2, .func (.func 199) #[] #[]),(7,pv),(14,cv1_),(15,Vj F3_.vs.length),(16,Vj k)]) (fun(k:Nat) (pv:Value)=>k≤F3_.vs.length) (fun(k:Nat) (pv:Value)=>[Res.ld ld l,z4 cb t (pt ld) a r b yv jb qd out,Res.nl b lv es,vI cv1_ F3_.vs,vI cw2_ F3_.ls,vU pv (zw a.id (F3_.vs.take k) l.qa self PeerM.round)]) (fun(k:Nat) (pv:Value)=>F3_.vs.length - k) (fun w' hw=>⟨0, .slice none 0 0,⟨O,O,O,O,O,O,O,trivial⟩,Nat.zero_le _,(zl hw 22 1)⟩) (fun k pv g hΦ=> ?_)
  have hpl0:(zw a.id (F3_.vs.take k) l.qa self PeerM.round).length≤1000:=by unfold zw;rw[List.length_map,List.length_take];omega
  refine zB (yG O O O (zA (zN (zY O (fun c1=> ?_) (fun c1=> ?_)))))
  ·refine zO (zN (zX (zB (zi (pV 3 O) 1 k O O O V O (yF (pV 3 O) 1 k 0 (fun _=>O) O O V O O (zI O (zA (zB (zI O (zA (zN (zB ?_))))))))))))
   refine zD O (zD O (za O O (zJ (o:=10) O O (zL 1 (v:=Vi a.id) O O O O (yQ O O O (zA (zY O (fun c2=> ?_) (fun c2=> ?_))))))))
   ·have hpm:=zAI (ps:=l.qa) (self:=self) (of:=PeerM.round) c2
    refine zS (zD O (zI O (zA (zS (zD O (zD O (zy (e:=22) (sz:=1) (vs:=[Vn self]) qN O O qR qM O (fun b37=>z7 (g:=U1) (sz:=1) (by':=8) (fun _=>O) (l:=(zw a.id (F3_.vs.take k) l.qa self PeerM.round)) (l':=[self]) qZ 5 qN O O O (fun w' hw'=>Vec.sl (Own.holds hw' 6 _ O)) qO qM O (fun v38=>zI O (zA (zS (zp O O (zq V) O ?_))))))))))))
    refine zD O ?_
    exact zd (fun w' hw=>⟨k+1,v38,⟨O,O,O,O,O,O,O,trivial⟩,V,(by rw[zt V,xr,hpm];exact hw.sel [0,1,2,3,4,5] rfl qM),V⟩)
   refine zB (zD O (zD O (a_call O O (fun w' hw=>(zDM cb jb t a r b yv out qd ld _ (zG F3_.vs k) w' qO (hw.give [1,0] O qM)).mono ?_))))
   rintro _ w1 ⟨pv4_,rfl,hf8_2,hO⟩
   refine O6 ?_ (hw.qg [1,0] O hO)
   refine zI O (zA (zB (zD O (zBl qN O O O (zA (zA0 O (fun c3=> ?_) (fun c3=> ?_)))))))
   ·obtain⟨j,hj,rfl,hji,hix⟩:=PeerIs.some hf8_2 c3
    have hpm:=zAO (self:=self) (of:=PeerM.round) c2 hix
    refine zS (zD O (zD O (yW (fst:=[]) (cap:=[]) O qN O O (fun w' hw=>(zQm ((zG l.qa j).1) ((zG l.qa j).2) w' (hw.partStar0 5 2 j O O qT)).mono ?_))))
    rintro _ w1 ⟨rfl,hO⟩
    refine O6 ?_ (hw.qi hO)
    refine zI O (zA (zS (zD O (zD O (zy (e:=22) (sz:=1) (vs:=[Vn (((zG l.qa j).2).round)]) qN O O qR qM O (fun b37=>z7 (g:=U1) (sz:=1) (by':=8) (fun _=>O) (l:=(zw a.id (F3_.vs.take k) l.qa self PeerM.round)) (l':=[((zG l.qa j).2).round]) qZ 3 qN O O O (fun w' hw'=>Vec.sl (Own.holds hw' 6 _ O)) qO qM O (fun v38=>zI O (zA (zS (zp O O (zq V) O (zD O ?_)))))))))))
    exact zd (fun w' hw=>⟨k+1,v38,⟨O,O,O,O,O,O,O,trivial⟩,V,(by rw[zt V,xr,hpm];exact hw.sel [5,4,0,1,2,3] rfl qM),V⟩)
   have hpm:=zAG (self:=self) (of:=PeerM.round) c2 (PeerIs.none hf8_2 c3)
   refine zO (zS (zD O (zD O (zy (e:=22) (sz:=1) (vs:=[Vn 0]) qN O O qR qM O (fun b37=>z7 (g:=U1) (sz:=1) (by':=8) (fun _=>O) (l:=(zw a.id (F3_.vs.take k) l.qa self PeerM.round)) (l':=[0]) qZ 3 qN O O O (fun w' hw'=>Vec.sl (Own.holds hw' 6 _ O)) qO qM O (fun v38=>zI O (zA (zS (zp O O (zq V) O (zD O ?_))))))))))
   exact zd (fun w' hw=>⟨k+1,v38,⟨O,O,O,O,O,O,O,trivial⟩,V,(by rw[zt V,xr,hpm];exact hw.sel [5,4,0,1,2,3] rfl qM),V⟩)
  refine yA O (zB (zD O (zI O (zA ?_))))
  exact zV (z6 (v:=pv) O O (fun w' hw=>⟨pv,O,(by rw[List.take_of_length_le V,hf2_1]at hw;exact hw.sel [1,2,0,5] rfl qM)⟩))
def yx(at_:Nat)(p:PeerM):PeerM:={p with qy:=max p.qy at_,next:=max p.next (at_+1),opn:=true,qw:=if at_+1≥p.next then 0 else max (p.qw - 1) 0,off:=0,asked:=false}
def jz(a:StA)(term:Nat)(c:Prop)[Decidable c](p:PeerM):List MsgA:=if c then [⟨9,a.id,p.id,term,0,0,0,0,false,[],⟨[],[]⟩,0,[]⟩]else []
def zG5(a:StA)(term:Nat)(c:Prop)[Decidable c](p:PeerM):List MsgD:=if c then [yd a term (yo 9 0 p.id 0 0 0 0 0 false (.slice none 0 0) [])]else []
theorem zMA{a:StA}{term:Nat}{c:Prop}[Decidable c]{p:PeerM}:(zG5 a term c p).map MsgD.a=jz a term c p:=by unfold zG5 jz;split<;>rfl
theorem zO0{at_:Nat}{p:PeerM}(h:p.next≤at_+1):({p with qy:=max p.qy at_,next:=max p.next (at_+1),opn:=true,qw:=0}:PeerM)={yx at_ p with off:=p.off,asked:=p.asked}:=by unfold yx;rw[if_pos V]
theorem zOV{at_:Nat}{p:PeerM}(h:¬ p.next≤at_+1):({p with qy:=max p.qy at_,next:=max p.next (at_+1),opn:=true,qw:=max (p.qw - 1) 0}:PeerM)={yx at_ p with off:=p.off,asked:=p.asked}:=by unfold yx;rw[if_neg V]
theorem zNs{at_ n:Nat}{p:PeerM}(ha:at_≤n)(h:p.bd n):(yx at_ p).bd n:=by
  have h1:=h.next;have h2:=h.qy;have h3:=h.qw
  refine⟨?_,?_,?_⟩
  · show 1≤max p.next (at_+1)∧max p.next (at_+1)≤n+1;omega
  · show max p.qy at_≤n;omega
  show 0≤(if at_+1≥p.next then 0 else max (p.qw - 1) 0)∧(if at_+1≥p.next then 0 else max (p.qw - 1) 0)≤4;split<;>omega
theorem zBP{ps:List PeerP}{k:Nat}{q:PeerM}{P:PeerM→Prop}(h:∀ p∈ps,P p.2)(hq:P q):∀ p∈zx ps k q,P p.2:=by
  intro p hm
  rcases List.mem_or_eq_of_mem_set hm with h1|rfl
  · exact h p h1
  exact hq
theorem zQA{S:List Nat}(cb jb:Nat)(t:TimD)(a:StA)(r:RolD)(b:StB)(yv:Value)(qd:Nat)(lv:Value)(es:List EntD)(ld:Nat)(l:LdD)(ob:Nat)(o:OutD)(k at_:Nat)(w:World)(hg:(LG 0 0 es).good)(hl:es.length≤1000000)(hvl:b.vs.length≤12)(hpl:l.qa.length≤1000)(hk:k<l.qa.length)(ho:o.qj.length≤10000)(hp:∀ p∈l.qa,p.2.bd 1000000)(hr:l.qf.length≤1000000)(hcl:(zc b.vs (es.map EntD.toEntA)).vs.length≤12)(hat:at_≤es.length)(hin:Own w S [z4 cb t (pt ld) a r b yv jb qd (pt ob),Res.nl b lv es,Res.ld ld l,Res.ou ob o] w):Rets Tryz.prog 174 #[pt cb,pt ((zG l.qa k).1),Vn at_] w fun u_ w'=>∃ (mv':Value) (ms:List MsgD),u_= .tuple #[]∧ms.map MsgD.a=jz a t.term (y3 l (yx at_ (zG l.qa k).2) es.length false) (yx at_ (zG l.qa k).2)++xF a t.term (yU a t.term b.vs (es.map EntD.toEntA) (zx l.qa k (yx at_ (zG l.qa k).2)) r.qc) l.qf.length (es.map EntD.toEntA) (yx at_ (zG l.qa k).2) false∧Own w S [z4 cb t (pt ld) a ({r with qc:=yU a t.term b.vs (es.map EntD.toEntA) (zx l.qa k (yx at_ (zG l.qa k).2)) r.qc}:RolD) b yv jb qd (pt ob),Res.nl b lv es,Res.ld ld ({l with qa:=zx l.qa k (ym (es.map EntD.toEntA) (yx at_ (zG l.qa k).2)),qC:=if y3 l (yx at_ (zG l.qa k).2) es.length false then true else l.qC}:LdD),Res.ou ob ({o with mv:=mv',qj:=o.qj++ms}:OutD)] w':=by
  have hbd:=hp _ (ze hk)
  have hbn:=hbd.next
  have hbf:=hbd.qw
  have hl1:(es.map EntD.toEntA).length=es.length:=List.length_map _
  refine zW Tryz.func174 O Tryz.ntmps174 hin ?_
  refine zB (zD O (zD O (za O O (zJ (o:=2) O O (x0 (l:=l.qa) 2 2 k 2 O O qT O O O qN O (zD O (zDs (c:=((max (((zG l.qa k).2).qy) at_:Nat):Int)) O O (zEs _ _) O (za O O (zJ (o:=2) O O ?_)))))))))
  refine z2 [z4 cb t (pt ld) a r b yv jb qd (pt ob),Res.nl b lv es,Res.ou ob o,yN ld l,vP l.pv l.qa,sP l.qa,vI l.av l.qe,vT l.rv l.qf,vL l.kv l.qk] (fun w' hw=>hw.qn 2 O) ?_
  refine z2 [z4 cb t (pt ld) a r b yv jb qd (pt ob),Res.nl b lv es,Res.ou ob o,yN ld l,vP l.pv l.qa,vI l.av l.qe,vT l.rv l.qf,vL l.kv l.qk,x4 ((zG l.qa k).1) ((zG l.qa k).2),sP (l.qa.eraseIdx k)] (fun w' hw=>hw.qI (g:=PeerP.dres) (l:=l.qa) 5 k qT O) ?_
  refine zn (cs:=(PeerM.cells ((zG l.qa k).2))) 8 O O O O O (zA (zB (zD O (zD O (za O O (zJ (o:=1) O O (zL 8 (v:=Vn (((zG l.qa k).2).next)) O O O O (zD O (zp O O (xO V) O (zDs (c:=((max (((zG l.qa k).2).next) (at_+1):Nat):Int)) O O (zEs _ _) O (za O O (zJ (o:=1) O O ?_))))))))))))
  refine zn 8 O O O O O (zA (zB (zD O (za O O (zJ (o:=6) O O (zn 8 O O O O O (zA (yt (fun(q:PeerM)=>[(0,pt cb),(1,pt ((zG l.qa k).1))]) (fun(q:PeerM)=>q={yx at_ (zG l.qa k).2 with off:=(zG l.qa k).2.off,asked:=(zG l.qa k).2.asked}) (fun(q:PeerM)=>[z4 cb t (pt ld) a r b yv jb qd (pt ob),Res.nl b lv es,Res.ou ob o,yN ld l,vP l.pv l.qa,vI l.av l.qe,vT l.rv l.qf,vL l.kv l.qk,Res.row (zG l.qa k).1 162 [Vi q.id,Vn q.next,Vn q.qy,Vn q.round,Vi q.qw,Vi q.off, .bool q.opn, .bool q.told, .bool q.asked],sP (l.qa.eraseIdx k)]) ?_ (fun q g hΦ=> ?_)))))))))
  ·refine zB (zD O (zp O O (xO V) O (zD O (za O O (zJ (o:=1) O O (zL 8 (v:=Vn (max (((zG l.qa k).2).next) (at_+1))) O O O O (kM O O O (zA (zY O (fun c1=> ?_) (fun c1=> ?_))))))))))
   ·refine zS (zD O (za O O (zJ (o:=4) O O (zn 8 O O O O O ?_))))
    exact zd (fun w' hw=>⟨({(zG l.qa k).2 with qy:=max (zG l.qa k).2.qy at_,next:=max (zG l.qa k).2.next (at_+1),opn:=true,qw:=0}:PeerM),⟨O,O,trivial⟩,zO0 V,hw⟩)
   refine zS (zD O (zD O (za O O (zJ (o:=4) O O (zL 8 (v:=Vi (((zG l.qa k).2).qw)) O O O O (kI O O (zq V) O (zDs (c:=max ((((zG l.qa k).2).qw) - 1) 0) O O (zPs _ _) O (za O O (zJ (o:=4) O O (zn 8 O O O O O ?_))))))))))
   exact zd (fun w' hw=>⟨({(zG l.qa k).2 with qy:=max (zG l.qa k).2.qy at_,next:=max (zG l.qa k).2.next (at_+1),opn:=true,qw:=max ((zG l.qa k).2.qw - 1) 0}:PeerM),⟨O,O,trivial⟩,zOV V,hw⟩)
  have hq:=hΦ
  have hq2:yx at_ (zG l.qa k).2={q with off:=0,asked:=false}:=by rw[hq];rfl
  refine yt (fun(pb:Nat)=>[(0,pt cb),(1,pt pb)]) (fun(pb:Nat)=>pb=(zG (zx l.qa k (yx at_ (zG l.qa k).2)) k).1) (fun(pb:Nat)=>[z4 cb t (pt ld) a r b yv jb qd (pt ob),Res.nl b lv es,Res.ou ob o,Res.ld ld ({l with qa:=(zx l.qa k (yx at_ (zG l.qa k).2))}:LdD)]) ?_ (fun pb g hΦ=> ?_)
  ·refine zS (zD O (zD O (za O O (zJ (o:=5) O O (zn 8 O O O O O (za O O (zJ (o:=8) O O (zn 8 O O O O O ?_))))))))
   exact zd (fun w' hw=>⟨(zG l.qa k).1,⟨O,O,trivial⟩,(kQ hk).symm,(by rw[hq2];exact((hw.peerIn 8 9 4 k ({q with off:=0,asked:=false}:PeerM) qT qM rfl rfl rfl).qo [3,7,8,4,5,6] rfl qM))⟩)
  subst hΦ
  have hbd2:=zNs (at_:=at_) V hbd
  have hpm:∀ p∈(zx l.qa k (yx at_ (zG l.qa k).2)),p.2.qy≤1000000:=zBP (P:=fun p=>p.qy≤1000000) (fun p h=>(hp p h).qy) hbd2.qy
  refine zB (zD O (a_call O O (fun w' hw=>(zCg cb jb t a r b yv (pt ob) qd _ _ ld ({l with qa:=(zx l.qa k (yx at_ (zG l.qa k).2))}:LdD) w' ‹_› qO qO (by show(zx l.qa k (yx at_ (zG l.qa k).2)).length≤_;rw[xA];omega) hcl hpm (hw.give [0,1,3] O qM)).mono ?_)))
  rintro _ w1 ⟨rfl,hO⟩
  refine O4 ?_ (hw.qg [0,1,3] O hO)
  refine zA (zB (zD O (zD O (a_call O O (fun w' hw=>(zL5 cb jb t a ({r with qc:=yU a t.term b.vs (es.map EntD.toEntA) ({l with qa:=(zx l.qa k (yx at_ (zG l.qa k).2))}:LdD).qa r.qc}:RolD) b yv qd _ _ ld ({l with qa:=(zx l.qa k (yx at_ (zG l.qa k).2))}:LdD) ob _ k false w' ‹_› qO qO (by show k<(zx l.qa k (yx at_ (zG l.qa k).2)).length;rw[xA];exact hk) qO (hw.give [1,2,3,0] O qM)).mono ?_)))))
  rintro _ w1 ⟨mv'1_,rfl,hO⟩
  refine O4 ?_ (hw.qg [1,2,3,0] O hO)
  refine zA (zS (zD O (zD O (a_call O O (fun w' hw=>(zBz cb jb t a ({r with qc:=yU a t.term b.vs (es.map EntD.toEntA) ({l with qa:=(zx l.qa k (yx at_ (zG l.qa k).2))}:LdD).qa r.qc}:RolD) b yv qd _ _ ld ({({l with qa:=(zx l.qa k (yx at_ (zG l.qa k).2))}:LdD)with qC:=if y3 ({l with qa:=(zx l.qa k (yx at_ (zG l.qa k).2))}:LdD) (zG ({l with qa:=(zx l.qa k (yx at_ (zG l.qa k).2))}:LdD).qa k).2 es.length false then true else({l with qa:=(zx l.qa k (yx at_ (zG l.qa k).2))}:LdD).qC}:LdD) ob ({o with mv:=mv'1_,qj:=o.qj++(if y3 ({l with qa:=(zx l.qa k (yx at_ (zG l.qa k).2))}:LdD) (zG ({l with qa:=(zx l.qa k (yx at_ (zG l.qa k).2))}:LdD).qa k).2 es.length false then [yd a t.term (yo 9 0 (zG ({l with qa:=(zx l.qa k (yx at_ (zG l.qa k).2))}:LdD).qa k).2.id 0 0 0 0 0 false (.slice none 0 0) [])]else [])}:OutD) k false w' ‹_› qO qO (by show k<(zx l.qa k (yx at_ (zG l.qa k).2)).length;rw[xA];exact hk) (by show(o.qj++_).length≤_;rw[List.length_append];split<;>simp<;>omega) (by show(zG (zx l.qa k (yx at_ (zG l.qa k).2)) k).2.bd _;rw[xG hk];exact hbd2) qP (hw.give [0,1,2,3] O qM)).mono ?_)))))
  rintro _ w1 ⟨mv'2_,ms3_,rfl,hf9_2,hO⟩
  refine O4 ?_ (hw.qg [0,1,2,3] O hO)
  exact zd (yJ O (fun w' hw=>⟨mv'2_,zG5 a t.term (y3 l (yx at_ (zG l.qa k).2) es.length false) (yx at_ (zG l.qa k).2)++ms3_,O,(by rw[List.map_append,zMA,hf9_2,xG hk]),(by rw[xG hk,ji hk,List.append_assoc o.qj]at hw;exact hw)⟩))
def LookM.rdy(q:LookM):RdyD:=⟨q.id,q.index⟩
def xU(a:StA)(vs0:List Int)(E:List EntA)(ps:List PeerP)(qf:List Int)(sure:Nat):Nat:=
  if(zc vs0 E).ok∧sure<xT (zw a.id (zc vs0 E).vs ps qf.length PeerM.round)then xT (zw a.id (zc vs0 E).vs ps qf.length PeerM.round)else 0
def ko(n:Nat)(kv:Value)(l:LdD):LdD:=if n=0 then l else{l with sure:=n,kv:=kv,qk:=l.qk.filter (fun q=>¬ q.round≤n)}
def xu(n:Nat)(qf:List Int)(t:TimD):TimD:=if n=0 then t else{t with qA:=zG qf (n - 1)}
def zAL(n:Nat)(rv:Value)(qk:List LookM)(o:OutD):OutD:=if n=0 then o else{o with rv:=rv,qx:=o.qx++(qk.filter (fun q=>q.round≤n)).map LookM.rdy}
theorem zMF{a:StA}{vs0:List Int}{E:List EntA}{ps:List PeerP}{qf:List Int}{sure n:Nat}(h:((zc vs0 E).ok→n=xT (zw a.id (zc vs0 E).vs ps qf.length PeerM.round)∧n∈zw a.id (zc vs0 E).vs ps qf.length PeerM.round)∧(¬(zc vs0 E).ok→n=0))(hn:n≤sure):xU a vs0 E ps qf sure=0:=by
  unfold xU
  rw[if_neg]
  rintro⟨h1,h2⟩
  rw[←(h.1 h1).1]at h2;omega
theorem zJs{a:StA}{vs0:List Int}{E:List EntA}{ps:List PeerP}{qf:List Int}{sure n:Nat}(h:((zc vs0 E).ok→n=xT (zw a.id (zc vs0 E).vs ps qf.length PeerM.round)∧n∈zw a.id (zc vs0 E).vs ps qf.length PeerM.round)∧(¬(zc vs0 E).ok→n=0))(hn:¬ n≤sure):xU a vs0 E ps qf sure=n:=by
  unfold xU
  by_cases q:(zc vs0 E).ok
  · rw[←(h.1 q).1,if_pos ⟨q,by omega⟩]
  have:=h.2 q;omega
theorem zMz{n:Nat}{kv:Value}{l:LdD}(h:n=0):ko n kv l=l:=if_pos h
theorem zNQ{n:Nat}{qf:List Int}{t:TimD}(h:n=0):xu n qf t=t:=if_pos h
theorem zNA{n:Nat}{rv:Value}{qk:List LookM}{o:OutD}(h:n=0):zAL n rv qk o=o:=if_pos h
theorem zNV{n:Nat}{kv:Value}{l:LdD}(h:¬ n=0):ko n kv l={l with sure:=n,kv:=kv,qk:=l.qk.filter (fun q=>¬ q.round≤n)}:=if_neg h
theorem zMy{n:Nat}{qf:List Int}{t:TimD}(h:¬ n=0):xu n qf t={t with qA:=zG qf (n - 1)}:=if_neg h
theorem zNB{n:Nat}{rv:Value}{qk:List LookM}{o:OutD}(h:¬ n=0):zAL n rv qk o={o with rv:=rv,qx:=o.qx++(qk.filter (fun q=>q.round≤n)).map LookM.rdy}:=if_neg h
theorem zDC{α:Type}[Inhabited α]{P:α→Prop}[DecidablePred P]{l:List α}{k:Nat}(hk:k<l.length)(h:P (zG l k)):(l.take (k+1)).filter (fun q=>P q)=(l.take k).filter (fun q=>P q)++[zG l k]:=by
  rw[zt hk,List.filter_append];simp[h]
theorem zGp{α:Type}[Inhabited α]{P:α→Prop}[DecidablePred P]{l:List α}{k:Nat}(hk:k<l.length)(h:¬ P (zG l k)):(l.take (k+1)).filter (fun q=>P q)=(l.take k).filter (fun q=>P q):=by
  rw[zt hk,List.filter_append];simp[h]
theorem zO5{S:List Nat}(cb jb:Nat)(t:TimD)(a:StA)(r:RolD)(b:StB)(yv:Value)(qd:Nat)(lv:Value)(es:List EntD)(ld:Nat)(l:LdD)(ob:Nat)(o:OutD)(w:World)(hg:(LG 0 0 es).good)(hl:es.length≤1000000)(hvl:b.vs.length≤12)(hpl:l.qa.length≤1000)(hr:l.qf.length≤1000000)(hcl:(zc b.vs (es.map EntD.toEntA)).vs.length≤12)(hpr:∀ p∈l.qa,p.2.round≤l.qf.length)(hlk:l.qk.length≤10000)(hrd:o.qx.length≤10000)(hin:Own w S [z4 cb t (pt ld) a r b yv jb qd (pt ob),Res.nl b lv es,Res.ld ld l,Res.ou ob o] w):Rets Tryz.prog 175 #[pt cb] w fun u_ w'=>∃ (rv' kv':Value),u_= .tuple #[]∧Own w S [z4 cb (xu (xU a b.vs (es.map EntD.toEntA) l.qa l.qf l.sure) l.qf t) (pt ld) a r b yv jb qd (pt ob),Res.nl b lv es,Res.ld ld (ko (xU a b.vs (es.map EntD.toEntA) l.qa l.qf l.sure) kv' l),Res.ou ob (zAL (xU a b.vs (es.map EntD.toEntA) l.qa l.qf l.sure) rv' l.qk o)] w':=by
  refine zW Tryz.func175 O Tryz.ntmps175 hin ?_
  refine zN (zg [0,1,2,3] O qM qN (fun w' hw hS=>zC 0 O zT hS (zC 2 O zT hS (zC 3 O zT hS (zC 4 O (zQ O) hS (zC 5 O (zH (o:=9) O) hS (zC 6 O (zZ 0 (v:=pt ld) O O O) hS (zC 7 O (zQ O) hS (zC 8 O (zH (o:=2) O) hS (zC 9 O (j8 (v:=l.rv) 2 0 2 O O O O qN) hS (zC 10 O (zAv (pC 2 4 O O) O) hS (zC 11 O (kV qN O (xO V) qN) hS ?_))))))))))))
  refine zK 1 O hw (a_call O O (fun w' hw=>(xe cb jb t a r b (pt ld) yv (pt ob) qd _ _ w' ‹_› qO qO (hw.give [0,1] O qM)).mono ?_))
  rintro _ w1 ⟨cv1_,cw2_,F3_,rfl,hf0_1,hO⟩
  have hFl:F3_.vs.length≤1000∧F3_.ls.length≤1000:=by rw[hf0_1];exact yf V
  refine O6 ?_ (hw.qg [0,1] O hO)
  refine zE [2,3,0,1] O qM (fun w' hw hS=>zK 12 O hw (a_call O O (fun w' hw=>(zJo cb jb t a r b yv (pt ob) qd _ _ ld _ l.qf.length w' ‹_› qO qO qO (hw.give [2,3,0] O qM)).mono ?_)))
  rintro pv4_ w1 ⟨_,rfl,hO⟩
  refine O7 ?_ (hw.qg [2,3,0] O hO)
  refine zE [3,4,5,0] O qM (fun w' hw hS=>zK 13 O hw (a_call O O (fun w' hw=>(zEd ({vv:=cv1_,vs:=F3_.vs,lv:=cw2_,ls:=F3_.ls}:ConfD) pv4_ (zw a.id (zc b.vs (es.map EntD.toEntA)).vs l.qa l.qf.length PeerM.round) w' qP (by rw[jN];exact hcl) (hw.give [6] O qM) ⟨(hw.rdVec 1 O [6] O O),(hw.rdVec 2 O [6] O O)⟩).mono ?_)))
  rintro _ w1 ⟨n5_,e6_,rfl,hf0_13,hO⟩
  have hrf:=zDT (F:=zc b.vs (es.map EntD.toEntA)) (by rw[←hf0_1];exact Iff.rfl) (by rw[←hf0_1]) jN hf0_13
  have hnr:n5_≤l.qf.length:=by
   by_cases q:(zc b.vs (es.map EntD.toEntA)).ok
   · exact zDB (Nat.le_refl _) hpr _ (hrf.1 q).2
   have:=hrf.2 q;omega
  refine O7 ?_ (hw.qg [6] O hO)
  refine zE [3,4,5,0] O qM (fun w' hw hS=>zC 14 O zT hS (zC 15 O (yT (vs:=[Vn n5_,Vi e6_]) O O) hS (zC 16 O (yT (vs:=[Vn n5_,Vi e6_]) O O) hS (zC 17 O yO hS (zC 18 O yO hS (zU ?_))))))
  refine Oc7 ?_ hw
  refine zN (zB (zD O (zD O (za O O (zJ (o:=9) O O (zL 3 (v:=pt ld) O O O O (za O O (zJ (o:=3) O O (yC (v:=Vn l.sure) 5 0 3 O O O O qN O (xp O O O (zA (zY O (fun c1=> ?_) (fun c1=> ?_)))))))))))))
  ·have hN:=zMF (sure:=l.sure) hrf V
   exact zV (yJ O (fun w' hw=>⟨o.rv,l.kv,O,(by rw[zNQ hN,zMz hN,zNA hN];exact hw.sel [3,4,5,0] rfl qM)⟩))
  have hN:=zJs (sure:=l.sure) hrf V
  refine zO (zA2 ([(0,pt cb),(2,Vn n5_)]) (True) ([Res.ou ob o,vI cv1_ F3_.vs,vI cw2_ F3_.ls,z4 cb ({t with qA:=(zG l.qf (n5_ - 1))}:TimD) (pt ld) a r b yv jb qd (pt ob),Res.nl b lv es,vU pv4_ (zw a.id (zc b.vs (es.map EntD.toEntA)).vs l.qa l.qf.length PeerM.round),yN ld ({l with sure:=n5_}:LdD),vP l.pv l.qa,sP l.qa,vI l.av l.qe,vT l.rv l.qf,vL l.kv l.qk]) ?_ (fun g hΦ=> ?_))
  ·refine zg [0,1,2,4,6] O qM qN (fun w' hw hS=>zC 0 O zT hS (zC 1 O (zQ O) hS (zC 2 O (zH (o:=9) O) hS (zC 4 O zT hS (zC 5 O zT hS (zC 6 O zT hS (zC 7 O (zQ O) hS (zC 8 O (zH (o:=9) O) hS (zC 13 O zT hS (zC 14 O (xy (c:=((n5_ - 1:Nat):Int)) O O (ws (a:=n5_) (b:=1) V V)) hS (zu 3 9 ?_ ?_)))))))))))
   ·refine zm 3 O hw (zL 3 (v:=pt ld) O O O O (zE [0,1,2,4,6] O qM (fun w' hw hS=>zK 9 O hw (zL 3 (v:=pt ld) O O O O (zE [0,1,2,4,6] O qM (fun w' hw hS=>zC 10 O (zQ O) hS (zC 11 O (zH (o:=2) O) hS (zK 12 O hw (yC (v:=l.rv) 5 0 2 O O O O qN O (zE [0,1,2,4,6] O qM (fun w' hw hS=>zK 15 O hw (zi (pC 5 4 O O) 1 (n5_ - 1) O O O V O ?_))))))))))))
    refine zE [0,1,2,4,6] O qM (fun w' hw hS=>zK 16 O hw (yF (pC 5 4 O O) 1 (n5_ - 1) 0 (fun _=>O) O O V O O (zE [0,1,2,4,6] O qM (fun w' hw hS=>zC 17 O (zQ O) hS (zC 18 O (zH (o:=3) O) hS (zK 19 O hw ?_))))))
    refine z2 [Res.ou ob o,vI cv1_ F3_.vs,vI cw2_ F3_.ls,z4 cb t (pt ld) a r b yv jb qd (pt ob),Res.nl b lv es,vU pv4_ (zw a.id (zc b.vs (es.map EntD.toEntA)).vs l.qa l.qf.length PeerM.round),yN ld l,vP l.pv l.qa,sP l.qa,vI l.av l.qe,vT l.rv l.qf,vL l.kv l.qk] (fun w' hw=>hw.qn 5 O) ?_
    refine zn (cs:=(LdD.cells l)) 6 O O O O O (zE [0,1,2,4,5] O qM (fun w' hw hS=>zC 20 O (zQ O) hS (zC 21 O (zH (o:=2) O) hS (zC 22 O (zH (o:=1) O) hS (zK 23 O hw (zn 3 O O O O O (zE [0,1,2,4,5] O qM (fun w' hw hS=>zU ?_))))))))
    exact⟨⟨O,O,trivial⟩,trivial,hw⟩
   refine zm 9 O hw (zL 3 (v:=pt ld) O O O O (zE [0,1,2,4,6] O qM (fun w' hw hS=>zC 10 O (zQ O) hS (zC 11 O (zH (o:=2) O) hS (zu 3 12 ?_ ?_)))))
   ·refine zm 3 O hw (zL 3 (v:=pt ld) O O O O (zE [0,1,2,4,6] O qM (fun w' hw hS=>zK 12 O hw (yC (v:=l.rv) 5 0 2 O O O O qN O (zE [0,1,2,4,6] O qM (fun w' hw hS=>zK 15 O hw (zi (pC 5 4 O O) 1 (n5_ - 1) O O O V O (zE [0,1,2,4,6] O qM (fun w' hw hS=>zK 16 O hw (yF (pC 5 4 O O) 1 (n5_ - 1) 0 (fun _=>O) O O V O O (zE [0,1,2,4,6] O qM (fun w' hw hS=>zC 17 O (zQ O) hS ?_))))))))))))
    refine zC 18 O (zH (o:=3) O) hS (zK 19 O hw ?_)
    refine z2 [Res.ou ob o,vI cv1_ F3_.vs,vI cw2_ F3_.ls,z4 cb t (pt ld) a r b yv jb qd (pt ob),Res.nl b lv es,vU pv4_ (zw a.id (zc b.vs (es.map EntD.toEntA)).vs l.qa l.qf.length PeerM.round),yN ld l,vP l.pv l.qa,sP l.qa,vI l.av l.qe,vT l.rv l.qf,vL l.kv l.qk] (fun w' hw=>hw.qn 5 O) ?_
    refine zn (cs:=(LdD.cells l)) 6 O O O O O (zE [0,1,2,4,5] O qM (fun w' hw hS=>zC 20 O (zQ O) hS (zC 21 O (zH (o:=2) O) hS (zC 22 O (zH (o:=1) O) hS (zK 23 O hw (zn 3 O O O O O (zE [0,1,2,4,5] O qM (fun w' hw hS=>zU ?_))))))))
    exact⟨⟨O,O,trivial⟩,trivial,hw⟩
   refine zm 12 O hw (yC (v:=l.rv) 5 0 2 O O O O qN O (zE [0,1,2,4,6] O qM (fun w' hw hS=>zu 3 15 ?_ ?_)))
   ·refine zm 3 O hw (zL 3 (v:=pt ld) O O O O (zE [0,1,2,4,6] O qM (fun w' hw hS=>zK 15 O hw (zi (pC 5 4 O O) 1 (n5_ - 1) O O O V O (zE [0,1,2,4,6] O qM (fun w' hw hS=>zK 16 O hw (yF (pC 5 4 O O) 1 (n5_ - 1) 0 (fun _=>O) O O V O O (zE [0,1,2,4,6] O qM (fun w' hw hS=>zC 17 O (zQ O) hS (zC 18 O (zH (o:=3) O) hS (zK 19 O hw ?_)))))))))))
    refine z2 [Res.ou ob o,vI cv1_ F3_.vs,vI cw2_ F3_.ls,z4 cb t (pt ld) a r b yv jb qd (pt ob),Res.nl b lv es,vU pv4_ (zw a.id (zc b.vs (es.map EntD.toEntA)).vs l.qa l.qf.length PeerM.round),yN ld l,vP l.pv l.qa,sP l.qa,vI l.av l.qe,vT l.rv l.qf,vL l.kv l.qk] (fun w' hw=>hw.qn 5 O) ?_
    refine zn (cs:=(LdD.cells l)) 6 O O O O O (zE [0,1,2,4,5] O qM (fun w' hw hS=>zC 20 O (zQ O) hS (zC 21 O (zH (o:=2) O) hS (zC 22 O (zH (o:=1) O) hS (zK 23 O hw (zn 3 O O O O O (zE [0,1,2,4,5] O qM (fun w' hw hS=>zU ?_))))))))
    exact⟨⟨O,O,trivial⟩,trivial,hw⟩
   refine zm 15 O hw (zi (pC 5 4 O O) 1 (n5_ - 1) O O O V O (zE [0,1,2,4,6] O qM (fun w' hw hS=>zu 3 16 ?_ ?_)))
   ·refine zm 3 O hw (zL 3 (v:=pt ld) O O O O (zE [0,1,2,4,6] O qM (fun w' hw hS=>zK 16 O hw (yF (pC 5 4 O O) 1 (n5_ - 1) 0 (fun _=>O) O O V O O (zE [0,1,2,4,6] O qM (fun w' hw hS=>zC 17 O (zQ O) hS (zC 18 O (zH (o:=3) O) hS (zK 19 O hw ?_))))))))
    refine z2 [Res.ou ob o,vI cv1_ F3_.vs,vI cw2_ F3_.ls,z4 cb t (pt ld) a r b yv jb qd (pt ob),Res.nl b lv es,vU pv4_ (zw a.id (zc b.vs (es.map EntD.toEntA)).vs l.qa l.qf.length PeerM.round),yN ld l,vP l.pv l.qa,sP l.qa,vI l.av l.qe,vT l.rv l.qf,vL l.kv l.qk] (fun w' hw=>hw.qn 5 O) ?_
    refine zn (cs:=(LdD.cells l)) 6 O O O O O (zE [0,1,2,4,5] O qM (fun w' hw hS=>zC 20 O (zQ O) hS (zC 21 O (zH (o:=2) O) hS (zC 22 O (zH (o:=1) O) hS (zK 23 O hw (zn 3 O O O O O (zE [0,1,2,4,5] O qM (fun w' hw hS=>zU ?_))))))))
    exact⟨⟨O,O,trivial⟩,trivial,hw⟩
   refine zm 16 O hw (yF (pC 5 4 O O) 1 (n5_ - 1) 0 (fun _=>O) O O V O O (zE [0,1,2,4,6] O qM (fun w' hw hS=>zK 3 O hw (zL 3 (v:=pt ld) O O O O (zE [0,1,2,4,6] O qM (fun w' hw hS=>zC 17 O (zQ O) hS (zC 18 O (zH (o:=3) O) hS (zK 19 O hw ?_))))))))
   refine z2 [Res.ou ob o,vI cv1_ F3_.vs,vI cw2_ F3_.ls,z4 cb t (pt ld) a r b yv jb qd (pt ob),Res.nl b lv es,vU pv4_ (zw a.id (zc b.vs (es.map EntD.toEntA)).vs l.qa l.qf.length PeerM.round),yN ld l,vP l.pv l.qa,sP l.qa,vI l.av l.qe,vT l.rv l.qf,vL l.kv l.qk] (fun w' hw=>hw.qn 5 O) ?_
   refine zn (cs:=(LdD.cells l)) 6 O O O O O (zE [0,1,2,4,5] O qM (fun w' hw hS=>zC 20 O (zQ O) hS (zC 21 O (zH (o:=2) O) hS (zC 22 O (zH (o:=1) O) hS (zK 23 O hw (zn 3 O O O O O (zE [0,1,2,4,5] O qM (fun w' hw hS=>zU ?_))))))))
   exact⟨⟨O,O,trivial⟩,trivial,hw⟩
  refine zB (zI O (zA (zN (zB (zD O (za O O (zJ (o:=9) O O (zL 3 (v:=pt ld) O O O O (za O O (zJ (o:=4) O O (zL 6 (v:=l.kv) O O O O (zo (pV 11 O) O O ?_))))))))))))
  refine zD O (zA (zX ?_))
  refine xi (fun(k:Nat) (rv' xv:Value)=>[(0,pt cb),(2,Vn n5_),(4,xv),(61,l.kv),(62,Vj l.qk.length),(63,Vj k)]) (fun(k:Nat) (rv' xv:Value)=>k≤l.qk.length) (fun(k:Nat) (rv' xv:Value)=>[Res.ou ob ({o with rv:=rv',qx:=o.qx++((l.qk.take k).filter (fun q=>q.round≤n5_)).map LookM.rdy}:OutD),vI cv1_ F3_.vs,vI cw2_ F3_.ls,z4 cb ({t with qA:=(zG l.qf (n5_ - 1))}:TimD) (pt ld) a r b yv jb qd (pt ob),Res.nl b lv es,vU pv4_ (zw a.id (zc b.vs (es.map EntD.toEntA)).vs l.qa l.qf.length PeerM.round),yN ld ({l with sure:=n5_}:LdD),vP l.pv l.qa,sP l.qa,vI l.av l.qe,vT l.rv l.qf,vL l.kv l.qk,vL xv ((l.qk.take k).filter (fun q=>¬ q.round≤n5_))]) (fun(k:Nat) (rv' xv:Value)=>l.qk.length - k) (fun w' hw=>⟨0,o.rv, .slice none 0 0,⟨O,O,O,O,O,O,trivial⟩,Nat.zero_le _,(by rw[List.take_zero,List.filter_nil,List.filter_nil,List.map_nil,List.append_nil];exact(zl hw 116 3))⟩) (fun k rv' xv g hΦ=> ?_)
  have hlf:((l.qk.take k).filter (fun q=>q.round≤n5_)).length≤10000∧((l.qk.take k).filter (fun q=>¬ q.round≤n5_)).length≤10000:=⟨Nat.le_trans (List.length_filter_le _ _) (by rw[List.length_take];omega),Nat.le_trans (List.length_filter_le _ _) (by rw[List.length_take];omega)⟩
  refine zB (yG O O O (zA (zN (zY O (fun c2=> ?_) (fun c2=> ?_)))))
  ·have hkk:k<l.qk.length:=by omega
   refine zO (zN (zX (zB (zi (pV 11 O) 3 k O O O V O (kP (pV 11 O) 3 k (off:=xE l.kv+k*3) (fun _=>O) O O V O (yE (v:= .agg #[Vn 0,Vn 0,Vn 0]) qN O (fun b6=>zr 13 O O O (xQ O) O (zA (zB (zJ (o:=2) O O (zL 13 (v:=Vn ((zG l.qk k).round)) O O O O (zD O ?_))))))))))))
   refine xp O O O (zA (zY O (fun c3=> ?_) (fun c3=> ?_)))
   ·have hf1:=zDC (P:=fun q:LookM=>q.round≤n5_) hkk V
    have hf2:=zGp (P:=fun q:LookM=>¬ q.round≤n5_) hkk (not_not_intro V)
    refine zg [1,2,3,4,5,6,7,8,9,10,11,12,13] O qM qN (fun w' hw hS=>zC 0 O zT hS (zC 1 O (zQ O) hS (zC 2 O (zH (o:=33) O) hS (zC 3 O (zZ 2 (v:=pt ob) O O O) hS (zC 4 O zT hS (zC 5 O (zQ O) hS (zC 6 O (zH (o:=33) O) hS (zC 7 O (zZ 2 (v:=pt ob) O O O) hS (zC 8 O (zQ O) hS (zC 9 O (zH (o:=2) O) hS (zC 11 O (zH (o:=0) O) hS (zC 12 O (zEj 12 [Vn ((zG l.qk k).id),Vn ((zG l.qk k).index)] O O (kF 0 O) qN) hS ?_))))))))))))
    refine zu 10 13 ?_ ?_
    ·refine zm 10 O hw (yC (v:=rv') 0 0 2 O O O O qN O (zE [1,2,3,4,5,6,7,8,9,10,11,12,13] O qM (fun w' hw hS=>zK 13 O hw (zy (e:=53) (sz:=2) (vs:=[.agg #[Vn ((zG l.qk k).id),Vn ((zG l.qk k).index)]]) qN O O (by simp[Value.cells,RdyD.cells]) qM O (fun b84=>zE [1,2,3,4,5,6,7,8,9,10,11,12,13] O qM (fun w' hw hS=>zK 14 O hw ?_))))))
     refine z2 [vI cv1_ F3_.vs,vI cw2_ F3_.ls,z4 cb ({t with qA:=(zG l.qf (n5_ - 1))}:TimD) (pt ld) a r b yv jb qd (pt ob),Res.nl b lv es,vU pv4_ (zw a.id (zc b.vs (es.map EntD.toEntA)).vs l.qa l.qf.length PeerM.round),yN ld ({l with sure:=n5_}:LdD),vP l.pv l.qa,sP l.qa,vI l.av l.qe,vT l.rv l.qf,vL l.kv l.qk,vL xv ((l.qk.take k).filter (fun q=>¬ q.round≤n5_)),Res.row b6 116 (LookM.cells (zG l.qk k)),vR (.slice (some ⟨b84,0,none⟩) 1 1) [(LookM.rdy (zG l.qk k))],zBL ob ({o with rv:=rv',qx:=o.qx++((l.qk.take k).filter (fun q=>q.round≤n5_)).map LookM.rdy}:OutD),vM o.mv o.qj,sM o.qj,vR rv' (o.qx++((l.qk.take k).filter (fun q=>q.round≤n5_)).map LookM.rdy),vU o.xv o.qq] (fun w' hw=>hw.qn 0 O) ?_
     refine z7 (g:=RdyD.cells) (sz:=2) (by':=16) (fun _=>O) (l:=o.qx++((l.qk.take k).filter (fun q=>q.round≤n5_)).map LookM.rdy) (l':=[(LookM.rdy (zG l.qk k))]) (by simp[cell1,RdyD.cells,vu]) 17 qN O O O (fun w' hw'=>Vec.sl (Own.holds hw' 13 _ O)) qO qM O (fun v85=>zE [0,1,2,3,4,5,6,7,8,9,10,11,12] O qM (fun w' hw hS=>zC 15 O (zQ O) hS (zC 16 O (zH (o:=2) O) hS (zK 17 O hw ?_))))
     refine zP (fun w' hw=>Own.qh (i:=17) O hw) (fun hc1_=> ?_)
     refine zn 14 O O O hc1_ O (zE [0,1,2,3,4,5,6,7,8,9,10,11,12] O qM (fun w' hw hS=>zU ?_))
     refine Oc19 ?_ hw
     refine zS (zp O O (zq V) O (zD O ?_))
     exact zd (fun w' hw=>⟨k+1,v85,xv,⟨O,O,O,O,O,O,trivial⟩,V,(by rw[hf1,hf2,List.map_append,←List.append_assoc o.qx];exact(hw.qo [14,15,16,17,18] rfl qM).sel [14,0,1,2,3,4,5,6,7,8,9,10,11] rfl qM),V⟩)
    refine zm 13 O hw (zy (e:=53) (sz:=2) (vs:=[.agg #[Vn ((zG l.qk k).id),Vn ((zG l.qk k).index)]]) qN O O (by simp[Value.cells,RdyD.cells]) qM O (fun b84=>zE [1,2,3,4,5,6,7,8,9,10,11,12,13] O qM (fun w' hw hS=>zK 10 O hw (yC (v:=rv') 0 0 2 O O O O qN O (zE [1,2,3,4,5,6,7,8,9,10,11,12,13] O qM (fun w' hw hS=>zK 14 O hw ?_))))))
    refine z2 [vI cv1_ F3_.vs,vI cw2_ F3_.ls,z4 cb ({t with qA:=(zG l.qf (n5_ - 1))}:TimD) (pt ld) a r b yv jb qd (pt ob),Res.nl b lv es,vU pv4_ (zw a.id (zc b.vs (es.map EntD.toEntA)).vs l.qa l.qf.length PeerM.round),yN ld ({l with sure:=n5_}:LdD),vP l.pv l.qa,sP l.qa,vI l.av l.qe,vT l.rv l.qf,vL l.kv l.qk,vL xv ((l.qk.take k).filter (fun q=>¬ q.round≤n5_)),Res.row b6 116 (LookM.cells (zG l.qk k)),vR (.slice (some ⟨b84,0,none⟩) 1 1) [(LookM.rdy (zG l.qk k))],zBL ob ({o with rv:=rv',qx:=o.qx++((l.qk.take k).filter (fun q=>q.round≤n5_)).map LookM.rdy}:OutD),vM o.mv o.qj,sM o.qj,vR rv' (o.qx++((l.qk.take k).filter (fun q=>q.round≤n5_)).map LookM.rdy),vU o.xv o.qq] (fun w' hw=>hw.qn 0 O) ?_
    refine z7 (g:=RdyD.cells) (sz:=2) (by':=16) (fun _=>O) (l:=o.qx++((l.qk.take k).filter (fun q=>q.round≤n5_)).map LookM.rdy) (l':=[(LookM.rdy (zG l.qk k))]) (by simp[cell1,RdyD.cells,vu]) 17 qN O O O (fun w' hw'=>Vec.sl (Own.holds hw' 13 _ O)) qO qM O (fun v85=>zE [0,1,2,3,4,5,6,7,8,9,10,11,12] O qM (fun w' hw hS=>zC 15 O (zQ O) hS (zC 16 O (zH (o:=2) O) hS (zK 17 O hw ?_))))
    refine zP (fun w' hw=>Own.qh (i:=17) O hw) (fun hc2_=> ?_)
    refine zn 14 O O O hc2_ O (zE [0,1,2,3,4,5,6,7,8,9,10,11,12] O qM (fun w' hw hS=>zU ?_))
    refine Oc19 ?_ hw
    refine zS (zp O O (zq V) O (zD O ?_))
    exact zd (fun w' hw=>⟨k+1,v85,xv,⟨O,O,O,O,O,O,trivial⟩,V,(by rw[hf1,hf2,List.map_append,←List.append_assoc o.qx];exact(hw.qo [14,15,16,17,18] rfl qM).sel [14,0,1,2,3,4,5,6,7,8,9,10,11] rfl qM),V⟩)
   have hf1:=zGp (P:=fun q:LookM=>q.round≤n5_) hkk V
   have hf2:=zDC (P:=fun q:LookM=>¬ q.round≤n5_) hkk V
   refine zS (zD O (yI (cs:=(LookM.cells (zG l.qk k))) 13 O O O (zy (e:=116) (sz:=3) (vs:=[.agg (LookM.cells (zG l.qk k)).toArray]) qN O O (by simp[Value.cells,LookM.cells]) qM O (fun b90=>z7 (g:=LookM.cells) (sz:=3) (by':=24) (fun _=>O) (l:=((l.qk.take k).filter (fun q=>¬ q.round≤n5_))) (l':=[(zG l.qk k)]) (by simp[cell1,LookM.cells,vu]) 12 qN O O O (fun w' hw'=>Vec.sl (Own.holds hw' 14 _ O)) (by simp only[List.length_append,List.length_cons,List.length_nil];omega) qM O (fun v91=>zI O (zA (zS (zp O O (zq V) O (zD O ?_)))))))))
   exact zd (fun w' hw=>⟨k+1,rv',v91,⟨O,O,O,O,O,O,trivial⟩,V,(by rw[hf1,hf2];exact hw.sel [0,1,2,3,4,5,6,7,8,9,10,11,12] rfl qM),V⟩)
  refine yA O (zS (zD O (za O O (zJ (o:=9) O O (zL 3 (v:=pt ld) O O O O (zD O (za O O (zJ (o:=4) O O ?_))))))))
  refine zP (fun w' hw=>Own.qh (i:=12) O hw) (fun hc3_=> ?_)
  refine zn (cs:=(LdD.cells ({l with sure:=n5_}:LdD))) 6 O O O hc3_ O ?_
  exact zd (yJ O (fun w' hw=>⟨rv',xv,O,(by rw[List.take_of_length_le V]at hw;rw[hN,zMy V,zNV V,zNB V];exact(hw.qo [6,7,8,9,10,12] rfl qM).sel [3,4,7,0] rfl qM)⟩))
end Go.Proofs.YtkkeknmkipkbmaaGreat
