import Derived.Test.YtkkeknmkipkbmaaGreatCoI
set_option linter.unusedSectionVars false
set_option linter.unusedSimpArgs false
set_option linter.unusedVariables false
set_option maxRecDepth 10000
namespace Go.Proofs.YtkkeknmkipkbmaaGreat
open Go Go.Sc Go.Proofs
structure AnsR where
  qc:Nat
  p:PeerM
  qB:Bool
  ms:List MsgA
def js(m:MsgA)(qf:Nat)(p:PeerM):PeerM:={p with told:=true,round:=if m.round≤qf then max p.round m.round else p.round}
def kR(E:List EntA)(m:MsgA)(p:PeerM):PeerM:={p with next:=max (p.qy+1) (min (p.next - 1) (((LogA.mk 0 0 E).hint m.index m.ql).1+1)),opn:=false,qv:=0}
def zg(m:MsgA)(l:LdD)(k:Nat):List PeerP:=zx l.qa k (js m l.qf.length (zG l.qa k).2)
def xc(a:StA)(t:TimD)(vs0:List Int)(E:List EntA)(l:LdD)(k qc:Nat)(m:MsgA):AnsR:=
  if m.kind=6∧m.flag=true∧m.index≤E.length then
    ⟨ya a t.term vs0 E (zx (zg m l k) k (yt m.index (zG (zg m l k) k).2)) qc,yj E (yt m.index (zG (zg m l k) k).2),if yy l (yt m.index (zG (zg m l k) k).2) E.length false then true else l.qB,jc a t.term (yy l (yt m.index (zG (zg m l k) k).2) E.length false) (yt m.index (zG (zg m l k) k).2)++y9 a t.term (ya a t.term vs0 E (zx (zg m l k) k (yt m.index (zG (zg m l k) k).2)) qc) l.qf.length E (yt m.index (zG (zg m l k) k).2) false⟩
  else if m.kind=6∧m.flag=false∧m.index<(zG (zg m l k) k).2.next then⟨qc,yj E (kR E m (zG (zg m l k) k).2),l.qB,y9 a t.term qc l.qf.length E (kR E m (zG (zg m l k) k).2) false⟩
  else if m.kind=8∧m.index=0 then⟨qc,{(zG (zg m l k) k).2 with off:=m.off,asked:=false},l.qB,[]⟩
  else⟨qc,(zG (zg m l k) k).2,l.qB,[]⟩
theorem zKr{a:StA}{t:TimD}{vs0:List Int}{E:List EntA}{l:LdD}{k qc:Nat}{m:MsgA}(h:m.kind=6∧m.flag=true∧m.index≤E.length):xc a t vs0 E l k qc m=⟨ya a t.term vs0 E (zx (zg m l k) k (yt m.index (zG (zg m l k) k).2)) qc,yj E (yt m.index (zG (zg m l k) k).2),if yy l (yt m.index (zG (zg m l k) k).2) E.length false then true else l.qB,jc a t.term (yy l (yt m.index (zG (zg m l k) k).2) E.length false) (yt m.index (zG (zg m l k) k).2)++y9 a t.term (ya a t.term vs0 E (zx (zg m l k) k (yt m.index (zG (zg m l k) k).2)) qc) l.qf.length E (yt m.index (zG (zg m l k) k).2) false⟩:=if_pos h
theorem zKb{a:StA}{t:TimD}{vs0:List Int}{E:List EntA}{l:LdD}{k qc:Nat}{m:MsgA}(h:¬(m.kind=6∧m.flag=true∧m.index≤E.length))(h2:m.kind=6∧m.flag=false∧m.index<(zG (zg m l k) k).2.next):xc a t vs0 E l k qc m=⟨qc,yj E (kR E m (zG (zg m l k) k).2),l.qB,y9 a t.term qc l.qf.length E (kR E m (zG (zg m l k) k).2) false⟩:=by unfold xc;rw[if_neg h,if_pos h2]
theorem zNM{a:StA}{t:TimD}{vs0:List Int}{E:List EntA}{l:LdD}{k qc:Nat}{m:MsgA}(h:¬ m.kind=6)(h3:m.kind=8∧m.index=0):xc a t vs0 E l k qc m=⟨qc,{(zG (zg m l k) k).2 with off:=m.off,asked:=false},l.qB,[]⟩:=by unfold xc;rw[if_neg (fun q=>h q.1),if_neg (fun q=>h q.1),if_pos h3]
theorem zLL{a:StA}{t:TimD}{vs0:List Int}{E:List EntA}{l:LdD}{k qc:Nat}{m:MsgA}(h:¬(m.kind=6∧m.flag=true∧m.index≤E.length))(h2:¬(m.kind=6∧m.flag=false∧m.index<(zG (zg m l k) k).2.next))(h3:¬(m.kind=8∧m.index=0)):xc a t vs0 E l k qc m=⟨qc,(zG (zg m l k) k).2,l.qB,[]⟩:=by unfold xc;rw[if_neg h,if_neg h2,if_neg h3]
theorem zEw{E:List EntA}(hf:folA 0 0 E){k u:Nat}:∀ n,n≤E.length→((LogA.mk 0 0 E).hintN k u n).1≤E.length
  |0,_=>Nat.zero_le _
  |n+1,h=>by
    unfold LogA.hintN
    have h1:=folA.idx hf n V
    split
    · show(zG E n).index≤_;omega
    exact zEw hf n V
theorem zLp{E:List EntA}(hf:folA 0 0 E){k u:Nat}:((LogA.mk 0 0 E).hint k u).1≤E.length:=zEw hf _ (Nat.le_refl _)
theorem zHH{n N:Nat}{m:MsgA}{p:PeerM}(h:p.bd n):(js m N p).bd n:=⟨h.next,h.qy,h.qv⟩
theorem zFL{n:Nat}{E:List EntA}{m:MsgA}{p:PeerM}(h:p.bd n):(kR E m p).bd n:=by
  have h1:=h.next;have h2:=h.qy
  refine⟨?_,h.qy,⟨Int.le_refl 0,by show(0:Int)≤4;omega⟩⟩
  show 1≤max (p.qy+1) (min (p.next - 1) _)∧max (p.qy+1) (min (p.next - 1) _)≤n+1
  omega
theorem zE4{m:MsgA}{l:LdD}{k:Nat}(hk:k<l.qa.length)(h:∀ p∈l.qa,p.2.round≤l.qf.length):∀ p∈zg m l k,p.2.round≤l.qf.length:=by
  refine zAx (P:=fun p=>p.round≤l.qf.length) h ?_
  have h1:=h _ (zd hk)
  show(if m.round≤l.qf.length then max (zG l.qa k).2.round m.round else(zG l.qa k).2.round)≤_
  split<;>omega
theorem zGQ{a:StA}{t:TimD}{vs0:List Int}{E:List EntA}{l:LdD}{k qc:Nat}{m:MsgA}:(xc a t vs0 E l k qc m).p.round=(zG (zg m l k) k).2.round:=by
  have h1:∀ p:PeerM,(yj E p).round=p.round:=fun p=>by unfold yj;split<;>rfl
  unfold xc
  split
  · exact h1 _
  split
  · exact h1 _
  split<;>rfl
theorem zKl{S:List Nat}(cb jb:Nat)(t:TimD)(a:StA)(r:RolD)(b:StB)(yv:Value)(qd:Nat)(lv:Value)(es:List EntD)(ld:Nat)(l:LdD)(ob:Nat)(o:OutD)(k:Nat)(m:MsgD)(w:World)(hg:(LG 0 0 es).good)(hl:es.length≤1000000)(hvl:b.vs.length≤12)(hpl:l.qa.length≤1000)(hk:k<l.qa.length)(ho:o.qk.length≤1000)(hp:∀ p∈l.qa,p.2.bd 1000000)(hr:l.qf.length≤1000000)(hcl:(zc b.vs (es.map EntD.toEntA)).vs.length≤12)(hpr:∀ p∈l.qa,p.2.round≤l.qf.length)(hlk:l.qj.length≤10000)(hrd:o.qx.length≤10000)(han:l.qe.length≤1000000)(hin:Own w S [z3 cb t (pt ld) a r b yv jb qd (pt ob),Res.nl b lv es,Res.ld ld l,Res.ou ob o] w)(rd_m:MsgD.rd m w S):Rets Tryz.prog 136 #[pt cb,pt ((zG l.qa k).1), .agg (MsgD.cells m).toArray] w fun u_ w'=>∃ (mv' rv' av' kv':Value) (ms:List MsgD),u_= .tuple #[]∧ms.map MsgD.a=(xc a t b.vs (es.map EntD.toEntA) l k r.qc m.a).ms∧Own w S [z3 cb (xp (xR a b.vs (es.map EntD.toEntA) (zx (zg m.a l k) k (xc a t b.vs (es.map EntD.toEntA) l k r.qc m.a).p) l.qf l.sure) l.qf t) (pt ld) a ({r with qc:=(xc a t b.vs (es.map EntD.toEntA) l k r.qc m.a).qc}:RolD) b yv jb qd (pt ob),Res.nl b lv es,Res.ld ld (kw (xR a b.vs (es.map EntD.toEntA) (zx (zg m.a l k) k (xc a t b.vs (es.map EntD.toEntA) l k r.qc m.a).p) l.qf l.sure) kv' {l with qa:=(zx (zg m.a l k) k (xc a t b.vs (es.map EntD.toEntA) l k r.qc m.a).p),av:=av',qe:=l.qe++[(zG l.qa k).2.id],qB:=(xc a t b.vs (es.map EntD.toEntA) l k r.qc m.a).qB}),Res.ou ob (jt (xR a b.vs (es.map EntD.toEntA) (zx (zg m.a l k) k (xc a t b.vs (es.map EntD.toEntA) l k r.qc m.a).p) l.qf l.sure) rv' l.qj {o with mv:=mv',qk:=o.qk++ms})] w':=by
  have hbd:=hp _ (zd hk)
  have hbn:=hbd.next
  have hl1:(es.map EntD.toEntA).length=es.length:=List.length_map _
  have hpn:(zG (zg m.a l k) k).2=js m.a l.qf.length (zG l.qa k).2:=y8 hk
  have hpl1:(zg m.a l k).length=l.qa.length:=y4
  have hbd1:(zG (zg m.a l k) k).2.bd 1000000:=by rw[hpn];exact zHH hbd
  have hb1:=hbd1.next
  have hb1m:=hbd1.qy
  have hfl:folA 0 0 (es.map EntD.toEntA):=hg.fol
  refine zW Tryz.func136 O Tryz.ntmps136 hin ?_
  refine zB (z4 O O (fun b5=>zA (yu (fun(av':Value)=>[(0,pt cb),(1,pt ((zG l.qa k).1)),(5,pt b5)]) (fun(av':Value)=>True) (fun(av':Value)=>[z3 cb t (pt ld) a r b yv jb qd (pt ob),Res.nl b lv es,Res.ld ld ({l with av:=av',qe:=l.qe++[(zG l.qa k).2.id]}:LdD),Res.ou ob o,Res.row b5 59 (MsgD.cells m)]) ?_ (fun av' g hΦ=> ?_))))
  ·refine zi [0,1,3,4] O qL qM (fun w' hw hS=>zC 0 O zU hS (zC 1 O (zQ O) hS (zC 2 O (zH (o:=9) O) hS (zC 3 O (za 0 (v:=pt ld) O O O) hS (zC 4 O zU hS (zC 5 O (zQ O) hS (zC 6 O (zH (o:=9) O) hS (zC 7 O (za 0 (v:=pt ld) O O O) hS (zC 8 O (zQ O) hS (zC 9 O (zH (o:=1) O) hS (zC 11 O zU hS (zC 12 O (zQ O) hS ?_))))))))))))
   refine zC 13 O (zH (o:=0) O) hS (zw 10 14 ?_ ?_)
   ·refine zm 10 O hw (yA (v:=l.av) 2 0 1 O O O O qM O (zE [0,1,3,4] O qL (fun w' hw hS=>zK 14 O hw (xx (l:=l.qa) 2 2 k 0 O O qS O O O qM O (zE [0,1,3,4] O qL (fun w' hw hS=>zK 15 O hw (zy (e:=3) (sz:=1) (vs:=[Vi (((zG l.qa k).2).id)]) qM O O qQ qL O (fun b25=>zE [0,1,3,4] O qL (fun w' hw hS=>zK 16 O hw ?_)))))))))
    refine z2 [z3 cb t (pt ld) a r b yv jb qd (pt ob),Res.nl b lv es,Res.ou ob o,Res.row b5 59 (MsgD.cells m),vI (.slice (some ⟨b25,0,none⟩) 1 1) [((zG l.qa k).2).id],yL ld l,vP l.pv l.qa,sP l.qa,vI l.av l.qe,vT l.rv l.qf,vL l.kv l.qj] (fun w' hw=>hw.qn 2 O) ?_
    refine z8 (g:=I1) (sz:=1) (by':=8) (fun _=>O) (l:=l.qe) (l':=[((zG l.qa k).2).id]) qU 8 qM O O O (fun w' hw'=>Vec.sl (Own.holds hw' 4 _ O)) qN qL O (fun v26=>zE [0,1,2,3] O qL (fun w' hw hS=>zC 17 O (zQ O) hS (zC 18 O (zH (o:=1) O) hS (zK 19 O hw ?_))))
    refine zP (fun w' hw=>Own.qh (i:=8) O hw) (fun hc1_=> ?_)
    refine zn (cs:=(LdD.cells l)) 5 O O O hc1_ O (zE [0,1,2,3] O qL (fun w' hw hS=>zV ?_))
    exact⟨v26,⟨O,O,O,trivial⟩,trivial,(hw.qo [5,6,7,8,9,10] O qL).sel [0,1,5,2,3] O qL⟩
   refine zm 14 O hw (xx (l:=l.qa) 2 2 k 0 O O qS O O O qM O (zE [0,1,3,4] O qL (fun w' hw hS=>zw 10 15 ?_ ?_)))
   ·refine zm 10 O hw (yA (v:=l.av) 2 0 1 O O O O qM O (zE [0,1,3,4] O qL (fun w' hw hS=>zK 15 O hw (zy (e:=3) (sz:=1) (vs:=[Vi (((zG l.qa k).2).id)]) qM O O qQ qL O (fun b25=>zE [0,1,3,4] O qL (fun w' hw hS=>zK 16 O hw ?_))))))
    refine z2 [z3 cb t (pt ld) a r b yv jb qd (pt ob),Res.nl b lv es,Res.ou ob o,Res.row b5 59 (MsgD.cells m),vI (.slice (some ⟨b25,0,none⟩) 1 1) [((zG l.qa k).2).id],yL ld l,vP l.pv l.qa,sP l.qa,vI l.av l.qe,vT l.rv l.qf,vL l.kv l.qj] (fun w' hw=>hw.qn 2 O) ?_
    refine z8 (g:=I1) (sz:=1) (by':=8) (fun _=>O) (l:=l.qe) (l':=[((zG l.qa k).2).id]) qU 8 qM O O O (fun w' hw'=>Vec.sl (Own.holds hw' 4 _ O)) qN qL O (fun v26=>zE [0,1,2,3] O qL (fun w' hw hS=>zC 17 O (zQ O) hS (zC 18 O (zH (o:=1) O) hS (zK 19 O hw ?_))))
    refine zP (fun w' hw=>Own.qh (i:=8) O hw) (fun hc2_=> ?_)
    refine zn (cs:=(LdD.cells l)) 5 O O O hc2_ O (zE [0,1,2,3] O qL (fun w' hw hS=>zV ?_))
    exact⟨v26,⟨O,O,O,trivial⟩,trivial,(hw.qo [5,6,7,8,9,10] O qL).sel [0,1,5,2,3] O qL⟩
   refine zm 15 O hw (zy (e:=3) (sz:=1) (vs:=[Vi (((zG l.qa k).2).id)]) qM O O qQ qL O (fun b25=>zE [0,1,3,4] O qL (fun w' hw hS=>zK 10 O hw (yA (v:=l.av) 2 0 1 O O O O qM O (zE [0,1,3,4] O qL (fun w' hw hS=>zK 16 O hw ?_))))))
   refine z2 [z3 cb t (pt ld) a r b yv jb qd (pt ob),Res.nl b lv es,Res.ou ob o,Res.row b5 59 (MsgD.cells m),vI (.slice (some ⟨b25,0,none⟩) 1 1) [((zG l.qa k).2).id],yL ld l,vP l.pv l.qa,sP l.qa,vI l.av l.qe,vT l.rv l.qf,vL l.kv l.qj] (fun w' hw=>hw.qn 2 O) ?_
   refine z8 (g:=I1) (sz:=1) (by':=8) (fun _=>O) (l:=l.qe) (l':=[((zG l.qa k).2).id]) qU 8 qM O O O (fun w' hw'=>Vec.sl (Own.holds hw' 4 _ O)) qN qL O (fun v26=>zE [0,1,2,3] O qL (fun w' hw hS=>zC 17 O (zQ O) hS (zC 18 O (zH (o:=1) O) hS (zK 19 O hw ?_))))
   refine zP (fun w' hw=>Own.qh (i:=8) O hw) (fun hc3_=> ?_)
   refine zn (cs:=(LdD.cells l)) 5 O O O hc3_ O (zE [0,1,2,3] O qL (fun w' hw hS=>zV ?_))
   exact⟨v26,⟨O,O,O,trivial⟩,trivial,(hw.qo [5,6,7,8,9,10] O qL).sel [0,1,5,2,3] O qL⟩
  refine zB (zD O (zb O O (zJ (o:=7) O O ?_)))
  refine z2 [z3 cb t (pt ld) a r b yv jb qd (pt ob),Res.nl b lv es,Res.ou ob o,Res.row b5 59 (MsgD.cells m),yL ld ({l with av:=av',qe:=l.qe++[(zG l.qa k).2.id]}:LdD),vP l.pv l.qa,sP l.qa,vI av' (l.qe++[(zG l.qa k).2.id]),vT l.rv l.qf,vL l.kv l.qj] (fun w' hw=>hw.qn 2 O) ?_
  refine z2 [z3 cb t (pt ld) a r b yv jb qd (pt ob),Res.nl b lv es,Res.ou ob o,Res.row b5 59 (MsgD.cells m),yL ld ({l with av:=av',qe:=l.qe++[(zG l.qa k).2.id]}:LdD),vP l.pv l.qa,vI av' (l.qe++[(zG l.qa k).2.id]),vT l.rv l.qf,vL l.kv l.qj,x0 ((zG l.qa k).1) ((zG l.qa k).2),sP (l.qa.eraseIdx k)] (fun w' hw=>hw.qH (g:=PeerP.dres) (l:=l.qa) 6 k qS O) ?_
  refine zn (cs:=(PeerM.cells ((zG l.qa k).2))) 9 O O O O O (zA (yu (fun(pb:Nat)=>[(0,pt cb),(1,pt pb),(5,pt b5)]) (fun(pb:Nat)=>pb=(zG (zg m.a l k) k).1) (fun(pb:Nat)=>[z3 cb t (pt ld) a r b yv jb qd (pt ob),Res.nl b lv es,Res.ld ld ({l with qa:=zg m.a l k,av:=av',qe:=l.qe++[(zG l.qa k).2.id]}:LdD),Res.ou ob o,Res.row b5 59 (MsgD.cells m)]) ?_ (fun pb g hΦ=> ?_)))
  ·refine yZ qM qM (zM O (zH (o:=7) O) (zM O (za 3 (v:=Vn m.round) O O O) (zM O zU (zM O (zQ O) (zM O (zH (o:=9) O) (zM O (za 0 (v:=pt ld) O O O) (zM O (zQ O) (zM O (zH (o:=2) O) (zM O (za 4 (v:=l.rv) O O O) (zM O (zAe (pV 7 O) O) (zM O (kN qM O (xN V) qM) (zM O (zHe O O) ?_))))))))))))
   refine xe (zY O (fun c1=> ?_) (fun c1=> ?_))
   ·refine zi [0,1,2,3,4,5,6,7,8,10] O qL qM (fun w' hw hS=>zC 0 O zU hS (zC 1 O zU hS (zC 2 O (zQ O) hS (zC 3 O (zH (o:=3) O) hS (zC 5 O (zH (o:=7) O) hS (zC 6 O (za 3 (v:=Vn m.round) O O O) hS (zK 4 O hw (zL 9 (v:=Vn (((zG l.qa k).2).round)) O O O O (zE [0,1,2,3,4,5,6,7,8,10] O qL (fun w' hw hS=>zC 7 O (zFa (c:=((max (((zG l.qa k).2).round) m.round:Nat):Int)) O O (zET _ _)) hS (zC 8 O (zQ O) hS (zC 9 O (zH (o:=3) O) hS ?_))))))))))))
    refine zK 10 O hw (zn 9 O O O O O (zE [0,1,2,3,4,5,6,7,8,10] O qL (fun w' hw hS=>zV ?_)))
    exact⟨(zG l.qa k).1,⟨O,O,O,trivial⟩,(kG hk).symm,(by rw[show(zg m.a l k)=zx l.qa k {(zG l.qa k).2 with round:=max (zG l.qa k).2.round m.round,told:=true}from by unfold zg js;rw[if_pos (by show m.round≤_;omega)];rfl];exact((hw.peerIn 9 10 5 k ({((zG l.qa k).2)with round:=max (((zG l.qa k).2).round) m.round,told:=true}:PeerM) qS qL rfl rfl rfl).qo [4,8,9,5,6,7] rfl qL).sel [0,1,4,2,3] rfl qL)⟩
   exact yd (fun w' hw=>⟨(zG l.qa k).1,⟨O,O,O,trivial⟩,(kG hk).symm,(by rw[show(zg m.a l k)=zx l.qa k {(zG l.qa k).2 with told:=true}from by unfold zg js;rw[if_neg (by show ¬ m.round≤_;omega)]];exact((hw.peerIn 9 10 5 k ({((zG l.qa k).2)with told:=true}:PeerM) qS qL rfl rfl rfl).qo [4,8,9,5,6,7] rfl qL).sel [0,1,4,2,3] rfl qL)⟩)
  subst hΦ
  refine zB (zD O (zb O O (zJ (o:=29) O O (zL 0 (v:=pt b.lb) O O O O (a_call O O (fun w' hw=>(x8 b.lb 0 0 lv es w' qO qN (hw.qE 1 0 O O) (hw.qG 1 1 O O) (EntD.rd.qE 1 2 O O hw)).mono ?_))))))
  rintro _ w1 ⟨rfl,hO⟩
  refine O5 ?_ (hw.qi hO)
  refine zD O (yD (vs:=[Vn (0+es.length),Vn ((LG 0 0 es).end_)]) O O O (yD (vs:=[Vn (0+es.length),Vn ((LG 0 0 es).end_)]) O O O (zI O (zI O (zA (jf (fun(x:AnsR) (mv':Value) (ms:List MsgD)=>[(0,pt cb)]) (fun(x:AnsR) (mv':Value) (ms:List MsgD)=>x=(xc a t b.vs (es.map EntD.toEntA) l k r.qc m.a)∧ms.map MsgD.a=x.ms) (fun(x:AnsR) (mv':Value) (ms:List MsgD)=>[z3 cb t (pt ld) a ({r with qc:=x.qc}:RolD) b yv jb qd (pt ob),Res.nl b lv es,Res.ld ld ({l with qa:=zx (zg m.a l k) k x.p,av:=av',qe:=l.qe++[(zG l.qa k).2.id],qB:=x.qB}:LdD),Res.ou ob ({o with mv:=mv',qk:=o.qk++ms}:OutD)]) ?_ (fun x mv' ms g hΦ=> ?_)))))))
  ·refine zX (zB (zJ (o:=0) O O (zL 4 (v:=Vi m.kind) O O O O (yS O O O (zD O (yO (q:=m.kind=6) 2 3 [68,67] (m.flag=true) O O O O O O trivial O (fun h6_3=> ?_) (fun g6_6=> ?_)))))))
   ·refine zS O (gT h6_3) (zJ (o:=8) O O (zS O (gT h6_3) (zL 4 (v:= .bool m.flag) O O O O ?_)))
    exact yP (xT _) (fun _ hw=>hw)
   refine zD O (yO (q:=(m.kind=6)∧(m.flag=true)) 4 7 [74,73,72,71] (((m.index:Nat):Int)≤((0+es.length:Nat):Int)) O O O O O O trivial O (fun h6_7=> ?_) (fun g6_12=> ?_))
   ·refine zS O (gT h6_7) (zJ (o:=4) O O (zS O (gT h6_7) (zL 4 (v:=Vn m.index) O O O O (zS O (gT h6_7) (zD O (zS O (gT h6_7) (xk O O O ?_)))))))
    exact yP O (fun _ hw=>hw)
   refine zI O (zA (zY O (fun c2=> ?_) (fun c2=> ?_)))
   ·have hX:=zKr (a:=a) (t:=t) (vs0:=b.vs) (E:=es.map EntD.toEntA) (l:=l) (k:=k) (qc:=r.qc) (m:=m.a) ⟨c2.1.1,c2.1.2,by show m.index≤_;omega⟩
    rw[hl1]at hX
    have hbA:∀ p∈(zg m.a l k),p.2.bd 1000000:=zAx (P:=fun p=>p.bd 1000000) hp (zHH hbd)
    refine zR (zD O (zD O (zJ (o:=4) O O (zL 4 (v:=Vn m.index) O O O O (a_call O O (fun w' hw=>(zOQ cb jb t a r b yv qd _ _ ld ({l with qa:=zg m.a l k,av:=av',qe:=l.qe++[(zG l.qa k).2.id]}:LdD) ob _ k m.index w' ‹_› qN qN (by show(zg m.a l k).length≤_;omega) (by show k<(zg m.a l k).length;omega) qN hbA qO qR V (hw.give [0,1,2,3] O qL)).mono ?_))))))
    rintro _ w1 ⟨mv'1_,ms2_,rfl,hf7_4,hO⟩
    refine O5 ?_ (hw.qg [0,1,2,3] O hO)
    exact ze (fun w' hw=>⟨(xc a t b.vs (es.map EntD.toEntA) l k r.qc m.a),mv'1_,ms2_,⟨O,trivial⟩,⟨O,by rw[hX];exact hf7_4⟩,(by rw[hX];exact hw.sel [1,2,3,4] rfl qL)⟩)
   refine yZ qM qM (zM O (zH (o:=0) O) (zM O (za 4 (v:=Vi m.kind) O O O) (zM O (zCk O O) (zM O zU (zC4 (q:=m.kind=6) 3 3 [88,87,86] ((!m.flag)=true) O O O O O O trivial O (fun h8_3=> ?_) (fun g8_7=> ?_))))))
   ·refine yq O (gT h8_3) (zM O (zH (o:=8) O) (yq O (gT h8_3) (zM O (za 4 (v:= .bool m.flag) O O O) (yq O (gT h8_3) (zM O (zDs (b:=m.flag) O) ?_)))))
    exact zEf (xT _)
   refine zM O zU (zC4 (q:=(m.kind=6)∧((!m.flag)=true)) 7 8 [97,96,95,94,93,92,91] (((m.index:Nat):Int)<((((zG (zg m.a l k) k).2).next:Nat):Int)) O O O O O O trivial O (fun h8_8=> ?_) (fun g8_16=> ?_))
   ·refine yq O (gT h8_8) (zM O (zH (o:=4) O) (yq O (gT h8_8) (zM O (za 4 (v:=Vn m.index) O O O) (yq O (gT h8_8) (zM O zU (yq O (gT h8_8) (zM O (zQ O) (yq O (gT h8_8) (zM O (zH (o:=1) O) (yq O (gT h8_8) (zM O (zAg (l:=(zg m.a l k)) 2 2 k 1 O O qS O O O qM) (yq O (gT h8_8) ?_))))))))))))
    refine zM O (zDH O O) ?_
    exact zEf O
   refine zM O yN (xe (zY O (fun c3=> ?_) (fun c3=> ?_)))
   ·have hX:=zKb (a:=a) (t:=t) (vs0:=b.vs) (E:=es.map EntD.toEntA) (l:=l) (k:=k) (qc:=r.qc) (m:=m.a) (fun q=>by rw[show m.flag=true from q.2.1]at c3;simp at c3) ⟨c3.1.1,by show m.flag=false;simpa using c3.1.2,by show m.index<_;omega⟩
    refine zN (zi [0,1,2,3,4] O qL qM (fun w' hw hS=>zC 0 O zU hS (zC 1 O (zQ O) hS (zC 2 O (zH (o:=29) O) hS (zC 3 O (za 0 (v:=pt b.lb) O O O) hS (zC 4 O (zH (o:=4) O) hS (zC 5 O (za 4 (v:=Vn m.index) O O O) hS (zC 6 O (zH (o:=5) O) hS (zC 7 O (za 4 (v:=Vn m.ql) O O O) hS (zK 8 O hw (a_call O O (fun w' hw=>(zKq b.lb 0 0 lv es m.index m.ql w' qO (hw.qE 1 0 O O) (hw.qG 1 1 O O) (EntD.rd.qE 1 2 O O hw)).mono ?_))))))))))))
    rintro _ w1 ⟨x3_,y4_,rfl,hf9_8,hO⟩
    have hhl:=zLp hfl (k:=m.index) (u:=m.ql)
    rw[hf9_8]at hhl
    have hhl:x3_≤(es.map EntD.toEntA).length:=hhl
    refine O5 ?_ (hw.qi hO)
    refine zE [0,1,2,3,4] O qL (fun w' hw hS=>zC 9 O zU hS (zC 10 O (yT (vs:=[Vn x3_,Vn y4_]) O O) hS (zC 11 O (yT (vs:=[Vn x3_,Vn y4_]) O O) hS (zC 12 O yN hS (zC 13 O yN hS (zV ?_))))))
    refine Oc5 ?_ hw
    refine zN (zi [0,1,3,4] O qL qM (fun w' hw hS=>zC 0 O zU hS (zC 1 O zU hS (zC 2 O (zQ O) hS (zC 3 O (zH (o:=2) O) hS (zC 6 O zU hS (zC 7 O (zQ O) hS (zC 8 O (zH (o:=1) O) hS (zC 11 O zU hS (zC 12 O (yo O O (xN V)) hS (zw 4 9 ?_ ?_)))))))))))
    ·refine zm 4 O hw (xx (l:=(zg m.a l k)) 2 2 k 2 O O qS O O O qM O (zE [0,1,3,4] O qL (fun w' hw hS=>zC 5 O (yo O O (xN V)) hS (zK 9 O hw (xx (l:=(zg m.a l k)) 2 2 k 1 O O qS O O O qM O (zE [0,1,3,4] O qL (fun w' hw hS=>zC 10 O (xl (c:=(((zG (zg m.a l k) k).2.next - 1:Nat):Int)) O O (ws (a:=(zG (zg m.a l k) k).2.next) (b:=1) V V)) hS (zC 13 O (zFn (c:=((min ((zG (zg m.a l k) k).2.next - 1) (x3_+1):Nat):Int)) O O (zLx _ _)) hS (zC 14 O (zFa (c:=((max ((((zG (zg m.a l k) k).2).qy)+1) (min ((zG (zg m.a l k) k).2.next - 1) (x3_+1)):Nat):Int)) O O (zET _ _)) hS (zC 15 O (zQ O) hS (zC 16 O (zH (o:=1) O) hS (zK 17 O hw ?_))))))))))))
     refine z2 [z3 cb t (pt ld) a r b yv jb qd (pt ob),Res.nl b lv es,Res.ou ob o,Res.row b5 59 (MsgD.cells m),yL ld ({l with qa:=zg m.a l k,av:=av',qe:=l.qe++[(zG l.qa k).2.id]}:LdD),vP l.pv (zg m.a l k),sP (zg m.a l k),vI av' (l.qe++[(zG l.qa k).2.id]),vT l.rv l.qf,vL l.kv l.qj] (fun w' hw=>hw.qn 2 O) ?_
     refine z2 [z3 cb t (pt ld) a r b yv jb qd (pt ob),Res.nl b lv es,Res.ou ob o,Res.row b5 59 (MsgD.cells m),yL ld ({l with qa:=zg m.a l k,av:=av',qe:=l.qe++[(zG l.qa k).2.id]}:LdD),vP l.pv (zg m.a l k),vI av' (l.qe++[(zG l.qa k).2.id]),vT l.rv l.qf,vL l.kv l.qj,x0 ((zG (zg m.a l k) k).1) ((zG (zg m.a l k) k).2),sP ((zg m.a l k).eraseIdx k)] (fun w' hw=>hw.qH (g:=PeerP.dres) (l:=(zg m.a l k)) 6 k qS O) ?_
     refine zn (cs:=(PeerM.cells ((zG (zg m.a l k) k).2))) 9 O O O O O (zE [0,1,2,3] O qL (fun w' hw hS=>zV ?_))
     refine Oc11 ?_ hw
     refine yu (fun(pb:Nat)=>[(0,pt cb),(1,pt pb)]) (fun(pb:Nat)=>pb=(zG (zx (zg m.a l k) k (kR (es.map EntD.toEntA) m.a (zG (zg m.a l k) k).2)) k).1) (fun(pb:Nat)=>[z3 cb t (pt ld) a r b yv jb qd (pt ob),Res.nl b lv es,Res.ld ld ({l with qa:=zx (zg m.a l k) k (kR (es.map EntD.toEntA) m.a (zG (zg m.a l k) k).2),av:=av',qe:=l.qe++[(zG l.qa k).2.id]}:LdD),Res.ou ob o]) ?_ (fun pb g hΦ=> ?_)
     ·refine zR (zD O (zD O (zb O O (zJ (o:=6) O O (zn 9 O O O O O (zb O O (zJ (o:=4) O O (zn 9 O O O O O ?_))))))))
      exact ze (fun w' hw=>⟨(zG (zg m.a l k) k).1,⟨O,O,trivial⟩,(kG V).symm,(by rw[show kR (es.map EntD.toEntA) m.a (zG (zg m.a l k) k).2={(zG (zg m.a l k) k).2 with next:=max ((zG (zg m.a l k) k).2.qy+1) (min ((zG (zg m.a l k) k).2.next - 1) (x3_+1)),opn:=false,qv:=0}from by unfold kR;rw[show(LogA.mk 0 0 (es.map EntD.toEntA)).hint m.a.index m.a.ql=_ from hf9_8]];exact((hw.peerIn 9 10 5 k ({((zG (zg m.a l k) k).2)with next:=max ((((zG (zg m.a l k) k).2).qy)+1) (min ((zG (zg m.a l k) k).2.next - 1) (x3_+1)),qv:=0,opn:=false}:PeerM) qS qL rfl rfl rfl).qo [4,8,9,5,6,7] rfl qL).sel [0,1,4,2] rfl qL)⟩)
     subst hΦ
     refine zR (zD O (zD O (a_call O O (fun w' hw=>(zBX cb jb t a r b yv qd _ _ ld ({l with qa:=zx (zg m.a l k) k (kR (es.map EntD.toEntA) m.a (zG (zg m.a l k) k).2),av:=av',qe:=l.qe++[(zG l.qa k).2.id]}:LdD) ob _ k false w' ‹_› qN qN (by show k<(zx (zg m.a l k) k _).length;rw[y4];omega) qN (by show(zG (zx (zg m.a l k) k _) k).2.bd _;rw[y8 V];exact zFL hbd1) qO (hw.give [0,1,2,3] O qL)).mono ?_))))
     rintro _ w1 ⟨mv'5_,ms6_,rfl,hf12_2,hO⟩
     refine O4 ?_ (hw.qg [0,1,2,3] O hO)
     exact ze (fun w' hw=>⟨(xc a t b.vs (es.map EntD.toEntA) l k r.qc m.a),mv'5_,ms6_,⟨O,trivial⟩,⟨O,by rw[hX,hf12_2,y8 V]⟩,(by rw[hX];rw[y8 V,jW V]at hw;exact hw)⟩)
    refine zm 9 O hw (xx (l:=(zg m.a l k)) 2 2 k 1 O O qS O O O qM O (zE [0,1,3,4] O qL (fun w' hw hS=>zC 10 O (xl (c:=(((zG (zg m.a l k) k).2.next - 1:Nat):Int)) O O (ws (a:=(zG (zg m.a l k) k).2.next) (b:=1) V V)) hS (zC 13 O (zFn (c:=((min ((zG (zg m.a l k) k).2.next - 1) (x3_+1):Nat):Int)) O O (zLx _ _)) hS (zK 4 O hw (xx (l:=(zg m.a l k)) 2 2 k 2 O O qS O O O qM O (zE [0,1,3,4] O qL (fun w' hw hS=>zC 5 O (yo O O (xN V)) hS (zC 14 O (zFa (c:=((max ((((zG (zg m.a l k) k).2).qy)+1) (min ((zG (zg m.a l k) k).2.next - 1) (x3_+1)):Nat):Int)) O O (zET _ _)) hS (zC 15 O (zQ O) hS (zC 16 O (zH (o:=1) O) hS (zK 17 O hw ?_))))))))))))
    refine z2 [z3 cb t (pt ld) a r b yv jb qd (pt ob),Res.nl b lv es,Res.ou ob o,Res.row b5 59 (MsgD.cells m),yL ld ({l with qa:=zg m.a l k,av:=av',qe:=l.qe++[(zG l.qa k).2.id]}:LdD),vP l.pv (zg m.a l k),sP (zg m.a l k),vI av' (l.qe++[(zG l.qa k).2.id]),vT l.rv l.qf,vL l.kv l.qj] (fun w' hw=>hw.qn 2 O) ?_
    refine z2 [z3 cb t (pt ld) a r b yv jb qd (pt ob),Res.nl b lv es,Res.ou ob o,Res.row b5 59 (MsgD.cells m),yL ld ({l with qa:=zg m.a l k,av:=av',qe:=l.qe++[(zG l.qa k).2.id]}:LdD),vP l.pv (zg m.a l k),vI av' (l.qe++[(zG l.qa k).2.id]),vT l.rv l.qf,vL l.kv l.qj,x0 ((zG (zg m.a l k) k).1) ((zG (zg m.a l k) k).2),sP ((zg m.a l k).eraseIdx k)] (fun w' hw=>hw.qH (g:=PeerP.dres) (l:=(zg m.a l k)) 6 k qS O) ?_
    refine zn (cs:=(PeerM.cells ((zG (zg m.a l k) k).2))) 9 O O O O O (zE [0,1,2,3] O qL (fun w' hw hS=>zV ?_))
    refine Oc11 ?_ hw
    refine yu (fun(pb:Nat)=>[(0,pt cb),(1,pt pb)]) (fun(pb:Nat)=>pb=(zG (zx (zg m.a l k) k (kR (es.map EntD.toEntA) m.a (zG (zg m.a l k) k).2)) k).1) (fun(pb:Nat)=>[z3 cb t (pt ld) a r b yv jb qd (pt ob),Res.nl b lv es,Res.ld ld ({l with qa:=zx (zg m.a l k) k (kR (es.map EntD.toEntA) m.a (zG (zg m.a l k) k).2),av:=av',qe:=l.qe++[(zG l.qa k).2.id]}:LdD),Res.ou ob o]) ?_ (fun pb g hΦ=> ?_)
    ·refine zR (zD O (zD O (zb O O (zJ (o:=6) O O (zn 9 O O O O O (zb O O (zJ (o:=4) O O (zn 9 O O O O O ?_))))))))
     exact ze (fun w' hw=>⟨(zG (zg m.a l k) k).1,⟨O,O,trivial⟩,(kG V).symm,(by rw[show kR (es.map EntD.toEntA) m.a (zG (zg m.a l k) k).2={(zG (zg m.a l k) k).2 with next:=max ((zG (zg m.a l k) k).2.qy+1) (min ((zG (zg m.a l k) k).2.next - 1) (x3_+1)),opn:=false,qv:=0}from by unfold kR;rw[show(LogA.mk 0 0 (es.map EntD.toEntA)).hint m.a.index m.a.ql=_ from hf9_8]];exact((hw.peerIn 9 10 5 k ({((zG (zg m.a l k) k).2)with next:=max ((((zG (zg m.a l k) k).2).qy)+1) (min ((zG (zg m.a l k) k).2.next - 1) (x3_+1)),qv:=0,opn:=false}:PeerM) qS qL rfl rfl rfl).qo [4,8,9,5,6,7] rfl qL).sel [0,1,4,2] rfl qL)⟩)
    subst hΦ
    refine zR (zD O (zD O (a_call O O (fun w' hw=>(zBX cb jb t a r b yv qd _ _ ld ({l with qa:=zx (zg m.a l k) k (kR (es.map EntD.toEntA) m.a (zG (zg m.a l k) k).2),av:=av',qe:=l.qe++[(zG l.qa k).2.id]}:LdD) ob _ k false w' ‹_› qN qN (by show k<(zx (zg m.a l k) k _).length;rw[y4];omega) qN (by show(zG (zx (zg m.a l k) k _) k).2.bd _;rw[y8 V];exact zFL hbd1) qO (hw.give [0,1,2,3] O qL)).mono ?_))))
    rintro _ w1 ⟨mv'7_,ms8_,rfl,hf12_2,hO⟩
    refine O4 ?_ (hw.qg [0,1,2,3] O hO)
    exact ze (fun w' hw=>⟨(xc a t b.vs (es.map EntD.toEntA) l k r.qc m.a),mv'7_,ms8_,⟨O,trivial⟩,⟨O,by rw[hX,hf12_2,y8 V]⟩,(by rw[hX];rw[y8 V,jW V]at hw;exact hw)⟩)
   refine yZ qM qM (zM O (zH (o:=0) O) (zM O (za 4 (v:=Vi m.kind) O O O) (zM O (zCk O O) (zM O zU (zC4 (q:=m.kind=8) 8 3 [149,148,147,146,145,144,143,142] (((m.index:Nat):Int)=((0:Nat):Int)) O O O O O O trivial O (fun h13_3=> ?_) (fun g13_12=> ?_))))))
   ·refine yq O (gT h13_3) (zM O (zH (o:=4) O) (yq O (gT h13_3) (zM O (za 4 (v:=Vn m.index) O O O) (yq O (gT h13_3) (zM O zU (yq O (gT h13_3) (zM O (zQ O) (yq O (gT h13_3) (zM O (zH (o:=24) O) (yq O (gT h13_3) (zM O (zH (o:=0) O) (yq O (gT h13_3) ?_))))))))))))
    refine zM O (za 0 (v:=Vn 0) O O O) (yq O (gT h13_3) (zM O (zCk O O) ?_))
    exact zEf O
   refine zM O yN (xe (zY O (fun c4=> ?_) (fun c4=> ?_)))
   ·have hX:=zNM (a:=a) (t:=t) (vs0:=b.vs) (E:=es.map EntD.toEntA) (l:=l) (k:=k) (qc:=r.qc) (m:=m.a) (by show ¬ m.kind=6;omega) ⟨c4.1,by show m.index=0;omega⟩
    refine zB (zD O (zD O (zJ (o:=12) O O (zL 4 (v:=Vi m.off) O O O O (zb O O (zJ (o:=5) O O ?_))))))
    refine z2 [z3 cb t (pt ld) a r b yv jb qd (pt ob),Res.nl b lv es,Res.ou ob o,Res.row b5 59 (MsgD.cells m),yL ld ({l with qa:=zg m.a l k,av:=av',qe:=l.qe++[(zG l.qa k).2.id]}:LdD),vP l.pv (zg m.a l k),sP (zg m.a l k),vI av' (l.qe++[(zG l.qa k).2.id]),vT l.rv l.qf,vL l.kv l.qj] (fun w' hw=>hw.qn 2 O) ?_
    refine z2 [z3 cb t (pt ld) a r b yv jb qd (pt ob),Res.nl b lv es,Res.ou ob o,Res.row b5 59 (MsgD.cells m),yL ld ({l with qa:=zg m.a l k,av:=av',qe:=l.qe++[(zG l.qa k).2.id]}:LdD),vP l.pv (zg m.a l k),vI av' (l.qe++[(zG l.qa k).2.id]),vT l.rv l.qf,vL l.kv l.qj,x0 ((zG (zg m.a l k) k).1) ((zG (zg m.a l k) k).2),sP ((zg m.a l k).eraseIdx k)] (fun w' hw=>hw.qH (g:=PeerP.dres) (l:=(zg m.a l k)) 6 k qS O) ?_
    refine zn (cs:=(PeerM.cells ((zG (zg m.a l k) k).2))) 9 O O O O O (zb O O (zJ (o:=8) O O (zn 9 O O O O O (zA (yZ qM qM (zM O zU (zM O (zQ O) (zM O (zH (o:=1) O) (zM O (za 9 (v:=Vn (((zG (zg m.a l k) k).2).next)) O O O) (zM O zU (zM O (zQ O) (zM O (zH (o:=24) O) ?_))))))))))))
    refine zM O (zH (o:=0) O) (zM O (za 0 (v:=Vn 0) O O O) (zM O (zHe O O) (xe (zY O (fun c5=> ?_) (fun c5=> ?_)))))
    ·exact absurd c5 V
    exact yd (fun w' hw=>⟨(xc a t b.vs (es.map EntD.toEntA) l k r.qc m.a),o.mv,[],⟨O,trivial⟩,⟨O,by rw[hX];rfl⟩,(by rw[hX,List.append_nil];exact((hw.peerIn 9 10 5 k ({((zG (zg m.a l k) k).2)with off:=m.off,asked:=false}:PeerM) qS qL rfl rfl rfl).qo [4,8,9,5,6,7] rfl qL).sel [0,1,4,2] rfl qL)⟩)
   have hX:=zLL (a:=a) (t:=t) (vs0:=b.vs) (E:=es.map EntD.toEntA) (l:=l) (k:=k) (qc:=r.qc) (m:=m.a) (fun q=>c2 ⟨⟨q.1,q.2.1⟩,by have:=q.2.2;rw[List.length_map]at this;have h3:m.index≤es.length:=this;omega⟩) (fun q=>c3 ⟨⟨q.1,by rw[show m.flag=false from q.2.1];rfl⟩,by have h3:m.index<_:=q.2.2;omega⟩) (fun q=>c4 ⟨q.1,by have h3:m.index=0:=q.2;omega⟩)
   exact yd (fun w' hw=>⟨(xc a t b.vs (es.map EntD.toEntA) l k r.qc m.a),o.mv,[],⟨O,trivial⟩,⟨O,by rw[hX];rfl⟩,(by rw[hX,List.append_nil,zBW V];exact hw.sel [0,1,2,3] rfl qL)⟩)
  have hx:=hΦ.1
  refine zR (zD O (a_call O O (fun w' hw=>(zMy cb jb t a ({r with qc:=x.qc}:RolD) b yv qd _ _ ld ({l with qa:=zx (zg m.a l k) k x.p,av:=av',qe:=l.qe++[(zG l.qa k).2.id],qB:=x.qB}:LdD) ob ({o with mv:=mv',qk:=o.qk++ms}:OutD) w' ‹_› qN qN (by show(zx (zg m.a l k) k x.p).length≤_;rw[y4];omega) qO qR (by show ∀ p∈zx (zg m.a l k) k x.p,p.2.round≤l.qf.length;refine zAx (P:=fun p=>p.round≤l.qf.length) (zE4 hk hpr) ?_;rw[hx,zGQ];exact zE4 hk hpr _ (zd V)) qO qO (hw.give [0,1,2,3] O qL)).mono ?_)))
  rintro _ w1 ⟨rv'9_,kv'10_,rfl,hO⟩
  refine O4 ?_ (hw.qg [0,1,2,3] O hO)
  exact ze (yJ O (fun w' hw=>⟨mv',rv'9_,av',kv'10_,ms,O,(by rw[hΦ.2,hx]),(by rw[←hx];exact hw)⟩))
end Go.Proofs.YtkkeknmkipkbmaaGreat
