import Derived.Test.YtkkeknmkipkbmaaGreatCoI
set_option linter.unusedSectionVars false
set_option linter.unusedSimpArgs false
set_option linter.unusedVariables false
set_option maxRecDepth 10000
namespace Go.Proofs.YtkkeknmkipkbmaaGreat
open Go Go.Sc Go.Proofs
structure AnsR where
  qc:Nat
  p:PeerM
  qB:Bool
  ms:List MsgA
def zAN(m:MsgA)(qd:Nat)(p:PeerM):PeerM:={p with told:=true,round:=if m.round≤qd then max p.round m.round else p.round}
def ko(E:List EntA)(m:MsgA)(p:PeerM):PeerM:={p with next:=max (p.qy+1) (min (p.next - 1) (((LogA.mk 0 0 E).hint m.index m.ql).1+1)),opn:=false,qx:=0}
def zj(m:MsgA)(l:LdD)(k:Nat):List PeerP:=z5 l.qa k (zAN m l.qd.length (zG l.qa k).2)
def xy(a:StA)(t:TimD)(vs0:List Int)(E:List EntA)(l:LdD)(k qc:Nat)(m:MsgA):AnsR:=
  if m.kind=6∧m.flag=true∧m.index≤E.length then
    ⟨yY a t.term vs0 E (z5 (zj m l k) k (y2 m.index (zG (zj m l k) k).2)) qc,yq E (y2 m.index (zG (zj m l k) k).2),if y6 l (y2 m.index (zG (zj m l k) k).2) E.length false then true else l.qB,zAF a t.term (y6 l (y2 m.index (zG (zj m l k) k).2) E.length false) (y2 m.index (zG (zj m l k) k).2)++xM a t.term (yY a t.term vs0 E (z5 (zj m l k) k (y2 m.index (zG (zj m l k) k).2)) qc) l.qd.length E (y2 m.index (zG (zj m l k) k).2) false⟩
  else if m.kind=6∧m.flag=false∧m.index<(zG (zj m l k) k).2.next then⟨qc,yq E (ko E m (zG (zj m l k) k).2),l.qB,xM a t.term qc l.qd.length E (ko E m (zG (zj m l k) k).2) false⟩
  else if m.kind=8∧m.index=0 then⟨qc,{(zG (zj m l k) k).2 with off:=m.off,asked:=false},l.qB,[]⟩
  else⟨qc,(zG (zj m l k) k).2,l.qB,[]⟩
theorem zLR{a:StA}{t:TimD}{vs0:List Int}{E:List EntA}{l:LdD}{k qc:Nat}{m:MsgA}(h:m.kind=6∧m.flag=true∧m.index≤E.length):xy a t vs0 E l k qc m=⟨yY a t.term vs0 E (z5 (zj m l k) k (y2 m.index (zG (zj m l k) k).2)) qc,yq E (y2 m.index (zG (zj m l k) k).2),if y6 l (y2 m.index (zG (zj m l k) k).2) E.length false then true else l.qB,zAF a t.term (y6 l (y2 m.index (zG (zj m l k) k).2) E.length false) (y2 m.index (zG (zj m l k) k).2)++xM a t.term (yY a t.term vs0 E (z5 (zj m l k) k (y2 m.index (zG (zj m l k) k).2)) qc) l.qd.length E (y2 m.index (zG (zj m l k) k).2) false⟩:=if_pos h
theorem zMW{a:StA}{t:TimD}{vs0:List Int}{E:List EntA}{l:LdD}{k qc:Nat}{m:MsgA}(h:¬(m.kind=6∧m.flag=true∧m.index≤E.length))(h2:m.kind=6∧m.flag=false∧m.index<(zG (zj m l k) k).2.next):xy a t vs0 E l k qc m=⟨qc,yq E (ko E m (zG (zj m l k) k).2),l.qB,xM a t.term qc l.qd.length E (ko E m (zG (zj m l k) k).2) false⟩:=by unfold xy;rw[if_neg h,if_pos h2]
theorem zPq{a:StA}{t:TimD}{vs0:List Int}{E:List EntA}{l:LdD}{k qc:Nat}{m:MsgA}(h:¬ m.kind=6)(h3:m.kind=8∧m.index=0):xy a t vs0 E l k qc m=⟨qc,{(zG (zj m l k) k).2 with off:=m.off,asked:=false},l.qB,[]⟩:=by unfold xy;rw[if_neg (fun q=>h q.1),if_neg (fun q=>h q.1),if_pos h3]
theorem zLJ{a:StA}{t:TimD}{vs0:List Int}{E:List EntA}{l:LdD}{k qc:Nat}{m:MsgA}(h:¬(m.kind=6∧m.flag=true∧m.index≤E.length))(h2:¬(m.kind=6∧m.flag=false∧m.index<(zG (zj m l k) k).2.next))(h3:¬(m.kind=8∧m.index=0)):xy a t vs0 E l k qc m=⟨qc,(zG (zj m l k) k).2,l.qB,[]⟩:=by unfold xy;rw[if_neg h,if_neg h2,if_neg h3]
theorem zFi{E:List EntA}(hf:folA 0 0 E){k u:Nat}:∀ n,n≤E.length→((LogA.mk 0 0 E).hintN k u n).1≤E.length
  |0,_=>Nat.zero_le _
  |n+1,h=>by
    unfold LogA.hintN
    have h1:=folA.idx hf n V
    split
    · show(zG E n).index≤_;omega
    exact zFi hf n V
theorem zNv{E:List EntA}(hf:folA 0 0 E){k u:Nat}:((LogA.mk 0 0 E).hint k u).1≤E.length:=zFi hf _ (Nat.le_refl _)
theorem zIa{n N:Nat}{m:MsgA}{p:PeerM}(h:p.bd n):(zAN m N p).bd n:=⟨h.next,h.qy,h.qx⟩
theorem zGN{n:Nat}{E:List EntA}{m:MsgA}{p:PeerM}(h:p.bd n):(ko E m p).bd n:=by
  have h1:=h.next;have h2:=h.qy
  refine⟨?_,h.qy,⟨Int.le_refl 0,by show(0:Int)≤4;omega⟩⟩
  show 1≤max (p.qy+1) (min (p.next - 1) _)∧max (p.qy+1) (min (p.next - 1) _)≤n+1
  omega
theorem zGb{m:MsgA}{l:LdD}{k:Nat}(hk:k<l.qa.length)(h:∀ p∈l.qa,p.2.round≤l.qd.length):∀ p∈zj m l k,p.2.round≤l.qd.length:=by
  refine zBp (P:=fun p=>p.round≤l.qd.length) h ?_
  have h1:=h _ (zd hk)
  show(if m.round≤l.qd.length then max (zG l.qa k).2.round m.round else(zG l.qa k).2.round)≤_
  split<;>omega
theorem zHc{a:StA}{t:TimD}{vs0:List Int}{E:List EntA}{l:LdD}{k qc:Nat}{m:MsgA}:(xy a t vs0 E l k qc m).p.round=(zG (zj m l k) k).2.round:=by
  have h1:∀ p:PeerM,(yq E p).round=p.round:=fun p=>by unfold yq;split<;>rfl
  unfold xy
  split
  · exact h1 _
  split
  · exact h1 _
  split<;>rfl
theorem zKg{S:List Nat}(cb jb:Nat)(t:TimD)(a:StA)(r:RolD)(b:StB)(yv:Value)(qe:Nat)(lv:Value)(es:List EntD)(ld:Nat)(l:LdD)(ob:Nat)(o:OutD)(k:Nat)(m:MsgD)(w:World)(hg:(LG 0 0 es).good)(hl:es.length≤1000000)(hvl:b.vs.length≤12)(hpl:l.qa.length≤1000)(hk:k<l.qa.length)(ho:o.qk.length≤1000)(hp:∀ p∈l.qa,p.2.bd 1000000)(hr:l.qd.length≤1000000)(hcl:(zc b.vs (es.map EntD.toEntA)).vs.length≤12)(hpr:∀ p∈l.qa,p.2.round≤l.qd.length)(hlk:l.qj.length≤10000)(hrd:o.qw.length≤10000)(han:l.qf.length≤1000000)(hin:Own w S [z7 cb t (pt ld) a r b yv jb qe (pt ob),Res.nl b lv es,Res.ld ld l,Res.ou ob o] w)(rd_m:MsgD.rd m w S):Rets Tryz.prog 136 #[pt cb,pt ((zG l.qa k).1), .agg (MsgD.cells m).toArray] w fun u_ w'=>∃ (mv' rv' av' kv':Value) (ms:List MsgD),u_= .tuple #[]∧ms.map MsgD.a=(xy a t b.vs (es.map EntD.toEntA) l k r.qc m.a).ms∧Own w S [z7 cb (xZ (xa a b.vs (es.map EntD.toEntA) (z5 (zj m.a l k) k (xy a t b.vs (es.map EntD.toEntA) l k r.qc m.a).p) l.qd l.sure) l.qd t) (pt ld) a ({r with qc:=(xy a t b.vs (es.map EntD.toEntA) l k r.qc m.a).qc}:RolD) b yv jb qe (pt ob),Res.nl b lv es,Res.ld ld (x9 (xa a b.vs (es.map EntD.toEntA) (z5 (zj m.a l k) k (xy a t b.vs (es.map EntD.toEntA) l k r.qc m.a).p) l.qd l.sure) kv' {l with qa:=(z5 (zj m.a l k) k (xy a t b.vs (es.map EntD.toEntA) l k r.qc m.a).p),av:=av',qf:=l.qf++[(zG l.qa k).2.id],qB:=(xy a t b.vs (es.map EntD.toEntA) l k r.qc m.a).qB}),Res.ou ob (zAR (xa a b.vs (es.map EntD.toEntA) (z5 (zj m.a l k) k (xy a t b.vs (es.map EntD.toEntA) l k r.qc m.a).p) l.qd l.sure) rv' l.qj {o with mv:=mv',qk:=o.qk++ms})] w':=by
  have hbd:=hp _ (zd hk)
  have hbn:=hbd.next
  have hl1:(es.map EntD.toEntA).length=es.length:=List.length_map _
  have hpn:(zG (zj m.a l k) k).2=zAN m.a l.qd.length (zG l.qa k).2:=xL hk
  have hpl1:(zj m.a l k).length=l.qa.length:=xG
  have hbd1:(zG (zj m.a l k) k).2.bd 1000000:=by rw[hpn];exact zIa hbd
  have hb1:=hbd1.next
  have hb1m:=hbd1.qy
  have hfl:folA 0 0 (es.map EntD.toEntA):=hg.fol
  refine zW Tryz.func136 O Tryz.ntmps136 hin ?_
  refine zC (z8 O O (fun b5=>zA (yt (fun(av':Value)=>[(0,pt cb),(1,pt ((zG l.qa k).1)),(5,pt b5)]) (fun(av':Value)=>True) (fun(av':Value)=>[z7 cb t (pt ld) a r b yv jb qe (pt ob),Res.nl b lv es,Res.ld ld ({l with av:=av',qf:=l.qf++[(zG l.qa k).2.id]}:LdD),Res.ou ob o,Res.row b5 59 (MsgD.cells m)]) ?_ (fun av' g hΦ=> ?_))))
  ·refine ze [0,1,3,4] O qM qN (fun w' hw hS=>zB 0 O zS hS (zB 1 O (zO O) hS (zB 2 O (zH (o:=9) O) hS (zB 3 O (zY 0 (v:=pt ld) O O O) hS (zB 4 O zS hS (zB 5 O (zO O) hS (zB 6 O (zH (o:=9) O) hS (zB 7 O (zY 0 (v:=pt ld) O O O) hS (zB 8 O (zO O) hS (zB 9 O (zH (o:=1) O) hS (zB 11 O zS hS (zB 12 O (zO O) hS ?_))))))))))))
   refine zB 13 O (zH (o:=0) O) hS (zq 10 14 ?_ ?_)
   ·refine zl 10 O hw (z6 (v:=l.av) 2 0 1 O O O O qN O (zE [0,1,3,4] O qM (fun w' hw hS=>zJ 14 O hw (kE (l:=l.qa) 2 2 k 0 O O qT O O O qN O (zE [0,1,3,4] O qM (fun w' hw hS=>zJ 15 O hw (zx (e:=3) (sz:=1) (vs:=[Vi (((zG l.qa k).2).id)]) qN O O qR qM O (fun b25=>zE [0,1,3,4] O qM (fun w' hw hS=>zJ 16 O hw ?_)))))))))
    refine z4 [z7 cb t (pt ld) a r b yv jb qe (pt ob),Res.nl b lv es,Res.ou ob o,Res.row b5 59 (MsgD.cells m),vI (.slice (some ⟨b25,0,none⟩) 1 1) [((zG l.qa k).2).id],yP ld l,vP l.pv l.qa,sP l.qa,vI l.av l.qf,vT l.rv l.qd,vL l.kv l.qj] (fun w' hw=>hw.qn 2 O) ?_
    refine zy (g:=I1) (sz:=1) (by':=8) (fun _=>O) (l:=l.qf) (l':=[((zG l.qa k).2).id]) qV 8 qN O O O (fun w' hw'=>Vec.sl (Own.holds hw' 4 _ O)) qO qM O (fun v26=>zE [0,1,2,3] O qM (fun w' hw hS=>zB 17 O (zO O) hS (zB 18 O (zH (o:=1) O) hS (zJ 19 O hw ?_))))
    refine zN (fun w' hw=>Own.qg (i:=8) O hw) (fun hc1_=> ?_)
    refine zn (cs:=(LdD.cells l)) 5 O O O hc1_ O (zE [0,1,2,3] O qM (fun w' hw hS=>zT ?_))
    exact⟨v26,⟨O,O,O,trivial⟩,trivial,(hw.qo [5,6,7,8,9,10] O qM).sel [0,1,5,2,3] O qM⟩
   refine zl 14 O hw (kE (l:=l.qa) 2 2 k 0 O O qT O O O qN O (zE [0,1,3,4] O qM (fun w' hw hS=>zq 10 15 ?_ ?_)))
   ·refine zl 10 O hw (z6 (v:=l.av) 2 0 1 O O O O qN O (zE [0,1,3,4] O qM (fun w' hw hS=>zJ 15 O hw (zx (e:=3) (sz:=1) (vs:=[Vi (((zG l.qa k).2).id)]) qN O O qR qM O (fun b25=>zE [0,1,3,4] O qM (fun w' hw hS=>zJ 16 O hw ?_))))))
    refine z4 [z7 cb t (pt ld) a r b yv jb qe (pt ob),Res.nl b lv es,Res.ou ob o,Res.row b5 59 (MsgD.cells m),vI (.slice (some ⟨b25,0,none⟩) 1 1) [((zG l.qa k).2).id],yP ld l,vP l.pv l.qa,sP l.qa,vI l.av l.qf,vT l.rv l.qd,vL l.kv l.qj] (fun w' hw=>hw.qn 2 O) ?_
    refine zy (g:=I1) (sz:=1) (by':=8) (fun _=>O) (l:=l.qf) (l':=[((zG l.qa k).2).id]) qV 8 qN O O O (fun w' hw'=>Vec.sl (Own.holds hw' 4 _ O)) qO qM O (fun v26=>zE [0,1,2,3] O qM (fun w' hw hS=>zB 17 O (zO O) hS (zB 18 O (zH (o:=1) O) hS (zJ 19 O hw ?_))))
    refine zN (fun w' hw=>Own.qg (i:=8) O hw) (fun hc2_=> ?_)
    refine zn (cs:=(LdD.cells l)) 5 O O O hc2_ O (zE [0,1,2,3] O qM (fun w' hw hS=>zT ?_))
    exact⟨v26,⟨O,O,O,trivial⟩,trivial,(hw.qo [5,6,7,8,9,10] O qM).sel [0,1,5,2,3] O qM⟩
   refine zl 15 O hw (zx (e:=3) (sz:=1) (vs:=[Vi (((zG l.qa k).2).id)]) qN O O qR qM O (fun b25=>zE [0,1,3,4] O qM (fun w' hw hS=>zJ 10 O hw (z6 (v:=l.av) 2 0 1 O O O O qN O (zE [0,1,3,4] O qM (fun w' hw hS=>zJ 16 O hw ?_))))))
   refine z4 [z7 cb t (pt ld) a r b yv jb qe (pt ob),Res.nl b lv es,Res.ou ob o,Res.row b5 59 (MsgD.cells m),vI (.slice (some ⟨b25,0,none⟩) 1 1) [((zG l.qa k).2).id],yP ld l,vP l.pv l.qa,sP l.qa,vI l.av l.qf,vT l.rv l.qd,vL l.kv l.qj] (fun w' hw=>hw.qn 2 O) ?_
   refine zy (g:=I1) (sz:=1) (by':=8) (fun _=>O) (l:=l.qf) (l':=[((zG l.qa k).2).id]) qV 8 qN O O O (fun w' hw'=>Vec.sl (Own.holds hw' 4 _ O)) qO qM O (fun v26=>zE [0,1,2,3] O qM (fun w' hw hS=>zB 17 O (zO O) hS (zB 18 O (zH (o:=1) O) hS (zJ 19 O hw ?_))))
   refine zN (fun w' hw=>Own.qg (i:=8) O hw) (fun hc3_=> ?_)
   refine zn (cs:=(LdD.cells l)) 5 O O O hc3_ O (zE [0,1,2,3] O qM (fun w' hw hS=>zT ?_))
   exact⟨v26,⟨O,O,O,trivial⟩,trivial,(hw.qo [5,6,7,8,9,10] O qM).sel [0,1,5,2,3] O qM⟩
  refine zC (zD O (zb O O (zK (o:=7) O O ?_)))
  refine z4 [z7 cb t (pt ld) a r b yv jb qe (pt ob),Res.nl b lv es,Res.ou ob o,Res.row b5 59 (MsgD.cells m),yP ld ({l with av:=av',qf:=l.qf++[(zG l.qa k).2.id]}:LdD),vP l.pv l.qa,sP l.qa,vI av' (l.qf++[(zG l.qa k).2.id]),vT l.rv l.qd,vL l.kv l.qj] (fun w' hw=>hw.qn 2 O) ?_
  refine z4 [z7 cb t (pt ld) a r b yv jb qe (pt ob),Res.nl b lv es,Res.ou ob o,Res.row b5 59 (MsgD.cells m),yP ld ({l with av:=av',qf:=l.qf++[(zG l.qa k).2.id]}:LdD),vP l.pv l.qa,vI av' (l.qf++[(zG l.qa k).2.id]),vT l.rv l.qd,vL l.kv l.qj,kF ((zG l.qa k).1) ((zG l.qa k).2),sP (l.qa.eraseIdx k)] (fun w' hw=>hw.qI (g:=PeerP.dres) (l:=l.qa) 6 k qT O) ?_
  refine zn (cs:=(PeerM.cells ((zG l.qa k).2))) 9 O O O O O (zA (yt (fun(pb:Nat)=>[(0,pt cb),(1,pt pb),(5,pt b5)]) (fun(pb:Nat)=>pb=(zG (zj m.a l k) k).1) (fun(pb:Nat)=>[z7 cb t (pt ld) a r b yv jb qe (pt ob),Res.nl b lv es,Res.ld ld ({l with qa:=zj m.a l k,av:=av',qf:=l.qf++[(zG l.qa k).2.id]}:LdD),Res.ou ob o,Res.row b5 59 (MsgD.cells m)]) ?_ (fun pb g hΦ=> ?_)))
  ·refine yb qN qN (zL O (zH (o:=7) O) (zL O (zY 3 (v:=Vn m.round) O O O) (zL O zS (zL O (zO O) (zL O (zH (o:=9) O) (zL O (zY 0 (v:=pt ld) O O O) (zL O (zO O) (zL O (zH (o:=2) O) (zL O (zY 4 (v:=l.rv) O O O) (zL O (zAA (pV 7 O) O) (zL O (x7 qN O (xA V) qN) (zL O (zIi O O) ?_))))))))))))
   refine xi (za O (fun c1=> ?_) (fun c1=> ?_))
   ·refine ze [0,1,2,3,4,5,6,7,8,10] O qM qN (fun w' hw hS=>zB 0 O zS hS (zB 1 O zS hS (zB 2 O (zO O) hS (zB 3 O (zH (o:=3) O) hS (zB 5 O (zH (o:=7) O) hS (zB 6 O (zY 3 (v:=Vn m.round) O O O) hS (zJ 4 O hw (zM 9 (v:=Vn (((zG l.qa k).2).round)) O O O O (zE [0,1,2,3,4,5,6,7,8,10] O qM (fun w' hw hS=>zB 7 O (zGP (c:=((max (((zG l.qa k).2).round) m.round:Nat):Int)) O O (zFE _ _)) hS (zB 8 O (zO O) hS (zB 9 O (zH (o:=3) O) hS ?_))))))))))))
    refine zJ 10 O hw (zn 9 O O O O O (zE [0,1,2,3,4,5,6,7,8,10] O qM (fun w' hw hS=>zT ?_)))
    exact⟨(zG l.qa k).1,⟨O,O,O,trivial⟩,(kX hk).symm,(by rw[show(zj m.a l k)=z5 l.qa k {(zG l.qa k).2 with round:=max (zG l.qa k).2.round m.round,told:=true}from by unfold zj zAN;rw[if_pos (by show m.round≤_;omega)];rfl];exact((hw.peerIn 9 10 5 k ({((zG l.qa k).2)with round:=max (((zG l.qa k).2).round) m.round,told:=true}:PeerM) qT qM rfl rfl rfl).qo [4,8,9,5,6,7] rfl qM).sel [0,1,4,2,3] rfl qM)⟩
   exact yZ (fun w' hw=>⟨(zG l.qa k).1,⟨O,O,O,trivial⟩,(kX hk).symm,(by rw[show(zj m.a l k)=z5 l.qa k {(zG l.qa k).2 with told:=true}from by unfold zj zAN;rw[if_neg (by show ¬ m.round≤_;omega)]];exact((hw.peerIn 9 10 5 k ({((zG l.qa k).2)with told:=true}:PeerM) qT qM rfl rfl rfl).qo [4,8,9,5,6,7] rfl qM).sel [0,1,4,2,3] rfl qM)⟩)
  subst hΦ
  refine zC (zD O (zb O O (zK (o:=29) O O (zM 0 (v:=pt b.lb) O O O O (a_call O O (fun w' hw=>(kV b.lb 0 0 lv es w' qP qO (hw.qF 1 0 O O) (hw.qH 1 1 O O) (EntD.rd.qF 1 2 O O hw)).mono ?_))))))
  rintro _ w1 ⟨rfl,hO⟩
  refine O5 ?_ (hw.qi hO)
  refine zD O (yA (vs:=[Vn (0+es.length),Vn ((LG 0 0 es).end_)]) O O O (yA (vs:=[Vn (0+es.length),Vn ((LG 0 0 es).end_)]) O O O (zI O (zI O (zA (jl (fun(x:AnsR) (mv':Value) (ms:List MsgD)=>[(0,pt cb)]) (fun(x:AnsR) (mv':Value) (ms:List MsgD)=>x=(xy a t b.vs (es.map EntD.toEntA) l k r.qc m.a)∧ms.map MsgD.a=x.ms) (fun(x:AnsR) (mv':Value) (ms:List MsgD)=>[z7 cb t (pt ld) a ({r with qc:=x.qc}:RolD) b yv jb qe (pt ob),Res.nl b lv es,Res.ld ld ({l with qa:=z5 (zj m.a l k) k x.p,av:=av',qf:=l.qf++[(zG l.qa k).2.id],qB:=x.qB}:LdD),Res.ou ob ({o with mv:=mv',qk:=o.qk++ms}:OutD)]) ?_ (fun x mv' ms g hΦ=> ?_)))))))
  ·refine zZ (zC (zK (o:=0) O O (zM 4 (v:=Vi m.kind) O O O O (yR O O O (zD O (yJ (q:=m.kind=6) 2 3 [68,67] (m.flag=true) O O O O O O trivial O (fun h6_3=> ?_) (fun g6_6=> ?_)))))))
   ·refine zR O (gT h6_3) (zK (o:=8) O O (zR O (gT h6_3) (zM 4 (v:= .bool m.flag) O O O O ?_)))
    exact yN (xC _) (fun _ hw=>hw)
   refine zD O (yJ (q:=(m.kind=6)∧(m.flag=true)) 4 7 [74,73,72,71] (((m.index:Nat):Int)≤((0+es.length:Nat):Int)) O O O O O O trivial O (fun h6_7=> ?_) (fun g6_12=> ?_))
   ·refine zR O (gT h6_7) (zK (o:=4) O O (zR O (gT h6_7) (zM 4 (v:=Vn m.index) O O O O (zR O (gT h6_7) (zD O (zR O (gT h6_7) (x6 O O O ?_)))))))
    exact yN O (fun _ hw=>hw)
   refine zI O (zA (za O (fun c2=> ?_) (fun c2=> ?_)))
   ·have hX:=zLR (a:=a) (t:=t) (vs0:=b.vs) (E:=es.map EntD.toEntA) (l:=l) (k:=k) (qc:=r.qc) (m:=m.a) ⟨c2.1.1,c2.1.2,by show m.index≤_;omega⟩
    rw[hl1]at hX
    have hbA:∀ p∈(zj m.a l k),p.2.bd 1000000:=zBp (P:=fun p=>p.bd 1000000) hp (zIa hbd)
    refine zV (zD O (zD O (zK (o:=4) O O (zM 4 (v:=Vn m.index) O O O O (a_call O O (fun w' hw=>(zQv cb jb t a r b yv qe _ _ ld ({l with qa:=zj m.a l k,av:=av',qf:=l.qf++[(zG l.qa k).2.id]}:LdD) ob _ k m.index w' ‹_› qO qO (by show(zj m.a l k).length≤_;omega) (by show k<(zj m.a l k).length;omega) qO hbA qP qS V (hw.give [0,1,2,3] O qM)).mono ?_))))))
    rintro _ w1 ⟨mv'1_,ms2_,rfl,hf7_4,hO⟩
    refine O5 ?_ (hw.qh [0,1,2,3] O hO)
    exact zg (fun w' hw=>⟨(xy a t b.vs (es.map EntD.toEntA) l k r.qc m.a),mv'1_,ms2_,⟨O,trivial⟩,⟨O,by rw[hX];exact hf7_4⟩,(by rw[hX];exact hw.sel [1,2,3,4] rfl qM)⟩)
   refine yb qN qN (zL O (zH (o:=0) O) (zL O (zY 4 (v:=Vi m.kind) O O O) (zL O (zCq O O) (zL O zS (zCM (q:=m.kind=6) 3 3 [88,87,86] ((!m.flag)=true) O O O O O O trivial O (fun h8_3=> ?_) (fun g8_7=> ?_))))))
   ·refine ym O (gT h8_3) (zL O (zH (o:=8) O) (ym O (gT h8_3) (zL O (zY 4 (v:= .bool m.flag) O O O) (ym O (gT h8_3) (zL O (zDx (b:=m.flag) O) ?_)))))
    exact zEC (xC _)
   refine zL O zS (zCM (q:=(m.kind=6)∧((!m.flag)=true)) 7 8 [97,96,95,94,93,92,91] (((m.index:Nat):Int)<((((zG (zj m.a l k) k).2).next:Nat):Int)) O O O O O O trivial O (fun h8_8=> ?_) (fun g8_16=> ?_))
   ·refine ym O (gT h8_8) (zL O (zH (o:=4) O) (ym O (gT h8_8) (zL O (zY 4 (v:=Vn m.index) O O O) (ym O (gT h8_8) (zL O zS (ym O (gT h8_8) (zL O (zO O) (ym O (gT h8_8) (zL O (zH (o:=1) O) (ym O (gT h8_8) (zL O (zBE (l:=(zj m.a l k)) 2 2 k 1 O O qT O O O qN) (ym O (gT h8_8) ?_))))))))))))
    refine zL O (zBi O O) ?_
    exact zEC O
   refine zL O yO (xi (za O (fun c3=> ?_) (fun c3=> ?_)))
   ·have hX:=zMW (a:=a) (t:=t) (vs0:=b.vs) (E:=es.map EntD.toEntA) (l:=l) (k:=k) (qc:=r.qc) (m:=m.a) (fun q=>by rw[show m.flag=true from q.2.1]at c3;simp at c3) ⟨c3.1.1,by show m.flag=false;simpa using c3.1.2,by show m.index<_;omega⟩
    refine zP (ze [0,1,2,3,4] O qM qN (fun w' hw hS=>zB 0 O zS hS (zB 1 O (zO O) hS (zB 2 O (zH (o:=29) O) hS (zB 3 O (zY 0 (v:=pt b.lb) O O O) hS (zB 4 O (zH (o:=4) O) hS (zB 5 O (zY 4 (v:=Vn m.index) O O O) hS (zB 6 O (zH (o:=5) O) hS (zB 7 O (zY 4 (v:=Vn m.ql) O O O) hS (zJ 8 O hw (a_call O O (fun w' hw=>(zKY b.lb 0 0 lv es m.index m.ql w' qP (hw.qF 1 0 O O) (hw.qH 1 1 O O) (EntD.rd.qF 1 2 O O hw)).mono ?_))))))))))))
    rintro _ w1 ⟨x3_,y4_,rfl,hf9_8,hO⟩
    have hhl:=zNv hfl (k:=m.index) (u:=m.ql)
    rw[hf9_8]at hhl
    have hhl:x3_≤(es.map EntD.toEntA).length:=hhl
    refine O5 ?_ (hw.qi hO)
    refine zE [0,1,2,3,4] O qM (fun w' hw hS=>zB 9 O zS hS (zB 10 O (yT (vs:=[Vn x3_,Vn y4_]) O O) hS (zB 11 O (yT (vs:=[Vn x3_,Vn y4_]) O O) hS (zB 12 O yO hS (zB 13 O yO hS (zT ?_))))))
    refine Oc5 ?_ hw
    refine zP (ze [0,1,3,4] O qM qN (fun w' hw hS=>zB 0 O zS hS (zB 1 O zS hS (zB 2 O (zO O) hS (zB 3 O (zH (o:=2) O) hS (zB 6 O zS hS (zB 7 O (zO O) hS (zB 8 O (zH (o:=1) O) hS (zB 11 O zS hS (zB 12 O (yr O O (xA V)) hS (zq 4 9 ?_ ?_)))))))))))
    ·refine zl 4 O hw (kE (l:=(zj m.a l k)) 2 2 k 2 O O qT O O O qN O (zE [0,1,3,4] O qM (fun w' hw hS=>zB 5 O (yr O O (xA V)) hS (zJ 9 O hw (kE (l:=(zj m.a l k)) 2 2 k 1 O O qT O O O qN O (zE [0,1,3,4] O qM (fun w' hw hS=>zB 10 O (xl (c:=(((zG (zj m.a l k) k).2.next - 1:Nat):Int)) O O (ws (a:=(zG (zj m.a l k) k).2.next) (b:=1) V V)) hS (zB 13 O (zFk (c:=((min ((zG (zj m.a l k) k).2.next - 1) (x3_+1):Nat):Int)) O O (zNc _ _)) hS (zB 14 O (zGP (c:=((max ((((zG (zj m.a l k) k).2).qy)+1) (min ((zG (zj m.a l k) k).2.next - 1) (x3_+1)):Nat):Int)) O O (zFE _ _)) hS (zB 15 O (zO O) hS (zB 16 O (zH (o:=1) O) hS (zJ 17 O hw ?_))))))))))))
     refine z4 [z7 cb t (pt ld) a r b yv jb qe (pt ob),Res.nl b lv es,Res.ou ob o,Res.row b5 59 (MsgD.cells m),yP ld ({l with qa:=zj m.a l k,av:=av',qf:=l.qf++[(zG l.qa k).2.id]}:LdD),vP l.pv (zj m.a l k),sP (zj m.a l k),vI av' (l.qf++[(zG l.qa k).2.id]),vT l.rv l.qd,vL l.kv l.qj] (fun w' hw=>hw.qn 2 O) ?_
     refine z4 [z7 cb t (pt ld) a r b yv jb qe (pt ob),Res.nl b lv es,Res.ou ob o,Res.row b5 59 (MsgD.cells m),yP ld ({l with qa:=zj m.a l k,av:=av',qf:=l.qf++[(zG l.qa k).2.id]}:LdD),vP l.pv (zj m.a l k),vI av' (l.qf++[(zG l.qa k).2.id]),vT l.rv l.qd,vL l.kv l.qj,kF ((zG (zj m.a l k) k).1) ((zG (zj m.a l k) k).2),sP ((zj m.a l k).eraseIdx k)] (fun w' hw=>hw.qI (g:=PeerP.dres) (l:=(zj m.a l k)) 6 k qT O) ?_
     refine zn (cs:=(PeerM.cells ((zG (zj m.a l k) k).2))) 9 O O O O O (zE [0,1,2,3] O qM (fun w' hw hS=>zT ?_))
     refine Oc11 ?_ hw
     refine yt (fun(pb:Nat)=>[(0,pt cb),(1,pt pb)]) (fun(pb:Nat)=>pb=(zG (z5 (zj m.a l k) k (ko (es.map EntD.toEntA) m.a (zG (zj m.a l k) k).2)) k).1) (fun(pb:Nat)=>[z7 cb t (pt ld) a r b yv jb qe (pt ob),Res.nl b lv es,Res.ld ld ({l with qa:=z5 (zj m.a l k) k (ko (es.map EntD.toEntA) m.a (zG (zj m.a l k) k).2),av:=av',qf:=l.qf++[(zG l.qa k).2.id]}:LdD),Res.ou ob o]) ?_ (fun pb g hΦ=> ?_)
     ·refine zV (zD O (zD O (zb O O (zK (o:=6) O O (zn 9 O O O O O (zb O O (zK (o:=4) O O (zn 9 O O O O O ?_))))))))
      exact zg (fun w' hw=>⟨(zG (zj m.a l k) k).1,⟨O,O,trivial⟩,(kX V).symm,(by rw[show ko (es.map EntD.toEntA) m.a (zG (zj m.a l k) k).2={(zG (zj m.a l k) k).2 with next:=max ((zG (zj m.a l k) k).2.qy+1) (min ((zG (zj m.a l k) k).2.next - 1) (x3_+1)),opn:=false,qx:=0}from by unfold ko;rw[show(LogA.mk 0 0 (es.map EntD.toEntA)).hint m.a.index m.a.ql=_ from hf9_8]];exact((hw.peerIn 9 10 5 k ({((zG (zj m.a l k) k).2)with next:=max ((((zG (zj m.a l k) k).2).qy)+1) (min ((zG (zj m.a l k) k).2.next - 1) (x3_+1)),qx:=0,opn:=false}:PeerM) qT qM rfl rfl rfl).qo [4,8,9,5,6,7] rfl qM).sel [0,1,4,2] rfl qM)⟩)
     subst hΦ
     refine zV (zD O (zD O (a_call O O (fun w' hw=>(zB6 cb jb t a r b yv qe _ _ ld ({l with qa:=z5 (zj m.a l k) k (ko (es.map EntD.toEntA) m.a (zG (zj m.a l k) k).2),av:=av',qf:=l.qf++[(zG l.qa k).2.id]}:LdD) ob _ k false w' ‹_› qO qO (by show k<(z5 (zj m.a l k) k _).length;rw[xG];omega) qO (by show(zG (z5 (zj m.a l k) k _) k).2.bd _;rw[xL V];exact zGN hbd1) qP (hw.give [0,1,2,3] O qM)).mono ?_))))
     rintro _ w1 ⟨mv'5_,ms6_,rfl,hf12_2,hO⟩
     refine O4 ?_ (hw.qh [0,1,2,3] O hO)
     exact zg (fun w' hw=>⟨(xy a t b.vs (es.map EntD.toEntA) l k r.qc m.a),mv'5_,ms6_,⟨O,trivial⟩,⟨O,by rw[hX,hf12_2,xL V]⟩,(by rw[hX];rw[xL V,jw V]at hw;exact hw)⟩)
    refine zl 9 O hw (kE (l:=(zj m.a l k)) 2 2 k 1 O O qT O O O qN O (zE [0,1,3,4] O qM (fun w' hw hS=>zB 10 O (xl (c:=(((zG (zj m.a l k) k).2.next - 1:Nat):Int)) O O (ws (a:=(zG (zj m.a l k) k).2.next) (b:=1) V V)) hS (zB 13 O (zFk (c:=((min ((zG (zj m.a l k) k).2.next - 1) (x3_+1):Nat):Int)) O O (zNc _ _)) hS (zJ 4 O hw (kE (l:=(zj m.a l k)) 2 2 k 2 O O qT O O O qN O (zE [0,1,3,4] O qM (fun w' hw hS=>zB 5 O (yr O O (xA V)) hS (zB 14 O (zGP (c:=((max ((((zG (zj m.a l k) k).2).qy)+1) (min ((zG (zj m.a l k) k).2.next - 1) (x3_+1)):Nat):Int)) O O (zFE _ _)) hS (zB 15 O (zO O) hS (zB 16 O (zH (o:=1) O) hS (zJ 17 O hw ?_))))))))))))
    refine z4 [z7 cb t (pt ld) a r b yv jb qe (pt ob),Res.nl b lv es,Res.ou ob o,Res.row b5 59 (MsgD.cells m),yP ld ({l with qa:=zj m.a l k,av:=av',qf:=l.qf++[(zG l.qa k).2.id]}:LdD),vP l.pv (zj m.a l k),sP (zj m.a l k),vI av' (l.qf++[(zG l.qa k).2.id]),vT l.rv l.qd,vL l.kv l.qj] (fun w' hw=>hw.qn 2 O) ?_
    refine z4 [z7 cb t (pt ld) a r b yv jb qe (pt ob),Res.nl b lv es,Res.ou ob o,Res.row b5 59 (MsgD.cells m),yP ld ({l with qa:=zj m.a l k,av:=av',qf:=l.qf++[(zG l.qa k).2.id]}:LdD),vP l.pv (zj m.a l k),vI av' (l.qf++[(zG l.qa k).2.id]),vT l.rv l.qd,vL l.kv l.qj,kF ((zG (zj m.a l k) k).1) ((zG (zj m.a l k) k).2),sP ((zj m.a l k).eraseIdx k)] (fun w' hw=>hw.qI (g:=PeerP.dres) (l:=(zj m.a l k)) 6 k qT O) ?_
    refine zn (cs:=(PeerM.cells ((zG (zj m.a l k) k).2))) 9 O O O O O (zE [0,1,2,3] O qM (fun w' hw hS=>zT ?_))
    refine Oc11 ?_ hw
    refine yt (fun(pb:Nat)=>[(0,pt cb),(1,pt pb)]) (fun(pb:Nat)=>pb=(zG (z5 (zj m.a l k) k (ko (es.map EntD.toEntA) m.a (zG (zj m.a l k) k).2)) k).1) (fun(pb:Nat)=>[z7 cb t (pt ld) a r b yv jb qe (pt ob),Res.nl b lv es,Res.ld ld ({l with qa:=z5 (zj m.a l k) k (ko (es.map EntD.toEntA) m.a (zG (zj m.a l k) k).2),av:=av',qf:=l.qf++[(zG l.qa k).2.id]}:LdD),Res.ou ob o]) ?_ (fun pb g hΦ=> ?_)
    ·refine zV (zD O (zD O (zb O O (zK (o:=6) O O (zn 9 O O O O O (zb O O (zK (o:=4) O O (zn 9 O O O O O ?_))))))))
     exact zg (fun w' hw=>⟨(zG (zj m.a l k) k).1,⟨O,O,trivial⟩,(kX V).symm,(by rw[show ko (es.map EntD.toEntA) m.a (zG (zj m.a l k) k).2={(zG (zj m.a l k) k).2 with next:=max ((zG (zj m.a l k) k).2.qy+1) (min ((zG (zj m.a l k) k).2.next - 1) (x3_+1)),opn:=false,qx:=0}from by unfold ko;rw[show(LogA.mk 0 0 (es.map EntD.toEntA)).hint m.a.index m.a.ql=_ from hf9_8]];exact((hw.peerIn 9 10 5 k ({((zG (zj m.a l k) k).2)with next:=max ((((zG (zj m.a l k) k).2).qy)+1) (min ((zG (zj m.a l k) k).2.next - 1) (x3_+1)),qx:=0,opn:=false}:PeerM) qT qM rfl rfl rfl).qo [4,8,9,5,6,7] rfl qM).sel [0,1,4,2] rfl qM)⟩)
    subst hΦ
    refine zV (zD O (zD O (a_call O O (fun w' hw=>(zB6 cb jb t a r b yv qe _ _ ld ({l with qa:=z5 (zj m.a l k) k (ko (es.map EntD.toEntA) m.a (zG (zj m.a l k) k).2),av:=av',qf:=l.qf++[(zG l.qa k).2.id]}:LdD) ob _ k false w' ‹_› qO qO (by show k<(z5 (zj m.a l k) k _).length;rw[xG];omega) qO (by show(zG (z5 (zj m.a l k) k _) k).2.bd _;rw[xL V];exact zGN hbd1) qP (hw.give [0,1,2,3] O qM)).mono ?_))))
    rintro _ w1 ⟨mv'7_,ms8_,rfl,hf12_2,hO⟩
    refine O4 ?_ (hw.qh [0,1,2,3] O hO)
    exact zg (fun w' hw=>⟨(xy a t b.vs (es.map EntD.toEntA) l k r.qc m.a),mv'7_,ms8_,⟨O,trivial⟩,⟨O,by rw[hX,hf12_2,xL V]⟩,(by rw[hX];rw[xL V,jw V]at hw;exact hw)⟩)
   refine yb qN qN (zL O (zH (o:=0) O) (zL O (zY 4 (v:=Vi m.kind) O O O) (zL O (zCq O O) (zL O zS (zCM (q:=m.kind=8) 8 3 [149,148,147,146,145,144,143,142] (((m.index:Nat):Int)=((0:Nat):Int)) O O O O O O trivial O (fun h13_3=> ?_) (fun g13_12=> ?_))))))
   ·refine ym O (gT h13_3) (zL O (zH (o:=4) O) (ym O (gT h13_3) (zL O (zY 4 (v:=Vn m.index) O O O) (ym O (gT h13_3) (zL O zS (ym O (gT h13_3) (zL O (zO O) (ym O (gT h13_3) (zL O (zH (o:=24) O) (ym O (gT h13_3) (zL O (zH (o:=0) O) (ym O (gT h13_3) ?_))))))))))))
    refine zL O (zY 0 (v:=Vn 0) O O O) (ym O (gT h13_3) (zL O (zCq O O) ?_))
    exact zEC O
   refine zL O yO (xi (za O (fun c4=> ?_) (fun c4=> ?_)))
   ·have hX:=zPq (a:=a) (t:=t) (vs0:=b.vs) (E:=es.map EntD.toEntA) (l:=l) (k:=k) (qc:=r.qc) (m:=m.a) (by show ¬ m.kind=6;omega) ⟨c4.1,by show m.index=0;omega⟩
    refine zC (zD O (zD O (zK (o:=12) O O (zM 4 (v:=Vi m.off) O O O O (zb O O (zK (o:=5) O O ?_))))))
    refine z4 [z7 cb t (pt ld) a r b yv jb qe (pt ob),Res.nl b lv es,Res.ou ob o,Res.row b5 59 (MsgD.cells m),yP ld ({l with qa:=zj m.a l k,av:=av',qf:=l.qf++[(zG l.qa k).2.id]}:LdD),vP l.pv (zj m.a l k),sP (zj m.a l k),vI av' (l.qf++[(zG l.qa k).2.id]),vT l.rv l.qd,vL l.kv l.qj] (fun w' hw=>hw.qn 2 O) ?_
    refine z4 [z7 cb t (pt ld) a r b yv jb qe (pt ob),Res.nl b lv es,Res.ou ob o,Res.row b5 59 (MsgD.cells m),yP ld ({l with qa:=zj m.a l k,av:=av',qf:=l.qf++[(zG l.qa k).2.id]}:LdD),vP l.pv (zj m.a l k),vI av' (l.qf++[(zG l.qa k).2.id]),vT l.rv l.qd,vL l.kv l.qj,kF ((zG (zj m.a l k) k).1) ((zG (zj m.a l k) k).2),sP ((zj m.a l k).eraseIdx k)] (fun w' hw=>hw.qI (g:=PeerP.dres) (l:=(zj m.a l k)) 6 k qT O) ?_
    refine zn (cs:=(PeerM.cells ((zG (zj m.a l k) k).2))) 9 O O O O O (zb O O (zK (o:=8) O O (zn 9 O O O O O (zA (yb qN qN (zL O zS (zL O (zO O) (zL O (zH (o:=1) O) (zL O (zY 9 (v:=Vn (((zG (zj m.a l k) k).2).next)) O O O) (zL O zS (zL O (zO O) (zL O (zH (o:=24) O) ?_))))))))))))
    refine zL O (zH (o:=0) O) (zL O (zY 0 (v:=Vn 0) O O O) (zL O (zIi O O) (xi (za O (fun c5=> ?_) (fun c5=> ?_)))))
    ·exact absurd c5 V
    exact yZ (fun w' hw=>⟨(xy a t b.vs (es.map EntD.toEntA) l k r.qc m.a),o.mv,[],⟨O,trivial⟩,⟨O,by rw[hX];rfl⟩,(by rw[hX,List.append_nil];exact((hw.peerIn 9 10 5 k ({((zG (zj m.a l k) k).2)with off:=m.off,asked:=false}:PeerM) qT qM rfl rfl rfl).qo [4,8,9,5,6,7] rfl qM).sel [0,1,4,2] rfl qM)⟩)
   have hX:=zLJ (a:=a) (t:=t) (vs0:=b.vs) (E:=es.map EntD.toEntA) (l:=l) (k:=k) (qc:=r.qc) (m:=m.a) (fun q=>c2 ⟨⟨q.1,q.2.1⟩,by have:=q.2.2;rw[List.length_map]at this;have h3:m.index≤es.length:=this;omega⟩) (fun q=>c3 ⟨⟨q.1,by rw[show m.flag=false from q.2.1];rfl⟩,by have h3:m.index<_:=q.2.2;omega⟩) (fun q=>c4 ⟨q.1,by have h3:m.index=0:=q.2;omega⟩)
   exact yZ (fun w' hw=>⟨(xy a t b.vs (es.map EntD.toEntA) l k r.qc m.a),o.mv,[],⟨O,trivial⟩,⟨O,by rw[hX];rfl⟩,(by rw[hX,List.append_nil,zCJ V];exact hw.sel [0,1,2,3] rfl qM)⟩)
  have hx:=hΦ.1
  refine zV (zD O (a_call O O (fun w' hw=>(zOt cb jb t a ({r with qc:=x.qc}:RolD) b yv qe _ _ ld ({l with qa:=z5 (zj m.a l k) k x.p,av:=av',qf:=l.qf++[(zG l.qa k).2.id],qB:=x.qB}:LdD) ob ({o with mv:=mv',qk:=o.qk++ms}:OutD) w' ‹_› qO qO (by show(z5 (zj m.a l k) k x.p).length≤_;rw[xG];omega) qP qS (by show ∀ p∈z5 (zj m.a l k) k x.p,p.2.round≤l.qd.length;refine zBp (P:=fun p=>p.round≤l.qd.length) (zGb hk hpr) ?_;rw[hx,zHc];exact zGb hk hpr _ (zd V)) qP qP (hw.give [0,1,2,3] O qM)).mono ?_)))
  rintro _ w1 ⟨rv'9_,kv'10_,rfl,hO⟩
  refine O4 ?_ (hw.qh [0,1,2,3] O hO)
  exact zg (yQ O (fun w' hw=>⟨mv',rv'9_,av',kv'10_,ms,O,(by rw[hΦ.2,hx]),(by rw[←hx];exact hw)⟩))
end Go.Proofs.YtkkeknmkipkbmaaGreat
