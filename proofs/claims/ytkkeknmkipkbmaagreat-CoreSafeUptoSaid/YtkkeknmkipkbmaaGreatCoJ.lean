import Derived.Test.YtkkeknmkipkbmaaGreatCoI
set_option linter.unusedSectionVars false
set_option linter.unusedSimpArgs false
set_option linter.unusedVariables false
set_option maxRecDepth 10000
namespace Go.Proofs.YtkkeknmkipkbmaaGreat
open Go Go.Sc Go.Proofs
structure AnsR where
  qc:Nat
  p:PeerM
  qC:Bool
  ms:List MsgA
def j3(m:MsgA)(qf:Nat)(p:PeerM):PeerM:={p with told:=true,round:=if m.round≤qf then max p.round m.round else p.round}
def kc(E:List EntA)(m:MsgA)(p:PeerM):PeerM:={p with next:=max (p.qy+1) (min (p.next - 1) (((LogA.mk 0 0 E).hint m.index m.qm).1+1)),opn:=false,qw:=0}
def zh(m:MsgA)(l:LdD)(k:Nat):List PeerP:=zx l.qa k (j3 m l.qf.length (zG l.qa k).2)
def xl(a:StA)(t:TimD)(vs0:List Int)(E:List EntA)(l:LdD)(k qc:Nat)(m:MsgA):AnsR:=
  if m.kind=6∧m.flag=true∧m.index≤E.length then
    ⟨yU a t.term vs0 E (zx (zh m l k) k (yx m.index (zG (zh m l k) k).2)) qc,ym E (yx m.index (zG (zh m l k) k).2),if y3 l (yx m.index (zG (zh m l k) k).2) E.length false then true else l.qC,jz a t.term (y3 l (yx m.index (zG (zh m l k) k).2) E.length false) (yx m.index (zG (zh m l k) k).2)++xF a t.term (yU a t.term vs0 E (zx (zh m l k) k (yx m.index (zG (zh m l k) k).2)) qc) l.qf.length E (yx m.index (zG (zh m l k) k).2) false⟩
  else if m.kind=6∧m.flag=false∧m.index<(zG (zh m l k) k).2.next then⟨qc,ym E (kc E m (zG (zh m l k) k).2),l.qC,xF a t.term qc l.qf.length E (kc E m (zG (zh m l k) k).2) false⟩
  else if m.kind=8∧m.index=0 then⟨qc,{(zG (zh m l k) k).2 with off:=m.off,asked:=false},l.qC,[]⟩
  else⟨qc,(zG (zh m l k) k).2,l.qC,[]⟩
theorem zKu{a:StA}{t:TimD}{vs0:List Int}{E:List EntA}{l:LdD}{k qc:Nat}{m:MsgA}(h:m.kind=6∧m.flag=true∧m.index≤E.length):xl a t vs0 E l k qc m=⟨yU a t.term vs0 E (zx (zh m l k) k (yx m.index (zG (zh m l k) k).2)) qc,ym E (yx m.index (zG (zh m l k) k).2),if y3 l (yx m.index (zG (zh m l k) k).2) E.length false then true else l.qC,jz a t.term (y3 l (yx m.index (zG (zh m l k) k).2) E.length false) (yx m.index (zG (zh m l k) k).2)++xF a t.term (yU a t.term vs0 E (zx (zh m l k) k (yx m.index (zG (zh m l k) k).2)) qc) l.qf.length E (yx m.index (zG (zh m l k) k).2) false⟩:=if_pos h
theorem zKe{a:StA}{t:TimD}{vs0:List Int}{E:List EntA}{l:LdD}{k qc:Nat}{m:MsgA}(h:¬(m.kind=6∧m.flag=true∧m.index≤E.length))(h2:m.kind=6∧m.flag=false∧m.index<(zG (zh m l k) k).2.next):xl a t vs0 E l k qc m=⟨qc,ym E (kc E m (zG (zh m l k) k).2),l.qC,xF a t.term qc l.qf.length E (kc E m (zG (zh m l k) k).2) false⟩:=by unfold xl;rw[if_neg h,if_pos h2]
theorem zPe{a:StA}{t:TimD}{vs0:List Int}{E:List EntA}{l:LdD}{k qc:Nat}{m:MsgA}(h:¬ m.kind=6)(h3:m.kind=8∧m.index=0):xl a t vs0 E l k qc m=⟨qc,{(zG (zh m l k) k).2 with off:=m.off,asked:=false},l.qC,[]⟩:=by unfold xl;rw[if_neg (fun q=>h q.1),if_neg (fun q=>h q.1),if_pos h3]
theorem zLn{a:StA}{t:TimD}{vs0:List Int}{E:List EntA}{l:LdD}{k qc:Nat}{m:MsgA}(h:¬(m.kind=6∧m.flag=true∧m.index≤E.length))(h2:¬(m.kind=6∧m.flag=false∧m.index<(zG (zh m l k) k).2.next))(h3:¬(m.kind=8∧m.index=0)):xl a t vs0 E l k qc m=⟨qc,(zG (zh m l k) k).2,l.qC,[]⟩:=by unfold xl;rw[if_neg h,if_neg h2,if_neg h3]
theorem zFu{E:List EntA}(hf:folA 0 0 E){k u:Nat}:∀ n,n≤E.length→((LogA.mk 0 0 E).hintN k u n).1≤E.length
  |0,_=>Nat.zero_le _
  |n+1,h=>by
    unfold LogA.hintN
    have h1:=folA.idx hf n V
    split
    · show(zG E n).index≤_;omega
    exact zFu hf n V
theorem zMm{E:List EntA}(hf:folA 0 0 E){k u:Nat}:((LogA.mk 0 0 E).hint k u).1≤E.length:=zFu hf _ (Nat.le_refl _)
theorem zIN{n N:Nat}{m:MsgA}{p:PeerM}(h:p.bd n):(j3 m N p).bd n:=⟨h.next,h.qy,h.qw⟩
theorem zFb{n:Nat}{E:List EntA}{m:MsgA}{p:PeerM}(h:p.bd n):(kc E m p).bd n:=by
  have h1:=h.next;have h2:=h.qy
  refine⟨?_,h.qy,⟨Int.le_refl 0,by show(0:Int)≤4;omega⟩⟩
  show 1≤max (p.qy+1) (min (p.next - 1) _)∧max (p.qy+1) (min (p.next - 1) _)≤n+1
  omega
theorem zFn{m:MsgA}{l:LdD}{k:Nat}(hk:k<l.qa.length)(h:∀ p∈l.qa,p.2.round≤l.qf.length):∀ p∈zh m l k,p.2.round≤l.qf.length:=by
  refine zBP (P:=fun p=>p.round≤l.qf.length) h ?_
  have h1:=h _ (ze hk)
  show(if m.round≤l.qf.length then max (zG l.qa k).2.round m.round else(zG l.qa k).2.round)≤_
  split<;>omega
theorem zHH{a:StA}{t:TimD}{vs0:List Int}{E:List EntA}{l:LdD}{k qc:Nat}{m:MsgA}:(xl a t vs0 E l k qc m).p.round=(zG (zh m l k) k).2.round:=by
  have h1:∀ p:PeerM,(ym E p).round=p.round:=fun p=>by unfold ym;split<;>rfl
  unfold xl
  split
  · exact h1 _
  split
  · exact h1 _
  split<;>rfl
theorem zKZ{S:List Nat}(cb jb:Nat)(t:TimD)(a:StA)(r:RolD)(b:StB)(yv:Value)(qd:Nat)(lv:Value)(es:List EntD)(ld:Nat)(l:LdD)(ob:Nat)(o:OutD)(k:Nat)(m:MsgD)(w:World)(hg:(LG 0 0 es).good)(hl:es.length≤1000000)(hvl:b.vs.length≤12)(hpl:l.qa.length≤1000)(hk:k<l.qa.length)(ho:o.qj.length≤1000)(hp:∀ p∈l.qa,p.2.bd 1000000)(hr:l.qf.length≤1000000)(hcl:(zc b.vs (es.map EntD.toEntA)).vs.length≤12)(hpr:∀ p∈l.qa,p.2.round≤l.qf.length)(hlk:l.qk.length≤10000)(hrd:o.qx.length≤10000)(han:l.qe.length≤1000000)(hin:Own w S [z4 cb t (pt ld) a r b yv jb qd (pt ob),Res.nl b lv es,Res.ld ld l,Res.ou ob o] w)(rd_m:MsgD.rd m w S):Rets Tryz.prog 136 #[pt cb,pt ((zG l.qa k).1), .agg (MsgD.cells m).toArray] w fun u_ w'=>∃ (mv' rv' av' kv':Value) (ms:List MsgD),u_= .tuple #[]∧ms.map MsgD.a=(xl a t b.vs (es.map EntD.toEntA) l k r.qc m.a).ms∧Own w S [z4 cb (xu (xU a b.vs (es.map EntD.toEntA) (zx (zh m.a l k) k (xl a t b.vs (es.map EntD.toEntA) l k r.qc m.a).p) l.qf l.sure) l.qf t) (pt ld) a ({r with qc:=(xl a t b.vs (es.map EntD.toEntA) l k r.qc m.a).qc}:RolD) b yv jb qd (pt ob),Res.nl b lv es,Res.ld ld (ko (xU a b.vs (es.map EntD.toEntA) (zx (zh m.a l k) k (xl a t b.vs (es.map EntD.toEntA) l k r.qc m.a).p) l.qf l.sure) kv' {l with qa:=(zx (zh m.a l k) k (xl a t b.vs (es.map EntD.toEntA) l k r.qc m.a).p),av:=av',qe:=l.qe++[(zG l.qa k).2.id],qC:=(xl a t b.vs (es.map EntD.toEntA) l k r.qc m.a).qC}),Res.ou ob (zAL (xU a b.vs (es.map EntD.toEntA) (zx (zh m.a l k) k (xl a t b.vs (es.map EntD.toEntA) l k r.qc m.a).p) l.qf l.sure) rv' l.qk {o with mv:=mv',qj:=o.qj++ms})] w':=by
  have hbd:=hp _ (ze hk)
  have hbn:=hbd.next
  have hl1:(es.map EntD.toEntA).length=es.length:=List.length_map _
  have hpn:(zG (zh m.a l k) k).2=j3 m.a l.qf.length (zG l.qa k).2:=xG hk
  have hpl1:(zh m.a l k).length=l.qa.length:=xA
  have hbd1:(zG (zh m.a l k) k).2.bd 1000000:=by rw[hpn];exact zIN hbd
  have hb1:=hbd1.next
  have hb1m:=hbd1.qy
  have hfl:folA 0 0 (es.map EntD.toEntA):=hg.fol
  refine zW Tryz.func136 O Tryz.ntmps136 hin ?_
  refine zB (z3 O O (fun b5=>zA (yt (fun(av':Value)=>[(0,pt cb),(1,pt ((zG l.qa k).1)),(5,pt b5)]) (fun(av':Value)=>True) (fun(av':Value)=>[z4 cb t (pt ld) a r b yv jb qd (pt ob),Res.nl b lv es,Res.ld ld ({l with av:=av',qe:=l.qe++[(zG l.qa k).2.id]}:LdD),Res.ou ob o,Res.row b5 59 (MsgD.cells m)]) ?_ (fun av' g hΦ=> ?_))))
  ·refine zg [0,1,3,4] O qM qN (fun w' hw hS=>zC 0 O zT hS (zC 1 O (zQ O) hS (zC 2 O (zH (o:=9) O) hS (zC 3 O (zZ 0 (v:=pt ld) O O O) hS (zC 4 O zT hS (zC 5 O (zQ O) hS (zC 6 O (zH (o:=9) O) hS (zC 7 O (zZ 0 (v:=pt ld) O O O) hS (zC 8 O (zQ O) hS (zC 9 O (zH (o:=1) O) hS (zC 11 O zT hS (zC 12 O (zQ O) hS ?_))))))))))))
   refine zC 13 O (zH (o:=0) O) hS (zu 10 14 ?_ ?_)
   ·refine zm 10 O hw (yC (v:=l.av) 2 0 1 O O O O qN O (zE [0,1,3,4] O qM (fun w' hw hS=>zK 14 O hw (x0 (l:=l.qa) 2 2 k 0 O O qT O O O qN O (zE [0,1,3,4] O qM (fun w' hw hS=>zK 15 O hw (zy (e:=3) (sz:=1) (vs:=[Vi (((zG l.qa k).2).id)]) qN O O qR qM O (fun b25=>zE [0,1,3,4] O qM (fun w' hw hS=>zK 16 O hw ?_)))))))))
    refine z2 [z4 cb t (pt ld) a r b yv jb qd (pt ob),Res.nl b lv es,Res.ou ob o,Res.row b5 59 (MsgD.cells m),vI (.slice (some ⟨b25,0,none⟩) 1 1) [((zG l.qa k).2).id],yN ld l,vP l.pv l.qa,sP l.qa,vI l.av l.qe,vT l.rv l.qf,vL l.kv l.qk] (fun w' hw=>hw.qn 2 O) ?_
    refine z7 (g:=I1) (sz:=1) (by':=8) (fun _=>O) (l:=l.qe) (l':=[((zG l.qa k).2).id]) qV 8 qN O O O (fun w' hw'=>Vec.sl (Own.holds hw' 4 _ O)) qO qM O (fun v26=>zE [0,1,2,3] O qM (fun w' hw hS=>zC 17 O (zQ O) hS (zC 18 O (zH (o:=1) O) hS (zK 19 O hw ?_))))
    refine zP (fun w' hw=>Own.qh (i:=8) O hw) (fun hc1_=> ?_)
    refine zn (cs:=(LdD.cells l)) 5 O O O hc1_ O (zE [0,1,2,3] O qM (fun w' hw hS=>zU ?_))
    exact⟨v26,⟨O,O,O,trivial⟩,trivial,(hw.qo [5,6,7,8,9,10] O qM).sel [0,1,5,2,3] O qM⟩
   refine zm 14 O hw (x0 (l:=l.qa) 2 2 k 0 O O qT O O O qN O (zE [0,1,3,4] O qM (fun w' hw hS=>zu 10 15 ?_ ?_)))
   ·refine zm 10 O hw (yC (v:=l.av) 2 0 1 O O O O qN O (zE [0,1,3,4] O qM (fun w' hw hS=>zK 15 O hw (zy (e:=3) (sz:=1) (vs:=[Vi (((zG l.qa k).2).id)]) qN O O qR qM O (fun b25=>zE [0,1,3,4] O qM (fun w' hw hS=>zK 16 O hw ?_))))))
    refine z2 [z4 cb t (pt ld) a r b yv jb qd (pt ob),Res.nl b lv es,Res.ou ob o,Res.row b5 59 (MsgD.cells m),vI (.slice (some ⟨b25,0,none⟩) 1 1) [((zG l.qa k).2).id],yN ld l,vP l.pv l.qa,sP l.qa,vI l.av l.qe,vT l.rv l.qf,vL l.kv l.qk] (fun w' hw=>hw.qn 2 O) ?_
    refine z7 (g:=I1) (sz:=1) (by':=8) (fun _=>O) (l:=l.qe) (l':=[((zG l.qa k).2).id]) qV 8 qN O O O (fun w' hw'=>Vec.sl (Own.holds hw' 4 _ O)) qO qM O (fun v26=>zE [0,1,2,3] O qM (fun w' hw hS=>zC 17 O (zQ O) hS (zC 18 O (zH (o:=1) O) hS (zK 19 O hw ?_))))
    refine zP (fun w' hw=>Own.qh (i:=8) O hw) (fun hc2_=> ?_)
    refine zn (cs:=(LdD.cells l)) 5 O O O hc2_ O (zE [0,1,2,3] O qM (fun w' hw hS=>zU ?_))
    exact⟨v26,⟨O,O,O,trivial⟩,trivial,(hw.qo [5,6,7,8,9,10] O qM).sel [0,1,5,2,3] O qM⟩
   refine zm 15 O hw (zy (e:=3) (sz:=1) (vs:=[Vi (((zG l.qa k).2).id)]) qN O O qR qM O (fun b25=>zE [0,1,3,4] O qM (fun w' hw hS=>zK 10 O hw (yC (v:=l.av) 2 0 1 O O O O qN O (zE [0,1,3,4] O qM (fun w' hw hS=>zK 16 O hw ?_))))))
   refine z2 [z4 cb t (pt ld) a r b yv jb qd (pt ob),Res.nl b lv es,Res.ou ob o,Res.row b5 59 (MsgD.cells m),vI (.slice (some ⟨b25,0,none⟩) 1 1) [((zG l.qa k).2).id],yN ld l,vP l.pv l.qa,sP l.qa,vI l.av l.qe,vT l.rv l.qf,vL l.kv l.qk] (fun w' hw=>hw.qn 2 O) ?_
   refine z7 (g:=I1) (sz:=1) (by':=8) (fun _=>O) (l:=l.qe) (l':=[((zG l.qa k).2).id]) qV 8 qN O O O (fun w' hw'=>Vec.sl (Own.holds hw' 4 _ O)) qO qM O (fun v26=>zE [0,1,2,3] O qM (fun w' hw hS=>zC 17 O (zQ O) hS (zC 18 O (zH (o:=1) O) hS (zK 19 O hw ?_))))
   refine zP (fun w' hw=>Own.qh (i:=8) O hw) (fun hc3_=> ?_)
   refine zn (cs:=(LdD.cells l)) 5 O O O hc3_ O (zE [0,1,2,3] O qM (fun w' hw hS=>zU ?_))
   exact⟨v26,⟨O,O,O,trivial⟩,trivial,(hw.qo [5,6,7,8,9,10] O qM).sel [0,1,5,2,3] O qM⟩
  refine zB (zD O (za O O (zJ (o:=7) O O ?_)))
  refine z2 [z4 cb t (pt ld) a r b yv jb qd (pt ob),Res.nl b lv es,Res.ou ob o,Res.row b5 59 (MsgD.cells m),yN ld ({l with av:=av',qe:=l.qe++[(zG l.qa k).2.id]}:LdD),vP l.pv l.qa,sP l.qa,vI av' (l.qe++[(zG l.qa k).2.id]),vT l.rv l.qf,vL l.kv l.qk] (fun w' hw=>hw.qn 2 O) ?_
  refine z2 [z4 cb t (pt ld) a r b yv jb qd (pt ob),Res.nl b lv es,Res.ou ob o,Res.row b5 59 (MsgD.cells m),yN ld ({l with av:=av',qe:=l.qe++[(zG l.qa k).2.id]}:LdD),vP l.pv l.qa,vI av' (l.qe++[(zG l.qa k).2.id]),vT l.rv l.qf,vL l.kv l.qk,x4 ((zG l.qa k).1) ((zG l.qa k).2),sP (l.qa.eraseIdx k)] (fun w' hw=>hw.qI (g:=PeerP.dres) (l:=l.qa) 6 k qT O) ?_
  refine zn (cs:=(PeerM.cells ((zG l.qa k).2))) 9 O O O O O (zA (yt (fun(pb:Nat)=>[(0,pt cb),(1,pt pb),(5,pt b5)]) (fun(pb:Nat)=>pb=(zG (zh m.a l k) k).1) (fun(pb:Nat)=>[z4 cb t (pt ld) a r b yv jb qd (pt ob),Res.nl b lv es,Res.ld ld ({l with qa:=zh m.a l k,av:=av',qe:=l.qe++[(zG l.qa k).2.id]}:LdD),Res.ou ob o,Res.row b5 59 (MsgD.cells m)]) ?_ (fun pb g hΦ=> ?_)))
  ·refine yX qN qN (zM O (zH (o:=7) O) (zM O (zZ 3 (v:=Vn m.round) O O O) (zM O zT (zM O (zQ O) (zM O (zH (o:=9) O) (zM O (zZ 0 (v:=pt ld) O O O) (zM O (zQ O) (zM O (zH (o:=2) O) (zM O (zZ 4 (v:=l.rv) O O O) (zM O (zAv (pV 7 O) O) (zM O (kV qN O (xO V) qN) (zM O (zH9 O O) ?_))))))))))))
   refine xk (zY O (fun c1=> ?_) (fun c1=> ?_))
   ·refine zg [0,1,2,3,4,5,6,7,8,10] O qM qN (fun w' hw hS=>zC 0 O zT hS (zC 1 O zT hS (zC 2 O (zQ O) hS (zC 3 O (zH (o:=3) O) hS (zC 5 O (zH (o:=7) O) hS (zC 6 O (zZ 3 (v:=Vn m.round) O O O) hS (zK 4 O hw (zL 9 (v:=Vn (((zG l.qa k).2).round)) O O O O (zE [0,1,2,3,4,5,6,7,8,10] O qM (fun w' hw hS=>zC 7 O (zGI (c:=((max (((zG l.qa k).2).round) m.round:Nat):Int)) O O (zEs _ _)) hS (zC 8 O (zQ O) hS (zC 9 O (zH (o:=3) O) hS ?_))))))))))))
    refine zK 10 O hw (zn 9 O O O O O (zE [0,1,2,3,4,5,6,7,8,10] O qM (fun w' hw hS=>zU ?_)))
    exact⟨(zG l.qa k).1,⟨O,O,O,trivial⟩,(kQ hk).symm,(by rw[show(zh m.a l k)=zx l.qa k {(zG l.qa k).2 with round:=max (zG l.qa k).2.round m.round,told:=true}from by unfold zh j3;rw[if_pos (by show m.round≤_;omega)];rfl];exact((hw.peerIn 9 10 5 k ({((zG l.qa k).2)with round:=max (((zG l.qa k).2).round) m.round,told:=true}:PeerM) qT qM rfl rfl rfl).qo [4,8,9,5,6,7] rfl qM).sel [0,1,4,2,3] rfl qM)⟩
   exact yc (fun w' hw=>⟨(zG l.qa k).1,⟨O,O,O,trivial⟩,(kQ hk).symm,(by rw[show(zh m.a l k)=zx l.qa k {(zG l.qa k).2 with told:=true}from by unfold zh j3;rw[if_neg (by show ¬ m.round≤_;omega)]];exact((hw.peerIn 9 10 5 k ({((zG l.qa k).2)with told:=true}:PeerM) qT qM rfl rfl rfl).qo [4,8,9,5,6,7] rfl qM).sel [0,1,4,2,3] rfl qM)⟩)
  subst hΦ
  refine zB (zD O (za O O (zJ (o:=29) O O (zL 0 (v:=pt b.lb) O O O O (a_call O O (fun w' hw=>(kG b.lb 0 0 lv es w' qP qO (hw.qF 1 0 O O) (hw.qH 1 1 O O) (EntD.rd.qF 1 2 O O hw)).mono ?_))))))
  rintro _ w1 ⟨rfl,hO⟩
  refine O5 ?_ (hw.qi hO)
  refine zD O (z8 (vs:=[Vn (0+es.length),Vn ((LG 0 0 es).end_)]) O O O (z8 (vs:=[Vn (0+es.length),Vn ((LG 0 0 es).end_)]) O O O (zI O (zI O (zA (j1 (fun(x:AnsR) (mv':Value) (ms:List MsgD)=>[(0,pt cb)]) (fun(x:AnsR) (mv':Value) (ms:List MsgD)=>x=(xl a t b.vs (es.map EntD.toEntA) l k r.qc m.a)∧ms.map MsgD.a=x.ms) (fun(x:AnsR) (mv':Value) (ms:List MsgD)=>[z4 cb t (pt ld) a ({r with qc:=x.qc}:RolD) b yv jb qd (pt ob),Res.nl b lv es,Res.ld ld ({l with qa:=zx (zh m.a l k) k x.p,av:=av',qe:=l.qe++[(zG l.qa k).2.id],qC:=x.qC}:LdD),Res.ou ob ({o with mv:=mv',qj:=o.qj++ms}:OutD)]) ?_ (fun x mv' ms g hΦ=> ?_)))))))
  ·refine zX (zB (zJ (o:=0) O O (zL 4 (v:=Vi m.kind) O O O O (yQ O O O (zD O (yK (q:=m.kind=6) 2 3 [68,67] (m.flag=true) O O O O O O trivial O (fun h6_3=> ?_) (fun g6_6=> ?_)))))))
   ·refine zR O (gT h6_3) (zJ (o:=8) O O (zR O (gT h6_3) (zL 4 (v:= .bool m.flag) O O O O ?_)))
    exact yP (xZ _) (fun _ hw=>hw)
   refine zD O (yK (q:=(m.kind=6)∧(m.flag=true)) 4 7 [74,73,72,71] (((m.index:Nat):Int)≤((0+es.length:Nat):Int)) O O O O O O trivial O (fun h6_7=> ?_) (fun g6_12=> ?_))
   ·refine zR O (gT h6_7) (zJ (o:=4) O O (zR O (gT h6_7) (zL 4 (v:=Vn m.index) O O O O (zR O (gT h6_7) (zD O (zR O (gT h6_7) (xp O O O ?_)))))))
    exact yP O (fun _ hw=>hw)
   refine zI O (zA (zY O (fun c2=> ?_) (fun c2=> ?_)))
   ·have hX:=zKu (a:=a) (t:=t) (vs0:=b.vs) (E:=es.map EntD.toEntA) (l:=l) (k:=k) (qc:=r.qc) (m:=m.a) ⟨c2.1.1,c2.1.2,by show m.index≤_;omega⟩
    rw[hl1]at hX
    have hbA:∀ p∈(zh m.a l k),p.2.bd 1000000:=zBP (P:=fun p=>p.bd 1000000) hp (zIN hbd)
    refine zS (zD O (zD O (zJ (o:=4) O O (zL 4 (v:=Vn m.index) O O O O (a_call O O (fun w' hw=>(zQA cb jb t a r b yv qd _ _ ld ({l with qa:=zh m.a l k,av:=av',qe:=l.qe++[(zG l.qa k).2.id]}:LdD) ob _ k m.index w' ‹_› qO qO (by show(zh m.a l k).length≤_;omega) (by show k<(zh m.a l k).length;omega) qO hbA qP qS V (hw.give [0,1,2,3] O qM)).mono ?_))))))
    rintro _ w1 ⟨mv'1_,ms2_,rfl,hf7_4,hO⟩
    refine O5 ?_ (hw.qg [0,1,2,3] O hO)
    exact zd (fun w' hw=>⟨(xl a t b.vs (es.map EntD.toEntA) l k r.qc m.a),mv'1_,ms2_,⟨O,trivial⟩,⟨O,by rw[hX];exact hf7_4⟩,(by rw[hX];exact hw.sel [1,2,3,4] rfl qM)⟩)
   refine yX qN qN (zM O (zH (o:=0) O) (zM O (zZ 4 (v:=Vi m.kind) O O O) (zM O (zDd O O) (zM O zT (zCk (q:=m.kind=6) 3 3 [88,87,86] ((!m.flag)=true) O O O O O O trivial O (fun h8_3=> ?_) (fun g8_7=> ?_))))))
   ·refine yu O (gT h8_3) (zM O (zH (o:=8) O) (yu O (gT h8_3) (zM O (zZ 4 (v:= .bool m.flag) O O O) (yu O (gT h8_3) (zM O (zEL (b:=m.flag) O) ?_)))))
    exact zEw (xZ _)
   refine zM O zT (zCk (q:=(m.kind=6)∧((!m.flag)=true)) 7 8 [97,96,95,94,93,92,91] (((m.index:Nat):Int)<((((zG (zh m.a l k) k).2).next:Nat):Int)) O O O O O O trivial O (fun h8_8=> ?_) (fun g8_16=> ?_))
   ·refine yu O (gT h8_8) (zM O (zH (o:=4) O) (yu O (gT h8_8) (zM O (zZ 4 (v:=Vn m.index) O O O) (yu O (gT h8_8) (zM O zT (yu O (gT h8_8) (zM O (zQ O) (yu O (gT h8_8) (zM O (zH (o:=1) O) (yu O (gT h8_8) (zM O (zAz (l:=(zh m.a l k)) 2 2 k 1 O O qT O O O qN) (yu O (gT h8_8) ?_))))))))))))
    refine zM O (zDR O O) ?_
    exact zEw O
   refine zM O yO (xk (zY O (fun c3=> ?_) (fun c3=> ?_)))
   ·have hX:=zKe (a:=a) (t:=t) (vs0:=b.vs) (E:=es.map EntD.toEntA) (l:=l) (k:=k) (qc:=r.qc) (m:=m.a) (fun q=>by rw[show m.flag=true from q.2.1]at c3;simp at c3) ⟨c3.1.1,by show m.flag=false;simpa using c3.1.2,by show m.index<_;omega⟩
    refine zN (zg [0,1,2,3,4] O qM qN (fun w' hw hS=>zC 0 O zT hS (zC 1 O (zQ O) hS (zC 2 O (zH (o:=29) O) hS (zC 3 O (zZ 0 (v:=pt b.lb) O O O) hS (zC 4 O (zH (o:=4) O) hS (zC 5 O (zZ 4 (v:=Vn m.index) O O O) hS (zC 6 O (zH (o:=5) O) hS (zC 7 O (zZ 4 (v:=Vn m.qm) O O O) hS (zK 8 O hw (a_call O O (fun w' hw=>(zKb b.lb 0 0 lv es m.index m.qm w' qP (hw.qF 1 0 O O) (hw.qH 1 1 O O) (EntD.rd.qF 1 2 O O hw)).mono ?_))))))))))))
    rintro _ w1 ⟨x3_,y4_,rfl,hf9_8,hO⟩
    have hhl:=zMm hfl (k:=m.index) (u:=m.qm)
    rw[hf9_8]at hhl
    have hhl:x3_≤(es.map EntD.toEntA).length:=hhl
    refine O5 ?_ (hw.qi hO)
    refine zE [0,1,2,3,4] O qM (fun w' hw hS=>zC 9 O zT hS (zC 10 O (yT (vs:=[Vn x3_,Vn y4_]) O O) hS (zC 11 O (yT (vs:=[Vn x3_,Vn y4_]) O O) hS (zC 12 O yO hS (zC 13 O yO hS (zU ?_))))))
    refine Oc5 ?_ hw
    refine zN (zg [0,1,3,4] O qM qN (fun w' hw hS=>zC 0 O zT hS (zC 1 O zT hS (zC 2 O (zQ O) hS (zC 3 O (zH (o:=2) O) hS (zC 6 O zT hS (zC 7 O (zQ O) hS (zC 8 O (zH (o:=1) O) hS (zC 11 O zT hS (zC 12 O (yq O O (xO V)) hS (zu 4 9 ?_ ?_)))))))))))
    ·refine zm 4 O hw (x0 (l:=(zh m.a l k)) 2 2 k 2 O O qT O O O qN O (zE [0,1,3,4] O qM (fun w' hw hS=>zC 5 O (yq O O (xO V)) hS (zK 9 O hw (x0 (l:=(zh m.a l k)) 2 2 k 1 O O qT O O O qN O (zE [0,1,3,4] O qM (fun w' hw hS=>zC 10 O (xy (c:=(((zG (zh m.a l k) k).2.next - 1:Nat):Int)) O O (ws (a:=(zG (zh m.a l k) k).2.next) (b:=1) V V)) hS (zC 13 O (zFk (c:=((min ((zG (zh m.a l k) k).2.next - 1) (x3_+1):Nat):Int)) O O (zNJ _ _)) hS (zC 14 O (zGI (c:=((max ((((zG (zh m.a l k) k).2).qy)+1) (min ((zG (zh m.a l k) k).2.next - 1) (x3_+1)):Nat):Int)) O O (zEs _ _)) hS (zC 15 O (zQ O) hS (zC 16 O (zH (o:=1) O) hS (zK 17 O hw ?_))))))))))))
     refine z2 [z4 cb t (pt ld) a r b yv jb qd (pt ob),Res.nl b lv es,Res.ou ob o,Res.row b5 59 (MsgD.cells m),yN ld ({l with qa:=zh m.a l k,av:=av',qe:=l.qe++[(zG l.qa k).2.id]}:LdD),vP l.pv (zh m.a l k),sP (zh m.a l k),vI av' (l.qe++[(zG l.qa k).2.id]),vT l.rv l.qf,vL l.kv l.qk] (fun w' hw=>hw.qn 2 O) ?_
     refine z2 [z4 cb t (pt ld) a r b yv jb qd (pt ob),Res.nl b lv es,Res.ou ob o,Res.row b5 59 (MsgD.cells m),yN ld ({l with qa:=zh m.a l k,av:=av',qe:=l.qe++[(zG l.qa k).2.id]}:LdD),vP l.pv (zh m.a l k),vI av' (l.qe++[(zG l.qa k).2.id]),vT l.rv l.qf,vL l.kv l.qk,x4 ((zG (zh m.a l k) k).1) ((zG (zh m.a l k) k).2),sP ((zh m.a l k).eraseIdx k)] (fun w' hw=>hw.qI (g:=PeerP.dres) (l:=(zh m.a l k)) 6 k qT O) ?_
     refine zn (cs:=(PeerM.cells ((zG (zh m.a l k) k).2))) 9 O O O O O (zE [0,1,2,3] O qM (fun w' hw hS=>zU ?_))
     refine Oc11 ?_ hw
     refine yt (fun(pb:Nat)=>[(0,pt cb),(1,pt pb)]) (fun(pb:Nat)=>pb=(zG (zx (zh m.a l k) k (kc (es.map EntD.toEntA) m.a (zG (zh m.a l k) k).2)) k).1) (fun(pb:Nat)=>[z4 cb t (pt ld) a r b yv jb qd (pt ob),Res.nl b lv es,Res.ld ld ({l with qa:=zx (zh m.a l k) k (kc (es.map EntD.toEntA) m.a (zG (zh m.a l k) k).2),av:=av',qe:=l.qe++[(zG l.qa k).2.id]}:LdD),Res.ou ob o]) ?_ (fun pb g hΦ=> ?_)
     ·refine zS (zD O (zD O (za O O (zJ (o:=6) O O (zn 9 O O O O O (za O O (zJ (o:=4) O O (zn 9 O O O O O ?_))))))))
      exact zd (fun w' hw=>⟨(zG (zh m.a l k) k).1,⟨O,O,trivial⟩,(kQ V).symm,(by rw[show kc (es.map EntD.toEntA) m.a (zG (zh m.a l k) k).2={(zG (zh m.a l k) k).2 with next:=max ((zG (zh m.a l k) k).2.qy+1) (min ((zG (zh m.a l k) k).2.next - 1) (x3_+1)),opn:=false,qw:=0}from by unfold kc;rw[show(LogA.mk 0 0 (es.map EntD.toEntA)).hint m.a.index m.a.qm=_ from hf9_8]];exact((hw.peerIn 9 10 5 k ({((zG (zh m.a l k) k).2)with next:=max ((((zG (zh m.a l k) k).2).qy)+1) (min ((zG (zh m.a l k) k).2.next - 1) (x3_+1)),qw:=0,opn:=false}:PeerM) qT qM rfl rfl rfl).qo [4,8,9,5,6,7] rfl qM).sel [0,1,4,2] rfl qM)⟩)
     subst hΦ
     refine zS (zD O (zD O (a_call O O (fun w' hw=>(zBz cb jb t a r b yv qd _ _ ld ({l with qa:=zx (zh m.a l k) k (kc (es.map EntD.toEntA) m.a (zG (zh m.a l k) k).2),av:=av',qe:=l.qe++[(zG l.qa k).2.id]}:LdD) ob _ k false w' ‹_› qO qO (by show k<(zx (zh m.a l k) k _).length;rw[xA];omega) qO (by show(zG (zx (zh m.a l k) k _) k).2.bd _;rw[xG V];exact zFb hbd1) qP (hw.give [0,1,2,3] O qM)).mono ?_))))
     rintro _ w1 ⟨mv'5_,ms6_,rfl,hf12_2,hO⟩
     refine O4 ?_ (hw.qg [0,1,2,3] O hO)
     exact zd (fun w' hw=>⟨(xl a t b.vs (es.map EntD.toEntA) l k r.qc m.a),mv'5_,ms6_,⟨O,trivial⟩,⟨O,by rw[hX,hf12_2,xG V]⟩,(by rw[hX];rw[xG V,ji V]at hw;exact hw)⟩)
    refine zm 9 O hw (x0 (l:=(zh m.a l k)) 2 2 k 1 O O qT O O O qN O (zE [0,1,3,4] O qM (fun w' hw hS=>zC 10 O (xy (c:=(((zG (zh m.a l k) k).2.next - 1:Nat):Int)) O O (ws (a:=(zG (zh m.a l k) k).2.next) (b:=1) V V)) hS (zC 13 O (zFk (c:=((min ((zG (zh m.a l k) k).2.next - 1) (x3_+1):Nat):Int)) O O (zNJ _ _)) hS (zK 4 O hw (x0 (l:=(zh m.a l k)) 2 2 k 2 O O qT O O O qN O (zE [0,1,3,4] O qM (fun w' hw hS=>zC 5 O (yq O O (xO V)) hS (zC 14 O (zGI (c:=((max ((((zG (zh m.a l k) k).2).qy)+1) (min ((zG (zh m.a l k) k).2.next - 1) (x3_+1)):Nat):Int)) O O (zEs _ _)) hS (zC 15 O (zQ O) hS (zC 16 O (zH (o:=1) O) hS (zK 17 O hw ?_))))))))))))
    refine z2 [z4 cb t (pt ld) a r b yv jb qd (pt ob),Res.nl b lv es,Res.ou ob o,Res.row b5 59 (MsgD.cells m),yN ld ({l with qa:=zh m.a l k,av:=av',qe:=l.qe++[(zG l.qa k).2.id]}:LdD),vP l.pv (zh m.a l k),sP (zh m.a l k),vI av' (l.qe++[(zG l.qa k).2.id]),vT l.rv l.qf,vL l.kv l.qk] (fun w' hw=>hw.qn 2 O) ?_
    refine z2 [z4 cb t (pt ld) a r b yv jb qd (pt ob),Res.nl b lv es,Res.ou ob o,Res.row b5 59 (MsgD.cells m),yN ld ({l with qa:=zh m.a l k,av:=av',qe:=l.qe++[(zG l.qa k).2.id]}:LdD),vP l.pv (zh m.a l k),vI av' (l.qe++[(zG l.qa k).2.id]),vT l.rv l.qf,vL l.kv l.qk,x4 ((zG (zh m.a l k) k).1) ((zG (zh m.a l k) k).2),sP ((zh m.a l k).eraseIdx k)] (fun w' hw=>hw.qI (g:=PeerP.dres) (l:=(zh m.a l k)) 6 k qT O) ?_
    refine zn (cs:=(PeerM.cells ((zG (zh m.a l k) k).2))) 9 O O O O O (zE [0,1,2,3] O qM (fun w' hw hS=>zU ?_))
    refine Oc11 ?_ hw
    refine yt (fun(pb:Nat)=>[(0,pt cb),(1,pt pb)]) (fun(pb:Nat)=>pb=(zG (zx (zh m.a l k) k (kc (es.map EntD.toEntA) m.a (zG (zh m.a l k) k).2)) k).1) (fun(pb:Nat)=>[z4 cb t (pt ld) a r b yv jb qd (pt ob),Res.nl b lv es,Res.ld ld ({l with qa:=zx (zh m.a l k) k (kc (es.map EntD.toEntA) m.a (zG (zh m.a l k) k).2),av:=av',qe:=l.qe++[(zG l.qa k).2.id]}:LdD),Res.ou ob o]) ?_ (fun pb g hΦ=> ?_)
    ·refine zS (zD O (zD O (za O O (zJ (o:=6) O O (zn 9 O O O O O (za O O (zJ (o:=4) O O (zn 9 O O O O O ?_))))))))
     exact zd (fun w' hw=>⟨(zG (zh m.a l k) k).1,⟨O,O,trivial⟩,(kQ V).symm,(by rw[show kc (es.map EntD.toEntA) m.a (zG (zh m.a l k) k).2={(zG (zh m.a l k) k).2 with next:=max ((zG (zh m.a l k) k).2.qy+1) (min ((zG (zh m.a l k) k).2.next - 1) (x3_+1)),opn:=false,qw:=0}from by unfold kc;rw[show(LogA.mk 0 0 (es.map EntD.toEntA)).hint m.a.index m.a.qm=_ from hf9_8]];exact((hw.peerIn 9 10 5 k ({((zG (zh m.a l k) k).2)with next:=max ((((zG (zh m.a l k) k).2).qy)+1) (min ((zG (zh m.a l k) k).2.next - 1) (x3_+1)),qw:=0,opn:=false}:PeerM) qT qM rfl rfl rfl).qo [4,8,9,5,6,7] rfl qM).sel [0,1,4,2] rfl qM)⟩)
    subst hΦ
    refine zS (zD O (zD O (a_call O O (fun w' hw=>(zBz cb jb t a r b yv qd _ _ ld ({l with qa:=zx (zh m.a l k) k (kc (es.map EntD.toEntA) m.a (zG (zh m.a l k) k).2),av:=av',qe:=l.qe++[(zG l.qa k).2.id]}:LdD) ob _ k false w' ‹_› qO qO (by show k<(zx (zh m.a l k) k _).length;rw[xA];omega) qO (by show(zG (zx (zh m.a l k) k _) k).2.bd _;rw[xG V];exact zFb hbd1) qP (hw.give [0,1,2,3] O qM)).mono ?_))))
    rintro _ w1 ⟨mv'7_,ms8_,rfl,hf12_2,hO⟩
    refine O4 ?_ (hw.qg [0,1,2,3] O hO)
    exact zd (fun w' hw=>⟨(xl a t b.vs (es.map EntD.toEntA) l k r.qc m.a),mv'7_,ms8_,⟨O,trivial⟩,⟨O,by rw[hX,hf12_2,xG V]⟩,(by rw[hX];rw[xG V,ji V]at hw;exact hw)⟩)
   refine yX qN qN (zM O (zH (o:=0) O) (zM O (zZ 4 (v:=Vi m.kind) O O O) (zM O (zDd O O) (zM O zT (zCk (q:=m.kind=8) 8 3 [149,148,147,146,145,144,143,142] (((m.index:Nat):Int)=((0:Nat):Int)) O O O O O O trivial O (fun h13_3=> ?_) (fun g13_12=> ?_))))))
   ·refine yu O (gT h13_3) (zM O (zH (o:=4) O) (yu O (gT h13_3) (zM O (zZ 4 (v:=Vn m.index) O O O) (yu O (gT h13_3) (zM O zT (yu O (gT h13_3) (zM O (zQ O) (yu O (gT h13_3) (zM O (zH (o:=24) O) (yu O (gT h13_3) (zM O (zH (o:=0) O) (yu O (gT h13_3) ?_))))))))))))
    refine zM O (zZ 0 (v:=Vn 0) O O O) (yu O (gT h13_3) (zM O (zDd O O) ?_))
    exact zEw O
   refine zM O yO (xk (zY O (fun c4=> ?_) (fun c4=> ?_)))
   ·have hX:=zPe (a:=a) (t:=t) (vs0:=b.vs) (E:=es.map EntD.toEntA) (l:=l) (k:=k) (qc:=r.qc) (m:=m.a) (by show ¬ m.kind=6;omega) ⟨c4.1,by show m.index=0;omega⟩
    refine zB (zD O (zD O (zJ (o:=12) O O (zL 4 (v:=Vi m.off) O O O O (za O O (zJ (o:=5) O O ?_))))))
    refine z2 [z4 cb t (pt ld) a r b yv jb qd (pt ob),Res.nl b lv es,Res.ou ob o,Res.row b5 59 (MsgD.cells m),yN ld ({l with qa:=zh m.a l k,av:=av',qe:=l.qe++[(zG l.qa k).2.id]}:LdD),vP l.pv (zh m.a l k),sP (zh m.a l k),vI av' (l.qe++[(zG l.qa k).2.id]),vT l.rv l.qf,vL l.kv l.qk] (fun w' hw=>hw.qn 2 O) ?_
    refine z2 [z4 cb t (pt ld) a r b yv jb qd (pt ob),Res.nl b lv es,Res.ou ob o,Res.row b5 59 (MsgD.cells m),yN ld ({l with qa:=zh m.a l k,av:=av',qe:=l.qe++[(zG l.qa k).2.id]}:LdD),vP l.pv (zh m.a l k),vI av' (l.qe++[(zG l.qa k).2.id]),vT l.rv l.qf,vL l.kv l.qk,x4 ((zG (zh m.a l k) k).1) ((zG (zh m.a l k) k).2),sP ((zh m.a l k).eraseIdx k)] (fun w' hw=>hw.qI (g:=PeerP.dres) (l:=(zh m.a l k)) 6 k qT O) ?_
    refine zn (cs:=(PeerM.cells ((zG (zh m.a l k) k).2))) 9 O O O O O (za O O (zJ (o:=8) O O (zn 9 O O O O O (zA (yX qN qN (zM O zT (zM O (zQ O) (zM O (zH (o:=1) O) (zM O (zZ 9 (v:=Vn (((zG (zh m.a l k) k).2).next)) O O O) (zM O zT (zM O (zQ O) (zM O (zH (o:=24) O) ?_))))))))))))
    refine zM O (zH (o:=0) O) (zM O (zZ 0 (v:=Vn 0) O O O) (zM O (zH9 O O) (xk (zY O (fun c5=> ?_) (fun c5=> ?_)))))
    ·exact absurd c5 V
    exact yc (fun w' hw=>⟨(xl a t b.vs (es.map EntD.toEntA) l k r.qc m.a),o.mv,[],⟨O,trivial⟩,⟨O,by rw[hX];rfl⟩,(by rw[hX,List.append_nil];exact((hw.peerIn 9 10 5 k ({((zG (zh m.a l k) k).2)with off:=m.off,asked:=false}:PeerM) qT qM rfl rfl rfl).qo [4,8,9,5,6,7] rfl qM).sel [0,1,4,2] rfl qM)⟩)
   have hX:=zLn (a:=a) (t:=t) (vs0:=b.vs) (E:=es.map EntD.toEntA) (l:=l) (k:=k) (qc:=r.qc) (m:=m.a) (fun q=>c2 ⟨⟨q.1,q.2.1⟩,by have:=q.2.2;rw[List.length_map]at this;have h3:m.index≤es.length:=this;omega⟩) (fun q=>c3 ⟨⟨q.1,by rw[show m.flag=false from q.2.1];rfl⟩,by have h3:m.index<_:=q.2.2;omega⟩) (fun q=>c4 ⟨q.1,by have h3:m.index=0:=q.2;omega⟩)
   exact yc (fun w' hw=>⟨(xl a t b.vs (es.map EntD.toEntA) l k r.qc m.a),o.mv,[],⟨O,trivial⟩,⟨O,by rw[hX];rfl⟩,(by rw[hX,List.append_nil,zB0 V];exact hw.sel [0,1,2,3] rfl qM)⟩)
  have hx:=hΦ.1
  refine zS (zD O (a_call O O (fun w' hw=>(zO5 cb jb t a ({r with qc:=x.qc}:RolD) b yv qd _ _ ld ({l with qa:=zx (zh m.a l k) k x.p,av:=av',qe:=l.qe++[(zG l.qa k).2.id],qC:=x.qC}:LdD) ob ({o with mv:=mv',qj:=o.qj++ms}:OutD) w' ‹_› qO qO (by show(zx (zh m.a l k) k x.p).length≤_;rw[xA];omega) qP qS (by show ∀ p∈zx (zh m.a l k) k x.p,p.2.round≤l.qf.length;refine zBP (P:=fun p=>p.round≤l.qf.length) (zFn hk hpr) ?_;rw[hx,zHH];exact zFn hk hpr _ (ze V)) qP qP (hw.give [0,1,2,3] O qM)).mono ?_)))
  rintro _ w1 ⟨rv'9_,kv'10_,rfl,hO⟩
  refine O4 ?_ (hw.qg [0,1,2,3] O hO)
  exact zd (yJ O (fun w' hw=>⟨mv',rv'9_,av',kv'10_,ms,O,(by rw[hΦ.2,hx]),(by rw[←hx];exact hw)⟩))
end Go.Proofs.YtkkeknmkipkbmaaGreat
