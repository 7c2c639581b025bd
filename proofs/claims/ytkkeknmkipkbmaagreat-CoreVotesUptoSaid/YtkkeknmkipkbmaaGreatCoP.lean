import Derived.Test.YtkkeknmkipkbmaaGreatCoO
set_option linter.unusedSectionVars false
set_option linter.unusedSimpArgs false
set_option linter.unusedVariables false
set_option maxRecDepth 10000
namespace Go.Proofs.YtkkeknmkipkbmaaGreat
open Go Go.Sc Go.Proofs
structure OutA where
  ms:List MsgA
  qx:List RdyD
  qr:List Nat
structure LdD.bd(l:LdD):Prop where
  qa:l.qa.length≤1000
  each:∀ p∈l.qa,p.2.bd 1000000
  round:∀ p∈l.qa,p.2.round≤l.qf.length
  qf:l.qf.length≤900000
  qj:l.qj.length≤10000
  qe:l.qe.length≤1000000
def jh(a:StA)(vs0:List Int)(m:MsgA)(n:NodA)(l:LdD):NodA×OutA:=
  match yV l.qa m.src with
  |none=>(n,⟨[],[],[]⟩)
  |some k=>
    let x:=xc a n.t vs0 n.E l k n.r.qc m
    let N:=xR a vs0 n.E (zx (zg m l k) k x.p) l.qf l.sure
    ({n with t:=xp N l.qf n.t,r:={n.r with qc:=x.qc},ld:=some (kw N (.slice none 0 0) {l with qa:=zx (zg m l k) k x.p,qe:=l.qe++[(zG l.qa k).2.id],qB:=x.qB})},⟨x.ms,if N=0 then []else(l.qj.filter (fun q=>q.round≤N)).map LookM.rdy,[]⟩)
def zDz(a:StA)(m:MsgA)(n:NodA):Prop:=(n.t.qD=0∨n.t.qD=m.src)∧n.r.qt≠4∧(LogA.mk 0 0 n.E).fresh m.index m.ql∧(m.flag=true∨¬ n.t.now - n.t.qz<a.base)
instance (a:StA)(m:MsgA)(n:NodA):Decidable (zDz a m n):=inferInstanceAs (Decidable (_∧_))
def one(a:StA)(kind dst:Int)(term:Nat)(flag:Bool):MsgA:=⟨kind,a.id,dst,term,0,0,0,0,flag,[],⟨[],[]⟩,0,[]⟩
def zAb(x:NodA×List MsgA):NodA×OutA:=(x.1,⟨x.2,[],[]⟩)
def yX(a:StA)(vs0:List Int)(qd:Nat)(m:MsgA)(n:NodA):NodA×OutA:=
  if m.kind=3 then(if zDz a m n then{n with t:={n.t with qD:=m.src,due:=n.t.now+yw a qd}}else n,⟨[one a 4 m.src n.t.term (decide (zDz a m n))],[],[]⟩)
  else if m.kind=4 then
    if n.r.qt=3∧m.flag=true then
      let n1:={n with yes:=y7 (zc vs0 n.E) n.yes m.src}
      if((zc vs0 n.E).ok∧m.src∈(zc vs0 n.E).vs)∧(zc vs0 n.E).qu n1.yes then zAb (jB a vs0 n1)else(n1,⟨[],[],[]⟩)
    else(n,⟨[],[],[]⟩)
  else if m.kind=5 then
    if n.r.qt=4 then(n,⟨[],[],[]⟩)
    else zAb (ka a m {n with t:={n.t with qz:=n.t.now,due:=n.t.now+yw a qd},r:=⟨1,m.src,n.r.qc⟩,ld:=none,yes:=[]})
  else if m.kind=6∨m.kind=8 then
    match n.ld with
    |none=>(n,⟨[],[],[]⟩)
    |some l=>jh a vs0 m n l
  else if m.kind=9∧((zc vs0 n.E).ok∧a.id∈(zc vs0 n.E).vs)∧n.r.qt≠4∧n.t.term<4611686018427387904 then zAb (j8 a vs0 qd true n)
  else(n,⟨[],[],[]⟩)
theorem zAE{n:NodA}{l:List MsgA}{x:NodA×List MsgA}(h:(n,l)=x):(n,(⟨l,[],[]⟩:OutA))=zAb x:=by rw[←h];rfl
theorem zEu{b:Bool}{P:Prop}[Decidable P](h:b=true↔P):b=decide P:=by
  by_cases q:P
  · rw[decide_eq_true q,h.2 q]
  rw[decide_eq_false q];cases b
  · rfl
  exact absurd (h.1 rfl) q
theorem zBp{y:Option (Nat×LdD)}{r:RolD}(h:r.qt=4↔y.isSome=true)(h2:¬ r.qt=4):y=none:=by
  cases y with
  |none=>rfl
  |some q=>exact absurd (h.2 rfl) h2
theorem j0{m:MsgD}{k j:Int}(h:m.kind=k)(h2:k≠j):¬ m.a.kind=j:=fun q=>h2 (h.symm.trans q)
theorem zKn{l:LdD}{p:PeerM}{n:Nat}{g:Bool}:yy l.er p n g=yy l p n g:=rfl
theorem zFS{m:MsgA}{l:LdD}{k:Nat}:zg m l.er k=er (zg m l k):=by
  unfold zg
  rw[zEM,show l.er.qa=er l.qa from rfl,zDB];rfl
theorem zLS{a:StA}{t:TimD}{vs0:List Int}{E:List EntA}{l:LdD}{k qc:Nat}{m:MsgA}:xc a t vs0 E l.er k qc m=xc a t vs0 E l k qc m:=by
  unfold xc
  simp only[zFS,zDB,←zEM,zBR,zKn]
  rfl
theorem zJu{n:Nat}{kv:Value}{l:LdD}:(kw n kv l).er=kw n (.slice none 0 0) l.er:=by unfold kw;split<;>rfl
theorem zIS{a:StA}{t:TimD}{r:RolD}{vs0:List Int}{lv yv kv av:Value}{es:List EntD}{yes:List Int}{ld:Nat}{l:LdD}{j:Nat}{m:MsgA}{x:AnsR}{P:List PeerP}{N:Nat}(hx:x=xc a t vs0 (es.map EntD.toEntA) l j r.qc m)(hP:P=zx (zg m l j) j x.p)(hN:N=xR a vs0 (es.map EntD.toEntA) P l.qf l.sure)(hix:yV l.qa m.src=some j):
    ((({t:=xp N l.qf t,r:={r with qc:=x.qc},lv:=lv,es:=es,y:=some (ld,kw N kv {l with qa:=P,av:=av,qe:=l.qe++[(zG l.qa j).2.id],qB:=x.qB}),yv:=yv,yes:=yes}:NdD).a,(⟨x.ms,if N=0 then []else(l.qj.filter (fun q=>q.round≤N)).map LookM.rdy,[]⟩:OutA)):NodA×OutA)=jh a vs0 m {t:=t,r:=r,E:=es.map EntD.toEntA,ld:=some l.er,yes:=yes} l.er:=by
  unfold jh
  rw[show yV l.er.qa m.src=some j from peerIx_er.trans hix]
  dsimp only
  have e1:zx (zg m l.er j) j x.p=er P:=by rw[zFS,←zEM,hP]
  rw[zLS,←hx,e1,zJq,show xR a vs0 (es.map EntD.toEntA) P l.er.qf l.er.sure=N from hN.symm]
  unfold NdD.a
  rw[Option.map_some,zJu,show(zG l.er.qa j).2=(zG l.qa j).2 from zDB]
  rfl
theorem zKa{n:Nat}{rv:Value}{qj:List LookM}{o:OutD}:(jt n rv qj o).qk=o.qk:=by unfold jt;split<;>rfl
theorem zKd{n:Nat}{rv:Value}{qj:List LookM}{o:OutD}:(jt n rv qj o).qr=o.qr:=by unfold jt;split<;>rfl
theorem zJb{n:Nat}{rv:Value}{qj:List LookM}{o:OutD}:(jt n rv qj o).qx=o.qx++(if n=0 then []else(qj.filter (fun q=>q.round≤n)).map LookM.rdy):=by
  unfold jt
  split
  · rw[List.append_nil]
  rfl
theorem zHv{S:List Nat}(cb jb:Nat)(t:TimD)(a:StA)(r:RolD)(b:StB)(yv:Value)(qd:Nat)(lv:Value)(es:List EntD)(ob:Nat)(o:OutD)(y:Option (Nat×LdD))(yes:List Int)(m:MsgD)(w:World)(hg:(LG 0 0 es).good)(hl:es.length≤100000)(hvl:b.vs.length≤12)(hcm:1≤((zc b.vs (es.map EntD.toEntA)).vs++(zc b.vs (es.map EntD.toEntA)).ls).length∧((zc b.vs (es.map EntD.toEntA)).vs++(zc b.vs (es.map EntD.toEntA)).ls).length≤12)(htm:(r.qt=3→1≤t.term)∧t.term≤4611686018427387904)(hen:(LG 0 0 es).end_≤t.term)(hn:0≤t.now∧t.now≤1000000000000000)(hh:0≤t.qz∧t.qz≤1000000000000000)(ho:o.qk.length≤1000)(hrd:o.qx.length≤1000)(ha:a.ok)(hd:qd<18446744073709551616)(hm:m.wf)(hro:r.qt=4↔y.isSome=true)(hld:∀ q,y=some q→q.2.bd)(hy:yes.length≤1000)(hk:m.kind=4)(hin:Own w S [z3 cb t (xF y) a r b yv jb qd (pt ob),Res.nl b lv es,Res.lo y,vI yv yes,Res.ou ob o] w)(rd_m:MsgD.rd m w S):Rets Tryz.prog 87 #[pt cb, .agg (MsgD.cells m).toArray] w fun u_ w'=>∃ (n:NdD) (o':OutD) (x:OutA),u_= .tuple #[]∧(n.a,x)=yX a b.vs qd m.a {t:=t,r:=r,E:=es.map EntD.toEntA,ld:=y.map fun q=>q.2.er,yes:=yes}∧o'.qk.map MsgD.a=o.qk.map MsgD.a++x.ms∧o'.qx=o.qx++x.qx∧o'.qr=o.qr∧Own w S [z3 cb n.t (xF n.y) a n.r b n.yv jb qd (pt ob),Res.nl b n.lv n.es,Res.lo n.y,vI n.yv n.yes,Res.ou ob o'] w':=by
  have hme:=hm.qm
  have k3:=j0 (j:=3) hk qL
  have k4:m.a.kind=4:=hk
  refine zW Tryz.func87 O Tryz.ntmps87 hin ?_
  refine zB (z4 O O (fun b3=>zA (zB (zJ (o:=0) O O (zL 5 (v:=Vi m.kind) O O O O (zA (zX (zB (yS O O O (zI O (zA (xB O V ?_))))))))))))
  refine zB (yS O O O (zI O (zA (jK O hk (zB (zD O (zb O O (zJ (o:=21) O O (zL 0 (v:=Vi r.qt) O O O O (yS O O O (zD O (yO (q:=r.qt=3) 2 5 [88,87] (m.flag=true) O O O O O O trivial O (fun h9_5=> ?_) (fun g9_8=> ?_)))))))))))))
  ·refine zS O (gT h9_5) (zJ (o:=8) O O (zS O (gT h9_5) (zL 5 (v:= .bool m.flag) O O O O ?_)))
   exact yP (xT _) (fun _ hw=>hw)
  refine zD O ?_
  by_cases s9_9:(r.qt=3)∧(m.flag=true)
  ·have s1:r.qt=3∧m.a.flag=true:=s9_9
   refine zS O (gT s9_9) (zD O (zS O (gT s9_9) (zJ (o:=1) O O (zS O (gT s9_9) (zL 5 (v:=Vi m.src) O O O O (zS O (gT s9_9) (a_call O O (fun w' hw=>(zHk cb jb t a r b (xF y) yv (pt ob) qd _ _ yes m.src w' ‹_› qN qN qN (hw.give [0,1,3] O qL)).mono ?_))))))))
   rintro _ w1 ⟨yv'1_,rfl,hO⟩
   refine O6 ?_ (hw.qg [0,1,3] O hO)
   refine zMS (gT s9_9) O (zA (zY O (fun c3=> ?_) (fun c3=> ?_)))
   ·have s2:(((zc b.vs (es.map EntD.toEntA)).ok∧m.a.src∈(zc b.vs (es.map EntD.toEntA)).vs)∧(zc b.vs (es.map EntD.toEntA)).qu (y7 (zc b.vs (es.map EntD.toEntA)) yes m.a.src)):=c3
    obtain rfl:=zBp hro V
    refine zR (zD O (a_call O O (fun w' hw=>(zFP cb jb t a r b yv'1_ qd _ _ ob _ (y7 (zc b.vs (es.map EntD.toEntA)) yes m.src) w' ‹_› qN qN qR ⟨htm.1 s9_9.1,htm.2⟩ qN qN qN (hw.give [3,4,1] O qL)).mono ?_)))
    rintro _ w1 ⟨n2_,mv'3_,ms4_,rfl,hf10_1,hO⟩
    refine O8 ?_ (hw.qg [3,4,1] O hO)
    exact ze (yJ O (fun w' hw=>⟨n2_,({o with mv:=mv'3_,qk:=o.qk++ms4_}:OutD),⟨ms4_.map MsgD.a,[],[]⟩,O,(by unfold yX;dsimp only;rw[if_neg k3,if_pos k4,if_pos s1,if_pos s2];exact zAE hf10_1),List.map_append,(List.append_nil _).symm,O,hw.sel [3,4,5,6,7] O qL⟩))
   have s2:¬(((zc b.vs (es.map EntD.toEntA)).ok∧m.a.src∈(zc b.vs (es.map EntD.toEntA)).vs)∧(zc b.vs (es.map EntD.toEntA)).qu (y7 (zc b.vs (es.map EntD.toEntA)) yes m.a.src)):=c3
   exact yd (yJ O (fun w' hw=>⟨({t:=t,r:=r,lv:=lv,es:=es,y:=y,yv:=yv'1_,yes:=(y7 (zc b.vs (es.map EntD.toEntA)) yes m.src)}:NdD),o,⟨[],[],[]⟩,O,(by unfold yX;dsimp only;rw[if_neg k3,if_pos k4,if_pos s1,if_neg s2];rfl),(List.append_nil _).symm,(List.append_nil _).symm,O,hw.sel [3,4,0,5,1] O qL⟩))
  have s1:¬(r.qt=3∧m.a.flag=true):=s9_9
  refine zAV O (gF s9_9) O O (zAV O (gF s9_9) O O (zAV O (gF s9_9) O O (zAV O (gF s9_9) O O (ji (gF s9_9) O (zA (xr O ?_))))))
  exact yd (yJ O (fun w' hw=>⟨({t:=t,r:=r,lv:=lv,es:=es,y:=y,yv:=yv,yes:=yes}:NdD),o,⟨[],[],[]⟩,O,(by unfold yX;dsimp only;rw[if_neg k3,if_pos k4,if_neg s1];rfl),(List.append_nil _).symm,(List.append_nil _).symm,O,hw.sel [0,1,2,3,4] O qL⟩))
theorem zHu{S:List Nat}(cb jb:Nat)(t:TimD)(a:StA)(r:RolD)(b:StB)(yv:Value)(qd:Nat)(lv:Value)(es:List EntD)(ob:Nat)(o:OutD)(y:Option (Nat×LdD))(yes:List Int)(m:MsgD)(w:World)(hg:(LG 0 0 es).good)(hl:es.length≤100000)(hvl:b.vs.length≤12)(hcm:1≤((zc b.vs (es.map EntD.toEntA)).vs++(zc b.vs (es.map EntD.toEntA)).ls).length∧((zc b.vs (es.map EntD.toEntA)).vs++(zc b.vs (es.map EntD.toEntA)).ls).length≤12)(htm:(r.qt=3→1≤t.term)∧t.term≤4611686018427387904)(hen:(LG 0 0 es).end_≤t.term)(hn:0≤t.now∧t.now≤1000000000000000)(hh:0≤t.qz∧t.qz≤1000000000000000)(ho:o.qk.length≤1000)(hrd:o.qx.length≤1000)(ha:a.ok)(hd:qd<18446744073709551616)(hm:m.wf)(hro:r.qt=4↔y.isSome=true)(hld:∀ q,y=some q→q.2.bd)(hy:yes.length≤1000)(hk:m.kind=5)(hin:Own w S [z3 cb t (xF y) a r b yv jb qd (pt ob),Res.nl b lv es,Res.lo y,vI yv yes,Res.ou ob o] w)(rd_m:MsgD.rd m w S):Rets Tryz.prog 87 #[pt cb, .agg (MsgD.cells m).toArray] w fun u_ w'=>∃ (n:NdD) (o':OutD) (x:OutA),u_= .tuple #[]∧(n.a,x)=yX a b.vs qd m.a {t:=t,r:=r,E:=es.map EntD.toEntA,ld:=y.map fun q=>q.2.er,yes:=yes}∧o'.qk.map MsgD.a=o.qk.map MsgD.a++x.ms∧o'.qx=o.qx++x.qx∧o'.qr=o.qr∧Own w S [z3 cb n.t (xF n.y) a n.r b n.yv jb qd (pt ob),Res.nl b n.lv n.es,Res.lo n.y,vI n.yv n.yes,Res.ou ob o'] w':=by
  have hme:=hm.qm
  have k3:=j0 (j:=3) hk qL
  have k4:=j0 (j:=4) hk qL
  have k5:m.a.kind=5:=hk
  have hw1:=kz (qd:=qd) ha
  refine zW Tryz.func87 O Tryz.ntmps87 hin ?_
  refine zB (z4 O O (fun b3=>zA (zB (zJ (o:=0) O O (zL 5 (v:=Vi m.kind) O O O O (zA (zX (zB (yS O O O (zI O (zA (xB O V ?_))))))))))))
  refine zB (yS O O O (zI O (zA (xB O V (zN (zB (yS O O O (zI O (zA (jK O hk (zO (jK O hk ?_))))))))))))
  refine zN (zB (zD O (zb O O (zJ (o:=21) O O (zL 0 (v:=Vi r.qt) O O O O (yS O O O (zA (zY O (fun c5=> ?_) (fun c5=> ?_)))))))))
  ·exact zT (yJ O (fun w' hw=>⟨({t:=t,r:=r,lv:=lv,es:=es,y:=y,yv:=yv,yes:=yes}:NdD),o,⟨[],[],[]⟩,O,(by unfold yX;dsimp only;rw[if_neg k3,if_neg k4,if_pos k5,if_pos c5];rfl),(List.append_nil _).symm,(List.append_nil _).symm,O,hw.sel [0,1,2,3,4] O qL⟩))
  obtain rfl:=zBp hro c5
  refine zO (zB (zD O (zJ (o:=1) O O (zL 5 (v:=Vi m.src) O O O O (a_call O O (fun w' hw=>(kQ cb jb t a r b yv (pt ob) qd m.src w' (hw.give [0] O qL)).mono ?_))))))
  rintro _ w1 ⟨rfl,hO⟩
  refine O6 ?_ (hw.qg [0] O hO)
  refine zA (zB (zD O (zD O (zb O O (zJ (o:=2) O O (zJ (o:=0) O O (zL 5 (v:=Vi t.now) O O O O (zb O O (zJ (o:=2) O O (zJ (o:=1) O O (zn 5 O O O O O (zA ?_))))))))))))
  refine zAj ([(0,pt cb),(3,pt b3)]) (True) ([z3 cb ({t with qz:=t.now,due:=t.now+yw a qd}:TimD) (.pointer none) a ({qt:=1,who:=m.src,qc:=r.qc}:RolD) b (.slice none 0 0) jb qd (pt ob),Res.nl b lv es,Res.ou ob o,Res.row b3 59 (MsgD.cells m)]) ?_ (fun g hΦ=> ?_)
  ·refine zi [0,1,2,3,4] O qL qM (fun w' hw hS=>zC 0 O zU hS (zC 1 O zU hS (zC 2 O (zQ O) hS (zC 3 O (zH (o:=2) O) hS (zC 4 O (zH (o:=0) O) hS (zC 6 O zU hS (zw 5 7 ?_ ?_)))))))
   ·refine zm 5 O hw (zL 5 (v:=Vi t.now) O O O O (zE [0,1,2,3,4] O qL (fun w' hw hS=>zK 7 O hw (a_call O O (fun w' hw=>(kW cb jb ({t with qz:=t.now}:TimD) a ({qt:=1,who:=m.src,qc:=r.qc}:RolD) b (.pointer none) (.slice none 0 0) (pt ob) qd w' ‹_› qN (hw.give [5] O qL)).mono ?_)))))
    rintro _ w1 ⟨rfl,hO⟩
    refine O6 ?_ (hw.qg [5] O hO)
    refine zE [0,1,2,3,4] O qL (fun w' hw hS=>zC 8 O (yo O O (zu V)) hS (zC 9 O (zQ O) hS (zC 10 O (zH (o:=2) O) hS (zC 11 O (zH (o:=2) O) hS (zK 12 O hw (zn 5 O O O O O (zE [0,1,2,3,4] O qL (fun w' hw hS=>zV ?_))))))))
    exact⟨⟨O,O,trivial⟩,trivial,hw.sel [5,0,3,4] O qL⟩
   refine zm 7 O hw (a_call O O (fun w' hw=>(kW cb jb ({t with qz:=t.now}:TimD) a ({qt:=1,who:=m.src,qc:=r.qc}:RolD) b (.pointer none) (.slice none 0 0) (pt ob) qd w' ‹_› qN (hw.give [5] O qL)).mono ?_))
   rintro _ w1 ⟨rfl,hO⟩
   refine O6 ?_ (hw.qg [5] O hO)
   refine zE [0,1,2,3,4] O qL (fun w' hw hS=>zK 5 O hw (zL 5 (v:=Vi t.now) O O O O (zE [0,1,2,3,4] O qL (fun w' hw hS=>zC 8 O (yo O O (zu V)) hS (zC 9 O (zQ O) hS (zC 10 O (zH (o:=2) O) hS (zC 11 O (zH (o:=2) O) hS (zK 12 O hw (zn 5 O O O O O (zE [0,1,2,3,4] O qL (fun w' hw hS=>zV ?_)))))))))))
   exact⟨⟨O,O,trivial⟩,trivial,hw.sel [5,0,3,4] O qL⟩
  refine zB (zJ (o:=0) O O (zL 3 (v:=Vi m.kind) O O O O (yS O O O (zA (jK O hk (zR (zD O (yI (cs:=(MsgD.cells m)) 3 O O O (a_call O O (fun w' hw=>(zKO cb jb ({t with qz:=t.now,due:=t.now+yw a qd}:TimD) a ({qt:=1,who:=m.src,qc:=r.qc}:RolD) b qd _ _ ob _ m w' ‹_› qN ‹_› qN (hw.give [0,1,2] O qL) (rd_m.at hw [0,1,2] O)).mono ?_))))))))))
  rintro _ w1 ⟨n1_,mv'2_,ms3_,rfl,hf18_2,hO⟩
  refine O6 ?_ (hw.qg [0,1,2] O hO)
  exact ze (yJ O (fun w' hw=>⟨n1_,({o with mv:=mv'2_,qk:=o.qk++ms3_}:OutD),⟨ms3_.map MsgD.a,[],[]⟩,O,(by unfold yX;dsimp only;rw[if_neg k3,if_neg k4,if_pos k5,if_neg c5];exact zAE hf18_2),List.map_append,(List.append_nil _).symm,O,hw.sel [1,2,3,4,5] O qL⟩))
theorem zIq{S:List Nat}(cb jb:Nat)(t:TimD)(a:StA)(r:RolD)(b:StB)(yv:Value)(qd:Nat)(lv:Value)(es:List EntD)(ob:Nat)(o:OutD)(y:Option (Nat×LdD))(yes:List Int)(m:MsgD)(w:World)(hg:(LG 0 0 es).good)(hl:es.length≤100000)(hvl:b.vs.length≤12)(hcm:1≤((zc b.vs (es.map EntD.toEntA)).vs++(zc b.vs (es.map EntD.toEntA)).ls).length∧((zc b.vs (es.map EntD.toEntA)).vs++(zc b.vs (es.map EntD.toEntA)).ls).length≤12)(htm:(r.qt=3→1≤t.term)∧t.term≤4611686018427387904)(hen:(LG 0 0 es).end_≤t.term)(hn:0≤t.now∧t.now≤1000000000000000)(hh:0≤t.qz∧t.qz≤1000000000000000)(ho:o.qk.length≤1000)(hrd:o.qx.length≤1000)(ha:a.ok)(hd:qd<18446744073709551616)(hm:m.wf)(hro:r.qt=4↔y.isSome=true)(hld:∀ q,y=some q→q.2.bd)(hy:yes.length≤1000)(hk:m.kind=6)(hin:Own w S [z3 cb t (xF y) a r b yv jb qd (pt ob),Res.nl b lv es,Res.lo y,vI yv yes,Res.ou ob o] w)(rd_m:MsgD.rd m w S):Rets Tryz.prog 87 #[pt cb, .agg (MsgD.cells m).toArray] w fun u_ w'=>∃ (n:NdD) (o':OutD) (x:OutA),u_= .tuple #[]∧(n.a,x)=yX a b.vs qd m.a {t:=t,r:=r,E:=es.map EntD.toEntA,ld:=y.map fun q=>q.2.er,yes:=yes}∧o'.qk.map MsgD.a=o.qk.map MsgD.a++x.ms∧o'.qx=o.qx++x.qx∧o'.qr=o.qr∧Own w S [z3 cb n.t (xF n.y) a n.r b n.yv jb qd (pt ob),Res.nl b n.lv n.es,Res.lo n.y,vI n.yv n.yes,Res.ou ob o'] w':=by
  have hme:=hm.qm
  have k3:=j0 (j:=3) hk qL
  have k4:=j0 (j:=4) hk qL
  have k5:=j0 (j:=5) hk qL
  have k6:m.a.kind=6∨m.a.kind=8:= .inl hk
  refine zW Tryz.func87 O Tryz.ntmps87 hin ?_
  refine zB (z4 O O (fun b3=>zA (zB (zJ (o:=0) O O (zL 5 (v:=Vi m.kind) O O O O (zA (zX (zB (yS O O O (zI O (zA (xB O V ?_))))))))))))
  refine zB (yS O O O (zI O (zA (xB O V (zN (zB (yS O O O (zI O (zA (xB O V (zR (yS O O O ?_))))))))))))
  refine zI O (zA (xB O V (zN (zB (yS O O O (zI O (zA (jK O hk (zO (jK O hk (zB (zD O ?_))))))))))))
  refine zb O O (zJ (o:=21) O O (zL 0 (v:=Vi r.qt) O O O O (yS O O O (zA (zY O (fun c7=> ?_) (fun c7=> ?_))))))
  ·obtain⟨⟨ld,l⟩,rfl⟩:=Option.isSome_iff_exists.1 (hro.1 c7)
   have hb:=hld _ rfl
   have hbp:=hb.qa
   refine zB (zD O (zJ (o:=1) O O (zL 5 (v:=Vi m.src) O O O O (a_call O O (fun w' hw=>(zCi cb jb t a r b yv (pt ob) qd ld _ m.src w' qN (hw.give [0,2] O qL)).mono ?_)))))
   rintro _ w1 ⟨pv1_,rfl,hf23_3,hO⟩
   refine O6 ?_ (hw.qg [0,2] O hO)
   refine zI O (zA (zB (zD O (zAt qM O O O (zA (zAc O (fun c8=> ?_) (fun c8=> ?_)))))))
   ·obtain⟨j,hj,rfl,hji,hix⟩:=PeerIs.some hf23_3 c8
    refine zR (zD O (zD O (yI (cs:=(MsgD.cells m)) 3 O O O (a_call O O (fun w' hw=>(zKl cb jb t a r b yv qd _ _ ld _ ob _ j m w' ‹_› qN qN hb.qa hj qN hb.each (by have:=hb.qf;omega) (by rw[List.length_append]at hcm;omega) hb.round hb.qj V hb.qe (hw.give [4,0,5,2] O qL) (rd_m.at hw [4,0,5,2] O)).mono ?_)))))
    rintro _ w1 ⟨mv'2_,rv'3_,av'4_,kv'5_,ms6_,rfl,hf25_3,hO⟩
    refine O6 ?_ (hw.qg [4,0,5,2] O hO)
    exact ze (yJ O (fun w' hw=>⟨({t:=xp (xR a b.vs (es.map EntD.toEntA) (zx (zg m.a l j) j (xc a t b.vs (es.map EntD.toEntA) l j r.qc m.a).p) l.qf l.sure) l.qf t,r:={r with qc:=(xc a t b.vs (es.map EntD.toEntA) l j r.qc m.a).qc},lv:=lv,es:=es,y:=some (ld,kw (xR a b.vs (es.map EntD.toEntA) (zx (zg m.a l j) j (xc a t b.vs (es.map EntD.toEntA) l j r.qc m.a).p) l.qf l.sure) kv'5_ {l with qa:=(zx (zg m.a l j) j (xc a t b.vs (es.map EntD.toEntA) l j r.qc m.a).p),av:=av'4_,qe:=l.qe++[(zG l.qa j).2.id],qB:=(xc a t b.vs (es.map EntD.toEntA) l j r.qc m.a).qB}),yv:=yv,yes:=yes}:NdD),(jt (xR a b.vs (es.map EntD.toEntA) (zx (zg m.a l j) j (xc a t b.vs (es.map EntD.toEntA) l j r.qc m.a).p) l.qf l.sure) rv'3_ l.qj ({o with mv:=mv'2_,qk:=o.qk++ms6_}:OutD)),⟨(xc a t b.vs (es.map EntD.toEntA) l j r.qc m.a).ms,if(xR a b.vs (es.map EntD.toEntA) (zx (zg m.a l j) j (xc a t b.vs (es.map EntD.toEntA) l j r.qc m.a).p) l.qf l.sure)=0 then []else(l.qj.filter (fun q=>q.round≤(xR a b.vs (es.map EntD.toEntA) (zx (zg m.a l j) j (xc a t b.vs (es.map EntD.toEntA) l j r.qc m.a).p) l.qf l.sure))).map LookM.rdy,[]⟩,O,(by unfold yX;dsimp only;rw[if_neg k3,if_neg k4,if_neg k5,if_pos k6];exact zIS rfl rfl rfl hix),(by rw[zKa,List.map_append,hf25_3]),zJb,zKd,hw.sel [2,3,4,0,5] O qL⟩))
   have hix:=PeerIs.none hf23_3 c8
   exact yd (yJ O (fun w' hw=>⟨({t:=t,r:=r,lv:=lv,es:=es,y:=some (ld,l),yv:=yv,yes:=yes}:NdD),o,⟨[],[],[]⟩,O,(by unfold yX jh;dsimp only;rw[if_neg k3,if_neg k4,if_neg k5,if_pos k6];show _=(match yV l.er.qa m.src with|none=>_|some k=>_);rw[show yV l.er.qa m.src=none from peerIx_er.trans hix];rfl),(List.append_nil _).symm,(List.append_nil _).symm,O,hw.sel [4,0,5,1,2] O qL⟩))
  obtain rfl:=zBp hro c7
  exact yd (yJ O (fun w' hw=>⟨({t:=t,r:=r,lv:=lv,es:=es,y:=none,yv:=yv,yes:=yes}:NdD),o,⟨[],[],[]⟩,O,(by unfold yX;dsimp only;rw[if_neg k3,if_neg k4,if_neg k5,if_pos k6];rfl),(List.append_nil _).symm,(List.append_nil _).symm,O,hw.sel [0,1,2,3,4] O qL⟩))
theorem zIF{S:List Nat}(cb jb:Nat)(t:TimD)(a:StA)(r:RolD)(b:StB)(yv:Value)(qd:Nat)(lv:Value)(es:List EntD)(ob:Nat)(o:OutD)(y:Option (Nat×LdD))(yes:List Int)(m:MsgD)(w:World)(hg:(LG 0 0 es).good)(hl:es.length≤100000)(hvl:b.vs.length≤12)(hcm:1≤((zc b.vs (es.map EntD.toEntA)).vs++(zc b.vs (es.map EntD.toEntA)).ls).length∧((zc b.vs (es.map EntD.toEntA)).vs++(zc b.vs (es.map EntD.toEntA)).ls).length≤12)(htm:(r.qt=3→1≤t.term)∧t.term≤4611686018427387904)(hen:(LG 0 0 es).end_≤t.term)(hn:0≤t.now∧t.now≤1000000000000000)(hh:0≤t.qz∧t.qz≤1000000000000000)(ho:o.qk.length≤1000)(hrd:o.qx.length≤1000)(ha:a.ok)(hd:qd<18446744073709551616)(hm:m.wf)(hro:r.qt=4↔y.isSome=true)(hld:∀ q,y=some q→q.2.bd)(hy:yes.length≤1000)(hk:(m.kind≠3∧m.kind≠4∧m.kind≠5)∧(m.kind≠6∧m.kind≠7∧m.kind≠8)∧m.kind≠9)(hin:Own w S [z3 cb t (xF y) a r b yv jb qd (pt ob),Res.nl b lv es,Res.lo y,vI yv yes,Res.ou ob o] w)(rd_m:MsgD.rd m w S):Rets Tryz.prog 87 #[pt cb, .agg (MsgD.cells m).toArray] w fun u_ w'=>∃ (n:NdD) (o':OutD) (x:OutA),u_= .tuple #[]∧(n.a,x)=yX a b.vs qd m.a {t:=t,r:=r,E:=es.map EntD.toEntA,ld:=y.map fun q=>q.2.er,yes:=yes}∧o'.qk.map MsgD.a=o.qk.map MsgD.a++x.ms∧o'.qx=o.qx++x.qx∧o'.qr=o.qr∧Own w S [z3 cb n.t (xF n.y) a n.r b n.yv jb qd (pt ob),Res.nl b n.lv n.es,Res.lo n.y,vI n.yv n.yes,Res.ou ob o'] w':=by
  have hme:=hm.qm
  refine zW Tryz.func87 O Tryz.ntmps87 hin ?_
  refine zB (z4 O O (fun b3=>zA (zB (zJ (o:=0) O O (zL 5 (v:=Vi m.kind) O O O O (zA (zX (zB (yS O O O (zI O (zA (xB O V ?_))))))))))))
  refine zB (yS O O O (zI O (zA (xB O V (zN (zB (yS O O O (zI O (zA (xB O V (zR (yS O O O ?_))))))))))))
  refine zI O (zA (xB O V (zN (zB (yS O O O (zI O (zA (xB O V (zR (yS O O O (zI O (zA ?_))))))))))))
  refine xB O V (zB (yS O O O (zI O (zA (xB O V ?_)))))
  exact yd (yJ O (fun w' hw=>⟨({t:=t,r:=r,lv:=lv,es:=es,y:=y,yv:=yv,yes:=yes}:NdD),o,⟨[],[],[]⟩,O,(by unfold yX;dsimp only;rw[if_neg (show ¬ m.a.kind=3 from hk.1.1),if_neg (show ¬ m.a.kind=4 from hk.1.2.1),if_neg (show ¬ m.a.kind=5 from hk.1.2.2),if_neg (show ¬(m.a.kind=6∨m.a.kind=8)from fun q=>q.elim hk.2.1.1 hk.2.1.2.2),if_neg (fun q=>hk.2.2 q.1)];rfl),(List.append_nil _).symm,(List.append_nil _).symm,O,hw.sel [0,1,2,3,4] O qL⟩))
theorem zID{S:List Nat}(cb jb:Nat)(t:TimD)(a:StA)(r:RolD)(b:StB)(yv:Value)(qd:Nat)(lv:Value)(es:List EntD)(ob:Nat)(o:OutD)(y:Option (Nat×LdD))(yes:List Int)(m:MsgD)(w:World)(hg:(LG 0 0 es).good)(hl:es.length≤100000)(hvl:b.vs.length≤12)(hcm:1≤((zc b.vs (es.map EntD.toEntA)).vs++(zc b.vs (es.map EntD.toEntA)).ls).length∧((zc b.vs (es.map EntD.toEntA)).vs++(zc b.vs (es.map EntD.toEntA)).ls).length≤12)(htm:(r.qt=3→1≤t.term)∧t.term≤4611686018427387904)(hen:(LG 0 0 es).end_≤t.term)(hn:0≤t.now∧t.now≤1000000000000000)(hh:0≤t.qz∧t.qz≤1000000000000000)(ho:o.qk.length≤1000)(hrd:o.qx.length≤1000)(ha:a.ok)(hd:qd<18446744073709551616)(hm:m.wf)(hro:r.qt=4↔y.isSome=true)(hld:∀ q,y=some q→q.2.bd)(hy:yes.length≤1000)(hk:m.kind=9)(hin:Own w S [z3 cb t (xF y) a r b yv jb qd (pt ob),Res.nl b lv es,Res.lo y,vI yv yes,Res.ou ob o] w)(rd_m:MsgD.rd m w S):Rets Tryz.prog 87 #[pt cb, .agg (MsgD.cells m).toArray] w fun u_ w'=>∃ (n:NdD) (o':OutD) (x:OutA),u_= .tuple #[]∧(n.a,x)=yX a b.vs qd m.a {t:=t,r:=r,E:=es.map EntD.toEntA,ld:=y.map fun q=>q.2.er,yes:=yes}∧o'.qk.map MsgD.a=o.qk.map MsgD.a++x.ms∧o'.qx=o.qx++x.qx∧o'.qr=o.qr∧Own w S [z3 cb n.t (xF n.y) a n.r b n.yv jb qd (pt ob),Res.nl b n.lv n.es,Res.lo n.y,vI n.yv n.yes,Res.ou ob o'] w':=by
  have hme:=hm.qm
  have k3:=j0 (j:=3) hk qL
  have k4:=j0 (j:=4) hk qL
  have k5:=j0 (j:=5) hk qL
  have k6:¬(m.a.kind=6∨m.a.kind=8):=fun q=>q.elim (j0 hk qL) (j0 hk qL)
  refine zW Tryz.func87 O Tryz.ntmps87 hin ?_
  refine zB (z4 O O (fun b3=>zA (zB (zJ (o:=0) O O (zL 5 (v:=Vi m.kind) O O O O (zA (zX (zB (yS O O O (zI O (zA (xB O V ?_))))))))))))
  refine zB (yS O O O (zI O (zA (xB O V (zN (zB (yS O O O (zI O (zA (xB O V (zR (yS O O O ?_))))))))))))
  refine zI O (zA (xB O V (zN (zB (yS O O O (zI O (zA (xB O V (zR (yS O O O (zI O (zA ?_))))))))))))
  refine xB O V (zB (yS O O O (zI O (zA (jK O hk (zN (zi [0,1,2,3,4,5] O qL qM (fun w' hw hS=>zC 0 O zU hS (zC 2 O zU hS (zC 3 O (zQ O) hS (zC 4 O (zH (o:=10) O) hS (zC 5 O (za 0 (v:=Vi a.id) O O O) hS ?_))))))))))))
  refine zK 1 O hw (a_call O O (fun w' hw=>(xY cb jb t a r b (xF y) yv (pt ob) qd _ _ w' ‹_› qN qN (hw.give [0,1] O qL)).mono ?_))
  rintro _ w1 ⟨cv1_,cw2_,F3_,rfl,hf27_1,hO⟩
  have hFl:F3_.vs.length≤1000∧F3_.ls.length≤1000:=by rw[hf27_1];exact ye V
  refine O8 ?_ (hw.qg [0,1] O hO)
  refine zE [4,5,0,1,2,3] O qL (fun w' hw hS=>zK 6 O hw (a_call O O (fun w' hw=>(zBN ({vv:=cv1_,vs:=F3_.vs,lv:=cw2_,ls:=F3_.ls}:ConfD) a.id w' qO ⟨(hw.qp 6 O),(hw.qp 7 O)⟩).mono ?_)))
  rintro _ w1 ⟨rfl,hO⟩
  refine O8 ?_ (hw.qi hO)
  refine zE [4,5,0,1,2,3] O qL (fun w' hw hS=>zC 7 O zU hS ?_)
  by_cases g27_7:({vv:=cv1_,vs:=F3_.vs,lv:=cw2_,ls:=F3_.ls}:ConfD).ok∧a.id∈({vv:=cv1_,vs:=F3_.vs,lv:=cw2_,ls:=F3_.ls}:ConfD).vs
  ·refine zj 8 O O (gT g27_7) zU hS (zj 9 O O (gT g27_7) (zQ O) hS (zj 10 O O (gT g27_7) (zH (o:=21) O) hS (zj 11 O O (gT g27_7) (za 0 (v:=Vi r.qt) O O O) hS (zj 12 O O (gT g27_7) (zJd O O) hS (zC 13 O (yi (gT g27_7)) hS (zC 14 O zU hS ?_))))))
   by_cases g27_14:r.qt≠4
   ·refine zj 15 O O (gT g27_14) zU hS (zj 16 O O (gT g27_14) (zQ O) hS (zj 17 O O (gT g27_14) (zH (o:=0) O) hS (zj 18 O O (gT g27_14) (zH (o:=0) O) hS (zj 19 O O (gT g27_14) (za 0 (v:=Vn t.term) O O O) hS (zj 20 O O (gT g27_14) (zDH O O) hS (zC 21 O (yi (gT g27_14)) hS (zV ?_)))))))
    refine Oc8 ?_ hw
    refine zY O (fun c8=> ?_) (fun c8=> ?_)
    ·obtain rfl:=zBp hro g27_14
     have hq:(zc b.vs (es.map EntD.toEntA)).ok∧a.id∈(zc b.vs (es.map EntD.toEntA)).vs:=by rw[←hf27_1];exact g27_7
     refine zR (zD O (a_call O O (fun w' hw=>(zEE cb jb t a r b yv qd _ _ ob _ true yes w' ‹_› qN qN qR qN qN qN qN ‹_› qN (hw.give [4,5,2] O qL)).mono ?_)))
     rintro _ w1 ⟨n4_,mv'5_,ms6_,rfl,hf28_1,hO⟩
     refine O10 ?_ (hw.qg [4,5,2] O hO)
     exact ze (yJ O (fun w' hw=>⟨n4_,({o with mv:=mv'5_,qk:=o.qk++ms6_}:OutD),⟨ms6_.map MsgD.a,[],[]⟩,O,(by unfold yX;dsimp only;rw[if_neg k3,if_neg k4,if_neg k5,if_neg k6,if_pos ⟨show m.a.kind=9 from hk,hq,g27_14,by omega⟩];exact zAE hf28_1),List.map_append,(List.append_nil _).symm,O,hw.sel [5,6,7,8,9] O qL⟩))
    exact yd (yJ O (fun w' hw=>⟨({t:=t,r:=r,lv:=lv,es:=es,y:=y,yv:=yv,yes:=yes}:NdD),o,⟨[],[],[]⟩,O,(by unfold yX;dsimp only;rw[if_neg k3,if_neg k4,if_neg k5,if_neg k6,if_neg (fun q=>c8 (by have h:=q.2.2.2;omega))];rfl),(List.append_nil _).symm,(List.append_nil _).symm,O,hw.sel [4,5,0,1,2] O qL⟩))
   refine zZ 15 O O (gF g27_14) O hS (zZ 16 O O (gF g27_14) O hS (zZ 17 O O (gF g27_14) O hS (zZ 18 O O (gF g27_14) O hS (zZ 19 O O (gF g27_14) O hS (zZ 20 O O (gF g27_14) O hS (zC 21 O (yQ (gF g27_14)) hS (zV ?_)))))))
   refine Oc8 ?_ hw
   refine xr O ?_
   exact yd (yJ O (fun w' hw=>⟨({t:=t,r:=r,lv:=lv,es:=es,y:=y,yv:=yv,yes:=yes}:NdD),o,⟨[],[],[]⟩,O,(by unfold yX;dsimp only;rw[if_neg k3,if_neg k4,if_neg k5,if_neg k6,if_neg (fun q=>g27_14 q.2.2.1)];rfl),(List.append_nil _).symm,(List.append_nil _).symm,O,hw.sel [4,5,0,1,2] O qL⟩))
  refine zZ 8 O O (gF g27_7) O hS (zZ 9 O O (gF g27_7) O hS (zZ 10 O O (gF g27_7) O hS (zZ 11 O O (gF g27_7) O hS (zZ 12 O O (gF g27_7) O hS (zC 13 O (yQ (gF g27_7)) hS (zC 14 O zU hS (zZ 15 O O O O hS (zZ 16 O O O O hS (zZ 17 O O O O hS (zZ 18 O O O O hS (zZ 19 O O O O hS (zZ 20 O O O O hS ?_))))))))))))
  refine zC 21 O (yQ O) hS (zV ?_)
  refine Oc8 ?_ hw
  refine xr O ?_
  exact yd (yJ O (fun w' hw=>⟨({t:=t,r:=r,lv:=lv,es:=es,y:=y,yv:=yv,yes:=yes}:NdD),o,⟨[],[],[]⟩,O,(by unfold yX;dsimp only;rw[if_neg k3,if_neg k4,if_neg k5,if_neg k6,if_neg (fun q=>g27_7 (by have h:=q.2.1;rw[←hf27_1]at h;exact h))];rfl),(List.append_nil _).symm,(List.append_nil _).symm,O,hw.sel [4,5,0,1,2] O qL⟩))
theorem zIh{S:List Nat}(cb jb:Nat)(t:TimD)(a:StA)(r:RolD)(b:StB)(yv:Value)(qd:Nat)(lv:Value)(es:List EntD)(ob:Nat)(o:OutD)(y:Option (Nat×LdD))(yes:List Int)(m:MsgD)(w:World)(hg:(LG 0 0 es).good)(hl:es.length≤100000)(hvl:b.vs.length≤12)(hcm:1≤((zc b.vs (es.map EntD.toEntA)).vs++(zc b.vs (es.map EntD.toEntA)).ls).length∧((zc b.vs (es.map EntD.toEntA)).vs++(zc b.vs (es.map EntD.toEntA)).ls).length≤12)(htm:(r.qt=3→1≤t.term)∧t.term≤4611686018427387904)(hen:(LG 0 0 es).end_≤t.term)(hn:0≤t.now∧t.now≤1000000000000000)(hh:0≤t.qz∧t.qz≤1000000000000000)(ho:o.qk.length≤1000)(hrd:o.qx.length≤1000)(ha:a.ok)(hd:qd<18446744073709551616)(hm:m.wf)(hro:r.qt=4↔y.isSome=true)(hld:∀ q,y=some q→q.2.bd)(hy:yes.length≤1000)(hk:m.kind=3)(hin:Own w S [z3 cb t (xF y) a r b yv jb qd (pt ob),Res.nl b lv es,Res.lo y,vI yv yes,Res.ou ob o] w)(rd_m:MsgD.rd m w S):Rets Tryz.prog 87 #[pt cb, .agg (MsgD.cells m).toArray] w fun u_ w'=>∃ (n:NdD) (o':OutD) (x:OutA),u_= .tuple #[]∧(n.a,x)=yX a b.vs qd m.a {t:=t,r:=r,E:=es.map EntD.toEntA,ld:=y.map fun q=>q.2.er,yes:=yes}∧o'.qk.map MsgD.a=o.qk.map MsgD.a++x.ms∧o'.qx=o.qx++x.qx∧o'.qr=o.qr∧Own w S [z3 cb n.t (xF n.y) a n.r b n.yv jb qd (pt ob),Res.nl b n.lv n.es,Res.lo n.y,vI n.yv n.yes,Res.ou ob o'] w':=by
  have hme:=hm.qm
  have hw1:=kz (qd:=qd) ha
  refine zW Tryz.func87 O Tryz.ntmps87 hin ?_
  refine zB (z4 O O (fun b3=>zA (zB (zJ (o:=0) O O (zL 5 (v:=Vi m.kind) O O O O (zA (zX (zB (yS O O O (zI O (zA (jK O hk ?_))))))))))))
  refine yu (fun(ys:Bool)=>[(0,pt cb),(3,pt b3),(4, .bool ys)]) (fun(ys:Bool)=>ys=true↔zDz a m.a {t:=t,r:=r,E:=es.map EntD.toEntA,ld:=y.map fun q=>q.2.er,yes:=yes}) (fun(ys:Bool)=>[z3 cb t (xF y) a r b yv jb qd (pt ob),Res.nl b lv es,Res.lo y,vI yv yes,Res.ou ob o,Res.row b3 59 (MsgD.cells m)]) ?_ (fun ys g hΦ=> ?_)
  ·refine zi [0,1,2,3,4,5] O qL qM (fun w' hw hS=>zC 0 O zU hS (zC 1 O (zQ O) hS (zC 2 O (zH (o:=0) O) hS (zC 3 O (zH (o:=1) O) hS (zC 4 O (za 0 (v:=Vi t.qD) O O O) hS (zC 5 O (zCk O O) hS (zC 6 O zU hS ?_)))))))
   by_cases g3_6:t.qD=0
   ·refine zZ 7 O O (gT g3_6) O hS (zZ 8 O O (gT g3_6) O hS (zZ 9 O O (gT g3_6) O hS (zZ 10 O O (gT g3_6) O hS (zZ 11 O O (gT g3_6) O hS (zZ 12 O O (gT g3_6) O hS (zZ 13 O O (gT g3_6) O hS (zZ 14 O O (gT g3_6) O hS (zC 15 O (yi (gT g3_6)) hS (zC 16 O zU hS (zj 17 O O O zU hS (zj 18 O O O (zQ O) hS (zj 19 O O O (zH (o:=21) O) hS ?_))))))))))))
    refine zj 20 O O O (za 0 (v:=Vi r.qt) O O O) hS (zj 21 O O O (zJd O O) hS (zC 22 O (yi O) hS (zC 23 O zU hS ?_)))
    by_cases g3_23:r.qt≠4
    ·refine zj 24 O O (gT g3_23) zU hS (zj 25 O O (gT g3_23) (zQ O) hS (zj 26 O O (gT g3_23) (zH (o:=29) O) hS (zj 27 O O (gT g3_23) (za 0 (v:=pt b.lb) O O O) hS (zj 28 O O (gT g3_23) (zH (o:=4) O) hS (zj 29 O O (gT g3_23) (za 5 (v:=Vn m.index) O O O) hS (zj 30 O O (gT g3_23) (zH (o:=5) O) hS (zj 31 O O (gT g3_23) (za 5 (v:=Vn m.ql) O O O) hS (zK 32 O hw (zS O (gT g3_23) (a_call O O (fun w' hw=>(zEk b.lb 0 0 lv es m.index m.ql w' qO qN (hw.qE 1 0 O O) (hw.qG 1 1 O O) (EntD.rd.qE 1 2 O O hw)).mono ?_)))))))))))
     rintro _ w1 ⟨rfl,hO⟩
     refine O6 ?_ (hw.qi hO)
     refine zE [0,1,2,3,4,5] O qL (fun w' hw hS=>zC 33 O (yi (gT g3_23)) hS (zC 34 O zU hS ?_))
     by_cases g3_34:(LG 0 0 es).fresh m.index m.ql
     ·refine zj 35 O O (gT g3_34) (zH (o:=8) O) hS (zj 36 O O (gT g3_34) (za 5 (v:= .bool m.flag) O O O) hS (zj 37 O O (gT g3_34) zU hS ?_))
      by_cases g3_37:m.flag=true
      ·refine zZ 38 O O (bT g3_37) O hS (zZ 39 O O (bT g3_37) O hS (zZ 40 O O (bT g3_37) O hS (zj 41 O O (gT g3_34) (yi (bT g3_37)) hS (zC 42 O (yi (gT g3_34)) hS (zC 43 O yN hS (zV ?_))))))
       exact⟨true,⟨O,O,O,trivial⟩,⟨fun _=>⟨.inl g3_6,g3_23,g3_34, .inl g3_37⟩,fun _=>O⟩,hw⟩
      refine zj 38 O O (bF g3_37) zU hS (zK 39 O hw (zS O (bF g3_37) (a_call O O (fun w' hw=>(zAw cb jb t a r b (xF y) yv (pt ob) qd w' qN qN (hw.give [0] O qL)).mono ?_))))
      rintro _ w1 ⟨rfl,hO⟩
      refine O6 ?_ (hw.qg [0] O hO)
      refine zE [5,0,1,2,3,4] O qL (fun w' hw hS=>zj 40 O O (bF g3_37) (xd (q:=t.now - t.qz<a.base) O) hS (zj 41 O O (gT g3_34) (yQ (bF g3_37)) hS (zC 42 O (yi (gT g3_34)) hS (zC 43 O yN hS (zV ?_)))))
      exact⟨decide (¬(t.now - t.qz<a.base)),⟨O,O,O,trivial⟩,⟨fun h=>⟨.inl g3_6,g3_23,g3_34, .inr (of_decide_eq_true h)⟩,fun h=>decide_eq_true (h.2.2.2.resolve_left g3_37)⟩,hw.sel [5,0,1,2,3,4] O qL⟩
     refine zZ 35 O O (gF g3_34) O hS (zZ 36 O O (gF g3_34) O hS (zZ 37 O O (gF g3_34) O hS (ki 38 O O O hS (ki 39 O O O hS (ki 40 O O O hS (zZ 41 O O (gF g3_34) O hS (zC 42 O (yQ (gF g3_34)) hS (zC 43 O yN hS (zV ?_)))))))))
     exact⟨false,⟨O,O,O,trivial⟩,⟨fun h=>absurd h qL,fun h=>absurd h.2.2.1 g3_34⟩,hw⟩
    refine zZ 24 O O (gF g3_23) O hS (zZ 25 O O (gF g3_23) O hS (zZ 26 O O (gF g3_23) O hS (zZ 27 O O (gF g3_23) O hS (zZ 28 O O (gF g3_23) O hS (zZ 29 O O (gF g3_23) O hS (zZ 30 O O (gF g3_23) O hS (zZ 31 O O (gF g3_23) O hS (zZ 32 O O (gF g3_23) O hS (zC 33 O (yQ (gF g3_23)) hS (zC 34 O zU hS (zZ 35 O O O O hS (zZ 36 O O O O hS ?_))))))))))))
    refine zZ 37 O O O O hS (ki 38 O O O hS (ki 39 O O O hS (ki 40 O O O hS (zZ 41 O O O O hS (zC 42 O (yQ O) hS (zC 43 O yN hS (zV ?_)))))))
    exact⟨false,⟨O,O,O,trivial⟩,⟨fun h=>absurd h qL,fun h=>absurd h.2.1 g3_23⟩,hw⟩
   refine zj 7 O O (gF g3_6) zU hS (zj 8 O O (gF g3_6) (zQ O) hS (zj 9 O O (gF g3_6) (zH (o:=0) O) hS (zj 10 O O (gF g3_6) (zH (o:=1) O) hS (zj 11 O O (gF g3_6) (za 0 (v:=Vi t.qD) O O O) hS (zj 12 O O (gF g3_6) (zH (o:=1) O) hS (zj 13 O O (gF g3_6) (za 5 (v:=Vi m.src) O O O) hS (zj 14 O O (gF g3_6) (zCk O O) hS (zC 15 O (yQ (gF g3_6)) hS (zC 16 O zU hS ?_)))))))))
   by_cases g3_16:t.qD=m.src
   ·refine zj 17 O O (gT g3_16) zU hS (zj 18 O O (gT g3_16) (zQ O) hS (zj 19 O O (gT g3_16) (zH (o:=21) O) hS (zj 20 O O (gT g3_16) (za 0 (v:=Vi r.qt) O O O) hS (zj 21 O O (gT g3_16) (zJd O O) hS (zC 22 O (yi (gT g3_16)) hS (zC 23 O zU hS ?_))))))
    by_cases g3_23:r.qt≠4
    ·refine zj 24 O O (gT g3_23) zU hS (zj 25 O O (gT g3_23) (zQ O) hS (zj 26 O O (gT g3_23) (zH (o:=29) O) hS (zj 27 O O (gT g3_23) (za 0 (v:=pt b.lb) O O O) hS (zj 28 O O (gT g3_23) (zH (o:=4) O) hS (zj 29 O O (gT g3_23) (za 5 (v:=Vn m.index) O O O) hS (zj 30 O O (gT g3_23) (zH (o:=5) O) hS (zj 31 O O (gT g3_23) (za 5 (v:=Vn m.ql) O O O) hS (zK 32 O hw (zS O (gT g3_23) (a_call O O (fun w' hw=>(zEk b.lb 0 0 lv es m.index m.ql w' qO qN (hw.qE 1 0 O O) (hw.qG 1 1 O O) (EntD.rd.qE 1 2 O O hw)).mono ?_)))))))))))
     rintro _ w1 ⟨rfl,hO⟩
     refine O6 ?_ (hw.qi hO)
     refine zE [0,1,2,3,4,5] O qL (fun w' hw hS=>zC 33 O (yi (gT g3_23)) hS (zC 34 O zU hS ?_))
     by_cases g3_34:(LG 0 0 es).fresh m.index m.ql
     ·refine zj 35 O O (gT g3_34) (zH (o:=8) O) hS (zj 36 O O (gT g3_34) (za 5 (v:= .bool m.flag) O O O) hS (zj 37 O O (gT g3_34) zU hS ?_))
      by_cases g3_37:m.flag=true
      ·refine zZ 38 O O (bT g3_37) O hS (zZ 39 O O (bT g3_37) O hS (zZ 40 O O (bT g3_37) O hS (zj 41 O O (gT g3_34) (yi (bT g3_37)) hS (zC 42 O (yi (gT g3_34)) hS (zC 43 O yN hS (zV ?_))))))
       exact⟨true,⟨O,O,O,trivial⟩,⟨fun _=>⟨.inr g3_16,g3_23,g3_34, .inl g3_37⟩,fun _=>O⟩,hw⟩
      refine zj 38 O O (bF g3_37) zU hS (zK 39 O hw (zS O (bF g3_37) (a_call O O (fun w' hw=>(zAw cb jb t a r b (xF y) yv (pt ob) qd w' qN qN (hw.give [0] O qL)).mono ?_))))
      rintro _ w1 ⟨rfl,hO⟩
      refine O6 ?_ (hw.qg [0] O hO)
      refine zE [5,0,1,2,3,4] O qL (fun w' hw hS=>zj 40 O O (bF g3_37) (xd (q:=t.now - t.qz<a.base) O) hS (zj 41 O O (gT g3_34) (yQ (bF g3_37)) hS (zC 42 O (yi (gT g3_34)) hS (zC 43 O yN hS (zV ?_)))))
      exact⟨decide (¬(t.now - t.qz<a.base)),⟨O,O,O,trivial⟩,⟨fun h=>⟨.inr g3_16,g3_23,g3_34, .inr (of_decide_eq_true h)⟩,fun h=>decide_eq_true (h.2.2.2.resolve_left g3_37)⟩,hw.sel [5,0,1,2,3,4] O qL⟩
     refine zZ 35 O O (gF g3_34) O hS (zZ 36 O O (gF g3_34) O hS (zZ 37 O O (gF g3_34) O hS (ki 38 O O O hS (ki 39 O O O hS (ki 40 O O O hS (zZ 41 O O (gF g3_34) O hS (zC 42 O (yQ (gF g3_34)) hS (zC 43 O yN hS (zV ?_)))))))))
     exact⟨false,⟨O,O,O,trivial⟩,⟨fun h=>absurd h qL,fun h=>absurd h.2.2.1 g3_34⟩,hw⟩
    refine zZ 24 O O (gF g3_23) O hS (zZ 25 O O (gF g3_23) O hS (zZ 26 O O (gF g3_23) O hS (zZ 27 O O (gF g3_23) O hS (zZ 28 O O (gF g3_23) O hS (zZ 29 O O (gF g3_23) O hS (zZ 30 O O (gF g3_23) O hS (zZ 31 O O (gF g3_23) O hS (zZ 32 O O (gF g3_23) O hS (zC 33 O (yQ (gF g3_23)) hS (zC 34 O zU hS (zZ 35 O O O O hS (zZ 36 O O O O hS ?_))))))))))))
    refine zZ 37 O O O O hS (ki 38 O O O hS (ki 39 O O O hS (ki 40 O O O hS (zZ 41 O O O O hS (zC 42 O (yQ O) hS (zC 43 O yN hS (zV ?_)))))))
    exact⟨false,⟨O,O,O,trivial⟩,⟨fun h=>absurd h qL,fun h=>absurd h.2.1 g3_23⟩,hw⟩
   refine zZ 17 O O (gF g3_16) O hS (zZ 18 O O (gF g3_16) O hS (zZ 19 O O (gF g3_16) O hS (zZ 20 O O (gF g3_16) O hS (zZ 21 O O (gF g3_16) O hS (zC 22 O (yQ (gF g3_16)) hS (zC 23 O zU hS (zZ 24 O O O O hS (zZ 25 O O O O hS (zZ 26 O O O O hS (zZ 27 O O O O hS (zZ 28 O O O O hS (zZ 29 O O O O hS ?_))))))))))))
   refine zZ 30 O O O O hS (zZ 31 O O O O hS (zZ 32 O O O O hS (zC 33 O (yQ O) hS (zC 34 O zU hS (zZ 35 O O O O hS (zZ 36 O O O O hS (zZ 37 O O O O hS (ki 38 O O O hS (ki 39 O O O hS (ki 40 O O O hS (zZ 41 O O O O hS (zC 42 O (yQ O) hS ?_))))))))))))
   refine zC 43 O yN hS (zV ?_)
   exact⟨false,⟨O,O,O,trivial⟩,⟨fun h=>absurd h qL,fun h=>(h.1.elim g3_6 g3_16).elim⟩,hw⟩
  have hys:ys=decide (zDz a m.a _):=zEu hΦ
  refine yu (fun(t':TimD)=>[(0,pt cb),(3,pt b3),(4, .bool ys)]) (fun(t':TimD)=>t'=if ys=true then({t with qD:=m.src,due:=t.now+yw a qd}:TimD)else t) (fun(t':TimD)=>[z3 cb t' (xF y) a r b yv jb qd (pt ob),Res.nl b lv es,Res.lo y,vI yv yes,Res.ou ob o,Res.row b3 59 (MsgD.cells m)]) ?_ (fun t' g hΦ=> ?_)
  ·refine zB (zD O (zA (zAc O (fun c2=> ?_) (fun c2=> ?_))))
   ·refine zB (zD O (zJ (o:=1) O O (zL 5 (v:=Vi m.src) O O O O (zb O O (zJ (o:=0) O O (zJ (o:=1) O O (zn 0 O O O O O (zA (zi [1,2,3,4,5] O qL qM (fun w' hw hS=>zC 0 O zU hS (zC 1 O zU hS (zC 2 O (zQ O) hS ?_))))))))))))
    refine zC 3 O (zH (o:=2) O) hS (zC 4 O (zH (o:=0) O) hS (zC 6 O zU hS (zw 5 7 ?_ ?_)))
    ·refine zm 5 O hw (zL 0 (v:=Vi t.now) O O O O (zE [1,2,3,4,5] O qL (fun w' hw hS=>zK 7 O hw (a_call O O (fun w' hw=>(kW cb jb ({t with qD:=m.src}:TimD) a r b (xF y) yv (pt ob) qd w' ‹_› qN (hw.give [0] O qL)).mono ?_)))))
     rintro _ w1 ⟨rfl,hO⟩
     refine O6 ?_ (hw.qg [0] O hO)
     refine zE [0,1,2,3,4] O qL (fun w' hw hS=>zC 8 O (yo O O (zu V)) hS (zC 9 O (zQ O) hS (zC 10 O (zH (o:=2) O) hS (zC 11 O (zH (o:=2) O) hS (zK 12 O hw (zn 5 O O O O O (zE [0,1,2,3,4] O qL (fun w' hw hS=>zV ?_))))))))
     exact⟨({t with qD:=m.src,due:=t.now+yw a qd}:TimD),⟨O,O,O,trivial⟩,(if_pos c2).symm,hw.sel [5,0,1,2,3,4] O qL⟩
    refine zm 7 O hw (a_call O O (fun w' hw=>(kW cb jb ({t with qD:=m.src}:TimD) a r b (xF y) yv (pt ob) qd w' ‹_› qN (hw.give [0] O qL)).mono ?_))
    rintro _ w1 ⟨rfl,hO⟩
    refine O6 ?_ (hw.qg [0] O hO)
    refine zE [0,1,2,3,4] O qL (fun w' hw hS=>zK 5 O hw (zL 5 (v:=Vi t.now) O O O O (zE [0,1,2,3,4] O qL (fun w' hw hS=>zC 8 O (yo O O (zu V)) hS (zC 9 O (zQ O) hS (zC 10 O (zH (o:=2) O) hS (zC 11 O (zH (o:=2) O) hS (zK 12 O hw (zn 5 O O O O O (zE [0,1,2,3,4] O qL (fun w' hw hS=>zV ?_)))))))))))
    exact⟨({t with qD:=m.src,due:=t.now+yw a qd}:TimD),⟨O,O,O,trivial⟩,(if_pos c2).symm,hw.sel [5,0,1,2,3,4] O qL⟩
   exact yd (fun w' hw=>⟨t,⟨O,O,O,trivial⟩,(if_neg (by rw[c2];decide)).symm,hw⟩)
  have ht':=hΦ
  have htt:t'.term=t.term:=by rw[ht'];split<;>rfl
  refine zR (zD O (zJ (o:=1) O O (zL 5 (v:=Vi m.src) O O O O (zD O (yc (cs:=[Vi 4,Vi 0,Vi m.src,Vn 0,Vn 0,Vn 0,Vn 0,Vn 0, .bool ys, .slice none 0 0, .slice none 0 0, .slice none 0 0,Vi 0, .slice none 0 0]) (z:=[Vi 0,Vi 0,Vi 0,Vn 0,Vn 0,Vn 0,Vn 0,Vn 0, .bool false, .slice none 0 0, .slice none 0 0, .slice none 0 0,Vi 0, .slice none 0 0]) (pl:=[(0,1),(1,1),(2,1),(3,1),(4,1),(5,1),(6,1),(7,1),(8,1),(9,1),(10,2),(12,1),(13,1)]) qM qM O (zy (e:=59) (sz:=14) (vs:=[.agg #[Vi 4,Vi 0,Vi m.src,Vn 0,Vn 0,Vn 0,Vn 0,Vn 0, .bool ys, .slice none 0 0, .slice none 0 0, .slice none 0 0,Vi 0, .slice none 0 0]]) qM O O qX qL O (fun b77=> ?_)))))))
  refine z2 [z3 cb t' (xF y) a r b yv jb qd (pt ob),Res.nl b lv es,Res.lo y,vI yv yes,Res.ou ob o,Res.row b3 59 (MsgD.cells m),vM (.slice (some ⟨b77,0,none⟩) 1 1) [(yn 4 0 m.src 0 0 0 0 0 ys (.slice none 0 0) [])],sM [(yn 4 0 m.src 0 0 0 0 0 ys (.slice none 0 0) [])]] (fun w' hw=>hw.msg0 ⟨O,O,O⟩ O O) ?_
  refine a_call O O (fun w' hw=>(kj cb jb t' a r b (xF y) yv qd ob _ (.slice (some ⟨b77,0,none⟩) 1 1) [(yn 4 0 m.src 0 0 0 0 0 ys (.slice none 0 0) [])] w' qR (hw.give [0,4,6,7] O qL)).mono ?_)
  rintro _ w1 ⟨mv'1_,rfl,hO⟩
  refine O6 ?_ (hw.qg [0,4,6,7] O hO)
  exact ze (yJ O (fun w' hw=>⟨({t:=t',r:=r,lv:=lv,es:=es,y:=y,yv:=yv,yes:=yes}:NdD),({o with mv:=mv'1_,qk:=o.qk++[yb a t'.term (yn 4 0 m.src 0 0 0 0 0 ys (.slice none 0 0) [])]}:OutD),⟨[one a 4 m.src t.term ys],[],[]⟩,O,(by unfold yX;dsimp only;rw[if_pos (show m.a.kind=3 from hk),←hys,ht'];by_cases q:ys=true;(rw[if_pos q,if_pos (of_decide_eq_true (hys.symm.trans q))];rfl);(rw[if_neg q,if_neg (fun v=>q (hys.trans (decide_eq_true v)))];rfl)),(by rw[List.map_append,zCm (show(4:Int)≠1∧(4:Int)≠2 by decide),htt];rfl),(List.append_nil _).symm,O,hw.sel [4,0,1,2,5] O qL⟩))
end Go.Proofs.YtkkeknmkipkbmaaGreat
