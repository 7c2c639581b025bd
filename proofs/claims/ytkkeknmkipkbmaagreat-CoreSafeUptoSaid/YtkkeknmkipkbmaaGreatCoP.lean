import Derived.Test.YtkkeknmkipkbmaaGreatCoO
set_option linter.unusedSectionVars false
set_option linter.unusedSimpArgs false
set_option linter.unusedVariables false
set_option maxRecDepth 10000
namespace Go.Proofs.YtkkeknmkipkbmaaGreat
open Go Go.Sc Go.Proofs
structure OutA where
  ms:List MsgA
  qx:List RdyD
  qq:List Nat
structure LdD.bd(l:LdD):Prop where
  qa:l.qa.length≤1000
  each:∀ p∈l.qa,p.2.bd 1000000
  round:∀ p∈l.qa,p.2.round≤l.qf.length
  qf:l.qf.length≤900000
  qk:l.qk.length≤10000
  qe:l.qe.length≤1000000
def jw(a:StA)(vs0:List Int)(m:MsgA)(n:NodA)(l:LdD):NodA×OutA:=
  match yV l.qa m.src with
  |none=>(n,⟨[],[],[]⟩)
  |some k=>
    let x:=xl a n.t vs0 n.E l k n.r.qc m
    let N:=xU a vs0 n.E (zx (zh m l k) k x.p) l.qf l.sure
    ({n with t:=xu N l.qf n.t,r:={n.r with qc:=x.qc},ld:=some (ko N (.slice none 0 0) {l with qa:=zx (zh m l k) k x.p,qe:=l.qe++[(zG l.qa k).2.id],qC:=x.qC})},⟨x.ms,if N=0 then []else(l.qk.filter (fun q=>q.round≤N)).map LookM.rdy,[]⟩)
def zEY(a:StA)(m:MsgA)(n:NodA):Prop:=(n.t.qD=0∨n.t.qD=m.src)∧n.r.qr≠4∧(LogA.mk 0 0 n.E).fresh m.index m.qm∧(m.flag=true∨¬ n.t.now - n.t.qA<a.base)
instance (a:StA)(m:MsgA)(n:NodA):Decidable (zEY a m n):=inferInstanceAs (Decidable (_∧_))
def one(a:StA)(kind dst:Int)(term:Nat)(flag:Bool):MsgA:=⟨kind,a.id,dst,term,0,0,0,0,flag,[],⟨[],[]⟩,0,[]⟩
def zAx(x:NodA×List MsgA):NodA×OutA:=(x.1,⟨x.2,[],[]⟩)
def yY(a:StA)(vs0:List Int)(qd:Nat)(m:MsgA)(n:NodA):NodA×OutA:=
  if m.kind=3 then(if zEY a m n then{n with t:={n.t with qD:=m.src,due:=n.t.now+yz a qd}}else n,⟨[one a 4 m.src n.t.term (decide (zEY a m n))],[],[]⟩)
  else if m.kind=4 then
    if n.r.qr=3∧m.flag=true then
      let n1:={n with yes:=y4 (zc vs0 n.E) n.yes m.src}
      if((zc vs0 n.E).ok∧m.src∈(zc vs0 n.E).vs)∧(zc vs0 n.E).qv n1.yes then zAx (jO a vs0 n1)else(n1,⟨[],[],[]⟩)
    else(n,⟨[],[],[]⟩)
  else if m.kind=5 then
    if n.r.qr=4 then(n,⟨[],[],[]⟩)
    else zAx (kw a m {n with t:={n.t with qA:=n.t.now,due:=n.t.now+yz a qd},r:=⟨1,m.src,n.r.qc⟩,ld:=none,yes:=[]})
  else if m.kind=6∨m.kind=8 then
    match n.ld with
    |none=>(n,⟨[],[],[]⟩)
    |some l=>jw a vs0 m n l
  else if m.kind=9∧((zc vs0 n.E).ok∧a.id∈(zc vs0 n.E).vs)∧n.r.qr≠4∧n.t.term<4611686018427387904 then zAx (zAF a vs0 qd true n)
  else(n,⟨[],[],[]⟩)
theorem zAY{n:NodA}{l:List MsgA}{x:NodA×List MsgA}(h:(n,l)=x):(n,(⟨l,[],[]⟩:OutA))=zAx x:=by rw[←h];rfl
theorem zFR{b:Bool}{P:Prop}[Decidable P](h:b=true↔P):b=decide P:=by
  by_cases q:P
  · rw[decide_eq_true q,h.2 q]
  rw[decide_eq_false q];cases b
  · rfl
  exact absurd (h.1 rfl) q
theorem zCR{y:Option (Nat×LdD)}{r:RolD}(h:r.qr=4↔y.isSome=true)(h2:¬ r.qr=4):y=none:=by
  cases y with
  |none=>rfl
  |some q=>exact absurd (h.2 rfl) h2
theorem j9{m:MsgD}{k j:Int}(h:m.kind=k)(h2:k≠j):¬ m.a.kind=j:=fun q=>h2 (h.symm.trans q)
theorem zLa{l:LdD}{p:PeerM}{n:Nat}{g:Bool}:y3 l.er p n g=y3 l p n g:=rfl
theorem zGR{m:MsgA}{l:LdD}{k:Nat}:zh m l.er k=er (zh m l k):=by
  unfold zh
  rw[zE2,show l.er.qa=er l.qa from rfl,zDS];rfl
theorem zNc{a:StA}{t:TimD}{vs0:List Int}{E:List EntA}{l:LdD}{k qc:Nat}{m:MsgA}:xl a t vs0 E l.er k qc m=xl a t vs0 E l k qc m:=by
  unfold xl
  simp only[zGR,zDS,←zE2,zB6,zLa]
  rfl
theorem zKy{n:Nat}{kv:Value}{l:LdD}:(ko n kv l).er=ko n (.slice none 0 0) l.er:=by unfold ko;split<;>rfl
theorem zIo{a:StA}{t:TimD}{r:RolD}{vs0:List Int}{lv yv kv av:Value}{es:List EntD}{yes:List Int}{ld:Nat}{l:LdD}{j:Nat}{m:MsgA}{x:AnsR}{P:List PeerP}{N:Nat}(hx:x=xl a t vs0 (es.map EntD.toEntA) l j r.qc m)(hP:P=zx (zh m l j) j x.p)(hN:N=xU a vs0 (es.map EntD.toEntA) P l.qf l.sure)(hix:yV l.qa m.src=some j):
    ((({t:=xu N l.qf t,r:={r with qc:=x.qc},lv:=lv,es:=es,y:=some (ld,ko N kv {l with qa:=P,av:=av,qe:=l.qe++[(zG l.qa j).2.id],qC:=x.qC}),yv:=yv,yes:=yes}:NdD).a,(⟨x.ms,if N=0 then []else(l.qk.filter (fun q=>q.round≤N)).map LookM.rdy,[]⟩:OutA)):NodA×OutA)=jw a vs0 m {t:=t,r:=r,E:=es.map EntD.toEntA,ld:=some l.er,yes:=yes} l.er:=by
  unfold jw
  rw[show yV l.er.qa m.src=some j from peerIx_er.trans hix]
  dsimp only
  have e1:zx (zh m l.er j) j x.p=er P:=by rw[zGR,←zE2,hP]
  rw[zNc,←hx,e1,zLz,show xU a vs0 (es.map EntD.toEntA) P l.er.qf l.er.sure=N from hN.symm]
  unfold NdD.a
  rw[Option.map_some,zKy,show(zG l.er.qa j).2=(zG l.qa j).2 from zDS]
  rfl
theorem zMJ{n:Nat}{rv:Value}{qk:List LookM}{o:OutD}:(zAL n rv qk o).qj=o.qj:=by unfold zAL;split<;>rfl
theorem zKU{n:Nat}{rv:Value}{qk:List LookM}{o:OutD}:(zAL n rv qk o).qq=o.qq:=by unfold zAL;split<;>rfl
theorem zKh{n:Nat}{rv:Value}{qk:List LookM}{o:OutD}:(zAL n rv qk o).qx=o.qx++(if n=0 then []else(qk.filter (fun q=>q.round≤n)).map LookM.rdy):=by
  unfold zAL
  split
  · rw[List.append_nil]
  rfl
theorem zJw{S:List Nat}(cb jb:Nat)(t:TimD)(a:StA)(r:RolD)(b:StB)(yv:Value)(qd:Nat)(lv:Value)(es:List EntD)(ob:Nat)(o:OutD)(y:Option (Nat×LdD))(yes:List Int)(m:MsgD)(w:World)(hg:(LG 0 0 es).good)(hl:es.length≤100000)(hvl:b.vs.length≤12)(hcm:1≤((zc b.vs (es.map EntD.toEntA)).vs++(zc b.vs (es.map EntD.toEntA)).ls).length∧((zc b.vs (es.map EntD.toEntA)).vs++(zc b.vs (es.map EntD.toEntA)).ls).length≤12)(htm:(r.qr=3→1≤t.term)∧t.term≤4611686018427387904)(hen:(LG 0 0 es).end_≤t.term)(hn:0≤t.now∧t.now≤1000000000000000)(hh:0≤t.qA∧t.qA≤1000000000000000)(ho:o.qj.length≤1000)(hrd:o.qx.length≤1000)(ha:a.ok)(hd:qd<18446744073709551616)(hm:m.wf)(hro:r.qr=4↔y.isSome=true)(hld:∀ q,y=some q→q.2.bd)(hy:yes.length≤1000)(hk:m.kind=4)(hin:Own w S [z4 cb t (xJ y) a r b yv jb qd (pt ob),Res.nl b lv es,Res.lo y,vI yv yes,Res.ou ob o] w)(rd_m:MsgD.rd m w S):Rets Tryz.prog 87 #[pt cb, .agg (MsgD.cells m).toArray] w fun u_ w'=>∃ (n:NdD) (o':OutD) (x:OutA),u_= .tuple #[]∧(n.a,x)=yY a b.vs qd m.a {t:=t,r:=r,E:=es.map EntD.toEntA,ld:=y.map fun q=>q.2.er,yes:=yes}∧o'.qj.map MsgD.a=o.qj.map MsgD.a++x.ms∧o'.qx=o.qx++x.qx∧o'.qq=o.qq∧Own w S [z4 cb n.t (xJ n.y) a n.r b n.yv jb qd (pt ob),Res.nl b n.lv n.es,Res.lo n.y,vI n.yv n.yes,Res.ou ob o'] w':=by
  have hme:=hm.ql
  have k3:=j9 (j:=3) hk qM
  have k4:m.a.kind=4:=hk
  refine zW Tryz.func87 O Tryz.ntmps87 hin ?_
  refine zB (z3 O O (fun b3=>zA (zB (zJ (o:=0) O O (zL 5 (v:=Vi m.kind) O O O O (zA (zX (zB (yQ O O O (zI O (zA (xD O V ?_))))))))))))
  refine zB (yQ O O O (zI O (zA (je O hk (zB (zD O (za O O (zJ (o:=21) O O (zL 0 (v:=Vi r.qr) O O O O (yQ O O O (zD O (yK (q:=r.qr=3) 2 5 [88,87] (m.flag=true) O O O O O O trivial O (fun h9_5=> ?_) (fun g9_8=> ?_)))))))))))))
  ·refine zR O (gT h9_5) (zJ (o:=8) O O (zR O (gT h9_5) (zL 5 (v:= .bool m.flag) O O O O ?_)))
   exact yP (xZ _) (fun _ hw=>hw)
  refine zD O ?_
  by_cases s9_9:(r.qr=3)∧(m.flag=true)
  ·have s1:r.qr=3∧m.a.flag=true:=s9_9
   refine zR O (gT s9_9) (zD O (zR O (gT s9_9) (zJ (o:=1) O O (zR O (gT s9_9) (zL 5 (v:=Vi m.src) O O O O (zR O (gT s9_9) (a_call O O (fun w' hw=>(zH3 cb jb t a r b (xJ y) yv (pt ob) qd _ _ yes m.src w' ‹_› qO qO qO (hw.give [0,1,3] O qM)).mono ?_))))))))
   rintro _ w1 ⟨yv'1_,rfl,hO⟩
   refine O6 ?_ (hw.qg [0,1,3] O hO)
   refine zMW (gT s9_9) O (zA (zY O (fun c3=> ?_) (fun c3=> ?_)))
   ·have s2:(((zc b.vs (es.map EntD.toEntA)).ok∧m.a.src∈(zc b.vs (es.map EntD.toEntA)).vs)∧(zc b.vs (es.map EntD.toEntA)).qv (y4 (zc b.vs (es.map EntD.toEntA)) yes m.a.src)):=c3
    obtain rfl:=zCR hro V
    refine zS (zD O (a_call O O (fun w' hw=>(zFl cb jb t a r b yv'1_ qd _ _ ob _ (y4 (zc b.vs (es.map EntD.toEntA)) yes m.src) w' ‹_› qO qO qS ⟨htm.1 s9_9.1,htm.2⟩ qO qO qO (hw.give [3,4,1] O qM)).mono ?_)))
    rintro _ w1 ⟨n2_,mv'3_,ms4_,rfl,hf10_1,hO⟩
    refine O8 ?_ (hw.qg [3,4,1] O hO)
    exact zd (yJ O (fun w' hw=>⟨n2_,({o with mv:=mv'3_,qj:=o.qj++ms4_}:OutD),⟨ms4_.map MsgD.a,[],[]⟩,O,(by unfold yY;dsimp only;rw[if_neg k3,if_pos k4,if_pos s1,if_pos s2];exact zAY hf10_1),List.map_append,(List.append_nil _).symm,O,hw.sel [3,4,5,6,7] O qM⟩))
   have s2:¬(((zc b.vs (es.map EntD.toEntA)).ok∧m.a.src∈(zc b.vs (es.map EntD.toEntA)).vs)∧(zc b.vs (es.map EntD.toEntA)).qv (y4 (zc b.vs (es.map EntD.toEntA)) yes m.a.src)):=c3
   exact yc (yJ O (fun w' hw=>⟨({t:=t,r:=r,lv:=lv,es:=es,y:=y,yv:=yv'1_,yes:=(y4 (zc b.vs (es.map EntD.toEntA)) yes m.src)}:NdD),o,⟨[],[],[]⟩,O,(by unfold yY;dsimp only;rw[if_neg k3,if_pos k4,if_pos s1,if_neg s2];rfl),(List.append_nil _).symm,(List.append_nil _).symm,O,hw.sel [3,4,0,5,1] O qM⟩))
  have s1:¬(r.qr=3∧m.a.flag=true):=s9_9
  refine zAs O (gF s9_9) O O (zAs O (gF s9_9) O O (zAs O (gF s9_9) O O (zAs O (gF s9_9) O O (js (gF s9_9) O (zA (xt O ?_))))))
  exact yc (yJ O (fun w' hw=>⟨({t:=t,r:=r,lv:=lv,es:=es,y:=y,yv:=yv,yes:=yes}:NdD),o,⟨[],[],[]⟩,O,(by unfold yY;dsimp only;rw[if_neg k3,if_pos k4,if_neg s1];rfl),(List.append_nil _).symm,(List.append_nil _).symm,O,hw.sel [0,1,2,3,4] O qM⟩))
theorem zJn{S:List Nat}(cb jb:Nat)(t:TimD)(a:StA)(r:RolD)(b:StB)(yv:Value)(qd:Nat)(lv:Value)(es:List EntD)(ob:Nat)(o:OutD)(y:Option (Nat×LdD))(yes:List Int)(m:MsgD)(w:World)(hg:(LG 0 0 es).good)(hl:es.length≤100000)(hvl:b.vs.length≤12)(hcm:1≤((zc b.vs (es.map EntD.toEntA)).vs++(zc b.vs (es.map EntD.toEntA)).ls).length∧((zc b.vs (es.map EntD.toEntA)).vs++(zc b.vs (es.map EntD.toEntA)).ls).length≤12)(htm:(r.qr=3→1≤t.term)∧t.term≤4611686018427387904)(hen:(LG 0 0 es).end_≤t.term)(hn:0≤t.now∧t.now≤1000000000000000)(hh:0≤t.qA∧t.qA≤1000000000000000)(ho:o.qj.length≤1000)(hrd:o.qx.length≤1000)(ha:a.ok)(hd:qd<18446744073709551616)(hm:m.wf)(hro:r.qr=4↔y.isSome=true)(hld:∀ q,y=some q→q.2.bd)(hy:yes.length≤1000)(hk:m.kind=5)(hin:Own w S [z4 cb t (xJ y) a r b yv jb qd (pt ob),Res.nl b lv es,Res.lo y,vI yv yes,Res.ou ob o] w)(rd_m:MsgD.rd m w S):Rets Tryz.prog 87 #[pt cb, .agg (MsgD.cells m).toArray] w fun u_ w'=>∃ (n:NdD) (o':OutD) (x:OutA),u_= .tuple #[]∧(n.a,x)=yY a b.vs qd m.a {t:=t,r:=r,E:=es.map EntD.toEntA,ld:=y.map fun q=>q.2.er,yes:=yes}∧o'.qj.map MsgD.a=o.qj.map MsgD.a++x.ms∧o'.qx=o.qx++x.qx∧o'.qq=o.qq∧Own w S [z4 cb n.t (xJ n.y) a n.r b n.yv jb qd (pt ob),Res.nl b n.lv n.es,Res.lo n.y,vI n.yv n.yes,Res.ou ob o'] w':=by
  have hme:=hm.ql
  have k3:=j9 (j:=3) hk qM
  have k4:=j9 (j:=4) hk qM
  have k5:m.a.kind=5:=hk
  have hw1:=jD (qd:=qd) ha
  refine zW Tryz.func87 O Tryz.ntmps87 hin ?_
  refine zB (z3 O O (fun b3=>zA (zB (zJ (o:=0) O O (zL 5 (v:=Vi m.kind) O O O O (zA (zX (zB (yQ O O O (zI O (zA (xD O V ?_))))))))))))
  refine zB (yQ O O O (zI O (zA (xD O V (zN (zB (yQ O O O (zI O (zA (je O hk (zO (je O hk ?_))))))))))))
  refine zN (zB (zD O (za O O (zJ (o:=21) O O (zL 0 (v:=Vi r.qr) O O O O (yQ O O O (zA (zY O (fun c5=> ?_) (fun c5=> ?_)))))))))
  ·exact zV (yJ O (fun w' hw=>⟨({t:=t,r:=r,lv:=lv,es:=es,y:=y,yv:=yv,yes:=yes}:NdD),o,⟨[],[],[]⟩,O,(by unfold yY;dsimp only;rw[if_neg k3,if_neg k4,if_pos k5,if_pos c5];rfl),(List.append_nil _).symm,(List.append_nil _).symm,O,hw.sel [0,1,2,3,4] O qM⟩))
  obtain rfl:=zCR hro c5
  refine zO (zB (zD O (zJ (o:=1) O O (zL 5 (v:=Vi m.src) O O O O (a_call O O (fun w' hw=>(kU cb jb t a r b yv (pt ob) qd m.src w' (hw.give [0] O qM)).mono ?_))))))
  rintro _ w1 ⟨rfl,hO⟩
  refine O6 ?_ (hw.qg [0] O hO)
  refine zA (zB (zD O (zD O (za O O (zJ (o:=2) O O (zJ (o:=0) O O (zL 5 (v:=Vi t.now) O O O O (za O O (zJ (o:=2) O O (zJ (o:=1) O O (zn 5 O O O O O (zA ?_))))))))))))
  refine zA2 ([(0,pt cb),(3,pt b3)]) (True) ([z4 cb ({t with qA:=t.now,due:=t.now+yz a qd}:TimD) (.pointer none) a ({qr:=1,who:=m.src,qc:=r.qc}:RolD) b (.slice none 0 0) jb qd (pt ob),Res.nl b lv es,Res.ou ob o,Res.row b3 59 (MsgD.cells m)]) ?_ (fun g hΦ=> ?_)
  ·refine zg [0,1,2,3,4] O qM qN (fun w' hw hS=>zC 0 O zT hS (zC 1 O zT hS (zC 2 O (zQ O) hS (zC 3 O (zH (o:=2) O) hS (zC 4 O (zH (o:=0) O) hS (zC 6 O zT hS (zu 5 7 ?_ ?_)))))))
   ·refine zm 5 O hw (zL 5 (v:=Vi t.now) O O O O (zE [0,1,2,3,4] O qM (fun w' hw hS=>zK 7 O hw (a_call O O (fun w' hw=>(kf cb jb ({t with qA:=t.now}:TimD) a ({qr:=1,who:=m.src,qc:=r.qc}:RolD) b (.pointer none) (.slice none 0 0) (pt ob) qd w' ‹_› qO (hw.give [5] O qM)).mono ?_)))))
    rintro _ w1 ⟨rfl,hO⟩
    refine O6 ?_ (hw.qg [5] O hO)
    refine zE [0,1,2,3,4] O qM (fun w' hw hS=>zC 8 O (yq O O (zq V)) hS (zC 9 O (zQ O) hS (zC 10 O (zH (o:=2) O) hS (zC 11 O (zH (o:=2) O) hS (zK 12 O hw (zn 5 O O O O O (zE [0,1,2,3,4] O qM (fun w' hw hS=>zU ?_))))))))
    exact⟨⟨O,O,trivial⟩,trivial,hw.sel [5,0,3,4] O qM⟩
   refine zm 7 O hw (a_call O O (fun w' hw=>(kf cb jb ({t with qA:=t.now}:TimD) a ({qr:=1,who:=m.src,qc:=r.qc}:RolD) b (.pointer none) (.slice none 0 0) (pt ob) qd w' ‹_› qO (hw.give [5] O qM)).mono ?_))
   rintro _ w1 ⟨rfl,hO⟩
   refine O6 ?_ (hw.qg [5] O hO)
   refine zE [0,1,2,3,4] O qM (fun w' hw hS=>zK 5 O hw (zL 5 (v:=Vi t.now) O O O O (zE [0,1,2,3,4] O qM (fun w' hw hS=>zC 8 O (yq O O (zq V)) hS (zC 9 O (zQ O) hS (zC 10 O (zH (o:=2) O) hS (zC 11 O (zH (o:=2) O) hS (zK 12 O hw (zn 5 O O O O O (zE [0,1,2,3,4] O qM (fun w' hw hS=>zU ?_)))))))))))
   exact⟨⟨O,O,trivial⟩,trivial,hw.sel [5,0,3,4] O qM⟩
  refine zB (zJ (o:=0) O O (zL 3 (v:=Vi m.kind) O O O O (yQ O O O (zA (je O hk (zS (zD O (yI (cs:=(MsgD.cells m)) 3 O O O (a_call O O (fun w' hw=>(zKv cb jb ({t with qA:=t.now,due:=t.now+yz a qd}:TimD) a ({qr:=1,who:=m.src,qc:=r.qc}:RolD) b qd _ _ ob _ m w' ‹_› qO ‹_› qO (hw.give [0,1,2] O qM) (rd_m.at hw [0,1,2] O)).mono ?_))))))))))
  rintro _ w1 ⟨n1_,mv'2_,ms3_,rfl,hf18_2,hO⟩
  refine O6 ?_ (hw.qg [0,1,2] O hO)
  exact zd (yJ O (fun w' hw=>⟨n1_,({o with mv:=mv'2_,qj:=o.qj++ms3_}:OutD),⟨ms3_.map MsgD.a,[],[]⟩,O,(by unfold yY;dsimp only;rw[if_neg k3,if_neg k4,if_pos k5,if_neg c5];exact zAY hf18_2),List.map_append,(List.append_nil _).symm,O,hw.sel [1,2,3,4,5] O qM⟩))
theorem zJg{S:List Nat}(cb jb:Nat)(t:TimD)(a:StA)(r:RolD)(b:StB)(yv:Value)(qd:Nat)(lv:Value)(es:List EntD)(ob:Nat)(o:OutD)(y:Option (Nat×LdD))(yes:List Int)(m:MsgD)(w:World)(hg:(LG 0 0 es).good)(hl:es.length≤100000)(hvl:b.vs.length≤12)(hcm:1≤((zc b.vs (es.map EntD.toEntA)).vs++(zc b.vs (es.map EntD.toEntA)).ls).length∧((zc b.vs (es.map EntD.toEntA)).vs++(zc b.vs (es.map EntD.toEntA)).ls).length≤12)(htm:(r.qr=3→1≤t.term)∧t.term≤4611686018427387904)(hen:(LG 0 0 es).end_≤t.term)(hn:0≤t.now∧t.now≤1000000000000000)(hh:0≤t.qA∧t.qA≤1000000000000000)(ho:o.qj.length≤1000)(hrd:o.qx.length≤1000)(ha:a.ok)(hd:qd<18446744073709551616)(hm:m.wf)(hro:r.qr=4↔y.isSome=true)(hld:∀ q,y=some q→q.2.bd)(hy:yes.length≤1000)(hk:m.kind=6)(hin:Own w S [z4 cb t (xJ y) a r b yv jb qd (pt ob),Res.nl b lv es,Res.lo y,vI yv yes,Res.ou ob o] w)(rd_m:MsgD.rd m w S):Rets Tryz.prog 87 #[pt cb, .agg (MsgD.cells m).toArray] w fun u_ w'=>∃ (n:NdD) (o':OutD) (x:OutA),u_= .tuple #[]∧(n.a,x)=yY a b.vs qd m.a {t:=t,r:=r,E:=es.map EntD.toEntA,ld:=y.map fun q=>q.2.er,yes:=yes}∧o'.qj.map MsgD.a=o.qj.map MsgD.a++x.ms∧o'.qx=o.qx++x.qx∧o'.qq=o.qq∧Own w S [z4 cb n.t (xJ n.y) a n.r b n.yv jb qd (pt ob),Res.nl b n.lv n.es,Res.lo n.y,vI n.yv n.yes,Res.ou ob o'] w':=by
  have hme:=hm.ql
  have k3:=j9 (j:=3) hk qM
  have k4:=j9 (j:=4) hk qM
  have k5:=j9 (j:=5) hk qM
  have k6:m.a.kind=6∨m.a.kind=8:= .inl hk
  refine zW Tryz.func87 O Tryz.ntmps87 hin ?_
  refine zB (z3 O O (fun b3=>zA (zB (zJ (o:=0) O O (zL 5 (v:=Vi m.kind) O O O O (zA (zX (zB (yQ O O O (zI O (zA (xD O V ?_))))))))))))
  refine zB (yQ O O O (zI O (zA (xD O V (zN (zB (yQ O O O (zI O (zA (xD O V (zS (yQ O O O ?_))))))))))))
  refine zI O (zA (xD O V (zN (zB (yQ O O O (zI O (zA (je O hk (zO (je O hk (zB (zD O ?_))))))))))))
  refine za O O (zJ (o:=21) O O (zL 0 (v:=Vi r.qr) O O O O (yQ O O O (zA (zY O (fun c7=> ?_) (fun c7=> ?_))))))
  ·obtain⟨⟨ld,l⟩,rfl⟩:=Option.isSome_iff_exists.1 (hro.1 c7)
   have hb:=hld _ rfl
   have hbp:=hb.qa
   refine zB (zD O (zJ (o:=1) O O (zL 5 (v:=Vi m.src) O O O O (a_call O O (fun w' hw=>(zDM cb jb t a r b yv (pt ob) qd ld _ m.src w' qO (hw.give [0,2] O qM)).mono ?_)))))
   rintro _ w1 ⟨pv1_,rfl,hf23_3,hO⟩
   refine O6 ?_ (hw.qg [0,2] O hO)
   refine zI O (zA (zB (zD O (zBl qN O O O (zA (zA0 O (fun c8=> ?_) (fun c8=> ?_)))))))
   ·obtain⟨j,hj,rfl,hji,hix⟩:=PeerIs.some hf23_3 c8
    refine zS (zD O (zD O (yI (cs:=(MsgD.cells m)) 3 O O O (a_call O O (fun w' hw=>(zKZ cb jb t a r b yv qd _ _ ld _ ob _ j m w' ‹_› qO qO hb.qa hj qO hb.each (by have:=hb.qf;omega) (by rw[List.length_append]at hcm;omega) hb.round hb.qk V hb.qe (hw.give [4,0,5,2] O qM) (rd_m.at hw [4,0,5,2] O)).mono ?_)))))
    rintro _ w1 ⟨mv'2_,rv'3_,av'4_,kv'5_,ms6_,rfl,hf25_3,hO⟩
    refine O6 ?_ (hw.qg [4,0,5,2] O hO)
    exact zd (yJ O (fun w' hw=>⟨({t:=xu (xU a b.vs (es.map EntD.toEntA) (zx (zh m.a l j) j (xl a t b.vs (es.map EntD.toEntA) l j r.qc m.a).p) l.qf l.sure) l.qf t,r:={r with qc:=(xl a t b.vs (es.map EntD.toEntA) l j r.qc m.a).qc},lv:=lv,es:=es,y:=some (ld,ko (xU a b.vs (es.map EntD.toEntA) (zx (zh m.a l j) j (xl a t b.vs (es.map EntD.toEntA) l j r.qc m.a).p) l.qf l.sure) kv'5_ {l with qa:=(zx (zh m.a l j) j (xl a t b.vs (es.map EntD.toEntA) l j r.qc m.a).p),av:=av'4_,qe:=l.qe++[(zG l.qa j).2.id],qC:=(xl a t b.vs (es.map EntD.toEntA) l j r.qc m.a).qC}),yv:=yv,yes:=yes}:NdD),(zAL (xU a b.vs (es.map EntD.toEntA) (zx (zh m.a l j) j (xl a t b.vs (es.map EntD.toEntA) l j r.qc m.a).p) l.qf l.sure) rv'3_ l.qk ({o with mv:=mv'2_,qj:=o.qj++ms6_}:OutD)),⟨(xl a t b.vs (es.map EntD.toEntA) l j r.qc m.a).ms,if(xU a b.vs (es.map EntD.toEntA) (zx (zh m.a l j) j (xl a t b.vs (es.map EntD.toEntA) l j r.qc m.a).p) l.qf l.sure)=0 then []else(l.qk.filter (fun q=>q.round≤(xU a b.vs (es.map EntD.toEntA) (zx (zh m.a l j) j (xl a t b.vs (es.map EntD.toEntA) l j r.qc m.a).p) l.qf l.sure))).map LookM.rdy,[]⟩,O,(by unfold yY;dsimp only;rw[if_neg k3,if_neg k4,if_neg k5,if_pos k6];exact zIo rfl rfl rfl hix),(by rw[zMJ,List.map_append,hf25_3]),zKh,zKU,hw.sel [2,3,4,0,5] O qM⟩))
   have hix:=PeerIs.none hf23_3 c8
   exact yc (yJ O (fun w' hw=>⟨({t:=t,r:=r,lv:=lv,es:=es,y:=some (ld,l),yv:=yv,yes:=yes}:NdD),o,⟨[],[],[]⟩,O,(by unfold yY jw;dsimp only;rw[if_neg k3,if_neg k4,if_neg k5,if_pos k6];show _=(match yV l.er.qa m.src with|none=>_|some k=>_);rw[show yV l.er.qa m.src=none from peerIx_er.trans hix];rfl),(List.append_nil _).symm,(List.append_nil _).symm,O,hw.sel [4,0,5,1,2] O qM⟩))
  obtain rfl:=zCR hro c7
  exact yc (yJ O (fun w' hw=>⟨({t:=t,r:=r,lv:=lv,es:=es,y:=none,yv:=yv,yes:=yes}:NdD),o,⟨[],[],[]⟩,O,(by unfold yY;dsimp only;rw[if_neg k3,if_neg k4,if_neg k5,if_pos k6];rfl),(List.append_nil _).symm,(List.append_nil _).symm,O,hw.sel [0,1,2,3,4] O qM⟩))
theorem zJy{S:List Nat}(cb jb:Nat)(t:TimD)(a:StA)(r:RolD)(b:StB)(yv:Value)(qd:Nat)(lv:Value)(es:List EntD)(ob:Nat)(o:OutD)(y:Option (Nat×LdD))(yes:List Int)(m:MsgD)(w:World)(hg:(LG 0 0 es).good)(hl:es.length≤100000)(hvl:b.vs.length≤12)(hcm:1≤((zc b.vs (es.map EntD.toEntA)).vs++(zc b.vs (es.map EntD.toEntA)).ls).length∧((zc b.vs (es.map EntD.toEntA)).vs++(zc b.vs (es.map EntD.toEntA)).ls).length≤12)(htm:(r.qr=3→1≤t.term)∧t.term≤4611686018427387904)(hen:(LG 0 0 es).end_≤t.term)(hn:0≤t.now∧t.now≤1000000000000000)(hh:0≤t.qA∧t.qA≤1000000000000000)(ho:o.qj.length≤1000)(hrd:o.qx.length≤1000)(ha:a.ok)(hd:qd<18446744073709551616)(hm:m.wf)(hro:r.qr=4↔y.isSome=true)(hld:∀ q,y=some q→q.2.bd)(hy:yes.length≤1000)(hk:(m.kind≠3∧m.kind≠4∧m.kind≠5)∧(m.kind≠6∧m.kind≠7∧m.kind≠8)∧m.kind≠9)(hin:Own w S [z4 cb t (xJ y) a r b yv jb qd (pt ob),Res.nl b lv es,Res.lo y,vI yv yes,Res.ou ob o] w)(rd_m:MsgD.rd m w S):Rets Tryz.prog 87 #[pt cb, .agg (MsgD.cells m).toArray] w fun u_ w'=>∃ (n:NdD) (o':OutD) (x:OutA),u_= .tuple #[]∧(n.a,x)=yY a b.vs qd m.a {t:=t,r:=r,E:=es.map EntD.toEntA,ld:=y.map fun q=>q.2.er,yes:=yes}∧o'.qj.map MsgD.a=o.qj.map MsgD.a++x.ms∧o'.qx=o.qx++x.qx∧o'.qq=o.qq∧Own w S [z4 cb n.t (xJ n.y) a n.r b n.yv jb qd (pt ob),Res.nl b n.lv n.es,Res.lo n.y,vI n.yv n.yes,Res.ou ob o'] w':=by
  have hme:=hm.ql
  refine zW Tryz.func87 O Tryz.ntmps87 hin ?_
  refine zB (z3 O O (fun b3=>zA (zB (zJ (o:=0) O O (zL 5 (v:=Vi m.kind) O O O O (zA (zX (zB (yQ O O O (zI O (zA (xD O V ?_))))))))))))
  refine zB (yQ O O O (zI O (zA (xD O V (zN (zB (yQ O O O (zI O (zA (xD O V (zS (yQ O O O ?_))))))))))))
  refine zI O (zA (xD O V (zN (zB (yQ O O O (zI O (zA (xD O V (zS (yQ O O O (zI O (zA ?_))))))))))))
  refine xD O V (zB (yQ O O O (zI O (zA (xD O V ?_)))))
  exact yc (yJ O (fun w' hw=>⟨({t:=t,r:=r,lv:=lv,es:=es,y:=y,yv:=yv,yes:=yes}:NdD),o,⟨[],[],[]⟩,O,(by unfold yY;dsimp only;rw[if_neg (show ¬ m.a.kind=3 from hk.1.1),if_neg (show ¬ m.a.kind=4 from hk.1.2.1),if_neg (show ¬ m.a.kind=5 from hk.1.2.2),if_neg (show ¬(m.a.kind=6∨m.a.kind=8)from fun q=>q.elim hk.2.1.1 hk.2.1.2.2),if_neg (fun q=>hk.2.2 q.1)];rfl),(List.append_nil _).symm,(List.append_nil _).symm,O,hw.sel [0,1,2,3,4] O qM⟩))
theorem zJV{S:List Nat}(cb jb:Nat)(t:TimD)(a:StA)(r:RolD)(b:StB)(yv:Value)(qd:Nat)(lv:Value)(es:List EntD)(ob:Nat)(o:OutD)(y:Option (Nat×LdD))(yes:List Int)(m:MsgD)(w:World)(hg:(LG 0 0 es).good)(hl:es.length≤100000)(hvl:b.vs.length≤12)(hcm:1≤((zc b.vs (es.map EntD.toEntA)).vs++(zc b.vs (es.map EntD.toEntA)).ls).length∧((zc b.vs (es.map EntD.toEntA)).vs++(zc b.vs (es.map EntD.toEntA)).ls).length≤12)(htm:(r.qr=3→1≤t.term)∧t.term≤4611686018427387904)(hen:(LG 0 0 es).end_≤t.term)(hn:0≤t.now∧t.now≤1000000000000000)(hh:0≤t.qA∧t.qA≤1000000000000000)(ho:o.qj.length≤1000)(hrd:o.qx.length≤1000)(ha:a.ok)(hd:qd<18446744073709551616)(hm:m.wf)(hro:r.qr=4↔y.isSome=true)(hld:∀ q,y=some q→q.2.bd)(hy:yes.length≤1000)(hk:m.kind=9)(hin:Own w S [z4 cb t (xJ y) a r b yv jb qd (pt ob),Res.nl b lv es,Res.lo y,vI yv yes,Res.ou ob o] w)(rd_m:MsgD.rd m w S):Rets Tryz.prog 87 #[pt cb, .agg (MsgD.cells m).toArray] w fun u_ w'=>∃ (n:NdD) (o':OutD) (x:OutA),u_= .tuple #[]∧(n.a,x)=yY a b.vs qd m.a {t:=t,r:=r,E:=es.map EntD.toEntA,ld:=y.map fun q=>q.2.er,yes:=yes}∧o'.qj.map MsgD.a=o.qj.map MsgD.a++x.ms∧o'.qx=o.qx++x.qx∧o'.qq=o.qq∧Own w S [z4 cb n.t (xJ n.y) a n.r b n.yv jb qd (pt ob),Res.nl b n.lv n.es,Res.lo n.y,vI n.yv n.yes,Res.ou ob o'] w':=by
  have hme:=hm.ql
  have k3:=j9 (j:=3) hk qM
  have k4:=j9 (j:=4) hk qM
  have k5:=j9 (j:=5) hk qM
  have k6:¬(m.a.kind=6∨m.a.kind=8):=fun q=>q.elim (j9 hk qM) (j9 hk qM)
  refine zW Tryz.func87 O Tryz.ntmps87 hin ?_
  refine zB (z3 O O (fun b3=>zA (zB (zJ (o:=0) O O (zL 5 (v:=Vi m.kind) O O O O (zA (zX (zB (yQ O O O (zI O (zA (xD O V ?_))))))))))))
  refine zB (yQ O O O (zI O (zA (xD O V (zN (zB (yQ O O O (zI O (zA (xD O V (zS (yQ O O O ?_))))))))))))
  refine zI O (zA (xD O V (zN (zB (yQ O O O (zI O (zA (xD O V (zS (yQ O O O (zI O (zA ?_))))))))))))
  refine xD O V (zB (yQ O O O (zI O (zA (je O hk (zN (zg [0,1,2,3,4,5] O qM qN (fun w' hw hS=>zC 0 O zT hS (zC 2 O zT hS (zC 3 O (zQ O) hS (zC 4 O (zH (o:=10) O) hS (zC 5 O (zZ 0 (v:=Vi a.id) O O O) hS ?_))))))))))))
  refine zK 1 O hw (a_call O O (fun w' hw=>(xe cb jb t a r b (xJ y) yv (pt ob) qd _ _ w' ‹_› qO qO (hw.give [0,1] O qM)).mono ?_))
  rintro _ w1 ⟨cv1_,cw2_,F3_,rfl,hf27_1,hO⟩
  have hFl:F3_.vs.length≤1000∧F3_.ls.length≤1000:=by rw[hf27_1];exact yf V
  refine O8 ?_ (hw.qg [0,1] O hO)
  refine zE [4,5,0,1,2,3] O qM (fun w' hw hS=>zK 6 O hw (a_call O O (fun w' hw=>(zBo ({vv:=cv1_,vs:=F3_.vs,lv:=cw2_,ls:=F3_.ls}:ConfD) a.id w' qP ⟨(hw.qp 6 O),(hw.qp 7 O)⟩).mono ?_)))
  rintro _ w1 ⟨rfl,hO⟩
  refine O8 ?_ (hw.qi hO)
  refine zE [4,5,0,1,2,3] O qM (fun w' hw hS=>zC 7 O zT hS ?_)
  by_cases g27_7:({vv:=cv1_,vs:=F3_.vs,lv:=cw2_,ls:=F3_.ls}:ConfD).ok∧a.id∈({vv:=cv1_,vs:=F3_.vs,lv:=cw2_,ls:=F3_.ls}:ConfD).vs
  ·refine zk 8 O O (gT g27_7) zT hS (zk 9 O O (gT g27_7) (zQ O) hS (zk 10 O O (gT g27_7) (zH (o:=21) O) hS (zk 11 O O (gT g27_7) (zZ 0 (v:=Vi r.qr) O O O) hS (zk 12 O O (gT g27_7) (zLB O O) hS (zC 13 O (yl (gT g27_7)) hS (zC 14 O zT hS ?_))))))
   by_cases g27_14:r.qr≠4
   ·refine zk 15 O O (gT g27_14) zT hS (zk 16 O O (gT g27_14) (zQ O) hS (zk 17 O O (gT g27_14) (zH (o:=0) O) hS (zk 18 O O (gT g27_14) (zH (o:=0) O) hS (zk 19 O O (gT g27_14) (zZ 0 (v:=Vn t.term) O O O) hS (zk 20 O O (gT g27_14) (zDR O O) hS (zC 21 O (yl (gT g27_14)) hS (zU ?_)))))))
    refine Oc8 ?_ hw
    refine zY O (fun c8=> ?_) (fun c8=> ?_)
    ·obtain rfl:=zCR hro g27_14
     have hq:(zc b.vs (es.map EntD.toEntA)).ok∧a.id∈(zc b.vs (es.map EntD.toEntA)).vs:=by rw[←hf27_1];exact g27_7
     refine zS (zD O (a_call O O (fun w' hw=>(zEi cb jb t a r b yv qd _ _ ob _ true yes w' ‹_› qO qO qS qO qO qO qO ‹_› qO (hw.give [4,5,2] O qM)).mono ?_)))
     rintro _ w1 ⟨n4_,mv'5_,ms6_,rfl,hf28_1,hO⟩
     refine O10 ?_ (hw.qg [4,5,2] O hO)
     exact zd (yJ O (fun w' hw=>⟨n4_,({o with mv:=mv'5_,qj:=o.qj++ms6_}:OutD),⟨ms6_.map MsgD.a,[],[]⟩,O,(by unfold yY;dsimp only;rw[if_neg k3,if_neg k4,if_neg k5,if_neg k6,if_pos ⟨show m.a.kind=9 from hk,hq,g27_14,by omega⟩];exact zAY hf28_1),List.map_append,(List.append_nil _).symm,O,hw.sel [5,6,7,8,9] O qM⟩))
    exact yc (yJ O (fun w' hw=>⟨({t:=t,r:=r,lv:=lv,es:=es,y:=y,yv:=yv,yes:=yes}:NdD),o,⟨[],[],[]⟩,O,(by unfold yY;dsimp only;rw[if_neg k3,if_neg k4,if_neg k5,if_neg k6,if_neg (fun q=>c8 (by have h:=q.2.2.2;omega))];rfl),(List.append_nil _).symm,(List.append_nil _).symm,O,hw.sel [4,5,0,1,2] O qM⟩))
   refine zb 15 O O (gF g27_14) O hS (zb 16 O O (gF g27_14) O hS (zb 17 O O (gF g27_14) O hS (zb 18 O O (gF g27_14) O hS (zb 19 O O (gF g27_14) O hS (zb 20 O O (gF g27_14) O hS (zC 21 O (yS (gF g27_14)) hS (zU ?_)))))))
   refine Oc8 ?_ hw
   refine xt O ?_
   exact yc (yJ O (fun w' hw=>⟨({t:=t,r:=r,lv:=lv,es:=es,y:=y,yv:=yv,yes:=yes}:NdD),o,⟨[],[],[]⟩,O,(by unfold yY;dsimp only;rw[if_neg k3,if_neg k4,if_neg k5,if_neg k6,if_neg (fun q=>g27_14 q.2.2.1)];rfl),(List.append_nil _).symm,(List.append_nil _).symm,O,hw.sel [4,5,0,1,2] O qM⟩))
  refine zb 8 O O (gF g27_7) O hS (zb 9 O O (gF g27_7) O hS (zb 10 O O (gF g27_7) O hS (zb 11 O O (gF g27_7) O hS (zb 12 O O (gF g27_7) O hS (zC 13 O (yS (gF g27_7)) hS (zC 14 O zT hS (zb 15 O O O O hS (zb 16 O O O O hS (zb 17 O O O O hS (zb 18 O O O O hS (zb 19 O O O O hS (zb 20 O O O O hS ?_))))))))))))
  refine zC 21 O (yS O) hS (zU ?_)
  refine Oc8 ?_ hw
  refine xt O ?_
  exact yc (yJ O (fun w' hw=>⟨({t:=t,r:=r,lv:=lv,es:=es,y:=y,yv:=yv,yes:=yes}:NdD),o,⟨[],[],[]⟩,O,(by unfold yY;dsimp only;rw[if_neg k3,if_neg k4,if_neg k5,if_neg k6,if_neg (fun q=>g27_7 (by have h:=q.2.1;rw[←hf27_1]at h;exact h))];rfl),(List.append_nil _).symm,(List.append_nil _).symm,O,hw.sel [4,5,0,1,2] O qM⟩))
theorem zJk{S:List Nat}(cb jb:Nat)(t:TimD)(a:StA)(r:RolD)(b:StB)(yv:Value)(qd:Nat)(lv:Value)(es:List EntD)(ob:Nat)(o:OutD)(y:Option (Nat×LdD))(yes:List Int)(m:MsgD)(w:World)(hg:(LG 0 0 es).good)(hl:es.length≤100000)(hvl:b.vs.length≤12)(hcm:1≤((zc b.vs (es.map EntD.toEntA)).vs++(zc b.vs (es.map EntD.toEntA)).ls).length∧((zc b.vs (es.map EntD.toEntA)).vs++(zc b.vs (es.map EntD.toEntA)).ls).length≤12)(htm:(r.qr=3→1≤t.term)∧t.term≤4611686018427387904)(hen:(LG 0 0 es).end_≤t.term)(hn:0≤t.now∧t.now≤1000000000000000)(hh:0≤t.qA∧t.qA≤1000000000000000)(ho:o.qj.length≤1000)(hrd:o.qx.length≤1000)(ha:a.ok)(hd:qd<18446744073709551616)(hm:m.wf)(hro:r.qr=4↔y.isSome=true)(hld:∀ q,y=some q→q.2.bd)(hy:yes.length≤1000)(hk:m.kind=3)(hin:Own w S [z4 cb t (xJ y) a r b yv jb qd (pt ob),Res.nl b lv es,Res.lo y,vI yv yes,Res.ou ob o] w)(rd_m:MsgD.rd m w S):Rets Tryz.prog 87 #[pt cb, .agg (MsgD.cells m).toArray] w fun u_ w'=>∃ (n:NdD) (o':OutD) (x:OutA),u_= .tuple #[]∧(n.a,x)=yY a b.vs qd m.a {t:=t,r:=r,E:=es.map EntD.toEntA,ld:=y.map fun q=>q.2.er,yes:=yes}∧o'.qj.map MsgD.a=o.qj.map MsgD.a++x.ms∧o'.qx=o.qx++x.qx∧o'.qq=o.qq∧Own w S [z4 cb n.t (xJ n.y) a n.r b n.yv jb qd (pt ob),Res.nl b n.lv n.es,Res.lo n.y,vI n.yv n.yes,Res.ou ob o'] w':=by
  have hme:=hm.ql
  have hw1:=jD (qd:=qd) ha
  refine zW Tryz.func87 O Tryz.ntmps87 hin ?_
  refine zB (z3 O O (fun b3=>zA (zB (zJ (o:=0) O O (zL 5 (v:=Vi m.kind) O O O O (zA (zX (zB (yQ O O O (zI O (zA (je O hk ?_))))))))))))
  refine yt (fun(ys:Bool)=>[(0,pt cb),(3,pt b3),(4, .bool ys)]) (fun(ys:Bool)=>ys=true↔zEY a m.a {t:=t,r:=r,E:=es.map EntD.toEntA,ld:=y.map fun q=>q.2.er,yes:=yes}) (fun(ys:Bool)=>[z4 cb t (xJ y) a r b yv jb qd (pt ob),Res.nl b lv es,Res.lo y,vI yv yes,Res.ou ob o,Res.row b3 59 (MsgD.cells m)]) ?_ (fun ys g hΦ=> ?_)
  ·refine zg [0,1,2,3,4,5] O qM qN (fun w' hw hS=>zC 0 O zT hS (zC 1 O (zQ O) hS (zC 2 O (zH (o:=0) O) hS (zC 3 O (zH (o:=1) O) hS (zC 4 O (zZ 0 (v:=Vi t.qD) O O O) hS (zC 5 O (zDd O O) hS (zC 6 O zT hS ?_)))))))
   by_cases g3_6:t.qD=0
   ·refine zb 7 O O (gT g3_6) O hS (zb 8 O O (gT g3_6) O hS (zb 9 O O (gT g3_6) O hS (zb 10 O O (gT g3_6) O hS (zb 11 O O (gT g3_6) O hS (zb 12 O O (gT g3_6) O hS (zb 13 O O (gT g3_6) O hS (zb 14 O O (gT g3_6) O hS (zC 15 O (yl (gT g3_6)) hS (zC 16 O zT hS (zk 17 O O O zT hS (zk 18 O O O (zQ O) hS (zk 19 O O O (zH (o:=21) O) hS ?_))))))))))))
    refine zk 20 O O O (zZ 0 (v:=Vi r.qr) O O O) hS (zk 21 O O O (zLB O O) hS (zC 22 O (yl O) hS (zC 23 O zT hS ?_)))
    by_cases g3_23:r.qr≠4
    ·refine zk 24 O O (gT g3_23) zT hS (zk 25 O O (gT g3_23) (zQ O) hS (zk 26 O O (gT g3_23) (zH (o:=29) O) hS (zk 27 O O (gT g3_23) (zZ 0 (v:=pt b.lb) O O O) hS (zk 28 O O (gT g3_23) (zH (o:=4) O) hS (zk 29 O O (gT g3_23) (zZ 5 (v:=Vn m.index) O O O) hS (zk 30 O O (gT g3_23) (zH (o:=5) O) hS (zk 31 O O (gT g3_23) (zZ 5 (v:=Vn m.qm) O O O) hS (zK 32 O hw (zR O (gT g3_23) (a_call O O (fun w' hw=>(zE1 b.lb 0 0 lv es m.index m.qm w' qP qO (hw.qF 1 0 O O) (hw.qH 1 1 O O) (EntD.rd.qF 1 2 O O hw)).mono ?_)))))))))))
     rintro _ w1 ⟨rfl,hO⟩
     refine O6 ?_ (hw.qi hO)
     refine zE [0,1,2,3,4,5] O qM (fun w' hw hS=>zC 33 O (yl (gT g3_23)) hS (zC 34 O zT hS ?_))
     by_cases g3_34:(LG 0 0 es).fresh m.index m.qm
     ·refine zk 35 O O (gT g3_34) (zH (o:=8) O) hS (zk 36 O O (gT g3_34) (zZ 5 (v:= .bool m.flag) O O O) hS (zk 37 O O (gT g3_34) zT hS ?_))
      by_cases g3_37:m.flag=true
      ·refine zb 38 O O (bT g3_37) O hS (zb 39 O O (bT g3_37) O hS (zb 40 O O (bT g3_37) O hS (zk 41 O O (gT g3_34) (yl (bT g3_37)) hS (zC 42 O (yl (gT g3_34)) hS (zC 43 O yO hS (zU ?_))))))
       exact⟨true,⟨O,O,O,trivial⟩,⟨fun _=>⟨.inl g3_6,g3_23,g3_34, .inl g3_37⟩,fun _=>O⟩,hw⟩
      refine zk 38 O O (bF g3_37) zT hS (zK 39 O hw (zR O (bF g3_37) (a_call O O (fun w' hw=>(zBZ cb jb t a r b (xJ y) yv (pt ob) qd w' qO qO (hw.give [0] O qM)).mono ?_))))
      rintro _ w1 ⟨rfl,hO⟩
      refine O6 ?_ (hw.qg [0] O hO)
      refine zE [5,0,1,2,3,4] O qM (fun w' hw hS=>zk 40 O O (bF g3_37) (xc (q:=t.now - t.qA<a.base) O) hS (zk 41 O O (gT g3_34) (yS (bF g3_37)) hS (zC 42 O (yl (gT g3_34)) hS (zC 43 O yO hS (zU ?_)))))
      exact⟨decide (¬(t.now - t.qA<a.base)),⟨O,O,O,trivial⟩,⟨fun h=>⟨.inl g3_6,g3_23,g3_34, .inr (of_decide_eq_true h)⟩,fun h=>decide_eq_true (h.2.2.2.resolve_left g3_37)⟩,hw.sel [5,0,1,2,3,4] O qM⟩
     refine zb 35 O O (gF g3_34) O hS (zb 36 O O (gF g3_34) O hS (zb 37 O O (gF g3_34) O hS (jC 38 O O O hS (jC 39 O O O hS (jC 40 O O O hS (zb 41 O O (gF g3_34) O hS (zC 42 O (yS (gF g3_34)) hS (zC 43 O yO hS (zU ?_)))))))))
     exact⟨false,⟨O,O,O,trivial⟩,⟨fun h=>absurd h qM,fun h=>absurd h.2.2.1 g3_34⟩,hw⟩
    refine zb 24 O O (gF g3_23) O hS (zb 25 O O (gF g3_23) O hS (zb 26 O O (gF g3_23) O hS (zb 27 O O (gF g3_23) O hS (zb 28 O O (gF g3_23) O hS (zb 29 O O (gF g3_23) O hS (zb 30 O O (gF g3_23) O hS (zb 31 O O (gF g3_23) O hS (zb 32 O O (gF g3_23) O hS (zC 33 O (yS (gF g3_23)) hS (zC 34 O zT hS (zb 35 O O O O hS (zb 36 O O O O hS ?_))))))))))))
    refine zb 37 O O O O hS (jC 38 O O O hS (jC 39 O O O hS (jC 40 O O O hS (zb 41 O O O O hS (zC 42 O (yS O) hS (zC 43 O yO hS (zU ?_)))))))
    exact⟨false,⟨O,O,O,trivial⟩,⟨fun h=>absurd h qM,fun h=>absurd h.2.1 g3_23⟩,hw⟩
   refine zk 7 O O (gF g3_6) zT hS (zk 8 O O (gF g3_6) (zQ O) hS (zk 9 O O (gF g3_6) (zH (o:=0) O) hS (zk 10 O O (gF g3_6) (zH (o:=1) O) hS (zk 11 O O (gF g3_6) (zZ 0 (v:=Vi t.qD) O O O) hS (zk 12 O O (gF g3_6) (zH (o:=1) O) hS (zk 13 O O (gF g3_6) (zZ 5 (v:=Vi m.src) O O O) hS (zk 14 O O (gF g3_6) (zDd O O) hS (zC 15 O (yS (gF g3_6)) hS (zC 16 O zT hS ?_)))))))))
   by_cases g3_16:t.qD=m.src
   ·refine zk 17 O O (gT g3_16) zT hS (zk 18 O O (gT g3_16) (zQ O) hS (zk 19 O O (gT g3_16) (zH (o:=21) O) hS (zk 20 O O (gT g3_16) (zZ 0 (v:=Vi r.qr) O O O) hS (zk 21 O O (gT g3_16) (zLB O O) hS (zC 22 O (yl (gT g3_16)) hS (zC 23 O zT hS ?_))))))
    by_cases g3_23:r.qr≠4
    ·refine zk 24 O O (gT g3_23) zT hS (zk 25 O O (gT g3_23) (zQ O) hS (zk 26 O O (gT g3_23) (zH (o:=29) O) hS (zk 27 O O (gT g3_23) (zZ 0 (v:=pt b.lb) O O O) hS (zk 28 O O (gT g3_23) (zH (o:=4) O) hS (zk 29 O O (gT g3_23) (zZ 5 (v:=Vn m.index) O O O) hS (zk 30 O O (gT g3_23) (zH (o:=5) O) hS (zk 31 O O (gT g3_23) (zZ 5 (v:=Vn m.qm) O O O) hS (zK 32 O hw (zR O (gT g3_23) (a_call O O (fun w' hw=>(zE1 b.lb 0 0 lv es m.index m.qm w' qP qO (hw.qF 1 0 O O) (hw.qH 1 1 O O) (EntD.rd.qF 1 2 O O hw)).mono ?_)))))))))))
     rintro _ w1 ⟨rfl,hO⟩
     refine O6 ?_ (hw.qi hO)
     refine zE [0,1,2,3,4,5] O qM (fun w' hw hS=>zC 33 O (yl (gT g3_23)) hS (zC 34 O zT hS ?_))
     by_cases g3_34:(LG 0 0 es).fresh m.index m.qm
     ·refine zk 35 O O (gT g3_34) (zH (o:=8) O) hS (zk 36 O O (gT g3_34) (zZ 5 (v:= .bool m.flag) O O O) hS (zk 37 O O (gT g3_34) zT hS ?_))
      by_cases g3_37:m.flag=true
      ·refine zb 38 O O (bT g3_37) O hS (zb 39 O O (bT g3_37) O hS (zb 40 O O (bT g3_37) O hS (zk 41 O O (gT g3_34) (yl (bT g3_37)) hS (zC 42 O (yl (gT g3_34)) hS (zC 43 O yO hS (zU ?_))))))
       exact⟨true,⟨O,O,O,trivial⟩,⟨fun _=>⟨.inr g3_16,g3_23,g3_34, .inl g3_37⟩,fun _=>O⟩,hw⟩
      refine zk 38 O O (bF g3_37) zT hS (zK 39 O hw (zR O (bF g3_37) (a_call O O (fun w' hw=>(zBZ cb jb t a r b (xJ y) yv (pt ob) qd w' qO qO (hw.give [0] O qM)).mono ?_))))
      rintro _ w1 ⟨rfl,hO⟩
      refine O6 ?_ (hw.qg [0] O hO)
      refine zE [5,0,1,2,3,4] O qM (fun w' hw hS=>zk 40 O O (bF g3_37) (xc (q:=t.now - t.qA<a.base) O) hS (zk 41 O O (gT g3_34) (yS (bF g3_37)) hS (zC 42 O (yl (gT g3_34)) hS (zC 43 O yO hS (zU ?_)))))
      exact⟨decide (¬(t.now - t.qA<a.base)),⟨O,O,O,trivial⟩,⟨fun h=>⟨.inr g3_16,g3_23,g3_34, .inr (of_decide_eq_true h)⟩,fun h=>decide_eq_true (h.2.2.2.resolve_left g3_37)⟩,hw.sel [5,0,1,2,3,4] O qM⟩
     refine zb 35 O O (gF g3_34) O hS (zb 36 O O (gF g3_34) O hS (zb 37 O O (gF g3_34) O hS (jC 38 O O O hS (jC 39 O O O hS (jC 40 O O O hS (zb 41 O O (gF g3_34) O hS (zC 42 O (yS (gF g3_34)) hS (zC 43 O yO hS (zU ?_)))))))))
     exact⟨false,⟨O,O,O,trivial⟩,⟨fun h=>absurd h qM,fun h=>absurd h.2.2.1 g3_34⟩,hw⟩
    refine zb 24 O O (gF g3_23) O hS (zb 25 O O (gF g3_23) O hS (zb 26 O O (gF g3_23) O hS (zb 27 O O (gF g3_23) O hS (zb 28 O O (gF g3_23) O hS (zb 29 O O (gF g3_23) O hS (zb 30 O O (gF g3_23) O hS (zb 31 O O (gF g3_23) O hS (zb 32 O O (gF g3_23) O hS (zC 33 O (yS (gF g3_23)) hS (zC 34 O zT hS (zb 35 O O O O hS (zb 36 O O O O hS ?_))))))))))))
    refine zb 37 O O O O hS (jC 38 O O O hS (jC 39 O O O hS (jC 40 O O O hS (zb 41 O O O O hS (zC 42 O (yS O) hS (zC 43 O yO hS (zU ?_)))))))
    exact⟨false,⟨O,O,O,trivial⟩,⟨fun h=>absurd h qM,fun h=>absurd h.2.1 g3_23⟩,hw⟩
   refine zb 17 O O (gF g3_16) O hS (zb 18 O O (gF g3_16) O hS (zb 19 O O (gF g3_16) O hS (zb 20 O O (gF g3_16) O hS (zb 21 O O (gF g3_16) O hS (zC 22 O (yS (gF g3_16)) hS (zC 23 O zT hS (zb 24 O O O O hS (zb 25 O O O O hS (zb 26 O O O O hS (zb 27 O O O O hS (zb 28 O O O O hS (zb 29 O O O O hS ?_))))))))))))
   refine zb 30 O O O O hS (zb 31 O O O O hS (zb 32 O O O O hS (zC 33 O (yS O) hS (zC 34 O zT hS (zb 35 O O O O hS (zb 36 O O O O hS (zb 37 O O O O hS (jC 38 O O O hS (jC 39 O O O hS (jC 40 O O O hS (zb 41 O O O O hS (zC 42 O (yS O) hS ?_))))))))))))
   refine zC 43 O yO hS (zU ?_)
   exact⟨false,⟨O,O,O,trivial⟩,⟨fun h=>absurd h qM,fun h=>(h.1.elim g3_6 g3_16).elim⟩,hw⟩
  have hys:ys=decide (zEY a m.a _):=zFR hΦ
  refine yt (fun(t':TimD)=>[(0,pt cb),(3,pt b3),(4, .bool ys)]) (fun(t':TimD)=>t'=if ys=true then({t with qD:=m.src,due:=t.now+yz a qd}:TimD)else t) (fun(t':TimD)=>[z4 cb t' (xJ y) a r b yv jb qd (pt ob),Res.nl b lv es,Res.lo y,vI yv yes,Res.ou ob o,Res.row b3 59 (MsgD.cells m)]) ?_ (fun t' g hΦ=> ?_)
  ·refine zB (zD O (zA (zA0 O (fun c2=> ?_) (fun c2=> ?_))))
   ·refine zB (zD O (zJ (o:=1) O O (zL 5 (v:=Vi m.src) O O O O (za O O (zJ (o:=0) O O (zJ (o:=1) O O (zn 0 O O O O O (zA (zg [1,2,3,4,5] O qM qN (fun w' hw hS=>zC 0 O zT hS (zC 1 O zT hS (zC 2 O (zQ O) hS ?_))))))))))))
    refine zC 3 O (zH (o:=2) O) hS (zC 4 O (zH (o:=0) O) hS (zC 6 O zT hS (zu 5 7 ?_ ?_)))
    ·refine zm 5 O hw (zL 0 (v:=Vi t.now) O O O O (zE [1,2,3,4,5] O qM (fun w' hw hS=>zK 7 O hw (a_call O O (fun w' hw=>(kf cb jb ({t with qD:=m.src}:TimD) a r b (xJ y) yv (pt ob) qd w' ‹_› qO (hw.give [0] O qM)).mono ?_)))))
     rintro _ w1 ⟨rfl,hO⟩
     refine O6 ?_ (hw.qg [0] O hO)
     refine zE [0,1,2,3,4] O qM (fun w' hw hS=>zC 8 O (yq O O (zq V)) hS (zC 9 O (zQ O) hS (zC 10 O (zH (o:=2) O) hS (zC 11 O (zH (o:=2) O) hS (zK 12 O hw (zn 5 O O O O O (zE [0,1,2,3,4] O qM (fun w' hw hS=>zU ?_))))))))
     exact⟨({t with qD:=m.src,due:=t.now+yz a qd}:TimD),⟨O,O,O,trivial⟩,(if_pos c2).symm,hw.sel [5,0,1,2,3,4] O qM⟩
    refine zm 7 O hw (a_call O O (fun w' hw=>(kf cb jb ({t with qD:=m.src}:TimD) a r b (xJ y) yv (pt ob) qd w' ‹_› qO (hw.give [0] O qM)).mono ?_))
    rintro _ w1 ⟨rfl,hO⟩
    refine O6 ?_ (hw.qg [0] O hO)
    refine zE [0,1,2,3,4] O qM (fun w' hw hS=>zK 5 O hw (zL 5 (v:=Vi t.now) O O O O (zE [0,1,2,3,4] O qM (fun w' hw hS=>zC 8 O (yq O O (zq V)) hS (zC 9 O (zQ O) hS (zC 10 O (zH (o:=2) O) hS (zC 11 O (zH (o:=2) O) hS (zK 12 O hw (zn 5 O O O O O (zE [0,1,2,3,4] O qM (fun w' hw hS=>zU ?_)))))))))))
    exact⟨({t with qD:=m.src,due:=t.now+yz a qd}:TimD),⟨O,O,O,trivial⟩,(if_pos c2).symm,hw.sel [5,0,1,2,3,4] O qM⟩
   exact yc (fun w' hw=>⟨t,⟨O,O,O,trivial⟩,(if_neg (by rw[c2];decide)).symm,hw⟩)
  have ht':=hΦ
  have htt:t'.term=t.term:=by rw[ht'];split<;>rfl
  refine zS (zD O (zJ (o:=1) O O (zL 5 (v:=Vi m.src) O O O O (zD O (ye (cs:=[Vi 4,Vi 0,Vi m.src,Vn 0,Vn 0,Vn 0,Vn 0,Vn 0, .bool ys, .slice none 0 0, .slice none 0 0, .slice none 0 0,Vi 0, .slice none 0 0]) (z:=[Vi 0,Vi 0,Vi 0,Vn 0,Vn 0,Vn 0,Vn 0,Vn 0, .bool false, .slice none 0 0, .slice none 0 0, .slice none 0 0,Vi 0, .slice none 0 0]) (pl:=[(0,1),(1,1),(2,1),(3,1),(4,1),(5,1),(6,1),(7,1),(8,1),(9,1),(10,2),(12,1),(13,1)]) qN qN O (zy (e:=59) (sz:=14) (vs:=[.agg #[Vi 4,Vi 0,Vi m.src,Vn 0,Vn 0,Vn 0,Vn 0,Vn 0, .bool ys, .slice none 0 0, .slice none 0 0, .slice none 0 0,Vi 0, .slice none 0 0]]) qN O O qY qM O (fun b77=> ?_)))))))
  refine z2 [z4 cb t' (xJ y) a r b yv jb qd (pt ob),Res.nl b lv es,Res.lo y,vI yv yes,Res.ou ob o,Res.row b3 59 (MsgD.cells m),vM (.slice (some ⟨b77,0,none⟩) 1 1) [(yo 4 0 m.src 0 0 0 0 0 ys (.slice none 0 0) [])],sM [(yo 4 0 m.src 0 0 0 0 0 ys (.slice none 0 0) [])]] (fun w' hw=>hw.msg0 ⟨O,O,O⟩ O O) ?_
  refine a_call O O (fun w' hw=>(jG cb jb t' a r b (xJ y) yv qd ob _ (.slice (some ⟨b77,0,none⟩) 1 1) [(yo 4 0 m.src 0 0 0 0 0 ys (.slice none 0 0) [])] w' qS (hw.give [0,4,6,7] O qM)).mono ?_)
  rintro _ w1 ⟨mv'1_,rfl,hO⟩
  refine O6 ?_ (hw.qg [0,4,6,7] O hO)
  exact zd (yJ O (fun w' hw=>⟨({t:=t',r:=r,lv:=lv,es:=es,y:=y,yv:=yv,yes:=yes}:NdD),({o with mv:=mv'1_,qj:=o.qj++[yd a t'.term (yo 4 0 m.src 0 0 0 0 0 ys (.slice none 0 0) [])]}:OutD),⟨[one a 4 m.src t.term ys],[],[]⟩,O,(by unfold yY;dsimp only;rw[if_pos (show m.a.kind=3 from hk),←hys,ht'];by_cases q:ys=true;(rw[if_pos q,if_pos (of_decide_eq_true (hys.symm.trans q))];rfl);(rw[if_neg q,if_neg (fun v=>q (hys.trans (decide_eq_true v)))];rfl)),(by rw[List.map_append,zDp (show(4:Int)≠1∧(4:Int)≠2 by decide),htt];rfl),(List.append_nil _).symm,O,hw.sel [4,0,1,2,5] O qM⟩))
end Go.Proofs.YtkkeknmkipkbmaaGreat
