import Derived.Test.YtkkeknmkipkbmaaGreatCoO
set_option linter.unusedSectionVars false
set_option linter.unusedSimpArgs false
set_option linter.unusedVariables false
set_option maxRecDepth 10000
namespace Go.Proofs.YtkkeknmkipkbmaaGreat
open Go Go.Sc Go.Proofs
structure OutA where
  ms:List MsgA
  qw:List RdyD
  qt:List Nat
structure LdD.bd(l:LdD):Prop where
  qa:l.qa.length≤1000
  each:∀ p∈l.qa,p.2.bd 1000000
  round:∀ p∈l.qa,p.2.round≤l.qd.length
  qd:l.qd.length≤900000
  qj:l.qj.length≤10000
  qf:l.qf.length≤1000000
def zAH(a:StA)(vs0:List Int)(m:MsgA)(n:NodA)(l:LdD):NodA×OutA:=
  match ya l.qa m.src with
  |none=>(n,⟨[],[],[]⟩)
  |some k=>
    let x:=xy a n.t vs0 n.E l k n.r.qc m
    let N:=xa a vs0 n.E (z5 (zj m l k) k x.p) l.qd l.sure
    ({n with t:=xZ N l.qd n.t,r:={n.r with qc:=x.qc},ld:=some (x9 N (.slice none 0 0) {l with qa:=z5 (zj m l k) k x.p,qf:=l.qf++[(zG l.qa k).2.id],qB:=x.qB})},⟨x.ms,if N=0 then []else(l.qj.filter (fun q=>q.round≤N)).map LookM.rdy,[]⟩)
def zEa(a:StA)(m:MsgA)(n:NodA):Prop:=(n.t.qD=0∨n.t.qD=m.src)∧n.r.qp≠4∧(LogA.mk 0 0 n.E).fresh m.index m.ql∧(m.flag=true∨¬ n.t.now - n.t.qA<a.base)
instance (a:StA)(m:MsgA)(n:NodA):Decidable (zEa a m n):=inferInstanceAs (Decidable (_∧_))
def one(a:StA)(kind dst:Int)(term:Nat)(flag:Bool):MsgA:=⟨kind,a.id,dst,term,0,0,0,0,flag,[],⟨[],[]⟩,0,[]⟩
def zBA(x:NodA×List MsgA):NodA×OutA:=(x.1,⟨x.2,[],[]⟩)
def yc(a:StA)(vs0:List Int)(qe:Nat)(m:MsgA)(n:NodA):NodA×OutA:=
  if m.kind=3 then(if zEa a m n then{n with t:={n.t with qD:=m.src,due:=n.t.now+y4 a qe}}else n,⟨[one a 4 m.src n.t.term (decide (zEa a m n))],[],[]⟩)
  else if m.kind=4 then
    if n.r.qp=3∧m.flag=true then
      let n1:={n with yes:=y8 (zc vs0 n.E) n.yes m.src}
      if((zc vs0 n.E).ok∧m.src∈(zc vs0 n.E).vs)∧(zc vs0 n.E).qv n1.yes then zBA (ja a vs0 n1)else(n1,⟨[],[],[]⟩)
    else(n,⟨[],[],[]⟩)
  else if m.kind=5 then
    if n.r.qp=4 then(n,⟨[],[],[]⟩)
    else zBA (jD a m {n with t:={n.t with qA:=n.t.now,due:=n.t.now+y4 a qe},r:=⟨1,m.src,n.r.qc⟩,ld:=none,yes:=[]})
  else if m.kind=6∨m.kind=8 then
    match n.ld with
    |none=>(n,⟨[],[],[]⟩)
    |some l=>zAH a vs0 m n l
  else if m.kind=9∧((zc vs0 n.E).ok∧a.id∈(zc vs0 n.E).vs)∧n.r.qp≠4∧n.t.term<4611686018427387904 then zBA (zAV a vs0 qe true n)
  else(n,⟨[],[],[]⟩)
theorem j2{n:NodA}{l:List MsgA}{x:NodA×List MsgA}(h:(n,l)=x):(n,(⟨l,[],[]⟩:OutA))=zBA x:=by rw[←h];rfl
theorem zF8{b:Bool}{P:Prop}[Decidable P](h:b=true↔P):b=decide P:=by
  by_cases q:P
  · rw[decide_eq_true q,h.2 q]
  rw[decide_eq_false q];cases b
  · rfl
  exact absurd (h.1 rfl) q
theorem zCl{y:Option (Nat×LdD)}{r:RolD}(h:r.qp=4↔y.isSome=true)(h2:¬ r.qp=4):y=none:=by
  cases y with
  |none=>rfl
  |some q=>exact absurd (h.2 rfl) h2
theorem zAP{m:MsgD}{k j:Int}(h:m.kind=k)(h2:k≠j):¬ m.a.kind=j:=fun q=>h2 (h.symm.trans q)
theorem zMJ{l:LdD}{p:PeerM}{n:Nat}{g:Bool}:y6 l.er p n g=y6 l p n g:=rfl
theorem zF2{m:MsgA}{l:LdD}{k:Nat}:zj m l.er k=er (zj m l k):=by
  unfold zj
  rw[zE7,show l.er.qa=er l.qa from rfl,zDf];rfl
theorem zNW{a:StA}{t:TimD}{vs0:List Int}{E:List EntA}{l:LdD}{k qc:Nat}{m:MsgA}:xy a t vs0 E l.er k qc m=xy a t vs0 E l k qc m:=by
  unfold xy
  simp only[zF2,zDf,←zE7,zCO,zMJ]
  rfl
theorem zMk{n:Nat}{kv:Value}{l:LdD}:(x9 n kv l).er=x9 n (.slice none 0 0) l.er:=by unfold x9;split<;>rfl
theorem zKJ{a:StA}{t:TimD}{r:RolD}{vs0:List Int}{lv yv kv av:Value}{es:List EntD}{yes:List Int}{ld:Nat}{l:LdD}{j:Nat}{m:MsgA}{x:AnsR}{P:List PeerP}{N:Nat}(hx:x=xy a t vs0 (es.map EntD.toEntA) l j r.qc m)(hP:P=z5 (zj m l j) j x.p)(hN:N=xa a vs0 (es.map EntD.toEntA) P l.qd l.sure)(hix:ya l.qa m.src=some j):
    ((({t:=xZ N l.qd t,r:={r with qc:=x.qc},lv:=lv,es:=es,y:=some (ld,x9 N kv {l with qa:=P,av:=av,qf:=l.qf++[(zG l.qa j).2.id],qB:=x.qB}),yv:=yv,yes:=yes}:NdD).a,(⟨x.ms,if N=0 then []else(l.qj.filter (fun q=>q.round≤N)).map LookM.rdy,[]⟩:OutA)):NodA×OutA)=zAH a vs0 m {t:=t,r:=r,E:=es.map EntD.toEntA,ld:=some l.er,yes:=yes} l.er:=by
  unfold zAH
  rw[show ya l.er.qa m.src=some j from peerIx_er.trans hix]
  dsimp only
  have e1:z5 (zj m l.er j) j x.p=er P:=by rw[zF2,←zE7,hP]
  rw[zNW,←hx,e1,zMX,show xa a vs0 (es.map EntD.toEntA) P l.er.qd l.er.sure=N from hN.symm]
  unfold NdD.a
  rw[Option.map_some,zMk,show(zG l.er.qa j).2=(zG l.qa j).2 from zDf]
  rfl
theorem zKs{n:Nat}{rv:Value}{qj:List LookM}{o:OutD}:(zAR n rv qj o).qk=o.qk:=by unfold zAR;split<;>rfl
theorem zLe{n:Nat}{rv:Value}{qj:List LookM}{o:OutD}:(zAR n rv qj o).qt=o.qt:=by unfold zAR;split<;>rfl
theorem zKt{n:Nat}{rv:Value}{qj:List LookM}{o:OutD}:(zAR n rv qj o).qw=o.qw++(if n=0 then []else(qj.filter (fun q=>q.round≤n)).map LookM.rdy):=by
  unfold zAR
  split
  · rw[List.append_nil]
  rfl
theorem zJM{S:List Nat}(cb jb:Nat)(t:TimD)(a:StA)(r:RolD)(b:StB)(yv:Value)(qe:Nat)(lv:Value)(es:List EntD)(ob:Nat)(o:OutD)(y:Option (Nat×LdD))(yes:List Int)(m:MsgD)(w:World)(hg:(LG 0 0 es).good)(hl:es.length≤100000)(hvl:b.vs.length≤12)(hcm:1≤((zc b.vs (es.map EntD.toEntA)).vs++(zc b.vs (es.map EntD.toEntA)).ls).length∧((zc b.vs (es.map EntD.toEntA)).vs++(zc b.vs (es.map EntD.toEntA)).ls).length≤12)(htm:(r.qp=3→1≤t.term)∧t.term≤4611686018427387904)(hen:(LG 0 0 es).end_≤t.term)(hn:0≤t.now∧t.now≤1000000000000000)(hh:0≤t.qA∧t.qA≤1000000000000000)(ho:o.qk.length≤1000)(hrd:o.qw.length≤1000)(ha:a.ok)(hd:qe<18446744073709551616)(hm:m.wf)(hro:r.qp=4↔y.isSome=true)(hld:∀ q,y=some q→q.2.bd)(hy:yes.length≤1000)(hk:m.kind=4)(hin:Own w S [z7 cb t (xF y) a r b yv jb qe (pt ob),Res.nl b lv es,Res.lo y,vI yv yes,Res.ou ob o] w)(rd_m:MsgD.rd m w S):Rets Tryz.prog 87 #[pt cb, .agg (MsgD.cells m).toArray] w fun u_ w'=>∃ (n:NdD) (o':OutD) (x:OutA),u_= .tuple #[]∧(n.a,x)=yc a b.vs qe m.a {t:=t,r:=r,E:=es.map EntD.toEntA,ld:=y.map fun q=>q.2.er,yes:=yes}∧o'.qk.map MsgD.a=o.qk.map MsgD.a++x.ms∧o'.qw=o.qw++x.qw∧o'.qt=o.qt∧Own w S [z7 cb n.t (xF n.y) a n.r b n.yv jb qe (pt ob),Res.nl b n.lv n.es,Res.lo n.y,vI n.yv n.yes,Res.ou ob o'] w':=by
  have hme:=hm.qm
  have k3:=zAP (j:=3) hk qM
  have k4:m.a.kind=4:=hk
  refine zW Tryz.func87 O Tryz.ntmps87 hin ?_
  refine zC (z8 O O (fun b3=>zA (zC (zK (o:=0) O O (zM 5 (v:=Vi m.kind) O O O O (zA (zZ (zC (yR O O O (zI O (zA (xK O V ?_))))))))))))
  refine zC (yR O O O (zI O (zA (jf O hk (zC (zD O (zb O O (zK (o:=21) O O (zM 0 (v:=Vi r.qp) O O O O (yR O O O (zD O (yJ (q:=r.qp=3) 2 5 [88,87] (m.flag=true) O O O O O O trivial O (fun h9_5=> ?_) (fun g9_8=> ?_)))))))))))))
  ·refine zR O (gT h9_5) (zK (o:=8) O O (zR O (gT h9_5) (zM 5 (v:= .bool m.flag) O O O O ?_)))
   exact yN (xC _) (fun _ hw=>hw)
  refine zD O ?_
  by_cases s9_9:(r.qp=3)∧(m.flag=true)
  ·have s1:r.qp=3∧m.a.flag=true:=s9_9
   refine zR O (gT s9_9) (zD O (zR O (gT s9_9) (zK (o:=1) O O (zR O (gT s9_9) (zM 5 (v:=Vi m.src) O O O O (zR O (gT s9_9) (a_call O O (fun w' hw=>(zIn cb jb t a r b (xF y) yv (pt ob) qe _ _ yes m.src w' ‹_› qO qO qO (hw.give [0,1,3] O qM)).mono ?_))))))))
   rintro _ w1 ⟨yv'1_,rfl,hO⟩
   refine O6 ?_ (hw.qh [0,1,3] O hO)
   refine zNq (gT s9_9) O (zA (za O (fun c3=> ?_) (fun c3=> ?_)))
   ·have s2:(((zc b.vs (es.map EntD.toEntA)).ok∧m.a.src∈(zc b.vs (es.map EntD.toEntA)).vs)∧(zc b.vs (es.map EntD.toEntA)).qv (y8 (zc b.vs (es.map EntD.toEntA)) yes m.a.src)):=c3
    obtain rfl:=zCl hro V
    refine zV (zD O (a_call O O (fun w' hw=>(zGh cb jb t a r b yv'1_ qe _ _ ob _ (y8 (zc b.vs (es.map EntD.toEntA)) yes m.src) w' ‹_› qO qO qS ⟨htm.1 s9_9.1,htm.2⟩ qO qO qO (hw.give [3,4,1] O qM)).mono ?_)))
    rintro _ w1 ⟨n2_,mv'3_,ms4_,rfl,hf10_1,hO⟩
    refine O8 ?_ (hw.qh [3,4,1] O hO)
    exact zg (yQ O (fun w' hw=>⟨n2_,({o with mv:=mv'3_,qk:=o.qk++ms4_}:OutD),⟨ms4_.map MsgD.a,[],[]⟩,O,(by unfold yc;dsimp only;rw[if_neg k3,if_pos k4,if_pos s1,if_pos s2];exact j2 hf10_1),List.map_append,(List.append_nil _).symm,O,hw.sel [3,4,5,6,7] O qM⟩))
   have s2:¬(((zc b.vs (es.map EntD.toEntA)).ok∧m.a.src∈(zc b.vs (es.map EntD.toEntA)).vs)∧(zc b.vs (es.map EntD.toEntA)).qv (y8 (zc b.vs (es.map EntD.toEntA)) yes m.a.src)):=c3
   exact yZ (yQ O (fun w' hw=>⟨({t:=t,r:=r,lv:=lv,es:=es,y:=y,yv:=yv'1_,yes:=(y8 (zc b.vs (es.map EntD.toEntA)) yes m.src)}:NdD),o,⟨[],[],[]⟩,O,(by unfold yc;dsimp only;rw[if_neg k3,if_pos k4,if_pos s1,if_neg s2];rfl),(List.append_nil _).symm,(List.append_nil _).symm,O,hw.sel [3,4,0,5,1] O qM⟩))
  have s1:¬(r.qp=3∧m.a.flag=true):=s9_9
  refine zAz O (gF s9_9) O O (zAz O (gF s9_9) O O (zAz O (gF s9_9) O O (zAz O (gF s9_9) O O (j8 (gF s9_9) O (zA (xx O ?_))))))
  exact yZ (yQ O (fun w' hw=>⟨({t:=t,r:=r,lv:=lv,es:=es,y:=y,yv:=yv,yes:=yes}:NdD),o,⟨[],[],[]⟩,O,(by unfold yc;dsimp only;rw[if_neg k3,if_pos k4,if_neg s1];rfl),(List.append_nil _).symm,(List.append_nil _).symm,O,hw.sel [0,1,2,3,4] O qM⟩))
theorem zJL{S:List Nat}(cb jb:Nat)(t:TimD)(a:StA)(r:RolD)(b:StB)(yv:Value)(qe:Nat)(lv:Value)(es:List EntD)(ob:Nat)(o:OutD)(y:Option (Nat×LdD))(yes:List Int)(m:MsgD)(w:World)(hg:(LG 0 0 es).good)(hl:es.length≤100000)(hvl:b.vs.length≤12)(hcm:1≤((zc b.vs (es.map EntD.toEntA)).vs++(zc b.vs (es.map EntD.toEntA)).ls).length∧((zc b.vs (es.map EntD.toEntA)).vs++(zc b.vs (es.map EntD.toEntA)).ls).length≤12)(htm:(r.qp=3→1≤t.term)∧t.term≤4611686018427387904)(hen:(LG 0 0 es).end_≤t.term)(hn:0≤t.now∧t.now≤1000000000000000)(hh:0≤t.qA∧t.qA≤1000000000000000)(ho:o.qk.length≤1000)(hrd:o.qw.length≤1000)(ha:a.ok)(hd:qe<18446744073709551616)(hm:m.wf)(hro:r.qp=4↔y.isSome=true)(hld:∀ q,y=some q→q.2.bd)(hy:yes.length≤1000)(hk:m.kind=5)(hin:Own w S [z7 cb t (xF y) a r b yv jb qe (pt ob),Res.nl b lv es,Res.lo y,vI yv yes,Res.ou ob o] w)(rd_m:MsgD.rd m w S):Rets Tryz.prog 87 #[pt cb, .agg (MsgD.cells m).toArray] w fun u_ w'=>∃ (n:NdD) (o':OutD) (x:OutA),u_= .tuple #[]∧(n.a,x)=yc a b.vs qe m.a {t:=t,r:=r,E:=es.map EntD.toEntA,ld:=y.map fun q=>q.2.er,yes:=yes}∧o'.qk.map MsgD.a=o.qk.map MsgD.a++x.ms∧o'.qw=o.qw++x.qw∧o'.qt=o.qt∧Own w S [z7 cb n.t (xF n.y) a n.r b n.yv jb qe (pt ob),Res.nl b n.lv n.es,Res.lo n.y,vI n.yv n.yes,Res.ou ob o'] w':=by
  have hme:=hm.qm
  have k3:=zAP (j:=3) hk qM
  have k4:=zAP (j:=4) hk qM
  have k5:m.a.kind=5:=hk
  have hw1:=jL (qe:=qe) ha
  refine zW Tryz.func87 O Tryz.ntmps87 hin ?_
  refine zC (z8 O O (fun b3=>zA (zC (zK (o:=0) O O (zM 5 (v:=Vi m.kind) O O O O (zA (zZ (zC (yR O O O (zI O (zA (xK O V ?_))))))))))))
  refine zC (yR O O O (zI O (zA (xK O V (zP (zC (yR O O O (zI O (zA (jf O hk (zQ (jf O hk ?_))))))))))))
  refine zP (zC (zD O (zb O O (zK (o:=21) O O (zM 0 (v:=Vi r.qp) O O O O (yR O O O (zA (za O (fun c5=> ?_) (fun c5=> ?_)))))))))
  ·exact zU (yQ O (fun w' hw=>⟨({t:=t,r:=r,lv:=lv,es:=es,y:=y,yv:=yv,yes:=yes}:NdD),o,⟨[],[],[]⟩,O,(by unfold yc;dsimp only;rw[if_neg k3,if_neg k4,if_pos k5,if_pos c5];rfl),(List.append_nil _).symm,(List.append_nil _).symm,O,hw.sel [0,1,2,3,4] O qM⟩))
  obtain rfl:=zCl hro c5
  refine zQ (zC (zD O (zK (o:=1) O O (zM 5 (v:=Vi m.src) O O O O (a_call O O (fun w' hw=>(kh cb jb t a r b yv (pt ob) qe m.src w' (hw.give [0] O qM)).mono ?_))))))
  rintro _ w1 ⟨rfl,hO⟩
  refine O6 ?_ (hw.qh [0] O hO)
  refine zA (zC (zD O (zD O (zb O O (zK (o:=2) O O (zK (o:=0) O O (zM 5 (v:=Vi t.now) O O O O (zb O O (zK (o:=2) O O (zK (o:=1) O O (zn 5 O O O O O (zA ?_))))))))))))
  refine zBD ([(0,pt cb),(3,pt b3)]) (True) ([z7 cb ({t with qA:=t.now,due:=t.now+y4 a qe}:TimD) (.pointer none) a ({qp:=1,who:=m.src,qc:=r.qc}:RolD) b (.slice none 0 0) jb qe (pt ob),Res.nl b lv es,Res.ou ob o,Res.row b3 59 (MsgD.cells m)]) ?_ (fun g hΦ=> ?_)
  ·refine ze [0,1,2,3,4] O qM qN (fun w' hw hS=>zB 0 O zS hS (zB 1 O zS hS (zB 2 O (zO O) hS (zB 3 O (zH (o:=2) O) hS (zB 4 O (zH (o:=0) O) hS (zB 6 O zS hS (zq 5 7 ?_ ?_)))))))
   ·refine zl 5 O hw (zM 5 (v:=Vi t.now) O O O O (zE [0,1,2,3,4] O qM (fun w' hw hS=>zJ 7 O hw (a_call O O (fun w' hw=>(k0 cb jb ({t with qA:=t.now}:TimD) a ({qp:=1,who:=m.src,qc:=r.qc}:RolD) b (.pointer none) (.slice none 0 0) (pt ob) qe w' ‹_› qO (hw.give [5] O qM)).mono ?_)))))
    rintro _ w1 ⟨rfl,hO⟩
    refine O6 ?_ (hw.qh [5] O hO)
    refine zE [0,1,2,3,4] O qM (fun w' hw hS=>zB 8 O (yr O O (zr V)) hS (zB 9 O (zO O) hS (zB 10 O (zH (o:=2) O) hS (zB 11 O (zH (o:=2) O) hS (zJ 12 O hw (zn 5 O O O O O (zE [0,1,2,3,4] O qM (fun w' hw hS=>zT ?_))))))))
    exact⟨⟨O,O,trivial⟩,trivial,hw.sel [5,0,3,4] O qM⟩
   refine zl 7 O hw (a_call O O (fun w' hw=>(k0 cb jb ({t with qA:=t.now}:TimD) a ({qp:=1,who:=m.src,qc:=r.qc}:RolD) b (.pointer none) (.slice none 0 0) (pt ob) qe w' ‹_› qO (hw.give [5] O qM)).mono ?_))
   rintro _ w1 ⟨rfl,hO⟩
   refine O6 ?_ (hw.qh [5] O hO)
   refine zE [0,1,2,3,4] O qM (fun w' hw hS=>zJ 5 O hw (zM 5 (v:=Vi t.now) O O O O (zE [0,1,2,3,4] O qM (fun w' hw hS=>zB 8 O (yr O O (zr V)) hS (zB 9 O (zO O) hS (zB 10 O (zH (o:=2) O) hS (zB 11 O (zH (o:=2) O) hS (zJ 12 O hw (zn 5 O O O O O (zE [0,1,2,3,4] O qM (fun w' hw hS=>zT ?_)))))))))))
   exact⟨⟨O,O,trivial⟩,trivial,hw.sel [5,0,3,4] O qM⟩
  refine zC (zK (o:=0) O O (zM 3 (v:=Vi m.kind) O O O O (yR O O O (zA (jf O hk (zV (zD O (yL (cs:=(MsgD.cells m)) 3 O O O (a_call O O (fun w' hw=>(zKX cb jb ({t with qA:=t.now,due:=t.now+y4 a qe}:TimD) a ({qp:=1,who:=m.src,qc:=r.qc}:RolD) b qe _ _ ob _ m w' ‹_› qO ‹_› qO (hw.give [0,1,2] O qM) (rd_m.at hw [0,1,2] O)).mono ?_))))))))))
  rintro _ w1 ⟨n1_,mv'2_,ms3_,rfl,hf18_2,hO⟩
  refine O6 ?_ (hw.qh [0,1,2] O hO)
  exact zg (yQ O (fun w' hw=>⟨n1_,({o with mv:=mv'2_,qk:=o.qk++ms3_}:OutD),⟨ms3_.map MsgD.a,[],[]⟩,O,(by unfold yc;dsimp only;rw[if_neg k3,if_neg k4,if_pos k5,if_neg c5];exact j2 hf18_2),List.map_append,(List.append_nil _).symm,O,hw.sel [1,2,3,4,5] O qM⟩))
theorem zJk{S:List Nat}(cb jb:Nat)(t:TimD)(a:StA)(r:RolD)(b:StB)(yv:Value)(qe:Nat)(lv:Value)(es:List EntD)(ob:Nat)(o:OutD)(y:Option (Nat×LdD))(yes:List Int)(m:MsgD)(w:World)(hg:(LG 0 0 es).good)(hl:es.length≤100000)(hvl:b.vs.length≤12)(hcm:1≤((zc b.vs (es.map EntD.toEntA)).vs++(zc b.vs (es.map EntD.toEntA)).ls).length∧((zc b.vs (es.map EntD.toEntA)).vs++(zc b.vs (es.map EntD.toEntA)).ls).length≤12)(htm:(r.qp=3→1≤t.term)∧t.term≤4611686018427387904)(hen:(LG 0 0 es).end_≤t.term)(hn:0≤t.now∧t.now≤1000000000000000)(hh:0≤t.qA∧t.qA≤1000000000000000)(ho:o.qk.length≤1000)(hrd:o.qw.length≤1000)(ha:a.ok)(hd:qe<18446744073709551616)(hm:m.wf)(hro:r.qp=4↔y.isSome=true)(hld:∀ q,y=some q→q.2.bd)(hy:yes.length≤1000)(hk:m.kind=6)(hin:Own w S [z7 cb t (xF y) a r b yv jb qe (pt ob),Res.nl b lv es,Res.lo y,vI yv yes,Res.ou ob o] w)(rd_m:MsgD.rd m w S):Rets Tryz.prog 87 #[pt cb, .agg (MsgD.cells m).toArray] w fun u_ w'=>∃ (n:NdD) (o':OutD) (x:OutA),u_= .tuple #[]∧(n.a,x)=yc a b.vs qe m.a {t:=t,r:=r,E:=es.map EntD.toEntA,ld:=y.map fun q=>q.2.er,yes:=yes}∧o'.qk.map MsgD.a=o.qk.map MsgD.a++x.ms∧o'.qw=o.qw++x.qw∧o'.qt=o.qt∧Own w S [z7 cb n.t (xF n.y) a n.r b n.yv jb qe (pt ob),Res.nl b n.lv n.es,Res.lo n.y,vI n.yv n.yes,Res.ou ob o'] w':=by
  have hme:=hm.qm
  have k3:=zAP (j:=3) hk qM
  have k4:=zAP (j:=4) hk qM
  have k5:=zAP (j:=5) hk qM
  have k6:m.a.kind=6∨m.a.kind=8:= .inl hk
  refine zW Tryz.func87 O Tryz.ntmps87 hin ?_
  refine zC (z8 O O (fun b3=>zA (zC (zK (o:=0) O O (zM 5 (v:=Vi m.kind) O O O O (zA (zZ (zC (yR O O O (zI O (zA (xK O V ?_))))))))))))
  refine zC (yR O O O (zI O (zA (xK O V (zP (zC (yR O O O (zI O (zA (xK O V (zV (yR O O O ?_))))))))))))
  refine zI O (zA (xK O V (zP (zC (yR O O O (zI O (zA (jf O hk (zQ (jf O hk (zC (zD O ?_))))))))))))
  refine zb O O (zK (o:=21) O O (zM 0 (v:=Vi r.qp) O O O O (yR O O O (zA (za O (fun c7=> ?_) (fun c7=> ?_))))))
  ·obtain⟨⟨ld,l⟩,rfl⟩:=Option.isSome_iff_exists.1 (hro.1 c7)
   have hb:=hld _ rfl
   have hbp:=hb.qa
   refine zC (zD O (zK (o:=1) O O (zM 5 (v:=Vi m.src) O O O O (a_call O O (fun w' hw=>(zDj cb jb t a r b yv (pt ob) qe ld _ m.src w' qO (hw.give [0,2] O qM)).mono ?_)))))
   rintro _ w1 ⟨pv1_,rfl,hf23_3,hO⟩
   refine O6 ?_ (hw.qh [0,2] O hO)
   refine zI O (zA (zC (zD O (zBU qN O O O (zA (zAu O (fun c8=> ?_) (fun c8=> ?_)))))))
   ·obtain⟨j,hj,rfl,hji,hix⟩:=PeerIs.some hf23_3 c8
    refine zV (zD O (zD O (yL (cs:=(MsgD.cells m)) 3 O O O (a_call O O (fun w' hw=>(zKg cb jb t a r b yv qe _ _ ld _ ob _ j m w' ‹_› qO qO hb.qa hj qO hb.each (by have:=hb.qd;omega) (by rw[List.length_append]at hcm;omega) hb.round hb.qj V hb.qf (hw.give [4,0,5,2] O qM) (rd_m.at hw [4,0,5,2] O)).mono ?_)))))
    rintro _ w1 ⟨mv'2_,rv'3_,av'4_,kv'5_,ms6_,rfl,hf25_3,hO⟩
    refine O6 ?_ (hw.qh [4,0,5,2] O hO)
    exact zg (yQ O (fun w' hw=>⟨({t:=xZ (xa a b.vs (es.map EntD.toEntA) (z5 (zj m.a l j) j (xy a t b.vs (es.map EntD.toEntA) l j r.qc m.a).p) l.qd l.sure) l.qd t,r:={r with qc:=(xy a t b.vs (es.map EntD.toEntA) l j r.qc m.a).qc},lv:=lv,es:=es,y:=some (ld,x9 (xa a b.vs (es.map EntD.toEntA) (z5 (zj m.a l j) j (xy a t b.vs (es.map EntD.toEntA) l j r.qc m.a).p) l.qd l.sure) kv'5_ {l with qa:=(z5 (zj m.a l j) j (xy a t b.vs (es.map EntD.toEntA) l j r.qc m.a).p),av:=av'4_,qf:=l.qf++[(zG l.qa j).2.id],qB:=(xy a t b.vs (es.map EntD.toEntA) l j r.qc m.a).qB}),yv:=yv,yes:=yes}:NdD),(zAR (xa a b.vs (es.map EntD.toEntA) (z5 (zj m.a l j) j (xy a t b.vs (es.map EntD.toEntA) l j r.qc m.a).p) l.qd l.sure) rv'3_ l.qj ({o with mv:=mv'2_,qk:=o.qk++ms6_}:OutD)),⟨(xy a t b.vs (es.map EntD.toEntA) l j r.qc m.a).ms,if(xa a b.vs (es.map EntD.toEntA) (z5 (zj m.a l j) j (xy a t b.vs (es.map EntD.toEntA) l j r.qc m.a).p) l.qd l.sure)=0 then []else(l.qj.filter (fun q=>q.round≤(xa a b.vs (es.map EntD.toEntA) (z5 (zj m.a l j) j (xy a t b.vs (es.map EntD.toEntA) l j r.qc m.a).p) l.qd l.sure))).map LookM.rdy,[]⟩,O,(by unfold yc;dsimp only;rw[if_neg k3,if_neg k4,if_neg k5,if_pos k6];exact zKJ rfl rfl rfl hix),(by rw[zKs,List.map_append,hf25_3]),zKt,zLe,hw.sel [2,3,4,0,5] O qM⟩))
   have hix:=PeerIs.none hf23_3 c8
   exact yZ (yQ O (fun w' hw=>⟨({t:=t,r:=r,lv:=lv,es:=es,y:=some (ld,l),yv:=yv,yes:=yes}:NdD),o,⟨[],[],[]⟩,O,(by unfold yc zAH;dsimp only;rw[if_neg k3,if_neg k4,if_neg k5,if_pos k6];show _=(match ya l.er.qa m.src with|none=>_|some k=>_);rw[show ya l.er.qa m.src=none from peerIx_er.trans hix];rfl),(List.append_nil _).symm,(List.append_nil _).symm,O,hw.sel [4,0,5,1,2] O qM⟩))
  obtain rfl:=zCl hro c7
  exact yZ (yQ O (fun w' hw=>⟨({t:=t,r:=r,lv:=lv,es:=es,y:=none,yv:=yv,yes:=yes}:NdD),o,⟨[],[],[]⟩,O,(by unfold yc;dsimp only;rw[if_neg k3,if_neg k4,if_neg k5,if_pos k6];rfl),(List.append_nil _).symm,(List.append_nil _).symm,O,hw.sel [0,1,2,3,4] O qM⟩))
theorem zKA{S:List Nat}(cb jb:Nat)(t:TimD)(a:StA)(r:RolD)(b:StB)(yv:Value)(qe:Nat)(lv:Value)(es:List EntD)(ob:Nat)(o:OutD)(y:Option (Nat×LdD))(yes:List Int)(m:MsgD)(w:World)(hg:(LG 0 0 es).good)(hl:es.length≤100000)(hvl:b.vs.length≤12)(hcm:1≤((zc b.vs (es.map EntD.toEntA)).vs++(zc b.vs (es.map EntD.toEntA)).ls).length∧((zc b.vs (es.map EntD.toEntA)).vs++(zc b.vs (es.map EntD.toEntA)).ls).length≤12)(htm:(r.qp=3→1≤t.term)∧t.term≤4611686018427387904)(hen:(LG 0 0 es).end_≤t.term)(hn:0≤t.now∧t.now≤1000000000000000)(hh:0≤t.qA∧t.qA≤1000000000000000)(ho:o.qk.length≤1000)(hrd:o.qw.length≤1000)(ha:a.ok)(hd:qe<18446744073709551616)(hm:m.wf)(hro:r.qp=4↔y.isSome=true)(hld:∀ q,y=some q→q.2.bd)(hy:yes.length≤1000)(hk:(m.kind≠3∧m.kind≠4∧m.kind≠5)∧(m.kind≠6∧m.kind≠7∧m.kind≠8)∧m.kind≠9)(hin:Own w S [z7 cb t (xF y) a r b yv jb qe (pt ob),Res.nl b lv es,Res.lo y,vI yv yes,Res.ou ob o] w)(rd_m:MsgD.rd m w S):Rets Tryz.prog 87 #[pt cb, .agg (MsgD.cells m).toArray] w fun u_ w'=>∃ (n:NdD) (o':OutD) (x:OutA),u_= .tuple #[]∧(n.a,x)=yc a b.vs qe m.a {t:=t,r:=r,E:=es.map EntD.toEntA,ld:=y.map fun q=>q.2.er,yes:=yes}∧o'.qk.map MsgD.a=o.qk.map MsgD.a++x.ms∧o'.qw=o.qw++x.qw∧o'.qt=o.qt∧Own w S [z7 cb n.t (xF n.y) a n.r b n.yv jb qe (pt ob),Res.nl b n.lv n.es,Res.lo n.y,vI n.yv n.yes,Res.ou ob o'] w':=by
  have hme:=hm.qm
  refine zW Tryz.func87 O Tryz.ntmps87 hin ?_
  refine zC (z8 O O (fun b3=>zA (zC (zK (o:=0) O O (zM 5 (v:=Vi m.kind) O O O O (zA (zZ (zC (yR O O O (zI O (zA (xK O V ?_))))))))))))
  refine zC (yR O O O (zI O (zA (xK O V (zP (zC (yR O O O (zI O (zA (xK O V (zV (yR O O O ?_))))))))))))
  refine zI O (zA (xK O V (zP (zC (yR O O O (zI O (zA (xK O V (zV (yR O O O (zI O (zA ?_))))))))))))
  refine xK O V (zC (yR O O O (zI O (zA (xK O V ?_)))))
  exact yZ (yQ O (fun w' hw=>⟨({t:=t,r:=r,lv:=lv,es:=es,y:=y,yv:=yv,yes:=yes}:NdD),o,⟨[],[],[]⟩,O,(by unfold yc;dsimp only;rw[if_neg (show ¬ m.a.kind=3 from hk.1.1),if_neg (show ¬ m.a.kind=4 from hk.1.2.1),if_neg (show ¬ m.a.kind=5 from hk.1.2.2),if_neg (show ¬(m.a.kind=6∨m.a.kind=8)from fun q=>q.elim hk.2.1.1 hk.2.1.2.2),if_neg (fun q=>hk.2.2 q.1)];rfl),(List.append_nil _).symm,(List.append_nil _).symm,O,hw.sel [0,1,2,3,4] O qM⟩))
theorem zJs{S:List Nat}(cb jb:Nat)(t:TimD)(a:StA)(r:RolD)(b:StB)(yv:Value)(qe:Nat)(lv:Value)(es:List EntD)(ob:Nat)(o:OutD)(y:Option (Nat×LdD))(yes:List Int)(m:MsgD)(w:World)(hg:(LG 0 0 es).good)(hl:es.length≤100000)(hvl:b.vs.length≤12)(hcm:1≤((zc b.vs (es.map EntD.toEntA)).vs++(zc b.vs (es.map EntD.toEntA)).ls).length∧((zc b.vs (es.map EntD.toEntA)).vs++(zc b.vs (es.map EntD.toEntA)).ls).length≤12)(htm:(r.qp=3→1≤t.term)∧t.term≤4611686018427387904)(hen:(LG 0 0 es).end_≤t.term)(hn:0≤t.now∧t.now≤1000000000000000)(hh:0≤t.qA∧t.qA≤1000000000000000)(ho:o.qk.length≤1000)(hrd:o.qw.length≤1000)(ha:a.ok)(hd:qe<18446744073709551616)(hm:m.wf)(hro:r.qp=4↔y.isSome=true)(hld:∀ q,y=some q→q.2.bd)(hy:yes.length≤1000)(hk:m.kind=9)(hin:Own w S [z7 cb t (xF y) a r b yv jb qe (pt ob),Res.nl b lv es,Res.lo y,vI yv yes,Res.ou ob o] w)(rd_m:MsgD.rd m w S):Rets Tryz.prog 87 #[pt cb, .agg (MsgD.cells m).toArray] w fun u_ w'=>∃ (n:NdD) (o':OutD) (x:OutA),u_= .tuple #[]∧(n.a,x)=yc a b.vs qe m.a {t:=t,r:=r,E:=es.map EntD.toEntA,ld:=y.map fun q=>q.2.er,yes:=yes}∧o'.qk.map MsgD.a=o.qk.map MsgD.a++x.ms∧o'.qw=o.qw++x.qw∧o'.qt=o.qt∧Own w S [z7 cb n.t (xF n.y) a n.r b n.yv jb qe (pt ob),Res.nl b n.lv n.es,Res.lo n.y,vI n.yv n.yes,Res.ou ob o'] w':=by
  have hme:=hm.qm
  have k3:=zAP (j:=3) hk qM
  have k4:=zAP (j:=4) hk qM
  have k5:=zAP (j:=5) hk qM
  have k6:¬(m.a.kind=6∨m.a.kind=8):=fun q=>q.elim (zAP hk qM) (zAP hk qM)
  refine zW Tryz.func87 O Tryz.ntmps87 hin ?_
  refine zC (z8 O O (fun b3=>zA (zC (zK (o:=0) O O (zM 5 (v:=Vi m.kind) O O O O (zA (zZ (zC (yR O O O (zI O (zA (xK O V ?_))))))))))))
  refine zC (yR O O O (zI O (zA (xK O V (zP (zC (yR O O O (zI O (zA (xK O V (zV (yR O O O ?_))))))))))))
  refine zI O (zA (xK O V (zP (zC (yR O O O (zI O (zA (xK O V (zV (yR O O O (zI O (zA ?_))))))))))))
  refine xK O V (zC (yR O O O (zI O (zA (jf O hk (zP (ze [0,1,2,3,4,5] O qM qN (fun w' hw hS=>zB 0 O zS hS (zB 2 O zS hS (zB 3 O (zO O) hS (zB 4 O (zH (o:=10) O) hS (zB 5 O (zY 0 (v:=Vi a.id) O O O) hS ?_))))))))))))
  refine zJ 1 O hw (a_call O O (fun w' hw=>(xq cb jb t a r b (xF y) yv (pt ob) qe _ _ w' ‹_› qO qO (hw.give [0,1] O qM)).mono ?_))
  rintro _ w1 ⟨cv1_,cw2_,F3_,rfl,hf27_1,hO⟩
  have hFl:F3_.vs.length≤1000∧F3_.ls.length≤1000:=by rw[hf27_1];exact yi V
  refine O8 ?_ (hw.qh [0,1] O hO)
  refine zE [4,5,0,1,2,3] O qM (fun w' hw hS=>zJ 6 O hw (a_call O O (fun w' hw=>(zBY ({vv:=cv1_,vs:=F3_.vs,lv:=cw2_,ls:=F3_.ls}:ConfD) a.id w' qP ⟨(hw.qq 6 O),(hw.qq 7 O)⟩).mono ?_)))
  rintro _ w1 ⟨rfl,hO⟩
  refine O8 ?_ (hw.qi hO)
  refine zE [4,5,0,1,2,3] O qM (fun w' hw hS=>zB 7 O zS hS ?_)
  by_cases g27_7:({vv:=cv1_,vs:=F3_.vs,lv:=cw2_,ls:=F3_.ls}:ConfD).ok∧a.id∈({vv:=cv1_,vs:=F3_.vs,lv:=cw2_,ls:=F3_.ls}:ConfD).vs
  ·refine zf 8 O O (gT g27_7) zS hS (zf 9 O O (gT g27_7) (zO O) hS (zf 10 O O (gT g27_7) (zH (o:=21) O) hS (zf 11 O O (gT g27_7) (zY 0 (v:=Vi r.qp) O O O) hS (zf 12 O O (gT g27_7) (zLi O O) hS (zB 13 O (yf (gT g27_7)) hS (zB 14 O zS hS ?_))))))
   by_cases g27_14:r.qp≠4
   ·refine zf 15 O O (gT g27_14) zS hS (zf 16 O O (gT g27_14) (zO O) hS (zf 17 O O (gT g27_14) (zH (o:=0) O) hS (zf 18 O O (gT g27_14) (zH (o:=0) O) hS (zf 19 O O (gT g27_14) (zY 0 (v:=Vn t.term) O O O) hS (zf 20 O O (gT g27_14) (zBi O O) hS (zB 21 O (yf (gT g27_14)) hS (zT ?_)))))))
    refine Oc8 ?_ hw
    refine za O (fun c8=> ?_) (fun c8=> ?_)
    ·obtain rfl:=zCl hro g27_14
     have hq:(zc b.vs (es.map EntD.toEntA)).ok∧a.id∈(zc b.vs (es.map EntD.toEntA)).vs:=by rw[←hf27_1];exact g27_7
     refine zV (zD O (a_call O O (fun w' hw=>(zE0 cb jb t a r b yv qe _ _ ob _ true yes w' ‹_› qO qO qS qO qO qO qO ‹_› qO (hw.give [4,5,2] O qM)).mono ?_)))
     rintro _ w1 ⟨n4_,mv'5_,ms6_,rfl,hf28_1,hO⟩
     refine O10 ?_ (hw.qh [4,5,2] O hO)
     exact zg (yQ O (fun w' hw=>⟨n4_,({o with mv:=mv'5_,qk:=o.qk++ms6_}:OutD),⟨ms6_.map MsgD.a,[],[]⟩,O,(by unfold yc;dsimp only;rw[if_neg k3,if_neg k4,if_neg k5,if_neg k6,if_pos ⟨show m.a.kind=9 from hk,hq,g27_14,by omega⟩];exact j2 hf28_1),List.map_append,(List.append_nil _).symm,O,hw.sel [5,6,7,8,9] O qM⟩))
    exact yZ (yQ O (fun w' hw=>⟨({t:=t,r:=r,lv:=lv,es:=es,y:=y,yv:=yv,yes:=yes}:NdD),o,⟨[],[],[]⟩,O,(by unfold yc;dsimp only;rw[if_neg k3,if_neg k4,if_neg k5,if_neg k6,if_neg (fun q=>c8 (by have h:=q.2.2.2;omega))];rfl),(List.append_nil _).symm,(List.append_nil _).symm,O,hw.sel [4,5,0,1,2] O qM⟩))
   refine zX 15 O O (gF g27_14) O hS (zX 16 O O (gF g27_14) O hS (zX 17 O O (gF g27_14) O hS (zX 18 O O (gF g27_14) O hS (zX 19 O O (gF g27_14) O hS (zX 20 O O (gF g27_14) O hS (zB 21 O (yM (gF g27_14)) hS (zT ?_)))))))
   refine Oc8 ?_ hw
   refine xx O ?_
   exact yZ (yQ O (fun w' hw=>⟨({t:=t,r:=r,lv:=lv,es:=es,y:=y,yv:=yv,yes:=yes}:NdD),o,⟨[],[],[]⟩,O,(by unfold yc;dsimp only;rw[if_neg k3,if_neg k4,if_neg k5,if_neg k6,if_neg (fun q=>g27_14 q.2.2.1)];rfl),(List.append_nil _).symm,(List.append_nil _).symm,O,hw.sel [4,5,0,1,2] O qM⟩))
  refine zX 8 O O (gF g27_7) O hS (zX 9 O O (gF g27_7) O hS (zX 10 O O (gF g27_7) O hS (zX 11 O O (gF g27_7) O hS (zX 12 O O (gF g27_7) O hS (zB 13 O (yM (gF g27_7)) hS (zB 14 O zS hS (zX 15 O O O O hS (zX 16 O O O O hS (zX 17 O O O O hS (zX 18 O O O O hS (zX 19 O O O O hS (zX 20 O O O O hS ?_))))))))))))
  refine zB 21 O (yM O) hS (zT ?_)
  refine Oc8 ?_ hw
  refine xx O ?_
  exact yZ (yQ O (fun w' hw=>⟨({t:=t,r:=r,lv:=lv,es:=es,y:=y,yv:=yv,yes:=yes}:NdD),o,⟨[],[],[]⟩,O,(by unfold yc;dsimp only;rw[if_neg k3,if_neg k4,if_neg k5,if_neg k6,if_neg (fun q=>g27_7 (by have h:=q.2.1;rw[←hf27_1]at h;exact h))];rfl),(List.append_nil _).symm,(List.append_nil _).symm,O,hw.sel [4,5,0,1,2] O qM⟩))
theorem zJt{S:List Nat}(cb jb:Nat)(t:TimD)(a:StA)(r:RolD)(b:StB)(yv:Value)(qe:Nat)(lv:Value)(es:List EntD)(ob:Nat)(o:OutD)(y:Option (Nat×LdD))(yes:List Int)(m:MsgD)(w:World)(hg:(LG 0 0 es).good)(hl:es.length≤100000)(hvl:b.vs.length≤12)(hcm:1≤((zc b.vs (es.map EntD.toEntA)).vs++(zc b.vs (es.map EntD.toEntA)).ls).length∧((zc b.vs (es.map EntD.toEntA)).vs++(zc b.vs (es.map EntD.toEntA)).ls).length≤12)(htm:(r.qp=3→1≤t.term)∧t.term≤4611686018427387904)(hen:(LG 0 0 es).end_≤t.term)(hn:0≤t.now∧t.now≤1000000000000000)(hh:0≤t.qA∧t.qA≤1000000000000000)(ho:o.qk.length≤1000)(hrd:o.qw.length≤1000)(ha:a.ok)(hd:qe<18446744073709551616)(hm:m.wf)(hro:r.qp=4↔y.isSome=true)(hld:∀ q,y=some q→q.2.bd)(hy:yes.length≤1000)(hk:m.kind=3)(hin:Own w S [z7 cb t (xF y) a r b yv jb qe (pt ob),Res.nl b lv es,Res.lo y,vI yv yes,Res.ou ob o] w)(rd_m:MsgD.rd m w S):Rets Tryz.prog 87 #[pt cb, .agg (MsgD.cells m).toArray] w fun u_ w'=>∃ (n:NdD) (o':OutD) (x:OutA),u_= .tuple #[]∧(n.a,x)=yc a b.vs qe m.a {t:=t,r:=r,E:=es.map EntD.toEntA,ld:=y.map fun q=>q.2.er,yes:=yes}∧o'.qk.map MsgD.a=o.qk.map MsgD.a++x.ms∧o'.qw=o.qw++x.qw∧o'.qt=o.qt∧Own w S [z7 cb n.t (xF n.y) a n.r b n.yv jb qe (pt ob),Res.nl b n.lv n.es,Res.lo n.y,vI n.yv n.yes,Res.ou ob o'] w':=by
  have hme:=hm.qm
  have hw1:=jL (qe:=qe) ha
  refine zW Tryz.func87 O Tryz.ntmps87 hin ?_
  refine zC (z8 O O (fun b3=>zA (zC (zK (o:=0) O O (zM 5 (v:=Vi m.kind) O O O O (zA (zZ (zC (yR O O O (zI O (zA (jf O hk ?_))))))))))))
  refine yt (fun(ys:Bool)=>[(0,pt cb),(3,pt b3),(4, .bool ys)]) (fun(ys:Bool)=>ys=true↔zEa a m.a {t:=t,r:=r,E:=es.map EntD.toEntA,ld:=y.map fun q=>q.2.er,yes:=yes}) (fun(ys:Bool)=>[z7 cb t (xF y) a r b yv jb qe (pt ob),Res.nl b lv es,Res.lo y,vI yv yes,Res.ou ob o,Res.row b3 59 (MsgD.cells m)]) ?_ (fun ys g hΦ=> ?_)
  ·refine ze [0,1,2,3,4,5] O qM qN (fun w' hw hS=>zB 0 O zS hS (zB 1 O (zO O) hS (zB 2 O (zH (o:=0) O) hS (zB 3 O (zH (o:=1) O) hS (zB 4 O (zY 0 (v:=Vi t.qD) O O O) hS (zB 5 O (zCq O O) hS (zB 6 O zS hS ?_)))))))
   by_cases g3_6:t.qD=0
   ·refine zX 7 O O (gT g3_6) O hS (zX 8 O O (gT g3_6) O hS (zX 9 O O (gT g3_6) O hS (zX 10 O O (gT g3_6) O hS (zX 11 O O (gT g3_6) O hS (zX 12 O O (gT g3_6) O hS (zX 13 O O (gT g3_6) O hS (zX 14 O O (gT g3_6) O hS (zB 15 O (yf (gT g3_6)) hS (zB 16 O zS hS (zf 17 O O O zS hS (zf 18 O O O (zO O) hS (zf 19 O O O (zH (o:=21) O) hS ?_))))))))))))
    refine zf 20 O O O (zY 0 (v:=Vi r.qp) O O O) hS (zf 21 O O O (zLi O O) hS (zB 22 O (yf O) hS (zB 23 O zS hS ?_)))
    by_cases g3_23:r.qp≠4
    ·refine zf 24 O O (gT g3_23) zS hS (zf 25 O O (gT g3_23) (zO O) hS (zf 26 O O (gT g3_23) (zH (o:=29) O) hS (zf 27 O O (gT g3_23) (zY 0 (v:=pt b.lb) O O O) hS (zf 28 O O (gT g3_23) (zH (o:=4) O) hS (zf 29 O O (gT g3_23) (zY 5 (v:=Vn m.index) O O O) hS (zf 30 O O (gT g3_23) (zH (o:=5) O) hS (zf 31 O O (gT g3_23) (zY 5 (v:=Vn m.ql) O O O) hS (zJ 32 O hw (zR O (gT g3_23) (a_call O O (fun w' hw=>(zEz b.lb 0 0 lv es m.index m.ql w' qP qO (hw.qF 1 0 O O) (hw.qH 1 1 O O) (EntD.rd.qF 1 2 O O hw)).mono ?_)))))))))))
     rintro _ w1 ⟨rfl,hO⟩
     refine O6 ?_ (hw.qi hO)
     refine zE [0,1,2,3,4,5] O qM (fun w' hw hS=>zB 33 O (yf (gT g3_23)) hS (zB 34 O zS hS ?_))
     by_cases g3_34:(LG 0 0 es).fresh m.index m.ql
     ·refine zf 35 O O (gT g3_34) (zH (o:=8) O) hS (zf 36 O O (gT g3_34) (zY 5 (v:= .bool m.flag) O O O) hS (zf 37 O O (gT g3_34) zS hS ?_))
      by_cases g3_37:m.flag=true
      ·refine zX 38 O O (bT g3_37) O hS (zX 39 O O (bT g3_37) O hS (zX 40 O O (bT g3_37) O hS (zf 41 O O (gT g3_34) (yf (bT g3_37)) hS (zB 42 O (yf (gT g3_34)) hS (zB 43 O yO hS (zT ?_))))))
       exact⟨true,⟨O,O,O,trivial⟩,⟨fun _=>⟨.inl g3_6,g3_23,g3_34, .inl g3_37⟩,fun _=>O⟩,hw⟩
      refine zf 38 O O (bF g3_37) zS hS (zJ 39 O hw (zR O (bF g3_37) (a_call O O (fun w' hw=>(zB4 cb jb t a r b (xF y) yv (pt ob) qe w' qO qO (hw.give [0] O qM)).mono ?_))))
      rintro _ w1 ⟨rfl,hO⟩
      refine O6 ?_ (hw.qh [0] O hO)
      refine zE [5,0,1,2,3,4] O qM (fun w' hw hS=>zf 40 O O (bF g3_37) (xr (q:=t.now - t.qA<a.base) O) hS (zf 41 O O (gT g3_34) (yM (bF g3_37)) hS (zB 42 O (yf (gT g3_34)) hS (zB 43 O yO hS (zT ?_)))))
      exact⟨decide (¬(t.now - t.qA<a.base)),⟨O,O,O,trivial⟩,⟨fun h=>⟨.inl g3_6,g3_23,g3_34, .inr (of_decide_eq_true h)⟩,fun h=>decide_eq_true (h.2.2.2.resolve_left g3_37)⟩,hw.sel [5,0,1,2,3,4] O qM⟩
     refine zX 35 O O (gF g3_34) O hS (zX 36 O O (gF g3_34) O hS (zX 37 O O (gF g3_34) O hS (y0 38 O O O hS (y0 39 O O O hS (y0 40 O O O hS (zX 41 O O (gF g3_34) O hS (zB 42 O (yM (gF g3_34)) hS (zB 43 O yO hS (zT ?_)))))))))
     exact⟨false,⟨O,O,O,trivial⟩,⟨fun h=>absurd h qM,fun h=>absurd h.2.2.1 g3_34⟩,hw⟩
    refine zX 24 O O (gF g3_23) O hS (zX 25 O O (gF g3_23) O hS (zX 26 O O (gF g3_23) O hS (zX 27 O O (gF g3_23) O hS (zX 28 O O (gF g3_23) O hS (zX 29 O O (gF g3_23) O hS (zX 30 O O (gF g3_23) O hS (zX 31 O O (gF g3_23) O hS (zX 32 O O (gF g3_23) O hS (zB 33 O (yM (gF g3_23)) hS (zB 34 O zS hS (zX 35 O O O O hS (zX 36 O O O O hS ?_))))))))))))
    refine zX 37 O O O O hS (y0 38 O O O hS (y0 39 O O O hS (y0 40 O O O hS (zX 41 O O O O hS (zB 42 O (yM O) hS (zB 43 O yO hS (zT ?_)))))))
    exact⟨false,⟨O,O,O,trivial⟩,⟨fun h=>absurd h qM,fun h=>absurd h.2.1 g3_23⟩,hw⟩
   refine zf 7 O O (gF g3_6) zS hS (zf 8 O O (gF g3_6) (zO O) hS (zf 9 O O (gF g3_6) (zH (o:=0) O) hS (zf 10 O O (gF g3_6) (zH (o:=1) O) hS (zf 11 O O (gF g3_6) (zY 0 (v:=Vi t.qD) O O O) hS (zf 12 O O (gF g3_6) (zH (o:=1) O) hS (zf 13 O O (gF g3_6) (zY 5 (v:=Vi m.src) O O O) hS (zf 14 O O (gF g3_6) (zCq O O) hS (zB 15 O (yM (gF g3_6)) hS (zB 16 O zS hS ?_)))))))))
   by_cases g3_16:t.qD=m.src
   ·refine zf 17 O O (gT g3_16) zS hS (zf 18 O O (gT g3_16) (zO O) hS (zf 19 O O (gT g3_16) (zH (o:=21) O) hS (zf 20 O O (gT g3_16) (zY 0 (v:=Vi r.qp) O O O) hS (zf 21 O O (gT g3_16) (zLi O O) hS (zB 22 O (yf (gT g3_16)) hS (zB 23 O zS hS ?_))))))
    by_cases g3_23:r.qp≠4
    ·refine zf 24 O O (gT g3_23) zS hS (zf 25 O O (gT g3_23) (zO O) hS (zf 26 O O (gT g3_23) (zH (o:=29) O) hS (zf 27 O O (gT g3_23) (zY 0 (v:=pt b.lb) O O O) hS (zf 28 O O (gT g3_23) (zH (o:=4) O) hS (zf 29 O O (gT g3_23) (zY 5 (v:=Vn m.index) O O O) hS (zf 30 O O (gT g3_23) (zH (o:=5) O) hS (zf 31 O O (gT g3_23) (zY 5 (v:=Vn m.ql) O O O) hS (zJ 32 O hw (zR O (gT g3_23) (a_call O O (fun w' hw=>(zEz b.lb 0 0 lv es m.index m.ql w' qP qO (hw.qF 1 0 O O) (hw.qH 1 1 O O) (EntD.rd.qF 1 2 O O hw)).mono ?_)))))))))))
     rintro _ w1 ⟨rfl,hO⟩
     refine O6 ?_ (hw.qi hO)
     refine zE [0,1,2,3,4,5] O qM (fun w' hw hS=>zB 33 O (yf (gT g3_23)) hS (zB 34 O zS hS ?_))
     by_cases g3_34:(LG 0 0 es).fresh m.index m.ql
     ·refine zf 35 O O (gT g3_34) (zH (o:=8) O) hS (zf 36 O O (gT g3_34) (zY 5 (v:= .bool m.flag) O O O) hS (zf 37 O O (gT g3_34) zS hS ?_))
      by_cases g3_37:m.flag=true
      ·refine zX 38 O O (bT g3_37) O hS (zX 39 O O (bT g3_37) O hS (zX 40 O O (bT g3_37) O hS (zf 41 O O (gT g3_34) (yf (bT g3_37)) hS (zB 42 O (yf (gT g3_34)) hS (zB 43 O yO hS (zT ?_))))))
       exact⟨true,⟨O,O,O,trivial⟩,⟨fun _=>⟨.inr g3_16,g3_23,g3_34, .inl g3_37⟩,fun _=>O⟩,hw⟩
      refine zf 38 O O (bF g3_37) zS hS (zJ 39 O hw (zR O (bF g3_37) (a_call O O (fun w' hw=>(zB4 cb jb t a r b (xF y) yv (pt ob) qe w' qO qO (hw.give [0] O qM)).mono ?_))))
      rintro _ w1 ⟨rfl,hO⟩
      refine O6 ?_ (hw.qh [0] O hO)
      refine zE [5,0,1,2,3,4] O qM (fun w' hw hS=>zf 40 O O (bF g3_37) (xr (q:=t.now - t.qA<a.base) O) hS (zf 41 O O (gT g3_34) (yM (bF g3_37)) hS (zB 42 O (yf (gT g3_34)) hS (zB 43 O yO hS (zT ?_)))))
      exact⟨decide (¬(t.now - t.qA<a.base)),⟨O,O,O,trivial⟩,⟨fun h=>⟨.inr g3_16,g3_23,g3_34, .inr (of_decide_eq_true h)⟩,fun h=>decide_eq_true (h.2.2.2.resolve_left g3_37)⟩,hw.sel [5,0,1,2,3,4] O qM⟩
     refine zX 35 O O (gF g3_34) O hS (zX 36 O O (gF g3_34) O hS (zX 37 O O (gF g3_34) O hS (y0 38 O O O hS (y0 39 O O O hS (y0 40 O O O hS (zX 41 O O (gF g3_34) O hS (zB 42 O (yM (gF g3_34)) hS (zB 43 O yO hS (zT ?_)))))))))
     exact⟨false,⟨O,O,O,trivial⟩,⟨fun h=>absurd h qM,fun h=>absurd h.2.2.1 g3_34⟩,hw⟩
    refine zX 24 O O (gF g3_23) O hS (zX 25 O O (gF g3_23) O hS (zX 26 O O (gF g3_23) O hS (zX 27 O O (gF g3_23) O hS (zX 28 O O (gF g3_23) O hS (zX 29 O O (gF g3_23) O hS (zX 30 O O (gF g3_23) O hS (zX 31 O O (gF g3_23) O hS (zX 32 O O (gF g3_23) O hS (zB 33 O (yM (gF g3_23)) hS (zB 34 O zS hS (zX 35 O O O O hS (zX 36 O O O O hS ?_))))))))))))
    refine zX 37 O O O O hS (y0 38 O O O hS (y0 39 O O O hS (y0 40 O O O hS (zX 41 O O O O hS (zB 42 O (yM O) hS (zB 43 O yO hS (zT ?_)))))))
    exact⟨false,⟨O,O,O,trivial⟩,⟨fun h=>absurd h qM,fun h=>absurd h.2.1 g3_23⟩,hw⟩
   refine zX 17 O O (gF g3_16) O hS (zX 18 O O (gF g3_16) O hS (zX 19 O O (gF g3_16) O hS (zX 20 O O (gF g3_16) O hS (zX 21 O O (gF g3_16) O hS (zB 22 O (yM (gF g3_16)) hS (zB 23 O zS hS (zX 24 O O O O hS (zX 25 O O O O hS (zX 26 O O O O hS (zX 27 O O O O hS (zX 28 O O O O hS (zX 29 O O O O hS ?_))))))))))))
   refine zX 30 O O O O hS (zX 31 O O O O hS (zX 32 O O O O hS (zB 33 O (yM O) hS (zB 34 O zS hS (zX 35 O O O O hS (zX 36 O O O O hS (zX 37 O O O O hS (y0 38 O O O hS (y0 39 O O O hS (y0 40 O O O hS (zX 41 O O O O hS (zB 42 O (yM O) hS ?_))))))))))))
   refine zB 43 O yO hS (zT ?_)
   exact⟨false,⟨O,O,O,trivial⟩,⟨fun h=>absurd h qM,fun h=>(h.1.elim g3_6 g3_16).elim⟩,hw⟩
  have hys:ys=decide (zEa a m.a _):=zF8 hΦ
  refine yt (fun(t':TimD)=>[(0,pt cb),(3,pt b3),(4, .bool ys)]) (fun(t':TimD)=>t'=if ys=true then({t with qD:=m.src,due:=t.now+y4 a qe}:TimD)else t) (fun(t':TimD)=>[z7 cb t' (xF y) a r b yv jb qe (pt ob),Res.nl b lv es,Res.lo y,vI yv yes,Res.ou ob o,Res.row b3 59 (MsgD.cells m)]) ?_ (fun t' g hΦ=> ?_)
  ·refine zC (zD O (zA (zAu O (fun c2=> ?_) (fun c2=> ?_))))
   ·refine zC (zD O (zK (o:=1) O O (zM 5 (v:=Vi m.src) O O O O (zb O O (zK (o:=0) O O (zK (o:=1) O O (zn 0 O O O O O (zA (ze [1,2,3,4,5] O qM qN (fun w' hw hS=>zB 0 O zS hS (zB 1 O zS hS (zB 2 O (zO O) hS ?_))))))))))))
    refine zB 3 O (zH (o:=2) O) hS (zB 4 O (zH (o:=0) O) hS (zB 6 O zS hS (zq 5 7 ?_ ?_)))
    ·refine zl 5 O hw (zM 0 (v:=Vi t.now) O O O O (zE [1,2,3,4,5] O qM (fun w' hw hS=>zJ 7 O hw (a_call O O (fun w' hw=>(k0 cb jb ({t with qD:=m.src}:TimD) a r b (xF y) yv (pt ob) qe w' ‹_› qO (hw.give [0] O qM)).mono ?_)))))
     rintro _ w1 ⟨rfl,hO⟩
     refine O6 ?_ (hw.qh [0] O hO)
     refine zE [0,1,2,3,4] O qM (fun w' hw hS=>zB 8 O (yr O O (zr V)) hS (zB 9 O (zO O) hS (zB 10 O (zH (o:=2) O) hS (zB 11 O (zH (o:=2) O) hS (zJ 12 O hw (zn 5 O O O O O (zE [0,1,2,3,4] O qM (fun w' hw hS=>zT ?_))))))))
     exact⟨({t with qD:=m.src,due:=t.now+y4 a qe}:TimD),⟨O,O,O,trivial⟩,(if_pos c2).symm,hw.sel [5,0,1,2,3,4] O qM⟩
    refine zl 7 O hw (a_call O O (fun w' hw=>(k0 cb jb ({t with qD:=m.src}:TimD) a r b (xF y) yv (pt ob) qe w' ‹_› qO (hw.give [0] O qM)).mono ?_))
    rintro _ w1 ⟨rfl,hO⟩
    refine O6 ?_ (hw.qh [0] O hO)
    refine zE [0,1,2,3,4] O qM (fun w' hw hS=>zJ 5 O hw (zM 5 (v:=Vi t.now) O O O O (zE [0,1,2,3,4] O qM (fun w' hw hS=>zB 8 O (yr O O (zr V)) hS (zB 9 O (zO O) hS (zB 10 O (zH (o:=2) O) hS (zB 11 O (zH (o:=2) O) hS (zJ 12 O hw (zn 5 O O O O O (zE [0,1,2,3,4] O qM (fun w' hw hS=>zT ?_)))))))))))
    exact⟨({t with qD:=m.src,due:=t.now+y4 a qe}:TimD),⟨O,O,O,trivial⟩,(if_pos c2).symm,hw.sel [5,0,1,2,3,4] O qM⟩
   exact yZ (fun w' hw=>⟨t,⟨O,O,O,trivial⟩,(if_neg (by rw[c2];decide)).symm,hw⟩)
  have ht':=hΦ
  have htt:t'.term=t.term:=by rw[ht'];split<;>rfl
  refine zV (zD O (zK (o:=1) O O (zM 5 (v:=Vi m.src) O O O O (zD O (yh (cs:=[Vi 4,Vi 0,Vi m.src,Vn 0,Vn 0,Vn 0,Vn 0,Vn 0, .bool ys, .slice none 0 0, .slice none 0 0, .slice none 0 0,Vi 0, .slice none 0 0]) (z:=[Vi 0,Vi 0,Vi 0,Vn 0,Vn 0,Vn 0,Vn 0,Vn 0, .bool false, .slice none 0 0, .slice none 0 0, .slice none 0 0,Vi 0, .slice none 0 0]) (pl:=[(0,1),(1,1),(2,1),(3,1),(4,1),(5,1),(6,1),(7,1),(8,1),(9,1),(10,2),(12,1),(13,1)]) qN qN O (zx (e:=59) (sz:=14) (vs:=[.agg #[Vi 4,Vi 0,Vi m.src,Vn 0,Vn 0,Vn 0,Vn 0,Vn 0, .bool ys, .slice none 0 0, .slice none 0 0, .slice none 0 0,Vi 0, .slice none 0 0]]) qN O O qY qM O (fun b77=> ?_)))))))
  refine z4 [z7 cb t' (xF y) a r b yv jb qe (pt ob),Res.nl b lv es,Res.lo y,vI yv yes,Res.ou ob o,Res.row b3 59 (MsgD.cells m),vM (.slice (some ⟨b77,0,none⟩) 1 1) [(yw 4 0 m.src 0 0 0 0 0 ys (.slice none 0 0) [])],sM [(yw 4 0 m.src 0 0 0 0 0 ys (.slice none 0 0) [])]] (fun w' hw=>hw.msg0 ⟨O,O,O⟩ O O) ?_
  refine a_call O O (fun w' hw=>(jI cb jb t' a r b (xF y) yv qe ob _ (.slice (some ⟨b77,0,none⟩) 1 1) [(yw 4 0 m.src 0 0 0 0 0 ys (.slice none 0 0) [])] w' qS (hw.give [0,4,6,7] O qM)).mono ?_)
  rintro _ w1 ⟨mv'1_,rfl,hO⟩
  refine O6 ?_ (hw.qh [0,4,6,7] O hO)
  exact zg (yQ O (fun w' hw=>⟨({t:=t',r:=r,lv:=lv,es:=es,y:=y,yv:=yv,yes:=yes}:NdD),({o with mv:=mv'1_,qk:=o.qk++[yg a t'.term (yw 4 0 m.src 0 0 0 0 0 ys (.slice none 0 0) [])]}:OutD),⟨[one a 4 m.src t.term ys],[],[]⟩,O,(by unfold yc;dsimp only;rw[if_pos (show m.a.kind=3 from hk),←hys,ht'];by_cases q:ys=true;(rw[if_pos q,if_pos (of_decide_eq_true (hys.symm.trans q))];rfl);(rw[if_neg q,if_neg (fun v=>q (hys.trans (decide_eq_true v)))];rfl)),(by rw[List.map_append,zDz (show(4:Int)≠1∧(4:Int)≠2 by decide),htt];rfl),(List.append_nil _).symm,O,hw.sel [4,0,1,2,5] O qM⟩))
end Go.Proofs.YtkkeknmkipkbmaaGreat
