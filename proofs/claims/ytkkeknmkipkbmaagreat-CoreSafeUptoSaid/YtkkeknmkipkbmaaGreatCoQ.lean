import Derived.Test.YtkkeknmkipkbmaaGreatCoP
set_option linter.unusedSectionVars false
set_option linter.unusedSimpArgs false
set_option linter.unusedVariables false
set_option maxRecDepth 10000
namespace Go.Proofs.YtkkeknmkipkbmaaGreat
open Go Go.Sc Go.Proofs
theorem zKI(cb jb:Nat)(t:TimD)(a:StA)(r:RolD)(b:StB)(yv:Value)(qd:Nat)(lv:Value)(es:List EntD)(ob:Nat)(o:OutD)(y:Option (Nat×LdD))(yes:List Int)(m:MsgD)(w:World)(hg:(LG 0 0 es).good)(hl:es.length≤100000)(hvl:b.vs.length≤12)(hcm:1≤((zc b.vs (es.map EntD.toEntA)).vs++(zc b.vs (es.map EntD.toEntA)).ls).length∧((zc b.vs (es.map EntD.toEntA)).vs++(zc b.vs (es.map EntD.toEntA)).ls).length≤12)(htm:(r.qr=3→1≤t.term)∧t.term≤4611686018427387904)(hen:(LG 0 0 es).end_≤t.term)(hn:0≤t.now∧t.now≤1000000000000000)(hh:0≤t.qA∧t.qA≤1000000000000000)(ho:o.qj.length≤1000)(hrd:o.qx.length≤1000)(ha:a.ok)(hd:qd<18446744073709551616)(hm:m.wf)(hro:r.qr=4↔y.isSome=true)(hld:∀ q,y=some q→q.2.bd)(hy:yes.length≤1000)(hk:m.kind≠7∧m.kind≠8)(hin:Own w (y2 [z4 cb t (xJ y) a r b yv jb qd (pt ob),Res.nl b lv es,Res.lo y,vI yv yes,Res.ou ob o]) [z4 cb t (xJ y) a r b yv jb qd (pt ob),Res.nl b lv es,Res.lo y,vI yv yes,Res.ou ob o] w)(rd_m:MsgD.rd m w (y2 [z4 cb t (xJ y) a r b yv jb qd (pt ob),Res.nl b lv es,Res.lo y,vI yv yes,Res.ou ob o])):Rets Tryz.prog 87 #[pt cb, .agg (MsgD.cells m).toArray] w fun u_ w'=>∃ (n:NdD) (o':OutD) (x:OutA),u_= .tuple #[]∧(n.a,x)=yY a b.vs qd m.a {t:=t,r:=r,E:=es.map EntD.toEntA,ld:=y.map fun q=>q.2.er,yes:=yes}∧o'.qj.map MsgD.a=o.qj.map MsgD.a++x.ms∧o'.qx=o.qx++x.qx∧o'.qq=o.qq∧Own w (y2 [z4 cb t (xJ y) a r b yv jb qd (pt ob),Res.nl b lv es,Res.lo y,vI yv yes,Res.ou ob o]) [z4 cb n.t (xJ n.y) a n.r b n.yv jb qd (pt ob),Res.nl b n.lv n.es,Res.lo n.y,vI n.yv n.yes,Res.ou ob o'] w':=by
  by_cases k3:m.kind=3
  · exact zJk cb jb t a r b yv qd lv es ob o y yes m w hg hl hvl hcm htm hen hn hh ho hrd ha hd hm hro hld hy k3 hin rd_m
  by_cases k4:m.kind=4
  · exact zJw cb jb t a r b yv qd lv es ob o y yes m w hg hl hvl hcm htm hen hn hh ho hrd ha hd hm hro hld hy k4 hin rd_m
  by_cases k5:m.kind=5
  · exact zJn cb jb t a r b yv qd lv es ob o y yes m w hg hl hvl hcm htm hen hn hh ho hrd ha hd hm hro hld hy k5 hin rd_m
  by_cases k6:m.kind=6
  · exact zJg cb jb t a r b yv qd lv es ob o y yes m w hg hl hvl hcm htm hen hn hh ho hrd ha hd hm hro hld hy k6 hin rd_m
  by_cases k9:m.kind=9
  · exact zJV cb jb t a r b yv qd lv es ob o y yes m w hg hl hvl hcm htm hen hn hh ho hrd ha hd hm hro hld hy k9 hin rd_m
  exact zJy cb jb t a r b yv qd lv es ob o y yes m w hg hl hvl hcm htm hen hn hh ho hrd ha hd hm hro hld hy ⟨⟨k3,k4,k5⟩,⟨k6,hk.1,hk.2⟩,k9⟩ hin rd_m
def zDe(a:StA)(m:MsgA)(n:NodA):Prop:=n.t.term<m.term∧(LogA.mk 0 0 n.E).fresh m.index m.qm∧¬ n.t.now - n.t.qA<a.base
instance (a:StA)(m:MsgA)(n:NodA):Decidable (zDe a m n):=inferInstanceAs (Decidable (_∧_))
def zCo(a:StA)(qd:Nat)(m:MsgA)(n:NodA):NodA:={n with t:={n.t with term:=m.term,qD:=0,due:=n.t.now+yz a qd},r:=⟨1,0,n.r.qc⟩,ld:=none,yes:=[]}
def x7(a:StA)(vs0:List Int)(qd:Nat)(m:MsgA)(n:NodA):NodA×OutA:=
  if m.kind=1 then(n,⟨[one a 2 m.src (if zDe a m n then m.term else n.t.term) (decide (zDe a m n))],[],[]⟩)
  else if m.kind=3∧n.t.term<m.term∧m.flag=false∧n.t.now - n.t.qA<a.base then(n,⟨[],[],[]⟩)
  else if m.kind=2∧m.flag=true then
    if n.r.qr=2∧m.term=n.t.term+1 then
      if((zc vs0 n.E).ok∧m.src∈(zc vs0 n.E).vs)∧(zc vs0 n.E).qv (y4 (zc vs0 n.E) n.yes m.src)then zAx (zAF a vs0 qd false {n with yes:=y4 (zc vs0 n.E) n.yes m.src})else({n with yes:=y4 (zc vs0 n.E) n.yes m.src},⟨[],[],[]⟩)
    else(n,⟨[],[],[]⟩)
  else if n.t.term<m.term then((yY a vs0 qd m (zCo a qd m n)).1,{(yY a vs0 qd m (zCo a qd m n)).2 with qq:=jY n.ld})
  else if m.term<n.t.term then
    if m.kind=5 then(n,⟨[⟨6,a.id,m.src,n.t.term,n.E.length,(LogA.mk 0 0 n.E).end_,0,0,false,[],⟨[],[]⟩,0,[]⟩],[],[]⟩)
    else if m.kind=3 then(n,⟨[one a 4 m.src n.t.term false],[],[]⟩)
    else(n,⟨[],[],[]⟩)
  else yY a vs0 qd m n
theorem zOA{a:StA}{term:Nat}{kind dst:Int}{tm:Nat}{flag:Bool}(h:kind≠1∧kind≠2): [yd a term (yo kind 0 dst tm 0 0 0 0 flag (.slice none 0 0) [])].map MsgD.a=[one a kind dst term flag]:=by
  rw[zDp h];rfl
theorem zH5{a:StA}{term:Nat}{dst:Int}{tm:Nat}{flag:Bool}: [yd a term (yo 2 0 dst tm 0 0 0 0 flag (.slice none 0 0) [])].map MsgD.a=[one a 2 dst tm flag]:=rfl
structure HandOk(t:TimD)(r:RolD)(y:Option (Nat×LdD))(yes:List Int)(e:Nat):Prop where
  htm:(r.qr=3→1≤t.term)∧t.term≤4611686018427387904
  hen:e≤t.term
  hn:0≤t.now∧t.now≤1000000000000000
  hh:0≤t.qA∧t.qA≤1000000000000000
  hro:r.qr=4↔y.isSome=true
  hld:∀ q,y=some q→q.2.bd
  hy:yes.length≤1000
theorem zJK{a:StA}{vs0:List Int}{qd:Nat}{m:MsgA}{n:NodA}:(yY a vs0 qd m n).2.qq=[]:=by
  unfold yY jw
  repeat' (first|rfl|(dsimp only;split)|split)
theorem zLH{a:StA}{vs0:List Int}{qd:Nat}{m:MsgA}{n n' na:NodA}{xh:OutA}(hn:(n.t.term<m.term∧n'=zCo a qd m n)∨(n.t.term=m.term∧n'=n))(hh:(na,xh)=yY a vs0 qd m n')(k1:m.kind≠1)(k3:¬(m.kind=3∧n.t.term<m.term∧m.flag=false∧n.t.now - n.t.qA<a.base))(k2:¬(m.kind=2∧m.flag=true)):
    (na,({xh with qq:=if n.t.term<m.term then jY n.ld else []}:OutA))=x7 a vs0 qd m n:=by
  unfold x7
  rw[if_neg k1,if_neg k3,if_neg k2]
  rcases hn with⟨h1,rfl⟩|⟨h1,rfl⟩
  · rw[if_pos h1,if_pos h1,←hh]
  rw[if_neg V,if_neg V,if_neg V,←hh]
  have h2:=zJK (a:=a) (vs0:=vs0) (qd:=qd) (m:=m) (n:=n')
  rw[←hh]at h2
  rw[←h2]
theorem losts_er{y:Option (Nat×LdD)}:jY (y.map fun q=>q.2.er)=jY (y.map Prod.snd):=by cases y<;>rfl
theorem zNj{S:List Nat}(cb jb:Nat)(t:TimD)(a:StA)(r:RolD)(b:StB)(yv:Value)(qd:Nat)(lv:Value)(es:List EntD)(ob:Nat)(o:OutD)(y:Option (Nat×LdD))(yes:List Int)(m:MsgD)(w:World)(hg:(LG 0 0 es).good)(hl:es.length≤100000)(hvl:b.vs.length≤12)(hcm:1≤((zc b.vs (es.map EntD.toEntA)).vs++(zc b.vs (es.map EntD.toEntA)).ls).length∧((zc b.vs (es.map EntD.toEntA)).vs++(zc b.vs (es.map EntD.toEntA)).ls).length≤12)(htm:(r.qr=3→1≤t.term)∧t.term≤4611686018427387904)(hen:(LG 0 0 es).end_≤t.term)(hn:0≤t.now∧t.now≤1000000000000000)(hh:0≤t.qA∧t.qA≤1000000000000000)(ho:o.qj.length≤1000)(hrd:o.qx.length≤1000)(ha:a.ok)(hd:qd<18446744073709551616)(hm:m.wf)(hro:r.qr=4↔y.isSome=true)(hld:∀ q,y=some q→q.2.bd)(hy:yes.length≤1000)(hk:m.kind=1)(hlo:o.qq.length=0)(hmt:m.term≤4611686018427387904)(hin:Own w S [z4 cb t (xJ y) a r b yv jb qd (pt ob),Res.nl b lv es,Res.lo y,vI yv yes,Res.ou ob o] w)(rd_m:MsgD.rd m w S):Rets Tryz.prog 48 #[pt cb, .agg (MsgD.cells m).toArray] w fun u_ w'=>∃ (n:NdD) (o':OutD) (x:OutA),u_= .tuple #[]∧(n.a,x)=x7 a b.vs qd m.a {t:=t,r:=r,E:=es.map EntD.toEntA,ld:=y.map fun q=>q.2.er,yes:=yes}∧o'.qj.map MsgD.a=o.qj.map MsgD.a++x.ms∧o'.qx=o.qx++x.qx∧o'.qq=x.qq∧Own w S [z4 cb n.t (xJ n.y) a n.r b n.yv jb qd (pt ob),Res.nl b n.lv n.es,Res.lo n.y,vI n.yv n.yes,Res.ou ob o'] w':=by
  have hme:=hm.ql
  have hw1:=jD (qd:=qd) ha
  have hb:=(LG.le hg).1
  have hl0:=List.eq_nil_of_length_eq_zero hlo
  have k1:m.a.kind=1:=hk
  refine zW Tryz.func48 O Tryz.ntmps48 hin ?_
  refine zB (z3 O O (fun b3=>zA (zB (zD O (za O O (zJ (o:=29) O O (zL 0 (v:=pt b.lb) O O O O (a_call O O (fun w' hw=>(kG b.lb 0 0 lv es w' qP qO (hw.qF 1 0 O O) (hw.qH 1 1 O O) (EntD.rd.qF 1 2 O O hw)).mono ?_)))))))))
  rintro _ w1 ⟨rfl,hO⟩
  refine O6 ?_ (hw.qi hO)
  refine zD O (z8 (vs:=[Vn (0+es.length),Vn ((LG 0 0 es).end_)]) O O O (z8 (vs:=[Vn (0+es.length),Vn ((LG 0 0 es).end_)]) O O O (zI O (zI O (zA (zN (zX (zB (zJ (o:=0) O O (zL 5 (v:=Vi m.kind) O O O O (yQ O O O (zI O ?_))))))))))))
  refine zA (je O hk (zN (zg [0,1,2,3,4,5] O qM qN (fun w' hw hS=>zC 0 O (zH (o:=1) O) hS (zC 1 O (zZ 5 (v:=Vi m.src) O O O) hS (zC 2 O zT hS (zC 3 O (zQ O) hS (zC 4 O (zH (o:=0) O) hS (zC 5 O (zH (o:=0) O) hS (zC 6 O (zZ 0 (v:=Vn t.term) O O O) hS (zC 7 O (zDX (cs:=[Vi 2,Vi 0,Vi m.src,Vn t.term,Vn 0,Vn 0,Vn 0,Vn 0, .bool false, .slice none 0 0, .slice none 0 0, .slice none 0 0,Vi 0, .slice none 0 0]) (z:=[Vi 0,Vi 0,Vi 0,Vn 0,Vn 0,Vn 0,Vn 0,Vn 0, .bool false, .slice none 0 0, .slice none 0 0, .slice none 0 0,Vi 0, .slice none 0 0]) (pl:=[(0,1),(1,1),(2,1),(3,1),(4,1),(5,1),(6,1),(7,1),(8,1),(9,1),(10,2),(12,1),(13,1)]) qN qN) hS (zK 8 O hw ?_))))))))))))
  refine yE (v:= .agg #[Vi 0,Vi 0,Vi 0,Vn 0,Vn 0,Vn 0,Vn 0,Vn 0, .bool false, .slice none 0 0, .slice none 0 0, .slice none 0 0,Vi 0, .slice none 0 0]) qN O (fun b6=>zE [0,1,2,3,4,5] O qM (fun w' hw hS=>zK 9 O hw (zr 6 O O O (xQ O) O (zE [0,1,2,3,4,5] O qM (fun w' hw hS=>zU ?_)))))
  refine Oc7 ?_ hw
  refine zN (zN (zg [0,1,2,3,4,5,6] O qM qN (fun w' hw hS=>zC 0 O (zH (o:=3) O) hS (zC 1 O (zZ 5 (v:=Vn m.term) O O O) hS (zC 2 O zT hS (zC 3 O (zQ O) hS (zC 4 O (zH (o:=0) O) hS (zC 5 O (zH (o:=0) O) hS (zC 6 O (zZ 0 (v:=Vn t.term) O O O) hS (zC 7 O (zCU O O) hS (zC 8 O zT hS ?_)))))))))))
  by_cases g4_8:((t.term:Nat):Int)<((m.term:Nat):Int)
  ·refine zk 9 O O (gT g4_8) zT hS (zk 10 O O (gT g4_8) (zQ O) hS (zk 11 O O (gT g4_8) (zH (o:=29) O) hS (zk 12 O O (gT g4_8) (zZ 0 (v:=pt b.lb) O O O) hS (zk 13 O O (gT g4_8) (zH (o:=4) O) hS (zk 14 O O (gT g4_8) (zZ 5 (v:=Vn m.index) O O O) hS (zk 15 O O (gT g4_8) (zH (o:=5) O) hS (zk 16 O O (gT g4_8) (zZ 5 (v:=Vn m.qm) O O O) hS (zK 17 O hw (zR O (gT g4_8) (a_call O O (fun w' hw=>(zE1 b.lb 0 0 lv es m.index m.qm w' qP qO (hw.qF 1 0 O O) (hw.qH 1 1 O O) (EntD.rd.qF 1 2 O O hw)).mono ?_)))))))))))
   rintro _ w1 ⟨rfl,hO⟩
   refine O7 ?_ (hw.qi hO)
   refine zE [0,1,2,3,4,5,6] O qM (fun w' hw hS=>zC 18 O (yl (gT g4_8)) hS (zC 19 O zT hS ?_))
   by_cases g4_19:(LG 0 0 es).fresh m.index m.qm
   ·refine zk 20 O O (gT g4_19) zT hS (zK 21 O hw (zR O (gT g4_19) (a_call O O (fun w' hw=>(zBZ cb jb t a r b (xJ y) yv (pt ob) qd w' qO qO (hw.give [0] O qM)).mono ?_))))
    rintro _ w1 ⟨rfl,hO⟩
    refine O7 ?_ (hw.qg [0] O hO)
    refine zE [6,0,1,2,3,4,5] O qM (fun w' hw hS=>zk 22 O O (gT g4_19) (xc (q:=t.now - t.qA<a.base) O) hS (zC 23 O (yl (gT g4_19)) hS (zU ?_)))
    refine Oc7 ?_ hw
    refine zY O (fun c2=> ?_) (fun c2=> ?_)
    ·refine zg [0,1,2,3,4,6] O qM qN (fun w' hw hS=>zC 0 O (zH (o:=3) O) hS (zC 1 O (zZ 4 (v:=Vn m.term) O O O) hS (zC 2 O (zH (o:=8) O) hS (zK 3 O hw (zn 5 O O O O O (zE [0,1,2,3,4,6] O qM (fun w' hw hS=>zC 4 O (zH (o:=3) O) hS (zK 5 O hw (zn 5 O O O O O (zE [0,1,2,3,4,6] O qM (fun w' hw hS=>zU ?_)))))))))))
     refine Oc7 ?_ hw
     refine zB (zD O (yI 5 O O O (zy (e:=59) (sz:=14) (vs:=[.agg #[Vi 2,Vi 0,Vi m.src,Vn m.term,Vn 0,Vn 0,Vn 0,Vn 0, .bool true, .slice none 0 0, .slice none 0 0, .slice none 0 0,Vi 0, .slice none 0 0]]) qN O O qY qM O (fun b57=> ?_))))
     refine z2 [Res.nl b lv es,Res.lo y,vI yv yes,Res.ou ob o,Res.row b3 59 (MsgD.cells m),Res.row b6 59 [Vi 2,Vi 0,Vi m.src,Vn m.term,Vn 0,Vn 0,Vn 0,Vn 0, .bool true, .slice none 0 0, .slice none 0 0, .slice none 0 0,Vi 0, .slice none 0 0],z4 cb t (xJ y) a r b yv jb qd (pt ob),vM (.slice (some ⟨b57,0,none⟩) 1 1) [(yo 2 0 m.src m.term 0 0 0 0 true (.slice none 0 0) [])],sM [(yo 2 0 m.src m.term 0 0 0 0 true (.slice none 0 0) [])]] (fun w' hw=>hw.msg0 ⟨O,O,O⟩ O O) ?_
     refine a_call O O (fun w' hw=>(jG cb jb t a r b (xJ y) yv qd ob _ (.slice (some ⟨b57,0,none⟩) 1 1) [(yo 2 0 m.src m.term 0 0 0 0 true (.slice none 0 0) [])] w' qS (hw.give [6,3,7,8] O qM)).mono ?_)
     rintro _ w1 ⟨mv'1_,rfl,hO⟩
     refine O7 ?_ (hw.qg [6,3,7,8] O hO)
     refine zA ?_
     exact zV (yJ O (fun w' hw=>⟨({t:=t,r:=r,lv:=lv,es:=es,y:=y,yv:=yv,yes:=yes}:NdD),({o with mv:=mv'1_,qj:=o.qj++[yd a t.term (yo 2 0 m.src m.term 0 0 0 0 true (.slice none 0 0) [])]}:OutD),⟨[one a 2 m.src m.term true],[],[]⟩,O,(by unfold x7;rw[if_pos k1,if_pos (show zDe a m.a _ from⟨by show t.term<m.term;omega,g4_19,c2⟩),decide_eq_true (show zDe a m.a _ from⟨by show t.term<m.term;omega,g4_19,c2⟩)];rfl),(by rw[List.map_append,zH5]),(List.append_nil _).symm,hl0,hw.sel [5,0,1,2,6] O qM⟩))
    refine zO (zB (zD O (yI 5 O O O (zy (e:=59) (sz:=14) (vs:=[.agg #[Vi 2,Vi 0,Vi m.src,Vn t.term,Vn 0,Vn 0,Vn 0,Vn 0, .bool false, .slice none 0 0, .slice none 0 0, .slice none 0 0,Vi 0, .slice none 0 0]]) qN O O qY qM O (fun b57=> ?_)))))
    refine z2 [Res.nl b lv es,Res.lo y,vI yv yes,Res.ou ob o,Res.row b3 59 (MsgD.cells m),Res.row b6 59 [Vi 2,Vi 0,Vi m.src,Vn t.term,Vn 0,Vn 0,Vn 0,Vn 0, .bool false, .slice none 0 0, .slice none 0 0, .slice none 0 0,Vi 0, .slice none 0 0],z4 cb t (xJ y) a r b yv jb qd (pt ob),vM (.slice (some ⟨b57,0,none⟩) 1 1) [(yo 2 0 m.src t.term 0 0 0 0 false (.slice none 0 0) [])],sM [(yo 2 0 m.src t.term 0 0 0 0 false (.slice none 0 0) [])]] (fun w' hw=>hw.msg0 ⟨O,O,O⟩ O O) ?_
    refine a_call O O (fun w' hw=>(jG cb jb t a r b (xJ y) yv qd ob _ (.slice (some ⟨b57,0,none⟩) 1 1) [(yo 2 0 m.src t.term 0 0 0 0 false (.slice none 0 0) [])] w' qS (hw.give [6,3,7,8] O qM)).mono ?_)
    rintro _ w1 ⟨mv'2_,rfl,hO⟩
    refine O7 ?_ (hw.qg [6,3,7,8] O hO)
    refine zA ?_
    exact zV (yJ O (fun w' hw=>⟨({t:=t,r:=r,lv:=lv,es:=es,y:=y,yv:=yv,yes:=yes}:NdD),({o with mv:=mv'2_,qj:=o.qj++[yd a t.term (yo 2 0 m.src t.term 0 0 0 0 false (.slice none 0 0) [])]}:OutD),⟨[one a 2 m.src t.term false],[],[]⟩,O,(by unfold x7;rw[if_pos k1,if_neg (show ¬ zDe a m.a _ from fun q=>c2 q.2.2),decide_eq_false (show ¬ zDe a m.a _ from fun q=>c2 q.2.2)];rfl),(by rw[List.map_append,zH5]),(List.append_nil _).symm,hl0,hw.sel [5,0,1,2,6] O qM⟩))
   refine zb 20 O O (gF g4_19) O hS (zb 21 O O (gF g4_19) O hS (zb 22 O O (gF g4_19) O hS (zC 23 O (yS (gF g4_19)) hS (zU ?_))))
   refine Oc7 ?_ hw
   refine xt O (zO (zB (zD O (yI 6 O O O (zy (e:=59) (sz:=14) (vs:=[.agg #[Vi 2,Vi 0,Vi m.src,Vn t.term,Vn 0,Vn 0,Vn 0,Vn 0, .bool false, .slice none 0 0, .slice none 0 0, .slice none 0 0,Vi 0, .slice none 0 0]]) qN O O qY qM O (fun b57=> ?_))))))
   refine z2 [z4 cb t (xJ y) a r b yv jb qd (pt ob),Res.nl b lv es,Res.lo y,vI yv yes,Res.ou ob o,Res.row b3 59 (MsgD.cells m),Res.row b6 59 [Vi 2,Vi 0,Vi m.src,Vn t.term,Vn 0,Vn 0,Vn 0,Vn 0, .bool false, .slice none 0 0, .slice none 0 0, .slice none 0 0,Vi 0, .slice none 0 0],vM (.slice (some ⟨b57,0,none⟩) 1 1) [(yo 2 0 m.src t.term 0 0 0 0 false (.slice none 0 0) [])],sM [(yo 2 0 m.src t.term 0 0 0 0 false (.slice none 0 0) [])]] (fun w' hw=>hw.msg0 ⟨O,O,O⟩ O O) ?_
   refine a_call O O (fun w' hw=>(jG cb jb t a r b (xJ y) yv qd ob _ (.slice (some ⟨b57,0,none⟩) 1 1) [(yo 2 0 m.src t.term 0 0 0 0 false (.slice none 0 0) [])] w' qS (hw.give [0,4,7,8] O qM)).mono ?_)
   rintro _ w1 ⟨mv'3_,rfl,hO⟩
   refine O7 ?_ (hw.qg [0,4,7,8] O hO)
   refine zA ?_
   exact zV (yJ O (fun w' hw=>⟨({t:=t,r:=r,lv:=lv,es:=es,y:=y,yv:=yv,yes:=yes}:NdD),({o with mv:=mv'3_,qj:=o.qj++[yd a t.term (yo 2 0 m.src t.term 0 0 0 0 false (.slice none 0 0) [])]}:OutD),⟨[one a 2 m.src t.term false],[],[]⟩,O,(by unfold x7;rw[if_pos k1,if_neg (show ¬ zDe a m.a _ from fun q=>g4_19 q.2.1),decide_eq_false (show ¬ zDe a m.a _ from fun q=>g4_19 q.2.1)];rfl),(by rw[List.map_append,zH5]),(List.append_nil _).symm,hl0,hw.sel [5,0,1,2,6] O qM⟩))
  refine zb 9 O O (gF g4_8) O hS (zb 10 O O (gF g4_8) O hS (zb 11 O O (gF g4_8) O hS (zb 12 O O (gF g4_8) O hS (zb 13 O O (gF g4_8) O hS (zb 14 O O (gF g4_8) O hS (zb 15 O O (gF g4_8) O hS (zb 16 O O (gF g4_8) O hS (zb 17 O O (gF g4_8) O hS (zC 18 O (yS (gF g4_8)) hS (zC 19 O zT hS (zb 20 O O O O hS (zb 21 O O O O hS ?_))))))))))))
  refine zb 22 O O O O hS (zC 23 O (yS O) hS (zU ?_))
  refine Oc7 ?_ hw
  refine xt O (zO (zB (zD O (yI 6 O O O (zy (e:=59) (sz:=14) (vs:=[.agg #[Vi 2,Vi 0,Vi m.src,Vn t.term,Vn 0,Vn 0,Vn 0,Vn 0, .bool false, .slice none 0 0, .slice none 0 0, .slice none 0 0,Vi 0, .slice none 0 0]]) qN O O qY qM O (fun b57=> ?_))))))
  refine z2 [z4 cb t (xJ y) a r b yv jb qd (pt ob),Res.nl b lv es,Res.lo y,vI yv yes,Res.ou ob o,Res.row b3 59 (MsgD.cells m),Res.row b6 59 [Vi 2,Vi 0,Vi m.src,Vn t.term,Vn 0,Vn 0,Vn 0,Vn 0, .bool false, .slice none 0 0, .slice none 0 0, .slice none 0 0,Vi 0, .slice none 0 0],vM (.slice (some ⟨b57,0,none⟩) 1 1) [(yo 2 0 m.src t.term 0 0 0 0 false (.slice none 0 0) [])],sM [(yo 2 0 m.src t.term 0 0 0 0 false (.slice none 0 0) [])]] (fun w' hw=>hw.msg0 ⟨O,O,O⟩ O O) ?_
  refine a_call O O (fun w' hw=>(jG cb jb t a r b (xJ y) yv qd ob _ (.slice (some ⟨b57,0,none⟩) 1 1) [(yo 2 0 m.src t.term 0 0 0 0 false (.slice none 0 0) [])] w' qS (hw.give [0,4,7,8] O qM)).mono ?_)
  rintro _ w1 ⟨mv'4_,rfl,hO⟩
  refine O7 ?_ (hw.qg [0,4,7,8] O hO)
  refine zA ?_
  exact zV (yJ O (fun w' hw=>⟨({t:=t,r:=r,lv:=lv,es:=es,y:=y,yv:=yv,yes:=yes}:NdD),({o with mv:=mv'4_,qj:=o.qj++[yd a t.term (yo 2 0 m.src t.term 0 0 0 0 false (.slice none 0 0) [])]}:OutD),⟨[one a 2 m.src t.term false],[],[]⟩,O,(by unfold x7;rw[if_pos k1,if_neg (show ¬ zDe a m.a _ from fun q=>g4_8 (by have h:t.term<m.term:=q.1;omega)),decide_eq_false (show ¬ zDe a m.a _ from fun q=>g4_8 (by have h:t.term<m.term:=q.1;omega))];rfl),(by rw[List.map_append,zH5]),(List.append_nil _).symm,hl0,hw.sel [5,0,1,2,6] O qM⟩))
theorem zPi{S:List Nat}(cb jb:Nat)(t:TimD)(a:StA)(r:RolD)(b:StB)(yv:Value)(qd:Nat)(lv:Value)(es:List EntD)(ob:Nat)(o:OutD)(y:Option (Nat×LdD))(yes:List Int)(m:MsgD)(w:World)(hg:(LG 0 0 es).good)(hl:es.length≤100000)(hvl:b.vs.length≤12)(hcm:1≤((zc b.vs (es.map EntD.toEntA)).vs++(zc b.vs (es.map EntD.toEntA)).ls).length∧((zc b.vs (es.map EntD.toEntA)).vs++(zc b.vs (es.map EntD.toEntA)).ls).length≤12)(htm:(r.qr=3→1≤t.term)∧t.term≤4611686018427387904)(hen:(LG 0 0 es).end_≤t.term)(hn:0≤t.now∧t.now≤1000000000000000)(hh:0≤t.qA∧t.qA≤1000000000000000)(ho:o.qj.length≤1000)(hrd:o.qx.length≤1000)(ha:a.ok)(hd:qd<18446744073709551616)(hm:m.wf)(hro:r.qr=4↔y.isSome=true)(hld:∀ q,y=some q→q.2.bd)(hy:yes.length≤1000)(hk:m.kind≠1∧m.kind≠7∧m.kind≠8)(hlo:o.qq.length=0)(hmt:m.term≤4611686018427387904)(hin:Own w S [z4 cb t (xJ y) a r b yv jb qd (pt ob),Res.nl b lv es,Res.lo y,vI yv yes,Res.ou ob o] w)(rd_m:MsgD.rd m w S):Rets Tryz.prog 48 #[pt cb, .agg (MsgD.cells m).toArray] w fun u_ w'=>∃ (n:NdD) (o':OutD) (x:OutA),u_= .tuple #[]∧(n.a,x)=x7 a b.vs qd m.a {t:=t,r:=r,E:=es.map EntD.toEntA,ld:=y.map fun q=>q.2.er,yes:=yes}∧o'.qj.map MsgD.a=o.qj.map MsgD.a++x.ms∧o'.qx=o.qx++x.qx∧o'.qq=x.qq∧Own w S [z4 cb n.t (xJ n.y) a n.r b n.yv jb qd (pt ob),Res.nl b n.lv n.es,Res.lo n.y,vI n.yv n.yes,Res.ou ob o'] w':=by
  have hme:=hm.ql
  have hw1:=jD (qd:=qd) ha
  have hb:=(LG.le hg).1
  have hl0:=List.eq_nil_of_length_eq_zero hlo
  have k1:¬ m.a.kind=1:=hk.1
  refine zW Tryz.func48 O Tryz.ntmps48 hin ?_
  refine zB (z3 O O (fun b3=>zA (zB (zD O (za O O (zJ (o:=29) O O (zL 0 (v:=pt b.lb) O O O O (a_call O O (fun w' hw=>(kG b.lb 0 0 lv es w' qP qO (hw.qF 1 0 O O) (hw.qH 1 1 O O) (EntD.rd.qF 1 2 O O hw)).mono ?_)))))))))
  rintro _ w1 ⟨rfl,hO⟩
  refine O6 ?_ (hw.qi hO)
  refine zD O (z8 (vs:=[Vn (0+es.length),Vn ((LG 0 0 es).end_)]) O O O (z8 (vs:=[Vn (0+es.length),Vn ((LG 0 0 es).end_)]) O O O (zI O (zI O (zA (zOQ (fun(t':TimD) (r':RolD) (y':Option (Nat×LdD)) (yv':Value) (yes':List Int) (o2:OutD)=>[(0,pt cb),(3,pt b3)]) (fun(t':TimD) (r':RolD) (y':Option (Nat×LdD)) (yv':Value) (yes':List Int) (o2:OutD)=>((t.term<m.a.term∧({t:=t',r:=r',E:=es.map EntD.toEntA,ld:=y'.map fun q=>q.2.er,yes:=yes'}:NodA)=zCo a qd m.a {t:=t,r:=r,E:=es.map EntD.toEntA,ld:=y.map fun q=>q.2.er,yes:=yes})∨(t.term=m.a.term∧({t:=t',r:=r',E:=es.map EntD.toEntA,ld:=y'.map fun q=>q.2.er,yes:=yes'}:NodA)={t:=t,r:=r,E:=es.map EntD.toEntA,ld:=y.map fun q=>q.2.er,yes:=yes}))∧(HandOk t' r' y' yes' (LG 0 0 es).end_∧o2.qq=(if t.term<m.a.term then jY (y.map fun q=>q.2.er)else []))∧(o2.qj=o.qj∧o2.qx=o.qx)∧¬(m.a.kind=3∧t.term<m.a.term∧m.a.flag=false∧t.now - t.qA<a.base)∧¬(m.a.kind=2∧m.a.flag=true)) (fun(t':TimD) (r':RolD) (y':Option (Nat×LdD)) (yv':Value) (yes':List Int) (o2:OutD)=>[z4 cb t' (xJ y') a r' b yv' jb qd (pt ob),Res.nl b lv es,Res.lo y',vI yv' yes',Res.ou ob o2,Res.row b3 59 (MsgD.cells m)]) ?_ (fun t' r' y' yv' yes' o2 g hΦ=> ?_)))))))
  ·refine zX (zB (zJ (o:=0) O O (zL 5 (v:=Vi m.kind) O O O O (yQ O O O (zI O (zA (xD O V (yt (fun(zz:Bool)=>[(0,pt cb),(3,pt b3),(4,Vn (0+es.length)),(5,Vn ((LG 0 0 es).end_)),(59, .bool zz)]) (fun(zz:Bool)=>zz=true↔(m.a.kind=3∧t.term<m.a.term∧m.a.flag=false∧t.now - t.qA<a.base)) (fun(zz:Bool)=>[z4 cb t (xJ y) a r b yv jb qd (pt ob),Res.nl b lv es,Res.lo y,vI yv yes,Res.ou ob o,Res.row b3 59 (MsgD.cells m)]) ?_ (fun zz g hΦ=> ?_)))))))))
   ·refine zg [0,1,2,3,4,5] O qM qN (fun w' hw hS=>zC 0 O (zH (o:=0) O) hS (zC 1 O (zZ 5 (v:=Vi m.kind) O O O) hS (zC 2 O (zDd O O) hS (zC 3 O zT hS ?_))))
    by_cases g7_3:m.kind=3
    ·refine zk 4 O O (gT g7_3) (zH (o:=3) O) hS (zk 5 O O (gT g7_3) (zZ 5 (v:=Vn m.term) O O O) hS (zk 6 O O (gT g7_3) zT hS (zk 7 O O (gT g7_3) (zQ O) hS (zk 8 O O (gT g7_3) (zH (o:=0) O) hS (zk 9 O O (gT g7_3) (zH (o:=0) O) hS (zk 10 O O (gT g7_3) (zZ 0 (v:=Vn t.term) O O O) hS (zk 11 O O (gT g7_3) (zCU O O) hS (zC 12 O (yl (gT g7_3)) hS (zC 13 O zT hS ?_)))))))))
     by_cases g7_13:((t.term:Nat):Int)<((m.term:Nat):Int)
     ·refine zk 14 O O (gT g7_13) (zH (o:=8) O) hS (zk 15 O O (gT g7_13) (zZ 5 (v:= .bool m.flag) O O O) hS (zk 16 O O (gT g7_13) (zEL (b:=m.flag) O) hS (zC 17 O (yl (gT g7_13)) hS (zC 18 O zT hS ?_))))
      by_cases g7_18:(!m.flag)=true
      ·refine zk 19 O O (bT g7_18) zT hS (zK 20 O hw (zR O (bT g7_18) (a_call O O (fun w' hw=>(zBZ cb jb t a r b (xJ y) yv (pt ob) qd w' qO qO (hw.give [0] O qM)).mono ?_))))
       rintro _ w1 ⟨rfl,hO⟩
       refine O6 ?_ (hw.qg [0] O hO)
       refine zE [5,0,1,2,3,4] O qM (fun w' hw hS=>zC 21 O (yl (bT g7_18)) hS (zC 22 O yO hS (zU ?_)))
       exact⟨decide (t.now - t.qA<a.base),⟨O,O,O,O,O,trivial⟩,⟨fun h=>⟨g7_3,by show t.term<m.term;omega,by show m.flag=false;simpa using g7_18,of_decide_eq_true h⟩,fun h=>decide_eq_true h.2.2.2⟩,hw.sel [5,0,1,2,3,4] O qM⟩
      refine zb 19 O O (bF g7_18) O hS (zb 20 O O (bF g7_18) O hS (zC 21 O (yS (bF g7_18)) hS (zC 22 O yO hS (zU ?_))))
      exact⟨false,⟨O,O,O,O,O,trivial⟩,⟨fun h=>absurd h qM,fun h=>absurd (show(!m.flag)=true by rw[show m.flag=false from h.2.2.1];rfl) g7_18⟩,hw⟩
     refine zb 14 O O (gF g7_13) O hS (zb 15 O O (gF g7_13) O hS (zb 16 O O (gF g7_13) O hS (zC 17 O (yS (gF g7_13)) hS (zC 18 O zT hS (zb 19 O O O O hS (zb 20 O O O O hS (zC 21 O (yS O) hS (zC 22 O yO hS (zU ?_)))))))))
     exact⟨false,⟨O,O,O,O,O,trivial⟩,⟨fun h=>absurd h qM,fun h=>absurd (by have h2:t.term<m.term:=h.2.1;omega) g7_13⟩,hw⟩
    refine zb 4 O O (gF g7_3) O hS (zb 5 O O (gF g7_3) O hS (zb 6 O O (gF g7_3) O hS (zb 7 O O (gF g7_3) O hS (zb 8 O O (gF g7_3) O hS (zb 9 O O (gF g7_3) O hS (zb 10 O O (gF g7_3) O hS (zb 11 O O (gF g7_3) O hS (zC 12 O (yS (gF g7_3)) hS (zC 13 O zT hS (zb 14 O O O O hS (zb 15 O O O O hS (zb 16 O O O O hS ?_))))))))))))
    refine zC 17 O (yS O) hS (zC 18 O zT hS (zb 19 O O O O hS (zb 20 O O O O hS (zC 21 O (yS O) hS (zC 22 O yO hS (zU ?_))))))
    exact⟨false,⟨O,O,O,O,O,trivial⟩,⟨fun h=>absurd h qM,fun h=>absurd h.1 g7_3⟩,hw⟩
   have hz:=hΦ
   refine zA0 O (fun c2=> ?_) (fun c2=> ?_)
   ·exact zV (yJ O (fun w' hw=>⟨({t:=t,r:=r,lv:=lv,es:=es,y:=y,yv:=yv,yes:=yes}:NdD),o,⟨[],[],[]⟩,O,(by unfold x7;dsimp only;rw[if_neg k1,if_pos (hz.1 c2)];rfl),(List.append_nil _).symm,(List.append_nil _).symm,hl0,hw.sel [0,1,2,3,4] O qM⟩))
   have k3:¬(m.a.kind=3∧t.term<m.a.term∧m.a.flag=false∧t.now - t.qA<a.base):=fun q=>by rw[hz.2 q]at c2;cases c2
   refine zB (zJ (o:=0) O O (zL 5 (v:=Vi m.kind) O O O O (yQ O O O (zD O (yK (q:=m.kind=2) 2 3 [88,87] (m.flag=true) O O O O O O trivial O (fun h8_3=> ?_) (fun g8_6=> ?_))))))
   ·refine zR O (gT h8_3) (zJ (o:=8) O O (zR O (gT h8_3) (zL 5 (v:= .bool m.flag) O O O O ?_)))
    exact yP (xZ _) (fun _ hw=>hw)
   refine zI O (zA (zY O (fun c3=> ?_) (fun c3=> ?_)))
   ·have k2:m.a.kind=2∧m.a.flag=true:=c3
    refine zN (zN (zg [1,2,4,5] O qM qN (fun w' hw hS=>zC 0 O zT hS (zC 1 O (zQ O) hS (zC 2 O (zH (o:=21) O) hS (zK 3 O hw (zL 0 (v:=Vi r.qr) O O O O (zE [1,2,4,5] O qM (fun w' hw hS=>zC 4 O (zDd O O) hS (zC 5 O zT hS ?_))))))))))
    by_cases g9_5:r.qr=2
    ·refine zk 6 O O (gT g9_5) (zH (o:=3) O) hS (zk 7 O O (gT g9_5) (zZ 3 (v:=Vn m.term) O O O) hS (zk 8 O O (gT g9_5) zT hS (zk 9 O O (gT g9_5) (zQ O) hS (zk 10 O O (gT g9_5) (zH (o:=0) O) hS (zk 11 O O (gT g9_5) (zH (o:=0) O) hS (zK 12 O hw (zR O (gT g9_5) (zL 0 (v:=Vn t.term) O O O O (zE [1,2,4,5] O qM (fun w' hw hS=>zk 13 O O (gT g9_5) (yq O O (xO V)) hS (zk 14 O O (gT g9_5) (zDd O O) hS (zC 15 O (yl (gT g9_5)) hS ?_))))))))))))
     refine zC 16 O zT hS ?_
     by_cases g9_16:((m.term:Nat):Int)=((t.term+1:Nat):Int)
     ·refine zk 17 O O (gT g9_16) zT hS (zk 18 O O (gT g9_16) (zH (o:=1) O) hS (zk 19 O O (gT g9_16) (zZ 3 (v:=Vi m.src) O O O) hS (zK 20 O hw (zR O (gT g9_16) (a_call O O (fun w' hw=>(zH3 cb jb t a r b (xJ y) yv (pt ob) qd _ _ yes m.src w' ‹_› qO qO qO (hw.give [0,1,3] O qM)).mono ?_))))))
      rintro _ w1 ⟨yv'1_,rfl,hO⟩
      refine O6 ?_ (hw.qg [0,1,3] O hO)
      refine zE [4,0,1,2] O qM (fun w' hw hS=>zC 21 O (yl (gT g9_16)) hS (zU ?_))
      refine Oc6 ?_ hw
      refine zY O (fun c4=> ?_) (fun c4=> ?_)
      ·have s2:(((zc b.vs (es.map EntD.toEntA)).ok∧m.a.src∈(zc b.vs (es.map EntD.toEntA)).vs)∧(zc b.vs (es.map EntD.toEntA)).qv (y4 (zc b.vs (es.map EntD.toEntA)) yes m.a.src)):=c4
       have s1:r.qr=2∧m.a.term=t.term+1:=⟨g9_5,by show m.term=_;omega⟩
       obtain rfl:=zCR hro V
       refine zS (zD O (a_call O O (fun w' hw=>(zEi cb jb t a r b yv'1_ qd _ _ ob _ false (y4 (zc b.vs (es.map EntD.toEntA)) yes m.src) w' ‹_› qO qO qS qO qO qO qO ‹_› qO (hw.give [3,4,1] O qM)).mono ?_)))
       rintro _ w1 ⟨n2_,mv'3_,ms4_,rfl,hf10_1,hO⟩
       refine O8 ?_ (hw.qg [3,4,1] O hO)
       refine zA ?_
       exact zV (yJ O (fun w' hw=>⟨n2_,({o with mv:=mv'3_,qj:=o.qj++ms4_}:OutD),⟨ms4_.map MsgD.a,[],[]⟩,O,(by unfold x7;dsimp only;rw[if_neg k1,if_neg k3,if_pos k2,if_pos s1,if_pos s2];exact zAY hf10_1),List.map_append,(List.append_nil _).symm,hl0,hw.sel [3,4,5,6,7] O qM⟩))
      have s2:¬(((zc b.vs (es.map EntD.toEntA)).ok∧m.a.src∈(zc b.vs (es.map EntD.toEntA)).vs)∧(zc b.vs (es.map EntD.toEntA)).qv (y4 (zc b.vs (es.map EntD.toEntA)) yes m.a.src)):=c4
      have s1:r.qr=2∧m.a.term=t.term+1:=⟨g9_5,by show m.term=_;omega⟩
      refine zO ?_
      exact zV (yJ O (fun w' hw=>⟨({t:=t,r:=r,lv:=lv,es:=es,y:=y,yv:=yv'1_,yes:=(y4 (zc b.vs (es.map EntD.toEntA)) yes m.src)}:NdD),o,⟨[],[],[]⟩,O,(by unfold x7;dsimp only;rw[if_neg k1,if_neg k3,if_pos k2,if_pos s1,if_neg s2];rfl),(List.append_nil _).symm,(List.append_nil _).symm,hl0,hw.sel [3,4,0,5,1] O qM⟩))
     refine zb 17 O O (gF g9_16) O hS (zb 18 O O (gF g9_16) O hS (zb 19 O O (gF g9_16) O hS (zb 20 O O (gF g9_16) O hS (zC 21 O (yS (gF g9_16)) hS (zU ?_)))))
     refine Oc6 ?_ hw
     refine xt O (zO ?_)
     exact zV (yJ O (fun w' hw=>⟨({t:=t,r:=r,lv:=lv,es:=es,y:=y,yv:=yv,yes:=yes}:NdD),o,⟨[],[],[]⟩,O,(by unfold x7;dsimp only;rw[if_neg k1,if_neg k3,if_pos k2,if_neg (fun q=>g9_16 (by have h:m.term=t.term+1:=q.2;omega))];rfl),(List.append_nil _).symm,(List.append_nil _).symm,hl0,hw.sel [0,1,2,3,4] O qM⟩))
    refine zb 6 O O (gF g9_5) O hS (zb 7 O O (gF g9_5) O hS (zb 8 O O (gF g9_5) O hS (zb 9 O O (gF g9_5) O hS (zb 10 O O (gF g9_5) O hS (zb 11 O O (gF g9_5) O hS (zb 12 O O (gF g9_5) O hS (zb 13 O O (gF g9_5) O hS (zb 14 O O (gF g9_5) O hS (zC 15 O (yS (gF g9_5)) hS (zC 16 O zT hS (zb 17 O O O O hS (zb 18 O O O O hS ?_))))))))))))
    refine zb 19 O O O O hS (zb 20 O O O O hS (zC 21 O (yS O) hS (zU ?_)))
    refine Oc6 ?_ hw
    refine xt O (zO ?_)
    exact zV (yJ O (fun w' hw=>⟨({t:=t,r:=r,lv:=lv,es:=es,y:=y,yv:=yv,yes:=yes}:NdD),o,⟨[],[],[]⟩,O,(by unfold x7;dsimp only;rw[if_neg k1,if_neg k3,if_pos k2,if_neg (fun q=>g9_5 q.1)];rfl),(List.append_nil _).symm,(List.append_nil _).symm,hl0,hw.sel [0,1,2,3,4] O qM⟩))
   have k2:¬(m.a.kind=2∧m.a.flag=true):=c3
   refine yX qN qN (zM O (zH (o:=3) O) (zM O (zZ 5 (v:=Vn m.term) O O O) (zM O zT (zM O (zQ O) (zM O (zH (o:=0) O) (zM O (zH (o:=0) O) (zM O (zZ 0 (v:=Vn t.term) O O O) (zM O (zCU O O) (zM O yO (xk (zY O (fun c7=> ?_) (fun c7=> ?_))))))))))))
   ·refine zB (zD O (zJ (o:=3) O O (zL 5 (v:=Vn m.term) O O O O (ye (cs:=[Vn m.term,Vi 0]) (z:=[Vn 0,Vi 0]) (pl:=[(0,1),(1,1)]) qN qN O (za O O (zJ (o:=0) O O (zr 0 O O O (xQ O) O (zA (zB (zD O (a_call O O (fun w' hw=>(zIz cb jb ({t with term:=m.term,qD:=0}:TimD) a r b yv qd ob _ _ 0 w' (fun q h=>by have:=(hld q h).qk;omega) hlo (hw.give [0,2,4] O qM)).mono ?_))))))))))))
    rintro _ w1 ⟨xw5_,rfl,hO⟩
    refine O5 ?_ (hw.qg [0,2,4] O hO)
    refine zA (zg [0,1,2,4] O qM qN (fun w' hw hS=>zC 0 O zT hS (zC 1 O zT hS (zC 2 O (zQ O) hS (zC 3 O (zH (o:=2) O) hS (zC 4 O (zH (o:=0) O) hS (zC 6 O zT hS (zu 5 7 ?_ ?_))))))))
    ·refine zm 5 O hw (zL 3 (v:=Vi t.now) O O O O (zE [0,1,2,4] O qM (fun w' hw hS=>zK 7 O hw (a_call O O (fun w' hw=>(kf cb jb ({t with term:=m.term,qD:=0}:TimD) a ({qr:=1,who:=0,qc:=r.qc}:RolD) b (.pointer none) (.slice none 0 0) (pt ob) qd w' ‹_› qO (hw.give [3] O qM)).mono ?_)))))
     rintro _ w1 ⟨rfl,hO⟩
     refine O5 ?_ (hw.qg [3] O hO)
     refine zE [0,1,2,3] O qM (fun w' hw hS=>zC 8 O (yq O O (zq V)) hS (zC 9 O (zQ O) hS (zC 10 O (zH (o:=2) O) hS (zC 11 O (zH (o:=2) O) hS (zK 12 O hw (zn 4 O O O O O (zE [0,1,2,3] O qM (fun w' hw hS=>zU ?_))))))))
     exact⟨({t with term:=m.term,qD:=0,due:=t.now+yz a qd}:TimD),⟨1,0,r.qc⟩,none, .slice none 0 0,[],({o with xv:=xw5_,qq:=jY (y.map Prod.snd)}:OutD),⟨O,O,trivial⟩,⟨.inl ⟨by show t.term<m.term;omega,O⟩,⟨⟨⟨fun h=>absurd (show(1:Int)=3 from h) qM,by show m.term≤_;omega⟩,by show _≤m.term;omega,hn,hh,⟨fun h=>absurd (show(1:Int)=4 from h) qM,fun h=>by cases h⟩,(fun q h=>by cases h),Nat.zero_le _⟩,by rw[if_pos (show t.term<m.a.term by show t.term<m.term;omega)];exact losts_er.symm⟩,⟨O,O⟩,k3,k2⟩,(zl (Own.qG hw) 3 1).sel [4,0,5,6,3,2] O qM⟩
    refine zm 7 O hw (a_call O O (fun w' hw=>(kf cb jb ({t with term:=m.term,qD:=0}:TimD) a ({qr:=1,who:=0,qc:=r.qc}:RolD) b (.pointer none) (.slice none 0 0) (pt ob) qd w' ‹_› qO (hw.give [3] O qM)).mono ?_))
    rintro _ w1 ⟨rfl,hO⟩
    refine O5 ?_ (hw.qg [3] O hO)
    refine zE [0,1,2,3] O qM (fun w' hw hS=>zK 5 O hw (zL 4 (v:=Vi t.now) O O O O (zE [0,1,2,3] O qM (fun w' hw hS=>zC 8 O (yq O O (zq V)) hS (zC 9 O (zQ O) hS (zC 10 O (zH (o:=2) O) hS (zC 11 O (zH (o:=2) O) hS (zK 12 O hw (zn 4 O O O O O (zE [0,1,2,3] O qM (fun w' hw hS=>zU ?_)))))))))))
    exact⟨({t with term:=m.term,qD:=0,due:=t.now+yz a qd}:TimD),⟨1,0,r.qc⟩,none, .slice none 0 0,[],({o with xv:=xw5_,qq:=jY (y.map Prod.snd)}:OutD),⟨O,O,trivial⟩,⟨.inl ⟨by show t.term<m.term;omega,O⟩,⟨⟨⟨fun h=>absurd (show(1:Int)=3 from h) qM,by show m.term≤_;omega⟩,by show _≤m.term;omega,hn,hh,⟨fun h=>absurd (show(1:Int)=4 from h) qM,fun h=>by cases h⟩,(fun q h=>by cases h),Nat.zero_le _⟩,by rw[if_pos (show t.term<m.a.term by show t.term<m.term;omega)];exact losts_er.symm⟩,⟨O,O⟩,k3,k2⟩,(zl (Own.qG hw) 3 1).sel [4,0,5,6,3,2] O qM⟩
   have n1:¬ t.term<m.a.term:=fun q=>c7 (by have h:t.term<m.term:=q;omega)
   refine yX qN qN (zM O (zH (o:=3) O) (zM O (zZ 5 (v:=Vn m.term) O O O) (zM O zT (zM O (zQ O) (zM O (zH (o:=0) O) (zM O (zH (o:=0) O) (zM O (zZ 0 (v:=Vn t.term) O O O) (zM O (zDR O O) (zM O yO (xk (zY O (fun c8=> ?_) (fun c8=> ?_))))))))))))
   ·have n2:m.a.term<t.term:=by show m.term<_;omega
    refine zN (zB (zJ (o:=0) O O (zL 5 (v:=Vi m.kind) O O O O (zA (zX (zN (zB (yQ O O O (zI O (zA (zY O (fun c9=> ?_) (fun c9=> ?_))))))))))))
    ·refine zO (je O c9 (zS (zD O (zJ (o:=1) O O (zL 5 (v:=Vi m.src) O O O O (zD O (zD O (ye (cs:=[Vi 6,Vi 0,Vi m.src,Vn 0,Vn (0+es.length),Vn ((LG 0 0 es).end_),Vn 0,Vn 0, .bool false, .slice none 0 0, .slice none 0 0, .slice none 0 0,Vi 0, .slice none 0 0]) (z:=[Vi 0,Vi 0,Vi 0,Vn 0,Vn 0,Vn 0,Vn 0,Vn 0, .bool false, .slice none 0 0, .slice none 0 0, .slice none 0 0,Vi 0, .slice none 0 0]) (pl:=[(0,1),(1,1),(2,1),(3,1),(4,1),(5,1),(6,1),(7,1),(8,1),(9,1),(10,2),(12,1),(13,1)]) qN qN O (zy (e:=59) (sz:=14) (vs:=[.agg #[Vi 6,Vi 0,Vi m.src,Vn 0,Vn (0+es.length),Vn ((LG 0 0 es).end_),Vn 0,Vn 0, .bool false, .slice none 0 0, .slice none 0 0, .slice none 0 0,Vi 0, .slice none 0 0]]) qN O O qY qM O (fun b163=> ?_))))))))))
     refine z2 [z4 cb t (xJ y) a r b yv jb qd (pt ob),Res.nl b lv es,Res.lo y,vI yv yes,Res.ou ob o,Res.row b3 59 (MsgD.cells m),vM (.slice (some ⟨b163,0,none⟩) 1 1) [(yo 6 0 m.src 0 (0+es.length) ((LG 0 0 es).end_) 0 0 false (.slice none 0 0) [])],sM [(yo 6 0 m.src 0 (0+es.length) ((LG 0 0 es).end_) 0 0 false (.slice none 0 0) [])]] (fun w' hw=>hw.msg0 ⟨O,O,O⟩ O O) ?_
     refine a_call O O (fun w' hw=>(jG cb jb t a r b (xJ y) yv qd ob _ (.slice (some ⟨b163,0,none⟩) 1 1) [(yo 6 0 m.src 0 (0+es.length) ((LG 0 0 es).end_) 0 0 false (.slice none 0 0) [])] w' qS (hw.give [0,4,6,7] O qM)).mono ?_)
     rintro _ w1 ⟨mv'6_,rfl,hO⟩
     refine O6 ?_ (hw.qg [0,4,6,7] O hO)
     refine zA ?_
     exact zV (yJ O (fun w' hw=>⟨({t:=t,r:=r,lv:=lv,es:=es,y:=y,yv:=yv,yes:=yes}:NdD),({o with mv:=mv'6_,qj:=o.qj++[yd a t.term (yo 6 0 m.src 0 (0+es.length) (LG 0 0 es).end_ 0 0 false (.slice none 0 0) [])]}:OutD),⟨[⟨6,a.id,m.src,t.term,es.length,(LG 0 0 es).end_,0,0,false,[],⟨[],[]⟩,0,[]⟩],[],[]⟩,O,(by unfold x7;dsimp only;rw[if_neg k1,if_neg k3,if_neg k2,if_neg n1,if_pos n2,if_pos (show m.a.kind=5 from c9),List.length_map];rfl),(by rw[List.map_append,zDp (show(6:Int)≠1∧(6:Int)≠2 by decide),Nat.zero_add es.length];rfl),(List.append_nil _).symm,hl0,hw.sel [4,0,1,2,5] O qM⟩))
    refine zS (yQ O O O (zI O (zA (xD O hk.2.1 (zB (yQ O O O (zI O (zA (zY O (fun c12=> ?_) (fun c12=> ?_))))))))))
    ·refine zS (zD O (zJ (o:=1) O O (zL 5 (v:=Vi m.src) O O O O (ye (cs:=[Vi 4,Vi 0,Vi m.src,Vn 0,Vn 0,Vn 0,Vn 0,Vn 0, .bool false, .slice none 0 0, .slice none 0 0, .slice none 0 0,Vi 0, .slice none 0 0]) (z:=[Vi 0,Vi 0,Vi 0,Vn 0,Vn 0,Vn 0,Vn 0,Vn 0, .bool false, .slice none 0 0, .slice none 0 0, .slice none 0 0,Vi 0, .slice none 0 0]) (pl:=[(0,1),(1,1),(2,1),(3,1),(4,1),(5,1),(6,1),(7,1),(8,1),(9,1),(10,2),(12,1),(13,1)]) qN qN O (zy (e:=59) (sz:=14) (vs:=[.agg #[Vi 4,Vi 0,Vi m.src,Vn 0,Vn 0,Vn 0,Vn 0,Vn 0, .bool false, .slice none 0 0, .slice none 0 0, .slice none 0 0,Vi 0, .slice none 0 0]]) qN O O qY qM O (fun b171=> ?_))))))
     refine z2 [z4 cb t (xJ y) a r b yv jb qd (pt ob),Res.nl b lv es,Res.lo y,vI yv yes,Res.ou ob o,Res.row b3 59 (MsgD.cells m),vM (.slice (some ⟨b171,0,none⟩) 1 1) [(yo 4 0 m.src 0 0 0 0 0 false (.slice none 0 0) [])],sM [(yo 4 0 m.src 0 0 0 0 0 false (.slice none 0 0) [])]] (fun w' hw=>hw.msg0 ⟨O,O,O⟩ O O) ?_
     refine a_call O O (fun w' hw=>(jG cb jb t a r b (xJ y) yv qd ob _ (.slice (some ⟨b171,0,none⟩) 1 1) [(yo 4 0 m.src 0 0 0 0 0 false (.slice none 0 0) [])] w' qS (hw.give [0,4,6,7] O qM)).mono ?_)
     rintro _ w1 ⟨mv'7_,rfl,hO⟩
     refine O6 ?_ (hw.qg [0,4,6,7] O hO)
     refine zA ?_
     exact zV (yJ O (fun w' hw=>⟨({t:=t,r:=r,lv:=lv,es:=es,y:=y,yv:=yv,yes:=yes}:NdD),({o with mv:=mv'7_,qj:=o.qj++[yd a t.term (yo 4 0 m.src 0 0 0 0 0 false (.slice none 0 0) [])]}:OutD),⟨[one a 4 m.src t.term false],[],[]⟩,O,(by unfold x7;dsimp only;rw[if_neg k1,if_neg k3,if_neg k2,if_neg n1,if_pos n2,if_neg (show ¬ m.a.kind=5 from c9),if_pos (show m.a.kind=3 from c12)];rfl),(by rw[List.map_append,zOA qM]),(List.append_nil _).symm,hl0,hw.sel [4,0,1,2,5] O qM⟩))
    refine zO ?_
    exact zV (yJ O (fun w' hw=>⟨({t:=t,r:=r,lv:=lv,es:=es,y:=y,yv:=yv,yes:=yes}:NdD),o,⟨[],[],[]⟩,O,(by unfold x7;dsimp only;rw[if_neg k1,if_neg k3,if_neg k2,if_neg n1,if_pos n2,if_neg (show ¬ m.a.kind=5 from c9),if_neg (show ¬ m.a.kind=3 from c12)];rfl),(List.append_nil _).symm,(List.append_nil _).symm,hl0,hw.sel [0,1,2,3,4] O qM⟩))
   exact yc (fun w' hw=>⟨t,r,y,yv,yes,o,⟨O,O,trivial⟩,⟨.inr ⟨by show t.term=m.term;omega,O⟩,⟨⟨htm,hen,hn,hh,hro,hld,hy⟩,by rw[if_neg n1];exact hl0⟩,⟨O,O⟩,k3,k2⟩,hw⟩)
  obtain⟨hA,⟨hH,hL⟩,⟨hM,hR⟩,k3,k2⟩:=hΦ
  refine zS (zD O (yI (cs:=(MsgD.cells m)) 5 O O O (a_call O O (fun w' hw=>(zKI cb jb t' a r' b yv' qd _ _ ob o2 y' yes' m w' ‹_› qO qO qS hH.htm hH.hen hH.hn hH.hh (by rw[hM];exact ho) (by rw[hR];exact hrd) ‹_› qO ‹_› hH.hro hH.hld hH.hy hk.2 (hw.give [0,1,2,3,4] O qM) (rd_m.at hw [0,1,2,3,4] O)).mono ?_))))
  rintro _ w1 ⟨n8_,o'9_,x10_,rfl,hf22_2,hf22_2_1,hf22_2_2,hf22_2_3,hO⟩
  refine O6 ?_ (hw.qg [0,1,2,3,4] O hO)
  exact zd (yJ O (fun w' hw=>⟨n8_,o'9_,({x10_ with qq:=(if t.term<m.a.term then jY (y.map fun q=>q.2.er)else [])}:OutA),O,zLH (n:={t:=t,r:=r,E:=es.map EntD.toEntA,ld:=y.map fun q=>q.2.er,yes:=yes}) hA hf22_2 k1 k3 k2,(by rw[hf22_2_1,hM]),(by rw[hf22_2_2,hR]),(by rw[hf22_2_3,hL]),hw.sel [1,2,3,4,5] O qM⟩))
end Go.Proofs.YtkkeknmkipkbmaaGreat
