import Derived.Test.YtkkeknmkipkbmaaGreatCoP
set_option linter.unusedSectionVars false
set_option linter.unusedSimpArgs false
set_option linter.unusedVariables false
set_option maxRecDepth 10000
namespace Go.Proofs.YtkkeknmkipkbmaaGreat
open Go Go.Sc Go.Proofs
theorem zK4(cb jb:Nat)(t:TimD)(a:StA)(r:RolD)(b:StB)(yv:Value)(qd:Nat)(lv:Value)(es:List EntD)(ob:Nat)(o:OutD)(y:Option (Nat×LdD))(yes:List Int)(m:MsgD)(w:World)(hg:(LG 0 0 es).good)(hl:es.length≤100000)(hvl:b.vs.length≤12)(hcm:1≤((zc b.vs (es.map EntD.toEntA)).vs++(zc b.vs (es.map EntD.toEntA)).ls).length∧((zc b.vs (es.map EntD.toEntA)).vs++(zc b.vs (es.map EntD.toEntA)).ls).length≤12)(htm:(r.qt=3→1≤t.term)∧t.term≤4611686018427387904)(hen:(LG 0 0 es).end_≤t.term)(hn:0≤t.now∧t.now≤1000000000000000)(hh:0≤t.qz∧t.qz≤1000000000000000)(ho:o.qk.length≤1000)(hrd:o.qx.length≤1000)(ha:a.ok)(hd:qd<18446744073709551616)(hm:m.wf)(hro:r.qt=4↔y.isSome=true)(hld:∀ q,y=some q→q.2.bd)(hy:yes.length≤1000)(hk:m.kind≠7∧m.kind≠8)(hin:Own w (y1 [z3 cb t (xF y) a r b yv jb qd (pt ob),Res.nl b lv es,Res.lo y,vI yv yes,Res.ou ob o]) [z3 cb t (xF y) a r b yv jb qd (pt ob),Res.nl b lv es,Res.lo y,vI yv yes,Res.ou ob o] w)(rd_m:MsgD.rd m w (y1 [z3 cb t (xF y) a r b yv jb qd (pt ob),Res.nl b lv es,Res.lo y,vI yv yes,Res.ou ob o])):Rets Tryz.prog 87 #[pt cb, .agg (MsgD.cells m).toArray] w fun u_ w'=>∃ (n:NdD) (o':OutD) (x:OutA),u_= .tuple #[]∧(n.a,x)=yX a b.vs qd m.a {t:=t,r:=r,E:=es.map EntD.toEntA,ld:=y.map fun q=>q.2.er,yes:=yes}∧o'.qk.map MsgD.a=o.qk.map MsgD.a++x.ms∧o'.qx=o.qx++x.qx∧o'.qr=o.qr∧Own w (y1 [z3 cb t (xF y) a r b yv jb qd (pt ob),Res.nl b lv es,Res.lo y,vI yv yes,Res.ou ob o]) [z3 cb n.t (xF n.y) a n.r b n.yv jb qd (pt ob),Res.nl b n.lv n.es,Res.lo n.y,vI n.yv n.yes,Res.ou ob o'] w':=by
  by_cases k3:m.kind=3
  · exact zIh cb jb t a r b yv qd lv es ob o y yes m w hg hl hvl hcm htm hen hn hh ho hrd ha hd hm hro hld hy k3 hin rd_m
  by_cases k4:m.kind=4
  · exact zHv cb jb t a r b yv qd lv es ob o y yes m w hg hl hvl hcm htm hen hn hh ho hrd ha hd hm hro hld hy k4 hin rd_m
  by_cases k5:m.kind=5
  · exact zHu cb jb t a r b yv qd lv es ob o y yes m w hg hl hvl hcm htm hen hn hh ho hrd ha hd hm hro hld hy k5 hin rd_m
  by_cases k6:m.kind=6
  · exact zIq cb jb t a r b yv qd lv es ob o y yes m w hg hl hvl hcm htm hen hn hh ho hrd ha hd hm hro hld hy k6 hin rd_m
  by_cases k9:m.kind=9
  · exact zID cb jb t a r b yv qd lv es ob o y yes m w hg hl hvl hcm htm hen hn hh ho hrd ha hd hm hro hld hy k9 hin rd_m
  exact zIF cb jb t a r b yv qd lv es ob o y yes m w hg hl hvl hcm htm hen hn hh ho hrd ha hd hm hro hld hy ⟨⟨k3,k4,k5⟩,⟨k6,hk.1,hk.2⟩,k9⟩ hin rd_m
def zCU(a:StA)(m:MsgA)(n:NodA):Prop:=n.t.term<m.term∧(LogA.mk 0 0 n.E).fresh m.index m.ql∧¬ n.t.now - n.t.qz<a.base
instance (a:StA)(m:MsgA)(n:NodA):Decidable (zCU a m n):=inferInstanceAs (Decidable (_∧_))
def zC1(a:StA)(qd:Nat)(m:MsgA)(n:NodA):NodA:={n with t:={n.t with term:=m.term,qD:=0,due:=n.t.now+yw a qd},r:=⟨1,0,n.r.qc⟩,ld:=none,yes:=[]}
def xz(a:StA)(vs0:List Int)(qd:Nat)(m:MsgA)(n:NodA):NodA×OutA:=
  if m.kind=1 then(n,⟨[one a 2 m.src (if zCU a m n then m.term else n.t.term) (decide (zCU a m n))],[],[]⟩)
  else if m.kind=3∧n.t.term<m.term∧m.flag=false∧n.t.now - n.t.qz<a.base then(n,⟨[],[],[]⟩)
  else if m.kind=2∧m.flag=true then
    if n.r.qt=2∧m.term=n.t.term+1 then
      if((zc vs0 n.E).ok∧m.src∈(zc vs0 n.E).vs)∧(zc vs0 n.E).qu (y7 (zc vs0 n.E) n.yes m.src)then zAb (j8 a vs0 qd false {n with yes:=y7 (zc vs0 n.E) n.yes m.src})else({n with yes:=y7 (zc vs0 n.E) n.yes m.src},⟨[],[],[]⟩)
    else(n,⟨[],[],[]⟩)
  else if n.t.term<m.term then((yX a vs0 qd m (zC1 a qd m n)).1,{(yX a vs0 qd m (zC1 a qd m n)).2 with qr:=jL n.ld})
  else if m.term<n.t.term then
    if m.kind=5 then(n,⟨[⟨6,a.id,m.src,n.t.term,n.E.length,(LogA.mk 0 0 n.E).end_,0,0,false,[],⟨[],[]⟩,0,[]⟩],[],[]⟩)
    else if m.kind=3 then(n,⟨[one a 4 m.src n.t.term false],[],[]⟩)
    else(n,⟨[],[],[]⟩)
  else yX a vs0 qd m n
theorem zMq{a:StA}{term:Nat}{kind dst:Int}{tm:Nat}{flag:Bool}(h:kind≠1∧kind≠2): [yb a term (yn kind 0 dst tm 0 0 0 0 flag (.slice none 0 0) [])].map MsgD.a=[one a kind dst term flag]:=by
  rw[zCm h];rfl
theorem zHV{a:StA}{term:Nat}{dst:Int}{tm:Nat}{flag:Bool}: [yb a term (yn 2 0 dst tm 0 0 0 0 flag (.slice none 0 0) [])].map MsgD.a=[one a 2 dst tm flag]:=rfl
structure HandOk(t:TimD)(r:RolD)(y:Option (Nat×LdD))(yes:List Int)(e:Nat):Prop where
  htm:(r.qt=3→1≤t.term)∧t.term≤4611686018427387904
  hen:e≤t.term
  hn:0≤t.now∧t.now≤1000000000000000
  hh:0≤t.qz∧t.qz≤1000000000000000
  hro:r.qt=4↔y.isSome=true
  hld:∀ q,y=some q→q.2.bd
  hy:yes.length≤1000
theorem zH9{a:StA}{vs0:List Int}{qd:Nat}{m:MsgA}{n:NodA}:(yX a vs0 qd m n).2.qr=[]:=by
  unfold yX jh
  repeat' (first|rfl|(dsimp only;split)|split)
theorem zJx{a:StA}{vs0:List Int}{qd:Nat}{m:MsgA}{n n' na:NodA}{xh:OutA}(hn:(n.t.term<m.term∧n'=zC1 a qd m n)∨(n.t.term=m.term∧n'=n))(hh:(na,xh)=yX a vs0 qd m n')(k1:m.kind≠1)(k3:¬(m.kind=3∧n.t.term<m.term∧m.flag=false∧n.t.now - n.t.qz<a.base))(k2:¬(m.kind=2∧m.flag=true)):
    (na,({xh with qr:=if n.t.term<m.term then jL n.ld else []}:OutA))=xz a vs0 qd m n:=by
  unfold xz
  rw[if_neg k1,if_neg k3,if_neg k2]
  rcases hn with⟨h1,rfl⟩|⟨h1,rfl⟩
  · rw[if_pos h1,if_pos h1,←hh]
  rw[if_neg V,if_neg V,if_neg V,←hh]
  have h2:=zH9 (a:=a) (vs0:=vs0) (qd:=qd) (m:=m) (n:=n')
  rw[←hh]at h2
  rw[←h2]
theorem losts_er{y:Option (Nat×LdD)}:jL (y.map fun q=>q.2.er)=jL (y.map Prod.snd):=by cases y<;>rfl
theorem zLh{S:List Nat}(cb jb:Nat)(t:TimD)(a:StA)(r:RolD)(b:StB)(yv:Value)(qd:Nat)(lv:Value)(es:List EntD)(ob:Nat)(o:OutD)(y:Option (Nat×LdD))(yes:List Int)(m:MsgD)(w:World)(hg:(LG 0 0 es).good)(hl:es.length≤100000)(hvl:b.vs.length≤12)(hcm:1≤((zc b.vs (es.map EntD.toEntA)).vs++(zc b.vs (es.map EntD.toEntA)).ls).length∧((zc b.vs (es.map EntD.toEntA)).vs++(zc b.vs (es.map EntD.toEntA)).ls).length≤12)(htm:(r.qt=3→1≤t.term)∧t.term≤4611686018427387904)(hen:(LG 0 0 es).end_≤t.term)(hn:0≤t.now∧t.now≤1000000000000000)(hh:0≤t.qz∧t.qz≤1000000000000000)(ho:o.qk.length≤1000)(hrd:o.qx.length≤1000)(ha:a.ok)(hd:qd<18446744073709551616)(hm:m.wf)(hro:r.qt=4↔y.isSome=true)(hld:∀ q,y=some q→q.2.bd)(hy:yes.length≤1000)(hk:m.kind=1)(hlo:o.qr.length=0)(hmt:m.term≤4611686018427387904)(hin:Own w S [z3 cb t (xF y) a r b yv jb qd (pt ob),Res.nl b lv es,Res.lo y,vI yv yes,Res.ou ob o] w)(rd_m:MsgD.rd m w S):Rets Tryz.prog 48 #[pt cb, .agg (MsgD.cells m).toArray] w fun u_ w'=>∃ (n:NdD) (o':OutD) (x:OutA),u_= .tuple #[]∧(n.a,x)=xz a b.vs qd m.a {t:=t,r:=r,E:=es.map EntD.toEntA,ld:=y.map fun q=>q.2.er,yes:=yes}∧o'.qk.map MsgD.a=o.qk.map MsgD.a++x.ms∧o'.qx=o.qx++x.qx∧o'.qr=x.qr∧Own w S [z3 cb n.t (xF n.y) a n.r b n.yv jb qd (pt ob),Res.nl b n.lv n.es,Res.lo n.y,vI n.yv n.yes,Res.ou ob o'] w':=by
  have hme:=hm.qm
  have hw1:=kz (qd:=qd) ha
  have hb:=(LG.le hg).1
  have hl0:=List.eq_nil_of_length_eq_zero hlo
  have k1:m.a.kind=1:=hk
  refine zW Tryz.func48 O Tryz.ntmps48 hin ?_
  refine zB (z4 O O (fun b3=>zA (zB (zD O (zb O O (zJ (o:=29) O O (zL 0 (v:=pt b.lb) O O O O (a_call O O (fun w' hw=>(x8 b.lb 0 0 lv es w' qO qN (hw.qE 1 0 O O) (hw.qG 1 1 O O) (EntD.rd.qE 1 2 O O hw)).mono ?_)))))))))
  rintro _ w1 ⟨rfl,hO⟩
  refine O6 ?_ (hw.qi hO)
  refine zD O (yD (vs:=[Vn (0+es.length),Vn ((LG 0 0 es).end_)]) O O O (yD (vs:=[Vn (0+es.length),Vn ((LG 0 0 es).end_)]) O O O (zI O (zI O (zA (zN (zX (zB (zJ (o:=0) O O (zL 5 (v:=Vi m.kind) O O O O (yS O O O (zI O ?_))))))))))))
  refine zA (jK O hk (zN (zi [0,1,2,3,4,5] O qL qM (fun w' hw hS=>zC 0 O (zH (o:=1) O) hS (zC 1 O (za 5 (v:=Vi m.src) O O O) hS (zC 2 O zU hS (zC 3 O (zQ O) hS (zC 4 O (zH (o:=0) O) hS (zC 5 O (zH (o:=0) O) hS (zC 6 O (za 0 (v:=Vn t.term) O O O) hS (zC 7 O (zDP (cs:=[Vi 2,Vi 0,Vi m.src,Vn t.term,Vn 0,Vn 0,Vn 0,Vn 0, .bool false, .slice none 0 0, .slice none 0 0, .slice none 0 0,Vi 0, .slice none 0 0]) (z:=[Vi 0,Vi 0,Vi 0,Vn 0,Vn 0,Vn 0,Vn 0,Vn 0, .bool false, .slice none 0 0, .slice none 0 0, .slice none 0 0,Vi 0, .slice none 0 0]) (pl:=[(0,1),(1,1),(2,1),(3,1),(4,1),(5,1),(6,1),(7,1),(8,1),(9,1),(10,2),(12,1),(13,1)]) qM qM) hS (zK 8 O hw ?_))))))))))))
  refine yE (v:= .agg #[Vi 0,Vi 0,Vi 0,Vn 0,Vn 0,Vn 0,Vn 0,Vn 0, .bool false, .slice none 0 0, .slice none 0 0, .slice none 0 0,Vi 0, .slice none 0 0]) qM O (fun b6=>zE [0,1,2,3,4,5] O qL (fun w' hw hS=>zK 9 O hw (zp 6 O O O (xO O) O (zE [0,1,2,3,4,5] O qL (fun w' hw hS=>zV ?_)))))
  refine Oc7 ?_ hw
  refine zN (zN (zi [0,1,2,3,4,5,6] O qL qM (fun w' hw hS=>zC 0 O (zH (o:=3) O) hS (zC 1 O (za 5 (v:=Vn m.term) O O O) hS (zC 2 O zU hS (zC 3 O (zQ O) hS (zC 4 O (zH (o:=0) O) hS (zC 5 O (zH (o:=0) O) hS (zC 6 O (za 0 (v:=Vn t.term) O O O) hS (zC 7 O (zBw O O) hS (zC 8 O zU hS ?_)))))))))))
  by_cases g4_8:((t.term:Nat):Int)<((m.term:Nat):Int)
  ·refine zj 9 O O (gT g4_8) zU hS (zj 10 O O (gT g4_8) (zQ O) hS (zj 11 O O (gT g4_8) (zH (o:=29) O) hS (zj 12 O O (gT g4_8) (za 0 (v:=pt b.lb) O O O) hS (zj 13 O O (gT g4_8) (zH (o:=4) O) hS (zj 14 O O (gT g4_8) (za 5 (v:=Vn m.index) O O O) hS (zj 15 O O (gT g4_8) (zH (o:=5) O) hS (zj 16 O O (gT g4_8) (za 5 (v:=Vn m.ql) O O O) hS (zK 17 O hw (zS O (gT g4_8) (a_call O O (fun w' hw=>(zEk b.lb 0 0 lv es m.index m.ql w' qO qN (hw.qE 1 0 O O) (hw.qG 1 1 O O) (EntD.rd.qE 1 2 O O hw)).mono ?_)))))))))))
   rintro _ w1 ⟨rfl,hO⟩
   refine O7 ?_ (hw.qi hO)
   refine zE [0,1,2,3,4,5,6] O qL (fun w' hw hS=>zC 18 O (yi (gT g4_8)) hS (zC 19 O zU hS ?_))
   by_cases g4_19:(LG 0 0 es).fresh m.index m.ql
   ·refine zj 20 O O (gT g4_19) zU hS (zK 21 O hw (zS O (gT g4_19) (a_call O O (fun w' hw=>(zAw cb jb t a r b (xF y) yv (pt ob) qd w' qN qN (hw.give [0] O qL)).mono ?_))))
    rintro _ w1 ⟨rfl,hO⟩
    refine O7 ?_ (hw.qg [0] O hO)
    refine zE [6,0,1,2,3,4,5] O qL (fun w' hw hS=>zj 22 O O (gT g4_19) (xd (q:=t.now - t.qz<a.base) O) hS (zC 23 O (yi (gT g4_19)) hS (zV ?_)))
    refine Oc7 ?_ hw
    refine zY O (fun c2=> ?_) (fun c2=> ?_)
    ·refine zi [0,1,2,3,4,6] O qL qM (fun w' hw hS=>zC 0 O (zH (o:=3) O) hS (zC 1 O (za 4 (v:=Vn m.term) O O O) hS (zC 2 O (zH (o:=8) O) hS (zK 3 O hw (zn 5 O O O O O (zE [0,1,2,3,4,6] O qL (fun w' hw hS=>zC 4 O (zH (o:=3) O) hS (zK 5 O hw (zn 5 O O O O O (zE [0,1,2,3,4,6] O qL (fun w' hw hS=>zV ?_)))))))))))
     refine Oc7 ?_ hw
     refine zB (zD O (yI 5 O O O (zy (e:=59) (sz:=14) (vs:=[.agg #[Vi 2,Vi 0,Vi m.src,Vn m.term,Vn 0,Vn 0,Vn 0,Vn 0, .bool true, .slice none 0 0, .slice none 0 0, .slice none 0 0,Vi 0, .slice none 0 0]]) qM O O qX qL O (fun b57=> ?_))))
     refine z2 [Res.nl b lv es,Res.lo y,vI yv yes,Res.ou ob o,Res.row b3 59 (MsgD.cells m),Res.row b6 59 [Vi 2,Vi 0,Vi m.src,Vn m.term,Vn 0,Vn 0,Vn 0,Vn 0, .bool true, .slice none 0 0, .slice none 0 0, .slice none 0 0,Vi 0, .slice none 0 0],z3 cb t (xF y) a r b yv jb qd (pt ob),vM (.slice (some ⟨b57,0,none⟩) 1 1) [(yn 2 0 m.src m.term 0 0 0 0 true (.slice none 0 0) [])],sM [(yn 2 0 m.src m.term 0 0 0 0 true (.slice none 0 0) [])]] (fun w' hw=>hw.msg0 ⟨O,O,O⟩ O O) ?_
     refine a_call O O (fun w' hw=>(kj cb jb t a r b (xF y) yv qd ob _ (.slice (some ⟨b57,0,none⟩) 1 1) [(yn 2 0 m.src m.term 0 0 0 0 true (.slice none 0 0) [])] w' qR (hw.give [6,3,7,8] O qL)).mono ?_)
     rintro _ w1 ⟨mv'1_,rfl,hO⟩
     refine O7 ?_ (hw.qg [6,3,7,8] O hO)
     refine zA ?_
     exact zT (yJ O (fun w' hw=>⟨({t:=t,r:=r,lv:=lv,es:=es,y:=y,yv:=yv,yes:=yes}:NdD),({o with mv:=mv'1_,qk:=o.qk++[yb a t.term (yn 2 0 m.src m.term 0 0 0 0 true (.slice none 0 0) [])]}:OutD),⟨[one a 2 m.src m.term true],[],[]⟩,O,(by unfold xz;rw[if_pos k1,if_pos (show zCU a m.a _ from⟨by show t.term<m.term;omega,g4_19,c2⟩),decide_eq_true (show zCU a m.a _ from⟨by show t.term<m.term;omega,g4_19,c2⟩)];rfl),(by rw[List.map_append,zHV]),(List.append_nil _).symm,hl0,hw.sel [5,0,1,2,6] O qL⟩))
    refine zO (zB (zD O (yI 5 O O O (zy (e:=59) (sz:=14) (vs:=[.agg #[Vi 2,Vi 0,Vi m.src,Vn t.term,Vn 0,Vn 0,Vn 0,Vn 0, .bool false, .slice none 0 0, .slice none 0 0, .slice none 0 0,Vi 0, .slice none 0 0]]) qM O O qX qL O (fun b57=> ?_)))))
    refine z2 [Res.nl b lv es,Res.lo y,vI yv yes,Res.ou ob o,Res.row b3 59 (MsgD.cells m),Res.row b6 59 [Vi 2,Vi 0,Vi m.src,Vn t.term,Vn 0,Vn 0,Vn 0,Vn 0, .bool false, .slice none 0 0, .slice none 0 0, .slice none 0 0,Vi 0, .slice none 0 0],z3 cb t (xF y) a r b yv jb qd (pt ob),vM (.slice (some ⟨b57,0,none⟩) 1 1) [(yn 2 0 m.src t.term 0 0 0 0 false (.slice none 0 0) [])],sM [(yn 2 0 m.src t.term 0 0 0 0 false (.slice none 0 0) [])]] (fun w' hw=>hw.msg0 ⟨O,O,O⟩ O O) ?_
    refine a_call O O (fun w' hw=>(kj cb jb t a r b (xF y) yv qd ob _ (.slice (some ⟨b57,0,none⟩) 1 1) [(yn 2 0 m.src t.term 0 0 0 0 false (.slice none 0 0) [])] w' qR (hw.give [6,3,7,8] O qL)).mono ?_)
    rintro _ w1 ⟨mv'2_,rfl,hO⟩
    refine O7 ?_ (hw.qg [6,3,7,8] O hO)
    refine zA ?_
    exact zT (yJ O (fun w' hw=>⟨({t:=t,r:=r,lv:=lv,es:=es,y:=y,yv:=yv,yes:=yes}:NdD),({o with mv:=mv'2_,qk:=o.qk++[yb a t.term (yn 2 0 m.src t.term 0 0 0 0 false (.slice none 0 0) [])]}:OutD),⟨[one a 2 m.src t.term false],[],[]⟩,O,(by unfold xz;rw[if_pos k1,if_neg (show ¬ zCU a m.a _ from fun q=>c2 q.2.2),decide_eq_false (show ¬ zCU a m.a _ from fun q=>c2 q.2.2)];rfl),(by rw[List.map_append,zHV]),(List.append_nil _).symm,hl0,hw.sel [5,0,1,2,6] O qL⟩))
   refine zZ 20 O O (gF g4_19) O hS (zZ 21 O O (gF g4_19) O hS (zZ 22 O O (gF g4_19) O hS (zC 23 O (yQ (gF g4_19)) hS (zV ?_))))
   refine Oc7 ?_ hw
   refine xr O (zO (zB (zD O (yI 6 O O O (zy (e:=59) (sz:=14) (vs:=[.agg #[Vi 2,Vi 0,Vi m.src,Vn t.term,Vn 0,Vn 0,Vn 0,Vn 0, .bool false, .slice none 0 0, .slice none 0 0, .slice none 0 0,Vi 0, .slice none 0 0]]) qM O O qX qL O (fun b57=> ?_))))))
   refine z2 [z3 cb t (xF y) a r b yv jb qd (pt ob),Res.nl b lv es,Res.lo y,vI yv yes,Res.ou ob o,Res.row b3 59 (MsgD.cells m),Res.row b6 59 [Vi 2,Vi 0,Vi m.src,Vn t.term,Vn 0,Vn 0,Vn 0,Vn 0, .bool false, .slice none 0 0, .slice none 0 0, .slice none 0 0,Vi 0, .slice none 0 0],vM (.slice (some ⟨b57,0,none⟩) 1 1) [(yn 2 0 m.src t.term 0 0 0 0 false (.slice none 0 0) [])],sM [(yn 2 0 m.src t.term 0 0 0 0 false (.slice none 0 0) [])]] (fun w' hw=>hw.msg0 ⟨O,O,O⟩ O O) ?_
   refine a_call O O (fun w' hw=>(kj cb jb t a r b (xF y) yv qd ob _ (.slice (some ⟨b57,0,none⟩) 1 1) [(yn 2 0 m.src t.term 0 0 0 0 false (.slice none 0 0) [])] w' qR (hw.give [0,4,7,8] O qL)).mono ?_)
   rintro _ w1 ⟨mv'3_,rfl,hO⟩
   refine O7 ?_ (hw.qg [0,4,7,8] O hO)
   refine zA ?_
   exact zT (yJ O (fun w' hw=>⟨({t:=t,r:=r,lv:=lv,es:=es,y:=y,yv:=yv,yes:=yes}:NdD),({o with mv:=mv'3_,qk:=o.qk++[yb a t.term (yn 2 0 m.src t.term 0 0 0 0 false (.slice none 0 0) [])]}:OutD),⟨[one a 2 m.src t.term false],[],[]⟩,O,(by unfold xz;rw[if_pos k1,if_neg (show ¬ zCU a m.a _ from fun q=>g4_19 q.2.1),decide_eq_false (show ¬ zCU a m.a _ from fun q=>g4_19 q.2.1)];rfl),(by rw[List.map_append,zHV]),(List.append_nil _).symm,hl0,hw.sel [5,0,1,2,6] O qL⟩))
  refine zZ 9 O O (gF g4_8) O hS (zZ 10 O O (gF g4_8) O hS (zZ 11 O O (gF g4_8) O hS (zZ 12 O O (gF g4_8) O hS (zZ 13 O O (gF g4_8) O hS (zZ 14 O O (gF g4_8) O hS (zZ 15 O O (gF g4_8) O hS (zZ 16 O O (gF g4_8) O hS (zZ 17 O O (gF g4_8) O hS (zC 18 O (yQ (gF g4_8)) hS (zC 19 O zU hS (zZ 20 O O O O hS (zZ 21 O O O O hS ?_))))))))))))
  refine zZ 22 O O O O hS (zC 23 O (yQ O) hS (zV ?_))
  refine Oc7 ?_ hw
  refine xr O (zO (zB (zD O (yI 6 O O O (zy (e:=59) (sz:=14) (vs:=[.agg #[Vi 2,Vi 0,Vi m.src,Vn t.term,Vn 0,Vn 0,Vn 0,Vn 0, .bool false, .slice none 0 0, .slice none 0 0, .slice none 0 0,Vi 0, .slice none 0 0]]) qM O O qX qL O (fun b57=> ?_))))))
  refine z2 [z3 cb t (xF y) a r b yv jb qd (pt ob),Res.nl b lv es,Res.lo y,vI yv yes,Res.ou ob o,Res.row b3 59 (MsgD.cells m),Res.row b6 59 [Vi 2,Vi 0,Vi m.src,Vn t.term,Vn 0,Vn 0,Vn 0,Vn 0, .bool false, .slice none 0 0, .slice none 0 0, .slice none 0 0,Vi 0, .slice none 0 0],vM (.slice (some ⟨b57,0,none⟩) 1 1) [(yn 2 0 m.src t.term 0 0 0 0 false (.slice none 0 0) [])],sM [(yn 2 0 m.src t.term 0 0 0 0 false (.slice none 0 0) [])]] (fun w' hw=>hw.msg0 ⟨O,O,O⟩ O O) ?_
  refine a_call O O (fun w' hw=>(kj cb jb t a r b (xF y) yv qd ob _ (.slice (some ⟨b57,0,none⟩) 1 1) [(yn 2 0 m.src t.term 0 0 0 0 false (.slice none 0 0) [])] w' qR (hw.give [0,4,7,8] O qL)).mono ?_)
  rintro _ w1 ⟨mv'4_,rfl,hO⟩
  refine O7 ?_ (hw.qg [0,4,7,8] O hO)
  refine zA ?_
  exact zT (yJ O (fun w' hw=>⟨({t:=t,r:=r,lv:=lv,es:=es,y:=y,yv:=yv,yes:=yes}:NdD),({o with mv:=mv'4_,qk:=o.qk++[yb a t.term (yn 2 0 m.src t.term 0 0 0 0 false (.slice none 0 0) [])]}:OutD),⟨[one a 2 m.src t.term false],[],[]⟩,O,(by unfold xz;rw[if_pos k1,if_neg (show ¬ zCU a m.a _ from fun q=>g4_8 (by have h:t.term<m.term:=q.1;omega)),decide_eq_false (show ¬ zCU a m.a _ from fun q=>g4_8 (by have h:t.term<m.term:=q.1;omega))];rfl),(by rw[List.map_append,zHV]),(List.append_nil _).symm,hl0,hw.sel [5,0,1,2,6] O qL⟩))
theorem zN9{S:List Nat}(cb jb:Nat)(t:TimD)(a:StA)(r:RolD)(b:StB)(yv:Value)(qd:Nat)(lv:Value)(es:List EntD)(ob:Nat)(o:OutD)(y:Option (Nat×LdD))(yes:List Int)(m:MsgD)(w:World)(hg:(LG 0 0 es).good)(hl:es.length≤100000)(hvl:b.vs.length≤12)(hcm:1≤((zc b.vs (es.map EntD.toEntA)).vs++(zc b.vs (es.map EntD.toEntA)).ls).length∧((zc b.vs (es.map EntD.toEntA)).vs++(zc b.vs (es.map EntD.toEntA)).ls).length≤12)(htm:(r.qt=3→1≤t.term)∧t.term≤4611686018427387904)(hen:(LG 0 0 es).end_≤t.term)(hn:0≤t.now∧t.now≤1000000000000000)(hh:0≤t.qz∧t.qz≤1000000000000000)(ho:o.qk.length≤1000)(hrd:o.qx.length≤1000)(ha:a.ok)(hd:qd<18446744073709551616)(hm:m.wf)(hro:r.qt=4↔y.isSome=true)(hld:∀ q,y=some q→q.2.bd)(hy:yes.length≤1000)(hk:m.kind≠1∧m.kind≠7∧m.kind≠8)(hlo:o.qr.length=0)(hmt:m.term≤4611686018427387904)(hin:Own w S [z3 cb t (xF y) a r b yv jb qd (pt ob),Res.nl b lv es,Res.lo y,vI yv yes,Res.ou ob o] w)(rd_m:MsgD.rd m w S):Rets Tryz.prog 48 #[pt cb, .agg (MsgD.cells m).toArray] w fun u_ w'=>∃ (n:NdD) (o':OutD) (x:OutA),u_= .tuple #[]∧(n.a,x)=xz a b.vs qd m.a {t:=t,r:=r,E:=es.map EntD.toEntA,ld:=y.map fun q=>q.2.er,yes:=yes}∧o'.qk.map MsgD.a=o.qk.map MsgD.a++x.ms∧o'.qx=o.qx++x.qx∧o'.qr=x.qr∧Own w S [z3 cb n.t (xF n.y) a n.r b n.yv jb qd (pt ob),Res.nl b n.lv n.es,Res.lo n.y,vI n.yv n.yes,Res.ou ob o'] w':=by
  have hme:=hm.qm
  have hw1:=kz (qd:=qd) ha
  have hb:=(LG.le hg).1
  have hl0:=List.eq_nil_of_length_eq_zero hlo
  have k1:¬ m.a.kind=1:=hk.1
  refine zW Tryz.func48 O Tryz.ntmps48 hin ?_
  refine zB (z4 O O (fun b3=>zA (zB (zD O (zb O O (zJ (o:=29) O O (zL 0 (v:=pt b.lb) O O O O (a_call O O (fun w' hw=>(x8 b.lb 0 0 lv es w' qO qN (hw.qE 1 0 O O) (hw.qG 1 1 O O) (EntD.rd.qE 1 2 O O hw)).mono ?_)))))))))
  rintro _ w1 ⟨rfl,hO⟩
  refine O6 ?_ (hw.qi hO)
  refine zD O (yD (vs:=[Vn (0+es.length),Vn ((LG 0 0 es).end_)]) O O O (yD (vs:=[Vn (0+es.length),Vn ((LG 0 0 es).end_)]) O O O (zI O (zI O (zA (zNb (fun(t':TimD) (r':RolD) (y':Option (Nat×LdD)) (yv':Value) (yes':List Int) (o2:OutD)=>[(0,pt cb),(3,pt b3)]) (fun(t':TimD) (r':RolD) (y':Option (Nat×LdD)) (yv':Value) (yes':List Int) (o2:OutD)=>((t.term<m.a.term∧({t:=t',r:=r',E:=es.map EntD.toEntA,ld:=y'.map fun q=>q.2.er,yes:=yes'}:NodA)=zC1 a qd m.a {t:=t,r:=r,E:=es.map EntD.toEntA,ld:=y.map fun q=>q.2.er,yes:=yes})∨(t.term=m.a.term∧({t:=t',r:=r',E:=es.map EntD.toEntA,ld:=y'.map fun q=>q.2.er,yes:=yes'}:NodA)={t:=t,r:=r,E:=es.map EntD.toEntA,ld:=y.map fun q=>q.2.er,yes:=yes}))∧(HandOk t' r' y' yes' (LG 0 0 es).end_∧o2.qr=(if t.term<m.a.term then jL (y.map fun q=>q.2.er)else []))∧(o2.qk=o.qk∧o2.qx=o.qx)∧¬(m.a.kind=3∧t.term<m.a.term∧m.a.flag=false∧t.now - t.qz<a.base)∧¬(m.a.kind=2∧m.a.flag=true)) (fun(t':TimD) (r':RolD) (y':Option (Nat×LdD)) (yv':Value) (yes':List Int) (o2:OutD)=>[z3 cb t' (xF y') a r' b yv' jb qd (pt ob),Res.nl b lv es,Res.lo y',vI yv' yes',Res.ou ob o2,Res.row b3 59 (MsgD.cells m)]) ?_ (fun t' r' y' yv' yes' o2 g hΦ=> ?_)))))))
  ·refine zX (zB (zJ (o:=0) O O (zL 5 (v:=Vi m.kind) O O O O (yS O O O (zI O (zA (xB O V (yu (fun(zz:Bool)=>[(0,pt cb),(3,pt b3),(4,Vn (0+es.length)),(5,Vn ((LG 0 0 es).end_)),(59, .bool zz)]) (fun(zz:Bool)=>zz=true↔(m.a.kind=3∧t.term<m.a.term∧m.a.flag=false∧t.now - t.qz<a.base)) (fun(zz:Bool)=>[z3 cb t (xF y) a r b yv jb qd (pt ob),Res.nl b lv es,Res.lo y,vI yv yes,Res.ou ob o,Res.row b3 59 (MsgD.cells m)]) ?_ (fun zz g hΦ=> ?_)))))))))
   ·refine zi [0,1,2,3,4,5] O qL qM (fun w' hw hS=>zC 0 O (zH (o:=0) O) hS (zC 1 O (za 5 (v:=Vi m.kind) O O O) hS (zC 2 O (zCk O O) hS (zC 3 O zU hS ?_))))
    by_cases g7_3:m.kind=3
    ·refine zj 4 O O (gT g7_3) (zH (o:=3) O) hS (zj 5 O O (gT g7_3) (za 5 (v:=Vn m.term) O O O) hS (zj 6 O O (gT g7_3) zU hS (zj 7 O O (gT g7_3) (zQ O) hS (zj 8 O O (gT g7_3) (zH (o:=0) O) hS (zj 9 O O (gT g7_3) (zH (o:=0) O) hS (zj 10 O O (gT g7_3) (za 0 (v:=Vn t.term) O O O) hS (zj 11 O O (gT g7_3) (zBw O O) hS (zC 12 O (yi (gT g7_3)) hS (zC 13 O zU hS ?_)))))))))
     by_cases g7_13:((t.term:Nat):Int)<((m.term:Nat):Int)
     ·refine zj 14 O O (gT g7_13) (zH (o:=8) O) hS (zj 15 O O (gT g7_13) (za 5 (v:= .bool m.flag) O O O) hS (zj 16 O O (gT g7_13) (zDs (b:=m.flag) O) hS (zC 17 O (yi (gT g7_13)) hS (zC 18 O zU hS ?_))))
      by_cases g7_18:(!m.flag)=true
      ·refine zj 19 O O (bT g7_18) zU hS (zK 20 O hw (zS O (bT g7_18) (a_call O O (fun w' hw=>(zAw cb jb t a r b (xF y) yv (pt ob) qd w' qN qN (hw.give [0] O qL)).mono ?_))))
       rintro _ w1 ⟨rfl,hO⟩
       refine O6 ?_ (hw.qg [0] O hO)
       refine zE [5,0,1,2,3,4] O qL (fun w' hw hS=>zC 21 O (yi (bT g7_18)) hS (zC 22 O yN hS (zV ?_)))
       exact⟨decide (t.now - t.qz<a.base),⟨O,O,O,O,O,trivial⟩,⟨fun h=>⟨g7_3,by show t.term<m.term;omega,by show m.flag=false;simpa using g7_18,of_decide_eq_true h⟩,fun h=>decide_eq_true h.2.2.2⟩,hw.sel [5,0,1,2,3,4] O qL⟩
      refine zZ 19 O O (bF g7_18) O hS (zZ 20 O O (bF g7_18) O hS (zC 21 O (yQ (bF g7_18)) hS (zC 22 O yN hS (zV ?_))))
      exact⟨false,⟨O,O,O,O,O,trivial⟩,⟨fun h=>absurd h qL,fun h=>absurd (show(!m.flag)=true by rw[show m.flag=false from h.2.2.1];rfl) g7_18⟩,hw⟩
     refine zZ 14 O O (gF g7_13) O hS (zZ 15 O O (gF g7_13) O hS (zZ 16 O O (gF g7_13) O hS (zC 17 O (yQ (gF g7_13)) hS (zC 18 O zU hS (zZ 19 O O O O hS (zZ 20 O O O O hS (zC 21 O (yQ O) hS (zC 22 O yN hS (zV ?_)))))))))
     exact⟨false,⟨O,O,O,O,O,trivial⟩,⟨fun h=>absurd h qL,fun h=>absurd (by have h2:t.term<m.term:=h.2.1;omega) g7_13⟩,hw⟩
    refine zZ 4 O O (gF g7_3) O hS (zZ 5 O O (gF g7_3) O hS (zZ 6 O O (gF g7_3) O hS (zZ 7 O O (gF g7_3) O hS (zZ 8 O O (gF g7_3) O hS (zZ 9 O O (gF g7_3) O hS (zZ 10 O O (gF g7_3) O hS (zZ 11 O O (gF g7_3) O hS (zC 12 O (yQ (gF g7_3)) hS (zC 13 O zU hS (zZ 14 O O O O hS (zZ 15 O O O O hS (zZ 16 O O O O hS ?_))))))))))))
    refine zC 17 O (yQ O) hS (zC 18 O zU hS (zZ 19 O O O O hS (zZ 20 O O O O hS (zC 21 O (yQ O) hS (zC 22 O yN hS (zV ?_))))))
    exact⟨false,⟨O,O,O,O,O,trivial⟩,⟨fun h=>absurd h qL,fun h=>absurd h.1 g7_3⟩,hw⟩
   have hz:=hΦ
   refine zAc O (fun c2=> ?_) (fun c2=> ?_)
   ·exact zT (yJ O (fun w' hw=>⟨({t:=t,r:=r,lv:=lv,es:=es,y:=y,yv:=yv,yes:=yes}:NdD),o,⟨[],[],[]⟩,O,(by unfold xz;dsimp only;rw[if_neg k1,if_pos (hz.1 c2)];rfl),(List.append_nil _).symm,(List.append_nil _).symm,hl0,hw.sel [0,1,2,3,4] O qL⟩))
   have k3:¬(m.a.kind=3∧t.term<m.a.term∧m.a.flag=false∧t.now - t.qz<a.base):=fun q=>by rw[hz.2 q]at c2;cases c2
   refine zB (zJ (o:=0) O O (zL 5 (v:=Vi m.kind) O O O O (yS O O O (zD O (yO (q:=m.kind=2) 2 3 [88,87] (m.flag=true) O O O O O O trivial O (fun h8_3=> ?_) (fun g8_6=> ?_))))))
   ·refine zS O (gT h8_3) (zJ (o:=8) O O (zS O (gT h8_3) (zL 5 (v:= .bool m.flag) O O O O ?_)))
    exact yP (xT _) (fun _ hw=>hw)
   refine zI O (zA (zY O (fun c3=> ?_) (fun c3=> ?_)))
   ·have k2:m.a.kind=2∧m.a.flag=true:=c3
    refine zN (zN (zi [1,2,4,5] O qL qM (fun w' hw hS=>zC 0 O zU hS (zC 1 O (zQ O) hS (zC 2 O (zH (o:=21) O) hS (zK 3 O hw (zL 0 (v:=Vi r.qt) O O O O (zE [1,2,4,5] O qL (fun w' hw hS=>zC 4 O (zCk O O) hS (zC 5 O zU hS ?_))))))))))
    by_cases g9_5:r.qt=2
    ·refine zj 6 O O (gT g9_5) (zH (o:=3) O) hS (zj 7 O O (gT g9_5) (za 3 (v:=Vn m.term) O O O) hS (zj 8 O O (gT g9_5) zU hS (zj 9 O O (gT g9_5) (zQ O) hS (zj 10 O O (gT g9_5) (zH (o:=0) O) hS (zj 11 O O (gT g9_5) (zH (o:=0) O) hS (zK 12 O hw (zS O (gT g9_5) (zL 0 (v:=Vn t.term) O O O O (zE [1,2,4,5] O qL (fun w' hw hS=>zj 13 O O (gT g9_5) (yo O O (xN V)) hS (zj 14 O O (gT g9_5) (zCk O O) hS (zC 15 O (yi (gT g9_5)) hS ?_))))))))))))
     refine zC 16 O zU hS ?_
     by_cases g9_16:((m.term:Nat):Int)=((t.term+1:Nat):Int)
     ·refine zj 17 O O (gT g9_16) zU hS (zj 18 O O (gT g9_16) (zH (o:=1) O) hS (zj 19 O O (gT g9_16) (za 3 (v:=Vi m.src) O O O) hS (zK 20 O hw (zS O (gT g9_16) (a_call O O (fun w' hw=>(zHk cb jb t a r b (xF y) yv (pt ob) qd _ _ yes m.src w' ‹_› qN qN qN (hw.give [0,1,3] O qL)).mono ?_))))))
      rintro _ w1 ⟨yv'1_,rfl,hO⟩
      refine O6 ?_ (hw.qg [0,1,3] O hO)
      refine zE [4,0,1,2] O qL (fun w' hw hS=>zC 21 O (yi (gT g9_16)) hS (zV ?_))
      refine Oc6 ?_ hw
      refine zY O (fun c4=> ?_) (fun c4=> ?_)
      ·have s2:(((zc b.vs (es.map EntD.toEntA)).ok∧m.a.src∈(zc b.vs (es.map EntD.toEntA)).vs)∧(zc b.vs (es.map EntD.toEntA)).qu (y7 (zc b.vs (es.map EntD.toEntA)) yes m.a.src)):=c4
       have s1:r.qt=2∧m.a.term=t.term+1:=⟨g9_5,by show m.term=_;omega⟩
       obtain rfl:=zBp hro V
       refine zR (zD O (a_call O O (fun w' hw=>(zEE cb jb t a r b yv'1_ qd _ _ ob _ false (y7 (zc b.vs (es.map EntD.toEntA)) yes m.src) w' ‹_› qN qN qR qN qN qN qN ‹_› qN (hw.give [3,4,1] O qL)).mono ?_)))
       rintro _ w1 ⟨n2_,mv'3_,ms4_,rfl,hf10_1,hO⟩
       refine O8 ?_ (hw.qg [3,4,1] O hO)
       refine zA ?_
       exact zT (yJ O (fun w' hw=>⟨n2_,({o with mv:=mv'3_,qk:=o.qk++ms4_}:OutD),⟨ms4_.map MsgD.a,[],[]⟩,O,(by unfold xz;dsimp only;rw[if_neg k1,if_neg k3,if_pos k2,if_pos s1,if_pos s2];exact zAE hf10_1),List.map_append,(List.append_nil _).symm,hl0,hw.sel [3,4,5,6,7] O qL⟩))
      have s2:¬(((zc b.vs (es.map EntD.toEntA)).ok∧m.a.src∈(zc b.vs (es.map EntD.toEntA)).vs)∧(zc b.vs (es.map EntD.toEntA)).qu (y7 (zc b.vs (es.map EntD.toEntA)) yes m.a.src)):=c4
      have s1:r.qt=2∧m.a.term=t.term+1:=⟨g9_5,by show m.term=_;omega⟩
      refine zO ?_
      exact zT (yJ O (fun w' hw=>⟨({t:=t,r:=r,lv:=lv,es:=es,y:=y,yv:=yv'1_,yes:=(y7 (zc b.vs (es.map EntD.toEntA)) yes m.src)}:NdD),o,⟨[],[],[]⟩,O,(by unfold xz;dsimp only;rw[if_neg k1,if_neg k3,if_pos k2,if_pos s1,if_neg s2];rfl),(List.append_nil _).symm,(List.append_nil _).symm,hl0,hw.sel [3,4,0,5,1] O qL⟩))
     refine zZ 17 O O (gF g9_16) O hS (zZ 18 O O (gF g9_16) O hS (zZ 19 O O (gF g9_16) O hS (zZ 20 O O (gF g9_16) O hS (zC 21 O (yQ (gF g9_16)) hS (zV ?_)))))
     refine Oc6 ?_ hw
     refine xr O (zO ?_)
     exact zT (yJ O (fun w' hw=>⟨({t:=t,r:=r,lv:=lv,es:=es,y:=y,yv:=yv,yes:=yes}:NdD),o,⟨[],[],[]⟩,O,(by unfold xz;dsimp only;rw[if_neg k1,if_neg k3,if_pos k2,if_neg (fun q=>g9_16 (by have h:m.term=t.term+1:=q.2;omega))];rfl),(List.append_nil _).symm,(List.append_nil _).symm,hl0,hw.sel [0,1,2,3,4] O qL⟩))
    refine zZ 6 O O (gF g9_5) O hS (zZ 7 O O (gF g9_5) O hS (zZ 8 O O (gF g9_5) O hS (zZ 9 O O (gF g9_5) O hS (zZ 10 O O (gF g9_5) O hS (zZ 11 O O (gF g9_5) O hS (zZ 12 O O (gF g9_5) O hS (zZ 13 O O (gF g9_5) O hS (zZ 14 O O (gF g9_5) O hS (zC 15 O (yQ (gF g9_5)) hS (zC 16 O zU hS (zZ 17 O O O O hS (zZ 18 O O O O hS ?_))))))))))))
    refine zZ 19 O O O O hS (zZ 20 O O O O hS (zC 21 O (yQ O) hS (zV ?_)))
    refine Oc6 ?_ hw
    refine xr O (zO ?_)
    exact zT (yJ O (fun w' hw=>⟨({t:=t,r:=r,lv:=lv,es:=es,y:=y,yv:=yv,yes:=yes}:NdD),o,⟨[],[],[]⟩,O,(by unfold xz;dsimp only;rw[if_neg k1,if_neg k3,if_pos k2,if_neg (fun q=>g9_5 q.1)];rfl),(List.append_nil _).symm,(List.append_nil _).symm,hl0,hw.sel [0,1,2,3,4] O qL⟩))
   have k2:¬(m.a.kind=2∧m.a.flag=true):=c3
   refine yZ qM qM (zM O (zH (o:=3) O) (zM O (za 5 (v:=Vn m.term) O O O) (zM O zU (zM O (zQ O) (zM O (zH (o:=0) O) (zM O (zH (o:=0) O) (zM O (za 0 (v:=Vn t.term) O O O) (zM O (zBw O O) (zM O yN (xe (zY O (fun c7=> ?_) (fun c7=> ?_))))))))))))
   ·refine zB (zD O (zJ (o:=3) O O (zL 5 (v:=Vn m.term) O O O O (yc (cs:=[Vn m.term,Vi 0]) (z:=[Vn 0,Vi 0]) (pl:=[(0,1),(1,1)]) qM qM O (zb O O (zJ (o:=0) O O (zp 0 O O O (xO O) O (zA (zB (zD O (a_call O O (fun w' hw=>(zIV cb jb ({t with term:=m.term,qD:=0}:TimD) a r b yv qd ob _ _ 0 w' (fun q h=>by have:=(hld q h).qj;omega) hlo (hw.give [0,2,4] O qL)).mono ?_))))))))))))
    rintro _ w1 ⟨xw5_,rfl,hO⟩
    refine O5 ?_ (hw.qg [0,2,4] O hO)
    refine zA (zi [0,1,2,4] O qL qM (fun w' hw hS=>zC 0 O zU hS (zC 1 O zU hS (zC 2 O (zQ O) hS (zC 3 O (zH (o:=2) O) hS (zC 4 O (zH (o:=0) O) hS (zC 6 O zU hS (zw 5 7 ?_ ?_))))))))
    ·refine zm 5 O hw (zL 3 (v:=Vi t.now) O O O O (zE [0,1,2,4] O qL (fun w' hw hS=>zK 7 O hw (a_call O O (fun w' hw=>(kW cb jb ({t with term:=m.term,qD:=0}:TimD) a ({qt:=1,who:=0,qc:=r.qc}:RolD) b (.pointer none) (.slice none 0 0) (pt ob) qd w' ‹_› qN (hw.give [3] O qL)).mono ?_)))))
     rintro _ w1 ⟨rfl,hO⟩
     refine O5 ?_ (hw.qg [3] O hO)
     refine zE [0,1,2,3] O qL (fun w' hw hS=>zC 8 O (yo O O (zu V)) hS (zC 9 O (zQ O) hS (zC 10 O (zH (o:=2) O) hS (zC 11 O (zH (o:=2) O) hS (zK 12 O hw (zn 4 O O O O O (zE [0,1,2,3] O qL (fun w' hw hS=>zV ?_))))))))
     exact⟨({t with term:=m.term,qD:=0,due:=t.now+yw a qd}:TimD),⟨1,0,r.qc⟩,none, .slice none 0 0,[],({o with xv:=xw5_,qr:=jL (y.map Prod.snd)}:OutD),⟨O,O,trivial⟩,⟨.inl ⟨by show t.term<m.term;omega,O⟩,⟨⟨⟨fun h=>absurd (show(1:Int)=3 from h) qL,by show m.term≤_;omega⟩,by show _≤m.term;omega,hn,hh,⟨fun h=>absurd (show(1:Int)=4 from h) qL,fun h=>by cases h⟩,(fun q h=>by cases h),Nat.zero_le _⟩,by rw[if_pos (show t.term<m.a.term by show t.term<m.term;omega)];exact losts_er.symm⟩,⟨O,O⟩,k3,k2⟩,(zl (Own.qF hw) 3 1).sel [4,0,5,6,3,2] O qL⟩
    refine zm 7 O hw (a_call O O (fun w' hw=>(kW cb jb ({t with term:=m.term,qD:=0}:TimD) a ({qt:=1,who:=0,qc:=r.qc}:RolD) b (.pointer none) (.slice none 0 0) (pt ob) qd w' ‹_› qN (hw.give [3] O qL)).mono ?_))
    rintro _ w1 ⟨rfl,hO⟩
    refine O5 ?_ (hw.qg [3] O hO)
    refine zE [0,1,2,3] O qL (fun w' hw hS=>zK 5 O hw (zL 4 (v:=Vi t.now) O O O O (zE [0,1,2,3] O qL (fun w' hw hS=>zC 8 O (yo O O (zu V)) hS (zC 9 O (zQ O) hS (zC 10 O (zH (o:=2) O) hS (zC 11 O (zH (o:=2) O) hS (zK 12 O hw (zn 4 O O O O O (zE [0,1,2,3] O qL (fun w' hw hS=>zV ?_)))))))))))
    exact⟨({t with term:=m.term,qD:=0,due:=t.now+yw a qd}:TimD),⟨1,0,r.qc⟩,none, .slice none 0 0,[],({o with xv:=xw5_,qr:=jL (y.map Prod.snd)}:OutD),⟨O,O,trivial⟩,⟨.inl ⟨by show t.term<m.term;omega,O⟩,⟨⟨⟨fun h=>absurd (show(1:Int)=3 from h) qL,by show m.term≤_;omega⟩,by show _≤m.term;omega,hn,hh,⟨fun h=>absurd (show(1:Int)=4 from h) qL,fun h=>by cases h⟩,(fun q h=>by cases h),Nat.zero_le _⟩,by rw[if_pos (show t.term<m.a.term by show t.term<m.term;omega)];exact losts_er.symm⟩,⟨O,O⟩,k3,k2⟩,(zl (Own.qF hw) 3 1).sel [4,0,5,6,3,2] O qL⟩
   have n1:¬ t.term<m.a.term:=fun q=>c7 (by have h:t.term<m.term:=q;omega)
   refine yZ qM qM (zM O (zH (o:=3) O) (zM O (za 5 (v:=Vn m.term) O O O) (zM O zU (zM O (zQ O) (zM O (zH (o:=0) O) (zM O (zH (o:=0) O) (zM O (za 0 (v:=Vn t.term) O O O) (zM O (zDH O O) (zM O yN (xe (zY O (fun c8=> ?_) (fun c8=> ?_))))))))))))
   ·have n2:m.a.term<t.term:=by show m.term<_;omega
    refine zN (zB (zJ (o:=0) O O (zL 5 (v:=Vi m.kind) O O O O (zA (zX (zN (zB (yS O O O (zI O (zA (zY O (fun c9=> ?_) (fun c9=> ?_))))))))))))
    ·refine zO (jK O c9 (zR (zD O (zJ (o:=1) O O (zL 5 (v:=Vi m.src) O O O O (zD O (zD O (yc (cs:=[Vi 6,Vi 0,Vi m.src,Vn 0,Vn (0+es.length),Vn ((LG 0 0 es).end_),Vn 0,Vn 0, .bool false, .slice none 0 0, .slice none 0 0, .slice none 0 0,Vi 0, .slice none 0 0]) (z:=[Vi 0,Vi 0,Vi 0,Vn 0,Vn 0,Vn 0,Vn 0,Vn 0, .bool false, .slice none 0 0, .slice none 0 0, .slice none 0 0,Vi 0, .slice none 0 0]) (pl:=[(0,1),(1,1),(2,1),(3,1),(4,1),(5,1),(6,1),(7,1),(8,1),(9,1),(10,2),(12,1),(13,1)]) qM qM O (zy (e:=59) (sz:=14) (vs:=[.agg #[Vi 6,Vi 0,Vi m.src,Vn 0,Vn (0+es.length),Vn ((LG 0 0 es).end_),Vn 0,Vn 0, .bool false, .slice none 0 0, .slice none 0 0, .slice none 0 0,Vi 0, .slice none 0 0]]) qM O O qX qL O (fun b163=> ?_))))))))))
     refine z2 [z3 cb t (xF y) a r b yv jb qd (pt ob),Res.nl b lv es,Res.lo y,vI yv yes,Res.ou ob o,Res.row b3 59 (MsgD.cells m),vM (.slice (some ⟨b163,0,none⟩) 1 1) [(yn 6 0 m.src 0 (0+es.length) ((LG 0 0 es).end_) 0 0 false (.slice none 0 0) [])],sM [(yn 6 0 m.src 0 (0+es.length) ((LG 0 0 es).end_) 0 0 false (.slice none 0 0) [])]] (fun w' hw=>hw.msg0 ⟨O,O,O⟩ O O) ?_
     refine a_call O O (fun w' hw=>(kj cb jb t a r b (xF y) yv qd ob _ (.slice (some ⟨b163,0,none⟩) 1 1) [(yn 6 0 m.src 0 (0+es.length) ((LG 0 0 es).end_) 0 0 false (.slice none 0 0) [])] w' qR (hw.give [0,4,6,7] O qL)).mono ?_)
     rintro _ w1 ⟨mv'6_,rfl,hO⟩
     refine O6 ?_ (hw.qg [0,4,6,7] O hO)
     refine zA ?_
     exact zT (yJ O (fun w' hw=>⟨({t:=t,r:=r,lv:=lv,es:=es,y:=y,yv:=yv,yes:=yes}:NdD),({o with mv:=mv'6_,qk:=o.qk++[yb a t.term (yn 6 0 m.src 0 (0+es.length) (LG 0 0 es).end_ 0 0 false (.slice none 0 0) [])]}:OutD),⟨[⟨6,a.id,m.src,t.term,es.length,(LG 0 0 es).end_,0,0,false,[],⟨[],[]⟩,0,[]⟩],[],[]⟩,O,(by unfold xz;dsimp only;rw[if_neg k1,if_neg k3,if_neg k2,if_neg n1,if_pos n2,if_pos (show m.a.kind=5 from c9),List.length_map];rfl),(by rw[List.map_append,zCm (show(6:Int)≠1∧(6:Int)≠2 by decide),Nat.zero_add es.length];rfl),(List.append_nil _).symm,hl0,hw.sel [4,0,1,2,5] O qL⟩))
    refine zR (yS O O O (zI O (zA (xB O hk.2.1 (zB (yS O O O (zI O (zA (zY O (fun c12=> ?_) (fun c12=> ?_))))))))))
    ·refine zR (zD O (zJ (o:=1) O O (zL 5 (v:=Vi m.src) O O O O (yc (cs:=[Vi 4,Vi 0,Vi m.src,Vn 0,Vn 0,Vn 0,Vn 0,Vn 0, .bool false, .slice none 0 0, .slice none 0 0, .slice none 0 0,Vi 0, .slice none 0 0]) (z:=[Vi 0,Vi 0,Vi 0,Vn 0,Vn 0,Vn 0,Vn 0,Vn 0, .bool false, .slice none 0 0, .slice none 0 0, .slice none 0 0,Vi 0, .slice none 0 0]) (pl:=[(0,1),(1,1),(2,1),(3,1),(4,1),(5,1),(6,1),(7,1),(8,1),(9,1),(10,2),(12,1),(13,1)]) qM qM O (zy (e:=59) (sz:=14) (vs:=[.agg #[Vi 4,Vi 0,Vi m.src,Vn 0,Vn 0,Vn 0,Vn 0,Vn 0, .bool false, .slice none 0 0, .slice none 0 0, .slice none 0 0,Vi 0, .slice none 0 0]]) qM O O qX qL O (fun b171=> ?_))))))
     refine z2 [z3 cb t (xF y) a r b yv jb qd (pt ob),Res.nl b lv es,Res.lo y,vI yv yes,Res.ou ob o,Res.row b3 59 (MsgD.cells m),vM (.slice (some ⟨b171,0,none⟩) 1 1) [(yn 4 0 m.src 0 0 0 0 0 false (.slice none 0 0) [])],sM [(yn 4 0 m.src 0 0 0 0 0 false (.slice none 0 0) [])]] (fun w' hw=>hw.msg0 ⟨O,O,O⟩ O O) ?_
     refine a_call O O (fun w' hw=>(kj cb jb t a r b (xF y) yv qd ob _ (.slice (some ⟨b171,0,none⟩) 1 1) [(yn 4 0 m.src 0 0 0 0 0 false (.slice none 0 0) [])] w' qR (hw.give [0,4,6,7] O qL)).mono ?_)
     rintro _ w1 ⟨mv'7_,rfl,hO⟩
     refine O6 ?_ (hw.qg [0,4,6,7] O hO)
     refine zA ?_
     exact zT (yJ O (fun w' hw=>⟨({t:=t,r:=r,lv:=lv,es:=es,y:=y,yv:=yv,yes:=yes}:NdD),({o with mv:=mv'7_,qk:=o.qk++[yb a t.term (yn 4 0 m.src 0 0 0 0 0 false (.slice none 0 0) [])]}:OutD),⟨[one a 4 m.src t.term false],[],[]⟩,O,(by unfold xz;dsimp only;rw[if_neg k1,if_neg k3,if_neg k2,if_neg n1,if_pos n2,if_neg (show ¬ m.a.kind=5 from c9),if_pos (show m.a.kind=3 from c12)];rfl),(by rw[List.map_append,zMq qL]),(List.append_nil _).symm,hl0,hw.sel [4,0,1,2,5] O qL⟩))
    refine zO ?_
    exact zT (yJ O (fun w' hw=>⟨({t:=t,r:=r,lv:=lv,es:=es,y:=y,yv:=yv,yes:=yes}:NdD),o,⟨[],[],[]⟩,O,(by unfold xz;dsimp only;rw[if_neg k1,if_neg k3,if_neg k2,if_neg n1,if_pos n2,if_neg (show ¬ m.a.kind=5 from c9),if_neg (show ¬ m.a.kind=3 from c12)];rfl),(List.append_nil _).symm,(List.append_nil _).symm,hl0,hw.sel [0,1,2,3,4] O qL⟩))
   exact yd (fun w' hw=>⟨t,r,y,yv,yes,o,⟨O,O,trivial⟩,⟨.inr ⟨by show t.term=m.term;omega,O⟩,⟨⟨htm,hen,hn,hh,hro,hld,hy⟩,by rw[if_neg n1];exact hl0⟩,⟨O,O⟩,k3,k2⟩,hw⟩)
  obtain⟨hA,⟨hH,hL⟩,⟨hM,hR⟩,k3,k2⟩:=hΦ
  refine zR (zD O (yI (cs:=(MsgD.cells m)) 5 O O O (a_call O O (fun w' hw=>(zK4 cb jb t' a r' b yv' qd _ _ ob o2 y' yes' m w' ‹_› qN qN qR hH.htm hH.hen hH.hn hH.hh (by rw[hM];exact ho) (by rw[hR];exact hrd) ‹_› qN ‹_› hH.hro hH.hld hH.hy hk.2 (hw.give [0,1,2,3,4] O qL) (rd_m.at hw [0,1,2,3,4] O)).mono ?_))))
  rintro _ w1 ⟨n8_,o'9_,x10_,rfl,hf22_2,hf22_2_1,hf22_2_2,hf22_2_3,hO⟩
  refine O6 ?_ (hw.qg [0,1,2,3,4] O hO)
  exact ze (yJ O (fun w' hw=>⟨n8_,o'9_,({x10_ with qr:=(if t.term<m.a.term then jL (y.map fun q=>q.2.er)else [])}:OutA),O,zJx (n:={t:=t,r:=r,E:=es.map EntD.toEntA,ld:=y.map fun q=>q.2.er,yes:=yes}) hA hf22_2 k1 k3 k2,(by rw[hf22_2_1,hM]),(by rw[hf22_2_2,hR]),(by rw[hf22_2_3,hL]),hw.sel [1,2,3,4,5] O qL⟩))
end Go.Proofs.YtkkeknmkipkbmaaGreat
