import Derived.Test.YtkkeknmkipkbmaaGreatCoP
set_option linter.unusedSectionVars false
set_option linter.unusedSimpArgs false
set_option linter.unusedVariables false
set_option maxRecDepth 10000
namespace Go.Proofs.YtkkeknmkipkbmaaGreat
open Go Go.Sc Go.Proofs
theorem zKh(cb jb:Nat)(t:TimD)(a:StA)(r:RolD)(b:StB)(yv:Value)(qe:Nat)(lv:Value)(es:List EntD)(ob:Nat)(o:OutD)(y:Option (Nat×LdD))(yes:List Int)(m:MsgD)(w:World)(hg:(LG 0 0 es).good)(hl:es.length≤100000)(hvl:b.vs.length≤12)(hcm:1≤((zc b.vs (es.map EntD.toEntA)).vs++(zc b.vs (es.map EntD.toEntA)).ls).length∧((zc b.vs (es.map EntD.toEntA)).vs++(zc b.vs (es.map EntD.toEntA)).ls).length≤12)(htm:(r.qp=3→1≤t.term)∧t.term≤4611686018427387904)(hen:(LG 0 0 es).end_≤t.term)(hn:0≤t.now∧t.now≤1000000000000000)(hh:0≤t.qA∧t.qA≤1000000000000000)(ho:o.qk.length≤1000)(hrd:o.qw.length≤1000)(ha:a.ok)(hd:qe<18446744073709551616)(hm:m.wf)(hro:r.qp=4↔y.isSome=true)(hld:∀ q,y=some q→q.2.bd)(hy:yes.length≤1000)(hk:m.kind≠7∧m.kind≠8)(hin:Own w (y1 [z7 cb t (xF y) a r b yv jb qe (pt ob),Res.nl b lv es,Res.lo y,vI yv yes,Res.ou ob o]) [z7 cb t (xF y) a r b yv jb qe (pt ob),Res.nl b lv es,Res.lo y,vI yv yes,Res.ou ob o] w)(rd_m:MsgD.rd m w (y1 [z7 cb t (xF y) a r b yv jb qe (pt ob),Res.nl b lv es,Res.lo y,vI yv yes,Res.ou ob o])):Rets Tryz.prog 87 #[pt cb, .agg (MsgD.cells m).toArray] w fun u_ w'=>∃ (n:NdD) (o':OutD) (x:OutA),u_= .tuple #[]∧(n.a,x)=yc a b.vs qe m.a {t:=t,r:=r,E:=es.map EntD.toEntA,ld:=y.map fun q=>q.2.er,yes:=yes}∧o'.qk.map MsgD.a=o.qk.map MsgD.a++x.ms∧o'.qw=o.qw++x.qw∧o'.qt=o.qt∧Own w (y1 [z7 cb t (xF y) a r b yv jb qe (pt ob),Res.nl b lv es,Res.lo y,vI yv yes,Res.ou ob o]) [z7 cb n.t (xF n.y) a n.r b n.yv jb qe (pt ob),Res.nl b n.lv n.es,Res.lo n.y,vI n.yv n.yes,Res.ou ob o'] w':=by
  by_cases k3:m.kind=3
  · exact zJt cb jb t a r b yv qe lv es ob o y yes m w hg hl hvl hcm htm hen hn hh ho hrd ha hd hm hro hld hy k3 hin rd_m
  by_cases k4:m.kind=4
  · exact zJM cb jb t a r b yv qe lv es ob o y yes m w hg hl hvl hcm htm hen hn hh ho hrd ha hd hm hro hld hy k4 hin rd_m
  by_cases k5:m.kind=5
  · exact zJL cb jb t a r b yv qe lv es ob o y yes m w hg hl hvl hcm htm hen hn hh ho hrd ha hd hm hro hld hy k5 hin rd_m
  by_cases k6:m.kind=6
  · exact zJk cb jb t a r b yv qe lv es ob o y yes m w hg hl hvl hcm htm hen hn hh ho hrd ha hd hm hro hld hy k6 hin rd_m
  by_cases k9:m.kind=9
  · exact zJs cb jb t a r b yv qe lv es ob o y yes m w hg hl hvl hcm htm hen hn hh ho hrd ha hd hm hro hld hy k9 hin rd_m
  exact zKA cb jb t a r b yv qe lv es ob o y yes m w hg hl hvl hcm htm hen hn hh ho hrd ha hd hm hro hld hy ⟨⟨k3,k4,k5⟩,⟨k6,hk.1,hk.2⟩,k9⟩ hin rd_m
def zDD(a:StA)(m:MsgA)(n:NodA):Prop:=n.t.term<m.term∧(LogA.mk 0 0 n.E).fresh m.index m.ql∧¬ n.t.now - n.t.qA<a.base
instance (a:StA)(m:MsgA)(n:NodA):Decidable (zDD a m n):=inferInstanceAs (Decidable (_∧_))
def zDy(a:StA)(qe:Nat)(m:MsgA)(n:NodA):NodA:={n with t:={n.t with term:=m.term,qD:=0,due:=n.t.now+y4 a qe},r:=⟨1,0,n.r.qc⟩,ld:=none,yes:=[]}
def kI(a:StA)(vs0:List Int)(qe:Nat)(m:MsgA)(n:NodA):NodA×OutA:=
  if m.kind=1 then(n,⟨[one a 2 m.src (if zDD a m n then m.term else n.t.term) (decide (zDD a m n))],[],[]⟩)
  else if m.kind=3∧n.t.term<m.term∧m.flag=false∧n.t.now - n.t.qA<a.base then(n,⟨[],[],[]⟩)
  else if m.kind=2∧m.flag=true then
    if n.r.qp=2∧m.term=n.t.term+1 then
      if((zc vs0 n.E).ok∧m.src∈(zc vs0 n.E).vs)∧(zc vs0 n.E).qv (y8 (zc vs0 n.E) n.yes m.src)then zBA (zAV a vs0 qe false {n with yes:=y8 (zc vs0 n.E) n.yes m.src})else({n with yes:=y8 (zc vs0 n.E) n.yes m.src},⟨[],[],[]⟩)
    else(n,⟨[],[],[]⟩)
  else if n.t.term<m.term then((yc a vs0 qe m (zDy a qe m n)).1,{(yc a vs0 qe m (zDy a qe m n)).2 with qt:=jh n.ld})
  else if m.term<n.t.term then
    if m.kind=5 then(n,⟨[⟨6,a.id,m.src,n.t.term,n.E.length,(LogA.mk 0 0 n.E).end_,0,0,false,[],⟨[],[]⟩,0,[]⟩],[],[]⟩)
    else if m.kind=3 then(n,⟨[one a 4 m.src n.t.term false],[],[]⟩)
    else(n,⟨[],[],[]⟩)
  else yc a vs0 qe m n
theorem zOW{a:StA}{term:Nat}{kind dst:Int}{tm:Nat}{flag:Bool}(h:kind≠1∧kind≠2): [yg a term (yw kind 0 dst tm 0 0 0 0 flag (.slice none 0 0) [])].map MsgD.a=[one a kind dst term flag]:=by
  rw[zDz h];rfl
theorem zH4{a:StA}{term:Nat}{dst:Int}{tm:Nat}{flag:Bool}: [yg a term (yw 2 0 dst tm 0 0 0 0 flag (.slice none 0 0) [])].map MsgD.a=[one a 2 dst tm flag]:=rfl
structure HandOk(t:TimD)(r:RolD)(y:Option (Nat×LdD))(yes:List Int)(e:Nat):Prop where
  htm:(r.qp=3→1≤t.term)∧t.term≤4611686018427387904
  hen:e≤t.term
  hn:0≤t.now∧t.now≤1000000000000000
  hh:0≤t.qA∧t.qA≤1000000000000000
  hro:r.qp=4↔y.isSome=true
  hld:∀ q,y=some q→q.2.bd
  hy:yes.length≤1000
theorem zJl{a:StA}{vs0:List Int}{qe:Nat}{m:MsgA}{n:NodA}:(yc a vs0 qe m n).2.qt=[]:=by
  unfold yc zAH
  repeat' (first|rfl|(dsimp only;split)|split)
theorem zK7{a:StA}{vs0:List Int}{qe:Nat}{m:MsgA}{n n' na:NodA}{xh:OutA}(hn:(n.t.term<m.term∧n'=zDy a qe m n)∨(n.t.term=m.term∧n'=n))(hh:(na,xh)=yc a vs0 qe m n')(k1:m.kind≠1)(k3:¬(m.kind=3∧n.t.term<m.term∧m.flag=false∧n.t.now - n.t.qA<a.base))(k2:¬(m.kind=2∧m.flag=true)):
    (na,({xh with qt:=if n.t.term<m.term then jh n.ld else []}:OutA))=kI a vs0 qe m n:=by
  unfold kI
  rw[if_neg k1,if_neg k3,if_neg k2]
  rcases hn with⟨h1,rfl⟩|⟨h1,rfl⟩
  · rw[if_pos h1,if_pos h1,←hh]
  rw[if_neg V,if_neg V,if_neg V,←hh]
  have h2:=zJl (a:=a) (vs0:=vs0) (qe:=qe) (m:=m) (n:=n')
  rw[←hh]at h2
  rw[←h2]
theorem losts_er{y:Option (Nat×LdD)}:jh (y.map fun q=>q.2.er)=jh (y.map Prod.snd):=by cases y<;>rfl
theorem zNR{S:List Nat}(cb jb:Nat)(t:TimD)(a:StA)(r:RolD)(b:StB)(yv:Value)(qe:Nat)(lv:Value)(es:List EntD)(ob:Nat)(o:OutD)(y:Option (Nat×LdD))(yes:List Int)(m:MsgD)(w:World)(hg:(LG 0 0 es).good)(hl:es.length≤100000)(hvl:b.vs.length≤12)(hcm:1≤((zc b.vs (es.map EntD.toEntA)).vs++(zc b.vs (es.map EntD.toEntA)).ls).length∧((zc b.vs (es.map EntD.toEntA)).vs++(zc b.vs (es.map EntD.toEntA)).ls).length≤12)(htm:(r.qp=3→1≤t.term)∧t.term≤4611686018427387904)(hen:(LG 0 0 es).end_≤t.term)(hn:0≤t.now∧t.now≤1000000000000000)(hh:0≤t.qA∧t.qA≤1000000000000000)(ho:o.qk.length≤1000)(hrd:o.qw.length≤1000)(ha:a.ok)(hd:qe<18446744073709551616)(hm:m.wf)(hro:r.qp=4↔y.isSome=true)(hld:∀ q,y=some q→q.2.bd)(hy:yes.length≤1000)(hk:m.kind=1)(hlo:o.qt.length=0)(hmt:m.term≤4611686018427387904)(hin:Own w S [z7 cb t (xF y) a r b yv jb qe (pt ob),Res.nl b lv es,Res.lo y,vI yv yes,Res.ou ob o] w)(rd_m:MsgD.rd m w S):Rets Tryz.prog 48 #[pt cb, .agg (MsgD.cells m).toArray] w fun u_ w'=>∃ (n:NdD) (o':OutD) (x:OutA),u_= .tuple #[]∧(n.a,x)=kI a b.vs qe m.a {t:=t,r:=r,E:=es.map EntD.toEntA,ld:=y.map fun q=>q.2.er,yes:=yes}∧o'.qk.map MsgD.a=o.qk.map MsgD.a++x.ms∧o'.qw=o.qw++x.qw∧o'.qt=x.qt∧Own w S [z7 cb n.t (xF n.y) a n.r b n.yv jb qe (pt ob),Res.nl b n.lv n.es,Res.lo n.y,vI n.yv n.yes,Res.ou ob o'] w':=by
  have hme:=hm.qm
  have hw1:=jL (qe:=qe) ha
  have hb:=(LG.le hg).1
  have hl0:=List.eq_nil_of_length_eq_zero hlo
  have k1:m.a.kind=1:=hk
  refine zW Tryz.func48 O Tryz.ntmps48 hin ?_
  refine zC (z8 O O (fun b3=>zA (zC (zD O (zb O O (zK (o:=29) O O (zM 0 (v:=pt b.lb) O O O O (a_call O O (fun w' hw=>(kV b.lb 0 0 lv es w' qP qO (hw.qF 1 0 O O) (hw.qH 1 1 O O) (EntD.rd.qF 1 2 O O hw)).mono ?_)))))))))
  rintro _ w1 ⟨rfl,hO⟩
  refine O6 ?_ (hw.qi hO)
  refine zD O (yA (vs:=[Vn (0+es.length),Vn ((LG 0 0 es).end_)]) O O O (yA (vs:=[Vn (0+es.length),Vn ((LG 0 0 es).end_)]) O O O (zI O (zI O (zA (zP (zZ (zC (zK (o:=0) O O (zM 5 (v:=Vi m.kind) O O O O (yR O O O (zI O ?_))))))))))))
  refine zA (jf O hk (zP (ze [0,1,2,3,4,5] O qM qN (fun w' hw hS=>zB 0 O (zH (o:=1) O) hS (zB 1 O (zY 5 (v:=Vi m.src) O O O) hS (zB 2 O zS hS (zB 3 O (zO O) hS (zB 4 O (zH (o:=0) O) hS (zB 5 O (zH (o:=0) O) hS (zB 6 O (zY 0 (v:=Vn t.term) O O O) hS (zB 7 O (zA1 (cs:=[Vi 2,Vi 0,Vi m.src,Vn t.term,Vn 0,Vn 0,Vn 0,Vn 0, .bool false, .slice none 0 0, .slice none 0 0, .slice none 0 0,Vi 0, .slice none 0 0]) (z:=[Vi 0,Vi 0,Vi 0,Vn 0,Vn 0,Vn 0,Vn 0,Vn 0, .bool false, .slice none 0 0, .slice none 0 0, .slice none 0 0,Vi 0, .slice none 0 0]) (pl:=[(0,1),(1,1),(2,1),(3,1),(4,1),(5,1),(6,1),(7,1),(8,1),(9,1),(10,2),(12,1),(13,1)]) qN qN) hS (zJ 8 O hw ?_))))))))))))
  refine yC (v:= .agg #[Vi 0,Vi 0,Vi 0,Vn 0,Vn 0,Vn 0,Vn 0,Vn 0, .bool false, .slice none 0 0, .slice none 0 0, .slice none 0 0,Vi 0, .slice none 0 0]) qN O (fun b6=>zE [0,1,2,3,4,5] O qM (fun w' hw hS=>zJ 9 O hw (zo 6 O O O (xO O) O (zE [0,1,2,3,4,5] O qM (fun w' hw hS=>zT ?_)))))
  refine Oc7 ?_ hw
  refine zP (zP (ze [0,1,2,3,4,5,6] O qM qN (fun w' hw hS=>zB 0 O (zH (o:=3) O) hS (zB 1 O (zY 5 (v:=Vn m.term) O O O) hS (zB 2 O zS hS (zB 3 O (zO O) hS (zB 4 O (zH (o:=0) O) hS (zB 5 O (zH (o:=0) O) hS (zB 6 O (zY 0 (v:=Vn t.term) O O O) hS (zB 7 O (zCe O O) hS (zB 8 O zS hS ?_)))))))))))
  by_cases g4_8:((t.term:Nat):Int)<((m.term:Nat):Int)
  ·refine zf 9 O O (gT g4_8) zS hS (zf 10 O O (gT g4_8) (zO O) hS (zf 11 O O (gT g4_8) (zH (o:=29) O) hS (zf 12 O O (gT g4_8) (zY 0 (v:=pt b.lb) O O O) hS (zf 13 O O (gT g4_8) (zH (o:=4) O) hS (zf 14 O O (gT g4_8) (zY 5 (v:=Vn m.index) O O O) hS (zf 15 O O (gT g4_8) (zH (o:=5) O) hS (zf 16 O O (gT g4_8) (zY 5 (v:=Vn m.ql) O O O) hS (zJ 17 O hw (zR O (gT g4_8) (a_call O O (fun w' hw=>(zEz b.lb 0 0 lv es m.index m.ql w' qP qO (hw.qF 1 0 O O) (hw.qH 1 1 O O) (EntD.rd.qF 1 2 O O hw)).mono ?_)))))))))))
   rintro _ w1 ⟨rfl,hO⟩
   refine O7 ?_ (hw.qi hO)
   refine zE [0,1,2,3,4,5,6] O qM (fun w' hw hS=>zB 18 O (yf (gT g4_8)) hS (zB 19 O zS hS ?_))
   by_cases g4_19:(LG 0 0 es).fresh m.index m.ql
   ·refine zf 20 O O (gT g4_19) zS hS (zJ 21 O hw (zR O (gT g4_19) (a_call O O (fun w' hw=>(zB4 cb jb t a r b (xF y) yv (pt ob) qe w' qO qO (hw.give [0] O qM)).mono ?_))))
    rintro _ w1 ⟨rfl,hO⟩
    refine O7 ?_ (hw.qh [0] O hO)
    refine zE [6,0,1,2,3,4,5] O qM (fun w' hw hS=>zf 22 O O (gT g4_19) (xr (q:=t.now - t.qA<a.base) O) hS (zB 23 O (yf (gT g4_19)) hS (zT ?_)))
    refine Oc7 ?_ hw
    refine za O (fun c2=> ?_) (fun c2=> ?_)
    ·refine ze [0,1,2,3,4,6] O qM qN (fun w' hw hS=>zB 0 O (zH (o:=3) O) hS (zB 1 O (zY 4 (v:=Vn m.term) O O O) hS (zB 2 O (zH (o:=8) O) hS (zJ 3 O hw (zn 5 O O O O O (zE [0,1,2,3,4,6] O qM (fun w' hw hS=>zB 4 O (zH (o:=3) O) hS (zJ 5 O hw (zn 5 O O O O O (zE [0,1,2,3,4,6] O qM (fun w' hw hS=>zT ?_)))))))))))
     refine Oc7 ?_ hw
     refine zC (zD O (yL 5 O O O (zx (e:=59) (sz:=14) (vs:=[.agg #[Vi 2,Vi 0,Vi m.src,Vn m.term,Vn 0,Vn 0,Vn 0,Vn 0, .bool true, .slice none 0 0, .slice none 0 0, .slice none 0 0,Vi 0, .slice none 0 0]]) qN O O qY qM O (fun b57=> ?_))))
     refine z4 [Res.nl b lv es,Res.lo y,vI yv yes,Res.ou ob o,Res.row b3 59 (MsgD.cells m),Res.row b6 59 [Vi 2,Vi 0,Vi m.src,Vn m.term,Vn 0,Vn 0,Vn 0,Vn 0, .bool true, .slice none 0 0, .slice none 0 0, .slice none 0 0,Vi 0, .slice none 0 0],z7 cb t (xF y) a r b yv jb qe (pt ob),vM (.slice (some ⟨b57,0,none⟩) 1 1) [(yw 2 0 m.src m.term 0 0 0 0 true (.slice none 0 0) [])],sM [(yw 2 0 m.src m.term 0 0 0 0 true (.slice none 0 0) [])]] (fun w' hw=>hw.msg0 ⟨O,O,O⟩ O O) ?_
     refine a_call O O (fun w' hw=>(jI cb jb t a r b (xF y) yv qe ob _ (.slice (some ⟨b57,0,none⟩) 1 1) [(yw 2 0 m.src m.term 0 0 0 0 true (.slice none 0 0) [])] w' qS (hw.give [6,3,7,8] O qM)).mono ?_)
     rintro _ w1 ⟨mv'1_,rfl,hO⟩
     refine O7 ?_ (hw.qh [6,3,7,8] O hO)
     refine zA ?_
     exact zU (yQ O (fun w' hw=>⟨({t:=t,r:=r,lv:=lv,es:=es,y:=y,yv:=yv,yes:=yes}:NdD),({o with mv:=mv'1_,qk:=o.qk++[yg a t.term (yw 2 0 m.src m.term 0 0 0 0 true (.slice none 0 0) [])]}:OutD),⟨[one a 2 m.src m.term true],[],[]⟩,O,(by unfold kI;rw[if_pos k1,if_pos (show zDD a m.a _ from⟨by show t.term<m.term;omega,g4_19,c2⟩),decide_eq_true (show zDD a m.a _ from⟨by show t.term<m.term;omega,g4_19,c2⟩)];rfl),(by rw[List.map_append,zH4]),(List.append_nil _).symm,hl0,hw.sel [5,0,1,2,6] O qM⟩))
    refine zQ (zC (zD O (yL 5 O O O (zx (e:=59) (sz:=14) (vs:=[.agg #[Vi 2,Vi 0,Vi m.src,Vn t.term,Vn 0,Vn 0,Vn 0,Vn 0, .bool false, .slice none 0 0, .slice none 0 0, .slice none 0 0,Vi 0, .slice none 0 0]]) qN O O qY qM O (fun b57=> ?_)))))
    refine z4 [Res.nl b lv es,Res.lo y,vI yv yes,Res.ou ob o,Res.row b3 59 (MsgD.cells m),Res.row b6 59 [Vi 2,Vi 0,Vi m.src,Vn t.term,Vn 0,Vn 0,Vn 0,Vn 0, .bool false, .slice none 0 0, .slice none 0 0, .slice none 0 0,Vi 0, .slice none 0 0],z7 cb t (xF y) a r b yv jb qe (pt ob),vM (.slice (some ⟨b57,0,none⟩) 1 1) [(yw 2 0 m.src t.term 0 0 0 0 false (.slice none 0 0) [])],sM [(yw 2 0 m.src t.term 0 0 0 0 false (.slice none 0 0) [])]] (fun w' hw=>hw.msg0 ⟨O,O,O⟩ O O) ?_
    refine a_call O O (fun w' hw=>(jI cb jb t a r b (xF y) yv qe ob _ (.slice (some ⟨b57,0,none⟩) 1 1) [(yw 2 0 m.src t.term 0 0 0 0 false (.slice none 0 0) [])] w' qS (hw.give [6,3,7,8] O qM)).mono ?_)
    rintro _ w1 ⟨mv'2_,rfl,hO⟩
    refine O7 ?_ (hw.qh [6,3,7,8] O hO)
    refine zA ?_
    exact zU (yQ O (fun w' hw=>⟨({t:=t,r:=r,lv:=lv,es:=es,y:=y,yv:=yv,yes:=yes}:NdD),({o with mv:=mv'2_,qk:=o.qk++[yg a t.term (yw 2 0 m.src t.term 0 0 0 0 false (.slice none 0 0) [])]}:OutD),⟨[one a 2 m.src t.term false],[],[]⟩,O,(by unfold kI;rw[if_pos k1,if_neg (show ¬ zDD a m.a _ from fun q=>c2 q.2.2),decide_eq_false (show ¬ zDD a m.a _ from fun q=>c2 q.2.2)];rfl),(by rw[List.map_append,zH4]),(List.append_nil _).symm,hl0,hw.sel [5,0,1,2,6] O qM⟩))
   refine zX 20 O O (gF g4_19) O hS (zX 21 O O (gF g4_19) O hS (zX 22 O O (gF g4_19) O hS (zB 23 O (yM (gF g4_19)) hS (zT ?_))))
   refine Oc7 ?_ hw
   refine xx O (zQ (zC (zD O (yL 6 O O O (zx (e:=59) (sz:=14) (vs:=[.agg #[Vi 2,Vi 0,Vi m.src,Vn t.term,Vn 0,Vn 0,Vn 0,Vn 0, .bool false, .slice none 0 0, .slice none 0 0, .slice none 0 0,Vi 0, .slice none 0 0]]) qN O O qY qM O (fun b57=> ?_))))))
   refine z4 [z7 cb t (xF y) a r b yv jb qe (pt ob),Res.nl b lv es,Res.lo y,vI yv yes,Res.ou ob o,Res.row b3 59 (MsgD.cells m),Res.row b6 59 [Vi 2,Vi 0,Vi m.src,Vn t.term,Vn 0,Vn 0,Vn 0,Vn 0, .bool false, .slice none 0 0, .slice none 0 0, .slice none 0 0,Vi 0, .slice none 0 0],vM (.slice (some ⟨b57,0,none⟩) 1 1) [(yw 2 0 m.src t.term 0 0 0 0 false (.slice none 0 0) [])],sM [(yw 2 0 m.src t.term 0 0 0 0 false (.slice none 0 0) [])]] (fun w' hw=>hw.msg0 ⟨O,O,O⟩ O O) ?_
   refine a_call O O (fun w' hw=>(jI cb jb t a r b (xF y) yv qe ob _ (.slice (some ⟨b57,0,none⟩) 1 1) [(yw 2 0 m.src t.term 0 0 0 0 false (.slice none 0 0) [])] w' qS (hw.give [0,4,7,8] O qM)).mono ?_)
   rintro _ w1 ⟨mv'3_,rfl,hO⟩
   refine O7 ?_ (hw.qh [0,4,7,8] O hO)
   refine zA ?_
   exact zU (yQ O (fun w' hw=>⟨({t:=t,r:=r,lv:=lv,es:=es,y:=y,yv:=yv,yes:=yes}:NdD),({o with mv:=mv'3_,qk:=o.qk++[yg a t.term (yw 2 0 m.src t.term 0 0 0 0 false (.slice none 0 0) [])]}:OutD),⟨[one a 2 m.src t.term false],[],[]⟩,O,(by unfold kI;rw[if_pos k1,if_neg (show ¬ zDD a m.a _ from fun q=>g4_19 q.2.1),decide_eq_false (show ¬ zDD a m.a _ from fun q=>g4_19 q.2.1)];rfl),(by rw[List.map_append,zH4]),(List.append_nil _).symm,hl0,hw.sel [5,0,1,2,6] O qM⟩))
  refine zX 9 O O (gF g4_8) O hS (zX 10 O O (gF g4_8) O hS (zX 11 O O (gF g4_8) O hS (zX 12 O O (gF g4_8) O hS (zX 13 O O (gF g4_8) O hS (zX 14 O O (gF g4_8) O hS (zX 15 O O (gF g4_8) O hS (zX 16 O O (gF g4_8) O hS (zX 17 O O (gF g4_8) O hS (zB 18 O (yM (gF g4_8)) hS (zB 19 O zS hS (zX 20 O O O O hS (zX 21 O O O O hS ?_))))))))))))
  refine zX 22 O O O O hS (zB 23 O (yM O) hS (zT ?_))
  refine Oc7 ?_ hw
  refine xx O (zQ (zC (zD O (yL 6 O O O (zx (e:=59) (sz:=14) (vs:=[.agg #[Vi 2,Vi 0,Vi m.src,Vn t.term,Vn 0,Vn 0,Vn 0,Vn 0, .bool false, .slice none 0 0, .slice none 0 0, .slice none 0 0,Vi 0, .slice none 0 0]]) qN O O qY qM O (fun b57=> ?_))))))
  refine z4 [z7 cb t (xF y) a r b yv jb qe (pt ob),Res.nl b lv es,Res.lo y,vI yv yes,Res.ou ob o,Res.row b3 59 (MsgD.cells m),Res.row b6 59 [Vi 2,Vi 0,Vi m.src,Vn t.term,Vn 0,Vn 0,Vn 0,Vn 0, .bool false, .slice none 0 0, .slice none 0 0, .slice none 0 0,Vi 0, .slice none 0 0],vM (.slice (some ⟨b57,0,none⟩) 1 1) [(yw 2 0 m.src t.term 0 0 0 0 false (.slice none 0 0) [])],sM [(yw 2 0 m.src t.term 0 0 0 0 false (.slice none 0 0) [])]] (fun w' hw=>hw.msg0 ⟨O,O,O⟩ O O) ?_
  refine a_call O O (fun w' hw=>(jI cb jb t a r b (xF y) yv qe ob _ (.slice (some ⟨b57,0,none⟩) 1 1) [(yw 2 0 m.src t.term 0 0 0 0 false (.slice none 0 0) [])] w' qS (hw.give [0,4,7,8] O qM)).mono ?_)
  rintro _ w1 ⟨mv'4_,rfl,hO⟩
  refine O7 ?_ (hw.qh [0,4,7,8] O hO)
  refine zA ?_
  exact zU (yQ O (fun w' hw=>⟨({t:=t,r:=r,lv:=lv,es:=es,y:=y,yv:=yv,yes:=yes}:NdD),({o with mv:=mv'4_,qk:=o.qk++[yg a t.term (yw 2 0 m.src t.term 0 0 0 0 false (.slice none 0 0) [])]}:OutD),⟨[one a 2 m.src t.term false],[],[]⟩,O,(by unfold kI;rw[if_pos k1,if_neg (show ¬ zDD a m.a _ from fun q=>g4_8 (by have h:t.term<m.term:=q.1;omega)),decide_eq_false (show ¬ zDD a m.a _ from fun q=>g4_8 (by have h:t.term<m.term:=q.1;omega))];rfl),(by rw[List.map_append,zH4]),(List.append_nil _).symm,hl0,hw.sel [5,0,1,2,6] O qM⟩))
theorem zO2{S:List Nat}(cb jb:Nat)(t:TimD)(a:StA)(r:RolD)(b:StB)(yv:Value)(qe:Nat)(lv:Value)(es:List EntD)(ob:Nat)(o:OutD)(y:Option (Nat×LdD))(yes:List Int)(m:MsgD)(w:World)(hg:(LG 0 0 es).good)(hl:es.length≤100000)(hvl:b.vs.length≤12)(hcm:1≤((zc b.vs (es.map EntD.toEntA)).vs++(zc b.vs (es.map EntD.toEntA)).ls).length∧((zc b.vs (es.map EntD.toEntA)).vs++(zc b.vs (es.map EntD.toEntA)).ls).length≤12)(htm:(r.qp=3→1≤t.term)∧t.term≤4611686018427387904)(hen:(LG 0 0 es).end_≤t.term)(hn:0≤t.now∧t.now≤1000000000000000)(hh:0≤t.qA∧t.qA≤1000000000000000)(ho:o.qk.length≤1000)(hrd:o.qw.length≤1000)(ha:a.ok)(hd:qe<18446744073709551616)(hm:m.wf)(hro:r.qp=4↔y.isSome=true)(hld:∀ q,y=some q→q.2.bd)(hy:yes.length≤1000)(hk:m.kind≠1∧m.kind≠7∧m.kind≠8)(hlo:o.qt.length=0)(hmt:m.term≤4611686018427387904)(hin:Own w S [z7 cb t (xF y) a r b yv jb qe (pt ob),Res.nl b lv es,Res.lo y,vI yv yes,Res.ou ob o] w)(rd_m:MsgD.rd m w S):Rets Tryz.prog 48 #[pt cb, .agg (MsgD.cells m).toArray] w fun u_ w'=>∃ (n:NdD) (o':OutD) (x:OutA),u_= .tuple #[]∧(n.a,x)=kI a b.vs qe m.a {t:=t,r:=r,E:=es.map EntD.toEntA,ld:=y.map fun q=>q.2.er,yes:=yes}∧o'.qk.map MsgD.a=o.qk.map MsgD.a++x.ms∧o'.qw=o.qw++x.qw∧o'.qt=x.qt∧Own w S [z7 cb n.t (xF n.y) a n.r b n.yv jb qe (pt ob),Res.nl b n.lv n.es,Res.lo n.y,vI n.yv n.yes,Res.ou ob o'] w':=by
  have hme:=hm.qm
  have hw1:=jL (qe:=qe) ha
  have hb:=(LG.le hg).1
  have hl0:=List.eq_nil_of_length_eq_zero hlo
  have k1:¬ m.a.kind=1:=hk.1
  refine zW Tryz.func48 O Tryz.ntmps48 hin ?_
  refine zC (z8 O O (fun b3=>zA (zC (zD O (zb O O (zK (o:=29) O O (zM 0 (v:=pt b.lb) O O O O (a_call O O (fun w' hw=>(kV b.lb 0 0 lv es w' qP qO (hw.qF 1 0 O O) (hw.qH 1 1 O O) (EntD.rd.qF 1 2 O O hw)).mono ?_)))))))))
  rintro _ w1 ⟨rfl,hO⟩
  refine O6 ?_ (hw.qi hO)
  refine zD O (yA (vs:=[Vn (0+es.length),Vn ((LG 0 0 es).end_)]) O O O (yA (vs:=[Vn (0+es.length),Vn ((LG 0 0 es).end_)]) O O O (zI O (zI O (zA (zPb (fun(t':TimD) (r':RolD) (y':Option (Nat×LdD)) (yv':Value) (yes':List Int) (o2:OutD)=>[(0,pt cb),(3,pt b3)]) (fun(t':TimD) (r':RolD) (y':Option (Nat×LdD)) (yv':Value) (yes':List Int) (o2:OutD)=>((t.term<m.a.term∧({t:=t',r:=r',E:=es.map EntD.toEntA,ld:=y'.map fun q=>q.2.er,yes:=yes'}:NodA)=zDy a qe m.a {t:=t,r:=r,E:=es.map EntD.toEntA,ld:=y.map fun q=>q.2.er,yes:=yes})∨(t.term=m.a.term∧({t:=t',r:=r',E:=es.map EntD.toEntA,ld:=y'.map fun q=>q.2.er,yes:=yes'}:NodA)={t:=t,r:=r,E:=es.map EntD.toEntA,ld:=y.map fun q=>q.2.er,yes:=yes}))∧(HandOk t' r' y' yes' (LG 0 0 es).end_∧o2.qt=(if t.term<m.a.term then jh (y.map fun q=>q.2.er)else []))∧(o2.qk=o.qk∧o2.qw=o.qw)∧¬(m.a.kind=3∧t.term<m.a.term∧m.a.flag=false∧t.now - t.qA<a.base)∧¬(m.a.kind=2∧m.a.flag=true)) (fun(t':TimD) (r':RolD) (y':Option (Nat×LdD)) (yv':Value) (yes':List Int) (o2:OutD)=>[z7 cb t' (xF y') a r' b yv' jb qe (pt ob),Res.nl b lv es,Res.lo y',vI yv' yes',Res.ou ob o2,Res.row b3 59 (MsgD.cells m)]) ?_ (fun t' r' y' yv' yes' o2 g hΦ=> ?_)))))))
  ·refine zZ (zC (zK (o:=0) O O (zM 5 (v:=Vi m.kind) O O O O (yR O O O (zI O (zA (xK O V (yt (fun(zz:Bool)=>[(0,pt cb),(3,pt b3),(4,Vn (0+es.length)),(5,Vn ((LG 0 0 es).end_)),(59, .bool zz)]) (fun(zz:Bool)=>zz=true↔(m.a.kind=3∧t.term<m.a.term∧m.a.flag=false∧t.now - t.qA<a.base)) (fun(zz:Bool)=>[z7 cb t (xF y) a r b yv jb qe (pt ob),Res.nl b lv es,Res.lo y,vI yv yes,Res.ou ob o,Res.row b3 59 (MsgD.cells m)]) ?_ (fun zz g hΦ=> ?_)))))))))
   ·refine ze [0,1,2,3,4,5] O qM qN (fun w' hw hS=>zB 0 O (zH (o:=0) O) hS (zB 1 O (zY 5 (v:=Vi m.kind) O O O) hS (zB 2 O (zCq O O) hS (zB 3 O zS hS ?_))))
    by_cases g7_3:m.kind=3
    ·refine zf 4 O O (gT g7_3) (zH (o:=3) O) hS (zf 5 O O (gT g7_3) (zY 5 (v:=Vn m.term) O O O) hS (zf 6 O O (gT g7_3) zS hS (zf 7 O O (gT g7_3) (zO O) hS (zf 8 O O (gT g7_3) (zH (o:=0) O) hS (zf 9 O O (gT g7_3) (zH (o:=0) O) hS (zf 10 O O (gT g7_3) (zY 0 (v:=Vn t.term) O O O) hS (zf 11 O O (gT g7_3) (zCe O O) hS (zB 12 O (yf (gT g7_3)) hS (zB 13 O zS hS ?_)))))))))
     by_cases g7_13:((t.term:Nat):Int)<((m.term:Nat):Int)
     ·refine zf 14 O O (gT g7_13) (zH (o:=8) O) hS (zf 15 O O (gT g7_13) (zY 5 (v:= .bool m.flag) O O O) hS (zf 16 O O (gT g7_13) (zDx (b:=m.flag) O) hS (zB 17 O (yf (gT g7_13)) hS (zB 18 O zS hS ?_))))
      by_cases g7_18:(!m.flag)=true
      ·refine zf 19 O O (bT g7_18) zS hS (zJ 20 O hw (zR O (bT g7_18) (a_call O O (fun w' hw=>(zB4 cb jb t a r b (xF y) yv (pt ob) qe w' qO qO (hw.give [0] O qM)).mono ?_))))
       rintro _ w1 ⟨rfl,hO⟩
       refine O6 ?_ (hw.qh [0] O hO)
       refine zE [5,0,1,2,3,4] O qM (fun w' hw hS=>zB 21 O (yf (bT g7_18)) hS (zB 22 O yO hS (zT ?_)))
       exact⟨decide (t.now - t.qA<a.base),⟨O,O,O,O,O,trivial⟩,⟨fun h=>⟨g7_3,by show t.term<m.term;omega,by show m.flag=false;simpa using g7_18,of_decide_eq_true h⟩,fun h=>decide_eq_true h.2.2.2⟩,hw.sel [5,0,1,2,3,4] O qM⟩
      refine zX 19 O O (bF g7_18) O hS (zX 20 O O (bF g7_18) O hS (zB 21 O (yM (bF g7_18)) hS (zB 22 O yO hS (zT ?_))))
      exact⟨false,⟨O,O,O,O,O,trivial⟩,⟨fun h=>absurd h qM,fun h=>absurd (show(!m.flag)=true by rw[show m.flag=false from h.2.2.1];rfl) g7_18⟩,hw⟩
     refine zX 14 O O (gF g7_13) O hS (zX 15 O O (gF g7_13) O hS (zX 16 O O (gF g7_13) O hS (zB 17 O (yM (gF g7_13)) hS (zB 18 O zS hS (zX 19 O O O O hS (zX 20 O O O O hS (zB 21 O (yM O) hS (zB 22 O yO hS (zT ?_)))))))))
     exact⟨false,⟨O,O,O,O,O,trivial⟩,⟨fun h=>absurd h qM,fun h=>absurd (by have h2:t.term<m.term:=h.2.1;omega) g7_13⟩,hw⟩
    refine zX 4 O O (gF g7_3) O hS (zX 5 O O (gF g7_3) O hS (zX 6 O O (gF g7_3) O hS (zX 7 O O (gF g7_3) O hS (zX 8 O O (gF g7_3) O hS (zX 9 O O (gF g7_3) O hS (zX 10 O O (gF g7_3) O hS (zX 11 O O (gF g7_3) O hS (zB 12 O (yM (gF g7_3)) hS (zB 13 O zS hS (zX 14 O O O O hS (zX 15 O O O O hS (zX 16 O O O O hS ?_))))))))))))
    refine zB 17 O (yM O) hS (zB 18 O zS hS (zX 19 O O O O hS (zX 20 O O O O hS (zB 21 O (yM O) hS (zB 22 O yO hS (zT ?_))))))
    exact⟨false,⟨O,O,O,O,O,trivial⟩,⟨fun h=>absurd h qM,fun h=>absurd h.1 g7_3⟩,hw⟩
   have hz:=hΦ
   refine zAu O (fun c2=> ?_) (fun c2=> ?_)
   ·exact zU (yQ O (fun w' hw=>⟨({t:=t,r:=r,lv:=lv,es:=es,y:=y,yv:=yv,yes:=yes}:NdD),o,⟨[],[],[]⟩,O,(by unfold kI;dsimp only;rw[if_neg k1,if_pos (hz.1 c2)];rfl),(List.append_nil _).symm,(List.append_nil _).symm,hl0,hw.sel [0,1,2,3,4] O qM⟩))
   have k3:¬(m.a.kind=3∧t.term<m.a.term∧m.a.flag=false∧t.now - t.qA<a.base):=fun q=>by rw[hz.2 q]at c2;cases c2
   refine zC (zK (o:=0) O O (zM 5 (v:=Vi m.kind) O O O O (yR O O O (zD O (yJ (q:=m.kind=2) 2 3 [88,87] (m.flag=true) O O O O O O trivial O (fun h8_3=> ?_) (fun g8_6=> ?_))))))
   ·refine zR O (gT h8_3) (zK (o:=8) O O (zR O (gT h8_3) (zM 5 (v:= .bool m.flag) O O O O ?_)))
    exact yN (xC _) (fun _ hw=>hw)
   refine zI O (zA (za O (fun c3=> ?_) (fun c3=> ?_)))
   ·have k2:m.a.kind=2∧m.a.flag=true:=c3
    refine zP (zP (ze [1,2,4,5] O qM qN (fun w' hw hS=>zB 0 O zS hS (zB 1 O (zO O) hS (zB 2 O (zH (o:=21) O) hS (zJ 3 O hw (zM 0 (v:=Vi r.qp) O O O O (zE [1,2,4,5] O qM (fun w' hw hS=>zB 4 O (zCq O O) hS (zB 5 O zS hS ?_))))))))))
    by_cases g9_5:r.qp=2
    ·refine zf 6 O O (gT g9_5) (zH (o:=3) O) hS (zf 7 O O (gT g9_5) (zY 3 (v:=Vn m.term) O O O) hS (zf 8 O O (gT g9_5) zS hS (zf 9 O O (gT g9_5) (zO O) hS (zf 10 O O (gT g9_5) (zH (o:=0) O) hS (zf 11 O O (gT g9_5) (zH (o:=0) O) hS (zJ 12 O hw (zR O (gT g9_5) (zM 0 (v:=Vn t.term) O O O O (zE [1,2,4,5] O qM (fun w' hw hS=>zf 13 O O (gT g9_5) (yr O O (xA V)) hS (zf 14 O O (gT g9_5) (zCq O O) hS (zB 15 O (yf (gT g9_5)) hS ?_))))))))))))
     refine zB 16 O zS hS ?_
     by_cases g9_16:((m.term:Nat):Int)=((t.term+1:Nat):Int)
     ·refine zf 17 O O (gT g9_16) zS hS (zf 18 O O (gT g9_16) (zH (o:=1) O) hS (zf 19 O O (gT g9_16) (zY 3 (v:=Vi m.src) O O O) hS (zJ 20 O hw (zR O (gT g9_16) (a_call O O (fun w' hw=>(zIn cb jb t a r b (xF y) yv (pt ob) qe _ _ yes m.src w' ‹_› qO qO qO (hw.give [0,1,3] O qM)).mono ?_))))))
      rintro _ w1 ⟨yv'1_,rfl,hO⟩
      refine O6 ?_ (hw.qh [0,1,3] O hO)
      refine zE [4,0,1,2] O qM (fun w' hw hS=>zB 21 O (yf (gT g9_16)) hS (zT ?_))
      refine Oc6 ?_ hw
      refine za O (fun c4=> ?_) (fun c4=> ?_)
      ·have s2:(((zc b.vs (es.map EntD.toEntA)).ok∧m.a.src∈(zc b.vs (es.map EntD.toEntA)).vs)∧(zc b.vs (es.map EntD.toEntA)).qv (y8 (zc b.vs (es.map EntD.toEntA)) yes m.a.src)):=c4
       have s1:r.qp=2∧m.a.term=t.term+1:=⟨g9_5,by show m.term=_;omega⟩
       obtain rfl:=zCl hro V
       refine zV (zD O (a_call O O (fun w' hw=>(zE0 cb jb t a r b yv'1_ qe _ _ ob _ false (y8 (zc b.vs (es.map EntD.toEntA)) yes m.src) w' ‹_› qO qO qS qO qO qO qO ‹_› qO (hw.give [3,4,1] O qM)).mono ?_)))
       rintro _ w1 ⟨n2_,mv'3_,ms4_,rfl,hf10_1,hO⟩
       refine O8 ?_ (hw.qh [3,4,1] O hO)
       refine zA ?_
       exact zU (yQ O (fun w' hw=>⟨n2_,({o with mv:=mv'3_,qk:=o.qk++ms4_}:OutD),⟨ms4_.map MsgD.a,[],[]⟩,O,(by unfold kI;dsimp only;rw[if_neg k1,if_neg k3,if_pos k2,if_pos s1,if_pos s2];exact j2 hf10_1),List.map_append,(List.append_nil _).symm,hl0,hw.sel [3,4,5,6,7] O qM⟩))
      have s2:¬(((zc b.vs (es.map EntD.toEntA)).ok∧m.a.src∈(zc b.vs (es.map EntD.toEntA)).vs)∧(zc b.vs (es.map EntD.toEntA)).qv (y8 (zc b.vs (es.map EntD.toEntA)) yes m.a.src)):=c4
      have s1:r.qp=2∧m.a.term=t.term+1:=⟨g9_5,by show m.term=_;omega⟩
      refine zQ ?_
      exact zU (yQ O (fun w' hw=>⟨({t:=t,r:=r,lv:=lv,es:=es,y:=y,yv:=yv'1_,yes:=(y8 (zc b.vs (es.map EntD.toEntA)) yes m.src)}:NdD),o,⟨[],[],[]⟩,O,(by unfold kI;dsimp only;rw[if_neg k1,if_neg k3,if_pos k2,if_pos s1,if_neg s2];rfl),(List.append_nil _).symm,(List.append_nil _).symm,hl0,hw.sel [3,4,0,5,1] O qM⟩))
     refine zX 17 O O (gF g9_16) O hS (zX 18 O O (gF g9_16) O hS (zX 19 O O (gF g9_16) O hS (zX 20 O O (gF g9_16) O hS (zB 21 O (yM (gF g9_16)) hS (zT ?_)))))
     refine Oc6 ?_ hw
     refine xx O (zQ ?_)
     exact zU (yQ O (fun w' hw=>⟨({t:=t,r:=r,lv:=lv,es:=es,y:=y,yv:=yv,yes:=yes}:NdD),o,⟨[],[],[]⟩,O,(by unfold kI;dsimp only;rw[if_neg k1,if_neg k3,if_pos k2,if_neg (fun q=>g9_16 (by have h:m.term=t.term+1:=q.2;omega))];rfl),(List.append_nil _).symm,(List.append_nil _).symm,hl0,hw.sel [0,1,2,3,4] O qM⟩))
    refine zX 6 O O (gF g9_5) O hS (zX 7 O O (gF g9_5) O hS (zX 8 O O (gF g9_5) O hS (zX 9 O O (gF g9_5) O hS (zX 10 O O (gF g9_5) O hS (zX 11 O O (gF g9_5) O hS (zX 12 O O (gF g9_5) O hS (zX 13 O O (gF g9_5) O hS (zX 14 O O (gF g9_5) O hS (zB 15 O (yM (gF g9_5)) hS (zB 16 O zS hS (zX 17 O O O O hS (zX 18 O O O O hS ?_))))))))))))
    refine zX 19 O O O O hS (zX 20 O O O O hS (zB 21 O (yM O) hS (zT ?_)))
    refine Oc6 ?_ hw
    refine xx O (zQ ?_)
    exact zU (yQ O (fun w' hw=>⟨({t:=t,r:=r,lv:=lv,es:=es,y:=y,yv:=yv,yes:=yes}:NdD),o,⟨[],[],[]⟩,O,(by unfold kI;dsimp only;rw[if_neg k1,if_neg k3,if_pos k2,if_neg (fun q=>g9_5 q.1)];rfl),(List.append_nil _).symm,(List.append_nil _).symm,hl0,hw.sel [0,1,2,3,4] O qM⟩))
   have k2:¬(m.a.kind=2∧m.a.flag=true):=c3
   refine yb qN qN (zL O (zH (o:=3) O) (zL O (zY 5 (v:=Vn m.term) O O O) (zL O zS (zL O (zO O) (zL O (zH (o:=0) O) (zL O (zH (o:=0) O) (zL O (zY 0 (v:=Vn t.term) O O O) (zL O (zCe O O) (zL O yO (xi (za O (fun c7=> ?_) (fun c7=> ?_))))))))))))
   ·refine zC (zD O (zK (o:=3) O O (zM 5 (v:=Vn m.term) O O O O (yh (cs:=[Vn m.term,Vi 0]) (z:=[Vn 0,Vi 0]) (pl:=[(0,1),(1,1)]) qN qN O (zb O O (zK (o:=0) O O (zo 0 O O O (xO O) O (zA (zC (zD O (a_call O O (fun w' hw=>(zJJ cb jb ({t with term:=m.term,qD:=0}:TimD) a r b yv qe ob _ _ 0 w' (fun q h=>by have:=(hld q h).qj;omega) hlo (hw.give [0,2,4] O qM)).mono ?_))))))))))))
    rintro _ w1 ⟨xw5_,rfl,hO⟩
    refine O5 ?_ (hw.qh [0,2,4] O hO)
    refine zA (ze [0,1,2,4] O qM qN (fun w' hw hS=>zB 0 O zS hS (zB 1 O zS hS (zB 2 O (zO O) hS (zB 3 O (zH (o:=2) O) hS (zB 4 O (zH (o:=0) O) hS (zB 6 O zS hS (zq 5 7 ?_ ?_))))))))
    ·refine zl 5 O hw (zM 3 (v:=Vi t.now) O O O O (zE [0,1,2,4] O qM (fun w' hw hS=>zJ 7 O hw (a_call O O (fun w' hw=>(k0 cb jb ({t with term:=m.term,qD:=0}:TimD) a ({qp:=1,who:=0,qc:=r.qc}:RolD) b (.pointer none) (.slice none 0 0) (pt ob) qe w' ‹_› qO (hw.give [3] O qM)).mono ?_)))))
     rintro _ w1 ⟨rfl,hO⟩
     refine O5 ?_ (hw.qh [3] O hO)
     refine zE [0,1,2,3] O qM (fun w' hw hS=>zB 8 O (yr O O (zr V)) hS (zB 9 O (zO O) hS (zB 10 O (zH (o:=2) O) hS (zB 11 O (zH (o:=2) O) hS (zJ 12 O hw (zn 4 O O O O O (zE [0,1,2,3] O qM (fun w' hw hS=>zT ?_))))))))
     exact⟨({t with term:=m.term,qD:=0,due:=t.now+y4 a qe}:TimD),⟨1,0,r.qc⟩,none, .slice none 0 0,[],({o with xv:=xw5_,qt:=jh (y.map Prod.snd)}:OutD),⟨O,O,trivial⟩,⟨.inl ⟨by show t.term<m.term;omega,O⟩,⟨⟨⟨fun h=>absurd (show(1:Int)=3 from h) qM,by show m.term≤_;omega⟩,by show _≤m.term;omega,hn,hh,⟨fun h=>absurd (show(1:Int)=4 from h) qM,fun h=>by cases h⟩,(fun q h=>by cases h),Nat.zero_le _⟩,by rw[if_pos (show t.term<m.a.term by show t.term<m.term;omega)];exact losts_er.symm⟩,⟨O,O⟩,k3,k2⟩,(zm (Own.qG hw) 3 1).sel [4,0,5,6,3,2] O qM⟩
    refine zl 7 O hw (a_call O O (fun w' hw=>(k0 cb jb ({t with term:=m.term,qD:=0}:TimD) a ({qp:=1,who:=0,qc:=r.qc}:RolD) b (.pointer none) (.slice none 0 0) (pt ob) qe w' ‹_› qO (hw.give [3] O qM)).mono ?_))
    rintro _ w1 ⟨rfl,hO⟩
    refine O5 ?_ (hw.qh [3] O hO)
    refine zE [0,1,2,3] O qM (fun w' hw hS=>zJ 5 O hw (zM 4 (v:=Vi t.now) O O O O (zE [0,1,2,3] O qM (fun w' hw hS=>zB 8 O (yr O O (zr V)) hS (zB 9 O (zO O) hS (zB 10 O (zH (o:=2) O) hS (zB 11 O (zH (o:=2) O) hS (zJ 12 O hw (zn 4 O O O O O (zE [0,1,2,3] O qM (fun w' hw hS=>zT ?_)))))))))))
    exact⟨({t with term:=m.term,qD:=0,due:=t.now+y4 a qe}:TimD),⟨1,0,r.qc⟩,none, .slice none 0 0,[],({o with xv:=xw5_,qt:=jh (y.map Prod.snd)}:OutD),⟨O,O,trivial⟩,⟨.inl ⟨by show t.term<m.term;omega,O⟩,⟨⟨⟨fun h=>absurd (show(1:Int)=3 from h) qM,by show m.term≤_;omega⟩,by show _≤m.term;omega,hn,hh,⟨fun h=>absurd (show(1:Int)=4 from h) qM,fun h=>by cases h⟩,(fun q h=>by cases h),Nat.zero_le _⟩,by rw[if_pos (show t.term<m.a.term by show t.term<m.term;omega)];exact losts_er.symm⟩,⟨O,O⟩,k3,k2⟩,(zm (Own.qG hw) 3 1).sel [4,0,5,6,3,2] O qM⟩
   have n1:¬ t.term<m.a.term:=fun q=>c7 (by have h:t.term<m.term:=q;omega)
   refine yb qN qN (zL O (zH (o:=3) O) (zL O (zY 5 (v:=Vn m.term) O O O) (zL O zS (zL O (zO O) (zL O (zH (o:=0) O) (zL O (zH (o:=0) O) (zL O (zY 0 (v:=Vn t.term) O O O) (zL O (zBi O O) (zL O yO (xi (za O (fun c8=> ?_) (fun c8=> ?_))))))))))))
   ·have n2:m.a.term<t.term:=by show m.term<_;omega
    refine zP (zC (zK (o:=0) O O (zM 5 (v:=Vi m.kind) O O O O (zA (zZ (zP (zC (yR O O O (zI O (zA (za O (fun c9=> ?_) (fun c9=> ?_))))))))))))
    ·refine zQ (jf O c9 (zV (zD O (zK (o:=1) O O (zM 5 (v:=Vi m.src) O O O O (zD O (zD O (yh (cs:=[Vi 6,Vi 0,Vi m.src,Vn 0,Vn (0+es.length),Vn ((LG 0 0 es).end_),Vn 0,Vn 0, .bool false, .slice none 0 0, .slice none 0 0, .slice none 0 0,Vi 0, .slice none 0 0]) (z:=[Vi 0,Vi 0,Vi 0,Vn 0,Vn 0,Vn 0,Vn 0,Vn 0, .bool false, .slice none 0 0, .slice none 0 0, .slice none 0 0,Vi 0, .slice none 0 0]) (pl:=[(0,1),(1,1),(2,1),(3,1),(4,1),(5,1),(6,1),(7,1),(8,1),(9,1),(10,2),(12,1),(13,1)]) qN qN O (zx (e:=59) (sz:=14) (vs:=[.agg #[Vi 6,Vi 0,Vi m.src,Vn 0,Vn (0+es.length),Vn ((LG 0 0 es).end_),Vn 0,Vn 0, .bool false, .slice none 0 0, .slice none 0 0, .slice none 0 0,Vi 0, .slice none 0 0]]) qN O O qY qM O (fun b163=> ?_))))))))))
     refine z4 [z7 cb t (xF y) a r b yv jb qe (pt ob),Res.nl b lv es,Res.lo y,vI yv yes,Res.ou ob o,Res.row b3 59 (MsgD.cells m),vM (.slice (some ⟨b163,0,none⟩) 1 1) [(yw 6 0 m.src 0 (0+es.length) ((LG 0 0 es).end_) 0 0 false (.slice none 0 0) [])],sM [(yw 6 0 m.src 0 (0+es.length) ((LG 0 0 es).end_) 0 0 false (.slice none 0 0) [])]] (fun w' hw=>hw.msg0 ⟨O,O,O⟩ O O) ?_
     refine a_call O O (fun w' hw=>(jI cb jb t a r b (xF y) yv qe ob _ (.slice (some ⟨b163,0,none⟩) 1 1) [(yw 6 0 m.src 0 (0+es.length) ((LG 0 0 es).end_) 0 0 false (.slice none 0 0) [])] w' qS (hw.give [0,4,6,7] O qM)).mono ?_)
     rintro _ w1 ⟨mv'6_,rfl,hO⟩
     refine O6 ?_ (hw.qh [0,4,6,7] O hO)
     refine zA ?_
     exact zU (yQ O (fun w' hw=>⟨({t:=t,r:=r,lv:=lv,es:=es,y:=y,yv:=yv,yes:=yes}:NdD),({o with mv:=mv'6_,qk:=o.qk++[yg a t.term (yw 6 0 m.src 0 (0+es.length) (LG 0 0 es).end_ 0 0 false (.slice none 0 0) [])]}:OutD),⟨[⟨6,a.id,m.src,t.term,es.length,(LG 0 0 es).end_,0,0,false,[],⟨[],[]⟩,0,[]⟩],[],[]⟩,O,(by unfold kI;dsimp only;rw[if_neg k1,if_neg k3,if_neg k2,if_neg n1,if_pos n2,if_pos (show m.a.kind=5 from c9),List.length_map];rfl),(by rw[List.map_append,zDz (show(6:Int)≠1∧(6:Int)≠2 by decide),Nat.zero_add es.length];rfl),(List.append_nil _).symm,hl0,hw.sel [4,0,1,2,5] O qM⟩))
    refine zV (yR O O O (zI O (zA (xK O hk.2.1 (zC (yR O O O (zI O (zA (za O (fun c12=> ?_) (fun c12=> ?_))))))))))
    ·refine zV (zD O (zK (o:=1) O O (zM 5 (v:=Vi m.src) O O O O (yh (cs:=[Vi 4,Vi 0,Vi m.src,Vn 0,Vn 0,Vn 0,Vn 0,Vn 0, .bool false, .slice none 0 0, .slice none 0 0, .slice none 0 0,Vi 0, .slice none 0 0]) (z:=[Vi 0,Vi 0,Vi 0,Vn 0,Vn 0,Vn 0,Vn 0,Vn 0, .bool false, .slice none 0 0, .slice none 0 0, .slice none 0 0,Vi 0, .slice none 0 0]) (pl:=[(0,1),(1,1),(2,1),(3,1),(4,1),(5,1),(6,1),(7,1),(8,1),(9,1),(10,2),(12,1),(13,1)]) qN qN O (zx (e:=59) (sz:=14) (vs:=[.agg #[Vi 4,Vi 0,Vi m.src,Vn 0,Vn 0,Vn 0,Vn 0,Vn 0, .bool false, .slice none 0 0, .slice none 0 0, .slice none 0 0,Vi 0, .slice none 0 0]]) qN O O qY qM O (fun b171=> ?_))))))
     refine z4 [z7 cb t (xF y) a r b yv jb qe (pt ob),Res.nl b lv es,Res.lo y,vI yv yes,Res.ou ob o,Res.row b3 59 (MsgD.cells m),vM (.slice (some ⟨b171,0,none⟩) 1 1) [(yw 4 0 m.src 0 0 0 0 0 false (.slice none 0 0) [])],sM [(yw 4 0 m.src 0 0 0 0 0 false (.slice none 0 0) [])]] (fun w' hw=>hw.msg0 ⟨O,O,O⟩ O O) ?_
     refine a_call O O (fun w' hw=>(jI cb jb t a r b (xF y) yv qe ob _ (.slice (some ⟨b171,0,none⟩) 1 1) [(yw 4 0 m.src 0 0 0 0 0 false (.slice none 0 0) [])] w' qS (hw.give [0,4,6,7] O qM)).mono ?_)
     rintro _ w1 ⟨mv'7_,rfl,hO⟩
     refine O6 ?_ (hw.qh [0,4,6,7] O hO)
     refine zA ?_
     exact zU (yQ O (fun w' hw=>⟨({t:=t,r:=r,lv:=lv,es:=es,y:=y,yv:=yv,yes:=yes}:NdD),({o with mv:=mv'7_,qk:=o.qk++[yg a t.term (yw 4 0 m.src 0 0 0 0 0 false (.slice none 0 0) [])]}:OutD),⟨[one a 4 m.src t.term false],[],[]⟩,O,(by unfold kI;dsimp only;rw[if_neg k1,if_neg k3,if_neg k2,if_neg n1,if_pos n2,if_neg (show ¬ m.a.kind=5 from c9),if_pos (show m.a.kind=3 from c12)];rfl),(by rw[List.map_append,zOW qM]),(List.append_nil _).symm,hl0,hw.sel [4,0,1,2,5] O qM⟩))
    refine zQ ?_
    exact zU (yQ O (fun w' hw=>⟨({t:=t,r:=r,lv:=lv,es:=es,y:=y,yv:=yv,yes:=yes}:NdD),o,⟨[],[],[]⟩,O,(by unfold kI;dsimp only;rw[if_neg k1,if_neg k3,if_neg k2,if_neg n1,if_pos n2,if_neg (show ¬ m.a.kind=5 from c9),if_neg (show ¬ m.a.kind=3 from c12)];rfl),(List.append_nil _).symm,(List.append_nil _).symm,hl0,hw.sel [0,1,2,3,4] O qM⟩))
   exact yZ (fun w' hw=>⟨t,r,y,yv,yes,o,⟨O,O,trivial⟩,⟨.inr ⟨by show t.term=m.term;omega,O⟩,⟨⟨htm,hen,hn,hh,hro,hld,hy⟩,by rw[if_neg n1];exact hl0⟩,⟨O,O⟩,k3,k2⟩,hw⟩)
  obtain⟨hA,⟨hH,hL⟩,⟨hM,hR⟩,k3,k2⟩:=hΦ
  refine zV (zD O (yL (cs:=(MsgD.cells m)) 5 O O O (a_call O O (fun w' hw=>(zKh cb jb t' a r' b yv' qe _ _ ob o2 y' yes' m w' ‹_› qO qO qS hH.htm hH.hen hH.hn hH.hh (by rw[hM];exact ho) (by rw[hR];exact hrd) ‹_› qO ‹_› hH.hro hH.hld hH.hy hk.2 (hw.give [0,1,2,3,4] O qM) (rd_m.at hw [0,1,2,3,4] O)).mono ?_))))
  rintro _ w1 ⟨n8_,o'9_,x10_,rfl,hf22_2,hf22_2_1,hf22_2_2,hf22_2_3,hO⟩
  refine O6 ?_ (hw.qh [0,1,2,3,4] O hO)
  exact zg (yQ O (fun w' hw=>⟨n8_,o'9_,({x10_ with qt:=(if t.term<m.a.term then jh (y.map fun q=>q.2.er)else [])}:OutA),O,zK7 (n:={t:=t,r:=r,E:=es.map EntD.toEntA,ld:=y.map fun q=>q.2.er,yes:=yes}) hA hf22_2 k1 k3 k2,(by rw[hf22_2_1,hM]),(by rw[hf22_2_2,hR]),(by rw[hf22_2_3,hL]),hw.sel [1,2,3,4,5] O qM⟩))
end Go.Proofs.YtkkeknmkipkbmaaGreat
