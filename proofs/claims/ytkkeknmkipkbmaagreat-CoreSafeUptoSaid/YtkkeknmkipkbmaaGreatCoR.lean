import Derived.Test.YtkkeknmkipkbmaaGreatCoQ
set_option linter.unusedSectionVars false
set_option linter.unusedSimpArgs false
set_option linter.unusedVariables false
set_option maxRecDepth 10000
namespace Go.Proofs.YtkkeknmkipkbmaaGreat
open Go Go.Sc Go.Proofs
theorem zJc(cb jb:Nat)(t:TimD)(a:StA)(r:RolD)(b:StB)(yv:Value)(qd:Nat)(lv:Value)(es:List EntD)(ob:Nat)(o:OutD)(y:Option (Nat×LdD))(yes:List Int)(m:MsgD)(w:World)(hg:(LG 0 0 es).good)(hl:es.length≤100000)(hvl:b.vs.length≤12)(hcm:1≤((zc b.vs (es.map EntD.toEntA)).vs++(zc b.vs (es.map EntD.toEntA)).ls).length∧((zc b.vs (es.map EntD.toEntA)).vs++(zc b.vs (es.map EntD.toEntA)).ls).length≤12)(htm:(r.qr=3→1≤t.term)∧t.term≤4611686018427387904)(hen:(LG 0 0 es).end_≤t.term)(hn:0≤t.now∧t.now≤1000000000000000)(hh:0≤t.qA∧t.qA≤1000000000000000)(ho:o.qj.length≤1000)(hrd:o.qx.length≤1000)(ha:a.ok)(hd:qd<18446744073709551616)(hm:m.wf)(hro:r.qr=4↔y.isSome=true)(hld:∀ q,y=some q→q.2.bd)(hy:yes.length≤1000)(hk:m.kind≠7∧m.kind≠8)(hlo:o.qq.length=0)(hmt:m.term≤4611686018427387904)(hin:Own w (y2 [z4 cb t (xJ y) a r b yv jb qd (pt ob),Res.nl b lv es,Res.lo y,vI yv yes,Res.ou ob o]) [z4 cb t (xJ y) a r b yv jb qd (pt ob),Res.nl b lv es,Res.lo y,vI yv yes,Res.ou ob o] w)(rd_m:MsgD.rd m w (y2 [z4 cb t (xJ y) a r b yv jb qd (pt ob),Res.nl b lv es,Res.lo y,vI yv yes,Res.ou ob o])):Rets Tryz.prog 48 #[pt cb, .agg (MsgD.cells m).toArray] w fun u_ w'=>∃ (n:NdD) (o':OutD) (x:OutA),u_= .tuple #[]∧(n.a,x)=x7 a b.vs qd m.a {t:=t,r:=r,E:=es.map EntD.toEntA,ld:=y.map fun q=>q.2.er,yes:=yes}∧o'.qj.map MsgD.a=o.qj.map MsgD.a++x.ms∧o'.qx=o.qx++x.qx∧o'.qq=x.qq∧Own w (y2 [z4 cb t (xJ y) a r b yv jb qd (pt ob),Res.nl b lv es,Res.lo y,vI yv yes,Res.ou ob o]) [z4 cb n.t (xJ n.y) a n.r b n.yv jb qd (pt ob),Res.nl b n.lv n.es,Res.lo n.y,vI n.yv n.yes,Res.ou ob o'] w':=by
  by_cases k1:m.kind=1
  · exact zNj cb jb t a r b yv qd lv es ob o y yes m w hg hl hvl hcm htm hen hn hh ho hrd ha hd hm hro hld hy k1 hlo hmt hin rd_m
  exact zPi cb jb t a r b yv qd lv es ob o y yes m w hg hl hvl hcm htm hen hn hh ho hrd ha hd hm hro hld hy ⟨k1,hk.1,hk.2⟩ hlo hmt hin rd_m
def jW(now:Int)(n:NodA):NodA:={n with t:={n.t with now:=max n.t.now now}}
def zIX(a:StA)(m:MsgA):Prop:=m.ok∧m.dst=a.id∧m.src≠a.id∧max (max m.term m.index) m.qm≤4611686018427387904
instance (a:StA)(m:MsgA):Decidable (zIX a m):=inferInstanceAs (Decidable (_∧_))
def zBX(a:StA)(vs0:List Int)(now:Int)(qd:Nat)(m:MsgA)(n:NodA):NodA×OutA:=if zIX a m then x7 a vs0 qd m (jW now n)else(n,⟨[],[],[]⟩)
theorem zOW{S:List Nat}(cb jb:Nat)(t:TimD)(a:StA)(r:RolD)(b:StB)(yv:Value)(qd:Nat)(lv:Value)(es:List EntD)(y:Option (Nat×LdD))(yes:List Int)(m:MsgD)(now:Int)(dr:Nat)(w:World)(hg:(LG 0 0 es).good)(hl:es.length≤100000)(hvl:b.vs.length≤12)(hcm:1≤((zc b.vs (es.map EntD.toEntA)).vs++(zc b.vs (es.map EntD.toEntA)).ls).length∧((zc b.vs (es.map EntD.toEntA)).vs++(zc b.vs (es.map EntD.toEntA)).ls).length≤12)(hH:HandOk t r y yes (LG 0 0 es).end_)(ha:a.ok)(hnw:0≤now∧now≤1000000000000000)(hm:m.wf)(hd:dr<18446744073709551616)(hk:m.kind≠7∧m.kind≠8)(hin:Own w S [z4 cb t (xJ y) a r b yv jb qd (.pointer none),Res.nl b lv es,Res.lo y,vI yv yes] w)(rd_m:MsgD.rd m w S):Rets Tryz.prog 16 #[pt cb, .agg (MsgD.cells m).toArray,Vi now,Vn dr] w fun u_ w'=>∃ (n:NdD) (draw':Nat) (o:OutD) (x:OutA),u_= .agg (OutD.cells o).toArray∧(n.a,x)=zBX a b.vs now dr m.a {t:=t,r:=r,E:=es.map EntD.toEntA,ld:=y.map fun q=>q.2.er,yes:=yes}∧o.qj.map MsgD.a=x.ms∧o.qx=x.qx∧o.qq=x.qq∧Own w S [z4 cb n.t (xJ n.y) a n.r b n.yv jb draw' (.pointer none),Res.nl b n.lv n.es,Res.lo n.y,vI n.yv n.yes,vM o.mv o.qj,sM o.qj,vR o.rv o.qx,vU o.xv o.qq] w':=by
  have hHt:=hH.htm
  have hHn:=hH.hn
  refine zW Tryz.func16 O Tryz.ntmps16 hin ?_
  refine zB (z3 O O (fun b5=>yE (v:= .agg #[.slice none 0 0, .bool false, .slice none 0 0, .slice none 0 0]) qN O (fun b8=>zA (zN (zB (zD O (xf qN O O O (zA (xt O (zO (zN (zB ?_))))))))))))
  refine yI (cs:=(MsgD.cells m)) 4 O O O (a_call O O (fun w' hw=>(zKl m w' ‹_› (rd_m.at0 hw)).mono ?_))
  rintro _ w1 ⟨r1_,rfl,hO⟩
  refine O7 ?_ (hw.qi hO)
  refine zD O (z8 (vs:=[r1_,Vi (yB m.a.ok)]) O O O (z8 (vs:=[r1_,Vi (yB m.a.ok)]) O O O (zI O (zI O (zA (yX qN qN (zM O zT (zM O (zLB O O) (zM O zT (zHq (q:=(yB m.a.ok)≠0) 7 2 [28,27,26,25,24,23,22] (m.dst≠a.id) O O O O O O trivial O (fun h4_2=> ?_) (fun g4_10=> ?_)))))))))))
  ·refine yu O (gF h4_2) (zM O (zH (o:=2) O) (yu O (gF h4_2) (zM O (zZ 4 (v:=Vi m.dst) O O O) (yu O (gF h4_2) (zM O zT (yu O (gF h4_2) (zM O (zQ O) (yu O (gF h4_2) (zM O (zH (o:=10) O) (yu O (gF h4_2) (zM O (zZ 0 (v:=Vi a.id) O O O) (yu O (gF h4_2) ?_))))))))))))
   refine zM O (zLB O O) ?_
   exact zEw O
  refine zM O zT (zHq (q:=((yB m.a.ok)≠0)∨(m.dst≠a.id)) 7 11 [37,36,35,34,33,32,31] (m.src=a.id) O O O O O O trivial O (fun h4_11=> ?_) (fun g4_19=> ?_))
  ·refine yu O (gF h4_11) (zM O (zH (o:=1) O) (yu O (gF h4_11) (zM O (zZ 4 (v:=Vi m.src) O O O) (yu O (gF h4_11) (zM O zT (yu O (gF h4_11) (zM O (zQ O) (yu O (gF h4_11) (zM O (zH (o:=10) O) (yu O (gF h4_11) (zM O (zZ 0 (v:=Vi a.id) O O O) (yu O (gF h4_11) ?_))))))))))))
   refine zM O (zDd O O) ?_
   exact zEw O
  refine zM O zT (zHq (q:=(((yB m.a.ok)≠0)∨(m.dst≠a.id))∨(m.src=a.id)) 8 20 [47,46,45,44,43,42,41,40] (((4611686018427387904:Nat):Int)<((max (max m.term m.index) m.qm:Nat):Int)) O O O O O O trivial O (fun h4_20=> ?_) (fun g4_29=> ?_))
  ·refine yu O (gF h4_20) (zM O (zH (o:=3) O) (yu O (gF h4_20) (zM O (zZ 4 (v:=Vn m.term) O O O) (yu O (gF h4_20) (zM O (zH (o:=4) O) (yu O (gF h4_20) (zM O (zZ 4 (v:=Vn m.index) O O O) (yu O (gF h4_20) (zM O (zH (o:=5) O) (yu O (gF h4_20) (zM O (zZ 4 (v:=Vn m.qm) O O O) (yu O (gF h4_20) ?_))))))))))))
   refine zM O (zLd (c:=((max (max m.term m.index) m.qm:Nat):Int)) O O O (zQR _ _ _)) (yu O (gF h4_20) (zM O (zCU O O) ?_))
   exact zEw O
  refine xk (zY O (fun c2=> ?_) (fun c2=> ?_))
  ·have hP:¬ zIX a m.a:=fun q=>by rcases c2 with((h|h)|h)|h;(exact h (by unfold yB;rw[if_pos q.1]));(exact h q.2.1);(exact q.2.2.1 h);(have h2:max (max m.term m.index) m.qm≤4611686018427387904:=q.2.2.2;omega)
   refine zB (ye (cs:=[.slice none 0 0, .bool false, .slice none 0 0, .slice none 0 0]) (z:=[.slice none 0 0, .bool false, .slice none 0 0, .slice none 0 0]) (pl:=[(0,1),(1,1),(2,1),(3,1)]) qN qN O (zr 5 O O O (xQ O) O (zA ?_)))
   exact zV (jj (cs:=[.slice none 0 0, .bool false, .slice none 0 0, .slice none 0 0]) O O qN (Own.qt (i:=5) O) (fun w' hw=>⟨({t:=t,r:=r,lv:=lv,es:=es,y:=y,yv:=yv,yes:=yes}:NdD),qd,outZ,⟨[],[],[]⟩,O,(by unfold zBX;rw[if_neg hP];rfl),O,O,O,(zl (zl (Own.qG (zl hw 59 14)) 53 2) 22 1).sel [0,1,2,3,7,8,9,10] O qM⟩))
  have h4:max (max m.term m.index) m.qm≤4611686018427387904:=by have h5:=fun q=>c2 (.inr q);omega
  have hP:zIX a m.a:=⟨Decidable.byContradiction fun q=>c2 (.inl (.inl (.inl (by unfold yB;rw[if_neg q];decide)))),Decidable.byContradiction fun q=>c2 (.inl (.inl (.inr q))),fun q=>c2 (.inl (.inr q)),h4⟩
  refine zO (zB (zD O (zD O (zD O (a_call O O (fun w' hw=>(zBd cb jb t a r b (xJ y) yv (.pointer none) qd now dr w' (hw.give [0] O qM)).mono ?_))))))
  rintro _ w1 ⟨ob2_,rfl,hO⟩
  refine O8 ?_ (hw.qg [0] O hO)
  refine zA (zB (zD O (yI (cs:=(MsgD.cells m)) 3 O O O (a_call O O (fun w' hw=>(zJc cb jb ({t with now:=max t.now now}:TimD) a r b yv dr _ _ ob2_ outZ _ yes m w' ‹_› qO qO qS hH.htm hH.hen (by show 0≤max t.now now∧max t.now now≤_;omega) hH.hh (Nat.zero_le _) (Nat.zero_le _) ‹_› hd hm hH.hro hH.hld hH.hy hk O V (hw.give [6,0,1,2,7] O qM) (rd_m.at hw [6,0,1,2,7] O)).mono ?_)))))
  rintro _ w1 ⟨n3_,o'4_,x5_,rfl,hf7_2,hf7_2_1,hf7_2_2,hf7_2_3,hO⟩
  refine O8 ?_ (hw.qg [6,0,1,2,7] O hO)
  refine zA (zB (zD O (a_call O O (fun w' hw=>(jR cb jb n3_.t a n3_.r b (xJ n3_.y) n3_.yv dr ob2_ o'4_ w' (hw.give [3,7] O qM)).mono ?_))))
  rintro _ w1 ⟨rfl,hO⟩
  refine O11 ?_ (hw.qg [3,7] O hO)
  refine zP (fun w' hw=>Own.qh (i:=7) O hw) (fun hc1_=> ?_)
  refine zP (fun w' hw=>Own.qh (i:=9) O hw) (fun hc2_=> ?_)
  refine zP (fun w' hw=>Own.qh (i:=10) O hw) (fun hc3_=> ?_)
  refine zr 1 O O O (zF hc1_ (zF O (zF hc2_ (zF hc3_ zj)))) O (zA ?_)
  exact zV (jj (cs:=(OutD.cells o'4_)) O O qN (Own.qt (i:=1) O) (fun w' hw=>⟨n3_,dr,o'4_,x5_,O,(by unfold zBX;rw[if_pos hP];exact hf7_2),(hf7_2_1.trans (List.nil_append _)),(hf7_2_2.trans (List.nil_append _)),hf7_2_3,hw.sel [6,3,4,5,7,8,9,10] O qM⟩))
end Go.Proofs.YtkkeknmkipkbmaaGreat
