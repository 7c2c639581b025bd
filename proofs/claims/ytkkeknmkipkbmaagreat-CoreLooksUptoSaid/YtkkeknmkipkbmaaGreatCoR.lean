import Derived.Test.YtkkeknmkipkbmaaGreatCoQ
set_option linter.unusedSectionVars false
set_option linter.unusedSimpArgs false
set_option linter.unusedVariables false
set_option maxRecDepth 10000
namespace Go.Proofs.YtkkeknmkipkbmaaGreat
open Go Go.Sc Go.Proofs
theorem zKF(cb jb:Nat)(t:TimD)(a:StA)(r:RolD)(b:StB)(yv:Value)(qe:Nat)(lv:Value)(es:List EntD)(ob:Nat)(o:OutD)(y:Option (Nat×LdD))(yes:List Int)(m:MsgD)(w:World)(hg:(LG 0 0 es).good)(hl:es.length≤100000)(hvl:b.vs.length≤12)(hcm:1≤((zc b.vs (es.map EntD.toEntA)).vs++(zc b.vs (es.map EntD.toEntA)).ls).length∧((zc b.vs (es.map EntD.toEntA)).vs++(zc b.vs (es.map EntD.toEntA)).ls).length≤12)(htm:(r.qp=3→1≤t.term)∧t.term≤4611686018427387904)(hen:(LG 0 0 es).end_≤t.term)(hn:0≤t.now∧t.now≤1000000000000000)(hh:0≤t.qA∧t.qA≤1000000000000000)(ho:o.qk.length≤1000)(hrd:o.qw.length≤1000)(ha:a.ok)(hd:qe<18446744073709551616)(hm:m.wf)(hro:r.qp=4↔y.isSome=true)(hld:∀ q,y=some q→q.2.bd)(hy:yes.length≤1000)(hk:m.kind≠7∧m.kind≠8)(hlo:o.qt.length=0)(hmt:m.term≤4611686018427387904)(hin:Own w (y1 [z7 cb t (xF y) a r b yv jb qe (pt ob),Res.nl b lv es,Res.lo y,vI yv yes,Res.ou ob o]) [z7 cb t (xF y) a r b yv jb qe (pt ob),Res.nl b lv es,Res.lo y,vI yv yes,Res.ou ob o] w)(rd_m:MsgD.rd m w (y1 [z7 cb t (xF y) a r b yv jb qe (pt ob),Res.nl b lv es,Res.lo y,vI yv yes,Res.ou ob o])):Rets Tryz.prog 48 #[pt cb, .agg (MsgD.cells m).toArray] w fun u_ w'=>∃ (n:NdD) (o':OutD) (x:OutA),u_= .tuple #[]∧(n.a,x)=kI a b.vs qe m.a {t:=t,r:=r,E:=es.map EntD.toEntA,ld:=y.map fun q=>q.2.er,yes:=yes}∧o'.qk.map MsgD.a=o.qk.map MsgD.a++x.ms∧o'.qw=o.qw++x.qw∧o'.qt=x.qt∧Own w (y1 [z7 cb t (xF y) a r b yv jb qe (pt ob),Res.nl b lv es,Res.lo y,vI yv yes,Res.ou ob o]) [z7 cb n.t (xF n.y) a n.r b n.yv jb qe (pt ob),Res.nl b n.lv n.es,Res.lo n.y,vI n.yv n.yes,Res.ou ob o'] w':=by
  by_cases k1:m.kind=1
  · exact zNR cb jb t a r b yv qe lv es ob o y yes m w hg hl hvl hcm htm hen hn hh ho hrd ha hd hm hro hld hy k1 hlo hmt hin rd_m
  exact zO2 cb jb t a r b yv qe lv es ob o y yes m w hg hl hvl hcm htm hen hn hh ho hrd ha hd hm hro hld hy ⟨k1,hk.1,hk.2⟩ hlo hmt hin rd_m
def k8(now:Int)(n:NodA):NodA:={n with t:={n.t with now:=max n.t.now now}}
def zIQ(a:StA)(m:MsgA):Prop:=m.ok∧m.dst=a.id∧m.src≠a.id∧max (max m.term m.index) m.ql≤4611686018427387904
instance (a:StA)(m:MsgA):Decidable (zIQ a m):=inferInstanceAs (Decidable (_∧_))
def zA3(a:StA)(vs0:List Int)(now:Int)(qe:Nat)(m:MsgA)(n:NodA):NodA×OutA:=if zIQ a m then kI a vs0 qe m (k8 now n)else(n,⟨[],[],[]⟩)
theorem zO6{S:List Nat}(cb jb:Nat)(t:TimD)(a:StA)(r:RolD)(b:StB)(yv:Value)(qe:Nat)(lv:Value)(es:List EntD)(y:Option (Nat×LdD))(yes:List Int)(m:MsgD)(now:Int)(dr:Nat)(w:World)(hg:(LG 0 0 es).good)(hl:es.length≤100000)(hvl:b.vs.length≤12)(hcm:1≤((zc b.vs (es.map EntD.toEntA)).vs++(zc b.vs (es.map EntD.toEntA)).ls).length∧((zc b.vs (es.map EntD.toEntA)).vs++(zc b.vs (es.map EntD.toEntA)).ls).length≤12)(hH:HandOk t r y yes (LG 0 0 es).end_)(ha:a.ok)(hnw:0≤now∧now≤1000000000000000)(hm:m.wf)(hd:dr<18446744073709551616)(hk:m.kind≠7∧m.kind≠8)(hin:Own w S [z7 cb t (xF y) a r b yv jb qe (.pointer none),Res.nl b lv es,Res.lo y,vI yv yes] w)(rd_m:MsgD.rd m w S):Rets Tryz.prog 16 #[pt cb, .agg (MsgD.cells m).toArray,Vi now,Vn dr] w fun u_ w'=>∃ (n:NdD) (draw':Nat) (o:OutD) (x:OutA),u_= .agg (OutD.cells o).toArray∧(n.a,x)=zA3 a b.vs now dr m.a {t:=t,r:=r,E:=es.map EntD.toEntA,ld:=y.map fun q=>q.2.er,yes:=yes}∧o.qk.map MsgD.a=x.ms∧o.qw=x.qw∧o.qt=x.qt∧Own w S [z7 cb n.t (xF n.y) a n.r b n.yv jb draw' (.pointer none),Res.nl b n.lv n.es,Res.lo n.y,vI n.yv n.yes,vM o.mv o.qk,sM o.qk,vR o.rv o.qw,vU o.xv o.qt] w':=by
  have hHt:=hH.htm
  have hHn:=hH.hn
  refine zW Tryz.func16 O Tryz.ntmps16 hin ?_
  refine zC (z8 O O (fun b5=>yC (v:= .agg #[.slice none 0 0, .bool false, .slice none 0 0, .slice none 0 0]) qN O (fun b8=>zA (zP (zC (zD O (xf qN O O O (zA (xx O (zQ (zP (zC ?_))))))))))))
  refine yL (cs:=(MsgD.cells m)) 4 O O O (a_call O O (fun w' hw=>(zMl m w' ‹_› (rd_m.at0 hw)).mono ?_))
  rintro _ w1 ⟨r1_,rfl,hO⟩
  refine O7 ?_ (hw.qi hO)
  refine zD O (yA (vs:=[r1_,Vi (yE m.a.ok)]) O O O (yA (vs:=[r1_,Vi (yE m.a.ok)]) O O O (zI O (zI O (zA (yb qN qN (zL O zS (zL O (zLi O O) (zL O zS (zIe (q:=(yE m.a.ok)≠0) 7 2 [28,27,26,25,24,23,22] (m.dst≠a.id) O O O O O O trivial O (fun h4_2=> ?_) (fun g4_10=> ?_)))))))))))
  ·refine ym O (gF h4_2) (zL O (zH (o:=2) O) (ym O (gF h4_2) (zL O (zY 4 (v:=Vi m.dst) O O O) (ym O (gF h4_2) (zL O zS (ym O (gF h4_2) (zL O (zO O) (ym O (gF h4_2) (zL O (zH (o:=10) O) (ym O (gF h4_2) (zL O (zY 0 (v:=Vi a.id) O O O) (ym O (gF h4_2) ?_))))))))))))
   refine zL O (zLi O O) ?_
   exact zEC O
  refine zL O zS (zIe (q:=((yE m.a.ok)≠0)∨(m.dst≠a.id)) 7 11 [37,36,35,34,33,32,31] (m.src=a.id) O O O O O O trivial O (fun h4_11=> ?_) (fun g4_19=> ?_))
  ·refine ym O (gF h4_11) (zL O (zH (o:=1) O) (ym O (gF h4_11) (zL O (zY 4 (v:=Vi m.src) O O O) (ym O (gF h4_11) (zL O zS (ym O (gF h4_11) (zL O (zO O) (ym O (gF h4_11) (zL O (zH (o:=10) O) (ym O (gF h4_11) (zL O (zY 0 (v:=Vi a.id) O O O) (ym O (gF h4_11) ?_))))))))))))
   refine zL O (zCq O O) ?_
   exact zEC O
  refine zL O zS (zIe (q:=(((yE m.a.ok)≠0)∨(m.dst≠a.id))∨(m.src=a.id)) 8 20 [47,46,45,44,43,42,41,40] (((4611686018427387904:Nat):Int)<((max (max m.term m.index) m.ql:Nat):Int)) O O O O O O trivial O (fun h4_20=> ?_) (fun g4_29=> ?_))
  ·refine ym O (gF h4_20) (zL O (zH (o:=3) O) (ym O (gF h4_20) (zL O (zY 4 (v:=Vn m.term) O O O) (ym O (gF h4_20) (zL O (zH (o:=4) O) (ym O (gF h4_20) (zL O (zY 4 (v:=Vn m.index) O O O) (ym O (gF h4_20) (zL O (zH (o:=5) O) (ym O (gF h4_20) (zL O (zY 4 (v:=Vn m.ql) O O O) (ym O (gF h4_20) ?_))))))))))))
   refine zL O (zLQ (c:=((max (max m.term m.index) m.ql:Nat):Int)) O O O (zQe _ _ _)) (ym O (gF h4_20) (zL O (zCe O O) ?_))
   exact zEC O
  refine xi (za O (fun c2=> ?_) (fun c2=> ?_))
  ·have hP:¬ zIQ a m.a:=fun q=>by rcases c2 with((h|h)|h)|h;(exact h (by unfold yE;rw[if_pos q.1]));(exact h q.2.1);(exact q.2.2.1 h);(have h2:max (max m.term m.index) m.ql≤4611686018427387904:=q.2.2.2;omega)
   refine zC (yh (cs:=[.slice none 0 0, .bool false, .slice none 0 0, .slice none 0 0]) (z:=[.slice none 0 0, .bool false, .slice none 0 0, .slice none 0 0]) (pl:=[(0,1),(1,1),(2,1),(3,1)]) qN qN O (zo 5 O O O (xO O) O (zA ?_)))
   exact zU (jp (cs:=[.slice none 0 0, .bool false, .slice none 0 0, .slice none 0 0]) O O qN (Own.qr (i:=5) O) (fun w' hw=>⟨({t:=t,r:=r,lv:=lv,es:=es,y:=y,yv:=yv,yes:=yes}:NdD),qe,outZ,⟨[],[],[]⟩,O,(by unfold zA3;rw[if_neg hP];rfl),O,O,O,(zm (zm (Own.qG (zm hw 59 14)) 53 2) 22 1).sel [0,1,2,3,7,8,9,10] O qM⟩))
  have h4:max (max m.term m.index) m.ql≤4611686018427387904:=by have h5:=fun q=>c2 (.inr q);omega
  have hP:zIQ a m.a:=⟨Decidable.byContradiction fun q=>c2 (.inl (.inl (.inl (by unfold yE;rw[if_neg q];decide)))),Decidable.byContradiction fun q=>c2 (.inl (.inl (.inr q))),fun q=>c2 (.inl (.inr q)),h4⟩
  refine zQ (zC (zD O (zD O (zD O (a_call O O (fun w' hw=>(zAd cb jb t a r b (xF y) yv (.pointer none) qe now dr w' (hw.give [0] O qM)).mono ?_))))))
  rintro _ w1 ⟨ob2_,rfl,hO⟩
  refine O8 ?_ (hw.qh [0] O hO)
  refine zA (zC (zD O (yL (cs:=(MsgD.cells m)) 3 O O O (a_call O O (fun w' hw=>(zKF cb jb ({t with now:=max t.now now}:TimD) a r b yv dr _ _ ob2_ outZ _ yes m w' ‹_› qO qO qS hH.htm hH.hen (by show 0≤max t.now now∧max t.now now≤_;omega) hH.hh (Nat.zero_le _) (Nat.zero_le _) ‹_› hd hm hH.hro hH.hld hH.hy hk O V (hw.give [6,0,1,2,7] O qM) (rd_m.at hw [6,0,1,2,7] O)).mono ?_)))))
  rintro _ w1 ⟨n3_,o'4_,x5_,rfl,hf7_2,hf7_2_1,hf7_2_2,hf7_2_3,hO⟩
  refine O8 ?_ (hw.qh [6,0,1,2,7] O hO)
  refine zA (zC (zD O (a_call O O (fun w' hw=>(kf cb jb n3_.t a n3_.r b (xF n3_.y) n3_.yv dr ob2_ o'4_ w' (hw.give [3,7] O qM)).mono ?_))))
  rintro _ w1 ⟨rfl,hO⟩
  refine O11 ?_ (hw.qh [3,7] O hO)
  refine zN (fun w' hw=>Own.qg (i:=7) O hw) (fun hc1_=> ?_)
  refine zN (fun w' hw=>Own.qg (i:=9) O hw) (fun hc2_=> ?_)
  refine zN (fun w' hw=>Own.qg (i:=10) O hw) (fun hc3_=> ?_)
  refine zo 1 O O O (zF hc1_ (zF O (zF hc2_ (zF hc3_ zh)))) O (zA ?_)
  exact zU (jp (cs:=(OutD.cells o'4_)) O O qN (Own.qr (i:=1) O) (fun w' hw=>⟨n3_,dr,o'4_,x5_,O,(by unfold zA3;rw[if_pos hP];exact hf7_2),(hf7_2_1.trans (List.nil_append _)),(hf7_2_2.trans (List.nil_append _)),hf7_2_3,hw.sel [6,3,4,5,7,8,9,10] O qM⟩))
end Go.Proofs.YtkkeknmkipkbmaaGreat
