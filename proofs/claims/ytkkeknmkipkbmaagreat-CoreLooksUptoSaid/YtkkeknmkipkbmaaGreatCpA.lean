import Derived.Test.YtkkeknmkipkbmaaGreatCoZ
import Derived.Test.YtkkeknmkipkbmaaGreatCfP
set_option linter.unusedSectionVars false
set_option linter.unusedSimpArgs false
set_option linter.unusedVariables false
set_option maxRecDepth 10000
namespace Go.Proofs.YtkkeknmkipkbmaaGreat
open Go Go.Sc Go.Proofs
theorem zJW{S:List Nat}(cb jb:Nat)(t:TimD)(a:StA)(r:RolD)(b:StB)(lead yv out:Value)(qe:Nat)(lv:Value)(es:List EntD)(kind id:Int)(w:World)(hg:(LG 0 0 es).good)(hl:es.length≤1000000)(hvl:b.vs.length≤12)(hcl:(zc b.vs (es.map EntD.toEntA)).vs.length≤11∧(zc b.vs (es.map EntD.toEntA)).ls.length≤11)(hin:Own w S [z7 cb t lead a r b yv jb qe out,Res.nl b lv es] w):Rets Tryz.prog 90 #[pt cb,Vi kind,Vi id] w fun u_ w'=>∃ (fa fw:Value) (F:ConfA) (e:Int),u_= .tuple #[.agg #[fa,fw],Vi e]∧(e=0→(1≤kind∧kind≤3)∧(kind=3→id≠a.id)∧chg kind (zc b.vs (es.map EntD.toEntA)) id=(F,0))∧Own w S [z7 cb t lead a r b yv jb qe out,Res.nl b lv es,vI fa F.vs,vI fw F.ls] w':=by
  refine zW Tryz.func90 O Tryz.ntmps90 hin ?_
  refine zC (yC (v:= .agg #[.slice none 0 0, .slice none 0 0]) qN O (fun b6=>zI O (zA (zC (zD O (a_call O O (fun w' hw=>(xq cb jb t a r b lead yv out qe _ _ w' ‹_› qO qO (hw.give [0,1] O qM)).mono ?_)))))))
  rintro _ w1 ⟨cv1_,cw2_,F3_,rfl,hf1_1,hO⟩
  have hFl:F3_.vs.length≤11∧F3_.ls.length≤11:=by rw[hf1_1];exact hcl
  refine O5 ?_ (hw.qh [0,1] O hO)
  refine yC (v:= .agg #[.slice none 0 0, .slice none 0 0]) qN O (fun b8=> ?_)
  refine zN (fun w' hw=>Own.qg (i:=3) O hw) (fun hc1_=> ?_)
  refine zN (fun w' hw=>Own.qg (i:=4) O hw) (fun hc2_=> ?_)
  refine zo 5 O O O (zF hc1_ (zF hc2_ zh)) O (zA (zP (zC (zD O (zA (zZ (zC (yR O O O (zI O (zA (za O (fun c1=> ?_) (fun c1=> ?_))))))))))))
  ·refine zC (yL (cs:=[cv1_,cw2_]) 5 O O O (zD O (a_call O O (fun w' hw=>(zNY ({vv:=cv1_,vs:=F3_.vs,lv:=cw2_,ls:=F3_.ls}:ConfD) id w' ⟨by show F3_.vs.length≤_;omega,by show F3_.ls.length≤_;omega⟩ hFl ⟨(hw.qq 3 O),(hw.qq 4 O)⟩).mono ?_))))
   rintro _ w1 ⟨a4_,vs5_,b6_,ls7_,e8_,rfl,hf4_2,hO⟩
   refine O8 ?_ (hw.qi hO)
   refine yA (vs:=[.agg #[a4_,b6_],Vi e8_]) O O O (yA (vs:=[.agg #[a4_,b6_],Vi e8_]) O O O ?_)
   refine zN (fun w' hw=>Own.qg (i:=6) O hw) (fun hc3_=> ?_)
   refine zN (fun w' hw=>Own.qg (i:=7) O hw) (fun hc4_=> ?_)
   refine zo 0 O O O (zF hc3_ (zF hc4_ zh)) O (zI O (zA ?_))
   exact zU (xj (cs:=[a4_,b6_]) (v:=Vi e8_) O O O qN (Own.qr (i:=0) O) (fun w' hw=>⟨a4_,b6_,⟨vs5_,ls7_⟩,e8_,O,(fun h=>⟨⟨by omega,by omega⟩,fun q=>by omega,by rw[c1,←hf1_1];exact hf4_2.trans (by rw[h])⟩),hw.sel [1,2,6,7] O qM⟩))
  refine zC (yR O O O (zI O (zA (za O (fun c2=> ?_) (fun c2=> ?_)))))
  ·refine zC (yL (cs:=[cv1_,cw2_]) 5 O O O (zD O (a_call O O (fun w' hw=>(zPT ({vv:=cv1_,vs:=F3_.vs,lv:=cw2_,ls:=F3_.ls}:ConfD) id w' ⟨by show F3_.vs.length≤_;omega,by show F3_.ls.length≤_;omega⟩ hFl ⟨(hw.qq 3 O),(hw.qq 4 O)⟩).mono ?_))))
   rintro _ w1 ⟨a9_,vs10_,b11_,ls12_,e13_,rfl,hf6_2,hO⟩
   refine O8 ?_ (hw.qi hO)
   refine yA (vs:=[.agg #[a9_,b11_],Vi e13_]) O O O (yA (vs:=[.agg #[a9_,b11_],Vi e13_]) O O O ?_)
   refine zN (fun w' hw=>Own.qg (i:=6) O hw) (fun hc5_=> ?_)
   refine zN (fun w' hw=>Own.qg (i:=7) O hw) (fun hc6_=> ?_)
   refine zo 0 O O O (zF hc5_ (zF hc6_ zh)) O (zI O (zA ?_))
   exact zU (xj (cs:=[a9_,b11_]) (v:=Vi e13_) O O O qN (Own.qr (i:=0) O) (fun w' hw=>⟨a9_,b11_,⟨vs10_,ls12_⟩,e13_,O,(fun h=>⟨⟨by omega,by omega⟩,fun q=>by omega,by rw[c2,←hf1_1];exact hf6_2.trans (by rw[h])⟩),hw.sel [1,2,6,7] O qM⟩))
  refine zC (yR O O O (zI O (zA (za O (fun c3=> ?_) (fun c3=> ?_)))))
  ·refine zC (zD O (zD O (zb O O (zK (o:=10) O O (zM 1 (v:=Vi a.id) O O O O (xn O O O (zA (za O (fun c4=> ?_) (fun c4=> ?_)))))))))
   ·refine zC (yL (cs:=[cv1_,cw2_]) 5 O O O (zD O (a_call O O (fun w' hw=>(zNH ({vv:=cv1_,vs:=F3_.vs,lv:=cw2_,ls:=F3_.ls}:ConfD) id w' ⟨by show F3_.vs.length≤_;omega,by show F3_.ls.length≤_;omega⟩ ⟨(hw.qq 3 O),(hw.qq 4 O)⟩).mono ?_))))
    rintro _ w1 ⟨a14_,vs15_,b16_,ls17_,e18_,rfl,hf9_2,hO⟩
    refine O8 ?_ (hw.qi hO)
    refine yA (vs:=[.agg #[a14_,b16_],Vi e18_]) O O O (yA (vs:=[.agg #[a14_,b16_],Vi e18_]) O O O ?_)
    refine zN (fun w' hw=>Own.qg (i:=6) O hw) (fun hc7_=> ?_)
    refine zN (fun w' hw=>Own.qg (i:=7) O hw) (fun hc8_=> ?_)
    refine zo 0 O O O (zF hc7_ (zF hc8_ zh)) O (zI O (zA ?_))
    exact zU (xj (cs:=[a14_,b16_]) (v:=Vi e18_) O O O qN (Own.qr (i:=0) O) (fun w' hw=>⟨a14_,b16_,⟨vs15_,ls17_⟩,e18_,O,(fun h=>⟨⟨by omega,by omega⟩,fun _=>c4,by rw[c3,←hf1_1];exact hf9_2.trans (by rw[h])⟩),hw.sel [1,2,6,7] O qM⟩))
   refine zQ (zC (yh (cs:=[.slice none 0 0, .slice none 0 0]) (z:=[.slice none 0 0, .slice none 0 0]) (pl:=[(0,1),(1,1)]) qN qN O (zo 0 O O O (xO O) O (zI O (zA ?_)))))
   exact zU (xj (cs:=[.slice none 0 0, .slice none 0 0]) (v:=Vi 1) O O O qN (Own.qr (i:=0) O) (fun w' hw=>⟨.slice none 0 0, .slice none 0 0,⟨[],[]⟩,1,O,(fun h=>absurd h qM),((zm (zm hw 3 1) 3 1).sel [1,2,6,7] O qM)⟩))
  refine zQ (zC (yh (cs:=[.slice none 0 0, .slice none 0 0]) (z:=[.slice none 0 0, .slice none 0 0]) (pl:=[(0,1),(1,1)]) qN qN O (zo 0 O O O (xO O) O (zI O (zA ?_)))))
  exact zU (xj (cs:=[.slice none 0 0, .slice none 0 0]) (v:=Vi 1) O O O qN (Own.qr (i:=0) O) (fun w' hw=>⟨.slice none 0 0, .slice none 0 0,⟨[],[]⟩,1,O,(fun h=>absurd h qM),((zm (zm hw 3 1) 3 1).sel [1,2,6,7] O qM)⟩))
def kM(a:StA)(F:ConfA)(id:Int)(last:Nat)(ps:List PeerP):List PeerP:=
  if((F.ok∧(id∈F.vs∨id∈F.ls))∧id≠a.id)∧ya (ps.filter (yl F)) id=none then ps.filter (yl F)++[(0,xX last id)]else ps.filter (yl F)
def zAi(a:StA)(vs0:List Int)(kind id now:Int)(n0 n:NodA)(x:OutA):Prop:=
  (n,x)=(k8 now n0,⟨[],[],[]⟩)∨∃ l F P,n0.ld=some l∧(y9 vs0 n0.E n0.E.length).2≤n0.r.qc∧(LogA.mk 0 0 n0.E).fits n0.r.qc n0.t.term∧(1≤kind∧kind≤3)∧(kind=3→id≠a.id)∧chg kind (zc vs0 n0.E) id=(F,0)∧F.ok∧P.Perm (kM a F id (n0.E.length+1) l.qa)∧
    (n,x)=zFu a vs0 (zNd n0.E.length (k8 now n0).t 3 F.enc) (k8 now n0) {l with qa:=P}
theorem PeerIs.nil{ps:List PeerP}{id:Int}{pv:Option Addr}(h:PeerIs ps id pv):Value.bool pv.isNone=Value.bool (decide (ya ps id=Option.none)):=by
  rcases h with⟨rfl,h⟩|⟨k,_,rfl,_,h⟩
  · rw[decide_eq_true h];rfl
  rw[decide_eq_false (by rw[h];exact fun q=>by cases q)];rfl
theorem zIV{F:ConfA}{ps:List PeerP}:(er ps).filter (yl F)=er (ps.filter (yl F)):=by unfold er;rw[List.filter_map];rfl
theorem zCT{a:StA}{F:ConfA}{id:Int}{last pb:Nat}{ps:List PeerP}(h:((F.ok∧(id∈F.vs∨id∈F.ls))∧id≠a.id)∧ya (ps.filter (yl F)) id=none):er (ps.filter (yl F)++[(pb,xX last id)])=kM a F id last (er ps):=by
  unfold kM
  rw[zIV,peerIx_er,if_pos h]
  unfold er
  rw[List.map_append];rfl
theorem zKy{a:StA}{F:ConfA}{id:Int}{last:Nat}{ps:List PeerP}(h:¬(((F.ok∧(id∈F.vs∨id∈F.ls))∧id≠a.id)∧ya (ps.filter (yl F)) id=none)):er (ps.filter (yl F))=kM a F id last (er ps):=by
  unfold kM
  rw[zIV,peerIx_er,if_neg h]
theorem zB8{a:StA}{F:ConfA}{id:Int}{last:Nat}{ps:List PeerP}:∀ p∈kM a F id last ps,p∈ps∨p=(0,xX last id):=by
  intro p hp
  unfold kM at hp
  split at hp
  · rcases List.mem_append.1 hp with h|h
    · exact .inl (List.mem_filter.1 h).1
    exact .inr (List.mem_singleton.1 h)
  exact .inl (List.mem_filter.1 hp).1
theorem zES{a:StA}{F:ConfA}{id:Int}{last:Nat}{ps:List PeerP}:(kM a F id last ps).length≤ps.length+1:=by
  unfold kM
  have h:=List.length_filter_le (yl F) ps
  split
  · rw[List.length_append];simp only[List.length_cons,List.length_nil];omega
  omega
theorem zMv{a:StA}{F:ConfA}{id:Int}{last:Nat}{ps P:List PeerP}(hp:(er P).Perm (kM a F id last (er ps)))(h:∀ p∈ps,p.2.bd 1000000)(hl:last≤900000):∀ p∈P,p.2.bd 1000000:=by
  intro p q
  have h1:((0,p.2):PeerP)∈er P:=List.mem_map_of_mem (f:=fun q:PeerP=>((0:Nat),q.2)) q
  rcases zB8 _ (hp.mem_iff.1 h1)with h2|h2
  · obtain⟨r,hr,e⟩:=List.mem_map.1 h2
    have:r.2=p.2:=(Prod.mk.inj e).2
    rw[←this];exact h r hr
  have:p.2=xX last id:=(Prod.ext_iff.1 h2).2
  rw[this]
  exact⟨⟨Nat.succ_pos _,by show last+1≤_;omega⟩,Nat.zero_le _,⟨Int.le_refl 0,by show(0:Int)≤4;omega⟩⟩
theorem zLS{S:List Nat}(cb jb:Nat)(t:TimD)(a:StA)(r:RolD)(b:StB)(yv:Value)(qe:Nat)(lv:Value)(es:List EntD)(y:Option (Nat×LdD))(yes:List Int)(kind id:Int)(now:Int)(w:World)(hg:(LG 0 0 es).good)(hl:es.length≤100000)(hvl:b.vs.length≤12)(hcm:1≤((zc b.vs (es.map EntD.toEntA)).vs++(zc b.vs (es.map EntD.toEntA)).ls).length∧((zc b.vs (es.map EntD.toEntA)).vs++(zc b.vs (es.map EntD.toEntA)).ls).length≤12)(hH:HandOk t r y yes (LG 0 0 es).end_)(ha:a.ok)(hnw:0≤now∧now≤1000000000000000)(hcl:r.qc≤es.length)(hst:0≤t.qC∧t.qC≤t.now)(htm1:r.qp=4→1≤t.term)(hcv:(zc b.vs (es.map EntD.toEntA)).vs.length≤11∧(zc b.vs (es.map EntD.toEntA)).ls.length≤11)(hpl:∀ q,y=some q→q.2.qa.length≤11)(hin:Own w S [z7 cb t (xF y) a r b yv jb qe (.pointer none),Res.nl b lv es,Res.lo y,vI yv yes] w):Rets Tryz.prog 52 #[pt cb,Vi kind,Vi id,Vi now] w fun u_ w'=>∃ (n:NdD) (o:OutD) (x:OutA) (at_:Nat) (e:Int),u_= .tuple #[Vn at_, .agg (OutD.cells o).toArray,Vi e]∧zAi a b.vs kind id now {t:=t,r:=r,E:=es.map EntD.toEntA,ld:=y.map fun q=>q.2.er,yes:=yes} n.a x∧o.qk.map MsgD.a=x.ms∧o.qw=x.qw∧o.qt=x.qt∧Own w S [z7 cb n.t (xF n.y) a n.r b n.yv jb qe (.pointer none),Res.nl b n.lv n.es,Res.lo n.y,vI n.yv n.yes,vM o.mv o.qk,sM o.qk,vR o.rv o.qw,vU o.xv o.qt] w':=by
  have hHt:=hH.htm
  have hHn:=hH.hn
  have hlb:=(LG.le hg).1
  refine zW Tryz.func52 O Tryz.ntmps52 hin ?_
  refine zC (zI O (yC (v:= .agg #[.slice none 0 0, .bool false, .slice none 0 0, .slice none 0 0]) qN O (fun b9=>zI O (zA (zP (zC (zD O (xf qN O O O (zA (xx O (zQ (zC ?_))))))))))))
  refine zD O (zD O (zD O (zb O O (zK (o:=32) O O (zM 0 (v:=Vn qe) O O O O (a_call O O (fun w' hw=>(zAd cb jb t a r b (xF y) yv (.pointer none) qe now qe w' (hw.give [0] O qM)).mono ?_)))))))
  rintro _ w1 ⟨ob1_,rfl,hO⟩
  refine O6 ?_ (hw.qh [0] O hO)
  refine zA (zC (zD O (zb O O (zK (o:=29) O O (zM 4 (v:=pt b.lb) O O O O (a_call O O (fun w' hw=>(kV b.lb 0 0 lv es w' qP qO (hw.qF 0 0 O O) (hw.qH 0 1 O O) (EntD.rd.qF 0 2 O O hw)).mono ?_)))))))
  rintro _ w1 ⟨rfl,hO⟩
  refine O6 ?_ (hw.qi hO)
  refine zD O (yA (vs:=[Vn (0+es.length),Vn ((LG 0 0 es).end_)]) O O O (yA (vs:=[Vn (0+es.length),Vn ((LG 0 0 es).end_)]) O O O (zI O (zI O (zA (zP (zZ (zC (zD O (zb O O (zK (o:=21) O O (zM 4 (v:=Vi r.qp) O O O O ?_))))))))))))
  refine xn O O O (zI O (zA (za O (fun c2=> ?_) (fun c2=> ?_))))
  ·refine zC (zD O (a_call O O (fun w' hw=>(kf cb jb ({t with now:=max t.now now}:TimD) a r b (xF y) yv qe ob1_ outZ w' (hw.give [4,5] O qM)).mono ?_)))
   rintro _ w1 ⟨rfl,hO⟩
   refine O9 ?_ (hw.qh [4,5] O hO)
   refine zI O (zo 3 O O O (xO O) O (zI O (zA ?_)))
   exact zU (zCY (cs:=(OutD.cells outZ)) (v0:=Vn 0) (v2:=Vi 14) O O O O qN (Own.qr (i:=3) O) (fun w' hw=>⟨({t:=({t with now:=max t.now now}:TimD),r:=r,lv:=lv,es:=es,y:=y,yv:=yv,yes:=yes}:NdD),outZ,⟨[],[],[]⟩,0,14,O, .inl O,O,O,O,hw.sel [4,0,1,2,5,6,7,8] O qM⟩))
  have hr4:=Decidable.not_not.1 c2
  obtain⟨⟨ld,l⟩,rfl⟩:=Option.isSome_iff_exists.1 (hH.hro.1 hr4)
  have hb:l.bd:=hH.hld _ rfl
  have hpl2:l.qa.length≤11:=hpl _ rfl
  refine zC (zD O (a_call O O (fun w' hw=>(zHO cb jb ({t with now:=max t.now now}:TimD) a r b (pt ld) yv (pt ob1_) qe _ _ w' ‹_› qO qO (hw.give [4,0] O qM)).mono ?_)))
  rintro _ w1 ⟨rfl,hO⟩
  refine O6 ?_ (hw.qh [4,0] O hO)
  refine xB (q:=(y9 b.vs (es.map EntD.toEntA) es.length).2≤r.qc) O O (zD O (yj (q:=¬((y9 b.vs (es.map EntD.toEntA) es.length).2≤r.qc)) 3 3 [51,50,49] (¬((LG 0 0 es).fits r.qc ({t with now:=max t.now now}:TimD).term)) O O O O O O trivial O (fun h7_3=> ?_) (fun g7_7=> ?_)))
  ·refine zR O (gF h7_3) (zD O (zR O (gF h7_3) (a_call O O (fun w' hw=>(zIt cb jb ({t with now:=max t.now now}:TimD) a r b (pt ld) yv (pt ob1_) qe _ _ w' ‹_› qO qO qO (hw.give [4,5] O qM)).mono ?_))))
   rintro _ w1 ⟨rfl,hO⟩
   refine O6 ?_ (hw.qh [4,5] O hO)
   refine zR O (gF h7_3) (xB (q:=(LG 0 0 es).fits r.qc ({t with now:=max t.now now}:TimD).term) O O ?_)
   exact yN O (fun _ hw=>hw)
  refine zD O (yj (q:=(¬((y9 b.vs (es.map EntD.toEntA) es.length).2≤r.qc))∨(¬((LG 0 0 es).fits r.qc ({t with now:=max t.now now}:TimD).term))) 8 8 [61,60,59,58,57,56,55,54] (l.give≠0) O O O O O O trivial O (fun h7_8=> ?_) (fun g7_17=> ?_))
  ·refine zR O (gF h7_8) (zD O (zR O (gF h7_8) (zb O O (zR O (gF h7_8) (zK (o:=9) O O (zR O (gF h7_8) (zM 4 (v:=pt ld) O O O O (zR O (gF h7_8) (zb O O (zR O (gF h7_8) (zK (o:=5) O O (zR O (gF h7_8) ?_))))))))))))
   refine z6 (v:=Vi l.give) 0 0 5 O O O O qN O (zR O (gF h7_8) (xn O O O ?_))
   exact yN O (fun _ hw=>hw)
  refine zD O (yj (q:=((¬((y9 b.vs (es.map EntD.toEntA) es.length).2≤r.qc))∨(¬((LG 0 0 es).fits r.qc ({t with now:=max t.now now}:TimD).term)))∨(l.give≠0)) 2 18 [65,64] (((4611686018427387904:Nat):Int)≤((0+es.length:Nat):Int)) O O O O O O trivial O (fun h7_18=> ?_) (fun g7_21=> ?_))
  ·refine zR O (gF h7_18) (zD O (zR O (gF h7_18) (kK O O O ?_)))
   exact yN O (fun _ hw=>hw)
  refine zI O (zA (za O (fun c3=> ?_) (fun c3=> ?_)))
  ·refine zC (zD O (a_call O O (fun w' hw=>(kf cb jb ({t with now:=max t.now now}:TimD) a r b (pt ld) yv qe ob1_ outZ w' (hw.give [4,3] O qM)).mono ?_)))
   rintro _ w1 ⟨rfl,hO⟩
   refine O9 ?_ (hw.qh [4,3] O hO)
   refine zI O (zo 2 O O O (xO O) O (zI O (zA ?_)))
   exact zU (zCY (cs:=(OutD.cells outZ)) (v0:=Vn 0) (v2:=Vi 15) O O O O qN (Own.qr (i:=2) O) (fun w' hw=>⟨({t:=({t with now:=max t.now now}:TimD),r:=r,lv:=lv,es:=es,y:=some (ld,l),yv:=yv,yes:=yes}:NdD),outZ,⟨[],[],[]⟩,0,15,O, .inl O,O,O,O,hw.sel [4,3,0,1,5,6,7,8] O qM⟩))
  have hcs:(y9 b.vs (es.map EntD.toEntA) (es.map EntD.toEntA).length).2≤r.qc:=by rw[List.length_map];exact Decidable.byContradiction fun q=>c3 (.inl (.inl (.inl q)))
  have hfi:(LG 0 0 es).fits r.qc t.term:=Decidable.byContradiction fun q=>c3 (.inl (.inl (.inr q)))
  refine zQ (zC (zD O (zD O (zD O (a_call O O (fun w' hw=>(zJW cb jb ({t with now:=max t.now now}:TimD) a r b (pt ld) yv (pt ob1_) qe _ _ kind id w' ‹_› qO qO hcv (hw.give [4,5] O qM)).mono ?_))))))
  rintro _ w1 ⟨fa2_,fw3_,F4_,e5_,rfl,hf9_3,hO⟩
  refine O8 ?_ (hw.qh [4,5] O hO)
  refine zD O (yA (vs:=[.agg #[fa2_,fw3_],Vi e5_]) O O O (yA (vs:=[.agg #[fa2_,fw3_],Vi e5_]) O O O (yC (v:= .agg #[.slice none 0 0, .slice none 0 0]) qN O (fun b13=> ?_))))
  refine zN (fun w' hw=>Own.qg (i:=6) O hw) (fun hc1_=> ?_)
  refine zN (fun w' hw=>Own.qg (i:=7) O hw) (fun hc2_=> ?_)
  refine zo 8 O O O (zF hc1_ (zF hc2_ zh)) O (zI O (zA (zP (zC (zD O (xn O O O (zA (za O (fun c4=> ?_) (fun c4=> ?_)))))))))
  ·refine zC (zD O (a_call O O (fun w' hw=>(kf cb jb ({t with now:=max t.now now}:TimD) a r b (pt ld) yv qe ob1_ outZ w' (hw.give [4,3] O qM)).mono ?_)))
   rintro _ w1 ⟨rfl,hO⟩
   refine O12 ?_ (hw.qh [4,3] O hO)
   refine zD O (zI O (zo 2 O O O (xO O) O (zI O (zA ?_))))
   exact zU (zCY (cs:=(OutD.cells outZ)) (v0:=Vn 0) (v2:=Vi e5_) O O O O qN (Own.qr (i:=2) O) (fun w' hw=>⟨({t:=({t with now:=max t.now now}:TimD),r:=r,lv:=lv,es:=es,y:=some (ld,l),yv:=yv,yes:=yes}:NdD),outZ,⟨[],[],[]⟩,0,e5_,O, .inl O,O,O,O,hw.sel [7,3,0,1,8,9,10,11] O qM⟩))
  have he0:e5_=0:=by omega
  have hq3:=hf9_3 he0
  have hkd:=hq3.1
  have hid3:=hq3.2.1
  have hch:=hq3.2.2
  have hFo:=(zFR hch).1
  have hFl:=zMi hch
  have hF16:=Rises.few' hFo.1.1.1
  have hL16:=Rises.few' hFo.1.1.2
  refine zQ (zC (yL (cs:=[fa2_,fw3_]) 8 O O O (a_call O O (fun w' hw=>(zEP ({vv:=fa2_,vs:=F4_.vs,lv:=fw3_,ls:=F4_.ls}:ConfD) w' ⟨by show F4_.vs.length≤_;omega,by show F4_.ls.length≤_;omega⟩ ⟨(hw.qq 6 O),(hw.qq 7 O)⟩).mono ?_))))
  rintro _ w1 ⟨r6_,rfl,hO⟩
  refine O10 ?_ (hw.qi hO)
  refine zD O (yA (vs:=[r6_,Vi (yE ({vv:=fa2_,vs:=F4_.vs,lv:=fw3_,ls:=F4_.ls}:ConfD).ok)]) O O O (yA (vs:=[r6_,Vi (yE ({vv:=fa2_,vs:=F4_.vs,lv:=fw3_,ls:=F4_.ls}:ConfD).ok)]) O O O (zI O (zI O (zA (j9 (fun(lv':Value) (es':List EntD)=>[(0,pt cb),(2,Vi id),(9,pt b9),(13,pt b13),(17,Vn (es.length+1))]) (fun(lv':Value) (es':List EntD)=>(LG 0 0 es').good∧es'.map EntD.toEntA=es.map EntD.toEntA++[zNd es.length {t with now:=max t.now now} 3 F4_.enc]) (fun(lv':Value) (es':List EntD)=>[vI yv yes,Res.row b9 44 [.slice none 0 0, .bool false, .slice none 0 0, .slice none 0 0],z7 cb ({t with now:=max t.now now,qC:=max t.now now}:TimD) (pt ld) a r b yv jb qe (pt ob1_),Res.nl b lv' es',Res.ou ob1_ outZ,Res.row b13 35 [fa2_,fw3_],vI fa2_ F4_.vs,vI fw3_ F4_.ls,yP ld l,vP l.pv l.qa,sP l.qa,vI l.av l.qf,vT l.rv l.qd,vL l.kv l.qj]) ?_ (fun lv' es' g hΦ=> ?_)))))))
  ·refine zV (zD O (zD O (a_call O O (fun w' hw=>(zHz cb jb ({t with now:=max t.now now}:TimD) a r b (pt ld) yv (pt ob1_) qe _ _ 3 r6_ (if({vv:=fa2_,vs:=F4_.vs,lv:=fw3_,ls:=F4_.ls}:ConfD).ok then({vv:=fa2_,vs:=F4_.vs,lv:=fw3_,ls:=F4_.ls}:ConfD).enc else []) w' ‹_› qO qO (by show 0≤max t.now now∧max t.now now≤_;omega) qP (by rw[if_pos (show(({vv:=fa2_,vs:=F4_.vs,lv:=fw3_,ls:=F4_.ls}:ConfD)).ok from hFo)];have:=zFZ hFo;exact Nat.le_trans this qM) qP (hw.give [4,5] O qM) (hw.rdVec 9 O [4,5] O O)).mono ?_))))
   rintro _ w1 ⟨lv'7_,es'8_,rfl,hf13_2,hO⟩
   have hap:=hf13_2
   rw[if_pos (show(({vv:=fa2_,vs:=F4_.vs,lv:=fw3_,ls:=F4_.ls}:ConfD)).ok from hFo)]at hap
   refine O10 ?_ (hw.qh [4,5] O hO)
   refine zI O ?_
   exact zg (fun w' hw=>⟨lv'7_,es'8_,⟨O,O,O,O,O,trivial⟩,zG1 hg (zFb (t:={t with now:=max t.now now}) (n:=es.length) (data:=F4_.enc) (kind:=3) V ⟨htm1 hr4,hHt.2⟩ (zFZ hFo) ⟨hst.1,by show t.qC≤max t.now now;omega⟩ (by rw[if_neg qM,if_pos rfl,zC1 hFo];rfl)) O hH.hen hap,((hw.qn 0 O).sel [0,1,7,8,2,5,3,4,9,10,11,12,13,14] O qM)⟩)
  have hg2:=hΦ.1
  have hbp:=hb.qa
  have hfl:=List.length_filter_le (yl F4_) l.qa
  have hE2:=hΦ.2
  have hl2:es'.length=es.length+1:=by have h:=congrArg List.length hE2;rw[List.length_map,List.length_append,List.length_map]at h;exact h
  have hcf:zc b.vs (es'.map EntD.toEntA)=F4_:=by rw[hE2];exact zCF rfl (by rw[List.length_map];rfl) (zC1 hFo)
  refine yt (fun(pv1:Value)=>[(0,pt cb),(2,Vi id),(9,pt b9),(13,pt b13),(17,Vn (es.length+1))]) (fun(pv1:Value)=>True) (fun(pv1:Value)=>[vI yv yes,Res.row b9 44 [.slice none 0 0, .bool false, .slice none 0 0, .slice none 0 0],z7 cb ({t with now:=max t.now now,qC:=max t.now now}:TimD) (pt ld) a r b yv jb qe (pt ob1_),Res.nl b lv' es',Res.ou ob1_ outZ,Res.row b13 35 [fa2_,fw3_],vI fa2_ F4_.vs,vI fw3_ F4_.ls,Res.ld ld ({l with pv:=pv1,qa:=l.qa.filter (yl F4_)}:LdD)]) ?_ (fun pv1 g hΦ=> ?_)
  ·refine ze [0,1,2,3,4,5,6,7,11,12,13] O qM qN (fun w' hw hS=>zB 0 O zS hS (zB 1 O (zO O) hS (zB 2 O (zH (o:=9) O) hS (zB 3 O (zY 2 (v:=pt ld) O O O) hS (zB 4 O zS hS (zB 5 O (zO O) hS (zB 6 O (zH (o:=9) O) hS (zB 7 O (zY 2 (v:=pt ld) O O O) hS (zB 8 O (zO O) hS (zB 9 O (zH (o:=0) O) hS (zB 11 O (zRD (va:=[]) (vb:=[pt b13]) O O) hS (zJ 10 O hw ?_))))))))))))
   refine zM 8 (v:=l.pv) O O O O (zE [0,1,2,3,4,5,6,7,11,12,13] O qM (fun w' hw hS=>zJ 12 O hw (a_call O O (fun w' hw=>(zHv l.pv l.qa b13 fa2_ fw3_ F4_ w' ⟨by omega,by omega⟩ hb.qa (hw.give [9,10,5,6,7] O qM)).mono ?_))))
   rintro r9_ w1 ⟨_,rfl,hO⟩
   refine O14 ?_ (hw.qh [9,10,5,6,7] O hO)
   refine zE [0,1,2,3,4,11,12,13,6,7,8] O qM (fun w' hw hS=>zB 13 O (zO O) hS (zB 14 O (zH (o:=0) O) hS (zJ 15 O hw ?_)))
   refine zN (fun w' hw=>Own.qg (i:=9) O hw) (fun hc4_=> ?_)
   refine zn (cs:=(LdD.cells l)) 5 O O O hc4_ O (zE [0,1,2,3,4,11,12,13,6,7,8] O qM (fun w' hw hS=>zT ?_))
   exact⟨r9_,⟨O,O,O,O,O,trivial⟩,trivial,(hw.qo [5,9,10,6,7,8] O qM)⟩
  refine j9 (fun(pv':Value) (P:List PeerP)=>[(0,pt cb),(9,pt b9),(17,Vn (es.length+1))]) (fun(pv':Value) (P:List PeerP)=>(er P).Perm (kM a F4_ id (es.length+1) (er l.qa))) (fun(pv':Value) (P:List PeerP)=>[vI yv yes,Res.row b9 44 [.slice none 0 0, .bool false, .slice none 0 0, .slice none 0 0],z7 cb ({t with now:=max t.now now,qC:=max t.now now}:TimD) (pt ld) a r b yv jb qe (pt ob1_),Res.nl b lv' es',Res.ou ob1_ outZ,Res.ld ld ({l with pv:=pv',qa:=P}:LdD)]) ?_ (fun pv' P g hΦ=> ?_)
  ·refine zC (yL (cs:=[fa2_,fw3_]) 5 O O O (zD O (a_call O O (fun w' hw=>(zBw ({vv:=fa2_,vs:=F4_.vs,lv:=fw3_,ls:=F4_.ls}:ConfD) id w' ⟨by show F4_.vs.length≤_;omega,by show F4_.ls.length≤_;omega⟩ ⟨(hw.qq 6 O),(hw.qq 7 O)⟩).mono ?_))))
   rintro _ w1 ⟨rfl,hO⟩
   refine O9 ?_ (hw.qi hO)
   refine zD O (yJ (q:=({vv:=fa2_,vs:=F4_.vs,lv:=fw3_,ls:=F4_.ls}:ConfD).ok∧(id∈({vv:=fa2_,vs:=F4_.vs,lv:=fw3_,ls:=F4_.ls}:ConfD).vs∨id∈({vv:=fa2_,vs:=F4_.vs,lv:=fw3_,ls:=F4_.ls}:ConfD).ls)) 6 3 [113,112,111,110,109,108] (id≠a.id) O O O O O O trivial O (fun h15_3=> ?_) (fun g15_10=> ?_))
   ·refine zR O (gT h15_3) (zD O (zR O (gT h15_3) (zD O (zR O (gT h15_3) (zb O O (zR O (gT h15_3) (zK (o:=10) O O (zR O (gT h15_3) (zM 2 (v:=Vi a.id) O O O O (zR O (gT h15_3) (xn O O O ?_)))))))))))
    exact yN O (fun _ hw=>hw)
   refine zD O (yJ (q:=(({vv:=fa2_,vs:=F4_.vs,lv:=fw3_,ls:=F4_.ls}:ConfD).ok∧(id∈({vv:=fa2_,vs:=F4_.vs,lv:=fw3_,ls:=F4_.ls}:ConfD).vs∨id∈({vv:=fa2_,vs:=F4_.vs,lv:=fw3_,ls:=F4_.ls}:ConfD).ls))∧(id≠a.id)) 4 11 [119,118,117,116] (ya (l.qa.filter (yl F4_)) id=none) O O O O O O trivial O (fun h15_11=> ?_) (fun g15_16=> ?_))
   ·refine zR O (gT h15_11) (zD O (zR O (gT h15_11) (zD O (zR O (gT h15_11) (a_call O O (fun w' hw=>(zDj cb jb ({t with now:=max t.now now,qC:=max t.now now}:TimD) a r b yv (pt ob1_) qe ld ({l with pv:=pv1,qa:=l.qa.filter (yl F4_)}:LdD) id w' qP (hw.give [2,8] O qM)).mono ?_))))))
    rintro _ w1 ⟨pv10_,rfl,hf15_14,hO⟩
    refine O9 ?_ (hw.qh [2,8] O hO)
    refine zR O (gT h15_11) (xf qN O O O ?_)
    exact yN (PeerIs.nil hf15_14) (fun _ hw=>hw.sel [0,1,7,2,3,4,5,6,8] O qM)
   refine zA (za O (fun c5=> ?_) (fun c5=> ?_))
   ·refine j9 (fun(pv':Value) (P:List PeerP)=>[(0,pt cb),(9,pt b9),(17,Vn (es.length+1))]) (fun(pv':Value) (P:List PeerP)=>er P=kM a F4_ id (es.length+1) (er l.qa)) (fun(pv':Value) (P:List PeerP)=>[vI yv yes,Res.row b9 44 [.slice none 0 0, .bool false, .slice none 0 0, .slice none 0 0],z7 cb ({t with now:=max t.now now,qC:=max t.now now}:TimD) (pt ld) a r b yv jb qe (pt ob1_),Res.nl b lv' es',Res.ou ob1_ outZ,yP ld ({l with pv:=pv',qa:=P}:LdD),vP pv' P,sP P,vI l.av l.qf,vT l.rv l.qd,vL l.kv l.qj]) ?_ (fun pv' P g hΦ=> ?_)
    ·refine ze [0,1,2,3,4,5,6,7] O qM qN (fun w' hw hS=>zB 0 O zS hS (zB 1 O (zO O) hS (zB 2 O (zH (o:=9) O) hS (zB 3 O (zY 2 (v:=pt ld) O O O) hS (zB 4 O zS hS (zB 5 O (zO O) hS (zB 6 O (zH (o:=9) O) hS (zB 7 O (zY 2 (v:=pt ld) O O O) hS (zB 8 O (zO O) hS (zB 9 O (zH (o:=0) O) hS (zB 11 O zS hS (zB 12 O zS hS ?_))))))))))))
     refine zq 10 13 ?_ ?_
     ·refine zl 10 O hw (z6 (v:=pv1) 8 0 0 O O O O qN O (zE [0,1,2,3,4,5,6,7] O qM (fun w' hw hS=>zJ 13 O hw (a_call O O (fun w' hw=>(zAh cb jb ({t with now:=max t.now now,qC:=max t.now now}:TimD) a r b (pt ld) yv (pt ob1_) qe lv' es' id w' ‹_› qO qO (hw.give [2,3] O qM)).mono ?_)))))
      rintro _ w1 ⟨pb11_,rfl,hO⟩
      refine O10 ?_ (hw.qh [2,3] O hO)
      refine zE [0,1,7,8,2,3,4,5] O qM (fun w' hw hS=>zJ 14 O hw (zx (e:=160) (sz:=1) (vs:=[pt pb11_]) qN O O wj qM O (fun b135=>zE [0,1,7,8,2,3,4,5] O qM (fun w' hw hS=>zJ 15 O hw ?_))))
      refine z4 [vI yv yes,Res.row b9 44 [.slice none 0 0, .bool false, .slice none 0 0, .slice none 0 0],Res.ou ob1_ outZ,Res.row b13 35 [fa2_,fw3_],vI fa2_ F4_.vs,vI fw3_ F4_.ls,z7 cb ({t with now:=max t.now now,qC:=max t.now now}:TimD) (pt ld) a r b yv jb qe (pt ob1_),Res.nl b lv' es',kF pb11_ (xX es'.length id),vP (.slice (some ⟨b135,0,none⟩) 1 1) [(pb11_,(xX es'.length id))],yP ld ({l with pv:=pv1,qa:=l.qa.filter (yl F4_)}:LdD),vP pv1 (l.qa.filter (yl F4_)),sP (l.qa.filter (yl F4_)),vI l.av l.qf,vT l.rv l.qd,vL l.kv l.qj] (fun w' hw=>hw.qn 6 O) ?_
      refine zy (g:=PeerP.cells) (sz:=1) (by':=8) (fun _=>O) (l:=l.qa.filter (yl F4_)) (l':=[(pb11_,(xX es'.length id))]) wk 11 qN O O O (fun w' hw'=>Vec.sl (Own.holds hw' 9 _ O)) qO qM O (fun v136=>zE [0,1,6,7,2,3,4,5] O qM (fun w' hw hS=>zB 16 O (zO O) hS (zB 17 O (zH (o:=0) O) hS (zJ 18 O hw ?_))))
      refine zN (fun w' hw=>Own.qg (i:=11) O hw) (fun hc5_=> ?_)
      refine zn 10 O O O hc5_ O (zE [0,1,6,7,2,3,4,5] O qM (fun w' hw hS=>zT ?_))
      exact⟨v136,(l.qa.filter (yl F4_))++[(pb11_,xX es'.length id)],⟨O,O,O,trivial⟩,(by rw[hl2];exact zCT c5),((hw.qJ (x:=(pb11_,xX es'.length id)) 12 8 qM O O).sel [0,1,6,7,2,9,10,11,12,13,14] O qM)⟩
     refine zl 13 O hw (a_call O O (fun w' hw=>(zAh cb jb ({t with now:=max t.now now,qC:=max t.now now}:TimD) a r b (pt ld) yv (pt ob1_) qe lv' es' id w' ‹_› qO qO (hw.give [2,3] O qM)).mono ?_))
     rintro _ w1 ⟨pb12_,rfl,hO⟩
     refine O10 ?_ (hw.qh [2,3] O hO)
     refine zE [0,1,7,8,2,3,4,5] O qM (fun w' hw hS=>zq 10 14 ?_ ?_)
     ·refine zl 10 O hw (z6 (v:=pv1) 6 0 0 O O O O qN O (zE [0,1,7,8,2,3,4,5] O qM (fun w' hw hS=>zJ 14 O hw (zx (e:=160) (sz:=1) (vs:=[pt pb12_]) qN O O wj qM O (fun b135=>zE [0,1,7,8,2,3,4,5] O qM (fun w' hw hS=>zJ 15 O hw ?_))))))
      refine z4 [vI yv yes,Res.row b9 44 [.slice none 0 0, .bool false, .slice none 0 0, .slice none 0 0],Res.ou ob1_ outZ,Res.row b13 35 [fa2_,fw3_],vI fa2_ F4_.vs,vI fw3_ F4_.ls,z7 cb ({t with now:=max t.now now,qC:=max t.now now}:TimD) (pt ld) a r b yv jb qe (pt ob1_),Res.nl b lv' es',kF pb12_ (xX es'.length id),vP (.slice (some ⟨b135,0,none⟩) 1 1) [(pb12_,(xX es'.length id))],yP ld ({l with pv:=pv1,qa:=l.qa.filter (yl F4_)}:LdD),vP pv1 (l.qa.filter (yl F4_)),sP (l.qa.filter (yl F4_)),vI l.av l.qf,vT l.rv l.qd,vL l.kv l.qj] (fun w' hw=>hw.qn 6 O) ?_
      refine zy (g:=PeerP.cells) (sz:=1) (by':=8) (fun _=>O) (l:=l.qa.filter (yl F4_)) (l':=[(pb12_,(xX es'.length id))]) wk 11 qN O O O (fun w' hw'=>Vec.sl (Own.holds hw' 9 _ O)) qO qM O (fun v136=>zE [0,1,6,7,2,3,4,5] O qM (fun w' hw hS=>zB 16 O (zO O) hS (zB 17 O (zH (o:=0) O) hS (zJ 18 O hw ?_))))
      refine zN (fun w' hw=>Own.qg (i:=11) O hw) (fun hc6_=> ?_)
      refine zn 10 O O O hc6_ O (zE [0,1,6,7,2,3,4,5] O qM (fun w' hw hS=>zT ?_))
      exact⟨v136,(l.qa.filter (yl F4_))++[(pb12_,xX es'.length id)],⟨O,O,O,trivial⟩,(by rw[hl2];exact zCT c5),((hw.qJ (x:=(pb12_,xX es'.length id)) 12 8 qM O O).sel [0,1,6,7,2,9,10,11,12,13,14] O qM)⟩
     refine zl 14 O hw (zx (e:=160) (sz:=1) (vs:=[pt pb12_]) qN O O wj qM O (fun b135=>zE [0,1,7,8,2,3,4,5] O qM (fun w' hw hS=>zJ 10 O hw (z6 (v:=pv1) 6 0 0 O O O O qN O (zE [0,1,7,8,2,3,4,5] O qM (fun w' hw hS=>zJ 15 O hw ?_))))))
     refine z4 [vI yv yes,Res.row b9 44 [.slice none 0 0, .bool false, .slice none 0 0, .slice none 0 0],Res.ou ob1_ outZ,Res.row b13 35 [fa2_,fw3_],vI fa2_ F4_.vs,vI fw3_ F4_.ls,z7 cb ({t with now:=max t.now now,qC:=max t.now now}:TimD) (pt ld) a r b yv jb qe (pt ob1_),Res.nl b lv' es',kF pb12_ (xX es'.length id),vP (.slice (some ⟨b135,0,none⟩) 1 1) [(pb12_,(xX es'.length id))],yP ld ({l with pv:=pv1,qa:=l.qa.filter (yl F4_)}:LdD),vP pv1 (l.qa.filter (yl F4_)),sP (l.qa.filter (yl F4_)),vI l.av l.qf,vT l.rv l.qd,vL l.kv l.qj] (fun w' hw=>hw.qn 6 O) ?_
     refine zy (g:=PeerP.cells) (sz:=1) (by':=8) (fun _=>O) (l:=l.qa.filter (yl F4_)) (l':=[(pb12_,(xX es'.length id))]) wk 11 qN O O O (fun w' hw'=>Vec.sl (Own.holds hw' 9 _ O)) qO qM O (fun v136=>zE [0,1,6,7,2,3,4,5] O qM (fun w' hw hS=>zB 16 O (zO O) hS (zB 17 O (zH (o:=0) O) hS (zJ 18 O hw ?_))))
     refine zN (fun w' hw=>Own.qg (i:=11) O hw) (fun hc7_=> ?_)
     refine zn 10 O O O hc7_ O (zE [0,1,6,7,2,3,4,5] O qM (fun w' hw hS=>zT ?_))
     exact⟨v136,(l.qa.filter (yl F4_))++[(pb12_,xX es'.length id)],⟨O,O,O,trivial⟩,(by rw[hl2];exact zCT c5),((hw.qJ (x:=(pb12_,xX es'.length id)) 12 8 qM O O).sel [0,1,6,7,2,9,10,11,12,13,14] O qM)⟩
    have h17:=hΦ
    refine zV (zD O (zb O O (zK (o:=9) O O (zM 2 (v:=pt ld) O O O O (zb O O (zK (o:=0) O O (zM 5 (v:=pv') O O O O (a_call O O (fun w' hw=>(zGJ pv' P w' (by have h:=congrArg List.length h17;rw[zCE]at h;have h2:=zES (a:=a) (F:=F4_) (id:=id) (last:=es.length+1) (ps:=er l.qa);rw[zCE]at h2;omega) (hw.give [6,7] O qM)).mono ?_)))))))))
    rintro _ w1 ⟨qs13_,rfl,hf17_7,hO⟩
    refine O11 ?_ (hw.qh [6,7] O hO)
    exact zg (fun w' hw=>⟨pv',qs13_,⟨O,O,O,trivial⟩,(by rw[←h17];exact hf17_7.map _),(hw.qo [5,9,10,6,7,8] O qM)⟩)
   exact yZ (fun w' hw=>⟨pv1,l.qa.filter (yl F4_),⟨O,O,O,trivial⟩,(by rw[←zKy c5]),hw.sel [0,1,2,3,4,8] O qM⟩)
  have h18:=hΦ
  have hPl:P.length≤12:=by have h:=h18.length_eq;rw[zCE]at h;have h2:=zES (a:=a) (F:=F4_) (id:=id) (last:=es.length+1) (ps:=er l.qa);rw[zCE]at h2;omega
  have hPb:=zMv h18 hb.each V
  refine zC (zD O (a_call O O (fun w' hw=>(zC0 cb jb ({t with now:=max t.now now,qC:=max t.now now}:TimD) a r b yv (pt ob1_) qe lv' es' ld ({l with pv:=pv',qa:=P}:LdD) w' hg2 V qO (by show P.length≤_;omega) (by rw[hcf];omega) (fun p hp=>(hPb p hp).qy) (hw.give [2,3,5] O qM)).mono ?_)))
  rintro _ w1 ⟨rfl,hO⟩
  refine O6 ?_ (hw.qh [2,3,5] O hO)
  refine zA (jl (fun(n:NdD) (o':OutD) (x:OutA)=>[(0,pt cb),(9,pt b9),(17,Vn (es.length+1))]) (fun(n:NdD) (o':OutD) (x:OutA)=>zAi a b.vs kind id now {t:=t,r:=r,E:=es.map EntD.toEntA,ld:=some l.er,yes:=yes} n.a x∧(o'.qk.map MsgD.a=x.ms∧o'.qw=x.qw)∧o'.qt=x.qt) (fun(n:NdD) (o':OutD) (x:OutA)=>[z7 cb n.t (xF n.y) a n.r b n.yv jb qe (pt ob1_),Res.nl b n.lv n.es,Res.lo n.y,vI n.yv n.yes,Res.ou ob1_ o',Res.row b9 44 [.slice none 0 0, .bool false, .slice none 0 0, .slice none 0 0]]) ?_ (fun n o' x g hΦ=> ?_))
  ·refine zV (zD O (a_call O O (fun w' hw=>(zEZ cb jb ({t with now:=max t.now now,qC:=max t.now now}:TimD) a ({r with qc:=yY a ({t with now:=max t.now now,qC:=max t.now now}:TimD).term b.vs (es'.map EntD.toEntA) ({l with pv:=pv',qa:=P}:LdD).qa r.qc}:RolD) b yv qe lv' es' ld ({l with pv:=pv',qa:=P}:LdD) ob1_ outZ w' hg2 V qO (by show P.length≤_;omega) (Nat.zero_le _) hPb (by have:=hb.qd;show l.qd.length≤_;omega) (hw.give [3,4,5,2] O qM)).mono ?_)))
   rintro _ w1 ⟨mv'14_,ms15_,rfl,hf19_1,hO⟩
   refine O6 ?_ (hw.qh [3,4,5,2] O hO)
   exact zg (fun w' hw=>⟨({t:=({t with now:=max t.now now,qC:=max t.now now}:TimD),r:=({r with qc:=yY a t.term b.vs (es'.map EntD.toEntA) P r.qc}:RolD),lv:=lv',es:=es',y:=some (ld,({l with pv:=pv',qa:=P.map fun q=>(q.1,yq (es'.map EntD.toEntA) q.2)}:LdD)),yv:=yv,yes:=yes}:NdD),({outZ with mv:=mv'14_,qk:=outZ.qk++ms15_}:OutD),⟨ms15_.map MsgD.a,[],[]⟩,⟨O,O,O,trivial⟩,⟨.inr ⟨l.er,F4_,er P,O,hcs,hfi,hkd,hid3,hch,hFo,(by rw[List.length_map];exact h18),(by rw[List.length_map];exact zId (t2:={t with now:=max t.now now}) (l:={l with pv:=pv',qa:=P}) hE2 hf19_1)⟩,⟨O,O⟩,O⟩,hw.sel [2,3,4,0,5,1] O qM⟩)
  have hI:=hΦ
  refine zC (zD O (zD O (a_call O O (fun w' hw=>(kf cb jb n.t a n.r b (xF n.y) n.yv qe ob1_ o' w' (hw.give [0,4] O qM)).mono ?_))))
  rintro _ w1 ⟨rfl,hO⟩
  refine O9 ?_ (hw.qh [0,4] O hO)
  refine zI O ?_
  refine zN (fun w' hw=>Own.qg (i:=5) O hw) (fun hc8_=> ?_)
  refine zN (fun w' hw=>Own.qg (i:=7) O hw) (fun hc9_=> ?_)
  refine zN (fun w' hw=>Own.qg (i:=8) O hw) (fun hc10_=> ?_)
  refine zo 3 O O O (zF hc8_ (zF O (zF hc9_ (zF hc10_ zh)))) O (zI O (zA ?_))
  exact zU (zCY (cs:=(OutD.cells o')) (v0:=Vn (es.length+1)) (v2:=Vi 0) O O O O qN (Own.qr (i:=3) O) (fun w' hw=>⟨n,o',x,es.length+1,0,O,hI.1,hI.2.1.1,hI.2.1.2,hI.2.2,hw.sel [4,0,1,2,5,6,7,8] O qM⟩))
end Go.Proofs.YtkkeknmkipkbmaaGreat
