import Derived.Test.YtkkeknmkipkbmaaGreatSrtB
import Derived.Test.YtkkeknmkipkbmaaGreatCoS
set_option linter.unusedSectionVars false
set_option linter.unusedSimpArgs false
set_option linter.unusedVariables false
set_option maxRecDepth 10000
namespace Go.Proofs.YtkkeknmkipkbmaaGreat
open Go Go.Sc Go.Proofs
theorem zDr{F:ConfA}{c:ConfD}{l:List Nat}{n:Nat}{e:Int}(hk:c.ok↔F.ok)(hc:c.vs=F.vs)(hlen:l.length=F.vs.length)(h:jt c l n e):(F.ok→n=xY l∧n∈l)∧(¬ F.ok→n=0):=
  ⟨fun q=>by have h3:=(h.2.2 (hk.2 q) (by rw[hlen,hc])).2;exact⟨(zI9 h3).symm,h3.2.2⟩,fun q=>(h.1 (fun q2=>q (hk.1 q2))).1⟩
theorem jc{id:Int}{vs:List Int}{ps:List PeerP}{self:Nat}{of:PeerM→Nat}:(zw id vs ps self of).length=vs.length:=List.length_map _
theorem zC3{id:Int}{vs:List Int}{ps:List PeerP}{self N:Nat}{of:PeerM→Nat}(h0:self≤N)(h:∀ p∈ps,of p.2≤N):∀ n∈zw id vs ps self of,n≤N:=by
  intro n hn
  obtain⟨v,_,rfl⟩:=List.mem_map.1 hn
  unfold xp
  split
  · exact h0
  split
  · rename_i k hk
    have:=(List.findIdx?_eq_some_iff_getElem.1 hk).1
    exact h _ (zd this)
  omega
def yY(a:StA)(term:Nat)(vs0:List Int)(es:List EntA)(ps:List PeerP)(qc:Nat):Nat:=
  if(zc vs0 es).ok∧qc<xY (zw a.id (zc vs0 es).vs ps es.length PeerM.qy)∧(LogA.mk 0 0 es).fits (xY (zw a.id (zc vs0 es).vs ps es.length PeerM.qy)) term then xY (zw a.id (zc vs0 es).vs ps es.length PeerM.qy)else qc
theorem zEi{a:StA}{t:TimD}{vs0:List Int}{es:List EntA}{ps:List PeerP}{qc n:Nat}(h:((zc vs0 es).ok→n=xY (zw a.id (zc vs0 es).vs ps es.length PeerM.qy)∧n∈zw a.id (zc vs0 es).vs ps es.length PeerM.qy)∧(¬(zc vs0 es).ok→n=0))(hn:n≤qc∨¬(LogA.mk 0 0 es).fits n t.term):yY a t.term vs0 es ps qc=qc:=by
  unfold yY
  rw[if_neg]
  rintro⟨h1,h2,h3⟩
  rw[←(h.1 h1).1]at h2 h3
  rcases hn with q|q
  · omega
  exact q h3
theorem zHY{a:StA}{t:TimD}{vs0:List Int}{es:List EntA}{ps:List PeerP}{qc n:Nat}(h:((zc vs0 es).ok→n=xY (zw a.id (zc vs0 es).vs ps es.length PeerM.qy)∧n∈zw a.id (zc vs0 es).vs ps es.length PeerM.qy)∧(¬(zc vs0 es).ok→n=0))(hn:¬ n≤qc)(hf:(LogA.mk 0 0 es).fits n t.term):yY a t.term vs0 es ps qc=n:=by
  unfold yY
  by_cases q:(zc vs0 es).ok
  · rw[←(h.1 q).1,if_pos ⟨q,by omega,hf⟩]
  have:=h.2 q;omega
theorem zC0{S:List Nat}(cb jb:Nat)(t:TimD)(a:StA)(r:RolD)(b:StB)(yv out:Value)(qe:Nat)(lv:Value)(es:List EntD)(ld:Nat)(l:LdD)(w:World)(hg:(LG 0 0 es).good)(hl:es.length≤1000000)(hvl:b.vs.length≤12)(hpl:l.qa.length≤1000000)(hcl:(zc b.vs (es.map EntD.toEntA)).vs.length≤12)(hpm:∀ p∈l.qa,p.2.qy≤1000000)(hin:Own w S [z7 cb t (pt ld) a r b yv jb qe out,Res.nl b lv es,Res.ld ld l] w):Rets Tryz.prog 41 #[pt cb] w fun u_ w'=>u_= .tuple #[]∧Own w S [z7 cb t (pt ld) a ({r with qc:=yY a t.term b.vs (es.map EntD.toEntA) l.qa r.qc}:RolD) b yv jb qe out,Res.nl b lv es,Res.ld ld l] w':=by
  have hb:=(LG.le hg).1
  refine zW Tryz.func41 O Tryz.ntmps41 hin ?_
  refine zC (zD O (zb O O (zK (o:=29) O O (zM 0 (v:=pt b.lb) O O O O (a_call O O (fun w' hw=>(kV b.lb 0 0 lv es w' qP qO (hw.qF 1 0 O O) (hw.qH 1 1 O O) (EntD.rd.qF 1 2 O O hw)).mono ?_))))))
  rintro _ w1 ⟨rfl,hO⟩
  refine O3 ?_ (hw.qi hO)
  refine zD O (yA (vs:=[Vn (0+es.length),Vn ((LG 0 0 es).end_)]) O O O (yA (vs:=[Vn (0+es.length),Vn ((LG 0 0 es).end_)]) O O O (zI O (zI O (zA (zC (zD O (a_call O O (fun w' hw=>(xq cb jb t a r b (pt ld) yv out qe _ _ w' ‹_› V V (hw.give [0,1] O qM)).mono ?_)))))))))
  rintro _ w1 ⟨cv1_,cw2_,F3_,rfl,hf1_1,hO⟩
  have hFl:F3_.vs.length≤1000∧F3_.ls.length≤1000:=by rw[hf1_1];exact yi V
  refine O5 ?_ (hw.qh [0,1] O hO)
  refine yC (v:= .agg #[.slice none 0 0, .slice none 0 0]) qN O (fun b4=> ?_)
  refine zN (fun w' hw=>Own.qg (i:=3) O hw) (fun hc1_=> ?_)
  refine zN (fun w' hw=>Own.qg (i:=4) O hw) (fun hc2_=> ?_)
  refine zo 5 O O O (zF hc1_ (zF hc2_ zh)) O (zA (zP (ze [0,1,2,3,4,5] O qM qN (fun w' hw hS=>zB 0 O (x1 (cs:=[cv1_,cw2_]) 5 O O) hS (zB 1 O zS hS (zB 2 O zS hS (zJ 3 O hw (a_call O O (fun w' hw=>(zJP cb jb t a r b yv out qe _ _ ld _ (0+es.length) w' ‹_› V V V (hw.give [1,2,0] O qM)).mono ?_)))))))))
  rintro pv4_ w1 ⟨_,rfl,hO⟩
  refine O7 ?_ (hw.qh [1,2,0] O hO)
  refine zE [5,3,4,0,1,2] O qM (fun w' hw hS=>zJ 4 O hw (a_call O O (fun w' hw=>(zEk ({vv:=cv1_,vs:=F3_.vs,lv:=cw2_,ls:=F3_.ls}:ConfD) pv4_ (zw a.id (zc b.vs (es.map EntD.toEntA)).vs l.qa (0+es.length) PeerM.qy) w' qP (by rw[jc];exact hcl) (hw.give [6] O qM) ⟨(hw.rdVec 0 O [6] O O),(hw.rdVec 1 O [6] O O)⟩).mono ?_)))
  rintro _ w1 ⟨n5_,e6_,rfl,hf2_4,hO⟩
  have hr:=zDr (F:=zc b.vs (es.map EntD.toEntA)) (by rw[←hf1_1];exact Iff.rfl) (by rw[←hf1_1]) jc hf2_4
  have hpb:n5_≤1000000:=by
   by_cases q:(zc b.vs (es.map EntD.toEntA)).ok
   · exact zC3 V hpm _ (hr.1 q).2
   have:=hr.2 q;omega
  rw[show 0+es.length=(es.map EntD.toEntA).length by simp]at hr
  refine O7 ?_ (hw.qh [6] O hO)
  refine zE [5,3,4,0,1,2] O qM (fun w' hw hS=>zB 5 O zS hS (zB 6 O (yT (vs:=[Vn n5_,Vi e6_]) O O) hS (zB 7 O (yT (vs:=[Vn n5_,Vi e6_]) O O) hS (zB 8 O yO hS (zB 9 O yO hS (zT ?_))))))
  refine Oc7 ?_ hw
  refine zP (zP (ze [0,1,2,3,4,5,6] O qM qN (fun w' hw hS=>zB 0 O zS hS (zB 1 O zS hS (zB 2 O (zO O) hS (zB 3 O (zH (o:=23) O) hS (zB 4 O (zY 3 (v:=Vn r.qc) O O O) hS (zB 5 O (zIi O O) hS (zB 6 O zS hS ?_)))))))))
  by_cases g3_6:((n5_:Nat):Int)≤((r.qc:Nat):Int)
  ·refine zX 7 O O (gT g3_6) O hS (zX 8 O O (gT g3_6) O hS (zX 9 O O (gT g3_6) O hS (zX 10 O O (gT g3_6) O hS (zX 11 O O (gT g3_6) O hS (zX 12 O O (gT g3_6) O hS (zX 13 O O (gT g3_6) O hS (zX 14 O O (gT g3_6) O hS (zX 15 O O (gT g3_6) O hS (zX 16 O O (gT g3_6) O hS (zX 17 O O (gT g3_6) O hS (zX 18 O O (gT g3_6) O hS (zB 19 O (yf (gT g3_6)) hS ?_))))))))))))
   refine zT ?_
   refine Oc7 ?_ hw
   refine zID O ?_
   exact zU (yQ O (fun w' hw=>⟨O,(by rw[zEi hr (.inl V)];exact hw.sel [3,4,5] rfl qM)⟩))
  refine zf 7 O O (gF g3_6) zS hS (zf 8 O O (gF g3_6) (zO O) hS (zf 9 O O (gF g3_6) (zH (o:=29) O) hS (zf 10 O O (gF g3_6) (zY 3 (v:=pt b.lb) O O O) hS (zf 11 O O (gF g3_6) zS hS (zf 12 O O (gF g3_6) zS hS (zf 13 O O (gF g3_6) (zO O) hS (zf 14 O O (gF g3_6) (zH (o:=0) O) hS (zf 15 O O (gF g3_6) (zH (o:=0) O) hS (zf 16 O O (gF g3_6) (zY 3 (v:=Vn t.term) O O O) hS (zJ 17 O hw (zR O (gF g3_6) (a_call O O (fun w' hw=> ?_)))))))))))))
  refine(zCz b.lb 0 0 lv es n5_ t.term w' qP qO qO (hw.qF 4 0 O O) (hw.qH 4 1 O O) (EntD.rd.qF 4 2 O O hw)).mono ?_
  rintro _ w1 ⟨rfl,hO⟩
  refine O7 ?_ (hw.qi hO)
  refine zE [0,1,2,3,4,5,6] O qM (fun w' hw hS=>zf 18 O O (gF g3_6) (xr (q:=(LG 0 0 es).fits n5_ t.term) O) hS (zB 19 O (yM (gF g3_6)) hS (zT ?_)))
  refine Oc7 ?_ hw
  refine za O (fun c2=> ?_) (fun c2=> ?_)
  ·exact zU (yQ O (fun w' hw=>⟨O,(by rw[zEi hr (.inr c2)];exact hw.sel [3,4,5] rfl qM)⟩))
  refine zQ (zV (zD O (zD O (zb O O (zK (o:=23) O O (zn 3 O O O O O ?_))))))
  exact zg (yQ O (fun w' hw=>⟨O,(by rw[zHY hr V (Decidable.not_not.1 c2)];exact hw.sel [3,4,5] rfl qM)⟩))
def y6(l:LdD)(p:PeerM)(last:Nat)(again:Bool):Prop:=p.id=l.give∧p.qy=last∧(again=true∨l.qB=false)
instance (l:LdD)(p:PeerM)(last:Nat)(again:Bool):Decidable (y6 l p last again):=inferInstanceAs (Decidable (_∧_))
theorem handP_iff{l:LdD}{p:PeerM}{last:Nat}{again:Bool}:((p.id=l.give∧(p.qy:Int)=((0+last:Nat):Int))∧(again=true∨(!l.qB)=true))↔y6 l p last again:=by
  unfold y6
  rw[Nat.zero_add,Int.ofNat_inj,and_assoc,Bool.not_eq_true']
theorem zLv{S:List Nat}(cb jb:Nat)(t:TimD)(a:StA)(r:RolD)(b:StB)(yv:Value)(qe:Nat)(lv:Value)(es:List EntD)(ld:Nat)(l:LdD)(ob:Nat)(o:OutD)(k:Nat)(again:Bool)(w:World)(hg:(LG 0 0 es).good)(hl:es.length≤1000000)(hvl:b.vs.length≤12)(hk:k<l.qa.length)(ho:o.qk.length≤100000)(hin:Own w S [z7 cb t (pt ld) a r b yv jb qe (pt ob),Res.nl b lv es,Res.ld ld l,Res.ou ob o] w):Rets Tryz.prog 100 #[pt cb,pt ((zG l.qa k).1), .bool again] w fun u_ w'=>∃ (mv':Value),u_= .tuple #[]∧Own w S [z7 cb t (pt ld) a r b yv jb qe (pt ob),Res.nl b lv es,Res.ld ld ({l with qB:=if y6 l (zG l.qa k).2 es.length again then true else l.qB}:LdD),Res.ou ob ({o with mv:=mv',qk:=o.qk++(if y6 l (zG l.qa k).2 es.length again then [yg a t.term (yw 9 0 (zG l.qa k).2.id 0 0 0 0 0 false (.slice none 0 0) [])]else [])}:OutD)] w':=by
  have hb:=(LG.le hg).1
  refine zW Tryz.func100 O Tryz.ntmps100 hin ?_
  refine zC (zD O (zb O O (zK (o:=29) O O (zM 0 (v:=pt b.lb) O O O O (a_call O O (fun w' hw=>(kV b.lb 0 0 lv es w' qP qO (hw.qF 1 0 O O) (hw.qH 1 1 O O) (EntD.rd.qF 1 2 O O hw)).mono ?_))))))
  rintro _ w1 ⟨rfl,hO⟩
  refine O4 ?_ (hw.qi hO)
  refine zD O (yA (vs:=[Vn (0+es.length),Vn ((LG 0 0 es).end_)]) O O O (yA (vs:=[Vn (0+es.length),Vn ((LG 0 0 es).end_)]) O O O (zI O (zI O (zA (yb qN qN (zL O zS (zL O (zO O) (zL O (zH (o:=0) O) (zL O (zBE (l:=l.qa) 2 2 k 0 O O ‹_› O O O qN) (zL O zS (zL O (zO O) ?_))))))))))))
  refine zL O (zH (o:=9) O) (zL O (zY 0 (v:=pt ld) O O O) (zL O (zO O) (zL O (zH (o:=5) O) (zL O (jz (v:=Vi l.give) 2 0 5 O O O O qN) (zL O (zCq O O) (zL O zS (zCM (q:=(((zG l.qa k).2).id)=l.give) 6 12 [34,33,32,31,30,29] (((((zG l.qa k).2).qy:Nat):Int)=((0+es.length:Nat):Int)) O O O O O O trivial O (fun h1_12=> ?_) (fun g1_19=> ?_))))))))
  ·refine ym O (gT h1_12) (zL O zS (ym O (gT h1_12) (zL O (zO O) (ym O (gT h1_12) (zL O (zH (o:=2) O) (ym O (gT h1_12) (zL O (zBE (l:=l.qa) 2 2 k 2 O O ‹_› O O O qN) (ym O (gT h1_12) (zL O zS (ym O (gT h1_12) (zL O (zCq O O) ?_)))))))))))
   exact zEC O
  refine zL O zS (zCM (q:=((((zG l.qa k).2).id)=l.give)∧(((((zG l.qa k).2).qy:Nat):Int)=((0+es.length:Nat):Int))) 11 20 [47,46,45,44,43,42,41,40,39,38,37] ((again=true)∨((!l.qB)=true)) O O O O O O trivial O (fun h1_20=> ?_) (fun g1_32=> ?_))
  ·refine ym O (gT h1_20) (zL O zS (ym O (gT h1_20) (zL O zS (zIe (q:=again=true) 8 22 [46,45,44,43,42,41,40,39] ((!l.qB)=true) O O (xC _) O O O ⟨_,O,O,gT h1_20⟩ O (fun h1_22=> ?_) (fun g1_31=> ?_)))))
   ·refine ym O (bF h1_22) (zL O zS (ym O (bF h1_22) (zL O (zO O) (ym O (bF h1_22) (zL O (zH (o:=9) O) (ym O (bF h1_22) (zL O (zY 0 (v:=pt ld) O O O) (ym O (bF h1_22) (zL O (zO O) (ym O (bF h1_22) (zL O (zH (o:=6) O) (ym O (bF h1_22) ?_))))))))))))
    refine zL O (jz (v:= .bool l.qB) 2 0 6 O O O O qN) (ym O (bF h1_22) (zL O (zDx (b:=l.qB) O) ?_))
    exact zEC (xC _)
   exact zEC O
  refine xi (za O (fun c1=> ?_) (fun c1=> ?_))
  ·have hp:=handP_iff.1 c1
   refine zC (zD O (zb O O (zK (o:=9) O O (zM 0 (v:=pt ld) O O O O (zb O O (zK (o:=6) O O ?_))))))
   refine z4 [z7 cb t (pt ld) a r b yv jb qe (pt ob),Res.nl b lv es,Res.ou ob o,yP ld l,vP l.pv l.qa,sP l.qa,vI l.av l.qf,vT l.rv l.qd,vL l.kv l.qj] (fun w' hw=>hw.qn 2 O) ?_
   refine zn (cs:=(LdD.cells l)) 3 O O O O O (zA (zV (zD O (zD O (zb O O (zK (o:=0) O O (zLa (l:=l.qa) 5 k 0 O ‹_› O O O qN O (yh (cs:=[Vi 9,Vi 0,Vi (((zG l.qa k).2).id),Vn 0,Vn 0,Vn 0,Vn 0,Vn 0, .bool false, .slice none 0 0, .slice none 0 0, .slice none 0 0,Vi 0, .slice none 0 0]) (z:=[Vi 0,Vi 0,Vi 0,Vn 0,Vn 0,Vn 0,Vn 0,Vn 0, .bool false, .slice none 0 0, .slice none 0 0, .slice none 0 0,Vi 0, .slice none 0 0]) (pl:=[(0,1),(1,1),(2,1),(3,1),(4,1),(5,1),(6,1),(7,1),(8,1),(9,1),(10,2),(12,1),(13,1)]) qN qN O (zx (e:=59) (sz:=14) (vs:=[.agg #[Vi 9,Vi 0,Vi (((zG l.qa k).2).id),Vn 0,Vn 0,Vn 0,Vn 0,Vn 0, .bool false, .slice none 0 0, .slice none 0 0, .slice none 0 0,Vi 0, .slice none 0 0]]) qN O O qY qM O (fun b61=> ?_))))))))))
   refine z4 [z7 cb t (pt ld) a r b yv jb qe (pt ob),Res.nl b lv es,Res.ou ob o,yP ld ({l with qB:=true}:LdD),vP l.pv l.qa,sP l.qa,vI l.av l.qf,vT l.rv l.qd,vL l.kv l.qj,vM (.slice (some ⟨b61,0,none⟩) 1 1) [(yw 9 0 (((zG l.qa k).2).id) 0 0 0 0 0 false (.slice none 0 0) [])],sM [(yw 9 0 (((zG l.qa k).2).id) 0 0 0 0 0 false (.slice none 0 0) [])]] (fun w' hw=>hw.msg0 ⟨O,O,O⟩ O O) ?_
   refine a_call O O (fun w' hw=>(jI cb jb t a r b (pt ld) yv qe ob _ (.slice (some ⟨b61,0,none⟩) 1 1) [(yw 9 0 (((zG l.qa k).2).id) 0 0 0 0 0 false (.slice none 0 0) [])] w' qS (hw.give [0,2,9,10] O qM)).mono ?_)
   rintro _ w1 ⟨mv'1_,rfl,hO⟩
   refine O9 ?_ (hw.qh [0,2,9,10] O hO)
   exact zg (yQ O (fun w' hw=>⟨mv'1_,O,(by rw[if_pos hp,if_pos hp];exact(hw.qo [1,2,3,4,5,6] rfl qM).sel [1,0,3,2] rfl qM)⟩))
  have hp:¬ y6 l (zG l.qa k).2 es.length again:=fun q=>c1 (handP_iff.2 q)
  exact yZ (yQ O (fun w' hw=>⟨o.mv,O,(by rw[if_neg hp,if_neg hp,List.append_nil];exact hw)⟩))
def xQ(es:List EntA)(p:PeerM):List EntA:=if p.qx<4∧(p.opn=true∨p.qx=0)then((LogA.mk 0 0 es).fromE p.next 8).1 else []
def yq(es:List EntA)(p:PeerM):PeerM:=if(xQ es p).length=0 then p else{p with qx:=p.qx+1,next:=if p.opn=true then p.next+(xQ es p).length else p.next}
def xM(a:StA)(term qc qd:Nat)(es:List EntA)(p:PeerM)(force:Bool):List MsgA:=
  if(xQ es p).length=0∧force=false then []else [⟨5,a.id,p.id,term,p.next - 1,((LogA.mk 0 0 es).termE (p.next - 1)).1,qc,qd,false,xQ es p,⟨[],[]⟩,0,[]⟩]
theorem zEq{es:List EntA}{p:PeerM}:(xQ es p).length≤8:=by
  unfold xQ LogA.fromE
  split
  · split
    · simp
    split
    · simp
    split
    · simp
    simp only[List.length_take];show min 8 _≤8;omega
  simp
theorem zJ1{a:StA}{term qc qd x:Nat}{e:Int}{E:List EntA}{p:PeerM}{force:Bool}{ev:Value}{rs:List EntD}(hrs:rs.map EntD.toEntA=xQ E p)(hx:(LogA.mk 0 0 E).termE (p.next - 1)=(x,e))(h:¬(rs.length=0∧force=false)):
    ([yw 5 0 p.id 0 (p.next - 1) x qc qd false ev rs].map (yg a term)).map MsgD.a=xM a term qc qd E p force:=by
  unfold xM
  rw[if_neg (by rw[←hrs,List.length_map];exact h),←hrs,hx];rfl
theorem zGd{E:List EntA}{p:PeerM}(h:(xQ E p).length=0):yq E p=p:=if_pos h
theorem zJe{E:List EntA}{p:PeerM}{n:Nat}(hn:n=(xQ E p).length)(h:¬ n=0)(h2:p.opn=true):yq E p={p with next:=p.next+n,qx:=p.qx+1}:=by unfold yq;rw[if_neg V,if_pos h2,hn]
theorem zHe{E:List EntA}{p:PeerM}{n:Nat}(hn:n=(xQ E p).length)(h:¬ n=0)(h2:p.opn=false):yq E p={p with qx:=p.qx+1}:=by unfold yq;rw[if_neg V,if_neg (by rw[h2];simp)]
theorem zCJ{ps:List PeerP}{k:Nat}(hk:k<ps.length):z5 ps k (zG ps k).2=ps:=by
  unfold z5
  refine List.ext_getElem? fun i=> ?_
  rw[List.getElem?_set]
  split
  · rename_i e;subst e
    exact(yW hk).symm
  rfl
structure PeerM.bd(n:Nat)(p:PeerM):Prop where
  next:1≤p.next∧p.next≤n+1
  qy:p.qy≤n
  qx:0≤p.qx∧p.qx≤4
theorem zB6{S:List Nat}(cb jb:Nat)(t:TimD)(a:StA)(r:RolD)(b:StB)(yv:Value)(qe:Nat)(lv:Value)(es:List EntD)(ld:Nat)(l:LdD)(ob:Nat)(o:OutD)(k:Nat)(force:Bool)(w:World)(hg:(LG 0 0 es).good)(hl:es.length≤1000000)(hvl:b.vs.length≤12)(hk:k<l.qa.length)(ho:o.qk.length≤100000)(hp:(zG l.qa k).2.bd 1000000)(hr:l.qd.length≤1000000)(hin:Own w S [z7 cb t (pt ld) a r b yv jb qe (pt ob),Res.nl b lv es,Res.ld ld l,Res.ou ob o] w):Rets Tryz.prog 79 #[pt cb,pt ((zG l.qa k).1), .bool force] w fun u_ w'=>∃ (mv':Value) (ms:List MsgD),u_= .tuple #[]∧ms.map MsgD.a=xM a t.term r.qc l.qd.length (es.map EntD.toEntA) (zG l.qa k).2 force∧Own w S [z7 cb t (pt ld) a r b yv jb qe (pt ob),Res.nl b lv es,Res.ld ld ({l with qa:=z5 l.qa k (yq (es.map EntD.toEntA) (zG l.qa k).2)}:LdD),Res.ou ob ({o with mv:=mv',qk:=o.qk++ms}:OutD)] w':=by
  have hb:=(LG.le hg).1
  have hpn:=hp.next
  have hpf:=hp.qx
  refine zW Tryz.func79 O Tryz.ntmps79 hin ?_
  refine zP (ze [0,1,2,3] O qM qN (fun w' hw hS=>zB 0 O zS hS (zB 1 O (zO O) hS (zB 2 O (zH (o:=0) O) hS (zB 3 O (zBE (l:=l.qa) 2 2 k 0 O O qT O O O qN) hS (zB 4 O zS hS (zB 5 O (zO O) hS (zB 6 O (zH (o:=23) O) hS (zB 7 O (zY 0 (v:=Vn r.qc) O O O) hS (zB 8 O zS hS (zB 9 O (zO O) hS (zB 10 O (zH (o:=9) O) hS ?_))))))))))))
  refine zB 11 O (zY 0 O O O) hS (zB 12 O (zO O) hS (zB 13 O (zH (o:=2) O) hS (zB 14 O (jz (v:=l.rv) 2 0 2 O O O O qN) hS (zB 15 O (zAA (pC 2 4 O O) O) hS (zB 16 O (x7 qN O (xA V) qN) hS (zB 17 O (zA1 (cs:=[Vi 5,Vi 0,Vi (((zG l.qa k).2).id),Vn 0,Vn 0,Vn 0,Vn r.qc,Vn l.qd.length, .bool false, .slice none 0 0, .slice none 0 0, .slice none 0 0,Vi 0, .slice none 0 0]) (z:=[Vi 0,Vi 0,Vi 0,Vn 0,Vn 0,Vn 0,Vn 0,Vn 0, .bool false, .slice none 0 0, .slice none 0 0, .slice none 0 0,Vi 0, .slice none 0 0]) (pl:=[(0,1),(1,1),(2,1),(3,1),(4,1),(5,1),(6,1),(7,1),(8,1),(9,1),(10,2),(12,1),(13,1)]) qN qN) hS (zJ 18 O hw (yC (v:= .agg #[Vi 0,Vi 0,Vi 0,Vn 0,Vn 0,Vn 0,Vn 0,Vn 0, .bool false, .slice none 0 0, .slice none 0 0, .slice none 0 0,Vi 0, .slice none 0 0]) qN O (fun b6=>zE [0,1,2,3] O qM (fun w' hw hS=>zJ 19 O hw (zo 4 O O O (xO O) O (zE [0,1,2,3] O qM (fun w' hw hS=> ?_)))))))))))))
  refine zT ?_
  refine Oc5 ?_ hw
  refine zP (yb qN qN (zL O zS (zL O (zO O) (zL O (zH (o:=1) O) (zL O (zBE (l:=l.qa) 2 2 k 1 O O qT O O O qN) (zL O zS (zL O (zO O) (zL O (zH (o:=24) O) (zL O (zH (o:=0) O) (zL O (zY 0 (v:=Vn 0) O O O) (zL O (zIi O O) (xi ?_))))))))))))
  refine za O (fun c1=> ?_) (fun c1=> ?_)
  ·exact absurd c1 V
  refine zQ (j9 (fun(ev:Value) (rs:List EntD)=>[(0,pt cb),(1,pt ((zG l.qa k).1)),(2, .bool force),(6,pt b6)]) (fun(ev:Value) (rs:List EntD)=>rs.map EntD.toEntA=xQ (es.map EntD.toEntA) (zG l.qa k).2) (fun(ev:Value) (rs:List EntD)=>[z7 cb t (pt ld) a r b yv jb qe (pt ob),Res.nl b lv es,Res.ld ld l,Res.ou ob o,Res.row b6 59 [Vi 5,Vi 0,Vi ((zG l.qa k).2.id),Vn 0,Vn 0,Vn 0,Vn r.qc,Vn l.qd.length, .bool false,ev, .slice none 0 0, .slice none 0 0,Vi 0, .slice none 0 0],vE ev rs,sE rs]) ?_ (fun ev rs g hΦ=> ?_))
  ·refine zC (zD O (zb O O (zK (o:=4) O O (kE (l:=l.qa) 2 2 k 4 O O qT O O O qN O (yI O O O (zD O (yJ (q:=(((zG l.qa k).2).qx)<4) 11 5 [145,144,143,142,141,140,139,138,137,136,135] (((((zG l.qa k).2).opn)=true)∨((((zG l.qa k).2).qx)=0)) O O O O O O trivial O (fun h12_5=> ?_) (fun g12_17=> ?_))))))))
   ·refine zR O (gT h12_5) (zD O (zR O (gT h12_5) (zb O O (zR O (gT h12_5) (zK (o:=6) O O (zR O (gT h12_5) (kE (l:=l.qa) 2 2 k 6 O O qT O O O qN O (zR O (gT h12_5) (zD O (yj (q:=(((zG l.qa k).2).opn)=true) 5 10 [144,143,142,141,140] ((((zG l.qa k).2).qx)=0) O O (xC _) O O O ⟨_,O,O,gT h12_5⟩ O (fun h12_10=> ?_) (fun g12_16=> ?_)))))))))))
    ·refine zR O (bF h12_10) (zD O (zR O (bF h12_10) (zb O O (zR O (bF h12_10) (zK (o:=4) O O (zR O (bF h12_10) (kE (l:=l.qa) 2 2 k 4 O O qT O O O qN O (zR O (bF h12_10) (yR O O O ?_)))))))))
     exact yN O (fun _ hw=>hw)
    exact yN O (fun _ hw=>hw)
   refine zA (za O (fun c2=> ?_) (fun c2=> ?_))
   ·refine ze [0,1,2,3] O qM qN (fun w' hw hS=>zB 0 O zS hS (zB 1 O (zO O) hS (zB 2 O (zH (o:=29) O) hS (zB 3 O (zY 0 (v:=pt b.lb) O O O) hS (zB 4 O zS hS (zB 5 O (zO O) hS (zB 6 O (zH (o:=1) O) hS (zB 7 O (zBE (l:=l.qa) 2 2 k 1 O O qT O O O qN) hS (zJ 8 O hw (a_call O O (fun w' hw=>(zHp b.lb 0 0 lv es (((zG l.qa k).2).next) 8 w' qO ‹_› (hw.qF 1 0 O O) (hw.qH 1 1 O O) (EntD.rd.qF 1 2 O O hw)).mono ?_)))))))))))
    rintro _ w1 ⟨r1_,rs2_,e3_,rfl,hf13_8,hO⟩
    refine O7 ?_ (hw.qi hO)
    refine zE [0,1,2,3] O qM (fun w' hw hS=>zB 9 O zS hS (zB 10 O (yT (vs:=[r1_,Vi e3_]) O O) hS (zB 11 O (yT (vs:=[r1_,Vi e3_]) O O) hS (zB 12 O (zH (o:=9) O) hS (zJ 13 O hw ?_)))))
    refine zN (fun w' hw=>Own.qg (i:=5) O hw) (fun hc2_=> ?_)
    refine zn 4 O O O hc2_ O (zE [0,1,2,3] O qM (fun w' hw hS=>zT ?_))
    exact⟨r1_,rs2_,⟨O,O,O,O,trivial⟩,(by unfold xQ;rw[if_pos c2];exact(congrArg Prod.fst hf13_8).symm),hw⟩
   exact yZ (fun w' hw=>⟨.slice none 0 0,[],⟨O,O,O,O,trivial⟩,(by unfold xQ;rw[if_neg c2];rfl),(Own.qG (zm hw 81 5))⟩)
  have hrs:=hΦ
  have hrl:rs.length=(xQ (es.map EntD.toEntA) (zG l.qa k).2).length:=(by simpa using congrArg List.length hrs)
  have hr8:=zEq (es:=es.map EntD.toEntA) (p:=(zG l.qa k).2)
  refine zP (zC (zK (o:=9) O O (zM 4 (v:=ev) O O O O (zp (pV 5 O) O O (yR O O O (zD O (yJ (q:=((rs.length:Nat):Int)=0) 2 4 [166,165] ((!force)=true) O O O O O O trivial O (fun h14_4=> ?_) (fun g14_7=> ?_))))))))
  ·refine zR O (gT h14_4) (zD O (zR O (gT h14_4) (zBu (b:=force) O O ?_)))
   exact yN (xC _) (fun _ hw=>hw)
  refine zA (za O (fun c3=> ?_) (fun c3=> ?_))
  ·have hq:rs.length=0∧force=false:=⟨by omega,by simpa using c3.2⟩
   exact zU (yQ O (fun w' hw=>⟨o.mv,[],O,(by unfold xM;rw[if_pos ⟨by omega,hq.2⟩];rfl),(by rw[zGd V,zCJ hk,List.append_nil];exact hw.sel [0,1,2,3] rfl qM)⟩))
  have hq:¬(rs.length=0∧force=false):=fun q=>c3 ⟨by omega,by simpa using q.2⟩
  refine zQ (zC (zD O (zb O O (zK (o:=1) O O (kE (l:=l.qa) 2 2 k 1 O O qT O O O qN O (x8 (c:=(((zG l.qa k).2.next - 1:Nat):Int)) O O (ws (a:=(zG l.qa k).2.next) (b:=1) V V) O (zK (o:=4) O O (zn 4 O O O O O (zA (zP (ze [0,1,2,3,5] O qM qN (fun w' hw hS=>zB 0 O zS hS ?_))))))))))))
  refine zB 1 O (zO O) hS (zB 2 O (zH (o:=29) O) hS (zB 3 O (zY 0 (v:=pt b.lb) O O O) hS (zB 4 O (zH (o:=4) O) hS (zJ 5 O hw (zM 4 (v:=Vn ((zG l.qa k).2.next - 1)) O O O O (zE [0,1,2,3,5] O qM (fun w' hw hS=>zJ 6 O hw (a_call O O (fun w' hw=>(zG2 b.lb 0 0 lv es ((zG l.qa k).2.next - 1) w' qP qO qO (hw.qF 1 0 O O) (hw.qH 1 1 O O) (EntD.rd.qF 1 2 O O hw)).mono ?_)))))))))
  rintro _ w1 ⟨x4_,e5_,rfl,hf16_6,hO⟩
  refine O7 ?_ (hw.qi hO)
  refine zE [0,1,2,3,5] O qM (fun w' hw hS=>zB 7 O zS hS (zB 8 O (yT (vs:=[Vn x4_,Vi e5_]) O O) hS (zB 9 O (yT (vs:=[Vn x4_,Vi e5_]) O O) hS (zB 10 O (zH (o:=5) O) hS (zJ 11 O hw (zn 4 O O O O O (zE [0,1,2,3,5] O qM (fun w' hw hS=>zT ?_))))))))
  refine Oc7 ?_ hw
  refine yt (fun(q:PeerM)=>[(0,pt cb),(6,pt b6)]) (fun(q:PeerM)=>q=yq (es.map EntD.toEntA) (zG l.qa k).2) (fun(q:PeerM)=>[z7 cb t (pt ld) a r b yv jb qe (pt ob),Res.nl b lv es,Res.ld ld ({l with qa:=z5 l.qa k q}:LdD),Res.ou ob o,Res.row b6 59 [Vi 5,Vi 0,Vi ((zG l.qa k).2.id),Vn 0,Vn ((zG l.qa k).2.next - 1),Vn x4_,Vn r.qc,Vn l.qd.length, .bool false,ev, .slice none 0 0, .slice none 0 0,Vi 0, .slice none 0 0],vE ev rs,sE rs]) ?_ (fun q g hΦ=> ?_)
  ·refine zC (zK (o:=9) O O (zM 4 (v:=ev) O O O O (zp (pV 5 O) O O (yx O O O (zA (za O (fun c4=> ?_) (fun c4=> ?_)))))))
   ·refine zC (zD O (zb O O (zK (o:=4) O O (kE (l:=l.qa) 2 2 k 4 O O qT O O O qN O (zt O O (zr V) O (zb O O (zK (o:=4) O O ?_)))))))
    refine z4 [z7 cb t (pt ld) a r b yv jb qe (pt ob),Res.nl b lv es,Res.ou ob o,Res.row b6 59 [Vi 5,Vi 0,Vi ((zG l.qa k).2.id),Vn 0,Vn ((zG l.qa k).2.next - 1),Vn x4_,Vn r.qc,Vn l.qd.length, .bool false,ev, .slice none 0 0, .slice none 0 0,Vi 0, .slice none 0 0],vE ev rs,sE rs,yP ld l,vP l.pv l.qa,sP l.qa,vI l.av l.qf,vT l.rv l.qd,vL l.kv l.qj] (fun w' hw=>hw.qn 2 O) ?_
    refine z4 [z7 cb t (pt ld) a r b yv jb qe (pt ob),Res.nl b lv es,Res.ou ob o,Res.row b6 59 [Vi 5,Vi 0,Vi ((zG l.qa k).2.id),Vn 0,Vn ((zG l.qa k).2.next - 1),Vn x4_,Vn r.qc,Vn l.qd.length, .bool false,ev, .slice none 0 0, .slice none 0 0,Vi 0, .slice none 0 0],vE ev rs,sE rs,yP ld l,vP l.pv l.qa,vI l.av l.qf,vT l.rv l.qd,vL l.kv l.qj,kF ((zG l.qa k).1) ((zG l.qa k).2),sP (l.qa.eraseIdx k)] (fun w' hw=>hw.qI (g:=PeerP.dres) 8 k qT O) ?_
    refine zn (cs:=(PeerM.cells ((zG l.qa k).2))) 11 O O O O O (zA (zC (zD O (zb O O (zK (o:=6) O O (zM 11 (v:= .bool (((zG l.qa k).2).opn)) O O O O (zA (zAu O (fun c5=> ?_) (fun c5=> ?_)))))))))
    ·refine ze [0,1,2,3,4,6,7,8,9,10,12] O qM qN (fun w' hw hS=>zB 0 O zS hS (zB 1 O (zO O) hS (zB 2 O (zH (o:=1) O) hS (zB 4 O (zH (o:=9) O) hS (zB 5 O (zY 3 (v:=ev) O O O) hS (zB 6 O (zAA (pV 4 O) O) hS (zB 7 O (x7 qN O (xA V) qN) hS (zJ 3 O hw (zM 11 (v:=Vn (((zG l.qa k).2).next)) O O O O (zE [0,1,2,3,4,6,7,8,9,10,12] O qM (fun w' hw hS=>zB 8 O (yr O O (xA V)) hS (zB 9 O (zO O) hS ?_))))))))))))
     refine zB 10 O (zH (o:=1) O) hS (zJ 11 O hw (zn 11 O O O O O (zE [0,1,2,3,4,6,7,8,9,10,12] O qM (fun w' hw hS=>zT ?_))))
     exact⟨({(zG l.qa k).2 with next:=(zG l.qa k).2.next+rs.length,qx:=(zG l.qa k).2.qx+1}:PeerM),⟨O,O,trivial⟩,(zJe hrl V c5).symm,((hw.peerIn 11 12 7 k ({((zG l.qa k).2)with next:=(((zG l.qa k).2).next)+rs.length,qx:=(((zG l.qa k).2).qx)+1}:PeerM) qT qM O O O).qo [6,10,11,7,8,9] O qM).sel [0,1,6,2,3,4,5] O qM⟩
    exact yZ (fun w' hw=>⟨({(zG l.qa k).2 with qx:=(zG l.qa k).2.qx+1}:PeerM),⟨O,O,trivial⟩,(zHe hrl V c5).symm,((hw.peerIn 11 12 7 k ({((zG l.qa k).2)with qx:=(((zG l.qa k).2).qx)+1}:PeerM) qT qM O O O).qo [6,10,11,7,8,9] O qM).sel [0,1,6,2,3,4,5] O qM⟩)
   exact yZ (fun w' hw=>⟨(zG l.qa k).2,⟨O,O,trivial⟩,(zGd V).symm,(by rw[zCJ hk];exact hw)⟩)
  have hq2:=hΦ
  refine zV (zD O (yL 4 O O O (zx (e:=59) (sz:=14) (vs:=[.agg #[Vi 5,Vi 0,Vi ((zG l.qa k).2.id),Vn 0,Vn ((zG l.qa k).2.next - 1),Vn x4_,Vn r.qc,Vn l.qd.length, .bool false,ev, .slice none 0 0, .slice none 0 0,Vi 0, .slice none 0 0]]) qN O O qY qM O (fun b213=> ?_))))
  refine z4 [z7 cb t (pt ld) a r b yv jb qe (pt ob),Res.nl b lv es,Res.ld ld ({l with qa:=z5 l.qa k q}:LdD),Res.ou ob o,Res.row b6 59 [Vi 5,Vi 0,Vi ((zG l.qa k).2.id),Vn 0,Vn ((zG l.qa k).2.next - 1),Vn x4_,Vn r.qc,Vn l.qd.length, .bool false,ev, .slice none 0 0, .slice none 0 0,Vi 0, .slice none 0 0],vM (.slice (some ⟨b213,0,none⟩) 1 1) [(yw 5 0 ((zG l.qa k).2.id) 0 ((zG l.qa k).2.next - 1) x4_ r.qc l.qd.length false ev rs)],sM [(yw 5 0 ((zG l.qa k).2.id) 0 ((zG l.qa k).2.next - 1) x4_ r.qc l.qd.length false ev rs)]] (fun w' hw=>hw.msgIn (m:=(yw 5 0 ((zG l.qa k).2.id) 0 ((zG l.qa k).2.next - 1) x4_ r.qc l.qd.length false ev rs)) 5 6 qM ⟨O,O,O⟩ O O) ?_
  refine a_call O O (fun w' hw=>(jI cb jb t a r b (pt ld) yv qe ob _ (.slice (some ⟨b213,0,none⟩) 1 1) [(yw 5 0 ((zG l.qa k).2.id) 0 ((zG l.qa k).2.next - 1) x4_ r.qc l.qd.length false ev rs)] w' qS (hw.give [0,3,5,6] O qM)).mono ?_)
  rintro _ w1 ⟨mv'6_,rfl,hO⟩
  refine O5 ?_ (hw.qh [0,3,5,6] O hO)
  exact zg (yQ O (fun w' hw=>⟨mv'6_,[yg a t.term (yw 5 0 (zG l.qa k).2.id 0 ((zG l.qa k).2.next - 1) x4_ r.qc l.qd.length false ev rs)],O,zJ1 hrs hf16_6 hq,(by rw[←hq2];exact hw.sel [3,0,1,4] rfl qM)⟩))
end Go.Proofs.YtkkeknmkipkbmaaGreat
