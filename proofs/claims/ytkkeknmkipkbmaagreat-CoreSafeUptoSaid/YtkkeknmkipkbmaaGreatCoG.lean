import Derived.Test.YtkkeknmkipkbmaaGreatSrtB
import Derived.Test.YtkkeknmkipkbmaaGreatCoS
set_option linter.unusedSectionVars false
set_option linter.unusedSimpArgs false
set_option linter.unusedVariables false
set_option maxRecDepth 10000
namespace Go.Proofs.YtkkeknmkipkbmaaGreat
open Go Go.Sc Go.Proofs
theorem zDT{F:ConfA}{c:ConfD}{l:List Nat}{n:Nat}{e:Int}(hk:c.ok↔F.ok)(hc:c.vs=F.vs)(hlen:l.length=F.vs.length)(h:jg c l n e):(F.ok→n=xT l∧n∈l)∧(¬ F.ok→n=0):=
  ⟨fun q=>by have h3:=(h.2.2 (hk.2 q) (by rw[hlen,hc])).2;exact⟨(zJQ h3).symm,h3.2.2⟩,fun q=>(h.1 (fun q2=>q (hk.1 q2))).1⟩
theorem jN{id:Int}{vs:List Int}{ps:List PeerP}{self:Nat}{of:PeerM→Nat}:(zw id vs ps self of).length=vs.length:=List.length_map _
theorem zDB{id:Int}{vs:List Int}{ps:List PeerP}{self N:Nat}{of:PeerM→Nat}(h0:self≤N)(h:∀ p∈ps,of p.2≤N):∀ n∈zw id vs ps self of,n≤N:=by
  intro n hn
  obtain⟨v,_,rfl⟩:=List.mem_map.1 hn
  unfold xg
  split
  · exact h0
  split
  · rename_i k hk
    have:=(List.findIdx?_eq_some_iff_getElem.1 hk).1
    exact h _ (ze this)
  omega
def yU(a:StA)(term:Nat)(vs0:List Int)(es:List EntA)(ps:List PeerP)(qc:Nat):Nat:=
  if(zc vs0 es).ok∧qc<xT (zw a.id (zc vs0 es).vs ps es.length PeerM.qy)∧(LogA.mk 0 0 es).fits (xT (zw a.id (zc vs0 es).vs ps es.length PeerM.qy)) term then xT (zw a.id (zc vs0 es).vs ps es.length PeerM.qy)else qc
theorem zEZ{a:StA}{t:TimD}{vs0:List Int}{es:List EntA}{ps:List PeerP}{qc n:Nat}(h:((zc vs0 es).ok→n=xT (zw a.id (zc vs0 es).vs ps es.length PeerM.qy)∧n∈zw a.id (zc vs0 es).vs ps es.length PeerM.qy)∧(¬(zc vs0 es).ok→n=0))(hn:n≤qc∨¬(LogA.mk 0 0 es).fits n t.term):yU a t.term vs0 es ps qc=qc:=by
  unfold yU
  rw[if_neg]
  rintro⟨h1,h2,h3⟩
  rw[←(h.1 h1).1]at h2 h3
  rcases hn with q|q
  · omega
  exact q h3
theorem zGn{a:StA}{t:TimD}{vs0:List Int}{es:List EntA}{ps:List PeerP}{qc n:Nat}(h:((zc vs0 es).ok→n=xT (zw a.id (zc vs0 es).vs ps es.length PeerM.qy)∧n∈zw a.id (zc vs0 es).vs ps es.length PeerM.qy)∧(¬(zc vs0 es).ok→n=0))(hn:¬ n≤qc)(hf:(LogA.mk 0 0 es).fits n t.term):yU a t.term vs0 es ps qc=n:=by
  unfold yU
  by_cases q:(zc vs0 es).ok
  · rw[←(h.1 q).1,if_pos ⟨q,by omega,hf⟩]
  have:=h.2 q;omega
theorem zCg{S:List Nat}(cb jb:Nat)(t:TimD)(a:StA)(r:RolD)(b:StB)(yv out:Value)(qd:Nat)(lv:Value)(es:List EntD)(ld:Nat)(l:LdD)(w:World)(hg:(LG 0 0 es).good)(hl:es.length≤1000000)(hvl:b.vs.length≤12)(hpl:l.qa.length≤1000000)(hcl:(zc b.vs (es.map EntD.toEntA)).vs.length≤12)(hpm:∀ p∈l.qa,p.2.qy≤1000000)(hin:Own w S [z4 cb t (pt ld) a r b yv jb qd out,Res.nl b lv es,Res.ld ld l] w):Rets Tryz.prog 41 #[pt cb] w fun u_ w'=>u_= .tuple #[]∧Own w S [z4 cb t (pt ld) a ({r with qc:=yU a t.term b.vs (es.map EntD.toEntA) l.qa r.qc}:RolD) b yv jb qd out,Res.nl b lv es,Res.ld ld l] w':=by
  have hb:=(LG.le hg).1
  refine zW Tryz.func41 O Tryz.ntmps41 hin ?_
  refine zB (zD O (za O O (zJ (o:=29) O O (zL 0 (v:=pt b.lb) O O O O (a_call O O (fun w' hw=>(kG b.lb 0 0 lv es w' qP qO (hw.qF 1 0 O O) (hw.qH 1 1 O O) (EntD.rd.qF 1 2 O O hw)).mono ?_))))))
  rintro _ w1 ⟨rfl,hO⟩
  refine O3 ?_ (hw.qi hO)
  refine zD O (z8 (vs:=[Vn (0+es.length),Vn ((LG 0 0 es).end_)]) O O O (z8 (vs:=[Vn (0+es.length),Vn ((LG 0 0 es).end_)]) O O O (zI O (zI O (zA (zB (zD O (a_call O O (fun w' hw=>(xe cb jb t a r b (pt ld) yv out qd _ _ w' ‹_› V V (hw.give [0,1] O qM)).mono ?_)))))))))
  rintro _ w1 ⟨cv1_,cw2_,F3_,rfl,hf1_1,hO⟩
  have hFl:F3_.vs.length≤1000∧F3_.ls.length≤1000:=by rw[hf1_1];exact yf V
  refine O5 ?_ (hw.qg [0,1] O hO)
  refine yE (v:= .agg #[.slice none 0 0, .slice none 0 0]) qN O (fun b4=> ?_)
  refine zP (fun w' hw=>Own.qh (i:=3) O hw) (fun hc1_=> ?_)
  refine zP (fun w' hw=>Own.qh (i:=4) O hw) (fun hc2_=> ?_)
  refine zr 5 O O O (zF hc1_ (zF hc2_ zj)) O (zA (zN (zg [0,1,2,3,4,5] O qM qN (fun w' hw hS=>zC 0 O (x8 (cs:=[cv1_,cw2_]) 5 O O) hS (zC 1 O zT hS (zC 2 O zT hS (zK 3 O hw (a_call O O (fun w' hw=>(zIn cb jb t a r b yv out qd _ _ ld _ (0+es.length) w' ‹_› V V V (hw.give [1,2,0] O qM)).mono ?_)))))))))
  rintro pv4_ w1 ⟨_,rfl,hO⟩
  refine O7 ?_ (hw.qg [1,2,0] O hO)
  refine zE [5,3,4,0,1,2] O qM (fun w' hw hS=>zK 4 O hw (a_call O O (fun w' hw=>(zEd ({vv:=cv1_,vs:=F3_.vs,lv:=cw2_,ls:=F3_.ls}:ConfD) pv4_ (zw a.id (zc b.vs (es.map EntD.toEntA)).vs l.qa (0+es.length) PeerM.qy) w' qP (by rw[jN];exact hcl) (hw.give [6] O qM) ⟨(hw.rdVec 0 O [6] O O),(hw.rdVec 1 O [6] O O)⟩).mono ?_)))
  rintro _ w1 ⟨n5_,e6_,rfl,hf2_4,hO⟩
  have hr:=zDT (F:=zc b.vs (es.map EntD.toEntA)) (by rw[←hf1_1];exact Iff.rfl) (by rw[←hf1_1]) jN hf2_4
  have hpb:n5_≤1000000:=by
   by_cases q:(zc b.vs (es.map EntD.toEntA)).ok
   · exact zDB V hpm _ (hr.1 q).2
   have:=hr.2 q;omega
  rw[show 0+es.length=(es.map EntD.toEntA).length by simp]at hr
  refine O7 ?_ (hw.qg [6] O hO)
  refine zE [5,3,4,0,1,2] O qM (fun w' hw hS=>zC 5 O zT hS (zC 6 O (yT (vs:=[Vn n5_,Vi e6_]) O O) hS (zC 7 O (yT (vs:=[Vn n5_,Vi e6_]) O O) hS (zC 8 O yO hS (zC 9 O yO hS (zU ?_))))))
  refine Oc7 ?_ hw
  refine zN (zN (zg [0,1,2,3,4,5,6] O qM qN (fun w' hw hS=>zC 0 O zT hS (zC 1 O zT hS (zC 2 O (zQ O) hS (zC 3 O (zH (o:=23) O) hS (zC 4 O (zZ 3 (v:=Vn r.qc) O O O) hS (zC 5 O (zH9 O O) hS (zC 6 O zT hS ?_)))))))))
  by_cases g3_6:((n5_:Nat):Int)≤((r.qc:Nat):Int)
  ·refine zb 7 O O (gT g3_6) O hS (zb 8 O O (gT g3_6) O hS (zb 9 O O (gT g3_6) O hS (zb 10 O O (gT g3_6) O hS (zb 11 O O (gT g3_6) O hS (zb 12 O O (gT g3_6) O hS (zb 13 O O (gT g3_6) O hS (zb 14 O O (gT g3_6) O hS (zb 15 O O (gT g3_6) O hS (zb 16 O O (gT g3_6) O hS (zb 17 O O (gT g3_6) O hS (zb 18 O O (gT g3_6) O hS (zC 19 O (yl (gT g3_6)) hS ?_))))))))))))
   refine zU ?_
   refine Oc7 ?_ hw
   refine zHl O ?_
   exact zV (yJ O (fun w' hw=>⟨O,(by rw[zEZ hr (.inl V)];exact hw.sel [3,4,5] rfl qM)⟩))
  refine zk 7 O O (gF g3_6) zT hS (zk 8 O O (gF g3_6) (zQ O) hS (zk 9 O O (gF g3_6) (zH (o:=29) O) hS (zk 10 O O (gF g3_6) (zZ 3 (v:=pt b.lb) O O O) hS (zk 11 O O (gF g3_6) zT hS (zk 12 O O (gF g3_6) zT hS (zk 13 O O (gF g3_6) (zQ O) hS (zk 14 O O (gF g3_6) (zH (o:=0) O) hS (zk 15 O O (gF g3_6) (zH (o:=0) O) hS (zk 16 O O (gF g3_6) (zZ 3 (v:=Vn t.term) O O O) hS (zK 17 O hw (zR O (gF g3_6) (a_call O O (fun w' hw=> ?_)))))))))))))
  refine(zBg b.lb 0 0 lv es n5_ t.term w' qP qO qO (hw.qF 4 0 O O) (hw.qH 4 1 O O) (EntD.rd.qF 4 2 O O hw)).mono ?_
  rintro _ w1 ⟨rfl,hO⟩
  refine O7 ?_ (hw.qi hO)
  refine zE [0,1,2,3,4,5,6] O qM (fun w' hw hS=>zk 18 O O (gF g3_6) (xc (q:=(LG 0 0 es).fits n5_ t.term) O) hS (zC 19 O (yS (gF g3_6)) hS (zU ?_)))
  refine Oc7 ?_ hw
  refine zY O (fun c2=> ?_) (fun c2=> ?_)
  ·exact zV (yJ O (fun w' hw=>⟨O,(by rw[zEZ hr (.inr c2)];exact hw.sel [3,4,5] rfl qM)⟩))
  refine zO (zS (zD O (zD O (za O O (zJ (o:=23) O O (zn 3 O O O O O ?_))))))
  exact zd (yJ O (fun w' hw=>⟨O,(by rw[zGn hr V (Decidable.not_not.1 c2)];exact hw.sel [3,4,5] rfl qM)⟩))
def y3(l:LdD)(p:PeerM)(last:Nat)(again:Bool):Prop:=p.id=l.give∧p.qy=last∧(again=true∨l.qC=false)
instance (l:LdD)(p:PeerM)(last:Nat)(again:Bool):Decidable (y3 l p last again):=inferInstanceAs (Decidable (_∧_))
theorem handP_iff{l:LdD}{p:PeerM}{last:Nat}{again:Bool}:((p.id=l.give∧(p.qy:Int)=((0+last:Nat):Int))∧(again=true∨(!l.qC)=true))↔y3 l p last again:=by
  unfold y3
  rw[Nat.zero_add,Int.ofNat_inj,and_assoc,Bool.not_eq_true']
theorem zL5{S:List Nat}(cb jb:Nat)(t:TimD)(a:StA)(r:RolD)(b:StB)(yv:Value)(qd:Nat)(lv:Value)(es:List EntD)(ld:Nat)(l:LdD)(ob:Nat)(o:OutD)(k:Nat)(again:Bool)(w:World)(hg:(LG 0 0 es).good)(hl:es.length≤1000000)(hvl:b.vs.length≤12)(hk:k<l.qa.length)(ho:o.qj.length≤100000)(hin:Own w S [z4 cb t (pt ld) a r b yv jb qd (pt ob),Res.nl b lv es,Res.ld ld l,Res.ou ob o] w):Rets Tryz.prog 100 #[pt cb,pt ((zG l.qa k).1), .bool again] w fun u_ w'=>∃ (mv':Value),u_= .tuple #[]∧Own w S [z4 cb t (pt ld) a r b yv jb qd (pt ob),Res.nl b lv es,Res.ld ld ({l with qC:=if y3 l (zG l.qa k).2 es.length again then true else l.qC}:LdD),Res.ou ob ({o with mv:=mv',qj:=o.qj++(if y3 l (zG l.qa k).2 es.length again then [yd a t.term (yo 9 0 (zG l.qa k).2.id 0 0 0 0 0 false (.slice none 0 0) [])]else [])}:OutD)] w':=by
  have hb:=(LG.le hg).1
  refine zW Tryz.func100 O Tryz.ntmps100 hin ?_
  refine zB (zD O (za O O (zJ (o:=29) O O (zL 0 (v:=pt b.lb) O O O O (a_call O O (fun w' hw=>(kG b.lb 0 0 lv es w' qP qO (hw.qF 1 0 O O) (hw.qH 1 1 O O) (EntD.rd.qF 1 2 O O hw)).mono ?_))))))
  rintro _ w1 ⟨rfl,hO⟩
  refine O4 ?_ (hw.qi hO)
  refine zD O (z8 (vs:=[Vn (0+es.length),Vn ((LG 0 0 es).end_)]) O O O (z8 (vs:=[Vn (0+es.length),Vn ((LG 0 0 es).end_)]) O O O (zI O (zI O (zA (yX qN qN (zM O zT (zM O (zQ O) (zM O (zH (o:=0) O) (zM O (zAz (l:=l.qa) 2 2 k 0 O O ‹_› O O O qN) (zM O zT (zM O (zQ O) ?_))))))))))))
  refine zM O (zH (o:=9) O) (zM O (zZ 0 (v:=pt ld) O O O) (zM O (zQ O) (zM O (zH (o:=5) O) (zM O (j8 (v:=Vi l.give) 2 0 5 O O O O qN) (zM O (zDd O O) (zM O zT (zCk (q:=(((zG l.qa k).2).id)=l.give) 6 12 [34,33,32,31,30,29] (((((zG l.qa k).2).qy:Nat):Int)=((0+es.length:Nat):Int)) O O O O O O trivial O (fun h1_12=> ?_) (fun g1_19=> ?_))))))))
  ·refine yu O (gT h1_12) (zM O zT (yu O (gT h1_12) (zM O (zQ O) (yu O (gT h1_12) (zM O (zH (o:=2) O) (yu O (gT h1_12) (zM O (zAz (l:=l.qa) 2 2 k 2 O O ‹_› O O O qN) (yu O (gT h1_12) (zM O zT (yu O (gT h1_12) (zM O (zDd O O) ?_)))))))))))
   exact zEw O
  refine zM O zT (zCk (q:=((((zG l.qa k).2).id)=l.give)∧(((((zG l.qa k).2).qy:Nat):Int)=((0+es.length:Nat):Int))) 11 20 [47,46,45,44,43,42,41,40,39,38,37] ((again=true)∨((!l.qC)=true)) O O O O O O trivial O (fun h1_20=> ?_) (fun g1_32=> ?_))
  ·refine yu O (gT h1_20) (zM O zT (yu O (gT h1_20) (zM O zT (zHq (q:=again=true) 8 22 [46,45,44,43,42,41,40,39] ((!l.qC)=true) O O (xZ _) O O O ⟨_,O,O,gT h1_20⟩ O (fun h1_22=> ?_) (fun g1_31=> ?_)))))
   ·refine yu O (bF h1_22) (zM O zT (yu O (bF h1_22) (zM O (zQ O) (yu O (bF h1_22) (zM O (zH (o:=9) O) (yu O (bF h1_22) (zM O (zZ 0 (v:=pt ld) O O O) (yu O (bF h1_22) (zM O (zQ O) (yu O (bF h1_22) (zM O (zH (o:=6) O) (yu O (bF h1_22) ?_))))))))))))
    refine zM O (j8 (v:= .bool l.qC) 2 0 6 O O O O qN) (yu O (bF h1_22) (zM O (zEL (b:=l.qC) O) ?_))
    exact zEw (xZ _)
   exact zEw O
  refine xk (zY O (fun c1=> ?_) (fun c1=> ?_))
  ·have hp:=handP_iff.1 c1
   refine zB (zD O (za O O (zJ (o:=9) O O (zL 0 (v:=pt ld) O O O O (za O O (zJ (o:=6) O O ?_))))))
   refine z2 [z4 cb t (pt ld) a r b yv jb qd (pt ob),Res.nl b lv es,Res.ou ob o,yN ld l,vP l.pv l.qa,sP l.qa,vI l.av l.qe,vT l.rv l.qf,vL l.kv l.qk] (fun w' hw=>hw.qn 2 O) ?_
   refine zn (cs:=(LdD.cells l)) 3 O O O O O (zA (zS (zD O (zD O (za O O (zJ (o:=0) O O (zMH (l:=l.qa) 5 k 0 O ‹_› O O O qN O (ye (cs:=[Vi 9,Vi 0,Vi (((zG l.qa k).2).id),Vn 0,Vn 0,Vn 0,Vn 0,Vn 0, .bool false, .slice none 0 0, .slice none 0 0, .slice none 0 0,Vi 0, .slice none 0 0]) (z:=[Vi 0,Vi 0,Vi 0,Vn 0,Vn 0,Vn 0,Vn 0,Vn 0, .bool false, .slice none 0 0, .slice none 0 0, .slice none 0 0,Vi 0, .slice none 0 0]) (pl:=[(0,1),(1,1),(2,1),(3,1),(4,1),(5,1),(6,1),(7,1),(8,1),(9,1),(10,2),(12,1),(13,1)]) qN qN O (zy (e:=59) (sz:=14) (vs:=[.agg #[Vi 9,Vi 0,Vi (((zG l.qa k).2).id),Vn 0,Vn 0,Vn 0,Vn 0,Vn 0, .bool false, .slice none 0 0, .slice none 0 0, .slice none 0 0,Vi 0, .slice none 0 0]]) qN O O qY qM O (fun b61=> ?_))))))))))
   refine z2 [z4 cb t (pt ld) a r b yv jb qd (pt ob),Res.nl b lv es,Res.ou ob o,yN ld ({l with qC:=true}:LdD),vP l.pv l.qa,sP l.qa,vI l.av l.qe,vT l.rv l.qf,vL l.kv l.qk,vM (.slice (some ⟨b61,0,none⟩) 1 1) [(yo 9 0 (((zG l.qa k).2).id) 0 0 0 0 0 false (.slice none 0 0) [])],sM [(yo 9 0 (((zG l.qa k).2).id) 0 0 0 0 0 false (.slice none 0 0) [])]] (fun w' hw=>hw.msg0 ⟨O,O,O⟩ O O) ?_
   refine a_call O O (fun w' hw=>(jG cb jb t a r b (pt ld) yv qd ob _ (.slice (some ⟨b61,0,none⟩) 1 1) [(yo 9 0 (((zG l.qa k).2).id) 0 0 0 0 0 false (.slice none 0 0) [])] w' qS (hw.give [0,2,9,10] O qM)).mono ?_)
   rintro _ w1 ⟨mv'1_,rfl,hO⟩
   refine O9 ?_ (hw.qg [0,2,9,10] O hO)
   exact zd (yJ O (fun w' hw=>⟨mv'1_,O,(by rw[if_pos hp,if_pos hp];exact(hw.qo [1,2,3,4,5,6] rfl qM).sel [1,0,3,2] rfl qM)⟩))
  have hp:¬ y3 l (zG l.qa k).2 es.length again:=fun q=>c1 (handP_iff.2 q)
  exact yc (yJ O (fun w' hw=>⟨o.mv,O,(by rw[if_neg hp,if_neg hp,List.append_nil];exact hw)⟩))
def xL(es:List EntA)(p:PeerM):List EntA:=if p.qw<4∧(p.opn=true∨p.qw=0)then((LogA.mk 0 0 es).fromE p.next 8).1 else []
def ym(es:List EntA)(p:PeerM):PeerM:=if(xL es p).length=0 then p else{p with qw:=p.qw+1,next:=if p.opn=true then p.next+(xL es p).length else p.next}
def xF(a:StA)(term qc qf:Nat)(es:List EntA)(p:PeerM)(force:Bool):List MsgA:=
  if(xL es p).length=0∧force=false then []else [⟨5,a.id,p.id,term,p.next - 1,((LogA.mk 0 0 es).termE (p.next - 1)).1,qc,qf,false,xL es p,⟨[],[]⟩,0,[]⟩]
theorem zEN{es:List EntA}{p:PeerM}:(xL es p).length≤8:=by
  unfold xL LogA.fromE
  split
  · split
    · simp
    split
    · simp
    split
    · simp
    simp only[List.length_take];show min 8 _≤8;omega
  simp
theorem zJd{a:StA}{term qc qf x:Nat}{e:Int}{E:List EntA}{p:PeerM}{force:Bool}{ev:Value}{rs:List EntD}(hrs:rs.map EntD.toEntA=xL E p)(hx:(LogA.mk 0 0 E).termE (p.next - 1)=(x,e))(h:¬(rs.length=0∧force=false)):
    ([yo 5 0 p.id 0 (p.next - 1) x qc qf false ev rs].map (yd a term)).map MsgD.a=xF a term qc qf E p force:=by
  unfold xF
  rw[if_neg (by rw[←hrs,List.length_map];exact h),←hrs,hx];rfl
theorem zFq{E:List EntA}{p:PeerM}(h:(xL E p).length=0):ym E p=p:=if_pos h
theorem zI2{E:List EntA}{p:PeerM}{n:Nat}(hn:n=(xL E p).length)(h:¬ n=0)(h2:p.opn=true):ym E p={p with next:=p.next+n,qw:=p.qw+1}:=by unfold ym;rw[if_neg V,if_pos h2,hn]
theorem zHB{E:List EntA}{p:PeerM}{n:Nat}(hn:n=(xL E p).length)(h:¬ n=0)(h2:p.opn=false):ym E p={p with qw:=p.qw+1}:=by unfold ym;rw[if_neg V,if_neg (by rw[h2];simp)]
theorem zB0{ps:List PeerP}{k:Nat}(hk:k<ps.length):zx ps k (zG ps k).2=ps:=by
  unfold zx
  refine List.ext_getElem? fun i=> ?_
  rw[List.getElem?_set]
  split
  · rename_i e;subst e
    exact(ya hk).symm
  rfl
structure PeerM.bd(n:Nat)(p:PeerM):Prop where
  next:1≤p.next∧p.next≤n+1
  qy:p.qy≤n
  qw:0≤p.qw∧p.qw≤4
theorem zBz{S:List Nat}(cb jb:Nat)(t:TimD)(a:StA)(r:RolD)(b:StB)(yv:Value)(qd:Nat)(lv:Value)(es:List EntD)(ld:Nat)(l:LdD)(ob:Nat)(o:OutD)(k:Nat)(force:Bool)(w:World)(hg:(LG 0 0 es).good)(hl:es.length≤1000000)(hvl:b.vs.length≤12)(hk:k<l.qa.length)(ho:o.qj.length≤100000)(hp:(zG l.qa k).2.bd 1000000)(hr:l.qf.length≤1000000)(hin:Own w S [z4 cb t (pt ld) a r b yv jb qd (pt ob),Res.nl b lv es,Res.ld ld l,Res.ou ob o] w):Rets Tryz.prog 79 #[pt cb,pt ((zG l.qa k).1), .bool force] w fun u_ w'=>∃ (mv':Value) (ms:List MsgD),u_= .tuple #[]∧ms.map MsgD.a=xF a t.term r.qc l.qf.length (es.map EntD.toEntA) (zG l.qa k).2 force∧Own w S [z4 cb t (pt ld) a r b yv jb qd (pt ob),Res.nl b lv es,Res.ld ld ({l with qa:=zx l.qa k (ym (es.map EntD.toEntA) (zG l.qa k).2)}:LdD),Res.ou ob ({o with mv:=mv',qj:=o.qj++ms}:OutD)] w':=by
  have hb:=(LG.le hg).1
  have hpn:=hp.next
  have hpf:=hp.qw
  refine zW Tryz.func79 O Tryz.ntmps79 hin ?_
  refine zN (zg [0,1,2,3] O qM qN (fun w' hw hS=>zC 0 O zT hS (zC 1 O (zQ O) hS (zC 2 O (zH (o:=0) O) hS (zC 3 O (zAz (l:=l.qa) 2 2 k 0 O O qT O O O qN) hS (zC 4 O zT hS (zC 5 O (zQ O) hS (zC 6 O (zH (o:=23) O) hS (zC 7 O (zZ 0 (v:=Vn r.qc) O O O) hS (zC 8 O zT hS (zC 9 O (zQ O) hS (zC 10 O (zH (o:=9) O) hS ?_))))))))))))
  refine zC 11 O (zZ 0 O O O) hS (zC 12 O (zQ O) hS (zC 13 O (zH (o:=2) O) hS (zC 14 O (j8 (v:=l.rv) 2 0 2 O O O O qN) hS (zC 15 O (zAv (pC 2 4 O O) O) hS (zC 16 O (kV qN O (xO V) qN) hS (zC 17 O (zDX (cs:=[Vi 5,Vi 0,Vi (((zG l.qa k).2).id),Vn 0,Vn 0,Vn 0,Vn r.qc,Vn l.qf.length, .bool false, .slice none 0 0, .slice none 0 0, .slice none 0 0,Vi 0, .slice none 0 0]) (z:=[Vi 0,Vi 0,Vi 0,Vn 0,Vn 0,Vn 0,Vn 0,Vn 0, .bool false, .slice none 0 0, .slice none 0 0, .slice none 0 0,Vi 0, .slice none 0 0]) (pl:=[(0,1),(1,1),(2,1),(3,1),(4,1),(5,1),(6,1),(7,1),(8,1),(9,1),(10,2),(12,1),(13,1)]) qN qN) hS (zK 18 O hw (yE (v:= .agg #[Vi 0,Vi 0,Vi 0,Vn 0,Vn 0,Vn 0,Vn 0,Vn 0, .bool false, .slice none 0 0, .slice none 0 0, .slice none 0 0,Vi 0, .slice none 0 0]) qN O (fun b6=>zE [0,1,2,3] O qM (fun w' hw hS=>zK 19 O hw (zr 4 O O O (xQ O) O (zE [0,1,2,3] O qM (fun w' hw hS=> ?_)))))))))))))
  refine zU ?_
  refine Oc5 ?_ hw
  refine zN (yX qN qN (zM O zT (zM O (zQ O) (zM O (zH (o:=1) O) (zM O (zAz (l:=l.qa) 2 2 k 1 O O qT O O O qN) (zM O zT (zM O (zQ O) (zM O (zH (o:=24) O) (zM O (zH (o:=0) O) (zM O (zZ 0 (v:=Vn 0) O O O) (zM O (zH9 O O) (xk ?_))))))))))))
  refine zY O (fun c1=> ?_) (fun c1=> ?_)
  ·exact absurd c1 V
  refine zO (j7 (fun(ev:Value) (rs:List EntD)=>[(0,pt cb),(1,pt ((zG l.qa k).1)),(2, .bool force),(6,pt b6)]) (fun(ev:Value) (rs:List EntD)=>rs.map EntD.toEntA=xL (es.map EntD.toEntA) (zG l.qa k).2) (fun(ev:Value) (rs:List EntD)=>[z4 cb t (pt ld) a r b yv jb qd (pt ob),Res.nl b lv es,Res.ld ld l,Res.ou ob o,Res.row b6 59 [Vi 5,Vi 0,Vi ((zG l.qa k).2.id),Vn 0,Vn 0,Vn 0,Vn r.qc,Vn l.qf.length, .bool false,ev, .slice none 0 0, .slice none 0 0,Vi 0, .slice none 0 0],vE ev rs,sE rs]) ?_ (fun ev rs g hΦ=> ?_))
  ·refine zB (zD O (za O O (zJ (o:=4) O O (x0 (l:=l.qa) 2 2 k 4 O O qT O O O qN O (yG O O O (zD O (yK (q:=(((zG l.qa k).2).qw)<4) 11 5 [145,144,143,142,141,140,139,138,137,136,135] (((((zG l.qa k).2).opn)=true)∨((((zG l.qa k).2).qw)=0)) O O O O O O trivial O (fun h12_5=> ?_) (fun g12_17=> ?_))))))))
   ·refine zR O (gT h12_5) (zD O (zR O (gT h12_5) (za O O (zR O (gT h12_5) (zJ (o:=6) O O (zR O (gT h12_5) (x0 (l:=l.qa) 2 2 k 6 O O qT O O O qN O (zR O (gT h12_5) (zD O (yn (q:=(((zG l.qa k).2).opn)=true) 5 10 [144,143,142,141,140] ((((zG l.qa k).2).qw)=0) O O (xZ _) O O O ⟨_,O,O,gT h12_5⟩ O (fun h12_10=> ?_) (fun g12_16=> ?_)))))))))))
    ·refine zR O (bF h12_10) (zD O (zR O (bF h12_10) (za O O (zR O (bF h12_10) (zJ (o:=4) O O (zR O (bF h12_10) (x0 (l:=l.qa) 2 2 k 4 O O qT O O O qN O (zR O (bF h12_10) (yQ O O O ?_)))))))))
     exact yP O (fun _ hw=>hw)
    exact yP O (fun _ hw=>hw)
   refine zA (zY O (fun c2=> ?_) (fun c2=> ?_))
   ·refine zg [0,1,2,3] O qM qN (fun w' hw hS=>zC 0 O zT hS (zC 1 O (zQ O) hS (zC 2 O (zH (o:=29) O) hS (zC 3 O (zZ 0 (v:=pt b.lb) O O O) hS (zC 4 O zT hS (zC 5 O (zQ O) hS (zC 6 O (zH (o:=1) O) hS (zC 7 O (zAz (l:=l.qa) 2 2 k 1 O O qT O O O qN) hS (zK 8 O hw (a_call O O (fun w' hw=>(zHA b.lb 0 0 lv es (((zG l.qa k).2).next) 8 w' qO ‹_› (hw.qF 1 0 O O) (hw.qH 1 1 O O) (EntD.rd.qF 1 2 O O hw)).mono ?_)))))))))))
    rintro _ w1 ⟨r1_,rs2_,e3_,rfl,hf13_8,hO⟩
    refine O7 ?_ (hw.qi hO)
    refine zE [0,1,2,3] O qM (fun w' hw hS=>zC 9 O zT hS (zC 10 O (yT (vs:=[r1_,Vi e3_]) O O) hS (zC 11 O (yT (vs:=[r1_,Vi e3_]) O O) hS (zC 12 O (zH (o:=9) O) hS (zK 13 O hw ?_)))))
    refine zP (fun w' hw=>Own.qh (i:=5) O hw) (fun hc2_=> ?_)
    refine zn 4 O O O hc2_ O (zE [0,1,2,3] O qM (fun w' hw hS=>zU ?_))
    exact⟨r1_,rs2_,⟨O,O,O,O,trivial⟩,(by unfold xL;rw[if_pos c2];exact(congrArg Prod.fst hf13_8).symm),hw⟩
   exact yc (fun w' hw=>⟨.slice none 0 0,[],⟨O,O,O,O,trivial⟩,(by unfold xL;rw[if_neg c2];rfl),(Own.qG (zl hw 81 5))⟩)
  have hrs:=hΦ
  have hrl:rs.length=(xL (es.map EntD.toEntA) (zG l.qa k).2).length:=(by simpa using congrArg List.length hrs)
  have hr8:=zEN (es:=es.map EntD.toEntA) (p:=(zG l.qa k).2)
  refine zN (zB (zJ (o:=9) O O (zL 4 (v:=ev) O O O O (zo (pV 5 O) O O (yQ O O O (zD O (yK (q:=((rs.length:Nat):Int)=0) 2 4 [166,165] ((!force)=true) O O O O O O trivial O (fun h14_4=> ?_) (fun g14_7=> ?_))))))))
  ·refine zR O (gT h14_4) (zD O (zR O (gT h14_4) (zHn (b:=force) O O ?_)))
   exact yP (xZ _) (fun _ hw=>hw)
  refine zA (zY O (fun c3=> ?_) (fun c3=> ?_))
  ·have hq:rs.length=0∧force=false:=⟨by omega,by simpa using c3.2⟩
   exact zV (yJ O (fun w' hw=>⟨o.mv,[],O,(by unfold xF;rw[if_pos ⟨by omega,hq.2⟩];rfl),(by rw[zFq V,zB0 hk,List.append_nil];exact hw.sel [0,1,2,3] rfl qM)⟩))
  have hq:¬(rs.length=0∧force=false):=fun q=>c3 ⟨by omega,by simpa using q.2⟩
  refine zO (zB (zD O (za O O (zJ (o:=1) O O (x0 (l:=l.qa) 2 2 k 1 O O qT O O O qN O (kI (c:=(((zG l.qa k).2.next - 1:Nat):Int)) O O (ws (a:=(zG l.qa k).2.next) (b:=1) V V) O (zJ (o:=4) O O (zn 4 O O O O O (zA (zN (zg [0,1,2,3,5] O qM qN (fun w' hw hS=>zC 0 O zT hS ?_))))))))))))
  refine zC 1 O (zQ O) hS (zC 2 O (zH (o:=29) O) hS (zC 3 O (zZ 0 (v:=pt b.lb) O O O) hS (zC 4 O (zH (o:=4) O) hS (zK 5 O hw (zL 4 (v:=Vn ((zG l.qa k).2.next - 1)) O O O O (zE [0,1,2,3,5] O qM (fun w' hw hS=>zK 6 O hw (a_call O O (fun w' hw=>(zG1 b.lb 0 0 lv es ((zG l.qa k).2.next - 1) w' qP qO qO (hw.qF 1 0 O O) (hw.qH 1 1 O O) (EntD.rd.qF 1 2 O O hw)).mono ?_)))))))))
  rintro _ w1 ⟨x4_,e5_,rfl,hf16_6,hO⟩
  refine O7 ?_ (hw.qi hO)
  refine zE [0,1,2,3,5] O qM (fun w' hw hS=>zC 7 O zT hS (zC 8 O (yT (vs:=[Vn x4_,Vi e5_]) O O) hS (zC 9 O (yT (vs:=[Vn x4_,Vi e5_]) O O) hS (zC 10 O (zH (o:=5) O) hS (zK 11 O hw (zn 4 O O O O O (zE [0,1,2,3,5] O qM (fun w' hw hS=>zU ?_))))))))
  refine Oc7 ?_ hw
  refine yt (fun(q:PeerM)=>[(0,pt cb),(6,pt b6)]) (fun(q:PeerM)=>q=ym (es.map EntD.toEntA) (zG l.qa k).2) (fun(q:PeerM)=>[z4 cb t (pt ld) a r b yv jb qd (pt ob),Res.nl b lv es,Res.ld ld ({l with qa:=zx l.qa k q}:LdD),Res.ou ob o,Res.row b6 59 [Vi 5,Vi 0,Vi ((zG l.qa k).2.id),Vn 0,Vn ((zG l.qa k).2.next - 1),Vn x4_,Vn r.qc,Vn l.qf.length, .bool false,ev, .slice none 0 0, .slice none 0 0,Vi 0, .slice none 0 0],vE ev rs,sE rs]) ?_ (fun q g hΦ=> ?_)
  ·refine zB (zJ (o:=9) O O (zL 4 (v:=ev) O O O O (zo (pV 5 O) O O (y0 O O O (zA (zY O (fun c4=> ?_) (fun c4=> ?_)))))))
   ·refine zB (zD O (za O O (zJ (o:=4) O O (x0 (l:=l.qa) 2 2 k 4 O O qT O O O qN O (zp O O (zq V) O (za O O (zJ (o:=4) O O ?_)))))))
    refine z2 [z4 cb t (pt ld) a r b yv jb qd (pt ob),Res.nl b lv es,Res.ou ob o,Res.row b6 59 [Vi 5,Vi 0,Vi ((zG l.qa k).2.id),Vn 0,Vn ((zG l.qa k).2.next - 1),Vn x4_,Vn r.qc,Vn l.qf.length, .bool false,ev, .slice none 0 0, .slice none 0 0,Vi 0, .slice none 0 0],vE ev rs,sE rs,yN ld l,vP l.pv l.qa,sP l.qa,vI l.av l.qe,vT l.rv l.qf,vL l.kv l.qk] (fun w' hw=>hw.qn 2 O) ?_
    refine z2 [z4 cb t (pt ld) a r b yv jb qd (pt ob),Res.nl b lv es,Res.ou ob o,Res.row b6 59 [Vi 5,Vi 0,Vi ((zG l.qa k).2.id),Vn 0,Vn ((zG l.qa k).2.next - 1),Vn x4_,Vn r.qc,Vn l.qf.length, .bool false,ev, .slice none 0 0, .slice none 0 0,Vi 0, .slice none 0 0],vE ev rs,sE rs,yN ld l,vP l.pv l.qa,vI l.av l.qe,vT l.rv l.qf,vL l.kv l.qk,x4 ((zG l.qa k).1) ((zG l.qa k).2),sP (l.qa.eraseIdx k)] (fun w' hw=>hw.qI (g:=PeerP.dres) 8 k qT O) ?_
    refine zn (cs:=(PeerM.cells ((zG l.qa k).2))) 11 O O O O O (zA (zB (zD O (za O O (zJ (o:=6) O O (zL 11 (v:= .bool (((zG l.qa k).2).opn)) O O O O (zA (zA0 O (fun c5=> ?_) (fun c5=> ?_)))))))))
    ·refine zg [0,1,2,3,4,6,7,8,9,10,12] O qM qN (fun w' hw hS=>zC 0 O zT hS (zC 1 O (zQ O) hS (zC 2 O (zH (o:=1) O) hS (zC 4 O (zH (o:=9) O) hS (zC 5 O (zZ 3 (v:=ev) O O O) hS (zC 6 O (zAv (pV 4 O) O) hS (zC 7 O (kV qN O (xO V) qN) hS (zK 3 O hw (zL 11 (v:=Vn (((zG l.qa k).2).next)) O O O O (zE [0,1,2,3,4,6,7,8,9,10,12] O qM (fun w' hw hS=>zC 8 O (yq O O (xO V)) hS (zC 9 O (zQ O) hS ?_))))))))))))
     refine zC 10 O (zH (o:=1) O) hS (zK 11 O hw (zn 11 O O O O O (zE [0,1,2,3,4,6,7,8,9,10,12] O qM (fun w' hw hS=>zU ?_))))
     exact⟨({(zG l.qa k).2 with next:=(zG l.qa k).2.next+rs.length,qw:=(zG l.qa k).2.qw+1}:PeerM),⟨O,O,trivial⟩,(zI2 hrl V c5).symm,((hw.peerIn 11 12 7 k ({((zG l.qa k).2)with next:=(((zG l.qa k).2).next)+rs.length,qw:=(((zG l.qa k).2).qw)+1}:PeerM) qT qM O O O).qo [6,10,11,7,8,9] O qM).sel [0,1,6,2,3,4,5] O qM⟩
    exact yc (fun w' hw=>⟨({(zG l.qa k).2 with qw:=(zG l.qa k).2.qw+1}:PeerM),⟨O,O,trivial⟩,(zHB hrl V c5).symm,((hw.peerIn 11 12 7 k ({((zG l.qa k).2)with qw:=(((zG l.qa k).2).qw)+1}:PeerM) qT qM O O O).qo [6,10,11,7,8,9] O qM).sel [0,1,6,2,3,4,5] O qM⟩)
   exact yc (fun w' hw=>⟨(zG l.qa k).2,⟨O,O,trivial⟩,(zFq V).symm,(by rw[zB0 hk];exact hw)⟩)
  have hq2:=hΦ
  refine zS (zD O (yI 4 O O O (zy (e:=59) (sz:=14) (vs:=[.agg #[Vi 5,Vi 0,Vi ((zG l.qa k).2.id),Vn 0,Vn ((zG l.qa k).2.next - 1),Vn x4_,Vn r.qc,Vn l.qf.length, .bool false,ev, .slice none 0 0, .slice none 0 0,Vi 0, .slice none 0 0]]) qN O O qY qM O (fun b213=> ?_))))
  refine z2 [z4 cb t (pt ld) a r b yv jb qd (pt ob),Res.nl b lv es,Res.ld ld ({l with qa:=zx l.qa k q}:LdD),Res.ou ob o,Res.row b6 59 [Vi 5,Vi 0,Vi ((zG l.qa k).2.id),Vn 0,Vn ((zG l.qa k).2.next - 1),Vn x4_,Vn r.qc,Vn l.qf.length, .bool false,ev, .slice none 0 0, .slice none 0 0,Vi 0, .slice none 0 0],vM (.slice (some ⟨b213,0,none⟩) 1 1) [(yo 5 0 ((zG l.qa k).2.id) 0 ((zG l.qa k).2.next - 1) x4_ r.qc l.qf.length false ev rs)],sM [(yo 5 0 ((zG l.qa k).2.id) 0 ((zG l.qa k).2.next - 1) x4_ r.qc l.qf.length false ev rs)]] (fun w' hw=>hw.msgIn (m:=(yo 5 0 ((zG l.qa k).2.id) 0 ((zG l.qa k).2.next - 1) x4_ r.qc l.qf.length false ev rs)) 5 6 qM ⟨O,O,O⟩ O O) ?_
  refine a_call O O (fun w' hw=>(jG cb jb t a r b (pt ld) yv qd ob _ (.slice (some ⟨b213,0,none⟩) 1 1) [(yo 5 0 ((zG l.qa k).2.id) 0 ((zG l.qa k).2.next - 1) x4_ r.qc l.qf.length false ev rs)] w' qS (hw.give [0,3,5,6] O qM)).mono ?_)
  rintro _ w1 ⟨mv'6_,rfl,hO⟩
  refine O5 ?_ (hw.qg [0,3,5,6] O hO)
  exact zd (yJ O (fun w' hw=>⟨mv'6_,[yd a t.term (yo 5 0 (zG l.qa k).2.id 0 ((zG l.qa k).2.next - 1) x4_ r.qc l.qf.length false ev rs)],O,zJd hrs hf16_6 hq,(by rw[←hq2];exact hw.sel [3,0,1,4] rfl qM)⟩))
end Go.Proofs.YtkkeknmkipkbmaaGreat
