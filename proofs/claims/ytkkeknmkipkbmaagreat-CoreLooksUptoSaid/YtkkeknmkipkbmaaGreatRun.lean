import Derived.Test.YtkkeknmkipkbmaaGreatAct
set_option linter.unusedSectionVars false
set_option linter.unusedSimpArgs false
set_option linter.unusedVariables false
set_option maxRecDepth 10000
namespace Go.Proofs.YtkkeknmkipkbmaaGreat
open Go Go.Sc Go.Proofs
inductive Run(N:Nat)(ch:Bool)(lk:Nat)(M:MsgA→Prop)(i:Nat):Nat→NodA→NodA→List MsgA→List RdyD→Prop
  |nil (n:NodA):Run N ch lk M i 0 n n [] []
  |more {j:Nat} {n n1 n2:NodA} {ms ms2:List MsgA} {rs rs2:List RdyD} (h:Act N ch lk M i n n1 ms rs) (h2:Run N ch lk M i j n1 n2 ms2 rs2):Run N ch lk M i (j+1) n n2 (ms++ms2) (rs++rs2)
def Rn(N:Nat)(ch:Bool)(lk:Nat)(M:MsgA→Prop)(i:Nat)(c:Nat)(n:NodA)(x:NodA×OutA):Prop:=∃ j,j≤c∧Run N ch lk M i j n x.1 x.2.ms x.2.qw
section
variable {N:Nat} {ch:Bool} {lk:Nat} {M:MsgA→Prop} {i:Nat} {n n1 n2:NodA} {c:Nat} {x:NodA×OutA} {ms ms2:List MsgA} {rs rs2:List RdyD} {ls:List Nat}
theorem Rn.none:Rn N ch lk M i c n (n,⟨[],[],ls⟩):=⟨0,Nat.zero_le _, .nil n⟩
theorem Rn.put(h:Act N ch lk M i n n1 ms rs)(h2:Rn N ch lk M i c n1 (n2,⟨ms2,rs2,ls⟩)):Rn N ch lk M i (c+1) n (n2,⟨ms++ms2,rs++rs2,ls⟩):=by
  obtain⟨j,hj,hr⟩:=h2
  exact⟨j+1,Nat.succ_le_succ hj, .more h hr⟩
theorem Rn.pre(h:Act N ch lk M i n n1 [] [])(h2:Rn N ch lk M i c n1 x):Rn N ch lk M i (c+1) n x:=by
  obtain⟨j,hj,hr⟩:=h2
  exact⟨j+1,Nat.succ_le_succ hj, .more h hr⟩
theorem Rn.last(h:Act N ch lk M i n n1 ms rs):Rn N ch lk M i (c+1) n (n1,⟨ms,rs,ls⟩):=by
  have h2:Run N ch lk M i (0+1) n n1 (ms++[]) (rs++[]):= .more h (.nil n1)
  rw[List.append_nil,List.append_nil]at h2
  exact⟨1,by omega,h2⟩
theorem Rn.le{c':Nat}(h:Rn N ch lk M i c n x)(hc:c≤c'):Rn N ch lk M i c' n x:=by
  obtain⟨j,hj,hr⟩:=h
  exact⟨j,Nat.le_trans hj hc,hr⟩
theorem Rn.lost{ls':List Nat}(h:Rn N ch lk M i c n x):Rn N ch lk M i c n (x.1,{x.2 with qt:=ls'}):=h
end
structure Cx(N:Nat)(ch:Bool)(lk:Nat)(M:MsgA→Prop)(i K:Nat)(n:NodA):Prop where
  hN:1≤N∧N≤5
  hi:i<N
  B:NodB N lk K i n
  M:∀ q,M q→MsgB N K q
section
variable {N:Nat} {ch:Bool} {lk:Nat} {M:MsgA→Prop} {i K:Nat} {n n1 n2:NodA} {ms:List MsgA} {rs:List RdyD}
theorem Cx.act(h:Cx N ch lk M i K n)(ha:Act N ch lk M i n n1 ms rs)(hK:K≤99999):Cx N ch lk M i (K+1) n1:=
  ⟨h.hN,h.hi,(zII h.hN h.hi h.B h.M ha hK).1,fun q hq=>(h.M q hq).up (Nat.le_succ K)⟩
theorem Cx.cf(h:Cx N ch lk M i K n):CfI N (jy N n):=zE3 h.hN h.B.qm
theorem zGS{i:Nat}{term:Nat}{vs:List Int}{kind:Int}{tm:Nat}{flag:Bool}{E:List EntA}{m:MsgA}(hm:m∈kZ (aN i) term vs kind tm flag E):∃ v∈vs,m=⟨kind,xc i,v,if kind=1∨kind=2 then tm else term,E.length,(LogA.mk 0 0 E).end_,0,0,flag,[],⟨[],[]⟩,0,[]⟩:=by
  unfold kZ xE at hm
  rw[List.map_map]at hm
  obtain⟨v,hv,rfl⟩:=List.mem_map.1 hm
  exact⟨v,(List.mem_filter.1 hv).1,O⟩
theorem zC2{a:StA}{term:Nat}{vs:List Int}{kind:Int}{tm:Nat}{flag:Bool}{E:List EntA}:(kZ a term vs kind tm flag E).length≤vs.length:=by
  unfold kZ xE
  rw[List.map_map,List.length_map]
  exact List.length_filter_le _ _
theorem zEj{E:List EntA}{p:PeerM}(h1:1≤p.next):xQ E p=(E.drop (p.next - 1)).take (xQ E p).length:=by
  unfold xQ
  split
  · unfold LogA.fromE
    rw[if_neg (show ¬ p.next≤0 by omega)]
    split
    · rfl
    rw[if_neg qM]
    show(E.drop _).take 8=(E.drop _).take (((E.drop _).take 8).length)
    rw[Nat.sub_zero,List.length_take,List.take_eq_take_iff.2]
    omega
  rfl
theorem zC6{l:LdD}{p:PeerM}{force:Bool}{c r term:Nat}{m:MsgA}{E:List EntA}(hp:1≤p.next∧p.next≤E.length+1)(hid:1≤p.id∧p.id≤(N:Int))(hc:c=n.r.qc)(hr:r=l.qd.length)(hm:m∈xM (aN i) term c r E p force)(ht:term=n.t.term:=by rfl)(hE:E=n.E:=by rfl):FeedM N i n l m:=by
  subst ht hE
  unfold xM at hm
  split at hm
  · cases hm
  rw[List.mem_singleton.1 hm]
  exact⟨⟨O,hid,O,O⟩,O,O,by show p.next - 1≤_;omega,O,hc,hr,zEq,zEj hp.1⟩
theorem jH{a:StA}{term c r:Nat}{E:List EntA}{p:PeerM}{force:Bool}:(xM a term c r E p force).length≤1:=by
  unfold xM;split<;>simp
theorem zBV{f:PeerM→List MsgA}(hf:∀ p,(f p).length≤1):∀ (ps:List PeerP),(jR f ps).length≤ps.length
  | []=>Nat.le_refl _
  |p::ps=>by
    have h1:=hf p.2
    have h2:=zBV hf ps
    unfold jR at h2 ⊢
    rw[List.flatMap_cons,List.length_append,List.length_cons];omega
theorem zGz{f:PeerM→List MsgA}{ps:List PeerP}{m:MsgA}(hm:m∈jR f ps):∃ q∈ps,m∈f q.2:=List.mem_flatMap.1 hm
theorem zGx{E:List EntA}{p:PeerM}(h1:1≤p.next∧p.next≤E.length+1):p.next+(xQ E p).length≤E.length+1:=by
  have h:=congrArg List.length (zEj (E:=E) h1.1)
  rw[List.length_take,List.length_drop]at h;omega
theorem zI6{E:List EntA}{p:PeerM}(h:¬(xQ E p).length=0):p.qx<4:=by
  unfold xQ at h
  split at h
  · rename_i q;exact q.1
  exact absurd rfl h
theorem zAQ{E:List EntA}{R:Nat}{p:PeerM}(h:PeerB E.length R p):PeerB E.length R (yq E p):=by
  unfold yq
  split
  · exact h
  rename_i q
  have h1:=zI6 q
  have h2:=h.qx
  have h3:=zGx h.next
  have h4:=h.next
  refine⟨?_,h.qy,by show 0≤p.qx+1∧p.qx+1≤4;omega,h.round⟩
  show 1≤(if p.opn=true then p.next+(xQ E p).length else p.next)∧(if p.opn=true then p.next+(xQ E p).length else p.next)≤E.length+1
  split<;>omega
theorem zBk{E R:Nat}{p:PeerM}(h:PeerB E R p):PeerB E R (xo p):=by
  have h1:=h.qy
  unfold xo
  cases p.told with
  |true=>exact⟨h.next,h.qy,h.qx,h.round⟩
  |false=>exact⟨by show 1≤p.qy+1∧p.qy+1≤_;omega,h.qy,by show(0:Int)≤0∧(0:Int)≤4;decide,h.round⟩
theorem feedP_same{E:List EntA}{p:PeerM}:(yq E p).id=p.id∧(yq E p).qy=p.qy∧(yq E p).round=p.round:=by
  unfold yq;split<;>exact⟨rfl,rfl,rfl⟩
theorem resetP_same{p:PeerM}:(xo p).id=p.id∧(xo p).qy=p.qy∧(xo p).round=p.round:=by
  unfold xo;cases p.told<;>exact⟨rfl,rfl,rfl⟩
theorem zD3{E:List EntA}{p:PeerM}:(yG E p).id=p.id∧(yG E p).qy=p.qy∧(yG E p).round=p.round:=by
  obtain⟨h1,h2,h3⟩:=feedP_same (E:=E) (p:=xo p)
  obtain⟨g1,g2,g3⟩:=resetP_same (p:=p)
  exact⟨h1.trans g1,h2.trans g2,h3.trans g3⟩
theorem LdS.all{l:LdD}{f:PeerM→PeerM}{R:List Int}{sure:Nat}{gv:Int}{gn:Bool}{an:List Int}(hf:∀ p,(f p).id=p.id∧(f p).qy=p.qy∧(f p).round=p.round)(hb:∀ p∈l.qa,PeerB n.E.length R.length (f p.2))(hR:R=l.qd∨R=l.qd++[n.t.now])(ha:an.length≤l.qf.length+1):LdS M n l {l with qa:=l.qa.map fun q=>(q.1,f q.2),qd:=R,sure:=sure,give:=gv,qB:=gn,qf:=an}:=by
  refine⟨?_,fun p' hp=> ?_,fun p' hp=> ?_,hR,O,ha⟩
  · show(l.qa.map fun q=>(q.1,f q.2)).map _=_
    rw[List.map_map]
    exact List.map_congr_left fun q _=>(hf q.2).1
  · obtain⟨q,hq,rfl⟩:=List.mem_map.1 hp
    exact⟨q,hq,(hf q.2).1, .inl (hf q.2).2.1, .inl (hf q.2).2.2⟩
  obtain⟨q,hq,rfl⟩:=List.mem_map.1 hp
  exact hb q hq
theorem LdS.keep{l:LdD}{gv:Int}{gn:Bool}{an:List Int}(hb:∀ p∈l.qa,PeerB n.E.length l.qd.length p.2)(ha:an.length≤l.qf.length+1):LdS M n l {l with give:=gv,qB:=gn,qf:=an}:=
  ⟨rfl,fun p hp=>⟨p,hp,rfl, .inl rfl, .inl rfl⟩,hb, .inl rfl,rfl,ha⟩
theorem zDk(h:Cx N ch lk M i K n)(hK:K≤99990)(hr:n.r.qp=3)(hq:(jy N n).qv n.yes):Rn N ch lk M i 4 n (zBA (ja (aN i) (y5 N) n)):=by
  have a1:Act N ch lk M i n (zAa N i n) [] []:= .elect hr hq
  have h1:=h.act a1 V
  have a2:Act N ch lk M i (zAa N i n) _ [] []:= .count (ldZ N i n) rfl rfl
  have h2:=h1.act a2 V
  have hb:=(h2.B.ld (ldZ N i n) rfl)
  refine Rn.pre a1 (Rn.pre a2 (Rn.pre (n1:=(ja (aN i) (y5 N) n).1) (.lead (ldZ N i n) {ldZ N i n with qa:=(ldZ N i n).qa.map fun q=>(q.1,yG (n.E++[zAv n.E.length n.t.term]) q.2)} O O ?_) (Rn.last (.feed {ldZ N i n with qa:=(ldZ N i n).qa.map fun q=>(q.1,yG (n.E++[zAv n.E.length n.t.term]) q.2)} _ O O ?_ ?_))))
  · exact LdS.all (R:=(ldZ N i n).qd) (fun p=>zD3) (fun p hp=>zAQ (zBk (hb.pb p hp))) (.inl rfl) (Nat.le_succ _)
  · intro m hm
    obtain⟨q,hq,hm⟩:=zGz hm
    have h3:=zBk (hb.pb q hq)
    exact zC6 h3.next (by rw[resetP_same.1];exact hb.mem q hq) O O hm
  have h3:=zBV (f:=zAI (aN i) n.t.term (yY (aN i) n.t.term (y5 N) (n.E++[zAv n.E.length n.t.term]) (jZ (aN i) (y5 N) n.E) n.r.qc) 1 (n.E++[zAv n.E.length n.t.term])) (fun p=>jH) (ldZ N i n).qa
  have h4:=hb.len
  have:=h.hN
  exact Nat.le_trans h3 V
theorem zHu{vs:List Int}(hv:∀ v∈vs,1≤v∧v≤(N:Int))(hB:(LogA.mk 0 0 n.E).end_≤n.t.term):∀ m∈kZ (aN i) n.t.term vs 1 (n.t.term+1) false n.E,SayM N M i n m:=fun m hm=>by
  obtain⟨v,hv',rfl⟩:=zGS hm
  exact⟨⟨O,hv v hv',O,O⟩, .inl O, .inl (Nat.le_refl _),fun q=>absurd q (by show ¬(1:Int)=6;decide),Nat.le_refl _,hB,O, .inl O,O⟩
theorem zHX{vs:List Int}{flag:Bool}(hv:∀ v∈vs,1≤v∧v≤(N:Int)):∀ m∈kZ (aN i) n.t.term vs 3 0 flag n.E,AskM N i n m:=fun m hm=>by
  obtain⟨v,hv',rfl⟩:=zGS hm
  exact⟨⟨O,hv v hv',O,O⟩,O,O,O,O,O,O,O⟩
theorem zCH{dr:Nat}{force:Bool}(h:Cx N ch lk M i K n)(hK:K≤99980):Rn N ch lk M i 5 n (zBA (zAV (aN i) (y5 N) dr force n)):=by
  have a1:=Act.stand (N:=N) (ch:=ch) (lk:=lk) (M:=M) (i:=i) (n:=n) (n.t.now+y4 (aN i) dr)
  have h1:=h.act a1 V
  unfold zAV
  dsimp only
  split
  · rename_i q
    exact Rn.pre a1 (zDk h1 V O q)
  have h4:=h.cf.len
  have:=h.hN
  exact Rn.pre a1 (Rn.last (.asks _ O (zHX (n:={n with t:={n.t with term:=n.t.term+1,qD:=xc i,due:=n.t.now+y4 (aN i) dr},r:=⟨3,0,n.r.qc⟩,ld:=none,yes:=[xc i]}) (vs:=(zc (y5 N) n.E).vs) (flag:=force) (fun v hv=>h.cf.mem v (.inl hv))) (Nat.le_trans zC2 (by show(jy N n).vs.length≤16;omega))))
theorem zNm{dr:Nat}(h:Cx N ch lk M i K n)(hK:K≤99970):Rn N ch lk M i 6 n (zBA (zKP (aN i) (y5 N) dr n)):=by
  have a1:=Act.cand (N:=N) (ch:=ch) (lk:=lk) (M:=M) (i:=i) (n:=n)
  have h1:=h.act a1 V
  unfold zKP
  dsimp only
  split
  · exact Rn.pre a1 (zCH h1 V)
  have h4:=h.cf.len
  have:=h.hN
  exact(Rn.pre (c:=1) a1 (Rn.last (c:=0) (.say _ (zHu (fun v hv=>h.cf.mem v (.inl hv)) h.B.hen) (Nat.le_trans zC2 (by show(jy N n).vs.length≤16;omega))))).le V
theorem zBC{now:Int}(h:Cx N ch lk M i K n)(hn:0≤now∧now≤2000000000000):Act N ch lk M i n (k8 now n) [] []:=by
  have h1:=h.B.tim
  exact .tim _ ⟨O,O⟩ ⟨by show 0≤max n.t.now now∧max n.t.now now≤_;have:=h1.hn;omega,h1.hh,h1.hbt,h1.hck,by show 0≤n.t.qC∧n.t.qC≤max n.t.now now;have:=h1.hst;omega⟩
theorem zEp{l:LdD}(h:Cx N ch lk M i K n)(hK:K≤99980)(hr:n.r.qp=4)(hl:n.ld=some l):Rn N ch lk M i 3 n (zBA (zGY (aN i) (y5 N) n l)):=by
  have h1:=h.B.tim
  have hb:=h.B.ld l hl
  have a1:Act N ch lk M i n {n with t:={n.t with qE:=n.t.now}} [] []:= .tim _ ⟨rfl,rfl⟩ ⟨h1.hn,h1.hh,h1.hn,h1.hck,h1.hst⟩
  refine Rn.pre a1 (Rn.pre (.lead l {l with qa:=l.qa.map fun q=>(q.1,yG n.E q.2),qd:=l.qd++[n.t.now],sure:=if(zc (y5 N) n.E).qv [(aN i).id]then l.qd.length+1 else l.sure} hr hl ?_) (Rn.last (.feed {l with qa:=l.qa.map fun q=>(q.1,yG n.E q.2),qd:=l.qd++[n.t.now],sure:=if(zc (y5 N) n.E).qv [(aN i).id]then l.qd.length+1 else l.sure} _ hr O ?_ ?_)))
  · exact LdS.all (fun p=>zD3) (fun p hp=>(zAQ (zBk (hb.pb p hp))).up (Nat.le_refl _) (by rw[List.length_append];omega)) (.inr rfl) (Nat.le_succ _)
  · intro m hm
    obtain⟨q,hq,hm⟩:=zGz hm
    have h3:=zBk (hb.pb q hq)
    exact zC6 h3.next (by rw[resetP_same.1];exact hb.mem q hq) O (by rw[List.length_append];rfl) hm
  have h3:=zBV (f:=zAI (aN i) n.t.term n.r.qc (l.qd.length+1) n.E) (fun p=>jH) l.qa
  have h4:=hb.len
  have:=h.hN
  exact Nat.le_trans h3 V
theorem zGk{l:LdD}(h:Cx N ch lk M i K n)(hK:K≤99970)(hr:n.r.qp=4)(hl:n.ld=some l):Rn N ch lk M i 4 n (zDA (aN i) (y5 N) n l):=by
  have hb:=h.B.ld l hl
  have hs:LdS M n l (if n.t.gd≤n.t.now then{l with give:=0}else l):=by
    split
    · exact LdS.keep hb.pb (Nat.le_succ _)
    exact LdS.keep hb.pb (Nat.le_succ _)
  have a1:=Act.lead (N:=N) (ch:=ch) (lk:=lk) (M:=M) (i:=i) (n:=n) l _ hr hl hs
  have h1:=h.act a1 V
  unfold zDA
  dsimp only
  split
  · exact Rn.pre a1 (zEp h1 V hr rfl)
  exact Rn.last a1
theorem zGy{dr:Nat}{l:LdD}(h:Cx N ch lk M i K n)(hK:K≤99960)(hr:n.r.qp=4)(hl:n.ld=some l):Rn N ch lk M i 6 n (kc (aN i) (y5 N) dr n l):=by
  have ht:=h.B.tim
  have hb:=h.B.ld l hl
  have hT:TimB (if(zc (y5 N) n.E).qv [(aN i).id]then{n.t with qA:=n.t.now}else n.t):=by
    split
    · exact⟨ht.hn,ht.hn,ht.hbt,ht.hck,ht.hst⟩
    exact ht
  have hTt:(if(zc (y5 N) n.E).qv [(aN i).id]then{n.t with qA:=n.t.now}else n.t).term=n.t.term∧(if(zc (y5 N) n.E).qv [(aN i).id]then{n.t with qA:=n.t.now}else n.t).qD=n.t.qD∧(if(zc (y5 N) n.E).qv [(aN i).id]then{n.t with qA:=n.t.now}else n.t).now=n.t.now:=by
    split<;>exact⟨rfl,rfl,rfl⟩
  unfold kc
  dsimp only
  generalize (if(zc (y5 N) n.E).qv [(aN i).id]then{n.t with qA:=n.t.now}else n.t)=t1 at hT hTt ⊢
  split
  · split
    · have a1:Act N ch lk M i n {n with t:={t1 with due:=n.t.now+y4 (aN i) dr}} [] []:= .tim _ ⟨hTt.1,hTt.2.1⟩ ⟨hT.hn,hT.hh,hT.hbt,hT.hck,hT.hst⟩
      exact Rn.pre a1 (Rn.last (.follow 0))
    have a1:Act N ch lk M i n {n with t:={t1 with qz:=n.t.now}} [] []:= .tim _ ⟨hTt.1,hTt.2.1⟩ ⟨hT.hn,hT.hh,hT.hbt,ht.hn,hT.hst⟩
    have h1:=h.act a1 V
    have a2:Act N ch lk M i {n with t:={t1 with qz:=n.t.now}} {n with t:={t1 with qz:=n.t.now},ld:=some {l with qf:=[]}} [] []:= .lead l _ hr hl (LdS.keep hb.pb (Nat.zero_le _))
    have h2:=h1.act a2 V
    have h3:=zGk h2 V hr rfl
    exact Rn.pre a1 (Rn.pre a2 h3)
  have a1:Act N ch lk M i n {n with t:=t1} [] []:= .tim _ ⟨hTt.1,hTt.2.1⟩ hT
  have h1:=h.act a1 V
  exact(Rn.pre a1 (zGk h1 V hr hl)).le V
theorem zGM{now:Int}{dr:Nat}(h:Cx N ch lk M i K n)(hK:K≤99950)(hn:0≤now∧now≤2000000000000):Rn N ch lk M i 8 n (xJ (aN i) (y5 N) now dr n):=by
  have a1:=zBC h hn
  have h1:=h.act a1 V
  unfold xJ
  dsimp only
  refine(Rn.pre a1 ?_:Rn N ch lk M i (7+1) n _)
  split
  · rename_i hr
    split
    · rename_i l hl
      exact(zGy h1 V hr hl).le V
    exact Rn.none
  split
  · have ht:=h1.B.tim
    have a2:Act N ch lk M i (k8 now n) {k8 now n with t:={(k8 now n).t with due:=(k8 now n).t.now+y4 (aN i) dr}} [] []:= .tim _ ⟨rfl,rfl⟩ ⟨ht.hn,ht.hh,ht.hbt,ht.hck,ht.hst⟩
    have h2:=h1.act a2 V
    split
    · exact(Rn.pre a2 (zNm h2 V):Rn N ch lk M i (6+1) _ _)
    exact Rn.last a2
  exact Rn.none
theorem zNu{E:List EntA}{u k t:Nat}(hg:(LogA.mk 0 0 E).good)(h:(LogA.mk 0 0 E).end_≤u):((LogA.mk 0 0 E).hint k t).1≤E.length∧((LogA.mk 0 0 E).hint k t).2≤u:=by
  have key:∀ m,m≤E.length→((LogA.mk 0 0 E).hintN k t m).1≤E.length∧((LogA.mk 0 0 E).hintN k t m).2≤u:=by
    intro m
    induction m with
    |zero=>intro _;exact⟨Nat.zero_le _,Nat.zero_le _⟩
    |succ m ih=>
      intro hm
      unfold LogA.hintN
      have h1:=folA.idx hg.fol m (by show m<E.length;omega)
      have h2:=zAq hg.fol _ (zd (l:=E) (j:=m) V)
      have h3:=ih V
      split
      · exact⟨by show(zG E m).index≤_;have h4:(zG E m).index=0+m+1:=h1;omega,Nat.le_trans h2 h⟩
      exact h3
  exact key _ (Nat.le_refl _)
theorem zBz{kind dst:Int}{term:Nat}{flag:Bool}(hk:kind=2∨kind=9∨kind=4∧flag=false)(hd:1≤dst∧dst≤(N:Int))(ht:term≤n.t.term+1∨∃ q,M q∧term=q.term):∀ m∈ [one (aN i) kind dst term flag],SayM N M i n m:=fun m hm=>by
  rw[List.mem_singleton.1 hm]
  exact⟨⟨O,hd,O,O⟩,by show kind=1∨kind=2∨kind=9∨(kind=4∨kind=6)∧flag=false;rcases hk with h|h|h;exact .inr (.inl h);exact .inr (.inr (.inl h));exact .inr (.inr (.inr ⟨.inl h.1,h.2⟩)),ht,fun q=>by have e:kind=6:=q;rcases hk with h|h|h<;>omega,Nat.zero_le _,Nat.zero_le _,O, .inl O,O⟩
theorem zPG{q:MsgA}{idx lt:Nat}(hq:M q)(hB:MsgB N K q)(hk:q.kind=5∧q.term=n.t.term)(h1:idx≤n.E.length)(h2:lt≤n.t.term):∀ m∈ [jk (aN i) n.t.term q 6 idx lt false],SayM N M i n m:=fun m hm=>by
  rw[List.mem_singleton.1 hm]
  exact⟨⟨O,hB.src,O,O⟩, .inr (.inr (.inr ⟨.inr O,O⟩)), .inl (Nat.le_succ _),fun _=>O,h1,h2,O, .inr ⟨q,hq,hk.1,hk.2,O⟩,O⟩
theorem zG9{q:MsgA}(h:Cx N ch lk M i K n)(hK:K≤99990)(hq:M q)(hk:q.kind=5∧q.dst=xc i∧q.term=n.t.term)(hr:n.r.qp=1)(hld:n.ld=none):Rn N ch lk M i 1 n (zBA (jD (aN i) q n)):=by
  have hm:=h.M q hq
  unfold jD
  split
  · rename_i c;exact Rn.last (.low q hq hk hr c)
  rename_i c
  split
  · exact Rn.none
  rename_i c2
  split
  · rename_i c3
    unfold LogA.ans at c3
    by_cases f1:folA q.index q.ql q.qm
    · rw[if_pos f1]at c3
      by_cases f2:(LogA.mk 0 0 n.E).fits q.index q.ql
      · have e1:((LogA.mk 0 0 n.E).ans q.index q.ql q.qm).1=q.index+q.qm.length:=by unfold LogA.ans;rw[if_pos f1,if_pos f2]
        have e2:((LogA.mk 0 0 n.E).append q.index q.ql q.qm).l=((LogA.mk 0 0 n.E).put q.qm).l:=by unfold LogA.append;rw[if_pos ⟨f1,f2⟩]
        rw[e1,e2]
        exact Rn.last (.app q hq hk hr hld V (fun e he=>by
          refine Classical.byContradiction fun x=>c2 ⟨e,he,by omega⟩) f1 f2)
      rw[if_neg f2]at c3;exact absurd c3 qM
    rw[if_neg f1]at c3;exact absurd c3 qM
  split
  · have h1:=zNu (k:=q.index) (t:=q.ql) h.B.good h.B.hen
    exact Rn.last (.say _ (zPG hq hm ⟨hk.1,hk.2.2⟩ h1.1 h1.2) (by show 1≤16;decide))
  exact Rn.none
theorem zAe{ps:List PeerP}{v:Int}{k:Nat}(h:ya ps v=some k):k<ps.length∧(zG ps k).2.id=v:=by
  obtain⟨h1,h2,_⟩:=List.findIdx?_eq_some_iff_getElem.1 h
  refine⟨h1,?_⟩
  rw[nth_eq (List.getElem?_eq_getElem h1)]
  exact of_decide_eq_true h2
theorem zAG{α:Type}[Inhabited α]{l:List α}{k:Nat}{b:α}(h:k<l.length):zG (l.set k b) k=b:=nth_eq (List.getElem?_set_self h)
theorem zAm{q:MsgA}{l:LdD}{k:Nat}{p':PeerM}(hk:k<l.qa.length):z5 (zj q l k) k p'=l.qa.set k ((zG l.qa k).1,p'):=by
  unfold zj
  rw[jw hk];rfl
theorem LdS.set{l l':LdD}{k:Nat}{p':PeerM}{u:Nat}(hk:k<l.qa.length)(he:l'.qa=l.qa.set k (u,p'))(hid:p'.id=(zG l.qa k).2.id)(hm:p'.qy=(zG l.qa k).2.qy∨∃ q,M q∧q.kind=6∧q.flag=true∧q.term=n.t.term∧q.src=(zG l.qa k).2.id∧p'.qy=q.index)
    (hro:p'.round=(zG l.qa k).2.round∨∃ q,M q∧q.kind=6∧q.term=n.t.term∧q.src=(zG l.qa k).2.id∧p'.round=q.round) (hb:∀ p∈l.qa,PeerB n.E.length l.qd.length p.2) (hb':PeerB n.E.length l.qd.length p') (hR:l'.qd=l.qd) (hL:l'.qj=l.qj) (ha:l'.qf.length≤l.qf.length+1):LdS M n l l':=by
  refine⟨?_,fun p hp=> ?_,fun p hp=> ?_, .inl hR,hL,ha⟩
  · rw[he,List.map_set]
    refine List.ext_getElem? fun j=> ?_
    rw[List.getElem?_set]
    split
    · rename_i x
      subst x
      rw[List.length_map,if_pos hk,List.getElem?_map,yW hk]
      exact congrArg some hid
    rfl
  · rw[he]at hp
    rcases List.mem_or_eq_of_mem_set hp with h|h
    · exact⟨p,h,rfl, .inl rfl, .inl rfl⟩
    rw[h];exact⟨_,zd hk,hid,hm,hro⟩
  rw[he]at hp
  rw[hR]
  rcases List.mem_or_eq_of_mem_set hp with h|h
  · exact hb p h
  rw[h];exact hb'
theorem zPL{E R at_:Nat}{p:PeerM}(ha:at_≤E)(h:PeerB E R p):PeerB E R (y2 at_ p):=by
  have h1:=h.next
  have h2:=h.qy
  have h3:=h.qx
  refine⟨by show 1≤max p.next (at_+1)∧max p.next (at_+1)≤_;omega,by show max p.qy at_≤_;omega,?_,h.round⟩
  show 0≤(if at_+1≥p.next then 0 else max (p.qx - 1) 0)∧(if at_+1≥p.next then 0 else max (p.qx - 1) 0)≤4
  split<;>omega
theorem zNg{R:Nat}{E:List EntA}{m:MsgA}{p:PeerM}(h:PeerB E.length R p):PeerB E.length R (ko E m p):=by
  have h1:=h.next
  have h2:=h.qy
  exact⟨by show 1≤max (p.qy+1) _∧max (p.qy+1) (min (p.next - 1) _)≤_;omega,h2,by show(0:Int)≤0∧(0:Int)≤4;decide,h.round⟩
theorem zHm{c:Prop}[Decidable c]{p:PeerM}{term:Nat}(hp:1≤p.id∧p.id≤(N:Int))(ht:term=n.t.term):∀ m∈zAF (aN i) term c p,SayM N M i n m:=by
  subst ht
  unfold zAF
  split
  · exact zBz (kind:=9) (flag:=false) (.inr (.inl rfl)) hp (.inl (Nat.le_succ _))
  intro m hm;cases hm
theorem zG8{c:Prop}[Decidable c]{a:StA}{term:Nat}{p:PeerM}:(zAF a term c p).length≤1:=by
  unfold zAF;split<;>simp
theorem zDX{l:LdD}{ms1 ms2:List MsgA}{k:Nat}(hk:k=xa (aN i) (y5 N) n.E l.qa l.qd l.sure)(hr:n.r.qp=4)(hl:n.ld=some l)(h1:∀ m∈ms1,SayM N M i n m)(h2:∀ m∈ms2,FeedM N i n l m)(l1:ms1.length≤1)(l2:ms2.length≤1):
    Rn N ch lk M i 3 n ({n with t:=xZ k l.qd n.t,ld:=some (x9 k (.slice none 0 0) l)},⟨ms1++ms2,if k=0 then []else(l.qj.filter (fun q=>q.round≤k)).map LookM.rdy,[]⟩):=by
  have a:Rn N ch lk M i 1 n ({n with t:=xZ k l.qd n.t,ld:=some (x9 k (.slice none 0 0) l)},⟨[],if k=0 then []else(l.qj.filter (fun q=>q.round≤k)).map LookM.rdy,[]⟩):=Rn.last (.tell l k hk hr hl)
  have b:=Rn.put (.feed l ms2 hr hl h2 V) a
  rw[List.append_nil]at b
  exact Rn.put (.say ms1 h1 V) b
theorem zGu{q:MsgA}{l:LdD}(h:Cx N ch lk M i K n)(hK:K≤99980)(hq:M q)(hk:q.kind=6∧q.term=n.t.term)(hr:n.r.qp=4)(hl:n.ld=some l):Rn N ch lk M i 6 n (zAH (aN i) (y5 N) q n l):=by
  have hb:=h.B.ld l hl
  unfold zAH
  split
  · exact Rn.none
  rename_i k hpk
  obtain⟨hkl,hid⟩:=zAe hpk
  have hp0:=hb.pb _ (zd hkl)
  have hidN:=hb.mem _ (zd hkl)
  have hA:zG (zj q l k) k=((zG l.qa k).1,zAN q l.qd.length (zG l.qa k).2):=by unfold zj z5;exact zAG hkl
  have hAb:PeerB n.E.length l.qd.length (zAN q l.qd.length (zG l.qa k).2):=by
    refine⟨hp0.next,hp0.qy,hp0.qx,?_⟩
    have:=hp0.round
    show(if q.round≤l.qd.length then max (zG l.qa k).2.round q.round else(zG l.qa k).2.round)≤_
    split<;>omega
  have hAr:(zAN q l.qd.length (zG l.qa k).2).round=(zG l.qa k).2.round∨∃ q',M q'∧q'.kind=6∧q'.term=n.t.term∧q'.src=(zG l.qa k).2.id∧(zAN q l.qd.length (zG l.qa k).2).round=q'.round:=by
    show(if q.round≤l.qd.length then max (zG l.qa k).2.round q.round else(zG l.qa k).2.round)=_∨∃ q':MsgA,_∧_∧_∧_∧(if q.round≤l.qd.length then max (zG l.qa k).2.round q.round else(zG l.qa k).2.round)=q'.round
    split
    · by_cases c:q.round≤(zG l.qa k).2.round
      · left;omega
      right;exact⟨q,hq,hk.1,hk.2,hid.symm,by omega⟩
    left;rfl
  dsimp only
  by_cases c1:q.kind=6∧q.flag=true∧q.index≤n.E.length
  · rw[zLR c1,hA]
    dsimp only
    have hHb:=zPL c1.2.2 hAb
    have hHm:(y2 q.index (zAN q l.qd.length (zG l.qa k).2)).qy=(zG l.qa k).2.qy∨∃ q',M q'∧q'.kind=6∧q'.flag=true∧q'.term=n.t.term∧q'.src=(zG l.qa k).2.id∧(y2 q.index (zAN q l.qd.length (zG l.qa k).2)).qy=q'.index:=by
      show max (zG l.qa k).2.qy q.index=_∨∃ q':MsgA,_∧_∧_∧_∧_∧max (zG l.qa k).2.qy q.index=q'.index
      by_cases c:q.index≤(zG l.qa k).2.qy
      · left;omega
      right;exact⟨q,hq,hk.1,c1.2.1,hk.2,hid.symm,by omega⟩
    have hn1:zG (l.qa.set k ((zG l.qa k).1,y2 q.index (zAN q l.qd.length (zG l.qa k).2))) k=((zG l.qa k).1,y2 q.index (zAN q l.qd.length (zG l.qa k).2)):=zAG hkl
    rw[zAm hkl,zAm hkl]
    generalize hH:y2 q.index (zAN q l.qd.length (zG l.qa k).2)=H at hHb hHm hn1 ⊢
    have hHid:H.id=(zG l.qa k).2.id:=by rw[←hH];rfl
    have hHr:H.round=(zAN q l.qd.length (zG l.qa k).2).round:=by rw[←hH];rfl
    have a1:Act N ch lk M i n {n with ld:=some {l with qa:=l.qa.set k ((zG l.qa k).1,H),qf:=l.qf++[(zG l.qa k).2.id]}} [] []:= .lead l _ hr hl (LdS.set hkl rfl hHid hHm (hHr▸hAr) hb.pb hHb rfl rfl (by show(l.qf++[_]).length≤_;rw[List.length_append];exact Nat.le_refl _))
    have h1:=h.act a1 V
    have hb1:=h1.B.ld _ rfl
    have a2:=Act.count (N:=N) (ch:=ch) (lk:=lk) (M:=M) (i:=i) (n:={n with ld:=some {l with qa:=l.qa.set k ((zG l.qa k).1,H),qf:=l.qf++[(zG l.qa k).2.id]}}) _ hr rfl
    have h2:=h1.act a2 V
    have hb2:=h2.B.ld _ rfl
    have a3:Act N ch lk M i {n with ld:=some {l with qa:=l.qa.set k ((zG l.qa k).1,H),qf:=l.qf++[(zG l.qa k).2.id]},r:={n.r with qc:=yY (aN i) n.t.term (y5 N) n.E (l.qa.set k ((zG l.qa k).1,H)) n.r.qc}} {n with ld:=some {l with qa:=l.qa.set k ((zG l.qa k).1,yq n.E H),qf:=l.qf++[(zG l.qa k).2.id],qB:=if y6 l H n.E.length false then true else l.qB},r:={n.r with qc:=yY (aN i) n.t.term (y5 N) n.E (l.qa.set k ((zG l.qa k).1,H)) n.r.qc}} [] []:=by
      refine .lead {l with qa:=l.qa.set k ((zG l.qa k).1,H),qf:=l.qf++[(zG l.qa k).2.id]} _ hr O (LdS.set (k:=k) (p':=yq n.E H) (u:=(zG l.qa k).1) (by show k<(l.qa.set k _).length;rw[List.length_set];exact hkl) (by show l.qa.set k _=(l.qa.set k _).set k _;rw[List.set_set]) ?_ (.inl ?_) (.inl ?_) hb1.pb (zAQ hHb) O O (Nat.le_succ _))
      · show _=(zG (l.qa.set k _) k).2.id;rw[hn1];exact feedP_same.1
      · show _=(zG (l.qa.set k _) k).2.qy;rw[hn1];exact feedP_same.2.1
      show _=(zG (l.qa.set k _) k).2.round;rw[hn1];exact feedP_same.2.2
    exact Rn.pre a1 (Rn.pre a2 (Rn.pre a3 (zDX (l:={l with qa:=l.qa.set k ((zG l.qa k).1,yq n.E H),qf:=l.qf++[(zG l.qa k).2.id],qB:=if y6 l H n.E.length false then true else l.qB}) O hr O (zHm (by rw[hHid];exact hidN) O) (fun m hm=>zC6 hHb.next (by rw[hHid];exact hidN) O O hm) zG8 jH)))
  have key:∀ (p':PeerM) (ms:List MsgA),p'.id=(zG l.qa k).2.id→p'.qy=(zG l.qa k).2.qy→p'.round=(zAN q l.qd.length (zG l.qa k).2).round→PeerB n.E.length l.qd.length p'→(∀ m∈ms,FeedM N i {n with ld:=some {l with qa:=l.qa.set k ((zG l.qa k).1,p'),qf:=l.qf++[(zG l.qa k).2.id]}} {l with qa:=l.qa.set k ((zG l.qa k).1,p'),qf:=l.qf++[(zG l.qa k).2.id]} m)→ms.length≤1→∀ g,g=l.qB→
    Rn N ch lk M i 6 n ({n with t:=xZ (xa (aN i) (y5 N) n.E (l.qa.set k ((zG l.qa k).1,p')) l.qd l.sure) l.qd n.t,ld:=some (x9 (xa (aN i) (y5 N) n.E (l.qa.set k ((zG l.qa k).1,p')) l.qd l.sure) (.slice none 0 0) {l with qa:=l.qa.set k ((zG l.qa k).1,p'),qf:=l.qf++[(zG l.qa k).2.id],qB:=g})},⟨ms,if xa (aN i) (y5 N) n.E (l.qa.set k ((zG l.qa k).1,p')) l.qd l.sure=0 then []else(l.qj.filter (fun q=>q.round≤xa (aN i) (y5 N) n.E (l.qa.set k ((zG l.qa k).1,p')) l.qd l.sure)).map LookM.rdy,[]⟩):=by
    rintro p' ms h1 h2 h3 h4 h5 h6 g rfl
    have a1:Act N ch lk M i n {n with ld:=some {l with qa:=l.qa.set k ((zG l.qa k).1,p'),qf:=l.qf++[(zG l.qa k).2.id]}} [] []:= .lead l _ hr hl (LdS.set hkl rfl h1 (.inl h2) (h3▸hAr) hb.pb h4 rfl rfl (by show(l.qf++[_]).length≤_;rw[List.length_append];exact Nat.le_refl _))
    exact(Rn.pre a1 (zDX (ms1:=[]) O hr O (fun m hm=>by cases hm) h5 (Nat.zero_le _) h6)).le V
  by_cases c2:q.kind=6∧q.flag=false∧q.index<(zG (zj q l k) k).2.next
  · rw[zMW c1 c2,hA]
    dsimp only
    rw[zAm hkl]
    have hBb:=zNg (m:=q) hAb
    exact key (yq n.E (ko n.E q (zAN q l.qd.length (zG l.qa k).2))) _ (feedP_same.1) (feedP_same.2.1) (feedP_same.2.2) (zAQ hBb) (fun m hm=>zC6 hBb.next hidN O O hm) jH _ O
  rw[zLJ c1 c2 (fun x=>by omega),hA]
  dsimp only
  rw[zAm hkl]
  exact key (zAN q l.qd.length (zG l.qa k).2) [] O O O hAb (fun m hm=>by cases hm) (Nat.zero_le _) _ O
theorem zDF{dr:Nat}{q:MsgA}(h:Cx N ch lk M i K n)(hK:K≤99960)(hq:M q)(hd:q.dst=xc i)(ht:q.term=n.t.term):Rn N ch lk M i 7 n (yc (aN i) (y5 N) dr q n):=by
  have hm:=h.M q hq
  have hb:=h.B.tim
  unfold yc
  split
  · rename_i k3
    by_cases hv:zEa (aN i) q n
    · rw[if_pos hv,decide_eq_true hv]
      exact Rn.last (.qD q _ hq ⟨k3,hd,ht⟩ hv.1 hv.2.1 hv.2.2.1)
    rw[if_neg hv,decide_eq_false hv]
    exact Rn.last (.say _ (zBz (.inr (.inr ⟨O,O⟩)) hm.src (.inl (Nat.le_succ _))) (by show 1≤16;decide))
  split
  · rename_i k4
    split
    · rename_i c
      have a1:Act N ch lk M i n {n with yes:=y8 (jy N n) n.yes q.src} [] []:= .yes3 q c.1 hq ⟨k4,c.2⟩ ⟨hd,ht⟩
      have h1:=h.act a1 V
      dsimp only
      split
      · rename_i c2
        exact(Rn.pre a1 (zDk h1 V c.1 c2.2)).le V
      exact Rn.last a1
    exact Rn.none
  split
  · rename_i k5
    split
    · exact Rn.none
    have a1:Act N ch lk M i n {n with t:={n.t with qA:=n.t.now,due:=n.t.now+y4 (aN i) dr}} [] []:= .tim _ ⟨rfl,rfl⟩ ⟨hb.hn,hb.hn,hb.hbt,hb.hck,hb.hst⟩
    have h1:=h.act a1 V
    have a2:=Act.follow (N:=N) (ch:=ch) (lk:=lk) (M:=M) (i:=i) (n:={n with t:={n.t with qA:=n.t.now,due:=n.t.now+y4 (aN i) dr}}) q.src
    have h2:=h1.act a2 V
    exact(Rn.pre a1 (Rn.pre a2 (zG9 h2 V hq ⟨k5,hd,ht⟩ O O))).le V
  split
  · rename_i k68
    split
    · exact Rn.none
    rename_i l hl
    have k6:q.kind=6:=by have:=hm.kind;omega
    exact(zGu h V hq ⟨k6,ht⟩ (h.B.hro.2 (by rw[hl];rfl)) hl).le V
  split
  · exact(zCH h V).le V
  exact Rn.none
theorem zK4{dr:Nat}{q:MsgA}(h:Cx N ch lk M i K n)(hK:K≤99950)(hq:M q)(hd:q.dst=xc i):Rn N ch lk M i 8 n (kI (aN i) (y5 N) dr q n):=by
  have hm:=h.M q hq
  unfold kI
  split
  · refine Rn.last (.say _ (zBz (.inl rfl) hm.src ?_) (by show 1≤16;decide))
    split
    · exact .inr ⟨q,hq,rfl⟩
    exact .inl (Nat.le_succ _)
  split
  · exact Rn.none
  split
  · split
    · rename_i c
      have a1:Act N ch lk M i n {n with yes:=y8 (jy N n) n.yes q.src} [] []:= .yes2 q.src c.1
      have h1:=h.act a1 V
      split
      · exact(Rn.pre a1 (zCH h1 V)).le V
      exact Rn.last a1
    exact Rn.none
  split
  · rename_i hlt
    have a1:Act N ch lk M i n (zDy (aN i) dr q n) [] []:= .later q _ hq hlt
    have h1:=h.act a1 V
    exact Rn.pre a1 (zDF h1 V hq hd O).lost
  split
  · split
    · rename_i k5
      refine Rn.last (.say _ (fun m hm'=> ?_) (by show 1≤16;decide))
      rw[List.mem_singleton.1 hm']
      exact⟨⟨O,hm.src,O,O⟩, .inr (.inr (.inr ⟨.inr O,O⟩)), .inl (Nat.le_succ _),fun _=>O,Nat.le_refl _,h.B.hen,O, .inl O,O⟩
    split
    · exact Rn.last (.say _ (zBz (.inr (.inr ⟨rfl,rfl⟩)) hm.src (.inl (Nat.le_succ _))) (by show 1≤16;decide))
    exact Rn.none
  exact(zDF h V hq hd V).le V
theorem zCf{now:Int}{dr:Nat}{q:MsgA}(h:Cx N ch lk M i K n)(hK:K≤99940)(hn:0≤now∧now≤2000000000000)(hq:M q)(hd:q.dst=xc i):Rn N ch lk M i 9 n (zA3 (aN i) (y5 N) now dr q n):=by
  unfold zA3
  split
  · have a1:=zBC h hn
    exact Rn.pre a1 (zK4 (h.act a1 V) V hq hd)
  exact Rn.none
theorem zGj{l:LdD}{e:EntA}{P:List PeerP}(h:Cx N ch lk M i K n)(hK:K≤99990)(hr:n.r.qp=4)(hl:n.ld=some l)(he:e.ok∧e.term=n.t.term∧e.index=n.E.length+1)(hg:zMs N ch i n l e P):Rn N ch lk M i 4 n (zFu (aN i) (y5 N) e n {l with qa:=P}):=by
  have a1:=Act.grow (N:=N) (ch:=ch) (lk:=lk) (M:=M) (i:=i) (n:=n) l e P hr hl he hg
  have h1:=h.act a1 V
  have hb:=h1.B.ld _ rfl
  have a2:=Act.count (N:=N) (ch:=ch) (lk:=lk) (M:=M) (i:=i) (n:={n with t:={n.t with qC:=n.t.now},E:=n.E++[e],ld:=some {l with qa:=P}}) _ hr rfl
  refine Rn.pre a1 (Rn.pre a2 (Rn.pre (.lead _ {l with qa:=P.map fun q=>(q.1,yq (n.E++[e]) q.2)} hr O ?_) (Rn.last (.feed {l with qa:=P.map fun q=>(q.1,yq (n.E++[e]) q.2)} (jR (fun p=>xM (aN i) n.t.term (yY (aN i) n.t.term (y5 N) (n.E++[e]) P n.r.qc) l.qd.length (n.E++[e]) p false) P) hr O ?_ ?_))))
  · exact LdS.all (l:={l with qa:=P}) (R:=l.qd) (fun p=>feedP_same) (fun p hp=>zAQ (hb.pb p hp)) (.inl rfl) (Nat.le_succ _)
  · intro m hm
    obtain⟨q,hq,hm⟩:=zGz hm
    exact zC6 (hb.pb q hq).next (hb.mem q hq) O O hm
  have h3:=zBV (f:=fun p=>xM (aN i) n.t.term (yY (aN i) n.t.term (y5 N) (n.E++[e]) P n.r.qc) l.qd.length (n.E++[e]) p false) (fun p=>jH) P
  have h4:=hb.len
  have:=h.hN
  exact Nat.le_trans h3 (Nat.le_trans h4 V)
theorem zGB{now:Int}{data:List UInt8}(h:Cx N ch lk M i K n)(hK:K≤99940)(hn:0≤now∧now≤2000000000000):Rn N ch lk M i 5 n (jF (aN i) (y5 N) data now n):=by
  have a1:=zBC h hn
  have h1:=h.act a1 V
  unfold jF
  split
  · exact Rn.last a1
  rename_i l hl
  refine Rn.pre a1 ?_
  unfold zCi
  split
  · exact Rn.none
  rename_i c1
  split
  · exact Rn.none
  have hr:(k8 now n).r.qp=4:=h.B.hro.2 (by rw[hl];rfl)
  have hT:=h1.B.term
  have hE:=h1.B.E
  exact zGj (l:=l) h1 V hr hl ⟨zFb V ⟨h.B.ht (.inr hr),by omega⟩ V h1.B.tim.hst (by rw[if_neg qM,if_neg qM]),O,O⟩ (.inl ⟨O,O⟩)
theorem zKz{now to:Int}(h:Cx N ch lk M i K n)(hK:K≤99940)(hn:0≤now∧now≤2000000000000):Rn N ch lk M i 4 n (zDQ (aN i) (y5 N) to now n):=by
  have a1:=zBC h hn
  have h1:=h.act a1 V
  unfold zDQ
  split
  · exact Rn.last a1
  rename_i l hl
  refine Rn.pre a1 ?_
  have hr:(k8 now n).r.qp=4:=h.B.hro.2 (by rw[hl];rfl)
  have hb:=h1.B.ld l hl
  have ht:=h1.B.tim
  unfold zCX
  split
  · exact Rn.none
  split
  · exact Rn.none
  split
  · exact Rn.none
  rename_i k hpk
  obtain⟨hkl,hid⟩:=zAe hpk
  have hidN:=hb.mem _ (zd hkl)
  have a2:Act N ch lk M i (k8 now n) {k8 now n with t:={(k8 now n).t with gd:=(k8 now n).t.now+(aN i).base}} [] []:= .tim _ ⟨rfl,rfl⟩ ⟨ht.hn,ht.hh,ht.hbt,ht.hck,ht.hst⟩
  refine Rn.pre a2 (Rn.pre (.lead l {l with give:=to,qB:=if y6 ({l with give:=to}:LdD) (zG l.qa k).2 (k8 now n).E.length true then true else l.qB} hr hl (LdS.keep hb.pb (Nat.le_succ _))) (Rn.last (.say _ ?_ ?_)))
  · split
    · exact zBz (.inr (.inl rfl)) hidN (.inl (Nat.le_succ _))
    intro m hm;cases hm
  split
  · show 1≤16;decide
  exact Nat.zero_le _
theorem zG6{now kind id:Int}{x:OutA}(h:Cx N ch lk M i K n)(hch:ch=true)(hK:K≤99940)(hn:0≤now∧now≤2000000000000)(hid:1≤id∧id≤(N:Int))(hc:zAi (aN i) (y5 N) kind id now n n1 x):Rn N ch lk M i 5 n (n1,x):=by
  have a1:=zBC h hn
  have h1:=h.act a1 V
  rcases hc with hc|⟨l,F,P,hl,hcf,hfi,_,_,hchg,hF,hP,hc⟩
  · rw[hc];exact Rn.last a1
  rw[hc]
  refine Rn.pre a1 ?_
  have hr:(k8 now n).r.qp=4:=h.B.hro.2 (by rw[hl];rfl)
  have hT:=h1.B.term
  have hE:=h1.B.E
  exact zGj (l:=l) h1 V hr hl ⟨zFb (by have:=h.B.E;omega) ⟨h.B.ht (.inr hr),by have:=h.B.term;show n.t.term≤_;omega⟩ (zFZ hF) h1.B.tim.hst (by rw[if_neg qM,if_pos rfl,zC1 hF];rfl),O,O⟩ (.inr ⟨hch,O,kind,id,F,hid,hchg,zC1 hF,hcf,hfi,hP⟩)
theorem zLP{now:Int}{id:Nat}{e:Int}{x:NodA×OutA}(h:Cx N ch lk M i K n)(hK:K≤99940)(hn:0≤now∧now≤2000000000000)(hlk:∀ l,n.ld=some l→l.qj.length<lk)(hx:(x,e)=zAY (aN i) (y5 N) id false now n):Rn N ch lk M i 5 n x:=by
  have a1:=zBC h hn
  have h1:=h.act a1 V
  have e1:x=(zAY (aN i) (y5 N) id false now n).1:=by rw[←hx]
  rw[e1]
  unfold zAY
  split
  · exact Rn.last a1
  rename_i c1
  split
  · exact Rn.last a1
  rename_i c2
  split
  · rename_i l hl
    have hr:(k8 now n).r.qp=4:=Decidable.not_not.1 c1
    refine Rn.pre a1 ?_
    unfold zEb
    split
    · rename_i c3
      rcases c3 with c3|c3
      · exact Rn.last (.imm id hr (Decidable.not_not.1 c2) c3)
      exact absurd c3.1 qM
    have a2:=Act.look (N:=N) (ch:=ch) (lk:=lk) (M:=M) (i:=i) (n:=k8 now n) l id hr hl (Decidable.not_not.1 c2) (hlk l hl)
    have h2:=h1.act a2 V
    exact Rn.pre a2 (zEp h2 V hr O)
  exact Rn.last a1
end
structure Stp(N:Nat)(ch:Bool)(lk:Nat)(P:Nat→NetA→Prop):Prop where
  len:∀ k X,P k X→X.nodes.length=N
  B:∀ k X i,P k X→i<N→NodB N lk k i (zG X.nodes i)
  M:∀ k X,P k X→∀ q∈X.way,MsgB N k q
  wl:∀ k X,P k X→X.way.length≤16*k
  up:∀ k X,P k X→P (k+1) X
  sub:∀ k X way,P k X→way.Sublist X.way→P k ⟨X.nodes,way⟩
  act:∀ k X i n ms rs,k≤99000→P k X→i<N→Act N ch lk (· ∈X.way) i (zG X.nodes i) n ms rs→P (k+1) (X.call i n ms)
theorem Act.mono{N:Nat}{ch:Bool}{lk:Nat}{M M':MsgA→Prop}{i:Nat}{n n':NodA}{ms:List MsgA}{rs:List RdyD}(hM:∀ q,M q→M' q)(h:Act N ch lk M i n n' ms rs):Act N ch lk M' i n n' ms rs:=by
  have hr:∀ t r,rOk M t r→rOk M' t r:=fun t r h=>h.imp id fun⟨q,a,b⟩=>⟨q,hM q a,b⟩
  cases h with
  |tim t h1 h2=>exact .tim t h1 h2
  |say _ h hl=>exact .say _ (fun m hm=>{(h m hm)with term:=(h m hm).term.imp id fun⟨q,a,b⟩=>⟨q,hM q a,b⟩,round:=hr _ _ (h m hm).round}) hl
  |later q d h h2=>exact .later q d (hM q h) h2
  |follow wh=>exact .follow wh
  |cand=>exact .cand
  |yes2 v h=>exact .yes2 v h
  |yes3 q h hq hk hd=>exact .yes3 q h (hM q hq) hk hd
  |stand d=>exact .stand d
  |asks _ h hm hl=>exact .asks _ h hm hl
  |elect h hq=>exact .elect h hq
  |qD q d hq hk hv hr hf=>exact .qD q d (hM q hq) hk hv hr hf
  |app q hq hk hr hld hc he hf hfi=>exact .app q (hM q hq) hk hr hld hc he hf hfi
  |low q hq hk hr hc=>exact .low q (hM q hq) hk hr hc
  |lead l l' hr hl hs=>
    refine .lead l l' hr hl ⟨hs.ids,fun p hp=> ?_,hs.bd,hs.qd,hs.qj,hs.qf⟩
    obtain⟨p0,h1,h2,h3,h4⟩:=hs.ps p hp
    exact⟨p0,h1,h2,h3.imp id fun⟨q,a,b⟩=>⟨q,hM q a,b⟩,h4.imp id fun⟨q,a,b⟩=>⟨q,hM q a,b⟩⟩
  |grow l e P hr hl he hg=>exact .grow l e P hr hl he hg
  |count l hr hl=>exact .count l hr hl
  |feed l _ hr hl hm hml=>exact .feed l _ hr hl hm hml
  |look l id hr hl hf hk=>exact .look l id hr hl hf hk
  |imm id hr hf hq=>exact .imm id hr hf hq
  |tell l k hk hr hl=>exact .tell l k hk hr hl
theorem NetA.call_call{X:NetA}{i:Nat}{n n':NodA}{ms ms':List MsgA}:(X.call i n ms).call i n' ms'=X.call i n' (ms++ms'):=by
  unfold NetA.call
  rw[List.set_set,List.append_assoc]
theorem zJ8{X:NetA}{i:Nat}(hi:i<X.nodes.length):X.call i (zG X.nodes i) []=X:=by
  unfold NetA.call
  rw[List.append_nil]
  congr 1
  refine List.ext_getElem? fun j=> ?_
  rw[List.getElem?_set]
  split
  · rename_i e;subst e;exact(yW hi).symm
  rfl
theorem Stp.run{N:Nat}{ch:Bool}{lk:Nat}{P:Nat→NetA→Prop}(hS:Stp N ch lk P){M:MsgA→Prop}{i j:Nat}{n n':NodA}{ms:List MsgA}{rs:List RdyD}(hi:i<N)(h:Run N ch lk M i j n n' ms rs):∀ {k:Nat} {X:NetA},k+j≤99000→P k X→zG X.nodes i=n→(∀ q,M q→q∈X.way)→P (k+j) (X.call i n' ms):=by
  induction h with
  |nil n=>
    intro k X _ hP hn _
    subst hn
    rw[zJ8 (by rw[hS.len k X hP];exact hi)];exact hP
  | @more j n n1 n2 ms ms2 rs rs2 ha _ ih=>
    intro k X hk hP hn hM
    have hl:i<X.nodes.length:=by rw[hS.len k X hP];exact hi
    have h1:=hS.act k X i n1 ms rs V hP hi (by rw[hn];exact ha.mono hM)
    have h2:=ih (k:=k+1) (X:=X.call i n1 ms) V h1 (zAG hl) (fun q hq=>List.mem_append_left _ (hM q hq))
    rw[NetA.call_call]at h2
    rw[show k+(j+1)=k+1+j by omega];exact h2
theorem Stp.ups{N:Nat}{ch:Bool}{lk:Nat}{P:Nat→NetA→Prop}(hS:Stp N ch lk P){k:Nat}{X:NetA}(h:P k X):∀ j,P (k+j) X
  |0=>h
  |j+1=>hS.up _ _ (hS.ups h j)
theorem Stp.rn{N:Nat}{ch:Bool}{lk:Nat}{P:Nat→NetA→Prop}(hS:Stp N ch lk P){M:MsgA→Prop}{i c:Nat}{x:NodA×OutA}(hi:i<N){k:Nat}{X:NetA}(h:Rn N ch lk M i c (zG X.nodes i) x)(hc:c≤10)(hk:k≤20000)(hP:P k X)(hM:∀ q,M q→q∈X.way):P (k+10) (X.call i x.1 x.2.ms):=by
  obtain⟨j,hj,hr⟩:=h
  have h1:=hS.run hi hr (k:=k) (X:=X) V hP rfl hM
  have h2:=hS.ups h1 (10 - j)
  rwa [show k+j+(10 - j)=k+10 by omega]at h2
theorem Stp.cx{N:Nat}{ch:Bool}{lk:Nat}{P:Nat→NetA→Prop}(hS:Stp N ch lk P)(hN:1≤N∧N≤5){k i:Nat}{X:NetA}(hP:P k X)(hi:i<N):Cx N ch lk (· ∈X.way) i k (zG X.nodes i):=⟨hN,hi,hS.B k X i hP hi,hS.M k X hP⟩
theorem Stp.ok{N:Nat}{ch:Bool}{lk:Nat}{P:Nat→NetA→Prop}(hS:Stp N ch lk P)(hN:1≤N∧N≤5)(hlk:lk≤10000){k:Nat}{X:NetA}(hk:k≤20000)(hP:P k X):NetOk N X:=
  ⟨hS.len k X hP,fun i hi=>(hS.B k X i hP hi).fit hN V hlk,fun m hm=>(hS.M k X hP m hm).net V,by have:=hS.wl k X hP;omega⟩
theorem Stp.clo{N:Nat}{ch:Bool}{lk:Nat}{P:Nat→NetA→Prop}(hS:Stp N ch lk P)(hN:1≤N∧N≤5)(hlk:lk≤10000):Clo N ch (fun k X=>P (10*k) X) where
  ok k X hk h:=hS.ok hN hlk V h
  up k X h:=hS.ups h 10
  adv k X i now dr n x hk h hi hn hd e:=by
    have:=hS.rn hi (zGM (dr:=dr) (hS.cx hN h hi) V hn) V V h (fun _ q=>q)
    rw[←e]at this;exact this
  rcv k X i now dr m n x hk h hi hn hd hm hmd e:=by
    have:=hS.rn hi (zCf (dr:=dr) (hS.cx hN h hi) V hn hm hmd) V V h (fun _ q=>q)
    rw[←e]at this;exact this
  prp k X i now data n x hk h hi hn hd e:=by
    have:=hS.rn hi (zGB (data:=data) (hS.cx hN h hi) V hn) V V h (fun _ q=>q)
    rw[←e]at this;exact this
  chg hch k X i now kind id n x hk h hi hn hid e:=by
    have hk':10*k≤20000:=by omega
    exact hS.rn (x:=(n,x)) hi (zG6 (hS.cx hN h hi) hch V hn hid e) V hk' h (fun _ q=>q)
  giv k X i now to n x hk h hi hn e:=by
    have:=hS.rn hi (zKz (to:=to) (hS.cx hN h hi) V hn) V V h (fun _ q=>q)
    rw[←e]at this;exact this
  sub k X way h hs:=hS.sub _ _ way h hs
end Go.Proofs.YtkkeknmkipkbmaaGreat
