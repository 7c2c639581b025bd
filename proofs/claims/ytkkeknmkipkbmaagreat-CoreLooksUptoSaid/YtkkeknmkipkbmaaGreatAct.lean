import Derived.Test.YtkkeknmkipkbmaaGreatNetS
set_option linter.unusedSectionVars false
set_option linter.unusedSimpArgs false
set_option linter.unusedVariables false
set_option maxRecDepth 10000
namespace Go.Proofs.YtkkeknmkipkbmaaGreat
open Go Go.Sc Go.Proofs
def rOk(M:MsgA→Prop)(term:Nat)(r:Nat):Prop:=r=0∨∃ q,M q∧q.kind=5∧q.term=term∧q.round=r
structure TimB(t:TimD):Prop where
  hn:0≤t.now∧t.now≤1000000000000000
  hh:0≤t.qA∧t.qA≤1000000000000000
  hbt:0≤t.qE∧t.qE≤1000000000000000
  hck:0≤t.qz∧t.qz≤1000000000000000
  hst:0≤t.qC∧t.qC≤t.now
structure Plain(N i:Nat)(m:MsgA):Prop where
  src:m.src=(i:Int)+1
  dst:1≤m.dst∧m.dst≤N
  conf:m.conf=⟨[],[]⟩
  data:m.data=[]
structure SayM(N:Nat)(M:MsgA→Prop)(i:Nat)(n:NodA)(m:MsgA):Prop extends Plain N i m where
  kind:m.kind=1∨m.kind=2∨m.kind=9∨(m.kind=4∨m.kind=6)∧m.flag=false
  term:m.term≤n.t.term+1∨∃ q,M q∧m.term=q.term
  t6:m.kind=6→m.term=n.t.term
  index:m.index≤n.E.length
  lt:m.ql≤n.t.term
  qc:m.qc=0
  round:rOk M m.term m.round
  qm:m.qm=[]
structure AskM(N i:Nat)(n:NodA)(m:MsgA):Prop extends Plain N i m where
  kind:m.kind=3
  term:m.term=n.t.term
  index:m.index=n.E.length
  lt:m.ql=(LogA.mk 0 0 n.E).end_
  rest:m.qc=0∧m.round=0∧m.qm=[]
structure FeedM(N i:Nat)(n:NodA)(l:LdD)(m:MsgA):Prop extends Plain N i m where
  kind:m.kind=5
  term:m.term=n.t.term
  index:m.index≤n.E.length
  lt:m.ql=((LogA.mk 0 0 n.E).termE m.index).1
  qc:m.qc=n.r.qc
  round:m.round=l.qd.length
  qm:m.qm.length≤8∧m.qm=(n.E.drop m.index).take m.qm.length
structure PeerB(E R:Nat)(p:PeerM):Prop where
  next:1≤p.next∧p.next≤E+1
  qy:p.qy≤E
  qx:0≤p.qx∧p.qx≤4
  round:p.round≤R
structure LdS(M:MsgA→Prop)(n:NodA)(l l':LdD):Prop where
  ids:l'.qa.map (fun q=>q.2.id)=l.qa.map (fun q=>q.2.id)
  ps:∀ p'∈l'.qa,∃ p∈l.qa,p'.2.id=p.2.id∧
    (p'.2.qy=p.2.qy∨∃ q,M q∧q.kind=6∧q.flag=true∧q.term=n.t.term∧q.src=p.2.id∧p'.2.qy=q.index)∧
    (p'.2.round=p.2.round∨∃ q,M q∧q.kind=6∧q.term=n.t.term∧q.src=p.2.id∧p'.2.round=q.round)
  bd:∀ p'∈l'.qa,PeerB n.E.length l'.qd.length p'.2
  qd:l'.qd=l.qd∨l'.qd=l.qd++[n.t.now]
  qj:l'.qj=l.qj
  qf:l'.qf.length≤l.qf.length+1
def jy(N:Nat)(n:NodA):ConfA:=zc (y5 N) n.E
def xc(i:Nat):Int:=(i:Int)+1
def zMs(N:Nat)(ch:Bool)(i:Nat)(n:NodA)(l:LdD)(e:EntA)(P:List PeerP):Prop:=
  (e.kind=2∧P=l.qa)∨ch=true∧e.kind=3∧∃ kind id F,(1≤id∧id≤(N:Int))∧chg kind (jy N n) id=(F,0)∧xN e.data=some F∧(y9 (y5 N) n.E n.E.length).2≤n.r.qc∧(LogA.mk 0 0 n.E).fits n.r.qc n.t.term∧P.Perm (kM (aN i) F id (n.E.length+1) l.qa)
def ldZ(N i:Nat)(n:NodA):LdD:={pv:= .slice none 0 0,qa:=jZ (aN i) (y5 N) n.E,av:= .slice none 0 0,qf:=[],rv:= .slice none 0 0,qd:=[n.t.now],sure:=if(zc (y5 N) (n.E++[zAv n.E.length n.t.term])).qv [(aN i).id]then 1 else 0,kv:= .slice none 0 0,qj:=[],give:=0,qB:=false}
def zAa(N i:Nat)(n:NodA):NodA:={t:={n.t with qC:=n.t.now,qz:=n.t.now,qE:=n.t.now},r:=⟨4,xc i,n.r.qc⟩,E:=n.E++[zAv n.E.length n.t.term],ld:=some (ldZ N i n),yes:=[]}
inductive Act(N:Nat)(ch:Bool)(lk:Nat)(M:MsgA→Prop)(i:Nat)(n:NodA):NodA→List MsgA→List RdyD→Prop
  |tim (t:TimD) (h1:t.term=n.t.term∧t.qD=n.t.qD) (h2:TimB t):Act N ch lk M i n {n with t:=t} [] []
  |say (ms:List MsgA) (h:∀ m∈ms,SayM N M i n m) (hl:ms.length≤16):Act N ch lk M i n n ms []
  |later (q:MsgA) (d:Int) (h:M q) (h2:n.t.term<q.term):Act N ch lk M i n {n with t:={n.t with term:=q.term,qD:=0,due:=d},r:=⟨1,0,n.r.qc⟩,ld:=none,yes:=[]} [] []
  |follow (wh:Int):Act N ch lk M i n {n with r:=⟨1,wh,n.r.qc⟩,ld:=none,yes:=[]} [] []
  |cand:Act N ch lk M i n {n with r:=⟨2,0,n.r.qc⟩,ld:=none,yes:=[xc i]} [] []
  |yes2 (v:Int) (h:n.r.qp=2):Act N ch lk M i n {n with yes:=y8 (jy N n) n.yes v} [] []
  |yes3 (q:MsgA) (h:n.r.qp=3) (hq:M q) (hk:q.kind=4∧q.flag=true) (hd:q.dst=xc i∧q.term=n.t.term):Act N ch lk M i n {n with yes:=y8 (jy N n) n.yes q.src} [] []
  |stand (d:Int):Act N ch lk M i n {n with t:={n.t with term:=n.t.term+1,qD:=xc i,due:=d},r:=⟨3,0,n.r.qc⟩,ld:=none,yes:=[xc i]} [] []
  |asks (ms:List MsgA) (h:n.r.qp=3) (hm:∀ m∈ms,AskM N i n m) (hl:ms.length≤16):Act N ch lk M i n n ms []
  |elect (h:n.r.qp=3) (hq:(jy N n).qv n.yes):Act N ch lk M i n (zAa N i n) [] []
  |qD (q:MsgA) (d:Int) (hq:M q) (hk:q.kind=3∧q.dst=xc i∧q.term=n.t.term) (hv:n.t.qD=0∨n.t.qD=q.src) (hr:n.r.qp≠4) (hf:(LogA.mk 0 0 n.E).fresh q.index q.ql):Act N ch lk M i n {n with t:={n.t with qD:=q.src,due:=d}} [one (aN i) 4 q.src n.t.term true] []
  |app (q:MsgA) (hq:M q) (hk:q.kind=5∧q.dst=xc i∧q.term=n.t.term) (hr:n.r.qp=1) (hld:n.ld=none) (hc:n.r.qc≤q.index) (he:∀ e∈q.qm,e.term≤n.t.term) (hf:folA q.index q.ql q.qm) (hfi:(LogA.mk 0 0 n.E).fits q.index q.ql):Act N ch lk M i n {n with E:=((LogA.mk 0 0 n.E).put q.qm).l,r:={n.r with qc:=max n.r.qc (min q.qc (q.index+q.qm.length))}} [jk (aN i) n.t.term q 6 (q.index+q.qm.length) 0 true] []
  |low (q:MsgA) (hq:M q) (hk:q.kind=5∧q.dst=xc i∧q.term=n.t.term) (hr:n.r.qp=1) (hc:q.index<n.r.qc):Act N ch lk M i n n [jk (aN i) n.t.term q 6 n.r.qc 0 true] []
  |lead (l l':LdD) (hr:n.r.qp=4) (hl:n.ld=some l) (hs:LdS M n l l'):Act N ch lk M i n {n with ld:=some l'} [] []
  |grow (l:LdD) (e:EntA) (P:List PeerP) (hr:n.r.qp=4) (hl:n.ld=some l) (he:e.ok∧e.term=n.t.term∧e.index=n.E.length+1) (hg:zMs N ch i n l e P):Act N ch lk M i n {n with t:={n.t with qC:=n.t.now},E:=n.E++[e],ld:=some {l with qa:=P}} [] []
  |count (l:LdD) (hr:n.r.qp=4) (hl:n.ld=some l):Act N ch lk M i n {n with r:={n.r with qc:=yY (aN i) n.t.term (y5 N) n.E l.qa n.r.qc}} [] []
  |feed (l:LdD) (ms:List MsgA) (hr:n.r.qp=4) (hl:n.ld=some l) (hm:∀ m∈ms,FeedM N i n l m) (hml:ms.length≤16):Act N ch lk M i n n ms []
  |look (l:LdD) (id:Nat) (hr:n.r.qp=4) (hl:n.ld=some l) (hf:(LogA.mk 0 0 n.E).fits n.r.qc n.t.term) (hk:l.qj.length<lk):Act N ch lk M i n {n with ld:=some {l with qj:=l.qj++[⟨id,n.r.qc,l.qd.length+1⟩]}} [] []
  |imm (id:Nat) (hr:n.r.qp=4) (hf:(LogA.mk 0 0 n.E).fits n.r.qc n.t.term) (hq:(jy N n).qv [xc i]):Act N ch lk M i n n [] [⟨id,n.r.qc⟩]
  |tell (l:LdD) (k:Nat) (hk:k=xa (aN i) (y5 N) n.E l.qa l.qd l.sure) (hr:n.r.qp=4) (hl:n.ld=some l):Act N ch lk M i n {n with t:=xZ k l.qd n.t,ld:=some (x9 k (.slice none 0 0) l)} [] (if k=0 then []else(l.qj.filter (fun q=>q.round≤k)).map LookM.rdy)
theorem jr:∀ (N:Nat) (l:List Int),l.Nodup→(∀ x∈l,1≤x∧x≤(N:Int))→l.length≤N
  |0,l,_,h=>by
    cases l with
    |nil=>exact Nat.le_refl _
    |cons a l=>have:=h a qQ;omega
  |N+1,l,hn,h=>by
    by_cases c:((N+1:Nat):Int)∈l
    · have h1:=jr N (l.erase ((N+1:Nat):Int)) (hn.erase _) fun x hx=>by
        have h2:=(List.Nodup.mem_erase_iff hn).1 hx
        have h3:=h x h2.2
        have h4:=h2.1
        omega
      rw[List.length_erase_of_mem c]at h1
      omega
    have h1:=jr N l hn fun x hx=>by
      have h3:=h x hx
      have h4:x≠((N+1:Nat):Int):=fun e=>c (e▸hx)
      omega
    omega
structure CfI(N:Nat)(F:ConfA):Prop where
  ok:F.ok
  mem:∀ v,v∈F.vs∨v∈F.ls→1≤v∧v≤(N:Int)
theorem jX{l:List Int}(h:Rises l):l.Nodup:=h.lt.imp fun q e=>by omega
theorem CfI.len{N:Nat}{F:ConfA}(h:CfI N F):F.vs.length≤N∧F.ls.length≤N∧1≤F.vs.length:=
  ⟨jr N _ (jX h.ok.1.1.1) fun x hx=>h.mem x (.inl hx),jr N _ (jX h.ok.1.1.2) fun x hx=>h.mem x (.inr hx),h.ok.1.2⟩
def zNT(N:Nat)(e:EntA):Prop:=e.ok∧(e.kind=3→∃ F,xN e.data=some F∧CfI N F)
theorem vsN_mem{N:Nat}{v:Int}:v∈y5 N↔1≤v∧v≤(N:Int):=by
  unfold y5
  rw[List.mem_map]
  constructor
  · rintro⟨k,hk,rfl⟩;rw[List.mem_range]at hk;omega
  intro h;exact⟨v.toNat - 1,List.mem_range.2 V,by omega⟩
theorem zPC{N:Nat}(hN:1≤N∧N≤5):CfI N ⟨y5 N,[]⟩:=by
  refine⟨⟨⟨⟨⟨?_,fun x hx=>by have:=vsN_mem.1 hx;omega⟩,zEU⟩,?_⟩,fun v _ h=>by cases h⟩,fun v h=> ?_⟩
  · refine List.pairwise_cons.2 ⟨fun x hx=>by have:=vsN_mem.1 hx;omega,?_⟩
    unfold y5
    rw[List.pairwise_map]
    exact List.pairwise_lt_range.imp fun q=>by omega
  · show 0<(y5 N).length;rw[zCu];omega
  rcases h with h|h
  · exact vsN_mem.1 h
  cases h
theorem zE3{N:Nat}(hN:1≤N∧N≤5){E:List EntA}(h:∀ e∈E,zNT N e):CfI N (zc (y5 N) E):=by
  unfold zc y9
  cases hq:E.reverse.find? (zAM E.length)with
  |none=>exact zPC hN
  |some x=>
    have h1:=List.find?_some hq
    have h2:=List.mem_reverse.1 (List.mem_of_find?_eq_some hq)
    unfold zAM at h1
    obtain⟨F,hF,hI⟩:=(h x h2).2 (of_decide_eq_true h1).1
    show CfI N ((xN x.data).getD ⟨[],[]⟩)
    rw[hF];exact hI
structure LdB(N lk K i:Nat)(n:NodA)(l:LdD):Prop where
  nd:(l.qa.map fun q=>q.2.id).Nodup
  mem:∀ p∈l.qa,1≤p.2.id∧p.2.id≤(N:Int)
  pm:∀ v∈(jy N n).vs,v≠xc i→(ya l.qa v).isSome=true
  pb:∀ p∈l.qa,PeerB n.E.length l.qd.length p.2
  rl:l.qd.length≤K
  rb:∀ r∈l.qd,0≤r∧r≤1000000000000000
  qj:l.qj.length≤lk
  ans:l.qf.length≤K
structure NodB(N lk K i:Nat)(n:NodA):Prop where
  term:n.t.term≤K
  E:n.E.length≤K
  good:(LogA.mk 0 0 n.E).good
  qm:∀ e∈n.E,zNT N e
  hen:(LogA.mk 0 0 n.E).end_≤n.t.term
  tim:TimB n.t
  hro:n.r.qp=4↔n.ld.isSome=true
  ht:n.r.qp=3∨n.r.qp=4→1≤n.t.term
  yes:n.yes.Nodup∧∀ v∈n.yes,1≤v∧v≤(N:Int)
  cl:n.r.qc≤n.E.length
  ld:∀ l,n.ld=some l→LdB N lk K i n l
structure MsgB(N K:Nat)(m:MsgA):Prop where
  src:1≤m.src∧m.src≤(N:Int)
  dst:1≤m.dst∧m.dst≤(N:Int)
  kind:(m.kind=1∨m.kind=2∨m.kind=3)∨(m.kind=4∨m.kind=5∨m.kind=6)∨m.kind=9
  nums:m.term≤K∧m.ql≤K∧m.qc≤K∧m.round≤K
  index:m.index+m.qm.length≤K
  qm:m.qm.length≤8∧∀ e∈m.qm,zNT N e
  conf:m.conf=⟨[],[]⟩∧m.data=[]
theorem MsgB.up{N K K':Nat}{m:MsgA}(h:MsgB N K m)(hk:K≤K'):MsgB N K' m:=
  ⟨h.src,h.dst,h.kind,by have:=h.nums;omega,by have:=h.index;omega,h.qm,h.conf⟩
theorem LdB.up{N lk K lk' K' i:Nat}{n:NodA}{l:LdD}(h:LdB N lk K i n l)(hk:K≤K')(hl:lk≤lk'):LdB N lk' K' i n l:=
  ⟨h.nd,h.mem,h.pm,h.pb,by have:=h.rl;omega,h.rb,by have:=h.qj;omega,by have:=h.ans;omega⟩
theorem NodB.up{N lk K lk' K' i:Nat}{n:NodA}(h:NodB N lk K i n)(hk:K≤K')(hl:lk≤lk'):NodB N lk' K' i n:=
  ⟨by have:=h.term;omega,by have:=h.E;omega,h.good,h.qm,h.hen,h.tim,h.hro,h.ht,h.yes,h.cl,fun l q=>(h.ld l q).up hk hl⟩
theorem LdB.len{N lk K i:Nat}{n:NodA}{l:LdD}(h:LdB N lk K i n l):l.qa.length≤N:=by
  have h1:=jr N _ h.nd fun x hx=>by
    obtain⟨p,hp,rfl⟩:=List.mem_map.1 hx
    exact h.mem p hp
  rwa [List.length_map]at h1
theorem MsgB.net{N K:Nat}{m:MsgA}(h:MsgB N K m)(hK:K≤100000):m.net N:=
  ⟨h.dst,by have:=h.kind;omega,by have:=h.nums;have:=h.index;omega,⟨h.qm.1,fun e he=>(h.qm.2 e he).1⟩,h.conf⟩
theorem NodB.fit{N lk K i:Nat}{n:NodA}(hN:1≤N∧N≤5)(h:NodB N lk K i n)(hK:K≤100000)(hlk:lk≤10000):n.fit (aN i) (y5 N):=by
  have hc:=zE3 hN h.qm
  obtain⟨c1,c2,c3⟩:=hc.len
  have hb:∀ l,n.ld=some l→l.bd:=fun l q=>by
    have h1:=h.ld l q
    have hE:=h.E
    refine⟨by have:=h1.len;omega,fun p hp=> ?_,fun p hp=>(h1.pb p hp).round,by have:=h1.rl;omega,by have:=h1.qj;omega,by have:=h1.ans;omega⟩
    have h2:=h1.pb p hp
    exact⟨by have:=h2.next;omega,by have:=h2.qy;omega,h2.qx⟩
  refine{htm:=⟨fun q=>h.ht (.inl q),by have:=h.term;omega⟩,good:=h.good,len:=by have:=h.E;omega,hen:=h.hen,hn:=h.tim.hn,hh:=h.tim.hh,hbt:=h.tim.hbt,hck:=h.tim.hck,hro:=h.hro,hld:=hb,hy:=by have:=jr N _ h.yes.1 h.yes.2;omega,hcm:=by rw[List.length_append];omega,hcl:=h.cl,hst:=h.tim.hst,htm1:=fun q=>h.ht (.inr q),hcv:=by omega,hpl:=fun l q=>by have:=(h.ld l q).len;omega,hpm:=fun l q=>(h.ld l q).pm}
theorem zEM{N:Nat}{F:ConfA}{yes:List Int}{v:Int}(hF:∀ v,v∈F.vs∨v∈F.ls→1≤v∧v≤(N:Int))(h:yes.Nodup∧∀ v∈yes,1≤v∧v≤(N:Int)):(y8 F yes v).Nodup∧∀ x∈y8 F yes v,1≤x∧x≤(N:Int):=by
  unfold y8
  split
  · rename_i q
    refine⟨List.nodup_append.2 ⟨h.1,by simp,fun a ha b hb=>by rw[List.mem_singleton.1 hb];exact fun e=>q.2 (e▸ha)⟩,fun x hx=> ?_⟩
    rcases List.mem_append.1 hx with hx|hx
    · exact h.2 x hx
    rw[List.mem_singleton.1 hx];exact hF v (.inl q.1.2)
  exact h
theorem zGX{E:List EntA}{e:EntA}:(LogA.mk 0 0 (E++[e])).end_=e.term:=zAg
theorem zB7{E:List EntA}{e:EntA}(h:(LogA.mk 0 0 E).good)(he:e.ok)(hi:e.index=E.length+1)(ht:(LogA.mk 0 0 E).end_≤e.term):(LogA.mk 0 0 (E++[e])).good:=by
  refine⟨h.i,h.t,folA_append.2 ⟨h.fol,⟨he,?_,ht⟩,trivial⟩⟩
  show e.index=jQ 0 E+1
  unfold jQ;omega
theorem zIC{E:List EntA}{k t:Nat}(h:(LogA.mk 0 0 E).fits k t):k≤E.length:=by
  have:=(LogA.fits_iff.1 h).1.2
  unfold LogA.last at this
  dsimp only at this;omega
theorem zIN{u:Nat}:∀ (l:List EntA) (t:Nat),(∀ e∈l,e.term≤u)→t≤u→xm t l≤u
  | [],t,_,h=>h
  |e::l,t,h,_=>by
    show xm e.term l≤u
    exact zIN l e.term (fun x hx=>h x (List.mem_cons_of_mem _ hx)) (h e qQ)
theorem zAq{l:List EntA}:∀ {i t:Nat},folA i t l→∀ e∈l,e.term≤xm t l:=by
  have mono:∀ (l:List EntA) (i t:Nat),folA i t l→t≤xm t l:=by
    intro l
    induction l with
    |nil=>intro i t _;exact Nat.le_refl _
    |cons a l ih=>intro i t h;exact Nat.le_trans h.1.2.2 (ih _ _ h.2)
  induction l with
  |nil=>intro i t _ e he;cases he
  |cons a l ih=>
    intro i t h e he
    rcases List.mem_cons.1 he with rfl|he
    · exact mono l _ _ h.2
    exact ih h.2 e he
theorem zN5{E m:List EntA}:(LogA.mk 0 0 E).put m=LogA.mk 0 0 ((LogA.mk 0 0 E).put m).l:=by unfold LogA.put;split<;>rfl
theorem zEW{E qm:List EntA}{i t:Nat}(hf:folA i t qm)(hfi:(LogA.mk 0 0 E).fits i t):
    (((LogA.mk 0 0 E).put qm).l=E∧(LogA.mk 0 0 E).kn qm=qm.length)∨∃ k,k<qm.length∧k=(LogA.mk 0 0 E).kn qm∧((LogA.mk 0 0 E).put qm).l=E.take (i+k)++qm.drop k:=by
  unfold LogA.put
  split
  · rename_i h
    refine .inr ⟨_,h,O,?_⟩
    have:=hf.idx _ h
    show E.take _++_=_
    rw[this]
    congr 2
  rename_i h
  have:=(LogA.mk 0 0 E).kn_le qm
  exact .inl ⟨O,by omega⟩
theorem zIb{E qm:List EntA}:∀ e∈((LogA.mk 0 0 E).put qm).l,e∈E∨e∈qm:=by
  unfold LogA.put
  split
  · intro e he
    rcases List.mem_append.1 he with h|h
    · exact .inl (List.mem_of_mem_take h)
    exact .inr (List.mem_of_mem_drop h)
  exact fun e he=> .inl he
theorem zJQ{E qm:List EntA}{i t:Nat}(hf:folA i t qm)(hfi:(LogA.mk 0 0 E).fits i t):i+(LogA.mk 0 0 E).kn qm≤E.length:=by
  have h:=zIC (zFa hf hfi)
  have h2:=(LogA.mk 0 0 E).kn_le qm
  unfold jQ at h
  rw[List.length_take]at h
  omega
theorem zK9{E qm:List EntA}{i t:Nat}(hf:folA i t qm)(hfi:(LogA.mk 0 0 E).fits i t):i+qm.length≤((LogA.mk 0 0 E).put qm).l.length∧((LogA.mk 0 0 E).put qm).l.length≤max E.length (i+qm.length):=by
  have h1:=zJQ hf hfi
  rcases zEW hf hfi with⟨h2,h3⟩|⟨k,h2,h3,h4⟩
  · rw[h2];omega
  rw[h4,List.length_append,List.length_take,List.length_drop];omega
theorem peerIx_some{ps:List PeerP}{v:Int}:(ya ps v).isSome=true↔v∈ps.map fun q=>q.2.id:=by
  unfold ya
  rw[List.findIdx?_isSome,List.any_eq_true,List.mem_map]
  constructor
  · rintro⟨p,hp,h⟩;exact⟨p,hp,of_decide_eq_true h⟩
  rintro⟨p,hp,h⟩;exact⟨p,hp,decide_eq_true h⟩
theorem zK5{E:List EntA}{u k:Nat}(hg:(LogA.mk 0 0 E).good)(h:(LogA.mk 0 0 E).end_≤u):((LogA.mk 0 0 E).termE k).1≤u:=by
  unfold LogA.termE
  split
  · exact Nat.zero_le _
  split
  · exact Nat.zero_le _
  split
  · rename_i h1 h2 h3
    unfold LogA.last at h3
    dsimp only at h1 h2 h3
    exact Nat.le_trans (zAq hg.fol _ (zd (by show k - 0 - 1<E.length;omega))) h
  exact Nat.zero_le _
theorem zDE{a:StA}{vs0:List Int}{E:List EntA}:(jZ a vs0 E).map (fun q=>q.2.id)=(zMV ((zc vs0 E).vs++(zc vs0 E).ls)).filter (· ≠a.id):=by
  unfold jZ
  rw[List.map_map]
  exact List.map_id' _
theorem ordI_perm{l:List Int}:(zMV l).Perm l:=List.mergeSort_perm _ _
theorem CfI.nodup{N:Nat}{F:ConfA}(h:CfI N F):(F.vs++F.ls).Nodup:=
  List.nodup_append.2 ⟨jX h.ok.1.1.1,jX h.ok.1.1.2,fun a ha b hb e=>h.ok.2 a ha (e▸hb)⟩
theorem zKR{a:StA}{F:ConfA}{id:Int}{last:Nat}{ps:List PeerP}(hn:(ps.map fun q=>q.2.id).Nodup):((kM a F id last ps).map fun q=>q.2.id).Nodup:=by
  have h1:((ps.filter (yl F)).map fun q=>q.2.id).Nodup:=hn.sublist (List.Sublist.map _ List.filter_sublist)
  unfold kM
  split
  · rename_i h
    rw[List.map_append]
    refine List.nodup_append.2 ⟨h1,by simp,fun x hx y hy e=> ?_⟩
    rw[List.map_cons,List.map_nil,List.mem_singleton]at hy
    have h2:=peerIx_some.2 hx
    rw[e,hy]at h2
    have h3:=h.2
    rw[show((0,xX last id):PeerP).2.id=id from rfl]at h2
    rw[h3]at h2;cases h2
  exact h1
theorem zJI{a:StA}{F:ConfA}{id:Int}{last:Nat}{ps:List PeerP}{v:Int}(hF:F.ok)(hv:v∈F.vs)(hne:v≠a.id)(h:v≠id→v∈ps.map fun q=>q.2.id):v∈(kM a F id last ps).map fun q=>q.2.id:=by
  have key:v∈(ps.map fun q=>q.2.id)→v∈(ps.filter (yl F)).map fun q=>q.2.id:=fun q=>by
    obtain⟨p,hp,e⟩:=List.mem_map.1 q
    exact List.mem_map.2 ⟨p,List.mem_filter.2 ⟨hp,zDq ⟨hF, .inl (by rw[e];exact hv)⟩⟩,e⟩
  unfold kM
  by_cases c:v=id
  · subst c
    split
    · rw[List.map_append];exact List.mem_append.2 (.inr (by simp[xX]))
    rename_i h2
    refine Classical.byContradiction fun q=>h2 ⟨⟨⟨hF, .inl hv⟩,hne⟩,?_⟩
    cases h3:ya (ps.filter (yl F)) v with
    |none=>rfl
    |some k=>exact absurd (peerIx_some.1 (by rw[h3];rfl)) q
  split
  · rw[List.map_append];exact List.mem_append.2 (.inl (key (h c)))
  exact key (h c)
theorem zJ0{a:StA}{term:Nat}{vs0:List Int}{E:List EntA}{ps:List PeerP}{c:Nat}(h:c≤E.length):yY a term vs0 E ps c≤E.length:=by
  unfold yY
  split
  · rename_i q;exact zIC q.2.2
  exact h
theorem PeerB.up{E R E' R':Nat}{p:PeerM}(h:PeerB E R p)(h1:E≤E')(h2:R≤R'):PeerB E' R' p:=
  ⟨by have:=h.next;omega,by have:=h.qy;omega,h.qx,by have:=h.round;omega⟩
theorem MsgB.one{N K i:Nat}{kind dst:Int}{term:Nat}{flag:Bool}(hi:i<N)(hd:1≤dst∧dst≤(N:Int))(ht:term≤K)(hk:kind=4):MsgB N K (one (aN i) kind dst term flag):=
  ⟨by show 1≤(i:Int)+1∧(i:Int)+1≤_;omega,hd, .inr (.inl (.inl hk)),⟨ht,Nat.zero_le _,Nat.zero_le _,Nat.zero_le _⟩,Nat.zero_le _,⟨Nat.zero_le _,fun e he=>by cases he⟩,rfl,rfl⟩
theorem MsgB.reply{N K i idx term:Nat}{q:MsgA}{flag:Bool}(hi:i<N)(hq:MsgB N K q)(h1:idx≤K)(h2:term≤K):MsgB N K (jk (aN i) term q 6 idx 0 flag):=
  ⟨by show 1≤(i:Int)+1∧(i:Int)+1≤_;omega,hq.src, .inr (.inl (.inr (.inr rfl))),⟨h2,Nat.zero_le _,Nat.zero_le _,hq.nums.2.2.2⟩,h1,⟨Nat.zero_le _,fun e he=>by cases he⟩,rfl,rfl⟩
theorem zII{N lk K i:Nat}{ch:Bool}{M:MsgA→Prop}{n n':NodA}{ms:List MsgA}{rs:List RdyD}(hN:1≤N∧N≤5)(hi:i<N)(hB:NodB N lk K i n)(hM:∀ q,M q→MsgB N K q)(ha:Act N ch lk M i n n' ms rs)(hK:K≤99999):
    NodB N lk (K+1) i n'∧(∀ m∈ms,MsgB N (K+1) m)∧ms.length≤16:=by
  have hU:=hB.up (Nat.le_succ K) (Nat.le_refl lk)
  have no:∀ m∈([]:List MsgA),MsgB N (K+1) m:=fun m h=>by cases h
  have no':([]:List MsgA).length≤16:=Nat.zero_le _
  have hC:=zE3 hN hB.qm
  have hT:=hB.term
  have hE:=hB.E
  have hcl:=hB.cl
  cases ha with
  |tim t h1 h2=>exact⟨⟨by rw[h1.1];exact hU.term,hU.E,hU.good,hU.qm,by rw[h1.1];exact hU.hen,h2,hU.hro,fun q=>by rw[h1.1];exact hU.ht q,hU.yes,hU.cl,fun l q=>⟨(hU.ld l q).nd,(hU.ld l q).mem,(hU.ld l q).pm,(hU.ld l q).pb,(hU.ld l q).rl,(hU.ld l q).rb,(hU.ld l q).qj,(hU.ld l q).ans⟩⟩,no,no'⟩
  |say ms h hl=>
    refine⟨hU,fun m hm=> ?_,hl⟩
    have h1:=h m hm
    have h2:=h1.src
    have h3:=h1.index
    have h4:=h1.lt
    have h5:m.term≤K+1:=by
      rcases h1.term with q|⟨q,hq,e⟩
      · omega
      have:=(hM q hq).nums.1;omega
    have h6:m.round≤K+1:=by
      rcases h1.round with q|⟨q,hq,_,_,e⟩
      · omega
      have:=(hM q hq).nums.2.2.2;omega
    exact⟨by omega,h1.dst,by have:=h1.kind;omega,⟨h5,by omega,by rw[h1.qc];omega,h6⟩,by rw[h1.qm];show m.index+0≤_;omega,⟨by rw[h1.qm];exact Nat.zero_le _,fun e he=>by rw[h1.qm]at he;cases he⟩,h1.conf,h1.data⟩
  |later q d h h2=>
    have h3:=(hM q h).nums.1
    exact⟨⟨by show q.term≤_;omega,hU.E,hU.good,hU.qm,by have:=hB.hen;show(LogA.mk 0 0 n.E).end_≤q.term;omega,⟨hB.tim.hn,hB.tim.hh,hB.tim.hbt,hB.tim.hck,hB.tim.hst⟩,by simp,fun _=>by show 1≤q.term;omega,⟨by simp,fun v hv=>by cases hv⟩,hU.cl,fun l q=>by cases q⟩,no,no'⟩
  |follow wh=>exact⟨⟨hU.term,hU.E,hU.good,hU.qm,hU.hen,hU.tim,by simp,fun q=>by rcases q with q|q<;>exact absurd q (by show ¬(1:Int)=_;decide),⟨by simp,fun v hv=>by cases hv⟩,hU.cl,fun l q=>by cases q⟩,no,no'⟩
  |cand=>exact⟨⟨hU.term,hU.E,hU.good,hU.qm,hU.hen,hU.tim,by simp,fun q=>by rcases q with q|q<;>exact absurd q (by show ¬(2:Int)=_;decide),⟨by simp,fun v hv=>by rw[List.mem_singleton.1 hv];unfold xc;omega⟩,hU.cl,fun l q=>by cases q⟩,no,no'⟩
  |yes2 v h=>exact⟨⟨hU.term,hU.E,hU.good,hU.qm,hU.hen,hU.tim,hU.hro,hU.ht,zEM hC.mem hB.yes,hU.cl,fun l q=>⟨(hU.ld l q).nd,(hU.ld l q).mem,(hU.ld l q).pm,(hU.ld l q).pb,(hU.ld l q).rl,(hU.ld l q).rb,(hU.ld l q).qj,(hU.ld l q).ans⟩⟩,no,no'⟩
  |yes3 q h hq hk hd=>exact⟨⟨hU.term,hU.E,hU.good,hU.qm,hU.hen,hU.tim,hU.hro,hU.ht,zEM hC.mem hB.yes,hU.cl,fun l q=>⟨(hU.ld l q).nd,(hU.ld l q).mem,(hU.ld l q).pm,(hU.ld l q).pb,(hU.ld l q).rl,(hU.ld l q).rb,(hU.ld l q).qj,(hU.ld l q).ans⟩⟩,no,no'⟩
  |stand d=>exact⟨⟨by show n.t.term+1≤_;omega,hU.E,hU.good,hU.qm,by have:=hB.hen;show(LogA.mk 0 0 n.E).end_≤n.t.term+1;omega,⟨hB.tim.hn,hB.tim.hh,hB.tim.hbt,hB.tim.hck,hB.tim.hst⟩,by simp,fun _=>by show 1≤n.t.term+1;omega,⟨by simp,fun v hv=>by rw[List.mem_singleton.1 hv];unfold xc;omega⟩,hU.cl,fun l q=>by cases q⟩,no,no'⟩
  |asks ms h hm hl=>
    refine⟨hU,fun m hm'=> ?_,hl⟩
    have h1:=hm m hm'
    have h2:=h1.src
    have h3:=h1.index
    have h4:=h1.lt
    have h5:=hB.hen
    have h6:=h1.term
    exact⟨by omega,h1.dst,by have:=h1.kind;omega,⟨by omega,by omega,by rw[h1.rest.1];omega,by rw[h1.rest.2.1];omega⟩,by rw[h1.rest.2.2];show m.index+0≤_;omega,⟨by rw[h1.rest.2.2];exact Nat.zero_le _,fun e he=>by rw[h1.rest.2.2]at he;cases he⟩,h1.conf,h1.data⟩
  |elect h hq=>
    have h1:=hB.ht (.inl h)
    have hek:(zAv n.E.length n.t.term).ok:=zIZ V ⟨h1,by omega⟩
    have hcf:jy N (zAa N i n)=jy N n:=zAc hB.good.fol (by show ¬(1:Int)=3;decide)
    refine⟨⟨hU.term,by show(n.E++_).length≤_;rw[List.length_append];show _+1≤_;omega,zB7 hB.good hek O hB.hen,fun e he=> ?_,by show(LogA.mk 0 0 (n.E++_)).end_≤_;rw[zGX];exact Nat.le_refl _,⟨hB.tim.hn,hB.tim.hh,hB.tim.hn,hB.tim.hn,by show 0≤n.t.now∧n.t.now≤n.t.now;have:=hB.tim.hn;omega⟩,by simp[zAa],fun _=>h1,⟨by simp[zAa],fun v hv=>by cases hv⟩,by show n.r.qc≤(n.E++_).length;rw[List.length_append];omega,fun l q=> ?_⟩,no,no'⟩
    · rcases List.mem_append.1 he with he|he
      · exact hB.qm e he
      rw[List.mem_singleton.1 he];exact⟨hek,fun q=>absurd q (by show ¬(1:Int)=3;decide)⟩
    cases q
    have hs:(ldZ N i n).qa=jZ (aN i) (y5 N) n.E:=rfl
    refine⟨?_,fun p hp=> ?_,fun v hv hne=> ?_,fun p hp=> ?_,by show 1≤K+1;omega,fun r hr=> ?_,Nat.zero_le _,Nat.zero_le _⟩
    · rw[hs,zDE]
      exact(ordI_perm.nodup_iff.2 hC.nodup).sublist List.filter_sublist
    · have h2:p.2.id∈(jZ (aN i) (y5 N) n.E).map fun q=>q.2.id:=List.mem_map_of_mem (f:=fun q:PeerP=>q.2.id) hp
      rw[zDE]at h2
      exact hC.mem _ (List.mem_append.1 (ordI_perm.mem_iff.1 (List.mem_filter.1 h2).1))
    · rw[hcf]at hv
      rw[hs,peerIx_some,zDE]
      exact List.mem_filter.2 ⟨ordI_perm.mem_iff.2 (List.mem_append.2 (.inl hv)),decide_eq_true (show v≠xc i from hne)⟩
    · unfold ldZ jZ at hp
      obtain⟨v,hv,rfl⟩:=List.mem_map.1 hp
      exact⟨by show 1≤n.E.length+1∧n.E.length+1≤(n.E++_).length+1;rw[List.length_append];omega,Nat.zero_le _,by show(0:Int)≤0∧(0:Int)≤4;decide,Nat.zero_le _⟩
    rw[List.mem_singleton.1 hr];exact hB.tim.hn
  |qD q d hq hk hv hr hf=>exact⟨⟨hU.term,hU.E,hU.good,hU.qm,hU.hen,⟨hB.tim.hn,hB.tim.hh,hB.tim.hbt,hB.tim.hck,hB.tim.hst⟩,hU.hro,hU.ht,hU.yes,hU.cl,fun l q=>⟨(hU.ld l q).nd,(hU.ld l q).mem,(hU.ld l q).pm,(hU.ld l q).pb,(hU.ld l q).rl,(hU.ld l q).rb,(hU.ld l q).qj,(hU.ld l q).ans⟩⟩,fun m hm=>by rw[List.mem_singleton.1 hm];exact MsgB.one hi (hM q hq).src V rfl,by show 1≤16;decide⟩
  |app q hq hk hr hld hc he hf hfi=>
    have h1:=hM q hq
    have h2:=zK9 hf hfi
    have h3:=h1.index
    refine⟨⟨hU.term,by show((LogA.mk 0 0 n.E).put q.qm).l.length≤_;omega,zN5▸zFj hB.good hf hfi,fun e h=> ?_,?_,hU.tim,hU.hro,hU.ht,hU.yes,by show max n.r.qc _≤((LogA.mk 0 0 n.E).put q.qm).l.length;omega,fun l q=>by rw[show n.ld=some l from q]at hld;cases hld⟩,fun m hm=>by rw[List.mem_singleton.1 hm];exact MsgB.reply hi (h1.up (Nat.le_succ K)) V V,by show 1≤16;decide⟩
    · rcases zIb e h with q|q
      · exact hB.qm e q
      exact h1.qm.2 e q
    refine zIN _ 0 (fun e h=> ?_) (Nat.zero_le _)
    rcases zIb e h with q|q
    · exact Nat.le_trans (zAq hB.good.fol e q) hB.hen
    exact he e q
  |low q hq hk hr hc=>exact⟨hU,fun m hm=>by rw[List.mem_singleton.1 hm];exact MsgB.reply hi ((hM q hq).up (Nat.le_succ K)) V V,by show 1≤16;decide⟩
  |lead l l' hr hl hs=>
    have h1:=hB.ld l hl
    have hrl:=h1.rl
    refine⟨⟨hU.term,hU.E,hU.good,hU.qm,hU.hen,hU.tim,by simp[hr],hU.ht,hU.yes,hU.cl,fun l2 q=> ?_⟩,no,no'⟩
    cases q
    refine⟨by rw[hs.ids];exact h1.nd,fun p hp=> ?_,fun v hv hne=> ?_,hs.bd,?_,fun r hr=> ?_,by rw[hs.qj];exact h1.qj,by have:=hs.qf;have:=h1.ans;omega⟩
    · obtain⟨p0,h2,h3,_⟩:=hs.ps p hp
      rw[h3];exact h1.mem p0 h2
    · rw[peerIx_some,hs.ids,←peerIx_some];exact h1.pm v hv hne
    · rcases hs.qd with e|e
      · rw[e];omega
      rw[e,List.length_append];show _+1≤_;omega
    rcases hs.qd with e|e
    · rw[e]at hr;exact h1.rb r hr
    rw[e]at hr
    rcases List.mem_append.1 hr with hr|hr
    · exact h1.rb r hr
    rw[List.mem_singleton.1 hr];exact hB.tim.hn
  |grow l e P hr hl he hg=>
    have h1:=hB.ld l hl
    have hrl:=h1.rl
    have hel:(n.E++[e]).length=n.E.length+1:=by rw[List.length_append];rfl
    have hg2:zNT N e∧((P.map fun q=>q.2.id).Nodup∧(∀ p∈P,1≤p.2.id∧p.2.id≤(N:Int)))∧(∀ v∈(zc (y5 N) (n.E++[e])).vs,v≠xc i→(ya P v).isSome=true)∧∀ p∈P,PeerB (n.E.length+1) l.qd.length p.2:=by
      rcases hg with⟨hk,rfl⟩|⟨_,hk,kind,id,F,hid,hch,hd,_,_,hP⟩
      · exact⟨⟨he.1,fun q=>by omega⟩,⟨h1.nd,h1.mem⟩,fun v hv hne=>h1.pm v (by rw[zAc hB.good.fol V]at hv;exact hv) hne,fun p hp=>(h1.pb p hp).up (Nat.le_succ _) (Nat.le_refl _)⟩
      have hFo:=(zFR hch).1
      obtain⟨_,hpth,_⟩:=zGA (c:=ConfD.mk (.slice none 0 0) (jy N n).vs (.slice none 0 0) (jy N n).ls) (id:=id) (vs:=F.vs) (ls:=F.ls) (k:=kind) hch
      have hcfg:zc (y5 N) (n.E++[e])=F:=zCF hk he.2.2 hd
      have hmem:∀ v,v∈F.vs∨v∈F.ls→1≤v∧v≤(N:Int):=fun v hv=>by
        by_cases c:v=id
        · subst c;exact hid
        have h2:=hpth v c
        exact hC.mem v (hv.elim (fun q=> .inl (h2.1.2 q)) (fun q=> .inr (h2.2.2 q)))
      refine⟨⟨he.1,fun _=>⟨F,hd,hFo,hmem⟩⟩,⟨(hP.map _).nodup_iff.2 (zKR h1.nd),fun p hp=> ?_⟩,fun v hv hne=> ?_,fun p hp=> ?_⟩
      · have h2:=hP.mem_iff.1 hp
        unfold kM at h2
        split at h2
        · rename_i hq
          rcases List.mem_append.1 h2 with h2|h2
          · exact h1.mem p (List.mem_filter.1 h2).1
          rw[List.mem_singleton.1 h2];exact hid
        exact h1.mem p (List.mem_filter.1 h2).1
      · rw[hcfg]at hv
        rw[peerIx_some]
        refine(hP.map _).mem_iff.2 (zJI hFo hv hne fun hvi=> ?_)
        exact peerIx_some.1 (h1.pm v ((hpth v hvi).1.2 hv) hne)
      rcases zB8 p (hP.mem_iff.1 hp)with h2|h2
      · exact(h1.pb p h2).up (Nat.le_succ _) (Nat.le_refl _)
      rw[h2]
      exact⟨by show 1≤n.E.length+1+1∧n.E.length+1+1≤n.E.length+1+1;omega,Nat.zero_le _,by show(0:Int)≤0∧(0:Int)≤4;decide,Nat.zero_le _⟩
    obtain⟨g1,⟨g2,g3⟩,g4,g5⟩:=hg2
    refine⟨⟨hU.term,by show(n.E++[e]).length≤_;omega,zB7 hB.good he.1 he.2.2 (by rw[he.2.1];exact hB.hen),fun x hx=> ?_,by show(LogA.mk 0 0 (n.E++[e])).end_≤_;rw[zGX,he.2.1];exact Nat.le_refl _,⟨hB.tim.hn,hB.tim.hh,hB.tim.hbt,hB.tim.hck,by show 0≤n.t.now∧n.t.now≤n.t.now;have:=hB.tim.hn;omega⟩,by simp[hr],hU.ht,hU.yes,by show n.r.qc≤(n.E++[e]).length;omega,fun l2 q=> ?_⟩,no,no'⟩
    · rcases List.mem_append.1 hx with hx|hx
      · exact hB.qm x hx
      rw[List.mem_singleton.1 hx];exact g1
    cases q
    exact⟨g2,g3,g4,fun p hp=>by show PeerB (n.E++[e]).length _ _;rw[hel];exact g5 p hp,by show l.qd.length≤_;omega,h1.rb,h1.qj,by have:=h1.ans;show l.qf.length≤_;omega⟩
  |count l hr hl=>exact⟨⟨hU.term,hU.E,hU.good,hU.qm,hU.hen,hU.tim,hU.hro,hU.ht,hU.yes,zJ0 hcl,fun l q=>⟨(hU.ld l q).nd,(hU.ld l q).mem,(hU.ld l q).pm,(hU.ld l q).pb,(hU.ld l q).rl,(hU.ld l q).rb,(hU.ld l q).qj,(hU.ld l q).ans⟩⟩,no,no'⟩
  |feed l ms hr hl hm hml=>
    refine⟨hU,fun m hm'=> ?_,hml⟩
    have h1:=hm m hm'
    have h2:=h1.src
    have h3:=h1.index
    have h4:=h1.term
    have h5:=h1.qc
    have h6:=h1.round
    have h7:=(hB.ld l hl).rl
    have h8:m.ql≤K:=by rw[h1.lt];exact Nat.le_trans (zK5 hB.good hB.hen) hT
    have h9:m.qm.length≤n.E.length - m.index:=by
      have:=congrArg List.length h1.qm.2
      rw[List.length_take,List.length_drop]at this;omega
    exact⟨by omega,h1.dst,by have:=h1.kind;omega,⟨by omega,by omega,by omega,by omega⟩,by omega,⟨h1.qm.1,fun e he=>hB.qm e (by rw[h1.qm.2]at he;exact List.mem_of_mem_drop (List.mem_of_mem_take he))⟩,h1.conf,h1.data⟩
  |look l id hr hl hf hk=>
    have h1:=hU.ld l hl
    refine⟨⟨hU.term,hU.E,hU.good,hU.qm,hU.hen,hU.tim,by simp[hr],hU.ht,hU.yes,hU.cl,fun l2 q=> ?_⟩,no,no'⟩
    cases q
    exact⟨h1.nd,h1.mem,h1.pm,h1.pb,h1.rl,h1.rb,by show(l.qj++[_]).length≤_;rw[List.length_append];exact hk,h1.ans⟩
  |imm id hr hf hq=>exact⟨hU,no,no'⟩
  |tell l k hk hr hl=>
    have h1:=hU.ld l hl
    have ht:TimB (xZ k l.qd n.t):=by
      unfold xZ
      split
      · exact hB.tim
      refine⟨hB.tim.hn,?_,hB.tim.hbt,hB.tim.hck,hB.tim.hst⟩
      show 0≤zG l.qd (k - 1)∧zG l.qd (k - 1)≤1000000000000000
      by_cases c:k - 1<l.qd.length
      · exact h1.rb _ (zd c)
      unfold zG;rw[List.getElem?_eq_none V];decide
    have htt:(xZ k l.qd n.t).term=n.t.term:=by unfold xZ;split<;>rfl
    refine⟨⟨by show(xZ k l.qd n.t).term≤_;omega,hU.E,hU.good,hU.qm,by show _≤(xZ k l.qd n.t).term;rw[htt];exact hB.hen,ht,by simp[hr],fun q=>by show 1≤(xZ k l.qd n.t).term;rw[htt];exact hU.ht q,hU.yes,hU.cl,fun l2 q=> ?_⟩,no,no'⟩
    cases q
    unfold x9
    split
    · exact⟨h1.nd,h1.mem,h1.pm,h1.pb,h1.rl,h1.rb,h1.qj,h1.ans⟩
    exact⟨h1.nd,h1.mem,h1.pm,h1.pb,h1.rl,h1.rb,Nat.le_trans (List.length_filter_le _ _) h1.qj,h1.ans⟩
end Go.Proofs.YtkkeknmkipkbmaaGreat
