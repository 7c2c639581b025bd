import Derived.Test.YtkkeknmkipkbmaaGreatNetR
import Derived.Test.YtkkeknmkipkbmaaGreatSafe
set_option linter.unusedSectionVars false
set_option linter.unusedSimpArgs false
set_option linter.unusedVariables false
set_option maxRecDepth 10000
namespace Go.Proofs.YtkkeknmkipkbmaaGreat
open Go Go.Sc Go.Proofs
def isK(e:EntA):Bool:=decide (e.kind=3)
def cfK(vs:List Int)(X:List EntA):ConfA:=match X.reverse.find? isK with
  |some x=>(xN x.data).getD ⟨[],[]⟩
  |none=>⟨vs,[]⟩
theorem zB9{vs:List Int}{X:List EntA}(h:folA 0 0 X):zc vs X=cfK vs X:=by
  unfold zc y9 cfK
  rw[zBI (q:=isK) fun y hy=> ?_]
  · cases X.reverse.find? isK<;>rfl
  unfold zAM isK
  obtain⟨k,hk,rfl⟩:=List.mem_iff_getElem.1 (List.mem_reverse.1 hy)
  have:=folA.idx h k hk
  rw[nth_eq (List.getElem?_eq_getElem hk)]at this
  by_cases c:X[k].kind=3
  · rw[decide_eq_true c,decide_eq_true ⟨c,by omega⟩]
  rw[decide_eq_false c,decide_eq_false (fun q=>c q.1)]
def qu(N:Nat)(X:List EntA)(Q:List Int):Prop:=(cfK (y5 N) X).qv Q
theorem xS(N:Nat):Maj (qu N):=by
  refine⟨fun X Q R hQ hR=> ?_,fun X Y hp hn Q=> ?_⟩
  · obtain⟨x,_,h1,h2⟩:=zQq (p:=fun _=>true) (q:=fun _=>true) (u:=(cfK (y5 N) X).vs) (zAo _).symm (zAo _).symm V V (.inl (Nat.le_refl _)) hQ.2 hR.2
    exact⟨x,h1,h2⟩
  obtain⟨Z,rfl⟩:=hp
  have e:cfK (y5 N) (X++Z)=cfK (y5 N) X:=by
    unfold cfK
    rw[List.reverse_append,List.find?_append]
    rw[show Z.reverse.find? isK=none from ?_]
    · rfl
    rw[List.find?_eq_none]
    intro x hx
    obtain⟨k,hk,rfl⟩:=List.mem_iff_getElem.1 (List.mem_reverse.1 hx)
    have h1:=hn (X.length+k) Z[k] V (by rw[List.getElem?_append_right V,Nat.add_sub_cancel_left];exact List.getElem?_eq_getElem hk)
    unfold isK
    rw[decide_eq_true_eq];exact h1
  unfold qu;rw[e]
structure Go(g g':Gh):Prop where
  now:g.now≤g'.now
  els:∀ r∈g.els,r∈g'.els
  L:∀ r∈g.els,g.Lr r<+:g'.Lr r
  vts:∀ w∈g.vts,w∈g'.vts
  acks:∀ a∈g.acks,a∈g'.acks
  coms:∀ c∈g.coms,c∈g'.coms
theorem Go.refl(g:Gh):Go g g:=⟨Nat.le_refl _,fun _ h=>h,fun _ _=>List.prefix_rfl,fun _ h=>h,fun _ h=>h,fun _ h=>h⟩
theorem Go.trans{g g' g'':Gh}(h:Go g g')(k:Go g' g''):Go g g'':=
  ⟨Nat.le_trans h.now k.now,fun r q=>k.els r (h.els r q),fun r q=>(h.L r q).trans (k.L r (h.els r q)),fun w q=>k.vts w (h.vts w q),fun a q=>k.acks a (h.acks a q),fun c q=>k.coms c (h.coms c q)⟩
theorem Go.built{g g':Gh}(h:Go g g'){X:List EntA}(b:Built g X):Built g' X:=fun i e he=>by
  obtain⟨s,hs,h1,h2,h3⟩:=b i e he
  exact⟨s,h.els s hs,h1,h2,h3.up (h.L s hs)⟩
def AkI(g:Gh)(E:List EntA)(T:Nat)(a:AckR):Prop:=∃ r∈g.els,r.T=a.T∧a.n≤(g.Lr r).length∧∀ j,j≤a.n→Has E (g.Lr r) j∨∃ s∈g.els,a.T<s.T∧s.T≤T∧¬ Has s.E (g.Lr r) j
theorem Go.ak{g g':Gh}(h:Go g g'){E E':List EntA}{T:Nat}{a:AckR}(b:AkI g E T a)(hE:E<+:E'){T':Nat}(hT:T≤T'):AkI g' E' T' a:=by
  obtain⟨r,hr,h1,h2,h3⟩:=b
  refine⟨r,h.els r hr,h1,Nat.le_trans h2 (h.L r hr).length_le,fun j hj=> ?_⟩
  rcases h3 j hj with q|⟨s,hs,q1,q2,q3⟩
  · exact .inl ((q.up (h.L r hr)).symm.up hE).symm
  exact .inr ⟨s,h.els s hs,q1,by omega,fun q=>q3 (q.of_up (h.L r hr) V)⟩
def CmI(g:Gh)(E:List EntA)(T c:Nat):Prop:=c=0∨∃ x∈g.coms,∃ r∈g.els,r.T=x.T∧x.T≤T∧c≤x.n∧Has E (g.Lr r) c
theorem Go.cm{g g':Gh}(h:Go g g'){E E':List EntA}{T c:Nat}(b:CmI g E T c)(hE:E<+:E'){T':Nat}(hT:T≤T'):CmI g' E' T' c:=by
  rcases b with b|⟨x,hx,r,hr,h1,h2,h3,h4⟩
  · exact .inl b
  exact .inr ⟨x,h.coms x hx,r,h.els r hr,h1,by omega,h3,((h4.up (h.L r hr)).symm.up hE).symm⟩
structure NodI(g:Gh)(i:Nat)(n:NodA):Prop where
  B:Built g n.E
  tl:∀ r∈g.els,r.id=xc i→r.T≤n.t.term∧(r.T=n.t.term→n.r.qp≠3)
  vt:∀ w∈g.vts,w.v=xc i→w.T≤n.t.term∧(w.T=n.t.term→n.t.qD=w.c)
  vc:∀ w∈g.vts,w.c=xc i→w.T≤n.t.term∧(w.T=n.t.term→n.r.qp=3→w.i=n.E.length∧w.t=xm 0 n.E)
  el:n.r.qp=4→∃ r∈g.els,r.T=n.t.term∧r.id=xc i∧g.Lr r=n.E
  ak:∀ a∈g.acks,a.v=xc i→a.T≤n.t.term∧AkI g n.E n.t.term a
  cm:CmI g n.E n.t.term n.r.qc
  cd:n.r.qp=3→xm 0 n.E<n.t.term∧∀ v∈n.yes,∃ w∈g.vts,w.v=v∧w.T=n.t.term∧w.c=xc i
  ld:∀ l,n.ld=some l→∀ p∈l.qa,p.2.qy=0∨∃ a∈g.acks,a.v=p.2.id∧a.T=n.t.term∧p.2.qy≤a.n
def AskI(i:Nat)(n:NodA)(T idx lt:Nat):Prop:=T≤n.t.term∧(T=n.t.term→n.r.qp=3→idx=n.E.length∧lt=xm 0 n.E)
structure MsgI(g:Gh)(m:MsgA):Prop where
  k4:m.kind=4→m.flag=true→∃ w∈g.vts,w.v=m.src∧w.T=m.term∧w.c=m.dst
  k5:m.kind=5→∃ s∈g.els,s.T=m.term∧m.index+m.qm.length≤(g.Lr s).length∧m.qm=((g.Lr s).drop m.index).take m.qm.length∧(m.index=0∨m.ql=(zG (g.Lr s) (m.index - 1)).term)∧CmI g (g.Lr s) m.term m.qc
  k6:m.kind=6→m.flag=true→∃ a∈g.acks,a.v=m.src∧a.T=m.term∧m.index≤a.n
structure GhI(N:Nat)(g:Gh)(X:NetA):Prop where
  ok:g.ok (qu N)
  vk:∀ w∈g.vts,w.k≤g.now
  vfr:∀ w∈g.vts,xm 0 w.W<w.t∨(w.t=xm 0 w.W∧w.W.length≤w.i)
  vnz:∀ w∈g.vts,w.c≠0
  nd:∀ i,i<N→NodI g i (zG X.nodes i)
  ms:∀ m∈X.way,MsgI g m
  k3:∀ m∈X.way,m.kind=3→∀ i,i<N→m.src=xc i→AskI i (zG X.nodes i) m.term m.index m.ql
theorem zNB{L L':List EntA}{i k:Nat}(h:L<+:L')(hk:i+k≤L.length):(L.drop i).take k=(L'.drop i).take k:=by
  obtain⟨Z,rfl⟩:=h
  rw[List.drop_append_of_le_length V,List.take_append_of_le_length (by rw[List.length_drop];omega)]
theorem zO1{L L':List EntA}{i:Nat}(h:L<+:L')(hi:i<L.length):zG L' i=zG L i:=by
  obtain⟨Z,rfl⟩:=h
  exact zFI hi
theorem Go.msg{g g':Gh}(h:Go g g'){m:MsgA}(b:MsgI g m):MsgI g' m:=by
  refine⟨fun k f=> ?_,fun k=> ?_,fun k f=> ?_⟩
  · obtain⟨w,hw,q⟩:=b.k4 k f;exact⟨w,h.vts w hw,q⟩
  · obtain⟨s,hs,h1,h2,h3,h4,h5⟩:=b.k5 k
    have hp:=h.L s hs
    have hl:=hp.length_le
    refine⟨s,h.els s hs,h1,by omega,h3.trans (zNB hp h2),?_,h.cm h5 hp (Nat.le_refl _)⟩
    by_cases c:m.index=0
    · exact .inl c
    rw[zO1 hp V];exact h4
  obtain⟨a,ha,q⟩:=b.k6 k f;exact⟨a,h.acks a ha,q⟩
theorem NodI.lift{g g':Gh}{j:Nat}{n:NodA}(h:NodI g j n)(hg:Go g g')(hel:∀ r∈g.els,r.id=xc j→g'.Lr r=g.Lr r)(e1:∀ r∈g'.els,r∈g.els∨r.id≠xc j)(e2:∀ w∈g'.vts,w∈g.vts∨(w.v≠xc j∧(w.c=xc j→AskI j n w.T w.i w.t)))(e3:∀ a∈g'.acks,a∈g.acks∨a.v≠xc j):NodI g' j n where
  B:=hg.built h.B
  tl r hr hid:=by
    rcases e1 r hr with q|q
    · exact h.tl r q hid
    exact absurd hid q
  vt w hw hv:=by
    rcases e2 w hw with q|q
    · exact h.vt w q hv
    exact absurd hv q.1
  vc w hw hc:=by
    rcases e2 w hw with q|q
    · exact h.vc w q hc
    exact q.2 hc
  el hr:=by
    obtain⟨r,h1,h2,h3,h4⟩:=h.el hr
    exact⟨r,hg.els r h1,h2,h3,(hel r h1 h3).trans h4⟩
  ak a ha hv:=by
    rcases e3 a ha with q|q
    · exact⟨(h.ak a q hv).1,hg.ak (h.ak a q hv).2 List.prefix_rfl (Nat.le_refl _)⟩
    exact absurd hv q
  cm:=hg.cm h.cm List.prefix_rfl (Nat.le_refl _)
  cd hr:=⟨(h.cd hr).1,fun v hv=>by
    obtain⟨w,hw,q⟩:=(h.cd hr).2 v hv
    exact⟨w,hg.vts w hw,q⟩⟩
  ld l hl p hp:=(h.ld l hl p hp).imp id fun⟨a,ha,q⟩=>⟨a,hg.acks a ha,q⟩
def zQQ(g:Gh)(w:VoteR):Gh:={g with vts:=w::g.vts}
def zI8(g:Gh)(a:AckR):Gh:={g with acks:=a::g.acks}
def zPa(g:Gh)(c:ComR):Gh:={g with coms:=c::g.coms}
def zCS(L:Nat→Int→List EntA)(T:Nat)(id:Int)(X:List EntA):Nat→Int→List EntA:=fun T' id'=>if T'=T∧id'=id then X else L T' id'
def zMb(g:Gh)(r:Elec)(X:List EntA):Gh:={g with now:=g.now+1,els:=r::g.els,L:=zCS g.L r.T r.id X}
def zC4(g:Gh)(r:Elec)(X:List EntA):Gh:={g with L:=zCS g.L r.T r.id X}
theorem zIw(g:Gh)(w:VoteR):Go g (zQQ g w):=⟨Nat.le_refl _,fun _ h=>h,fun _ _=>List.prefix_rfl,fun _ h=> .tail _ h,fun _ h=>h,fun _ h=>h⟩
theorem zCt(g:Gh)(a:AckR):Go g (zI8 g a):=⟨Nat.le_refl _,fun _ h=>h,fun _ _=>List.prefix_rfl,fun _ h=>h,fun _ h=> .tail _ h,fun _ h=>h⟩
theorem zOH(g:Gh)(c:ComR):Go g (zPa g c):=⟨Nat.le_refl _,fun _ h=>h,fun _ _=>List.prefix_rfl,fun _ h=>h,fun _ h=>h,fun _ h=> .tail _ h⟩
theorem zIc{g:Gh}{r:Elec}{X:List EntA}(h:∀ s∈g.els,¬(s.T=r.T∧s.id=r.id)):Go g (zMb g r X):=
  ⟨Nat.le_succ _,fun _ h=> .tail _ h,fun s hs=>by show g.L s.T s.id<+:zCS g.L r.T r.id X s.T s.id;unfold zCS;rw[if_neg (h s hs)];exact List.prefix_rfl,fun _ h=>h,fun _ h=>h,fun _ h=>h⟩
theorem zBr{g:Gh}{r s:Elec}{X:List EntA}:(zC4 g r X).Lr s=if s.T=r.T∧s.id=r.id then X else g.Lr s:=rfl
structure LrN(g g':Gh)(n:NodA):Prop where
  lr:∀ r∈g'.els,(r∈g.els∧g'.Lr r=g.Lr r)∨g'.Lr r=n.E
  cm:∀ c∈g'.coms,c∈g.coms∨(n.r.qp=4∧c.T=n.t.term∧c.n≤n.r.qc)
theorem LrN.same{g g':Gh}{n:NodA}(h1:g'.els=g.els)(h2:g'.L=g.L)(h3:g'.coms=g.coms):LrN g g' n:=
  ⟨fun r hr=> .inl ⟨h1▸hr,by unfold Gh.Lr;rw[h2]⟩,fun c hc=> .inl (h3▸hc)⟩
theorem zIU{g:Gh}{r:Elec}{n:NodA}{els:List Elec}{g':Gh}(h1:g'.els=els)(h2:g'.L=zCS g.L r.T r.id n.E)(h3:g'.coms=g.coms)(h4:∀ s∈els,s=r∨s∈g.els):LrN g g' n:=⟨fun s hs=>by
  unfold Gh.Lr;rw[h2]
  by_cases c:s.T=r.T∧s.id=r.id
  · exact .inr (if_pos c)
  refine .inl ⟨?_,if_neg c⟩
  rcases h4 s (h1▸hs)with rfl|hs
  · exact absurd ⟨rfl,rfl⟩ c
  exact hs,fun c hc=> .inl (h3▸hc)⟩
abbrev GhS(N:Nat)(g:Gh)(X:NetA)(i:Nat)(n:NodA)(ms:List MsgA):Prop:=∃ g',(Go g g'∧LrN g g' n)∧GhI N g' (X.call i n ms)
theorem zIX{g:Gh}{r:Elec}{X:List EntA}(h:g.Lr r<+:X):Go g (zC4 g r X):=
  ⟨Nat.le_refl _,fun _ h=>h,fun s hs=>by
    rw[zBr];split
    · rename_i q;rw[show g.Lr s=g.Lr r from by unfold Gh.Lr;rw[q.1,q.2]];exact h
    exact List.prefix_rfl,fun _ h=>h,fun _ h=>h,fun _ h=>h⟩
theorem zIA{N:Nat}{g:Gh}{w:VoteR}(h:g.ok (qu N))(h1:∀ u∈g.vts,u.v=w.v→u.T=w.T→u.c=w.c)(hB:Built g w.W)(hk:w.k=g.now)(ha:∀ a∈g.acks,a.v=w.v→a.T<w.T→AkI g w.W w.T a):(zQQ g w).ok (qu N):=by
  refine{h with elv:=fun r hr v hv=> ?_,vt1:=fun u hu x hx e1 e2=> ?_,vtB:=fun u hu=> ?_,vta:=fun u hu a ha' e1 e2=> ?_}
  · obtain⟨x,hx,q⟩:=h.elv r hr v hv
    exact⟨x, .tail _ hx,q⟩
  · rcases List.mem_cons.1 hu with hu'|hu'<;>rcases List.mem_cons.1 hx with hx'|hx'
    · rw[hu',hx']
    · rw[hu']at e1 e2 ⊢;exact(h1 x hx' e1.symm e2.symm).symm
    · rw[hx']at e1 e2 ⊢;exact h1 u hu' e1 e2
    exact h.vt1 u hu' x hx' e1 e2
  · rcases List.mem_cons.1 hu with rfl|hu
    · exact hB
    exact h.vtB u hu
  rcases List.mem_cons.1 hu with rfl|hu
  · obtain⟨r,hr,q1,q2,q3⟩:=ha a ha' e1 e2
    exact⟨r,hr,q1,q2,fun n hn=>(q3 n hn).imp id fun⟨s,hs,a1,a2,a3⟩=>⟨s,hs,a1,a2,by rw[hk];exact h.elk s hs,a3⟩⟩
  exact h.vta u hu a ha' e1 e2
theorem zM4{N:Nat}{g:Gh}{a:AckR}(h:g.ok (qu N))(ha:∀ w∈g.vts,w.v=a.v→w.T≤a.T):(zI8 g a).ok (qu N):=by
  refine{h with vta:=fun w hw x hx e1 e2=> ?_,com:=fun c hc=> ?_}
  · rcases List.mem_cons.1 hx with rfl|hx
    · have:=ha w hw e1.symm;omega
    exact h.vta w hw x hx e1 e2
  obtain⟨r,hr,q1,q2,q3,q4,q5,q6⟩:=h.com c hc
  exact⟨r,hr,q1,q2,q3,q4,q5,fun v hv=>by
    obtain⟨x,hx,q⟩:=q6 v hv
    exact⟨x, .tail _ hx,q⟩⟩
theorem zNj{N:Nat}{g:Gh}{c:ComR}(h:g.ok (qu N))(hc:∃ r∈g.els,r.T=c.T∧r.E.length<c.n∧c.n≤c.l∧c.l≤(g.Lr r).length∧qu N ((g.Lr r).take c.l) c.Q∧∀ v∈c.Q,∃ a∈g.acks,a.v=v∧a.T=c.T∧c.n≤a.n):(zPa g c).ok (qu N):=by
  refine{h with com:=fun x hx=> ?_,cfc:=fun r hr p e q1 q2 q3=> ?_}
  · rcases List.mem_cons.1 hx with rfl|hx
    · exact hc
    exact h.com x hx
  obtain⟨⟨x,hx,q4⟩,q5⟩:=h.cfc r hr p e q1 q2 q3
  exact⟨⟨x, .tail _ hx,q4⟩,q5⟩
theorem zNb{N:Nat}{g:Gh}{r:Elec}{X:List EntA}{e0:EntA}(h:g.ok (qu N))(hno:∀ s∈g.els,¬(s.T=r.T∧s.id=r.id))(hT:1≤r.T)(hk:r.k=g.now)(hX:X=r.E++[e0])(he:e0.term=r.T∧¬ isC e0)(het:∀ e∈r.E,e.term<r.T)(hB:Built g r.E)(hq:qu N r.E r.Q)
    (hv:∀ v∈r.Q,∃ w∈g.vts,w.v=v∧w.T=r.T∧w.c=r.id∧w.k≤g.now∧zMn r.E w.W):(zMb g r X).ok (qu N):=by
  have hgo:=zIc (X:=X) hno
  have hL:(zMb g r X).Lr r=X:=by show zCS g.L r.T r.id X r.T r.id=X;unfold zCS;rw[if_pos ⟨rfl,rfl⟩]
  have hLo:∀ s∈g.els,(zMb g r X).Lr s=g.Lr s:=fun s hs=>by show zCS g.L r.T r.id X s.T s.id=_;unfold zCS;rw[if_neg (hno s hs)];rfl
  have last:∀ (i:Nat) (e:EntA),r.E.length≤i→X[i]?=some e→i=r.E.length∧e=e0:=fun i e hi hx=>by
    rw[hX,List.getElem?_append_right hi]at hx
    have h2:i - r.E.length=0:=by
      have:=(List.getElem?_eq_some_iff.1 hx).1
      rw[List.length_singleton]at this;omega
    rw[h2]at hx
    exact⟨by omega,(Option.some.inj hx).symm⟩
  refine⟨fun a ha b hb e1 e2=> ?_,fun s hs=> ?_,fun s hs=> ?_,fun s hs=> ?_,fun s hs=> ?_,fun s hs=> ?_,fun s hs=> ?_,fun s hs=> ?_,fun s hs v hvq=> ?_,h.vt1,fun w hw=>hgo.built (h.vtB w hw),fun w hw a ha e1 e2=> ?_,fun c hc=> ?_,fun s hs=> ?_⟩
  · rcases List.mem_cons.1 ha with ha'|ha'<;>rcases List.mem_cons.1 hb with hb'|hb'
    · rw[ha',hb']
    · rw[ha']at e1 e2;exact absurd ⟨e1.symm,e2.symm⟩ (hno b hb')
    · rw[hb']at e1 e2;exact absurd ⟨e1,e2⟩ (hno a ha')
    exact h.one a ha' b hb' e1 e2
  · rcases List.mem_cons.1 hs with hs|hs
    · rw[hs];exact hT
    exact h.elT s hs
  · rcases List.mem_cons.1 hs with hs|hs
    · rw[hs,hk];exact Nat.lt_succ_self _
    exact Nat.lt_succ_of_lt (h.elk s hs)
  · rcases List.mem_cons.1 hs with hs|hs
    · rw[hs,hL,hX];exact List.prefix_append _ _
    rw[hLo s hs];exact h.elE s hs
  · rcases List.mem_cons.1 hs with hs|hs
    · rw[hs];exact fun i e hx=>het e (List.mem_iff_getElem?.2 ⟨i,hx⟩)
    exact h.elt s hs
  · rcases List.mem_cons.1 hs with hs|hs
    · rw[hs,hL];exact fun i e hi hx=>by rw[(last i e hi hx).2];exact he.1
    rw[hLo s hs];exact h.elL s hs
  · rcases List.mem_cons.1 hs with hs|hs
    · rw[hs,hL]
      intro i e hx
      by_cases c:i<r.E.length
      · rw[hX,List.getElem?_append_left c]at hx
        obtain⟨s',h1,h2,h3,h4⟩:=hgo.built hB i e hx
        exact⟨s',h1,h2,h3,(h4.symm.up (by rw[hX];exact List.prefix_append _ _)).symm⟩
      obtain⟨h1,h2⟩:=last i e V hx
      refine⟨r, .head _,by rw[h2];exact he.1.symm,by omega,?_⟩
      rw[hL]
      exact Has.self (by rw[hX,List.length_append];show _≤_+1;omega)
    rw[hLo s hs];exact hgo.built (h.elB s hs)
  · rcases List.mem_cons.1 hs with hs|hs
    · rw[hs];exact hq
    exact h.elq s hs
  · rcases List.mem_cons.1 hs with hs|hs
    · rw[hs]at hvq ⊢
      obtain⟨w,hw,q1,q2,q3,q4,q5⟩:=hv v hvq
      exact⟨w,hw,q1,q2,q3,by omega,q5⟩
    exact h.elv s hs v hvq
  · obtain⟨s,hs,q1,q2,q3⟩:=h.vta w hw a ha e1 e2
    refine⟨s,hgo.els s hs,q1,by rw[hLo s hs];exact q2,fun n hn=> ?_⟩
    rw[hLo s hs]
    exact(q3 n hn).imp id fun⟨s',hs',q⟩=>⟨s',hgo.els s' hs',q⟩
  · obtain⟨s,hs,q1,q2,q3,q4,q5,q6⟩:=h.com c hc
    exact⟨s,hgo.els s hs,q1,q2,q3,by rw[hLo s hs];exact q4,by rw[hLo s hs];exact q5,q6⟩
  rcases List.mem_cons.1 hs with hs|hs
  · rw[hs,hL]
    intro p e hp hx hc
    exact absurd ((last p e hp hx).2▸hc) he.2
  rw[hLo s hs];exact h.cfc s hs
theorem zN9{N:Nat}{g:Gh}{r:Elec}{X:List EntA}{e0:EntA}(h:g.ok (qu N))(hr:r∈g.els)(hX:X=g.Lr r++[e0])(he:e0.term=r.T)(hc:isC e0→(∃ c∈g.coms,c.T=r.T∧c.l≤(g.Lr r).length∧∀ (j:Nat) (x:EntA),j<(g.Lr r).length→(g.Lr r)[j]?=some x→isC x→j<c.n)∧Mt (qu N) (g.Lr r) X):(zC4 g r X).ok (qu N):=by
  have hp:g.Lr r<+:X:=by rw[hX];exact List.prefix_append _ _
  have hgo:=zIX hp
  have hL:(zC4 g r X).Lr r=X:=by rw[zBr,if_pos ⟨rfl,rfl⟩]
  have hLo:∀ s∈g.els,s≠r→(zC4 g r X).Lr s=g.Lr s:=fun s hs hne=>by rw[zBr,if_neg (fun q=>hne (h.one s hs r hr q.1 q.2))]
  have hEl:=(h.elE r hr).length_le
  have last:∀ (i:Nat) (e:EntA),(g.Lr r).length≤i→X[i]?=some e→i=(g.Lr r).length∧e=e0:=fun i e hi hx=>by
    rw[hX,List.getElem?_append_right hi]at hx
    have h2:i - (g.Lr r).length=0:=by
      have:=(List.getElem?_eq_some_iff.1 hx).1
      rw[List.length_singleton]at this;omega
    rw[h2]at hx
    exact⟨by omega,(Option.some.inj hx).symm⟩
  have old:∀ (i:Nat) (e:EntA),i<(g.Lr r).length→X[i]?=some e→(g.Lr r)[i]?=some e:=fun i e hi hx=>by rwa [hX,List.getElem?_append_left hi]at hx
  have tk:∀ p,p≤(g.Lr r).length→X.take p=(g.Lr r).take p:=fun p hp=>by rw[hX,List.take_append_of_le_length hp]
  refine⟨h.one,h.elT,h.elk,fun s hs=>(h.elE s hs).trans (hgo.L s hs),h.elt,fun s hs=> ?_,fun s hs=> ?_,h.elq,h.elv,h.vt1,fun w hw=>hgo.built (h.vtB w hw),fun w hw a ha e1 e2=> ?_,fun c hc'=> ?_,fun s hs=> ?_⟩
  · by_cases c:s=r
    · rw[c,hL]
      intro i e hi hx
      by_cases q:i<(g.Lr r).length
      · exact h.elL r hr i e hi (old i e q hx)
      rw[(last i e V hx).2];exact he
    rw[hLo s hs c];exact h.elL s hs
  · by_cases c:s=r
    · rw[c,hL]
      intro i e hx
      by_cases q:i<(g.Lr r).length
      · obtain⟨s',h1,h2,h3,h4⟩:=hgo.built (h.elB r hr) i e (old i e q hx)
        exact⟨s',h1,h2,h3,(h4.symm.up hp).symm⟩
      obtain⟨h1,h2⟩:=last i e V hx
      refine⟨r,hr,by rw[h2];exact he.symm,by omega,?_⟩
      rw[hL]
      exact Has.self (by rw[hX,List.length_append];show _≤_+1;omega)
    rw[hLo s hs c];exact hgo.built (h.elB s hs)
  · obtain⟨s,hs,q1,q2,q3⟩:=h.vta w hw a ha e1 e2
    have hps:=hgo.L s hs
    refine⟨s,hs,q1,Nat.le_trans q2 hps.length_le,fun n hn=> ?_⟩
    rcases q3 n hn with q|⟨s',hs',a1,a2,a3,a4⟩
    · exact .inl (q.up hps)
    exact .inr ⟨s',hs',a1,a2,a3,fun q=>a4 (q.of_up hps V)⟩
  · obtain⟨s,hs,q1,q2,q3,q4,q5,q6⟩:=h.com c hc'
    have hps:=hgo.L s hs
    refine⟨s,hs,q1,q2,q3,Nat.le_trans q4 hps.length_le,?_,q6⟩
    by_cases e:s=r
    · rw[e]at q4 q5 ⊢
      rw[hL,tk _ q4];exact q5
    rw[hLo s hs e];exact q5
  by_cases c:s=r
  · rw[c,hL]
    intro p e hp' hx hce
    by_cases q:p<(g.Lr r).length
    · obtain⟨⟨x,hx1,hx2,hx3,hx4⟩,hm⟩:=h.cfc r hr p e hp' (old p e q hx) hce
      refine⟨⟨x,hx1,hx2,hx3,fun j y hj hy=>hx4 j y hj (old j y V hy)⟩,?_⟩
      rw[tk p V,tk (p+1) V];exact hm
    obtain⟨h1,h2⟩:=last p e V hx
    obtain⟨⟨x,hx1,hx2,hx3,hx4⟩,hm⟩:=hc (h2▸hce)
    refine⟨⟨x,hx1,hx2,by omega,fun j y hj hy=>hx4 j y V (old j y V hy)⟩,?_⟩
    rw[h1,tk _ (Nat.le_refl _),List.take_length,List.take_of_length_le (by rw[hX,List.length_append];exact Nat.le_refl _)]
    exact hm
  rw[hLo s hs c];exact h.cfc s hs
theorem zGe{N:Nat}{g:Gh}(hg:g.ok (qu N)){E L:List EntA}(hE:Built g E)(hL:Built g L){k:Nat}(h1:k<E.length)(h2:k<L.length)(ht:(zG E k).term=(zG L k).term):Has E L (k+1):=by
  have:=zFT hE hL (yW h1) (yW h2) ht (fun r hr s hs e _=>hg.uniq (xS N) hr hs e)
  rwa [Nat.min_self]at this
theorem Has.zero{X L:List EntA}:Has X L 0:=⟨Nat.zero_le _,Nat.zero_le _,rfl⟩
theorem zIx(x:LogA):∀ (m:List EntA),x.kn m<m.length→¬ x.fits (zG m (x.kn m)).index (zG m (x.kn m)).term
  | [],h=>absurd h qQ
  |e::m,h=>by
    unfold LogA.kn at h ⊢
    by_cases c:x.fits e.index e.term
    · rw[if_pos c]at h ⊢
      exact zIx x m (by simpa using h)
    rw[if_neg c];exact c
theorem zBa{E:List EntA}{k t:Nat}(h:(LogA.mk 0 0 E).fits (k+1) t):k<E.length∧(zG E k).term=t:=by
  obtain⟨h1,h2⟩:=LogA.fits_iff.1 h
  unfold LogA.last at h1
  dsimp only at h1 h2
  rw[if_neg V]at h2
  exact⟨by omega,h2⟩
theorem zHI{E:List EntA}{k t:Nat}(h1:k<E.length)(h2:(zG E k).term=t):(LogA.mk 0 0 E).fits (k+1) t:=by
  refine LogA.fits_iff.2 ⟨?_,?_⟩
  · unfold LogA.last;dsimp only;omega
  dsimp only;rw[if_neg V];exact h2
theorem Has.nth_eq{X L:List EntA}{n i:Nat}(h:Has X L n)(hi:i<n):zG X i=zG L i:=by
  unfold zG;rw[h.get hi]
theorem zNE{N:Nat}{g:Gh}(hg:g.ok (qu N)){E L qm:List EntA}{idx lt:Nat}(hE:Built g E)(hL:Built g L)(hle:idx+qm.length≤L.length)(hents:qm=(L.drop idx).take qm.length)(hlt:idx=0∨lt=(zG L (idx - 1)).term)(hf:folA idx lt qm)(hfi:(LogA.mk 0 0 E).fits idx lt):
    Has ((LogA.mk 0 0 E).put qm).l L (idx+qm.length)∧(∀ n,Has E L n→Has ((LogA.mk 0 0 E).put qm).l L n)∧(((LogA.mk 0 0 E).put qm).l=E∨((LogA.mk 0 0 E).put qm).l=L.take (idx+qm.length)):=by
  have hn:∀ j,j<qm.length→zG qm j=zG L (idx+j):=fun j hj=>by
    have h1:qm[j]?=L[idx+j]?:=by
      rw[hents,List.getElem?_take,if_pos hj,List.getElem?_drop]
    unfold zG;rw[h1]
  have h0:Has E L idx:=by
    rcases Nat.eq_zero_or_pos idx with c|c
    · rw[c];exact Has.zero
    obtain⟨k,rfl⟩:∃ k,idx=k+1:=⟨idx - 1,by omega⟩
    obtain⟨h1,h2⟩:=zBa hfi
    refine zGe hg hE hL h1 V ?_
    rcases hlt with q|q
    · omega
    rw[h2];exact q
  have hkn:∀ j,j<(LogA.mk 0 0 E).kn qm→Has E L (idx+j+1):=fun j hj=>by
    have hkl:=(LogA.mk 0 0 E).kn_le qm
    have h1:=(LogA.mk 0 0 E).kn_fits qm (zG qm j) (by rw[←kU (i:=(LogA.mk 0 0 E).kn qm) V];exact zd (by rw[List.length_take];omega))
    rw[hf.idx j V,hn j V]at h1
    obtain⟨h2,h3⟩:=zBa h1
    exact zGe hg hE hL h2 V h3
  have hK:Has E L (idx+(LogA.mk 0 0 E).kn qm):=by
    rcases Nat.eq_zero_or_pos ((LogA.mk 0 0 E).kn qm)with c|c
    · rw[c];exact h0
    have:=hkn ((LogA.mk 0 0 E).kn qm - 1) V
    rwa [show idx+((LogA.mk 0 0 E).kn qm - 1)+1=idx+(LogA.mk 0 0 E).kn qm by omega]at this
  rcases zEW hf hfi with⟨h1,h2⟩|⟨k,h1,h2,h3⟩
  · rw[h1];exact⟨by rw[←h2];exact hK,fun n h=>h, .inl rfl⟩
  have he:((LogA.mk 0 0 E).put qm).l=L.take (idx+qm.length):=by
    rw[←h2]at hK
    rw[h3,hK.2.2]
    have e1:qm.drop k=(L.drop (idx+k)).take (qm.length - k):=by
      conv=>lhs;rw[hents]
      rw[List.drop_take,List.drop_drop]
    rw[e1]
    have e2:=List.take_add (l:=L) (i:=idx+k) (j:=qm.length - k)
    rw[←e2]
    congr 1;omega
  have hT:Has (L.take (idx+qm.length)) L (idx+qm.length):=⟨by rw[List.length_take];omega,hle,by rw[List.take_take,Nat.min_self]⟩
  rw[he]
  refine⟨hT,fun n h=> ?_, .inr O⟩
  by_cases c:n≤idx+qm.length
  · exact hT.le c
  exfalso
  have hs:=zIx (LogA.mk 0 0 E) qm V
  rw[hf.idx _ V,hn _ V]at hs
  have hl:=h.1
  refine hs (zHI V ?_)
  rw[h.nth_eq V]
theorem zGD:∀ (l:List Nat) (a:Nat),l.foldl max a=a∨l.foldl max a∈l
  | [],a=> .inl rfl
  |b::l,a=>by
    rcases zGD l (max a b)with h|h
    · rw[List.foldl_cons,h]
      by_cases c:b≤a
      · left;omega
      right;rw[show max a b=b by omega];exact .head _
    right;rw[List.foldl_cons];exact .tail _ h
theorem zER{id:Int}{vs:List Int}{ps:List PeerP}{self:Nat}{of:PeerM→Nat}(h:0<xY (zw id vs ps self of)):∃ Q:List Int,(∀ v∈Q,v∈vs∧xY (zw id vs ps self of)≤xp id ps self of v)∧vs.length<2*cnt vs Q:=by
  have hm:zED (zw id vs ps self of) (xY (zw id vs ps self of)):=by
    rcases zGD ((zw id vs ps self of).filter fun n=>decide (zED (zw id vs ps self of) n)) 0 with q|q
    · unfold xY at h;omega
    exact of_decide_eq_true (List.mem_filter.1 q).2
  generalize xY (zw id vs ps self of)=R at h hm ⊢
  refine⟨vs.filter fun v=>decide (R≤xp id ps self of v),fun v hv=> ?_,?_⟩
  · obtain⟨h1,h2⟩:=List.mem_filter.1 hv
    exact⟨h1,of_decide_eq_true h2⟩
  unfold zED cge zw at hm
  rw[List.length_map,List.filter_map,List.length_map]at hm
  have e:cnt vs (vs.filter fun v=>decide (R≤xp id ps self of v))=(vs.filter ((fun y=>decide (R≤y)) ∘ xp id ps self of)).length:=by
    unfold cnt
    congr 1
    refine List.filter_congr fun v hv=> ?_
    by_cases c:R≤xp id ps self of v
    · have hmem:v∈vs.filter fun v=>decide (R≤xp id ps self of v):=List.mem_filter.2 ⟨hv,decide_eq_true c⟩
      exact(decide_eq_true hmem).trans (decide_eq_true (p:=R≤xp id ps self of v) c).symm
    have hmem:¬ v∈vs.filter fun v=>decide (R≤xp id ps self of v):=fun q=>c (of_decide_eq_true (List.mem_filter.1 q).2)
    exact(decide_eq_false hmem).trans (decide_eq_false (p:=R≤xp id ps self of v) c).symm
  rw[e];exact hm
theorem zJ5{vs:List Int}{E:List EntA}(h:folA 0 0 E){j:Nat}{e:EntA}(he:E[j]?=some e)(hk:isC e):j+1≤(y9 vs E E.length).2:=by
  have hj:=(List.getElem?_eq_some_iff.1 he).1
  have ic:∀ i,i<E.length→(zG E i).kind=3→zAM E.length (zG E i)=true:=fun i hi h3=>by
    have:=h.idx i hi
    exact decide_eq_true ⟨h3,by omega⟩
  unfold y9
  cases hq:E.reverse.find? (zAM E.length)with
  |none=>
    have h1:=List.find?_eq_none.1 hq e (List.mem_reverse.2 (List.mem_iff_getElem?.2 ⟨j,he⟩))
    have h2:=ic j hj (by rw[nth_eq he];exact hk)
    rw[nth_eq he]at h2
    exact absurd h2 h1
  |some x=>
    obtain⟨_,m,hm,h1,h2⟩:=List.find?_eq_some_iff_getElem.1 hq
    rw[List.length_reverse]at hm
    show j+1≤x.index
    have hx:zG E (E.length - 1 - m)=x:=nth_eq (by
      rw[←h1,List.getElem_reverse];exact List.getElem?_eq_getElem _)
    have h3:=h.idx (E.length - 1 - m) V
    rw[hx]at h3
    by_cases c:j≤E.length - 1 - m
    · omega
    exfalso
    have h4:=h2 (E.length - 1 - j) V
    rw[List.getElem_reverse]at h4
    have h5:=ic j hj (by rw[nth_eq he];exact hk)
    rw[nth_eq he]at h5
    have h6:E[E.length - 1 - (E.length - 1 - j)]'V=e:=by
      have:E[E.length - 1 - (E.length - 1 - j)]?=some e:=by rw[show E.length - 1 - (E.length - 1 - j)=j by omega];exact he
      exact(List.getElem?_eq_some_iff.1 this).2
    rw[h6,h5]at h4
    cases h4
theorem NodI.to{g:Gh}{i:Nat}{n n':NodA}(h:NodI g i n)(hE:n'.E=n.E)(ht:n'.t.term=n.t.term)(hv:n'.t.qD=n.t.qD)(hc:n'.r.qc=n.r.qc)(h3:n'.r.qp=3→n.r.qp=3∧∀ v∈n'.yes,v∈n.yes∨∃ w∈g.vts,w.v=v∧w.T=n.t.term∧w.c=xc i)(h4:n'.r.qp=4→n.r.qp=4)
    (hld:∀ l,n'.ld=some l→∀ p∈l.qa,p.2.qy=0∨∃ a∈g.acks,a.v=p.2.id∧a.T=n.t.term∧p.2.qy≤a.n):NodI g i n' where
  B:=by rw[hE];exact h.B
  tl r hr hid:=by rw[ht];exact⟨(h.tl r hr hid).1,fun e q=>(h.tl r hr hid).2 e (h3 q).1⟩
  vt w hw e:=by rw[ht,hv];exact h.vt w hw e
  vc w hw e:=by rw[ht,hE];exact⟨(h.vc w hw e).1,fun a b=>(h.vc w hw e).2 a (h3 b).1⟩
  el q:=by rw[ht,hE];exact h.el (h4 q)
  ak a ha e:=by rw[ht,hE];exact h.ak a ha e
  cm:=by rw[ht,hE,hc];exact h.cm
  cd q:=by
    rw[ht,hE]
    refine⟨(h.cd (h3 q).1).1,fun v hv=> ?_⟩
    rcases(h3 q).2 v hv with x|x
    · exact(h.cd (h3 q).1).2 v x
    exact x
  ld l hl p hp:=by rw[ht];exact hld l hl p hp
theorem jT{N i:Nat}{g g':Gh}{X:NetA}{n:NodA}{ms:List MsgA}(hl:X.nodes.length=N)(hi:i<N)(h:GhI N g X)(hg:Go g g')(hok:g'.ok (qu N))(hvk:∀ w∈g'.vts,w.k≤g'.now)(hvfr:∀ w∈g'.vts,xm 0 w.W<w.t∨(w.t=xm 0 w.W∧w.W.length≤w.i))(hvnz:∀ w∈g'.vts,w.c≠0)
    (ho:∀ j,j<N→j≠i→NodI g' j (zG X.nodes j)) (hn:NodI g' i n) (hms:∀ m∈ms,MsgI g' m∧(m.kind=3→m.src=xc i∧AskI i n m.term m.index m.ql)) (ha:∀ T idx lt,AskI i (zG X.nodes i) T idx lt→AskI i n T idx lt):GhI N g' (X.call i n ms):=by
  refine⟨hok,hvk,hvfr,hvnz,fun j hj=> ?_,fun m hm=> ?_,fun m hm k j hj hs=> ?_⟩
  · rw[xV V]
    split
    · rename_i e;rw[e];exact hn
    rename_i e;exact ho j hj e
  · rcases List.mem_append.1 hm with hm|hm
    · exact hg.msg (h.ms m hm)
    exact(hms m hm).1
  rw[xV V]
  rcases List.mem_append.1 hm with hm|hm
  · have h1:=h.k3 m hm k j hj hs
    split
    · rename_i e;subst e;exact ha _ _ _ h1
    exact h1
  obtain⟨h1,h2⟩:=(hms m hm).2 k
  have e:j=i:=kb (hs.symm.trans h1)
  rw[if_pos e,e];exact h2
theorem zCx{N i:Nat}{g:Gh}{X:NetA}{n:NodA}{ms:List MsgA}(hl:X.nodes.length=N)(hi:i<N)(h:GhI N g X)(hn:NodI g i n)(hms:∀ m∈ms,MsgI g m∧(m.kind=3→m.src=xc i∧AskI i n m.term m.index m.ql))(ha:∀ T idx lt,AskI i (zG X.nodes i) T idx lt→AskI i n T idx lt):GhS N g X i n ms:=
  ⟨g,⟨Go.refl g, .same rfl rfl rfl⟩,jT hl hi h (Go.refl g) h.ok h.vk h.vfr h.vnz (fun j hj _=>h.nd j hj) hn hms ha⟩
theorem MsgI.none{g:Gh}{m:MsgA}(h:m.kind≠3∧m.kind≠5∧(m.kind=4∨m.kind=6→m.flag=false)){i:Nat}{n:NodA}:MsgI g m∧(m.kind=3→m.src=xc i∧AskI i n m.term m.index m.ql):=
  ⟨⟨fun k f=>absurd ((h.2.2 (.inl k)).symm.trans f) qM,fun k=>absurd k h.2.1,fun k f=>absurd ((h.2.2 (.inr k)).symm.trans f) qM⟩,fun k=>absurd k h.1⟩
theorem AskI.same{i:Nat}{n n':NodA}(ht:n'.t.term=n.t.term)(hE:n'.r.qp=3→n.r.qp=3∧n'.E=n.E){T idx lt:Nat}(h:AskI i n T idx lt):AskI i n' T idx lt:=
  ⟨by rw[ht];exact h.1,fun e q=>by rw[(hE q).2];exact h.2 (e.trans ht) (hE q).1⟩
theorem AskI.later{i:Nat}{n n':NodA}(ht:n.t.term<n'.t.term){T idx lt:Nat}(h:AskI i n T idx lt):AskI i n' T idx lt:=
  ⟨Nat.le_trans h.1 (Nat.le_of_lt ht),fun e=>by have:=h.1;omega⟩
theorem AkI.self{g:Gh}{r:Elec}{T n:Nat}{v:Int}{E:List EntA}(hr:r∈g.els)(hE:Has E (g.Lr r) n):AkI g E T ⟨r.T,v,n⟩:=⟨r,hr,rfl,hE.2.1,fun j hj=> .inl (hE.le hj)⟩
end Go.Proofs.YtkkeknmkipkbmaaGreat
