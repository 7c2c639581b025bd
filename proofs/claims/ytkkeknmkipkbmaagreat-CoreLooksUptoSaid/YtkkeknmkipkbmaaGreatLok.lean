import Derived.Test.YtkkeknmkipkbmaaGreatNetR
import Derived.Test.YtkkeknmkipkbmaaGreatRef3
set_option linter.unusedSectionVars false
set_option linter.unusedSimpArgs false
set_option linter.unusedVariables false
set_option maxRecDepth 10000
namespace Go.Proofs.YtkkeknmkipkbmaaGreat
open Go Go.Sc Go.Proofs
def GhP(N lk:Nat)(F:Gh→Prop)(k:Nat)(X:NetA):Prop:=Bnd N lk k X∧∃ g,GhI N g X∧F g
theorem GhI.sub{N:Nat}{g:Gh}{X:NetA}{way:List MsgA}(h:GhI N g X)(hs:way.Sublist X.way):GhI N g ⟨X.nodes,way⟩:=
  ⟨h.ok,h.vk,h.vfr,h.vnz,h.nd,fun m hm=>h.ms m (hs.mem hm),fun m hm=>h.k3 m (hs.mem hm)⟩
def LeadF(leads:List (Nat×Int))(g:Gh):Prop:=∀ T j,jJ T leads=some j→∃ r∈g.els,r.T=T∧r.id=j+1
def SafeF(safe:List EntA)(g:Gh):Prop:=safe.length≤100000∧(safe=[]∨∃ c∈g.coms,∃ r∈g.els,r.T=c.T∧safe.length≤c.n∧Has safe (g.Lr r) safe.length)
theorem LeadF.go{leads:List (Nat×Int)}{g g':Gh}(h:Go g g')(hf:LeadF leads g):LeadF leads g':=fun T j e=>by
  obtain⟨r,hr,q⟩:=hf T j e
  exact⟨r,h.els r hr,q⟩
theorem SafeF.go{safe:List EntA}{g g':Gh}(h:Go g g')(hf:SafeF safe g):SafeF safe g':=by
  refine⟨hf.1,hf.2.imp id ?_⟩
  rintro⟨c,hc,r,hr,h1,h2,h3⟩
  exact⟨c,h.coms c hc,r,h.els r hr,h1,h2,h3.up (h.L r hr)⟩
theorem zNy{N:Nat}{g:Gh}(hg:g.ok (qu N)){c d:ComR}{r s:Elec}(hc:c∈g.coms)(hd:d∈g.coms)(hr:r∈g.els)(hs:s∈g.els)(e1:r.T=c.T)(e2:s.T=d.T)(h:c.n≤d.n):Has (g.Lr r) (g.Lr s) c.n:=by
  have hl:∀ (c:ComR) (r:Elec),c∈g.coms→r∈g.els→r.T=c.T→c.n≤(g.Lr r).length:=fun c r hc hr e=>by
    obtain⟨s,hs,q1,q2,q3,q4,_⟩:=hg.com c hc
    rw[hg.uniq (xS N) hr hs V];omega
  rcases Nat.lt_trichotomy r.T s.T with q|q|q
  · have h5:=hg.comp (xS N) hs c hc r hr e1 V
    exact(((Has.pre (hg.elE s hs)).le h5.1).symm.trans h5).symm
  · rw[hg.uniq (xS N) hr hs q]
    exact Has.self (Nat.le_trans h (hl d s hd hs e2))
  have h5:=hg.comp (xS N) hr d hd s hs e2 V
  exact(((Has.pre (hg.elE r hr)).le h5.1).symm.trans h5).le h
theorem zIl:∀ (l:List ComR),l=[]∨∃ d∈l,∀ c∈l,c.n≤d.n
  | []=> .inl rfl
  |a::l=>by
    right
    rcases zIl l with h|⟨d,hd,h⟩
    · subst h;exact⟨a, .head _,fun c hc=>by rw[List.mem_singleton.1 hc];exact Nat.le_refl _⟩
    by_cases q:d.n≤a.n
    · refine⟨a, .head _,fun c hc=> ?_⟩
      rcases List.mem_cons.1 hc with rfl|hc
      · exact Nat.le_refl _
      exact Nat.le_trans (h c hc) q
    refine⟨d, .tail _ hd,fun c hc=> ?_⟩
    rcases List.mem_cons.1 hc with rfl|hc
    · omega
    exact h c hc
theorem zLO{N:Nat}{g:Gh}(hg:g.ok (qu N)):∃ Sf:List EntA,Sf.length≤100000∧(∀ c∈g.coms,∀ r∈g.els,r.T=c.T→∀ j,j≤c.n→j≤100000→Has (g.Lr r) Sf j)∧(∀ safe:List EntA,safe.length≤Sf.length→safe=Sf.take safe.length→SafeF safe g):=by
  rcases zIl g.coms with h|⟨d,hd,h⟩
  · refine⟨[],Nat.zero_le _,fun c hc=>(by rw[h]at hc;cases hc),fun safe hl _=>⟨by simp at hl;simp[hl], .inl (List.eq_nil_of_length_eq_zero (by simpa using hl))⟩⟩
  obtain⟨s,hs,q1,q2,q3,q4,_⟩:=hg.com d hd
  have hlen:((g.Lr s).take (min d.n 100000)).length=min d.n 100000:=by rw[List.length_take];omega
  refine⟨(g.Lr s).take (min d.n 100000),by omega,fun c hc r hr e j h1 h2=> ?_,fun safe hl e=>⟨by omega, .inr ⟨d,hd,s,hs,q1,by omega,?_⟩⟩⟩
  · have h3:=(zNy hg hc hd hr hs e q1 (h c hc)).le h1
    exact(h3.symm.takeL (by have:=h c hc;omega)).symm
  have h4:Has ((g.Lr s).take (min d.n 100000)) (g.Lr s) safe.length:=(Has.self (by omega:safe.length≤(g.Lr s).length)).takeL V
  rw[e,List.length_take,Nat.min_eq_left hl]
  exact h4.takeL (Nat.le_refl _)
theorem zMx{N lk k:Nat}{g:Gh}{X:NetD}{leads:List (Nat×Int)}(hk:k≤99000)(hX:X.st N)(hB:Bnd N lk k X.a)(hg:GhI N g X.a)(hl:LeadF leads g)(hs:SafeF (X.safe.map EntD.toEntA) g):∃ (Ld:Nat→Int→Prop) (Sf:List EntA),RightP N Ld Sf X∧kz Sf X.safe∧jB Ld leads∧Sf.length≤100000∧
    ∀ (leads':List (Nat×Int)) (safe':List EntD),kz Sf safe'→jB Ld leads'→LeadF leads' g∧SafeF (safe'.map EntD.toEntA) g:=by
  obtain⟨Sf,h1,h2,h3⟩:=zLO hg.ok
  have hn:∀ i,i<N→zG X.a.nodes i=(zG X.ns i).n.a:=fun i hi=>NetD.at_ (by rw[hX.len];exact hi)
  refine⟨fun T j=>∃ r∈g.els,r.T=T∧r.id=j+1,Sf,⟨fun T i j ⟨r,hr,a,b⟩ ⟨s,hs,c,d⟩=> ?_,fun i hi hr=> ?_,fun i hi=> ?_⟩,?_,hl,h1,fun leads' safe' a b=>⟨b,h3 _ ?_ ?_⟩⟩
  · have:=hg.ok.uniq (xS N) hr hs V
    rw[this]at b;omega
  · have h4:=(hg.nd i hi).el
    rw[hn i hi]at h4
    obtain⟨r,hr,a,b,_⟩:=h4 hr
    exact⟨r,hr,a,b⟩
  · have h4:=(hg.nd i hi).cm
    have h5:=(hB.B i hi).cl
    have h6:=(hB.B i hi).E
    rw[hn i hi]at h4 h5 h6
    rcases h4 with q|⟨c,hc,r,hr,a,b,d,e⟩
    · have q':(zG X.ns i).n.r.qc=0:=q
      rw[q'];exact⟨Nat.zero_le _,rfl⟩
    have h7:=e.trans (h2 c hc r hr a _ d V)
    exact⟨h7.2.1,h7.2.2⟩
  · rcases hs.2 with q|⟨c,hc,r,hr,a,b,d⟩
    · have q':X.safe=[]:=List.map_eq_nil_iff.1 q
      rw[q'];exact⟨Nat.zero_le _,rfl⟩
    have h7:=d.trans (h2 c hc r hr a _ b hs.1)
    rw[List.length_map]at h7
    refine⟨h7.2.1,?_⟩
    rw[←h7.2.2,List.take_of_length_le (by rw[List.length_map];exact Nat.le_refl _)]
  · rw[List.length_map];exact a.1
  rw[List.length_map];exact a.2
def g0:Gh:={now:=0,els:=[],L:=fun _ _=>[],vts:=[],acks:=[],coms:=[]}
theorem zQl(N:Nat):g0.ok (qu N):=by
  constructor<;>intro r hr<;>cases hr
theorem _root_.Go.Sc.wc{p:Prop}(h:p:=by simp[g0]):p:=h
theorem zO4{N lk:Nat}{F:Gh→Prop}(hN:1≤N∧N≤5)(hF:F g0):GhP N lk F 0 ⟨(List.range N).map js,[]⟩:=by
  have hn:∀ i,i<N→zG ((List.range N).map js) i=js i:=fun i hi=>by rw[kY (by rw[List.length_range];exact hi)];congr 1;exact nth_eq (List.getElem?_range hi)
  refine⟨zM5 hN,g0,⟨zQl N,fun w hw=>absurd hw wc,fun w hw=>absurd hw wc,fun w hw=>absurd hw wc,fun i hi=> ?_,fun m hm=>absurd hm qQ,fun m hm=>absurd hm qQ⟩,hF⟩
  show NodI g0 i (zG ((List.range N).map js) i)
  rw[hn i hi]
  exact⟨fun j e he=>absurd he (by simp[js]),fun r hr=>absurd hr wc,fun w hw=>absurd hw wc,fun w hw=>absurd hw wc,fun q=>absurd q (by show ¬(1:Int)=4;decide),fun a ha=>absurd ha wc, .inl O,fun q=>absurd q (by show ¬(1:Int)=3;decide),fun l q=>by cases q⟩
structure StpR(N:Nat)(ch:Bool)(lk:Nat)(P:Nat→NetA→Prop)(R:RdyD→Prop):Prop extends Stp N ch lk P where
  out:∀ k X i n ms rs,k≤99000→P k X→i<N→Act N ch lk (· ∈X.way) i (zG X.nodes i) n ms rs→∀ r∈rs,R r
theorem StpR.run{N:Nat}{ch:Bool}{lk:Nat}{P:Nat→NetA→Prop}{R:RdyD→Prop}(hS:StpR N ch lk P R){M:MsgA→Prop}{i j:Nat}{n n':NodA}{ms:List MsgA}{rs:List RdyD}(hi:i<N)(h:Run N ch lk M i j n n' ms rs):∀ {k:Nat} {X:NetA},k+j≤99000→P k X→zG X.nodes i=n→(∀ q,M q→q∈X.way)→∀ r∈rs,R r:=by
  induction h with
  |nil n=>intro k X _ _ _ _ r hr;cases hr
  | @more j n n1 n2 ms ms2 rs rs2 ha _ ih=>
    intro k X hk hP hn hM r hr
    have hl:i<X.nodes.length:=by rw[hS.len k X hP];exact hi
    have ha':Act N ch lk (· ∈X.way) i (zG X.nodes i) n1 ms rs:=by rw[hn];exact ha.mono hM
    rcases List.mem_append.1 hr with hr|hr
    · exact hS.out k X i n1 ms rs V hP hi ha' r hr
    exact ih (k:=k+1) (X:=X.call i n1 ms) V (hS.act k X i n1 ms rs V hP hi ha') (zAG hl) (fun q hq=>List.mem_append_left _ (hM q hq)) r hr
theorem StpR.rn{N:Nat}{ch:Bool}{lk:Nat}{P:Nat→NetA→Prop}{R:RdyD→Prop}(hS:StpR N ch lk P R){M:MsgA→Prop}{i c:Nat}{x:NodA×OutA}(hi:i<N){k:Nat}{X:NetA}(h:Rn N ch lk M i c (zG X.nodes i) x)(hc:c≤10)(hk:k≤20000)(hP:P k X)(hM:∀ q,M q→q∈X.way):∀ r∈x.2.qw,R r:=by
  obtain⟨j,hj,hr⟩:=h
  exact hS.run hi hr (k:=k) (X:=X) V hP O hM
theorem zF9{N lk i:Nat}{ch:Bool}{M:MsgA→Prop}{n n':NodA}{ms:List MsgA}{rs:List RdyD}(ha:Act N ch lk M i n n' ms rs)(hr':n'.r.qp=4):(n.r.qp=4∧n'.t.term=n.t.term∧n.r.qc≤n'.r.qc∧∀ l',n'.ld=some l'→∃ l,n.ld=some l∧l.qd.length≤l'.qd.length)∨(n.r.qp=3∧n'.t.term=n.t.term):=by
  have same:n'.r=n.r→n'.t.term=n.t.term→n'.ld=n.ld→(n.r.qp=4∧n'.t.term=n.t.term∧n.r.qc≤n'.r.qc∧∀ l',n'.ld=some l'→∃ l,n.ld=some l∧l.qd.length≤l'.qd.length)∨(n.r.qp=3∧n'.t.term=n.t.term):=fun h1 h2 h3=> .inl ⟨h1▸hr',h2,by rw[h1];exact Nat.le_refl _,fun l' hl'=>⟨l',h3▸hl',Nat.le_refl _⟩⟩
  cases ha with
  |tim t h1 h2=>exact same rfl h1.1 rfl
  |say ms hm hml=>exact same rfl rfl rfl
  |later q d hq h2=>exact absurd hr' (by show ¬(1:Int)=4;decide)
  |follow wh=>exact absurd hr' (by show ¬(1:Int)=4;decide)
  |cand=>exact absurd hr' (by show ¬(2:Int)=4;decide)
  |yes2 v hr=>exact same rfl rfl rfl
  |yes3 q hr hq hk hd=>exact same rfl rfl rfl
  |stand d=>exact absurd hr' (by show ¬(3:Int)=4;decide)
  |asks ms hr hm hml=>exact same rfl rfl rfl
  |elect hr hq=>exact .inr ⟨hr,rfl⟩
  |qD q d hq hk hv hr hf=>exact same rfl rfl rfl
  |app q hq hk hr hld hc he hf hfi=>exact absurd (hr.symm.trans hr') qM
  |low q hq hk hr hc=>exact same rfl rfl rfl
  |lead l l' hr hl hs=>
    refine .inl ⟨hr,O,Nat.le_refl _,fun l2 hl2=>⟨l,hl,?_⟩⟩
    cases hl2
    rcases hs.qd with q|q<;>rw[q]
    · exact Nat.le_refl _
    rw[List.length_append];exact Nat.le_add_right _ _
  |grow l e P hr hl he hg=>exact .inl ⟨hr,rfl,Nat.le_refl _,fun l2 hl2=>⟨l,hl,by cases hl2;exact Nat.le_refl _⟩⟩
  |count l hr hl=>
    refine .inl ⟨hr,O,?_,fun l2 hl2=>⟨l2,hl2,Nat.le_refl _⟩⟩
    show n.r.qc≤yY _ _ _ _ _ _
    unfold yY
    split
    · rename_i q;exact Nat.le_of_lt q.2.1
    exact Nat.le_refl _
  |feed l ms hr hll hm hml=>exact same rfl rfl rfl
  |look l id hr hl hf hk=>exact .inl ⟨hr,rfl,Nat.le_refl _,fun l2 hl2=>⟨l,hl,by cases hl2;exact Nat.le_refl _⟩⟩
  |imm id hr hf hq=>exact same rfl rfl rfl
  |tell l k hk hr hl=>
    refine .inl ⟨hr,?_,Nat.le_refl _,fun l2 hl2=>⟨l,hl,?_⟩⟩
    · show(xZ k l.qd n.t).term=_
      unfold xZ;split<;>rfl
    cases hl2
    show _≤(x9 k _ l).qd.length
    unfold x9;split<;>exact Nat.le_refl _
theorem zLN{N lk i:Nat}{ch:Bool}{M:MsgA→Prop}{n n':NodA}{ms:List MsgA}{rs:List RdyD}(ha:Act N ch lk M i n n' ms rs):∀ m∈ms,m.kind=5∨m.kind=6→m.src=xc i∧m.term=n.t.term∧(m.round=0∨(∃ q,M q∧q.kind=5∧q.term=m.term∧q.round=m.round)∨(n.r.qp=4∧n'=n∧∃ l,n.ld=some l∧m.round=l.qd.length)):=by
  have no:∀ m∈([]:List MsgA),m.kind=5∨m.kind=6→m.src=xc i∧m.term=n.t.term∧(m.round=0∨(∃ q,M q∧q.kind=5∧q.term=m.term∧q.round=m.round)∨(n.r.qp=4∧n'=n∧∃ l,n.ld=some l∧m.round=l.qd.length)):=fun m hm=>by cases hm
  cases ha with
  |say ms hm hml=>
    intro m h k
    have h1:=hm m h
    have h2:=h1.kind
    exact⟨h1.src,h1.t6 V,h1.round.imp id .inl⟩
  |asks ms hr hm hml=>intro m h k;have:=(hm m h).kind;omega
  |qD q d hq hk hv hr hf=>
    intro m h k
    rw[List.mem_singleton.1 h]at k
    exact absurd k (by show ¬((4:Int)=5∨(4:Int)=6);decide)
  |app q hq hk hr hld hc he hf hfi=>
    intro m h k
    rw[List.mem_singleton.1 h]
    exact⟨O,O, .inr (.inl ⟨q,hq,hk.1,hk.2.2,O⟩)⟩
  |low q hq hk hr hc=>
    intro m h k
    rw[List.mem_singleton.1 h]
    exact⟨O,O, .inr (.inl ⟨q,hq,hk.1,hk.2.2,O⟩)⟩
  |feed l ms hr hll hm hml=>
    intro m h k
    have h1:=hm m h
    exact⟨h1.src,h1.term, .inr (.inr ⟨hr,O,l,hll,h1.round⟩)⟩
  |_=>exact no
theorem zKu{N lk i:Nat}{ch:Bool}{M:MsgA→Prop}{n n':NodA}{ms:List MsgA}{rs:List RdyD}(ha:Act N ch lk M i n n' ms rs):n.t.term≤n'.t.term:=by
  cases ha with
  |tim t h1 h2=>show _≤t.term;omega
  |later q d hq h2=>exact Nat.le_of_lt h2
  |stand d=>exact Nat.le_succ _
  |tell l k hk hr hl=>
    show _≤(xZ k l.qd n.t).term
    unfold xZ;split<;>exact Nat.le_refl _
  |_=>exact Nat.le_refl _
theorem zML{N lk i:Nat}{ch:Bool}{M:MsgA→Prop}{n n':NodA}{ms:List MsgA}{rs:List RdyD}(ha:Act N ch lk M i n n' ms rs):∀ l',n'.ld=some l'→∀ q∈l'.qj,
    (∃ l,n.ld=some l∧q∈l.qj∧n'.t.term=n.t.term∧n.E<+:n'.E∧∀ p'∈l'.qa,p'.2.round=0∨∃ p∈l.qa,p'.2.id=p.2.id∧(p'.2.round=p.2.round∨∃ m,M m∧m.kind=6∧m.term=n.t.term∧m.src=p.2.id∧p'.2.round=m.round))∨
    (n.r.qp=4∧(LogA.mk 0 0 n.E).fits n.r.qc n.t.term∧n'.E=n.E∧n'.t=n.t∧∃ l,n.ld=some l∧l'.qa=l.qa∧q.index=n.r.qc∧q.round=l.qd.length+1):=by
  intro l' hl' q hq
  have same:n'.ld=n.ld→n'.t.term=n.t.term→n'.E=n.E→∃ l,n.ld=some l∧q∈l.qj∧n'.t.term=n.t.term∧n.E<+:n'.E∧∀ p'∈l'.qa,p'.2.round=0∨∃ p∈l.qa,p'.2.id=p.2.id∧(p'.2.round=p.2.round∨∃ m,M m∧m.kind=6∧m.term=n.t.term∧m.src=p.2.id∧p'.2.round=m.round):=fun h1 h2 h3=>⟨l',h1▸hl',hq,h2,h3▸List.prefix_rfl,fun p hp=> .inr ⟨p,hp,rfl, .inl rfl⟩⟩
  cases ha with
  |tim t h1 h2=>exact .inl (same rfl h1.1 rfl)
  |say ms hm hml=>exact .inl (same rfl rfl rfl)
  |later q d hq h2=>cases hl'
  |follow wh=>cases hl'
  |cand=>cases hl'
  |yes2 v hr=>exact .inl (same rfl rfl rfl)
  |yes3 q hr hq hk hd=>exact .inl (same rfl rfl rfl)
  |stand d=>cases hl'
  |asks ms hr hm hml=>exact .inl (same rfl rfl rfl)
  |elect hr hq'=>cases hl';cases hq
  |qD q d hq hk hv hr hf=>exact .inl (same rfl rfl rfl)
  |app q hq hk hr hld hc he hf hfi=>rw[show n.ld=some l' from hl']at hld;cases hld
  |low q hq hk hr hc=>exact .inl (same rfl rfl rfl)
  |lead l l2 hr hl hs=>
    cases hl'
    refine .inl ⟨l,hl,hs.qj▸hq,O,List.prefix_rfl,fun p hp=> .inr ?_⟩
    obtain⟨p0,h1,h2,_,h4⟩:=hs.ps p hp
    refine⟨p0,h1,h2,h4.imp id fun⟨m,a,b,c,d,e⟩=>⟨m,a,b,c,d,e⟩⟩
  |grow l e P hr hl he hg=>
    cases hl'
    refine .inl ⟨l,hl,hq,O,List.prefix_append _ _,fun p hp=> ?_⟩
    have old:p∈l.qa→p.2.round=0∨∃ p0∈l.qa,p.2.id=p0.2.id∧(p.2.round=p0.2.round∨∃ m,M m∧m.kind=6∧m.term=n.t.term∧m.src=p0.2.id∧p.2.round=m.round):=fun h=> .inr ⟨p,h,rfl, .inl rfl⟩
    have hp:p∈P:=hp
    rcases hg with⟨_,h⟩|⟨_,_,kind,id,F,_,_,_,_,_,h⟩
    · exact old (h▸hp)
    have hp:=h.mem_iff.1 hp
    unfold kM at hp
    split at hp
    · rcases List.mem_append.1 hp with hp|hp
      · exact old (List.mem_filter.1 hp).1
      rw[List.mem_singleton.1 hp];exact .inl rfl
    exact old (List.mem_filter.1 hp).1
  |count l hr hl=>exact .inl (same rfl rfl rfl)
  |feed l ms hr hll hm hml=>exact .inl (same rfl rfl rfl)
  |look l id hr hl hf hk=>
    cases hl'
    rcases List.mem_append.1 hq with hq|hq
    · exact .inl ⟨l,hl,hq,rfl,List.prefix_rfl,fun p hp=> .inr ⟨p,hp,rfl, .inl rfl⟩⟩
    rw[List.mem_singleton.1 hq]
    exact .inr ⟨hr,hf,O,O,l,hl,O,O,O⟩
  |imm id hr hf hq=>exact .inl (same rfl rfl rfl)
  |tell l k hk hr hl=>
    cases hl'
    refine .inl ⟨l,hl,?_,?_,List.prefix_rfl,fun p hp=> .inr ⟨p,?_,O, .inl O⟩⟩
    · unfold x9 at hq;split at hq
      · exact hq
      exact(List.mem_filter.1 hq).1
    · show(xZ k l.qd n.t).term=_
      unfold xZ;split<;>rfl
    have hp:p∈(x9 k (.slice none 0 0) l).qa:=hp
    unfold x9 at hp;split at hp<;>exact hp
section
variable {N lk k i:Nat} {ch:Bool} {g g':Gh} {X:NetA} {n:NodA} {ms:List MsgA} {rs:List RdyD} {safe:List EntA}
theorem zF5{j:Nat}(h:GhI N g X)(hi:i<N)(hj:j<N)(h1:(zG X.nodes i).r.qp=4)(h2:(zG X.nodes j).r.qp=4)(ht:(zG X.nodes i).t.term=(zG X.nodes j).t.term):i=j:=by
  obtain⟨r,a1,a2,a3,_⟩:=(h.nd i hi).el h1
  obtain⟨s,b1,b2,b3,_⟩:=(h.nd j hj).el h2
  have e:=h.ok.uniq (xS N) a1 b1 V
  rw[e]at a3
  exact kb (a3.symm.trans b3)
theorem zGL(h:GhI N g X)(h':GhI N g' (X.call i n ms))(hgo:Go g g')(hl:X.nodes.length=N)(hi:i<N)(h3:(zG X.nodes i).r.qp=3)(h4:n.r.qp=4)(ht:n.t.term=(zG X.nodes i).t.term){r:Elec}(hr:r∈g.els)(hT:r.T=n.t.term):False:=by
  have e:zG (X.call i n ms).nodes i=n:=by rw[xV V,if_pos rfl]
  have h1:=(h'.nd i hi).el
  rw[e]at h1
  obtain⟨s,b1,b2,b3,_⟩:=h1 h4
  have e:=h'.ok.uniq (xS N) (hgo.els r hr) b1 V
  rw[←e]at b3
  exact((h.nd i hi).tl r hr b3).2 V h3
def LcI(N:Nat)(g:Gh)(X:NetA):Prop:=∀ i,i<N→(zG X.nodes i).r.qp=4→∀ c∈g.coms,c.T=(zG X.nodes i).t.term→c.n≤(zG X.nodes i).r.qc
theorem zPR(h:GhI N g X)(h':GhI N g' (X.call i n ms))(hgo:Go g g')(hn:LrN g g' n)(hl:X.nodes.length=N)(hi:i<N)(hc:LcI N g X)(ha:Act N ch lk (· ∈X.way) i (zG X.nodes i) n ms rs):LcI N g' (X.call i n ms):=by
  intro j hj hr c hcc hT
  rw[xV V]at hr hT ⊢
  by_cases e:j=i
  · subst e
    rw[if_pos rfl]at hr hT ⊢
    rcases hn.cm c hcc with q|⟨_,_,q⟩
    · rcases zF9 ha hr with⟨a1,a2,a3,_⟩|⟨a1,a2⟩
      · exact Nat.le_trans (hc j hj a1 c q V) a3
      obtain⟨r,b1,b2,_⟩:=h.ok.com c q
      exact(zGL h h' hgo hl hi a1 hr a2 b1 V).elim
    exact q
  rw[if_neg e]at hr hT ⊢
  rcases hn.cm c hcc with q|⟨q1,q2,_⟩
  · exact hc j hj hr c q hT
  refine absurd (zF5 h' (i:=i) (j:=j) hi hj ?_ ?_ ?_).symm e
  · rw[xV V,if_pos rfl];exact q1
  · rw[xV V,if_neg e];exact hr
  rw[xV V,xV V,if_pos rfl,if_neg e];omega
def zPZ(N:Nat)(g:Gh)(X:NetA)(T R:Nat):Prop:=R=0∨((∃ r∈g.els,r.T=T)∧∀ i,i<N→(zG X.nodes i).r.qp=4→(zG X.nodes i).t.term=T→∀ l,(zG X.nodes i).ld=some l→R≤l.qd.length)
def zKZ(N:Nat)(g:Gh)(X:NetA):Prop:=∀ m∈X.way,m.kind=5∨m.kind=6→zPZ N g X m.term m.round
theorem zLD{T R:Nat}(h:GhI N g X)(h':GhI N g' (X.call i n ms))(hgo:Go g g')(hl:X.nodes.length=N)(hi:i<N)(ha:Act N ch lk (· ∈X.way) i (zG X.nodes i) n ms rs)(hm:zPZ N g X T R):zPZ N g' (X.call i n ms) T R:=by
  rcases hm with hm|⟨⟨r,hr,hT⟩,hb⟩
  · exact .inl hm
  refine .inr ⟨⟨r,hgo.els r hr,hT⟩,fun j hj hro ht l hld=> ?_⟩
  rw[xV V]at hro ht hld
  by_cases e:j=i
  · subst e
    rw[if_pos rfl]at hro ht hld
    rcases zF9 ha hro with⟨a1,a2,_,a4⟩|⟨a1,a2⟩
    · obtain⟨l0,b1,b2⟩:=a4 l hld
      exact Nat.le_trans (hb j hj a1 V l0 b1) b2
    exact(zGL h h' hgo hl hi a1 hro a2 hr V).elim
  rw[if_neg e]at hro ht hld
  exact hb j hj hro ht l hld
theorem zNn(h:GhI N g X)(h':GhI N g' (X.call i n ms))(hgo:Go g g')(hl:X.nodes.length=N)(hi:i<N)(ha:Act N ch lk (· ∈X.way) i (zG X.nodes i) n ms rs)(hR:zKZ N g X):zKZ N g' (X.call i n ms):=by
  intro m hm k
  rcases List.mem_append.1 hm with hm|hm
  · exact zLD h h' hgo hl hi ha (hR m hm k)
  obtain⟨_,h1,h2|⟨q,q1,q2,q3,q4⟩|⟨q1,q2,l,q3,q4⟩⟩:=zLN ha m hm k
  · exact .inl h2
  · have:=zLD h h' hgo hl hi ha (hR q q1 (.inl q2))
    rw[q3,q4]at this;exact this
  obtain⟨r,a1,a2,_⟩:=(h.nd i hi).el q1
  refine .inr ⟨⟨r,hgo.els r a1,by omega⟩,fun j hj hro ht l' hld=> ?_⟩
  have e:zG (X.call i n ms).nodes i=n:=by rw[xV V,if_pos rfl]
  have en:n.t.term=(zG X.nodes i).t.term:=by rw[q2]
  have e4:n.r.qp=4:=by rw[q2];exact q1
  have ej:j=i:=zF5 h' hj hi hro (by rw[e];exact e4) (by rw[e];omega)
  subst ej
  rw[e,q2,q3]at hld
  cases hld
  omega
theorem zLk{T:Nat}:∀ (l:List Elec),(∃ s∈l,T<s.T)→∃ s∈l,T<s.T∧∀ r∈l,T<r.T→s.T≤r.T
  | [],h=>by obtain⟨_,h,_⟩:=h;cases h
  |a::l,h=>by
    by_cases c:∃ s∈l,T<s.T
    · obtain⟨s,h1,h2,h3⟩:=zLk l c
      by_cases d:T<a.T∧a.T<s.T
      · refine⟨a, .head _,d.1,fun r hr hT=> ?_⟩
        rcases List.mem_cons.1 hr with rfl|hr
        · exact Nat.le_refl _
        have:=h3 r hr hT;omega
      refine⟨s, .tail _ h1,h2,fun r hr hT=> ?_⟩
      rcases List.mem_cons.1 hr with rfl|hr
      · omega
      exact h3 r hr hT
    obtain⟨s,h1,h2⟩:=h
    rcases List.mem_cons.1 h1 with rfl|h1
    · refine⟨s, .head _,h2,fun r hr hT=> ?_⟩
      rcases List.mem_cons.1 hr with rfl|hr
      · exact Nat.le_refl _
      exact absurd ⟨r,hr,hT⟩ c
    exact absurd ⟨s,h1,h2⟩ c
theorem zET(h:GhI N g X)(hlc:LcI N g X)(hs:SafeF safe g)(hi:i<N)(hr:(zG X.nodes i).r.qp=4)(hf:(LogA.mk 0 0 (zG X.nodes i).E).fits (zG X.nodes i).r.qc (zG X.nodes i).t.term):safe.length≤(zG X.nodes i).r.qc∨∃ r∈g.els,r.T=(zG X.nodes i).t.term∧g.Lr r=(zG X.nodes i).E∧∃ s∈g.els,(zG X.nodes i).t.term<s.T∧s.E<+:(zG X.nodes i).E∧r.E.length≤s.E.length:=by
  obtain⟨r0,hr0,e1,e2,e3⟩:=(h.nd i hi).el hr
  have hT1:=h.ok.elT r0 hr0
  have hcm:=(h.nd i hi).cm
  have hlc:=hlc i hi hr
  generalize (zG X.nodes i).r.qc=C at *
  generalize hT:(zG X.nodes i).t.term=T at *
  cases C with
  |zero=>
    have h1:=hf.2
    rw[show(LogA.mk 0 0 (zG X.nodes i).E).termE 0=(0,0)from rfl]at h1
    have h1:0=T:=h1
    omega
  |succ c=>
    obtain⟨f1,f2⟩:=zBa hf
    have hcl:r0.E.length≤c:=by
      refine Classical.byContradiction fun q=> ?_
      have h1:=(Has.pre (h.ok.elE r0 hr0)).nth_eq (i:=c) V
      rw[e3]at h1
      have h2:=h.ok.elt r0 hr0 c _ (yW V)
      rw[h1,f2]at h2
      omega
    by_cases hx:∃ s∈g.els,T<s.T
    · right
      obtain⟨s,hs1,hs2,hs3⟩:=zLk g.els hx
      rcases hcm with hcm|⟨x,hx1,r,hx2,hx3,hx4,hx5,hx6⟩
      · omega
      have hxT:r.T=T:=by
        have h1:=congrArg EntA.term (hx6.nth_eq (i:=c) V)
        rw[f2]at h1
        have hcr:=hx6.2.1
        by_cases q:c<r.E.length
        · have h2:=(Has.pre (h.ok.elE r hx2)).nth_eq q
          have h3:=h.ok.elt r hx2 c _ (yW q)
          rw[h2]at h3;omega
        have h3:=h.ok.elL r hx2 c _ V (yW (show c<(g.Lr r).length by omega))
        omega
      have er:r=r0:=h.ok.uniq (xS N) hx2 hr0 V
      subst er
      have hcp:=(h.ok.comp (xS N) hs1 x hx1 r hx2 hx3 V).le hx5
      have hcs:=hcp.1
      have hB:=(h.ok.elB s hs1).pre (h.ok.elE s hs1)
      obtain⟨e,he⟩:=j0 (X:=s.E) (i:=s.E.length - 1) V
      obtain⟨s',t1,t2,t3,t4⟩:=hB _ e he
      have hm:=hB.mono h.ok (show c≤s.E.length - 1 by omega) (yW (show c<s.E.length by omega)) he
      have h4:=hcp.nth_eq (i:=c) V
      have h5:=hx6.nth_eq (i:=c) V
      have h6:=h.ok.elt s hs1 _ e he
      rw[h4,←h5,f2]at hm
      have hsT:s'.T=T:=by
        by_cases q:T<s'.T
        · have:=hs3 s' t1 q;omega
        omega
      have es:s'=r:=h.ok.uniq (xS N) t1 hx2 V
      subst es
      refine⟨s',hx2,hxT,e3,s,hs1,hs2,?_,by omega⟩
      rw[←e3]
      exact t4.to V
    left
    rcases hs.2 with q|⟨c1,k1,r1,k2,k3,k4,_⟩
    · rw[q];exact Nat.zero_le _
    have h1:¬ T<r1.T:=fun q=>hx ⟨r1,k2,q⟩
    by_cases e:c1.T=T
    · exact Nat.le_trans k4 (hlc c1 k1 e)
    have h2:=(h.ok.comp (xS N) hr0 c1 k1 r1 k2 k3 V).1
    omega
theorem zEN{r s:Elec}(h:g.ok (qu N))(hr:r∈g.els)(hs:s∈g.els)(hT:r.T<s.T)(hp:s.E<+:g.Lr r)(hl:r.E.length≤s.E.length){Q:List Int}(hQ:qu N (g.Lr r) Q):∃ v,v∈Q∧v∈s.Q:=by
  have hsq:=h.elq s hs
  have one:∀ (p:Nat) (e:EntA),s.E.length≤p→(g.Lr r)[p]?=some e→isC e→(∀ (j:Nat) (x:EntA),j<p→(g.Lr r)[j]?=some x→isC x→j<s.E.length)∧Mt (qu N) ((g.Lr r).take p) ((g.Lr r).take (p+1)):=by
    intro p e hpl he hc
    obtain⟨⟨c,k1,k2,k3,k4⟩,k5⟩:=h.cfc r hr p e V he hc
    have h1:=(h.comp (xS N) hs c k1 r hr k2.symm V).1
    exact⟨fun j x hj hx hxc=>Nat.lt_of_lt_of_le (k4 j x hj hx hxc) h1,k5⟩
  by_cases hx:∃ (p:Nat) (e:EntA),s.E.length≤p∧(g.Lr r)[p]?=some e∧isC e
  · obtain⟨p,e,h1,h2,h3⟩:=hx
    obtain⟨h4,h5⟩:=one p e h1 h2 h3
    have hpl:=(List.getElem?_eq_some_iff.1 h2).1
    have h6:qu N ((g.Lr r).take p) s.Q:=((xS N).stay s.E _ (List.prefix_take_iff.2 ⟨hp,h1⟩) (fun j x hj hx hc=>by
      rw[List.getElem?_take]at hx
      split at hx
      · rename_i q
        have:=h4 j x q hx hc;omega
      cases hx) s.Q).1 hsq
    have h7:qu N ((g.Lr r).take (p+1)) Q:=((xS N).stay _ (g.Lr r) (List.take_prefix _ _) (fun j x hj hx hc=>by
      rw[List.length_take]at hj
      have hjl:=(List.getElem?_eq_some_iff.1 hx).1
      have:=(one j x V hx hc).1 p e V h2 h3
      omega) Q).2 hQ
    obtain⟨v,a,b⟩:=h5 s.Q Q h6 h7
    exact⟨v,b,a⟩
  have h6:qu N (g.Lr r) s.Q:=((xS N).stay s.E _ hp (fun j x hj hx' hc=>hx ⟨j,x,hj,hx',hc⟩) s.Q).1 hsq
  exact(xS N).self _ Q s.Q hQ h6
def zRN(N:Nat)(g:Gh)(X:NetA)(i:Nat)(n:NodA)(l:LdD)(q:LookM):Prop:=0<q.round∧∃ r∈g.els,r.T=n.t.term∧∃ s∈g.els,n.t.term<s.T∧s.E<+:n.E∧r.E.length≤s.E.length∧
  ∀ v∈s.Q,v≠xc i∧(∀ p∈l.qa,p.2.id=v→p.2.round<q.round)∧(∀ m∈X.way,m.kind=6→m.src=v→m.term=n.t.term→m.round<q.round)∧∀ j,j<N→xc j=v→n.t.term<(zG X.nodes j).t.term
def zNi(N:Nat)(safe:List EntA)(g:Gh)(X:NetA):Prop:=∀ i,i<N→∀ l,(zG X.nodes i).ld=some l→∀ q∈l.qj,safe.length≤q.index∨zRN N g X i (zG X.nodes i) l q
theorem zNK(hB:Bnd N lk k X)(h:GhI N g X)(h':GhI N g' (X.call i n ms))(hgo:Go g g')(hi:i<N)(hlc:LcI N g X)(hR:zKZ N g X)(hs:SafeF safe g)(hL:zNi N safe g X)(ha:Act N ch lk (· ∈X.way) i (zG X.nodes i) n ms rs):zNi N safe g' (X.call i n ms):=by
  have hl:=hB.len
  have hms:=zLN ha
  intro j hj l' hl' q hq
  rw[xV V]at hl' ⊢
  by_cases e:j=i
  · subst e
    rw[if_pos rfl]at hl' ⊢
    -- terms of others
    have ht:∀ v,v≠xc j→∀ T,(∀ j',j'<N→xc j'=v→T<(zG X.nodes j').t.term)→∀ j',j'<N→xc j'=v→T<(zG (X.call j n ms).nodes j').t.term:=fun v hv T hh j' hj' e'=>by
      rw[xV V,if_neg (fun q=>hv (by rw[←e',q]))]
      exact hh j' hj' e'
    have hw:∀ v,v≠xc j→∀ T R,(∀ m∈X.way,m.kind=6→m.src=v→m.term=T→m.round<R)→∀ m∈(X.call j n ms).way,m.kind=6→m.src=v→m.term=T→m.round<R:=fun v hv T R hh m hm k1 k2 k3=>by
      rcases List.mem_append.1 hm with hm|hm
      · exact hh m hm k1 k2 k3
      exact absurd (k2.symm.trans (hms m hm (.inr k1)).1) hv
    rcases zML ha l' hl' q hq with⟨l,b1,b2,b3,b4,b5⟩|⟨b1,b2,b3,b4,l,b5,b6,b7,b8⟩
    · refine(hL j hj l b1 q b2).imp id ?_
      rintro⟨c0,r,c1,c2,s,c3,c4,c5,c6,c7⟩
      refine⟨c0,r,hgo.els r c1,by omega,s,hgo.els s c3,by omega,c5.trans b4,c6,fun v hv=> ?_⟩
      obtain⟨d1,d2,d3,d4⟩:=c7 v hv
      rw[b3]
      refine⟨d1,fun p hp hid=> ?_,hw v d1 _ _ d3,ht v d1 _ d4⟩
      rcases b5 p hp with f|⟨p0,f1,f2,f3|⟨m,m1,m2,m3,m4,m5⟩⟩
      · omega
      · rw[f3];exact d2 p0 f1 (f2▸hid)
      rw[m5];exact d3 m m1 m2 (m4.trans (f2.symm.trans hid)) m3
    rw[b7]
    refine(zET h hlc hs hj b1 b2).imp id ?_
    rintro⟨r,c1,c2,c3,s,c4,c5,c6,c7⟩
    have hpb:=((hB.B j hj).ld l b5).pb
    refine⟨by omega,r,hgo.els r c1,by rw[b4];exact c2,s,hgo.els s c4,by rw[b4];exact c5,by rw[b3];exact c6,c7,fun v hv=> ?_⟩
    obtain⟨w,w1,w2,w3,_⟩:=h.ok.elv s c4 v hv
    have hne:v≠xc j:=fun q=>by
      have:=((h.nd j hj).vt w w1 (w2.trans q)).1
      omega
    rw[b4]
    refine⟨hne,fun p hp _=> ?_,hw v hne _ _ fun m hm k1 k2 k3=> ?_,ht v hne _ fun j' hj' e'=> ?_⟩
    · rw[b6]at hp
      have:=(hpb p hp).round
      omega
    · rcases hR m hm (.inr k1)with q|⟨_,q⟩
      · omega
      have:=q j hj b1 k3.symm l b5
      omega
    have:=((h.nd j' hj').vt w w1 (w2.trans e'.symm)).1
    omega
  rw[if_neg e]at hl' ⊢
  refine(hL j hj l' hl' q hq).imp id ?_
  rintro⟨c0,r,c1,c2,s,c3,c4,c5,c6,c7⟩
  refine⟨c0,r,hgo.els r c1,c2,s,hgo.els s c3,c4,c5,c6,fun v hv=> ?_⟩
  obtain⟨d1,d2,d3,d4⟩:=c7 v hv
  refine⟨d1,d2,fun m hm k1 k2 k3=> ?_,fun j' hj' e'=> ?_⟩
  · rcases List.mem_append.1 hm with hm|hm
    · exact d3 m hm k1 k2 k3
    obtain⟨f1,f2,_⟩:=hms m hm (.inr k1)
    have:=d4 i hi (f1.symm.trans k2)
    omega
  rw[xV V]
  split
  · rename_i q;subst q
    exact Nat.lt_of_lt_of_le (d4 j' hj' e') (zKu ha)
  exact d4 j' hj' e'
theorem zNA(hB:Bnd N lk k X)(h:GhI N g X)(hi:i<N)(hlc:LcI N g X)(hs:SafeF safe g)(hL:zNi N safe g X)(ha:Act N ch lk (· ∈X.way) i (zG X.nodes i) n ms rs):∀ r∈rs,safe.length≤r.index:=by
  have hb:=hB.B i hi
  cases ha with
  |imm id hr hf hq=>
    intro x hx
    rw[List.mem_singleton.1 hx]
    rcases zET h hlc hs hi hr hf with q|⟨r,c1,c2,c3,s,c4,c5,c6,c7⟩
    · exact q
    have hQ:qu N (g.Lr r) [xc i]:=by
      rw[c3];unfold qu;rw[←zB9 hb.good.fol];exact hq
    obtain⟨v,v1,v2⟩:=zEN h.ok c1 c4 V (by rw[c3];exact c6) c7 hQ
    obtain⟨w,w1,w2,w3,_⟩:=h.ok.elv s c4 v v2
    have:=((h.nd i hi).vt w w1 (w2.trans (List.mem_singleton.1 v1))).1
    omega
  |tell l kk hk hr hl=>
    intro x hx
    split at hx
    · cases hx
    rename_i hk0
    obtain⟨q,hq,rfl⟩:=List.mem_map.1 hx
    obtain⟨hq1,hq2⟩:=List.mem_filter.1 hq
    have hq2:q.round≤kk:=of_decide_eq_true hq2
    rcases hL i hi l hl q hq1 with q3|⟨c0,r,c1,c2,s,c3,c4,c5,c6,c7⟩
    · exact q3
    exfalso
    unfold xa at hk
    split at hk
    · rename_i hcf
      obtain⟨Q,hQ1,hQ2⟩:=zER (show 0<xY (zw (aN i).id (zc (y5 N) (zG X.nodes i).E).vs l.qa l.qd.length PeerM.round)by omega)
      obtain⟨r',d1,d2,d3,d4⟩:=(h.nd i hi).el hr
      have e:r'=r:=h.ok.uniq (xS N) d1 c1 V
      subst e
      have hQ:qu N (g.Lr r') Q:=by
        rw[d4];unfold qu;rw[←zB9 hb.good.fol];exact⟨hcf.1,hQ2⟩
      obtain⟨v,v1,v2⟩:=zEN h.ok d1 c3 V (by rw[d4];exact c5) c6 hQ
      obtain⟨f1,f2,_⟩:=c7 v v2
      have h9:=(hQ1 v v1).2
      have f0:¬ v=(aN i).id:=f1
      cases hp:ya l.qa v with
      |none=>rw[jU f0 hp]at h9;omega
      |some k2=>
        rw[jV f0 hp]at h9
        obtain⟨p1,p2⟩:=zAe hp
        have:=f2 _ (zd p1) p2
        omega
    exact hk0 hk
  |_=>intro x hx;cases hx
end
def zCo(N lk:Nat)(leads:List (Nat×Int))(safe:List EntA)(k:Nat)(X:NetA):Prop:=Bnd N lk k X∧∃ g,GhI N g X∧(LeadF leads g∧SafeF safe g)∧LcI N g X∧zKZ N g X∧zNi N safe g X
theorem zBn{N lk:Nat}{leads:List (Nat×Int)}{safe:List EntA}(hN:1≤N∧N≤5):StpR N true lk (zCo N lk leads safe) fun r=>safe.length≤r.index where
  len k X h:=h.1.len
  B k X i h hi:=h.1.B i hi
  M k X h:=h.1.M
  wl k X h:=h.1.wl
  up k X h:=⟨h.1.up,h.2⟩
  sub k X way h hs:=⟨h.1.sub hs,by
    obtain⟨g,hg,hf,h1,h2,h3⟩:=h.2
    refine⟨g,hg.sub hs,hf,h1,fun m hm=>h2 m (hs.mem hm),fun i hi l hl q hq=>(h3 i hi l hl q hq).imp id ?_⟩
    rintro⟨c0,r,c1,c2,s,c3,c4,c5,c6,c7⟩
    exact⟨c0,r,c1,c2,s,c3,c4,c5,c6,fun v hv=>⟨(c7 v hv).1,(c7 v hv).2.1,fun m hm=>(c7 v hv).2.2.1 m (hs.mem hm),(c7 v hv).2.2.2⟩⟩⟩
  act k X i n ms rs hk h hi ha:=⟨h.1.act hN hk hi ha,by
    obtain⟨g,hg,hf,h1,h2,h3⟩:=h.2
    obtain⟨g',⟨hgo,hn⟩,hg'⟩:=zPz hN h.1 hi hg ha
    exact⟨g',hg',⟨hf.1.go hgo,hf.2.go hgo⟩,zPR hg hg' hgo hn h.1.len hi h1 ha,zNn hg hg' hgo h.1.len hi ha h2,zNK h.1 hg hg' hgo hi h1 h2 hf.2 h3 ha⟩⟩
  out k X i n ms rs hk h hi ha:=by
    obtain⟨g,hg,hf,h1,h2,h3⟩:=h.2
    exact zNA h.1 hg hi h1 hf.2 h3 ha
end Go.Proofs.YtkkeknmkipkbmaaGreat
