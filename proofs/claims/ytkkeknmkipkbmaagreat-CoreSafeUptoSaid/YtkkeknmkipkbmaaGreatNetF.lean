import Derived.Test.YtkkeknmkipkbmaaGreatNetR
import Derived.Test.YtkkeknmkipkbmaaGreatRef3
set_option linter.unusedSectionVars false
set_option linter.unusedSimpArgs false
set_option linter.unusedVariables false
set_option maxRecDepth 10000
namespace Go.Proofs.YtkkeknmkipkbmaaGreat
open Go Go.Sc Go.Proofs
def GhP(N lk:Nat)(F:Gh→Prop)(k:Nat)(X:NetA):Prop:=Bnd N lk k X∧∃ g,GhI N g X∧F g
theorem GhI.sub{N:Nat}{g:Gh}{X:NetA}{way:List MsgA}(h:GhI N g X)(hs:way.Sublist X.way):GhI N g ⟨X.nodes,way⟩:=
  ⟨h.ok,h.vk,h.vfr,h.vnz,h.nd,fun m hm=>h.ms m (hs.mem hm),fun m hm=>h.k3 m (hs.mem hm)⟩
def LeadF(leads:List (Nat×Int))(g:Gh):Prop:=∀ T j,kz T leads=some j→∃ r∈g.els,r.T=T∧r.id=j+1
def SafeF(safe:List EntA)(g:Gh):Prop:=safe.length≤100000∧(safe=[]∨∃ c∈g.coms,∃ r∈g.els,r.T=c.T∧safe.length≤c.n∧Has safe (g.Lr r) safe.length)
theorem LeadF.go{leads:List (Nat×Int)}{g g':Gh}(h:Go g g')(hf:LeadF leads g):LeadF leads g':=fun T j e=>by
  obtain⟨r,hr,q⟩:=hf T j e
  exact⟨r,h.els r hr,q⟩
theorem SafeF.go{safe:List EntA}{g g':Gh}(h:Go g g')(hf:SafeF safe g):SafeF safe g':=by
  refine⟨hf.1,hf.2.imp id ?_⟩
  rintro⟨c,hc,r,hr,h1,h2,h3⟩
  exact⟨c,h.coms c hc,r,h.els r hr,h1,h2,h3.up (h.L r hr)⟩
theorem zMg{N:Nat}{g:Gh}(hg:g.ok (qu N)){c d:ComR}{r s:Elec}(hc:c∈g.coms)(hd:d∈g.coms)(hr:r∈g.els)(hs:s∈g.els)(e1:r.T=c.T)(e2:s.T=d.T)(h:c.n≤d.n):Has (g.Lr r) (g.Lr s) c.n:=by
  have hl:∀ (c:ComR) (r:Elec),c∈g.coms→r∈g.els→r.T=c.T→c.n≤(g.Lr r).length:=fun c r hc hr e=>by
    obtain⟨s,hs,q1,q2,q3,q4,_⟩:=hg.com c hc
    rw[hg.uniq (kO N) hr hs V];omega
  rcases Nat.lt_trichotomy r.T s.T with q|q|q
  · have h5:=hg.comp (kO N) hs c hc r hr e1 V
    exact(((Has.pre (hg.elE s hs)).le h5.1).symm.trans h5).symm
  · rw[hg.uniq (kO N) hr hs q]
    exact Has.self (Nat.le_trans h (hl d s hd hs e2))
  have h5:=hg.comp (kO N) hr d hd s hs e2 V
  exact(((Has.pre (hg.elE r hr)).le h5.1).symm.trans h5).le h
theorem zH8:∀ (l:List ComR),l=[]∨∃ d∈l,∀ c∈l,c.n≤d.n
  | []=> .inl rfl
  |a::l=>by
    right
    rcases zH8 l with h|⟨d,hd,h⟩
    · subst h;exact⟨a, .head _,fun c hc=>by rw[List.mem_singleton.1 hc];exact Nat.le_refl _⟩
    by_cases q:d.n≤a.n
    · refine⟨a, .head _,fun c hc=> ?_⟩
      rcases List.mem_cons.1 hc with rfl|hc
      · exact Nat.le_refl _
      exact Nat.le_trans (h c hc) q
    refine⟨d, .tail _ hd,fun c hc=> ?_⟩
    rcases List.mem_cons.1 hc with rfl|hc
    · omega
    exact h c hc
theorem zLl{N:Nat}{g:Gh}(hg:g.ok (qu N)):∃ Sf:List EntA,Sf.length≤100000∧(∀ c∈g.coms,∀ r∈g.els,r.T=c.T→∀ j,j≤c.n→j≤100000→Has (g.Lr r) Sf j)∧(∀ safe:List EntA,safe.length≤Sf.length→safe=Sf.take safe.length→SafeF safe g):=by
  rcases zH8 g.coms with h|⟨d,hd,h⟩
  · refine⟨[],Nat.zero_le _,fun c hc=>(by rw[h]at hc;cases hc),fun safe hl _=>⟨by simp at hl;simp[hl], .inl (List.eq_nil_of_length_eq_zero (by simpa using hl))⟩⟩
  obtain⟨s,hs,q1,q2,q3,q4,_⟩:=hg.com d hd
  have hlen:((g.Lr s).take (min d.n 100000)).length=min d.n 100000:=by rw[List.length_take];omega
  refine⟨(g.Lr s).take (min d.n 100000),by omega,fun c hc r hr e j h1 h2=> ?_,fun safe hl e=>⟨by omega, .inr ⟨d,hd,s,hs,q1,by omega,?_⟩⟩⟩
  · have h3:=(zMg hg hc hd hr hs e q1 (h c hc)).le h1
    exact(h3.symm.takeL (by have:=h c hc;omega)).symm
  have h4:Has ((g.Lr s).take (min d.n 100000)) (g.Lr s) safe.length:=(Has.self (by omega:safe.length≤(g.Lr s).length)).takeL V
  rw[e,List.length_take,Nat.min_eq_left hl]
  exact h4.takeL (Nat.le_refl _)
theorem zMj{N lk k:Nat}{g:Gh}{X:NetD}{leads:List (Nat×Int)}(hk:k≤99000)(hX:X.st N)(hB:Bnd N lk k X.a)(hg:GhI N g X.a)(hl:LeadF leads g)(hs:SafeF (X.safe.map EntD.toEntA) g):∃ (Ld:Nat→Int→Prop) (Sf:List EntA),RightP N Ld Sf X∧kg Sf X.safe∧ku Ld leads∧Sf.length≤100000∧
    ∀ (leads':List (Nat×Int)) (safe':List EntD),kg Sf safe'→ku Ld leads'→LeadF leads' g∧SafeF (safe'.map EntD.toEntA) g:=by
  obtain⟨Sf,h1,h2,h3⟩:=zLl hg.ok
  have hn:∀ i,i<N→zG X.a.nodes i=(zG X.ns i).n.a:=fun i hi=>NetD.at_ (by rw[hX.len];exact hi)
  refine⟨fun T j=>∃ r∈g.els,r.T=T∧r.id=j+1,Sf,⟨fun T i j ⟨r,hr,a,b⟩ ⟨s,hs,c,d⟩=> ?_,fun i hi hr=> ?_,fun i hi=> ?_⟩,?_,hl,h1,fun leads' safe' a b=>⟨b,h3 _ ?_ ?_⟩⟩
  · have:=hg.ok.uniq (kO N) hr hs V
    rw[this]at b;omega
  · have h4:=(hg.nd i hi).el
    rw[hn i hi]at h4
    obtain⟨r,hr,a,b,_⟩:=h4 hr
    exact⟨r,hr,a,b⟩
  · have h4:=(hg.nd i hi).cm
    have h5:=(hB.B i hi).cl
    have h6:=(hB.B i hi).E
    rw[hn i hi]at h4 h5 h6
    rcases h4 with q|⟨c,hc,r,hr,a,b,d,e⟩
    · have q':(zG X.ns i).n.r.qc=0:=q
      rw[q'];exact⟨Nat.zero_le _,rfl⟩
    have h7:=e.trans (h2 c hc r hr a _ d V)
    exact⟨h7.2.1,h7.2.2⟩
  · rcases hs.2 with q|⟨c,hc,r,hr,a,b,d⟩
    · have q':X.safe=[]:=List.map_eq_nil_iff.1 q
      rw[q'];exact⟨Nat.zero_le _,rfl⟩
    have h7:=d.trans (h2 c hc r hr a _ b hs.1)
    rw[List.length_map]at h7
    refine⟨h7.2.1,?_⟩
    rw[←h7.2.2,List.take_of_length_le (by rw[List.length_map];exact Nat.le_refl _)]
  · rw[List.length_map];exact a.1
  rw[List.length_map];exact a.2
def g0:Gh:={now:=0,els:=[],L:=fun _ _=>[],vts:=[],acks:=[],coms:=[]}
theorem zQn(N:Nat):g0.ok (qu N):=by
  constructor<;>intro r hr<;>cases hr
theorem _root_.Go.Sc.wc{p:Prop}(h:p:=by simp[g0]):p:=h
theorem zO6{N lk:Nat}{F:Gh→Prop}(hN:1≤N∧N≤5)(hF:F g0):GhP N lk F 0 ⟨(List.range N).map jU,[]⟩:=by
  have hn:∀ i,i<N→zG ((List.range N).map jU) i=jU i:=fun i hi=>by rw[kK (by rw[List.length_range];exact hi)];congr 1;exact nth_eq (List.getElem?_range hi)
  refine⟨zNG hN,g0,⟨zQn N,fun w hw=>absurd hw wc,fun w hw=>absurd hw wc,fun w hw=>absurd hw wc,fun i hi=> ?_,fun m hm=>absurd hm qQ,fun m hm=>absurd hm qQ⟩,hF⟩
  show NodI g0 i (zG ((List.range N).map jU) i)
  rw[hn i hi]
  exact⟨fun j e he=>absurd he (by simp[jU]),fun r hr=>absurd hr wc,fun w hw=>absurd hw wc,fun w hw=>absurd hw wc,fun q=>absurd q (by show ¬(1:Int)=4;decide),fun a ha=>absurd ha wc, .inl O,fun q=>absurd q (by show ¬(1:Int)=3;decide),fun l q=>by cases q⟩
def NoK(l:List EntA):Prop:=∀ e∈l,¬ isC e
structure NoC(N:Nat)(g:Gh)(X:NetA):Prop where
  nd:∀ i,i<N→NoK (zG X.nodes i).E
  ms:∀ m∈X.way,NoK m.ql
  lg:∀ r∈g.els,NoK (g.Lr r)
theorem zNe{N lk i:Nat}{M:MsgA→Prop}{n n':NodA}{ms:List MsgA}{rs:List RdyD}(hn:NoK n.E)(hM:∀ q,M q→NoK q.ql)(ha:Act N false lk M i n n' ms rs):NoK n'.E∧∀ m∈ms,NoK m.ql:=by
  have no:∀ m∈([]:List MsgA),NoK m.ql:=fun m hm=>by cases hm
  have nil:∀ {m:MsgA},m.ql=[]→NoK m.ql:=fun h=>by rw[h];exact fun e he=>by cases he
  have one:∀ {l:List EntA} {e:EntA},NoK l→¬ isC e→NoK (l++[e]):=fun hl he x hx=>by
    rcases List.mem_append.1 hx with q|q
    · exact hl x q
    rw[List.mem_singleton.1 q];exact he
  cases ha with
  |tim t h1 h2=>exact⟨hn,no⟩
  |say ms hm hml=>exact⟨hn,fun m h=>nil (hm m h).ql⟩
  |later q d hq h2=>exact⟨hn,no⟩
  |follow wh=>exact⟨hn,no⟩
  |cand=>exact⟨hn,no⟩
  |yes2 v hr=>exact⟨hn,no⟩
  |yes3 q hr hq hk hd=>exact⟨hn,no⟩
  |stand d=>exact⟨hn,no⟩
  |asks ms hr hm hml=>exact⟨hn,fun m h=>nil (hm m h).rest.2.2⟩
  |elect hr hq=>exact⟨one hn (by show ¬(1:Int)=3;decide),no⟩
  |qD q d hq hk hv hr hf=>exact⟨hn,fun m h=>nil (by rw[List.mem_singleton.1 h];rfl)⟩
  |app q hq hk hr hld hc he hf hfi=>
    refine⟨fun e he=> ?_,fun m h=>nil (by rw[List.mem_singleton.1 h];rfl)⟩
    rcases zEg e he with h|h
    · exact hn e h
    exact hM q hq e h
  |low q hq hk hr hc=>exact⟨hn,fun m h=>nil (by rw[List.mem_singleton.1 h];rfl)⟩
  |lead l l' hr hl hs=>exact⟨hn,no⟩
  |grow l e P hr hl he hg=>
    refine⟨one hn ?_,no⟩
    rcases hg with⟨h,_⟩|⟨h,_⟩
    · show ¬ e.kind=3;omega
    cases h
  |count l hr hl=>exact⟨hn,no⟩
  |feed l ms hr hll hm hml=>
    refine⟨hn,fun m h e he=> ?_⟩
    rw[(hm m h).ql.2]at he
    exact hn e (List.mem_of_mem_drop (List.mem_of_mem_take he))
  |look l id hr hl hf hk=>exact⟨hn,no⟩
  |imm id hr hf hq=>exact⟨hn,no⟩
  |tell l k hk hr hl=>exact⟨hn,no⟩
def SfP(N:Nat)(F:Gh→Prop)(k:Nat)(X:NetA):Prop:=Bnd N 0 k X∧∃ g,GhI N g X∧F g∧NoC N g X
theorem zOv{N:Nat}{F:Gh→Prop}(hN:1≤N∧N≤5)(hF:∀ g g',Go g g'→F g→F g'):Stp N false 0 (SfP N F) where
  len k X h:=h.1.len
  B k X i h hi:=h.1.B i hi
  M k X h:=h.1.M
  wl k X h:=h.1.wl
  up k X h:=⟨h.1.up,h.2⟩
  sub k X way h hs:=⟨h.1.sub hs,by
    obtain⟨g,hg,hf,hc⟩:=h.2
    exact⟨g,hg.sub hs,hf,hc.nd,fun m hm=>hc.ms m (hs.mem hm),hc.lg⟩⟩
  act k X i n ms rs hk h hi ha:=⟨h.1.act hN hk hi ha,by
    obtain⟨g,hg,hf,hc⟩:=h.2
    obtain⟨g',⟨h1,h3⟩,h2⟩:=zOL hN h.1 hi hg ha
    obtain⟨h4,h5⟩:=zNe (hc.nd i hi) hc.ms ha
    refine⟨g',h2,hF g g' h1 hf,fun j hj=> ?_,fun m hm=> ?_,fun r hr=> ?_⟩
    · rw[zBR (by rw[h.1.len];exact hi)]
      split
      · exact h4
      exact hc.nd j hj
    · rcases List.mem_append.1 hm with hm|hm
      · exact hc.ms m hm
      exact h5 m hm
    rcases h3 r hr with⟨q1,q2⟩|q
    · rw[q2];exact hc.lg r q1
    rw[q];exact h4⟩
theorem zO3{N:Nat}{F:Gh→Prop}(hN:1≤N∧N≤5)(hF:F g0):SfP N F 0 ⟨(List.range N).map jU,[]⟩:=by
  have hn:∀ i,i<N→zG ((List.range N).map jU) i=jU i:=fun i hi=>by rw[kK (by rw[List.length_range];exact hi)];congr 1;exact nth_eq (List.getElem?_range hi)
  obtain⟨h1,g,h2,h3⟩:=zO6 (lk:=0) (F:=fun g=>F g∧g=g0) hN ⟨hF,rfl⟩
  obtain⟨h3,rfl⟩:=h3
  refine⟨h1,g0,h2,h3,fun i hi=> ?_,fun m hm=>absurd hm qQ,fun r hr=>absurd hr wc⟩
  show NoK (zG ((List.range N).map jU) i).E
  rw[hn i hi]
  exact fun e he=>absurd he (by simp[jU])
def zB8(p:Nat→Prop)[DecidablePred p](j:Nat):Nat:=((List.range j).filter p).length
theorem zER{p:Nat→Prop}[DecidablePred p]{j:Nat}:zB8 p (j+1)=zB8 p j+if p j then 1 else 0:=by
  unfold zB8
  rw[List.range_succ,List.filter_append,List.length_append]
  congr 1
  by_cases c:p j<;>simp[c]
theorem zMi{N:Nat}{Q:List Int}{p:Nat→Prop}[DecidablePred p](h:∀ i,i<N→xX i∈Q→p i):cnt (y1 N) Q≤zB8 p N:=by
  unfold cnt zB8 y1
  rw[List.filter_map,List.length_map]
  have:∀ l:List Nat,(∀ i∈l,i<N)→(l.filter ((fun x=>decide (x∈Q)) ∘ fun i:Nat=>((i:Nat):Int)+1)).length≤(l.filter fun i=>decide (p i)).length:=by
    intro l
    induction l with
    |nil=>intro _;exact Nat.le_refl _
    |cons a l ih=>
      intro hl
      have ih:=ih fun i hi=>hl i (.tail _ hi)
      have ha:=h a (hl a (.head _))
      rw[List.filter_cons,List.filter_cons]
      by_cases c:xX a∈Q
      · have h1:((fun x=>decide (x∈Q)) ∘ fun i:Nat=>((i:Nat):Int)+1) a=true:=decide_eq_true c
        rw[if_pos h1,if_pos (decide_eq_true (ha c))]
        simp only[List.length_cons];omega
      have h1:¬((fun x=>decide (x∈Q)) ∘ fun i:Nat=>((i:Nat):Int)+1) a=true:=fun q=>c (of_decide_eq_true q)
      rw[if_neg h1]
      split
      · simp only[List.length_cons];omega
      exact ih
  exact this _ fun i hi=>List.mem_range.1 hi
theorem zP9{vs:List Int}{X:List EntA}(h:NoK X):cfK vs X=⟨vs,[]⟩:=by
  unfold cfK
  rw[show X.reverse.find? isK=none from ?_]
  rw[List.find?_eq_none]
  intro x hx
  have:=h x (List.mem_reverse.1 hx)
  unfold isK
  rw[decide_eq_true_eq];exact this
theorem zOp{N i:Nat}{g:Gh}{n:NodA}(hg:g.ok (qu N))(hn:NodI g i n){a:AckR}(ha:a∈g.acks)(hv:a.v=xX i){c:ComR}(hc:c∈g.coms)(haT:a.T=c.T)(hcn:c.n≤a.n){r:Elec}(hr:r∈g.els)(hrT:r.T=c.T):Has n.E (g.Lr r) c.n:=by
  obtain⟨_,r',hr',h1,h2,h3⟩:=hn.ak a ha hv
  have e:r'=r:=hg.uniq (kO N) hr' hr V
  subst e
  rcases h3 c.n hcn with q|⟨s,hs,q1,q2,q3⟩
  · exact q
  exact absurd (hg.comp (kO N) hs c hc r' hr V V) q3
theorem zKn{N k:Nat}{g:Gh}{X:NetA}{safe:List EntA}(hB:Bnd N 0 k X)(hg:GhI N g X)(hc:NoC N g X)(hs:SafeF safe g){j:Nat}(hj:j<safe.length){p:Nat→Prop}[DecidablePred p](hp:∀ i,p i↔(LogA.mk 0 0 (zG X.nodes i).E).fits (zG safe j).index (zG safe j).term):N<2*zB8 p N:=by
  rcases hs.2 with q|⟨c,h1,r,h2,h3,h4,h5⟩
  · rw[q]at hj;exact absurd hj (Nat.not_lt_zero _)
  obtain⟨r',h6,h7,_,_,_,h8,h9⟩:=hg.ok.com c h1
  have e:r'=r:=hg.ok.uniq (kO N) h6 h2 V
  subst e
  have hq:(cfK (y1 N) ((g.Lr r').take c.l)).qv c.Q:=h8
  rw[zP9 fun e he=>hc.lg r' h6 e (List.mem_of_mem_take he)]at hq
  have hq2:(y1 N).length<2*cnt (y1 N) c.Q:=hq.2
  have h10:=zMi (N:=N) (Q:=c.Q) (p:=p) fun i hi hQ=>by
    rw[hp]
    obtain⟨a,ha,a1,a2,a3⟩:=h9 _ hQ
    have h11:=zOp hg.ok (hg.nd i hi) ha a1 h1 a2 a3 h2 h3
    have h12:zG (zG X.nodes i).E j=zG safe j:=(h11.nth_eq V).trans (h5.nth_eq hj).symm
    have h13:=folA.idx (hB.B i hi).good.fol j (by show j<(zG X.nodes i).E.length;have:=h11.1;omega)
    rw[h12]at h13
    have h13':(zG safe j).index=j+1:=by rw[h13];show 0+j+1=_;omega
    rw[h13']
    exact zDD (by have:=h11.1;omega) (by rw[h12])
  rw[zBN]at hq2
  omega
def SfF(leads:List (Nat×Int))(safe:List EntD)(g:Gh):Prop:=LeadF leads g∧SafeF (safe.map EntD.toEntA) g
def SaP(N k:Nat)(X:NetD)(leads:List (Nat×Int)):Prop:=X.st N∧SfP N (SfF leads X.safe) (10*k) X.a
theorem zOh{N:Nat}{X:NetD}(hN:1≤N∧N≤5)(h:X.st N)(ha:X.a=⟨(List.range N).map jU,[]⟩)(hs:X.safe=[]):SaP N 0 X []:=by
  refine⟨h,?_⟩
  rw[ha,hs]
  exact zO3 hN ⟨fun T j e=>(by cases e),⟨Nat.zero_le _, .inl O⟩⟩
theorem zEz{N:Nat}{leads:List (Nat×Int)}{safe:List EntD}(hN:1≤N∧N≤5):Clo N false (fun k X=>SfP N (SfF leads safe) (10*k) X):=
  (zOv hN (fun g g' h hf=>⟨hf.1.go h,hf.2.go h⟩)).clo hN qM
theorem zOG{N k:Nat}{leads:List (Nat×Int)}{X:NetD}(hN:1≤N∧N≤5)(hk:k≤2000)(h:SaP N k X leads):NetOk N X.a:=(zEz hN).ok k X.a hk h.2
theorem zPI{N k m:Nat}{leads:List (Nat×Int)}{X:NetD}{wv:Value}(hN:1≤N∧N≤5)(h:SaP N k X leads):SaP N k ({X with wv:=wv,way:=X.way.take m}:NetD) leads:=
  ⟨⟨h.1.len,h.1.cbs,h.1.tsl,h.1.ts,h.1.con⟩,(zEz hN).sub k _ _ h.2 ((List.take_sublist m X.way).map MsgD.a)⟩
def zGM(X:NetD)(x:EntA)(i:Nat):Prop:=(LogA.mk 0 0 (zG X.a.nodes i).E).fits x.index x.term
instance (X:NetD)(x:EntA):DecidablePred (zGM X x):=fun _=>inferInstanceAs (Decidable (LogA.fits _ _ _))
theorem zNS{p:Nat→Prop}[DecidablePred p]{j:Nat}:zB8 p j≤j:=by
  unfold zB8
  exact Nat.le_trans (List.length_filter_le _ _) (by rw[List.length_range];exact Nat.le_refl _)
theorem zKP{p:Nat→Prop}[DecidablePred p]{j:Nat}(h:0<zB8 p j):∃ i,i<j∧p i:=by
  obtain⟨x,hx⟩:=List.exists_mem_of_length_pos h
  rw[List.mem_filter]at hx
  exact⟨x,List.mem_range.1 hx.1,of_decide_eq_true hx.2⟩
theorem zK3{N k:Nat}{X:NetD}{x:EntA}(hB:Bnd N 0 k X.a)(hk:k≤99000)(hm:N<2*zB8 (zGM X x) N):x.index<18446744073709551616:=by
  obtain⟨i,hi,h⟩:=zKP (show 0<zB8 (zGM X x) N by omega)
  have h1:=zEy h
  have h2:=(hB.B i hi).E
  omega
theorem zKs{N:Nat}{X:NetD}{x:EntA}{i:Nat}{es:List EntD}(hX:X.st N)(hi:i<N)(h:es.map EntD.toEntA=(zG X.ns i).n.a.E):zGM X x i↔(LG 0 0 es).fits x.index x.term:=by
  unfold zGM
  rw[NetD.at_ (by rw[hX.len];exact hi),←h]
theorem zPH(n:Nat)(mv:Value)(ms:List MovD)(w:World)(hn:n<256)(hml:ms.length≤1000000000000)(hmo:∀ m∈ms,m.ok)(hmv:Rd w [] (Res.sl mv ms.length (ms.flatMap MovD.cells))):Rets Tryz.prog 7 #[.int .u8 (n:Nat),mv] w fun u_ w'=>u_= .bool true∧Own w [] [] w':=by
  have hN5:1≤n%5+1∧n%5+1≤5:=by omega
  refine zW Tryz.func7 O Tryz.ntmps7 (Own.start w) ?_
  refine zB (zI O (zA (zB (zD O (zLF (c:=((n%5:Nat):Int)) O O V O O (xo qN O (zq V) O ?_ qN))))))
  refine zp O O (zq V) O (a_call O O (fun w' hw=>(zJf w').mono ?_))
  rintro _ w1 ⟨rfl,hO⟩
  refine O0 ?_ (hw.qi hO)
  refine a_call O O (fun w' hw=>(zNh (n%5+1) w' hN5).mono ?_)
  rintro _ w1 ⟨xb1_,mb2_,X3_,rfl,hf1_5,hf1_5_1,hf1_5_2,hf1_5_3,hf1_5_4,hO⟩
  refine(?_:CL _ _ _ _ _ _ (Own w [] [Res.row xb1_ 73 (NetD.cells X3_),Res.vec 27 1 X3_.nv X3_.cbs.length (X3_.cbs.flatMap CP),Res.star (X3_.ns.map CorD.dres),vT X3_.tv X3_.ts,vM X3_.wv X3_.way,sM X3_.way,Res.mp ekU ekI mb2_ ([]:List (Nat×Int))])) w1 (hw.qi hO)
  refine zI O (zA (zN (zB (a_call O O (fun w' hw=>(zJq w').mono ?_)))))
  rintro _ w1 ⟨rfl,hO⟩
  refine(?_:CL _ _ _ _ _ _ (Own w [] [Res.row xb1_ 73 (NetD.cells X3_),Res.vec 27 1 X3_.nv X3_.cbs.length (X3_.cbs.flatMap CP),Res.star (X3_.ns.map CorD.dres),vT X3_.tv X3_.ts,vM X3_.wv X3_.way,sM X3_.way,Res.mp ekU ekI mb2_ ([]:List (Nat×Int))])) w1 (hw.qi hO)
  refine zHn (b:=true) O O (zD O (zR O O (zD O (zR O O (xf qN O O O (js O O (zA (xt O (zO (zN (zB (zI O ?_))))))))))))
  refine zA (zX ?_)
  refine xi (fun(i:Nat) (X:NetD) (leads:List (Nat×Int))=>[(1,mv),(5,pt xb1_),(6,Vj i)]) (fun(i:Nat) (X:NetD) (leads:List (Nat×Int))=>(i≤ms.length∧i≤400)∧SaP (n%5+1) (2*i) X leads) (fun(i:Nat) (X:NetD) (leads:List (Nat×Int))=>[Res.row xb1_ 73 (NetD.cells X),Res.vec 27 1 X.nv X.cbs.length (X.cbs.flatMap CP),Res.star (X.ns.map CorD.dres),vT X.tv X.ts,vM X.wv X.way,sM X.way,Res.mp ekU ekI X.mb leads,vE X.sv X.safe,sE X.safe]) (fun(i:Nat) (X:NetD) (leads:List (Nat×Int))=>ms.length - i) (fun w' hw=>⟨0,X3_,[],⟨O,O,O,trivial⟩,⟨by omega,zOh hN5 hf1_5 hf1_5_1 hf1_5_4⟩,(by have h:=(zl hw 81 5).qG;rw[←hf1_5_2,←hf1_5_3]at h;rw[hf1_5_4];exact h.sel [0,1,2,3,4,5,6,7,8] rfl qM)⟩) (fun i X leads g hΦ=> ?_)
  have hi:=hΦ.1
  have hE:=hΦ.2
  refine zN (zB (zD O (zD O (zo (pR hmv) O O (yG O O O (zD O (yK (q:=((i:Nat):Int)<((ms.length:Nat):Int)) 2 4 [30,29] (((i:Nat):Int)<400) O O O O O O trivial O (fun h5_4=> ?_) (fun g5_7=> ?_))))))))
  ·refine zR O (gT h5_4) (zD O (zR O (gT h5_4) (yG O O O ?_)))
   exact yP O (fun _ hw=>hw)
  refine zA (zY O (fun c2=> ?_) (fun c2=> ?_))
  ·have hmi:=hmo _ (ze (show i<ms.length by omega))
   refine zO (zN (zX (zB (zD O (zD O (zi (pR hmv) 5 i O O O V O (kP (pR hmv) 5 i (off:=xE mv+i*5) (fun _=>O) O O V O (yE (v:= .agg #[Vi 0,Vi 0,Vi 0,Vn 0,Vi 0]) qN O (fun b7=>zr 9 O O O (xQ O) O (zA (yt (fun(m:MovD)=>[(1,mv),(5,pt xb1_),(6,Vj i),(7,pt b7)]) (fun(m:MovD)=>m.ok∧m.ask≠2) (fun(m:MovD)=>[Res.row xb1_ 73 (NetD.cells X),Res.vec 27 1 X.nv X.cbs.length (X.cbs.flatMap CP),Res.star (X.ns.map CorD.dres),vT X.tv X.ts,vM X.wv X.way,sM X.way,Res.mp ekU ekI X.mb leads,vE X.sv X.safe,sE X.safe,Res.row b7 68 (MovD.cells m)]) ?_ (fun m g hΦ=> ?_))))))))))))
   ·refine zB (zJ (o:=4) O O (zL 9 (v:=Vi ((zG ms i).ask)) O O O O (yQ O O O (zA (zY O (fun c3=> ?_) (fun c3=> ?_))))))
    ·refine zS (zJ (o:=4) O O (zn (cs:=(MovD.cells (zG ms i))) 9 O O O O O ?_))
     exact zd (fun w' hw=>⟨({zG ms i with ask:=1}:MovD),⟨O,O,O,O,trivial⟩,⟨⟨hmi.k,hmi.t,hmi.qd⟩,by show ¬(1:Int)=2;decide⟩,hw⟩)
    exact yc (fun w' hw=>⟨zG ms i,⟨O,O,O,O,trivial⟩,⟨hmi,c3⟩,hw⟩)
   have hm:=hΦ
   refine zB (zD O (za O O (zJ (o:=4) O O (zL 0 (v:=X.sv) O O O O (zo (pV 7 O) O O (zI O (zA (zB (zD O (yI (cs:=(MovD.cells m)) 9 O O O (a_call O O (fun w' hw=>(zPG (n%5+1) (2*i) false (fun k Y=>SfP (n%5+1) (SfF leads X.safe) (10*k) Y) xb1_ X m w' (zEz hN5) V hN5 hE.2 hE.1 hm.1 (fun q=>absurd q hm.2) (hw.give [0,1,2,3,4,5] O qM)).mono ?_))))))))))))
   rintro _ w1 ⟨X'4_,rfl,hf11_2,hf11_2_1,hf11_2_2,hf11_2_3,hf11_2_4,hO⟩
   have hwl:X'4_.way.length≤1000000:=by have h:=((zEz hN5).ok (2*i+2) _ V hf11_2).wl;unfold NetD.a at h;rwa [List.length_map]at h
   have hE1:SaP (n%5+1) (2*i+2) X'4_ leads:=⟨hf11_2_1,by rw[hf11_2_4];exact hf11_2⟩
   refine(?_:CL _ _ _ _ _ _ (Own w [] [Res.mp ekU ekI X.mb leads,vE X.sv X.safe,sE X.safe,Res.row b7 68 (MovD.cells m),Res.row xb1_ 73 (NetD.cells X'4_),Res.vec 27 1 X'4_.nv X'4_.cbs.length (X'4_.cbs.flatMap CP),Res.star (X'4_.ns.map CorD.dres),vT X'4_.tv X'4_.ts,vM X'4_.wv X'4_.way,sM X'4_.way])) w1 (hw.qg [0,1,2,3,4,5] O hO)
   refine zA (yt (fun(X2:NetD)=>[(1,mv),(5,pt xb1_),(6,Vj i),(8,Vj X.safe.length)]) (fun(X2:NetD)=>SaP (n%5+1) (2*i+2) X2 leads) (fun(X2:NetD)=>[Res.row xb1_ 73 (NetD.cells X2),Res.vec 27 1 X2.nv X2.cbs.length (X2.cbs.flatMap CP),Res.star (X2.ns.map CorD.dres),vT X2.tv X2.ts,vM X2.wv X2.way,sM X2.way,Res.mp ekU ekI X2.mb leads,vE X2.sv X2.safe,sE X2.safe,Res.row b7 68 (MovD.cells m)]) ?_ (fun X2 g hΦ=> ?_))
   ·refine zB (zD O (za O O (zJ (o:=2) O O (zL 4 (v:=X'4_.wv) O O O O (zo (pV 8 O) O O (y0 O O O (zA (zY O (fun c4=> ?_) (fun c4=> ?_)))))))))
    ·refine zS (zD O (zD O (za O O (zJ (o:=2) O O (zL 4 (v:=X'4_.wv) O O O O (k8 (pV 8 O) 14 0 300 qN O O ⟨_,O⟩ V V O (za O O (zJ (o:=2) O O ?_))))))))
     refine zP (fun w' hw=>zGo (k:=300) (sz:=14) (Own.qh (i:=8) O hw)) (fun hca=> ?_)
     refine zn (cs:=(NetD.cells X'4_)) 4 O O O hca O ?_
     exact zd (fun w' hw=>⟨({X'4_ with wv:=yy X'4_.wv 0 300 14,way:=X'4_.way.take 300}:NetD),⟨O,O,O,O,trivial⟩,zPI hN5 hE1,(by have h:=(hw.cutN (g:=MsgD.cells) (l:=X'4_.way) (sz:=14) (fun _=>rfl) 8 300 rfl V).qK (g:=MsgD.dres) 9 (List.take_sublist 300 X'4_.way) rfl;rw[←hf11_2_2,←hf11_2_3,←hf11_2_4]at h;exact h.sel [4,5,6,7,8,9,0,1,2,3] rfl qM)⟩)
    exact yc (fun w' hw=>⟨X'4_,⟨O,O,O,O,trivial⟩,hE1,(by rw[←hf11_2_2,←hf11_2_3,←hf11_2_4]at hw;exact hw.sel [4,5,6,7,8,9,0,1,2,3] rfl qM)⟩)
   have hE2:=hΦ
   obtain⟨hX2,hB,gh,hgh,⟨hLd,hSf⟩,hNc⟩:=hE2
   obtain⟨Ld,Sf,hR,hS,hL,hSl,hnx⟩:=zMj (k:=10*(2*i+2)) V hX2 hB hgh hLd hSf
   refine zN (zB (zD O (a_call O O (fun w' hw=>(zMq (n%5+1) Ld Sf xb1_ X2 leads w' hN5 hX2 (zOG hN5 V hΦ) hR hS hL hSl (hw.give [0,1,2,6,7,8] O qM)).mono ?_))))
   rintro _ w1 ⟨leads'6_,sv'7_,safe'8_,rfl,hf14_1,hf14_1_1,hf14_1_2,hf14_1_3,hO⟩
   have hn2:=hnx _ _ hf14_1 hf14_1_1
   have hcl:X2.cbs.length=n%5+1:=by rw[hX2.cbs,List.length_map,hX2.len]
   have hnl:=hX2.len
   have hNk:NetOk (n%5+1) X2.a:=zOG hN5 V hΦ
   refine(?_:CL _ _ _ _ _ _ (Own w [] [vT X2.tv X2.ts,vM X2.wv X2.way,sM X2.way,Res.row b7 68 (MovD.cells m),Res.row xb1_ 73 (NetD.cells ({X2 with sv:=sv'7_,safe:=safe'8_}:NetD)),Res.vec 27 1 X2.nv X2.cbs.length (X2.cbs.flatMap CP),Res.star (X2.ns.map CorD.dres),Res.mp ekU ekI X2.mb leads'6_,vE sv'7_ safe'8_,sE safe'8_])) w1 (hw.qg [0,1,2,6,7,8] O hO)
   refine zHn (b:=true) O O (zA (xt O (zO (zB (zD O (zI O (zA (zX ?_))))))))
   refine xN (fun(k:Nat)=>[(1,mv),(5,pt xb1_),(6,Vj i),(9,Vj k)]) (fun(k:Nat)=>True) (fun(k:Nat)=>[Res.row xb1_ 73 (NetD.cells ({X2 with sv:=sv'7_,safe:=safe'8_}:NetD)),Res.vec 27 1 X2.nv X2.cbs.length (X2.cbs.flatMap CP),Res.star (X2.ns.map CorD.dres),vT X2.tv X2.ts,vM X2.wv X2.way,sM X2.way,Res.mp ekU ekI X2.mb leads'6_,vE sv'7_ safe'8_,sE safe'8_,Res.row b7 68 (MovD.cells m)]) (fun(k:Nat)=>safe'8_.length - k) (fun w' hw=>⟨X.safe.length,⟨O,O,O,O,trivial⟩,trivial,hw.sel [4,5,6,0,1,2,7,8,9,3] O qM⟩) (fun k g hΦ=> ?_)
   refine zN (zB (zD O (zD O (za O O (zJ (o:=4) O O (zL 0 (v:=sv'7_) O O O O (zo (pV 7 O) O O (yG O O O (zA (zY O (fun c6=> ?_) (fun c6=> ?_)))))))))))
   ·have hk:k<safe'8_.length:=by omega
    have hmaj:n%5+1<2*zB8 (zGM X2 (zG safe'8_ k).toEntA) (n%5+1):=zKn hB hgh hNc hn2.2 (j:=k) (by rw[List.length_map];exact hk) (fun i=>by rw[kK hk];exact Iff.rfl)
    have hix:(zG safe'8_ k).index<18446744073709551616:=zK3 (x:=(zG safe'8_ k).toEntA) hB V hmaj
    refine zO (zN (zX (zB (zI O (zA (zN (zB (zI O (zA (zX ?_))))))))))
    refine yw (fun(id h:Nat)=>[(1,mv),(5,pt xb1_),(6,Vj i),(9,Vj k),(10,Vj h),(11,Vj id)]) (fun(id h:Nat)=>id≤n%5+1∧h=zB8 (zGM X2 (zG safe'8_ k).toEntA) id) (fun(id h:Nat)=>[Res.row xb1_ 73 (NetD.cells ({X2 with sv:=sv'7_,safe:=safe'8_}:NetD)),Res.vec 27 1 X2.nv X2.cbs.length (X2.cbs.flatMap CP),Res.star (X2.ns.map CorD.dres),vT X2.tv X2.ts,vM X2.wv X2.way,sM X2.way,Res.mp ekU ekI X2.mb leads'6_,vE sv'7_ safe'8_,sE safe'8_,Res.row b7 68 (MovD.cells m)]) (fun(id h:Nat)=>n%5+1 - id) (fun w' hw=>⟨0,0,⟨O,O,O,O,O,O,trivial⟩,⟨Nat.zero_le _,O⟩,hw⟩) (fun id h g hΦ=> ?_)
    have hid:=hΦ.1
    have hhh:=hΦ.2
    have hcn:=zNS (p:=zGM X2 (zG safe'8_ k).toEntA) (j:=id)
    refine zN (zB (zD O (zD O (za O O (zJ (o:=0) O O (zL 0 (v:=X2.nv) O O O O (zo (pV 1 O) O O (yG O O O (zA (zY O (fun c7=> ?_) (fun c7=> ?_)))))))))))
    ·refine zO (zN (zX (zN (zg [0,1,3,4,6,7,9] O qM qN (fun w' hw hS=>zC 0 O zT hS (zC 1 O (zQ O) hS (zC 2 O (zH (o:=0) O) hS (zC 3 O (zZ 0 (v:=X2.nv) O O O) hS (zC 4 O zT hS (zC 5 O (y8 (pV 1 O) 1 id O O O V) hS (zC 6 O (x9 (pV 1 O) 1 id 0 (fun _=>O) O O V O) hS (zC 8 O zT hS ?_))))))))))))
     refine zC 9 O (zQ O) hS (zC 10 O (zH (o:=4) O) hS (zC 11 O (zZ 0 (v:=sv'7_) O O O) hS (zC 12 O zT hS (zC 13 O (y8 (pV 5 O) 5 k O O O V) hS (zC 14 O (zH (o:=0) O) hS (zC 15 O (x9 (pV 5 O) 5 k 0 (off:=xE sv'7_+k*5+0) (fun _=>O) O V V O) hS (zC 16 O zT hS (zC 17 O (zQ O) hS (zC 18 O (zH (o:=4) O) hS (zC 19 O (zZ 0 (v:=sv'7_) O O O) hS (zC 20 O zT hS (zC 21 O (y8 (pV 5 O) 5 k O O O V) hS ?_))))))))))))
     refine zC 22 O (zH (o:=1) O) hS (zC 23 O (x9 (pV 5 O) 5 k 1 (off:=xE sv'7_+k*5+1) (fun _=>O) O V V O) hS (zK 7 O hw (a_call O O (fun w' hw=>(zN2 X2.ns id (zG X2.cbs id) w' V (hX2.cb V) (hX2.ok hNk hN5.2 V) (hw.give [2] O qM)).mono ?_))))
     rintro _ w1 ⟨lb9_,lv'10_,es'11_,rfl,hf23_7,hO⟩
     have hif:=zKs (x:=(zG safe'8_ k).toEntA) hX2 (show id<n%5+1 by omega) hf23_7
     have hln:=(hX2.ok hNk hN5.2 (show id<n%5+1 by omega)).n.len'
     have hel:es'11_.length=(zG X2.ns id).n.es.length:=by have h:=congrArg List.length hf23_7;rw[List.length_map]at h;rw[h];exact List.length_map _
     refine(?_:CL _ _ _ _ _ _ (Own w [] [Res.row xb1_ 73 (NetD.cells ({X2 with sv:=sv'7_,safe:=safe'8_}:NetD)),Res.vec 27 1 X2.nv X2.cbs.length (X2.cbs.flatMap CP),vT X2.tv X2.ts,vM X2.wv X2.way,sM X2.way,Res.mp ekU ekI X2.mb leads'6_,vE sv'7_ safe'8_,sE safe'8_,Res.row b7 68 (MovD.cells m),Res.star (X2.ns.map CorD.dres),Res.row lb9_ 144 [Vn 0,Vn 0,lv'10_],vE lv'10_ es'11_,sE es'11_])) w1 (hw.qg [2] O hO)
     refine zE [0,1,2,3,5,6,8] O qM (fun w' hw hS=>zK 24 O hw (a_call O O (fun w' hw=>(zBg lb9_ 0 0 lv'10_ es'11_ ((zG safe'8_ k).index) ((zG safe'8_ k).term) w' qP qO qO (hw.rdRes0 10 O) (hw.qp 11 O) (EntD.rd.star0 12 O hw)).mono ?_)))
     rintro _ w1 ⟨rfl,hO⟩
     refine(?_:CL _ _ _ _ _ _ (Own w [] [Res.row xb1_ 73 (NetD.cells ({X2 with sv:=sv'7_,safe:=safe'8_}:NetD)),Res.vec 27 1 X2.nv X2.cbs.length (X2.cbs.flatMap CP),vT X2.tv X2.ts,vM X2.wv X2.way,sM X2.way,Res.mp ekU ekI X2.mb leads'6_,vE sv'7_ safe'8_,sE safe'8_,Res.row b7 68 (MovD.cells m),Res.star (X2.ns.map CorD.dres),Res.row lb9_ 144 [Vn 0,Vn 0,lv'10_],vE lv'10_ es'11_,sE es'11_])) w1 (hw.qi hO)
     refine zE [0,1,2,3,5,6,8] O qM (fun w' hw hS=>zU ?_)
     refine(?_:C _ _ _ _ _ _ _ (Own w [] [Res.row xb1_ 73 (NetD.cells ({X2 with sv:=sv'7_,safe:=safe'8_}:NetD)),Res.vec 27 1 X2.nv X2.cbs.length (X2.cbs.flatMap CP),vT X2.tv X2.ts,vM X2.wv X2.way,sM X2.way,Res.mp ekU ekI X2.mb leads'6_,vE sv'7_ safe'8_,sE safe'8_,Res.row b7 68 (MovD.cells m),Res.star (X2.ns.map CorD.dres),Res.row lb9_ 144 [Vn 0,Vn 0,lv'10_],vE lv'10_ es'11_,sE es'11_])) _ hw
     refine zY O (fun c8=> ?_) (fun c8=> ?_)
     ·refine zS (zD O (zp O O (zq V) O (zI O (zA (zS (zD O (zp O O (zq V) O (zI O ?_))))))))
      exact zd (fun w' hw=>⟨id+1,h+1,⟨O,O,O,O,O,O,trivial⟩,⟨by omega,by rw[zER,if_pos (hif.2 c8),hhh]⟩,hw.sel [0,1,9,2,3,4,5,6,7,8] O qM,V⟩)
     refine zO (zS (zD O (zp O O (zq V) O (zI O ?_))))
     exact zd (fun w' hw=>⟨id+1,h,⟨O,O,O,O,O,O,trivial⟩,⟨by omega,by rw[zER,if_neg (fun q=>c8 (hif.1 q)),Nat.add_zero,hhh]⟩,hw.sel [0,1,9,2,3,4,5,6,7,8] O qM,V⟩)
    refine yA O (zB (zD O (zLu O O (zq V) O (zD O (za O O (zJ (o:=0) O O (zL 0 (v:=X2.nv) O O O O (zo (pV 1 O) O O (xp O O O (zA (zY O (fun c9=> ?_) (fun c9=> ?_))))))))))))
    ·exact absurd c9 (by have e:id=n%5+1:=V;have q:=hhh;rw[e]at q;omega)
    refine zO (zS (zD O (zp O O (zq V) O (zI O ?_))))
    exact zd (fun w' hw=>⟨k+1,⟨O,O,O,O,trivial⟩,trivial,hw,V⟩)
   refine yA O (zS (zD O (zp O O (zq V) O (zI O ?_))))
   exact zd (fun w' hw=>⟨i+1,({X2 with sv:=sv'7_,safe:=safe'8_}:NetD),leads'6_,⟨O,O,O,trivial⟩,⟨by omega,⟨hX2.len,hX2.cbs,hX2.tsl,hX2.ts,hX2.con⟩,hB,gh,hgh,hn2,hNc⟩,hw.sel [0,1,2,3,4,5,6,7,8] O qM,V⟩)
  refine yA O (zB (zI O (zA ?_)))
  exact zV (z6 (v:= .bool true) O O (fun w' hw=>⟨O,hw.drop⟩))
end Go.Proofs.YtkkeknmkipkbmaaGreat
