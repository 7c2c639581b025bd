import Derived.Test.YtkkeknmkipkbmaaGreatCoO
set_option linter.unusedSectionVars false
set_option linter.unusedSimpArgs false
set_option linter.unusedVariables false
set_option maxRecDepth 10000
namespace Go.Proofs.YtkkeknmkipkbmaaGreat
open Go Go.Sc Go.Proofs
def Has(X L:List EntA)(n:Nat):Prop:=n≤X.length∧n≤L.length∧X.take n=L.take n
theorem Has.le{X L:List EntA}{n m:Nat}(h:Has X L n)(hm:m≤n):Has X L m:=
  ⟨Nat.le_trans hm h.1,Nat.le_trans hm h.2.1,by
    have e:=congrArg (List.take m) h.2.2
    rwa [List.take_take,List.take_take,Nat.min_eq_left hm]at e⟩
theorem Has.symm{X L:List EntA}{n:Nat}(h:Has X L n):Has L X n:=⟨h.2.1,h.1,h.2.2.symm⟩
theorem Has.trans{X L M:List EntA}{n:Nat}(h:Has X L n)(k:Has L M n):Has X M n:=⟨h.1,k.2.1,h.2.2.trans k.2.2⟩
theorem Has.get{X L:List EntA}{n i:Nat}(h:Has X L n)(hi:i<n):X[i]?=L[i]?:=by
  have e:=congrArg (fun l:List EntA=>l[i]?) h.2.2
  simpa [List.getElem?_take,hi]using e
theorem Has.pre{X L:List EntA}(h:X<+:L):Has X L X.length:=⟨Nat.le_refl _,h.length_le,by rw[List.take_length];exact List.prefix_iff_eq_take.1 h⟩
theorem Has.self{X:List EntA}{n:Nat}(h:n≤X.length):Has X X n:=⟨h,h,rfl⟩
theorem Has.to{X L:List EntA}{n:Nat}(h:Has X L n)(hn:n=X.length):X<+:L:=by
  subst hn
  have e:=h.2.2
  rw[List.take_length]at e
  exact List.prefix_iff_eq_take.2 e
theorem Has.up{X L L':List EntA}{n:Nat}(h:Has X L n)(k:L<+:L'):Has X L' n:=h.trans ((Has.pre k).le h.2.1)
theorem Has.of_up{X L L':List EntA}{n:Nat}(h:Has X L' n)(k:L<+:L')(hn:n≤L.length):Has X L n:=h.trans ((Has.pre k).symm.le hn)
theorem Has.takeL{X L:List EntA}{n m:Nat}(h:Has X L n)(hm:n≤m):Has (X.take m) L n:=⟨by rw[List.length_take];have:=h.1;omega,h.2.1,by rw[List.take_take,Nat.min_eq_left hm];exact h.2.2⟩
def lcp:List EntA→List EntA→Nat
  |a::l,b::m=>if a=b then lcp l m+1 else 0
  |_,_=>0
theorem zH2:∀ (X Y:List EntA),Has X Y (lcp X Y)
  | [],Y=>⟨Nat.zero_le _,Nat.zero_le _,rfl⟩
  |a::l,[]=>⟨Nat.zero_le _,Nat.zero_le _,rfl⟩
  |a::l,b::m=>by
    unfold lcp
    split
    · rename_i e
      have h:=zH2 l m
      exact⟨Nat.succ_le_succ h.1,Nat.succ_le_succ h.2.1,by rw[List.take_succ_cons,List.take_succ_cons,h.2.2,e]⟩
    exact⟨Nat.zero_le _,Nat.zero_le _,rfl⟩
theorem zAT:∀ {X Y:List EntA} {n:Nat},Has X Y n→n≤lcp X Y
  |X,Y,0,_=>Nat.zero_le _
  | [],Y,n+1,h=>absurd h.1 qQ
  |a::l,[],n+1,h=>absurd h.2.1 qQ
  |a::l,b::m,n+1,h=>by
    have e:=h.2.2
    rw[List.take_succ_cons,List.take_succ_cons]at e
    injection e with e1 e2
    unfold lcp
    rw[if_pos e1]
    exact Nat.succ_le_succ (zAT ⟨Nat.le_of_succ_le_succ h.1,Nat.le_of_succ_le_succ h.2.1,e2⟩)
structure Elec where
  T:Nat
  id:Int
  k:Nat
  E:List EntA
  Q:List Int
structure VoteR where
  v:Int
  T:Nat
  c:Int
  k:Nat
  W:List EntA
  i:Nat
  t:Nat
structure AckR where
  T:Nat
  v:Int
  n:Nat
structure ComR where
  T:Nat
  n:Nat
  l:Nat
  Q:List Int
structure Gh where
  now:Nat
  els:List Elec
  L:Nat→Int→List EntA
  vts:List VoteR
  acks:List AckR
  coms:List ComR
def Gh.Lr(g:Gh)(r:Elec):List EntA:=g.L r.T r.id
def isC(e:EntA):Prop:=e.kind=3
def Built(g:Gh)(X:List EntA):Prop:=∀ (i:Nat) (e:EntA),X[i]?=some e→∃ s∈g.els,s.T=e.term∧s.E.length≤i∧Has X (g.Lr s) (i+1)
def zMn(E W:List EntA):Prop:=xm 0 W<xm 0 E∨(xm 0 E=xm 0 W∧W.length≤E.length)
def Mt(qu:List EntA→List Int→Prop)(X Y:List EntA):Prop:=∀ Q R,qu X Q→qu Y R→∃ v,v∈Q∧v∈R
theorem Mt.symm{qu:List EntA→List Int→Prop}{X Y:List EntA}(h:Mt qu X Y):Mt qu Y X:=fun Q R a b=>by
  obtain⟨v,h1,h2⟩:=h R Q b a;exact⟨v,h2,h1⟩
structure Maj(qu:List EntA→List Int→Prop):Prop where
  self:∀ X,Mt qu X X
  stay:∀ X Y:List EntA,X<+:Y→(∀ (i:Nat) (e:EntA),X.length≤i→Y[i]?=some e→¬ isC e)→∀ Q,qu X Q↔qu Y Q
structure Gh.ok(qu:List EntA→List Int→Prop)(g:Gh):Prop where
  one:∀ r∈g.els,∀ s∈g.els,r.T=s.T→r.id=s.id→r=s
  elT:∀ r∈g.els,1≤r.T
  elk:∀ r∈g.els,r.k<g.now
  elE:∀ r∈g.els,r.E<+:g.Lr r
  elt:∀ r∈g.els,∀ (i:Nat) (e:EntA),r.E[i]?=some e→e.term<r.T
  elL:∀ r∈g.els,∀ (i:Nat) (e:EntA),r.E.length≤i→(g.Lr r)[i]?=some e→e.term=r.T
  elB:∀ r∈g.els,Built g (g.Lr r)
  elq:∀ r∈g.els,qu r.E r.Q
  elv:∀ r∈g.els,∀ v∈r.Q,∃ w∈g.vts,w.v=v∧w.T=r.T∧w.c=r.id∧w.k≤r.k∧zMn r.E w.W
  vt1:∀ w∈g.vts,∀ u∈g.vts,w.v=u.v→w.T=u.T→w.c=u.c
  vtB:∀ w∈g.vts,Built g w.W
  vta:∀ w∈g.vts,∀ a∈g.acks,a.v=w.v→a.T<w.T→∃ r∈g.els,r.T=a.T∧a.n≤(g.Lr r).length∧∀ n,n≤a.n→Has w.W (g.Lr r) n∨∃ s∈g.els,a.T<s.T∧s.T≤w.T∧s.k<w.k∧¬ Has s.E (g.Lr r) n
  com:∀ c∈g.coms,∃ r∈g.els,r.T=c.T∧r.E.length<c.n∧c.n≤c.l∧c.l≤(g.Lr r).length∧qu ((g.Lr r).take c.l) c.Q∧∀ v∈c.Q,∃ a∈g.acks,a.v=v∧a.T=c.T∧c.n≤a.n
  cfc:∀ r∈g.els,∀ (p:Nat) (e:EntA),r.E.length≤p→(g.Lr r)[p]?=some e→isC e→(∃ c∈g.coms,c.T=r.T∧c.l≤p∧∀ (j:Nat) (x:EntA),j<p→(g.Lr r)[j]?=some x→isC x→j<c.n)∧Mt qu ((g.Lr r).take p) ((g.Lr r).take (p+1))
theorem j0{X:List EntA}{i:Nat}(h:i<X.length):∃ e,X[i]?=some e:=⟨_,List.getElem?_eq_getElem h⟩
theorem Built.mono{qu:List EntA→List Int→Prop}{g:Gh}(hg:g.ok qu){X:List EntA}(h:Built g X){i j:Nat}{e f:EntA}(hij:i≤j)(hi:X[i]?=some e)(hj:X[j]?=some f):e.term≤f.term:=by
  obtain⟨s,hs,hT,hl,hh⟩:=h j f hj
  rw[←hT]
  have h1:(g.Lr s)[i]?=some e:=by rw[←hh.get V];exact hi
  by_cases c:s.E.length≤i
  · exact Nat.le_of_eq (hg.elL s hs i e c h1)
  have h2:s.E[i]?=some e:=by rw[(Has.pre (hg.elE s hs)).get V];exact h1
  exact Nat.le_of_lt (hg.elt s hs i e h2)
theorem Built.take{g:Gh}{X:List EntA}(h:Built g X)(n:Nat):Built g (X.take n):=by
  intro i e he
  rw[List.getElem?_take]at he
  split at he
  · obtain⟨s,hs,hT,hl,hh⟩:=h i e he
    exact⟨s,hs,hT,hl,hh.takeL V⟩
  cases he
theorem zGg{l:List EntA}{t:Nat}{e:EntA}(h:l[l.length - 1]?=some e):xm t l=e.term:=by
  have h0:0<l.length:=by
    rcases Nat.eq_zero_or_pos l.length with q|q
    · rw[List.eq_nil_of_length_eq_zero q]at h;cases h
    exact q
  rw[zBs h0,nth_eq h]
theorem zF0{qu:List EntA→List Int→Prop}(hq:Maj qu){X Y:List EntA}
    (mX:∀ (i j:Nat) (e f:EntA),i≤j→X[i]?=some e→X[j]?=some f→e.term≤f.term) (mY:∀ (i j:Nat) (e f:EntA),i≤j→Y[i]?=some e→Y[j]?=some f→e.term≤f.term)
    (hX:∀ (q:Nat) (e:EntA),lcp X Y≤q→X[q]?=some e→isC e→Mt qu (X.take q) (X.take (q+1))∧∃ (k:Nat) (f:EntA),1≤k∧k≤q∧X[k - 1]?=some f∧f.term=e.term∧Has X Y k∧∀ (j:Nat) (x:EntA),j<q→X[j]?=some x→isC x→j<k)
    (hY:∀ (q:Nat) (e:EntA),lcp X Y≤q→Y[q]?=some e→isC e→Mt qu (Y.take q) (Y.take (q+1))∧∃ (k:Nat) (f:EntA),1≤k∧k≤q∧Y[k - 1]?=some f∧f.term=e.term∧Has X Y k∧∀ (j:Nat) (x:EntA),j<q→Y[j]?=some x→isC x→j<k)
    (ne:∀ (i j:Nat) (e f:EntA),lcp X Y≤i→lcp X Y≤j→X[i]?=some e→Y[j]?=some f→isC e→isC f→e.term≠f.term):Mt qu X Y:=by
  have hP:=zH2 X Y
  generalize hp:lcp X Y=p at *
  have pX:X.take p<+:X:=List.take_prefix _ _
  have pY:Y.take p<+:Y:=List.take_prefix _ _
  have lX:(X.take p).length=p:=by rw[List.length_take];have:=hP.1;omega
  have lY:(Y.take p).length=p:=by rw[List.length_take];have:=hP.2.1;omega
  -- one at most beyond,in each
  have oneX:∀ (q:Nat) (e:EntA),p≤q→X[q]?=some e→isC e→(∀ (j:Nat) (x:EntA),j≠q→p≤j→X[j]?=some x→¬ isC x):=by
    intro q e hpq he hc j x hj hpj hx hcx
    have key:∀ (a b:Nat) (y z:EntA),a<b→p≤a→X[a]?=some y→isC y→X[b]?=some z→isC z→False:=by
      intro a b y z hab hpa hy hcy hz hcz
      obtain⟨_,k,f,_,_,_,_,hk,hlast⟩:=hX b z V hz hcz
      have h1:=hlast a y hab hy hcy
      have h2:=zAT hk
      omega
    rcases Nat.lt_or_gt_of_ne hj with h|h
    · exact key j q x e h hpj hx hcx he hc
    exact key q j e x h hpq he hc hx hcx
  have oneY:∀ (q:Nat) (e:EntA),p≤q→Y[q]?=some e→isC e→(∀ (j:Nat) (x:EntA),j≠q→p≤j→Y[j]?=some x→¬ isC x):=by
    intro q e hpq he hc j x hj hpj hx hcx
    have key:∀ (a b:Nat) (y z:EntA),a<b→p≤a→Y[a]?=some y→isC y→Y[b]?=some z→isC z→False:=by
      intro a b y z hab hpa hy hcy hz hcz
      obtain⟨_,k,f,_,_,_,_,hk,hlast⟩:=hY b z V hz hcz
      have h1:=hlast a y hab hy hcy
      have h2:=zAT hk
      omega
    rcases Nat.lt_or_gt_of_ne hj with h|h
    · exact key j q x e h hpj hx hcx he hc
    exact key q j e x h hpq he hc hx hcx
  -- what the part with one configuration more has
  have stepX:∀ (q:Nat) (e:EntA),p≤q→X[q]?=some e→isC e→Mt qu (X.take p) X:=by
    intro q e hpq he hc Q R hQ hR
    have hql:q<X.length:=(List.getElem?_eq_some_iff.1 he).1
    have no:=oneX q e hpq he hc
    have h1:qu (X.take q) Q:=(hq.stay (X.take p) (X.take q) (List.take_prefix_take_left V) (fun i x hi hx=>by
      rw[List.getElem?_take]at hx;split at hx
      · exact no i x V V hx
      cases hx) Q).1 hQ
    have h2:qu (X.take (q+1)) R:=(hq.stay (X.take (q+1)) X (List.take_prefix _ _) (fun i x hi hx=>no i x (by rw[List.length_take]at hi;omega) (by rw[List.length_take]at hi;omega) hx) R).2 hR
    exact(hX q e hpq he hc).1 Q R h1 h2
  have stepY:∀ (q:Nat) (e:EntA),p≤q→Y[q]?=some e→isC e→Mt qu (Y.take p) Y:=by
    intro q e hpq he hc Q R hQ hR
    have hql:q<Y.length:=(List.getElem?_eq_some_iff.1 he).1
    have no:=oneY q e hpq he hc
    have h1:qu (Y.take q) Q:=(hq.stay (Y.take p) (Y.take q) (List.take_prefix_take_left V) (fun i x hi hx=>by
      rw[List.getElem?_take]at hx;split at hx
      · exact no i x V V hx
      cases hx) Q).1 hQ
    have h2:qu (Y.take (q+1)) R:=(hq.stay (Y.take (q+1)) Y (List.take_prefix _ _) (fun i x hi hx=>no i x (by rw[List.length_take]at hi;omega) (by rw[List.length_take]at hi;omega) hx) R).2 hR
    exact(hY q e hpq he hc).1 Q R h1 h2
  by_cases cX:∃ (q:Nat) (e:EntA),p≤q∧X[q]?=some e∧isC e
  · obtain⟨q,e,hpq,he,hc⟩:=cX
    by_cases cY:∃ (q:Nat) (e:EntA),p≤q∧Y[q]?=some e∧isC e
    · exfalso
      obtain⟨q',e',hpq',he',hc'⟩:=cY
      obtain⟨_,k,f,k1,kq,hf,hft,hk,_⟩:=hX q e hpq he hc
      obtain⟨_,k',f',k1',kq',hf',hft',hk',_⟩:=hY q' e' hpq' he' hc'
      have a1:=zAT hk
      have a2:=zAT hk'
      have b1:Y[k - 1]?=some f:=by rw[←hk.get V];exact hf
      have b2:X[k' - 1]?=some f':=by rw[hk'.get V];exact hf'
      have c1:=mY (k - 1) q' f e' V b1 he'
      have c2:=mX (k' - 1) q f' e V b2 he
      exact ne q q' e e' hpq hpq' he he' hc hc' V
    have noY:∀ (i:Nat) (x:EntA),(Y.take p).length≤i→Y[i]?=some x→¬ isC x:=fun i x hi hx hcx=>cY ⟨i,x,by omega,hx,hcx⟩
    intro Q R hQ hR
    have h1:qu (Y.take p) R:=(hq.stay (Y.take p) Y pY noY R).2 hR
    rw[←hP.2.2]at h1
    obtain⟨v,h2,h3⟩:=stepX q e hpq he hc R Q h1 hQ
    exact⟨v,h3,h2⟩
  have noX:∀ (i:Nat) (x:EntA),(X.take p).length≤i→X[i]?=some x→¬ isC x:=fun i x hi hx hcx=>cX ⟨i,x,by omega,hx,hcx⟩
  intro Q R hQ hR
  have h1:qu (X.take p) Q:=(hq.stay (X.take p) X pX noX Q).2 hQ
  rw[hP.2.2]at h1
  by_cases cY:∃ (q:Nat) (e:EntA),p≤q∧Y[q]?=some e∧isC e
  · obtain⟨q',e',hpq',he',hc'⟩:=cY
    exact stepY q' e' hpq' he' hc' Q R h1 hR
  have noY:∀ (i:Nat) (x:EntA),(Y.take p).length≤i→Y[i]?=some x→¬ isC x:=fun i x hi hx hcx=>cY ⟨i,x,by omega,hx,hcx⟩
  exact hq.self (Y.take p) Q R h1 ((hq.stay (Y.take p) Y pY noY R).2 hR)
def zFo(g:Gh)(s:Elec):Prop:=∀ c∈g.coms,∀ r∈g.els,r.T=c.T→c.T<s.T→Has s.E (g.Lr r) c.n
theorem Built.pre{g:Gh}{X Y:List EntA}(h:Built g Y)(k:X<+:Y):Built g X:=by
  rw[List.prefix_iff_eq_take.1 k];exact h.take _
theorem Built.mono'{qu:List EntA→List Int→Prop}{g:Gh}(hg:g.ok qu){X:List EntA}(h:Built g X):∀ (i j:Nat) (e f:EntA),i≤j→X[i]?=some e→X[j]?=some f→e.term≤f.term:=fun _ _ _ _ a b c=>h.mono hg a b c
theorem zFN{qu:List EntA→List Int→Prop}{g:Gh}(hg:g.ok qu){X:List EntA}(h:Built g X){q:Nat}{e:EntA}(he:X[q]?=some e)(hc:isC e)
    (hU:∀ r∈g.els,∀ s∈g.els,r.T=s.T→r.T=e.term→r=s):
    ∃ u∈g.els,u.T=e.term∧u.E.length≤q∧Has X (g.Lr u) (q+1)∧Mt qu (X.take q) (X.take (q+1))∧∃ c∈g.coms,c.T=e.term∧c.l≤q∧c.n≤c.l∧1≤c.n∧(∃ f:EntA,X[c.n - 1]?=some f∧f.term=e.term)∧∀ (j:Nat) (x:EntA),j<q→X[j]?=some x→isC x→j<c.n:=by
  obtain⟨u,hu,hT,hl,hh⟩:=h q e he
  have he2:(g.Lr u)[q]?=some e:=by rw[←hh.get V];exact he
  obtain⟨⟨c,hcm,hcT,hcl,hlast⟩,hmt⟩:=hg.cfc u hu q e hl he2 hc
  obtain⟨r,hr,hrT,h1,h2,h3,_⟩:=hg.com c hcm
  obtain rfl:=hU r hr u hu V V
  refine⟨r,hu,hT,hl,hh,?_,c,hcm,by omega,hcl,h2,by omega,?_,?_⟩
  · rw[(hh.le (Nat.le_succ q)).2.2,hh.2.2];exact hmt
  · obtain⟨f,hf⟩:=j0 (X:=g.Lr r) (i:=c.n - 1) V
    exact⟨f,by rw[hh.get V];exact hf,by rw[hg.elL r hu _ f V hf,hT]⟩
  intro j x hj hx hcx
  exact hlast j x hj (by rw[←hh.get V];exact hx) hcx
theorem zFT{g:Gh}{X Y:List EntA}(hX:Built g X)(hY:Built g Y){i j:Nat}{e f:EntA}(he:X[i]?=some e)(hf:Y[j]?=some f)(ht:e.term=f.term)
    (hU:∀ r∈g.els,∀ s∈g.els,r.T=s.T→r.T=e.term→r=s):Has X Y (min i j+1):=by
  obtain⟨u,hu,hT,_,hh⟩:=hX i e he
  obtain⟨u',hu',hT',_,hh'⟩:=hY j f hf
  obtain rfl:=hU u hu u' hu' V hT
  exact(hh.le V).trans (hh'.symm.le V)
theorem zKj{qu:List EntA→List Int→Prop}(hq:Maj qu){g:Gh}(hg:g.ok qu){N:Nat}(ihC:∀ s∈g.els,s.T<N→zFo g s)
    (hU:∀ r∈g.els,∀ s∈g.els,r.T=s.T→r.T<N→r=s) {s:Elec} (hs:s∈g.els) (hT:s.T=N)
    (ihk:∀ t∈g.els,t.T=N→t.k<s.k→zFo g t) {c:ComR} (hc:c∈g.coms) {r:Elec} (hr:r∈g.els) (hrT:r.T=c.T) (hlt:c.T<N)
    (ihc:∀ c'∈g.coms,(c'.T<c.T∨(c'.T=c.T∧c'.l<c.l))→∀ r'∈g.els,r'.T=c'.T→Has s.E (g.Lr r') c'.n):Has s.E (g.Lr r) c.n:=by
  by_cases goal:Has s.E (g.Lr r) c.n
  · exact goal
  exfalso
  obtain⟨r',hr',hrT',en,nl,ll,hQ,hA⟩:=hg.com c hc
  obtain rfl:=hU r' hr' r hr V V
  have BL:=hg.elB r' hr
  have BE:Built g s.E:=(hg.elB s hs).pre (hg.elE s hs)
  have lM:((g.Lr r').take c.l).length=c.l:=by rw[List.length_take];omega
  have BM:Built g ((g.Lr r').take c.l):=BL.take _
  have hi:∀ u∈g.els,c.T<u.T→u.T<N→∀ q,u.E.length≤q+1→Has s.E (g.Lr u) (q+1)→False:=by
    intro u hu h1 h2 q h3 h4
    have h5:=ihC u hu h2 c hc r' hr hrT' h1
    have h6:=(Has.pre (hg.elE u hu)).le h5.1
    exact goal ((h4.le (by have:=h5.1;omega)).trans (h6.symm.trans h5))
  have eT:∀ (i:Nat) (e:EntA),((g.Lr r').take c.l)[i]?=some e→e.term≤c.T:=by
    intro i e he
    rw[List.getElem?_take]at he
    split at he
    · by_cases q:r'.E.length≤i
      · rw[hg.elL r' hr i e q he];omega
      have:=hg.elt r' hr i e (by rw[(Has.pre (hg.elE r' hr)).get V];exact he);omega
    cases he
  have near:Mt qu ((g.Lr r').take c.l) s.E:=by
    refine zF0 hq (BM.mono' hg) (BE.mono' hg) ?_ ?_ ?_
    · intro q e hp he hce
      have h1:=eT q e he
      have hql:q<c.l:=by have:=(List.getElem?_eq_some_iff.1 he).1;omega
      obtain⟨u,hu,huT,hul,hh,hmt,c2,hc2,c2T,c2l,c2n,c21,hf,hlast⟩:=zFN hg BM he hce (fun a ha b hb h h'=>hU a ha b hb h V)
      obtain⟨f,hf,hft⟩:=hf
      have h2:Has s.E (g.Lr u) c2.n:=ihc c2 hc2 V u hu V
      exact⟨hmt,c2.n,f,c21,by omega,hf,hft,(hh.le V).trans h2.symm,hlast⟩
    · intro q e hp he hce
      have h1:e.term<N:=by have:=hg.elt s hs q e he;omega
      obtain⟨u,hu,huT,hul,hh,hmt,c2,hc2,c2T,c2l,c2n,c21,hf,hlast⟩:=zFN hg BE he hce (fun a ha b hb h h'=>hU a ha b hb h V)
      obtain⟨f,hf,hft⟩:=hf
      rcases Nat.lt_trichotomy c.T u.T with h|h|h
      · exact absurd hh (hi u hu h V q V)
      · obtain rfl:=hU u hu r' hr V V
        exfalso
        by_cases k:c.l≤q+1
        · exact goal (hh.le V)
        have h2:Has ((g.Lr u).take c.l) s.E (q+1):=hh.symm.takeL V
        have:=zAT h2
        omega
      have h2:Has r'.E (g.Lr u) c2.n:=ihC r' hr V c2 hc2 u hu V V
      have h3:Has (g.Lr r') (g.Lr u) c2.n:=((Has.pre (hg.elE r' hr)).le h2.1).symm.trans h2
      have h4:Has ((g.Lr r').take c.l) (g.Lr u) c2.n:=h3.takeL (by have:=h2.1;omega)
      exact⟨hmt,c2.n,f,c21,by omega,hf,hft,h4.trans (hh.symm.le V),hlast⟩
    intro i j e f hi' hj' he hf hce hcf ht
    have h1:=eT i e he
    have h2:=zAT (zFT BM BE he hf ht (fun a ha b hb h h'=>hU a ha b hb h V))
    omega
  obtain⟨v,hv1,hv2⟩:=near c.Q s.Q hQ (hg.elq s hs)
  obtain⟨a,ha,hav,haT,han⟩:=hA v hv1
  obtain⟨w,hw,hwv,hwT,_,hwk,hfr⟩:=hg.elv s hs v hv2
  have hW:Has w.W (g.Lr r') c.n:=by
    obtain⟨r2,hr2,hrT2,_,hall⟩:=hg.vta w hw a ha (by rw[hav,hwv]) V
    have e2:=hU r2 hr2 r' hr V V
    rw[e2]at hall
    rcases hall c.n han with h|⟨t,ht,t1,t2,t3,t4⟩
    · exact h
    exfalso
    by_cases q:t.T<N
    · exact t4 (ihC t ht q c hc r' hr hrT' V)
    exact t4 (ihk t ht V V c hc r' hr hrT' V)
  have BW:=hg.vtB w hw
  obtain⟨e1,he1⟩:=j0 (X:=g.Lr r') (i:=c.n - 1) V
  have t1:=hg.elL r' hr _ e1 V he1
  have he1':w.W[c.n - 1]?=some e1:=by rw[hW.get V];exact he1
  have hWl:=hW.1
  obtain⟨e2,he2⟩:=j0 (X:=w.W) (i:=w.W.length - 1) V
  have t2:=BW.mono hg V he1' he2
  have t3:xm 0 w.W=e2.term:=zGg he2
  have hc1:1≤c.T:=by have:=hg.elT r' hr;omega
  have hEn:0<s.E.length:=by
    rcases Nat.eq_zero_or_pos s.E.length with q|q
    · rw[List.eq_nil_of_length_eq_zero q]at hfr
      rcases hfr with h|⟨h,_⟩
      · exact absurd h (by show ¬ _<0;omega)
      have:xm 0 ([]:List EntA)=0:=rfl
      omega
    exact q
  obtain⟨e3,he3⟩:=j0 (X:=s.E) (i:=s.E.length - 1) V
  have t4:xm 0 s.E=e3.term:=zGg he3
  have t5:=hg.elt s hs _ e3 he3
  obtain⟨u,hu,huT,hul,hh⟩:=BE _ e3 he3
  have hle:c.T≤e3.term:=by rcases hfr with h|⟨h,_⟩<;>omega
  rcases Nat.lt_or_ge c.T e3.term with h|h
  · exact hi u hu V V (s.E.length - 1) V hh
  obtain rfl:=hU u hu r' hr V V
  have:w.W.length≤s.E.length:=by rcases hfr with h|⟨_,h⟩<;>omega
  exact goal (hh.le V)
theorem zLx{qu:List EntA→List Int→Prop}(hq:Maj qu){g:Gh}(hg:g.ok qu){N:Nat}(ihC:∀ s∈g.els,s.T<N→zFo g s)
    (hU:∀ r∈g.els,∀ s∈g.els,r.T=s.T→r.T<N→r=s):∀ k,∀ s∈g.els,s.T=N→s.k=k→zFo g s:=by
  intro k
  induction k using Nat.strongRecOn with
  |ind k ihk=>
    intro s hs hT hk
    have key:∀ t l,∀ c∈g.coms,c.T=t→c.l=l→∀ r∈g.els,r.T=c.T→c.T<N→Has s.E (g.Lr r) c.n:=by
      intro t
      induction t using Nat.strongRecOn with
      |ind t iht=>
        intro l
        induction l using Nat.strongRecOn with
        |ind l ihl=>
          intro c hc hct hcl r hr hrT hlt
          refine zKj hq hg ihC hU hs hT (fun t ht h1 h2=>ihk t.k V t ht h1 O) hc hr hrT hlt ?_
          intro c' hc' h r' hr' hrT'
          rcases h with h|⟨h,h2⟩
          · exact iht c'.T V c'.l c' hc' rfl rfl r' hr' hrT' V
          exact ihl c'.l V c' hc' V rfl r' hr' hrT' V
    intro c hc r hr hrT hlt
    exact key c.T c.l c hc O O r hr hrT V
theorem zKU{qu:List EntA→List Int→Prop}(hq:Maj qu){g:Gh}(hg:g.ok qu){N:Nat}(hC:∀ s∈g.els,s.T≤N→zFo g s)
    (hU:∀ r∈g.els,∀ s∈g.els,r.T=s.T→r.T<N→r=s) {s t:Elec} (hs:s∈g.els) (ht:t∈g.els) (sT:s.T=N) (tT:t.T=N):s=t:=by
  have Bs:Built g s.E:=(hg.elB s hs).pre (hg.elE s hs)
  have Bt:Built g t.E:=(hg.elB t ht).pre (hg.elE t ht)
  have near:Mt qu s.E t.E:=by
    refine zF0 hq (Bs.mono' hg) (Bt.mono' hg) ?_ ?_ ?_
    · intro q e hp he hce
      have h1:=hg.elt s hs q e he
      obtain⟨u,hu,huT,hul,hh,hmt,c2,hc2,c2T,c2l,c2n,c21,hf,hlast⟩:=zFN hg Bs he hce (fun a ha b hb h h'=>hU a ha b hb h V)
      obtain⟨f,hf,hft⟩:=hf
      have h2:Has t.E (g.Lr u) c2.n:=hC t ht V c2 hc2 u hu V V
      exact⟨hmt,c2.n,f,c21,by omega,hf,hft,(hh.le V).trans h2.symm,hlast⟩
    · intro q e hp he hce
      have h1:=hg.elt t ht q e he
      obtain⟨u,hu,huT,hul,hh,hmt,c2,hc2,c2T,c2l,c2n,c21,hf,hlast⟩:=zFN hg Bt he hce (fun a ha b hb h h'=>hU a ha b hb h V)
      obtain⟨f,hf,hft⟩:=hf
      have h2:Has s.E (g.Lr u) c2.n:=hC s hs V c2 hc2 u hu V V
      exact⟨hmt,c2.n,f,c21,by omega,hf,hft,h2.trans (hh.symm.le V),hlast⟩
    intro i j e f hi' hj' he hf hce hcf heq
    have h1:=hg.elt s hs i e he
    have h2:=zAT (zFT Bs Bt he hf heq (fun a ha b hb h h'=>hU a ha b hb h V))
    omega
  obtain⟨v,hv1,hv2⟩:=near s.Q t.Q (hg.elq s hs) (hg.elq t ht)
  obtain⟨w,hw,hwv,hwT,hwc,_⟩:=hg.elv s hs v hv1
  obtain⟨w',hw',hwv',hwT',hwc',_⟩:=hg.elv t ht v hv2
  have h:=hg.vt1 w hw w' hw' (by rw[hwv,hwv']) V
  exact hg.one s hs t ht V (by rw[←hwc,←hwc',h])
theorem zCG{qu:List EntA→List Int→Prop}(hq:Maj qu){g:Gh}(hg:g.ok qu):∀ N,(∀ s∈g.els,s.T<N→zFo g s)∧(∀ r∈g.els,∀ s∈g.els,r.T=s.T→r.T<N→r=s)
  |0=>⟨fun s _ h=>absurd h V,fun r _ s _ _ h=>absurd h V⟩
  |N+1=>by
    obtain⟨ihC,hU⟩:=zCG hq hg N
    have hC:∀ s∈g.els,s.T≤N→zFo g s:=fun s hs h=>by
      by_cases q:s.T<N
      · exact ihC s hs q
      exact zLx hq hg ihC hU s.k s hs V rfl
    refine⟨fun s hs h=>hC s hs V,fun r hr s hs h1 h2=> ?_⟩
    by_cases q:r.T<N
    · exact hU r hr s hs h1 q
    exact zKU hq hg hC hU hr hs V V
theorem Gh.ok.uniq{qu:List EntA→List Int→Prop}(hq:Maj qu){g:Gh}(hg:g.ok qu){r s:Elec}(hr:r∈g.els)(hs:s∈g.els)(h:r.T=s.T):r=s:=(zCG hq hg (r.T+1)).2 r hr s hs h V
theorem Gh.ok.comp{qu:List EntA→List Int→Prop}(hq:Maj qu){g:Gh}(hg:g.ok qu){s:Elec}(hs:s∈g.els):zFo g s:=(zCG hq hg (s.T+1)).1 s hs V
end Go.Proofs.YtkkeknmkipkbmaaGreat
