import Derived.Test.YtkkeknmkipkbmaaGreatFw8
set_option linter.unusedSectionVars false
set_option linter.unusedSimpArgs false
set_option linter.unusedVariables false
namespace Go.Sc
def inT(T:List Nat)(i:Nat):Bool:=T.any (Nat.beq i)
def msk(f g:Nat→Value)(T:List Nat):Nat→Value:=fun i=>bif inT T i then g i else f i
def Out(T:List Nat)(f g:Nat→Value):Prop:=∀ i,inT T i=false→g i=f i
theorem Out.refl(T:List Nat)(f:Nat→Value):Out T f f:=fun _ _=>rfl
theorem Out.upd{T:List Nat}{f g:Nat→Value}{d:Nat}{v:Value}(hd:inT T d=true)(h:Out T f g):Out T f (upd g d v):=fun i hi=>by
  rw[jd]
  · exact h i hi
  intro e;subst e;rw[hd]at hi;cases hi
theorem Out.msk{T T':List Nat}{f g g':Nat→Value}(hT:T'.all (inT T)=true)(h:Out T f g):Out T f (msk g g' T'):=fun i hi=>by
  unfold Go.Sc.msk
  cases h2:inT T' i with
  |false=>exact h i hi
  |true=>
    exfalso
    unfold inT at h2
    rw[List.any_eq_true]at h2
    obtain⟨x,hx,hb⟩:=h2
    have:=Nat.eq_of_beq_eq_true hb
    subst this
    rw[List.all_eq_true]at hT
    rw[hT _ hx]at hi
    cases hi
theorem zEY{T:List Nat}{f g:Nat→Value}(h:Out T f g):msk f g T=g:=by
  funext i
  unfold msk
  cases hi:inT T i with
  |true=>rfl
  |false=>exact(h i hi).symm
def ku(ops:Array Oper)(j e:Nat)(b:Bool):List Nat→List Oper→Option (List Nat)
  |U,[]=>some U
  |U,o::r=>
    match o.guard,o.dst with
    |some (i,w),some d=>if((Nat.beq i j&&(w==b))||(match yf ops i with|some s=>inT U s|none=>false))&& !(Nat.beq d e)then ku ops j e b (d::U) r else none
    |_,_=>none
theorem zBE{α:Type}{c:Bool}{x:Option α}{y:α}(h:(if c then x else none)=some y):c=true∧x=some y:=by cases c<;>simp_all
section
variable {P:Program} {n:Nat} {ops:Array Oper} {N:K} {A:World→Prop}
theorem jP{f:Nat→Value}{a:Act}(ha:Rep n f a){i s:Nat}(hi:yf ops i=some s)(hs:f s=undef):yielded ops a.tmps i=none:=by
  have h:=ha.get s
  unfold yf at hi
  simp only[yielded,hi,Option.bind_some]
  rw[Array.getD_eq_getD_getElem?,hs]at h
  cases hx:a.tmps[s]? with
  |none=>rfl
  |some x=>rw[hx]at h;simp at h;subst h;rfl
theorem zCj{j e:Nat}{b b':Bool}(hj:yf ops j=some e)(hne:(b'==b)=false){w:World}{rest:List Oper}:∀ (l1:List Oper) (U T:List Nat) (f:Nat→Value),
    ku ops j e b U l1=some T→f e= .bool b'→(∀ s,inT U s=true→f s=undef)→(l1.all fun o=>match o.dst with|some d=>Nat.blt d n|none=>false)=true→
    (∀ g,Out T f g→WL P n ops rest N g w)→WL P n ops (l1++rest) N f w
  | [],U,T,f,hs,hf,hU,hn,k=>k f (Out.refl _ _)
  |o::l1,U,T,f,hs,hf,hU,hn,k=>by
    intro a ha
    unfold ku at hs
    cases hg:o.guard with
    |none=>rw[hg]at hs;cases hs
    |some q=>
      obtain⟨i,w0⟩:=q
      cases hd:o.dst with
      |none=>rw[hg,hd]at hs;cases hs
      |some d=>
        rw[hg,hd]at hs
        dsimp only at hs
        obtain⟨hc,hs⟩:=zBE hs
        simp only[Bool.and_eq_true,Bool.or_eq_true,Bool.not_eq_true']at hc
        obtain⟨hc,hde⟩:=hc
        have hne':e≠d:=by intro h;subst h;simp at hde
        have hdn:d<n:=by
          simp only[List.all_cons,Bool.and_eq_true,hd]at hn
          simpa [Nat.blt_eq]using hn.1
        have hw:Region.wanted o (yielded ops a.tmps)=false:=by
          unfold Region.wanted
          rw[hg]
          rcases hc with⟨h1,h2⟩|h1
          · have:i=j:=Nat.eq_of_beq_eq_true h1
            subst this
            have:w0=b:=by simpa using h2
            subst this
            simp only[xt ha hj hf]
            simpa using hne
          cases hsl:yf ops i with
          |none=>rw[hsl]at h1;cases h1
          |some s=>
            rw[hsl]at h1
            simp only[jP ha hsl (hU s h1)]
            rfl
        show wpList P ops (x1 n N) (o::(l1++rest)) a w
        unfold wpList
        rw[if_neg (by rw[hw];simp),hd]
        refine zCj hj hne l1 (d::U) T (upd f d undef) hs (by rw[jd _ _ hne'];exact hf) ?_ (by simp only[List.all_cons,Bool.and_eq_true]at hn;exact hn.2) ?_ _ (ha.put hdn undef)
        · intro s hs'
          by_cases h:s=d
          · subst h;rw[zA1]
          rw[jd _ _ h]
          refine hU s ?_
          unfold inT at hs' ⊢
          simp only[List.any_cons,Bool.or_eq_true]at hs'
          rcases hs' with h1|h1
          · exact absurd (Nat.eq_of_beq_eq_true h1) h
          exact h1
        intro g hg'
        refine k g (fun i hi=> ?_)
        rw[hg' i hi]
        refine jd _ _ ?_
        intro h;subst h
        -- d stands in T
        have mem:∀ (l:List Oper) (U T:List Nat),ku ops j e b U l=some T→∀ x,inT U x=true→inT T x=true:=by
          intro l
          induction l with
          |nil=>intro U T h x hx;simp[ku]at h;subst h;exact hx
          |cons o l ih=>
            intro U T h x hx
            unfold ku at h
            split at h
            · exact ih _ _ (zBE h).2 x (by unfold inT at hx ⊢;simp[hx])
            cases h
        have:=mem l1 _ _ hs i (by unfold inT;simp)
        rw[this]at hi;cases hi
variable {f:Nat→Value} {d e t:Nat} {ty:TypeId} {p:String} {af:Array Edge} {l rest:List Oper}
def zDr(T:List Nat)(f:Nat→Value)(t:Nat)(v:Value)(A:World→Prop):K:=fun g w=>Out T f g∧g t=v∧A w
theorem zDj{w:World}{l2:List Oper}{M:K}:∀ (l1:List Oper) {f:Nat→Value},WL P n ops l1 M f w→(∀ f w,M f w→WL P n ops l2 N f w)→WL P n ops (l1++l2) N f w:=by
  intro l1 f h hk a ha
  have:=h a ha
  clear h ha
  revert this a w
  suffices ∀ (l:List Oper) (a:Act) (w:World),wpList P ops (x1 n M) l a w→wpList P ops (x1 n N) (l++l2) a w from fun a w h=>this l1 w a h
  intro l
  induction l with
  |nil=>
    intro a w h
    obtain⟨f,hr,hm⟩:=h
    exact hk f w hm a hr
  |cons o l ih=>
    intro a w h
    show wpList P ops (x1 n N) (o::(l++l2)) a w
    unfold wpList at h ⊢
    split
    · rename_i hw
      rw[if_pos hw]at h
      rcases h with h|⟨h1,a1,w1,h2⟩
      · left
        unfold Oper.wp at *
        generalize (execOp a.eval o).run P w=r at *
        cases r with
        |ok nx w'=>
          cases nx<;>simp only[Oper.upon]at h ⊢ <;>
            first
              |exact ih _ _ h
              |exact Calls.mono h (fun e w'' he=>by
                  cases e with
                  |returned v=>exact ih _ _ he
                  |panicked c=>exact he
                  |outgrown=>obtain⟨a2,w2,h2⟩:=he;exact h2.elim)
              |exact Rows.mono h (fun _ _ he=>ih _ _ he)
        |halt x w'=>cases x<;>simp only[Oper.upon]at h ⊢ <;>exact h
      exact h2.elim
    rename_i hw
    rw[if_neg hw]at h
    exact ih _ _ h
def zBS(n:Nat)(l:List Oper):Bool:=l.all fun o=>match o.dst with|some d=>Nat.blt d n|none=>false
theorem yO(m j:Nat)(T:List Nat){q:Prop}(r:Prop)[Decidable q][Decidable r]{gd:Option (Nat×Bool)}(hm:l.drop m=⟨some d, .pick (.tmp e) (.tmp t) (.const (.bool false)),ty,p,af,gd⟩::rest)
    (hj:yf ops j=some e) (hq:f e= .bool (decide q)) (hT:ku ops j e true [] (l.take m)=some T) (hn:zBS n (l.take m)=true) (he:inT T e=false)
    (hgd:match gd with|none=>True|some (i,b)=>∃ s,yf ops i=some s∧inT T s=false∧f s= .bool b) (hd:Nat.blt d n=true)
    (hy:q→CL P n ops (l.take m) (zDr T f t (.bool (decide r)) A) f A)
    (k:∀ g,CL P n ops rest N (upd (msk f g T) d (.bool (decide (q∧r)))) A):CL P n ops l N f A:=by
  intro w hw
  rw[←List.take_append_drop m l,hm]
  have fin:∀ (g:Nat→Value) (w:World) (v:Value),A w→Out T f g→(bif decide q then g t else .bool false)=v→v= .bool (decide (q∧r))→
      WL P n ops (⟨some d, .pick (.tmp e) (.tmp t) (.const (.bool false)),ty,p,af,gd⟩::rest) N g w:=by
    intro g w v hA ho hv hv'
    have hge:g e= .bool (decide q):=(ho e he).trans hq
    have core:WL P n ops (⟨some d, .pick (.tmp e) (.tmp t) (.const (.bool false)),ty,p,af,none⟩::rest) N g w:=by
      refine kY (v:=v) (w':=w) ?_ hd ?_
      · subst hv
        by_cases hq':q<;>simp[execOp,ev,hge,hq',asBool]
      rw[hv']
      have:=k g w hA
      rw[zEY ho]at this
      exact this
    cases gd with
    |none=>exact core
    |some ib=>
      obtain⟨i,b⟩:=ib
      obtain⟨s,h1,h2,h3⟩:=hgd
      exact zJo h1 ((ho s h2).trans h3) core
  by_cases hc:q
  · refine zDj _ (hy hc w hw) ?_
    rintro g w' ⟨ho,ht,hA⟩
    refine fin g w' _ hA ho O ?_
    simp[hc,ht]
  refine zCj (b':=false) hj rfl _ [] T f hT (by rw[hq];simp[hc]) (by simp[inT]) hn ?_
  intro g ho
  refine fin g w _ hw ho O ?_
  simp[hc]
theorem yk(m j:Nat)(T:List Nat){q:Prop}(r:Prop)[Decidable q][Decidable r]{gd:Option (Nat×Bool)}(hm:l.drop m=⟨some d, .pick (.tmp e) (.const (.bool true)) (.tmp t),ty,p,af,gd⟩::rest)
    (hj:yf ops j=some e) (hq:f e= .bool (decide q)) (hT:ku ops j e false [] (l.take m)=some T) (hn:zBS n (l.take m)=true) (he:inT T e=false)
    (hgd:match gd with|none=>True|some (i,b)=>∃ s,yf ops i=some s∧inT T s=false∧f s= .bool b) (hd:Nat.blt d n=true)
    (hy:¬ q→CL P n ops (l.take m) (zDr T f t (.bool (decide r)) A) f A)
    (k:∀ g,CL P n ops rest N (upd (msk f g T) d (.bool (decide (q∨r)))) A):CL P n ops l N f A:=by
  intro w hw
  rw[←List.take_append_drop m l,hm]
  have fin:∀ (g:Nat→Value) (w:World) (v:Value),A w→Out T f g→(bif decide q then .bool true else g t)=v→v= .bool (decide (q∨r))→
      WL P n ops (⟨some d, .pick (.tmp e) (.const (.bool true)) (.tmp t),ty,p,af,gd⟩::rest) N g w:=by
    intro g w v hA ho hv hv'
    have hge:g e= .bool (decide q):=(ho e he).trans hq
    have core:WL P n ops (⟨some d, .pick (.tmp e) (.const (.bool true)) (.tmp t),ty,p,af,none⟩::rest) N g w:=by
      refine kY (v:=v) (w':=w) ?_ hd ?_
      · subst hv
        by_cases hq':q<;>simp[execOp,ev,hge,hq',asBool]
      rw[hv']
      have:=k g w hA
      rw[zEY ho]at this
      exact this
    cases gd with
    |none=>exact core
    |some ib=>
      obtain⟨i,b⟩:=ib
      obtain⟨s,h1,h2,h3⟩:=hgd
      exact zJo h1 ((ho s h2).trans h3) core
  by_cases hc:q
  · refine zCj (b':=true) hj rfl _ [] T f hT (by rw[hq];simp[hc]) (by simp[inT]) hn ?_
    intro g ho
    refine fin g w _ hw ho O ?_
    simp[hc]
  refine zDj _ (hy hc w hw) ?_
  rintro g w' ⟨ho,ht,hA⟩
  refine fin g w' _ hA ho O ?_
  simp[hc,ht]
theorem zO{y:Code}{M R R':K}{X X':List (Nat×K)}{f:Nat→Value}(h:C P n y M R X f A):C P n .skip (fun f w=>W P n y M R X f w) R' X' f A:=fun w hw=>zKK (h w hw)
theorem yB{id:Nat}{y:Code}{M M' R R':K}{X X':List (Nat×K)}{f:Nat→Value}(hk:look id X=some (fun f w=>W P n y M R X' f w))(h:C P n y M R X' f A):C P n (.exit id) M' R' X f A:=fun w hw=>zKH hk (h w hw)
def zMh(σ:Type)(sl:σ→List (Nat×Value))(Φ:σ→Prop)(w0:World)(S:List Nat)(L:σ→List Res):K:=fun f w=>∃ s:σ,Agr f (sl s)∧Φ s∧Own w0 S (L s) w
theorem j1{x y:Code}{M R:K}{X:List (Nat×K)}{f:Nat→Value}{w0:World}{S:List Nat}{L0:List Res}(σ:Type)(sl:σ→List (Nat×Value))(Φ:σ→Prop)(L:σ→List Res)(hx:C P n x (zMh σ sl Φ w0 S L) R X f (Own w0 S L0))
    (hy:∀ (s:σ) (g:Nat→Value),Φ s→C P n y M R X (zAn g (sl s)) (Own w0 S (L s))):C P n (.seq x y) M R X f (Own w0 S L0):=
  zO4 _ hx fun f w ⟨s,ha,hΦ,hO⟩=>by
    have:=hy s f hΦ w hO
    rw[zA9 ha]at this
    exact this
theorem zCI{c:Code}{M R:K}{X:List (Nat×K)}{f:Nat→Value}{w0:World}{S:List Nat}{L0:List Res}(σ:Type)(sl:σ→List (Nat×Value))(Φ:σ→Prop)(L:σ→List Res)(μ:σ→Nat)(h0:∀ w,Own w0 S L0 w→zMh σ sl Φ w0 S L f w)
    (round:∀ (s:σ) (g:Nat→Value),Φ s→C P n c (fun f' w'=>∃ s':σ,Agr f' (sl s')∧Φ s'∧Own w0 S (L s') w'∧μ s'<μ s) R X (zAn g (sl s)) (Own w0 S (L s))):C P n (.loop c) M R X f (Own w0 S L0):=
  zMx σ sl (fun s w=>Φ s∧Own w0 S (L s) w) μ h0 fun s g w ⟨hΦ,hO⟩=>kp (round s g hΦ w hO) fun f' w' ⟨s',h1,h2,h3,h4⟩=>⟨s',h1,⟨h2,h3⟩,h4⟩
theorem zAj{x y:Code}{M R:K}{X:List (Nat×K)}{f:Nat→Value}{w0:World}{S:List Nat}{L0:List Res}(sl:List (Nat×Value))(Φ:Prop)(L:List Res)
    (hx:C P n x (fun f w=>Agr f (sl)∧Φ∧Own w0 S (L) w) R X f (Own w0 S L0))
    (hy:∀ (g:Nat→Value),Φ→C P n y M R X (zAn g (sl)) (Own w0 S (L))):C P n (.seq x y) M R X f (Own w0 S L0):=
  j1 (Unit) (fun s=>sl) (fun s=>Φ) (fun s=>L) (fun w hw=>kp (hx w hw) fun f w ⟨h1,h2,h3⟩=>⟨(),h1,h2,h3⟩) (fun s g h=>hy g h)
theorem yu{x y:Code}{M R:K}{X:List (Nat×K)}{f:Nat→Value}{w0:World}{S:List Nat}{L0:List Res}{α:Type}(sl:α→List (Nat×Value))(Φ:α→Prop)(L:α→List Res)
    (hx:C P n x (fun f w=>∃ (a:α),Agr f (sl a)∧Φ a∧Own w0 S (L a) w) R X f (Own w0 S L0))
    (hy:∀ (a:α) (g:Nat→Value),Φ a→C P n y M R X (zAn g (sl a)) (Own w0 S (L a))):C P n (.seq x y) M R X f (Own w0 S L0):=
  j1 (α) (fun s=>sl s) (fun s=>Φ s) (fun s=>L s) (fun w hw=>kp (hx w hw) fun f w ⟨a,h1,h2,h3⟩=>⟨a,h1,h2,h3⟩) (fun s g h=>hy s g h)
theorem xQ{cc:Code}{M R:K}{X:List (Nat×K)}{f:Nat→Value}{w0:World}{S:List Nat}{L0:List Res}{α:Type}(sl:α→List (Nat×Value))(Φ:α→Prop)(L:α→List Res)(μ:α→Nat)
    (h0:∀ w,Own w0 S L0 w→∃ (a:α),Agr f (sl a)∧Φ a∧Own w0 S (L a) w)
    (round:∀ (a:α) (g:Nat→Value),Φ a→C P n cc (fun f' w'=>∃ (a':α),Agr f' (sl a')∧Φ a'∧Own w0 S (L a') w'∧μ a'<μ a) R X (zAn g (sl a)) (Own w0 S (L a))):C P n (.loop cc) M R X f (Own w0 S L0):=
  zCI (α) (fun s=>sl s) (fun s=>Φ s) (fun s=>L s) (fun s=>μ s) (fun w hw=>let ⟨a,h1,h2,h3⟩:=h0 w hw;⟨a,h1,h2,h3⟩)
    (fun s g h w hw=>kp (round s g h w hw) fun f' w' ⟨a',h1,h2,h3,h4⟩=>⟨a',h1,h2,h3,h4⟩)
theorem jw{x y:Code}{M R:K}{X:List (Nat×K)}{f:Nat→Value}{w0:World}{S:List Nat}{L0:List Res}{α β:Type}(sl:α→β→List (Nat×Value))(Φ:α→β→Prop)(L:α→β→List Res)
    (hx:C P n x (fun f w=>∃ (a:α) (b:β),Agr f (sl a b)∧Φ a b∧Own w0 S (L a b) w) R X f (Own w0 S L0))
    (hy:∀ (a:α) (b:β) (g:Nat→Value),Φ a b→C P n y M R X (zAn g (sl a b)) (Own w0 S (L a b))):C P n (.seq x y) M R X f (Own w0 S L0):=
  j1 (α×β) (fun s=>sl s.1 s.2) (fun s=>Φ s.1 s.2) (fun s=>L s.1 s.2) (fun w hw=>kp (hx w hw) fun f w ⟨a,b,h1,h2,h3⟩=>⟨(a,b),h1,h2,h3⟩) (fun s g h=>hy s.1 s.2 g h)
theorem yr{cc:Code}{M R:K}{X:List (Nat×K)}{f:Nat→Value}{w0:World}{S:List Nat}{L0:List Res}{α β:Type}(sl:α→β→List (Nat×Value))(Φ:α→β→Prop)(L:α→β→List Res)(μ:α→β→Nat)
    (h0:∀ w,Own w0 S L0 w→∃ (a:α) (b:β),Agr f (sl a b)∧Φ a b∧Own w0 S (L a b) w)
    (round:∀ (a:α) (b:β) (g:Nat→Value),Φ a b→C P n cc (fun f' w'=>∃ (a':α) (b':β),Agr f' (sl a' b')∧Φ a' b'∧Own w0 S (L a' b') w'∧μ a' b'<μ a b) R X (zAn g (sl a b)) (Own w0 S (L a b))):C P n (.loop cc) M R X f (Own w0 S L0):=
  zCI (α×β) (fun s=>sl s.1 s.2) (fun s=>Φ s.1 s.2) (fun s=>L s.1 s.2) (fun s=>μ s.1 s.2) (fun w hw=>let ⟨a,b,h1,h2,h3⟩:=h0 w hw;⟨(a,b),h1,h2,h3⟩)
    (fun s g h w hw=>kp (round s.1 s.2 g h w hw) fun f' w' ⟨a',b',h1,h2,h3,h4⟩=>⟨(a',b'),h1,h2,h3,h4⟩)
theorem jf{x y:Code}{M R:K}{X:List (Nat×K)}{f:Nat→Value}{w0:World}{S:List Nat}{L0:List Res}{α β γ:Type}(sl:α→β→γ→List (Nat×Value))(Φ:α→β→γ→Prop)(L:α→β→γ→List Res)
    (hx:C P n x (fun f w=>∃ (a:α) (b:β) (c:γ),Agr f (sl a b c)∧Φ a b c∧Own w0 S (L a b c) w) R X f (Own w0 S L0))
    (hy:∀ (a:α) (b:β) (c:γ) (g:Nat→Value),Φ a b c→C P n y M R X (zAn g (sl a b c)) (Own w0 S (L a b c))):C P n (.seq x y) M R X f (Own w0 S L0):=
  j1 (α×β×γ) (fun s=>sl s.1 s.2.1 s.2.2) (fun s=>Φ s.1 s.2.1 s.2.2) (fun s=>L s.1 s.2.1 s.2.2) (fun w hw=>kp (hx w hw) fun f w ⟨a,b,c,h1,h2,h3⟩=>⟨(a,b,c),h1,h2,h3⟩) (fun s g h=>hy s.1 s.2.1 s.2.2 g h)
theorem xi{cc:Code}{M R:K}{X:List (Nat×K)}{f:Nat→Value}{w0:World}{S:List Nat}{L0:List Res}{α β γ:Type}(sl:α→β→γ→List (Nat×Value))(Φ:α→β→γ→Prop)(L:α→β→γ→List Res)(μ:α→β→γ→Nat)
    (h0:∀ w,Own w0 S L0 w→∃ (a:α) (b:β) (c:γ),Agr f (sl a b c)∧Φ a b c∧Own w0 S (L a b c) w)
    (round:∀ (a:α) (b:β) (c:γ) (g:Nat→Value),Φ a b c→C P n cc (fun f' w'=>∃ (a':α) (b':β) (c':γ),Agr f' (sl a' b' c')∧Φ a' b' c'∧Own w0 S (L a' b' c') w'∧μ a' b' c'<μ a b c) R X (zAn g (sl a b c)) (Own w0 S (L a b c))):C P n (.loop cc) M R X f (Own w0 S L0):=
  zCI (α×β×γ) (fun s=>sl s.1 s.2.1 s.2.2) (fun s=>Φ s.1 s.2.1 s.2.2) (fun s=>L s.1 s.2.1 s.2.2) (fun s=>μ s.1 s.2.1 s.2.2) (fun w hw=>let ⟨a,b,c,h1,h2,h3⟩:=h0 w hw;⟨(a,b,c),h1,h2,h3⟩)
    (fun s g h w hw=>kp (round s.1 s.2.1 s.2.2 g h w hw) fun f' w' ⟨a',b',c',h1,h2,h3,h4⟩=>⟨(a',b',c'),h1,h2,h3,h4⟩)
theorem zMW{cc:Code}{M R:K}{X:List (Nat×K)}{f:Nat→Value}{w0:World}{S:List Nat}{L0:List Res}{α β γ δ ε:Type}(sl:α→β→γ→δ→ε→List (Nat×Value))(Φ:α→β→γ→δ→ε→Prop)(L:α→β→γ→δ→ε→List Res)(μ:α→β→γ→δ→ε→Nat)
    (h0:∀ w,Own w0 S L0 w→∃ (a:α) (b:β) (c:γ) (d:δ) (e:ε),Agr f (sl a b c d e)∧Φ a b c d e∧Own w0 S (L a b c d e) w)
    (round:∀ (a:α) (b:β) (c:γ) (d:δ) (e:ε) (g:Nat→Value),Φ a b c d e→C P n cc (fun f' w'=>∃ (a':α) (b':β) (c':γ) (d':δ) (e':ε),Agr f' (sl a' b' c' d' e')∧Φ a' b' c' d' e'∧Own w0 S (L a' b' c' d' e') w'∧μ a' b' c' d' e'<μ a b c d e) R X (zAn g (sl a b c d e)) (Own w0 S (L a b c d e))):C P n (.loop cc) M R X f (Own w0 S L0):=
  zCI (α×β×γ×δ×ε) (fun s=>sl s.1 s.2.1 s.2.2.1 s.2.2.2.1 s.2.2.2.2) (fun s=>Φ s.1 s.2.1 s.2.2.1 s.2.2.2.1 s.2.2.2.2) (fun s=>L s.1 s.2.1 s.2.2.1 s.2.2.2.1 s.2.2.2.2) (fun s=>μ s.1 s.2.1 s.2.2.1 s.2.2.2.1 s.2.2.2.2) (fun w hw=>let ⟨a,b,c,d,e,h1,h2,h3⟩:=h0 w hw;⟨(a,b,c,d,e),h1,h2,h3⟩)
    (fun s g h w hw=>kp (round s.1 s.2.1 s.2.2.1 s.2.2.2.1 s.2.2.2.2 g h w hw) fun f' w' ⟨a',b',c',d',e',h1,h2,h3,h4⟩=>⟨(a',b',c',d',e'),h1,h2,h3,h4⟩)
theorem gT{q:Prop}[Decidable q](h:q):Value.bool (decide q)= .bool true:=by rw[decide_eq_true h]
theorem gF{q:Prop}[Decidable q](h:¬ q):Value.bool (decide q)= .bool false:=by rw[decide_eq_false h]
end
end Go.Sc
