import Derived.Test.YtkkeknmkipkbmaaGreatFw8
import Derived.MapKept
set_option linter.unusedSectionVars false
set_option linter.unusedSimpArgs false
set_option linter.unusedVariables false
namespace Go.Sc
def inT(T:List Nat)(i:Nat):Bool:=T.any (Nat.beq i)
def msk(f g:Nat→Value)(T:List Nat):Nat→Value:=fun i=>bif inT T i then g i else f i
def Out(T:List Nat)(f g:Nat→Value):Prop:=∀ i,inT T i=false→g i=f i
theorem Out.refl(T:List Nat)(f:Nat→Value):Out T f f:=fun _ _=>rfl
theorem Out.upd{T:List Nat}{f g:Nat→Value}{d:Nat}{v:Value}(hd:inT T d=true)(h:Out T f g):Out T f (upd g d v):=fun i hi=>by
  rw[jv]
  · exact h i hi
  intro e;subst e;rw[hd]at hi;cases hi
theorem Out.msk{T T':List Nat}{f g g':Nat→Value}(hT:T'.all (inT T)=true)(h:Out T f g):Out T f (msk g g' T'):=fun i hi=>by
  unfold Go.Sc.msk
  cases h2:inT T' i with
  |false=>exact h i hi
  |true=>
    exfalso
    unfold inT at h2
    rw[List.any_eq_true]at h2
    obtain⟨x,hx,hb⟩:=h2
    have:=Nat.eq_of_beq_eq_true hb
    subst this
    rw[List.all_eq_true]at hT
    rw[hT _ hx]at hi
    cases hi
theorem zEj{T:List Nat}{f g:Nat→Value}(h:Out T f g):msk f g T=g:=by
  funext i
  unfold msk
  cases hi:inT T i with
  |true=>rfl
  |false=>exact(h i hi).symm
def ky(ops:Array Oper)(j e:Nat)(b:Bool):List Nat→List Oper→Option (List Nat)
  |U,[]=>some U
  |U,o::r=>
    match o.guard,o.dst with
    |some (i,w),some d=>if((Nat.beq i j&&(w==b))||(match yg ops i with|some s=>inT U s|none=>false))&& !(Nat.beq d e)then ky ops j e b (d::U) r else none
    |_,_=>none
theorem zBl{α:Type}{c:Bool}{x:Option α}{y:α}(h:(if c then x else none)=some y):c=true∧x=some y:=by cases c<;>simp_all
section
variable {P:Program} {n:Nat} {ops:Array Oper} {N:K} {A:World→Prop}
theorem jT{f:Nat→Value}{a:Act}(ha:Rep n f a){i s:Nat}(hi:yg ops i=some s)(hs:f s=undef):yielded ops a.tmps i=none:=by
  have h:=ha.get s
  unfold yg at hi
  simp only[yielded,hi,Option.bind_some]
  rw[Array.getD_eq_getD_getElem?,hs]at h
  cases hx:a.tmps[s]? with
  |none=>rfl
  |some x=>rw[hx]at h;simp at h;subst h;rfl
theorem zDX{j e:Nat}{b b':Bool}(hj:yg ops j=some e)(hne:(b'==b)=false){w:World}{rest:List Oper}:∀ (l1:List Oper) (U T:List Nat) (f:Nat→Value),
    ky ops j e b U l1=some T→f e= .bool b'→(∀ s,inT U s=true→f s=undef)→(l1.all fun o=>match o.dst with|some d=>Nat.blt d n|none=>false)=true→
    (∀ g,Out T f g→WL P n ops rest N g w)→WL P n ops (l1++rest) N f w
  | [],U,T,f,hs,hf,hU,hn,k=>k f (Out.refl _ _)
  |o::l1,U,T,f,hs,hf,hU,hn,k=>by
    intro a ha
    unfold ky at hs
    cases hg:o.guard with
    |none=>rw[hg]at hs;cases hs
    |some q=>
      obtain⟨i,w0⟩:=q
      cases hd:o.dst with
      |none=>rw[hg,hd]at hs;cases hs
      |some d=>
        rw[hg,hd]at hs
        dsimp only at hs
        obtain⟨hc,hs⟩:=zBl hs
        simp only[Bool.and_eq_true,Bool.or_eq_true,Bool.not_eq_true']at hc
        obtain⟨hc,hde⟩:=hc
        have hne':e≠d:=by intro h;subst h;simp at hde
        have hdn:d<n:=by
          simp only[List.all_cons,Bool.and_eq_true,hd]at hn
          simpa [Nat.blt_eq]using hn.1
        have hw:Region.wanted o (yielded ops a.tmps)=false:=by
          unfold Region.wanted
          rw[hg]
          rcases hc with⟨h1,h2⟩|h1
          · have:i=j:=Nat.eq_of_beq_eq_true h1
            subst this
            have:w0=b:=by simpa using h2
            subst this
            simp only[x1 ha hj hf]
            simpa using hne
          cases hsl:yg ops i with
          |none=>rw[hsl]at h1;cases h1
          |some s=>
            rw[hsl]at h1
            simp only[jT ha hsl (hU s h1)]
            rfl
        show wpList P ops (x8 n N) (o::(l1++rest)) a w
        unfold wpList
        rw[if_neg (by rw[hw];simp),hd]
        refine zDX hj hne l1 (d::U) T (upd f d undef) hs (by rw[jv _ _ hne'];exact hf) ?_ (by simp only[List.all_cons,Bool.and_eq_true]at hn;exact hn.2) ?_ _ (ha.put hdn undef)
        · intro s hs'
          by_cases h:s=d
          · subst h;rw[zBI]
          rw[jv _ _ h]
          refine hU s ?_
          unfold inT at hs' ⊢
          simp only[List.any_cons,Bool.or_eq_true]at hs'
          rcases hs' with h1|h1
          · exact absurd (Nat.eq_of_beq_eq_true h1) h
          exact h1
        intro g hg'
        refine k g (fun i hi=> ?_)
        rw[hg' i hi]
        refine jv _ _ ?_
        intro h;subst h
        -- d stands in T
        have mem:∀ (l:List Oper) (U T:List Nat),ky ops j e b U l=some T→∀ x,inT U x=true→inT T x=true:=by
          intro l
          induction l with
          |nil=>intro U T h x hx;simp[ky]at h;subst h;exact hx
          |cons o l ih=>
            intro U T h x hx
            unfold ky at h
            split at h
            · exact ih _ _ (zBl h).2 x (by unfold inT at hx ⊢;simp[hx])
            cases h
        have:=mem l1 _ _ hs i (by unfold inT;simp)
        rw[this]at hi;cases hi
variable {f:Nat→Value} {d e t:Nat} {ty:TypeId} {p:String} {af:Array Edge} {l rest:List Oper}
def zEX(T:List Nat)(f:Nat→Value)(t:Nat)(v:Value)(A:World→Prop):K:=fun g w=>Out T f g∧g t=v∧A w
theorem zEI{w:World}{l2:List Oper}{M:K}:∀ (l1:List Oper) {f:Nat→Value},WL P n ops l1 M f w→(∀ f w,M f w→WL P n ops l2 N f w)→WL P n ops (l1++l2) N f w:=by
  intro l1 f h hk a ha
  have:=h a ha
  clear h ha
  revert this a w
  suffices ∀ (l:List Oper) (a:Act) (w:World),wpList P ops (x8 n M) l a w→wpList P ops (x8 n N) (l++l2) a w from fun a w h=>this l1 w a h
  intro l
  induction l with
  |nil=>
    intro a w h
    obtain⟨f,hr,hm⟩:=h
    exact hk f w hm a hr
  |cons o l ih=>
    intro a w h
    show wpList P ops (x8 n N) (o::(l++l2)) a w
    unfold wpList at h ⊢
    split
    · rename_i hw
      rw[if_pos hw]at h
      rcases h with h|⟨h1,a1,w1,h2⟩
      · left
        unfold Oper.wp at *
        generalize (execOp a.eval o).run P w=r at *
        cases r with
        |ok nx w'=>
          cases nx<;>simp only[Oper.upon]at h ⊢ <;>
            first
              |exact ih _ _ h
              |exact Calls.mono h (fun e w'' he=>by
                  cases e with
                  |returned v=>exact ih _ _ he
                  |panicked c=>exact he
                  |outgrown=>obtain⟨a2,w2,h2⟩:=he;exact h2.elim)
              |exact Rows.mono h (fun _ _ he=>ih _ _ he)
        |halt x w'=>cases x<;>simp only[Oper.upon]at h ⊢ <;>exact h
      exact h2.elim
    rename_i hw
    rw[if_neg hw]at h
    exact ih _ _ h
def zBx(n:Nat)(l:List Oper):Bool:=l.all fun o=>match o.dst with|some d=>Nat.blt d n|none=>false
theorem yK(m j:Nat)(T:List Nat){q:Prop}(r:Prop)[Decidable q][Decidable r]{gd:Option (Nat×Bool)}(hm:l.drop m=⟨some d, .pick (.tmp e) (.tmp t) (.const (.bool false)),ty,p,af,gd⟩::rest)
    (hj:yg ops j=some e) (hq:f e= .bool (decide q)) (hT:ky ops j e true [] (l.take m)=some T) (hn:zBx n (l.take m)=true) (he:inT T e=false)
    (hgd:match gd with|none=>True|some (i,b)=>∃ s,yg ops i=some s∧inT T s=false∧f s= .bool b) (hd:Nat.blt d n=true)
    (hy:q→CL P n ops (l.take m) (zEX T f t (.bool (decide r)) A) f A)
    (k:∀ g,CL P n ops rest N (upd (msk f g T) d (.bool (decide (q∧r)))) A):CL P n ops l N f A:=by
  intro w hw
  rw[←List.take_append_drop m l,hm]
  have fin:∀ (g:Nat→Value) (w:World) (v:Value),A w→Out T f g→(bif decide q then g t else .bool false)=v→v= .bool (decide (q∧r))→
      WL P n ops (⟨some d, .pick (.tmp e) (.tmp t) (.const (.bool false)),ty,p,af,gd⟩::rest) N g w:=by
    intro g w v hA ho hv hv'
    have hge:g e= .bool (decide q):=(ho e he).trans hq
    have core:WL P n ops (⟨some d, .pick (.tmp e) (.tmp t) (.const (.bool false)),ty,p,af,none⟩::rest) N g w:=by
      refine kh (v:=v) (w':=w) ?_ hd ?_
      · subst hv
        by_cases hq':q<;>simp[execOp,ev,hge,hq',asBool]
      rw[hv']
      have:=k g w hA
      rw[zEj ho]at this
      exact this
    cases gd with
    |none=>exact core
    |some ib=>
      obtain⟨i,b⟩:=ib
      obtain⟨s,h1,h2,h3⟩:=hgd
      exact zKi h1 ((ho s h2).trans h3) core
  by_cases hc:q
  · refine zEI _ (hy hc w hw) ?_
    rintro g w' ⟨ho,ht,hA⟩
    refine fin g w' _ hA ho O ?_
    simp[hc,ht]
  refine zDX (b':=false) hj rfl _ [] T f hT (by rw[hq];simp[hc]) (by simp[inT]) hn ?_
  intro g ho
  refine fin g w _ hw ho O ?_
  simp[hc]
theorem yn(m j:Nat)(T:List Nat){q:Prop}(r:Prop)[Decidable q][Decidable r]{gd:Option (Nat×Bool)}(hm:l.drop m=⟨some d, .pick (.tmp e) (.const (.bool true)) (.tmp t),ty,p,af,gd⟩::rest)
    (hj:yg ops j=some e) (hq:f e= .bool (decide q)) (hT:ky ops j e false [] (l.take m)=some T) (hn:zBx n (l.take m)=true) (he:inT T e=false)
    (hgd:match gd with|none=>True|some (i,b)=>∃ s,yg ops i=some s∧inT T s=false∧f s= .bool b) (hd:Nat.blt d n=true)
    (hy:¬ q→CL P n ops (l.take m) (zEX T f t (.bool (decide r)) A) f A)
    (k:∀ g,CL P n ops rest N (upd (msk f g T) d (.bool (decide (q∨r)))) A):CL P n ops l N f A:=by
  intro w hw
  rw[←List.take_append_drop m l,hm]
  have fin:∀ (g:Nat→Value) (w:World) (v:Value),A w→Out T f g→(bif decide q then .bool true else g t)=v→v= .bool (decide (q∨r))→
      WL P n ops (⟨some d, .pick (.tmp e) (.const (.bool true)) (.tmp t),ty,p,af,gd⟩::rest) N g w:=by
    intro g w v hA ho hv hv'
    have hge:g e= .bool (decide q):=(ho e he).trans hq
    have core:WL P n ops (⟨some d, .pick (.tmp e) (.const (.bool true)) (.tmp t),ty,p,af,none⟩::rest) N g w:=by
      refine kh (v:=v) (w':=w) ?_ hd ?_
      · subst hv
        by_cases hq':q<;>simp[execOp,ev,hge,hq',asBool]
      rw[hv']
      have:=k g w hA
      rw[zEj ho]at this
      exact this
    cases gd with
    |none=>exact core
    |some ib=>
      obtain⟨i,b⟩:=ib
      obtain⟨s,h1,h2,h3⟩:=hgd
      exact zKi h1 ((ho s h2).trans h3) core
  by_cases hc:q
  · refine zDX (b':=true) hj rfl _ [] T f hT (by rw[hq];simp[hc]) (by simp[inT]) hn ?_
    intro g ho
    refine fin g w _ hw ho O ?_
    simp[hc]
  refine zEI _ (hy hc w hw) ?_
  rintro g w' ⟨ho,ht,hA⟩
  refine fin g w' _ hA ho O ?_
  simp[hc,ht]
theorem zO{y:Code}{M R R':K}{X X':List (Nat×K)}{f:Nat→Value}(h:C P n y M R X f A):C P n .skip (fun f w=>W P n y M R X f w) R' X' f A:=fun w hw=>zK5 (h w hw)
theorem yC{id:Nat}{y:Code}{M M' R R':K}{X X':List (Nat×K)}{f:Nat→Value}(hk:look id X=some (fun f w=>W P n y M R X' f w))(h:C P n y M R X' f A):C P n (.exit id) M' R' X f A:=fun w hw=>zMA hk (h w hw)
def zNr(σ:Type)(sl:σ→List (Nat×Value))(Φ:σ→Prop)(w0:World)(S:List Nat)(L:σ→List Res):K:=fun f w=>∃ s:σ,Agr f (sl s)∧Φ s∧Own w0 S (L s) w
theorem j8{x y:Code}{M R:K}{X:List (Nat×K)}{f:Nat→Value}{w0:World}{S:List Nat}{L0:List Res}(σ:Type)(sl:σ→List (Nat×Value))(Φ:σ→Prop)(L:σ→List Res)(hx:C P n x (zNr σ sl Φ w0 S L) R X f (Own w0 S L0))
    (hy:∀ (s:σ) (g:Nat→Value),Φ s→C P n y M R X (zAf g (sl s)) (Own w0 S (L s))):C P n (.seq x y) M R X f (Own w0 S L0):=
  zPi _ hx fun f w ⟨s,ha,hΦ,hO⟩=>by
    have:=hy s f hΦ w hO
    rw[zBB ha]at this
    exact this
theorem zBZ{c:Code}{M R:K}{X:List (Nat×K)}{f:Nat→Value}{w0:World}{S:List Nat}{L0:List Res}(σ:Type)(sl:σ→List (Nat×Value))(Φ:σ→Prop)(L:σ→List Res)(μ:σ→Nat)(h0:∀ w,Own w0 S L0 w→zNr σ sl Φ w0 S L f w)
    (round:∀ (s:σ) (g:Nat→Value),Φ s→C P n c (fun f' w'=>∃ s':σ,Agr f' (sl s')∧Φ s'∧Own w0 S (L s') w'∧μ s'<μ s) R X (zAf g (sl s)) (Own w0 S (L s))):C P n (.loop c) M R X f (Own w0 S L0):=
  zOS σ sl (fun s w=>Φ s∧Own w0 S (L s) w) μ h0 fun s g w ⟨hΦ,hO⟩=>kd (round s g hΦ w hO) fun f' w' ⟨s',h1,h2,h3,h4⟩=>⟨s',h1,⟨h2,h3⟩,h4⟩
theorem zA8{x y:Code}{M R:K}{X:List (Nat×K)}{f:Nat→Value}{w0:World}{S:List Nat}{L0:List Res}(sl:List (Nat×Value))(Φ:Prop)(L:List Res)
    (hx:C P n x (fun f w=>Agr f (sl)∧Φ∧Own w0 S (L) w) R X f (Own w0 S L0))
    (hy:∀ (g:Nat→Value),Φ→C P n y M R X (zAf g (sl)) (Own w0 S (L))):C P n (.seq x y) M R X f (Own w0 S L0):=
  j8 (Unit) (fun s=>sl) (fun s=>Φ) (fun s=>L) (fun w hw=>kd (hx w hw) fun f w ⟨h1,h2,h3⟩=>⟨(),h1,h2,h3⟩) (fun s g h=>hy g h)
theorem yu{x y:Code}{M R:K}{X:List (Nat×K)}{f:Nat→Value}{w0:World}{S:List Nat}{L0:List Res}{α:Type}(sl:α→List (Nat×Value))(Φ:α→Prop)(L:α→List Res)
    (hx:C P n x (fun f w=>∃ (a:α),Agr f (sl a)∧Φ a∧Own w0 S (L a) w) R X f (Own w0 S L0))
    (hy:∀ (a:α) (g:Nat→Value),Φ a→C P n y M R X (zAf g (sl a)) (Own w0 S (L a))):C P n (.seq x y) M R X f (Own w0 S L0):=
  j8 (α) (fun s=>sl s) (fun s=>Φ s) (fun s=>L s) (fun w hw=>kd (hx w hw) fun f w ⟨a,h1,h2,h3⟩=>⟨a,h1,h2,h3⟩) (fun s g h=>hy s g h)
theorem xR{cc:Code}{M R:K}{X:List (Nat×K)}{f:Nat→Value}{w0:World}{S:List Nat}{L0:List Res}{α:Type}(sl:α→List (Nat×Value))(Φ:α→Prop)(L:α→List Res)(μ:α→Nat)
    (h0:∀ w,Own w0 S L0 w→∃ (a:α),Agr f (sl a)∧Φ a∧Own w0 S (L a) w)
    (round:∀ (a:α) (g:Nat→Value),Φ a→C P n cc (fun f' w'=>∃ (a':α),Agr f' (sl a')∧Φ a'∧Own w0 S (L a') w'∧μ a'<μ a) R X (zAf g (sl a)) (Own w0 S (L a))):C P n (.loop cc) M R X f (Own w0 S L0):=
  zBZ (α) (fun s=>sl s) (fun s=>Φ s) (fun s=>L s) (fun s=>μ s) (fun w hw=>let ⟨a,h1,h2,h3⟩:=h0 w hw;⟨a,h1,h2,h3⟩)
    (fun s g h w hw=>kd (round s g h w hw) fun f' w' ⟨a',h1,h2,h3,h4⟩=>⟨a',h1,h2,h3,h4⟩)
theorem zAE{x y:Code}{M R:K}{X:List (Nat×K)}{f:Nat→Value}{w0:World}{S:List Nat}{L0:List Res}{α β:Type}(sl:α→β→List (Nat×Value))(Φ:α→β→Prop)(L:α→β→List Res)
    (hx:C P n x (fun f w=>∃ (a:α) (b:β),Agr f (sl a b)∧Φ a b∧Own w0 S (L a b) w) R X f (Own w0 S L0))
    (hy:∀ (a:α) (b:β) (g:Nat→Value),Φ a b→C P n y M R X (zAf g (sl a b)) (Own w0 S (L a b))):C P n (.seq x y) M R X f (Own w0 S L0):=
  j8 (α×β) (fun s=>sl s.1 s.2) (fun s=>Φ s.1 s.2) (fun s=>L s.1 s.2) (fun w hw=>kd (hx w hw) fun f w ⟨a,b,h1,h2,h3⟩=>⟨(a,b),h1,h2,h3⟩) (fun s g h=>hy s.1 s.2 g h)
theorem y1{cc:Code}{M R:K}{X:List (Nat×K)}{f:Nat→Value}{w0:World}{S:List Nat}{L0:List Res}{α β:Type}(sl:α→β→List (Nat×Value))(Φ:α→β→Prop)(L:α→β→List Res)(μ:α→β→Nat)
    (h0:∀ w,Own w0 S L0 w→∃ (a:α) (b:β),Agr f (sl a b)∧Φ a b∧Own w0 S (L a b) w)
    (round:∀ (a:α) (b:β) (g:Nat→Value),Φ a b→C P n cc (fun f' w'=>∃ (a':α) (b':β),Agr f' (sl a' b')∧Φ a' b'∧Own w0 S (L a' b') w'∧μ a' b'<μ a b) R X (zAf g (sl a b)) (Own w0 S (L a b))):C P n (.loop cc) M R X f (Own w0 S L0):=
  zBZ (α×β) (fun s=>sl s.1 s.2) (fun s=>Φ s.1 s.2) (fun s=>L s.1 s.2) (fun s=>μ s.1 s.2) (fun w hw=>let ⟨a,b,h1,h2,h3⟩:=h0 w hw;⟨(a,b),h1,h2,h3⟩)
    (fun s g h w hw=>kd (round s.1 s.2 g h w hw) fun f' w' ⟨a',b',h1,h2,h3,h4⟩=>⟨(a',b'),h1,h2,h3,h4⟩)
theorem jo{x y:Code}{M R:K}{X:List (Nat×K)}{f:Nat→Value}{w0:World}{S:List Nat}{L0:List Res}{α β γ:Type}(sl:α→β→γ→List (Nat×Value))(Φ:α→β→γ→Prop)(L:α→β→γ→List Res)
    (hx:C P n x (fun f w=>∃ (a:α) (b:β) (c:γ),Agr f (sl a b c)∧Φ a b c∧Own w0 S (L a b c) w) R X f (Own w0 S L0))
    (hy:∀ (a:α) (b:β) (c:γ) (g:Nat→Value),Φ a b c→C P n y M R X (zAf g (sl a b c)) (Own w0 S (L a b c))):C P n (.seq x y) M R X f (Own w0 S L0):=
  j8 (α×β×γ) (fun s=>sl s.1 s.2.1 s.2.2) (fun s=>Φ s.1 s.2.1 s.2.2) (fun s=>L s.1 s.2.1 s.2.2) (fun w hw=>kd (hx w hw) fun f w ⟨a,b,c,h1,h2,h3⟩=>⟨(a,b,c),h1,h2,h3⟩) (fun s g h=>hy s.1 s.2.1 s.2.2 g h)
theorem xj{cc:Code}{M R:K}{X:List (Nat×K)}{f:Nat→Value}{w0:World}{S:List Nat}{L0:List Res}{α β γ:Type}(sl:α→β→γ→List (Nat×Value))(Φ:α→β→γ→Prop)(L:α→β→γ→List Res)(μ:α→β→γ→Nat)
    (h0:∀ w,Own w0 S L0 w→∃ (a:α) (b:β) (c:γ),Agr f (sl a b c)∧Φ a b c∧Own w0 S (L a b c) w)
    (round:∀ (a:α) (b:β) (c:γ) (g:Nat→Value),Φ a b c→C P n cc (fun f' w'=>∃ (a':α) (b':β) (c':γ),Agr f' (sl a' b' c')∧Φ a' b' c'∧Own w0 S (L a' b' c') w'∧μ a' b' c'<μ a b c) R X (zAf g (sl a b c)) (Own w0 S (L a b c))):C P n (.loop cc) M R X f (Own w0 S L0):=
  zBZ (α×β×γ) (fun s=>sl s.1 s.2.1 s.2.2) (fun s=>Φ s.1 s.2.1 s.2.2) (fun s=>L s.1 s.2.1 s.2.2) (fun s=>μ s.1 s.2.1 s.2.2) (fun w hw=>let ⟨a,b,c,h1,h2,h3⟩:=h0 w hw;⟨(a,b,c),h1,h2,h3⟩)
    (fun s g h w hw=>kd (round s.1 s.2.1 s.2.2 g h w hw) fun f' w' ⟨a',b',c',h1,h2,h3,h4⟩=>⟨(a',b',c'),h1,h2,h3,h4⟩)
theorem zM0{cc:Code}{M R:K}{X:List (Nat×K)}{f:Nat→Value}{w0:World}{S:List Nat}{L0:List Res}{α β γ δ:Type}(sl:α→β→γ→δ→List (Nat×Value))(Φ:α→β→γ→δ→Prop)(L:α→β→γ→δ→List Res)(μ:α→β→γ→δ→Nat)
    (h0:∀ w,Own w0 S L0 w→∃ (a:α) (b:β) (c:γ) (d:δ),Agr f (sl a b c d)∧Φ a b c d∧Own w0 S (L a b c d) w)
    (round:∀ (a:α) (b:β) (c:γ) (d:δ) (g:Nat→Value),Φ a b c d→C P n cc (fun f' w'=>∃ (a':α) (b':β) (c':γ) (d':δ),Agr f' (sl a' b' c' d')∧Φ a' b' c' d'∧Own w0 S (L a' b' c' d') w'∧μ a' b' c' d'<μ a b c d) R X (zAf g (sl a b c d)) (Own w0 S (L a b c d))):C P n (.loop cc) M R X f (Own w0 S L0):=
  zBZ (α×β×γ×δ) (fun s=>sl s.1 s.2.1 s.2.2.1 s.2.2.2) (fun s=>Φ s.1 s.2.1 s.2.2.1 s.2.2.2) (fun s=>L s.1 s.2.1 s.2.2.1 s.2.2.2) (fun s=>μ s.1 s.2.1 s.2.2.1 s.2.2.2) (fun w hw=>let ⟨a,b,c,d,h1,h2,h3⟩:=h0 w hw;⟨(a,b,c,d),h1,h2,h3⟩)
    (fun s g h w hw=>kd (round s.1 s.2.1 s.2.2.1 s.2.2.2 g h w hw) fun f' w' ⟨a',b',c',d',h1,h2,h3,h4⟩=>⟨(a',b',c',d'),h1,h2,h3,h4⟩)
theorem zNT{cc:Code}{M R:K}{X:List (Nat×K)}{f:Nat→Value}{w0:World}{S:List Nat}{L0:List Res}{α β γ δ ε:Type}(sl:α→β→γ→δ→ε→List (Nat×Value))(Φ:α→β→γ→δ→ε→Prop)(L:α→β→γ→δ→ε→List Res)(μ:α→β→γ→δ→ε→Nat)
    (h0:∀ w,Own w0 S L0 w→∃ (a:α) (b:β) (c:γ) (d:δ) (e:ε),Agr f (sl a b c d e)∧Φ a b c d e∧Own w0 S (L a b c d e) w)
    (round:∀ (a:α) (b:β) (c:γ) (d:δ) (e:ε) (g:Nat→Value),Φ a b c d e→C P n cc (fun f' w'=>∃ (a':α) (b':β) (c':γ) (d':δ) (e':ε),Agr f' (sl a' b' c' d' e')∧Φ a' b' c' d' e'∧Own w0 S (L a' b' c' d' e') w'∧μ a' b' c' d' e'<μ a b c d e) R X (zAf g (sl a b c d e)) (Own w0 S (L a b c d e))):C P n (.loop cc) M R X f (Own w0 S L0):=
  zBZ (α×β×γ×δ×ε) (fun s=>sl s.1 s.2.1 s.2.2.1 s.2.2.2.1 s.2.2.2.2) (fun s=>Φ s.1 s.2.1 s.2.2.1 s.2.2.2.1 s.2.2.2.2) (fun s=>L s.1 s.2.1 s.2.2.1 s.2.2.2.1 s.2.2.2.2) (fun s=>μ s.1 s.2.1 s.2.2.1 s.2.2.2.1 s.2.2.2.2) (fun w hw=>let ⟨a,b,c,d,e,h1,h2,h3⟩:=h0 w hw;⟨(a,b,c,d,e),h1,h2,h3⟩)
    (fun s g h w hw=>kd (round s.1 s.2.1 s.2.2.1 s.2.2.2.1 s.2.2.2.2 g h w hw) fun f' w' ⟨a',b',c',d',e',h1,h2,h3,h4⟩=>⟨(a',b',c',d',e'),h1,h2,h3,h4⟩)
theorem gT{q:Prop}[Decidable q](h:q):Value.bool (decide q)= .bool true:=by rw[decide_eq_true h]
theorem gF{q:Prop}[Decidable q](h:¬ q):Value.bool (decide q)= .bool false:=by rw[decide_eq_false h]
end
theorem zCW{L L':List Res}:∀ {m:List Nat},m.mapM (fun i=>L[i]?)=some L'→∀ (i:Nat) (r:Res),L'[i]?=some r→∃ k,m[i]?=some k∧L[k]?=some r:=by
  intro m
  induction m generalizing L' with
  |nil=>intro h i r hr;simp at h;subst h;simp at hr
  |cons k m ih=>
    intro h i r hr
    simp only[List.mapM_cons,bind,Option.bind_eq_some_iff,pure]at h
    obtain⟨a,ha,l,hl,h⟩:=h
    simp at h;subst h
    cases i with
    |zero=>simp at hr;subst hr;exact⟨k,rfl,ha⟩
    |succ i=>simp at hr;exact ih hl i r hr
theorem zKo{L L':List Res}:∀ {m:List Nat},m.mapM (fun i=>L[i]?)=some L'→L'.length=m.length:=by
  intro m
  induction m generalizing L' with
  |nil=>intro h;simp at h;subst h;rfl
  |cons k m ih=>
    intro h
    simp only[List.mapM_cons,bind,Option.bind_eq_some_iff,pure]at h
    obtain⟨a,ha,l,hl,h⟩:=h
    simp at h;subst h
    simp[ih hl]
section
variable {w0 w:World} {S:List Nat} {L:List Res}
theorem Own.sel{L':List Res}(m:List Nat)(hm:m.mapM (fun i=>L[i]?)=some L')(hn:m.Nodup)(h:Own w0 S L w):Own w0 S L' w:=by
  refine h.pick (fun i=>m[i]?.getD 0) ?_ ?_
  · intro i r hr
    obtain⟨k,h1,h2⟩:=zCW hm i r hr
    simp only[h1,Option.getD_some]
    exact h2
  intro i j hi hj hij
  rw[zKo hm]at hi hj
  simp only[List.getElem?_eq_getElem hi,List.getElem?_eq_getElem hj,Option.getD_some]at hij
  exact(List.getElem_inj hn).1 hij
def Res.buf(o:Nat)(T:TypeId)(v:Value)(bs:List UInt8):Res where
  fp:=o::zAx v
  φ w:=Row w o T [v]∧Sl w v bs.length (bs.map vb)∧o∉zAx v
  st w w' h hb:=by
    obtain⟨⟨lo,hi,h1,h2⟩,h3,h4⟩:=h
    exact⟨⟨lo,hi,by rw[hb o qQ];exact h1,h2⟩,h3.st fun b hb'=>hb b (by simp[hb']),h4⟩
  lt w h b hb:=by
    obtain⟨⟨lo,hi,h1,h2⟩,h3,h4⟩:=h
    simp only[List.mem_cons]at hb
    rcases hb with rfl|hb
    · exact(Array.getElem?_eq_some_iff.1 h1).1
    exact(Res.sl v bs.length (bs.map vb)).lt w h3 b hb
theorem Own.split{i:Nat}{r r1 r2:Res}(hL:L[i]?=some r)(h1:r.φ w→r1.φ w)(h2:r.φ w→r2.φ w)(hf1:∀ b∈r1.fp,b∈r.fp)(hf2:∀ b∈r2.fp,b∈r.fp)(hd:r.φ w→∀ b∈r1.fp,b∉r2.fp)(h:Own w0 S L w):Own w0 S (L.set i r1++[r2]) w:=by
  have hr:=h.holds i r hL
  refine h.frame1 hL (E:=[r2]) ⟨Keep.refl _ _,?_,?_,?_⟩
  · intro a b s t hab hs ht
    match a,b with
    |0,0=>omega
    |1,1=>omega
    |0,1=>simp at hs ht;subst hs;subst ht;exact hd hr
    |1,0=>simp at hs ht;subst hs;subst ht;exact fun b hb hb'=>hd hr b hb' hb
    |a+2,_=>simp at hs
    |_,b+2=>simp at ht
  · intro a s hs
    match a with
    |0=>simp at hs;subst hs;exact h1 hr
    |1=>simp at hs;subst hs;exact h2 hr
    |a+2=>simp at hs
  intro a s hs b hb
  match a with
  |0=>simp at hs;subst hs;exact .inl (hf1 b hb)
  |1=>simp at hs;subst hs;exact .inl (hf2 b hb)
  |a+2=>simp at hs
theorem Own.join{i j:Nat}{r r1 r2:Res}(hij:i≠j)(h1:L[i]?=some r1)(h2:L[j]?=some r2)(hφ:r1.φ w→r2.φ w→(∀ b∈r1.fp,b∉r2.fp)→r.φ w)(hf:∀ b∈r.fp,b∈r1.fp∨b∈r2.fp)(h:Own w0 S L w):Own w0 S ((L.set i r).eraseIdx j) w:=by
  have hr:r.φ w:=hφ (h.holds i r1 h1) (h.holds j r2 h2) (h.apart i j r1 r2 hij h1 h2)
  have hi:i<L.length:=(List.getElem?_eq_some_iff.1 h1).1
  -- where an entry of the new list stood
  have hat:∀ (a:Nat) (s:Res),((L.set i r).eraseIdx j)[a]?=some s→∃ k,k≠j∧(k=if a<j then a else a+1)∧(L.set i r)[k]?=some s:=by
    intro a s hs
    rw[List.getElem?_eraseIdx]at hs
    split at hs
    · rename_i hlt;exact⟨a,by omega,by rw[if_pos hlt],hs⟩
    rename_i hlt;exact⟨a+1,by omega,by rw[if_neg hlt],hs⟩
  have hset:∀ (k:Nat) (s:Res),(L.set i r)[k]?=some s→(k=i∧s=r)∨(k≠i∧L[k]?=some s):=by
    intro k s hs
    by_cases hk:k=i
    · subst hk;rw[List.getElem?_set_self hi]at hs;exact .inl ⟨rfl,(Option.some.inj hs).symm⟩
    rw[List.getElem?_set_ne (Ne.symm hk)]at hs;exact .inr ⟨hk,hs⟩
  have far:∀ (k:Nat) (s:Res),k≠i→k≠j→L[k]?=some s→∀ b∈s.fp,b∉r.fp:=by
    intro k s hki hkj hs b hb hb'
    rcases hf b hb' with h'|h'
    · exact h.apart k i s r1 hki hs h1 b hb h'
    exact h.apart k j s r2 hkj hs h2 b hb h'
  refine⟨h.keep,?_,?_,?_⟩
  · intro a b s t hab hs ht
    obtain⟨k,hk1,hk2,hk3⟩:=hat a s hs
    obtain⟨l,hl1,hl2,hl3⟩:=hat b t ht
    have hkl:k≠l:=by
      rw[hk2,hl2];split<;>split<;>omega
    rcases hset k s hk3 with⟨e1,e2⟩|⟨e1,e2⟩<;>rcases hset l t hl3 with⟨d1,d2⟩|⟨d1,d2⟩
    · omega
    · rw[e2];exact fun b hb hb'=>far l t d1 hl1 d2 b hb' hb
    · rw[d2];exact far k s e1 hk1 e2
    exact h.apart k l s t hkl e2 d2
  · intro a s hs
    obtain⟨k,hk1,hk2,hk3⟩:=hat a s hs
    rcases hset k s hk3 with⟨e1,e2⟩|⟨e1,e2⟩
    · rw[e2];exact hr
    exact h.holds k s e2
  intro a s hs b hb
  obtain⟨k,hk1,hk2,hk3⟩:=hat a s hs
  rcases hset k s hk3 with⟨e1,e2⟩|⟨e1,e2⟩
  · rw[e2]at hb
    rcases hf b hb with h'|h'
    · exact h.fresh i r1 h1 b h'
    exact h.fresh j r2 h2 b h'
  exact h.fresh k s e2 b hb
def Res.both(r s:Res):Res where
  fp:=r.fp++s.fp
  φ w:=r.φ w∧s.φ w∧∀ b∈r.fp,b∉s.fp
  st w w' h hb:=⟨r.st w w' h.1 fun b hb'=>hb b (by simp[hb']),s.st w w' h.2.1 fun b hb'=>hb b (by simp[hb']),h.2.2⟩
  lt w h b hb:=by
    rcases List.mem_append.1 hb with hb|hb
    · exact r.lt w h.1 b hb
    exact s.lt w h.2.1 b hb
theorem Own.splitBoth{i:Nat}{r s:Res}(hL:L[i]?=some (r.both s))(h:Own w0 S L w):Own w0 S (L.set i r++[s]) w:=
  h.split hL (fun h=>h.1) (fun h=>h.2.1) (fun b hb=>List.mem_append.2 (.inl hb)) (fun b hb=>List.mem_append.2 (.inr hb)) (fun h=>h.2.2)
theorem Own.joinBoth{i j:Nat}{r s:Res}(hij:i≠j)(h1:L[i]?=some r)(h2:L[j]?=some s)(h:Own w0 S L w):Own w0 S ((L.set i (r.both s)).eraseIdx j) w:=
  h.join (r:=r.both s) hij h1 h2 (fun a b c=>⟨a,b,c⟩) (fun b hb=>List.mem_append.1 hb)
theorem Own.qh{i sz n:Nat}{e:TypeId}{v:Value}{cs:List Value}(hL:L[i]?=some (Res.vec e sz v n cs))(h:Own w0 S L w):cell1 v=true:=by
  rcases(h.holds i _ hL).2 with⟨rfl,_⟩|⟨g,cap,cur,rfl,_⟩<;>rfl
theorem Sl.cell1{v:Value}{n:Nat}{cs:List Value}(h:Sl w v n cs):cell1 v=true:=by
  rcases h with⟨a,rfl,_⟩|⟨b,off,cap,rfl,_⟩<;>rfl
end
theorem zBY{α:Type}{g:α→List Value}{sz:Nat}(h:∀ x,(g x).length=sz):∀ (l:List α) (j i:Nat) (x:α),l[j]?=some x→i<sz→(l.flatMap g)[j*sz+i]?=(g x)[i]?
  | [],j,i,x,hj,hi=>by simp at hj
  |y::l,0,i,x,hj,hi=>by
    simp at hj;subst hj
    rw[List.flatMap_cons,Nat.zero_mul,Nat.zero_add,List.getElem?_append_left (by rw[h];exact hi)]
  |y::l,j+1,i,x,hj,hi=>by
    simp at hj
    rw[List.flatMap_cons,List.getElem?_append_right (by rw[h,Nat.add_mul];omega),h]
    rw[show(j+1)*sz+i - sz=j*sz+i by rw[Nat.add_mul];omega]
    exact zBY h l j i x hj hi
theorem jg{α:Type}{g:α→List Value}{sz:Nat}(h:∀ x,(g x).length=sz):∀ (l:List α),(l.flatMap g).length=l.length*sz
  | []=>by simp
  |y::l=>by rw[List.flatMap_cons,List.length_append,h,jg h l,List.length_cons,Nat.add_mul];omega
theorem Sl.shape{w:World}{v:Value}{n:Nat}{cs:List Value}(h:Sl w v n cs):∃ a cap,v= .slice a n cap∧n≤cap∧cap≤9223372036854775807∧(0<n→∃ b off,a=some ⟨b,off,none⟩):=by
  rcases h with⟨a,rfl,rfl,_⟩|⟨b,off,cap,rfl,h1,h2,_⟩
  · exact⟨a,0,rfl,Nat.le_refl _,by omega,fun h=>by omega⟩
  exact⟨_,cap,rfl,h1.1,h2,fun _=>⟨b,off,rfl⟩⟩
theorem Sl.elt{α:Type}{g:α→List Value}{sz:Nat}{w:World}{l:List α}{b off n cap:Nat}(hg:∀ x,(g x).length=sz)(h:Sl w (.slice (some ⟨b,off,none⟩) n cap) l.length (l.flatMap g)){j:Nat}{x:α}(hj:l[j]?=some x):
    ∀ i u,(g x)[i]?=some u→w.cell? ⟨b,off+j*sz+i,none⟩=some u:=by
  intro i u hu
  rcases h with⟨a,e,h0,h1⟩|⟨b',off',cap',e,_,_,_,h4⟩
  · have:=List.eq_nil_of_length_eq_zero h0;subst this;simp at hj
  simp only[Value.slice.injEq,Option.some.injEq,Addr.mk.injEq]at e
  obtain⟨⟨rfl,rfl, -⟩,rfl,rfl⟩:=e
  rw[Nat.add_assoc]
  refine h4 _ u ?_
  rw[zBY hg l j i x hj (by rw[←hg x];exact(List.getElem?_eq_some_iff.1 hu).1)]
  exact hu
theorem zA1{α:Type}(l:List α)(j:Nat)(f:α→α)(h:j<l.length):l.modify j f=l.set j (f l[j]):=by
  apply List.ext_getElem?
  intro m
  rw[List.getElem?_modify,List.getElem?_set]
  by_cases hm:j=m
  · subst hm;simp[h]
  simp[hm]
structure KeyL{κ:Type}[DecidableEq κ](P:Program)(kt:TypeId)(ke:κ→Value):Prop where
  desc:∃ d,P.underlying kt=some d∧(∀ a b,Instr.sameNow d (ke a) (ke b)=some (decide (a=b)))∧((∃ q,d= .int q)∨d= .string)
  bits:∀ a,Instr.sameBits 10000 (ke a) (ke a)=true
theorem zLu{P:Program}{kt:TypeId}{q:IntKind}(h:zFO P kt=some q):KeyL P kt (fun n:Nat=>Value.int q n):=by
  unfold zFO at h
  split at h
  · rename_i k hk
    simp at h;subst h
    refine⟨⟨_,hk,fun a b=> ?_, .inl ⟨_,O⟩⟩,fun a=> ?_⟩
    · simp only[Instr.sameNow,if_true]
      congr 1
      by_cases hab:a=b
      · subst hab;simp
      rw[decide_eq_false hab,beq_eq_false_iff_ne];omega
    simp[Instr.sameBits]
  cases h
def j0(es:Array MapEntry)(clock:Nat):Prop:=(∀ e∈es.toList,e.born<clock)∧(es.toList.map (·.born)).Nodup
section
variable {κ:Type} [DecidableEq κ] {P:Program} {kt vt t:TypeId} {ke:κ→Value}
def Res.map(ke:κ→Value)(b:Nat)(kv:List (κ×Value)):Res where
  fp:=[b]
  φ w:=∃ es clock,w.heap[b]?=some (.map es clock)∧es.toList.map (fun e=>(e.key,e.val))=kv.map (fun p=>(ke p.1,p.2))∧j0 es clock
  st w w' h hb:=by
    obtain⟨es,clock,h1,h2⟩:=h
    exact⟨es,clock,by rw[hb b qQ];exact h1,h2⟩
  lt w h b' hb':=by
    obtain⟨es,clock,h1,h2⟩:=h
    simp at hb';subst hb'
    exact(Array.getElem?_eq_some_iff.1 h1).1
def jy(k:κ):List (κ×Value)→Nat→Option (Nat×Value)
  | [],_=>none
  |(x,v)::r,i=>if k=x then some (i,v)else jy k r (i+1)
def zMr(k:κ)(kv:List (κ×Value)):Option Value:=(jy k kv 0).map (·.2)
theorem zIP(K:KeyL P kt ke)(k:κ):∀ (es:List MapEntry) (kv:List (κ×Value)) (i:Nat),es.map (fun e=>(e.key,e.val))=kv.map (fun p=>(ke p.1,p.2))→
    ∀ d,P.underlying kt=some d→(∀ a b,Instr.sameNow d (ke a) (ke b)=some (decide (a=b)))→Instr.findNow d (ke k) es i=some (jy k kv i)
  | [],[],i,_,d,_,_=>rfl
  | [],_::_,i,h,d,_,_=>by simp at h
  |_::_,[],i,h,d,_,_=>by simp at h
  |e::es,(x,v)::kv,i,h,d,hd,hs=>by
    simp only[List.map_cons,List.cons.injEq,Prod.mk.injEq]at h
    obtain⟨⟨h1,h2⟩,h3⟩:=h
    unfold Instr.findNow jy
    rw[h1,hs]
    by_cases hkx:k=x
    · subst hkx;simp[h2]
    simp only[hkx,decide_false,if_false]
    exact zIP K k es kv (i+1) h3 d hd hs
theorem zFy(K:KeyL P kt ke)(k:κ){es:List MapEntry}{kv:List (κ×Value)}(h:es.map (fun e=>(e.key,e.val))=kv.map (fun p=>(ke p.1,p.2)))(w:World):(Instr.findKey kt (ke k) es).run P w= .ok (jy k kv 0) w:=by
  obtain⟨d,hd,hs,_⟩:=K.desc
  simp[Instr.findKey,z5 hd,zIP K k es kv 0 h d hd hs]
theorem zEG(K:KeyL P kt ke)(em:Bool)(k:κ)(w:World):(Instr.checkKey em 10000 kt (ke k)).run P w= .ok () w:=by
  obtain⟨d,hd,hs,hp⟩:=K.desc
  have:∀ m,(Instr.checkKey em (m+1) kt (ke k)).run P w= .ok () w:=by
    intro m
    unfold Instr.checkKey
    rcases hp with⟨q,rfl⟩|rfl
    · simp[z5 hd]
    simp[z5 hd]
  exact this 9999
theorem zJk(K:KeyL P kt ke)(k:κ)(w:World):(Instr.keyThatStays (ke k) (ke k)).run P w= .ok (ke k) w:=by
  simp[Instr.keyThatStays,K.bits k]
theorem zEM{k:κ}:∀ {kv:List (κ×Value)} {i j:Nat} {v:Value},jy k kv i=some (j,v)→i≤j∧kv[j - i]?=some (k,v)
  | [],i,j,v,h=>by simp[jy]at h
  |(x,u)::r,i,j,v,h=>by
    unfold jy at h
    split at h
    · rename_i hk
      simp at h
      obtain⟨rfl,rfl⟩:=h
      subst hk
      simp
    have:=zEM h
    refine⟨by omega,?_⟩
    rw[show j - i=(j - (i+1))+1 by omega]
    simpa using this.2
def zD0(k:κ)(v:Value)(kv:List (κ×Value)):List (κ×Value):=
  match jy k kv 0 with
  |some (j,_)=>kv.set j (k,v)
  |none=>kv++[(k,v)]
def delK(k:κ)(kv:List (κ×Value)):List (κ×Value):=
  match jy k kv 0 with
  |some (j,_)=>kv.eraseIdx j
  |none=>kv
theorem zCh{w:World}{b:Nat}{es:Array MapEntry}{clock:Nat}(h:w.heap[b]?=some (.map es clock)):(getObj b).run P w= .ok (.map es clock) w:=by
  simp[getObj,Sem.run,h]
theorem zA7{w:World}{b:Nat}{es:Array MapEntry}{clock:Nat}(h:w.heap[b]?=some (.map es clock))(o:Obj):(setObj b o).run P w= .ok () {w with heap:=w.heap.setIfInBounds b o}:=by
  simp[setObj,Sem.run,h]
theorem zDG{w0 w:World}{S:List Nat}{L:List Res}{i b:Nat}{kv kv':List (κ×Value)}{es':Array MapEntry}{clock':Nat}(hw:Own w0 S L w)(hL:L[i]?=some (Res.map ke b kv))
    (h1:es'.toList.map (fun e=>(e.key,e.val))=kv'.map (fun p=>(ke p.1,p.2))) (h2:j0 es' clock'):Own w0 S (L.set i (Res.map ke b kv')) {w with heap:=w.heap.setIfInBounds b (.map es' clock')}:=by
  have hb:b<w.heap.size:=hw.lt hL b (by simp[Res.map])
  have:=hw.frame1 (r':=Res.map ke b kv') (E:=[]) hL (Own.mk1 (w':={w with heap:=w.heap.setIfInBounds b (.map es' clock')}) ⟨rfl,rfl,rfl,by simp,fun k hk hS=> ?_⟩ ⟨es',clock',?_,h1,h2⟩ (fun b' hb'=> .inl hb'))
  · simpa using this
  · simp only[Res.map,List.mem_singleton]at hS
    simp only[Array.getElem?_setIfInBounds_ne (Ne.symm hS)]
  simp[Array.getElem?_setIfInBounds_self,hb]
variable {n:Nat} {ops:Array Oper} {N:K} {f:Nat→Value} {rest:List Oper} {d:Nat} {ty:TypeId} {p:String} {af:Array Edge} {x y z:Operand} {w0:World} {S:List Nat} {L:List Res} {A:World→Prop}
theorem zMj(ke:κ→Value){o:Option Operand}(ho:o=none)(hd:Nat.blt d n=true)(k:∀ b,CL P n ops rest N (upd f d (.map (some b))) (Own w0 S (L++[Res.map ke b []]))):
    CL P n ops (⟨some d, .makeMap t o,ty,p,af,none⟩::rest) N f (Own w0 S L):=by
  intro w hw
  subst ho
  have hO:Own w [] [Res.map ke w.heap.size []] (w.alloc (.map #[] 0)):=
    Own.mk1 ⟨rfl,rfl,rfl,by simp,fun k hk _=>heap_alloc_old w _ k hk⟩ ⟨#[],0,heap_alloc_new w _,rfl,by simp[j0]⟩ (fun b hb=>by simp[Res.map]at hb;right;omega)
  refine kh (w':=w.alloc (.map #[] 0)) ?_ hd (k w.heap.size _ (hw.qi hO))
  simp[execOp,Instr.makeMap,newObj,Sem.run]
def zGB(P:Program)(t:TypeId):Option (TypeId×TypeId):=match P.underlying t with|some (.map k v)=>some (k,v)|_=>none
theorem zAV(h:zGB P t=some (kt,vt)):P.underlying t=some (.map kt vt):=by
  unfold zGB at h
  split at h
  · rename_i k v hk;simp at h;obtain⟨rfl,rfl⟩:=h;exact hk
  cases h
theorem zL0{v:Value}(h:zBT P vt=some v)(w:World):(zeroValue vt).run P w= .ok v w:=by
  simp only[zBT,Option.bind_eq_some_iff]at h
  obtain⟨i0,hi0,hz0⟩:=h
  simp[zeroValue,typeInfo,hi0,hz0]
theorem zQL{b:Nat}{kv:List (κ×Value)}{k:κ}{zv:Value}{res:Option Value}(hg:zMr k kv=res)(K:KeyL P kt ke)(ht:zGB P t=some (kt,vt))(hz:zBT P vt=some zv)(hx:ev f x= .map (some b))(hy:ev f y=ke k)(hA:∀ w,A w→(Res.map ke b kv).φ w):
    RV P f ⟨some d, .lookup t x y true,ty,p,af,none⟩ A (.tuple #[res.getD zv, .bool res.isSome]):=fun w hw=>by
  subst hg
  obtain⟨es,clock,h1,h2,h3⟩:=hA w hw
  have e1:=zCh (P:=P) h1
  have e2:=zEG K es.isEmpty k w
  have e3:=zFy K k h2 w
  have e4:=zL0 hz w
  cases hi:jy k kv 0 with
  |none=>simp[execOp,hx,hy,Instr.lookup,z5 (zAV ht),e1,e2,e3,hi,e4,zMr]
  |some q=>simp[execOp,hx,hy,Instr.lookup,z5 (zAV ht),e1,e2,e3,hi,zMr]
theorem zHA{es:Array MapEntry}{clock:Nat}(h:j0 es clock)(e:MapEntry)(he:e.born=clock):j0 (es.push e) (clock+1):=by
  refine⟨fun x hx=> ?_,?_⟩
  · simp only[Array.toList_push,List.mem_append,List.mem_singleton]at hx
    rcases hx with hx|rfl
    · have:=h.1 x hx;omega
    omega
  simp only[Array.toList_push,List.map_append,List.map_cons,List.map_nil]
  rw[List.nodup_append]
  refine⟨h.2,by simp,?_⟩
  intro a ha b hb
  simp at hb;subst hb
  obtain⟨x,hx,rfl⟩:=List.mem_map.1 ha
  have:=h.1 x hx
  omega
theorem zMx(K:KeyL P kt ke)(ht:zGB P t=some (kt,vt)){i b:Nat}{kv:List (κ×Value)}{k:κ}{v:Value}{w:World}(hw:Own w0 S L w)(hL:L[i]?=some (Res.map ke b kv)):
    ∃ w',(Instr.mapUpdate t (.map (some b)) (ke k) v).run P w= .ok () w'∧Own w0 S (L.set i (Res.map ke b (zD0 k v kv))) w':=by
  obtain⟨es,clock,h1,h2,h3⟩:=hw.holds i _ hL
  have e1:=zCh (P:=P) h1
  have e2:=zEG K false k w
  have e3:=zFy K k h2 w
  cases hi:jy k kv 0 with
  |none=>
    refine⟨_,?_,zDG (es':=es.push ⟨ke k,v,clock⟩) (clock':=clock+1) (kv':=zD0 k v kv) hw hL ?_ (zHA h3 _ O)⟩
    · simp[Instr.mapUpdate,z5 (zAV ht),e1,e2,e3,hi,zA7 (P:=P) h1]
    simp[zD0,hi,h2]
  |some q=>
    obtain⟨j,u⟩:=q
    obtain⟨_,hj⟩:=zEM hi
    simp only[Nat.sub_zero]at hj
    have hjl:j<es.toList.length:=by
      have hl:=congrArg List.length h2
      simp only[List.length_map]at hl
      rw[hl];exact(List.getElem?_eq_some_iff.1 hj).1
    have hkey:(es[j]?.map (·.key)).getD (ke k)=ke k:=by
      have:=congrArg (·[j]?) h2
      simp only[List.getElem?_map,hj,Option.map_some]at this
      cases he:es[j]? with
      |none=>rfl
      |some e=>
        rw[←Array.getElem?_toList]at he
        rw[he]at this
        simp at this
        simp[this.1]
    have e5:=zJk K k w
    refine⟨_,?_,zDG (es':=es.modify j fun e=>{e with key:=ke k,val:=v}) (clock':=clock) (kv':=zD0 k v kv) hw hL ?_ ⟨?_,?_⟩⟩
    · simp only[Instr.mapUpdate]
      simp[z5 (zAV ht),e1,e2,e3,hi,zA7 (P:=P) h1]
      rw[hkey,e5]
      simp[zA7 (P:=P) h1]
    · simp only[zD0,hi]
      rw[Array.toList_modify,zA1 _ _ _ hjl]
      simp only[List.map_set,h2]
    · intro e he
      rw[Array.toList_modify,zA1 _ _ _ hjl]at he
      rcases List.mem_or_eq_of_mem_set he with he|rfl
      · exact h3.1 e he
      exact h3.1 (es.toList[j]) (List.getElem_mem hjl)
    rw[Array.toList_modify,zA1 _ _ _ hjl]
    simp only[List.map_set]
    have:(es.toList.map (·.born)).set j es.toList[j].born=es.toList.map (·.born):=by
      apply List.ext_getElem?
      intro m
      rw[List.getElem?_set]
      split
      · rename_i hm;subst hm;simp only[List.length_map,hjl,if_true,List.getElem?_map,List.getElem?_eq_getElem hjl,Option.map_some]
      rfl
    rw[this];exact h3.2
theorem zPe(i:Nat){b:Nat}{kv:List (κ×Value)}{k:κ}{v:Value}(K:KeyL P kt ke)(ht:zGB P t=some (kt,vt))(hx:ev f x= .map (some b))(hy:ev f y=ke k)(hz:ev f z=v)(hL:L[i]?=some (Res.map ke b kv))
    (kk:CL P n ops rest N f (Own w0 S (L.set i (Res.map ke b (zD0 k v kv))))):CL P n ops (⟨none, .mapUpdate t x y z,ty,p,af,none⟩::rest) N f (Own w0 S L):=by
  intro w hw
  obtain⟨w',hr,hO⟩:=zMx (v:=v) K ht hw hL
  refine zCY (w':=w') ?_ (kk _ hO)
  simp[execOp,hx,hy,hz,hr]
end
end Go.Sc
