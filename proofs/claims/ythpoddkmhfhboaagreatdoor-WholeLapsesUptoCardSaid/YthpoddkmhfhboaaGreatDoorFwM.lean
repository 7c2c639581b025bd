import Derived.Test.YthpoddkmhfhboaaGreatDoorFw8
set_option linter.unusedSectionVars false
set_option linter.unusedSimpArgs false
set_option linter.unusedVariables false
namespace Go.Sc
def inT(T:List Nat)(i:Nat):Bool:=T.any (Nat.beq i)
def msk(f g:Nat→Value)(T:List Nat):Nat→Value:=fun i=>bif inT T i then g i else f i
def Out(T:List Nat)(f g:Nat→Value):Prop:=∀ i,inT T i=false→g i=f i
theorem Out.refl(T:List Nat)(f:Nat→Value):Out T f f:=fun _ _=>rfl
theorem Out.upd{T:List Nat}{f g:Nat→Value}{d:Nat}{v:Value}(a:inT T d=true)(h:Out T f g):Out T f (upd g d v):=fun i hi=>by
 rw[zAS]
 · exact h i hi
 intro e;subst e;rw[a]at hi;cases hi
theorem Out.msk{T T':List Nat}{f g g':Nat→Value}(a:T'.all (inT T)=true)(h:Out T f g):Out T f (msk g g' T'):=fun i hi=>by
 unfold Go.Sc.msk
 cases h2:inT T' i with
 |false=>exact h i hi
 |true=>
   exfalso
   unfold inT at h2
   rw[List.any_eq_true]at h2
   obtain⟨x,b,hb⟩:=h2
   have:=Nat.eq_of_beq_eq_true hb
   subst this
   rw[List.all_eq_true]at a
   rw[a _ b]at hi
   cases hi
theorem zFJ{T:List Nat}{f g:Nat→Value}(h:Out T f g):msk f g T=g:=by
 funext i
 unfold msk
 cases hi:inT T i with
 |true=>rfl
 |false=>exact(h i hi).symm
def jg(ops:Array Oper)(j e:Nat)(b:Bool):List Nat→List Oper→Option (List Nat)
 |U,[]=>some U
 |U,o::r=>
   match o.guard,o.dst with
   |some (i,w),some d=>if((Nat.beq i j&&(w==b))||(match yu ops i with|some s=>inT U s|none=>false))&& !(Nat.beq d e)then jg ops j e b (d::U) r else none
   |_,_=>none
theorem zB1{α:Type}{c:Bool}{x:Option α}{y:α}(h:(if c then x else none)=some y):c=true∧x=some y:=by cases c<;>simp_all
section
variable {P:Program} {n:Nat} {ops:Array Oper} {N:K} {A:World→Prop}
theorem zBD{f:Nat→Value}{a:Act}(b:Rep n f a){i s:Nat}(hi:yu ops i=some s)(c:f s=undef):yielded ops a.tmps i=none:=by
 have h:=b.get s
 unfold yu at hi
 simp only[yielded,hi,Option.bind_some]
 rw[Array.getD_eq_getD_getElem?,c]at h
 cases hx:a.tmps[s]? with
 |none=>rfl
 |some x=>rw[hx]at h;simp at h;subst h;rfl
theorem zDs{j e:Nat}{b b':Bool}(y:yu ops j=some e)(m:(b'==b)=false){w:World}{rest:List Oper}:∀ (l1:List Oper) (U T:List Nat) (f:Nat→Value),
   jg ops j e b U l1=some T→f e= .bool b'→(∀ s,inT U s=true→f s=undef)→(l1.all fun o=>match o.dst with|some d=>Nat.blt d n|none=>false)=true→
   (∀ g,Out T f g→WL P n ops rest N g w)→WL P n ops (l1++rest) N f w
 | [],U,T,f,c,hf,hU,hn,k=>k f (Out.refl _ _)
 |o::l1,U,T,f,c,hf,hU,hn,k=>by
   intro a ha
   unfold jg at c
   cases hg:o.guard with
   |none=>rw[hg]at c;cases c
   |some q=>
     obtain⟨i,z⟩:=q
     cases hd:o.dst with
     |none=>rw[hg,hd]at c;cases c
     |some d=>
       rw[hg,hd]at c
       dsimp only at c
       obtain⟨r,c⟩:=zB1 c
       simp only[Bool.and_eq_true,Bool.or_eq_true,Bool.not_eq_true']at r
       obtain⟨r,t⟩:=r
       have p:e≠d:=by intro h;subst h;simp at t
       have u:d<n:=by
         simp only[List.all_cons,Bool.and_eq_true,hd]at hn
         simpa [Nat.blt_eq]using hn.1
       have hw:Region.wanted o (yielded ops a.tmps)=false:=by
         unfold Region.wanted
         rw[hg]
         rcases r with⟨h1,h2⟩|h1
         · have:i=j:=Nat.eq_of_beq_eq_true h1
           subst this
           have:z=b:=by simpa using h2
           subst this
           simp only[kG ha y hf]
           simpa using m
         cases hsl:yu ops i with
         |none=>rw[hsl]at h1;cases h1
         |some s=>
           rw[hsl]at h1
           simp only[zBD ha hsl (hU s h1)]
           rfl
       show wpList P ops (kO n N) (o::(l1++rest)) a w
       unfold wpList
       rw[if_neg (by rw[hw];simp),hd]
       refine zDs y m l1 (d::U) T (upd f d undef) c (by rw[zAS _ _ p];exact hf) ?_ (by simp only[List.all_cons,Bool.and_eq_true]at hn;exact hn.2) ?_ _<|ha.put u undef
       · intro s hs'
         by_cases h:s=d
         · subst h;rw[zB7]
         rw[zAS _ _ h]
         refine hU s ?_
         unfold inT at hs' ⊢
         simp only[List.any_cons,Bool.or_eq_true]at hs'
         rcases hs' with h1|h1
         · exact absurd (Nat.eq_of_beq_eq_true h1) h
         exact h1
       intro g hg'
       refine k g<|fun i hi=> ?_
       rw[hg' i hi]
       refine zAS _ _ ?_
       intro h;subst h
       -- d stands in T
       have v:∀ (l:List Oper) (U T:List Nat),jg ops j e b U l=some T→∀ x,inT U x=true→inT T x=true:=by
         intro l
         induction l with
         |nil=>intro U T h x hx;simp[jg]at h;subst h;exact hx
         |cons o l ih=>
           intro U T h x hx
           unfold jg at h
           split at h
           · exact ih _ _ (zB1 h).2 x (by unfold inT at hx ⊢;simp[hx])
           cases h
       have:=v l1 _ _ c i (by unfold inT;simp)
       rw[this]at hi;cases hi
variable {f:Nat→Value} {d e t:Nat} {ty:TypeId} {p:String} {af:Array Edge} {l rest:List Oper}
def zES(T:List Nat)(f:Nat→Value)(t:Nat)(v:Value)(A:World→Prop):K:=fun g w=>Out T f g∧g t=v∧A w
theorem zEn{w:World}{l2:List Oper}{M:K}:∀ (l1:List Oper) {f:Nat→Value},WL P n ops l1 M f w→(∀ f w,M f w→WL P n ops l2 N f w)→WL P n ops (l1++l2) N f w:=by
 intro l1 f h hk a ha
 have:=h a ha
 clear h ha
 revert this a w
 suffices ∀ (l:List Oper) (a:Act) (w:World),wpList P ops (kO n M) l a w→wpList P ops (kO n N) (l++l2) a w from fun a w h=>this l1 w a h
 intro l
 induction l with
 |nil=>
   intro a w h
   obtain⟨f,d,g⟩:=h
   exact hk f w g a d
 |cons o l ih=>
   intro a w h
   show wpList P ops (kO n N) (o::(l++l2)) a w
   unfold wpList at h ⊢
   split
   · rename_i hw
     rw[if_pos hw]at h
     rcases h with h|⟨h1,j,k,h2⟩
     · left
       unfold Oper.wp at *
       generalize (execOp a.eval o).run P w=r at *
       cases r with
       |ok nx w'=>
         cases nx<;>simp only[Oper.upon]at h ⊢ <;>
           first
             |exact ih _ _ h
             |exact Calls.mono h (fun e i b=>by
                 cases e with
                 |returned v=>exact ih _ _ b
                 |panicked c=>exact b
                 |outgrown=>obtain⟨m,p,h2⟩:=b;exact h2.elim)
             |exact Rows.mono h (fun _ _ b=>ih _ _ b)
       |halt x w'=>cases x<;>simp only[Oper.upon]at h ⊢ <;>exact h
     exact h2.elim
   rename_i hw
   rw[if_neg hw]at h
   exact ih _ _ h
def zCc(n:Nat)(l:List Oper):Bool:=l.all fun o=>match o.dst with|some d=>Nat.blt d n|none=>false
theorem yA(m j:Nat)(T:List Nat){q:Prop}(r:Prop)[Decidable q][Decidable r]{gd:Option (Nat×Bool)}(y:l.drop m=⟨some d, .pick (.tmp e) (.tmp t) (.const yC),ty,p,af,gd⟩::rest)
   (z:yu ops j=some e) (u:f e= .bool (decide q)) (hT:jg ops j e true [] (l.take m)=some T) (hn:zCc n (l.take m)=true) (he:inT T e=false)
   (c:match gd with|none=>True|some (i,b)=>∃ s,yu ops i=some s∧inT T s=false∧f s= .bool b) (hd:Nat.blt d n=true)
   (hy:q→CL P n ops (l.take m) (zES T f t (.bool (decide r)) A) f A)
   (k:∀ g,CL P n ops rest N (upd (msk f g T) d (.bool (decide (q∧r)))) A):CL P n ops l N f A:=by
 intro w hw
 rw[←List.take_append_drop m l,y]
 have fin:∀ (g:Nat→Value) (w:World) (v:Value),A w→Out T f g→(bif decide q then g t else yC)=v→v= .bool (decide (q∧r))→
     WL P n ops (⟨some d, .pick (.tmp e) (.tmp t) (.const yC),ty,p,af,gd⟩::rest) N g w:=by
   intro g w v h ho hv hv'
   have o:g e= .bool (decide q):=(ho e he).trans u
   have a:WL P n ops (⟨some d, .pick (.tmp e) (.tmp t) (.const yC),ty,p,af,none⟩::rest) N g w:=by
     refine xc (v:=v) (w':=w) ?_ hd ?_
     · subst hv
       by_cases hq':q<;>simp[execOp,ev,o,hq',asBool]
     rw[hv']
     have:=k g w h
     rw[zFJ ho]at this
     exact this
   cases gd with
   |none=>exact a
   |some ib=>
     obtain⟨i,b⟩:=ib
     obtain⟨s,h1,h2,h3⟩:=c
     exact zMg h1 ((ho s h2).trans h3) a
 by_cases hc:q
 · refine zEn _ (hy hc w hw) ?_
   rintro g x ⟨ho,ht,h⟩
   refine fin g x _ h ho O ?_
   simp[hc,ht]
 refine zDs (b':=false) z rfl _ [] T f hT (by rw[u];simp[hc]) (by simp[inT]) hn ?_
 intro g ho
 refine fin g w _ hw ho O ?_
 simp[hc]
theorem yP(m j:Nat)(T:List Nat){q:Prop}(r:Prop)[Decidable q][Decidable r]{gd:Option (Nat×Bool)}(y:l.drop m=⟨some d, .pick (.tmp e) (.const xx) (.tmp t),ty,p,af,gd⟩::rest)
   (z:yu ops j=some e) (u:f e= .bool (decide q)) (hT:jg ops j e false [] (l.take m)=some T) (hn:zCc n (l.take m)=true) (he:inT T e=false)
   (c:match gd with|none=>True|some (i,b)=>∃ s,yu ops i=some s∧inT T s=false∧f s= .bool b) (hd:Nat.blt d n=true)
   (hy:¬ q→CL P n ops (l.take m) (zES T f t (.bool (decide r)) A) f A)
   (k:∀ g,CL P n ops rest N (upd (msk f g T) d (.bool (decide (q∨r)))) A):CL P n ops l N f A:=by
 intro w hw
 rw[←List.take_append_drop m l,y]
 have fin:∀ (g:Nat→Value) (w:World) (v:Value),A w→Out T f g→(bif decide q then xx else g t)=v→v= .bool (decide (q∨r))→
     WL P n ops (⟨some d, .pick (.tmp e) (.const xx) (.tmp t),ty,p,af,gd⟩::rest) N g w:=by
   intro g w v h ho hv hv'
   have o:g e= .bool (decide q):=(ho e he).trans u
   have a:WL P n ops (⟨some d, .pick (.tmp e) (.const xx) (.tmp t),ty,p,af,none⟩::rest) N g w:=by
     refine xc (v:=v) (w':=w) ?_ hd ?_
     · subst hv
       by_cases hq':q<;>simp[execOp,ev,o,hq',asBool]
     rw[hv']
     have:=k g w h
     rw[zFJ ho]at this
     exact this
   cases gd with
   |none=>exact a
   |some ib=>
     obtain⟨i,b⟩:=ib
     obtain⟨s,h1,h2,h3⟩:=c
     exact zMg h1 ((ho s h2).trans h3) a
 by_cases hc:q
 · refine zDs (b':=true) z rfl _ [] T f hT (by rw[u];simp[hc]) (by simp[inT]) hn ?_
   intro g ho
   refine fin g w _ hw ho O ?_
   simp[hc]
 refine zEn _ (hy hc w hw) ?_
 rintro g x ⟨ho,ht,h⟩
 refine fin g x _ h ho O ?_
 simp[hc,ht]
theorem zN{y:Code}{M R R':K}{X X':List (Nat×K)}{f:Nat→Value}(h:C P n y M R X f A):C P n .skip (fun f w=>W P n y M R X f w) R' X' f A:=fun w a=>zLs (h w a)
theorem zw{id:Nat}{y:Code}{M M' R R':K}{X X':List (Nat×K)}{f:Nat→Value}(a:look id X=some (fun f w=>W P n y M R X' f w))(h:C P n y M R X' f A):C P n (.exit id) M' R' X f A:=fun w b=>zMW a (h w b)
def zPz(σ:Type)(sl:σ→List (Nat×Value))(Φ:σ→Prop)(w0:World)(S:List Nat)(L:σ→List Res):K:=fun f w=>∃ s:σ,Agr f (sl s)∧Φ s∧Own w0 S (L s) w
theorem zAE{x y:Code}{M R:K}{X:List (Nat×K)}{f:Nat→Value}{w0:World}{S:List Nat}{L0:List Res}(σ:Type)(a:σ→List (Nat×Value))(Φ:σ→Prop)(L:σ→List Res)(b:C P n x (zPz σ a Φ w0 S L) R X f (Own w0 S L0))
   (c:∀ (s:σ) (g:Nat→Value),Φ s→C P n y M R X (zAR g (a s)) (Own w0 S (L s))):C P n (.seq x y) M R X f (Own w0 S L0):=
 zTe _ b fun f w ⟨s,ha,hΦ,hO⟩=>by
   have:=c s f hΦ w hO
   rw[zBr ha]at this
   exact this
theorem zAP{c:Code}{M R:K}{X:List (Nat×K)}{f:Nat→Value}{w0:World}{S:List Nat}{L0:List Res}(σ:Type)(a:σ→List (Nat×Value))(Φ:σ→Prop)(L:σ→List Res)(μ:σ→Nat)(e:∀ w,Own w0 S L0 w→zPz σ a Φ w0 S L f w)
   (round:∀ (s:σ) (g:Nat→Value),Φ s→C P n c (fun b d=>∃ s':σ,Agr b (a s')∧Φ s'∧Own w0 S (L s') d∧μ s'<μ s) R X (zAR g (a s)) (Own w0 S (L s))):C P n (.loop c) M R X f (Own w0 S L0):=
 zSN σ a (fun s w=>Φ s∧Own w0 S (L s) w) μ e fun s g w ⟨hΦ,hO⟩=>kJ (round s g hΦ w hO) fun b d ⟨s',h1,h2,h3,h4⟩=>⟨s',h1,⟨h2,h3⟩,h4⟩
theorem zE6{x y:Code}{M R:K}{X:List (Nat×K)}{f:Nat→Value}{w0:World}{S:List Nat}{L0:List Res}(a:List (Nat×Value))(Φ:Prop)(L:List Res)
   (b:C P n x (fun f w=>Agr f (a)∧Φ∧Own w0 S (L) w) R X f (Own w0 S L0))
   (c:∀ (g:Nat→Value),Φ→C P n y M R X (zAR g (a)) (Own w0 S (L))):C P n (.seq x y) M R X f (Own w0 S L0):=
 zAE (Unit) (fun s=>a) (fun s=>Φ) (fun s=>L) (fun w d=>kJ (b w d) fun f w ⟨h1,h2,h3⟩=>⟨(),h1,h2,h3⟩) (fun s g h=>c g h)
theorem jf{x y:Code}{M R:K}{X:List (Nat×K)}{f:Nat→Value}{w0:World}{S:List Nat}{L0:List Res}{α:Type}(b:α→List (Nat×Value))(Φ:α→Prop)(L:α→List Res)
   (c:C P n x (fun f w=>∃ (a:α),Agr f (b a)∧Φ a∧Own w0 S (L a) w) R X f (Own w0 S L0))
   (d:∀ (a:α) (g:Nat→Value),Φ a→C P n y M R X (zAR g (b a)) (Own w0 S (L a))):C P n (.seq x y) M R X f (Own w0 S L0):=
 zAE (α) (fun s=>b s) (fun s=>Φ s) (fun s=>L s) (fun w e=>kJ (c w e) fun f w ⟨a,h1,h2,h3⟩=>⟨a,h1,h2,h3⟩) (fun s g h=>d s g h)
theorem yQ{cc:Code}{M R:K}{X:List (Nat×K)}{f:Nat→Value}{w0:World}{S:List Nat}{L0:List Res}{α:Type}(c:α→List (Nat×Value))(Φ:α→Prop)(L:α→List Res)(μ:α→Nat)
   (j:∀ w,Own w0 S L0 w→∃ (a:α),Agr f (c a)∧Φ a∧Own w0 S (L a) w)
   (round:∀ (a:α) (g:Nat→Value),Φ a→C P n cc (fun e i=>∃ (b:α),Agr e (c b)∧Φ b∧Own w0 S (L b) i∧μ b<μ a) R X (zAR g (c a)) (Own w0 S (L a))):C P n (.loop cc) M R X f (Own w0 S L0):=
 zAP (α) (fun s=>c s) (fun s=>Φ s) (fun s=>L s) (fun s=>μ s) (fun w d=>let ⟨a,h1,h2,h3⟩:=j w d;⟨a,h1,h2,h3⟩)
   (fun s g h w d=>kJ (round s g h w d) fun e i ⟨b,h1,h2,h3,h4⟩=>⟨b,h1,h2,h3,h4⟩)
theorem zLm{x y:Code}{M R:K}{X:List (Nat×K)}{f:Nat→Value}{w0:World}{S:List Nat}{L0:List Res}{α β:Type}(c:α→β→List (Nat×Value))(Φ:α→β→Prop)(L:α→β→List Res)
   (d:C P n x (fun f w=>∃ (a:α) (b:β),Agr f (c a b)∧Φ a b∧Own w0 S (L a b) w) R X f (Own w0 S L0))
   (e:∀ (a:α) (b:β) (g:Nat→Value),Φ a b→C P n y M R X (zAR g (c a b)) (Own w0 S (L a b))):C P n (.seq x y) M R X f (Own w0 S L0):=
 zAE (α×β) (fun s=>c s.1 s.2) (fun s=>Φ s.1 s.2) (fun s=>L s.1 s.2) (fun w i=>kJ (d w i) fun f w ⟨a,b,h1,h2,h3⟩=>⟨(a,b),h1,h2,h3⟩) (fun s g h=>e s.1 s.2 g h)
theorem xD{cc:Code}{M R:K}{X:List (Nat×K)}{f:Nat→Value}{w0:World}{S:List Nat}{L0:List Res}{α β:Type}(e:α→β→List (Nat×Value))(Φ:α→β→Prop)(L:α→β→List Res)(μ:α→β→Nat)
   (l:∀ w,Own w0 S L0 w→∃ (a:α) (b:β),Agr f (e a b)∧Φ a b∧Own w0 S (L a b) w)
   (round:∀ (a:α) (b:β) (g:Nat→Value),Φ a b→C P n cc (fun j k=>∃ (c:α) (d:β),Agr j (e c d)∧Φ c d∧Own w0 S (L c d) k∧μ c d<μ a b) R X (zAR g (e a b)) (Own w0 S (L a b))):C P n (.loop cc) M R X f (Own w0 S L0):=
 zAP (α×β) (fun s=>e s.1 s.2) (fun s=>Φ s.1 s.2) (fun s=>L s.1 s.2) (fun s=>μ s.1 s.2) (fun w i=>let ⟨a,b,h1,h2,h3⟩:=l w i;⟨(a,b),h1,h2,h3⟩)
   (fun s g h w i=>kJ (round s.1 s.2 g h w i) fun j k ⟨c,d,h1,h2,h3,h4⟩=>⟨(c,d),h1,h2,h3,h4⟩)
theorem zHu{x y:Code}{M R:K}{X:List (Nat×K)}{f:Nat→Value}{w0:World}{S:List Nat}{L0:List Res}{α β γ:Type}(d:α→β→γ→List (Nat×Value))(Φ:α→β→γ→Prop)(L:α→β→γ→List Res)
   (e:C P n x (fun f w=>∃ (a:α) (b:β) (c:γ),Agr f (d a b c)∧Φ a b c∧Own w0 S (L a b c) w) R X f (Own w0 S L0))
   (i:∀ (a:α) (b:β) (c:γ) (g:Nat→Value),Φ a b c→C P n y M R X (zAR g (d a b c)) (Own w0 S (L a b c))):C P n (.seq x y) M R X f (Own w0 S L0):=
 zAE (α×β×γ) (fun s=>d s.1 s.2.1 s.2.2) (fun s=>Φ s.1 s.2.1 s.2.2) (fun s=>L s.1 s.2.1 s.2.2) (fun w j=>kJ (e w j) fun f w ⟨a,b,c,h1,h2,h3⟩=>⟨(a,b,c),h1,h2,h3⟩) (fun s g h=>i s.1 s.2.1 s.2.2 g h)
theorem xV{cc:Code}{M R:K}{X:List (Nat×K)}{f:Nat→Value}{w0:World}{S:List Nat}{L0:List Res}{α β γ:Type}(j:α→β→γ→List (Nat×Value))(Φ:α→β→γ→Prop)(L:α→β→γ→List Res)(μ:α→β→γ→Nat)
   (o:∀ w,Own w0 S L0 w→∃ (a:α) (b:β) (c:γ),Agr f (j a b c)∧Φ a b c∧Own w0 S (L a b c) w)
   (round:∀ (a:α) (b:β) (c:γ) (g:Nat→Value),Φ a b c→C P n cc (fun l m=>∃ (d:α) (e:β) (i:γ),Agr l (j d e i)∧Φ d e i∧Own w0 S (L d e i) m∧μ d e i<μ a b c) R X (zAR g (j a b c)) (Own w0 S (L a b c))):C P n (.loop cc) M R X f (Own w0 S L0):=
 zAP (α×β×γ) (fun s=>j s.1 s.2.1 s.2.2) (fun s=>Φ s.1 s.2.1 s.2.2) (fun s=>L s.1 s.2.1 s.2.2) (fun s=>μ s.1 s.2.1 s.2.2) (fun w k=>let ⟨a,b,c,h1,h2,h3⟩:=o w k;⟨(a,b,c),h1,h2,h3⟩)
   (fun s g h w k=>kJ (round s.1 s.2.1 s.2.2 g h w k) fun l m ⟨d,e,i,h1,h2,h3,h4⟩=>⟨(d,e,i),h1,h2,h3,h4⟩)
theorem zN7{cc:Code}{M R:K}{X:List (Nat×K)}{f:Nat→Value}{w0:World}{S:List Nat}{L0:List Res}{α β γ δ:Type}(l:α→β→γ→δ→List (Nat×Value))(Φ:α→β→γ→δ→Prop)(L:α→β→γ→δ→List Res)(μ:α→β→γ→δ→Nat)
   (q:∀ w,Own w0 S L0 w→∃ (a:α) (b:β) (c:γ) (d:δ),Agr f (l a b c d)∧Φ a b c d∧Own w0 S (L a b c d) w)
   (round:∀ (a:α) (b:β) (c:γ) (d:δ) (g:Nat→Value),Φ a b c d→C P n cc (fun o p=>∃ (e:α) (i:β) (j:γ) (k:δ),Agr o (l e i j k)∧Φ e i j k∧Own w0 S (L e i j k) p∧μ e i j k<μ a b c d) R X (zAR g (l a b c d)) (Own w0 S (L a b c d))):C P n (.loop cc) M R X f (Own w0 S L0):=
 zAP (α×β×γ×δ) (fun s=>l s.1 s.2.1 s.2.2.1 s.2.2.2) (fun s=>Φ s.1 s.2.1 s.2.2.1 s.2.2.2) (fun s=>L s.1 s.2.1 s.2.2.1 s.2.2.2) (fun s=>μ s.1 s.2.1 s.2.2.1 s.2.2.2) (fun w m=>let ⟨a,b,c,d,h1,h2,h3⟩:=q w m;⟨(a,b,c,d),h1,h2,h3⟩)
   (fun s g h w m=>kJ (round s.1 s.2.1 s.2.2.1 s.2.2.2 g h w m) fun o p ⟨e,i,j,k,h1,h2,h3,h4⟩=>⟨(e,i,j,k),h1,h2,h3,h4⟩)
theorem zAz{cc:Code}{M R:K}{X:List (Nat×K)}{f:Nat→Value}{w0:World}{S:List Nat}{L0:List Res}{α β γ δ ε:Type}(o:α→β→γ→δ→ε→List (Nat×Value))(Φ:α→β→γ→δ→ε→Prop)(L:α→β→γ→δ→ε→List Res)(μ:α→β→γ→δ→ε→Nat)
   (t:∀ w,Own w0 S L0 w→∃ (a:α) (b:β) (c:γ) (d:δ) (e:ε),Agr f (o a b c d e)∧Φ a b c d e∧Own w0 S (L a b c d e) w)
   (round:∀ (a:α) (b:β) (c:γ) (d:δ) (e:ε) (g:Nat→Value),Φ a b c d e→C P n cc (fun q r=>∃ (i:α) (j:β) (k:γ) (l:δ) (m:ε),Agr q (o i j k l m)∧Φ i j k l m∧Own w0 S (L i j k l m) r∧μ i j k l m<μ a b c d e) R X (zAR g (o a b c d e)) (Own w0 S (L a b c d e))):C P n (.loop cc) M R X f (Own w0 S L0):=
 zAP (α×β×γ×δ×ε) (fun s=>o s.1 s.2.1 s.2.2.1 s.2.2.2.1 s.2.2.2.2) (fun s=>Φ s.1 s.2.1 s.2.2.1 s.2.2.2.1 s.2.2.2.2) (fun s=>L s.1 s.2.1 s.2.2.1 s.2.2.2.1 s.2.2.2.2) (fun s=>μ s.1 s.2.1 s.2.2.1 s.2.2.2.1 s.2.2.2.2) (fun w p=>let ⟨a,b,c,d,e,h1,h2,h3⟩:=t w p;⟨(a,b,c,d,e),h1,h2,h3⟩)
   (fun s g h w p=>kJ (round s.1 s.2.1 s.2.2.1 s.2.2.2.1 s.2.2.2.2 g h w p) fun q r ⟨i,j,k,l,m,h1,h2,h3,h4⟩=>⟨(i,j,k,l,m),h1,h2,h3,h4⟩)
theorem gT{q:Prop}[Decidable q](h:q):Value.bool (decide q)=xx:=by rw[decide_eq_true h]
theorem gF{q:Prop}[Decidable q](h:¬ q):Value.bool (decide q)=yC:=by rw[decide_eq_false h]
end
theorem zC9{L L':List Res}:∀ {m:List Nat},m.mapM (fun i=>L[i]?)=some L'→∀ (i:Nat) (r:Res),L'[i]?=some r→∃ k,m[i]?=some k∧L[k]?=some r:=by
 intro m
 induction m generalizing L' with
 |nil=>intro h i r hr;simp at h;subst h;simp at hr
 |cons k m ih=>
   intro h i r hr
   simp only[List.mapM_cons,bind,Option.bind_eq_some_iff,pure]at h
   obtain⟨a,b,l,hl,h⟩:=h
   simp at h;subst h
   cases i with
   |zero=>simp at hr;subst hr;exact⟨k,rfl,b⟩
   |succ i=>simp at hr;exact ih hl i r hr
theorem zLu{L L':List Res}:∀ {m:List Nat},m.mapM (fun i=>L[i]?)=some L'→L'.length=m.length:=by
 intro m
 induction m generalizing L' with
 |nil=>intro h;simp at h;subst h;rfl
 |cons k m ih=>
   intro h
   simp only[List.mapM_cons,bind,Option.bind_eq_some_iff,pure]at h
   obtain⟨a,b,l,hl,h⟩:=h
   simp at h;subst h
   simp[ih hl]
section
variable {w0 w:World} {S:List Nat} {L:List Res}
theorem Own.sel{L':List Res}(m:List Nat)(a:m.mapM (fun i=>L[i]?)=some L')(b:m.Nodup)(h:Own w0 S L w):Own w0 S L' w:=by
 refine h.pick (fun i=>m[i]?.getD 0) ?_ ?_
 · intro i r hr
   obtain⟨k,h1,h2⟩:=zC9 a i r hr
   simp only[h1,Option.getD_some]
   exact h2
 intro i j hi hj hij
 rw[zLu a]at hi hj
 simp only[List.getElem?_eq_getElem hi,List.getElem?_eq_getElem hj,Option.getD_some]at hij
 exact(List.getElem_inj b).1 hij
def Res.buf(o:Nat)(T:TypeId)(v:Value)(bs:List UInt8):Res where
 fp:=o::zBy v
 φ w:=Row w o T [v]∧Sl w v bs.length (bs.map vb)∧o∉zBy v
 st w w' h hb:=by
   obtain⟨⟨lo,hi,h1,h2⟩,h3,h4⟩:=h
   exact⟨⟨lo,hi,by rw[hb o qJ];exact h1,h2⟩,h3.st fun b hb'=>hb b (by simp[hb']),h4⟩
 lt w h b hb:=by
   obtain⟨⟨lo,hi,h1,h2⟩,h3,h4⟩:=h
   simp only[List.mem_cons]at hb
   rcases hb with rfl|hb
   · exact(Array.getElem?_eq_some_iff.1 h1).1
   exact(Res.sl v bs.length (bs.map vb)).lt w h3 b hb
theorem Own.split{i:Nat}{r r1 r2:Res}(g:L[i]?=some r)(h1:r.φ w→r1.φ w)(h2:r.φ w→r2.φ w)(d:∀ b∈r1.fp,b∈r.fp)(e:∀ b∈r2.fp,b∈r.fp)(j:r.φ w→∀ b∈r1.fp,b∉r2.fp)(h:Own w0 S L w):Own w0 S (L.set i r1++[r2]) w:=by
 have c:=h.holds i r g
 refine h.frame1 g (E:=[r2]) ⟨Keep.refl _ _,?_,?_,?_⟩
 · intro a b s t hab hs ht
   match a,b with
   |0,0=>omega
   |1,1=>omega
   |0,1=>simp at hs ht;subst hs;subst ht;exact j c
   |1,0=>simp at hs ht;subst hs;subst ht;exact fun b hb f=>j c b f hb
   |a+2,_=>simp at hs
   |_,b+2=>simp at ht
 · intro a s hs
   match a with
   |0=>simp at hs;subst hs;exact h1 c
   |1=>simp at hs;subst hs;exact h2 c
   |a+2=>simp at hs
 intro a s hs b hb
 match a with
 |0=>simp at hs;subst hs;exact .inl (d b hb)
 |1=>simp at hs;subst hs;exact .inl (e b hb)
 |a+2=>simp at hs
theorem Own.join{i j:Nat}{r r1 r2:Res}(p:i≠j)(h1:L[i]?=some r1)(h2:L[j]?=some r2)(hφ:r1.φ w→r2.φ w→(∀ b∈r1.fp,b∉r2.fp)→r.φ w)(y:∀ b∈r.fp,b∈r1.fp∨b∈r2.fp)(h:Own w0 S L w):Own w0 S ((L.set i r).eraseIdx j) w:=by
 have hr:r.φ w:=hφ (h.holds i r1 h1) (h.holds j r2 h2) (h.apart i j r1 r2 p h1 h2)
 have hi:i<L.length:=(List.getElem?_eq_some_iff.1 h1).1
 -- where an entry of the new list stood
 have e:∀ (a:Nat) (s:Res),((L.set i r).eraseIdx j)[a]?=some s→∃ k,k≠j∧(k=if a<j then a else a+1)∧(L.set i r)[k]?=some s:=by
   intro a s hs
   rw[List.getElem?_eraseIdx]at hs
   split at hs
   · rename_i hlt;exact⟨a,by omega,by rw[if_pos hlt],hs⟩
   rename_i hlt;exact⟨a+1,by omega,by rw[if_neg hlt],hs⟩
 have c:∀ (k:Nat) (s:Res),(L.set i r)[k]?=some s→(k=i∧s=r)∨(k≠i∧L[k]?=some s):=by
   intro k s hs
   by_cases hk:k=i
   · subst hk;rw[List.getElem?_set_self hi]at hs;exact .inl ⟨rfl,(Option.some.inj hs).symm⟩
   rw[List.getElem?_set_ne (Ne.symm hk)]at hs;exact .inr ⟨hk,hs⟩
 have far:∀ (k:Nat) (s:Res),k≠i→k≠j→L[k]?=some s→∀ b∈s.fp,b∉r.fp:=by
   intro k s hki hkj hs b hb f
   rcases y b f with g|g
   · exact h.apart k i s r1 hki hs h1 b hb g
   exact h.apart k j s r2 hkj hs h2 b hb g
 refine⟨h.keep,?_,?_,?_⟩
 · intro a b s t hab hs ht
   obtain⟨k,m,n,d⟩:=e a s hs
   obtain⟨l,q,u,v⟩:=e b t ht
   have x:k≠l:=by
     rw[n,u];split<;>split<;>omega
   rcases c k s d with⟨e1,e2⟩|⟨e1,e2⟩<;>rcases c l t v with⟨z,o⟩|⟨z,o⟩
   · omega
   · rw[e2];exact fun b hb f=>far l t z q o b f hb
   · rw[o];exact far k s e1 m e2
   exact h.apart k l s t x e2 o
 · intro a s hs
   obtain⟨k,m,n,d⟩:=e a s hs
   rcases c k s d with⟨e1,e2⟩|⟨e1,e2⟩
   · rw[e2];exact hr
   exact h.holds k s e2
 intro a s hs b hb
 obtain⟨k,m,n,d⟩:=e a s hs
 rcases c k s d with⟨e1,e2⟩|⟨e1,e2⟩
 · rw[e2]at hb
   rcases y b hb with g|g
   · exact h.fresh i r1 h1 b g
   exact h.fresh j r2 h2 b g
 exact h.fresh k s e2 b hb
def Res.both(r s:Res):Res where
 fp:=r.fp++s.fp
 φ w:=r.φ w∧s.φ w∧∀ b∈r.fp,b∉s.fp
 st w w' h hb:=⟨r.st w w' h.1 fun b hb'=>hb b (by simp[hb']),s.st w w' h.2.1 fun b hb'=>hb b (by simp[hb']),h.2.2⟩
 lt w h b hb:=by
   rcases List.mem_append.1 hb with hb|hb
   · exact r.lt w h.1 b hb
   exact s.lt w h.2.1 b hb
theorem Own.splitBoth{i:Nat}{r s:Res}(a:L[i]?=some (r.both s))(h:Own w0 S L w):Own w0 S (L.set i r++[s]) w:=
 h.split a (fun h=>h.1) (fun h=>h.2.1) (fun b hb=>List.mem_append.2 (.inl hb)) (fun b hb=>List.mem_append.2 (.inr hb)) (fun h=>h.2.2)
theorem Own.joinBoth{i j:Nat}{r s:Res}(d:i≠j)(h1:L[i]?=some r)(h2:L[j]?=some s)(h:Own w0 S L w):Own w0 S ((L.set i (r.both s)).eraseIdx j) w:=
 h.join (r:=r.both s) d h1 h2 (fun a b c=>⟨a,b,c⟩) (fun b hb=>List.mem_append.1 hb)
theorem Own.qa{i sz n:Nat}{e:TypeId}{v:Value}{cs:List Value}(a:L[i]?=some (Res.vec e sz v n cs))(h:Own w0 S L w):cell1 v=true:=by
 rcases(h.holds i _ a).2 with⟨rfl,_⟩|⟨g,cap,cur,rfl,_⟩<;>rfl
theorem Sl.cell1{v:Value}{n:Nat}{cs:List Value}(h:Sl w v n cs):cell1 v=true:=by
 rcases h with⟨a,rfl,_⟩|⟨b,off,cap,rfl,_⟩<;>rfl
end
theorem zDL{α:Type}{g:α→List Value}{sz:Nat}(h:∀ x,(g x).length=sz):∀ (l:List α) (j i:Nat) (x:α),l[j]?=some x→i<sz→(l.flatMap g)[j*sz+i]?=(g x)[i]?
 | [],j,i,x,hj,hi=>by simp at hj
 |y::l,0,i,x,hj,hi=>by
   simp at hj;subst hj
   rw[List.flatMap_cons,Nat.zero_mul,Nat.zero_add,List.getElem?_append_left (by rw[h];exact hi)]
 |y::l,j+1,i,x,hj,hi=>by
   simp at hj
   rw[List.flatMap_cons,List.getElem?_append_right (by rw[h,Nat.add_mul];omega),h]
   rw[show(j+1)*sz+i - sz=j*sz+i by rw[Nat.add_mul];omega]
   exact zDL h l j i x hj hi
theorem jc{α:Type}{g:α→List Value}{sz:Nat}(h:∀ x,(g x).length=sz):∀ (l:List α),(l.flatMap g).length=l.length*sz
 | []=>by simp
 |y::l=>by rw[List.flatMap_cons,List.length_append,h,jc h l,List.length_cons,Nat.add_mul];omega
theorem Sl.shape{w:World}{v:Value}{n:Nat}{cs:List Value}(h:Sl w v n cs):∃ a cap,v= .slice a n cap∧n≤cap∧cap≤9223372036854775807∧(0<n→∃ b off,a=some ⟨b,off,none⟩):=by
 rcases h with⟨a,rfl,rfl,_⟩|⟨b,off,cap,rfl,h1,h2,_⟩
 · exact⟨a,0,rfl,Nat.le_refl _,by omega,fun h=>by omega⟩
 exact⟨_,cap,rfl,h1.1,h2,fun _=>⟨b,off,rfl⟩⟩
theorem zBX{α:Type}(l:List α)(j:Nat)(f:α→α)(h:j<l.length):l.modify j f=l.set j (f l[j]):=by
 apply List.ext_getElem?
 intro m
 rw[List.getElem?_modify,List.getElem?_set]
 by_cases hm:j=m
 · subst hm;simp[h]
 simp[hm]
theorem kq{α β:Type}(f:α→β):∀ (l:List α) (j:Nat),(l.eraseIdx j).map f=(l.map f).eraseIdx j
 | [],j=>by simp
 |a::l,0=>by simp
 |a::l,j+1=>by simp[kq f l j]
structure KeyD{κ:Type}[DecidableEq κ](P:Program)(kt:TypeId)(ke:κ→Value):Prop where
 desc:∃ d,P.underlying kt=some d∧(∀ a b,Instr.sameNow d (ke a) (ke b)=some (decide (a=b)))∧((∃ q,d= .int q)∨d= .string)
 bits:∀ a,Instr.sameBits 10000 (ke a) (ke a)=true
theorem zK5{P:Program}{kt:TypeId}{q:IntKind}(h:zCv P kt=some q):KeyD P kt (fun n:Nat=>Value.int q n):=by
 unfold zCv at h
 split at h
 · rename_i k hk
   simp at h;subst h
   refine⟨⟨_,hk,fun a b=> ?_, .inl ⟨_,O⟩⟩,fun a=> ?_⟩
   · simp only[Instr.sameNow,if_true]
     congr 1
     by_cases hab:a=b
     · subst hab;simp
     rw[decide_eq_false hab,beq_eq_false_iff_ne];omega
   simp[Instr.sameBits]
 cases h
theorem zNB{P:Program}{kt:TypeId}(h:jI P kt=true):KeyD P kt Value.string:=by
 unfold jI at h
 split at h
 · rename_i hk
   refine⟨⟨_,hk,fun a b=> ?_, .inr O⟩,fun a=> ?_⟩
   · simp only[Instr.sameNow]
     congr 1
     by_cases hab:a=b
     · subst hab;simpa using(MapKept.bytes_beq a a).2 rfl
     rw[decide_eq_false hab,←Bool.not_eq_true,MapKept.bytes_beq];exact hab
   simp only[Instr.sameBits];exact(MapKept.bytes_beq a a).2 rfl
 cases h
def js(es:Array MapEntry)(clock:Nat):Prop:=(∀ e∈es.toList,e.born<clock)∧(es.toList.map (·.born)).Nodup
section
variable {κ:Type} [DecidableEq κ] {P:Program} {kt vt t:TypeId} {ke:κ→Value}
def Res.map(ke:κ→Value)(b:Nat)(kv:List (κ×Value)):Res where
 fp:=[b]
 φ w:=∃ es clock,w.heap[b]?=some (.map es clock)∧es.toList.map (fun e=>(e.key,e.val))=kv.map (fun p=>(ke p.1,p.2))∧js es clock
 st w w' h hb:=by
   obtain⟨es,clock,h1,h2⟩:=h
   exact⟨es,clock,by rw[hb b qJ];exact h1,h2⟩
 lt w h b' hb':=by
   obtain⟨es,clock,h1,h2⟩:=h
   simp at hb';subst hb'
   exact(Array.getElem?_eq_some_iff.1 h1).1
def kc(k:κ):List (κ×Value)→Nat→Option (Nat×Value)
 | [],_=>none
 |(x,v)::r,i=>if k=x then some (i,v)else kc k r (i+1)
def zH8(k:κ)(kv:List (κ×Value)):Option Value:=(kc k kv 0).map (·.2)
structure KeyL{κ:Type}[DecidableEq κ](P:Program)(kt:TypeId)(ke:κ→Value):Prop where
 find:∀ (k:κ) (es:List MapEntry) (kv:List (κ×Value)),es.map (fun e=>(e.key,e.val))=kv.map (fun p=>(ke p.1,p.2))→∀ w:World,(Instr.findKey kt (ke k) es).run P w= .ok (kc k kv 0) w
 check:∀ (em:Bool) (k:κ) (w:World),(Instr.checkKey em 10000 kt (ke k)).run P w= .ok () w
 bits:∀ a,Instr.sameBits 10000 (ke a) (ke a)=true
 inj:∀ {a b:κ},ke a=ke b→a=b
theorem zIP(K:KeyD P kt ke)(k:κ):∀ (es:List MapEntry) (kv:List (κ×Value)) (i:Nat),es.map (fun e=>(e.key,e.val))=kv.map (fun p=>(ke p.1,p.2))→
   ∀ d,P.underlying kt=some d→(∀ a b,Instr.sameNow d (ke a) (ke b)=some (decide (a=b)))→Instr.findNow d (ke k) es i=some (kc k kv i)
 | [],[],i,_,d,_,_=>rfl
 | [],_::_,i,h,d,_,_=>by simp at h
 |_::_,[],i,h,d,_,_=>by simp at h
 |e::es,(x,v)::kv,i,h,d,hd,hs=>by
   simp only[List.map_cons,List.cons.injEq,Prod.mk.injEq]at h
   obtain⟨⟨h1,h2⟩,c⟩:=h
   unfold Instr.findNow kc
   rw[h1,hs]
   by_cases hkx:k=x
   · subst hkx;simp[h2]
   simp only[hkx,decide_false,if_false]
   exact zIP K k es kv (i+1) c d hd hs
theorem zKL(K:KeyD P kt ke)(k:κ){es:List MapEntry}{kv:List (κ×Value)}(h:es.map (fun e=>(e.key,e.val))=kv.map (fun p=>(ke p.1,p.2)))(w:World):(Instr.findKey kt (ke k) es).run P w= .ok (kc k kv 0) w:=by
 obtain⟨d,a,b,_⟩:=K.desc
 simp[Instr.findKey,zp a,zIP K k es kv 0 h d a b]
theorem zHk(K:KeyD P kt ke)(em:Bool)(k:κ)(w:World):(Instr.checkKey em 10000 kt (ke k)).run P w= .ok () w:=by
 obtain⟨d,a,b,hp⟩:=K.desc
 have:∀ m,(Instr.checkKey em (m+1) kt (ke k)).run P w= .ok () w:=by
   intro m
   unfold Instr.checkKey
   rcases hp with⟨q,rfl⟩|rfl
   · simp[zp a]
   simp[zp a]
 exact this 9999
theorem KeyD.l(K:KeyD P kt ke):KeyL P kt ke:=⟨fun k es kv h w=>zKL K k h w,fun em k w=>zHk K em k w,K.bits,fun{a b} h=>by
 obtain⟨d,_,c,_⟩:=K.desc
 have h1:=c a b
 have h2:=c b b
 rw[h,h2]at h1
 simpa using h1.symm⟩
theorem zGY{q:IntKind}(h:zCv P kt=some q):KeyL P kt (fun n:Nat=>Value.int q n):=(zK5 h).l
theorem zM6(h:jI P kt=true):KeyL P kt Value.string:=(zNB h).l
theorem zAn(K:KeyL P kt ke)(k:κ){es:List MapEntry}{kv:List (κ×Value)}(h:es.map (fun e=>(e.key,e.val))=kv.map (fun p=>(ke p.1,p.2)))(w:World):(Instr.findKey kt (ke k) es).run P w= .ok (kc k kv 0) w:=K.find k es kv h w
theorem j6(K:KeyL P kt ke)(em:Bool)(k:κ)(w:World):(Instr.checkKey em 10000 kt (ke k)).run P w= .ok () w:=K.check em k w
theorem zJ7(K:KeyL P kt ke)(k:κ)(w:World):(Instr.keyThatStays (ke k) (ke k)).run P w= .ok (ke k) w:=by
 simp[Instr.keyThatStays,K.bits k]
theorem zAy{k:κ}:∀ {kv:List (κ×Value)} {i j:Nat} {v:Value},kc k kv i=some (j,v)→i≤j∧kv[j - i]?=some (k,v)
 | [],i,j,v,h=>by simp[kc]at h
 |(x,u)::r,i,j,v,h=>by
   unfold kc at h
   split at h
   · rename_i hk
     simp at h
     obtain⟨rfl,rfl⟩:=h
     subst hk
     simp
   have:=zAy h
   refine⟨by omega,?_⟩
   rw[show j - i=(j - (i+1))+1 by omega]
   simpa using this.2
def zEE(k:κ)(v:Value)(kv:List (κ×Value)):List (κ×Value):=
 match kc k kv 0 with
 |some (j,_)=>kv.set j (k,v)
 |none=>kv++[(k,v)]
def zA7(k:κ)(kv:List (κ×Value)):List (κ×Value):=
 match kc k kv 0 with
 |some (j,_)=>kv.eraseIdx j
 |none=>kv
theorem x3{w:World}{b:Nat}{es:Array MapEntry}{clock:Nat}(h:w.heap[b]?=some (.map es clock)):(getObj b).run P w= .ok (.map es clock) w:=by
 simp[getObj,Sem.run,h]
theorem kM{w:World}{b:Nat}{es:Array MapEntry}{clock:Nat}(h:w.heap[b]?=some (.map es clock))(o:Obj):(setObj b o).run P w= .ok () {w with heap:=w.heap.setIfInBounds b o}:=by
 simp[setObj,Sem.run,h]
theorem zAH{w0 w:World}{S:List Nat}{L:List Res}{i b:Nat}{kv kv':List (κ×Value)}{es':Array MapEntry}{clock':Nat}(c:Own w0 S L w)(d:L[i]?=some (Res.map ke b kv))
   (h1:es'.toList.map (fun e=>(e.key,e.val))=kv'.map (fun p=>(ke p.1,p.2))) (h2:js es' clock'):Own w0 S (L.set i (Res.map ke b kv')) {w with heap:=w.heap.setIfInBounds b (.map es' clock')}:=by
 have hb:b<w.heap.size:=c.lt d b (by simp[Res.map])
 have:=c.frame1 (r':=Res.map ke b kv') (E:=[]) d (Own.mk1 (w':={w with heap:=w.heap.setIfInBounds b (.map es' clock')}) ⟨rfl,rfl,rfl,by simp,fun k g f=> ?_⟩ ⟨es',clock',?_,h1,h2⟩ (fun h a=> .inl a))
 · simpa using this
 · simp only[Res.map,List.mem_singleton]at f
   simp only[Array.getElem?_setIfInBounds_ne (Ne.symm f)]
 simp[Array.getElem?_setIfInBounds_self,hb]
variable {n:Nat} {ops:Array Oper} {N:K} {f:Nat→Value} {rest:List Oper} {d:Nat} {ty:TypeId} {p:String} {af:Array Edge} {x y z:Operand} {w0:World} {S:List Nat} {L:List Res} {A:World→Prop}
theorem zOC(ke:κ→Value){o:Option Operand}(ho:o=none)(a:Nat.blt d n=true)(k:∀ b,CL P n ops rest N (upd f d (.map (some b))) (Own w0 S (L++[Res.map ke b []]))):
   CL P n ops (⟨some d, .makeMap t o,ty,p,af,none⟩::rest) N f (Own w0 S L):=by
 intro w hw
 subst ho
 have c:Own w [] [Res.map ke w.heap.size []] (w.alloc (.map #[] 0)):=
   Own.mk1 ⟨rfl,rfl,rfl,by simp,fun k e _=>heap_alloc_old w _ k e⟩ ⟨#[],0,heap_alloc_new w _,rfl,by simp[js]⟩ (fun b hb=>by simp[Res.map]at hb;right;omega)
 refine xc (w':=w.alloc (.map #[] 0)) ?_ a (k w.heap.size _ (hw.qb c))
 simp[execOp,Instr.makeMap,newObj,Sem.run]
def kU(P:Program)(t:TypeId):Option (TypeId×TypeId):=match P.underlying t with|some (.map k v)=>some (k,v)|_=>none
theorem xM(h:kU P t=some (kt,vt)):P.underlying t=some (.map kt vt):=by
 unfold kU at h
 split at h
 · rename_i k v hk;simp at h;obtain⟨rfl,rfl⟩:=h;exact hk
 cases h
theorem zGo{v:Value}(h:x2 P vt=some v)(w:World):(zeroValue vt).run P w= .ok v w:=by
 simp only[x2,Option.bind_eq_some_iff]at h
 obtain⟨c,a,b⟩:=h
 simp[zeroValue,typeInfo,a,b]
theorem zTu{b:Nat}{kv:List (κ×Value)}{k:κ}{zv:Value}{res:Option Value}(i:zH8 k kv=res)(K:KeyL P kt ke)(c:kU P t=some (kt,vt))(j:x2 P vt=some zv)(e:ev f x= .map (some b))(g:ev f y=ke k)(l:∀ w,A w→(Res.map ke b kv).φ w):
   RV P f ⟨some d, .lookup t x y true,ty,p,af,none⟩ A (.tuple #[res.getD zv, .bool res.isSome]):=fun w m=>by
 subst i
 obtain⟨es,a,h1,h2,o⟩:=l w m
 have e1:=x3 (P:=P) h1
 have e2:=j6 K es.isEmpty k w
 have h:=zAn K k h2 w
 have n:=zGo j w
 cases hi:kc k kv 0 with
 |none=>simp[execOp,e,g,Instr.lookup,zp (xM c),e1,e2,h,hi,n,zH8]
 |some q=>simp[execOp,e,g,Instr.lookup,zp (xM c),e1,e2,h,hi,zH8]
theorem zUb{b:Nat}{kv:List (κ×Value)}{k:κ}{zv:Value}{res:Option Value}(i:zH8 k kv=res)(K:KeyL P kt ke)(c:kU P t=some (kt,vt))(j:x2 P vt=some zv)(e:ev f x= .map (some b))(g:ev f y=ke k)(l:∀ w,A w→(Res.map ke b kv).φ w):
   RV P f ⟨some d, .lookup t x y false,ty,p,af,none⟩ A (res.getD zv):=fun w m=>by
 subst i
 obtain⟨es,a,h1,h2,o⟩:=l w m
 have e1:=x3 (P:=P) h1
 have e2:=j6 K es.isEmpty k w
 have h:=zAn K k h2 w
 have n:=zGo j w
 cases hi:kc k kv 0 with
 |none=>simp[execOp,e,g,Instr.lookup,zp (xM c),e1,e2,h,hi,n,zH8]
 |some q=>simp[execOp,e,g,Instr.lookup,zp (xM c),e1,e2,h,hi,zH8]
theorem zRe{b:Nat}{kv:List (κ×Value)}(c:kU P t=some (kt,vt))(e:ev f x= .map (some b))(g:∀ w,A w→(Res.map ke b kv).φ w):
   RV P f ⟨some d, .call ⟨.builtin .len,#[x],#[t]⟩,ty,p,af,none⟩ A (.int .i64 kv.length):=fun w h=>by
 obtain⟨es,a,h1,h2,i⟩:=g w h
 have e1:=x3 (P:=P) h1
 have e2:es.size=kv.length:=by have:=congrArg List.length h2;simpa using this
 simp[execOp,resolve,invoke,builtin,Builtin.len_,e,zp (xM c),e1,goInt,e2]
theorem zHv{es:Array MapEntry}{clock:Nat}(h:js es clock)(e:MapEntry)(d:e.born=clock):js (es.push e) (clock+1):=by
 refine⟨fun x c=> ?_,?_⟩
 · simp only[Array.toList_push,List.mem_append,List.mem_singleton]at c
   rcases c with c|rfl
   · have:=h.1 x c;omega
   omega
 simp only[Array.toList_push,List.map_append,List.map_cons,List.map_nil]
 rw[List.nodup_append]
 refine⟨h.2,by simp,?_⟩
 intro a ha b hb
 simp at hb;subst hb
 obtain⟨x,c,rfl⟩:=List.mem_map.1 ha
 have:=h.1 x c
 omega
theorem zNe(K:KeyL P kt ke)(o:kU P t=some (kt,vt)){i b:Nat}{kv:List (κ×Value)}{k:κ}{v:Value}{w:World}(h:Own w0 S L w)(l:L[i]?=some (Res.map ke b kv)):
   ∃ w',(Instr.mapUpdate t (.map (some b)) (ke k) v).run P w= .ok () w'∧Own w0 S (L.set i (Res.map ke b (zEE k v kv))) w':=by
 obtain⟨es,a,h1,h2,g⟩:=h.holds i _ l
 have e1:=x3 (P:=P) h1
 have e2:=j6 K false k w
 have p:=zAn K k h2 w
 cases hi:kc k kv 0 with
 |none=>
   refine⟨_,?_,zAH (es':=es.push ⟨ke k,v,a⟩) (clock':=a+1) (kv':=zEE k v kv) h l ?_ (zHv g _ O)⟩
   · simp[Instr.mapUpdate,zp (xM o),e1,e2,p,hi,kM (P:=P) h1]
   simp[zEE,hi,h2]
 |some q=>
   obtain⟨j,u⟩:=q
   obtain⟨_,n⟩:=zAy hi
   simp only[Nat.sub_zero]at n
   have c:j<es.toList.length:=by
     have hl:=congrArg List.length h2
     simp only[List.length_map]at hl
     rw[hl];exact(List.getElem?_eq_some_iff.1 n).1
   have f:(es[j]?.map (·.key)).getD (ke k)=ke k:=by
     have:=congrArg (·[j]?) h2
     simp only[List.getElem?_map,n,Option.map_some]at this
     cases d:es[j]? with
     |none=>rfl
     |some e=>
       rw[←Array.getElem?_toList]at d
       rw[d]at this
       simp at this
       simp[this.1]
   have r:=zJ7 K k w
   refine⟨_,?_,zAH (es':=es.modify j fun e=>{e with key:=ke k,val:=v}) (clock':=a) (kv':=zEE k v kv) h l ?_ ⟨?_,?_⟩⟩
   · simp only[Instr.mapUpdate]
     simp[zp (xM o),e1,e2,p,hi,kM (P:=P) h1]
     rw[f,r]
     simp[kM (P:=P) h1]
   · simp only[zEE,hi]
     rw[Array.toList_modify,zBX _ _ _ c]
     simp only[List.map_set,h2]
   · intro e d
     rw[Array.toList_modify,zBX _ _ _ c]at d
     rcases List.mem_or_eq_of_mem_set d with d|rfl
     · exact g.1 e d
     exact g.1 (es.toList[j]) (List.getElem_mem c)
   rw[Array.toList_modify,zBX _ _ _ c]
   simp only[List.map_set]
   have:(es.toList.map (·.born)).set j es.toList[j].born=es.toList.map (·.born):=by
     apply List.ext_getElem?
     intro m
     rw[List.getElem?_set]
     split
     · rename_i hm;subst hm;simp only[List.length_map,c,if_true,List.getElem?_map,List.getElem?_eq_getElem c,Option.map_some]
     rfl
   rw[this];exact g.2
theorem zSr(i:Nat){b:Nat}{kv:List (κ×Value)}{k:κ}{v:Value}(K:KeyL P kt ke)(c:kU P t=some (kt,vt))(d:ev f x= .map (some b))(e:ev f y=ke k)(g:ev f z=v)(h:L[i]?=some (Res.map ke b kv))
   (j:CL P n ops rest N f (Own w0 S (L.set i (Res.map ke b (zEE k v kv))))):CL P n ops (⟨none, .mapUpdate t x y z,ty,p,af,none⟩::rest) N f (Own w0 S L):=by
 intro w hw
 obtain⟨a,l,m⟩:=zNe (v:=v) K c hw h
 refine zBj (w':=a) ?_ (j _ m)
 simp[execOp,d,e,g,l]
theorem zKX(K:KeyL P kt ke)(m:kU P t=some (kt,vt)){i b:Nat}{kv:List (κ×Value)}{k:κ}{w:World}{u:TypeId}(d:Own w0 S L w)(f:L[i]?=some (Res.map ke b kv)):
   ∃ w',(Builtin.delete_ #[t,u] ty #[.map (some b),ke k]).run P w= .ok (.tuple #[]) w'∧Own w0 S (L.set i (Res.map ke b (zA7 k kv))) w':=by
 obtain⟨es,a,h1,h2,g⟩:=d.holds i _ f
 have e1:=x3 (P:=P) h1
 have e2:=j6 K es.isEmpty k w
 have n:=zAn K k h2 w
 cases hi:kc k kv 0 with
 |none=>
   refine⟨_,?_,zAH (es':=es) (clock':=a) (kv':=zA7 k kv) d f (by simp[zA7,hi,h2]) g⟩
   simp[Builtin.delete_,zp (xM m),e1,e2,n,hi,kM (P:=P) h1]
 |some q=>
   obtain⟨j,r⟩:=q
   obtain⟨_,o⟩:=zAy hi
   simp only[Nat.sub_zero]at o
   have h:j<es.toList.length:=by
     have hl:=congrArg List.length h2
     simp only[List.length_map]at hl
     rw[hl];exact(List.getElem?_eq_some_iff.1 o).1
   have l:j<es.size:=by simpa using h
   have c:(es.eraseIdxIfInBounds j).toList=es.toList.eraseIdx j:=by
     simp[Array.eraseIdxIfInBounds,l]
   refine⟨_,?_,zAH (es':=es.eraseIdxIfInBounds j) (clock':=a) (kv':=zA7 k kv) d f ?_ ⟨?_,?_⟩⟩
   · simp[Builtin.delete_,zp (xM m),e1,e2,n,hi,kM (P:=P) h1]
   · rw[c]
     simp only[zA7,hi]
     rw[kq,kq,h2]
   · rw[c];exact fun e p=>g.1 e (List.mem_of_mem_eraseIdx p)
   rw[c,kq];exact g.2.sublist (List.eraseIdx_sublist _ _)
end
end Go.Sc
