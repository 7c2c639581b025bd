import Derived.Test.YthpoddkmhfhboaaGreatDoorFwM
import Derived.Test.YthpoddkmhfhboaaGreatDoorRows
import Derived.WalkKit
import Derived.ProofKit
import Derived.OpenShut
import Derived.ShutString
set_option linter.unusedSimpArgs false
set_option linter.unusedVariables false
set_option linter.unusedSectionVars false
namespace Go.Sc
section
variable {P:Program} {n:Nat} {ops:Array Oper} {N R:K} {X:List (Nat×K)} {f:Nat→Value} {A:World→Prop} {rest:List Oper}
variable {d:Nat} {ty:TypeId} {p:String} {af:Array Edge}
def QL(P:Program)(n:Nat)(ops:Array Oper)(l:List Oper)(N:K)(f:Nat→Value)(A:World→Prop):Prop:=∀ w,A w→SL P n ops w (fun g=>N g w) l f
theorem zOn{w0:World}{S:List Nat}{L:List Res}{id:Nat}{l:List Oper}(a:P.follows .mixedOrders=true)(b:Region.lexB .any l.toArray=true)(h:QL P n l.toArray l N f (Own w0 S L)):C P n (.region id l.toArray true) N R X f (Own w0 S L):=
 fun w c=>zDq a b (h _ c.drawn)
theorem yd{w0:World}{S:List Nat}{L:List Res}{id:Nat}{l:List Oper}{y:Code}(a:P.follows .mixedOrders=true)(b:Region.lexB .any l.toArray=true)(h:QL P n l.toArray l (fun f w=>W P n y N R X f w) f (Own w0 S L)):C P n (.seq (.region id l.toArray true) y) N R X f (Own w0 S L):=
 zK (zOn a b h)
theorem zTR(h:∀ w,A w→N f w):QL P n ops [] N f A:=fun w a=>zM7 (h w a)
theorem xX{c:Code}{M:K}(h:C P n c M R X f A):QL P n ops [] (fun f w=>W P n c M R X f w) f A:=fun w a=>zM7 (h w a)
theorem zR{op:Op}{v:Value}(b:Nat.blt d n=true)(hv:RV P f ⟨some d,op,ty,p,af,none⟩ A v)(k:QL P n ops rest N (upd f d v) A):QL P n ops (⟨some d,op,ty,p,af,none⟩::rest) N f A:=
 fun w a=>zH9 (hv w a) b (k w a)
theorem yU{j e:Nat}{b:Bool}{dst:Option Tmp}{op:Op}(a:yu ops j=some e)(hb:f e= .bool b)(k:QL P n ops (⟨dst,op,ty,p,af,none⟩::rest) N f A):QL P n ops (⟨dst,op,ty,p,af,some (j,b)⟩::rest) N f A:=
 fun w c=>zLM a hb (k w c)
theorem zDa{M:(Nat→Value)→Prop}{j e:Nat}{b b':Bool}(y:yu ops j=some e)(m:(b'==b)=false){w:World}:∀ (l1:List Oper) (U T:List Nat) (f:Nat→Value),
   jg ops j e b U l1=some T→f e= .bool b'→(∀ s,inT U s=true→f s=undef)→zCc n l1=true→
   (∀ g,Out T f g→SL P n ops w M rest g)→SL P n ops w M (l1++rest) f
 | [],U,T,f,c,hf,hU,hn,k=>k f (Out.refl _ _)
 |o::l1,U,T,f,c,hf,hU,hn,k=>by
   intro a ha
   unfold jg at c
   cases hg:o.guard with
   |none=>rw[hg]at c;cases c
   |some q=>
     obtain⟨i,z⟩:=q
     cases hd:o.dst with
     |none=>rw[hg,hd]at c;cases c
     |some d=>
       rw[hg,hd]at c
       dsimp only at c
       obtain⟨r,c⟩:=zB1 c
       simp only[Bool.and_eq_true,Bool.or_eq_true,Bool.not_eq_true']at r
       obtain⟨r,t⟩:=r
       have p:e≠d:=by intro h;subst h;simp at t
       simp only[zCc,List.all_cons,Bool.and_eq_true,hd]at hn
       have u:d<n:=by simpa [Nat.blt_eq]using hn.1
       have hw:Region.wanted o (yielded ops a.tmps)=false:=by
         unfold Region.wanted
         rw[hg]
         rcases r with⟨h1,h2⟩|h1
         · have:i=j:=Nat.eq_of_beq_eq_true h1
           subst this
           have:z=b:=by simpa using h2
           subst this
           simp only[kG ha y hf]
           simpa using m
         cases hsl:yu ops i with
         |none=>rw[hsl]at h1;cases h1
         |some s=>
           rw[hsl]at h1
           simp only[zBD ha hsl (hU s h1)]
           rfl
       show wpStill P ops w _ (o::(l1++rest)) a
       unfold wpStill
       rw[if_neg (by rw[hw];simp),hd]
       refine zDa y m l1 (d::U) T (upd f d undef) c (by rw[zAS _ _ p];exact hf) ?_ hn.2 ?_ _ (ha.put u undef)
       · intro s hs'
         by_cases h:s=d
         · subst h;rw[zB7]
         rw[zAS _ _ h]
         refine hU s ?_
         unfold inT at hs' ⊢
         simp only[List.any_cons,Bool.or_eq_true]at hs'
         rcases hs' with h1|h1
         · exact absurd (Nat.eq_of_beq_eq_true h1) h
         exact h1
       intro g hg'
       refine k g (fun i hi=> ?_)
       rw[hg' i hi]
       refine zAS _ _ ?_
       intro h;subst h
       have v:∀ (l:List Oper) (U T:List Nat),jg ops j e b U l=some T→∀ x,inT U x=true→inT T x=true:=by
         intro l
         induction l with
         |nil=>intro U T h x hx;simp[jg]at h;subst h;exact hx
         |cons o l ih=>
           intro U T h x hx
           unfold jg at h
           split at h
           · exact ih _ _ (zB1 h).2 x (by unfold inT at hx ⊢;simp[hx])
           cases h
       have:=v l1 _ _ c i (by unfold inT;simp)
       rw[this]at hi;cases hi
theorem zEf{M M':(Nat→Value)→Prop}{w:World}{l2:List Oper}:∀ (l1:List Oper) {f:Nat→Value},SL P n ops w M' l1 f→(∀ f,M' f→SL P n ops w M l2 f)→SL P n ops w M (l1++l2) f:=by
 intro l1 f h hk a ha
 have:=h a ha
 clear h ha
 revert this a
 suffices ∀ (l:List Oper) (a:Act),wpStill P ops w (fun a=>∃ f,Rep n f a∧M' f) l a→wpStill P ops w (fun a=>∃ f,Rep n f a∧M f) (l++l2) a from fun a h=>this l1 a h
 intro l
 induction l with
 |nil=>
   intro a h
   obtain⟨f,b,c⟩:=h
   exact hk f c a b
 |cons o l ih=>
   intro a h
   show wpStill P ops w _ (o::(l++l2)) a
   unfold wpStill at h ⊢
   split
   · rename_i hw;rw[if_pos hw]at h;exact Oper.still_mono ih h
   rename_i hw;rw[if_neg hw]at h;exact ih _ h
variable {e t:Nat} {l:List Oper}
theorem zCf(m j:Nat)(T:List Nat){q:Prop}(r:Prop)[Decidable q][Decidable r]{gd:Option (Nat×Bool)}(u:l.drop m=⟨some d, .pick (.tmp e) (.tmp t) (.const yC),ty,p,af,gd⟩::rest)
   (x:yu ops j=some e) (o:f e= .bool (decide q)) (y:jg ops j e true [] (l.take m)=some T) (z:zCc n (l.take m)=true) (he:inT T e=false)
   (c:match gd with|none=>True|some (i,b)=>∃ s,yu ops i=some s∧inT T s=false∧f s= .bool b) (hd:Nat.blt d n=true)
   (hy:q→QL P n ops (l.take m) (zES T f t (.bool (decide r)) A) f A)
   (k:∀ g,QL P n ops rest N (upd (msk f g T) d (.bool (decide (q∧r)))) A):QL P n ops l N f A:=by
 intro w hw
 rw[←List.take_append_drop m l,u]
 have fin:∀ (g:Nat→Value) (v:Value),Out T f g→(bif decide q then g t else yC)=v→v= .bool (decide (q∧r))→
     SL P n ops w (fun g=>N g w) (⟨some d, .pick (.tmp e) (.tmp t) (.const yC),ty,p,af,gd⟩::rest) g:=by
   intro g v ho hv hv'
   have h:g e= .bool (decide q):=(ho e he).trans o
   have a:SL P n ops w (fun g=>N g w) (⟨some d, .pick (.tmp e) (.tmp t) (.const yC),ty,p,af,none⟩::rest) g:=by
     refine zH9 (v:=v) ?_ hd ?_
     · subst hv
       by_cases hq':q<;>simp[execOp,ev,h,hq',asBool]
     rw[hv']
     have:=k g w hw
     rw[zFJ ho]at this
     exact this
   cases gd with
   |none=>exact a
   |some ib=>
     obtain⟨i,b⟩:=ib
     obtain⟨s,h1,h2,h3⟩:=c
     exact zLM h1 ((ho s h2).trans h3) a
 by_cases hc:q
 · refine zEf _ (hy hc w hw) ?_
   rintro g ⟨ho,ht, -⟩
   refine fin g _ ho O ?_
   simp[hc,ht]
 refine zDa (b':=false) x rfl _ [] T f y (by rw[o];simp[hc]) (by simp[inT]) z ?_
 intro g ho
 refine fin g _ ho O ?_
 simp[hc]
theorem zEm(m j:Nat)(T:List Nat){q:Prop}(r:Prop)[Decidable q][Decidable r]{gd:Option (Nat×Bool)}(u:l.drop m=⟨some d, .pick (.tmp e) (.const xx) (.tmp t),ty,p,af,gd⟩::rest)
   (x:yu ops j=some e) (o:f e= .bool (decide q)) (y:jg ops j e false [] (l.take m)=some T) (z:zCc n (l.take m)=true) (he:inT T e=false)
   (c:match gd with|none=>True|some (i,b)=>∃ s,yu ops i=some s∧inT T s=false∧f s= .bool b) (hd:Nat.blt d n=true)
   (hy:¬ q→QL P n ops (l.take m) (zES T f t (.bool (decide r)) A) f A)
   (k:∀ g,QL P n ops rest N (upd (msk f g T) d (.bool (decide (q∨r)))) A):QL P n ops l N f A:=by
 intro w hw
 rw[←List.take_append_drop m l,u]
 have fin:∀ (g:Nat→Value) (v:Value),Out T f g→(bif decide q then xx else g t)=v→v= .bool (decide (q∨r))→
     SL P n ops w (fun g=>N g w) (⟨some d, .pick (.tmp e) (.const xx) (.tmp t),ty,p,af,gd⟩::rest) g:=by
   intro g v ho hv hv'
   have h:g e= .bool (decide q):=(ho e he).trans o
   have a:SL P n ops w (fun g=>N g w) (⟨some d, .pick (.tmp e) (.const xx) (.tmp t),ty,p,af,none⟩::rest) g:=by
     refine zH9 (v:=v) ?_ hd ?_
     · subst hv
       by_cases hq':q<;>simp[execOp,ev,h,hq',asBool]
     rw[hv']
     have:=k g w hw
     rw[zFJ ho]at this
     exact this
   cases gd with
   |none=>exact a
   |some ib=>
     obtain⟨i,b⟩:=ib
     obtain⟨s,h1,h2,h3⟩:=c
     exact zLM h1 ((ho s h2).trans h3) a
 by_cases hc:q
 · refine zDa (b':=true) x rfl _ [] T f y (by rw[o];simp[hc]) (by simp[inT]) z ?_
   intro g ho
   refine fin g _ ho O ?_
   simp[hc]
 refine zEf _ (hy hc w hw) ?_
 rintro g ⟨ho,ht, -⟩
 refine fin g _ ho O ?_
 simp[hc,ht]
end
def zAd (P : Program) (t : TypeId) : Option (List (Nat × Option (Option IntKind))) :=
  match P.underlying t with
  | some (.struct fs) => if P.stoodInHeld t then none else fs.toList.mapM fun (f : Field) => if f.name = "_" then none else
    match P.underlying f.type with
    | some (.int k) => some (f.offset, some (some k))
    | some .string => some (f.offset, some none)
    | some .bool => some (f.offset, none)
    | _ => none
  | _ => none
def eqC:Value→Value→Bool
 | .int _ a, .int _ b=>decide (a=b)
 | .bool a, .bool b=>decide (a=b)
 | .string a, .string b=>decide (a=b)
 |_,_=>false
def zFP:Option (Option IntKind)→Value→Bool
 |some (some k), .int k' _=>k=k'
 |some none, .string _=>true
 |none, .bool _=>true
 |_,_=>false
def kw(ks:List (Nat×Option (Option IntKind)))(xs:List Value):Bool:=ks.all fun q=>match xs[q.1]? with|some v=>zFP q.2 v|none=>false
def eqL(ks:List (Nat×Option (Option IntKind)))(xs ys:List Value):Bool:=ks.all fun q=>match xs[q.1]?,ys[q.1]? with|some a,some b=>eqC a b|_,_=>false
section
variable {P:Program}
theorem zIh{t:TypeId}{k:Option (Option IntKind)}{d:Nat}{a b:Value}{w:World}
   (c:match k with|some (some q)=>P.underlying t=some (.int q)|some none=>P.underlying t=some .string|none=>P.underlying t=some .bool) (e:zFP k a=true) (hb:zFP k b=true):
   (Op.equalIn (d+1) t a b).run P w= .ok (eqC a b) w∧(isAgg t).run P w= .ok false w:=by
 match k,a,b with
 |some (some q), .int k1 x, .int k2 y=>
   simp only[zFP,decide_eq_true_eq]at e hb
   subst e;subst hb
   simp only at c
   refine⟨?_,by simp[isAgg,zp c]⟩
   simp only[Op.equalIn,Sem.run_bind,zp c,Result.andThen_ok,if_true,Sem.run_pure,eqC]
   rfl
 |some none, .string x, .string y=>
   simp only at c
   refine⟨?_,by simp[isAgg,zp c]⟩
   simp only[Op.equalIn,Sem.run_bind,zp c,Result.andThen_ok,Sem.run_pure,eqC]
   rw[beq_toListBytes,jR]
 |none, .bool x, .bool y=>
   simp only at c
   refine⟨?_,by simp[isAgg,zp c]⟩
   simp only[Op.equalIn,Sem.run_bind,zp c,Result.andThen_ok,Sem.run_pure,eqC]
   cases x<;>cases y<;>rfl
 |some (some _), .bool _,_|some (some _), .float _ _,_|some (some _), .complex _ _ _,_|some (some _), .string _,_|some (some _), .pointer _,_|some (some _), .slice _ _ _,_|some (some _), .map _,_|some (some _), .chan _,_|some (some _), .func _ _ _,_|some (some _), .nilFunc,_|some (some _), .iface _ _,_|some (some _), .nilIface,_|some (some _), .agg _,_|some (some _), .tuple _,_=>cases e
 |some (some _), .int _ _, .bool _|some (some _), .int _ _, .float _ _|some (some _), .int _ _, .complex _ _ _|some (some _), .int _ _, .string _|some (some _), .int _ _, .pointer _|some (some _), .int _ _, .slice _ _ _|some (some _), .int _ _, .map _|some (some _), .int _ _, .chan _|some (some _), .int _ _, .func _ _ _|some (some _), .int _ _, .nilFunc|some (some _), .int _ _, .iface _ _|some (some _), .int _ _, .nilIface|some (some _), .int _ _, .agg _|some (some _), .int _ _, .tuple _=>cases hb
 |some none, .bool _,_|some none, .float _ _,_|some none, .complex _ _ _,_|some none, .int _ _,_|some none, .pointer _,_|some none, .slice _ _ _,_|some none, .map _,_|some none, .chan _,_|some none, .func _ _ _,_|some none, .nilFunc,_|some none, .iface _ _,_|some none, .nilIface,_|some none, .agg _,_|some none, .tuple _,_=>cases e
 |some none, .string _, .bool _|some none, .string _, .float _ _|some none, .string _, .complex _ _ _|some none, .string _, .int _ _|some none, .string _, .pointer _|some none, .string _, .slice _ _ _|some none, .string _, .map _|some none, .string _, .chan _|some none, .string _, .func _ _ _|some none, .string _, .nilFunc|some none, .string _, .iface _ _|some none, .string _, .nilIface|some none, .string _, .agg _|some none, .string _, .tuple _=>cases hb
 |none, .string _,_|none, .float _ _,_|none, .complex _ _ _,_|none, .int _ _,_|none, .pointer _,_|none, .slice _ _ _,_|none, .map _,_|none, .chan _,_|none, .func _ _ _,_|none, .nilFunc,_|none, .iface _ _,_|none, .nilIface,_|none, .agg _,_|none, .tuple _,_=>cases e
 |none, .bool _, .string _|none, .bool _, .float _ _|none, .bool _, .complex _ _ _|none, .bool _, .int _ _|none, .bool _, .pointer _|none, .bool _, .slice _ _ _|none, .bool _, .map _|none, .bool _, .chan _|none, .bool _, .func _ _ _|none, .bool _, .nilFunc|none, .bool _, .iface _ _|none, .bool _, .nilIface|none, .bool _, .agg _|none, .bool _, .tuple _=>cases hb
theorem zCX{t:TypeId}{cs:Array Value}{off:Nat}{v:Value}{w:World}(a:(isAgg t).run P w= .ok false w)(b:cs[off]?=some v):(part t cs off).run P w= .ok v w:=by
 simp[part,a,b]
theorem zDw (d : Nat) {xs ys : List Value} {w : World} : ∀ (fs : List Field) (ks : List (Nat × Option (Option IntKind))),
    (fs.mapM fun (f : Field) => if f.name = "_" then none else
      match P.underlying f.type with
      | some (.int k) => some (f.offset, some (some k))
      | some .string => some (f.offset, some none)
      | some .bool => some (f.offset, none)
      | _ => none) = some ks → kw ks xs = true → kw ks ys = true → (Op.eqFields (d + 1) xs.toArray ys.toArray fs).run P w = .ok (eqL ks xs ys) w
  | [], ks, h, _, _ => by simp at h; subst h; rfl
  | f :: fs, ks, h, hx, hy => by
    simp only [List.mapM_cons, bind, Option.bind_eq_some_iff, pure] at h
    obtain ⟨q, c, l, hl, h⟩ := h
    simp at h; subst h
    split at c
    · cases c
    rename_i hn
    obtain ⟨hoff, hk⟩ : q.1 = f.offset ∧ (match q.2 with | some (some k) => P.underlying f.type = some (.int k) | some none => P.underlying f.type = some .string | none => P.underlying f.type = some .bool) := by
      split at c <;> simp at c <;> subst c <;> exact ⟨rfl, by assumption⟩
    simp only [kw, List.all_cons, Bool.and_eq_true] at hx hy
    have e := zDw d (xs := xs) (ys := ys) (w := w) fs l hl hx.2 hy.2
    obtain ⟨hx1, -⟩ := hx
    obtain ⟨hy1, -⟩ := hy
    cases ha : xs[q.1]? with
    | none => rw [ha] at hx1; cases hx1
    | some a =>
      cases hb : ys[q.1]? with
      | none => rw [hb] at hy1; cases hy1
      | some b =>
        rw [ha] at hx1; rw [hb] at hy1
        obtain ⟨e1, e2⟩ := zIh (P := P) (t := f.type) (d := d) (w := w) hk hx1 hy1
        have g := zCX (P := P) (cs := xs.toArray) e2 (by simpa [hoff] using ha)
        have i := zCX (P := P) (cs := ys.toArray) e2 (by simpa [hoff] using hb)
        rw [hoff] at ha hb
        simp only [Op.eqFields, eqL, List.all_cons, hoff, ha, hb]
        cases hc : eqC a b
        · simp [hn, g, i, e1, hc]
        simp only [eqL] at e
        simp [hn, g, i, e1, hc, e]
theorem zAN{t:TypeId}{ks:List (Nat×Option (Option IntKind))}{xs ys:List Value}{w:World}(h:zAd P t=some ks)(b:kw ks xs=true)(c:kw ks ys=true):
   (Op.equal t (.agg xs.toArray) (.agg ys.toArray)).run P w= .ok (eqL ks xs ys) w:=by
 unfold zAd at h
 split at h
 · rename_i fs hfs
   split at h
   · cases h
   rename_i hst
   have a:P.fieldsOf t=fs:=by simp[Program.fieldsOf,hfs]
   have:=run_equalIn_struct (P:=P) (w:=w) 9999 t xs.toArray ys.toArray (by rw[a];exact hfs) (by simpa using hst)
   show(Op.equalIn (9999+1) t _ _).run P w=_
   rw[this,a]
   exact zDw 9998 fs.toList ks h b c
 cases h
variable {n:Nat} {ops:Array Oper} {N:K} {f:Nat→Value} {A:World→Prop} {rest:List Oper} {d:Nat} {ty:TypeId} {p:String} {af:Array Edge} {x y:Operand} {t t':TypeId}
theorem zTT{ks:List (Nat×Option (Option IntKind))}{xs ys:List Value}(h:zAd P t=some ks)(c:P.eqGuardType P.depth t=false)(g:ev f x= .agg xs.toArray)(i:ev f y= .agg ys.toArray)(a:kw ks xs=true)(b:kw ks ys=true):
   RV P f ⟨some d, .binOp .eql t x y t',ty,p,af,none⟩ A (.bool (eqL ks xs ys)):=fun w _=>by
 have h1:=zAN (w:=w) h a b
 have hp:(Go.program).run P w= .ok P w:=rfl
 have e:binOp .eql t (.agg xs.toArray) (.agg ys.toArray)=(do pure (.bool (←Op.equal t (.agg xs.toArray) (.agg ys.toArray)))):=rfl
 simp only[execOp,g,i,eqGuard,e]
 simp[hp,c,h1]
theorem zT1{ks:List (Nat×Option (Option IntKind))}{xs ys:List Value}(h:zAd P t=some ks)(c:P.eqGuardType P.depth t=false)(g:ev f x= .agg xs.toArray)(i:ev f y= .agg ys.toArray)(a:kw ks xs=true)(b:kw ks ys=true):
   RV P f ⟨some d, .binOp .neq t x y t',ty,p,af,none⟩ A (.bool (!eqL ks xs ys)):=fun w _=>by
 have h1:=zAN (w:=w) h a b
 have hp:(Go.program).run P w= .ok P w:=rfl
 have e:binOp .neq t (.agg xs.toArray) (.agg ys.toArray)=(do pure (.bool (!(←Op.equal t (.agg xs.toArray) (.agg ys.toArray))))):=rfl
 simp only[execOp,g,i,eqGuard,e]
 simp[hp,c,h1]
theorem zS9{ks:List (Nat×Option (Option IntKind))}{xs ys:List Value}{q:Prop}[Decidable q](c:eqL ks xs ys=decide q)(h:zAd P t=some ks)(e:P.eqGuardType P.depth t=false)(g:ev f x= .agg xs.toArray)(i:ev f y= .agg ys.toArray)(a:kw ks xs=true)(b:kw ks ys=true):
 RV P f ⟨some d, .binOp .eql t x y t',ty,p,af,none⟩ A (.bool (decide q)):=by rw[←c];exact zTT h e g i a b
theorem zTK{ks:List (Nat×Option (Option IntKind))}{xs ys:List Value}{q:Prop}[Decidable q](c:eqL ks xs ys=decide q)(h:zAd P t=some ks)(g:P.eqGuardType P.depth t=false)(i:ev f x= .agg xs.toArray)(j:ev f y= .agg ys.toArray)(a:kw ks xs=true)(b:kw ks ys=true):
   RV P f ⟨some d, .binOp .neq t x y t',ty,p,af,none⟩ A (.bool (decide ¬ q)):=by
 have e:decide (¬ q)= !eqL ks xs ys:=by rw[c,decide_not]
 rw[e];exact zT1 h g i j a b
end
def kE(a:Int):Prop:= -9223372036854775808≤a∧a≤9223372036854775807
def isU(n:Nat):Prop:=n<18446744073709551616
def u64(a:Int):Nat:=(a%18446744073709551616).toNat
theorem ya(a:Int):u64 a<18446744073709551616:=by unfold u64;omega
theorem y0(a:Int):IntKind.u64.wrap a=(u64 a:Int):=by
 unfold IntKind.wrap u64
 simp[IntKind.bits,IntKind.signed]
 omega
section
variable {w0 w:World} {S S':List Nat} {L:List Res}
end
section
variable {P:Program} {n:Nat} {ops:Array Oper} {N R:K} {X:List (Nat×K)} {f:Nat→Value} {W:World→Prop} {w w0:World} {S:List Nat} {L:List Res}
variable {d:Nat} {ty t:TypeId} {p:String} {af:Array Edge} {fuel:Nat} {listed:Array Bool} {x y:Operand}
end
end Go.Sc
namespace Go.Proofs.YthpoddkmhfhboaaGreatDoor
open Go Go.Sc Go.Proofs Go.RowKit Go.ChangeShapes
theorem zDZ{H:Type}:∀ ds:List (DataW H),Rows.uptoBulkAll ds=(ds.map Rows.uptoBulk).sum
 | []=>rfl
 |d::ds=>by simp[Rows.uptoBulkAll,zDZ ds]
def RdA(P:Program)(W:World)(t:TypeId){α:Type}(cells:α→List Value)(wf:α→Prop)(size:α→Nat):Prop:=
 ∀ (H:Type) (enc:TypeId×Value→H) (fuel:Nat) (cs:List Value) (x:DataW H×List MemPlace),DataW.trod enc P W 0 (fun _=>true) true fuel t cs=some x→∃ a,cs=cells a∧wf a∧size a≤Rows.uptoBulk x.1
variable {P:Program} {W:World} {t e:TypeId} {α β:Type}
theorem RdA.map{cells:α→List Value}{wf:α→Prop}{size:α→Nat}{cells':β→List Value}{wf':β→Prop}{size':β→Nat}(h:RdA P W t cells wf size)(φ:α→β)
   (h1:∀ a,cells a=cells' (φ a)) (h2:∀ a,wf a→wf' (φ a)) (b:∀ a,wf a→size' (φ a)≤size a):RdA P W t cells' wf' size':=by
 intro H enc fuel cs x hx
 obtain⟨a,e1,e2,c⟩:=h H enc fuel cs x hx
 exact⟨φ a,by rw[e1,h1],h2 a e2,Nat.le_trans (b a e2) c⟩
theorem RdA.u64(b:P.underlying t=some (.int .u64)):RdA P W t (fun n:Nat=>[.int .u64 n]) isU (fun _=>1):=by
 intro H enc fuel cs x hx
 obtain⟨a,rfl,rfl,c⟩:=DataW.trod_int b hx
 simp[Lit.wf,IntKind.min,IntKind.max,IntKind.signed,IntKind.bits]at c
 refine⟨a.toNat,by show _=[Value.int .u64 (a.toNat:Int)];rw[Int.toNat_of_nonneg qG],?_,by simp[Rows.uptoBulk]⟩
 unfold isU
 omega
theorem RdA.byte(b:P.underlying t=some (.int .u8)):RdA P W t (fun c:UInt8=>[vb c]) (fun _=>True) (fun _=>1):=by
 intro H enc fuel cs x hx
 obtain⟨a,rfl,rfl,d⟩:=DataW.trod_int b hx
 simp[Lit.wf,IntKind.min,IntKind.max,IntKind.signed,IntKind.bits]at d
 refine⟨UInt8.ofNat a.toNat,?_,trivial,by simp[Rows.uptoBulk]⟩
 show _=[vb (UInt8.ofNat a.toNat)]
 simp only[vb,UInt8.toNat_ofNat']
 congr 2
 omega
theorem cells?_spec {w:World} {a:Addr}:∀ {n:Nat} {cs:List Value},w.cells? 0 a n=some cs→cs.length=n∧∀ i u,cs[i]?=some u→w.cell? (a.add i)=some u:=by
 intro n cs h
 unfold World.cells? at h
 rw[if_pos (Nat.zero_le _)]at h
 have hl:cs.length=n:=by simpa using mapM_some_length h
 refine⟨hl,fun i u b=> ?_⟩
 have hi:i<n:=by rw[←hl];exact(List.getElem?_eq_some_iff.1 b).1
 have:=mapM_some_get h i i (by simp[hi])
 rw[this,b]
theorem RdA.slice{cells:α→List Value}{wf:α→Prop}{size:α→Nat}{sz:Nat}(ht:P.underlying t=some (.slice e))(l:P.cellsOf e=sz)(s:0<sz)(hc:∀ a,(cells a).length=sz)(he:RdA P W e cells wf size):
   RdA P W t (fun p:Value×List α=>[p.1]) (fun p=>Sl W p.1 p.2.length (p.2.flatMap cells)∧∀ a∈p.2,wf a) (fun p=>(p.2.map size).sum+1):=by
 intro H enc fuel cs x hx
 rcases DataW.trod_slice ht hx with⟨rfl,rfl⟩|⟨a,len,cap,c,rest,n,rfl,rfl,rfl,hb,hl,hm,a9,v,a3,aa⟩
 · exact⟨(zW,[]),rfl,⟨.inl ⟨none,rfl,rfl,rfl⟩,by simp⟩,by simp[Rows.uptoBulk]⟩
 -- the elements,each one read
 have each:∀ i,i<len→∃ (y:DataW H×List MemPlace) (z:α),c[i]?=some y∧wf z∧size z≤Rows.uptoBulk y.1∧∀ j u,(cells z)[j]?=some u→W.cell? ((a.add (i*sz)).add j)=some u:=by
   intro i hi
   have h:=v i hi
   obtain⟨y,hy⟩:∃ y,c[i]?=some y:=⟨_,List.getElem?_eq_getElem qG⟩
   rw[hy,l,Option.bind_eq_some_iff]at h
   obtain⟨f,g,hr⟩:=h
   obtain⟨z,rfl,m,w⟩:=he H enc n f y hr
   exact⟨y,z,hy,m,w,(cells?_spec g).2⟩
 have all:∀ k,k≤len→∃ d:List α,d.length=k∧(∀ z∈d,wf z)∧(d.map size).sum≤((c.take k).map fun y=>Rows.uptoBulk y.1).sum∧
     ∀ i z,d[i]?=some z→∀ j u,(cells z)[j]?=some u→W.cell? ((a.add (i*sz)).add j)=some u:=by
   intro k
   induction k with
   |zero=>intro _;exact⟨[],rfl,by simp,by simp,by simp⟩
   |succ k ih=>
     intro hk
     obtain⟨d,h1,h2,h3,h4⟩:=ih qG
     obtain⟨y,z,hy,m,w,a4⟩:=each k qG
     refine⟨d++[z],by simp[h1],?_,?_,?_⟩
     · intro z' hz'
       rcases List.mem_append.1 hz' with h|h
       · exact h2 z' h
       simp at h;subst h;exact m
     · rw[List.take_add_one,hy]
       simp only[List.map_append,List.sum_append,Option.toList_some,List.map_cons,List.map_nil,List.sum_cons,List.sum_nil]
       omega
     intro i z' hi
     rw[List.getElem?_append]at hi
     split at hi
     · exact h4 i z' hi
     rename_i hnl
     have:i - d.length=0:=by
       cases hq:i - d.length with
       |zero=>rfl
       |succ q=>rw[hq]at hi;simp at hi
     rw[this]at hi;simp at hi;subst hi
     have:i=k:=by omega
     subst this;exact a4
 obtain⟨d,h1,h2,h3,h4⟩:=all len (Nat.le_refl _)
 rw[List.take_of_length_le qG]at h3
 refine⟨(.slice (some a) len cap,d),O,⟨?_,h2⟩,?_⟩
 · by_cases hc0:cap=0
   · subst hc0
     have h0:len=0:=by omega
     subst h0
     have:d=[]:=List.eq_nil_of_length_eq_zero h1
     subst this
     exact .inl ⟨_,O,O,O⟩
   -- the row is there:its first place reads
   have o:∃ u,W.cell? a=some u:=by
     have key:∀ i,i<cap→∃ f,W.cells? 0 (a.add (i*sz)) sz=some f:=by
       intro i hi
       by_cases hil:i<len
       · have h:=v i hil
         rw[List.getElem?_eq_getElem qG,l,Option.bind_eq_some_iff]at h
         exact⟨_,h.choose_spec.1⟩
       obtain⟨ab,a5⟩:=a3 rfl
       have h:=a5 (i - len) qG
       rw[List.getElem?_eq_getElem qG,l,Option.bind_eq_some_iff,show len+(i - len)=i by omega]at h
       exact⟨_,h.choose_spec.1⟩
     obtain⟨f,g⟩:=key 0 qG
     obtain⟨q1,q2⟩:=cells?_spec g
     refine⟨f[0]'qG,?_⟩
     have:=q2 0 _ (List.getElem?_eq_getElem qG)
     simpa [Addr.add]using this
   obtain⟨u,hu⟩:=o
   obtain⟨b,off,a0⟩:=a
   have r:a0=none:=World.cell?_spot hu
   subst r
   have a6:b<W.heap.size:=by
     have g:W.cells? 0 ⟨b,off,none⟩ 1=some [u]:=Go.ChangeShapes.cells?_one (Nat.zero_le _) hu
     exact World.cells?_block g qG
   show Sl W (.slice (some ⟨b,off,none⟩) len cap) d.length (d.flatMap cells)
   rw[h1]
   refine .inr ⟨b,off,cap,O,⟨hl,by omega⟩,hm,a6,?_⟩
   intro q u' hq
   have a1:q<(d.flatMap cells).length:=(List.getElem?_eq_some_iff.1 hq).1
   rw[jc hc]at a1
   have a7:q / sz<d.length:=Nat.div_lt_of_lt_mul (by rw[Nat.mul_comm];exact a1)
   have a8:q%sz<sz:=Nat.mod_lt _ s
   obtain⟨z,hz⟩:∃ z,d[q / sz]?=some z:=⟨_,List.getElem?_eq_getElem a7⟩
   have a2:q / sz*sz+q%sz=q:=by rw[Nat.mul_comm];exact Nat.div_add_mod q sz
   have:=zDL hc d (q / sz) (q%sz) z hz a8
   rw[a2,hq]at this
   have h5:=h4 _ z hz _ u' this.symm
   have e5:((⟨b,off,none⟩:Addr).add (q / sz*sz)).add (q%sz)=⟨b,off+q,none⟩:=by
     simp only[jx];rw[Nat.add_assoc,a2]
   rw[e5]at h5
   exact h5
 simp only[Rows.uptoBulk,zDZ,List.map_map]
 have:(c.map (Rows.uptoBulk ∘ fun x=>x.1)).sum=(c.map fun y=>Rows.uptoBulk y.1).sum:=rfl
 omega
def RdF(P:Program)(W:World)(tot:Nat)(fs:List Field)(off:Nat){α:Type}(cells:α→List Value)(wf:α→Prop)(size:α→Nat):Prop:=
 ∀ (H:Type) (enc:TypeId×Value→H) (n:Nat) (cs:List Value) (xs:List (DataW H×List MemPlace)),cs.length=tot→xs.length=fs.length→
   (∀ (i:Nat) (f:Field),fs[i]?=some f→DataW.trod enc P W 0 (fun _=>true) true n f.type ((cs.drop f.offset).take (P.cellsOf f.type))=xs[i]?)→
   ∃ a,cs.drop off=cells a∧wf a∧size a≤(xs.map fun y=>Rows.uptoBulk y.1).sum
theorem zEk{v u:Value}(h:v.cells.toList=[u])(a:∀ cs,v≠ .agg cs):v=u:=by
 cases v<;>simp_all[Value.cells]
theorem zJi{r:Reach}{b0:Nat}{v u:Value}(b:P.underlying t=some (.slice e))(h:Value.okWide P W r b0 t v)(c:v.cells.toList=[u]):v=u:=by
 obtain⟨a,len,cap,rfl⟩:=Go.WideShapes.okWide_slice b h
 exact zEk c qJ
theorem zIf{r:Reach}{b0:Nat}{v u:Value}{k:IntKind}(b:P.underlying t=some (.int k))(h:Value.okWide P W r b0 t v)(c:v.cells.toList=[u]):v=u:=by
 obtain⟨a,rfl⟩:=Go.WideShapes.okWide_int b h
 exact zEk c qJ
theorem zA9{H:Type}{enc:TypeId×Value→H}(hl:laidOutB P=true){W':World}(hb:Below W.heap.size W W'):∀ {ts:List TypeId} {vs:List Value} {ds:List (DataW H)} {ps:List MemPlace},
   ts.all (fun t=>P.readableRec t&&decide (t<P.types.size))=true→DataW.TrodAll enc P W 0 (fun _=>true) true ts vs ds ps→(∀ x∈ps,x.block<W.heap.size)→
   DataW.TrodAll enc P W' 0 (fun b=>decide (b<W.heap.size)) true ts vs ds ps
 | [],[],[],_,_,h,_=>h
 | [],_::_,_,_,_,h,_=>h.elim
 | [],[],_::_,_,_,h,_=>h.elim
 |_::_,[],_,_,_,h,_=>h.elim
 |_::_,_::_,[],_,_,h,_=>h.elim
 |t::ts,v::vs,d::ds,ps,hr,h,hlt=>by
   obtain⟨p,q,h1,h2,rfl⟩:=h
   simp only[List.all_cons,Bool.and_eq_true,decide_eq_true_eq]at hr
   exact⟨p,q,Below.trod hl hr.1.1 hr.1.2 h1 hb (fun x a=>hlt x (by simp[a])),zA9 hl hb hr.2 h2 (fun x a=>hlt x (by simp[a])),O⟩
theorem zCn{H:Type}{enc:TypeId×Value→H}{base:Nat}{sp:Nat→Bool}{held:Bool}:∀ {ts:List TypeId} {vs:List Value} {ds:List (DataW H)} {ps:List MemPlace},DataW.TrodAll enc P W base sp held ts vs ds ps→ds.length=ts.length
 | [],[],[],_,_=>rfl
 | [],_::_,_,_,h=>h.elim
 | [],[],_::_,_,h=>h.elim
 |_::_,[],_,_,h=>h.elim
 |_::_,_::_,[],_,h=>h.elim
 |t::ts,v::vs,d::ds,ps,h=>by
   obtain⟨p,q,h1,h2,rfl⟩:=h
   simp[zCn h2]
theorem zLr{H:Type}{enc:TypeId×Value→H}{f:Func}{s:ChangeSpec}{W':World}{args:Array Value}{ds gs:List (DataW H)}{before:List MemPlace}{tb:TypeId}(hl:laidOutB P=true)(k:s.vars=[])
   (e:∀ ds:List (DataW H),ds.length=f.params.toList.length→s.fn H ds={results:=[.lit (.bool true)],args:=ds}) (b:f.resultTypes= #[tb]) (g:P.underlying tb=some .bool)
   (i:f.params.toList.all (fun t=>P.readableRec t&&decide (t<P.types.size))=true)
   (j:DataW.Whole enc P f.params.toList s.vars false W args.toList ds gs before) (hb:Below W.heap.size W W'):s.post enc P f false true false false W args (.bool true) W':=by
 have c:=j.lt
 have d:=j
 obtain⟨p,q,l,m,rfl,n,o⟩:=j
 rw[k]at m
 obtain⟨rfl,rfl⟩:=trodVars_none m
 have a:=e ds (zCn l)
 rw[List.append_nil]at c d
 refine⟨ds,[],p,[],p,[],d,?_,?_,?_,hb.frame _,fun h=>by cases h⟩
 · rw[List.append_nil,a,b]
   exact trodAll_mk1 (shut_bool g _)
 · rw[List.append_nil,a]
   exact zA9 hl hb i l c
 rw[List.append_nil,a,k]
 rfl
theorem Own.below{w w':World}{L:List Res}(h:Own w [] L w'):Below w.heap.size w w':=
 ⟨h.keep.os,h.keep.tape,h.keep.output,h.keep.size,fun k a=>h.keep.block k a qJ⟩
end Go.Proofs.YthpoddkmhfhboaaGreatDoor
namespace Go.Sc
def yK(n:Nat):Nat:=if n=0 then 0 else n.log2+1
theorem zCV(n:Nat):n<2 ^ yK n:=by
 unfold yK
 split
 · subst n;decide
 exact Nat.lt_log2_self
theorem zAs{n:Nat}(h:0<n):2 ^ (yK n - 1)≤n:=by
 unfold yK
 rw[if_neg qG]
 exact Nat.log2_self_le qG
theorem zGa{n L:Nat}(a:0<n)(h1:n<2 ^ (L+1))(h2:2 ^ L≤n):yK n=L+1:=by
 have b:=zCV n
 have c:=zAs a
 have d:L<yK n:=(Nat.pow_lt_pow_iff_right qG).1 (Nat.lt_of_le_of_lt h2 b)
 have e:yK n - 1<L+1:=(Nat.pow_lt_pow_iff_right qG).1 (Nat.lt_of_le_of_lt c h1)
 omega
theorem zDR{n:Nat}(h:0<n):0<yK n:=by unfold yK;rw[if_neg qG];omega
theorem jO{n k:Nat}(h:2 ^ k≤n):yK n=yK (n / 2 ^ k)+k:=by
 have hp:0<2 ^ k:=Nat.two_pow_pos k
 have a:0<n / 2 ^ k:=Nat.div_pos h hp
 have b:=zCV (n / 2 ^ k)
 have c:=zAs a
 have a3:=zDR a
 have e:yK n=(yK (n / 2 ^ k) - 1+k)+1:=by
   refine zGa qG ?_ ?_
   · have:n<2 ^ yK (n / 2 ^ k)*2 ^ k:=(Nat.div_lt_iff_lt_mul hp).1 b
     rw[←Nat.pow_add]at this
     rw[show yK (n / 2 ^ k) - 1+k+1=yK (n / 2 ^ k)+k by omega]
     exact this
   rw[Nat.pow_add]
   exact(Nat.le_div_iff_mul_le hp).1 c
 omega
theorem kD{n k:Nat}(h:n<2 ^ k):yK n≤k:=by
 by_cases h0:n=0
 · subst h0;simp[yK]
 have:=zAs (Nat.pos_of_ne_zero h0)
 have:=(Nat.pow_lt_pow_iff_right (a:=2) qG).1 (Nat.lt_of_le_of_lt this h)
 omega
def lenTabL:List UInt8:=0::1::List.replicate 2 2++List.replicate 4 3++List.replicate 8 4++List.replicate 16 5++List.replicate 32 6++List.replicate 64 7++List.replicate 128 8
theorem zJU:∀ m:Fin 256,(lenTabL[m.val]?.map UInt8.toNat)=some (yK m.val):=by decide+kernel
def yV(n:Nat):Nat:=(yK n+7) / 8
theorem zBY{n:Nat}(h:n<18446744073709551616):yV n≤8:=by
 have:=kD (n:=n) (k:=64) h
 unfold yV;omega
def be(n:Nat):Nat→List UInt8
 |0=>[]
 |k+1=>UInt8.ofNat (n / 2 ^ (8*k))::be n k
theorem zAv(n:Nat):∀ k,(be n k).length=k
 |0=>rfl
 |k+1=>by simp[be,zAv n k]
def xS(n:Nat):List UInt8:=UInt8.ofNat (yV n)::be n (yV n)
theorem jV(n:Nat):(xS n).length=yV n+1:=by simp[xS,zAv]
theorem jz{n:Nat}(h:n<18446744073709551616):(xS n).length≤9:=by rw[jV];have:=zBY h;omega
def dat(d:List UInt8):List UInt8:=xS d.length++d
theorem zEA(m:Nat):vb (UInt8.ofNat m)= .int .u8 ((m%256:Nat):Int):=by simp[vb]
end Go.Sc
