import Derived.Test.YtmpaljnacfidaaaGreatDoorFwM
import Derived.Test.YtmpaljnacfidaaaGreatDoorFw3
import Derived.Laws.StructEq
import Derived.Test.YtmpaljnacfidaaaGreatDoorProg
set_option linter.unusedSimpArgs false
set_option linter.unusedVariables false
set_option linter.unusedSectionVars false
namespace Go.Sc
section
variable {P:Program} {n:Nat} {ops:Array Oper} {N R:K} {X:List (Nat×K)} {f:Nat→Value} {A:World→Prop} {rest:List Oper}
variable {d:Nat} {ty:TypeId} {p:String} {af:Array Edge}
def QL(P:Program)(n:Nat)(ops:Array Oper)(l:List Oper)(N:K)(f:Nat→Value)(A:World→Prop):Prop:=∀ w,A w→SL P n ops w (fun g=>N g w) l f
theorem zMi{w0:World}{S:List Nat}{L:List Res}{id:Nat}{l:List Oper}(a:P.follows .mixedOrders=true)(b:Region.lexB .any l.toArray=true)(h:QL P n l.toArray l N f (Own w0 S L)):C P n (.region id l.toArray true) N R X f (Own w0 S L):=
  fun w c=>zDJ a b (h _ c.drawn)
theorem yZ{w0:World}{S:List Nat}{L:List Res}{id:Nat}{l:List Oper}{y:Code}(a:P.follows .mixedOrders=true)(b:Region.lexB .any l.toArray=true)(h:QL P n l.toArray l (fun f w=>W P n y N R X f w) f (Own w0 S L)):C P n (.seq (.region id l.toArray true) y) N R X f (Own w0 S L):=
  zK (zMi a b h)
theorem zS0(h:∀ w,A w→N f w):QL P n ops [] N f A:=fun w a=>zLo (h w a)
theorem xP{c:Code}{M:K}(h:C P n c M R X f A):QL P n ops [] (fun f w=>W P n c M R X f w) f A:=fun w a=>zLo (h w a)
theorem zR{op:Op}{v:Value}(b:Nat.blt d n=true)(hv:RV P f ⟨some d,op,ty,p,af,none⟩ A v)(k:QL P n ops rest N (upd f d v) A):QL P n ops (⟨some d,op,ty,p,af,none⟩::rest) N f A:=
  fun w a=>zHf (hv w a) b (k w a)
theorem yQ{j e:Nat}{b:Bool}{dst:Option Tmp}{op:Op}(a:yn ops j=some e)(hb:f e= .bool b)(k:QL P n ops (⟨dst,op,ty,p,af,none⟩::rest) N f A):QL P n ops (⟨dst,op,ty,p,af,some (j,b)⟩::rest) N f A:=
  fun w c=>zKk a hb (k w c)
theorem zDc{M:(Nat→Value)→Prop}{j e:Nat}{b b':Bool}(y:yn ops j=some e)(m:(b'==b)=false){w:World}:∀ (l1:List Oper) (U T:List Nat) (f:Nat→Value),
    jP ops j e b U l1=some T→f e= .bool b'→(∀ s,inT U s=true→f s=undef)→zB4 n l1=true→
    (∀ g,Out T f g→SL P n ops w M rest g)→SL P n ops w M (l1++rest) f
  | [],U,T,f,c,hf,hU,hn,k=>k f (Out.refl _ _)
  |o::l1,U,T,f,c,hf,hU,hn,k=>by
    intro a ha
    unfold jP at c
    cases hg:o.guard with
    |none=>rw[hg]at c;cases c
    |some q=>
      obtain⟨i,z⟩:=q
      cases hd:o.dst with
      |none=>rw[hg,hd]at c;cases c
      |some d=>
        rw[hg,hd]at c
        dsimp only at c
        obtain⟨r,c⟩:=zBY c
        simp only[Bool.and_eq_true,Bool.or_eq_true,Bool.not_eq_true']at r
        obtain⟨r,t⟩:=r
        have p:e≠d:=by intro h;subst h;simp at t
        simp only[zB4,List.all_cons,Bool.and_eq_true,hd]at hn
        have u:d<n:=by simpa [Nat.blt_eq]using hn.1
        have hw:Region.wanted o (yielded ops a.tmps)=false:=by
          unfold Region.wanted
          rw[hg]
          rcases r with⟨h1,h2⟩|h1
          · have:i=j:=Nat.eq_of_beq_eq_true h1
            subst this
            have:z=b:=by simpa using h2
            subst this
            simp only[kE ha y hf]
            simpa using m
          cases hsl:yn ops i with
          |none=>rw[hsl]at h1;cases h1
          |some s=>
            rw[hsl]at h1
            simp only[zA2 ha hsl (hU s h1)]
            rfl
        show wpStill P ops w _ (o::(l1++rest)) a
        unfold wpStill
        rw[if_neg (by rw[hw];simp),hd]
        refine zDc y m l1 (d::U) T (upd f d undef) c (by rw[j6 _ _ p];exact hf) ?_ hn.2 ?_ _ (ha.put u undef)
        · intro s hs'
          by_cases h:s=d
          · subst h;rw[zBl]
          rw[j6 _ _ h]
          refine hU s ?_
          unfold inT at hs' ⊢
          simp only[List.any_cons,Bool.or_eq_true]at hs'
          rcases hs' with h1|h1
          · exact absurd (Nat.eq_of_beq_eq_true h1) h
          exact h1
        intro g hg'
        refine k g (fun i hi=> ?_)
        rw[hg' i hi]
        refine j6 _ _ ?_
        intro h;subst h
        have v:∀ (l:List Oper) (U T:List Nat),jP ops j e b U l=some T→∀ x,inT U x=true→inT T x=true:=by
          intro l
          induction l with
          |nil=>intro U T h x hx;simp[jP]at h;subst h;exact hx
          |cons o l ih=>
            intro U T h x hx
            unfold jP at h
            split at h
            · exact ih _ _ (zBY h).2 x (by unfold inT at hx ⊢;simp[hx])
            cases h
        have:=v l1 _ _ c i (by unfold inT;simp)
        rw[this]at hi;cases hi
theorem zED{M M':(Nat→Value)→Prop}{w:World}{l2:List Oper}:∀ (l1:List Oper) {f:Nat→Value},SL P n ops w M' l1 f→(∀ f,M' f→SL P n ops w M l2 f)→SL P n ops w M (l1++l2) f:=by
  intro l1 f h hk a ha
  have:=h a ha
  clear h ha
  revert this a
  suffices ∀ (l:List Oper) (a:Act),wpStill P ops w (fun a=>∃ f,Rep n f a∧M' f) l a→wpStill P ops w (fun a=>∃ f,Rep n f a∧M f) (l++l2) a from fun a h=>this l1 a h
  intro l
  induction l with
  |nil=>
    intro a h
    obtain⟨f,b,c⟩:=h
    exact hk f c a b
  |cons o l ih=>
    intro a h
    show wpStill P ops w _ (o::(l++l2)) a
    unfold wpStill at h ⊢
    split
    · rename_i hw;rw[if_pos hw]at h;exact Oper.still_mono ih h
    rename_i hw;rw[if_neg hw]at h;exact ih _ h
variable {e t:Nat} {l:List Oper}
theorem zB7(m j:Nat)(T:List Nat){q:Prop}(r:Prop)[Decidable q][Decidable r]{gd:Option (Nat×Bool)}(u:l.drop m=⟨some d, .pick (.tmp e) (.tmp t) (.const zu),ty,p,af,gd⟩::rest)
    (x:yn ops j=some e) (o:f e= .bool (decide q)) (y:jP ops j e true [] (l.take m)=some T) (z:zB4 n (l.take m)=true) (he:inT T e=false)
    (c:match gd with|none=>True|some (i,b)=>∃ s,yn ops i=some s∧inT T s=false∧f s= .bool b) (hd:Nat.blt d n=true)
    (hy:q→QL P n ops (l.take m) (zEC T f t (.bool (decide r)) A) f A)
    (k:∀ g,QL P n ops rest N (upd (msk f g T) d (.bool (decide (q∧r)))) A):QL P n ops l N f A:=by
  intro w hw
  rw[←List.take_append_drop m l,u]
  have fin:∀ (g:Nat→Value) (v:Value),Out T f g→(bif decide q then g t else zu)=v→v= .bool (decide (q∧r))→
      SL P n ops w (fun g=>N g w) (⟨some d, .pick (.tmp e) (.tmp t) (.const zu),ty,p,af,gd⟩::rest) g:=by
    intro g v ho hv hv'
    have h:g e= .bool (decide q):=(ho e he).trans o
    have a:SL P n ops w (fun g=>N g w) (⟨some d, .pick (.tmp e) (.tmp t) (.const zu),ty,p,af,none⟩::rest) g:=by
      refine zHf (v:=v) ?_ hd ?_
      · subst hv
        by_cases hq':q<;>simp[execOp,ev,h,hq',asBool]
      rw[hv']
      have:=k g w hw
      rw[zE8 ho]at this
      exact this
    cases gd with
    |none=>exact a
    |some ib=>
      obtain⟨i,b⟩:=ib
      obtain⟨s,h1,h2,h3⟩:=c
      exact zKk h1 ((ho s h2).trans h3) a
  by_cases hc:q
  · refine zED _ (hy hc w hw) ?_
    rintro g ⟨ho,ht, -⟩
    refine fin g _ ho O ?_
    simp[hc,ht]
  refine zDc (b':=false) x rfl _ [] T f y (by rw[o];simp[hc]) (by simp[inT]) z ?_
  intro g ho
  refine fin g _ ho O ?_
  simp[hc]
theorem zDw(m j:Nat)(T:List Nat){q:Prop}(r:Prop)[Decidable q][Decidable r]{gd:Option (Nat×Bool)}(u:l.drop m=⟨some d, .pick (.tmp e) (.const xl) (.tmp t),ty,p,af,gd⟩::rest)
    (x:yn ops j=some e) (o:f e= .bool (decide q)) (y:jP ops j e false [] (l.take m)=some T) (z:zB4 n (l.take m)=true) (he:inT T e=false)
    (c:match gd with|none=>True|some (i,b)=>∃ s,yn ops i=some s∧inT T s=false∧f s= .bool b) (hd:Nat.blt d n=true)
    (hy:¬ q→QL P n ops (l.take m) (zEC T f t (.bool (decide r)) A) f A)
    (k:∀ g,QL P n ops rest N (upd (msk f g T) d (.bool (decide (q∨r)))) A):QL P n ops l N f A:=by
  intro w hw
  rw[←List.take_append_drop m l,u]
  have fin:∀ (g:Nat→Value) (v:Value),Out T f g→(bif decide q then xl else g t)=v→v= .bool (decide (q∨r))→
      SL P n ops w (fun g=>N g w) (⟨some d, .pick (.tmp e) (.const xl) (.tmp t),ty,p,af,gd⟩::rest) g:=by
    intro g v ho hv hv'
    have h:g e= .bool (decide q):=(ho e he).trans o
    have a:SL P n ops w (fun g=>N g w) (⟨some d, .pick (.tmp e) (.const xl) (.tmp t),ty,p,af,none⟩::rest) g:=by
      refine zHf (v:=v) ?_ hd ?_
      · subst hv
        by_cases hq':q<;>simp[execOp,ev,h,hq',asBool]
      rw[hv']
      have:=k g w hw
      rw[zE8 ho]at this
      exact this
    cases gd with
    |none=>exact a
    |some ib=>
      obtain⟨i,b⟩:=ib
      obtain⟨s,h1,h2,h3⟩:=c
      exact zKk h1 ((ho s h2).trans h3) a
  by_cases hc:q
  · refine zDc (b':=true) x rfl _ [] T f y (by rw[o];simp[hc]) (by simp[inT]) z ?_
    intro g ho
    refine fin g _ ho O ?_
    simp[hc]
  refine zED _ (hy hc w hw) ?_
  rintro g ⟨ho,ht, -⟩
  refine fin g _ ho O ?_
  simp[hc,ht]
end
def zAI (P : Program) (t : TypeId) : Option (List (Nat × Option (Option IntKind))) :=
  match P.underlying t with
  | some (.struct fs) => if P.stoodInHeld t then none else fs.toList.mapM fun (f : Field) => if f.name = "_" then none else
    match P.underlying f.type with
    | some (.int k) => some (f.offset, some (some k))
    | some .string => some (f.offset, some none)
    | some .bool => some (f.offset, none)
    | _ => none
  | _ => none
def eqC:Value→Value→Bool
  | .int _ a, .int _ b=>decide (a=b)
  | .bool a, .bool b=>decide (a=b)
  | .string a, .string b=>decide (a=b)
  |_,_=>false
def zEq:Option (Option IntKind)→Value→Bool
  |some (some k), .int k' _=>k=k'
  |some none, .string _=>true
  |none, .bool _=>true
  |_,_=>false
def ki(ks:List (Nat×Option (Option IntKind)))(xs:List Value):Bool:=ks.all fun q=>match xs[q.1]? with|some v=>zEq q.2 v|none=>false
def eqL(ks:List (Nat×Option (Option IntKind)))(xs ys:List Value):Bool:=ks.all fun q=>match xs[q.1]?,ys[q.1]? with|some a,some b=>eqC a b|_,_=>false
section
variable {P:Program}
theorem zH5{t:TypeId}{k:Option (Option IntKind)}{d:Nat}{a b:Value}{w:World}
    (c:match k with|some (some q)=>P.underlying t=some (.int q)|some none=>P.underlying t=some .string|none=>P.underlying t=some .bool) (e:zEq k a=true) (hb:zEq k b=true):
    (Op.equalIn (d+1) t a b).run P w= .ok (eqC a b) w∧(isAgg t).run P w= .ok false w:=by
  match k,a,b with
  |some (some q), .int k1 x, .int k2 y=>
    simp only[zEq,decide_eq_true_eq]at e hb
    subst e;subst hb
    simp only at c
    refine⟨?_,by simp[isAgg,zp c]⟩
    simp only[Op.equalIn,Sem.run_bind,zp c,Result.andThen_ok,if_true,Sem.run_pure,eqC]
    rfl
  |some none, .string x, .string y=>
    simp only at c
    refine⟨?_,by simp[isAgg,zp c]⟩
    simp only[Op.equalIn,Sem.run_bind,zp c,Result.andThen_ok,Sem.run_pure,eqC]
    rw[beq_toListBytes,jG]
  |none, .bool x, .bool y=>
    simp only at c
    refine⟨?_,by simp[isAgg,zp c]⟩
    simp only[Op.equalIn,Sem.run_bind,zp c,Result.andThen_ok,Sem.run_pure,eqC]
    cases x<;>cases y<;>rfl
  |some (some _), .bool _,_|some (some _), .float _ _,_|some (some _), .complex _ _ _,_|some (some _), .string _,_|some (some _), .pointer _,_|some (some _), .slice _ _ _,_|some (some _), .map _,_|some (some _), .chan _,_|some (some _), .func _ _ _,_|some (some _), .nilFunc,_|some (some _), .iface _ _,_|some (some _), .nilIface,_|some (some _), .agg _,_|some (some _), .tuple _,_=>cases e
  |some (some _), .int _ _, .bool _|some (some _), .int _ _, .float _ _|some (some _), .int _ _, .complex _ _ _|some (some _), .int _ _, .string _|some (some _), .int _ _, .pointer _|some (some _), .int _ _, .slice _ _ _|some (some _), .int _ _, .map _|some (some _), .int _ _, .chan _|some (some _), .int _ _, .func _ _ _|some (some _), .int _ _, .nilFunc|some (some _), .int _ _, .iface _ _|some (some _), .int _ _, .nilIface|some (some _), .int _ _, .agg _|some (some _), .int _ _, .tuple _=>cases hb
  |some none, .bool _,_|some none, .float _ _,_|some none, .complex _ _ _,_|some none, .int _ _,_|some none, .pointer _,_|some none, .slice _ _ _,_|some none, .map _,_|some none, .chan _,_|some none, .func _ _ _,_|some none, .nilFunc,_|some none, .iface _ _,_|some none, .nilIface,_|some none, .agg _,_|some none, .tuple _,_=>cases e
  |some none, .string _, .bool _|some none, .string _, .float _ _|some none, .string _, .complex _ _ _|some none, .string _, .int _ _|some none, .string _, .pointer _|some none, .string _, .slice _ _ _|some none, .string _, .map _|some none, .string _, .chan _|some none, .string _, .func _ _ _|some none, .string _, .nilFunc|some none, .string _, .iface _ _|some none, .string _, .nilIface|some none, .string _, .agg _|some none, .string _, .tuple _=>cases hb
  |none, .string _,_|none, .float _ _,_|none, .complex _ _ _,_|none, .int _ _,_|none, .pointer _,_|none, .slice _ _ _,_|none, .map _,_|none, .chan _,_|none, .func _ _ _,_|none, .nilFunc,_|none, .iface _ _,_|none, .nilIface,_|none, .agg _,_|none, .tuple _,_=>cases e
  |none, .bool _, .string _|none, .bool _, .float _ _|none, .bool _, .complex _ _ _|none, .bool _, .int _ _|none, .bool _, .pointer _|none, .bool _, .slice _ _ _|none, .bool _, .map _|none, .bool _, .chan _|none, .bool _, .func _ _ _|none, .bool _, .nilFunc|none, .bool _, .iface _ _|none, .bool _, .nilIface|none, .bool _, .agg _|none, .bool _, .tuple _=>cases hb
theorem zB6{t:TypeId}{cs:Array Value}{off:Nat}{v:Value}{w:World}(a:(isAgg t).run P w= .ok false w)(b:cs[off]?=some v):(part t cs off).run P w= .ok v w:=by
  simp[part,a,b]
theorem zDB (d : Nat) {xs ys : List Value} {w : World} : ∀ (fs : List Field) (ks : List (Nat × Option (Option IntKind))),
    (fs.mapM fun (f : Field) => if f.name = "_" then none else
      match P.underlying f.type with
      | some (.int k) => some (f.offset, some (some k))
      | some .string => some (f.offset, some none)
      | some .bool => some (f.offset, none)
      | _ => none) = some ks → ki ks xs = true → ki ks ys = true → (Op.eqFields (d + 1) xs.toArray ys.toArray fs).run P w = .ok (eqL ks xs ys) w
  | [], ks, h, _, _ => by simp at h; subst h; rfl
  | f :: fs, ks, h, hx, hy => by
    simp only [List.mapM_cons, bind, Option.bind_eq_some_iff, pure] at h
    obtain ⟨q, c, l, hl, h⟩ := h
    simp at h; subst h
    split at c
    · cases c
    rename_i hn
    obtain ⟨hoff, hk⟩ : q.1 = f.offset ∧ (match q.2 with | some (some k) => P.underlying f.type = some (.int k) | some none => P.underlying f.type = some .string | none => P.underlying f.type = some .bool) := by
      split at c <;> simp at c <;> subst c <;> exact ⟨rfl, by assumption⟩
    simp only [ki, List.all_cons, Bool.and_eq_true] at hx hy
    have e := zDB d (xs := xs) (ys := ys) (w := w) fs l hl hx.2 hy.2
    obtain ⟨hx1, -⟩ := hx
    obtain ⟨hy1, -⟩ := hy
    cases ha : xs[q.1]? with
    | none => rw [ha] at hx1; cases hx1
    | some a =>
      cases hb : ys[q.1]? with
      | none => rw [hb] at hy1; cases hy1
      | some b =>
        rw [ha] at hx1; rw [hb] at hy1
        obtain ⟨e1, e2⟩ := zH5 (P := P) (t := f.type) (d := d) (w := w) hk hx1 hy1
        have g := zB6 (P := P) (cs := xs.toArray) e2 (by simpa [hoff] using ha)
        have i := zB6 (P := P) (cs := ys.toArray) e2 (by simpa [hoff] using hb)
        rw [hoff] at ha hb
        simp only [Op.eqFields, eqL, List.all_cons, hoff, ha, hb]
        cases hc : eqC a b
        · simp [hn, g, i, e1, hc]
        simp only [eqL] at e
        simp [hn, g, i, e1, hc, e]
theorem jy{t:TypeId}{ks:List (Nat×Option (Option IntKind))}{xs ys:List Value}{w:World}(h:zAI P t=some ks)(b:ki ks xs=true)(c:ki ks ys=true):
    (Op.equal t (.agg xs.toArray) (.agg ys.toArray)).run P w= .ok (eqL ks xs ys) w:=by
  unfold zAI at h
  split at h
  · rename_i fs hfs
    split at h
    · cases h
    rename_i hst
    have a:P.fieldsOf t=fs:=by simp[Program.fieldsOf,hfs]
    have:=run_equalIn_struct (P:=P) (w:=w) 9999 t xs.toArray ys.toArray (by rw[a];exact hfs) (by simpa using hst)
    show(Op.equalIn (9999+1) t _ _).run P w=_
    rw[this,a]
    exact zDB 9998 fs.toList ks h b c
  cases h
variable {n:Nat} {ops:Array Oper} {N:K} {f:Nat→Value} {A:World→Prop} {rest:List Oper} {d:Nat} {ty:TypeId} {p:String} {af:Array Edge} {x y:Operand} {t t':TypeId}
theorem zSB{ks:List (Nat×Option (Option IntKind))}{xs ys:List Value}(h:zAI P t=some ks)(c:P.eqGuardType P.depth t=false)(g:ev f x= .agg xs.toArray)(i:ev f y= .agg ys.toArray)(a:ki ks xs=true)(b:ki ks ys=true):
    RV P f ⟨some d, .binOp .eql t x y t',ty,p,af,none⟩ A (.bool (eqL ks xs ys)):=fun w _=>by
  have h1:=jy (w:=w) h a b
  have hp:(Go.program).run P w= .ok P w:=rfl
  have e:binOp .eql t (.agg xs.toArray) (.agg ys.toArray)=(do pure (.bool (←Op.equal t (.agg xs.toArray) (.agg ys.toArray)))):=rfl
  simp only[execOp,g,i,eqGuard,e]
  simp[hp,c,h1]
theorem zSF{ks:List (Nat×Option (Option IntKind))}{xs ys:List Value}(h:zAI P t=some ks)(c:P.eqGuardType P.depth t=false)(g:ev f x= .agg xs.toArray)(i:ev f y= .agg ys.toArray)(a:ki ks xs=true)(b:ki ks ys=true):
    RV P f ⟨some d, .binOp .neq t x y t',ty,p,af,none⟩ A (.bool (!eqL ks xs ys)):=fun w _=>by
  have h1:=jy (w:=w) h a b
  have hp:(Go.program).run P w= .ok P w:=rfl
  have e:binOp .neq t (.agg xs.toArray) (.agg ys.toArray)=(do pure (.bool (!(←Op.equal t (.agg xs.toArray) (.agg ys.toArray))))):=rfl
  simp only[execOp,g,i,eqGuard,e]
  simp[hp,c,h1]
theorem zR9{ks:List (Nat×Option (Option IntKind))}{xs ys:List Value}{q:Prop}[Decidable q](c:eqL ks xs ys=decide q)(h:zAI P t=some ks)(e:P.eqGuardType P.depth t=false)(g:ev f x= .agg xs.toArray)(i:ev f y= .agg ys.toArray)(a:ki ks xs=true)(b:ki ks ys=true):
    RV P f ⟨some d, .binOp .eql t x y t',ty,p,af,none⟩ A (.bool (decide q)):=by rw[←c];exact zSB h e g i a b
theorem zO5{ks:List (Nat×Option (Option IntKind))}{xs ys:List Value}{q:Prop}[Decidable q](c:eqL ks xs ys=decide q)(h:zAI P t=some ks)(g:P.eqGuardType P.depth t=false)(i:ev f x= .agg xs.toArray)(j:ev f y= .agg ys.toArray)(a:ki ks xs=true)(b:ki ks ys=true):
    RV P f ⟨some d, .binOp .neq t x y t',ty,p,af,none⟩ A (.bool (decide ¬ q)):=by
  have e:decide (¬ q)= !eqL ks xs ys:=by rw[c,decide_not]
  rw[e];exact zSF h g i j a b
end
def yJ(n:Nat):Nat:=if n=0 then 0 else n.log2+1
theorem zCA(n:Nat):n<2 ^ yJ n:=by
  unfold yJ
  split
  · subst n;decide
  exact Nat.lt_log2_self
theorem zAd{n:Nat}(h:0<n):2 ^ (yJ n - 1)≤n:=by
  unfold yJ
  rw[if_neg qE]
  exact Nat.log2_self_le qE
theorem zGI{n L:Nat}(a:0<n)(h1:n<2 ^ (L+1))(h2:2 ^ L≤n):yJ n=L+1:=by
  have b:=zCA n
  have c:=zAd a
  have d:L<yJ n:=(Nat.pow_lt_pow_iff_right qE).1 (Nat.lt_of_le_of_lt h2 b)
  have e:yJ n - 1<L+1:=(Nat.pow_lt_pow_iff_right qE).1 (Nat.lt_of_le_of_lt c h1)
  omega
theorem zGi{n:Nat}(h:0<n):0<yJ n:=by unfold yJ;rw[if_neg qE];omega
theorem j3{n k:Nat}(h:2 ^ k≤n):yJ n=yJ (n / 2 ^ k)+k:=by
  have hp:0<2 ^ k:=Nat.two_pow_pos k
  have a:0<n / 2 ^ k:=Nat.div_pos h hp
  have b:=zCA (n / 2 ^ k)
  have c:=zAd a
  have a3:=zGi a
  have e:yJ n=(yJ (n / 2 ^ k) - 1+k)+1:=by
    refine zGI qE ?_ ?_
    · have:n<2 ^ yJ (n / 2 ^ k)*2 ^ k:=(Nat.div_lt_iff_lt_mul hp).1 b
      rw[←Nat.pow_add]at this
      rw[show yJ (n / 2 ^ k) - 1+k+1=yJ (n / 2 ^ k)+k by omega]
      exact this
    rw[Nat.pow_add]
    exact(Nat.le_div_iff_mul_le hp).1 c
  omega
theorem kq{n k:Nat}(h:n<2 ^ k):yJ n≤k:=by
  by_cases h0:n=0
  · subst h0;simp[yJ]
  have:=zAd (Nat.pos_of_ne_zero h0)
  have:=(Nat.pow_lt_pow_iff_right (a:=2) qE).1 (Nat.lt_of_le_of_lt this h)
  omega
def lenTabL:List UInt8:=0::1::List.replicate 2 2++List.replicate 4 3++List.replicate 8 4++List.replicate 16 5++List.replicate 32 6++List.replicate 64 7++List.replicate 128 8
theorem zJO:∀ m:Fin 256,(lenTabL[m.val]?.map UInt8.toNat)=some (yJ m.val):=by decide+kernel
def yV(n:Nat):Nat:=(yJ n+7) / 8
theorem zBI{n:Nat}(h:n<18446744073709551616):yV n≤8:=by
  have:=kq (n:=n) (k:=64) h
  unfold yV;omega
def be(n:Nat):Nat→List UInt8
  |0=>[]
  |k+1=>UInt8.ofNat (n / 2 ^ (8*k))::be n k
theorem zAn(n:Nat):∀ k,(be n k).length=k
  |0=>rfl
  |k+1=>by simp[be,zAn n k]
def kA(n:Nat):List UInt8:=UInt8.ofNat (yV n)::be n (yV n)
theorem zCt(n:Nat):(kA n).length=yV n+1:=by simp[kA,zAn]
theorem ja{n:Nat}(h:n<18446744073709551616):(kA n).length≤9:=by rw[zCt];have:=zBI h;omega
def dat(d:List UInt8):List UInt8:=kA d.length++d
theorem zC8(m:Nat):vb (UInt8.ofNat m)= .int .u8 ((m%256:Nat):Int):=by simp[vb]
end Go.Sc
set_option linter.unusedVariables false
set_option maxRecDepth 10000
namespace Go.Proofs.YtmpaljnacfidaaaGreatDoor
open Go Go.Sc Go.Proofs
theorem _root_.Go.Sc.qD{p:Prop}(h:p:=by kernel_rfl):p:=h
theorem zDf(n:Nat)(i:n<18446744073709551616)(w:World):
    Rets Tryz.prog 238 #[.int .u64 n] w fun v d=>v= .int .i64 (yJ n)∧Own w [] [] d:=by
  refine xq (args:=[.int .u64 n]) Tryz.func238 O Tryz.ntmps238 O (Own.start w) (zB (zG O (zA (js (Nat×Nat) (fun s=>[(0, .int .u64 s.1),(2, .int .i64 s.2)]) (fun s=>yJ n=yJ s.1+s.2∧s.1<4294967296∧s.2≤32) (fun _=>[]) ?_ (fun s g ⟨h1,h2,h3⟩=> ?_)))))
  · refine zB (zC rfl (xE rfl rfl rfl (zA (zT rfl (fun b=> ?_) (fun b=> ?_)))))
    · refine zB (zC rfl (zBf (c:=((n / 4294967296:Nat):Int)) rfl rfl qE (by show(n:Int).fdiv 4294967296=_;rw[Int.fdiv_eq_ediv_of_nonneg _ qE];omega) rfl (zG rfl (zA (zd (zG rfl ?_))))))
      have hb:yJ n=yJ (n / 4294967296)+32:=j3 (k:=32) qE
      exact zw (fun w a=>⟨(n / 4294967296,0+32),⟨O,O,trivial⟩,⟨by show yJ n=yJ (n / 4294967296)+(0+32);omega,by omega,by omega⟩,a⟩)
    exact xy (fun w a=>⟨(n,0),⟨rfl,rfl,trivial⟩,⟨by show yJ n=yJ n+0;omega,by omega,by omega⟩,a⟩)
  refine js (Nat×Nat) (fun s=>[(0, .int .u64 s.1),(2, .int .i64 s.2)]) (fun s=>yJ n=yJ s.1+s.2∧s.1<65536∧s.2≤48) (fun _=>[]) ?_ (fun s g ⟨h1,h2,h3⟩=> ?_)
  · refine zB (zC rfl (xE rfl rfl rfl (zA (zT rfl (fun b=> ?_) (fun b=> ?_)))))
    · refine zB (zC rfl (zBf (c:=((s.1 / 65536:Nat):Int)) rfl rfl qE (by show(s.1:Int).fdiv 65536=_;rw[Int.fdiv_eq_ediv_of_nonneg _ qE];omega) rfl (zG rfl (zA (zd (zC rfl (zr (c:=((s.2+16:Nat):Int)) rfl rfl (by rw[zt qE];omega) rfl (zG rfl ?_))))))))
      have hb:yJ s.1=yJ (s.1 / 65536)+16:=j3 (k:=16) qE
      exact zw (fun w a=>⟨(s.1 / 65536,s.2+16),⟨O,O,trivial⟩,⟨by show yJ n=yJ (s.1 / 65536)+(s.2+16);omega,by omega,by omega⟩,a⟩)
    exact xy (fun w a=>⟨(s.1,s.2),⟨rfl,rfl,trivial⟩,⟨by show yJ n=yJ s.1+s.2;omega,by omega,by omega⟩,a⟩)
  refine js (Nat×Nat) (fun s=>[(0, .int .u64 s.1),(2, .int .i64 s.2)]) (fun s=>yJ n=yJ s.1+s.2∧s.1<256∧s.2≤56) (fun _=>[]) ?_ (fun s g ⟨h1,h2,h3⟩=> ?_)
  · refine zB (zC rfl (xE rfl rfl rfl (zA (zT rfl (fun b=> ?_) (fun b=> ?_)))))
    · refine zB (zC rfl (zBf (c:=((s.1 / 256:Nat):Int)) rfl rfl qE (by show(s.1:Int).fdiv 256=_;rw[Int.fdiv_eq_ediv_of_nonneg _ qE];omega) rfl (zG rfl (zA (zd (zC rfl (zr (c:=((s.2+8:Nat):Int)) rfl rfl (by rw[zt qE];omega) rfl (zG rfl ?_))))))))
      have hb:yJ s.1=yJ (s.1 / 256)+8:=j3 (k:=8) qE
      exact zw (fun w a=>⟨(s.1 / 256,s.2+8),⟨O,O,trivial⟩,⟨by show yJ n=yJ (s.1 / 256)+(s.2+8);omega,by omega,by omega⟩,a⟩)
    exact xy (fun w a=>⟨(s.1,s.2),⟨rfl,rfl,trivial⟩,⟨by show yJ n=yJ s.1+s.2;omega,by omega,by omega⟩,a⟩)
  refine zB (zC O (zC O (ya O O (zPV qE) O ?_ qD)))
  have hl:s.1<(ByteArray.mk lenTabL.toArray).size:=by rw[show(ByteArray.mk lenTabL.toArray).size=256 by kernel_rfl];exact h2
  refine zSu (s:=⟨lenTabL.toArray⟩) qD qD O O hl O ?_
  have e:((ByteArray.mk lenTabL.toArray)[s.1]).toNat=yJ s.1:=by
    have:=zJO ⟨s.1,h2⟩
    rw[List.getElem?_eq_getElem (show s.1<lenTabL.length from h2)]at this
    exact Option.some.inj this
  have h:=kq (n:=s.1) (k:=8) h2
  refine ya (c:=(yJ s.1:Int)) qD O (by rw[e];exact zt qE) O ?_ qD
  refine zr (c:=(yJ n:Int)) O O (by rw[zt qE,h1];omega) O (zG O (zA (zP (zn O O (fun w a=>⟨O,a⟩)))))
abbrev T8:Nat:=5
def BSl(w:World)(v:Value)(bs:List UInt8):Prop:=Sl w v bs.length (bs.map vb)
def zEn(v:Value)(bs:List UInt8):Res:=Res.vec T8 1 v bs.length (bs.map vb)
theorem zNR:slT Tryz.prog 77=some (T8,1,1):=by kernel_rfl
theorem _root_.Go.Sc.V{p:Prop}(h:p:=by decide):p:=h
theorem zGx(v:Value)(bs:List UInt8)(w:World)(hv:BSl w v bs)(hb:bs.length≤1099511627776):
    Rets Tryz.prog 53 #[v] w fun h g=>Own w [] [zEn h bs] g:=by
  have i:=hv
  obtain⟨a,cap,rfl,h1,h2,j⟩:=Sl.shape hv
  cases a with
  |none=>
    have d:bs=[]:=by
      cases bs with
      |nil=>rfl
      |cons x xs=>obtain⟨b,off,e⟩:=j qH;cases e
    subst d
    refine xq (args:=[.slice none 0 cap]) Tryz.func53 O Tryz.ntmps53 O (Own.start w) (zB (zG O (zA (zK (zB (zC O (zG7 qD O O O (zA (x2 O (zB (zG O (zA (zP (zn (v:=zW) O O (fun w c=>by simpa [zEn]using zq c T8 1)))))))))))))))
  |some a=>
    refine xq (args:=[.slice (some a) bs.length cap]) Tryz.func53 O Tryz.ntmps53 O (Own.start w) (zB (zG O (zA (zK (zB (zC O (zG7 qD O O O (zA (yT O (zN (zB (yC (e:=T8) (sz:=1) (vs:=[]) qD O O qH V O (fun l=>(zC O (zFH (by':=1) (news:=bs.map vb) (m:=bs.length) 0 zNR O O O (fun g c=>c.old (Res.sl _ _ _) i qH) qH (zBk bs) qE (by rw[y3];omega) O (fun k=>(zG O (zA (zP (zn (v:=k) O O (fun w c=>by simpa [zEn]using c)))))))))))))))))))))
theorem zD8(a:Option Addr)(n cap:Nat)(w:World)(b:n≤cap):
    Rets Tryz.prog 363 #[.slice a n cap] w fun c d=>c= .slice a n n∧Own w [] [] d:=by
  refine xq (args:=[.slice a n cap]) Tryz.func363 O Tryz.ntmps363 O (Own.start w) (zB (zG O (zA (zB (zC O (zC O (jK qD O O (zC O (jK qD O O (zQV (sz:=1) (l:=0) (h:=n) (m:=n) qD O O ⟨.i64,O⟩ ⟨.i64,O⟩ qE qE b O (zG O (zA (zP (zn O O (fun w e=>⟨?_,e⟩)))))))))))))))
  show kI a cap 0 n n 1=_
  cases a<;>simp[kI,Addr.add]
theorem _root_.Go.Sc.qJ{p:Prop}(h:p:=by simp[Value.cells]):p:=h
theorem zGH(v:Value)(bs:List UInt8)(n:Nat)(s:n<18446744073709551616)(w:World)(hv:BSl w v bs)(hb:bs.length≤1000000000000):
    Rets Tryz.prog 221 #[v, .int .u64 n] w fun v' h=>Own w [] [zEn v' (bs++kA n)] h:=by
  have hk:=zBI s
  refine xq (args:=[v, .int .u64 n]) Tryz.func221 O Tryz.ntmps221 O (Own.start w) (zB (zG O (zA ?_)))
  -- region 1 codec.go:14
  refine zB (zC O (zCH qD O O (fun h a=>((zDf n s h).mono ?_))))
  rintro _ r ⟨rfl,l⟩
  refine(?_:CL _ _ _ _ _ _ (Own w [] [])) r (by simpa using a.qb l)
  have a0:=kq (n:=n) (k:=64) s
  refine zr (c:=((yJ n+7:Nat):Int)) O O (by rw[zt qE];omega) O ?_
  refine zEH (c:=(yV n:Int)) O O qE (by rw[Int.tdiv_eq_ediv_of_nonneg qE];unfold yV;rw[zt qE];omega) O (zG O (zA ?_))
  -- region 2 codec.go:15
  refine jN (fun(d:Value)=>[(1, .int .u64 n),(5, .int .i64 (yV n:Nat)),(6,d)]) (fun _=>True) (fun d=>[zEn d (bs++[UInt8.ofNat (yV n)])]) ?_ (fun d g _=> ?_)
  · refine zd (zC rfl (zCH qD rfl rfl (fun h a=>((zGx v bs h (a.old (Res.sl _ _ _) hv qH) qE).mono ?_))))
    intro v13 r l
    have o:=a.qb l
    rcases(o.holds 0 _ rfl).2 with⟨rfl,hz⟩|⟨g,cap,cur,rfl, -,hg,hcap,hmax, -, -⟩
    · have t:bs=[]:=List.eq_nil_of_length_eq_zero hz
      subst t
      refine(?_:CL _ _ _ _ _ _ (Own w [] [_])) r o
      refine zCH qD O O (fun h a=>((zD8 none 0 0 h qE).mono ?_))
      rintro _ u ⟨rfl,l⟩
      refine(?_:CL _ _ _ _ _ _ (Own w [] [_])) u (by simpa using a.qb l)
      refine zC O (ya qD O (zPV qE) O ?_ qD)
      refine yC (e:=T8) (sz:=1) (vs:=[.int .u8 (yV n)]) qD O O qJ V O (fun x=> ?_)
      refine zFH (by':=1) (m:=1) 0 zNR O O O (fun w a=>Vec.sl (a.holds 1 _ O)) qJ (by simp[Value.cells,cell1]) qH (by rw[y3];simp) O (fun p=>(zG O ?_))
      refine zw (fun w a=>⟨p,⟨O,O,O,trivial⟩,trivial,?_⟩)
      have h1:=a.one 0 rfl
      have e:vb (UInt8.ofNat (yV n))= .int .u8 (yV n):=by rw[zC8,Nat.mod_eq_of_lt qE]
      simpa [zEn,Value.cells,e]using h1
    refine(?_:CL _ _ _ _ _ _ (Own w [] [_])) r o
    refine zCH qD O O (fun h a=>((zD8 _ bs.length cap h hcap).mono ?_))
    rintro _ u ⟨rfl,l⟩
    have q:=a.qb l
    rw[List.append_nil]at q
    refine(?_:CL _ _ _ _ _ _ (Own w [] [_])) u q
    refine zC O (ya qD O (zPV qE) O ?_ qD)
    refine yC (e:=T8) (sz:=1) (vs:=[.int .u8 (yV n)]) qD O O qJ V O (fun x=> ?_)
    refine zPf (by':=1) (m:=1) (cs:=bs.map vb) zNR O (fun w a=> ?_) qH O (fun w a=>Vec.sl (a.holds 1 _ O)) qJ qE qE (by rw[y3];omega) O (fun p=> ?_)
    · rcases Vec.sl (a.holds 0 _ rfl)with⟨a1,e,e1,e2⟩|⟨b1,a2,a3,e,k1,k2,k3,k4⟩
      · exact .inl ⟨_,by rw[e1],e1,e2⟩
      simp at e
      obtain⟨⟨rfl,rfl⟩,rfl⟩:=e
      by_cases hz:bs.length=0
      · exact .inl ⟨_,by rw[hz],hz,by simpa using hz⟩
      exact .inr ⟨_,_,_,rfl,⟨Nat.le_refl _,by omega⟩,by have:=k1.1;omega,k3,k4⟩
    refine zG O (zw (fun w a=>⟨p,⟨O,O,O,trivial⟩,trivial,?_⟩))
    have h1:=a.one 2 rfl
    have e:vb (UInt8.ofNat (yV n))= .int .u8 (yV n):=by rw[zC8,Nat.mod_eq_of_lt qE]
    simpa [zEn,Value.cells,e]using h1
  refine zK ?_
  -- region 3 codec.go:16
  refine zB (zC O (y5 O O (zt qE) O (zG O (zA (zU ?_)))))
  refine xt (fun(d:Value) (b:List UInt8) (j:Nat)=>[(1, .int .u64 n),(6,d),(7, .int .i64 ((j:Int) - 1))]) (fun _ b j=>b++be n j=be n (yV n)∧j≤yV n∧b.length≤8)
    (fun d b _=>[zEn d (bs++UInt8.ofNat (yV n)::b)]) (fun _ _ j=>j) (fun w a=>⟨d,[],yV n,⟨rfl,rfl,rfl,trivial⟩,⟨rfl,Nat.le_refl _,by simp⟩,a⟩) (fun d b j g2 hs=> ?_)
  obtain⟨h1,h2,h3⟩:=hs
  have a4:b.length+j=yV n:=by have:=congrArg List.length h1;simpa [zAn]using this
  refine zK ?_
  -- region 4 codec.go:16
  refine zB (zC O (xE O O O (zA (zT O (fun c1=> ?_) (fun c1=> ?_)))))
  · refine zN ?_
    obtain⟨j,rfl⟩:∃ i,j=i+1:=⟨j - 1,by omega⟩
    refine zK (zU ?_)
    -- region 6 codec.go:17
    refine zd (zC O (zC O (zC O (zAD (c:=((8*j:Nat):Int)) O O (by rw[zt qE];omega) O ?_))))
    have y:(n:Int).fdiv (2 ^ (min ((8*j:Nat):Int).toNat IntKind.u64.bits))=((n / 2 ^ (8*j):Nat):Int):=by
      have e1:min ((8*j:Nat):Int).toNat IntKind.u64.bits=8*j:=by simp only[IntKind.bits];omega
      have e2:(2:Int) ^ (8*j)=((2 ^ (8*j):Nat):Int):=by norm_cast
      rw[e1,e2,Int.fdiv_eq_ediv_of_nonneg _ (Int.natCast_nonneg _)]
      norm_cast
    refine zBf O O qE y O (ya (c:=((n / 2 ^ (8*j)%256:Nat):Int)) qD O (by rw[wu8];norm_cast) O ?_ qD)
    refine yC (e:=T8) (sz:=1) (vs:=[.int .u8 ((n / 2 ^ (8*j)%256:Nat):Int)]) qD O O qJ V O (fun a5=> ?_)
    refine zFH (by':=1) (m:=1) 0 zNR O O O (fun w a=>Vec.sl (a.holds 1 _ O)) qJ (by simp[Value.cells,cell1]) qL (by rw[y3];simp;omega) O (fun z=>(zG O ?_))
    refine zA ?_
    -- region 5 codec.go:16
    refine zd (zC O (y5 (c:=(j:Int) - 1) O O (by rw[zt qE];omega) O (zG O ?_)))
    refine zw (fun w a=>⟨z,b++[UInt8.ofNat (n / 2 ^ (8*j))],j,⟨O,O,O,trivial⟩,⟨?_,by omega,by simp;omega⟩,?_,Nat.lt_succ_self j⟩)
    · rw[←h1];simp[be]
    have h4:=a.one 0 rfl
    simpa [zEn,Value.cells,zC8,Nat.add_assoc]using h4
  refine zz rfl ?_
  have hj:j=0:=by omega
  subst hj
  -- region 7 codec.go:19
  refine zB (zC O (zG O (zA (zP (zn O O (fun w a=> ?_))))))
  have e:b=be n (yV n):=by simpa [be]using h1
  subst e
  exact a
abbrev yo:Nat:=262
def vu(n:Nat):Value:= .int .u64 n
def yN(ns:List Nat):List UInt8:=ns.flatMap kA
theorem yL{ns:List Nat}(h:∀ n∈ns,n<18446744073709551616):(yN ns).length≤9*ns.length:=by
  induction ns with
  |nil=>simp[yN]
  |cons n ns ih=>
    have h1:=ja (h n qH)
    have h2:=ih (fun m a=>h m (by simp[a]))
    simp only[yN,List.flatMap_cons,List.length_append,List.length_cons]at h2 ⊢
    omega
end Go.Proofs.YtmpaljnacfidaaaGreatDoor
set_option linter.unusedVariables false
namespace Go.Sc
def x3(a:Int):Prop:= -9223372036854775808≤a∧a≤9223372036854775807
def isU(n:Nat):Prop:=n<18446744073709551616
def u64(a:Int):Nat:=(a%18446744073709551616).toNat
theorem yW(a:Int):u64 a<18446744073709551616:=by unfold u64;omega
theorem yx(a:Int):IntKind.u64.wrap a=(u64 a:Int):=by
  unfold IntKind.wrap u64
  simp[IntKind.bits,IntKind.signed]
  omega
section
variable {w0 w:World} {S S':List Nat} {L:List Res}
end
section
variable {P:Program} {n:Nat} {ops:Array Oper} {N R:K} {X:List (Nat×K)} {f:Nat→Value} {W:World→Prop} {w w0:World} {S:List Nat} {L:List Res}
variable {d:Nat} {ty t:TypeId} {p:String} {af:Array Edge} {fuel:Nat} {listed:Array Bool} {x y:Operand}
end
section
variable {P:Program} {n:Nat} {ops:Array Oper} {N R:K} {X:List (Nat×K)} {f:Nat→Value} {W:World→Prop} {w w0:World} {S:List Nat} {L:List Res}
variable {d:Nat} {ty t e:TypeId} {p:String} {af:Array Edge} {fuel sz by':Nat} {listed:Array Bool} {x y:Operand}
def PK(P:Program)(n:Nat)(ops:Array Oper)(W:World→Prop)(N:K)(fuel:Nat)(listed:Array Bool)(i:Nat)(f:Nat→Value)(w:World):Prop:=
  ∀ a,Rep n f a→wpOp P ops (kG n N) i (fun a' w'=>W w'∧wpAnyH P .any ops (kG n N) W fuel (listed.setIfInBounds i true) a' w') a w
theorem zMx{i j:Nat}(c:Region.ready .any ops listed=[i,j])(h1:PK P n ops W N fuel listed i f w)(h2:PK P n ops W N fuel listed j f w):HL P n ops W N (fuel+1) listed f w:=by
  intro a ha
  refine wpAnyH_all c qH fun k b=> ?_
  simp at b
  rcases b with rfl|rfl
  · exact h1 a ha
  exact h2 a ha
end
theorem zDT{α:Type}(g:α→Value):∀ l:List α,l.map g=l.flatMap (fun x=>[g x])
  | []=>rfl
  |a::l=>by simp[zDT g l]
theorem yt(b:Bool):Value.bool b= .bool (decide (b=true)):=by cases b<;>rfl
def xH(L:List Res):List Nat:=L.flatMap (·.fp)
def y6(m:List Nat):Nat→List Res→List Res
  |_,[]=>[]
  |i,r::L=>bif m.any (Nat.beq i)then y6 m (i+1) L else r::y6 m (i+1) L
theorem mem_fps{L:List Res}{b:Nat}:b∈xH L↔∃ (i:Nat) (r:Res),L[i]?=some r∧b∈r.fp:=by
  unfold xH
  rw[List.mem_flatMap]
  constructor
  · rintro⟨r,a,hb⟩
    obtain⟨i,hi,rfl⟩:=List.mem_iff_getElem.1 a
    exact⟨i,_,List.getElem?_eq_getElem hi,hb⟩
  rintro⟨i,r,a,hb⟩
  exact⟨r,List.mem_of_getElem? a,hb⟩
theorem beq_any{m:List Nat}{i:Nat}:m.any (Nat.beq i)=true↔i∈m:=by
  rw[List.any_eq_true]
  constructor
  · rintro⟨x,a,h⟩;rw[Nat.eq_of_beq_eq_true h];exact a
  intro h;exact⟨i,h,Nat.beq_refl i⟩
theorem zDQ(m:List Nat):∀ (L:List Res) (i:Nat),∃ k:Nat→Nat,(∀ a b:Nat,a<(y6 m i L).length→b<(y6 m i L).length→k a=k b→a=b)∧
    ∀ (j:Nat) (r:Res),(y6 m i L)[j]?=some r→L[k j]?=some r∧i+k j∉m
  | [],i=>⟨id,by simp[y6],by simp[y6]⟩
  |r::L,i=>by
    obtain⟨k,h1,h2⟩:=zDQ m L (i+1)
    unfold y6
    cases hc:m.any (Nat.beq i)with
    |true=>
      refine⟨fun j=>k j+1,fun a b d hb e=>h1 a b d hb (by have l:k a+1=k b+1:=e;omega),fun j s c=> ?_⟩
      obtain⟨f,g⟩:=h2 j s c
      exact⟨by simpa using f,by rw[show i+(k j+1)=i+1+k j by omega];exact g⟩
    |false=>
      refine⟨fun j=>match j with|0=>0|j+1=>k j+1,?_,?_⟩
      · intro a b d hb e
        match a,b with
        |0,0=>rfl
        |0,b+1=>simp at e
        |a+1,0=>simp at e
        |a+1,b+1=>
          simp at d hb e
          rw[h1 a b d hb e]
      intro j s c
      match j with
      |0=>
        simp at c
        refine⟨by simpa using c,fun h=> ?_⟩
        rw[beq_any.2 (by simpa using h)]at hc;cases hc
      |j+1=>
        simp at c
        obtain⟨f,g⟩:=h2 j s c
        exact⟨by simpa using f,by show i+(k j+1)∉m;rw[show i+(k j+1)=i+1+k j by omega];exact g⟩
section
variable {w0 w w':World} {S:List Nat} {L Lin Lout:List Res}
theorem Own.give(m:List Nat)(c:m.mapM (fun i=>L[i]?)=some Lin)(d:m.Nodup)(h:Own w0 S L w):Own w (xH Lin) Lin w:=by
  have a:=h.sel m c d
  exact⟨Keep.refl _ _,a.apart,a.holds,fun i r e b hb=> .inl (mem_fps.2 ⟨i,r,e,hb⟩)⟩
theorem Own.fpsFresh(m:List Nat)(a:m.mapM (fun i=>L[i]?)=some Lin)(h:Own w0 S L w):∀ b∈xH Lin,b∈S∨w0.heap.size≤b:=by
  intro b hb
  obtain⟨i,r,c,hb⟩:=mem_fps.1 hb
  obtain⟨k,_,d⟩:=zCn a i r c
  exact h.fresh k r d b hb
theorem Own.qi(m:List Nat)(v:m.mapM (fun i=>L[i]?)=some Lin)(h:Own w0 S L w)(l:Own w (xH Lin) Lout w'):Own w0 S (y6 m 0 L++Lout) w':=by
  obtain⟨k,o,y⟩:=zDQ m L 0
  have f:∀ (j:Nat) (r:Res),(y6 m 0 L)[j]?=some r→L[k j]?=some r∧k j∉m:=fun j r a=>by simpa using y j r a
  have p:=h.fpsFresh m v
  -- the rest's blocks are none of those that are qC
  have d:∀ (j:Nat) (r:Res),(y6 m 0 L)[j]?=some r→∀ b∈r.fp,b<w.heap.size∧b∉xH Lin:=by
    intro j r a b hb
    obtain⟨h1,h2⟩:=f j r a
    refine⟨h.lt h1 b hb,fun c=> ?_⟩
    obtain⟨i,s,n,c⟩:=mem_fps.1 c
    obtain⟨q,z,t⟩:=zCn v i s n
    exact h.apart (k j) q r s (fun e=>h2 (e▸List.mem_of_getElem? z)) h1 t b hb c
  have g:∀ (j:Nat) (s:Res),Lout[j]?=some s→∀ b∈s.fp,b∈xH Lin∨w.heap.size≤b:=l.fresh
  refine⟨⟨l.keep.os.trans h.keep.os,l.keep.tape.trans h.keep.tape,l.keep.output.trans h.keep.output,Nat.le_trans h.keep.size l.keep.size,fun b hb x=> ?_⟩,?_,?_,?_⟩
  · rw[l.keep.block b (Nat.lt_of_lt_of_le hb h.keep.size) (fun u=> ?_)]
    · exact h.keep.block b hb x
    rcases p b u with h1|h1
    · exact x h1
    omega
  · intro i j r s hij a n b hb c
    rw[List.getElem?_append]at a n
    split at a<;>split at n
    · rename_i hi hj
      exact h.apart (k i) (k j) r s (fun e=>hij (o i j hi hj e)) (f i r a).1 (f j s n).1 b hb c
    · have h1:=d _ _ a b hb
      rcases g _ _ n b c with h2|h2
      · exact h1.2 h2
      omega
    · have h1:=d _ _ n b c
      rcases g _ _ a b hb with h2|h2
      · exact h1.2 h2
      omega
    exact l.apart _ _ r s qE a n b hb c
  · intro i r a
    rw[List.getElem?_append]at a
    split at a
    · exact r.st w w' (h.holds _ r (f i r a).1) fun b hb=>l.keep.block b (d _ _ a b hb).1 (d _ _ a b hb).2
    exact l.holds _ r a
  intro i r a b hb
  rw[List.getElem?_append]at a
  split at a
  · exact h.fresh _ r (f i r a).1 b hb
  rcases g _ _ a b hb with h1|h1
  · exact p b h1
  have:=h.keep.size;right;omega
structure Rd(w:World)(S:List Nat)(r:Res):Prop where
  φ:r.φ w
  far:∀ b∈r.fp,b∉S
theorem Rd.sub{r r':Res}(h:Rd w S r)(a:r.φ w→r'.φ w)(c:∀ b∈r'.fp,b∈r.fp):Rd w S r':=⟨a h.φ,fun b hb=>h.far b (c b hb)⟩
theorem Rd.of{r:Res}(h:r.φ w):Rd w [] r:=⟨h,by simp⟩
theorem Own.rd{r:Res}(a:Rd w0 S r)(h:Own w0 S L w):r.φ w:=h.old r a.φ a.far
theorem Own.rdTo{r:Res}(a:Rd w0 S r)(m:List Nat)(d:m.mapM (fun i=>L[i]?)=some Lin)(h:Own w0 S L w):Rd w (xH Lin) r:=by
  refine⟨h.old r a.φ a.far,fun b hb c=> ?_⟩
  rcases h.fpsFresh m d b c with h1|h1
  · exact a.far b hb h1
  have:=r.lt w0 a.φ b hb;omega
theorem Own.rdRes{r:Res}(j:Nat)(d:L[j]?=some r)(m:List Nat)(g:m.mapM (fun i=>L[i]?)=some Lin)(f:m.any (Nat.beq j)=false)(h:Own w0 S L w):Rd w (xH Lin) r:=by
  refine⟨h.holds j r d,fun b hb a=> ?_⟩
  obtain⟨i,s,k,a⟩:=mem_fps.1 a
  obtain⟨q,l,c⟩:=zCn g i s k
  refine h.apart j q r s (fun e=> ?_) d c b hb a
  rw[beq_any.2 (e▸List.mem_of_getElem? l)]at f;cases f
theorem Own.rd0{r:Res}(a:Rd w0 S r)(h:Own w0 S L w):Rd w [] r:=⟨h.rd a,by simp⟩
theorem Own.rdRes0{r:Res}(j:Nat)(a:L[j]?=some r)(h:Own w0 S L w):Rd w [] r:=⟨h.holds j r a,by simp⟩
end
def xj:Value→Nat
  | .slice (some a) _ _=>a.block
  |_=>0
def yk:Value→Nat
  | .slice (some a) _ _=>a.off
  |_=>0
def xa(v:Value)(l h sz:Nat):Value:=match v with
  | .slice a _ cap=>kI a cap l h cap sz
  |v=>v
theorem Sl.at_{w:World}{v:Value}{n:Nat}{cs:List Value}(h:Sl w v n cs){i:Nat}{u:Value}(c:cs[i]?=some u):w.cell? ⟨xj v,yk v+i,none⟩=some u:=by
  rcases h with⟨a,rfl,_,rfl⟩|⟨b,off,cap,rfl,_,_,_,d⟩
  · simp at c
  exact d i u c
theorem Sl.subV{w:World}{v:Value}{n:Nat}{cs:List Value}(c:Sl w v n cs){l h sz:Nat}(h1:l≤h)(d:h≤n)(b:cs.length=n*sz):Sl w (xa v l h sz) (h - l) ((cs.drop (l*sz)).take ((h - l)*sz)):=by
  obtain⟨a,cap,rfl,hc, -, -⟩:=c.shape
  exact c.sub h1 qE (Nat.le_refl _) d b
theorem zAk{w:World}{v:Value}{n:Nat}{cs:List Value}(c:Sl w v n cs)(l h sz:Nat):∀ b∈zB0 (xa v l h sz),b∈zB0 v:=by
  obtain⟨a,cap,rfl,hc, -, -⟩:=c.shape
  exact zIp a n cap l h cap sz (Nat.le_refl _)
section
variable {P:Program} {n:Nat} {ops:Array Oper} {N R:K} {X:List (Nat×K)} {f:Nat→Value} {A:World→Prop} {rest:List Oper}
variable {d:Nat} {ty:TypeId} {p:String} {af:Array Edge} {x y:Operand} {t:TypeId} {sz:Nat}
variable {w0:World} {S:List Nat} {L:List Res} {v:Value} {len:Nat} {cs:List Value}
theorem zHA(b:x7 P t=true)(c:ev f x=v)(e:∀ w,A w→Sl w v len cs):RV P f ⟨some d, .call ⟨.builtin .len,#[x],#[t]⟩,ty,p,af,none⟩ A (.int .i64 len):=by
  intro w hw
  obtain⟨a,cap,rfl, -⟩:=(e w hw).shape
  exact zSG (A:=A) b c w hw
theorem zGZ(a:x7 P t=true)(b:ev f x=v)(c:∀ w,A w→Sl w v len cs)(e:Nat.blt d n=true)(k:CL P n ops rest N (upd f d (.int .i64 len)) A):CL P n ops (⟨some d, .call ⟨.builtin .len,#[x],#[t]⟩,ty,p,af,none⟩::rest) N f A:=
  yI e (zHA a b c) k
theorem zLv{k:IntKind}{i:Int}{j:Nat}(c:ev f x=v)(e:ev f y= .int k i)(g:zAt P t=some sz)(h:∀ w,A w→Sl w v len cs)(hi:i=j)(l:j<len):RV P f ⟨some d, .indexAddr t x y,ty,p,af,none⟩ A (.pointer (some ⟨xj v,yk v+j*sz,none⟩)):=by
  intro w hw
  obtain⟨a,cap,rfl,h1,h2,m⟩:=(h w hw).shape
  obtain⟨b,off,rfl⟩:=m qE
  exact zSD (A:=A) c e g hi l w hw
theorem zJv{l h:Nat}{lo hi:Option Operand}(b:zAt P t=some sz)(c:ev f x=v)(e:∀ w,A w→Sl w v len cs)(hl:bnd f 0 lo l)(hh:bnd f len hi h)(h1:l≤h)(h2:h≤len):RV P f ⟨some d, .slice t x lo hi none,ty,p,af,none⟩ A (xa v l h sz):=by
  intro w hw
  obtain⟨a,cap,rfl,h3, -⟩:=(e w hw).shape
  exact zR6 (A:=A) b c hl hh h1 qE w hw
theorem zPX{l h:Nat}{lo hi:Option Operand}(a:zAt P t=some sz)(b:ev f x=v)(c:∀ w,A w→Sl w v len cs)(hl:bnd f 0 lo l)(hh:bnd f len hi h)(h1:l≤h)(h2:h≤len)(e:Nat.blt d n=true)
    (k:CL P n ops rest N (upd f d (xa v l h sz)) A):CL P n ops (⟨some d, .slice t x lo hi none,ty,p,af,none⟩::rest) N f A:=yI e (zJv a b c hl hh h1 h2) k
theorem zKS(i:Nat){off:Nat}{u:Value}(a:ev f x= .pointer (some ⟨xj v,off,none⟩))(ho:off=yk v+i)(b:∀ w,A w→Sl w v len cs)(c:cs[i]?=some u)(e:one P t=true):RV P f ⟨some d, .load t x,ty,p,af,none⟩ A u:=
  zPz a e (fun w g=>by subst ho;exact(b w g).at_ c)
theorem zEM(i:Nat){off:Nat}{u:Value}(a:ev f x= .pointer (some ⟨xj v,off,none⟩))(ho:off=yk v+i)(b:∀ w,A w→Sl w v len cs)(c:cs[i]?=some u)(e:one P t=true)(g:Nat.blt d n=true)
    (k:CL P n ops rest N (upd f d u) A):CL P n ops (⟨some d, .load t x,ty,p,af,none⟩::rest) N f A:=yI g (zKS i a ho b c e) k
theorem zL3(i:Nat){off:Nat}(us:List Value)(a:ev f x= .pointer (some ⟨xj v,off,none⟩))(ho:off=yk v+i)(b:∀ w,A w→Sl w v len cs)(c:∀ k u,us[k]?=some u→cs[i+k]?=some u)(e:jE P t=some us.length):RV P f ⟨some d, .load t x,ty,p,af,none⟩ A (.agg us.toArray):=
  zL4 a e (fun w g k u h=>by subst ho;rw[Nat.add_assoc];exact(b w g).at_ (c k u h))
theorem zPT(i:Nat){off:Nat}(us:List Value)(a:ev f x= .pointer (some ⟨xj v,off,none⟩))(ho:off=yk v+i)(b:∀ w,A w→Sl w v len cs)(c:∀ k u,us[k]?=some u→cs[i+k]?=some u)(e:jE P t=some us.length)(g:Nat.blt d n=true)
    (k:CL P n ops rest N (upd f d (.agg us.toArray)) A):CL P n ops (⟨some d, .load t x,ty,p,af,none⟩::rest) N f A:=yI g (zL3 i us a ho b c e) k
theorem zBQ(i:Nat){b off:Nat}{e:TypeId}{cs:List Value}(us:List Value)(a:ev f x= .pointer (some ⟨b,off,none⟩))(c:L[i]?=some (Res.row b e cs))(hv:∀ k u,us[k]?=some u→cs[off+k]?=some u)(g:jE P t=some us.length):RV P f ⟨some d, .load t x,ty,p,af,none⟩ (Own w0 S L) (.agg us.toArray):=
  zL4 a g (fun w h k u j=>h.rowCell c (hv k u j))
theorem xC(i:Nat){b off:Nat}{e:TypeId}{cs:List Value}(us:List Value)(a:ev f x= .pointer (some ⟨b,off,none⟩))(c:L[i]?=some (Res.row b e cs))(hv:∀ k u,us[k]?=some u→cs[off+k]?=some u)(g:jE P t=some us.length)(h:Nat.blt d n=true)
    (k:CL P n ops rest N (upd f d (.agg us.toArray)) (Own w0 S L)):CL P n ops (⟨some d, .load t x,ty,p,af,none⟩::rest) N f (Own w0 S L):=yI h (zBQ i us a c hv g) k
theorem zc(m:List Nat){L':List Res}(a:m.mapM (fun i=>L[i]?)=some L')(c:m.Nodup){id:Nat}{l:List Oper}(d:P.follows .mixedOrders=true)
    (h:∀ w,Own w0 S L w→Own w0 S L' w→HL P n l.toArray (Own w0 S L') N l.length (Array.replicate l.length false) f w):C P n (.region id l.toArray true) N R X f (Own w0 S L):=
  zQC (Own w0 S L') d (fun w b=>(b.sel m a c).drawn) (fun w b=>h _ b.drawn (b.sel m a c).drawn)
theorem zCp{c a b:Operand}(e:ev f c=xl)(g:Nat.blt d n=true)(k:CL P n ops rest N (upd f d (ev f a)) A):CL P n ops (⟨some d, .pick c a b,ty,p,af,none⟩::rest) N f A:=zJ9 e g k
theorem y2{c a b:Operand}(e:ev f c=zu)(g:Nat.blt d n=true)(k:CL P n ops rest N (upd f d (ev f b)) A):CL P n ops (⟨some d, .pick c a b,ty,p,af,none⟩::rest) N f A:=zJ9 e g k
theorem zCk{c a b:Operand}(e:ev f c=xl):RV P f ⟨some d, .pick c a b,ty,p,af,none⟩ A (ev f a):=zKV e
theorem zAh{c a b:Operand}(e:ev f c=zu):RV P f ⟨some d, .pick c a b,ty,p,af,none⟩ A (ev f b):=zKV e
end
theorem jV{α:Type}{g:α→List Value}{sz:Nat}(a:∀ x,(g x).length=sz){l:List α}{j:Nat}{x:α}(c:l[j]?=some x){i:Nat}{u:Value}(b:(g x)[i]?=some u):(l.flatMap g)[j*sz+i]?=some u:=by
  rw[zCs a l j i x c (by rw[←a x];exact(List.getElem?_eq_some_iff.1 b).1)];exact b
theorem zFj{α:Type}{g:α→List Value}{sz:Nat}(a:∀ x,(g x).length=sz){l:List α}{j:Nat}{x:α}(b:l[j]?=some x){o:Nat}{us:List Value}(c:∀ k u,us[k]?=some u→(g x)[o+k]?=some u):∀ k u,us[k]?=some u→(l.flatMap g)[j*sz+o+k]?=some u:=by
  intro k u hk
  rw[Nat.add_assoc]
  exact jV a b (c k u hk)
end Go.Sc
