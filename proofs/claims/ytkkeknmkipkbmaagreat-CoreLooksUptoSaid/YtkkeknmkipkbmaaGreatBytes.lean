import Derived.Test.YtkkeknmkipkbmaaGreatFwM
import Derived.Laws.StructEq
import Derived.Test.YtkkeknmkipkbmaaGreatRows
import Derived.WalkKit
import Derived.ProofKit
import Derived.OpenShut
import Derived.ShutString
import Derived.ChangeOld
import Derived.Below
import Derived.Carry
import Derived.JoinedCond
set_option linter.unusedSimpArgs false
set_option linter.unusedVariables false
set_option linter.unusedSectionVars false
namespace Go.Sc
section
variable {P:Program} {n:Nat} {ops:Array Oper} {N R:K} {X:List (Nat×K)} {f:Nat→Value} {A:World→Prop} {rest:List Oper}
variable {d:Nat} {ty:TypeId} {p:String} {af:Array Edge}
def QL(P:Program)(n:Nat)(ops:Array Oper)(l:List Oper)(N:K)(f:Nat→Value)(A:World→Prop):Prop:=∀ w,A w→SL P n ops w (fun g=>N g w) l f
theorem zIW{w0:World}{S:List Nat}{L:List Res}{id:Nat}{l:List Oper}(hm:P.follows .mixedOrders=true)(hB:Region.lexB .any l.toArray=true)(h:QL P n l.toArray l N f (Own w0 S L)):C P n (.region id l.toArray true) N R X f (Own w0 S L):=
  fun w hw=>zDa hm hB (h _ hw.drawn)
theorem yb{w0:World}{S:List Nat}{L:List Res}{id:Nat}{l:List Oper}{y:Code}(hm:P.follows .mixedOrders=true)(hB:Region.lexB .any l.toArray=true)(h:QL P n l.toArray l (fun f w=>W P n y N R X f w) f (Own w0 S L)):C P n (.seq (.region id l.toArray true) y) N R X f (Own w0 S L):=
  zP (zIW hm hB h)
theorem zOg(h:∀ w,A w→N f w):QL P n ops [] N f A:=fun w hw=>zKp (h w hw)
theorem xi{c:Code}{M:K}(h:C P n c M R X f A):QL P n ops [] (fun f w=>W P n c M R X f w) f A:=fun w hw=>zKp (h w hw)
theorem zL{op:Op}{v:Value}(hd:Nat.blt d n=true)(hv:RV P f ⟨some d,op,ty,p,af,none⟩ A v)(k:QL P n ops rest N (upd f d v) A):QL P n ops (⟨some d,op,ty,p,af,none⟩::rest) N f A:=
  fun w hw=>zHP (hv w hw) hd (k w hw)
theorem ym{j e:Nat}{b:Bool}{dst:Option Tmp}{op:Op}(hj:yn ops j=some e)(hb:f e= .bool b)(k:QL P n ops (⟨dst,op,ty,p,af,none⟩::rest) N f A):QL P n ops (⟨dst,op,ty,p,af,some (j,b)⟩::rest) N f A:=
  fun w hw=>zLG hj hb (k w hw)
theorem zC8{M:(Nat→Value)→Prop}{j e:Nat}{b b':Bool}(hj:yn ops j=some e)(hne:(b'==b)=false){w:World}:∀ (l1:List Oper) (U T:List Nat) (f:Nat→Value),
    jP ops j e b U l1=some T→f e= .bool b'→(∀ s,inT U s=true→f s=undef)→zCD n l1=true→
    (∀ g,Out T f g→SL P n ops w M rest g)→SL P n ops w M (l1++rest) f
  | [],U,T,f,hs,hf,hU,hn,k=>k f (Out.refl _ _)
  |o::l1,U,T,f,hs,hf,hU,hn,k=>by
    intro a ha
    unfold jP at hs
    cases hg:o.guard with
    |none=>rw[hg]at hs;cases hs
    |some q=>
      obtain⟨i,w0⟩:=q
      cases hd:o.dst with
      |none=>rw[hg,hd]at hs;cases hs
      |some d=>
        rw[hg,hd]at hs
        dsimp only at hs
        obtain⟨hc,hs⟩:=zBm hs
        simp only[Bool.and_eq_true,Bool.or_eq_true,Bool.not_eq_true']at hc
        obtain⟨hc,hde⟩:=hc
        have hne':e≠d:=by intro h;subst h;simp at hde
        simp only[zCD,List.all_cons,Bool.and_eq_true,hd]at hn
        have hdn:d<n:=by simpa [Nat.blt_eq]using hn.1
        have hw:Region.wanted o (yielded ops a.tmps)=false:=by
          unfold Region.wanted
          rw[hg]
          rcases hc with⟨h1,h2⟩|h1
          · have:i=j:=Nat.eq_of_beq_eq_true h1
            subst this
            have:w0=b:=by simpa using h2
            subst this
            simp only[kD ha hj hf]
            simpa using hne
          cases hsl:yn ops i with
          |none=>rw[hsl]at h1;cases h1
          |some s=>
            rw[hsl]at h1
            simp only[jj ha hsl (hU s h1)]
            rfl
        show wpStill P ops w _ (o::(l1++rest)) a
        unfold wpStill
        rw[if_neg (by rw[hw];simp),hd]
        refine zC8 hj hne l1 (d::U) T (upd f d undef) hs (by rw[j3 _ _ hne'];exact hf) ?_ hn.2 ?_ _ (ha.put hdn undef)
        · intro s hs'
          by_cases h:s=d
          · subst h;rw[zBc]
          rw[j3 _ _ h]
          refine hU s ?_
          unfold inT at hs' ⊢
          simp only[List.any_cons,Bool.or_eq_true]at hs'
          rcases hs' with h1|h1
          · exact absurd (Nat.eq_of_beq_eq_true h1) h
          exact h1
        intro g hg'
        refine k g (fun i hi=> ?_)
        rw[hg' i hi]
        refine j3 _ _ ?_
        intro h;subst h
        have mem:∀ (l:List Oper) (U T:List Nat),jP ops j e b U l=some T→∀ x,inT U x=true→inT T x=true:=by
          intro l
          induction l with
          |nil=>intro U T h x hx;simp[jP]at h;subst h;exact hx
          |cons o l ih=>
            intro U T h x hx
            unfold jP at h
            split at h
            · exact ih _ _ (zBm h).2 x (by unfold inT at hx ⊢;simp[hx])
            cases h
        have:=mem l1 _ _ hs i (by unfold inT;simp)
        rw[this]at hi;cases hi
theorem zEL{M M':(Nat→Value)→Prop}{w:World}{l2:List Oper}:∀ (l1:List Oper) {f:Nat→Value},SL P n ops w M' l1 f→(∀ f,M' f→SL P n ops w M l2 f)→SL P n ops w M (l1++l2) f:=by
  intro l1 f h hk a ha
  have:=h a ha
  clear h ha
  revert this a
  suffices ∀ (l:List Oper) (a:Act),wpStill P ops w (fun a=>∃ f,Rep n f a∧M' f) l a→wpStill P ops w (fun a=>∃ f,Rep n f a∧M f) (l++l2) a from fun a h=>this l1 a h
  intro l
  induction l with
  |nil=>
    intro a h
    obtain⟨f,hr,hm⟩:=h
    exact hk f hm a hr
  |cons o l ih=>
    intro a h
    show wpStill P ops w _ (o::(l++l2)) a
    unfold wpStill at h ⊢
    split
    · rename_i hw;rw[if_pos hw]at h;exact Oper.still_mono ih h
    rename_i hw;rw[if_neg hw]at h;exact ih _ h
variable {e t:Nat} {l:List Oper}
theorem zCM(m j:Nat)(T:List Nat){q:Prop}(r:Prop)[Decidable q][Decidable r]{gd:Option (Nat×Bool)}(hm:l.drop m=⟨some d, .pick (.tmp e) (.tmp t) (.const (.bool false)),ty,p,af,gd⟩::rest)
    (hj:yn ops j=some e) (hq:f e= .bool (decide q)) (hT:jP ops j e true [] (l.take m)=some T) (hn:zCD n (l.take m)=true) (he:inT T e=false)
    (hgd:match gd with|none=>True|some (i,b)=>∃ s,yn ops i=some s∧inT T s=false∧f s= .bool b) (hd:Nat.blt d n=true)
    (hy:q→QL P n ops (l.take m) (zEf T f t (.bool (decide r)) A) f A)
    (k:∀ g,QL P n ops rest N (upd (msk f g T) d (.bool (decide (q∧r)))) A):QL P n ops l N f A:=by
  intro w hw
  rw[←List.take_append_drop m l,hm]
  have fin:∀ (g:Nat→Value) (v:Value),Out T f g→(bif decide q then g t else .bool false)=v→v= .bool (decide (q∧r))→
      SL P n ops w (fun g=>N g w) (⟨some d, .pick (.tmp e) (.tmp t) (.const (.bool false)),ty,p,af,gd⟩::rest) g:=by
    intro g v ho hv hv'
    have hge:g e= .bool (decide q):=(ho e he).trans hq
    have core:SL P n ops w (fun g=>N g w) (⟨some d, .pick (.tmp e) (.tmp t) (.const (.bool false)),ty,p,af,none⟩::rest) g:=by
      refine zHP (v:=v) ?_ hd ?_
      · subst hv
        by_cases hq':q<;>simp[execOp,ev,hge,hq',asBool]
      rw[hv']
      have:=k g w hw
      rw[zEy ho]at this
      exact this
    cases gd with
    |none=>exact core
    |some ib=>
      obtain⟨i,b⟩:=ib
      obtain⟨s,h1,h2,h3⟩:=hgd
      exact zLG h1 ((ho s h2).trans h3) core
  by_cases hc:q
  · refine zEL _ (hy hc w hw) ?_
    rintro g ⟨ho,ht, -⟩
    refine fin g _ ho O ?_
    simp[hc,ht]
  refine zC8 (b':=false) hj rfl _ [] T f hT (by rw[hq];simp[hc]) (by simp[inT]) hn ?_
  intro g ho
  refine fin g _ ho O ?_
  simp[hc]
theorem zIe(m j:Nat)(T:List Nat){q:Prop}(r:Prop)[Decidable q][Decidable r]{gd:Option (Nat×Bool)}(hm:l.drop m=⟨some d, .pick (.tmp e) (.const (.bool true)) (.tmp t),ty,p,af,gd⟩::rest)
    (hj:yn ops j=some e) (hq:f e= .bool (decide q)) (hT:jP ops j e false [] (l.take m)=some T) (hn:zCD n (l.take m)=true) (he:inT T e=false)
    (hgd:match gd with|none=>True|some (i,b)=>∃ s,yn ops i=some s∧inT T s=false∧f s= .bool b) (hd:Nat.blt d n=true)
    (hy:¬ q→QL P n ops (l.take m) (zEf T f t (.bool (decide r)) A) f A)
    (k:∀ g,QL P n ops rest N (upd (msk f g T) d (.bool (decide (q∨r)))) A):QL P n ops l N f A:=by
  intro w hw
  rw[←List.take_append_drop m l,hm]
  have fin:∀ (g:Nat→Value) (v:Value),Out T f g→(bif decide q then .bool true else g t)=v→v= .bool (decide (q∨r))→
      SL P n ops w (fun g=>N g w) (⟨some d, .pick (.tmp e) (.const (.bool true)) (.tmp t),ty,p,af,gd⟩::rest) g:=by
    intro g v ho hv hv'
    have hge:g e= .bool (decide q):=(ho e he).trans hq
    have core:SL P n ops w (fun g=>N g w) (⟨some d, .pick (.tmp e) (.const (.bool true)) (.tmp t),ty,p,af,none⟩::rest) g:=by
      refine zHP (v:=v) ?_ hd ?_
      · subst hv
        by_cases hq':q<;>simp[execOp,ev,hge,hq',asBool]
      rw[hv']
      have:=k g w hw
      rw[zEy ho]at this
      exact this
    cases gd with
    |none=>exact core
    |some ib=>
      obtain⟨i,b⟩:=ib
      obtain⟨s,h1,h2,h3⟩:=hgd
      exact zLG h1 ((ho s h2).trans h3) core
  by_cases hc:q
  · refine zC8 (b':=true) hj rfl _ [] T f hT (by rw[hq];simp[hc]) (by simp[inT]) hn ?_
    intro g ho
    refine fin g _ ho O ?_
    simp[hc]
  refine zEL _ (hy hc w hw) ?_
  rintro g ⟨ho,ht, -⟩
  refine fin g _ ho O ?_
  simp[hc,ht]
end
def flatT (P : Program) (t : TypeId) : Option (List (Nat × Option (Option IntKind))) :=
  match P.underlying t with
  | some (.struct fs) => if P.stoodInHeld t then none else fs.toList.mapM fun (f : Field) => if f.name = "_" then none else
    match P.underlying f.type with
    | some (.int k) => some (f.offset, some (some k))
    | some .string => some (f.offset, some none)
    | some .bool => some (f.offset, none)
    | _ => none
  | _ => none
def eqC:Value→Value→Bool
  | .int _ a, .int _ b=>decide (a=b)
  | .bool a, .bool b=>decide (a=b)
  | .string a, .string b=>decide (a=b)
  |_,_=>false
def zPi:Option (Option IntKind)→Value→Bool
  |some (some k), .int k' _=>k=k'
  |some none, .string _=>true
  |none, .bool _=>true
  |_,_=>false
def fitsK(ks:List (Nat×Option (Option IntKind)))(xs:List Value):Bool:=ks.all fun q=>match xs[q.1]? with|some v=>zPi q.2 v|none=>false
def eqL(ks:List (Nat×Option (Option IntKind)))(xs ys:List Value):Bool:=ks.all fun q=>match xs[q.1]?,ys[q.1]? with|some a,some b=>eqC a b|_,_=>false
section
variable {P:Program}
variable {n:Nat} {ops:Array Oper} {N:K} {f:Nat→Value} {A:World→Prop} {rest:List Oper} {d:Nat} {ty:TypeId} {p:String} {af:Array Edge} {x y:Operand} {t t':TypeId}
end
def isI(a:Int):Prop:= -9223372036854775808≤a∧a≤9223372036854775807
def isU(n:Nat):Prop:=n<18446744073709551616
def u64(a:Int):Nat:=(a%18446744073709551616).toNat
theorem xR(a:Int):u64 a<18446744073709551616:=by unfold u64;omega
theorem jM(a:Int):IntKind.u64.wrap a=(u64 a:Int):=by
  unfold IntKind.wrap u64
  simp[IntKind.bits,IntKind.signed]
  omega
section
variable {w0 w:World} {S S':List Nat} {L:List Res}
end
section
variable {P:Program} {n:Nat} {ops:Array Oper} {N R:K} {X:List (Nat×K)} {f:Nat→Value} {W:World→Prop} {w w0:World} {S:List Nat} {L:List Res}
variable {d:Nat} {ty t:TypeId} {p:String} {af:Array Edge} {fuel:Nat} {listed:Array Bool} {x y:Operand}
end
end Go.Sc
set_option linter.unusedVariables false
set_option linter.unusedSectionVars false
namespace Go.Proofs.YtkkeknmkipkbmaaGreat
open Go Go.Sc Go.Proofs Go.RowKit Go.ChangeShapes
theorem zBL{H:Type}:∀ ds:List (DataW H),Rows.uptoBulkAll ds=(ds.map Rows.uptoBulk).sum
  | []=>rfl
  |d::ds=>by simp[Rows.uptoBulkAll,zBL ds]
def RdA(P:Program)(W:World)(t:TypeId){α:Type}(cells:α→List Value)(wf:α→Prop)(size:α→Nat):Prop:=
  ∀ (H:Type) (enc:TypeId×Value→H) (fuel:Nat) (cs:List Value) (x:DataW H×List MemPlace),DataW.trod enc P W 0 (fun _=>true) true fuel t cs=some x→∃ a,cs=cells a∧wf a∧size a≤Rows.uptoBulk x.1
variable {P:Program} {W:World} {t e:TypeId} {α β:Type}
theorem RdA.map{cells:α→List Value}{wf:α→Prop}{size:α→Nat}{cells':β→List Value}{wf':β→Prop}{size':β→Nat}(h:RdA P W t cells wf size)(φ:α→β)
    (h1:∀ a,cells a=cells' (φ a)) (h2:∀ a,wf a→wf' (φ a)) (h3:∀ a,wf a→size' (φ a)≤size a):RdA P W t cells' wf' size':=by
  intro H enc fuel cs x hx
  obtain⟨a,e1,e2,e3⟩:=h H enc fuel cs x hx
  exact⟨φ a,by rw[e1,h1],h2 a e2,Nat.le_trans (h3 a e2) e3⟩
theorem RdA.i64(ht:P.underlying t=some (.int .i64)):RdA P W t (fun a:Int=>[.int .i64 a]) isI (fun _=>1):=by
  intro H enc fuel cs x hx
  obtain⟨a,rfl,rfl,hw⟩:=DataW.trod_int ht hx
  refine⟨a,O,?_,by simp[Rows.uptoBulk]⟩
  simp[Lit.wf,IntKind.min,IntKind.max,IntKind.signed,IntKind.bits]at hw
  exact⟨by omega,by omega⟩
theorem RdA.u64(ht:P.underlying t=some (.int .u64)):RdA P W t (fun n:Nat=>[.int .u64 n]) isU (fun _=>1):=by
  intro H enc fuel cs x hx
  obtain⟨a,rfl,rfl,hw⟩:=DataW.trod_int ht hx
  simp[Lit.wf,IntKind.min,IntKind.max,IntKind.signed,IntKind.bits]at hw
  refine⟨a.toNat,by show _=[Value.int .u64 (a.toNat:Int)];rw[Int.toNat_of_nonneg V],?_,by simp[Rows.uptoBulk]⟩
  unfold isU
  omega
theorem RdA.byte(ht:P.underlying t=some (.int .u8)):RdA P W t (fun c:UInt8=>[vb c]) (fun _=>True) (fun _=>1):=by
  intro H enc fuel cs x hx
  obtain⟨a,rfl,rfl,hw⟩:=DataW.trod_int ht hx
  simp[Lit.wf,IntKind.min,IntKind.max,IntKind.signed,IntKind.bits]at hw
  refine⟨UInt8.ofNat a.toNat,?_,trivial,by simp[Rows.uptoBulk]⟩
  show _=[vb (UInt8.ofNat a.toNat)]
  simp only[vb,UInt8.toNat_ofNat']
  congr 2
  omega
theorem RdA.bool(ht:P.underlying t=some .bool):RdA P W t (fun b:Bool=>[.bool b]) (fun _=>True) (fun _=>1):=by
  intro H enc fuel cs x hx
  obtain⟨a,rfl,rfl⟩:=DataW.trod_bool ht hx
  exact⟨a,O,trivial,by simp[Rows.uptoBulk]⟩
theorem cells?_spec {w:World} {a:Addr}:∀ {n:Nat} {cs:List Value},w.cells? 0 a n=some cs→cs.length=n∧∀ i u,cs[i]?=some u→w.cell? (a.add i)=some u:=by
  intro n cs h
  unfold World.cells? at h
  rw[if_pos (Nat.zero_le _)]at h
  have hl:cs.length=n:=by simpa using mapM_some_length h
  refine⟨hl,fun i u hu=> ?_⟩
  have hi:i<n:=by rw[←hl];exact(List.getElem?_eq_some_iff.1 hu).1
  have:=mapM_some_get h i i (by simp[hi])
  rw[this,hu]
theorem RdA.slice{cells:α→List Value}{wf:α→Prop}{size:α→Nat}{sz:Nat}(ht:P.underlying t=some (.slice e))(hsz:P.cellsOf e=sz)(hpos:0<sz)(hc:∀ a,(cells a).length=sz)(he:RdA P W e cells wf size):
    RdA P W t (fun p:Value×List α=>[p.1]) (fun p=>Sl W p.1 p.2.length (p.2.flatMap cells)∧∀ a∈p.2,wf a) (fun p=>(p.2.map size).sum+1):=by
  intro H enc fuel cs x hx
  rcases DataW.trod_slice ht hx with⟨rfl,rfl⟩|⟨a,len,cap,elems,rest,n,rfl,rfl,rfl,hb,hl,hm,hlen,hel,hsp,hns⟩
  · exact⟨(.slice none 0 0,[]),rfl,⟨.inl ⟨none,rfl,rfl,rfl⟩,by simp⟩,by simp[Rows.uptoBulk]⟩
  -- the elements,each one read
  have each:∀ i,i<len→∃ (y:DataW H×List MemPlace) (z:α),elems[i]?=some y∧wf z∧size z≤Rows.uptoBulk y.1∧∀ j u,(cells z)[j]?=some u→W.cell? ((a.add (i*sz)).add j)=some u:=by
    intro i hi
    have h:=hel i hi
    obtain⟨y,hy⟩:∃ y,elems[i]?=some y:=⟨_,List.getElem?_eq_getElem V⟩
    rw[hy,hsz,Option.bind_eq_some_iff]at h
    obtain⟨cs',hcs,hr⟩:=h
    obtain⟨z,rfl,hz1,hz2⟩:=he H enc n cs' y hr
    exact⟨y,z,hy,hz1,hz2,(cells?_spec hcs).2⟩
  have all:∀ k,k≤len→∃ zs:List α,zs.length=k∧(∀ z∈zs,wf z)∧(zs.map size).sum≤((elems.take k).map fun y=>Rows.uptoBulk y.1).sum∧
      ∀ i z,zs[i]?=some z→∀ j u,(cells z)[j]?=some u→W.cell? ((a.add (i*sz)).add j)=some u:=by
    intro k
    induction k with
    |zero=>intro _;exact⟨[],rfl,by simp,by simp,by simp⟩
    |succ k ih=>
      intro hk
      obtain⟨zs,h1,h2,h3,h4⟩:=ih V
      obtain⟨y,z,hy,hz1,hz2,hz3⟩:=each k V
      refine⟨zs++[z],by simp[h1],?_,?_,?_⟩
      · intro z' hz'
        rcases List.mem_append.1 hz' with h|h
        · exact h2 z' h
        simp at h;subst h;exact hz1
      · rw[List.take_add_one,hy]
        simp only[List.map_append,List.sum_append,Option.toList_some,List.map_cons,List.map_nil,List.sum_cons,List.sum_nil]
        omega
      intro i z' hi
      rw[List.getElem?_append]at hi
      split at hi
      · exact h4 i z' hi
      rename_i hnl
      have:i - zs.length=0:=by
        cases hq:i - zs.length with
        |zero=>rfl
        |succ q=>rw[hq]at hi;simp at hi
      rw[this]at hi;simp at hi;subst hi
      have:i=k:=by omega
      subst this;exact hz3
  obtain⟨zs,h1,h2,h3,h4⟩:=all len (Nat.le_refl _)
  rw[List.take_of_length_le V]at h3
  refine⟨(.slice (some a) len cap,zs),O,⟨?_,h2⟩,?_⟩
  · by_cases hc0:cap=0
    · subst hc0
      have h0:len=0:=by omega
      subst h0
      have:zs=[]:=List.eq_nil_of_length_eq_zero h1
      subst this
      exact .inl ⟨_,O,O,O⟩
    -- the row is there:its first place reads
    have first:∃ u,W.cell? a=some u:=by
      have key:∀ i,i<cap→∃ cs',W.cells? 0 (a.add (i*sz)) sz=some cs':=by
        intro i hi
        by_cases hil:i<len
        · have h:=hel i hil
          rw[List.getElem?_eq_getElem V,hsz,Option.bind_eq_some_iff]at h
          exact⟨_,h.choose_spec.1⟩
        obtain⟨hr1,hr2⟩:=hsp rfl
        have h:=hr2 (i - len) V
        rw[List.getElem?_eq_getElem V,hsz,Option.bind_eq_some_iff,show len+(i - len)=i by omega]at h
        exact⟨_,h.choose_spec.1⟩
      obtain⟨cs',hcs⟩:=key 0 V
      obtain⟨q1,q2⟩:=cells?_spec hcs
      refine⟨cs'[0]'V,?_⟩
      have:=q2 0 _ (List.getElem?_eq_getElem V)
      simpa [Addr.add]using this
    obtain⟨u,hu⟩:=first
    obtain⟨b,off,spot⟩:=a
    have hspot:spot=none:=World.cell?_spot hu
    subst hspot
    have hbl:b<W.heap.size:=by
      have hcs:W.cells? 0 ⟨b,off,none⟩ 1=some [u]:=Go.ChangeShapes.cells?_one (Nat.zero_le _) hu
      exact World.cells?_block hcs V
    show Sl W (.slice (some ⟨b,off,none⟩) len cap) zs.length (zs.flatMap cells)
    rw[h1]
    refine .inr ⟨b,off,cap,O,⟨hl,by omega⟩,hm,hbl,?_⟩
    intro q u' hq
    have hlt:q<(zs.flatMap cells).length:=(List.getElem?_eq_some_iff.1 hq).1
    rw[jx hc]at hlt
    have hq1:q / sz<zs.length:=Nat.div_lt_of_lt_mul (by rw[Nat.mul_comm];exact hlt)
    have hq2:q%sz<sz:=Nat.mod_lt _ hpos
    obtain⟨z,hz⟩:∃ z,zs[q / sz]?=some z:=⟨_,List.getElem?_eq_getElem hq1⟩
    have hdm:q / sz*sz+q%sz=q:=by rw[Nat.mul_comm];exact Nat.div_add_mod q sz
    have:=zBW hc zs (q / sz) (q%sz) z hz hq2
    rw[hdm,hq]at this
    have h5:=h4 _ z hz _ u' this.symm
    have e5:((⟨b,off,none⟩:Addr).add (q / sz*sz)).add (q%sz)=⟨b,off+q,none⟩:=by
      simp only[ji];rw[Nat.add_assoc,hdm]
    rw[e5]at h5
    exact h5
  simp only[Rows.uptoBulk,zBL,List.map_map]
  have:(elems.map (Rows.uptoBulk ∘ fun x=>x.1)).sum=(elems.map fun y=>Rows.uptoBulk y.1).sum:=rfl
  omega
def RdF(P:Program)(W:World)(tot:Nat)(fs:List Field)(off:Nat){α:Type}(cells:α→List Value)(wf:α→Prop)(size:α→Nat):Prop:=
  ∀ (H:Type) (enc:TypeId×Value→H) (n:Nat) (cs:List Value) (xs:List (DataW H×List MemPlace)),cs.length=tot→xs.length=fs.length→
    (∀ (i:Nat) (f:Field),fs[i]?=some f→DataW.trod enc P W 0 (fun _=>true) true n f.type ((cs.drop f.offset).take (P.cellsOf f.type))=xs[i]?)→
    ∃ a,cs.drop off=cells a∧wf a∧size a≤(xs.map fun y=>Rows.uptoBulk y.1).sum
theorem RdF.nil{tot off:Nat}(h:off=tot):RdF P W tot [] off (fun _:Unit=>[]) (fun _=>True) (fun _=>0):=by
  subst h
  intro H enc n cs xs hl hx _
  exact⟨(),by rw[←hl];simp,trivial,Nat.zero_le _⟩
theorem RdF.cons{tot sz:Nat}{f:Field}{fs:List Field}{off:Nat}{ca:α→List Value}{wa:α→Prop}{sa:α→Nat}{cb:β→List Value}{wb:β→Prop}{sb:β→Nat}
    (ho:f.offset=off) (hs:P.cellsOf f.type=sz) (ha:RdA P W f.type ca wa sa) (hb:RdF P W tot fs (off+sz) cb wb sb):
    RdF P W tot (f::fs) off (fun p:α×β=>ca p.1++cb p.2) (fun p=>wa p.1∧wb p.2) (fun p=>sa p.1+sb p.2):=by
  intro H enc n cs xs hl hx hall
  cases xs with
  |nil=>simp at hx
  |cons x xs=>
    obtain⟨a,e1,e2,e3⟩:=ha H enc n _ x (by have:=hall 0 f rfl;simpa using this)
    obtain⟨b,d1,d2,d3⟩:=hb H enc n cs xs hl (by simpa using hx) (fun i g hg=>by have:=hall (i+1) g (by simpa using hg);simpa using this)
    refine⟨(a,b),?_,⟨e2,d2⟩,?_⟩
    · rw[ho,hs]at e1
      show cs.drop off=ca a++cb b
      rw[←e1,←d1,←List.drop_drop,List.take_append_drop]
    simp only[List.map_cons,List.sum_cons]
    show sa a+sb b≤_
    omega
theorem RdA.struct{fs:Array Field}{tot:Nat}{cells:α→List Value}{wf:α→Prop}{size:α→Nat}(ht:P.underlying t=some (.struct fs))(hs:P.cellsOf t=tot)(hf:RdF P W tot fs.toList 0 cells wf size):
    RdA P W t cells wf (fun a=>size a+1):=by
  intro H enc fuel cs x hx
  obtain⟨xs,n,rfl,rfl,hl,hxl,hall⟩:=DataW.trod_struct ht hx
  obtain⟨a,e1,e2,e3⟩:=hf H enc n cs xs (by rw[hl,hs]) (by rw[hxl];simp) (fun i f hf=>hall i f (by simpa using hf))
  refine⟨a,by simpa using e1,e2,?_⟩
  simp only[Rows.uptoBulk,zBL,List.map_map]
  have:(xs.map (Rows.uptoBulk ∘ fun x=>x.1)).sum=(xs.map fun y=>Rows.uptoBulk y.1).sum:=rfl
  omega
theorem zEO{v u:Value}(h:v.cells.toList=[u])(hn:∀ cs,v≠ .agg cs):v=u:=by
  cases v<;>simp_all[Value.cells]
theorem zJv{r:Reach}{b0:Nat}{v u:Value}(ht:P.underlying t=some (.slice e))(h:Value.okWide P W r b0 t v)(hc:v.cells.toList=[u]):v=u:=by
  obtain⟨a,len,cap,rfl⟩:=Go.WideShapes.okWide_slice ht h
  exact zEO hc qQ
theorem zFJ{r:Reach}{b0:Nat}{v u:Value}{k:IntKind}(ht:P.underlying t=some (.int k))(h:Value.okWide P W r b0 t v)(hc:v.cells.toList=[u]):v=u:=by
  obtain⟨a,rfl⟩:=Go.WideShapes.okWide_int ht h
  exact zEO hc qQ
theorem zA2{H:Type}{enc:TypeId×Value→H}(hl:laidOutB P=true){W':World}(hb:Below W.heap.size W W'):∀ {ts:List TypeId} {vs:List Value} {ds:List (DataW H)} {ps:List MemPlace},
    ts.all (fun t=>P.readableRec t&&decide (t<P.types.size))=true→DataW.TrodAll enc P W 0 (fun _=>true) true ts vs ds ps→(∀ x∈ps,x.block<W.heap.size)→
    DataW.TrodAll enc P W' 0 (fun b=>decide (b<W.heap.size)) true ts vs ds ps
  | [],[],[],_,_,h,_=>h
  | [],_::_,_,_,_,h,_=>h.elim
  | [],[],_::_,_,_,h,_=>h.elim
  |_::_,[],_,_,_,h,_=>h.elim
  |_::_,_::_,[],_,_,h,_=>h.elim
  |t::ts,v::vs,d::ds,ps,hr,h,hlt=>by
    obtain⟨p,q,h1,h2,rfl⟩:=h
    simp only[List.all_cons,Bool.and_eq_true,decide_eq_true_eq]at hr
    exact⟨p,q,Below.trod hl hr.1.1 hr.1.2 h1 hb (fun x hx=>hlt x (by simp[hx])),zA2 hl hb hr.2 h2 (fun x hx=>hlt x (by simp[hx])),O⟩
theorem zCc{H:Type}{enc:TypeId×Value→H}{base:Nat}{sp:Nat→Bool}{held:Bool}:∀ {ts:List TypeId} {vs:List Value} {ds:List (DataW H)} {ps:List MemPlace},DataW.TrodAll enc P W base sp held ts vs ds ps→ds.length=ts.length
  | [],[],[],_,_=>rfl
  | [],_::_,_,_,h=>h.elim
  | [],[],_::_,_,h=>h.elim
  |_::_,[],_,_,h=>h.elim
  |_::_,_::_,[],_,h=>h.elim
  |t::ts,v::vs,d::ds,ps,h=>by
    obtain⟨p,q,h1,h2,rfl⟩:=h
    simp[zCc h2]
theorem zMK{H:Type}{enc:TypeId×Value→H}{f:Func}{s:ChangeSpec}{W':World}{args:Array Value}{ds gs:List (DataW H)}{before:List MemPlace}{tb:TypeId}(hl:laidOutB P=true)(hs:s.vars=[])
    (hfn:∀ ds:List (DataW H),ds.length=f.params.toList.length→s.fn H ds={results:=[.lit (.bool true)],args:=ds}) (hres:f.resultTypes= #[tb]) (htb:P.underlying tb=some .bool)
    (hts:f.params.toList.all (fun t=>P.readableRec t&&decide (t<P.types.size))=true)
    (hW:DataW.Whole enc P f.params.toList s.vars false W args.toList ds gs before) (hb:Below W.heap.size W W'):s.post enc P f false true false false W args (.bool true) W':=by
  have hlt:=hW.lt
  have hW':=hW
  obtain⟨p,q,hA,hV,rfl,hfz,hnd⟩:=hW
  rw[hs]at hV
  obtain⟨rfl,rfl⟩:=trodVars_none hV
  have hfn':=hfn ds (zCc hA)
  rw[List.append_nil]at hlt hW'
  refine⟨ds,[],p,[],p,[],hW',?_,?_,?_,hb.frame _,fun h=>by cases h⟩
  · rw[List.append_nil,hfn',hres]
    exact trodAll_mk1 (shut_bool htb _)
  · rw[List.append_nil,hfn']
    exact zA2 hl hb hts hA hlt
  rw[List.append_nil,hfn',hs]
  rfl
theorem Own.below{w w':World}{L:List Res}(h:Own w [] L w'):Below w.heap.size w w':=
  ⟨h.keep.os,h.keep.tape,h.keep.output,h.keep.size,fun k hk=>h.keep.block k hk qQ⟩
end Go.Proofs.YtkkeknmkipkbmaaGreat
set_option linter.unusedVariables false
namespace Go.Sc
def yD(n:Nat):Nat:=if n=0 then 0 else n.log2+1
theorem zCU(n:Nat):n<2 ^ yD n:=by
  unfold yD
  split
  · subst n;decide
  exact Nat.lt_log2_self
theorem zAb{n:Nat}(h:0<n):2 ^ (yD n - 1)≤n:=by
  unfold yD
  rw[if_neg V]
  exact Nat.log2_self_le V
theorem zGa{n L:Nat}(h0:0<n)(h1:n<2 ^ (L+1))(h2:2 ^ L≤n):yD n=L+1:=by
  have a1:=zCU n
  have a2:=zAb h0
  have b1:L<yD n:=(Nat.pow_lt_pow_iff_right V).1 (Nat.lt_of_le_of_lt h2 a1)
  have b2:yD n - 1<L+1:=(Nat.pow_lt_pow_iff_right V).1 (Nat.lt_of_le_of_lt a2 h1)
  omega
theorem zHb{n:Nat}(h:0<n):0<yD n:=by unfold yD;rw[if_neg V];omega
theorem j6{n k:Nat}(h:2 ^ k≤n):yD n=yD (n / 2 ^ k)+k:=by
  have hp:0<2 ^ k:=Nat.two_pow_pos k
  have hm:0<n / 2 ^ k:=Nat.div_pos h hp
  have a1:=zCU (n / 2 ^ k)
  have a2:=zAb hm
  have a3:=zHb hm
  have e:yD n=(yD (n / 2 ^ k) - 1+k)+1:=by
    refine zGa V ?_ ?_
    · have:n<2 ^ yD (n / 2 ^ k)*2 ^ k:=(Nat.div_lt_iff_lt_mul hp).1 a1
      rw[←Nat.pow_add]at this
      rw[show yD (n / 2 ^ k) - 1+k+1=yD (n / 2 ^ k)+k by omega]
      exact this
    rw[Nat.pow_add]
    exact(Nat.le_div_iff_mul_le hp).1 a2
  omega
theorem ky{n k:Nat}(h:n<2 ^ k):yD n≤k:=by
  by_cases h0:n=0
  · subst h0;simp[yD]
  have:=zAb (Nat.pos_of_ne_zero h0)
  have:=(Nat.pow_lt_pow_iff_right (a:=2) V).1 (Nat.lt_of_le_of_lt this h)
  omega
def lenTabL:List UInt8:=0::1::List.replicate 2 2++List.replicate 4 3++List.replicate 8 4++List.replicate 16 5++List.replicate 32 6++List.replicate 64 7++List.replicate 128 8
theorem zJF:∀ m:Fin 256,(lenTabL[m.val]?.map UInt8.toNat)=some (yD m.val):=by decide+kernel
def yU(n:Nat):Nat:=(yD n+7) / 8
theorem zA9{n:Nat}(h:n<18446744073709551616):yU n≤8:=by
  have:=ky (n:=n) (k:=64) h
  unfold yU;omega
def be(n:Nat):Nat→List UInt8
  |0=>[]
  |k+1=>UInt8.ofNat (n / 2 ^ (8*k))::be n k
theorem zAf(n:Nat):∀ k,(be n k).length=k
  |0=>rfl
  |k+1=>by simp[be,zAf n k]
def num(n:Nat):List UInt8:=UInt8.ofNat (yU n)::be n (yU n)
theorem zDd(n:Nat):(num n).length=yU n+1:=by simp[num,zAf]
theorem zLf{n:Nat}(h:n<18446744073709551616):(num n).length≤9:=by rw[zDd];have:=zA9 h;omega
def dat(d:List UInt8):List UInt8:=num d.length++d
theorem zDG(m:Nat):vb (UInt8.ofNat m)= .int .u8 ((m%256:Nat):Int):=by simp[vb]
end Go.Sc
