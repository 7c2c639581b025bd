import Derived.Deep.Quiet
import Derived.StillTail
import Derived.Laws.AppendOwn
import Derived.Laws.Strings
set_option linter.unusedSectionVars false
set_option linter.unusedSimpArgs false
set_option linter.unusedVariables false
namespace Go.Sc
theorem O{α:Sort _}{a:α}:a=a:=rfl
def upd(f:Nat→Value)(d:Nat)(v:Value):Nat→Value:=fun i=>bif Nat.beq i d then v else f i
def ev(f:Nat→Value):Operand→Value
 | .tmp t=>f t
 | .const v=>v
 | .global g=> .pointer (some ⟨g,0,none⟩)
 | .func g=> .func (.func g) #[] #[]
def ini:List Value→Nat→Value
 | [],_=>undef
 |v::_,0=>v
 |_::vs,i+1=>ini vs i
structure Rep(n:Nat)(f:Nat→Value)(a:Act):Prop where
 size:a.tmps.size=n
 defers:a.defers=[]
 get:∀ t,a.tmps.getD t undef=f t
theorem Rep.eval{n f a}(h:Rep n f a):a.eval=ev f:=by
 funext x
 cases x<;>simp[Act.eval,ev,h.get]
theorem zB7(f:Nat→Value)(d:Nat)(v:Value):upd f d v d=v:=by simp[upd]
theorem zAS(f:Nat→Value){d i:Nat}(v:Value)(h:i≠d):upd f d v i=f i:=by
 have:Nat.beq i d=false:=by
   cases hb:Nat.beq i d
   · rfl
   exact absurd (Nat.eq_of_beq_eq_true hb) h
 simp[upd,this]
theorem Rep.put{n f a}(h:Rep n f a){d:Nat}(b:d<n)(v:Value):Rep n (upd f d v) (a.put (some d) v):=by
 refine⟨by simp[Act.put,h.size],by simp[Act.put,h.defers],fun t=> ?_⟩
 have c:=h.size
 by_cases ht:t=d
 · subst ht
   simp[Act.put,zB7,Array.getD,c,b]
 rw[zAS _ _ ht,←h.get t]
 have:d≠t:=fun e=>ht e.symm
 simp[Act.put,Array.getD_eq_getD_getElem?,Array.getElem?_setIfInBounds_ne this]
theorem Rep.put_none{n f a}(h:Rep n f a)(v:Value):Rep n f (a.put none v):=h
abbrev K:=(Nat→Value)→World→Prop
section
variable {P:Program} {n:Nat} {ops:Array Oper} {N:K} {f:Nat→Value} {w:World} {rest:List Oper}
def kO(n:Nat)(N:K):Exit→Act→World→Prop
 | .normal,a,w=>∃ f,Rep n f a∧N f w
 |_,_,_=>False
def WL(P:Program)(n:Nat)(ops:Array Oper)(l:List Oper)(N:K)(f:Nat→Value)(w:World):Prop:=
 ∀ a,Rep n f a→wpList P ops (kO n N) l a w
theorem zMy(h:N f w):WL P n ops [] N f w:=fun a b=>⟨f,b,h⟩
theorem xc{w':World}{d:Nat}{op:Op}{ty:TypeId}{p:String}{af:Array Edge}{v:Value}
   (b:(execOp (ev f) ⟨some d,op,ty,p,af,none⟩).run P w= .ok (.value v) w') (c:Nat.blt d n=true)
   (k:WL P n ops rest N (upd f d v) w'):WL P n ops (⟨some d,op,ty,p,af,none⟩::rest) N f w:=by
 intro a ha
 refine wpList_plain O fun K e=> ?_
 unfold Oper.wp
 rw[ha.eval,b]
 exact e _ _ (k _ (ha.put (by simpa [Nat.blt_eq]using c) v))
theorem zFL{w':World}{op:Op}{ty:TypeId}{p:String}{af:Array Edge}{v:Value}
   (b:(execOp (ev f) ⟨none,op,ty,p,af,none⟩).run P w= .ok (.value v) w')
   (k:WL P n ops rest N f w'):WL P n ops (⟨none,op,ty,p,af,none⟩::rest) N f w:=by
 intro a ha
 refine wpList_plain O fun K c=> ?_
 unfold Oper.wp
 rw[ha.eval,b]
 exact c _ _ (k _ (ha.put_none v))
theorem zBj{w':World}{op:Op}{ty:TypeId}{p:String}{af:Array Edge}
   (b:(execOp (ev f) ⟨none,op,ty,p,af,none⟩).run P w= .ok .skip w')
   (k:WL P n ops rest N f w'):WL P n ops (⟨none,op,ty,p,af,none⟩::rest) N f w:=by
 intro a ha
 refine wpList_plain O fun K c=> ?_
 unfold Oper.wp
 rw[ha.eval,b]
 exact c _ _ (k _ (ha.put_none undef))
def Rets(P:Program)(g:FuncId)(args:Array Value)(w:World)(R:Value→World→Prop):Prop:=
 Calls P g args w fun e w'=>∃ v,e= .returned v∧R v w'
theorem Rets.mono{g:FuncId}{args:Array Value}{R R':Value→World→Prop}(h:Rets P g args w R)(a:∀ v w',R v w'→R' v w'):Rets P g args w R':=
 Calls.mono h fun _ _ ⟨v,e,r⟩=>⟨v,e,a _ _ r⟩
theorem zGd{w':World}{d:Nat}{op:Op}{ty:TypeId}{p:String}{af:Array Edge}{g:FuncId}{args:Array Value}
   (c:(execOp (ev f) ⟨some d,op,ty,p,af,none⟩).run P w= .ok (.enter g args) w') (h:Nat.blt d n=true)
   (k:Rets P g args w' fun v b=>WL P n ops rest N (upd f d v) b):WL P n ops (⟨some d,op,ty,p,af,none⟩::rest) N f w:=by
 intro a ha
 refine wpList_plain O fun K i=> ?_
 unfold Oper.wp
 rw[ha.eval,c]
 refine Calls.mono k fun e b ⟨v,e1,r⟩=> ?_
 subst e1
 exact i _ _ (r _ (ha.put (by simpa [Nat.blt_eq]using h) v))
def yu(ops:Array Oper)(j:Nat):Option Nat:=(ops[j]?).bind (·.dst)
theorem kG{j d:Nat}{b:Bool}{a:Act}(e:Rep n f a)(c:yu ops j=some d)(hb:f d= .bool b):yielded ops a.tmps j=some b:=by
 have h:=e.get d
 unfold yu at c
 simp only[yielded,c,Option.bind_some]
 rw[Array.getD_eq_getD_getElem?,hb]at h
 cases hx:a.tmps[d]? with
 |none=>rw[hx]at h;simp[undef]at h
 |some x=>rw[hx]at h;simp at h;subst h;rfl
theorem _root_.Go.Sc.qV{p:Prop}(h:p:=by simp[Region.wanted]):p:=h
theorem zMg{j d:Nat}{b:Bool}{dst:Option Tmp}{op:Op}{ty:TypeId}{p:String}{af:Array Edge}(c:yu ops j=some d)(hb:f d= .bool b)
   (k:WL P n ops (⟨dst,op,ty,p,af,none⟩::rest) N f w):WL P n ops (⟨dst,op,ty,p,af,some (j,b)⟩::rest) N f w:=by
 intro a ha
 have h:=k a ha
 unfold wpList at h ⊢
 have e:=kG ha c hb
 rw[if_pos (by simp[Region.wanted,e])]
 rw[if_pos qV]at h
 exact h
theorem zQ3{j d e:Nat}{b b':Bool}{op:Op}{ty:TypeId}{p:String}{af:Array Edge}(g:yu ops j=some d)(hb:f d= .bool b')(c:(b'==b)=false)(h:Nat.blt e n=true)
   (k:WL P n ops rest N (upd f e undef) w):WL P n ops (⟨some e,op,ty,p,af,some (j,b)⟩::rest) N f w:=by
 intro a ha
 unfold wpList
 have i:=kG ha g hb
 rw[if_neg (by simp[Region.wanted,i];simpa using c)]
 exact k _ (ha.put (by simpa [Nat.blt_eq]using h) undef)
end
def look:Nat→List (Nat×K)→Option K
 |_,[]=>none
 |i,(j,k)::r=>bif Nat.beq i j then some k else look i r
def post(n:Nat)(N R:K)(X:List (Nat×K)):Exit→Act→World→Prop
 | .normal,a,w=>∃ f,Rep n f a∧N f w
 | .ret,a,w=>∃ f,Rep n f a∧R f w
 | .exit id,a,w=>∃ f,Rep n f a∧∃ k,look id X=some k∧k f w
 |_,_,_=>False
def W(P:Program)(n:Nat)(c:Code)(N R:K)(X:List (Nat×K))(f:Nat→Value)(w:World):Prop:=
 ∀ a,Rep n f a→c.wp P (post n N R X) a w
section
variable {P:Program} {n:Nat} {N R:K} {X:List (Nat×K)} {f:Nat→Value} {w:World}
theorem zKB{N' R':K}(b:∀ f w,N f w→N' f w)(c:∀ f w,R f w→R' f w):∀ e a w,post n N R X e a w→post n N' R' X e a w:=by
 intro e a w h
 cases e<;>first|exact h.elim|exact h|(obtain⟨f,r,q⟩:=h;first|exact⟨f,r,b _ _ q⟩|exact⟨f,r,c _ _ q⟩)
theorem kJ{c:Code}{N':K}(h:W P n c N R X f w)(b:∀ f w,N f w→N' f w):W P n c N' R X f w:=
 fun a d=>wp_mono (h a d) (zKB b fun _ _ h=>h)
theorem zLs(h:N f w):W P n .skip N R X f w:=fun a b=>wp_skip ⟨f,b,h⟩
theorem zTH(h:R f w):W P n .ret N R X f w:=fun a b=>wp_ret ⟨f,b,h⟩
theorem zMW{id:Nat}{k:K}(b:look id X=some k)(h:k f w):W P n (.exit id) N R X f w:=fun a c=>wp_exit ⟨f,c,k,b,h⟩
theorem zKc{x y:Code}(h:W P n x (fun f w=>W P n y N R X f w) R X f w):W P n (.seq x y) N R X f w:=by
 intro a ha
 refine wp_seq (wp_mono (h a ha) ?_)
 intro e a w hq
 cases e with
 |normal=>obtain⟨g,b,d⟩:=hq;exact d a b
 |exit id=>exact hq
 |ret=>exact hq
 |goto l=>exact hq
 |panic c=>exact hq
 |outgrown=>exact hq
theorem zTS{x y:Code}(I:K)(h:W P n x I R X f w)(a:∀ f w,I f w→W P n y N R X f w):W P n (.seq x y) N R X f w:=
 zKc (kJ h a)
theorem zQJ{c:Operand}{x y:Code}{b:Bool}(d:ev f c= .bool b)(h1:b=true→W P n x N R X f w)(h2:b=false→W P n y N R X f w):W P n (.cond c x y) N R X f w:=by
 intro a ha
 refine wp_cond_split (t:=b) (by rw[ha.eval];exact d) (fun h=>h1 h a ha) (fun h=>h2 h a ha)
theorem zSs{c:Operand}{x y:Code}(a:ev f c= .bool true)(h1:W P n x N R X f w):W P n (.cond c x y) N R X f w:=
 zQJ a (fun _=>h1) (fun h=>by cases h)
theorem zUZ{c:Operand}{x y:Code}(a:ev f c= .bool false)(h1:W P n y N R X f w):W P n (.cond c x y) N R X f w:=
 zQJ a (fun h=>by cases h) (fun _=>h1)
theorem zNx{id:Nat}{c:Code}(h:W P n c N R ((id,N)::X) f w):W P n (.block id c) N R X f w:=by
 intro a ha
 refine wp_block (wp_mono (h a ha) ?_)
 intro e a w hq
 cases e with
 |normal=>exact hq
 |ret=>exact hq
 |exit id'=>
   obtain⟨g,d,k,b,i⟩:=hq
   simp only[Exit.inBlock]
   by_cases hid:id'=id
   · rw[if_pos hid]
     subst hid
     simp only[look,Nat.beq_refl,cond_true,Option.some.injEq]at b
     subst b
     exact⟨g,d,i⟩
   rw[if_neg hid]
   have hb:Nat.beq id' id=false:=by
     cases hb:Nat.beq id' id
     · rfl
     exact absurd (Nat.eq_of_beq_eq_true hb) hid
   simp only[look,hb,cond_false]at b
   exact⟨g,d,k,b,i⟩
 |goto l=>exact hq
 |panic c=>exact hq
 |outgrown=>exact hq
theorem zGA{id:Nat}{l:List Oper}(h:WL P n l.toArray l N f w):W P n (.region id l.toArray false) N R X f w:=by
 intro a ha
 refine wp_mono (wp_region_lit (h a ha)) ?_
 intro e a w hq
 cases e<;>first|exact hq.elim|exact hq
def drawn(w:World):World:={w with drawn:=w.drawn+1}
def SL(P:Program)(n:Nat)(ops:Array Oper)(w:World)(N:(Nat→Value)→Prop)(l:List Oper)(f:Nat→Value):Prop:=
 ∀ a,Rep n f a→wpStill P ops w (fun a=>∃ f,Rep n f a∧N f) l a
theorem zDq{id:Nat}{l:List Oper}(b:P.follows .mixedOrders=true)(c:Region.lexB .any l.toArray=true)
   (h:SL P n l.toArray (drawn w) (fun f=>N f (drawn w)) l f):W P n (.region id l.toArray true) N R X f w:=by
 intro a ha
 refine wp_mono (wp_region_still_lit (Q:=kO n N) b c (h a ha)) ?_
 intro e a w hq
 cases e<;>first|exact hq.elim|exact hq
variable {ops:Array Oper} {M:(Nat→Value)→Prop} {rest:List Oper}
theorem zM7(h:M f):SL P n ops w M [] f:=fun _ a=>⟨f,a,h⟩
theorem zH9{d:Nat}{op:Op}{ty:TypeId}{p:String}{af:Array Edge}{v:Value}
   (b:(execOp (ev f) ⟨some d,op,ty,p,af,none⟩).run P w= .ok (.value v) w) (c:Nat.blt d n=true)
   (k:SL P n ops w M rest (upd f d v)):SL P n ops w M (⟨some d,op,ty,p,af,none⟩::rest) f:=by
 intro a ha
 unfold wpStill
 rw[if_pos qV]
 unfold Oper.still
 rw[ha.eval,b,Oper.stillUpon_value]
 exact k _ (ha.put (by simpa [Nat.blt_eq]using c) v)
theorem zLM{j d:Nat}{b:Bool}{dst:Option Tmp}{op:Op}{ty:TypeId}{p:String}{af:Array Edge}(c:yu ops j=some d)(hb:f d= .bool b)
   (k:SL P n ops w M (⟨dst,op,ty,p,af,none⟩::rest) f):SL P n ops w M (⟨dst,op,ty,p,af,some (j,b)⟩::rest) f:=by
 intro a ha
 have h:=k a ha
 unfold wpStill at h ⊢
 have e:=kG ha c hb
 rw[if_pos (by simp[Region.wanted,e])]
 rw[if_pos qV]at h
 exact h
end
theorem zJ0{P:Program}{g:FuncId}{fn:Func}{c:Code}{args:List Value}{w:World}{R:Value→World→Prop}
   (j:P.funcs[g]?=some fn) (hb:fn.body=some c) (o:args.length≤fn.ntmps)
   (h:W P fn.ntmps c (fun f w=>∃ v,(∀ a,Rep fn.ntmps f a→(results fn a.tmps).run P w= .ok v w)∧R v w)
     (fun f w=>∃ v,(∀ a,Rep fn.ntmps f a→(results fn a.tmps).run P w= .ok v w)∧R v w) [] (ini args) w):Rets P g args.toArray w R:=by
 refine calls_of_wp j hb ?_
 have d:Rep fn.ntmps (ini args) {tmps:=args.toArray++Array.replicate (fn.ntmps - args.toArray.size) undef,defers:=[]}:=by
   refine⟨by simp;omega,O,fun t=> ?_⟩
   simp only[Array.getD_eq_getD_getElem?]
   have:∀ (l:List Value) (m t:Nat),((l.toArray++Array.replicate m undef)[t]?).getD undef=ini l t:=by
     intro l
     induction l with
     |nil=>intro m t;simp[ini,Array.getElem?_replicate];split<;>rfl
     |cons v l ih=>
       intro m t
       cases t with
       |zero=>simp[ini,Array.getElem?_append]
       |succ t=>
         have:=ih m t
         simp only[ini]
         rw[←this]
         simp[Array.getElem?_append]
   exact this _ _ _
 refine wp_mono (h _ d) ?_
 intro e a w hq
 cases e with
 |normal=>obtain⟨f,b,v,hv,i⟩:=hq;exact⟨b.defers,v,hv a b,v,rfl,i⟩
 |ret=>obtain⟨f,b,v,hv,i⟩:=hq;exact⟨b.defers,v,hv a b,v,rfl,i⟩
 |exit id=>obtain⟨f,b,k,n,_⟩:=hq;simp[look]at n
 |goto l=>exact hq.elim
 |panic c=>exact hq.elim
 |outgrown=>exact hq.elim
end Go.Sc
namespace Go
abbrev zW:Value:= .slice none 0 0
abbrev yC:Value:= .bool false
abbrev xx:Value:= .bool true
abbrev yEb:ByteArray:=⟨#[]⟩
abbrev ym:Value:= .string ⟨#[]⟩
end Go
namespace Go.Sc
structure Keep(S:List Nat)(w w':World):Prop where
 os:w'.os=w.os
 tape:w'.tape=w.tape
 output:w'.output=w.output
 size:w.heap.size≤w'.heap.size
 block:∀ k,k<w.heap.size→k∉S→w'.heap[k]?=w.heap[k]?
theorem Keep.refl(S:List Nat)(w:World):Keep S w w:=⟨rfl,rfl,rfl,Nat.le_refl _,fun _ _ _=>rfl⟩
theorem Keep.cell{S w w'}(h:Keep S w w'){b off:Nat}{v:Value}(hb:b∉S)(c:w.cell? ⟨b,off,none⟩=some v):w'.cell? ⟨b,off,none⟩=some v:=by
 have a:=World.block_lt_of_cell? w _ c
 rw[World.cell?_of_block (h.block b a hb)]
 exact c
theorem Keep.trans{S w w' w''}(h:Keep S w w')(k:Keep S w' w''):Keep S w w'':=
 ⟨k.os.trans h.os,k.tape.trans h.tape,k.output.trans h.output,Nat.le_trans h.size k.size,fun i hi a=>(k.block i (Nat.lt_of_lt_of_le hi h.size) a).trans (h.block i hi a)⟩
theorem Keep.mono{S S':List Nat}{w w'}(h:Keep S w w')(a:∀ b∈S,b∈S'):Keep S' w w':=
 ⟨h.os,h.tape,h.output,h.size,fun i hi c=>h.block i hi (fun d=>c (a i d))⟩
structure Res where
 fp:List Nat
 φ:World→Prop
 st:∀ w w',φ w→(∀ b∈fp,w'.heap[b]?=w.heap[b]?)→φ w'
 lt:∀ w,φ w→∀ b∈fp,b<w.heap.size
structure Own(w0:World)(S:List Nat)(L:List Res)(w:World):Prop where
 keep:Keep S w0 w
 apart:∀ (i j:Nat) (r s:Res),i≠j→L[i]?=some r→L[j]?=some s→∀ b∈r.fp,b∉s.fp
 holds:∀ (i:Nat) (r:Res),L[i]?=some r→r.φ w
 fresh:∀ (i:Nat) (r:Res),L[i]?=some r→∀ b∈r.fp,b∈S∨w0.heap.size≤b
theorem Own.start(w:World):Own w [] [] w:=⟨Keep.refl _ _,by simp,by simp,by simp⟩
theorem Own.start1{w:World}{r:Res}(h:r.φ w):Own w r.fp [r] w:=by
 refine⟨Keep.refl _ _,?_,?_,?_⟩
 · intro i j r1 r2 hij h1 h2
   have e1:i=0:=by cases i with|zero=>rfl|succ i=>simp at h1
   have e2:j=0:=by cases j with|zero=>rfl|succ i=>simp at h2
   omega
 · intro i r1 h1
   cases i with
   |zero=>simp at h1;exact h1▸h
   |succ i=>simp at h1
 intro i r1 h1
 cases i with
 |zero=>simp at h1;subst h1;exact fun b hb=> .inl hb
 |succ i=>simp at h1
section
variable {w0 w:World} {S:List Nat} {L:List Res}
theorem Own.lt(h:Own w0 S L w){i:Nat}{r:Res}(a:L[i]?=some r):∀ b∈r.fp,b<w.heap.size:=r.lt w (h.holds i r a)
theorem Own.old(h:Own w0 S L w)(r:Res)(a:r.φ w0)(c:∀ b∈r.fp,b∉S):r.φ w:=
 r.st w0 w a fun b hb=>h.keep.block b (r.lt w0 a b hb) (c b hb)
theorem Own.oldCell(h:Own w0 S L w){b off:Nat}{v:Value}(a:w0.cell? ⟨b,off,none⟩=some v)(hb:b∉S):w.cell? ⟨b,off,none⟩=some v:=h.keep.cell hb a
theorem _root_.Go.Sc.qG{p:Prop}(h:p:=by omega):p:=h
theorem _root_.Go.Sc.qJ{p:Prop}(h:p:=by simp):p:=h
theorem Own.qb{w':World}{E:List Res}(h:Own w0 S L w)(c:Own w [] E w'):Own w0 S (L++E) w':=by
 have a:∀ (i:Nat) (r:Res),E[i]?=some r→∀ b∈r.fp,w.heap.size≤b:=fun i r d b hb=>(c.fresh i r d b hb).resolve_left qJ
 refine⟨h.keep.trans (c.keep.mono qJ),?_,?_,?_⟩
 · intro i j r s hij hr hs b hb hb'
   rw[List.getElem?_append]at hr hs
   split at hr<;>split at hs
   · exact h.apart i j r s hij hr hs b hb hb'
   · have:=h.lt hr b hb;have:=a _ _ hs b hb';omega
   · have:=h.lt hs b hb';have:=a _ _ hr b hb;omega
   exact c.apart _ _ r s qG hr hs b hb hb'
 · intro i r hr
   rw[List.getElem?_append]at hr
   split at hr
   · exact r.st w w' (h.holds i r hr) fun b hb=>c.keep.block b (h.lt hr b hb) qJ
   exact c.holds _ r hr
 intro i r hr b hb
 rw[List.getElem?_append]at hr
 split at hr
 · exact h.fresh i r hr b hb
 have:=a _ _ hr b hb;have:=h.keep.size;right;omega
theorem Own.frame1{w':World}{i:Nat}{r r':Res}{E:List Res}(h:Own w0 S L w)(q:L[i]?=some r)(l:Own w r.fp (r'::E) w'):Own w0 S (L.set i r'++E) w':=by
 have v:i<L.length:=(List.getElem?_eq_some_iff.1 q).1
 have g:∀ (j:Nat) (s:Res),(r'::E)[j]?=some s→∀ b∈s.fp,b∈r.fp∨w.heap.size≤b:=fun j s hE b hb=>l.fresh j s hE b hb
 have c:∀ (j:Nat) (s:Res),j≠i→L[j]?=some s→∀ b∈s.fp,b<w.heap.size∧b∉r.fp:=fun j s n o b hb=>⟨h.lt o b hb,fun a=>h.apart j i s r n o q b hb a⟩
 -- the place of an entry of the new list
 have d:∀ (j:Nat) (s:Res),(L.set i r'++E)[j]?=some s→(j≠i∧j<L.length∧L[j]?=some s)∨(j=i∧s=r')∨(L.length≤j∧E[j - L.length]?=some s):=by
   intro j s n
   rw[List.getElem?_append]at n
   simp only[List.length_set]at n
   split at n
   · rename_i hlt
     by_cases hji:j=i
     · subst hji
       rw[List.getElem?_set_self v]at n
       exact .inr (.inl ⟨O,(Option.some.inj n).symm⟩)
     rw[List.getElem?_set_ne (fun e=>hji e.symm)]at n
     exact .inl ⟨hji,hlt,n⟩
   exact .inr (.inr ⟨by omega,n⟩)
 refine⟨?_,?_,?_,?_⟩
 · refine⟨l.keep.os.trans h.keep.os,l.keep.tape.trans h.keep.tape,l.keep.output.trans h.keep.output,Nat.le_trans h.keep.size l.keep.size,fun k y z=> ?_⟩
   rw[l.keep.block k (Nat.lt_of_lt_of_le y h.keep.size) (fun hm=> ?_)]
   · exact h.keep.block k y z
   rcases h.fresh i r q k hm with h1|h1
   · exact z h1
   omega
 · intro j k s t hjk o ht b hb a
   rcases d j s o with⟨m,f,a3⟩|⟨m,f⟩|⟨m,f⟩<;>rcases d k t ht with⟨u,p,x⟩|⟨u,p⟩|⟨u,p⟩
   · exact h.apart j k s t hjk a3 x b hb a
   · have:=c j s m a3 b hb;rcases g 0 t (by simp[p]) b a with h1|h1
     · exact this.2 h1
     omega
   · have:=c j s m a3 b hb;rcases g (k - L.length+1) t (by simpa using p) b a with h1|h1
     · exact this.2 h1
     omega
   · have:=c k t u x b a;rcases g 0 s (by simp[f]) b hb with h1|h1
     · exact this.2 h1
     omega
   · omega
   · exact l.apart 0 (k - L.length+1) s t qG (by simp[f]) (by simpa using p) b hb a
   · have:=c k t u x b a;rcases g (j - L.length+1) s (by simpa using f) b hb with h1|h1
     · exact this.2 h1
     omega
   · exact l.apart (j - L.length+1) 0 s t qG (by simpa using f) (by simp[p]) b hb a
   exact l.apart (j - L.length+1) (k - L.length+1) s t qG (by simpa using f) (by simpa using p) b hb a
 · intro j s o
   rcases d j s o with⟨m,f,a3⟩|⟨m,f⟩|⟨m,f⟩
   · exact s.st w w' (h.holds j s a3) fun b hb=>l.keep.block b (c j s m a3 b hb).1 (c j s m a3 b hb).2
   · exact l.holds 0 s (by simp[f])
   exact l.holds (j - L.length+1) s (by simpa using f)
 intro j s o b hb
 have up:∀ b,b∈r.fp∨w.heap.size≤b→b∈S∨w0.heap.size≤b:=fun b h1=>by
   rcases h1 with h1|h1
   · exact h.fresh i r q b h1
   have:=h.keep.size;right;omega
 rcases d j s o with⟨m,f,a3⟩|⟨m,f⟩|⟨m,f⟩
 · exact h.fresh j s a3 b hb
 · exact up b (g 0 s (by simp[f]) b hb)
 exact up b (g (j - L.length+1) s (by simpa using f) b hb)
theorem Own.pick{L':List Res}(h:Own w0 S L w)(m:Nat→Nat)(c:∀ (i:Nat) (r:Res),L'[i]?=some r→L[m i]?=some r)(b:∀ i j:Nat,i<L'.length→j<L'.length→m i=m j→i=j):Own w0 S L' w:=by
 refine⟨h.keep,fun i j r s d a f=> ?_,fun i r a=>h.holds _ r (c i r a),fun i r a=>h.fresh _ r (c i r a)⟩
 refine h.apart (m i) (m j) r s (fun e=>d ?_) (c i r a) (c j s f)
 exact b i j (List.getElem?_eq_some_iff.1 a).1 (List.getElem?_eq_some_iff.1 f).1 e
theorem Own.drop(h:Own w0 S L w):Own w0 S [] w:=⟨h.keep,by simp,by simp,by simp⟩
theorem Own.one{r:Res}(h:Own w0 S L w)(i:Nat)(a:L[i]?=some r):Own w0 S [r] w:=by
 refine h.pick (fun _=>i) ?_ qJ
 intro j s hs
 cases j with
 |zero=>simp at hs;rw[a,hs]
 |succ j=>simp at hs
theorem Own.turn{i:Nat}{r r':Res}(h:Own w0 S L w)(d:L[i]?=some r)(e:r.φ w→r'.φ w)(c:∀ b∈r'.fp,b∈r.fp):Own w0 S (L.set i r') w:=by
 have:=h.frame1 (r':=r') (E:=[]) d (w':=w) (by
   refine⟨Keep.refl _ _,?_,?_,?_⟩
   · intro a b r1 r2 hab h1 h2
     have e1:a=0:=by cases a with|zero=>rfl|succ i=>simp at h1
     have e2:b=0:=by cases b with|zero=>rfl|succ i=>simp at h2
     omega
   · intro a r1 h1
     cases a with
     |zero=>simp at h1;subst h1;exact e (h.holds i r d)
     |succ i=>simp at h1
   intro a r1 h1
   cases a with
   |zero=>simp at h1;subst h1;exact fun b hb=> .inl (c b hb)
   |succ i=>simp at h1)
 simpa using this
theorem Own.drawn(h:Own w0 S L w):Own w0 S L (drawn w):=
 ⟨⟨h.keep.os,h.keep.tape,h.keep.output,h.keep.size,h.keep.block⟩,h.apart,fun i r a=>r.st w _ (h.holds i r a) fun _ _=>rfl,h.fresh⟩
theorem Own.mk1{w':World}{r':Res}{fp:List Nat}(c:Keep fp w w')(d:r'.φ w')(e:∀ b∈r'.fp,b∈fp∨w.heap.size≤b):Own w fp [r'] w':=by
 refine⟨c,?_,?_,?_⟩
 · intro a b r1 r2 hab h1 h2
   have e1:a=0:=by cases a with|zero=>rfl|succ i=>simp at h1
   have e2:b=0:=by cases b with|zero=>rfl|succ i=>simp at h2
   omega
 · intro a r1 h1
   cases a with
   |zero=>simp at h1;subst h1;exact d
   |succ i=>simp at h1
 intro a r1 h1
 cases a with
 |zero=>simp at h1;subst h1;exact e
 |succ i=>simp at h1
end
def Row(w:World)(b:Nat)(e:TypeId)(cs:List Value):Prop:=
 ∃ lo hi,w.heap[b]?=some (.cells cs.toArray e (lo,hi))∧(hi≤lo∨False)
def Res.row(b:Nat)(e:TypeId)(cs:List Value):Res where
 fp:=[b]
 φ w:=Row w b e cs
 st w w' h hb:=by
   obtain⟨lo,hi,h1,h2⟩:=h
   exact⟨lo,hi,by rw[hb b qJ];exact h1,h2⟩
 lt w h b' hb':=by
   obtain⟨lo,hi,h1,h2⟩:=h
   simp at hb'
   subst hb'
   exact(Array.getElem?_eq_some_iff.1 h1).1
theorem Row.cell{w:World}{b off:Nat}{e:TypeId}{cs:List Value}{v:Value}(h:Row w b e cs)(hv:cs[off]?=some v):w.cell? ⟨b,off,none⟩=some v:=by
 obtain⟨lo,hi,h1,h2⟩:=h
 rw[cell_of_row w b off _ e _ h1]
 simpa using hv
theorem Row.free{w:World}{b off:Nat}{e:TypeId}{cs:List Value}(h:Row w b e cs)(ho:off<cs.length):w.frozen? ⟨b,off,none⟩=false:=by
 obtain⟨lo,hi,h1,h2⟩:=h
 simp only[World.frozen?,h1]
 rcases h2 with h2|h2
 · simp;omega
 exact h2.elim
theorem Row.set{w:World}{b off:Nat}{e:TypeId}{cs:List Value}(h:Row w b e cs)(v:Value):Row (w.setCell ⟨b,off,none⟩ v) b e (cs.set off v)∧Keep [b] w (w.setCell ⟨b,off,none⟩ v):=by
 obtain⟨lo,hi,h1,h2⟩:=h
 refine⟨⟨lo,hi,?_,by simpa using h2⟩,⟨O,O,O,by simp[World.setCell],fun k c a=> ?_⟩⟩
 · simp[World.setCell,Array.getElem?_modify,h1]
 exact heap_setCell_other w _ k v (by simpa using a)
theorem zJN(w:World)(e:TypeId)(cs:List Value):Own w [] [Res.row w.heap.size e cs] (w.alloc (.cells cs.toArray e)):=by
 refine Own.mk1 ⟨O,O,O,by simp,fun k a _=>heap_alloc_old w _ k a⟩ ⟨0,0,heap_alloc_new w _, .inl (Nat.le_refl _)⟩ ?_
 intro b hb
 simp[Res.row]at hb
 right;omega
section
variable {w0 w:World} {S:List Nat} {L:List Res}
theorem Own.rowCell{i b off:Nat}{e:TypeId}{cs:List Value}{v:Value}(a:L[i]?=some (Res.row b e cs))(hv:cs[off]?=some v)(h:Own w0 S L w):w.cell? ⟨b,off,none⟩=some v:=
 Row.cell (h.holds i _ a) hv
theorem Own.setRow{i b off:Nat}{e:TypeId}{cs:List Value}(h:Own w0 S L w)(c:L[i]?=some (Res.row b e cs))(v:Value):Own w0 S (L.set i (Res.row b e (cs.set off v))) (w.setCell ⟨b,off,none⟩ v):=by
 have d:=Row.set (off:=off) (h.holds i _ c) v
 have:=h.frame1 (r':=Res.row b e (cs.set off v)) (E:=[]) c (Own.mk1 d.2 d.1 (fun f a=> .inl a))
 simpa using this
theorem Own.alloc(h:Own w0 S L w)(e:TypeId)(cs:List Value):Own w0 S (L++[Res.row w.heap.size e cs]) (w.alloc (.cells cs.toArray e)):=h.qb (zJN w e cs)
end
def xK:Value→List Nat
 | .slice (some a) _ _=>[a.block]
 |_=>[]
def zBy:Value→List Nat
 | .slice (some a) _ (_+1)=>[a.block]
 |_=>[]
theorem zFY{a:Addr}{n cap:Nat}(h:0<cap):zBy (.slice (some a) n cap)=[a.block]:=by
 cases cap with
 |zero=>omega
 |succ c=>rfl
theorem zAA{v:Value}:∀ b∈zBy v,b∈xK v:=by
 intro b hb
 unfold zBy at hb
 split at hb
 · exact hb
 simp at hb
def Sl(w:World)(v:Value)(n:Nat)(cs:List Value):Prop:=
 (∃ a,v= .slice a 0 0∧n=0∧cs=[])∨
 ∃ b off cap,v= .slice (some ⟨b,off,none⟩) n cap∧(n≤cap∧0<cap)∧cap≤maxLen∧b<w.heap.size∧∀ i u,cs[i]?=some u→w.cell? ⟨b,off+i,none⟩=some u
theorem Sl.st{w w':World}{v:Value}{n:Nat}{cs:List Value}(h:Sl w v n cs)(hb:∀ b∈zBy v,w'.heap[b]?=w.heap[b]?):Sl w' v n cs:=by
 rcases h with h|⟨b,off,cap,rfl,h1,h2,c,d⟩
 · exact .inl h
 have a:=hb b (by simp[zFY h1.2])
 refine .inr ⟨b,off,cap,O,h1,h2,?_,fun i u e=> ?_⟩
 · rw[Array.getElem?_eq_getElem c]at a
   exact(Array.getElem?_eq_some_iff.1 a).1
 rw[World.cell?_of_block a]
 exact d i u e
def Res.sl(v:Value)(n:Nat)(cs:List Value):Res where
 fp:=zBy v
 φ w:=Sl w v n cs
 st w w' h hb:=h.st hb
 lt w h b hb:=by
   rcases h with⟨a,rfl,_⟩|⟨b',off,cap,rfl,h1,h2,h3,h4⟩
   · cases a<;>simp[zBy]at hb
   simp[zFY h1.2]at hb;subst hb;exact h3
def Res.vec(e:TypeId)(sz:Nat)(v:Value)(n:Nat)(cs:List Value):Res where
 fp:=xK v
 φ w:=w.ownsRow 0 e sz v n cs
 st w w' h hb:=by
   refine⟨h.1,?_⟩
   rcases h.2 with h1|⟨g,cap,cur,rfl,h0,h1,h2⟩
   · exact .inl h1
   exact .inr ⟨g,cap,cur,rfl,h0,by rw[hb g (by simp[xK])];exact h1,h2⟩
 lt w h b hb:=by
   rcases h.2 with⟨rfl,_⟩|⟨g,cap,cur,rfl,h0,h1,h2⟩
   · simp[xK]at hb
   simp[xK]at hb;subst hb;exact(Array.getElem?_eq_some_iff.1 h1).1
theorem Vec.sl{w:World}{e:TypeId}{sz:Nat}{v:Value}{n:Nat}{cs:List Value}(h:w.ownsRow 0 e sz v n cs):Sl w v n cs:=by
 rcases h.2 with⟨rfl,rfl⟩|⟨g,cap,b,rfl,j,h1,h2,c,k,d⟩
 · exact .inl ⟨none,rfl,rfl,List.eq_nil_of_length_eq_zero (by simpa using h.1)⟩
 by_cases hc:cap=0
 · subst hc
   have f:n=0:=by omega
   subst f
   exact .inl ⟨_,O,O,List.eq_nil_of_length_eq_zero (by simpa using h.1)⟩
 refine .inr ⟨g,0,cap,O,⟨h2,by omega⟩,c,(Array.getElem?_eq_some_iff.1 h1).1,fun i u a=> ?_⟩
 rw[cell_of_row w g _ b e (0,0) h1,Nat.zero_add]
 rw[←d,List.getElem?_take]at a
 split at a
 · simpa using a
 cases a
theorem zOF(w:World)(e:TypeId)(sz:Nat):w.ownsRow 0 e sz zW 0 []:=World.ownsRow_nil w 0 e sz
theorem zPe{w:World}{b:Nat}{e:TypeId}{cs:List Value}{n sz:Nat}(h:w.heap[b]?=some (.cells cs.toArray e (0,0)))(a:cs.length=n*sz)(c:n≤maxLen):w.ownsRow 0 e sz (.slice (some ⟨b,0,none⟩) n n) n cs:=
 ⟨a, .inr ⟨b,n,cs.toArray,rfl,Nat.zero_le _,h,Nat.le_refl _,c,by simpa using a,by rw[←a];simp⟩⟩
def one(P:Program)(t:TypeId):Bool:=
 match P.underlying t,P.info? t with
 |some (.struct _),_|some (.array ..),_=>false
 |some _,some i=>i.size==1
 |_,_=>false
def jF(P:Program)(t:TypeId):Option Nat:=
 match P.underlying t,P.info? t with
 |some (.struct _),some i|some (.array ..),some i=>some i.size
 |_,_=>none
def jm(P:Program)(t:TypeId):Option Nat:=(P.info? t).map (·.size)
def x2(P:Program)(t:TypeId):Option Value:=(P.info? t).bind (·.zero)
def elemT(P:Program)(t:TypeId):Option TypeId:=match P.underlying t with|some (.slice e)=>some e|_=>none
def zA5(P:Program)(t:TypeId):Option Nat:=match P.underlying t with|some (.slice e)=>(P.info? e).map (·.size)|_=>none
def x9 (P : Program) (g : FuncId) : Bool := match P.funcs[g]? with | some fn => !(fn.name == "runtime.NumGoroutine") && fn.body.isSome | none => false
def zCW(P:Program)(s:TypeId)(k:Nat):Option Nat:=
 match P.underlying s with
 |some (.struct fs)=>(fs[k]?).bind fun f=>(P.info? f.type).bind fun i=>if i.size=0 then none else some f.offset
 |_=>none
def zCv(P:Program)(t:TypeId):Option IntKind:=match P.underlying t with|some (.int k)=>some k|_=>none
def zEB(P:Program)(t:TypeId):Bool:=match P.underlying t with|some (.pointer _)=>true|_=>false
def kA(P:Program)(t:TypeId):Bool:=match P.underlying t with|some (.slice _)=>true|_=>false
def zFf(P:Program)(t:TypeId):Bool:=match P.underlying t with|some .bool=>true|_=>false
def jI(P:Program)(t:TypeId):Bool:=match P.underlying t with|some .string=>true|_=>false
theorem zp{P:Program}{t:TypeId}{d:TypeDesc}(h:P.underlying t=some d)(w:World):(underlying t).run P w= .ok d w:=by simp[underlying,h]
theorem zGP{P:Program}{t:TypeId}(h:one P t=true):(∀ w,(isAgg t).run P w= .ok false w)∧∃ i,P.info? t=some i∧i.size=1:=by
 unfold one at h
 split at h
 · cases h
 · cases h
 · rename_i d i h1 h2 hd hi
   refine⟨fun w=> ?_,i,hi,by simpa using h⟩
   cases d<;>first|exact(h1 _ rfl).elim|exact(h2 _ _ rfl).elim|simp[isAgg,zp hd]
 cases h
theorem zEo{P:Program}{t:TypeId}{k:Nat}(h:jF P t=some k):(∀ w,(isAgg t).run P w= .ok true w)∧∃ i,P.info? t=some i∧i.size=k:=by
 unfold jF at h
 split at h
 · rename_i fs i hd hi
   refine⟨fun w=> ?_,i,hi,by simpa using h⟩
   simp[isAgg,zp hd]
 · rename_i n e i hd hi
   refine⟨fun w=> ?_,i,hi,by simpa using h⟩
   simp[isAgg,zp hd]
 cases h
theorem ku {P : Program} {g : FuncId} (h : x9 P g = true) (w : World) (args : Array Value) : (callFunc g args).run P w = .ok (.enter g args) w := by
  unfold x9 at h
  cases hf : P.funcs[g]? with
  | none => rw [hf] at h; cases h
  | some fn =>
    rw [hf] at h
    simp only [Bool.and_eq_true, Bool.not_eq_true', Option.isSome_iff_exists] at h
    obtain ⟨h1, c, a⟩ := h
    have b : fn.name ≠ "runtime.NumGoroutine" := by simpa using h1
    have hp : (Go.program).run P w = .ok P w := rfl
    simp [callFunc, hp, hf, b, a]
def CL(P:Program)(n:Nat)(ops:Array Oper)(l:List Oper)(N:K)(f:Nat→Value)(A:World→Prop):Prop:=∀ w,A w→WL P n ops l N f w
def C(P:Program)(n:Nat)(c:Code)(N R:K)(X:List (Nat×K))(f:Nat→Value)(A:World→Prop):Prop:=∀ w,A w→W P n c N R X f w
theorem O0{P:Program}{n:Nat}{ops:Array Oper}{l:List Oper}{N:K}{f:Nat→Value}{w w1:World}{S:List Nat}(k:CL P n ops l N f (Own w S []))(h:Own w S [] w1):WL P n ops l N f w1:=k w1 h
theorem O1{P:Program}{n:Nat}{ops:Array Oper}{l:List Oper}{N:K}{f:Nat→Value}{w w1:World}{S:List Nat}{a0:Res}(k:CL P n ops l N f (Own w S [a0]))(h:Own w S [a0] w1):WL P n ops l N f w1:=k w1 h
section
variable {P:Program} {n:Nat} {ops:Array Oper} {N R:K} {X:List (Nat×K)} {f:Nat→Value} {A:World→Prop} {rest:List Oper}
variable {d:Nat} {ty:TypeId} {p:String} {af:Array Edge}
theorem zK{x y:Code}(h:C P n x (fun f w=>W P n y N R X f w) R X f A):C P n (.seq x y) N R X f A:=fun w a=>zKc (h w a)
theorem zB{id:Nat}{l:List Oper}{y:Code}(h:CL P n l.toArray l (fun f w=>W P n y N R X f w) f A):C P n (.seq (.region id l.toArray false) y) N R X f A:=fun w a=>zKc (zGA (h w a))
theorem ze{id:Nat}{l:List Oper}(h:CL P n l.toArray l N f A):C P n (.region id l.toArray false) N R X f A:=fun w a=>zGA (h w a)
theorem x4(h:∀ w,A w→N f w):C P n .skip N R X f A:=fun w a=>zLs (h w a)
theorem zP(h:∀ w,A w→R f w):C P n .ret N R X f A:=fun w a=>zTH (h w a)
theorem xy{id:Nat}{k:K}(a:look id X=some k)(h:∀ w,A w→k f w):C P n (.exit id) N R X f A:=fun w b=>zMW a (h w b)
theorem zU{id:Nat}{c:Code}(h:C P n c N R ((id,N)::X) f A):C P n (.block id c) N R X f A:=fun w a=>zNx (h w a)
theorem jJ{c:Operand}{x y:Code}{b:Bool}(d:ev f c= .bool b)(h1:b=true→C P n x N R X f A)(h2:b=false→C P n y N R X f A):C P n (.cond c x y) N R X f A:=
 fun w a=>zQJ d (fun e=>h1 e w a) (fun e=>h2 e w a)
theorem x0{c:Operand}{x y:Code}(a:ev f c=xx)(h1:C P n x N R X f A):C P n (.cond c x y) N R X f A:=fun w b=>zSs a (h1 w b)
theorem yW{c:Operand}{x y:Code}(a:ev f c=yC)(h1:C P n y N R X f A):C P n (.cond c x y) N R X f A:=fun w b=>zUZ a (h1 w b)
theorem zT{c:Operand}{x y:Code}{q:Prop}[Decidable q](a:ev f c= .bool (decide q))(h1:q→C P n x N R X f A)(h2:¬ q→C P n y N R X f A):C P n (.cond c x y) N R X f A:=
 jJ a (fun e=>h1 (of_decide_eq_true e)) (fun e=>h2 (of_decide_eq_false e))
theorem zQt{c:Operand}{x y:Code}{q:Prop}[Decidable q](a:ev f c= .bool (decide q))(b:¬ q)(h1:C P n y N R X f A):C P n (.cond c x y) N R X f A:=
 yW (by rw[a,decide_eq_false b]) h1
theorem zTe{x y:Code}(I:K)(h:C P n x I R X f A)(a:∀ f w,I f w→W P n y N R X f w):C P n (.seq x y) N R X f A:=fun w b=>zTS I (h w b) a
theorem zx(h:∀ w,A w→N f w):CL P n ops [] N f A:=fun w a=>zMy (h w a)
theorem zA{c:Code}{M:K}{X:List (Nat×K)}(h:C P n c M R X f A):CL P n ops [] (fun f w=>W P n c M R X f w) f A:=fun w a=>zMy (h w a)
theorem zQb{A':World→Prop}(h:CL P n ops rest N f A')(a:∀ w,A w→A' w):CL P n ops rest N f A:=fun w b=>h w (a w b)
def RV(P:Program)(f:Nat→Value)(o:Oper)(A:World→Prop)(v:Value):Prop:=∀ w,A w→(execOp (ev f) o).run P w= .ok (.value v) w
theorem yN{op:Op}{v:Value}(b:Nat.blt d n=true)(c:∀ w,A w→(execOp (ev f) ⟨some d,op,ty,p,af,none⟩).run P w= .ok (.value v) w)
 (k:CL P n ops rest N (upd f d v) A):CL P n ops (⟨some d,op,ty,p,af,none⟩::rest) N f A:=fun w a=>xc (c w a) b (k w a)
theorem zQ{j e:Nat}{b:Bool}{dst:Option Tmp}{op:Op}(a:yu ops j=some e)(hb:f e= .bool b)
 (k:CL P n ops (⟨dst,op,ty,p,af,none⟩::rest) N f A):CL P n ops (⟨dst,op,ty,p,af,some (j,b)⟩::rest) N f A:=fun w c=>zMg a hb (k w c)
theorem zGX{j e:Nat}{b b':Bool}{op:Op}(c:yu ops j=some e)(hb:f e= .bool b')(a:(b'==b)=false)(g:Nat.blt d n=true)
 (k:CL P n ops rest N (upd f d undef) A):CL P n ops (⟨some d,op,ty,p,af,some (j,b)⟩::rest) N f A:=fun w h=>zQ3 c hb a g (k w h)
theorem za{x:Operand}:RV P f ⟨some d, .move x,ty,p,af,none⟩ A ((ev f x)):=
 fun w _=>by simp[execOp]
theorem zC{x:Operand}(a:Nat.blt d n=true)(k:CL P n ops rest N (upd f d (ev f x)) A):CL P n ops (⟨some d, .move x,ty,p,af,none⟩::rest) N f A:=
 yN a (fun w _=>by simp[execOp]) k
theorem yB{x:Operand}:RV P f ⟨some d, .assign x,ty,p,af,none⟩ A ((ev f x)):=
 fun w _=>by simp[execOp]
theorem zF{x:Operand}(a:Nat.blt d n=true)(k:CL P n ops rest N (upd f d (ev f x)) A):CL P n ops (⟨some d, .assign x,ty,p,af,none⟩::rest) N f A:=
 yN a (fun w _=>by simp[execOp]) k
theorem zLR{c x y:Operand}{b:Bool}(a:ev f c= .bool b):RV P f ⟨some d, .pick c x y,ty,p,af,none⟩ A ((bif b then ev f x else ev f y)):=
 fun w _=>by cases b<;>simp[execOp,a,asBool]
theorem zMl{c x y:Operand}{b:Bool}(a:ev f c= .bool b)(e:Nat.blt d n=true)(k:CL P n ops rest N (upd f d (bif b then ev f x else ev f y)) A):CL P n ops (⟨some d, .pick c x y,ty,p,af,none⟩::rest) N f A:=
 yN e (fun w _=>by cases b<;>simp[execOp,a,asBool]) k
theorem zDT{x:Operand}{b:Bool}{t:TypeId}(a:ev f x= .bool b):RV P f ⟨some d, .unOp .not t x,ty,p,af,none⟩ A ((.bool !b)):=
 fun w _=>by simp[execOp,a,Op.unary]
theorem xo{x:Operand}{b:Bool}{t:TypeId}(a:ev f x= .bool b)(c:Nat.blt d n=true)(k:CL P n ops rest N (upd f d (.bool !b)) A):CL P n ops (⟨some d, .unOp .not t x,ty,p,af,none⟩::rest) N f A:=
 yN c (fun w _=>by simp[execOp,a,Op.unary]) k
theorem zHF{x:Operand}{q:Prop}[Decidable q]{t:TypeId}(a:ev f x= .bool (decide q)):RV P f ⟨some d, .unOp .not t x,ty,p,af,none⟩ A ((.bool (decide ¬ q))):=
 fun w _=>by simp[execOp,a,Op.unary]
theorem xQ{x:Operand}{q:Prop}[Decidable q]{t:TypeId}(a:ev f x= .bool (decide q))(b:Nat.blt d n=true)(k:CL P n ops rest N (upd f d (.bool (decide ¬ q))) A):CL P n ops (⟨some d, .unOp .not t x,ty,p,af,none⟩::rest) N f A:=
 yN b (fun w _=>by simp[execOp,a,Op.unary]) k
theorem yG{x:Operand}{vs:List Value}{i:Nat}{v:Value}(a:ev f x= .tuple vs.toArray)(hv:vs[i]?=some v):RV P f ⟨some d, .extract x i,ty,p,af,none⟩ A (v):=
 fun w _=>by simp[execOp,a,Instr.extract,hv]
theorem zb{x:Operand}{vs:List Value}{i:Nat}{v:Value}(a:ev f x= .tuple vs.toArray)(hv:vs[i]?=some v)(b:Nat.blt d n=true)(k:CL P n ops rest N (upd f d v) A):CL P n ops (⟨some d, .extract x i,ty,p,af,none⟩::rest) N f A:=
 yN b (fun w _=>by simp[execOp,a,Instr.extract,hv]) k
section
variable {x y:Operand} {k:IntKind} {a b c:Int} {t t':TypeId}
theorem xN(e:ev f x= .int k a)(g:ev f y= .int k b)(h:k.wrap (a+b)=c):RV P f ⟨some d, .binOp .add t x y t',ty,p,af,none⟩ A ((.int k c)):=
 fun w _=>by simp[execOp,e,g,eqGuard,binOp,Op.intArith,h]
theorem zr(e:ev f x= .int k a)(g:ev f y= .int k b)(h:k.wrap (a+b)=c)(i:Nat.blt d n=true)(j:CL P n ops rest N (upd f d (.int k c)) A):CL P n ops (⟨some d, .binOp .add t x y t',ty,p,af,none⟩::rest) N f A:=
 yN i (fun w _=>by simp[execOp,e,g,eqGuard,binOp,Op.intArith,h]) j
theorem ji(e:ev f x= .int k a)(g:ev f y= .int k b)(h:k.wrap (a - b)=c):RV P f ⟨some d, .binOp .sub t x y t',ty,p,af,none⟩ A ((.int k c)):=
 fun w _=>by simp[execOp,e,g,eqGuard,binOp,Op.intArith,h]
theorem y9(e:ev f x= .int k a)(g:ev f y= .int k b)(h:k.wrap (a - b)=c)(i:Nat.blt d n=true)(j:CL P n ops rest N (upd f d (.int k c)) A):CL P n ops (⟨some d, .binOp .sub t x y t',ty,p,af,none⟩::rest) N f A:=
 yN i (fun w _=>by simp[execOp,e,g,eqGuard,binOp,Op.intArith,h]) j
theorem zAU(e:ev f x= .int k a)(g:ev f y= .int k b)(h:k.wrap (a*b)=c)(i:Nat.blt d n=true)(j:CL P n ops rest N (upd f d (.int k c)) A):CL P n ops (⟨some d, .binOp .mul t x y t',ty,p,af,none⟩::rest) N f A:=
 yN i (fun w _=>by simp[execOp,e,g,eqGuard,binOp,Op.intArith,h]) j
theorem zEw(e:ev f x= .int k a)(g:ev f y= .int k b)(hb:b≠0)(h:k.wrap (a.tdiv b)=c)(i:Nat.blt d n=true)(j:CL P n ops rest N (upd f d (.int k c)) A):CL P n ops (⟨some d, .binOp .quo t x y t',ty,p,af,none⟩::rest) N f A:=
 yN i (fun w _=>by simp[execOp,e,g,eqGuard,binOp,Op.intDiv,hb,h]) j
theorem zQG(e:ev f x= .int k a)(g:ev f y= .int k b)(hb:b≠0)(h:a.tmod b=c):RV P f ⟨some d, .binOp .rem t x y t',ty,p,af,none⟩ A ((.int k c)):=
 fun w _=>by simp[execOp,e,g,eqGuard,binOp,Op.intDiv,hb,h]
theorem zI4(e:ev f x= .int k a)(g:ev f y= .int k b)(hb:b≠0)(h:a.tmod b=c)(i:Nat.blt d n=true)(j:CL P n ops rest N (upd f d (.int k c)) A):CL P n ops (⟨some d, .binOp .rem t x y t',ty,p,af,none⟩::rest) N f A:=
 yN i (fun w _=>by simp[execOp,e,g,eqGuard,binOp,Op.intDiv,hb,h]) j
theorem v_shl{k':IntKind}(e:ev f x= .int k a)(g:ev f y= .int k' b)(hb:0≤b)(h:k.wrap (a*2 ^ (min b.toNat k.bits))=c):RV P f ⟨some d, .binOp .shl t x y t',ty,p,af,none⟩ A ((.int k c)):=
 fun w _=>by simp[execOp,e,g,eqGuard,binOp,Op.shift,show ¬ b<0 by omega,h]
theorem zTi{k':IntKind}(e:ev f x= .int k a)(g:ev f y= .int k' b)(hb:0≤b)(h:k.wrap (a*2 ^ (min b.toNat k.bits))=c)(i:Nat.blt d n=true)(j:CL P n ops rest N (upd f d (.int k c)) A):CL P n ops (⟨some d, .binOp .shl t x y t',ty,p,af,none⟩::rest) N f A:=
 yN i (fun w _=>by simp[execOp,e,g,eqGuard,binOp,Op.shift,show ¬ b<0 by omega,h]) j
theorem zQC{k':IntKind}(e:ev f x= .int k a)(g:ev f y= .int k' b)(hb:0≤b)(h:a.fdiv (2 ^ (min b.toNat k.bits))=c):RV P f ⟨some d, .binOp .shr t x y t',ty,p,af,none⟩ A ((.int k c)):=
 fun w _=>by simp[execOp,e,g,eqGuard,binOp,Op.shift,show ¬ b<0 by omega,h]
theorem zCE{k':IntKind}(e:ev f x= .int k a)(g:ev f y= .int k' b)(hb:0≤b)(h:a.fdiv (2 ^ (min b.toNat k.bits))=c)(i:Nat.blt d n=true)(j:CL P n ops rest N (upd f d (.int k c)) A):CL P n ops (⟨some d, .binOp .shr t x y t',ty,p,af,none⟩::rest) N f A:=
 yN i (fun w _=>by simp[execOp,e,g,eqGuard,binOp,Op.shift,show ¬ b<0 by omega,h]) j
theorem zUh(e:ev f x= .int k a)(g:ev f y= .int k b)(h:k.wrap (((a%2 ^ k.bits).toNat|||(b%2 ^ k.bits).toNat:Nat):Int)=c)(i:Nat.blt d n=true)(j:CL P n ops rest N (upd f d (.int k c)) A):CL P n ops (⟨some d, .binOp .or t x y t',ty,p,af,none⟩::rest) N f A:=
 yN i (fun w _=>by simp[execOp,e,g,eqGuard,binOp,Op.intBits,h]) j
theorem zIK(e:ev f x= .int k a)(g:ev f y= .int k b)(h:k.wrap (((a%2 ^ k.bits).toNat&&& (b%2 ^ k.bits).toNat:Nat):Int)=c):RV P f ⟨some d, .binOp .and t x y t',ty,p,af,none⟩ A ((.int k c)):=
 fun w _=>by simp[execOp,e,g,eqGuard,binOp,Op.intBits,h]
theorem zPl(e:ev f x= .int k a)(g:ev f y= .int k b)(h:k.wrap (((a%2 ^ k.bits).toNat&&& (b%2 ^ k.bits).toNat:Nat):Int)=c)(i:Nat.blt d n=true)(j:CL P n ops rest N (upd f d (.int k c)) A):CL P n ops (⟨some d, .binOp .and t x y t',ty,p,af,none⟩::rest) N f A:=
 yN i (fun w _=>by simp[execOp,e,g,eqGuard,binOp,Op.intBits,h]) j
theorem zQA(e:ev f x= .int k a)(g:ev f y= .int k b)(h:k.wrap (((a%2 ^ k.bits).toNat ^^^ (b%2 ^ k.bits).toNat:Nat):Int)=c):RV P f ⟨some d, .binOp .xor t x y t',ty,p,af,none⟩ A ((.int k c)):=
 fun w _=>by simp[execOp,e,g,eqGuard,binOp,Op.intBits,h]
theorem zTJ(e:ev f x= .int k a)(g:ev f y= .int k b)(h:k.wrap (((a%2 ^ k.bits).toNat ^^^ (b%2 ^ k.bits).toNat:Nat):Int)=c)(i:Nat.blt d n=true)(j:CL P n ops rest N (upd f d (.int k c)) A):CL P n ops (⟨some d, .binOp .xor t x y t',ty,p,af,none⟩::rest) N f A:=
 yN i (fun w _=>by simp[execOp,e,g,eqGuard,binOp,Op.intBits,h]) j
theorem zIQ(c:ev f x= .int k a)(e:ev f y= .int k b):RV P f ⟨some d, .binOp .lss t x y t',ty,p,af,none⟩ A ((.bool (decide (a<b)))):=
 fun w _=>by simp[execOp,c,e,eqGuard,binOp,Op.intCmp]
theorem zu(c:ev f x= .int k a)(e:ev f y= .int k b)(g:Nat.blt d n=true)(h:CL P n ops rest N (upd f d (.bool (decide (a<b)))) A):CL P n ops (⟨some d, .binOp .lss t x y t',ty,p,af,none⟩::rest) N f A:=
 yN g (fun w _=>by simp[execOp,c,e,eqGuard,binOp,Op.intCmp]) h
theorem zJH(c:ev f x= .int k a)(e:ev f y= .int k b):RV P f ⟨some d, .binOp .leq t x y t',ty,p,af,none⟩ A ((.bool (decide (a≤b)))):=
 fun w _=>by simp[execOp,c,e,eqGuard,binOp,Op.intCmp]
theorem yx(c:ev f x= .int k a)(e:ev f y= .int k b)(g:Nat.blt d n=true)(h:CL P n ops rest N (upd f d (.bool (decide (a≤b)))) A):CL P n ops (⟨some d, .binOp .leq t x y t',ty,p,af,none⟩::rest) N f A:=
 yN g (fun w _=>by simp[execOp,c,e,eqGuard,binOp,Op.intCmp]) h
theorem zBm(c:ev f x= .int k a)(e:ev f y= .int k b):RV P f ⟨some d, .binOp .gtr t x y t',ty,p,af,none⟩ A ((.bool (decide (b<a)))):=
 fun w _=>by simp[execOp,c,e,eqGuard,binOp,Op.intCmp]
theorem yY(c:ev f x= .int k a)(e:ev f y= .int k b)(g:Nat.blt d n=true)(h:CL P n ops rest N (upd f d (.bool (decide (b<a)))) A):CL P n ops (⟨some d, .binOp .gtr t x y t',ty,p,af,none⟩::rest) N f A:=
 yN g (fun w _=>by simp[execOp,c,e,eqGuard,binOp,Op.intCmp]) h
theorem zGk(c:ev f x= .int k a)(e:ev f y= .int k b):RV P f ⟨some d, .binOp .geq t x y t',ty,p,af,none⟩ A ((.bool (decide (b≤a)))):=
 fun w _=>by simp[execOp,c,e,eqGuard,binOp,Op.intCmp]
theorem xJ(c:ev f x= .int k a)(e:ev f y= .int k b)(g:Nat.blt d n=true)(h:CL P n ops rest N (upd f d (.bool (decide (b≤a)))) A):CL P n ops (⟨some d, .binOp .geq t x y t',ty,p,af,none⟩::rest) N f A:=
 yN g (fun w _=>by simp[execOp,c,e,eqGuard,binOp,Op.intCmp]) h
theorem zLD(c:ev f x= .int k a)(e:ev f y= .int k b):RV P f ⟨some d, .binOp .eql t x y t',ty,p,af,none⟩ A ((.bool (decide (a=b)))):=
 fun w _=>by simp[execOp,c,e,eqGuard,binOp,Op.intCmp];rfl
theorem yT(c:ev f x= .int k a)(e:ev f y= .int k b)(g:Nat.blt d n=true)(h:CL P n ops rest N (upd f d (.bool (decide (a=b)))) A):CL P n ops (⟨some d, .binOp .eql t x y t',ty,p,af,none⟩::rest) N f A:=
 yN g (fun w _=>by simp[execOp,c,e,eqGuard,binOp,Op.intCmp];rfl) h
theorem zGC(c:ev f x= .int k a)(e:ev f y= .int k b):RV P f ⟨some d, .binOp .neq t x y t',ty,p,af,none⟩ A ((.bool (decide (a≠b)))):=
 fun w _=>by
   have:(a !=b)=decide (a≠b):=by simp[bne,decide_not];rfl
   simp[execOp,c,e,eqGuard,binOp,Op.intCmp,this]
theorem yf(c:ev f x= .int k a)(e:ev f y= .int k b)(g:Nat.blt d n=true)(h:CL P n ops rest N (upd f d (.bool (decide (a≠b)))) A):CL P n ops (⟨some d, .binOp .neq t x y t',ty,p,af,none⟩::rest) N f A:=
 yN g (fun w _=>by
   have:(a !=b)=decide (a≠b):=by simp[bne,decide_not];rfl
   simp[execOp,c,e,eqGuard,binOp,Op.intCmp,this]) h
theorem kQ{k':IntKind}(b:zCv P t'=some k')(g:ev f x= .int k a)(h:k'.wrap a=c)(e:(P.underlying t).isSome=true):RV P f ⟨some d, .convert t t' x,ty,p,af,none⟩ A ((.int k' c)):=
 fun w _=>by
   unfold zCv at b
   split at b
   · rename_i k1 h1
     simp at b;subst b
     obtain⟨j,i⟩:=Option.isSome_iff_exists.1 e
     simp[execOp,g,convert,zp i,zp h1,Conv.intToInt,h]
   cases b
theorem yh{k':IntKind}(b:zCv P t'=some k')(g:ev f x= .int k a)(h:k'.wrap a=c)(i:Nat.blt d n=true)(j:CL P n ops rest N (upd f d (.int k' c)) A)(e:(P.underlying t).isSome=true):CL P n ops (⟨some d, .convert t t' x,ty,p,af,none⟩::rest) N f A:=
 yN i (fun w _=>by
   unfold zCv at b
   split at b
   · rename_i k1 h1
     simp at b;subst b
     obtain⟨m,l⟩:=Option.isSome_iff_exists.1 e
     simp[execOp,g,convert,zp l,zp h1,Conv.intToInt,h]
   cases b) j
end
end
end Go.Sc
