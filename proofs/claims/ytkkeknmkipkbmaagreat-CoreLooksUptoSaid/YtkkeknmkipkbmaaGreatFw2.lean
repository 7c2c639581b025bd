import Derived.Deep.Quiet
import Derived.StillTail
import Derived.Laws.AppendOwn
set_option linter.unusedSectionVars false
set_option linter.unusedSimpArgs false
set_option linter.unusedVariables false
namespace Go.Sc
theorem O{α:Sort _}{a:α}:a=a:=rfl
def upd(f:Nat→Value)(d:Nat)(v:Value):Nat→Value:=fun i=>bif Nat.beq i d then v else f i
def ev(f:Nat→Value):Operand→Value
  | .tmp t=>f t
  | .const v=>v
  | .global g=> .pointer (some ⟨g,0,none⟩)
  | .func g=> .func (.func g) #[] #[]
def ini:List Value→Nat→Value
  | [],_=>undef
  |v::_,0=>v
  |_::vs,i+1=>ini vs i
structure Rep(n:Nat)(f:Nat→Value)(a:Act):Prop where
  size:a.tmps.size=n
  defers:a.defers=[]
  get:∀ t,a.tmps.getD t undef=f t
theorem Rep.eval{n f a}(h:Rep n f a):a.eval=ev f:=by
  funext x
  cases x<;>simp[Act.eval,ev,h.get]
theorem zBc(f:Nat→Value)(d:Nat)(v:Value):upd f d v d=v:=by simp[upd]
theorem j3(f:Nat→Value){d i:Nat}(v:Value)(h:i≠d):upd f d v i=f i:=by
  have:Nat.beq i d=false:=by
    cases hb:Nat.beq i d
    · rfl
    exact absurd (Nat.eq_of_beq_eq_true hb) h
  simp[upd,this]
theorem Rep.put{n f a}(h:Rep n f a){d:Nat}(hd:d<n)(v:Value):Rep n (upd f d v) (a.put (some d) v):=by
  refine⟨by simp[Act.put,h.size],by simp[Act.put,h.defers],fun t=> ?_⟩
  have hs:=h.size
  by_cases ht:t=d
  · subst ht
    simp[Act.put,zBc,Array.getD,hs,hd]
  rw[j3 _ _ ht,←h.get t]
  have:d≠t:=fun e=>ht e.symm
  simp[Act.put,Array.getD_eq_getD_getElem?,Array.getElem?_setIfInBounds_ne this]
theorem Rep.put_none{n f a}(h:Rep n f a)(v:Value):Rep n f (a.put none v):=h
abbrev K:=(Nat→Value)→World→Prop
section
variable {P:Program} {n:Nat} {ops:Array Oper} {N:K} {f:Nat→Value} {w:World} {rest:List Oper}
def kG(n:Nat)(N:K):Exit→Act→World→Prop
  | .normal,a,w=>∃ f,Rep n f a∧N f w
  |_,_,_=>False
def WL(P:Program)(n:Nat)(ops:Array Oper)(l:List Oper)(N:K)(f:Nat→Value)(w:World):Prop:=
  ∀ a,Rep n f a→wpList P ops (kG n N) l a w
theorem zMd(h:N f w):WL P n ops [] N f w:=fun a ha=>⟨f,ha,h⟩
theorem k7{w':World}{d:Nat}{op:Op}{ty:TypeId}{p:String}{af:Array Edge}{v:Value}
    (hr:(execOp (ev f) ⟨some d,op,ty,p,af,none⟩).run P w= .ok (.value v) w') (hd:Nat.blt d n=true)
    (k:WL P n ops rest N (upd f d v) w'):WL P n ops (⟨some d,op,ty,p,af,none⟩::rest) N f w:=by
  intro a ha
  refine wpList_plain O fun K hK=> ?_
  unfold Oper.wp
  rw[ha.eval,hr]
  exact hK _ _ (k _ (ha.put (by simpa [Nat.blt_eq]using hd) v))
theorem zH9{w':World}{op:Op}{ty:TypeId}{p:String}{af:Array Edge}{v:Value}
    (hr:(execOp (ev f) ⟨none,op,ty,p,af,none⟩).run P w= .ok (.value v) w')
    (k:WL P n ops rest N f w'):WL P n ops (⟨none,op,ty,p,af,none⟩::rest) N f w:=by
  intro a ha
  refine wpList_plain O fun K hK=> ?_
  unfold Oper.wp
  rw[ha.eval,hr]
  exact hK _ _ (k _ (ha.put_none v))
theorem zCy{w':World}{op:Op}{ty:TypeId}{p:String}{af:Array Edge}
    (hr:(execOp (ev f) ⟨none,op,ty,p,af,none⟩).run P w= .ok .skip w')
    (k:WL P n ops rest N f w'):WL P n ops (⟨none,op,ty,p,af,none⟩::rest) N f w:=by
  intro a ha
  refine wpList_plain O fun K hK=> ?_
  unfold Oper.wp
  rw[ha.eval,hr]
  exact hK _ _ (k _ (ha.put_none undef))
def Rets(P:Program)(g:FuncId)(args:Array Value)(w:World)(R:Value→World→Prop):Prop:=
  Calls P g args w fun e w'=>∃ v,e= .returned v∧R v w'
theorem Rets.mono{g:FuncId}{args:Array Value}{R R':Value→World→Prop}(h:Rets P g args w R)(hr:∀ v w',R v w'→R' v w'):Rets P g args w R':=
  Calls.mono h fun _ _ ⟨v,e,r⟩=>⟨v,e,hr _ _ r⟩
theorem zF6{w':World}{d:Nat}{op:Op}{ty:TypeId}{p:String}{af:Array Edge}{g:FuncId}{args:Array Value}
    (hr:(execOp (ev f) ⟨some d,op,ty,p,af,none⟩).run P w= .ok (.enter g args) w') (hd:Nat.blt d n=true)
    (k:Rets P g args w' fun v w''=>WL P n ops rest N (upd f d v) w''):WL P n ops (⟨some d,op,ty,p,af,none⟩::rest) N f w:=by
  intro a ha
  refine wpList_plain O fun K hK=> ?_
  unfold Oper.wp
  rw[ha.eval,hr]
  refine Calls.mono k fun e w'' ⟨v,e1,r⟩=> ?_
  subst e1
  exact hK _ _ (r _ (ha.put (by simpa [Nat.blt_eq]using hd) v))
def yn(ops:Array Oper)(j:Nat):Option Nat:=(ops[j]?).bind (·.dst)
theorem kD{j d:Nat}{b:Bool}{a:Act}(ha:Rep n f a)(hj:yn ops j=some d)(hb:f d= .bool b):yielded ops a.tmps j=some b:=by
  have h:=ha.get d
  unfold yn at hj
  simp only[yielded,hj,Option.bind_some]
  rw[Array.getD_eq_getD_getElem?,hb]at h
  cases hx:a.tmps[d]? with
  |none=>rw[hx]at h;simp[undef]at h
  |some x=>rw[hx]at h;simp at h;subst h;rfl
theorem _root_.Go.Sc.we{p:Prop}(h:p:=by simp[Region.wanted]):p:=h
theorem zKV{j d:Nat}{b:Bool}{dst:Option Tmp}{op:Op}{ty:TypeId}{p:String}{af:Array Edge}(hj:yn ops j=some d)(hb:f d= .bool b)
    (k:WL P n ops (⟨dst,op,ty,p,af,none⟩::rest) N f w):WL P n ops (⟨dst,op,ty,p,af,some (j,b)⟩::rest) N f w:=by
  intro a ha
  have h:=k a ha
  unfold wpList at h ⊢
  have hy:=kD ha hj hb
  rw[if_pos (by simp[Region.wanted,hy])]
  rw[if_pos we]at h
  exact h
theorem zO0{j d e:Nat}{b b':Bool}{op:Op}{ty:TypeId}{p:String}{af:Array Edge}(hj:yn ops j=some d)(hb:f d= .bool b')(hne:(b'==b)=false)(hd:Nat.blt e n=true)
    (k:WL P n ops rest N (upd f e undef) w):WL P n ops (⟨some e,op,ty,p,af,some (j,b)⟩::rest) N f w:=by
  intro a ha
  unfold wpList
  have hy:=kD ha hj hb
  rw[if_neg (by simp[Region.wanted,hy];simpa using hne)]
  exact k _ (ha.put (by simpa [Nat.blt_eq]using hd) undef)
end
def look:Nat→List (Nat×K)→Option K
  |_,[]=>none
  |i,(j,k)::r=>bif Nat.beq i j then some k else look i r
def post(n:Nat)(N R:K)(X:List (Nat×K)):Exit→Act→World→Prop
  | .normal,a,w=>∃ f,Rep n f a∧N f w
  | .ret,a,w=>∃ f,Rep n f a∧R f w
  | .exit id,a,w=>∃ f,Rep n f a∧∃ k,look id X=some k∧k f w
  |_,_,_=>False
def W(P:Program)(n:Nat)(c:Code)(N R:K)(X:List (Nat×K))(f:Nat→Value)(w:World):Prop:=
  ∀ a,Rep n f a→c.wp P (post n N R X) a w
section
variable {P:Program} {n:Nat} {N R:K} {X:List (Nat×K)} {f:Nat→Value} {w:World}
theorem zJz{N' R':K}(hN:∀ f w,N f w→N' f w)(hR:∀ f w,R f w→R' f w):∀ e a w,post n N R X e a w→post n N' R' X e a w:=by
  intro e a w h
  cases e<;>first|exact h.elim|exact h|(obtain⟨f,r,q⟩:=h;first|exact⟨f,r,hN _ _ q⟩|exact⟨f,r,hR _ _ q⟩)
theorem kR{c:Code}{N':K}(h:W P n c N R X f w)(hN:∀ f w,N f w→N' f w):W P n c N' R X f w:=
  fun a ha=>wp_mono (h a ha) (zJz hN fun _ _ h=>h)
theorem zLC(h:N f w):W P n .skip N R X f w:=fun a ha=>wp_skip ⟨f,ha,h⟩
theorem zQF(h:R f w):W P n .ret N R X f w:=fun a ha=>wp_ret ⟨f,ha,h⟩
theorem zKx{id:Nat}{k:K}(hk:look id X=some k)(h:k f w):W P n (.exit id) N R X f w:=fun a ha=>wp_exit ⟨f,ha,k,hk,h⟩
theorem zMm{x y:Code}(h:W P n x (fun f w=>W P n y N R X f w) R X f w):W P n (.seq x y) N R X f w:=by
  intro a ha
  refine wp_seq (wp_mono (h a ha) ?_)
  intro e a w hq
  cases e with
  |normal=>obtain⟨g,hr,hw⟩:=hq;exact hw a hr
  |exit id=>exact hq
  |ret=>exact hq
  |goto l=>exact hq
  |panic c=>exact hq
  |outgrown=>exact hq
theorem zQs{x y:Code}(I:K)(h:W P n x I R X f w)(hy:∀ f w,I f w→W P n y N R X f w):W P n (.seq x y) N R X f w:=
  zMm (kR h hy)
theorem zPw{c:Operand}{x y:Code}{b:Bool}(hc:ev f c= .bool b)(h1:b=true→W P n x N R X f w)(h2:b=false→W P n y N R X f w):W P n (.cond c x y) N R X f w:=by
  intro a ha
  refine wp_cond_split (t:=b) (by rw[ha.eval];exact hc) (fun h=>h1 h a ha) (fun h=>h2 h a ha)
theorem zQC{c:Operand}{x y:Code}(hc:ev f c= .bool true)(h1:W P n x N R X f w):W P n (.cond c x y) N R X f w:=
  zPw hc (fun _=>h1) (fun h=>by cases h)
theorem zRO{c:Operand}{x y:Code}(hc:ev f c= .bool false)(h1:W P n y N R X f w):W P n (.cond c x y) N R X f w:=
  zPw hc (fun h=>by cases h) (fun _=>h1)
theorem zNt{id:Nat}{c:Code}(h:W P n c N R ((id,N)::X) f w):W P n (.block id c) N R X f w:=by
  intro a ha
  refine wp_block (wp_mono (h a ha) ?_)
  intro e a w hq
  cases e with
  |normal=>exact hq
  |ret=>exact hq
  |exit id'=>
    obtain⟨g,hr,k,hk,hw⟩:=hq
    simp only[Exit.inBlock]
    by_cases hid:id'=id
    · rw[if_pos hid]
      subst hid
      simp only[look,Nat.beq_refl,cond_true,Option.some.injEq]at hk
      subst hk
      exact⟨g,hr,hw⟩
    rw[if_neg hid]
    have hb:Nat.beq id' id=false:=by
      cases hb:Nat.beq id' id
      · rfl
      exact absurd (Nat.eq_of_beq_eq_true hb) hid
    simp only[look,hb,cond_false]at hk
    exact⟨g,hr,k,hk,hw⟩
  |goto l=>exact hq
  |panic c=>exact hq
  |outgrown=>exact hq
theorem zGZ{id:Nat}{l:List Oper}(h:WL P n l.toArray l N f w):W P n (.region id l.toArray false) N R X f w:=by
  intro a ha
  refine wp_mono (wp_region_lit (h a ha)) ?_
  intro e a w hq
  cases e<;>first|exact hq.elim|exact hq
def drawn(w:World):World:={w with drawn:=w.drawn+1}
def SL(P:Program)(n:Nat)(ops:Array Oper)(w:World)(N:(Nat→Value)→Prop)(l:List Oper)(f:Nat→Value):Prop:=
  ∀ a,Rep n f a→wpStill P ops w (fun a=>∃ f,Rep n f a∧N f) l a
theorem zDa{id:Nat}{l:List Oper}(hm:P.follows .mixedOrders=true)(hB:Region.lexB .any l.toArray=true)
    (h:SL P n l.toArray (drawn w) (fun f=>N f (drawn w)) l f):W P n (.region id l.toArray true) N R X f w:=by
  intro a ha
  refine wp_mono (wp_region_still_lit (Q:=kG n N) hm hB (h a ha)) ?_
  intro e a w hq
  cases e<;>first|exact hq.elim|exact hq
variable {ops:Array Oper} {M:(Nat→Value)→Prop} {rest:List Oper}
theorem zKp(h:M f):SL P n ops w M [] f:=fun _ ha=>⟨f,ha,h⟩
theorem zHP{d:Nat}{op:Op}{ty:TypeId}{p:String}{af:Array Edge}{v:Value}
    (hr:(execOp (ev f) ⟨some d,op,ty,p,af,none⟩).run P w= .ok (.value v) w) (hd:Nat.blt d n=true)
    (k:SL P n ops w M rest (upd f d v)):SL P n ops w M (⟨some d,op,ty,p,af,none⟩::rest) f:=by
  intro a ha
  unfold wpStill
  rw[if_pos we]
  unfold Oper.still
  rw[ha.eval,hr,Oper.stillUpon_value]
  exact k _ (ha.put (by simpa [Nat.blt_eq]using hd) v)
theorem zLG{j d:Nat}{b:Bool}{dst:Option Tmp}{op:Op}{ty:TypeId}{p:String}{af:Array Edge}(hj:yn ops j=some d)(hb:f d= .bool b)
    (k:SL P n ops w M (⟨dst,op,ty,p,af,none⟩::rest) f):SL P n ops w M (⟨dst,op,ty,p,af,some (j,b)⟩::rest) f:=by
  intro a ha
  have h:=k a ha
  unfold wpStill at h ⊢
  have hy:=kD ha hj hb
  rw[if_pos (by simp[Region.wanted,hy])]
  rw[if_pos we]at h
  exact h
end
theorem zJ2{P:Program}{g:FuncId}{fn:Func}{c:Code}{args:List Value}{w:World}{R:Value→World→Prop}
    (hf:P.funcs[g]?=some fn) (hb:fn.body=some c) (hn:args.length≤fn.ntmps)
    (h:W P fn.ntmps c (fun f w=>∃ v,(∀ a,Rep fn.ntmps f a→(results fn a.tmps).run P w= .ok v w)∧R v w)
      (fun f w=>∃ v,(∀ a,Rep fn.ntmps f a→(results fn a.tmps).run P w= .ok v w)∧R v w) [] (ini args) w):Rets P g args.toArray w R:=by
  refine calls_of_wp hf hb ?_
  have hrep:Rep fn.ntmps (ini args) {tmps:=args.toArray++Array.replicate (fn.ntmps - args.toArray.size) undef,defers:=[]}:=by
    refine⟨by simp;omega,O,fun t=> ?_⟩
    simp only[Array.getD_eq_getD_getElem?]
    have:∀ (l:List Value) (m t:Nat),((l.toArray++Array.replicate m undef)[t]?).getD undef=ini l t:=by
      intro l
      induction l with
      |nil=>intro m t;simp[ini,Array.getElem?_replicate];split<;>rfl
      |cons v l ih=>
        intro m t
        cases t with
        |zero=>simp[ini,Array.getElem?_append]
        |succ t=>
          have:=ih m t
          simp only[ini]
          rw[←this]
          simp[Array.getElem?_append]
    exact this _ _ _
  refine wp_mono (h _ hrep) ?_
  intro e a w hq
  cases e with
  |normal=>obtain⟨f,hr,v,hv,hR⟩:=hq;exact⟨hr.defers,v,hv a hr,v,rfl,hR⟩
  |ret=>obtain⟨f,hr,v,hv,hR⟩:=hq;exact⟨hr.defers,v,hv a hr,v,rfl,hR⟩
  |exit id=>obtain⟨f,hr,k,hk,_⟩:=hq;simp[look]at hk
  |goto l=>exact hq.elim
  |panic c=>exact hq.elim
  |outgrown=>exact hq.elim
structure Keep(S:List Nat)(w w':World):Prop where
  os:w'.os=w.os
  tape:w'.tape=w.tape
  output:w'.output=w.output
  size:w.heap.size≤w'.heap.size
  block:∀ k,k<w.heap.size→k∉S→w'.heap[k]?=w.heap[k]?
theorem Keep.refl(S:List Nat)(w:World):Keep S w w:=⟨rfl,rfl,rfl,Nat.le_refl _,fun _ _ _=>rfl⟩
theorem Keep.cell{S w w'}(h:Keep S w w'){b off:Nat}{v:Value}(hb:b∉S)(hc:w.cell? ⟨b,off,none⟩=some v):w'.cell? ⟨b,off,none⟩=some v:=by
  have hlt:=World.block_lt_of_cell? w _ hc
  rw[World.cell?_of_block (h.block b hlt hb)]
  exact hc
theorem Keep.trans{S w w' w''}(h:Keep S w w')(k:Keep S w' w''):Keep S w w'':=
  ⟨k.os.trans h.os,k.tape.trans h.tape,k.output.trans h.output,Nat.le_trans h.size k.size,fun i hi hS=>(k.block i (Nat.lt_of_lt_of_le hi h.size) hS).trans (h.block i hi hS)⟩
theorem Keep.mono{S S':List Nat}{w w'}(h:Keep S w w')(hS:∀ b∈S,b∈S'):Keep S' w w':=
  ⟨h.os,h.tape,h.output,h.size,fun i hi hn=>h.block i hi (fun hm=>hn (hS i hm))⟩
structure Res where
  fp:List Nat
  φ:World→Prop
  st:∀ w w',φ w→(∀ b∈fp,w'.heap[b]?=w.heap[b]?)→φ w'
  lt:∀ w,φ w→∀ b∈fp,b<w.heap.size
structure Own(w0:World)(S:List Nat)(L:List Res)(w:World):Prop where
  keep:Keep S w0 w
  apart:∀ (i j:Nat) (r s:Res),i≠j→L[i]?=some r→L[j]?=some s→∀ b∈r.fp,b∉s.fp
  holds:∀ (i:Nat) (r:Res),L[i]?=some r→r.φ w
  fresh:∀ (i:Nat) (r:Res),L[i]?=some r→∀ b∈r.fp,b∈S∨w0.heap.size≤b
theorem Own.start(w:World):Own w [] [] w:=⟨Keep.refl _ _,by simp,by simp,by simp⟩
theorem Own.start1{w:World}{r:Res}(h:r.φ w):Own w r.fp [r] w:=by
  refine⟨Keep.refl _ _,?_,?_,?_⟩
  · intro i j r1 r2 hij h1 h2
    have e1:i=0:=by cases i with|zero=>rfl|succ i=>simp at h1
    have e2:j=0:=by cases j with|zero=>rfl|succ i=>simp at h2
    omega
  · intro i r1 h1
    cases i with
    |zero=>simp at h1;exact h1▸h
    |succ i=>simp at h1
  intro i r1 h1
  cases i with
  |zero=>simp at h1;subst h1;exact fun b hb=> .inl hb
  |succ i=>simp at h1
section
variable {w0 w:World} {S:List Nat} {L:List Res}
theorem Own.lt(h:Own w0 S L w){i:Nat}{r:Res}(hL:L[i]?=some r):∀ b∈r.fp,b<w.heap.size:=r.lt w (h.holds i r hL)
theorem Own.old(h:Own w0 S L w)(r:Res)(h0:r.φ w0)(hS:∀ b∈r.fp,b∉S):r.φ w:=
  r.st w0 w h0 fun b hb=>h.keep.block b (r.lt w0 h0 b hb) (hS b hb)
theorem Own.oldCell(h:Own w0 S L w){b off:Nat}{v:Value}(hc:w0.cell? ⟨b,off,none⟩=some v)(hb:b∉S):w.cell? ⟨b,off,none⟩=some v:=h.keep.cell hb hc
theorem _root_.Go.Sc.V{p:Prop}(h:p:=by omega):p:=h
theorem _root_.Go.Sc.qQ{p:Prop}(h:p:=by simp):p:=h
theorem Own.qi{w':World}{E:List Res}(h:Own w0 S L w)(hg:Own w [] E w'):Own w0 S (L++E) w':=by
  have hfr:∀ (i:Nat) (r:Res),E[i]?=some r→∀ b∈r.fp,w.heap.size≤b:=fun i r hE b hb=>(hg.fresh i r hE b hb).resolve_left qQ
  refine⟨h.keep.trans (hg.keep.mono qQ),?_,?_,?_⟩
  · intro i j r s hij hr hs b hb hb'
    rw[List.getElem?_append]at hr hs
    split at hr<;>split at hs
    · exact h.apart i j r s hij hr hs b hb hb'
    · have:=h.lt hr b hb;have:=hfr _ _ hs b hb';omega
    · have:=h.lt hs b hb';have:=hfr _ _ hr b hb;omega
    exact hg.apart _ _ r s V hr hs b hb hb'
  · intro i r hr
    rw[List.getElem?_append]at hr
    split at hr
    · exact r.st w w' (h.holds i r hr) fun b hb=>hg.keep.block b (h.lt hr b hb) qQ
    exact hg.holds _ r hr
  intro i r hr b hb
  rw[List.getElem?_append]at hr
  split at hr
  · exact h.fresh i r hr b hb
  have:=hfr _ _ hr b hb;have:=h.keep.size;right;omega
theorem Own.frame1{w':World}{i:Nat}{r r':Res}{E:List Res}(h:Own w0 S L w)(hL:L[i]?=some r)(hg:Own w r.fp (r'::E) w'):Own w0 S (L.set i r'++E) w':=by
  have hil:i<L.length:=(List.getElem?_eq_some_iff.1 hL).1
  have hfr:∀ (j:Nat) (s:Res),(r'::E)[j]?=some s→∀ b∈s.fp,b∈r.fp∨w.heap.size≤b:=fun j s hE b hb=>hg.fresh j s hE b hb
  have hold:∀ (j:Nat) (s:Res),j≠i→L[j]?=some s→∀ b∈s.fp,b<w.heap.size∧b∉r.fp:=fun j s hj hs b hb=>⟨h.lt hs b hb,fun hb'=>h.apart j i s r hj hs hL b hb hb'⟩
  -- the place of an entry of the new list
  have hcase:∀ (j:Nat) (s:Res),(L.set i r'++E)[j]?=some s→(j≠i∧j<L.length∧L[j]?=some s)∨(j=i∧s=r')∨(L.length≤j∧E[j - L.length]?=some s):=by
    intro j s hj
    rw[List.getElem?_append]at hj
    simp only[List.length_set]at hj
    split at hj
    · rename_i hlt
      by_cases hji:j=i
      · subst hji
        rw[List.getElem?_set_self hil]at hj
        exact .inr (.inl ⟨O,(Option.some.inj hj).symm⟩)
      rw[List.getElem?_set_ne (fun e=>hji e.symm)]at hj
      exact .inl ⟨hji,hlt,hj⟩
    exact .inr (.inr ⟨by omega,hj⟩)
  refine⟨?_,?_,?_,?_⟩
  · refine⟨hg.keep.os.trans h.keep.os,hg.keep.tape.trans h.keep.tape,hg.keep.output.trans h.keep.output,Nat.le_trans h.keep.size hg.keep.size,fun k hk hS=> ?_⟩
    rw[hg.keep.block k (Nat.lt_of_lt_of_le hk h.keep.size) (fun hm=> ?_)]
    · exact h.keep.block k hk hS
    rcases h.fresh i r hL k hm with h1|h1
    · exact hS h1
    omega
  · intro j k s t hjk hs ht b hb hb'
    rcases hcase j s hs with⟨a1,a2,a3⟩|⟨a1,a2⟩|⟨a1,a2⟩<;>rcases hcase k t ht with⟨c1,c2,c3⟩|⟨c1,c2⟩|⟨c1,c2⟩
    · exact h.apart j k s t hjk a3 c3 b hb hb'
    · have:=hold j s a1 a3 b hb;rcases hfr 0 t (by simp[c2]) b hb' with h1|h1
      · exact this.2 h1
      omega
    · have:=hold j s a1 a3 b hb;rcases hfr (k - L.length+1) t (by simpa using c2) b hb' with h1|h1
      · exact this.2 h1
      omega
    · have:=hold k t c1 c3 b hb';rcases hfr 0 s (by simp[a2]) b hb with h1|h1
      · exact this.2 h1
      omega
    · omega
    · exact hg.apart 0 (k - L.length+1) s t V (by simp[a2]) (by simpa using c2) b hb hb'
    · have:=hold k t c1 c3 b hb';rcases hfr (j - L.length+1) s (by simpa using a2) b hb with h1|h1
      · exact this.2 h1
      omega
    · exact hg.apart (j - L.length+1) 0 s t V (by simpa using a2) (by simp[c2]) b hb hb'
    exact hg.apart (j - L.length+1) (k - L.length+1) s t V (by simpa using a2) (by simpa using c2) b hb hb'
  · intro j s hs
    rcases hcase j s hs with⟨a1,a2,a3⟩|⟨a1,a2⟩|⟨a1,a2⟩
    · exact s.st w w' (h.holds j s a3) fun b hb=>hg.keep.block b (hold j s a1 a3 b hb).1 (hold j s a1 a3 b hb).2
    · exact hg.holds 0 s (by simp[a2])
    exact hg.holds (j - L.length+1) s (by simpa using a2)
  intro j s hs b hb
  have up:∀ b,b∈r.fp∨w.heap.size≤b→b∈S∨w0.heap.size≤b:=fun b h1=>by
    rcases h1 with h1|h1
    · exact h.fresh i r hL b h1
    have:=h.keep.size;right;omega
  rcases hcase j s hs with⟨a1,a2,a3⟩|⟨a1,a2⟩|⟨a1,a2⟩
  · exact h.fresh j s a3 b hb
  · exact up b (hfr 0 s (by simp[a2]) b hb)
  exact up b (hfr (j - L.length+1) s (by simpa using a2) b hb)
theorem Own.pick{L':List Res}(h:Own w0 S L w)(m:Nat→Nat)(hm:∀ (i:Nat) (r:Res),L'[i]?=some r→L[m i]?=some r)(hinj:∀ i j:Nat,i<L'.length→j<L'.length→m i=m j→i=j):Own w0 S L' w:=by
  refine⟨h.keep,fun i j r s hij hr hs=> ?_,fun i r hr=>h.holds _ r (hm i r hr),fun i r hr=>h.fresh _ r (hm i r hr)⟩
  refine h.apart (m i) (m j) r s (fun e=>hij ?_) (hm i r hr) (hm j s hs)
  exact hinj i j (List.getElem?_eq_some_iff.1 hr).1 (List.getElem?_eq_some_iff.1 hs).1 e
theorem Own.drop(h:Own w0 S L w):Own w0 S [] w:=⟨h.keep,by simp,by simp,by simp⟩
theorem Own.one{r:Res}(h:Own w0 S L w)(i:Nat)(hL:L[i]?=some r):Own w0 S [r] w:=by
  refine h.pick (fun _=>i) ?_ qQ
  intro j s hs
  cases j with
  |zero=>simp at hs;rw[hL,hs]
  |succ j=>simp at hs
theorem Own.turn{i:Nat}{r r':Res}(h:Own w0 S L w)(hL:L[i]?=some r)(hφ:r.φ w→r'.φ w)(hfp:∀ b∈r'.fp,b∈r.fp):Own w0 S (L.set i r') w:=by
  have:=h.frame1 (r':=r') (E:=[]) hL (w':=w) (by
    refine⟨Keep.refl _ _,?_,?_,?_⟩
    · intro a b r1 r2 hab h1 h2
      have e1:a=0:=by cases a with|zero=>rfl|succ i=>simp at h1
      have e2:b=0:=by cases b with|zero=>rfl|succ i=>simp at h2
      omega
    · intro a r1 h1
      cases a with
      |zero=>simp at h1;subst h1;exact hφ (h.holds i r hL)
      |succ i=>simp at h1
    intro a r1 h1
    cases a with
    |zero=>simp at h1;subst h1;exact fun b hb=> .inl (hfp b hb)
    |succ i=>simp at h1)
  simpa using this
theorem Own.drawn(h:Own w0 S L w):Own w0 S L (drawn w):=
  ⟨⟨h.keep.os,h.keep.tape,h.keep.output,h.keep.size,h.keep.block⟩,h.apart,fun i r hr=>r.st w _ (h.holds i r hr) fun _ _=>rfl,h.fresh⟩
theorem Own.mk1{w':World}{r':Res}{fp:List Nat}(hk:Keep fp w w')(hφ:r'.φ w')(hf:∀ b∈r'.fp,b∈fp∨w.heap.size≤b):Own w fp [r'] w':=by
  refine⟨hk,?_,?_,?_⟩
  · intro a b r1 r2 hab h1 h2
    have e1:a=0:=by cases a with|zero=>rfl|succ i=>simp at h1
    have e2:b=0:=by cases b with|zero=>rfl|succ i=>simp at h2
    omega
  · intro a r1 h1
    cases a with
    |zero=>simp at h1;subst h1;exact hφ
    |succ i=>simp at h1
  intro a r1 h1
  cases a with
  |zero=>simp at h1;subst h1;exact hf
  |succ i=>simp at h1
end
def Row(w:World)(b:Nat)(e:TypeId)(cs:List Value):Prop:=
  ∃ lo hi,w.heap[b]?=some (.cells cs.toArray e (lo,hi))∧(hi≤lo∨cs.length≤lo)
def Res.row(b:Nat)(e:TypeId)(cs:List Value):Res where
  fp:=[b]
  φ w:=Row w b e cs
  st w w' h hb:=by
    obtain⟨lo,hi,h1,h2⟩:=h
    exact⟨lo,hi,by rw[hb b qQ];exact h1,h2⟩
  lt w h b' hb':=by
    obtain⟨lo,hi,h1,h2⟩:=h
    simp at hb'
    subst hb'
    exact(Array.getElem?_eq_some_iff.1 h1).1
theorem Row.cell{w:World}{b off:Nat}{e:TypeId}{cs:List Value}{v:Value}(h:Row w b e cs)(hv:cs[off]?=some v):w.cell? ⟨b,off,none⟩=some v:=by
  obtain⟨lo,hi,h1,h2⟩:=h
  rw[cell_of_row w b off _ e _ h1]
  simpa using hv
theorem Row.free{w:World}{b off:Nat}{e:TypeId}{cs:List Value}(h:Row w b e cs)(ho:off<cs.length):w.frozen? ⟨b,off,none⟩=false:=by
  obtain⟨lo,hi,h1,h2⟩:=h
  simp only[World.frozen?,h1]
  rcases h2 with h2|h2
  · simp;omega
  simp;omega
theorem Row.set{w:World}{b off:Nat}{e:TypeId}{cs:List Value}(h:Row w b e cs)(v:Value):Row (w.setCell ⟨b,off,none⟩ v) b e (cs.set off v)∧Keep [b] w (w.setCell ⟨b,off,none⟩ v):=by
  obtain⟨lo,hi,h1,h2⟩:=h
  refine⟨⟨lo,hi,?_,by simpa using h2⟩,⟨O,O,O,by simp[World.setCell],fun k hk hS=> ?_⟩⟩
  · simp[World.setCell,Array.getElem?_modify,h1]
  exact heap_setCell_other w _ k v (by simpa using hS)
theorem zJ9(w:World)(e:TypeId)(cs:List Value):Own w [] [Res.row w.heap.size e cs] (w.alloc (.cells cs.toArray e)):=by
  refine Own.mk1 ⟨O,O,O,by simp,fun k hk _=>heap_alloc_old w _ k hk⟩ ⟨0,0,heap_alloc_new w _, .inl (Nat.le_refl _)⟩ ?_
  intro b hb
  simp[Res.row]at hb
  right;omega
section
variable {w0 w:World} {S:List Nat} {L:List Res}
theorem Own.rowCell{i b off:Nat}{e:TypeId}{cs:List Value}{v:Value}(hL:L[i]?=some (Res.row b e cs))(hv:cs[off]?=some v)(h:Own w0 S L w):w.cell? ⟨b,off,none⟩=some v:=
  Row.cell (h.holds i _ hL) hv
theorem Own.setRow{i b off:Nat}{e:TypeId}{cs:List Value}(h:Own w0 S L w)(hL:L[i]?=some (Res.row b e cs))(v:Value):Own w0 S (L.set i (Res.row b e (cs.set off v))) (w.setCell ⟨b,off,none⟩ v):=by
  have hr:=Row.set (off:=off) (h.holds i _ hL) v
  have:=h.frame1 (r':=Res.row b e (cs.set off v)) (E:=[]) hL (Own.mk1 hr.2 hr.1 (fun b' hb'=> .inl hb'))
  simpa using this
theorem Own.alloc(h:Own w0 S L w)(e:TypeId)(cs:List Value):Own w0 S (L++[Res.row w.heap.size e cs]) (w.alloc (.cells cs.toArray e)):=h.qi (zJ9 w e cs)
end
def yd:Value→List Nat
  | .slice (some a) _ _=>[a.block]
  |_=>[]
def zBO:Value→List Nat
  | .slice (some a) _ (_+1)=>[a.block]
  |_=>[]
theorem zFP{a:Addr}{n cap:Nat}(h:0<cap):zBO (.slice (some a) n cap)=[a.block]:=by
  cases cap with
  |zero=>omega
  |succ c=>rfl
theorem zAU{v:Value}:∀ b∈zBO v,b∈yd v:=by
  intro b hb
  unfold zBO at hb
  split at hb
  · exact hb
  simp at hb
def Sl(w:World)(v:Value)(n:Nat)(cs:List Value):Prop:=
  (∃ a,v= .slice a 0 0∧n=0∧cs=[])∨
  ∃ b off cap,v= .slice (some ⟨b,off,none⟩) n cap∧(n≤cap∧0<cap)∧cap≤maxLen∧b<w.heap.size∧∀ i u,cs[i]?=some u→w.cell? ⟨b,off+i,none⟩=some u
theorem Sl.st{w w':World}{v:Value}{n:Nat}{cs:List Value}(h:Sl w v n cs)(hb:∀ b∈zBO v,w'.heap[b]?=w.heap[b]?):Sl w' v n cs:=by
  rcases h with h|⟨b,off,cap,rfl,h1,h2,h3,h4⟩
  · exact .inl h
  have hb':=hb b (by simp[zFP h1.2])
  refine .inr ⟨b,off,cap,O,h1,h2,?_,fun i u hu=> ?_⟩
  · rw[Array.getElem?_eq_getElem h3]at hb'
    exact(Array.getElem?_eq_some_iff.1 hb').1
  rw[World.cell?_of_block hb']
  exact h4 i u hu
def Res.sl(v:Value)(n:Nat)(cs:List Value):Res where
  fp:=zBO v
  φ w:=Sl w v n cs
  st w w' h hb:=h.st hb
  lt w h b hb:=by
    rcases h with⟨a,rfl,_⟩|⟨b',off,cap,rfl,h1,h2,h3,h4⟩
    · cases a<;>simp[zBO]at hb
    simp[zFP h1.2]at hb;subst hb;exact h3
theorem Sl.keep{S:List Nat}{w w':World}{v:Value}{n:Nat}{cs:List Value}(h:Sl w v n cs)(hk:Keep S w w')(hS:∀ b∈zBO v,b∉S):Sl w' v n cs:=
  h.st fun b hb=>hk.block b ((Res.sl v n cs).lt w h b hb) (hS b hb)
def Res.vec(e:TypeId)(sz:Nat)(v:Value)(n:Nat)(cs:List Value):Res where
  fp:=yd v
  φ w:=w.ownsRow 0 e sz v n cs
  st w w' h hb:=by
    refine⟨h.1,?_⟩
    rcases h.2 with h1|⟨g,cap,cur,rfl,h0,h1,h2⟩
    · exact .inl h1
    exact .inr ⟨g,cap,cur,rfl,h0,by rw[hb g (by simp[yd])];exact h1,h2⟩
  lt w h b hb:=by
    rcases h.2 with⟨rfl,_⟩|⟨g,cap,cur,rfl,h0,h1,h2⟩
    · simp[yd]at hb
    simp[yd]at hb;subst hb;exact(Array.getElem?_eq_some_iff.1 h1).1
theorem Vec.sl{w:World}{e:TypeId}{sz:Nat}{v:Value}{n:Nat}{cs:List Value}(h:w.ownsRow 0 e sz v n cs):Sl w v n cs:=by
  rcases h.2 with⟨rfl,rfl⟩|⟨g,cap,cur,rfl,h0,h1,h2,h3,h4,h5⟩
  · exact .inl ⟨none,rfl,rfl,List.eq_nil_of_length_eq_zero (by simpa using h.1)⟩
  by_cases hc:cap=0
  · subst hc
    have hn:n=0:=by omega
    subst hn
    exact .inl ⟨_,O,O,List.eq_nil_of_length_eq_zero (by simpa using h.1)⟩
  refine .inr ⟨g,0,cap,O,⟨h2,by omega⟩,h3,(Array.getElem?_eq_some_iff.1 h1).1,fun i u hu=> ?_⟩
  rw[cell_of_row w g _ cur e (0,0) h1,Nat.zero_add]
  rw[←h5,List.getElem?_take]at hu
  split at hu
  · simpa using hu
  cases hu
theorem zNf(w:World)(e:TypeId)(sz:Nat):w.ownsRow 0 e sz (.slice none 0 0) 0 []:=World.ownsRow_nil w 0 e sz
theorem zOJ{w:World}{b:Nat}{e:TypeId}{cs:List Value}{n sz:Nat}(h:w.heap[b]?=some (.cells cs.toArray e (0,0)))(hn:cs.length=n*sz)(hm:n≤maxLen):w.ownsRow 0 e sz (.slice (some ⟨b,0,none⟩) n n) n cs:=
  ⟨hn, .inr ⟨b,n,cs.toArray,rfl,Nat.zero_le _,h,Nat.le_refl _,hm,by simpa using hn,by rw[←hn];simp⟩⟩
end Go.Sc
