import Derived.Test.YtkkeknmkipkbmaaGreatFw9
import Derived.MapKept
set_option linter.unusedSectionVars false
set_option linter.unusedSimpArgs false
set_option linter.unusedVariables false
namespace Go.Sc
theorem zCv{L L':List Res}:∀ {m:List Nat},m.mapM (fun i=>L[i]?)=some L'→∀ (i:Nat) (r:Res),L'[i]?=some r→∃ k,m[i]?=some k∧L[k]?=some r:=by
  intro m
  induction m generalizing L' with
  |nil=>intro h i r hr;simp at h;subst h;simp at hr
  |cons k m ih=>
    intro h i r hr
    simp only[List.mapM_cons,bind,Option.bind_eq_some_iff,pure]at h
    obtain⟨a,ha,l,hl,h⟩:=h
    simp at h;subst h
    cases i with
    |zero=>simp at hr;subst hr;exact⟨k,rfl,ha⟩
    |succ i=>simp at hr;exact ih hl i r hr
theorem zMc{L L':List Res}:∀ {m:List Nat},m.mapM (fun i=>L[i]?)=some L'→L'.length=m.length:=by
  intro m
  induction m generalizing L' with
  |nil=>intro h;simp at h;subst h;rfl
  |cons k m ih=>
    intro h
    simp only[List.mapM_cons,bind,Option.bind_eq_some_iff,pure]at h
    obtain⟨a,ha,l,hl,h⟩:=h
    simp at h;subst h
    simp[ih hl]
section
variable {w0 w:World} {S:List Nat} {L:List Res}
theorem Own.sel{L':List Res}(m:List Nat)(hm:m.mapM (fun i=>L[i]?)=some L')(hn:m.Nodup)(h:Own w0 S L w):Own w0 S L' w:=by
  refine h.pick (fun i=>m[i]?.getD 0) ?_ ?_
  · intro i r hr
    obtain⟨k,h1,h2⟩:=zCv hm i r hr
    simp only[h1,Option.getD_some]
    exact h2
  intro i j hi hj hij
  rw[zMc hm]at hi hj
  simp only[List.getElem?_eq_getElem hi,List.getElem?_eq_getElem hj,Option.getD_some]at hij
  exact(List.getElem_inj hn).1 hij
def Res.buf(o:Nat)(T:TypeId)(v:Value)(bs:List UInt8):Res where
  fp:=o::zBO v
  φ w:=Row w o T [v]∧Sl w v bs.length (bs.map vb)∧o∉zBO v
  st w w' h hb:=by
    obtain⟨⟨lo,hi,h1,h2⟩,h3,h4⟩:=h
    exact⟨⟨lo,hi,by rw[hb o qQ];exact h1,h2⟩,h3.st fun b hb'=>hb b (by simp[hb']),h4⟩
  lt w h b hb:=by
    obtain⟨⟨lo,hi,h1,h2⟩,h3,h4⟩:=h
    simp only[List.mem_cons]at hb
    rcases hb with rfl|hb
    · exact(Array.getElem?_eq_some_iff.1 h1).1
    exact(Res.sl v bs.length (bs.map vb)).lt w h3 b hb
theorem Own.split{i:Nat}{r r1 r2:Res}(hL:L[i]?=some r)(h1:r.φ w→r1.φ w)(h2:r.φ w→r2.φ w)(hf1:∀ b∈r1.fp,b∈r.fp)(hf2:∀ b∈r2.fp,b∈r.fp)(hd:r.φ w→∀ b∈r1.fp,b∉r2.fp)(h:Own w0 S L w):Own w0 S (L.set i r1++[r2]) w:=by
  have hr:=h.holds i r hL
  refine h.frame1 hL (E:=[r2]) ⟨Keep.refl _ _,?_,?_,?_⟩
  · intro a b s t hab hs ht
    match a,b with
    |0,0=>omega
    |1,1=>omega
    |0,1=>simp at hs ht;subst hs;subst ht;exact hd hr
    |1,0=>simp at hs ht;subst hs;subst ht;exact fun b hb hb'=>hd hr b hb' hb
    |a+2,_=>simp at hs
    |_,b+2=>simp at ht
  · intro a s hs
    match a with
    |0=>simp at hs;subst hs;exact h1 hr
    |1=>simp at hs;subst hs;exact h2 hr
    |a+2=>simp at hs
  intro a s hs b hb
  match a with
  |0=>simp at hs;subst hs;exact .inl (hf1 b hb)
  |1=>simp at hs;subst hs;exact .inl (hf2 b hb)
  |a+2=>simp at hs
theorem Own.join{i j:Nat}{r r1 r2:Res}(hij:i≠j)(h1:L[i]?=some r1)(h2:L[j]?=some r2)(hφ:r1.φ w→r2.φ w→(∀ b∈r1.fp,b∉r2.fp)→r.φ w)(hf:∀ b∈r.fp,b∈r1.fp∨b∈r2.fp)(h:Own w0 S L w):Own w0 S ((L.set i r).eraseIdx j) w:=by
  have hr:r.φ w:=hφ (h.holds i r1 h1) (h.holds j r2 h2) (h.apart i j r1 r2 hij h1 h2)
  have hi:i<L.length:=(List.getElem?_eq_some_iff.1 h1).1
  -- where an entry of the new list stood
  have hat:∀ (a:Nat) (s:Res),((L.set i r).eraseIdx j)[a]?=some s→∃ k,k≠j∧(k=if a<j then a else a+1)∧(L.set i r)[k]?=some s:=by
    intro a s hs
    rw[List.getElem?_eraseIdx]at hs
    split at hs
    · rename_i hlt;exact⟨a,by omega,by rw[if_pos hlt],hs⟩
    rename_i hlt;exact⟨a+1,by omega,by rw[if_neg hlt],hs⟩
  have hset:∀ (k:Nat) (s:Res),(L.set i r)[k]?=some s→(k=i∧s=r)∨(k≠i∧L[k]?=some s):=by
    intro k s hs
    by_cases hk:k=i
    · subst hk;rw[List.getElem?_set_self hi]at hs;exact .inl ⟨rfl,(Option.some.inj hs).symm⟩
    rw[List.getElem?_set_ne (Ne.symm hk)]at hs;exact .inr ⟨hk,hs⟩
  have far:∀ (k:Nat) (s:Res),k≠i→k≠j→L[k]?=some s→∀ b∈s.fp,b∉r.fp:=by
    intro k s hki hkj hs b hb hb'
    rcases hf b hb' with h'|h'
    · exact h.apart k i s r1 hki hs h1 b hb h'
    exact h.apart k j s r2 hkj hs h2 b hb h'
  refine⟨h.keep,?_,?_,?_⟩
  · intro a b s t hab hs ht
    obtain⟨k,hk1,hk2,hk3⟩:=hat a s hs
    obtain⟨l,hl1,hl2,hl3⟩:=hat b t ht
    have hkl:k≠l:=by
      rw[hk2,hl2];split<;>split<;>omega
    rcases hset k s hk3 with⟨e1,e2⟩|⟨e1,e2⟩<;>rcases hset l t hl3 with⟨d1,d2⟩|⟨d1,d2⟩
    · omega
    · rw[e2];exact fun b hb hb'=>far l t d1 hl1 d2 b hb' hb
    · rw[d2];exact far k s e1 hk1 e2
    exact h.apart k l s t hkl e2 d2
  · intro a s hs
    obtain⟨k,hk1,hk2,hk3⟩:=hat a s hs
    rcases hset k s hk3 with⟨e1,e2⟩|⟨e1,e2⟩
    · rw[e2];exact hr
    exact h.holds k s e2
  intro a s hs b hb
  obtain⟨k,hk1,hk2,hk3⟩:=hat a s hs
  rcases hset k s hk3 with⟨e1,e2⟩|⟨e1,e2⟩
  · rw[e2]at hb
    rcases hf b hb with h'|h'
    · exact h.fresh i r1 h1 b h'
    exact h.fresh j r2 h2 b h'
  exact h.fresh k s e2 b hb
def Res.both(r s:Res):Res where
  fp:=r.fp++s.fp
  φ w:=r.φ w∧s.φ w∧∀ b∈r.fp,b∉s.fp
  st w w' h hb:=⟨r.st w w' h.1 fun b hb'=>hb b (by simp[hb']),s.st w w' h.2.1 fun b hb'=>hb b (by simp[hb']),h.2.2⟩
  lt w h b hb:=by
    rcases List.mem_append.1 hb with hb|hb
    · exact r.lt w h.1 b hb
    exact s.lt w h.2.1 b hb
theorem Own.splitBoth{i:Nat}{r s:Res}(hL:L[i]?=some (r.both s))(h:Own w0 S L w):Own w0 S (L.set i r++[s]) w:=
  h.split hL (fun h=>h.1) (fun h=>h.2.1) (fun b hb=>List.mem_append.2 (.inl hb)) (fun b hb=>List.mem_append.2 (.inr hb)) (fun h=>h.2.2)
theorem Own.joinBoth{i j:Nat}{r s:Res}(hij:i≠j)(h1:L[i]?=some r)(h2:L[j]?=some s)(h:Own w0 S L w):Own w0 S ((L.set i (r.both s)).eraseIdx j) w:=
  h.join (r:=r.both s) hij h1 h2 (fun a b c=>⟨a,b,c⟩) (fun b hb=>List.mem_append.1 hb)
theorem Own.qg{i sz n:Nat}{e:TypeId}{v:Value}{cs:List Value}(hL:L[i]?=some (Res.vec e sz v n cs))(h:Own w0 S L w):cell1 v=true:=by
  rcases(h.holds i _ hL).2 with⟨rfl,_⟩|⟨g,cap,cur,rfl,_⟩<;>rfl
theorem Sl.cell1{v:Value}{n:Nat}{cs:List Value}(h:Sl w v n cs):cell1 v=true:=by
  rcases h with⟨a,rfl,_⟩|⟨b,off,cap,rfl,_⟩<;>rfl
end
theorem zBW{α:Type}{g:α→List Value}{sz:Nat}(h:∀ x,(g x).length=sz):∀ (l:List α) (j i:Nat) (x:α),l[j]?=some x→i<sz→(l.flatMap g)[j*sz+i]?=(g x)[i]?
  | [],j,i,x,hj,hi=>by simp at hj
  |y::l,0,i,x,hj,hi=>by
    simp at hj;subst hj
    rw[List.flatMap_cons,Nat.zero_mul,Nat.zero_add,List.getElem?_append_left (by rw[h];exact hi)]
  |y::l,j+1,i,x,hj,hi=>by
    simp at hj
    rw[List.flatMap_cons,List.getElem?_append_right (by rw[h,Nat.add_mul];omega),h]
    rw[show(j+1)*sz+i - sz=j*sz+i by rw[Nat.add_mul];omega]
    exact zBW h l j i x hj hi
theorem jx{α:Type}{g:α→List Value}{sz:Nat}(h:∀ x,(g x).length=sz):∀ (l:List α),(l.flatMap g).length=l.length*sz
  | []=>by simp
  |y::l=>by rw[List.flatMap_cons,List.length_append,h,jx h l,List.length_cons,Nat.add_mul];omega
theorem Sl.shape{w:World}{v:Value}{n:Nat}{cs:List Value}(h:Sl w v n cs):∃ a cap,v= .slice a n cap∧n≤cap∧cap≤9223372036854775807∧(0<n→∃ b off,a=some ⟨b,off,none⟩):=by
  rcases h with⟨a,rfl,rfl,_⟩|⟨b,off,cap,rfl,h1,h2,_⟩
  · exact⟨a,0,rfl,Nat.le_refl _,by omega,fun h=>by omega⟩
  exact⟨_,cap,rfl,h1.1,h2,fun _=>⟨b,off,rfl⟩⟩
theorem Sl.elt{α:Type}{g:α→List Value}{sz:Nat}{w:World}{l:List α}{b off n cap:Nat}(hg:∀ x,(g x).length=sz)(h:Sl w (.slice (some ⟨b,off,none⟩) n cap) l.length (l.flatMap g)){j:Nat}{x:α}(hj:l[j]?=some x):
    ∀ i u,(g x)[i]?=some u→w.cell? ⟨b,off+j*sz+i,none⟩=some u:=by
  intro i u hu
  rcases h with⟨a,e,h0,h1⟩|⟨b',off',cap',e,_,_,_,h4⟩
  · have:=List.eq_nil_of_length_eq_zero h0;subst this;simp at hj
  simp only[Value.slice.injEq,Option.some.injEq,Addr.mk.injEq]at e
  obtain⟨⟨rfl,rfl, -⟩,rfl,rfl⟩:=e
  rw[Nat.add_assoc]
  refine h4 _ u ?_
  rw[zBW hg l j i x hj (by rw[←hg x];exact(List.getElem?_eq_some_iff.1 hu).1)]
  exact hu
theorem zBK{α:Type}(l:List α)(j:Nat)(f:α→α)(h:j<l.length):l.modify j f=l.set j (f l[j]):=by
  apply List.ext_getElem?
  intro m
  rw[List.getElem?_modify,List.getElem?_set]
  by_cases hm:j=m
  · subst hm;simp[h]
  simp[hm]
structure KeyD{κ:Type}[DecidableEq κ](P:Program)(kt:TypeId)(ke:κ→Value):Prop where
  desc:∃ d,P.underlying kt=some d∧(∀ a b,Instr.sameNow d (ke a) (ke b)=some (decide (a=b)))∧((∃ q,d= .int q)∨d= .string)
  bits:∀ a,Instr.sameBits 10000 (ke a) (ke a)=true
theorem zLF{P:Program}{kt:TypeId}{q:IntKind}(h:zFd P kt=some q):KeyD P kt (fun n:Nat=>Value.int q n):=by
  unfold zFd at h
  split at h
  · rename_i k hk
    simp at h;subst h
    refine⟨⟨_,hk,fun a b=> ?_, .inl ⟨_,O⟩⟩,fun a=> ?_⟩
    · simp only[Instr.sameNow,if_true]
      congr 1
      by_cases hab:a=b
      · subst hab;simp
      rw[decide_eq_false hab,beq_eq_false_iff_ne];omega
    simp[Instr.sameBits]
  cases h
def j1(es:Array MapEntry)(clock:Nat):Prop:=(∀ e∈es.toList,e.born<clock)∧(es.toList.map (·.born)).Nodup
section
variable {κ:Type} [DecidableEq κ] {P:Program} {kt vt t:TypeId} {ke:κ→Value}
def Res.map(ke:κ→Value)(b:Nat)(kv:List (κ×Value)):Res where
  fp:=[b]
  φ w:=∃ es clock,w.heap[b]?=some (.map es clock)∧es.toList.map (fun e=>(e.key,e.val))=kv.map (fun p=>(ke p.1,p.2))∧j1 es clock
  st w w' h hb:=by
    obtain⟨es,clock,h1,h2⟩:=h
    exact⟨es,clock,by rw[hb b qQ];exact h1,h2⟩
  lt w h b' hb':=by
    obtain⟨es,clock,h1,h2⟩:=h
    simp at hb';subst hb'
    exact(Array.getElem?_eq_some_iff.1 h1).1
def jg(k:κ):List (κ×Value)→Nat→Option (Nat×Value)
  | [],_=>none
  |(x,v)::r,i=>if k=x then some (i,v)else jg k r (i+1)
def zM1(k:κ)(kv:List (κ×Value)):Option Value:=(jg k kv 0).map (·.2)
structure KeyL{κ:Type}[DecidableEq κ](P:Program)(kt:TypeId)(ke:κ→Value):Prop where
  find:∀ (k:κ) (es:List MapEntry) (kv:List (κ×Value)),es.map (fun e=>(e.key,e.val))=kv.map (fun p=>(ke p.1,p.2))→∀ w:World,(Instr.findKey kt (ke k) es).run P w= .ok (jg k kv 0) w
  check:∀ (em:Bool) (k:κ) (w:World),(Instr.checkKey em 10000 kt (ke k)).run P w= .ok () w
  bits:∀ a,Instr.sameBits 10000 (ke a) (ke a)=true
  inj:∀ {a b:κ},ke a=ke b→a=b
theorem zI0(K:KeyD P kt ke)(k:κ):∀ (es:List MapEntry) (kv:List (κ×Value)) (i:Nat),es.map (fun e=>(e.key,e.val))=kv.map (fun p=>(ke p.1,p.2))→
    ∀ d,P.underlying kt=some d→(∀ a b,Instr.sameNow d (ke a) (ke b)=some (decide (a=b)))→Instr.findNow d (ke k) es i=some (jg k kv i)
  | [],[],i,_,d,_,_=>rfl
  | [],_::_,i,h,d,_,_=>by simp at h
  |_::_,[],i,h,d,_,_=>by simp at h
  |e::es,(x,v)::kv,i,h,d,hd,hs=>by
    simp only[List.map_cons,List.cons.injEq,Prod.mk.injEq]at h
    obtain⟨⟨h1,h2⟩,h3⟩:=h
    unfold Instr.findNow jg
    rw[h1,hs]
    by_cases hkx:k=x
    · subst hkx;simp[h2]
    simp only[hkx,decide_false,if_false]
    exact zI0 K k es kv (i+1) h3 d hd hs
theorem zJH(K:KeyD P kt ke)(k:κ){es:List MapEntry}{kv:List (κ×Value)}(h:es.map (fun e=>(e.key,e.val))=kv.map (fun p=>(ke p.1,p.2)))(w:World):(Instr.findKey kt (ke k) es).run P w= .ok (jg k kv 0) w:=by
  obtain⟨d,hd,hs,_⟩:=K.desc
  simp[Instr.findKey,yB hd,zI0 K k es kv 0 h d hd hs]
theorem zHU(K:KeyD P kt ke)(em:Bool)(k:κ)(w:World):(Instr.checkKey em 10000 kt (ke k)).run P w= .ok () w:=by
  obtain⟨d,hd,hs,hp⟩:=K.desc
  have:∀ m,(Instr.checkKey em (m+1) kt (ke k)).run P w= .ok () w:=by
    intro m
    unfold Instr.checkKey
    rcases hp with⟨q,rfl⟩|rfl
    · simp[yB hd]
    simp[yB hd]
  exact this 9999
theorem KeyD.l(K:KeyD P kt ke):KeyL P kt ke:=⟨fun k es kv h w=>zJH K k h w,fun em k w=>zHU K em k w,K.bits,fun{a b} h=>by
  obtain⟨d,_,hs,_⟩:=K.desc
  have h1:=hs a b
  have h2:=hs b b
  rw[h,h2]at h1
  simpa using h1.symm⟩
theorem zLW{q:IntKind}(h:zFd P kt=some q):KeyL P kt (fun n:Nat=>Value.int q n):=(zLF h).l
theorem zFq(K:KeyL P kt ke)(k:κ){es:List MapEntry}{kv:List (κ×Value)}(h:es.map (fun e=>(e.key,e.val))=kv.map (fun p=>(ke p.1,p.2)))(w:World):(Instr.findKey kt (ke k) es).run P w= .ok (jg k kv 0) w:=K.find k es kv h w
theorem zEl(K:KeyL P kt ke)(em:Bool)(k:κ)(w:World):(Instr.checkKey em 10000 kt (ke k)).run P w= .ok () w:=K.check em k w
theorem zI3(K:KeyL P kt ke)(k:κ)(w:World):(Instr.keyThatStays (ke k) (ke k)).run P w= .ok (ke k) w:=by
  simp[Instr.keyThatStays,K.bits k]
theorem zEm{k:κ}:∀ {kv:List (κ×Value)} {i j:Nat} {v:Value},jg k kv i=some (j,v)→i≤j∧kv[j - i]?=some (k,v)
  | [],i,j,v,h=>by simp[jg]at h
  |(x,u)::r,i,j,v,h=>by
    unfold jg at h
    split at h
    · rename_i hk
      simp at h
      obtain⟨rfl,rfl⟩:=h
      subst hk
      simp
    have:=zEm h
    refine⟨by omega,?_⟩
    rw[show j - i=(j - (i+1))+1 by omega]
    simpa using this.2
def zEJ(k:κ)(v:Value)(kv:List (κ×Value)):List (κ×Value):=
  match jg k kv 0 with
  |some (j,_)=>kv.set j (k,v)
  |none=>kv++[(k,v)]
def delK(k:κ)(kv:List (κ×Value)):List (κ×Value):=
  match jg k kv 0 with
  |some (j,_)=>kv.eraseIdx j
  |none=>kv
theorem zD8{w:World}{b:Nat}{es:Array MapEntry}{clock:Nat}(h:w.heap[b]?=some (.map es clock)):(getObj b).run P w= .ok (.map es clock) w:=by
  simp[getObj,Sem.run,h]
theorem zBJ{w:World}{b:Nat}{es:Array MapEntry}{clock:Nat}(h:w.heap[b]?=some (.map es clock))(o:Obj):(setObj b o).run P w= .ok () {w with heap:=w.heap.setIfInBounds b o}:=by
  simp[setObj,Sem.run,h]
theorem zDc{w0 w:World}{S:List Nat}{L:List Res}{i b:Nat}{kv kv':List (κ×Value)}{es':Array MapEntry}{clock':Nat}(hw:Own w0 S L w)(hL:L[i]?=some (Res.map ke b kv))
    (h1:es'.toList.map (fun e=>(e.key,e.val))=kv'.map (fun p=>(ke p.1,p.2))) (h2:j1 es' clock'):Own w0 S (L.set i (Res.map ke b kv')) {w with heap:=w.heap.setIfInBounds b (.map es' clock')}:=by
  have hb:b<w.heap.size:=hw.lt hL b (by simp[Res.map])
  have:=hw.frame1 (r':=Res.map ke b kv') (E:=[]) hL (Own.mk1 (w':={w with heap:=w.heap.setIfInBounds b (.map es' clock')}) ⟨rfl,rfl,rfl,by simp,fun k hk hS=> ?_⟩ ⟨es',clock',?_,h1,h2⟩ (fun b' hb'=> .inl hb'))
  · simpa using this
  · simp only[Res.map,List.mem_singleton]at hS
    simp only[Array.getElem?_setIfInBounds_ne (Ne.symm hS)]
  simp[Array.getElem?_setIfInBounds_self,hb]
variable {n:Nat} {ops:Array Oper} {N:K} {f:Nat→Value} {rest:List Oper} {d:Nat} {ty:TypeId} {p:String} {af:Array Edge} {x y z:Operand} {w0:World} {S:List Nat} {L:List Res} {A:World→Prop}
theorem zNS(ke:κ→Value){o:Option Operand}(ho:o=none)(hd:Nat.blt d n=true)(k:∀ b,CL P n ops rest N (upd f d (.map (some b))) (Own w0 S (L++[Res.map ke b []]))):
    CL P n ops (⟨some d, .makeMap t o,ty,p,af,none⟩::rest) N f (Own w0 S L):=by
  intro w hw
  subst ho
  have hO:Own w [] [Res.map ke w.heap.size []] (w.alloc (.map #[] 0)):=
    Own.mk1 ⟨rfl,rfl,rfl,by simp,fun k hk _=>heap_alloc_old w _ k hk⟩ ⟨#[],0,heap_alloc_new w _,rfl,by simp[j1]⟩ (fun b hb=>by simp[Res.map]at hb;right;omega)
  refine k7 (w':=w.alloc (.map #[] 0)) ?_ hd (k w.heap.size _ (hw.qi hO))
  simp[execOp,Instr.makeMap,newObj,Sem.run]
def zFg(P:Program)(t:TypeId):Option (TypeId×TypeId):=match P.underlying t with|some (.map k v)=>some (k,v)|_=>none
theorem zAk(h:zFg P t=some (kt,vt)):P.underlying t=some (.map kt vt):=by
  unfold zFg at h
  split at h
  · rename_i k v hk;simp at h;obtain⟨rfl,rfl⟩:=h;exact hk
  cases h
theorem zMR{v:Value}(h:zBj P vt=some v)(w:World):(zeroValue vt).run P w= .ok v w:=by
  simp only[zBj,Option.bind_eq_some_iff]at h
  obtain⟨i0,hi0,hz0⟩:=h
  simp[zeroValue,typeInfo,hi0,hz0]
theorem zQj{b:Nat}{kv:List (κ×Value)}{k:κ}{zv:Value}{res:Option Value}(hg:zM1 k kv=res)(K:KeyL P kt ke)(ht:zFg P t=some (kt,vt))(hz:zBj P vt=some zv)(hx:ev f x= .map (some b))(hy:ev f y=ke k)(hA:∀ w,A w→(Res.map ke b kv).φ w):
    RV P f ⟨some d, .lookup t x y true,ty,p,af,none⟩ A (.tuple #[res.getD zv, .bool res.isSome]):=fun w hw=>by
  subst hg
  obtain⟨es,clock,h1,h2,h3⟩:=hA w hw
  have e1:=zD8 (P:=P) h1
  have e2:=zEl K es.isEmpty k w
  have e3:=zFq K k h2 w
  have e4:=zMR hz w
  cases hi:jg k kv 0 with
  |none=>simp[execOp,hx,hy,Instr.lookup,yB (zAk ht),e1,e2,e3,hi,e4,zM1]
  |some q=>simp[execOp,hx,hy,Instr.lookup,yB (zAk ht),e1,e2,e3,hi,zM1]
theorem zHE{es:Array MapEntry}{clock:Nat}(h:j1 es clock)(e:MapEntry)(he:e.born=clock):j1 (es.push e) (clock+1):=by
  refine⟨fun x hx=> ?_,?_⟩
  · simp only[Array.toList_push,List.mem_append,List.mem_singleton]at hx
    rcases hx with hx|rfl
    · have:=h.1 x hx;omega
    omega
  simp only[Array.toList_push,List.map_append,List.map_cons,List.map_nil]
  rw[List.nodup_append]
  refine⟨h.2,by simp,?_⟩
  intro a ha b hb
  simp at hb;subst hb
  obtain⟨x,hx,rfl⟩:=List.mem_map.1 ha
  have:=h.1 x hx
  omega
theorem zNQ(K:KeyL P kt ke)(ht:zFg P t=some (kt,vt)){i b:Nat}{kv:List (κ×Value)}{k:κ}{v:Value}{w:World}(hw:Own w0 S L w)(hL:L[i]?=some (Res.map ke b kv)):
    ∃ w',(Instr.mapUpdate t (.map (some b)) (ke k) v).run P w= .ok () w'∧Own w0 S (L.set i (Res.map ke b (zEJ k v kv))) w':=by
  obtain⟨es,clock,h1,h2,h3⟩:=hw.holds i _ hL
  have e1:=zD8 (P:=P) h1
  have e2:=zEl K false k w
  have e3:=zFq K k h2 w
  cases hi:jg k kv 0 with
  |none=>
    refine⟨_,?_,zDc (es':=es.push ⟨ke k,v,clock⟩) (clock':=clock+1) (kv':=zEJ k v kv) hw hL ?_ (zHE h3 _ O)⟩
    · simp[Instr.mapUpdate,yB (zAk ht),e1,e2,e3,hi,zBJ (P:=P) h1]
    simp[zEJ,hi,h2]
  |some q=>
    obtain⟨j,u⟩:=q
    obtain⟨_,hj⟩:=zEm hi
    simp only[Nat.sub_zero]at hj
    have hjl:j<es.toList.length:=by
      have hl:=congrArg List.length h2
      simp only[List.length_map]at hl
      rw[hl];exact(List.getElem?_eq_some_iff.1 hj).1
    have hkey:(es[j]?.map (·.key)).getD (ke k)=ke k:=by
      have:=congrArg (·[j]?) h2
      simp only[List.getElem?_map,hj,Option.map_some]at this
      cases he:es[j]? with
      |none=>rfl
      |some e=>
        rw[←Array.getElem?_toList]at he
        rw[he]at this
        simp at this
        simp[this.1]
    have e5:=zI3 K k w
    refine⟨_,?_,zDc (es':=es.modify j fun e=>{e with key:=ke k,val:=v}) (clock':=clock) (kv':=zEJ k v kv) hw hL ?_ ⟨?_,?_⟩⟩
    · simp only[Instr.mapUpdate]
      simp[yB (zAk ht),e1,e2,e3,hi,zBJ (P:=P) h1]
      rw[hkey,e5]
      simp[zBJ (P:=P) h1]
    · simp only[zEJ,hi]
      rw[Array.toList_modify,zBK _ _ _ hjl]
      simp only[List.map_set,h2]
    · intro e he
      rw[Array.toList_modify,zBK _ _ _ hjl]at he
      rcases List.mem_or_eq_of_mem_set he with he|rfl
      · exact h3.1 e he
      exact h3.1 (es.toList[j]) (List.getElem_mem hjl)
    rw[Array.toList_modify,zBK _ _ _ hjl]
    simp only[List.map_set]
    have:(es.toList.map (·.born)).set j es.toList[j].born=es.toList.map (·.born):=by
      apply List.ext_getElem?
      intro m
      rw[List.getElem?_set]
      split
      · rename_i hm;subst hm;simp only[List.length_map,hjl,if_true,List.getElem?_map,List.getElem?_eq_getElem hjl,Option.map_some]
      rfl
    rw[this];exact h3.2
theorem zQo(i:Nat){b:Nat}{kv:List (κ×Value)}{k:κ}{v:Value}(K:KeyL P kt ke)(ht:zFg P t=some (kt,vt))(hx:ev f x= .map (some b))(hy:ev f y=ke k)(hz:ev f z=v)(hL:L[i]?=some (Res.map ke b kv))
    (kk:CL P n ops rest N f (Own w0 S (L.set i (Res.map ke b (zEJ k v kv))))):CL P n ops (⟨none, .mapUpdate t x y z,ty,p,af,none⟩::rest) N f (Own w0 S L):=by
  intro w hw
  obtain⟨w',hr,hO⟩:=zNQ (v:=v) K ht hw hL
  refine zCy (w':=w') ?_ (kk _ hO)
  simp[execOp,hx,hy,hz,hr]
end
end Go.Sc
