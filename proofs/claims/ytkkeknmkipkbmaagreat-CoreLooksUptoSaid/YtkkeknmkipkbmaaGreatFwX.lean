import Derived.Test.YtkkeknmkipkbmaaGreatFwT
import Derived.Laws.OwnMore
import Derived.Test.YtkkeknmkipkbmaaGreatFwU
import Derived.Maps.RangeRun
set_option linter.unusedSectionVars false
set_option linter.unusedSimpArgs false
set_option linter.unusedVariables false
namespace Go.Sc
section
variable {P:Program} {w:World} {t e ty:TypeId} {sz by':Nat}
theorem zDB(ht:slT P t=some (e,sz,by')){v u:Value}{n m:Nat}{xs news:List Value}(hown:w.ownsRow 0 e sz v n xs)(hsrc:Sl w u m news)(hl:news.length=m*sz)(h1:∀ v∈news,cell1 v=true)
    (h63:n+m≤maxLen) (hb:(n+m)*by'≤140737488355328) (hm:0<m):
    ∃ v' w',(Builtin.append_ #[t,t] ty #[v,u]).run P w= .ok v' w'∧
      ((Own w (yd v) [Res.vec e sz v' (n+m) (xs++news)] w'∧(∀ b∈yd v,b∈yd v')∧∀ w2:World,w2.ownsRow 0 e sz v' (n+m) (xs++news)→w2.ownsRow 0 e sz v n xs)∨Own w [] [Res.vec e sz v' (n+m) (xs++news)] w'):=by
  obtain⟨hu,i,z,hi,hz,rfl,rfl,hzs,hsz⟩:=zAX ht
  have hsmall:n+m≤9223372036854775807:=by rw[xI]at h63;exact h63
  have h1':∀ u∈news,u.oneCell'=true:=fun u hu=>zEn (h1 u hu)
  rcases hsrc.cells with⟨a,rfl,rfl,rfl⟩|⟨b,off,cap,rfl,hnews⟩
  · omega
  rcases hown.2 with⟨rfl,rfl⟩|⟨g,cap',cur,rfl,h0,hg,hnc,hcm,hcs,htake⟩
  · have hx:xs=[]:=List.eq_nil_of_length_eq_zero (by simpa using hown.1)
    subst hx
    have hr:=run_append_nil (P:=P) w t ty e i z hu hi hz ⟨b,off,none⟩ m cap news hl hnews V V (by have hb:=hb;simp only[Nat.zero_add]at hb;omega)
    have hgr:=jv (e:=e) (sz:=i.size) w [] news z 0 m 0 hzs qQ hl h63
    simp only[Nat.zero_add,List.nil_append,Array.empty_append]at hgr ⊢
    refine⟨_,_,hr, .inr (Own.mk1 hgr.2 hgr.1 ?_)⟩
    intro b hb;simp[Res.vec,yd]at hb;right;omega
  by_cases hroom:n+m≤cap'
  · have hfit:n*i.size+news.length≤cur.size:=by rw[hl,hcs,←Nat.add_mul];exact Nat.mul_le_mul_right _ hroom
    have hr:=run_append_room (P:=P) w t ty e i hu hi g n cap' cur hg ⟨b,off,none⟩ m cap news hl hnews h1' hroom hfit
    have hlen:(xs++news).length=(n+m)*i.size:=by rw[List.length_append,hown.1,hl,Nat.add_mul]
    refine⟨_,_,hr, .inl ⟨Own.mk1 ⟨O,O,O,by simp,fun k _ hk=>setRow_other w g k _ (fun e=>hk (by simp[yd,e]))⟩ ⟨hlen, .inr ⟨g,cap',_,O,Nat.zero_le _,setRow_heap w g cur _ e _ hg,hroom,hcm,?_,?_⟩⟩ (fun b hb=> .inl hb),fun b hb=>hb,?_⟩⟩
    · simp only[List.size_toArray,List.length_append,List.length_take,List.length_drop,Array.length_toList]
      omega
    · rw[htake,←hlen]
      exact List.take_left
    rintro w2 ⟨_,h2⟩
    refine⟨hown.1, .inr ?_⟩
    rcases h2 with⟨h2,_⟩|⟨g2,cap2,cur2,h2,_,hg2,hn2,hc2,hs2,ht2⟩
    · cases h2
    cases h2
    refine⟨g,cap',cur2,O,Nat.zero_le _,hg2,by omega,hcm,hs2,?_⟩
    have:=congrArg (List.take (n*i.size)) ht2
    rw[List.take_take,Nat.min_eq_left (Nat.mul_le_mul_right _ (Nat.le_add_right _ _)),←hown.1,List.take_left]at this
    rw[←hown.1];exact this
  have holds:∀ j u,xs[j]?=some u→w.cell? ((⟨g,0,none⟩:Addr).add j)=some u:=hown.cells (g:=g) rfl
  have hr:=run_append_grow (P:=P) w t ty e i z hu hi hz ⟨g,0,none⟩ n cap' xs hown.1 holds ⟨b,off,none⟩ m cap news hl hnews V V (growslice_fits V hb)
  have hgr:=jv (e:=e) (sz:=i.size) w xs news z n m cap' hzs hown.1 hl h63
  refine⟨_,_,hr, .inr (Own.mk1 hgr.2 hgr.1 ?_)⟩
  intro b hb;simp[Res.vec,yd]at hb;right;omega
end
section
variable {P:Program} {n:Nat} {ops:Array Oper} {N:K} {f:Nat→Value} {rest:List Oper}
variable {d:Nat} {ty:TypeId} {p:String} {af:Array Edge} {x y:Operand} {t e:TypeId} {sz by':Nat}
variable {w0:World} {S:List Nat} {L:List Res}
theorem zAp{α:Type}{g:α→List Value}(hg:∀ x,(g x).length=sz){l l':List α}(hc:∀ x∈l',∀ v∈g x,cell1 v=true)(i:Nat){v u:Value}(ht:slT P t=some (e,sz,by'))(hx:ev f x=v)(hL:L[i]?=some (Res.vec e sz v l.length (l.flatMap g)))(hy:ev f y=u)
    (hs:∀ w,Own w0 S L w→Sl w u l'.length (l'.flatMap g)) (hb:(l.length+l'.length)*by'≤140737488355328) (hp:0<by') (hm:0<l'.length) (hd:Nat.blt d n=true)
    (kA:∀ v',(∀ b∈yd v,b∈yd v')→(∀ w2:World,w2.ownsRow 0 e sz v' (l++l').length ((l++l').flatMap g)→w2.ownsRow 0 e sz v l.length (l.flatMap g))→CL P n ops rest N (upd f d v') (Own w0 S (L.set i (Res.vec e sz v' (l++l').length ((l++l').flatMap g)))))
    (kB:∀ v',CL P n ops rest N (upd f d v') (Own w0 S (L++[Res.vec e sz v' (l++l').length ((l++l').flatMap g)]))):
    CL P n ops (⟨some d, .call ⟨.builtin .append,#[x,y],#[t,t]⟩,ty,p,af,none⟩::rest) N f (Own w0 S L):=by
  intro w hw
  have h63:l.length+l'.length≤maxLen:=by
    rw[xI]
    have:l.length+l'.length≤(l.length+l'.length)*by':=Nat.le_mul_of_pos_right _ hp
    omega
  obtain⟨v',w',hr,hO⟩:=zDB (P:=P) (ty:=ty) ht (hw.holds i _ hL) (hs w hw) (jx hg l') (fun v hv=>by
    obtain⟨x,hx,hv⟩:=List.mem_flatMap.1 hv
    exact hc x hx v hv) h63 hb hm
  have e1:l.length+l'.length=(l++l').length:=by simp
  have e2:l.flatMap g++l'.flatMap g=(l++l').flatMap g:=by simp
  rw[e1,e2]at hO
  rcases hO with⟨hO,h1,h2⟩|hO
  · have hO':=hw.frame1 (E:=[]) hL hO
    rw[List.append_nil]at hO'
    refine k7 (w':=w') ?_ hd (kA v' h1 h2 _ hO')
    simp[execOp,resolve,invoke,builtin,hx,hy,hr]
  refine k7 (w':=w') ?_ hd (kB v' _ (hw.qi hO))
  simp[execOp,resolve,invoke,builtin,hx,hy,hr]
theorem Own.vecBack{w:World}{v v':Value}{n m:Nat}{xs ys:List Value}(i:Nat)(hb:∀ b∈yd v,b∈yd v')(hk:∀ w2:World,w2.ownsRow 0 e sz v' m ys→w2.ownsRow 0 e sz v n xs)(hL:L[i]?=some (Res.vec e sz v' m ys))(h:Own w0 S L w):Own w0 S (L.set i (Res.vec e sz v n xs)) w:=
  h.turn hL (hk w) hb
end
open Go.ChangeMaps (setBlock)
section
variable {κ:Type} [DecidableEq κ] {P:Program} {kt vt t:TypeId} {ke:κ→Value}
def Res.rng(ke:κ→Value)(b r:Nat)(kv todo:List (κ×Value)):Res where
  fp:=[b,r]
  φ w:=∃ es clock since seen c0,w.heap[b]?=some (.map es clock)∧w.heap[r]?=some (.mapIter (some b) since seen c0)∧es.toList.map (fun e=>(e.key,e.val))=kv.map (fun p=>(ke p.1,p.2))∧j1 es clock∧
    (∀ e∈es.toList,e.born<since)∧(since≤c0∧since≤clock)∧(leftOf es seen).toList.map (fun e=>(e.key,e.val))=todo.map (fun p=>(ke p.1,p.2))
  st w w' h hb:=by
    obtain⟨es,clock,since,seen,c0,h1,h2,h3⟩:=h
    exact⟨es,clock,since,seen,c0,by rw[hb b qQ];exact h1,by rw[hb r qQ];exact h2,h3⟩
  lt w h b' hb':=by
    obtain⟨es,clock,since,seen,c0,h1,h2,h3⟩:=h
    simp at hb'
    rcases hb' with rfl|rfl
    · exact(Array.getElem?_eq_some_iff.1 h1).1
    exact(Array.getElem?_eq_some_iff.1 h2).1
def Res.rnl(ke:κ→Value)(b r:Nat)(kv todo:List (κ×Value))(k:κ)(v:Value):Res where
  fp:=[b,r]
  φ w:=∃ (es:Array MapEntry) (clock since:Nat) (seen:Array Nat) (e:MapEntry),w.heap[b]?=some (.map es clock)∧w.heap[r]?=some (.mapIter (some b) since (seen.push e.born) clock)∧es.toList.map (fun e=>(e.key,e.val))=kv.map (fun p=>(ke p.1,p.2))∧j1 es clock∧
    (∀ e∈es.toList,e.born<since)∧since≤clock∧(leftOf es (seen.push e.born)).toList.map (fun e=>(e.key,e.val))=todo.map (fun p=>(ke p.1,p.2))∧e∈es.toList∧e.key=ke k∧e.val=v
  st w w' h hb:=by
    obtain⟨es,clock,since,seen,e,h1,h2,h3⟩:=h
    exact⟨es,clock,since,seen,e,by rw[hb b qQ];exact h1,by rw[hb r qQ];exact h2,h3⟩
  lt w h b' hb':=by
    obtain⟨es,clock,since,seen,e,h1,h2,h3⟩:=h
    simp at hb'
    rcases hb' with rfl|rfl
    · exact(Array.getElem?_eq_some_iff.1 h1).1
    exact(Array.getElem?_eq_some_iff.1 h2).1
variable {n:Nat} {ops:Array Oper} {N:K} {f:Nat→Value} {rest:List Oper} {d:Nat} {ty:TypeId} {p:String} {af:Array Edge} {x y z:Operand} {w0:World} {S:List Nat} {L:List Res} {A:World→Prop}
end
section
variable {κ α:Type} [DecidableEq κ]
def jJ(k:κ):List (κ×α)→Option α
  | []=>none
  |(x,v)::r=>if k=x then some v else jJ k r
def zEI(k:κ)(v:α):List (κ×α)→List (κ×α)
  | []=>[(k,v)]
  |(x,u)::r=>if k=x then(k,v)::r else(x,u)::zEI k v r
def zRE(k:κ):List (κ×α)→List (κ×α)
  | []=>[]
  |(x,u)::r=>if k=x then r else(x,u)::zRE k r
def vA(ve:α→Value)(kv:List (κ×α)):List (κ×Value):=kv.map fun p=>(p.1,ve p.2)
theorem zMr(ve:α→Value)(k:κ):∀ (kv:List (κ×α)) (i:Nat),(jg k (vA ve kv) i).map (·.2)=(jJ k kv).map ve
  | [],i=>rfl
  |(x,u)::r,i=>by
    simp only[vA,List.map_cons,jg,jJ]
    by_cases h:k=x
    · simp[h]
    simp only[h,if_false];exact zMr ve k r (i+1)
theorem zOm(ve:α→Value)(k:κ)(kv:List (κ×α)):zM1 k (vA ve kv)=(jJ k kv).map ve:=zMr ve k kv 0
theorem zDp(k:κ):∀ (kv:List (κ×Value)) (i:Nat),jg k kv (i+1)=(jg k kv i).map fun q=>(q.1+1,q.2)
  | [],i=>rfl
  |(x,u)::r,i=>by
    simp only[jg]
    by_cases h:k=x
    · simp[h]
    simp only[h,if_false];exact zDp k r (i+1)
theorem zHC(k:κ)(v:Value)(x:κ)(u:Value)(kv:List (κ×Value)):zEJ k v ((x,u)::kv)=if k=x then(k,v)::kv else(x,u)::zEJ k v kv:=by
  unfold zEJ
  simp only[jg]
  by_cases h:k=x
  · simp[h]
  simp only[h,if_false,zDp k kv 0]
  cases jg k kv 0<;>simp
theorem zLs(ve:α→Value)(k:κ)(v:α):∀ kv:List (κ×α),zEJ k (ve v) (vA ve kv)=vA ve (zEI k v kv)
  | []=>rfl
  |(x,u)::r=>by
    have ih:=zLs ve k v r
    simp only[vA,List.map_cons]at ih ⊢
    rw[zHC,ih]
    by_cases h:k=x
    · simp[zEI,h]
    simp[zEI,h]
def Res.mp(ke:κ→Value)(ve:α→Value)(b:Nat)(kv:List (κ×α)):Res:=Res.map ke b (vA ve kv)
def Res.rg(ke:κ→Value)(ve:α→Value)(b r:Nat)(kv todo:List (κ×α)):Res:=Res.rng ke b r (vA ve kv) (vA ve todo)
def Res.rl(ke:κ→Value)(ve:α→Value)(b r:Nat)(kv todo:List (κ×α))(k:κ)(a:α):Res:=Res.rnl ke b r (vA ve kv) (vA ve todo) k (ve a)
variable {P:Program} {kt vt t:TypeId} {ke:κ→Value} {ve:α→Value}
variable {n:Nat} {ops:Array Oper} {N:K} {f:Nat→Value} {rest:List Oper} {d:Nat} {ty:TypeId} {p:String} {af:Array Edge} {x y z:Operand} {w0:World} {S:List Nat} {L:List Res} {A:World→Prop}
theorem zLn(ke:κ→Value)(ve:α→Value){o:Option Operand}(ho:o=none)(hd:Nat.blt d n=true)(k:∀ b,CL P n ops rest N (upd f d (.map (some b))) (Own w0 S (L++[Res.mp ke ve b ([]:List (κ×α))]))):
    CL P n ops (⟨some d, .makeMap t o,ty,p,af,none⟩::rest) N f (Own w0 S L):=zNS ke ho hd k
theorem zPV{b:Nat}{kv:List (κ×α)}{k:κ}{zv:α}(K:KeyL P kt ke)(ht:zFg P t=some (kt,vt))(hz:zBj P vt=some (ve zv))(hx:ev f x= .map (some b))(hy:ev f y=ke k)(hA:∀ w,A w→(Res.mp ke ve b kv).φ w):
    RV P f ⟨some d, .lookup t x y true,ty,p,af,none⟩ A (.tuple #[ve ((jJ k kv).getD zv), .bool (jJ k kv).isSome]):=by
  have:=zQj (P:=P) (f:=f) (d:=d) (ty:=ty) (p:=p) (af:=af) (x:=x) (y:=y) (t:=t) (zOm ve k kv) K ht hz hx hy hA
  cases h:jJ k kv<;>simpa [h]using this
theorem zP5(i:Nat){b:Nat}{kv:List (κ×α)}{k:κ}{v:α}(K:KeyL P kt ke)(ht:zFg P t=some (kt,vt))(hx:ev f x= .map (some b))(hy:ev f y=ke k)(hz:ev f z=ve v)(hL:L[i]?=some (Res.mp ke ve b kv))
    (kk:CL P n ops rest N f (Own w0 S (L.set i (Res.mp ke ve b (zEI k v kv))))):CL P n ops (⟨none, .mapUpdate t x y z,ty,p,af,none⟩::rest) N f (Own w0 S L):=
  zQo i K ht hx hy hz hL (by rw[zLs];exact kk)
end
class SO (α:Type) where
  lt:α→α→Prop
  dec:∀ a b,Decidable (lt a b)
  asymm:∀ {a b:α},lt a b→¬ lt b a
  tr:∀ {a b c:α},¬ lt b a→¬ lt c b→¬ lt c a
abbrev olt{α:Type}[SO α](a b:α):Prop:=SO.lt a b
abbrev jE{α:Type}[SO α](a b:α):Prop:=¬ SO.lt b a
instance {α:Type}[SO α](a b:α):Decidable (SO.lt a b):=SO.dec a b
theorem zGO{α:Type}[SO α](a:α):jE a a:=fun h=>SO.asymm h h
theorem zEw{α:Type}[SO α]{a b c:α}(h:jE a b)(k:jE b c):jE a c:=SO.tr h k
theorem zDo{α:Type}[SO α]{a b:α}(h:olt a b):jE a b:=SO.asymm h
instance:SO Nat:=⟨fun a b=>a<b,fun a b=>inferInstance,fun h k=>by omega,fun h k=>by omega⟩
theorem ole_nat{a b:Nat}:jE a b↔a≤b:=Nat.not_lt
variable {α:Type} [Inhabited α]
theorem xW{l:List α}{i k:Nat}{x:α}:zG (l.set i x) k=if k=i∧i<l.length then x else zG l k:=by
  simp only[zG,List.getElem?_set]
  by_cases h:i=k
  · subst h
    by_cases h2:i<l.length
    · simp[h2]
    simp[h2]
  rw[if_neg h,if_neg (fun q=>h q.1.symm)]
theorem zDb{l m:List α}(hl:l.length=m.length)(h:∀ k,k<l.length→zG l k=zG m k):l=m:=by
  apply List.ext_getElem?
  intro k
  by_cases hk:k<l.length
  · rw[yW hk,yW (hl▸hk),h k hk]
  rw[List.getElem?_eq_none V,List.getElem?_eq_none V]
def swp(l:List α)(i j:Nat):List α:=(l.set i (zG l j)).set j (zG l i)
theorem zOF(l:List α)(i j:Nat):(swp l i j).length=l.length:=by simp[swp]
theorem zE6{l:List α}{i j k:Nat}(hi:i<l.length)(hj:j<l.length):zG (swp l i j) k=if k=j then zG l i else if k=i then zG l j else zG l k:=by
  unfold swp
  rw[xW,xW,List.length_set]
  by_cases h1:k=j<;>by_cases h2:k=i<;>simp[h1,h2,hi,hj]
variable [DecidableEq α] [SO α]
theorem zBM{x y:α}:∀ {l:List α} {i:Nat},i<l.length→(l.set i x).count y+(if zG l i=y then 1 else 0)=l.count y+(if x=y then 1 else 0)
  | [],_,h=>by simp at h
  |a::l,0,h=>by
    have e:zG (a::l) 0=a:=rfl
    rw[e,List.set_cons_zero,List.count_cons,List.count_cons]
    by_cases h1:a=y<;>by_cases h2:x=y<;>simp[h1,h2]
  |a::l,i+1,h=>by
    have ih:=zBM (x:=x) (y:=y) (l:=l) (i:=i) (by simpa using h)
    have e:zG (a::l) (i+1)=zG l i:=by simp[zG]
    simp only[List.set_cons_succ,List.count_cons,e]
    omega
theorem zGU{l:List α}{i j:Nat}(hi:i<l.length)(hj:j<l.length):(swp l i j).Perm l:=by
  rw[List.perm_iff_count]
  intro y
  have h1:=zBM (x:=zG l j) (y:=y) hi
  have h2:=zBM (x:=zG l i) (y:=y) (l:=l.set i (zG l j)) (i:=j) (by simpa using hj)
  have e:zG (l.set i (zG l j)) j=zG l j:=by
    rw[xW];split<;>rfl
  rw[e]at h2
  unfold swp
  omega
structure Same(a b:Nat)(l l':List α):Prop where
  len:l'.length=l.length
  out:∀ k,k<a∨b≤k→zG l' k=zG l k
  perm:l'.Perm l
theorem Same.refl(a b:Nat)(l:List α):Same a b l l:=⟨rfl,fun _ _=>rfl, .refl _⟩
theorem Same.trans{a b:Nat}{l m n:List α}(h:Same a b l m)(h':Same a b m n):Same a b l n:=
  ⟨h'.len.trans h.len,fun k hk=>(h'.out k hk).trans (h.out k hk),h'.perm.trans h.perm⟩
theorem Same.wide{a b c d:Nat}{l m:List α}(h:Same a b l m)(h1:c≤a)(h2:b≤d):Same c d l m:=
  ⟨h.len,fun k hk=>h.out k V,h.perm⟩
theorem Same.ex{a b i j:Nat}{l:List α}(hi:a≤i∧i<b)(hj:a≤j∧j<b)(hb:b≤l.length):Same a b l (swp l i j):=
  ⟨zOF l i j,fun k hk=>by rw[zE6 V V,if_neg V,if_neg V],zGU V V⟩
theorem Same.then_swp{a b i j:Nat}{l m:List α}(h:Same a b l m)(hi:a≤i∧i<b)(hj:a≤j∧j<b)(hb:b≤l.length):Same a b l (swp m i j):=
  h.trans (Same.ex hi hj (by rw[h.len];exact hb))
def All(a b:Nat)(P:α→Prop)(l:List α):Prop:=∀ k,a≤k→k<b→P (zG l k)
theorem zKW{a b:Nat}{l:List α}(h1:a≤b):l=l.take a++((l.take b).drop a++l.drop b):=by
  rw[←List.append_assoc]
  have:l.take a++(l.take b).drop a=l.take b:=by
    have e:l.take a=(l.take b).take a:=by rw[List.take_take,Nat.min_eq_left h1]
    rw[e,List.take_append_drop]
  rw[this,List.take_append_drop]
theorem Same.mid{a b:Nat}{l m:List α}(h:Same a b l m)(h1:a≤b):((m.take b).drop a).Perm ((l.take b).drop a):=by
  have e1:m.take a=l.take a:=by
    apply zDb (by simp[h.len])
    intro k hk
    simp only[List.length_take]at hk
    rw[kU V,kU V,h.out k V]
  have e2:m.drop b=l.drop b:=by
    apply zDb (by simp[h.len])
    intro k hk
    rw[kg,kg,h.out _ V]
  have hp:=h.perm
  rw[zKW (l:=m) h1,zKW (l:=l) h1,e1,e2]at hp
  exact(List.perm_append_right_iff _).1 ((List.perm_append_left_iff _).1 hp)
theorem Same.at{a b k:Nat}{l m:List α}(h:Same a b l m)(hk:a≤k)(hkb:k<b)(hb:b≤l.length):∃ j,a≤j∧j<b∧zG m k=zG l j:=by
  have hm:zG m k∈(m.take b).drop a:=by
    have e:zG ((m.take b).drop a) (k - a)=zG m k:=by rw[kg,kU V,show a+(k - a)=k by omega]
    rw[←e]
    exact zd (by simp[h.len];omega)
  have:=(h.mid V).mem_iff.1 hm
  obtain⟨j,hj⟩:=List.mem_iff_getElem?.1 this
  have hlt:j<((l.take b).drop a).length:=by
    by_cases q:j<((l.take b).drop a).length
    · exact q
    rw[List.getElem?_eq_none V]at hj;cases hj
  have hlt':j<b - a:=by simp at hlt;omega
  refine⟨a+j,by omega,by omega,?_⟩
  have e:=nth_eq hj
  rw[kg,kU V]at e
  exact e.symm
theorem Same.all{a b:Nat}{P:α→Prop}{l m:List α}(h:Same a b l m)(hb:b≤l.length)(ha:All a b P l):All a b P m:=fun k h1 h2=>by
  obtain⟨j,q1,q2,e⟩:=h.at h1 h2 hb
  rw[e];exact ha j q1 q2
def Up(a b:Nat)(l:List α):Prop:=∀ k,a≤k→k+1<b→jE (zG l k) (zG l (k+1))
theorem Up.le{a b:Nat}{l:List α}(h:Up a b l){i:Nat}:∀ {j:Nat},a≤i→i≤j→j<b→jE (zG l i) (zG l j):=by
  intro j h1 h2 h3
  induction j with
  |zero=>rw[show i=0 by omega];exact zGO _
  |succ j ih=>
    by_cases hj:i=j+1
    · rw[hj];exact zGO _
    exact zEw (ih V V) (h j V h3)
theorem Up.one{a b:Nat}{l:List α}(h:b≤a+1):Up a b l:=fun k h1 h2=>by omega
theorem Up.keep{a b c d:Nat}{l m:List α}(h:Up a b l)(hs:Same c d l m)(hd:b≤c∨d≤a):Up a b m:=fun k h1 h2=>by
  rw[hs.out k V,hs.out (k+1) V];exact h k h1 h2
theorem Up.pair{a b:Nat}{l:List α}(h:Up a b l)(hb:b≤l.length):((l.take b).drop a).Pairwise (fun x y=>jE x y):=by
  rw[List.pairwise_iff_getElem]
  intro i j hi hj hij
  simp only[List.length_drop,List.length_take]at hi hj
  have e:∀ k (hk:k<((l.take b).drop a).length),((l.take b).drop a)[k]=zG l (a+k):=fun k hk=>by
    have hk':k<b - a:=by simp at hk;omega
    have:=nth_eq (List.getElem?_eq_getElem hk)
    rw[kg,kU V]at this
    exact this.symm
  rw[e,e]
  exact h.le V V V
theorem Up.step{a i:Nat}{l:List α}(h:Up a i l)(hn:¬ olt (zG l i) (zG l (i - 1))):Up a (i+1) l:=fun k h1 h2=>by
  by_cases e:k+1=i
  · rw[←e,Nat.add_sub_cancel]at hn;exact hn
  exact h k h1 V
theorem zCb{l m:List α}(hs:Same 0 l.length l m)(hu:Up 0 l.length m):m.Pairwise (fun x y=>jE x y):=by
  have h1:=hu.pair (by rw[hs.len];exact Nat.le_refl _)
  rwa [List.drop_zero,List.take_of_length_le (by rw[hs.len];exact Nat.le_refl _)]at h1
def Ins(a i j:Nat)(l:List α):Prop:=(∀ k,a≤k→k+1≤i→k+1≠j→jE (zG l k) (zG l (k+1)))∧(a<j→j<i→jE (zG l (j - 1)) (zG l (j+1)))
theorem Ins.start{a i:Nat}{l:List α}(h:Up a i l):Ins a i i l:=⟨fun k h1 h2 h3=>h k h1 V,fun _ h=>by omega⟩
theorem Ins.step{a i j:Nat}{l:List α}(h:Ins a i j l)(hj:a<j)(hji:j≤i)(hi:i<l.length)(hlt:olt (zG l j) (zG l (j - 1))):Ins a i (j - 1) (swp l j (j - 1)):=by
  have e:=fun k=>zE6 (l:=l) (i:=j) (j:=j - 1) (k:=k) V V
  refine⟨fun k h1 h2 h3=> ?_,fun h1 h2=> ?_⟩
  · rw[e,e]
    by_cases q1:k=j - 1
    · rw[if_pos q1,if_neg V,if_pos V];rw[show k+1=j by omega]at *;subst q1;exact zDo hlt
    rw[if_neg q1]
    by_cases q2:k=j
    · subst q2;rw[if_pos rfl,if_neg V,if_neg V];exact h.2 hj V
    rw[if_neg q2,if_neg V,if_neg V];exact h.1 k h1 h2 V
  rw[e,e,if_neg V,if_neg V,if_neg V,if_pos V]
  have:=h.1 (j - 1 - 1) V V V
  rwa [show j - 1 - 1+1=j - 1 by omega]at this
theorem Ins.done{a i j:Nat}{l:List α}(h:Ins a i j l)(hj:a<j→¬ olt (zG l j) (zG l (j - 1))):Up a (i+1) l:=fun k h1 h2=>by
  by_cases q:k+1=j
  · have:=hj V
    rw[←q,Nat.add_sub_cancel]at this
    exact this
  exact h.1 k h1 V q
def Hp(lo hi f:Nat)(l:List α):Prop:=∀ i,lo≤i→∀ c,c=2*i+1∨c=2*i+2→c<hi→jE (zG l (f+c)) (zG l (f+i))
structure HpX(lo hi f r:Nat)(l:List α):Prop where
  rest:∀ i,lo≤i→i≠r→∀ c,c=2*i+1∨c=2*i+2→c<hi→jE (zG l (f+c)) (zG l (f+i))
  over:∀ p,lo≤p→r=2*p+1∨r=2*p+2→∀ c,c=2*r+1∨c=2*r+2→c<hi→jE (zG l (f+c)) (zG l (f+p))
theorem HpX.start{lo hi f:Nat}{l:List α}(h:Hp (lo+1) hi f l):HpX lo hi f lo l:=
  ⟨fun i h1 h2=>h i V,fun p h1 h2=>by omega⟩
theorem HpX.step{lo hi f r c:Nat}{l:List α}(h:HpX lo hi f r l)(hr:lo≤r)(hc:c=2*r+1∨c=2*r+2)(hch:c<hi)(hl:f+hi≤l.length)
    (hmax:∀ c',c'=2*r+1∨c'=2*r+2→c'<hi→jE (zG l (f+c')) (zG l (f+c))) (hlt:olt (zG l (f+r)) (zG l (f+c))):HpX lo hi f c (swp l (f+r) (f+c)):=by
  have e:=fun k=>zE6 (l:=l) (i:=f+r) (j:=f+c) (k:=k) V V
  refine⟨fun i h1 h2 c' h3 h4=> ?_,fun p h1 h2 c' h3 h4=> ?_⟩
  · rw[e,e,if_neg (show f+i≠f+c by omega)]
    by_cases q:i=r
    · subst q
      rw[if_pos (show f+i=f+i from rfl)]
      by_cases q2:c'=c
      · rw[if_pos V];exact zDo hlt
      rw[if_neg V,if_neg V];exact hmax c' h3 h4
    rw[if_neg (show f+i≠f+r by omega),if_neg (show f+c'≠f+c by omega)]
    by_cases q2:c'=r
    · subst q2;rw[if_pos rfl];exact h.over i h1 h3 c hc hch
    rw[if_neg V];exact h.rest i h1 q c' h3 h4
  have hp:p=r:=by omega
  subst hp
  rw[e,e,if_neg (show f+c'≠f+c by omega),if_neg (show f+c'≠f+p by omega),if_neg (show f+p≠f+c by omega),if_pos rfl]
  exact h.rest c V V c' h3 h4
theorem HpX.done{lo hi f r:Nat}{l:List α}(h:HpX lo hi f r l)(hr:∀ c,c=2*r+1∨c=2*r+2→c<hi→jE (zG l (f+c)) (zG l (f+r))):Hp lo hi f l:=fun i h1 c h2 h3=>by
  by_cases q:i=r
  · subst q;exact hr c h2 h3
  exact h.rest i h1 q c h2 h3
theorem Hp.none{hi f m:Nat}{l:List α}(h:hi≤2*m+1):Hp m hi f l:=fun i h1 c h2 h3=>by omega
structure HpUp(i n f:Nat)(l:List α):Prop where
  hp:Hp 0 i f l
  up:Up (f+i) (f+n) l
  over:∀ k j,k<i→i≤j→j<n→jE (zG l (f+k)) (zG l (f+j))
theorem HpUp.start{n f:Nat}{l:List α}(h:Hp 0 n f l):HpUp n n f l:=⟨h,Up.one V,fun k j h1 h2 h3=>by omega⟩
structure Part(a b m:Nat)(l:List α):Prop where
  lo:∀ k,a≤k→k<m→jE (zG l k) (zG l m)
  hi:∀ k,m<k→k<b→jE (zG l m) (zG l k)
def Pred(a b:Nat)(l:List α):Prop:=a=0∨∀ k,a≤k→k<b→jE (zG l (a - 1)) (zG l k)
theorem Pred.keep{a b:Nat}{l m:List α}(h:Pred a b l)(hs:Same a b l m)(hb:b≤l.length):Pred a b m:=by
  rcases h with h|h
  · exact .inl h
  by_cases h0:a=0
  · exact .inl h0
  refine .inr fun k h1 h2=> ?_
  rw[hs.out (a - 1) V]
  exact hs.all (P:=fun x=>jE (zG l (a - 1)) x) hb h k h1 h2
theorem Pred.sub{a b c:Nat}{l:List α}(h:Pred a b l)(hc:c≤b):Pred a c l:=h.imp id fun h k h1 h2=>h k h1 V
theorem Part.right{a b m:Nat}{l:List α}(h:Part a b m l):Pred (m+1) b l:= .inr fun k h1 h2=>by rw[Nat.add_sub_cancel];exact h.hi k V h2
theorem Part.join{a b m:Nat}{l l1 l2:List α}(h:Part a b m l)(hm:a≤m∧m<b)(hb:b≤l.length)(h1:Same a m l l1)(u1:Up a m l1)(h2:Same (m+1) b l1 l2)(u2:Up (m+1) b l2):Up a b l2:=by
  have em:zG l2 m=zG l m:=by rw[h2.out m V,h1.out m V]
  have hlo:∀ k,a≤k→k<m→jE (zG l2 k) (zG l m):=fun k q1 q2=>by
    rw[h2.out k V];exact h1.all (P:=fun x=>jE x (zG l m)) V h.lo k q1 q2
  have hhi:∀ k,m+1≤k→k<b→jE (zG l m) (zG l2 k):=by
    have:All (m+1) b (fun x=>jE (zG l m) x) l1:=fun k q1 q2=>by rw[h1.out k V];exact h.hi k V q2
    exact h2.all (by rw[h1.len];exact hb) this
  intro k q1 q2
  by_cases c1:k+1<m
  · rw[h2.out k V,h2.out (k+1) V];exact u1 k q1 c1
  by_cases c2:k+1=m
  · rw[c2,em];exact hlo k q1 V
  by_cases c3:k=m
  · rw[c3,em];exact hhi (m+1) V V
  exact u2 k V q2
theorem Up.glue{a m b:Nat}{l:List α}(h1:Up a m l)(h2:Up m b l)(h:a<m→m<b→jE (zG l (m - 1)) (zG l m)):Up a b l:=fun k q1 q2=>by
  by_cases c1:k+1<m
  · exact h1 k q1 c1
  by_cases c2:k+1=m
  · have:=h V V
    rw[←c2,Nat.add_sub_cancel]at this
    rw[←c2]at *
    exact this
  exact h2 k V q2
def Lo(a i:Nat)(q:List α):Prop:=∀ k,a+1≤k→k<i→olt (zG q k) (zG q a)
def Hi(a j b:Nat)(q:List α):Prop:=∀ k,j<k→k<b→jE (zG q a) (zG q k)
theorem Lo.step{a i:Nat}{q:List α}(h:Lo a i q)(hn:olt (zG q i) (zG q a)):Lo a (i+1) q:=fun k h1 h2=>by
  by_cases e:k=i
  · rw[e];exact hn
  exact h k h1 V
theorem Hi.step{a j b:Nat}{q:List α}(h:Hi a j b q)(hn:¬ olt (zG q j) (zG q a)):Hi a (j - 1) b q:=fun k h1 h2=>by
  by_cases e:k=j
  · rw[e];exact hn
  exact h k V h2
def Le(a i:Nat)(q:List α):Prop:=∀ k,a+1≤k→k<i→jE (zG q k) (zG q a)
def Gt(a j b:Nat)(q:List α):Prop:=∀ k,j<k→k<b→olt (zG q a) (zG q k)
theorem Le.step{a i:Nat}{q:List α}(h:Le a i q)(hn:¬ olt (zG q a) (zG q i)):Le a (i+1) q:=fun k h1 h2=>by
  by_cases e:k=i
  · rw[e];exact hn
  exact h k h1 V
theorem Gt.step{a j b:Nat}{q:List α}(h:Gt a j b q)(hn:olt (zG q a) (zG q j)):Gt a (j - 1) b q:=fun k h1 h2=>by
  by_cases e:k=j
  · rw[e];exact hn
  exact h k V h2
structure Eqs(a i b:Nat)(x:α)(l:List α):Prop where
  lo:∀ k,a≤k→k<i→jE (zG l k) x
  hi:∀ k,i≤k→k<b→olt x (zG l k)
structure Fr(a c d b:Nat)(q:List α):Prop where
  lo:Up a c q
  loe:∀ k j,a≤k→k<c→c≤j→j<b→jE (zG q k) (zG q j)
  hi:Up d b q
  hie:∀ k j,a≤k→k<d→d≤j→j<b→jE (zG q k) (zG q j)
theorem Fr.start{a b:Nat}{q:List α}:Fr a a b b q:=⟨Up.one V,fun k j h1 h2=>by omega,Up.one V,fun k j h1 h2 h3 h4=>by omega⟩
theorem Fr.keep{a c d b:Nat}{q r:List α}(h:Fr a c d b q)(hs:Same c d q r)(hc:a≤c∧c≤d)(hd:d≤b)(hb:b≤q.length):Fr a c d b r:=by
  have at':∀ k,c≤k→k<d→∃ k',c≤k'∧k'<d∧zG r k=zG q k':=fun k h1 h2=>hs.at h1 h2 V
  refine⟨h.lo.keep hs (.inl V),fun k j h1 h2 h3 h4=> ?_,h.hi.keep hs (.inr V),fun k j h1 h2 h3 h4=> ?_⟩
  · rw[hs.out k V]
    by_cases q1:j<d
    · obtain⟨j',q2,q3,e⟩:=at' j h3 q1;rw[e];exact h.loe k j' h1 h2 q2 V
    rw[hs.out j V];exact h.loe k j h1 h2 h3 h4
  rw[hs.out j V]
  by_cases q1:c≤k
  · obtain⟨k',q2,q3,e⟩:=at' k q1 h2;rw[e];exact h.hie k' j V q3 h3 h4
  rw[hs.out k V];exact h.hie k j h1 h2 h3 h4
theorem Fr.done{a c d b:Nat}{q:List α}(h:Fr a c d b q)(hu:Up c d q)(hc:a≤c∧c≤d)(hd:d≤b):Up a b q:=by
  have h1:Up a d q:=h.lo.glue hu fun q1 q2=>h.loe (c - 1) c V V (Nat.le_refl _) V
  exact h1.glue h.hi fun q1 q2=>h.hie (d - 1) d V V (Nat.le_refl _) V
theorem Fr.right{a c d b m:Nat}{q r:List α}(h:Fr a c d b q)(hp:Part c d m q)(hs:Same (m+1) d q r)(hu:Up (m+1) d r)(hc:a≤c∧c≤m)(hm:m<d)(hd:d≤b)(hb:b≤q.length):Fr a c m b r:=by
  have h':=h.keep (hs.wide (c:=c) (d:=d) V V) V hd hb
  have em:zG r m=zG q m:=hs.out m V
  have hlo:∀ k,c≤k→k<m→jE (zG r k) (zG r m):=fun k q1 q2=>by rw[em,hs.out k V];exact hp.lo k q1 q2
  have hhi:∀ k,m<k→k<d→jE (zG r m) (zG r k):=fun k q1 q2=>by rw[em];exact hs.all (P:=fun x=>jE (zG q m) x) V (fun k h1 h2=>hp.hi k V h2) k V q2
  refine⟨h'.lo,h'.loe,?_,fun k j h1 h2 h3 h4=> ?_⟩
  · have h1:Up (m+1) b r:=hu.glue h'.hi fun q1 q2=>h'.hie (d - 1) d V V (Nat.le_refl _) q2
    have h2:Up m (m+1) r:=Up.one V
    exact h2.glue h1 fun q1 q2=>by
      rw[Nat.add_sub_cancel]
      by_cases q3:m+1<d
      · exact hhi (m+1) V q3
      exact h'.hie m (m+1) V V V V
  by_cases q1:k<c
  · exact h'.loe k j h1 q1 V h4
  by_cases q2:j<d
  · have q3:=hlo k V h2
    by_cases q4:j=m
    · rw[q4];exact q3
    exact zEw q3 (hhi j V q2)
  exact h'.hie k j h1 V V h4
theorem Pred.far{a b c d:Nat}{l m:List α}(h:Pred a b l)(hs:Same c d l m)(hd:d+1≤a∨b≤c):Pred a b m:=h.imp id fun h k h1 h2=>by
  by_cases ha:a=0
  · subst ha;rw[hs.out 0 V,hs.out k V];exact h k h1 h2
  rw[hs.out (a - 1) V,hs.out k V];exact h k h1 h2
def S1(s:ByteArray):List Value:=[.string s]
def sLt(a b:ByteArray):Prop:=a.toList<b.toList
def sLe(a b:ByteArray):Prop:=¬ sLt b a
instance (a b:ByteArray):Decidable (sLt a b):=inferInstanceAs (Decidable (_<_))
instance (a b:ByteArray):Decidable (sLe a b):=inferInstanceAs (Decidable (¬ _))
theorem zHR(a:ByteArray):¬ sLt a a:=List.lt_irrefl _
theorem zEs{a b c:ByteArray}(h:sLt a b)(k:sLt b c):sLt a c:=List.lt_trans h k
theorem zJr{a b:ByteArray}(h:sLt a b):¬ sLt b a:=fun k=>zHR _ (zEs h k)
theorem zOy{a b:ByteArray}(h:a.toList=b.toList):a=b:=of_decide_eq_true (zBq a b▸(by rw[h];simp))
theorem zOA{a b:ByteArray}(h:¬ sLt a b)(k:¬ sLt b a):a=b:=zOy (List.le_antisymm (List.not_lt.1 k) (List.not_lt.1 h))
theorem zPW{a b c:ByteArray}(h:¬ sLt b a)(k:¬ sLt c b):¬ sLt c a:=fun q=>by
  by_cases e:sLt a b
  · exact k (zEs q e)
  exact k (by rw[←zOA e h];exact q)
instance:SO ByteArray:=⟨sLt,fun a b=>inferInstance,zJr,zPW⟩
section
variable {P:Program} {n:Nat} {ops:Array Oper} {N:K} {f:Nat→Value} {rest:List Oper} {d:Nat} {t ty:TypeId} {p:String} {af:Array Edge} {x y:Operand} {A:World→Prop}
variable {s u:ByteArray} {t':TypeId}
end
section
variable {P:Program} {n:Nat} {ops:Array Oper} {N:K} {f:Nat→Value} {rest:List Oper} {d:Nat} {t ty e:TypeId} {p:String} {af:Array Edge} {x y:Operand} {w0:World} {S:List Nat} {L:List Res}
end
open Go
section
variable {P:Program} {n:Nat} {ops:Array Oper} {N R:K} {X:List (Nat×K)} {f:Nat→Value} {A:World→Prop} {rest:List Oper} {w0:World} {S:List Nat} {L:List Res}
variable {d:Nat} {ty:TypeId} {p:String} {af:Array Edge} {x y:Operand} {t e:TypeId}
def zQ9(P:Program)(t:TypeId):Option (List Value×Nat):=
  match P.underlying t,(P.info? t).bind (·.zero)with
  |some (.array _ e),some z=>(P.info? e).map fun i=>(z.cells.toList,i.size)
  |_,_=>none
theorem v_bldA{z:List Value}{sz:Nat}{parts:List (Nat×Operand)}{cs:List Value}(hs:zQ9 P t=some (z,sz))(hf:zAK (fun i=>some (i*sz,sz)) z (parts.map fun q=>(q.1,ev f q.2))=some cs):RV P f ⟨some d, .build t parts.toArray,ty,p,af,none⟩ A (.agg cs.toArray):=
  fun w _=>by
    unfold zQ9 at hs
    split at hs
    · rename_i m e z0 hu hz
      simp only[Option.map_eq_some_iff,Prod.mk.injEq]at hs
      obtain⟨i,hi,rfl,rfl⟩:=hs
      simp only[Option.bind_eq_some_iff]at hz
      obtain⟨i0,hi0,hz0⟩:=hz
      have h2:=zBy _ _ _ _ hf
      simp only[Array.toArray_toList]at h2
      simp[execOp,Instr.build,zeroValue,typeInfo,sizeOf,hi0,hz0,hi,yB hu,h2]
    cases hs
def zO3(P:Program)(t:TypeId)(i:Nat):Option Nat:=
  match P.underlying t with
  |some (.struct fs)=>(fs[i]?).bind fun f=>if one P f.type then some f.offset else none
  |_=>none
theorem zFA{o i:Nat}{cs:Array Value}{v:Value}(hx:ev f x= .agg cs)(ho:zO3 P t i=some o)(hv:cs[o]?=some v):RV P f ⟨some d, .field t x i,ty,p,af,none⟩ A v:=
  fun w _=>by
    unfold zO3 at ho
    split at ho
    · rename_i fs hfs
      simp only[Option.bind_eq_some_iff]at ho
      obtain⟨fl,hfl,ho⟩:=ho
      split at ho
      · rename_i h1
        cases ho
        obtain⟨h2,i0,hi0,hs0⟩:=zFy h1
        simp[execOp,hx,Instr.field,yB hfs,hfl,asAgg,part,h2,sizeOf,typeInfo,hi0,hs0,hv]
      cases ho
    cases ho
theorem zHN{o i:Nat}{cs:Array Value}{v:Value}(hx:ev f x= .agg cs)(ho:zO3 P t i=some o)(hv:cs[o]?=some v)(hd:Nat.blt d n=true)(k:CL P n ops rest N (upd f d v) A):CL P n ops (⟨some d, .field t x i,ty,p,af,none⟩::rest) N f A:=yX hd (zFA hx ho hv) k
theorem zQi{fn:Func}{R:Value→World→Prop}{t u u2 u3:Tmp}{T:TypeId}{b:Nat}{cs:List Value}{v v2 v3:Value}(hr:fn.results= #[.cell t T, .tmp u, .tmp u2, .tmp u3])(hv:f t= .pointer (some ⟨b,0,none⟩))(hv':f u=v)(hv2:f u2=v2)(hv3:f u3=v3)(ht:jm P T=some cs.length)(hc:∀ w,A w→∀ i u,cs[i]?=some u→w.cell? ⟨b,0+i,none⟩=some u)
    (h:∀ w,A w→R (.tuple #[.agg cs.toArray,v,v2,v3]) w):∀ w,A w→zCp P fn n R f w:=
  fun w hw=>⟨_,fun a ha=>by
    have:=xU (P:=P) ht (hc w hw)
    simp[results,hr,ha.get,hv,hv',hv2,hv3,asAddr,this],h w hw⟩
end
end Go.Sc
