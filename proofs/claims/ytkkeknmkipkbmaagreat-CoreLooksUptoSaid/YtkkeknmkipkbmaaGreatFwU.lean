import Derived.Test.YtkkeknmkipkbmaaGreatEnc
import Derived.Test.YtkkeknmkipkbmaaGreatFwT
set_option linter.unusedSectionVars false
set_option linter.unusedSimpArgs false
set_option linter.unusedVariables false
set_option maxRecDepth 10000
namespace Go.Proofs.YtkkeknmkipkbmaaGreat
open Go Go.Sc Go.Proofs
def folA:Nat→Nat→List EntA→Prop
  |_,_,[]=>True
  |i,t,e::l=>(e.ok∧e.index=i+1∧t≤e.term)∧folA e.index e.term l
instance folA.dec:(i t:Nat)→(l:List EntA)→Decidable (folA i t l)
  |_,_,[]=>isTrue trivial
  |i,t,e::l=>by
    unfold folA
    have:=folA.dec e.index e.term l
    infer_instance
def jQ(i:Nat)(l:List EntA):Nat:=i+l.length
def xm(t:Nat):List EntA→Nat
  | []=>t
  |e::l=>xm e.term l
theorem folA_append{l m:List EntA}:∀ {i t:Nat},folA i t (l++m)↔folA i t l∧folA (jQ i l) (xm t l) m:=by
  induction l with
  |nil=>intro i t;simp[folA,jQ,xm]
  |cons e l ih=>
    intro i t
    simp only[List.cons_append,folA,ih,xm,jQ,List.length_cons]
    constructor
    · rintro⟨h1,h2,h3⟩;rw[h1.2.1]at h3;exact⟨⟨h1,h2⟩,by rwa [Nat.add_assoc,Nat.add_comm 1]at h3⟩
    rintro⟨⟨h1,h2⟩,h3⟩;refine⟨h1,h2,?_⟩;rw[h1.2.1];rwa [Nat.add_assoc,Nat.add_comm 1]
theorem zAg{l:List EntA}{e:EntA}:∀ {t:Nat},xm t (l++[e])=e.term:=by
  induction l with
  |nil=>intro t;rfl
  |cons a l ih=>intro t;exact ih
theorem zBs{l:List EntA}(h:0<l.length){t:Nat}:xm t l=(zG l (l.length - 1)).term:=by
  have e:l=l.take (l.length - 1)++[zG l (l.length - 1)]:=by
    rw[←zu V,List.take_of_length_le V]
  rw[e,zAg];congr 1;rw[←e]
theorem folA.take{i t:Nat}{l:List EntA}(h:folA i t l)(k:Nat):folA i t (l.take k):=by
  rw[←List.take_append_drop k l]at h;exact(folA_append.1 h).1
theorem folA.ok{l:List EntA}:∀ {i t:Nat},folA i t l→∀ e∈l,e.ok:=by
  induction l with
  |nil=>intro _ _ _ e he;cases he
  |cons a l ih=>
    intro i t h e he
    rcases List.mem_cons.1 he with rfl|he
    · exact h.1.1
    exact ih h.2 e he
theorem folA.idx{l:List EntA}:∀ {i t:Nat},folA i t l→∀ k,k<l.length→(zG l k).index=i+k+1:=by
  induction l with
  |nil=>intro _ _ _ k hk;simp at hk
  |cons a l ih=>
    intro i t h k hk
    cases k with
    |zero=>simpa [zG]using h.1.2.1
    |succ k=>
      have:=ih h.2 k (by simpa using hk)
      have e:zG (a::l) (k+1)=zG l k:=by simp[zG]
      rw[e,this,h.1.2.1];omega
theorem folA.base{l:List EntA}:∀ {i t:Nat},folA i t l→∀ e∈l,t≤e.term:=by
  induction l with
  |nil=>intro _ _ _ e he;cases he
  |cons a l ih=>
    intro i t h e he
    rcases List.mem_cons.1 he with rfl|he
    · exact h.1.2.2
    have:=ih h.2 e he;have:=h.1.2.2;omega
theorem folA.mono{i t:Nat}{l:List EntA}(h:folA i t l){j k:Nat}(hjk:j≤k)(hk:k<l.length):(zG l j).term≤(zG l k).term:=by
  by_cases e:j=k
  · rw[e];exact Nat.le_refl _
  have h1:=h
  rw[←List.take_append_drop (j+1) l]at h1
  have h2:=(folA_append.1 h1).2.base (zG l k) (by
    have:zG (l.drop (j+1)) (k - (j+1))=zG l k:=by rw[kg];congr 1;omega
    rw[←this];exact zd qX)
  rw[zu V,zAg]at h2
  exact h2
theorem folA.snoc{i t:Nat}{l:List EntA}{e:EntA}:folA i t (l++[e])↔folA i t l∧e.ok∧e.index=jQ i l+1∧xm t l≤e.term:=by
  rw[folA_append];simp[folA]
theorem folA.last_le{i t:Nat}{l:List EntA}(h:folA i t l)(hi:i≤4611686018427387904):i+l.length≤4611686018427387904:=by
  by_cases hl:l.length=0
  · omega
  have h1:=h.idx (l.length - 1) V
  have h2:=(h.ok _ (zd (l:=l) (j:=l.length - 1) V)).1.2.1.1
  omega
theorem folA.term_le{i t:Nat}{l:List EntA}(h:folA i t l)(ht:t≤4611686018427387904):xm t l≤4611686018427387904:=by
  by_cases hl:l.length=0
  · rw[List.eq_nil_of_length_eq_zero hl];exact ht
  rw[zBs V]
  exact(h.ok _ (zd (l:=l) (j:=l.length - 1) V)).1.2.1.2
theorem folA.below{l:List EntA}:∀ {i t:Nat},folA i t l→∀ f,l.filter (fun e=>decide (e.index<f))=l.take (f - i - 1):=by
  induction l with
  |nil=>intro i t _ f;simp
  |cons a l ih=>
    intro i t h f
    have h1:=ih h.2 f
    have h2:=h.1.2.1
    by_cases c:a.index<f
    · rw[List.filter_cons_of_pos (by simpa using c),h1,show f - i - 1=(f - a.index - 1)+1 by omega];rfl
    rw[List.filter_cons_of_neg (by simpa using c),h1,show f - i - 1=0 by omega,show f - a.index - 1=0 by omega];simp
structure LogA where
  i:Nat
  t:Nat
  l:List EntA
  deriving DecidableEq
structure LogA.good(x:LogA):Prop where
  i:x.i≤4611686018427387904
  t:x.t≤4611686018427387904
  fol:folA x.i x.t x.l
def LogA.last(x:LogA):Nat:=x.i+x.l.length
def LogA.end_(x:LogA):Nat:=xm x.t x.l
def LogA.termE(x:LogA)(k:Nat):Nat×Int:=
  if k<x.i then(0,13)else if k=x.i then(x.t,0)else if k≤x.last then((zG x.l (k - x.i - 1)).term,0)else(0,8)
def LogA.fits(x:LogA)(k t:Nat):Prop:=(x.termE k).2=0∧(x.termE k).1=t
instance (x:LogA)(k t:Nat):Decidable (x.fits k t):=by unfold LogA.fits;infer_instance
def LogA.fresh(x:LogA)(k t:Nat):Prop:=x.end_<t∨(t=x.end_∧x.last≤k)
instance (x:LogA)(k t:Nat):Decidable (x.fresh k t):=by unfold LogA.fresh;infer_instance
def LogA.fromE(x:LogA)(k:Nat)(most:Int):List EntA×Int:=
  if k≤x.i then([],13)else if x.last+1<k then([],8)else if most<0 then([],1)else((x.l.drop (k - x.i - 1)).take most.toNat,0)
def LogA.kn(x:LogA):List EntA→Nat
  | []=>0
  |e::m=>if x.fits e.index e.term then x.kn m+1 else 0
theorem LogA.kn_le(x:LogA):∀ (m:List EntA),x.kn m≤m.length
  | []=>Nat.le_refl _
  |e::m=>by unfold LogA.kn;have:=x.kn_le m;split<;>simp<;>omega
theorem LogA.kn_fits(x:LogA):∀ (m:List EntA),∀ e∈m.take (x.kn m),x.fits e.index e.term
  | [],e,he=>by simp at he
  |a::m,e,he=>by
    unfold LogA.kn at he
    split at he
    · rename_i h
      rw[List.take_succ_cons]at he
      rcases List.mem_cons.1 he with rfl|he
      · exact h
      exact x.kn_fits m e he
    simp at he
theorem LogA.kn_of(x:LogA):∀ {m:List EntA} {k:Nat},k≤m.length→(∀ e∈m.take k,x.fits e.index e.term)→(k<m.length→¬ x.fits (zG m k).index (zG m k).term)→x.kn m=k
  | [],k,hk,_,_=>by simp at hk;subst hk;rfl
  |a::m,k,hk,h1,h2=>by
    unfold LogA.kn
    cases k with
    |zero=>rw[if_neg (by simpa [zG]using h2 qQ)]
    |succ k=>
      rw[if_pos (h1 a qQ)]
      congr 1
      refine x.kn_of (by simpa using hk) (fun e he=>h1 e (by rw[List.take_succ_cons];exact .tail _ he)) fun hk'=> ?_
      have:=h2 (by simpa using hk')
      simpa [zG]using this
def LogA.put(x:LogA)(m:List EntA):LogA:=
  if x.kn m<m.length then⟨x.i,x.t,x.l.take ((zG m (x.kn m)).index - x.i - 1)++m.drop (x.kn m)⟩else x
def LogA.put0(x:LogA)(m:List EntA):Nat:=if x.kn m<m.length then(zG m (x.kn m)).index else 0
def LogA.append(x:LogA)(index term:Nat)(m:List EntA):LogA:=if folA index term m∧x.fits index term then x.put m else x
def LogA.ans(x:LogA)(index term:Nat)(m:List EntA):Nat×Nat×Int:=
  if folA index term m then(if x.fits index term then(index+m.length,x.put0 m,0)else(0,0,12))else(0,0,2)
def LogA.hintN(x:LogA)(k t:Nat):Nat→Nat×Nat
  |0=>(x.i,x.t)
  |n+1=>if(zG x.l n).index≤k∧(zG x.l n).term≤t then((zG x.l n).index,(zG x.l n).term)else x.hintN k t n
def LogA.hint(x:LogA)(k t:Nat):Nat×Nat:=x.hintN k t x.l.length
def LogA.shrink(x:LogA)(k:Nat):LogA:=if(x.termE k).2=0 then⟨k,(x.termE k).1,x.l.drop (k - x.i)⟩else x
theorem LogA.good.last_le{x:LogA}(h:x.good):x.last≤4611686018427387904:=h.fol.last_le h.i
theorem LogA.good.end_le{x:LogA}(h:x.good):x.end_≤4611686018427387904:=h.fol.term_le h.t
theorem LogA.fits_iff{x:LogA}{k t:Nat}:x.fits k t↔(x.i≤k∧k≤x.last)∧(if k=x.i then x.t else(zG x.l (k - x.i - 1)).term)=t:=by
  unfold LogA.fits LogA.termE
  by_cases h1:k<x.i
  · rw[if_pos h1];simp;omega
  rw[if_neg h1]
  by_cases h2:k=x.i
  · rw[if_pos h2,if_pos h2];subst h2;unfold LogA.last;simp
  rw[if_neg h2,if_neg h2]
  by_cases h3:k≤x.last
  · rw[if_pos h3];simp;omega
  rw[if_neg h3];simp;omega
theorem LogA.upto{x:LogA}{k:Nat}(h1:x.i≤k)(h2:k≤x.last):(if k=x.i then x.t else(zG x.l (k - x.i - 1)).term)=xm x.t (x.l.take (k - x.i)):=by
  unfold LogA.last at h2
  by_cases h:k=x.i
  · rw[if_pos h,h,Nat.sub_self];rfl
  rw[if_neg h,zBs qX,List.length_take,Nat.min_eq_left V,kU V]
theorem LogA.fits_end{x:LogA}{k t:Nat}(h:x.fits k t):(x.i≤k∧k≤x.last)∧xm x.t (x.l.take (k - x.i))=t:=by
  have h':=LogA.fits_iff.1 h
  rw[LogA.upto h'.1.1 h'.1.2]at h'
  exact h'
theorem LogA.fits_of{x:LogA}{k t:Nat}(h1:x.i≤k∧k≤x.last)(h2:xm x.t (x.l.take (k - x.i))=t):x.fits k t:=by
  rw[LogA.fits_iff,LogA.upto h1.1 h1.2];exact⟨h1,h2⟩
theorem zFa{x:LogA}{index term:Nat}{m:List EntA}(hm:folA index term m)(hf:x.fits index term):x.fits (jQ index (m.take (x.kn m))) (xm term (m.take (x.kn m))):=by
  by_cases h0:x.kn m=0
  · rw[h0];exact hf
  have hl:=x.kn_le m
  have hl2:(m.take (x.kn m)).length=x.kn m:=by simp;omega
  rw[zBs V,hl2,kU V]
  have:=hm.idx (x.kn m - 1) V
  have h2:=x.kn_fits m (zG m (x.kn m - 1)) (by rw[←kU (i:=x.kn m) V];exact zd V)
  rw[this]at h2
  have e:jQ index (m.take (x.kn m))=index+(x.kn m - 1)+1:=by unfold jQ;omega
  rw[e];exact h2
theorem zFj{x:LogA}(hx:x.good){index term:Nat}{m:List EntA}(hm:folA index term m)(hf:x.fits index term):(x.put m).good:=by
  unfold LogA.put
  split
  · rename_i hk
    have h1:=LogA.fits_end (zFa hm hf)
    have h2:=hm.idx _ hk
    refine⟨hx.i,hx.t,?_⟩
    have hl2:(m.take (x.kn m)).length=x.kn m:=by simp;omega
    have e:(zG m (x.kn m)).index - x.i - 1=jQ index (m.take (x.kn m)) - x.i:=by unfold jQ;omega
    dsimp only
    rw[e,folA_append]
    refine⟨hx.fol.take _,?_⟩
    have h3:=h1.1
    unfold LogA.last at h3
    have e2:jQ x.i (x.l.take (jQ index (m.take (x.kn m)) - x.i))=jQ index (m.take (x.kn m)):=by
      show x.i+_=_;rw[List.length_take,Nat.min_eq_left V];omega
    rw[e2,h1.2]
    rw[←List.take_append_drop (x.kn m) m]at hm
    exact(folA_append.1 hm).2
  exact hx
theorem LogA.append_good{x:LogA}(hx:x.good){index term:Nat}{m:List EntA}:(x.append index term m).good:=by
  unfold LogA.append
  split
  · rename_i h;exact zFj hx h.1 h.2
  exact hx
theorem LogA.kn_all{x:LogA}{m:List EntA}(h:∀ e∈m,x.fits e.index e.term):x.kn m=m.length:=x.kn_of (Nat.le_refl _) (by rwa [List.take_length]) fun h=>absurd h (Nat.lt_irrefl _)
theorem LogA.put_same{x:LogA}{m:List EntA}(h:∀ e∈m,x.fits e.index e.term):x.put m=x∧x.put0 m=0:=by
  have:=LogA.kn_all h
  constructor
  · unfold LogA.put;rw[if_neg V]
  unfold LogA.put0;rw[if_neg V]
end Go.Proofs.YtkkeknmkipkbmaaGreat
set_option linter.unusedVariables false
set_option linter.unusedSectionVars false
namespace Go.Sc
theorem ws{a b:Nat}(h:b≤a)(h2:a<18446744073709551616):IntKind.u64.wrap ((a:Int) - (b:Int))=((a - b:Nat):Int):=by
  rw[show(a:Int) - (b:Int)=((a - b:Nat):Int)by omega];exact xA V
theorem zRL(a b:Nat):IntKind.u64.wrap (((a+b:Nat):Int))=(((a+b)%18446744073709551616:Nat):Int):=by
  rw[jM];unfold u64;omega
theorem jn{α:Type}{p:α→Prop}{l:List α}{k:Nat}(h:∀ x∈l,p x):∀ x∈l.drop k,p x:=fun x hx=>h x (List.mem_of_mem_drop hx)
theorem zC7{α:Type}{p:α→Prop}{l:List α}{k:Nat}(h:∀ x∈l,p x):∀ x∈l.take k,p x:=fun x hx=>h x (List.mem_of_mem_take hx)
section
variable {w0 w w':World} {S:List Nat} {L Lin Lout:List Res}
theorem Own.starSel{rs ss:List Res}(i:Nat)(f:Nat→Nat)(hf:∀ k r,ss[k]?=some r→rs[f k]?=some r)(hj:∀ a b,a≠b→f a≠f b)(h1:L[i]?=some (Res.star rs))(h:Own w0 S L w):Own w0 S (L.set i (Res.star ss)) w:=by
  refine h.turn h1 ?_ ?_
  · rintro⟨h3,h4⟩
    refine⟨fun r hr=> ?_,fun a b r s hab hr hs=>h4 (f a) (f b) r s (hj a b hab) (hf a r hr) (hf b s hs)⟩
    obtain⟨k,hk,rfl⟩:=List.mem_iff_getElem.1 hr
    exact h3 _ (List.mem_of_getElem? (hf k _ (List.getElem?_eq_getElem hk)))
  intro b hb
  obtain⟨k,s,hs,hb⟩:=mem_fps.1 hb
  exact mem_fps.2 ⟨f k,s,hf k s hs,hb⟩
theorem Own.starTake{α:Type}{g:α→Res}{l:List α}(i k:Nat)(h1:L[i]?=some (Res.star (l.map g)))(h:Own w0 S L w):Own w0 S (L.set i (Res.star ((l.take k).map g))) w:=by
  refine h.starSel i id ?_ (fun a b h=>h) h1
  intro a r hr
  rw[List.map_take,List.getElem?_take]at hr
  split at hr
  · exact hr
  cases hr
theorem Own.starDrop{α:Type}{g:α→Res}{l:List α}(i k:Nat)(h1:L[i]?=some (Res.star (l.map g)))(h:Own w0 S L w):Own w0 S (L.set i (Res.star ((l.drop k).map g))) w:=by
  refine h.starSel i (k+ ·) ?_ (fun a b h=>by show k+a≠k+b;omega) h1
  intro a r hr
  rwa [List.map_drop,List.getElem?_drop]at hr
theorem Own.starApp{α:Type}{g:α→Res}{l m:List α}(i j:Nat)(hij:i≠j)(h1:L[i]?=some (Res.star (l.map g)))(h2:L[j]?=some (Res.star (m.map g)))(h:Own w0 S L w):Own w0 S ((L.set i (Res.star ((l++m).map g))).eraseIdx j) w:=by
  rw[List.map_append]
  generalize l.map g=rs at h1 ⊢
  generalize m.map g=ss at h2 ⊢
  have at_:∀ (k:Nat) (s:Res),(rs++ss)[k]?=some s→(k<rs.length∧rs[k]?=some s)∨(rs.length≤k∧ss[k - rs.length]?=some s):=by
    intro k s hs
    rw[List.getElem?_append]at hs
    split at hs
    · exact .inl ⟨by assumption,hs⟩
    exact .inr ⟨by omega,hs⟩
  refine h.join hij h1 h2 ?_ ?_
  · rintro⟨h3,h4⟩ ⟨h5,h5'⟩ h6
    refine⟨fun s hs=> ?_,?_⟩
    · rcases List.mem_append.1 hs with hs|hs
      · exact h3 s hs
      exact h5 s hs
    intro a b s t hab hs ht x hx hx'
    rcases at_ a s hs with⟨q,h7⟩|⟨q,h7⟩<;>rcases at_ b t ht with⟨q',h8⟩|⟨q',h8⟩
    · exact h4 a b s t hab h7 h8 x hx hx'
    · exact h6 x (mem_fps.2 ⟨a,s,h7,hx⟩) (mem_fps.2 ⟨_,t,h8,hx'⟩)
    · exact h6 x (mem_fps.2 ⟨b,t,h8,hx'⟩) (mem_fps.2 ⟨_,s,h7,hx⟩)
    exact h5' (a - rs.length) (b - rs.length) s t V h7 h8 x hx hx'
  intro b hb
  obtain⟨k,s,hs,hb⟩:=mem_fps.1 hb
  rcases at_ k s hs with⟨_,h7⟩|⟨_,h7⟩
  · exact .inl (mem_fps.2 ⟨k,s,h7,hb⟩)
  exact .inr (mem_fps.2 ⟨_,s,h7,hb⟩)
end
theorem zIq{w:World}{e:TypeId}{sz n o:Nat}{v u:Value}{cs:List Value}(h:w.ownsRow 0 e sz v n cs)(ho:o<cs.length):
    (∃ u0,w.cell? ⟨kL v,xH v+o,none⟩=some u0)∧w.frozen? ⟨kL v,xH v+o,none⟩=false∧(w.setCell ⟨kL v,xH v+o,none⟩ u).ownsRow 0 e sz v n (cs.set o u)∧yd v=[kL v]∧Keep [kL v] w (w.setCell ⟨kL v,xH v+o,none⟩ u):=by
  obtain⟨hl,h|⟨g,cap,cur,rfl,h0,h1,h2,h3,h4,h5⟩⟩:=h
  · obtain⟨rfl,rfl⟩:=h;simp at hl;subst hl;simp at ho
  have e1:kL (.slice (some ⟨g,0,none⟩) n cap)=g:=rfl
  have e2:xH (.slice (some ⟨g,0,none⟩) n cap)=0:=rfl
  rw[e1,e2,Nat.zero_add]
  have hr:Row w g e cur.toList:=⟨0,0,by simpa using h1, .inl (Nat.le_refl _)⟩
  have hle:n*sz≤cur.size:=by rw[h4];exact Nat.mul_le_mul_right _ h2
  have hoc:o<cur.toList.length:=by simp;omega
  have hs:=hr.set (off:=o) u
  refine⟨⟨_,hr.cell (List.getElem?_eq_getElem hoc)⟩,hr.free hoc,⟨by simpa using hl, .inr ⟨g,cap,cur.setIfInBounds o u,O,h0,?_,h2,h3,by simpa using h4,?_⟩⟩,O,hs.2⟩
  · simp[World.setCell,Array.getElem?_modify,h1]
  rw[←h5,Array.toList_setIfInBounds,List.take_set]
theorem zMH{P:Program}{w:World}{e:TypeId}{sz n o:Nat}{v:Value}{cs vs:List Value}(h:w.ownsRow 0 e sz v n cs)(hv:∀ u∈vs,cell1 u=true)(ho:o+vs.length≤cs.length)(hp:0<vs.length):
    ∃ w',(storeCells ⟨kL v,xH v+o,none⟩ vs 0).run P w= .ok () w'∧w'.ownsRow 0 e sz v n (yy cs o vs)∧yd v=[kL v]∧Keep [kL v] w w':=by
  obtain⟨hl,h|⟨g,cap,cur,rfl,h0,h1,h2,h3,h4,h5⟩⟩:=h
  · obtain⟨_,rfl⟩:=h;rw[Nat.zero_mul]at hl;omega
  have e1:kL (.slice (some ⟨g,0,none⟩) n cap)=g:=rfl
  have e2:xH (.slice (some ⟨g,0,none⟩) n cap)=0:=rfl
  rw[e1,e2,Nat.zero_add]
  -- one cell after the other
  have key:∀ (us:List Value) (k:Nat) (w:World) (cs:List Value),(∀ u∈us,cell1 u=true)→w.ownsRow 0 e sz (.slice (some ⟨g,0,none⟩) n cap) n cs→o+k+us.length≤cs.length→
      ∃ w',(storeCells ⟨g,o,none⟩ us k).run P w= .ok () w'∧w'.ownsRow 0 e sz (.slice (some ⟨g,0,none⟩) n cap) n (yy cs (o+k) us)∧Keep [g] w w':=by
    intro us
    induction us with
    |nil=>intro k w cs _ hO _;exact⟨w,by simp[storeCells],by simpa [yy]using hO,Keep.refl _ _⟩
    |cons u us ih=>
      intro k w cs hu hO hle
      simp only[List.length_cons]at hle
      obtain⟨⟨u0,hc⟩,hf,hO',hb,hk⟩:=zIq (u:=u) (o:=o+k) hO V
      rw[e1,e2,Nat.zero_add]at hc hf hO' hk
      have hs:=zBN (P:=P) (w:=w) (a:=⟨g,o+k,none⟩) (hu u qQ) hc hf
      obtain⟨w',hw,hr',hk'⟩:=ih (k+1) _ _ (fun z hz=>hu z (by simp[hz])) hO' qX
      refine⟨w',by simp[storeCells,ji,hs,hw],?_,hk.trans hk'⟩
      have:yy (cs.set (o+k) u) (o+(k+1)) us=yy cs (o+k) (u::us):=by
        unfold yy
        have hlt:o+k<cs.length:=by omega
        have e1:(cs.set (o+k) u).take (o+(k+1))=cs.take (o+k)++[u]:=by
          rw[show o+(k+1)=(o+k)+1 by omega,List.take_set,List.take_succ_eq_append_getElem hlt,List.set_append_right _ _ qX]
          simp[Nat.min_eq_left (Nat.le_of_lt hlt)]
        have e2:(cs.set (o+k) u).drop (o+(k+1)+us.length)=cs.drop (o+k+(us.length+1)):=by
          rw[List.drop_set_of_lt V]
          congr 1
          omega
        rw[e1,e2];simp
      rwa [this]at hr'
  obtain⟨w',q1,q2,q3⟩:=key vs 0 w cs hv ⟨hl, .inr ⟨g,cap,cur,rfl,h0,h1,h2,h3,h4,h5⟩⟩ V
  exact⟨w',q1,q2,O,q3⟩
theorem zJh{α:Type}{g:α→List Value}(hg:∀ x,(g x).length=1){l:List α}{k:Nat}{a:α}:(l.set k a).flatMap g=(l.flatMap g).set k ((g a).headD default):=by
  induction l generalizing k with
  |nil=>simp
  |cons b l ih=>
    have hb:=hg b
    have ha:=hg a
    match hgb:g b,hga:g a,hb,ha with
    | [x],[y],_,_=>
      cases k with
      |zero=>simp[hgb,hga]
      |succ k=>simp only[List.set_cons_succ,List.flatMap_cons,hgb,List.cons_append,List.nil_append,ih,hga]
section
variable {P:Program} {n:Nat} {ops:Array Oper} {N R:K} {X:List (Nat×K)} {f:Nat→Value} {rest:List Oper} {w0:World} {S:List Nat} {L:List Res}
variable {d:Nat} {ty:TypeId} {p:String} {af:Array Edge} {x y:Operand} {t e:TypeId}
theorem zQb(i o:Nat){off sz m:Nat}{v u:Value}{cs:List Value}(hx:ev f x= .pointer (some ⟨kL v,off,none⟩))(ho:off=xH v+o)(hy:ev f y=u)(hL:L[i]?=some (Res.vec e sz v m cs))(ht:zA8 P t=some 1)(hv:cell1 u=true)(hlt:o<cs.length)
    (k:CL P n ops rest N f (Own w0 S (L.set i (Res.vec e sz v m (cs.set o u))))):CL P n ops (⟨none, .store t x y,ty,p,af,none⟩::rest) N f (Own w0 S L):=by
  intro w hw
  simp only[zA8,Option.map_eq_some_iff]at ht
  obtain⟨i0,hi0,hs0⟩:=ht
  obtain⟨⟨u0,hc⟩,hf,hO,hb,hk⟩:=zIq (u:=u) (hw.holds i _ hL) hlt
  subst ho
  have hst:=zAx (P:=P) hi0 hs0 (w:=w) hv hc hf
  have h1:=hw.frame1 (r':=Res.vec e sz v m (cs.set o u)) (E:=[]) hL (Own.mk1 (by show Keep (yd v) _ _;rw[hb];exact hk) hO (fun b' hb'=> .inl hb'))
  refine zCy (w':=w.setCell ⟨kL v,xH v+o,none⟩ u) ?_ (k _ (by simpa using h1))
  simp[execOp,hx,hy,Instr.storeAt,Instr.sureAddr,hst]
theorem zQU{α:Type}{g:α→List Value}{xs:List α}(k j:Nat)(a:α){off:Nat}{v u:Value}(hL:L[k]?=some (Res.vec e 1 v xs.length (xs.flatMap g)))(hg:∀ x,(g x).length=1)(hx:ev f x= .pointer (some ⟨kL v,off,none⟩))(ho:off=xH v+j)(hy:ev f y=u)(hu:g a=[u])(hc:cell1 u=true)(hj:j<xs.length)(ht:zA8 P t=some 1)
    (kk:CL P n ops rest N f (Own w0 S (L.set k (Res.vec e 1 v (xs.set j a).length ((xs.set j a).flatMap g))))):CL P n ops (⟨none, .store t x y,ty,p,af,none⟩::rest) N f (Own w0 S L):=by
  refine zQb k j hx ho hy hL ht hc (by rw[jx hg];omega) ?_
  rw[zJh hg,hu,List.length_set]at kk
  exact kk
theorem yu{α:Type}{g:α→List Value}{xs:List α}(k j:Nat)(a:α){off:Nat}{v u:Value}(hL:L[k]?=some (Res.vec e 1 v xs.length (xs.flatMap g)))(hg:∀ x,(g x).length=1)(hx:ev f x= .pointer (some ⟨kL v,off,none⟩))(ho:off=xH v+j)(hy:ev f y=u)(hu:g a=[u])(hc:cell1 u=true)(hj:j<xs.length)
    (kk:CL P n ops rest N f (Own w0 S (L.set k (Res.vec e 1 v (xs.set j a).length ((xs.set j a).flatMap g))))) (ht:zA8 P t=some 1:=by kernel_rfl):CL P n ops (⟨none, .store t x y,ty,p,af,none⟩::rest) N f (Own w0 S L):=zQU k j a hL hg hx ho hy hu hc hj ht kk
end
def arrSz(P:Program)(t:TypeId):Option (Nat×Nat):=match P.underlying t with|some (.array n e)=>(P.info? e).map fun i=>(n,i.size)|_=>none
section
variable {P:Program} {n:Nat} {ops:Array Oper} {N R:K} {X:List (Nat×K)} {f:Nat→Value} {A:World→Prop} {rest:List Oper}
variable {d:Nat} {ty:TypeId} {p:String} {af:Array Edge} {x y:Operand} {t e:TypeId}
end
theorem zPb{P:Program}{n:Nat}{x y:Code}{M R:K}{X:List (Nat×K)}{f:Nat→Value}{w0:World}{S:List Nat}{L0:List Res}{α0 α1 α2 α3 α4 α5:Type}(sl:α0→α1→α2→α3→α4→α5→List (Nat×Value))(Φ:α0→α1→α2→α3→α4→α5→Prop)(L:α0→α1→α2→α3→α4→α5→List Res)
    (hx:C P n x (fun f w=>∃ (a0:α0) (a1:α1) (a2:α2) (a3:α3) (a4:α4) (a5:α5),Agr f (sl a0 a1 a2 a3 a4 a5)∧Φ a0 a1 a2 a3 a4 a5∧Own w0 S (L a0 a1 a2 a3 a4 a5) w) R X f (Own w0 S L0))
    (hy:∀ (a0:α0) (a1:α1) (a2:α2) (a3:α3) (a4:α4) (a5:α5) (g:Nat→Value),Φ a0 a1 a2 a3 a4 a5→C P n y M R X (zAL g (sl a0 a1 a2 a3 a4 a5)) (Own w0 S (L a0 a1 a2 a3 a4 a5))):C P n (.seq x y) M R X f (Own w0 S L0):=
  zAB (α0×α1×α2×α3×α4×α5) (fun s=>sl s.1 s.2.1 s.2.2.1 s.2.2.2.1 s.2.2.2.2.1 s.2.2.2.2.2) (fun s=>Φ s.1 s.2.1 s.2.2.1 s.2.2.2.1 s.2.2.2.2.1 s.2.2.2.2.2) (fun s=>L s.1 s.2.1 s.2.2.1 s.2.2.2.1 s.2.2.2.2.1 s.2.2.2.2.2) (fun w hw=>kR (hx w hw) fun f w ⟨a0,a1,a2,a3,a4,a5,h1,h2,h3⟩=>⟨(a0,a1,a2,a3,a4,a5),h1,h2,h3⟩) (fun s g h=>hy s.1 s.2.1 s.2.2.1 s.2.2.2.1 s.2.2.2.2.1 s.2.2.2.2.2 g h)
theorem zMz{P:Program}{n:Nat}{cc:Code}{M R:K}{X:List (Nat×K)}{f:Nat→Value}{w0:World}{S:List Nat}{L0:List Res}{α0 α1 α2 α3 α4 α5:Type}(sl:α0→α1→α2→α3→α4→α5→List (Nat×Value))(Φ:α0→α1→α2→α3→α4→α5→Prop)(L:α0→α1→α2→α3→α4→α5→List Res)(μ:α0→α1→α2→α3→α4→α5→Nat)
    (h0:∀ w,Own w0 S L0 w→∃ (a0:α0) (a1:α1) (a2:α2) (a3:α3) (a4:α4) (a5:α5),Agr f (sl a0 a1 a2 a3 a4 a5)∧Φ a0 a1 a2 a3 a4 a5∧Own w0 S (L a0 a1 a2 a3 a4 a5) w)
    (round:∀ (a0:α0) (a1:α1) (a2:α2) (a3:α3) (a4:α4) (a5:α5) (g:Nat→Value),Φ a0 a1 a2 a3 a4 a5→C P n cc (fun f' w'=>∃ (a0':α0) (a1':α1) (a2':α2) (a3':α3) (a4':α4) (a5':α5),Agr f' (sl a0' a1' a2' a3' a4' a5')∧Φ a0' a1' a2' a3' a4' a5'∧Own w0 S (L a0' a1' a2' a3' a4' a5') w'∧μ a0' a1' a2' a3' a4' a5'<μ a0 a1 a2 a3 a4 a5) R X (zAL g (sl a0 a1 a2 a3 a4 a5)) (Own w0 S (L a0 a1 a2 a3 a4 a5))):C P n (.loop cc) M R X f (Own w0 S L0):=
  zAl (α0×α1×α2×α3×α4×α5) (fun s=>sl s.1 s.2.1 s.2.2.1 s.2.2.2.1 s.2.2.2.2.1 s.2.2.2.2.2) (fun s=>Φ s.1 s.2.1 s.2.2.1 s.2.2.2.1 s.2.2.2.2.1 s.2.2.2.2.2) (fun s=>L s.1 s.2.1 s.2.2.1 s.2.2.2.1 s.2.2.2.2.1 s.2.2.2.2.2) (fun s=>μ s.1 s.2.1 s.2.2.1 s.2.2.2.1 s.2.2.2.2.1 s.2.2.2.2.2) (fun w hw=>let ⟨a0,a1,a2,a3,a4,a5,h1,h2,h3⟩:=h0 w hw;⟨(a0,a1,a2,a3,a4,a5),h1,h2,h3⟩)
    (fun s g h w hw=>kR (round s.1 s.2.1 s.2.2.1 s.2.2.2.1 s.2.2.2.2.1 s.2.2.2.2.2 g h w hw) fun f' w' ⟨a0',a1',a2',a3',a4',a5',h1,h2,h3,h4⟩=>⟨(a0',a1',a2',a3',a4',a5'),h1,h2,h3,h4⟩)
end Go.Sc
