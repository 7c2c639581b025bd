import Derived.Test.YtkkeknmkipkbmaaGreatFwU
set_option linter.unusedSimpArgs false
set_option linter.unusedVariables false
set_option linter.unusedSectionVars false
namespace Go.Sc
section
variable {P:Program} {n:Nat} {ops:Array Oper} {N R:K} {X:List (Nat×K)} {f:Nat→Value} {rest:List Oper} {w0:World} {S:List Nat} {L:List Res}
variable {d:Nat} {ty:TypeId} {p:String} {af:Array Edge} {x y:Operand} {t e:TypeId}
theorem Own.cutG{w:World}{T:TypeId}{v:Value}{m:Nat}{cs:List Value}(i k:Nat)(hL:L[i]?=some (Res.vec T 1 v m cs))(hk:k≤m)(h:Own w0 S L w):Own w0 S (L.set i (Res.vec T 1 (yx v 0 k 1) k (cs.take k))) w:=by
  refine h.turn hL ?_ ?_
  · rintro⟨hl,⟨rfl,h1⟩|⟨g,cap,cur,rfl,h0,h1,h2,h3,h4,h5⟩⟩
    · subst h1
      have hk0:k=0:=by omega
      subst hk0
      exact⟨by simp, .inl ⟨O,O⟩⟩
    have e:yx (.slice (some ⟨g,0,none⟩) m cap) 0 k 1= .slice (some ⟨g,0,none⟩) k cap:=by
      show x6 (some ⟨g,0,none⟩) cap 0 k cap 1=_
      unfold x6
      simp[Addr.add]
    rw[e]
    refine⟨by rw[List.length_take];omega, .inr ⟨g,cap,cur,O,h0,h1,by omega,h3,h4,?_⟩⟩
    rw[←h5,List.take_take]
    congr 1;omega
  intro b hb
  have:yW (yx v 0 k 1)=yW v∨yW (yx v 0 k 1)=[]:=by
    cases v with
    |slice a m cap=>left;show yW (x6 a cap 0 k cap 1)=_;exact zBC a m cap 0 k cap 1
    |_=>left;rfl
  rcases this with h1|h1
  · show b∈yW v;rw[←h1];exact hb
  have hb':b∈yW (yx v 0 k 1):=hb
  rw[h1]at hb';cases hb'
theorem zMw{T:TypeId}{v z:Value}{m:Nat}{cs:List Value}(i k:Nat)(hx:ev f x=yx v k m 1)(hL:L[i]?=some (Res.vec T 1 v m cs))(ht:P.underlying t=some (.slice T))(hz:(P.info? T).bind (·.zero)=some z)(hz1:z.cells= #[z])(hzc:cell1 z=true)(hk:k≤m)
    (kk:CL P n ops rest N f (Own w0 S (L.set i (Res.vec T 1 v m (cs.take k++List.replicate (m - k) z))))):CL P n ops (⟨none, .call ⟨.builtin .clear,#[x],#[t]⟩,ty,p,af,none⟩::rest) N f (Own w0 S L):=by
  intro w hw
  simp only[Option.bind_eq_some_iff]at hz
  obtain⟨i0,hi0,hz0⟩:=hz
  by_cases hkl:k=m
  · subst hkl
    obtain⟨hlen,_⟩:=hw.holds i _ hL
    have e1:(cs.take k++List.replicate (k - k) z)=cs:=by rw[Nat.sub_self,List.replicate_zero,List.append_nil];exact List.take_of_length_le V
    rw[e1]at kk
    have hLs:L.set i (Res.vec T 1 v k cs)=L:=by
      apply List.ext_getElem?
      intro j
      by_cases hj:j=i
      · subst hj;rw[List.getElem?_set_self (List.getElem?_eq_some_iff.1 hL).1,hL]
      rw[List.getElem?_set_ne (Ne.symm hj)]
    rw[hLs]at kk
    refine zHQ (v:= .tuple #[]) (w':=w) ?_ (kk _ hw)
    obtain⟨_,⟨rfl,h1⟩|⟨g,cap,cur,rfl,_⟩⟩:=hw.holds i _ hL
    · subst h1
      simp[execOp,resolve,invoke,builtin,hx,yx,x6,Builtin.clear_,run_underlying ht]
    have e2:yx (.slice (some ⟨g,0,none⟩) k cap) k k 1= .slice (if cap=k then some ⟨g,0,none⟩else some ⟨g,0+k*1,none⟩) 0 (cap - k):=by
      show x6 (some ⟨g,0,none⟩) cap k k cap 1=_
      unfold x6;simp only[Nat.sub_self,Nat.mul_one,Nat.zero_add,Option.map_some]
      congr 1
      split
      · rfl
      by_cases h0:k=0<;>simp[Addr.add,h0]
    rw[e2]at hx
    split at hx<;>simp[execOp,resolve,invoke,builtin,hx,Builtin.clear_,run_underlying ht]
  obtain⟨hl,⟨rfl,h1⟩|⟨g,cap,cur,rfl,h0,h1,h2,h3,h4,h5⟩⟩:=hw.holds i _ hL
  · omega
  have hcapk:cap≠k:=by omega
  have e2:yx (.slice (some ⟨g,0,none⟩) m cap) k m 1= .slice (some ⟨g,k,none⟩) (m - k) (cap - k):=by
    show x6 (some ⟨g,0,none⟩) cap k m cap 1=_
    unfold x6;rw[if_neg V];simp[Addr.add];omega
  rw[e2]at hx
  have hO:w.ownsRow 0 T 1 (.slice (some ⟨g,0,none⟩) m cap) m cs:=⟨hl, .inr ⟨g,cap,cur,rfl,h0,h1,h2,h3,h4,h5⟩⟩
  have hfl:cs.length=m:=by omega
  obtain⟨w',hst,hO',hb,hk'⟩:=zKS (P:=P) (o:=k) (vs:=List.replicate (m - k) z) hO (by intro u hu;rw[List.eq_of_mem_replicate hu];exact hzc) (by rw[hfl,List.length_replicate];omega) (by rw[List.length_replicate];omega)
  have e3:yp cs k (List.replicate (m - k) z)=cs.take k++List.replicate (m - k) z:=by
    unfold yp;rw[List.length_replicate,show k+(m - k)=m by omega,List.drop_of_length_le V,List.append_nil]
  rw[e3]at hO'
  have h6:=hw.frame1 (E:=[]) (r':=Res.vec T 1 (.slice (some ⟨g,0,none⟩) m cap) m (cs.take k++List.replicate (m - k) z)) hL (Own.mk1 (by show Keep [g] w w';exact hk') hO' (fun b' hb'=> .inl hb'))
  refine zHQ (v:= .tuple #[]) (w':=w') ?_ (kk _ (by simpa using h6))
  have e4:(Builtin.zeroCells z.cells (m - k)).toList=List.replicate (m - k) z:=by
    simp[Builtin.zeroCells,hz1,Nat.mod_one,List.map_const']
  obtain⟨q,hq⟩:∃ q,m - k=q+1:=⟨m - k - 1,by omega⟩
  have hst':(storeCells ⟨g,k,none⟩ (List.replicate (q+1) z)).run P w= .ok () w':=by
    rw[←hq]
    have e5:xM (.slice (some ⟨g,0,none⟩) m cap)+k=k:=by show 0+k=k;omega
    rw[e5]at hst;exact hst
  rw[hq]at e4
  simp[execOp,resolve,invoke,builtin,hx,hq,Builtin.clear_,run_underlying ht,zeroValue,typeInfo,hi0,hz0,e4,hst']
end
theorem zCL{α:Type}{g:α→List Value}(hg:∀ a,(g a).length=1)(l:List α):∀ k,(l.take k).flatMap g=(l.flatMap g).take k:=by
  induction l with
  |nil=>intro k;simp
  |cons a l ih=>
    intro k
    cases k with
    |zero=>rfl
    |succ k=>
      rw[List.take_succ_cons,List.flatMap_cons,List.flatMap_cons,ih,List.take_append,List.take_of_length_le (l:=g a) (by rw[hg a];omega),hg a];rfl
theorem Own.cutL{α:Type}{g:α→List Value}{w0 w:World}{S:List Nat}{L:List Res}{T:TypeId}{v:Value}{l:List α}(hg:∀ a,(g a).length=1)(i k:Nat)(hL:L[i]?=some (Res.vec T 1 v l.length (l.flatMap g)))(hk:k≤l.length)(h:Own w0 S L w):Own w0 S (L.set i (Res.vec T 1 (yx v 0 k 1) (l.take k).length ((l.take k).flatMap g))) w:=by
  rw[zCL hg,List.length_take,Nat.min_eq_left hk]
  exact h.cutG i k hL hk
section
variable {P:Program} {n:Nat} {ops:Array Oper} {N R:K} {X:List (Nat×K)} {f:Nat→Value} {rest:List Oper} {w0:World} {S:List Nat} {L:List Res}
variable {d:Nat} {ty:TypeId} {p:String} {af:Array Edge} {x y:Operand} {t e:TypeId}
theorem zFh{α:Type}{g:α→List Value}{z0:α}{z:Value}(h:g z0=[z]):∀ k,(List.replicate k z0).flatMap g=List.replicate k z
  |0=>rfl
  |k+1=>by rw[List.replicate_succ,List.flatMap_cons,zFh h k,h,List.replicate_succ];rfl
theorem zJU{α:Type}{g:α→List Value}(hg:∀ a,(g a).length=1){z0:α}{z:Value}(hz0:g z0=[z]){T:TypeId}{v:Value}{l:List α}(i k:Nat)(hx:ev f x=yx v k l.length 1)(hL:L[i]?=some (Res.vec T 1 v l.length (l.flatMap g)))(ht:P.underlying t=some (.slice T))(hz:(P.info? T).bind (·.zero)=some z)(hz1:z.cells= #[z])(hzc:cell1 z=true)(hk:k≤l.length)
    (kk:∀ cc:List α,cc.length=l.length→cc.take k=l.take k→CL P n ops rest N f (Own w0 S (L.set i (Res.vec T 1 v cc.length (cc.flatMap g))))):CL P n ops (⟨none, .call ⟨.builtin .clear,#[x],#[t]⟩,ty,p,af,none⟩::rest) N f (Own w0 S L):=by
  have h1:(l.take k).length=k:=by rw[List.length_take];omega
  have h2:(l.take k++List.replicate (l.length - k) z0).length=l.length:=by rw[List.length_append,h1,List.length_replicate];omega
  refine zMw i k hx hL ht hz hz1 hzc hk ?_
  have h3:=kk (l.take k++List.replicate (l.length - k) z0) h2 (by rw[List.take_append_of_le_length V,List.take_take,Nat.min_self])
  rw[h2,List.flatMap_append,zCL hg,zFh hz0]at h3
  exact h3
end
end Go.Sc
