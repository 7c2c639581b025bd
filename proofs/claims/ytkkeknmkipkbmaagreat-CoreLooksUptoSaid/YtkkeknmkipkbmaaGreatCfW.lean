import Derived.Test.YtkkeknmkipkbmaaGreatFwU
import Derived.Test.YtkkeknmkipkbmaaGreatEnc
import Derived.Test.YtkkeknmkipkbmaaGreatCoS
set_option linter.unusedSimpArgs false
set_option linter.unusedVariables false
set_option linter.unusedSectionVars false
namespace Go.Sc
section
variable {P:Program} {n:Nat} {ops:Array Oper} {N R:K} {X:List (Nat×K)} {f:Nat→Value} {rest:List Oper} {w0:World} {S:List Nat} {L:List Res}
variable {d:Nat} {ty:TypeId} {p:String} {af:Array Edge} {x y:Operand} {t e:TypeId}
theorem Own.cutG{w:World}{T:TypeId}{v:Value}{m:Nat}{cs:List Value}(i k:Nat)(hL:L[i]?=some (Res.vec T 1 v m cs))(hk:k≤m)(h:Own w0 S L w):Own w0 S (L.set i (Res.vec T 1 (y3 v 0 k 1) k (cs.take k))) w:=by
  refine h.turn hL ?_ ?_
  · rintro⟨hl,⟨rfl,h1⟩|⟨g,cap,cur,rfl,h0,h1,h2,h3,h4,h5⟩⟩
    · subst h1
      have hk0:k=0:=by omega
      subst hk0
      exact⟨by simp, .inl ⟨O,O⟩⟩
    have e:y3 (.slice (some ⟨g,0,none⟩) m cap) 0 k 1= .slice (some ⟨g,0,none⟩) k cap:=by
      show kO (some ⟨g,0,none⟩) cap 0 k cap 1=_
      unfold kO
      simp[Addr.add]
    rw[e]
    refine⟨by rw[List.length_take];omega, .inr ⟨g,cap,cur,O,h0,h1,by omega,h3,h4,?_⟩⟩
    rw[←h5,List.take_take]
    congr 1;omega
  intro b hb
  have:yd (y3 v 0 k 1)=yd v∨yd (y3 v 0 k 1)=[]:=by
    cases v with
    |slice a m cap=>left;show yd (kO a cap 0 k cap 1)=_;exact zB3 a m cap 0 k cap 1
    |_=>left;rfl
  rcases this with h1|h1
  · show b∈yd v;rw[←h1];exact hb
  have hb':b∈yd (y3 v 0 k 1):=hb
  rw[h1]at hb';cases hb'
theorem zOv{T:TypeId}{v z:Value}{m:Nat}{cs:List Value}(i k:Nat)(hx:ev f x=y3 v k m 1)(hL:L[i]?=some (Res.vec T 1 v m cs))(ht:P.underlying t=some (.slice T))(hz:(P.info? T).bind (·.zero)=some z)(hz1:z.cells= #[z])(hzc:cell1 z=true)(hk:k≤m)
    (kk:CL P n ops rest N f (Own w0 S (L.set i (Res.vec T 1 v m (cs.take k++List.replicate (m - k) z))))):CL P n ops (⟨none, .call ⟨.builtin .clear,#[x],#[t]⟩,ty,p,af,none⟩::rest) N f (Own w0 S L):=by
  intro w hw
  simp only[Option.bind_eq_some_iff]at hz
  obtain⟨i0,hi0,hz0⟩:=hz
  by_cases hkl:k=m
  · subst hkl
    obtain⟨hlen,_⟩:=hw.holds i _ hL
    have e1:(cs.take k++List.replicate (k - k) z)=cs:=by rw[Nat.sub_self,List.replicate_zero,List.append_nil];exact List.take_of_length_le V
    rw[e1]at kk
    have hLs:L.set i (Res.vec T 1 v k cs)=L:=by
      apply List.ext_getElem?
      intro j
      by_cases hj:j=i
      · subst hj;rw[List.getElem?_set_self (List.getElem?_eq_some_iff.1 hL).1,hL]
      rw[List.getElem?_set_ne (Ne.symm hj)]
    rw[hLs]at kk
    refine zH9 (v:= .tuple #[]) (w':=w) ?_ (kk _ hw)
    obtain⟨_,⟨rfl,h1⟩|⟨g,cap,cur,rfl,_⟩⟩:=hw.holds i _ hL
    · subst h1
      simp[execOp,resolve,invoke,builtin,hx,y3,kO,Builtin.clear_,run_underlying ht]
    have e2:y3 (.slice (some ⟨g,0,none⟩) k cap) k k 1= .slice (if cap=k then some ⟨g,0,none⟩else some ⟨g,0+k*1,none⟩) 0 (cap - k):=by
      show kO (some ⟨g,0,none⟩) cap k k cap 1=_
      unfold kO;simp only[Nat.sub_self,Nat.mul_one,Nat.zero_add,Option.map_some]
      congr 1
      split
      · rfl
      by_cases h0:k=0<;>simp[Addr.add,h0]
    rw[e2]at hx
    split at hx<;>simp[execOp,resolve,invoke,builtin,hx,Builtin.clear_,run_underlying ht]
  obtain⟨hl,⟨rfl,h1⟩|⟨g,cap,cur,rfl,h0,h1,h2,h3,h4,h5⟩⟩:=hw.holds i _ hL
  · omega
  have hcapk:cap≠k:=by omega
  have e2:y3 (.slice (some ⟨g,0,none⟩) m cap) k m 1= .slice (some ⟨g,k,none⟩) (m - k) (cap - k):=by
    show kO (some ⟨g,0,none⟩) cap k m cap 1=_
    unfold kO;rw[if_neg V];simp[Addr.add];omega
  rw[e2]at hx
  have hO:w.ownsRow 0 T 1 (.slice (some ⟨g,0,none⟩) m cap) m cs:=⟨hl, .inr ⟨g,cap,cur,rfl,h0,h1,h2,h3,h4,h5⟩⟩
  have hfl:cs.length=m:=by omega
  obtain⟨w',hst,hO',hb,hk'⟩:=zMH (P:=P) (o:=k) (vs:=List.replicate (m - k) z) hO (by intro u hu;rw[List.eq_of_mem_replicate hu];exact hzc) (by rw[hfl,List.length_replicate];omega) (by rw[List.length_replicate];omega)
  have e3:yy cs k (List.replicate (m - k) z)=cs.take k++List.replicate (m - k) z:=by
    unfold yy;rw[List.length_replicate,show k+(m - k)=m by omega,List.drop_of_length_le V,List.append_nil]
  rw[e3]at hO'
  have h6:=hw.frame1 (E:=[]) (r':=Res.vec T 1 (.slice (some ⟨g,0,none⟩) m cap) m (cs.take k++List.replicate (m - k) z)) hL (Own.mk1 (by show Keep [g] w w';exact hk') hO' (fun b' hb'=> .inl hb'))
  refine zH9 (v:= .tuple #[]) (w':=w') ?_ (kk _ (by simpa using h6))
  have e4:(Builtin.zeroCells z.cells (m - k)).toList=List.replicate (m - k) z:=by
    simp[Builtin.zeroCells,hz1,Nat.mod_one,List.map_const']
  obtain⟨q,hq⟩:∃ q,m - k=q+1:=⟨m - k - 1,by omega⟩
  have hst':(storeCells ⟨g,k,none⟩ (List.replicate (q+1) z)).run P w= .ok () w':=by
    rw[←hq]
    have e5:xH (.slice (some ⟨g,0,none⟩) m cap)+k=k:=by show 0+k=k;omega
    rw[e5]at hst;exact hst
  rw[hq]at e4
  simp[execOp,resolve,invoke,builtin,hx,hq,Builtin.clear_,run_underlying ht,zeroValue,typeInfo,hi0,hz0,e4,hst']
end
theorem zDm{α:Type}{g:α→List Value}(hg:∀ a,(g a).length=1)(l:List α):∀ k,(l.take k).flatMap g=(l.flatMap g).take k:=by
  induction l with
  |nil=>intro k;simp
  |cons a l ih=>
    intro k
    cases k with
    |zero=>rfl
    |succ k=>
      rw[List.take_succ_cons,List.flatMap_cons,List.flatMap_cons,ih,List.take_append,List.take_of_length_le (l:=g a) (by rw[hg a];omega),hg a];rfl
theorem Own.cutL{α:Type}{g:α→List Value}{w0 w:World}{S:List Nat}{L:List Res}{T:TypeId}{v:Value}{l:List α}(hg:∀ a,(g a).length=1)(i k:Nat)(hL:L[i]?=some (Res.vec T 1 v l.length (l.flatMap g)))(hk:k≤l.length)(h:Own w0 S L w):Own w0 S (L.set i (Res.vec T 1 (y3 v 0 k 1) (l.take k).length ((l.take k).flatMap g))) w:=by
  rw[zDm hg,List.length_take,Nat.min_eq_left hk]
  exact h.cutG i k hL hk
section
variable {P:Program} {n:Nat} {ops:Array Oper} {N R:K} {X:List (Nat×K)} {f:Nat→Value} {rest:List Oper} {w0:World} {S:List Nat} {L:List Res}
variable {d:Nat} {ty:TypeId} {p:String} {af:Array Edge} {x y:Operand} {t e:TypeId}
theorem zFp{α:Type}{g:α→List Value}{z0:α}{z:Value}(h:g z0=[z]):∀ k,(List.replicate k z0).flatMap g=List.replicate k z
  |0=>rfl
  |k+1=>by rw[List.replicate_succ,List.flatMap_cons,zFp h k,h,List.replicate_succ];rfl
theorem zMD{α:Type}{g:α→List Value}(hg:∀ a,(g a).length=1){z0:α}{z:Value}(hz0:g z0=[z]){T:TypeId}{v:Value}{l:List α}(i k:Nat)(hx:ev f x=y3 v k l.length 1)(hL:L[i]?=some (Res.vec T 1 v l.length (l.flatMap g)))(ht:P.underlying t=some (.slice T))(hz:(P.info? T).bind (·.zero)=some z)(hz1:z.cells= #[z])(hzc:cell1 z=true)(hk:k≤l.length)
    (kk:∀ cc:List α,cc.length=l.length→cc.take k=l.take k→CL P n ops rest N f (Own w0 S (L.set i (Res.vec T 1 v cc.length (cc.flatMap g))))):CL P n ops (⟨none, .call ⟨.builtin .clear,#[x],#[t]⟩,ty,p,af,none⟩::rest) N f (Own w0 S L):=by
  have h1:(l.take k).length=k:=by rw[List.length_take];omega
  have h2:(l.take k++List.replicate (l.length - k) z0).length=l.length:=by rw[List.length_append,h1,List.length_replicate];omega
  refine zOv i k hx hL ht hz hz1 hzc hk ?_
  have h3:=kk (l.take k++List.replicate (l.length - k) z0) h2 (by rw[List.take_append_of_le_length V,List.take_take,Nat.min_self])
  rw[h2,List.flatMap_append,zDm hg,zFp hz0]at h3
  exact h3
end
end Go.Sc
set_option linter.unusedVariables false
set_option maxRecDepth 10000
namespace Go.Proofs.YtkkeknmkipkbmaaGreat
open Go Go.Sc Go.Proofs
def xe:List Int→Int→List Int
  | [],n=>[n]
  |a::l,n=>if n<a then n::a::l else a::xe l n
def xg(l:List Int)(n:Int):List Int:=l.filter fun x=>decide (x≠n)
theorem zAC(n:Int):∀ (l:List Int),(xe l n).Perm (l++[n])
  | []=>by simp[xe]
  |a::l=>by
    unfold xe
    split
    · exact List.perm_append_comm (l₁:=[n]) (l₂:=a::l)
    exact(zAC n l).cons a
theorem withR_mem{l:List Int}{n x:Int}:x∈xe l n↔x∈l∨x=n:=by rw[(zAC n l).mem_iff];simp
theorem jC(l:List Int)(n:Int):(xe l n).length=l.length+1:=by rw[(zAC n l).length_eq];simp
theorem zDH{n:Int}:∀ {l:List Int},l.Pairwise (· < ·)→n∉l→(xe l n).Pairwise (· < ·)
  | [],_,_=>by simp[xe]
  |a::l,h,hn=>by
    rw[List.pairwise_cons]at h
    simp only[List.mem_cons,not_or]at hn
    unfold xe
    split
    · rename_i c
      refine List.pairwise_cons.2 ⟨fun x hx=> ?_,List.pairwise_cons.2 h⟩
      rcases List.mem_cons.1 hx with rfl|hx
      · exact c
      have:=h.1 x hx;omega
    refine List.pairwise_cons.2 ⟨fun x hx=> ?_,zDH h.2 hn.2⟩
    rcases withR_mem.1 hx with hx|rfl
    · exact h.1 x hx
    omega
theorem zKI{l:List Int}{n:Int}(h:l.Pairwise (· < ·))(hn:n∉l):((l++[n]).mergeSort fun x y=>decide (x≤y))=xe l n:=by
  have h1:((l++[n]).mergeSort fun x y=>decide (x≤y)).Pairwise (fun a b=>decide (a≤b)=true):=List.pairwise_mergeSort (by intro a b c;simp;omega) (by intro a b;simp;omega) _
  have h2:=(zDH h hn).imp (S:=fun a b=>decide (a≤b)=true) (fun{a b} q=>by simp;omega)
  exact List.Perm.eq_of_pairwise (le:=fun a b=>decide (a≤b)=true) (fun a b _ _ p q=>by simp at p q;omega) h1 h2 ((List.mergeSort_perm _ _).trans (zAC n l).symm)
theorem Rises.lt{l:List Int}(h:Rises l):l.Pairwise (· < ·):=(List.pairwise_cons.1 h.1).2
theorem Rises.pos{l:List Int}(h:Rises l):∀ x∈l,1≤x∧x≤16:=fun x hx=>⟨by have:=(List.pairwise_cons.1 h.1).1 x hx;omega,h.2 x hx⟩
theorem zDw{l:List Int}{n:Int}(h:Rises l)(hn:n∉l)(h1:1≤n∧n≤16):Rises (xe l n):=by
  refine⟨List.pairwise_cons.2 ⟨fun x hx=> ?_,zDH h.lt hn⟩,fun x hx=> ?_⟩
  · rcases withR_mem.1 hx with hx|rfl
    · have:=h.pos x hx;omega
    omega
  rcases withR_mem.1 hx with hx|rfl
  · exact h.2 x hx
  exact h1.2
theorem zCR{l:List Int}{n:Int}(h:Rises l):Rises (xg l n):=
  ⟨List.pairwise_cons.2 ⟨fun x hx=>(List.pairwise_cons.1 h.1).1 x (List.mem_filter.1 hx).1,h.lt.sublist List.filter_sublist⟩,fun x hx=>h.2 x (List.mem_filter.1 hx).1⟩
theorem del_mem{l:List Int}{n x:Int}:x∈xg l n↔x∈l∧x≠n:=by simp[xg]
def chg(kind:Int)(c:ConfA)(id:Int):ConfA×Int:=
  if ¬ c.ok then(⟨[],[]⟩,2)
  else if ¬(1≤id∧id≤16)then(⟨[],[]⟩,1)
  else if kind=1 then(if id∈c.vs∨id∈c.ls then(⟨[],[]⟩,9)else(⟨c.vs,xe c.ls id⟩,0))
  else if kind=2 then(if id∈c.ls then(⟨xe c.vs id,xg c.ls id⟩,0)else(⟨[],[]⟩,8))
  else if ¬(id∈c.vs∨id∈c.ls)then(⟨[],[]⟩,8)
  else if id∈c.vs∧c.vs.length=1 then(⟨[],[]⟩,15)
  else(⟨xg c.vs id,xg c.ls id⟩,0)
theorem zDI(n:Int)(ib:Nat)(id:Int)(w:World)(hib:Rd w [] (Res.row ib 3 [Vi id])):Rets Tryz.prog 201 #[Vi n, .pointer (some ⟨ib,0,none⟩)] w fun u_ w'=>u_= .bool (decide (n=id))∧Own w [] [] w':=by
  refine zW Tryz.func201 O Tryz.ntmps201 (Own.start w) ?_
  refine zC (zI O (zA (zC (zD O (kQ (v:=Vi id) O (hib.φ.cell O) (hib.far _ qW) qN O (yR O O O (zI O (zA ?_))))))))
  exact zU (z9 (v:= .bool (decide (n=id))) O O (fun w' hw=>⟨O,hw.drop⟩))
theorem zFM(v:Value)(l:List Int)(ib:Nat)(id:Int)(w:World)(hl:zi l.length)(hib:Rd w [] (Res.row ib 3 [Vi id]))(hv:Rd w [] (Res.sl v l.length (l.flatMap I1))):Rets Tryz.prog 191 #[v, .func (.func 201) #[] #[.pointer (some ⟨ib,0,none⟩)]] w fun u_ w'=>∃ (i:Int),u_=Vi i∧((∃ k:Nat,i=k∧k<l.length∧zG l k=id∧xg (l.take k) id=l.take k)∨(i= -1∧xg l id=l))∧Own w [] [] w':=by
  refine zW Tryz.func191 O Tryz.ntmps191 (Own.start w) ?_
  refine zC (zI O (zA (zP (zC (zD O (zp (pR hv) O O (zD O (zA (zZ ?_)))))))))
  refine xT (fun(k:Nat)=>[(0,v),(1, .func (.func 201) #[] #[.pointer (some ⟨ib,0,none⟩)]),(7,Vj l.length),(8,Vj k)]) (fun(k:Nat)=>k≤l.length∧xg (l.take k) id=l.take k) (fun(k:Nat)=>[]) (fun(k:Nat)=>l.length - k) (fun w' hw=>⟨0,⟨O,O,O,O,trivial⟩,⟨Nat.zero_le _,by simp[xg]⟩,hw⟩) (fun k g hΦ=> ?_)
  refine zC (yI O O O (zA (zP (za O (fun c1=> ?_) (fun c1=> ?_)))))
  ·refine zQ (zP (zZ (zC (zD O (zI O (zA (zC (zD O (zD O (zD O (zk (pR hv) 1 k O O O V O (yH (pR hv) 1 k 0 (fun _=>O) O O V O O ?_))))))))))))
   refine yV (fst:=[]) (cap:=[.pointer (some ⟨ib,0,none⟩)]) O qN O O (fun w' hw=>(zDI (zG l k) ib id w' (hw.rd0 hib)).mono ?_)
   rintro _ w1 ⟨rfl,hO⟩
   refine O0 ?_ (hw.qi hO)
   refine zA (za O (fun c2=> ?_) (fun c2=> ?_))
   ·refine zC (zD O (zI O (zA ?_)))
    exact zU (z9 (v:=Vj k) O O (fun w' hw=>⟨k,O, .inl ⟨k,O,by omega,c2,hΦ.2⟩,hw.drop⟩))
   refine zQ (zV (zt O O (zr V) O (zD O ?_)))
   exact zg (fun w' hw=>⟨k+1,⟨O,O,O,O,trivial⟩,⟨by omega,by rw[zu V,xg,List.filter_append];have h:=hΦ.2;unfold xg at h;rw[h];simp[c2]⟩,hw,V⟩)
  refine yF O (zC (zI O (zA ?_)))
  exact zU (z9 (v:=Vi (-1)) O O (fun w' hw=>⟨-1,O, .inr ⟨O,by have h:=hΦ.2;rwa [List.take_of_length_le V]at h⟩,hw.drop⟩))
theorem zJ4{l:List Int}{n x:Int}:xg (l++[x]) n=xg l n++if x=n then []else [x]:=by
  unfold xg;rw[List.filter_append];by_cases h:x=n<;>simp[h]
theorem zCP{l:List Int}{j:Nat}{n:Int}(hj:j<l.length):xg (l.take (j+1)) n=xg (l.take j) n++if zG l j=n then []else [zG l j]:=by rw[zu hj,zJ4]
theorem zFz{l cl:List Int}{j:Nat}(h:cl.drop j=l.drop j):zG cl j=zG l j:=by
  have:=congrArg (fun q=>zG q 0) h
  simpa [kg]using this
theorem zMZ{cl:List Int}{i:Nat}{x:Int}(hi:i<cl.length):(cl.set i x).take (i+1)=cl.take i++[x]:=by
  rw[List.take_add_one,List.take_set_of_le (Nat.le_refl _)];simp[hi]
theorem zL8{cl:List Int}{i j:Nat}{x:Int}(hi:i<j):(cl.set i x).drop j=cl.drop j:=by rw[List.drop_set,if_pos hi]
theorem zEQ{l cl:List Int}{j:Nat}(h:cl.drop j=l.drop j):cl.drop (j+1)=l.drop (j+1):=by rw[←List.drop_drop,←List.drop_drop,h]
theorem zKN{S:List Nat}(v:Value)(l:List Int)(ib:Nat)(id:Int)(w:World)(hl:zi l.length)(hin:Own w S [Res.vec 3 1 v l.length (l.flatMap I1)] w)(hib:Rd w S (Res.row ib 3 [Vi id])):Rets Tryz.prog 200 #[v, .func (.func 201) #[] #[.pointer (some ⟨ib,0,none⟩)]] w fun u_ w'=>∃ (r:Value),u_=r∧Own w S [Res.vec 3 1 r (xg l id).length ((xg l id).flatMap I1)] w':=by
  refine zW Tryz.func200 O Tryz.ntmps200 hin ?_
  refine zC (zI O (zA (zC (zD O (zD O (a_call O O (fun w' hw=>(zFM v l ib id w' qP (hw.rd0 hib) (hw.qq 0 O)).mono ?_)))))))
  rintro _ w1 ⟨i1_,rfl,hf1_2,hO⟩
  refine O1 ?_ (hw.qi hO)
  refine zI O (zA (zP (zC (zD O (yR O O O (zA (za O (fun c1=> ?_) (fun c1=> ?_))))))))
  ·refine zC (zD O (zI O (zA ?_)))
   exact zU (z9 (v:=v) O O (fun w' hw=>⟨v,O,by have h:=hf1_2.elim (fun⟨k,h1,_⟩=>absurd (h1▸c1:(k:Int)= -1) V) (fun h=>h.2);rw[h];exact hw⟩))
  obtain⟨k,hik,hk1,hk2,hk3⟩:=hf1_2.resolve_right (fun h=>c1 h.1)
  refine zQ (zP (zC (zD O (zt O O (zr V) O (zI O (zA (zZ ?_)))))))
  refine x3 (fun(i:Nat) (j:Nat) (cl:List Int)=>[(0,v),(1, .func (.func 201) #[] #[.pointer (some ⟨ib,0,none⟩)]),(5,Vj i),(6,Vj j)]) (fun(i:Nat) (j:Nat) (cl:List Int)=>(i<j∧j≤l.length∧cl.length=l.length)∧cl.take i=xg (l.take j) id∧cl.drop j=l.drop j) (fun(i:Nat) (j:Nat) (cl:List Int)=>[Res.vec 3 1 v cl.length (cl.flatMap I1)]) (fun(i:Nat) (j:Nat) (cl:List Int)=>l.length - j) (fun w' hw=>⟨k,k+1,l,⟨O,O,(congrArg (Value.int .i64) hik),(congrArg (Value.int .i64) (show i1_+1=((k+1:Nat):Int)by omega)),trivial⟩,⟨⟨by omega,by omega,O⟩,by rw[zCP hk1,hk3,if_pos hk2,List.append_nil],O⟩,hw⟩) (fun i j cl g hΦ=> ?_)
  refine zP (zC (zD O (zD O (zp (pV 0 O) O O (yI O O O (zA (za O (fun c2=> ?_) (fun c2=> ?_))))))))
  ·have hnj:=zFz hΦ.2.2
   refine zQ (zP (zZ (zC (zD O (zD O (zk (pV 0 O) 1 j O O O V O (yH (pV 0 O) 1 j 0 (fun _=>O) O O V O O (zI O (zA (zC (zD O (zD O ?_))))))))))))
   refine yV (fst:=[]) (cap:=[.pointer (some ⟨ib,0,none⟩)]) O qN O O (fun w' hw=>(zDI (zG cl j) ib id w' (hw.rd0 hib)).mono ?_)
   rintro _ w1 ⟨rfl,hO⟩
   refine O1 ?_ (hw.qi hO)
   refine xB (q:=(zG cl j)=id) O O (zA (za O (fun c3=> ?_) (fun c3=> ?_)))
   ·refine zC (zD O (zD O (zD O (zk (pV 0 O) 1 i O O O V O (yu 0 i (zG cl j) O (fun _=>O) O V O O O V (zA (zV (zD O (zt O O (zr V) O (zI O (zA (zV ?_))))))))))))
    refine zD O (zt O O (zr V) O (zI O ?_))
    exact zg (fun w' hw=>⟨i+1,j+1,cl.set i (zG cl j),⟨O,O,O,O,trivial⟩,⟨⟨by omega,by omega,by rw[List.length_set];omega⟩,by rw[zMZ V,zCP V,←hnj,if_neg c3,hΦ.2.1],by rw[zL8 V];exact zEQ hΦ.2.2⟩,hw,V⟩)
   refine zQ (zV (zD O (zt O O (zr V) O (zI O ?_))))
   exact zg (fun w' hw=>⟨i,j+1,cl,⟨O,O,O,O,trivial⟩,⟨⟨by omega,by omega,by omega⟩,by rw[zCP V,←hnj,if_pos (Decidable.not_not.1 c3),List.append_nil,hΦ.2.1],zEQ hΦ.2.2⟩,hw,V⟩)
  refine yF O (zC (zD O (zD O (kW (pV 0 O) 1 i cl.length qN O ⟨_,O⟩ O V V O (zMD (g:=I1) (fun _=>O) (z0:=0) O (T:=3) (v:=v) (l:=cl) 0 i O O qN qN O O V (fun cc hcl1 hcl2=>zA (zC (zD O (zD O (kW (pV 0 O) 1 0 i qN O O ⟨_,O⟩ V V O (zI O (zA ?_))))))))))))
  exact zU (z9 (v:=(y3 v 0 i 1)) O O (fun w' hw=>⟨(y3 v 0 i 1),O,by have h:=hw.cutL (fun _=>rfl) 0 i rfl V;have e:cc.take i=xg l id:=(by rw[hcl2,hΦ.2.1,List.take_of_length_le V]);rw[e]at h;exact h⟩))
theorem zGf{l l':List Int}{id:Int}(hs:l.Pairwise (· < ·))(hn:id∉l)(h:l'.Perm (l++[id]))(h2:l'.Pairwise (fun x y=>jE x y)):l'=xe l id:=by
  rw[←zKI hs hn]
  have h3:((l++[id]).mergeSort fun x y=>decide (x≤y)).Pairwise (fun a b=>decide (a≤b)=true):=List.pairwise_mergeSort (by intro a b c;simp;omega) (by intro a b;simp;omega) _
  refine List.Perm.eq_of_pairwise (le:=fun a b=>decide (a≤b)=true) (fun a b _ _ p q=>by simp at p q;omega) (h2.imp fun q=>by simpa using ole_int.1 q) h3 (h.trans (List.mergeSort_perm _ _).symm)
theorem zKn(v:Value)(l:List Int)(id:Int)(w:World)(hl:l.length≤11)(hs:l.Pairwise (· < ·))(hn:id∉l)(hv:Rd w [] (Res.sl v l.length (l.flatMap I1))):Rets Tryz.prog 177 #[v,Vi id] w fun u_ w'=>∃ (r:Value),u_=r∧Own w [] [Res.vec 3 1 r (xe l id).length ((xe l id).flatMap I1)] w':=by
  refine zW Tryz.func177 O Tryz.ntmps177 (Own.start w) ?_
  refine zC (zI O (zA (zC (zD O (a_call O O (fun w' hw=>(zBZ v l w' qP (hw.rd0 hv)).mono ?_))))))
  rintro r1_ w1 ⟨_,rfl,hO⟩
  refine O1 ?_ (hw.qi hO)
  refine zD O (zx (e:=3) (sz:=1) (vs:=[Vi id]) qN O O qR qM O (fun b9=>zy (g:=I1) (sz:=1) (by':=8) (fun _=>O) (l:=l) (l':=[id]) qV 0 qN O O O (fun w' hw'=>Vec.sl (Own.holds hw' 1 _ O)) qO qM O (fun v10=>zI O (zA (zC (zD O (a_call O O (fun w' hw=>(zK6 v10 (l++[id]) w' qS (hw.give [0] O qM)).mono ?_))))))))
  rintro _ w1 ⟨l'2_,rfl,hf2_1,hf2_1_1,hO⟩
  refine O2 ?_ (hw.qh [0] O hO)
  refine zA (zC (zD O (zI O (zA ?_))))
  exact zU (z9 (v:=v10) O O (fun w' hw=>⟨v10,O,by have h:=hw.one 1 rfl;rw[zGf hs hn hf2_1 hf2_1_1]at h;exact h⟩))
theorem zCW(v:Value)(l:List Int)(id:Int)(w:World)(hl:zi l.length)(hv:Rd w [] (Res.sl v l.length (l.flatMap I1))):Rets Tryz.prog 178 #[v,Vi id] w fun u_ w'=>∃ (r:Value),u_=r∧Own w [] [Res.vec 3 1 r (xg l id).length ((xg l id).flatMap I1)] w':=by
  refine zW Tryz.func178 O Tryz.ntmps178 (Own.start w) ?_
  refine zC (z8 O O (fun b3=>zI O (zA (zC (zD O (a_call O O (fun w' hw=>(zBZ v l w' qP (hw.rd0 hv)).mono ?_)))))))
  rintro r1_ w1 ⟨_,rfl,hO⟩
  refine O2 ?_ (hw.qi hO)
  refine zBX (va:=[]) (vb:=[.pointer (some ⟨b3,0,none⟩)]) O O O (a_call O O (fun w' hw=>(zKN r1_ l b3 id w' qP (hw.give [1] O qM) (hw.rdRes 0 O [1] O O)).mono ?_))
  rintro r2_ w1 ⟨_,rfl,hO⟩
  refine O2 ?_ (hw.qh [1] O hO)
  refine zI O (zA ?_)
  exact zU (z9 (v:=r2_) O O (fun w' hw=>⟨r2_,O,hw.sel [1] O qM⟩))
def ConfA.mem(c:ConfA)(id:Int):Prop:=id∈c.vs∨id∈c.ls
theorem Rises.few'{l:List Int}(h:Rises l):l.length≤16∧∀ x∈l,0≤x∧x≤16:=by
  have key:∀ k,k≤l.length→∀ j,j<k→(j:Int)+1≤zG l j:=by
    intro k
    induction k with
    |zero=>intro _ j hj;omega
    |succ k ih=>
      intro hk j hj
      have hs:=(zBG (k:=k) V (h.take k)).1 (h.take (k+1))
      by_cases e:j=k
      · subst e
        rcases Nat.eq_zero_or_pos j with rfl|hp
        · simpa using hs.2.1
        have:=ih V (j - 1) V;have:=hs.2.2 hp;omega
      exact ih V j V
  constructor
  · rcases Nat.eq_zero_or_pos l.length with h0|h0
    · omega
    have h1:=key l.length (Nat.le_refl _) (l.length - 1) V
    have h2:=h.2 _ (zd (l:=l) (j:=l.length - 1) V)
    omega
  intro x hx
  refine⟨?_,h.2 x hx⟩
  have:=h.1
  rw[List.pairwise_cons]at this
  have:=this.1 x hx;omega
theorem zI1{k:Int}{c:ConfA}{id:Int}(h:¬ c.ok):chg k c id=(⟨[],[]⟩,2):=if_pos h
theorem zNJ{k:Int}{c:ConfA}{id:Int}(h:c.ok)(h1:¬(1≤id∧id≤16)):chg k c id=(⟨[],[]⟩,1):=by unfold chg;rw[if_neg (by simpa using h),if_pos h1]
theorem zOX{c:ConfD}{id:Int}(h:c.ok)(h1:1≤id∧id≤16):chg 1 c.a id=if id∈c.vs∨id∈c.ls then(⟨[],[]⟩,9)else(⟨c.vs,xe c.ls id⟩,0):=by
  have h:c.a.ok:=h
  unfold chg;rw[if_neg (by simpa using h),if_neg (by simpa using h1),if_pos rfl];rfl
theorem zOb{c:ConfD}{id:Int}(h:c.ok)(h1:1≤id∧id≤16):chg 2 c.a id=if id∈c.ls then(⟨xe c.vs id,xg c.ls id⟩,0)else(⟨[],[]⟩,8):=by
  have h:c.a.ok:=h
  unfold chg;rw[if_neg (by simpa using h),if_neg (by simpa using h1),if_neg qM,if_pos rfl];rfl
theorem zLE{k:Int}{c:ConfD}{id:Int}(h:c.ok)(h1:1≤id∧id≤16)(hk:k≠1)(hk2:k≠2):chg k c.a id=if ¬(id∈c.vs∨id∈c.ls)then(⟨[],[]⟩,8)else if id∈c.vs∧c.vs.length=1 then(⟨[],[]⟩,15)else(⟨xg c.vs id,xg c.ls id⟩,0):=by
  have h:c.a.ok:=h
  unfold chg;rw[if_neg (by simpa using h),if_neg (by simpa using h1),if_neg hk,if_neg hk2];rfl
def zAD(p:Prop)[Decidable p](id:Int):Int:=if ¬ p then 2 else if ¬(1≤id∧id≤16)then 1 else 0
theorem zMg{p:Prop}[Decidable p]{id:Int}(h:yE p≠0):yE p=zAD p id:=by
  have hp:¬ p:=fun q=>h (jY q)
  rw[j7 hp];unfold zAD;rw[if_pos hp]
theorem zLV{p:Prop}[Decidable p]{id:Int}(h:¬ yE p≠0)(h1:¬(1≤id∧id≤16)):1=zAD p id:=by
  have hp:p:=errOf_zero.1 (Decidable.not_not.1 h)
  unfold zAD;rw[if_neg (by simpa using hp),if_pos h1]
theorem zIR{p:Prop}[Decidable p]{id:Int}(hp:p)(h1:1≤id∧id≤16):zAD p id=0:=by
  unfold zAD;rw[if_neg (by simpa using hp),if_neg (by simpa using h1)]
theorem zCI{p:Prop}[Decidable p]{id:Int}(h:¬ zAD p id≠0):p∧1≤id∧id≤16:=by
  have h:=Decidable.not_not.1 h
  unfold zAD at h
  by_cases hp:p
  · by_cases h1:1≤id∧id≤16
    · exact⟨hp,h1⟩
    rw[if_neg (by simpa using hp),if_pos h1]at h;cases h
  rw[if_pos hp]at h;cases h
theorem zFG{k:Int}{c:ConfD}{id:Int}(h:zAD c.ok id≠0):chg k c.a id=(⟨[],[]⟩,zAD c.ok id):=by
  by_cases hp:c.ok
  · by_cases h1:1≤id∧id≤16
    · exact absurd (zIR hp h1) h
    rw[zNJ (c:=c.a) hp h1];unfold zAD;rw[if_neg (by simpa using hp),if_pos h1]
  rw[zI1 (c:=c.a) hp];unfold zAD;rw[if_pos hp]
theorem zIB{l:List Int}{x:Int}(h:l.length=1):x∈l↔zG l 0=x:=by
  match l,h with
  | [a],_=>simp[zG];exact eq_comm
theorem zD1(c:ConfD)(id:Int)(w:World)(hf:c.few)(rd_c:ConfD.rd c w []):Rets Tryz.prog 176 #[.agg (ConfD.cells c).toArray,Vi id] w fun u_ w'=>u_=Vi (zAD c.ok id)∧Own w [] [] w':=by
  refine zW Tryz.func176 O Tryz.ntmps176 (Own.start w) ?_
  refine zC (z8 O O (fun b2=>zI O (zA (zP (zC (yL (cs:=(ConfD.cells c)) 0 O O O (a_call O O (fun w' hw=>(zBl c w' ‹_› (rd_c.at0 hw)).mono ?_))))))))
  rintro _ w1 ⟨rfl,hO⟩
  refine O1 ?_ (hw.qi hO)
  refine zI O (zA (zC (zD O (xn O O O (zA (za O (fun c1=> ?_) (fun c1=> ?_)))))))
  ·refine zC (zD O (zI O (zA ?_)))
   exact zU (z9 (v:=Vi (yE c.ok)) O O (fun w' hw=>⟨(by congr 1;exact zMg c1),hw.drop⟩))
  refine zQ (zP (zC (zD O (yI O O O (zD O (yj (q:=id<1) 2 2 [15,14] (16<id) O O O O O O trivial O (fun h4_2=> ?_) (fun g4_5=> ?_)))))))
  ·refine zR O (gF h4_2) (zD O (zR O (gF h4_2) (yx O O O ?_)))
   exact yN O (fun _ hw=>hw)
  refine zA (za O (fun c2=> ?_) (fun c2=> ?_))
  ·refine zC (zI O (zA ?_))
   exact zU (z9 (v:=Vi 1) O O (fun w' hw=>⟨(by congr 1;exact zLV c1 V),hw.drop⟩))
  refine zQ (zC (zI O (zA ?_)))
  exact zU (z9 (v:=Vi 0) O O (fun w' hw=>⟨(by congr 1;exact(zIR (errOf_zero.1 (Decidable.not_not.1 c1)) V).symm),hw.drop⟩))
theorem zNY(c:ConfD)(id:Int)(w:World)(hf:c.few)(h11:c.vs.length≤11∧c.ls.length≤11)(rd_c:ConfD.rd c w []):Rets Tryz.prog 137 #[.agg (ConfD.cells c).toArray,Vi id] w fun u_ w'=>∃ (a:Value) (vs:List Int) (b:Value) (ls:List Int) (e:Int),u_= .tuple #[.agg #[a,b],Vi e]∧chg 1 c.a id=(⟨vs,ls⟩,e)∧Own w [] [Res.vec 3 1 a vs.length (vs.flatMap I1),Res.vec 3 1 b ls.length (ls.flatMap I1)] w':=by
  have hc:=hf.wf
  have hv:=hf.vs
  have hl:=hf.ls
  refine zW Tryz.func137 O Tryz.ntmps137 (Own.start w) ?_
  refine zC (z8 O O (fun b2=>yC (v:= .agg #[.slice none 0 0, .slice none 0 0]) qN O (fun b4=>zI O (zA (zP (zC (yL (cs:=(ConfD.cells c)) 0 O O O (zD O (a_call O O (fun w' hw=>(zD1 c id w' ‹_› (rd_c.at0 hw)).mono ?_))))))))))
  rintro _ w1 ⟨rfl,hO⟩
  refine O2 ?_ (hw.qi hO)
  refine zI O (zA (zC (zD O (xn O O O (zA (za O (fun c1=> ?_) (fun c1=> ?_)))))))
  ·refine zC (yh (cs:=[.slice none 0 0, .slice none 0 0]) (z:=[.slice none 0 0, .slice none 0 0]) (pl:=[(0,1),(1,1)]) qN qN O (zD O (zo 1 O O O (xO O) O (zI O (zA ?_)))))
   exact zU (xj (cs:=[.slice none 0 0, .slice none 0 0]) (v:=Vi (zAD c.ok id)) O O O qN (Own.qr (i:=1) O) (fun w' hw=>⟨.slice none 0 0,[], .slice none 0 0,[],(zAD c.ok id),O,zFG c1,(zm (zm hw 3 1) 3 1).sel [2,3] O qM⟩))
  obtain⟨hok,hid⟩:=zCI c1
  refine zQ (zP (zC (yL (cs:=(ConfD.cells c)) 0 O O O (zD O (a_call O O (fun w' hw=>(zBw c id w' ‹_› (rd_c.at0 hw)).mono ?_))))))
  rintro _ w1 ⟨rfl,hO⟩
  refine O2 ?_ (hw.qi hO)
  refine zA (za O (fun c2=> ?_) (fun c2=> ?_))
  ·refine zC (yh (cs:=[.slice none 0 0, .slice none 0 0]) (z:=[.slice none 0 0, .slice none 0 0]) (pl:=[(0,1),(1,1)]) qN qN O (zo 1 O O O (xO O) O (zI O (zA ?_))))
   exact zU (xj (cs:=[.slice none 0 0, .slice none 0 0]) (v:=Vi 9) O O O qN (Own.qr (i:=1) O) (fun w' hw=>⟨.slice none 0 0,[], .slice none 0 0,[],9,O,(by rw[zOX hok hid,if_pos c2.2]),(zm (zm hw 3 1) 3 1).sel [2,3] O qM⟩))
  refine zQ (zP (ze [0] O qM qN (fun w' hw hS=>zB 0 O (zH (o:=0) O) hS (zB 1 O (zY 0 (v:=c.vv) O O O) hS (zB 3 O (zH (o:=1) O) hS (zB 4 O (zY 0 (v:=c.lv) O O O) hS (zB 5 O zS hS (zJ 2 O hw (a_call O O (fun w' hw=>(zBZ c.vv c.vs w' qP (hw.rd0 rd_c.vv)).mono ?_))))))))))
  rintro r1_ w1 ⟨_,rfl,hO⟩
  refine O3 ?_ (hw.qi hO)
  refine zE [0] O qM (fun w' hw hS=>zJ 6 O hw (a_call O O (fun w' hw=>(zKn c.lv c.ls id w' h11.2 hok.1.1.2.lt (fun h=>c2 ⟨hok, .inr h⟩) (hw.rd0 rd_c.lv)).mono ?_)))
  rintro r2_ w1 ⟨_,rfl,hO⟩
  refine O4 ?_ (hw.qi hO)
  refine zE [0] O qM (fun w' hw hS=>zJ 7 O hw ?_)
  refine zN (fun w' hw=>Own.qg (i:=2) O hw) (fun hc3_=> ?_)
  refine zN (fun w' hw=>Own.qg (i:=3) O hw) (fun hc4_=> ?_)
  refine jK (cs:=[r1_,r2_]) (z:=[.slice none 0 0, .slice none 0 0]) (pl:=[(0,1),(1,1)]) qN ⟨hc3_,hc4_,trivial⟩ qN O (zE [0] O qM (fun w' hw hS=>zJ 8 O hw (zo 1 O O O (zF hc3_ (zF hc4_ zh)) O (zE [0] O qM (fun w' hw hS=>zB 9 O yO hS (zT ?_))))))
  refine Oc4 ?_ hw
  exact zU (xj (cs:=[r1_,r2_]) (v:=Vi 0) O O O qN (Own.qr (i:=1) O) (fun w' hw=>⟨r1_,c.vs,r2_,(xe c.ls id),0,O,(by rw[zOX hok hid,if_neg (fun h=>c2 ⟨hok,h⟩)]),hw.sel [2,3] O qM⟩))
theorem zPT(c:ConfD)(id:Int)(w:World)(hf:c.few)(h11:c.vs.length≤11∧c.ls.length≤11)(rd_c:ConfD.rd c w []):Rets Tryz.prog 138 #[.agg (ConfD.cells c).toArray,Vi id] w fun u_ w'=>∃ (a:Value) (vs:List Int) (b:Value) (ls:List Int) (e:Int),u_= .tuple #[.agg #[a,b],Vi e]∧chg 2 c.a id=(⟨vs,ls⟩,e)∧Own w [] [Res.vec 3 1 a vs.length (vs.flatMap I1),Res.vec 3 1 b ls.length (ls.flatMap I1)] w':=by
  have hc:=hf.wf
  have hv:=hf.vs
  have hl:=hf.ls
  refine zW Tryz.func138 O Tryz.ntmps138 (Own.start w) ?_
  refine zC (z8 O O (fun b2=>yC (v:= .agg #[.slice none 0 0, .slice none 0 0]) qN O (fun b4=>zI O (zA (zP (zC (yL (cs:=(ConfD.cells c)) 0 O O O (zD O (a_call O O (fun w' hw=>(zD1 c id w' ‹_› (rd_c.at0 hw)).mono ?_))))))))))
  rintro _ w1 ⟨rfl,hO⟩
  refine O2 ?_ (hw.qi hO)
  refine zI O (zA (zC (zD O (xn O O O (zA (za O (fun c1=> ?_) (fun c1=> ?_)))))))
  ·refine zC (yh (cs:=[.slice none 0 0, .slice none 0 0]) (z:=[.slice none 0 0, .slice none 0 0]) (pl:=[(0,1),(1,1)]) qN qN O (zD O (zo 1 O O O (xO O) O (zI O (zA ?_)))))
   exact zU (xj (cs:=[.slice none 0 0, .slice none 0 0]) (v:=Vi (zAD c.ok id)) O O O qN (Own.qr (i:=1) O) (fun w' hw=>⟨.slice none 0 0,[], .slice none 0 0,[],(zAD c.ok id),O,zFG c1,(zm (zm hw 3 1) 3 1).sel [2,3] O qM⟩))
  obtain⟨hok,hid⟩:=zCI c1
  refine zQ (zP (zC (zK (o:=1) O O (zM 0 (v:=c.lv) O O O O (zD O (a_call O O (fun w' hw=>(ki c.lv c.ls id w' qP (hw.rd0 rd_c.lv)).mono ?_)))))))
  rintro _ w1 ⟨rfl,hO⟩
  refine O2 ?_ (hw.qi hO)
  refine xB (q:=id∈c.ls) O O (zA (za O (fun c2=> ?_) (fun c2=> ?_)))
  ·refine zC (yh (cs:=[.slice none 0 0, .slice none 0 0]) (z:=[.slice none 0 0, .slice none 0 0]) (pl:=[(0,1),(1,1)]) qN qN O (zo 1 O O O (xO O) O (zI O (zA ?_))))
   exact zU (xj (cs:=[.slice none 0 0, .slice none 0 0]) (v:=Vi 8) O O O qN (Own.qr (i:=1) O) (fun w' hw=>⟨.slice none 0 0,[], .slice none 0 0,[],8,O,(by rw[zOb hok hid,if_neg c2]),(zm (zm hw 3 1) 3 1).sel [2,3] O qM⟩))
  refine zQ (zP (ze [0] O qM qN (fun w' hw hS=>zB 0 O (zH (o:=0) O) hS (zB 1 O (zY 0 (v:=c.vv) O O O) hS (zB 2 O zS hS (zB 4 O (zH (o:=1) O) hS (zB 5 O (zY 0 (v:=c.lv) O O O) hS (zB 6 O zS hS (zJ 3 O hw (a_call O O (fun w' hw=>(zKn c.vv c.vs id w' h11.1 hok.1.1.1.lt (fun h=>hok.2 id h (Decidable.not_not.1 c2)) (hw.rd0 rd_c.vv)).mono ?_)))))))))))
  rintro r1_ w1 ⟨_,rfl,hO⟩
  refine O3 ?_ (hw.qi hO)
  refine zE [0] O qM (fun w' hw hS=>zJ 7 O hw (a_call O O (fun w' hw=>(zCW c.lv c.ls id w' qP (hw.rd0 rd_c.lv)).mono ?_)))
  rintro r2_ w1 ⟨_,rfl,hO⟩
  refine O4 ?_ (hw.qi hO)
  refine zE [0] O qM (fun w' hw hS=>zJ 8 O hw ?_)
  refine zN (fun w' hw=>Own.qg (i:=2) O hw) (fun hc3_=> ?_)
  refine zN (fun w' hw=>Own.qg (i:=3) O hw) (fun hc4_=> ?_)
  refine jK (cs:=[r1_,r2_]) (z:=[.slice none 0 0, .slice none 0 0]) (pl:=[(0,1),(1,1)]) qN ⟨hc3_,hc4_,trivial⟩ qN O (zE [0] O qM (fun w' hw hS=>zJ 9 O hw (zo 1 O O O (zF hc3_ (zF hc4_ zh)) O (zE [0] O qM (fun w' hw hS=>zB 10 O yO hS (zT ?_))))))
  refine Oc4 ?_ hw
  exact zU (xj (cs:=[r1_,r2_]) (v:=Vi 0) O O O qN (Own.qr (i:=1) O) (fun w' hw=>⟨r1_,(xe c.vs id),r2_,(xg c.ls id),0,O,(by rw[zOb hok hid,if_pos (Decidable.not_not.1 c2)]),hw.sel [2,3] O qM⟩))
theorem zNH(c:ConfD)(id:Int)(w:World)(hf:c.few)(rd_c:ConfD.rd c w []):Rets Tryz.prog 139 #[.agg (ConfD.cells c).toArray,Vi id] w fun u_ w'=>∃ (a:Value) (vs:List Int) (b:Value) (ls:List Int) (e:Int),u_= .tuple #[.agg #[a,b],Vi e]∧chg 3 c.a id=(⟨vs,ls⟩,e)∧Own w [] [Res.vec 3 1 a vs.length (vs.flatMap I1),Res.vec 3 1 b ls.length (ls.flatMap I1)] w':=by
  have hc:=hf.wf
  have hv:=hf.vs
  have hl:=hf.ls
  refine zW Tryz.func139 O Tryz.ntmps139 (Own.start w) ?_
  refine zC (z8 O O (fun b2=>yC (v:= .agg #[.slice none 0 0, .slice none 0 0]) qN O (fun b4=>zI O (zA (zP (zC (yL (cs:=(ConfD.cells c)) 0 O O O (zD O (a_call O O (fun w' hw=>(zD1 c id w' ‹_› (rd_c.at0 hw)).mono ?_))))))))))
  rintro _ w1 ⟨rfl,hO⟩
  refine O2 ?_ (hw.qi hO)
  refine zI O (zA (zC (zD O (xn O O O (zA (za O (fun c1=> ?_) (fun c1=> ?_)))))))
  ·refine zC (yh (cs:=[.slice none 0 0, .slice none 0 0]) (z:=[.slice none 0 0, .slice none 0 0]) (pl:=[(0,1),(1,1)]) qN qN O (zD O (zo 1 O O O (xO O) O (zI O (zA ?_)))))
   exact zU (xj (cs:=[.slice none 0 0, .slice none 0 0]) (v:=Vi (zAD c.ok id)) O O O qN (Own.qr (i:=1) O) (fun w' hw=>⟨.slice none 0 0,[], .slice none 0 0,[],(zAD c.ok id),O,zFG c1,(zm (zm hw 3 1) 3 1).sel [2,3] O qM⟩))
  obtain⟨hok,hid⟩:=zCI c1
  refine zQ (zP (zZ (zC (yL (cs:=(ConfD.cells c)) 0 O O O (zD O (a_call O O (fun w' hw=>(zBw c id w' ‹_› (rd_c.at0 hw)).mono ?_)))))))
  rintro _ w1 ⟨rfl,hO⟩
  refine O2 ?_ (hw.qi hO)
  refine xB (q:=c.ok∧(id∈c.vs∨id∈c.ls)) O O (zI O (zA (za O (fun c2=> ?_) (fun c2=> ?_))))
  ·refine zC (yh (cs:=[.slice none 0 0, .slice none 0 0]) (z:=[.slice none 0 0, .slice none 0 0]) (pl:=[(0,1),(1,1)]) qN qN O (zo 1 O O O (xO O) O (zI O (zA ?_))))
   exact zU (xj (cs:=[.slice none 0 0, .slice none 0 0]) (v:=Vi 8) O O O qN (Own.qr (i:=1) O) (fun w' hw=>⟨.slice none 0 0,[], .slice none 0 0,[],8,O,(by rw[zLE hok hid qM qM,if_pos (fun h=>c2 ⟨hok,h⟩)]),(zm (zm hw 3 1) 3 1).sel [2,3] O qM⟩))
  have hme:id∈c.vs∨id∈c.ls:=(Decidable.not_not.1 c2).2
  refine zC (zK (o:=0) O O (zM 0 (v:=c.vv) O O O O (zp (pR rd_c.vv) O O (yR O O O (zD O (yJ (q:=((c.vs.length:Nat):Int)=1) 6 4 [31,30,29,28,27,26] ((zG c.vs 0)=id) O O O O O O trivial O (fun h6_4=> ?_) (fun g6_11=> ?_)))))))
  ·refine zR O (gT h6_4) (zK (o:=0) O O (zR O (gT h6_4) (zM 0 (v:=c.vv) O O O O (zR O (gT h6_4) (zk (pR rd_c.vv) 1 0 O O O V O (zR O (gT h6_4) (yH (pR rd_c.vv) 1 0 0 (fun _=>O) O V V O O (zR O (gT h6_4) (zD O (zR O (gT h6_4) (yR O O O ?_)))))))))))
   exact yN O (fun _ hw=>hw)
  refine zI O (zA (za O (fun c3=> ?_) (fun c3=> ?_)))
  ·refine zC (yh (cs:=[.slice none 0 0, .slice none 0 0]) (z:=[.slice none 0 0, .slice none 0 0]) (pl:=[(0,1),(1,1)]) qN qN O (zo 1 O O O (xO O) O (zI O (zA ?_))))
   exact zU (xj (cs:=[.slice none 0 0, .slice none 0 0]) (v:=Vi 15) O O O qN (Own.qr (i:=1) O) (fun w' hw=>⟨.slice none 0 0,[], .slice none 0 0,[],15,O,(by rw[zLE hok hid qM qM,if_neg (fun h=>h hme),if_pos ⟨(zIB V).2 c3.2,show c.vs.length=1 by omega⟩]),(zm (zm hw 3 1) 3 1).sel [2,3] O qM⟩))
  refine zQ (zP (ze [0] O qM qN (fun w' hw hS=>zB 0 O (zH (o:=0) O) hS (zB 1 O (zY 0 (v:=c.vv) O O O) hS (zB 2 O zS hS (zB 4 O (zH (o:=1) O) hS (zB 5 O (zY 0 (v:=c.lv) O O O) hS (zB 6 O zS hS (zJ 3 O hw (a_call O O (fun w' hw=>(zCW c.vv c.vs id w' qP (hw.rd0 rd_c.vv)).mono ?_)))))))))))
  rintro r1_ w1 ⟨_,rfl,hO⟩
  refine O3 ?_ (hw.qi hO)
  refine zE [0] O qM (fun w' hw hS=>zJ 7 O hw (a_call O O (fun w' hw=>(zCW c.lv c.ls id w' qP (hw.rd0 rd_c.lv)).mono ?_)))
  rintro r2_ w1 ⟨_,rfl,hO⟩
  refine O4 ?_ (hw.qi hO)
  refine zE [0] O qM (fun w' hw hS=>zJ 8 O hw ?_)
  refine zN (fun w' hw=>Own.qg (i:=2) O hw) (fun hc3_=> ?_)
  refine zN (fun w' hw=>Own.qg (i:=3) O hw) (fun hc4_=> ?_)
  refine jK (cs:=[r1_,r2_]) (z:=[.slice none 0 0, .slice none 0 0]) (pl:=[(0,1),(1,1)]) qN ⟨hc3_,hc4_,trivial⟩ qN O (zE [0] O qM (fun w' hw hS=>zJ 9 O hw (zo 1 O O O (zF hc3_ (zF hc4_ zh)) O (zE [0] O qM (fun w' hw hS=>zB 10 O yO hS (zT ?_))))))
  refine Oc4 ?_ hw
  exact zU (xj (cs:=[r1_,r2_]) (v:=Vi 0) O O O qN (Own.qr (i:=1) O) (fun w' hw=>⟨r1_,(xg c.vs id),r2_,(xg c.ls id),0,O,(by rw[zLE hok hid qM qM,if_neg (fun h=>h hme),if_neg (fun h=>c3 ⟨by have:c.vs.length=1:=h.2;omega,(zIB h.2).1 h.1⟩)]),hw.sel [2,3] O qM⟩))
end Go.Proofs.YtkkeknmkipkbmaaGreat
