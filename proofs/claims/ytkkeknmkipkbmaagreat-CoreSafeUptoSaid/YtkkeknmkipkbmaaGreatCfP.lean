import Derived.Test.YtkkeknmkipkbmaaGreatCfW
import Derived.Test.YtkkeknmkipkbmaaGreatCoL
set_option linter.unusedSectionVars false
set_option linter.unusedSimpArgs false
set_option linter.unusedVariables false
set_option maxRecDepth 10000
namespace Go.Proofs.YtkkeknmkipkbmaaGreat
open Go Go.Sc Go.Proofs
abbrev zB5(α:Type):=List UInt8→Nat→Option (α×Nat)
def Rt{α:Type}(p:zB5 α)(x:α)(e:List UInt8):Prop:=∀ pre s:List UInt8,p (pre++e++s) pre.length=some (x,(pre++e).length)
theorem Rt.pure{α:Type}(x:α):Rt (jn x) x []:=fun pre s=>by simp[jn]
theorem Rt.bind{α β:Type}{p:zB5 α}{q:α→zB5 β}{x:α}{y:β}{e f:List UInt8}(h1:Rt p x e)(h2:Rt (q x) y f):Rt (jE p q) y (e++f):=fun pre s=>by
  have a1:=h1 pre (f++s)
  have a2:=h2 (pre++e) s
  simp only[jE]
  rw[show pre++(e++f)++s=pre++e++(f++s)by simp,a1]
  simp only[Option.bind_some]
  rw[show pre++e++(f++s)=pre++e++f++s by simp,a2]
  simp
theorem Rt.map{α β:Type}{p:zB5 α}{x:α}{e:List UInt8}(h:Rt p x e)(g:α→β):Rt (jE p fun v=>jn (g v)) (g x) e:=by
  have:=h.bind (q:=fun v=>jn (g v)) (Rt.pure (g x));rwa [List.append_nil]at this
theorem Rt.rep{α:Type}[Inhabited α]{p:zB5 α}{l:List α}{enc:α→List UInt8}(h:∀ x∈l,Rt p x (enc x)):Rt (zFM p l.length) l (l.flatMap enc):=by
  have key:∀ k,k≤l.length→Rt (zFM p k) (l.take k) ((l.take k).flatMap enc):=by
    intro k
    induction k with
    |zero=>intro _;rw[List.take_zero];exact Rt.pure []
    |succ k ih=>
      intro hk
      rw[zt V,List.flatMap_append]
      have h2:=(h (zG l k) (ze V)).map (l.take k++[·])
      have:=(ih V).bind (q:=fun l=>jE p fun x=>jn (l++[x])) h2
      simp only[List.flatMap_cons,List.flatMap_nil,List.append_nil]
      exact this
  have:=key l.length (Nat.le_refl _)
  rwa [List.take_length]at this
theorem zEp{α:Type}[Inhabited α]{l m:List α}{j:Nat}(h:j<l.length):zG (l++m) j=zG l j:=by
  simp[zG,List.getElem?_append_left h]
theorem zC2:∀ (l:List UInt8) (n:Nat),l.foldl (fun n c=>n*256+c.toNat) n=n*256 ^ l.length+beN l
  | [],n=>by simp[beN]
  |c::l,n=>by
    have h1:=zC2 l (n*256+c.toNat)
    have h2:=zC2 l (0*256+c.toNat)
    simp only[beN,List.foldl_cons,List.length_cons]at *
    rw[h1,h2,Nat.pow_succ,Nat.add_mul,Nat.mul_assoc,Nat.mul_comm 256];simp only[Nat.zero_mul,Nat.zero_add];omega
theorem zLm(c:UInt8)(l:List UInt8):beN (c::l)=c.toNat*256 ^ l.length+beN l:=by
  have:=zC2 l (0*256+c.toNat)
  simp only[beN,List.foldl_cons,Nat.zero_mul,Nat.zero_add]at *
  exact this
theorem zM2(k:Nat):2 ^ (8*k)=256 ^ k:=by rw[Nat.pow_mul]
theorem zKo(n:Nat):∀ k,beN (be n k)=n%256 ^ k
  |0=>by simp[be,beN,Nat.mod_one]
  |k+1=>by
    rw[be,zLm,zAU,zKo n k,zM2,Nat.pow_succ,Nat.mod_mul]
    have:(UInt8.ofNat (n / 256 ^ k)).toNat=n / 256 ^ k%256:=by simp
    rw[this,Nat.mul_comm,Nat.add_comm]
theorem zDm(n:Nat):n<256 ^ yM n:=by
  have h1:=zCB n
  have:2 ^ z9 n≤2 ^ (8*yM n):=Nat.pow_le_pow_right V (by unfold yM;omega)
  rw[zM2]at this;omega
theorem zEf{n k:Nat}(h:yM n=k+1):0<n / 256 ^ k∧n / 256 ^ k<256:=by
  have h0:0<n:=by
    rcases Nat.eq_zero_or_pos n with rfl|h0
    · simp[yM,z9]at h
    exact h0
  have h1:=zAZ h0
  have h2:256 ^ k≤n:=by
    rw[←zM2]
    refine Nat.le_trans (Nat.pow_le_pow_right V ?_) h1
    unfold yM at h;omega
  have h3:=zDm n
  rw[h,Nat.pow_succ]at h3
  have hp:0<256 ^ k:=Nat.pow_pos V
  exact⟨Nat.div_pos h2 hp,(Nat.div_lt_iff_lt_mul hp).2 V⟩
theorem zJM{n:Nat}(h:n<18446744073709551616)(s:List UInt8):zBa (num n++s)=some (n,(num n).length):=by
  have h8:=zA5 h
  have hl:=zDj n
  have e0:zG (num n++s) 0=UInt8.ofNat (yM n):=rfl
  have e1:(UInt8.ofNat (yM n)).toNat=yM n:=by simp;omega
  unfold zBa
  rw[e0,e1,if_neg (by simp[hl]),if_neg,if_neg (by simp[hl];omega)]
  · rw[List.take_append_of_le_length V,List.take_of_length_le V]
    have:(num n).drop 1=be n (yM n):=rfl
    rw[this,zKo,Nat.mod_eq_of_lt (zDm n),hl];simp[Nat.add_comm]
  rintro(h|⟨⟨_,h3⟩,h4⟩)
  · omega
  obtain⟨k,hk⟩:∃ k,yM n=k+1:=⟨yM n - 1,by omega⟩
  obtain⟨a1,a2⟩:=zEf hk
  have e2:zG (num n++s) 1=UInt8.ofNat (n / 2 ^ (8*k)):=by
    rw[zEp V]
    show zG (UInt8.ofNat (yM n)::be n (yM n)) 1=_
    rw[hk];rfl
  rw[e2,zM2]at h4
  simp at h4;omega
theorem zOg{n:Nat}(h:n<18446744073709551616):Rt zBD n (num n):=fun pre s=>by
  unfold zBD
  rw[List.append_assoc,List.drop_left,zJM h];simp
theorem zID{n most:Nat}(h:n<18446744073709551616)(hm:n≤most):Rt (zAk most) n (num n):=fun pre s=>by
  simp only[zAk,zOg h pre s,Option.bind_some];rw[if_neg V]
theorem zOz{a:Int}{most:Nat}(h0:0≤a)(hm:a≤most)(hs:most<18446744073709551616):Rt (zIp most) a (num (u64 a)):=by
  have e:u64 a=a.toNat:=by unfold u64;omega
  have h:=(zID (n:=a.toNat) (most:=most) V V).map (fun n:Nat=>(n:Int))
  rw[Int.toNat_of_nonneg h0]at h
  rw[e];exact h
theorem zLb{l:List Int}(hl:l.length≤16)(h:∀ x∈l,0≤x∧x≤16):Rt zJJ l (zCZ l):=by
  have h1:=Rt.rep (p:=zIp 16) (enc:=fun x=>num (u64 x)) (fun x hx=>zOz (h x hx).1 (h x hx).2 qM)
  have h2:=(zID (n:=l.length) (most:=16) V hl).bind (q:=fun n=>zFM (zIp 16) n) h1
  have e:zCZ l=num l.length++l.flatMap fun x=>num (u64 x):=by
    simp only[zCZ,yH,List.flatMap_cons,zII (show l.length<18446744073709551616 by omega),List.flatMap_map]
  rw[e];exact h2
theorem zNK{c:ConfA}(hv:c.vs.length≤16∧∀ x∈c.vs,0≤x∧x≤16)(hl:c.ls.length≤16∧∀ x∈c.ls,0≤x∧x≤16):Rt zHz c c.enc:=by
  have h:=(zLb hv.1 hv.2).bind (q:=fun vs=>jE zJJ fun ls=>jn (⟨vs,ls⟩:ConfA)) ((zLb hl.1 hl.2).map fun ls=>(⟨c.vs,ls⟩:ConfA))
  exact h
theorem zIr{α:Type}{p:zB5 α}{ok:α→Prop}[DecidablePred ok]{x:α}{e:List UInt8}(h:Rt p x e)(hx:ok x):zAl p ok e=some x:=by
  have h:=h [] []
  simp only[List.append_nil,List.nil_append,List.length_nil]at h
  simp only[zAl,h,Option.bind_some];rw[if_pos ⟨trivial,hx⟩]
theorem zLe{p q a b:Int→Bool}:∀ {l:List Int},l.length<((l.filter p).filter a).length+((l.filter q).filter b).length→∃ x∈l,p x=true∧q x=true∧a x=true∧b x=true
  | [],h=>by simp at h
  |x::l,h=>by
    by_cases hx:p x=true∧q x=true∧a x=true∧b x=true
    · exact⟨x,List.mem_cons_self ..,hx⟩
    have:l.length<((l.filter p).filter a).length+((l.filter q).filter b).length:=by
      rw[List.filter_filter,List.filter_filter]at h ⊢
      simp only[List.filter_cons,List.length_cons]at h
      cases hp:p x<;>cases hq:q x<;>cases ha:a x<;>cases hb:b x<;>simp[hp,hq,ha,hb]at h hx<;>omega
    obtain⟨y,hy,hy'⟩:=zLe this
    exact⟨y,List.mem_cons_of_mem _ hy,hy'⟩
theorem zDG{n:Int}{l:List Int}(q:n∉l):xW l n=l:=List.filter_eq_self.2 fun x hx=>by simp;exact fun e=>q (e▸hx)
theorem zC3(a n:Int)(l:List Int):xW (a::l) n=if a=n then xW l n else a::xW l n:=by
  unfold xW
  rw[List.filter_cons]
  by_cases h:a=n<;>simp[h]
theorem zKr{l:List Int}{n:Int}(h:n∉l):xW (xV l n) n=l:=by
  induction l with
  |nil=>simp[xV,xW]
  |cons a l ih=>
    have hna:¬ a=n:=fun q=>h (by rw[q];exact List.mem_cons_self ..)
    have hnl:n∉l:=fun q=>h (List.mem_cons_of_mem _ q)
    unfold xV
    split
    · rw[zC3,if_pos rfl,zDG h]
    rw[zC3,if_neg hna,ih hnl]
theorem zDu{l:List Int}{n:Int}(hs:l.Pairwise (· < ·)):l.length≤(xW l n).length+1:=by
  induction l with
  |nil=>simp
  |cons a l ih=>
    have:=ih (List.pairwise_cons.1 hs).2
    rw[zC3]
    by_cases h:a=n
    · rw[if_pos h,zDG (fun q=>by have:=(List.pairwise_cons.1 hs).1 n q;omega)];simp
    rw[if_neg h];simp only[List.length_cons];omega
theorem zAb(l:List Int):l.filter (fun _=>true)=l:=List.filter_eq_self.2 fun _ _=>rfl
theorem zKD{k:Int}{c:ConfD}{id:Int}{vs ls:List Int}(hok:c.ok)(h:chg k c.a id=(⟨vs,ls⟩,0)):∃ (u:List Int) (p q:Int→Bool),c.vs=u.filter p∧vs=u.filter q∧u.length≤c.vs.length+1∧u.length≤vs.length+1∧(u.length≤c.vs.length∨u.length≤vs.length):=by
  have hlt:=hok.1.1.1.lt
  unfold chg at h
  rw[if_neg (fun q=>q hok)]at h
  split at h; · cases h
  split at h
  · split at h; · cases h
    cases h;exact⟨c.vs,fun _=>true,fun _=>true,(zAb _).symm,(zAb _).symm,by omega,Nat.le_succ _, .inl (Nat.le_refl _)⟩
  split at h
  · split at h
    · rename_i hl
      cases h
      have hn:id∉c.vs:=fun q=>hok.2 id q hl
      have hw:=kr c.vs id
      exact⟨xV c.vs id,fun x=>decide (x≠id),fun _=>true,(zKr hn).symm,(zAb _).symm,V,by show _≤(xV c.vs id).length+1;omega, .inr (Nat.le_refl _)⟩
    cases h
  split at h; · cases h
  split at h; · cases h
  cases h
  exact⟨c.vs,fun _=>true,fun x=>decide (x≠id),(zAb _).symm,O,by omega,zDu hlt,by omega⟩
theorem zQg{vs ws a b:List Int}{u:List Int}{p q:Int→Bool}(hv:vs=u.filter p)(hw:ws=u.filter q)(h1:u.length≤vs.length+1)(h2:u.length≤ws.length+1)(h3:u.length≤vs.length∨u.length≤ws.length)(ha:vs.length<2*cnt vs a)(hb:ws.length<2*cnt ws b):∃ x∈vs,x∈a∧x∈b:=by
  unfold cnt at ha hb
  have:u.length<((u.filter p).filter (fun x=>decide (x∈a))).length+((u.filter q).filter (fun x=>decide (x∈b))).length:=by rw[←hv,←hw];omega
  obtain⟨x,hx,hp,hq,h4,h5⟩:=zLe this
  exact⟨x,by rw[hv];exact List.mem_filter.2 ⟨hx,hp⟩,by simpa using h4,by simpa using h5⟩
theorem zIR(l:List Int)(n:Int):(xW l n).length≤l.length:=List.length_filter_le _ _
theorem zMb{k:Int}{c:ConfD}{id e:Int}{vs ls:List Int}(h:chg k c.a id=(⟨vs,ls⟩,e)):vs.length≤c.vs.length+1∧ls.length≤c.ls.length+1:=by
  have h1:=zIR c.vs id
  have h2:=zIR c.ls id
  have h3:=kr c.vs id
  have h4:=kr c.ls id
  have hz:∀ {q:ConfA×Int},q=(⟨vs,ls⟩,e)→(q.1.vs.length≤c.vs.length+1∧q.1.ls.length≤c.ls.length+1)→vs.length≤c.vs.length+1∧ls.length≤c.ls.length+1:=by rintro _ rfl q;exact q
  refine hz h ?_
  unfold chg
  repeat' split
  all_goals simp only[ConfD.a,List.length_nil];omega
theorem zKw{k:Int}{c:ConfD}{id:Int}{r:ConfA}(h:chg k c.a id=(r,0)):c.ok:=by
  refine Decidable.byContradiction fun q=> ?_
  rw[zIP (c:=c.a) q]at h
  cases h
theorem zFh{k:Int}{c:ConfD}{id:Int}{vs ls:List Int}(h:chg k c.a id=(⟨vs,ls⟩,0)):ConfA.ok ⟨vs,ls⟩∧(∀ x,x≠id→((x∈c.vs↔x∈vs)∧(x∈c.ls↔x∈ls)))∧¬((id∈c.vs↔id∈vs)∧((id∈c.vs∨id∈c.ls)↔(id∈vs∨id∈ls))):=by
  have hok:=zKw h
  unfold chg at h
  rw[if_neg (fun q=>q hok)]at h
  split at h; · cases h
  rename_i hid
  have hid:1≤id∧id≤16:=Decidable.not_not.1 hid
  have hcl:c.a.ls=c.ls:=rfl
  have hcv:c.a.vs=c.vs:=rfl
  rw[hcl,hcv]at h
  split at h
  · split at h; · cases h
    rename_i hn
    have hn1:id∉c.vs:=fun q=>hn (.inl q)
    have hn2:id∉c.ls:=fun q=>hn (.inr q)
    cases h
    refine⟨⟨⟨⟨hok.1.1.1,zDq hok.1.1.2 hn2 hid⟩,hok.1.2⟩,fun v hv q=> ?_⟩,fun x hx=>⟨Iff.rfl,?_⟩,fun q=>hn (q.2.2 (.inr (withR_mem.2 (.inr O))))⟩
    · rcases withR_mem.1 q with h|h
      · exact hok.2 v hv h
      exact hn1 (h▸hv)
    rw[withR_mem];exact⟨.inl,fun q=>q.elim (fun q=>q) (fun q=>absurd q hx)⟩
  split at h
  · split at h
    · rename_i hl
      have hn:id∉c.vs:=fun q=>hok.2 id q hl
      cases h
      refine⟨⟨⟨⟨zDq hok.1.1.1 hn hid,zB7 hok.1.1.2⟩,by have:=kr c.vs id;show 0<(xV c.vs id).length;omega⟩,fun v hv q=> ?_⟩,fun x hx=>⟨?_,?_⟩,fun q=>hn (q.1.2 (withR_mem.2 (.inr O)))⟩
      · rcases withR_mem.1 hv with h|h
        · exact hok.2 v h (del_mem.1 q).1
        exact(del_mem.1 q).2 h
      · rw[withR_mem];exact⟨.inl,fun q=>q.elim (fun q=>q) (fun q=>absurd q hx)⟩
      rw[del_mem];exact⟨fun q=>⟨q,hx⟩,fun q=>q.1⟩
    cases h
  split at h; · cases h
  rename_i hme
  have hme:=Decidable.not_not.1 hme
  split at h; · cases h
  rename_i hone
  cases h
  have hlt:=hok.1.1.1.lt
  refine⟨⟨⟨⟨zB7 hok.1.1.1,zB7 hok.1.1.2⟩,?_⟩,fun v hv q=>hok.2 v (del_mem.1 hv).1 (del_mem.1 q).1⟩,fun x hx=>⟨?_,?_⟩,fun q=> ?_⟩
  · show 0<(xW c.vs id).length
    have h3:0<c.vs.length:=hok.1.2
    by_cases hm:id∈c.vs
    · have h1:=zDu (n:=id) hlt
      have h2:c.vs.length≠1:=fun q=>hone ⟨hm,q⟩
      omega
    rw[zDG hm];exact h3
  · rw[del_mem];exact⟨fun q=>⟨q,hx⟩,fun q=>q.1⟩
  · rw[del_mem];exact⟨fun q=>⟨q,hx⟩,fun q=>q.1⟩
  exact(q.2.1 hme).elim (fun q=>(del_mem.1 q).2 rfl) (fun q=>(del_mem.1 q).2 rfl)
theorem zCi{F:ConfA}(h:F.ok):xH F.enc=some F:=zIr (zNK (Rises.few' h.1.1.1) (Rises.few' h.1.1.2)) h
theorem zEq{k:Int}{c F:ConfA}{id:Int}(h:chg k c id=(F,0)):F.ok∧c.ok:=by
  have h1:chg k (ConfD.mk (.slice none 0 0) c.vs (.slice none 0 0) c.ls).a id=(⟨F.vs,F.ls⟩,0):=h
  exact⟨(zFh h1).1,zKw h1⟩
theorem zKG{k:Int}{c F:ConfA}{id:Int}(h:chg k c id=(F,0)):F.vs.length≤c.vs.length+1∧F.ls.length≤c.ls.length+1:=zMb (c:=ConfD.mk (.slice none 0 0) c.vs (.slice none 0 0) c.ls) (h:chg k _ id=(⟨F.vs,F.ls⟩,0))
theorem zBv{vs:List Int}{E:List EntA}{x:EntA}{F:ConfA}(hk:x.kind=3)(hi:x.index=E.length+1)(hd:xH x.data=some F):zc vs (E++[x])=F:=by
  unfold zc y5
  have h1:j6 (E++[x]).length x=true:=by unfold j6;rw[List.length_append];exact decide_eq_true ⟨hk,by rw[hi];exact Nat.le_refl _⟩
  rw[List.reverse_append,List.reverse_singleton,List.singleton_append,List.find?_cons,h1]
  show(xH x.data).getD _=F
  rw[hd];rfl
theorem zE6{F:ConfA}(h:F.ok):F.enc.length≤4096:=by
  have h1:=ConfD.enc_le (c:=⟨.slice none 0 0,F.vs, .slice none 0 0,F.ls⟩)
  have h2:=(Rises.few' h.1.1.1).1
  have h3:=(Rises.few' h.1.1.2).1
  have h1:F.enc.length≤9*(F.vs.length+F.ls.length+2):=h1
  omega
end Go.Proofs.YtkkeknmkipkbmaaGreat
