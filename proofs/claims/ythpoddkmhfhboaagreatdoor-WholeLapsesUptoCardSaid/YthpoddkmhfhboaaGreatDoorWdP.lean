import Derived.Test.YthpoddkmhfhboaaGreatDoorFwR
import Derived.Test.YthpoddkmhfhboaaGreatDoorWhA
set_option linter.unusedVariables false
set_option linter.unusedSimpArgs false
set_option linter.unusedSectionVars false
namespace Go.Sc
class SO (α:Type) where
 lt:α→α→Prop
 dec:∀ a b,Decidable (lt a b)
 asymm:∀ {a b:α},lt a b→¬ lt b a
 tr:∀ {a b c:α},¬ lt b a→¬ lt c b→¬ lt c a
abbrev olt{α:Type}[SO α](a b:α):Prop:=SO.lt a b
abbrev ole{α:Type}[SO α](a b:α):Prop:=¬ SO.lt b a
instance {α:Type}[SO α](a b:α):Decidable (SO.lt a b):=SO.dec a b
instance:SO Nat:=⟨fun a b=>a<b,fun a b=>inferInstance,fun h k=>by omega,fun h k=>by omega⟩
variable {α:Type} [Inhabited α]
def swp(l:List α)(i j:Nat):List α:=(l.set i (zc l j)).set j (zc l i)
variable [DecidableEq α] [SO α]
structure Same(a b:Nat)(l l':List α):Prop where
 len:l'.length=l.length
 out:∀ k,k<a∨b≤k→zc l' k=zc l k
 perm:l'.Perm l
def All(a b:Nat)(P:α→Prop)(l:List α):Prop:=∀ k,a≤k→k<b→P (zc l k)
def Up(a b:Nat)(l:List α):Prop:=∀ k,a≤k→k+1<b→ole (zc l k) (zc l (k+1))
def Ins(a i j:Nat)(l:List α):Prop:=(∀ k,a≤k→k+1≤i→k+1≠j→ole (zc l k) (zc l (k+1)))∧(a<j→j<i→ole (zc l (j - 1)) (zc l (j+1)))
def Hp(lo hi f:Nat)(l:List α):Prop:=∀ i,lo≤i→∀ c,c=2*i+1∨c=2*i+2→c<hi→ole (zc l (f+c)) (zc l (f+i))
structure HpX(lo hi f r:Nat)(l:List α):Prop where
 rest:∀ i,lo≤i→i≠r→∀ c,c=2*i+1∨c=2*i+2→c<hi→ole (zc l (f+c)) (zc l (f+i))
 over:∀ p,lo≤p→r=2*p+1∨r=2*p+2→∀ c,c=2*r+1∨c=2*r+2→c<hi→ole (zc l (f+c)) (zc l (f+p))
structure HpUp(i n f:Nat)(l:List α):Prop where
 hp:Hp 0 i f l
 up:Up (f+i) (f+n) l
 over:∀ k j,k<i→i≤j→j<n→ole (zc l (f+k)) (zc l (f+j))
structure Part(a b m:Nat)(l:List α):Prop where
 lo:∀ k,a≤k→k<m→ole (zc l k) (zc l m)
 hi:∀ k,m<k→k<b→ole (zc l m) (zc l k)
def Pred(a b:Nat)(l:List α):Prop:=a=0∨∀ k,a≤k→k<b→ole (zc l (a - 1)) (zc l k)
def Lo(a i:Nat)(q:List α):Prop:=∀ k,a+1≤k→k<i→olt (zc q k) (zc q a)
def Hi(a j b:Nat)(q:List α):Prop:=∀ k,j<k→k<b→ole (zc q a) (zc q k)
def Le(a i:Nat)(q:List α):Prop:=∀ k,a+1≤k→k<i→ole (zc q k) (zc q a)
def Gt(a j b:Nat)(q:List α):Prop:=∀ k,j<k→k<b→olt (zc q a) (zc q k)
structure Eqs(a i b:Nat)(x:α)(l:List α):Prop where
 lo:∀ k,a≤k→k<i→ole (zc l k) x
 hi:∀ k,i≤k→k<b→olt x (zc l k)
structure Fr(a c d b:Nat)(q:List α):Prop where
 lo:Up a c q
 loe:∀ k j,a≤k→k<c→c≤j→j<b→ole (zc q k) (zc q j)
 hi:Up d b q
 hie:∀ k j,a≤k→k<d→d≤j→j<b→ole (zc q k) (zc q j)
def S1(s:ByteArray):List Value:=[.string s]
def sLt(a b:ByteArray):Prop:=a.toList<b.toList
def sLe(a b:ByteArray):Prop:=¬ sLt b a
instance (a b:ByteArray):Decidable (sLt a b):=inferInstanceAs (Decidable (_<_))
instance (a b:ByteArray):Decidable (sLe a b):=inferInstanceAs (Decidable (¬ _))
theorem zHo(a:ByteArray):¬ sLt a a:=List.lt_irrefl _
theorem zEP{a b c:ByteArray}(h:sLt a b)(k:sLt b c):sLt a c:=List.lt_trans h k
theorem zKI{a b:ByteArray}(h:sLt a b):¬ sLt b a:=fun k=>zHo _ (zEP h k)
theorem zQd{a b:ByteArray}(h:a.toList=b.toList):a=b:=of_decide_eq_true (jR a b▸(by rw[h];simp))
theorem zNo{a b:ByteArray}(h:¬ sLt a b)(k:¬ sLt b a):a=b:=zQd (List.le_antisymm (List.not_lt.1 k) (List.not_lt.1 h))
theorem zRA{a b c:ByteArray}(h:¬ sLt b a)(k:¬ sLt c b):¬ sLt c a:=fun q=>by
 by_cases e:sLt a b
 · exact k (zEP q e)
 exact k (by rw[←zNo e h];exact q)
instance:SO ByteArray:=⟨sLt,fun a b=>inferInstance,zKI,zRA⟩
section
variable {P:Program} {n:Nat} {ops:Array Oper} {N:K} {f:Nat→Value} {rest:List Oper} {d:Nat} {t ty:TypeId} {p:String} {af:Array Edge} {x y:Operand} {A:World→Prop}
variable {s u:ByteArray} {t':TypeId}
end
theorem zEO{α:Type}[Inhabited α]{g:α→List Value}{sz:Nat}(d:∀ x,(g x).length=sz){o:Nat}(ho:o<sz){u:Value}:∀ {l:List α} {k:Nat} {a:α},k<l.length→g a=(g (zc l k)).set o u→(l.set k a).flatMap g=(l.flatMap g).set (k*sz+o) u
 | [],k,a,h,_=>by simp at h
 |b::l,0,a,_,c=>by
   have c:g a=(g b).set o u:=c
   simp only[List.set_cons_zero,List.flatMap_cons,Nat.zero_mul,Nat.zero_add]
   rw[List.set_append_left _ _ (by rw[d];exact ho),c]
 |b::l,k+1,a,h,c=>by
   have e:=zEO d ho (l:=l) (k:=k) (a:=a) (by simpa using h) c
   simp only[List.set_cons_succ,List.flatMap_cons,e]
   rw[Nat.add_mul,Nat.one_mul,show k*sz+sz+o=(g b).length+(k*sz+o)by rw[d];omega,List.set_append_right _ _ qG]
   congr 2;omega
section
variable {P:Program} {n:Nat} {ops:Array Oper} {N:K} {f:Nat→Value} {rest:List Oper} {d:Nat} {t ty e:TypeId} {p:String} {af:Array Edge} {x y:Operand} {w0:World} {S:List Nat} {L:List Res}
theorem zSJ{α:Type}[Inhabited α]{g:α→List Value}{xs:List α}(k sz j o:Nat)(a:α){off:Nat}{v u:Value}(d:L[k]?=some (Res.vec e sz v xs.length (xs.flatMap g)))(b:∀ x,(g x).length=sz)(h:ev f x= .pointer (some ⟨xw v,off,none⟩))(ho:off=yr v+(j*sz+o))(i:ev f y=u)(l:g a=(g (zc xs j)).set o u)(m:cell1 u=true)(q:j<xs.length)(hp:o<sz)(r:jm P t=some 1)
   (c:CL P n ops rest N f (Own w0 S (L.set k (Res.vec e sz v (xs.set j a).length ((xs.set j a).flatMap g))))):CL P n ops (⟨none, .store t x y,ty,p,af,none⟩::rest) N f (Own w0 S L):=by
 refine zP1 k (j*sz+o) h ho i d r m (by rw[jc b];exact Nat.lt_of_lt_of_le (Nat.add_lt_add_left hp _) (Nat.le_trans (Nat.le_of_eq (by rw[Nat.add_mul,Nat.one_mul])) (Nat.mul_le_mul_right sz (show j+1≤xs.length by omega)))) ?_
 rw[zEO b hp q l,List.length_set]at c
 exact c
end
section
variable {κ α:Type} [DecidableEq κ]
def KNd(l:List (κ×α)):Prop:=(l.map (·.1)).Nodup
theorem KNd.cons{p:κ×α}{l:List (κ×α)}:KNd (p::l)↔(∀ q∈l,q.1≠p.1)∧KNd l:=by
 unfold KNd
 rw[List.map_cons,List.nodup_cons]
 refine and_congr ⟨fun h q a e=>h<|e▸List.mem_map_of_mem a,fun h e=> ?_⟩ Iff.rfl
 obtain⟨q,a,e⟩:=List.mem_map.1 e
 exact h q a e
theorem KNd.perm{l m:List (κ×α)}(h:KNd l)(hp:l.Perm m):KNd m:=(hp.map _).nodup_iff.1 h
theorem KNd.sub{l m:List (κ×α)}(h:KNd l)(a:m.Sublist l):KNd m:=h.sublist (a.map _)
theorem getA_none{k:κ}:∀ {l:List (κ×α)},zl k l=none↔∀ p∈l,p.1≠k
 | []=>by simp[zl]
 |(x,u)::r=>by
   have a:=getA_none (k:=k) (l:=r)
   unfold zl
   by_cases h:k=x
   · simp only[h,if_true,List.mem_cons]
     refine⟨fun q=>(by simp at q),fun q=>absurd O<|q (x,u)<|.inl O⟩
   rw[if_neg h,a]
   refine⟨fun q p hp=> ?_,fun q p hp=>q p<|List.mem_cons_of_mem _ hp⟩
   rcases List.mem_cons.1 hp with rfl|hp
   · exact fun e=>h e.symm
   exact q p hp
theorem j2{k:κ}{v:α}:∀ {l:List (κ×α)},zl k l=some v→(k,v)∈l
 | [],h=>by simp[zl]at h
 |(x,u)::r,h=>by
   unfold zl at h
   split at h
   · rename_i e;simp at h;subst h e;exact List.mem_cons_self ..
   exact List.mem_cons_of_mem _ (j2 h)
theorem zAQ{k:κ}{v:α}:∀ {l:List (κ×α)},KNd l→(k,v)∈l→zl k l=some v
 | [],_,h=>by simp at h
 |(x,u)::r,a,h=>by
   have a:=KNd.cons.1 a
   unfold zl
   rcases List.mem_cons.1 h with e|h
   · simp only[Prod.mk.injEq]at e;rw[if_pos e.1,e.2]
   rw[if_neg (fun e=>a.1 _ h e)];exact zAQ a.2 h
theorem zKO{k:κ}{l m:List (κ×α)}(a:KNd l)(hp:l.Perm m):zl k l=zl k m:=by
 cases h:zl k l with
 |none=>
   symm;rw[getA_none]at h ⊢
   exact fun p q=>h p<|hp.mem_iff.2 q
 |some v=>exact(zAQ (a.perm hp) (hp.mem_iff.1 (j2 h))).symm
theorem zCj{k:κ}:∀ {l:List (κ×α)},KNd l→zAF k l=l.filter fun p=>decide (p.1≠k)
 | [],_=>rfl
 |(x,u)::r,a=>by
   have a:=KNd.cons.1 a
   unfold zAF
   by_cases h:k=x
   · subst h
     rw[if_pos rfl,List.filter_cons_of_neg qJ]
     exact(List.filter_eq_self.2 fun p hp=>by simpa using a.1 p hp).symm
   rw[if_neg h,List.filter_cons_of_pos (by simpa using fun e:x=k=>h e.symm),zCj a.2]
theorem zER{k:κ}{v:α}:∀ {l:List (κ×α)},KNd l→(yZ k v l).Perm ((k,v)::l.filter fun p=>decide (p.1≠k))
 | [],_=> .refl _
 |(x,u)::r,a=>by
   have a:=KNd.cons.1 a
   unfold yZ
   by_cases h:k=x
   · subst h
     rw[if_pos rfl,List.filter_cons_of_neg qJ,List.filter_eq_self.2 fun p hp=>by simpa using a.1 p hp]
   rw[if_neg h,List.filter_cons_of_pos (by simpa using fun e:x=k=>h e.symm)]
   exact((zER a.2).cons _).trans<|.swap ..
theorem zDS{k j:κ}{v:α}:∀ {l:List (κ×α)},zl j (yZ k v l)=if j=k then some v else zl j l
 | []=>by simp[yZ,zl]
 |(x,u)::r=>by
   have a:=zDS (k:=k) (j:=j) (v:=v) (l:=r)
   unfold yZ
   by_cases h:k=x
   · subst h
     rw[if_pos rfl];unfold zl
     by_cases e:j=k<;>simp[e]
   rw[if_neg h];unfold zl
   rw[a]
   by_cases e:j=x
   · rw[if_pos e,if_pos e,if_neg (fun q=>h (q.symm.trans e))]
   rw[if_neg e,if_neg e]
theorem KNd.put{k:κ}{v:α}{l:List (κ×α)}(a:KNd l):KNd (yZ k v l):=by
 refine KNd.perm ?_ (zER a).symm
 rw[KNd.cons]
 exact⟨fun q b=>by have:=(List.mem_filter.1 b).2;simpa using this,a.sub List.filter_sublist⟩
theorem zDJ{k:κ}{v:α}:∀ {l:List (κ×α)},(yZ k v l).length=l.length+if zl k l=none then 1 else 0
 | []=>rfl
 |(x,u)::r=>by
   have a:=zDJ (k:=k) (v:=v) (l:=r)
   unfold yZ zl
   by_cases h:k=x
   · simp[h]
   rw[if_neg h,if_neg h,List.length_cons,a,List.length_cons];omega
end
structure LeaD where
 id:Nat
 session:Nat
 key:ByteArray
 amount:Int
 until_:Int
 deriving DecidableEq
structure BudD where
 key:ByteArray
 amount:Int
 deriving DecidableEq
def LeaD.cells(x:LeaD):List Value:=[.int .u64 x.id, .int .u64 x.session, .string x.key, .int .i64 x.amount, .int .i64 x.until_]
def BudD.cells(x:BudD):List Value:=[.string x.key, .int .i64 x.amount]
def LeaD.zero:LeaD:=⟨0,0,⟨#[]⟩,0,0⟩
instance:Inhabited LeaD:=⟨LeaD.zero⟩
instance:Inhabited BudD:=⟨⟨⟨#[]⟩,0⟩⟩
def KB(bs:List BudD):List (ByteArray×Int):=bs.map fun b=>(b.key,b.amount)
def KL(ls:List LeaD):List (Nat×LeaD):=ls.map fun l=>(l.id,l)
theorem zS5{k:ByteArray}:k≠yEb↔1≤k.size:=by
 obtain⟨d⟩:=k
 show _↔1≤d.size
 constructor
 · intro h
   rcases Nat.eq_zero_or_pos d.size with q|q
   · exact absurd (by rw[Array.eq_empty_of_size_eq_zero q]) h
   exact q
 intro h e
 have:d= #[]:=congrArg ByteArray.data e
 rw[this]at h;simp at h
def kd(k:ByteArray):List LeaD→Int
 | []=>0
 |l::r=>(if l.key=k then l.amount else 0)+kd k r
theorem zJk(k:ByteArray)(l m:List LeaD):kd k (l++m)=kd k l+kd k m:=by
 induction l with
 |nil=>simp[kd]
 |cons a l ih=>simp only[List.cons_append,kd,ih];omega
def Pos(l:List LeaD):Prop:=∀ x∈l,1≤x.amount
def zCl(k:ByteArray)(l:List LeaD):Int:=IntKind.i64.wrap (kd k l)
def yi(k:ByteArray)(kl:List (Nat×LeaD)):Int:=zCl k (kl.map (·.2))
theorem zLp(a b:Int):IntKind.i64.wrap (IntKind.i64.wrap a+b)=IntKind.i64.wrap (a+b):=by
 unfold IntKind.wrap
 simp[IntKind.bits,IntKind.signed]
 repeat' split
 all_goals omega
def zGJ(k:ByteArray)(bs:List BudD):Int:=(zl k (KB bs)).getD 0
theorem zCm(k:ByteArray)(l1 l2:List (Nat×LeaD))(i:Nat)(v:LeaD):kd k ((l1++(i,v)::l2).map (·.2))=kd k ((l1++l2).map (·.2))+(if v.key=k then v.amount else 0):=by
 simp only[List.map_append,List.map_cons,zJk,kd];omega
def x1(k:ByteArray):Prop:=1≤k.size∧k.size≤64
instance (k:ByteArray):Decidable (x1 k):=inferInstanceAs (Decidable (_∧_))
def xO(n:Int):Prop:=1≤n∧n≤1099511627776
instance (n:Int):Decidable (xO n):=inferInstanceAs (Decidable (_∧_))
def kP(now n:Int):Int:=if n<0∨1099511627776<n then 1 else if 2305843009213693952<now+n then 3 else 0
def ye(now n:Int):Int:=if kP now n=0 then now+n else now
def zDU(t:Int)(l:LeaD):Bool:=decide (l.until_≤t)
def passG(now n:Int)(ls:List LeaD):List Nat:=if kP now n=0 then(ls.filter (zDU (now+n))).map (·.id)else []
def passL(now n:Int)(ls:List LeaD):List LeaD:=if kP now n=0 then ls.filter (fun l=> !zDU (now+n) l)else ls
def kZ(now n:Int)(kl:List (Nat×LeaD)):List Nat:=if kP now n=0 then(kl.filter fun p=>zDU (now+n) p.2).map (·.1)else []
def yX(now n:Int)(kl:List (Nat×LeaD)):List (Nat×LeaD):=if kP now n=0 then kl.filter (fun p=> !zDU (now+n) p.2)else kl
def ju(k:ByteArray)(a:Int)(kb:List (ByteArray×Int)):Int:=
 if ¬ x1 k∨a<0 then 1 else if a≠0∧zl k kb=none∧64≤kb.length then 7 else 0
def zFQ(k:ByteArray)(a:Int)(kb:List (ByteArray×Int)):List (ByteArray×Int):=
 if ju k a kb=0 then(if a=0 then zAF k kb else yZ k a kb)else kb
def zUJ(k:ByteArray)(a:Int)(bs:List BudD):Int:=
 if ¬ x1 k∨a<0 then 1 else if zGJ k bs=0∧0<a∧64≤bs.length then 7 else 0
def zUM(k:ByteArray)(a:Int)(q:Bool×List BudD)(b:BudD):Bool×List BudD:=
 (q.1||decide (sLe k b.key),(q.2++if q.1=false∧sLe k b.key then [⟨k,a⟩]else [])++if b.key≠k then [b]else [])
def zUN(k:ByteArray)(a:Int)(bs:List BudD):List BudD:=
 let q:=bs.foldl (zUM k a) (decide (a=0),[])
 q.2++if q.1=false then [⟨k,a⟩]else []
def setB(k:ByteArray)(a:Int)(bs:List BudD):List BudD:=if zUJ k a bs=0 then zUN k a bs else bs
def kF(s:Nat)(k:ByteArray)(a sp:Int):Prop:=s=0∨¬ x1 k∨a<1∨¬ xO sp
instance (s:Nat)(k:ByteArray)(a sp:Int):Decidable (kF s k a sp):=inferInstanceAs (Decidable (_∨_))
def xe(s:Nat)(k:ByteArray)(a sp:Int)(kb:List (ByteArray×Int))(kl:List (Nat×LeaD)):Int:=
 if kF s k a sp then 1 else if zl k kb=none then 8 else if 9223372036854775807<yi k kl+a then 3 else if(zl k kb).getD 0<yi k kl+a then 16 else if 128≤kl.length then 7 else 0
def lendE(s:Nat)(k:ByteArray)(a sp:Int)(bs:List BudD)(ls:List LeaD):Int:=
 if kF s k a sp then 1 else if zGJ k bs=0 then 8 else if 9223372036854775807<zCl k ls+a then 3 else if zGJ k bs<zCl k ls+a then 16 else if 128≤ls.length then 7 else 0
def zDK(e:Int)(cnt s:Nat)(k:ByteArray)(a t:Int):LeaD:=if e=0 then⟨cnt+1,s,k,a,t⟩else LeaD.zero
def zAo(l:LeaD)(t:Int):LeaD:=⟨l.id,l.session,l.key,l.amount,max l.until_ t⟩
def zDI(now:Int)(kb:List (ByteArray×Int))(kl:List (Nat×LeaD))(s i:Nat)(sp:Int)(x:LeaD)(e:Int)(kl':List (Nat×LeaD)):Prop:=
 (¬ xO sp∧e=1∧x=LeaD.zero∧kl'=kl)∨
 (xO sp∧(∀ l,zl i kl=some l→l.session≠s)∧e=17∧x=LeaD.zero∧kl'=kl)∨
 (xO sp∧∃ l,zl i kl=some l∧l.session=s∧(((zl l.key kb).getD 0<yi l.key kl∧e=16∧x=LeaD.zero∧kl'=kl)∨(yi l.key kl≤(zl l.key kb).getD 0∧e=0∧x=zAo l (now+sp)∧kl'=yZ i x kl)))
def RenewR(now:Int)(bs:List BudD)(ls:List LeaD)(s i:Nat)(sp:Int)(x:LeaD)(e:Int)(ls':List LeaD):Prop:=
 (¬ xO sp∧e=1∧x=LeaD.zero∧ls'=ls)∨
 (xO sp∧(∀ l∈ls,¬(l.id=i∧l.session=s))∧e=17∧x=LeaD.zero∧ls'=ls)∨
 (xO sp∧∃ k,k<ls.length∧(zc ls k).id=i∧(zc ls k).session=s∧((zGJ (zc ls k).key bs<zCl (zc ls k).key ls∧e=16∧x=LeaD.zero∧ls'=ls)∨(zCl (zc ls k).key ls≤zGJ (zc ls k).key bs∧e=0∧x=zAo (zc ls k) (now+sp)∧ls'=ls.set k x)))
def zJG(kl:List (Nat×LeaD))(s i:Nat)(x:LeaD)(e:Int)(kl':List (Nat×LeaD)):Prop:=
 ((∀ l,zl i kl=some l→l.session≠s)∧e=17∧x=LeaD.zero∧kl'=kl)∨
 (∃ l,zl i kl=some l∧l.session=s∧e=0∧x=l∧kl'=zAF i kl)
def BackR(ls:List LeaD)(s i:Nat)(x:LeaD)(e:Int)(ls':List LeaD):Prop:=
 ((∀ l∈ls,¬(l.id=i∧l.session=s))∧e=17∧x=LeaD.zero∧ls'=ls)∨
 (∃ k,k<ls.length∧(zc ls k).id=i∧(zc ls k).session=s∧e=0∧x=zc ls k∧ls'=ls.take k++ls.drop (k+1))
theorem zEN{k:ByteArray}{a:Int}{kb:List (ByteArray×Int)}(h:¬ x1 k∨a<0):ju k a kb=1:=if_pos h
theorem zDf{k:ByteArray}{a:Int}{kb:List (ByteArray×Int)}(h:¬(¬ x1 k∨a<0))(h2:¬ a=0)(b:(!(zl k kb).isSome)=true∧64≤((kb.length:Nat):Int)):ju k a kb=7:=by
 unfold ju
 rw[if_neg h,if_pos ⟨h2,by simpa using b.1,by omega⟩]
theorem zEX{k:ByteArray}{a:Int}{kb:List (ByteArray×Int)}(h:¬(¬ x1 k∨a<0))(h2:a=0):ju k a kb=0:=by
 unfold ju
 rw[if_neg h,if_neg fun q=>q.1 h2]
theorem zEj{k:ByteArray}{a:Int}{kb:List (ByteArray×Int)}(h:¬(¬ x1 k∨a<0))(b:¬((!(zl k kb).isSome)=true∧64≤((kb.length:Nat):Int))):ju k a kb=0:=by
 unfold ju
 rw[if_neg h,if_neg fun q=>b ⟨by simp[q.2.1],by omega⟩]
theorem zF2{k:ByteArray}{a e:Int}{kb:List (ByteArray×Int)}(h:ju k a kb=e)(b:e≠0):kb=zFQ k a kb:=by
 unfold zFQ;rw[if_neg (by rw[h];exact b)]
theorem zLT{k:ByteArray}{a:Int}{kb:List (ByteArray×Int)}(h:ju k a kb=0)(h2:a=0):zAF k kb=zFQ k a kb:=by
 unfold zFQ;rw[if_pos h,if_pos h2]
theorem zMJ{k:ByteArray}{a:Int}{kb:List (ByteArray×Int)}(h:ju k a kb=0)(h2:¬ a=0):yZ k a kb=zFQ k a kb:=by
 unfold zFQ;rw[if_pos h,if_neg h2]
def zIm(e:Int)(x:LeaD)(kl:List (Nat×LeaD)):List (Nat×LeaD):=if e=0 then yZ x.id x kl else kl
def lendL(e:Int)(x:LeaD)(ls:List LeaD):List LeaD:=if e=0 then ls++[x]else ls
def zMe(e:Int)(cnt:Nat):Nat:=if e=0 then cnt+1 else cnt
theorem larg{s:Nat}{k:ByteArray}{a sp:Int}:(((((s:Nat):Int)=((0:Nat):Int))∨¬ x1 k)∨a<1)∨¬ xO sp↔kF s k a sp:=by
 unfold kF
 rw[or_assoc,or_assoc]
 refine or_congr ?_ Iff.rfl
 omega
section
variable {s:Nat} {k:ByteArray} {a sp:Int} {kb:List (ByteArray×Int)} {kl:List (Nat×LeaD)}
theorem zPs(h:kF s k a sp):xe s k a sp kb kl=1:=if_pos h
theorem zTb(h:¬ kF s k a sp)(h2:(!(zl k kb).isSome)=true):xe s k a sp kb kl=8:=by
 unfold xe;rw[if_neg h,if_pos (by simpa using h2)]
theorem zDB{α:Type}{o:Option α}(h:¬(!o.isSome)=true):¬ o=none:=by cases o<;>simp_all
theorem zTo(h:¬ kF s k a sp)(h2:¬(!(zl k kb).isSome)=true)(b:9223372036854775807<yi k kl+a):xe s k a sp kb kl=3:=by
 unfold xe;rw[if_neg h,if_neg (zDB h2),if_pos b]
theorem zRz(h:¬ kF s k a sp)(h2:¬(!(zl k kb).isSome)=true)(b:¬ 9223372036854775807<yi k kl+a)(c:(zl k kb).getD 0<yi k kl+a):xe s k a sp kb kl=16:=by
 unfold xe;rw[if_neg h,if_neg (zDB h2),if_neg b,if_pos c]
theorem zSv(h:¬ kF s k a sp)(h2:¬(!(zl k kb).isSome)=true)(b:¬ 9223372036854775807<yi k kl+a)(c:¬(zl k kb).getD 0<yi k kl+a)(d:128≤((kl.length:Nat):Int)):xe s k a sp kb kl=7:=by
 unfold xe;rw[if_neg h,if_neg (zDB h2),if_neg b,if_neg c,if_pos qG]
theorem zGK(h:¬ kF s k a sp)(h2:¬(!(zl k kb).isSome)=true)(b:¬ 9223372036854775807<yi k kl+a)(c:¬(zl k kb).getD 0<yi k kl+a)(d:¬ 128≤((kl.length:Nat):Int)):xe s k a sp kb kl=0:=by
 unfold xe;rw[if_neg h,if_neg (zDB h2),if_neg b,if_neg c,if_neg qG]
theorem zMo{n m e:Int}(h:(9223372036854775807<zc [n,a] 0+zc [n,a] 1∧e=3∧m=0)∨(zc [n,a] 0+zc [n,a] 1≤9223372036854775807∧e=0∧m=zc [n,a] 0+zc [n,a] 1))(b:n=yi k kl):
   (9223372036854775807<yi k kl+a∧e=3)∨(¬ 9223372036854775807<yi k kl+a∧e=0∧m=yi k kl+a):=by
 rw[show zc [n,a] 0=n from rfl,show zc [n,a] 1=a from rfl,b]at h
 omega
theorem zAb{m e:Int}(h:(9223372036854775807<yi k kl+a∧e=3)∨(¬ 9223372036854775807<yi k kl+a∧e=0∧m=yi k kl+a))(b:e≠0):9223372036854775807<yi k kl+a∧e=3:=by
 rcases h with h|h
 · exact h
 exact absurd h.2.1 b
theorem j1{m e:Int}(h:(9223372036854775807<yi k kl+a∧e=3)∨(¬ 9223372036854775807<yi k kl+a∧e=0∧m=yi k kl+a))(b:¬ e≠0):¬ 9223372036854775807<yi k kl+a∧m=yi k kl+a:=by
 rcases h with h|h
 · omega
 exact⟨h.1,h.2.2⟩
end
theorem zD7{a b n x n' e:Int}{k:Nat}(c:k<2)(d:(k=0→n=0)∧(k=1→n=a)∧(k=2→n=a+b))(f:(k=0→x=a)∧(k=1→x=b))
   (h:(9223372036854775807<n+x∧e=3∧n'=0)∨(n+x≤9223372036854775807∧e=0∧n'=n+x)) (g:0≤a∧a≤9223372036854775807) (hb: -9223372036854775808≤b∧b≤9223372036854775807):
   (e≠0→9223372036854775807<a+b∧e=3)∧(¬ e≠0→((k+1=0→n'=0)∧(k+1=1→n'=a)∧(k+1=2→n'=a+b))∧((k+1<2→0≤n')∧n'≤9223372036854775807)):=by
 rcases(show k=0∨k=1 by omega)with rfl|rfl<;>omega
def zAI(t:Int)(kl:List (Nat×LeaD)):List Nat:=(kl.filter fun p=>zDU t p.2).map (·.1)
def PassI(t:Int)(kl todo kv:List (Nat×LeaD))(g:List Nat):Prop:=
 todo.Sublist kl∧kv=kl.filter (fun p=>decide (p.1∉g))∧(g++zAI t todo).Perm (zAI t kl)
theorem PassI.start(t:Int)(kl:List (Nat×LeaD)):PassI t kl kl kl []:=
 ⟨List.Sublist.refl _,(List.filter_eq_self.2 fun _ _=>by simp).symm, .refl _⟩
theorem zB5(t:Int)(l m:List (Nat×LeaD)):zAI t (l++m)=zAI t l++zAI t m:=by unfold zAI;rw[List.filter_append,List.map_append]
theorem zIs{α:Type}{l m:List α}{a:α}:(l++m).Sublist (l++a::m):=List.Sublist.append_left (List.sublist_cons_self ..) _
theorem PassI.out{t:Int}{kl todo kv q1 q2:List (Nat×LeaD)}{g:List Nat}{k:Nat}{v:LeaD}(h:PassI t kl todo kv g)(b:KNd kl)(c:todo=q1++(k,v)::q2):∀ q∈q1++q2,q.1≠k:=by
 have a:=b.sub h.1
 rw[c]at a
 have:KNd ((k,v)::(q1++q2)):=a.perm List.perm_middle
 exact(KNd.cons.1 this).1
theorem PassI.yes{t:Int}{kl todo kv q1 q2:List (Nat×LeaD)}{g:List Nat}{k:Nat}{v:LeaD}(h:PassI t kl todo kv g)(d:KNd kl)(c:todo=q1++(k,v)::q2)(e:v.until_≤t):PassI t kl (q1++q2) (zAF k kv) (g++[k]):=by
 refine⟨(c▸zIs:(q1++q2).Sublist todo).trans h.1,?_,?_⟩
 · have b:KNd kv:=by rw[h.2.1];exact d.sub List.filter_sublist
   rw[zCj b,h.2.1,List.filter_filter]
   congr 1
   funext p
   simp only[List.mem_append,List.mem_singleton,not_or,Bool.decide_and,ne_eq]
   rw[Bool.and_comm]
 refine List.Perm.trans ?_ h.2.2
 rw[c,zB5,zB5,List.append_assoc]
 refine List.Perm.append_left _ ?_
 have:zAI t ((k,v)::q2)=k::zAI t q2:=by unfold zAI;rw[List.filter_cons_of_pos (by simpa [zDU]using e)];rfl
 rw[this]
 exact(List.perm_middle (l₁:=zAI t q1) (l₂:=zAI t q2) (a:=k)).symm
theorem PassI.no{t:Int}{kl todo kv q1 q2:List (Nat×LeaD)}{g:List Nat}{k:Nat}{v:LeaD}(h:PassI t kl todo kv g)(a:todo=q1++(k,v)::q2)(b:¬ v.until_≤t):PassI t kl (q1++q2) kv g:=by
 refine⟨(a▸zIs:(q1++q2).Sublist todo).trans h.1,h.2.1,(List.Perm.trans (.of_eq ?_) h.2.2)⟩
 rw[a,zB5,zB5]
 have:zAI t ((k,v)::q2)=zAI t q2:=by unfold zAI;rw[List.filter_cons_of_neg (by simpa [zDU]using b)]
 rw[this]
theorem PassI.len{t:Int}{kl todo kv:List (Nat×LeaD)}{g:List Nat}(h:PassI t kl todo kv g):g.length≤kl.length:=by
 have:=h.2.2.length_eq
 have h2:(zAI t kl).length≤kl.length:=by unfold zAI;rw[List.length_map];exact List.length_filter_le _ _
 rw[List.length_append]at this;omega
theorem zCT{now n:Int}(h:¬(n<0∨1099511627776<n))(h2:¬ 2305843009213693952 - n<now):kP now n=0:=by unfold kP;rw[if_neg h,if_neg qG]
theorem zG8{now n:Int}(h:¬(n<0∨1099511627776<n))(h2:2305843009213693952 - n<now):kP now n=3:=by unfold kP;rw[if_neg h,if_pos qG]
theorem zHJ{now n:Int}(h:n<0∨1099511627776<n):kP now n=1:=if_pos h
theorem j8{now n e:Int}{kl:List (Nat×LeaD)}(h:kP now n=e)(b:e≠0):e=kP now n∧now=ye now n∧kl=yX now n kl∧List.Perm [] (kZ now n kl):=by
 have a:¬ kP now n=0:=by rw[h];exact b
 exact⟨h.symm,(if_neg a).symm,(if_neg a).symm,by unfold kZ;rw[if_neg a]⟩
theorem PassI.done{now n:Int}{kl todo kv:List (Nat×LeaD)}{g:List Nat}(h:PassI (now+n) kl todo kv g)(d:todo=[])(b:KNd kl)(a:kP now n=0):
   0=kP now n∧now+n=ye now n∧kv=yX now n kl∧g.Perm (kZ now n kl):=by
 have c:g.Perm (zAI (now+n) kl):=by have:=h.2.2;rw[d]at this;simpa [zAI]using this
 refine⟨a.symm,(if_pos a).symm,?_,by unfold kZ;rw[if_pos a];exact c⟩
 unfold yX
 rw[if_pos a,h.2.1]
 refine List.filter_congr fun p hp=> ?_
 have:p.1∈g↔zDU (now+n) p.2=true:=by
   rw[c.mem_iff];unfold zAI
   constructor
   · intro q
     obtain⟨q,f,e⟩:=List.mem_map.1 q
     obtain⟨h1,h2⟩:=List.mem_filter.1 f
     have e1:=zAQ b (show(p.1,q.2)∈kl by rw[←e];exact h1)
     have e2:=zAQ b (show(p.1,p.2)∈kl from hp)
     rw[e1]at e2
     rw[←Option.some.inj e2];exact h2
   exact fun q=>List.mem_map.2 ⟨p,List.mem_filter.2 ⟨hp,q⟩,rfl⟩
 cases hd:zDU (now+n) p.2 with
 |true=>simp[this.2 hd]
 |false=>simp;exact fun q=>by have:=this.1 q;rw[hd]at this;cases this
structure QOk(now:Int)(cnt:Nat)(bs:List BudD)(ls:List LeaD):Prop where
 time:0≤now∧now≤2305843009213693952
 bnd:(bs.map (·.key)).Nodup
 bpos:∀ b∈bs,1≤b.amount∧b.amount≤9223372036854775807∧x1 b.key
 blen:bs.length≤64
 lup:(ls.map (·.id)).Pairwise (· < ·)
 lok:∀ l∈ls,1≤l.id∧l.id≤cnt∧1≤l.session∧1≤l.amount∧now<l.until_∧l.until_≤4611686018427387904∧x1 l.key
 llen:ls.length≤128
 sums:∀ k,kd k ls≤9223372036854775807
structure QRel(kb:List (ByteArray×Int))(kl:List (Nat×LeaD))(bs:List BudD)(ls:List LeaD):Prop where
 b:kb.Perm (KB bs)
 l:kl.Perm (KL ls)
section
variable {now:Int} {cnt:Nat} {bs:List BudD} {ls:List LeaD} {kb:List (ByteArray×Int)} {kl:List (Nat×LeaD)}
end
def zUW(bs:List BudD):Prop:=(bs.map (·.key)).Pairwise sLt
def InsQ(k:ByteArray)(a:Int)(bs:List BudD)(i:Nat)(q:Bool×List BudD):Prop:=
 (q.1=false∧q.2=bs.take i∧∀ x∈bs.take i,sLt x.key k)∨
 (q.1=true∧q.2=(bs.take i).filter (fun x=>decide (sLt x.key k))++⟨k,a⟩::(bs.take i).filter (fun x=>decide (sLt k x.key))∧∃ y∈bs.take i,sLe k y.key)
section
variable {now:Int} {cnt:Nat} {bs:List BudD} {ls:List LeaD} {kb:List (ByteArray×Int)} {kl:List (Nat×LeaD)}
end
def zP9(now:Int)(last:Nat)(x:LeaD):Prop:=1≤x.id∧x.id≤last∧1≤x.session∧x1 x.key∧1≤x.amount∧now<x.until_∧x.until_≤4611686018427387904
instance (now:Int)(last:Nat)(x:LeaD):Decidable (zP9 now last x):=inferInstanceAs (Decidable (_∧_))
def zSK(bs:List BudD):Prop:=zUW bs∧∀ b∈bs,x1 b.key∧1≤b.amount
def zSH(now:Int)(last:Nat)(ls:List LeaD):Prop:=(ls.map (·.id)).Pairwise (· < ·)∧(∀ l∈ls,zP9 now last l)∧∀ k,kd k ls≤9223372036854775807
structure LoadOk(now:Int)(last:Nat)(bs:List BudD)(ls:List LeaD):Prop where
 time:0≤now∧now≤2305843009213693952
 blen:bs.length≤64
 llen:ls.length≤128
 buds:zSK bs
 leas:zSH now last ls
section
variable {now:Int} {last:Nat} {bs:List BudD} {ls:List LeaD} {i:Nat}
end
end Go.Sc
set_option maxRecDepth 10000
namespace Go.Proofs.YthpoddkmhfhboaaGreatDoor
open Go.Sc
theorem zCD{P:Program}{n:Nat}{fn:Func}{R:Value→World→Prop}{A:World→Prop}{f:Nat→Value}{t0 t1 t2 t3 t4:Tmp}{T:TypeId}{b:Nat}{cs:List Value}{v0 v2 v3 v4:Value}(d:fn.results= #[.tmp t0, .cell t1 T, .tmp t2, .tmp t3, .tmp t4])(e:f t0=v0)(h1:f t1= .pointer (some ⟨b,0,none⟩))(h2:f t2=v2)(g:f t3=v3)(j:f t4=v4)
   (k:jF P T=some cs.length) (l:∀ w,A w→∀ i u,cs[i]?=some u→w.cell? ⟨b,0+i,none⟩=some u) (h:∀ w,A w→R (.tuple #[v0, .agg cs.toArray,v2,v3,v4]) w):∀ w,A w→zBb P fn n R f w:=
 fun w c=>⟨_,fun a m=>by
   have:=y7 (P:=P) k (l w c)
   simp[results,d,m.get,e,h1,h2,g,j,asAddr,this],h w c⟩
structure TruD where
 key:ByteArray
 amount:Int
 till:Int
 deriving DecidableEq,Inhabited
def TruD.cells(x:TruD):List Value:=[.string x.key, .int .i64 x.amount, .int .i64 x.till]
def TruD.zero:TruD:=⟨⟨#[]⟩,0,0⟩
def jN(l:TruD):Value:= .agg l.cells.toArray
theorem zBl{α:Type}[Inhabited α]{l:List α}{k:Nat}(h:k<l.length):l.drop k=zc l k::l.drop (k+1):=by
 rw[List.drop_eq_getElem_cons h];congr 1
 have:=y8 h;rw[List.getElem?_eq_getElem h]at this;injection this
def zAf(a b:Int):Int×Int:=
 if(0<b∧IntKind.i64.wrap (9223372036854775807 - b)<a)∨(b<0∧a<IntKind.i64.wrap (-9223372036854775808 - b))then(0,3)else(IntKind.i64.wrap (a+b),0)
def kL:Int→List Int→Int×Int
 |n,[]=>(n,0)
 |n,x::l=>if(zAf n x).2≠0 then(0,(zAf n x).2)else kL (zAf n x).1 l
theorem zLF{n:Int}{l:List Int}{k:Nat}(h:k<l.length)(e:(zAf n (zc l k)).2≠0):kL n (l.drop k)=(0,(zAf n (zc l k)).2):=by
 rw[zBl h,kL,if_pos e]
theorem zOs{n:Int}{l:List Int}{k:Nat}(h:k<l.length)(e:¬(zAf n (zc l k)).2≠0):kL n (l.drop k)=kL (zAf n (zc l k)).1 (l.drop (k+1)):=by
 rw[zBl h,kL,if_neg e]
theorem zKt{n:Int}{l:List Int}{k:Nat}(h:l.length≤k):kL n (l.drop k)=(n,0):=by
 rw[List.drop_of_length_le h];rfl
def zAm(t rho:Int):Prop:=((t<0∨1099511627776<t)∨rho<0)∨500000<rho
instance (t rho:Int):Decidable (zAm t rho):=inferInstanceAs (Decidable (((_∨_)∨_)∨_))
def shr(t rho:Int):Int:=t*1000000 / (1000000+rho)
def kp(t rho:Int):Int×Int:=if zAm t rho then(0,1)else(shr t rho,0)
def je(t rho:Int):Int×Int:=if(kp t rho).2≠0 then(0,(kp t rho).2)else kp (kp t rho).1 rho
theorem zGx{t rho:Int}(h:¬ zAm t rho):0≤shr t rho∧shr t rho≤t:=by
 unfold zAm at h
 unfold shr
 refine⟨Int.ediv_nonneg qG qG,(Int.ediv_le_of_le_mul qG ?_)⟩
 rw[Int.mul_add]
 have:0≤t*rho:=Int.mul_nonneg qG qG
 omega
theorem zLX{t rho:Int}(h:¬ zAm t rho):je t rho=(shr (shr t rho) rho,0)∧¬ zAm (shr t rho) rho∧0≤shr (shr t rho) rho∧shr (shr t rho) rho≤t:=by
 have h1:=zGx h
 have h2:¬ zAm (shr t rho) rho:=by unfold zAm at h ⊢;omega
 have a:=zGx h2
 refine⟨?_,h2,a.1,by omega⟩
 unfold je kp
 rw[if_neg h]
 simp only[if_neg h2];rfl
theorem zOi{t rho:Int}(h:¬ zAm t rho):IntKind.i64.wrap ((t*1000000).tdiv (1000000+rho))=shr t rho:=by
 have h1:=zGx h
 have h2:(t*1000000).tdiv (1000000+rho)=shr t rho:=by unfold zAm at h;rw[Int.tdiv_eq_ediv_of_nonneg qG];rfl
 unfold zAm at h
 rw[h2];exact zt qG
structure RatioOk(t b:Int):Prop where
 q0:0≤t / b
 q1:t / b≤1099511627776
 qa0:0≤t / b*1000000
 qa1:t / b*1000000≤1099511627776
 r0:0≤t%b
 r1:t%b<b
 ra0:0≤t%b*1000000
 ra1:t%b*1000000≤1500000000000
 rb0:0≤t%b*1000000 / b
 rb1:t%b*1000000 / b≤1500000000000
 sum:t / b*1000000+t%b*1000000 / b=t*1000000 / b
 tq:IntKind.i64.wrap (t.tdiv b)=t / b
 tr:t.tmod b=t%b
 tb:IntKind.i64.wrap ((t%b*1000000).tdiv b)=t%b*1000000 / b
def zCw(x:AskD)(id:Int)(seq:Nat):AskD:=
 if x.look=true then{x with seq:=seq}else{x with seq:=seq,cmd:={x.cmd with session:=u64 id,seq:=seq}}
theorem zFd{x:AskD}{id:Int}{seq:Nat}(h:x.wf)(a:seq<18446744073709551616):(zCw x id seq).wf:=by
 unfold zCw;split
 · exact⟨a,h.cmd,h.key⟩
 exact⟨a,⟨ya _,a,h.cmd.key,h.cmd.amount,h.cmd.span,h.cmd.lease⟩,h.key⟩
def zS2(op:Int)(key:ByteArray)(am sp:Int)(le:Nat):CmdD:=⟨0,0,op,key,am,sp,le⟩
def zBf(op:Int)(key:ByteArray)(am sp:Int)(le:Nat):AskD:=⟨false,false,0,zS2 op key am sp le,⟨#[]⟩⟩
def zPA(key:ByteArray)(lazy:Bool):AskD:=⟨true,lazy,0,zJe,key⟩
theorem zBT{op:Int}{key:ByteArray}{am sp:Int}{le:Nat}(a:key.size≤1048576)(h1:kE am)(h2:kE sp)(b:le<18446744073709551616):(zBf op key am sp le).wf:=
 ⟨by show(0:Nat)<_;omega,⟨by show(0:Nat)<_;omega,by show(0:Nat)<_;omega,a,h1,h2,b⟩,by show(0:Nat)≤_;omega⟩
def xW(op:Int)(key:ByteArray)(am sp:Int):Prop:=
 (((op<1∨5<op)∨64<((key.size:Nat):Int))∨((op=2∨op=3)∧(sp<1∨1099511627776<sp)))∨(op=2∧am<1)
structure CallY(op:Int)(key:ByteArray)(am sp:Int)(le:Nat)(t id:Int)(seq:Nat)(now:Int)(kl:List (Nat×TruD))(kn:List (Nat×Bool))(to nx e:Int)(a':AskD)(since':Int)(waits':Bool)(seq':Nat)(now':Int)(kl':List (Nat×TruD))(kn':List (Nat×Bool)):Prop where
 good:¬ xW op key am sp
 e:e=0
 to:to=nx
 a:a'=zCw (zBf op key am sp le) id (seq+1)
 since:since'=max now t
 waits:waits'=true
 seq:seq'=seq+1
 now:now'=max now t
 kl:kl'=if op=4 then zAF le kl else kl
 kn:kn'=if op=4 then yZ le true kn else kn
def CallK(a:AskD)(since:Int)(waits:Bool)(op:Int)(key:ByteArray)(am sp:Int)(le:Nat)(t id:Int)(seq:Nat)(now:Int)(kl:List (Nat×TruD))(kn:List (Nat×Bool))(to nx e:Int)(a':AskD)(since':Int)(waits':Bool)(seq':Nat)(now':Int)(kl':List (Nat×TruD))(kn':List (Nat×Bool)):Prop:=
 (((waits=true∧e=15)∨(waits=false∧xW op key am sp∧e=1))∧a'=a∧since'=since∧waits'=waits∧seq'=seq∧now'=now∧kl'=kl∧kn'=kn)
 ∨(waits=false∧CallY op key am sp le t id seq now kl kn to nx e a' since' waits' seq' now' kl' kn')
def LookK(a:AskD)(since:Int)(waits:Bool)(key:ByteArray)(lazy:Bool)(t id:Int)(seq:Nat)(now:Int)(e:Int)(a':AskD)(since':Int)(waits':Bool)(seq':Nat)(now':Int):Prop:=
 (((waits=true∧e=15)∨(waits=false∧64<key.size∧e=1))∧a'=a∧since'=since∧waits'=waits∧seq'=seq∧now'=now)
 ∨(waits=false∧key.size≤64∧e=0∧a'=zCw (zPA key lazy) id (seq+1)∧since'=max now t∧waits'=true∧seq'=seq+1∧now'=max now t)
theorem zBp{x:AskD}{id:Int}{seq:Nat}(h:(!x.look)=true):zCw x id seq={x with seq:=seq,cmd:={x.cmd with session:=u64 id,seq:=seq}}:=if_neg (by cases q:x.look<;>simp_all)
theorem zCJ{x:AskD}{id:Int}{seq:Nat}(h:(!x.look)=false):zCw x id seq={x with seq:=seq}:=if_pos (by cases q:x.look<;>simp_all)
theorem zL8{x:AskD}{id:Int}{seq:Nat}(c:(!x.look)=true)(h:x.wf)(a:seq<18446744073709551616):({x with seq:=seq,cmd:={x.cmd with session:=u64 id,seq:=seq}}:AskD).wf:=by rw[←zBp c];exact zFd h a
theorem zLY{x:AskD}{seq:Nat}(c:(!x.look)=false)(h:x.wf)(a:seq<18446744073709551616):({x with seq:=seq}:AskD).wf:=by rw[←zCJ (id:=0) c];exact zFd h a
theorem ValPost.bad{α:Type}{d:Option α}{x z:α}{e:Int}(h:ValPost d x z e)(a:e≠0):d=none:=by
 rcases h with h|h
 · exact absurd h.1 a
 exact h.2.1
theorem ValPost.good{α:Type}{d:Option α}{x z:α}{e:Int}(h:ValPost d x z e)(a:¬ e≠0):d=some x:=by
 rcases h with h|h
 · exact h.2
 exact absurd (by rw[h.1];decide) a
theorem zR6{w:Bool}{n m:Nat}(h:(!w)=true∨((n:Nat):Int)≠((m:Nat):Int)):w=false∨n≠m:=by
 rcases h with h|h
 · exact .inl (by cases w<;>simp_all)
 exact .inr qG
theorem xb{w:Bool}{n m:Nat}(h:¬((!w)=true∨((n:Nat):Int)≠((m:Nat):Int))):w=true∧n=m:=
 ⟨by cases w<;>simp_all,Decidable.by_contra fun q=>h (.inr qG)⟩
theorem zNK{b:Bool}{p:Prop}(h:(!b)=true∧p):b=false∧p:=⟨by cases b<;>simp_all,h.2⟩
theorem zNj{b:Bool}{p:Prop}(h:b=false∧p):(!b)=true∧p:=⟨by rw[h.1];rfl,h.2⟩
def kW(a:AskD)(since rho:Int):Int:=IntKind.i64.wrap (since+(je a.cmd.span rho).1)
def xd(a:AskD)(since rho:Int)(r:RepD)(kl:List (Nat×TruD))(kn:List (Nat×Bool)):List (Nat×TruD):=
 if a.cmd.op=2 then(if r.amount=a.cmd.amount∧(zl r.lease kn).getD false=false then yZ r.lease ⟨a.cmd.key,r.amount,kW a since rho⟩ kl else kl)
 else if a.cmd.op=3 then(if(zl a.cmd.lease kl).isSome=true then yZ a.cmd.lease ⟨((zl a.cmd.lease kl).getD TruD.zero).key,((zl a.cmd.lease kl).getD TruD.zero).amount,max ((zl a.cmd.lease kl).getD TruD.zero).till (kW a since rho)⟩ kl else kl)
 else kl
section
variable {a:AskD} {since rho:Int} {r:RepD} {kl:List (Nat×TruD)} {kn:List (Nat×Bool)}
theorem zST(h1:a.cmd.op=2)(h2:r.amount=a.cmd.amount∧(!((zl r.lease kn).getD false))=true):yZ r.lease ⟨a.cmd.key,r.amount,kW a since rho⟩ kl=xd a since rho r kl kn:=by
 unfold xd;rw[if_pos h1,if_pos ⟨h2.1,by have:=h2.2;cases q:(zl r.lease kn).getD false<;>simp_all⟩]
theorem zSI(h1:a.cmd.op=2)(h2:¬(r.amount=a.cmd.amount∧(!((zl r.lease kn).getD false))=true)):kl=xd a since rho r kl kn:=by
 unfold xd;rw[if_pos h1,if_neg fun q=>h2 ⟨q.1,by rw[q.2];rfl⟩]
theorem zRq(h1:¬ a.cmd.op=2)(h2:a.cmd.op=3)(b:(zl a.cmd.lease kl).isSome=true):yZ a.cmd.lease ⟨((zl a.cmd.lease kl).getD TruD.zero).key,((zl a.cmd.lease kl).getD TruD.zero).amount,max ((zl a.cmd.lease kl).getD TruD.zero).till (kW a since rho)⟩ kl=xd a since rho r kl kn:=by
 unfold xd;rw[if_neg h1,if_pos h2,if_pos b]
theorem zRE(h1:¬ a.cmd.op=2)(h2:a.cmd.op=3)(b:(zl a.cmd.lease kl).isSome=false):kl=xd a since rho r kl kn:=by
 unfold xd;rw[if_neg h1,if_pos h2,if_neg (by rw[b];decide)]
theorem zRS(h1:¬ a.cmd.op=2)(h2:¬ a.cmd.op=3):kl=xd a since rho r kl kn:=by
 unfold xd;rw[if_neg h1,if_neg h2]
end
structure TakeY(y:TldD)(a:AskD)(since rho t now:Int)(kl:List (Nat×TruD))(kn:List (Nat×Bool))(done:Bool)(x:TldD)(bs:List UInt8)(waits':Bool)(now':Int)(kl':List (Nat×TruD)):Prop where
 done:done=true
 x:x=y
 bs:bs=[]
 waits:waits'=false
 now:now'=max now t
 kl:kl'=if a.look=false∧y.reply.e=0 then xd a since rho y.reply kl kn else kl
def TakeK(d:List UInt8)(a:AskD)(since rho:Int)(waits:Bool)(t now:Int)(kl:List (Nat×TruD))(kn:List (Nat×Bool))(done:Bool)(x:TldD)(bs:List UInt8)(e:Int)(waits':Bool)(now':Int)(kl':List (Nat×TruD)):Prop:=
 (zCP d=none∧e=4∧waits'=waits∧now'=now∧kl'=kl)
 ∨∃ y,zCP d=some y∧
   (((waits=false∨y.seq≠a.seq)∧e=13∧waits'=waits∧now'=now∧kl'=kl)
   ∨(waits=true∧y.seq=a.seq∧y.retry=true∧e=0∧waits'=true∧kl'=kl)
   ∨(waits=true∧y.seq=a.seq∧y.retry=false∧e=0∧TakeY y a since rho t now kl kn done x bs waits' now' kl'))
section
variable {d:List UInt8} {a:AskD} {since rho:Int} {waits:Bool} {t now:Int} {kl:List (Nat×TruD)} {kn:List (Nat×Bool)} {done:Bool} {x y:TldD} {bs:List UInt8} {e:Int} {waits':Bool} {now':Int} {kl':List (Nat×TruD)}
theorem TakeK.yes(h:TakeK d a since rho waits t now kl kn done x bs e waits' now' kl')(c:zCP d=some y)(f:waits=true)(g:y.seq=a.seq)(i:y.retry=false):e=0∧TakeY y a since rho t now kl kn done x bs waits' now' kl':=by
 rcases h with h|⟨z,b,h⟩
 · rw[c]at h;cases h.1
 rw[c]at b;injection b with b;subst b
 rcases h with h|h|h
 · rcases h.1 with q|q
   · rw[f]at q;cases q
   exact absurd g q
 · rw[i]at h;cases h.2.2.1
 exact h.2.2.2
end
section
variable {a:AskD} {since:Int} {waits:Bool} {op:Int} {key:ByteArray} {am sp:Int} {le:Nat} {t id:Int} {seq:Nat} {now:Int} {kl:List (Nat×TruD)} {kn:List (Nat×Bool)} {to nx e:Int} {a':AskD} {since':Int} {waits':Bool} {seq':Nat} {now':Int} {kl':List (Nat×TruD)} {kn':List (Nat×Bool)}
end
def zNA(key:ByteArray)(now:Int)(x:TruD):Bool:=decide (x.key=key)&&decide (now<x.till)
def jK(key:ByteArray)(now:Int)(kl:List (Nat×TruD))(ids:List Nat):List Int:=
 ((ids.map fun i=>(zl i kl).getD TruD.zero).filter (zNA key now)).map (·.amount)
theorem zLw{key:ByteArray}{now:Int}{kl:List (Nat×TruD)}{ids:List Nat}{k:Nat}(h:k<ids.length)(h1:((zl (zc ids k) kl).getD TruD.zero).key=key)(h2:now<((zl (zc ids k) kl).getD TruD.zero).till):
   jK key now kl (ids.take k)++[((zl (zc ids k) kl).getD TruD.zero).amount]=jK key now kl (ids.take (k+1)):=by
 unfold jK
 rw[yl h,List.map_append,List.filter_append,List.map_append,List.map_cons,List.map_nil,List.filter_cons_of_pos (by unfold zNA;rw[decide_eq_true h1,decide_eq_true h2];rfl)];rfl
theorem zPT{key:ByteArray}{now:Int}{kl:List (Nat×TruD)}{ids:List Nat}{k:Nat}(h:k<ids.length)(h1:¬(((zl (zc ids k) kl).getD TruD.zero).key=key∧now<((zl (zc ids k) kl).getD TruD.zero).till)):
   jK key now kl (ids.take k)=jK key now kl (ids.take (k+1)):=by
 unfold jK
 rw[yl h,List.map_append,List.filter_append,List.map_append,List.map_cons,List.map_nil,List.filter_cons_of_neg]
 · simp
 unfold zNA;rw[Bool.and_eq_true,decide_eq_true_iff,decide_eq_true_iff];exact h1
theorem zLq(key:ByteArray)(now:Int)(kl:List (Nat×TruD))(a:List Nat):(jK key now kl a).length≤a.length:=by
 unfold jK;rw[List.length_map]
 exact Nat.le_trans (List.length_filter_le _ _) (by rw[List.length_map];exact Nat.le_refl _)
def zUP(am:Int)(q:Int×Int):Int:=if q.2≠0 then q.2 else if q.1<am then 16 else 0
def AdmK(key:ByteArray)(am now:Int)(kl:List (Nat×TruD))(e:Int):Prop:=
 (am<1∧e=1)∨(¬ am<1∧∃ ids:List Nat,ids.Perm (kl.map (·.1))∧ids.Pairwise (fun x y=>x≤y)∧e=zUP am (kL 0 (jK key now kl ids)))
theorem zPJ{key:ByteArray}{now:Int}{ids:List Nat}{i:Nat}{x:TruD}(h:ids.Perm ([(i,x)].map (·.1))):jK key now [(i,x)] ids=if x.key=key∧now<x.till then [x.amount]else []:=by
 have e:ids=[i]:=List.perm_singleton.1 h
 subst e
 simp only[jK,List.map_cons,List.map_nil,zl,if_true,Option.getD_some]
 by_cases c:x.key=key∧now<x.till
 · rw[if_pos c,List.filter_cons_of_pos (by unfold zNA;rw[decide_eq_true c.1,decide_eq_true c.2];rfl)];rfl
 rw[if_neg c,List.filter_cons_of_neg (by unfold zNA;rw[Bool.and_eq_true,decide_eq_true_iff,decide_eq_true_iff];exact c)];rfl
structure EInv(n:Nat)(a:AskD)(seq:Nat)(kl:List (Nat×TruD)):Prop where
 wf:a.wf
 seq:seq≤n
 len:kl.length≤n
 aseq:a.seq≤n
end Go.Proofs.YthpoddkmhfhboaaGreatDoor
