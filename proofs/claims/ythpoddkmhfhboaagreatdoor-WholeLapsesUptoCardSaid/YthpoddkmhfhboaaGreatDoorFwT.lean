import Derived.Test.YthpoddkmhfhboaaGreatDoorFwS
set_option linter.unusedSimpArgs false
set_option linter.unusedVariables false
set_option linter.unusedSectionVars false
namespace Go.Sc
theorem bT{b:Bool}(h:b=true):Value.bool b=xx:=by rw[h]
theorem bF{b:Bool}(h:¬ b=true):Value.bool b=yC:=by cases b<;>simp_all
theorem Sl.nil{w:World}:Sl w zW 0 []:= .inl ⟨none,rfl,rfl,rfl⟩
def zAX:Value→Bool
 | .slice a _ _=>a.isNone
 |_=>false
theorem Sl.isNil{w:World}{v:Value}{n:Nat}{cs:List Value}(h:Sl w v n cs)(c:zAX v=true):v=zW∧n=0:=by
 rcases h with⟨a,rfl,rfl,_⟩|⟨b,off,cap,rfl,_⟩
 · cases a<;>simp_all[zAX]
 simp[zAX]at c
theorem Rd.nil{w:World}{S:List Nat}:Rd w S (Res.sl zW 0 []):=⟨Sl.nil,by simp[Res.sl,zBy]⟩
theorem yj{cs us:List Value}(off:Nat)(h:us=(cs.drop off).take us.length):∀ k u,us[k]?=some u→cs[off+k]?=some u:=by
 intro k u hu
 rw[h,List.getElem?_take]at hu
 split at hu
 · rw[List.getElem?_drop]at hu;exact hu
 cases hu
def I1(a:Int):List Value:=[Value.int .i64 a]
def U1(a:Nat):List Value:=[Value.int .u64 a]
def B1(a:Bool):List Value:=[Value.bool a]
abbrev zg(n:Nat):Prop:=n≤1000000000000
def yI(p:Prop)[Decidable p]:Int:=if p then 0 else 2
theorem errOf_zero{p:Prop}[Decidable p]:yI p=0↔p:=by unfold yI;split<;>simp_all
theorem xp{p:Prop}[Decidable p](h:p):yI p=0:=if_pos h
theorem jr{p:Prop}[Decidable p](h:¬ p):yI p=2:=if_neg h
theorem zz{l:List Value}(h:l.all cell1=true):∀ v∈l,cell1 v=true:=List.all_eq_true.1 h
theorem zh:∀ v∈([]:List Value),cell1 v=true:=by simp
theorem zH{v:Value}{l:List Value}(h:cell1 v=true)(hl:∀ v∈l,cell1 v=true):∀ u∈v::l,cell1 u=true:=by
 intro u a
 rcases List.mem_cons.1 a with rfl|a
 · exact h
 exact hl u a
theorem all_cons{α:Type}{p:α→Prop}{a:α}{l:List α}(h:p a)(hl:∀ x∈l,p x):∀ x∈a::l,p x:=by
 intro x b
 rcases List.mem_cons.1 b with rfl|b
 · exact h
 exact hl x b
def zc{α:Type}[Inhabited α](l:List α)(j:Nat):α:=l[j]?.getD default
theorem y8{α:Type}[Inhabited α]{l:List α}{j:Nat}(h:j<l.length):l[j]?=some (zc l j):=by simp[zc,h]
theorem zy{α:Type}[Inhabited α]{l:List α}{j:Nat}(h:j<l.length):zc l j∈l:=List.mem_of_getElem? (y8 h)
theorem jY{α:Type}[Inhabited α]{l:List α}{j:Nat}{x:α}(h:l[j]?=some x):zc l j=x:=by simp[zc,h]
theorem nth_map{α β:Type}[Inhabited α][Inhabited β]{g:α→β}{l:List α}{j:Nat}(h:j<l.length):zc (l.map g) j=g (zc l j):=by simp[zc,h]
theorem zDl{α:Type}[Inhabited α]{l:List α}{i j:Nat}(h:j<i):zc (l.take i) j=zc l j:=by simp[zc,List.getElem?_take,h]
theorem zBl{α:Type}[Inhabited α]{l:List α}{k:Nat}(h:k<l.length):l.drop k=zc l k::l.drop (k+1):=by
 rw[List.drop_eq_getElem_cons h];congr 1;exact(jY (List.getElem?_eq_getElem h)).symm
theorem yl{α:Type}[Inhabited α]{l:List α}{k:Nat}(h:k<l.length):l.take (k+1)=l.take k++[zc l k]:=by
 rw[List.take_add_one,y8 h];rfl
def Res.star(rs:List Res):Res where
 fp:=xL rs
 φ w:=(∀ r∈rs,r.φ w)∧∀ (i j:Nat) (r s:Res),i≠j→rs[i]?=some r→rs[j]?=some s→∀ b∈r.fp,b∉s.fp
 st w w' h hb:=⟨fun r hr=>r.st w w' (h.1 r hr) fun b hb'=>hb b (by obtain⟨i,hi,rfl⟩:=List.mem_iff_getElem.1 hr;exact mem_fps.2 ⟨i,_,List.getElem?_eq_getElem hi,hb'⟩),h.2⟩
 lt w h b hb:=by
   obtain⟨i,r,hr,hb⟩:=mem_fps.1 hb
   exact r.lt w (h.1 r (List.mem_of_getElem? hr)) b hb
section
variable {w0 w w':World} {S:List Nat} {L Lin Lout:List Res}
theorem Own.qn(h:Own w0 S L w):Own w0 S (L++[Res.star []]) w:=by
 refine h.qb ⟨Keep.refl _ _,?_,?_,?_⟩
 · intro i j r s hij hr hs
   match i,j with
   |0,0=>exact absurd rfl hij
   |i+1,_=>simp at hr
   |_,j+1=>simp at hs
 · intro i r hr
   match i with
   |0=>simp at hr;subst hr;exact⟨by simp,by simp⟩
   |i+1=>simp at hr
 intro i r hr b hb
 match i with
 |0=>simp at hr;subst hr;simp[Res.star,xL]at hb
 |i+1=>simp at hr
theorem Own.starSnoc{rs:List Res}{r:Res}(i j:Nat)(e:i≠j)(h1:L[i]?=some (Res.star rs))(h2:L[j]?=some r)(h:Own w0 S L w):Own w0 S ((L.set i (Res.star (rs++[r]))).eraseIdx j) w:=by
 refine h.join e h1 h2 ?_ ?_
 · rintro⟨g,l⟩ n o
   refine⟨fun s c=> ?_,?_⟩
   · rcases List.mem_append.1 c with c|c
     · exact g s c
     simp at c;exact c▸n
   have far:∀ (k:Nat) (s:Res),rs[k]?=some s→∀ b∈s.fp,b∉r.fp:=fun k s c b hb=>o b (mem_fps.2 ⟨k,s,c,hb⟩)
   have d:∀ (k:Nat) (s:Res),(rs++[r])[k]?=some s→rs[k]?=some s∨(k=rs.length∧s=r):=by
     intro k s c
     rw[List.getElem?_append]at c
     split at c
     · exact .inl c
     have:k - rs.length=0:=by
       cases hk:k - rs.length with
       |zero=>rfl
       |succ m=>rw[hk]at c;simp at c
     rw[this]at c;simp at c
     exact .inr ⟨by omega,c.symm⟩
   intro a b s t hab c ht x hx hx'
   rcases d a s c with h7|⟨h7,rfl⟩<;>rcases d b t ht with f|⟨f,rfl⟩
   · exact l a b s t hab h7 f x hx hx'
   · exact far a s h7 x hx hx'
   · exact far b t f x hx' hx
   omega
 intro b hb
 obtain⟨k,s,c,hb⟩:=mem_fps.1 hb
 rw[List.getElem?_append]at c
 split at c
 · exact .inl (mem_fps.2 ⟨k,s,c,hb⟩)
 cases hk:k - rs.length with
 |zero=>rw[hk]at c;simp at c;exact .inr (c▸hb)
 |succ m=>rw[hk]at c;simp at c
theorem Own.qw{α:Type}{g:α→Res}{l:List α}{x:α}(i j:Nat)(a:i≠j)(h1:L[i]?=some (Res.star (l.map g)))(h2:L[j]?=some (g x))(h:Own w0 S L w):Own w0 S ((L.set i (Res.star ((l++[x]).map g))).eraseIdx j) w:=by
 rw[List.map_append]
 exact h.starSnoc i j a h1 h2
theorem Own.star0{rs:List Res}(j:Nat)(a:L[j]?=some (Res.star rs))(h:Own w0 S L w):∀ r∈rs,Rd w [] r:=fun r b=>⟨(h.holds j _ a).1 r b,by simp⟩
theorem Own.star{rs:List Res}(j:Nat)(a:L[j]?=some (Res.star rs))(m:List Nat)(c:m.mapM (fun i=>L[i]?)=some Lin)(d:m.any (Nat.beq j)=false)(h:Own w0 S L w):∀ r∈rs,Rd w (xL Lin) r:=by
 intro r hr
 have h1:=h.rdRes j a m c d
 obtain⟨i,hi,rfl⟩:=List.mem_iff_getElem.1 hr
 exact h1.sub (fun h2=>h2.1 _ hr) fun b hb=>mem_fps.2 ⟨i,_,List.getElem?_eq_getElem hi,hb⟩
end
section
variable {w0 w w':World} {S:List Nat} {L Lin Lout:List Res}
theorem Own.rdVec{e:TypeId}{sz n:Nat}{v:Value}{cs:List Value}(j:Nat)(a:L[j]?=some (Res.vec e sz v n cs))(m:List Nat)(b:m.mapM (fun i=>L[i]?)=some Lin)(c:m.any (Nat.beq j)=false)(h:Own w0 S L w):Rd w (xL Lin) (Res.sl v n cs):=
 (h.rdRes j a m b c).sub Vec.sl zAA
theorem Own.qj{e:TypeId}{sz n:Nat}{v:Value}{cs:List Value}(j:Nat)(a:L[j]?=some (Res.vec e sz v n cs))(h:Own w0 S L w):Rd w [] (Res.sl v n cs):=⟨Vec.sl (h.holds j _ a),by simp⟩
theorem Sl.subL_f{α:Type}{g:α→List Value}{sz:Nat}(a:∀ x,(g x).length=sz){w:World}{v:Value}{xs:List α}(b:Sl w v xs.length (xs.flatMap g)){l h:Nat}(h1:l≤h)(h2:h≤xs.length):
   Sl w (xj v l h sz) ((xs.take h).drop l).length (((xs.take h).drop l).flatMap g):=by
 have:=b.subV h1 h2 (jc a xs)
 have e:((xs.flatMap g).drop (l*sz)).take ((h - l)*sz)=((xs.take h).drop l).flatMap g:=by
   have c:∀ (xs:List α) (k:Nat),(xs.flatMap g).drop (k*sz)=(xs.drop k).flatMap g:=by
     intro xs
     induction xs with
     |nil=>simp
     |cons y ys ih=>
       intro k
       cases k with
       |zero=>simp
       |succ k=>rw[List.flatMap_cons,Nat.add_mul,Nat.one_mul,Nat.add_comm,←List.drop_drop,show(g y++ys.flatMap g).drop sz=ys.flatMap g by rw[←a y,List.drop_left]];simpa using ih k
   have d:∀ (xs:List α) (k:Nat),(xs.flatMap g).take (k*sz)=(xs.take k).flatMap g:=by
     intro xs
     induction xs with
     |nil=>simp
     |cons y ys ih=>
       intro k
       cases k with
       |zero=>simp
       |succ k=>rw[List.flatMap_cons,Nat.add_mul,Nat.one_mul,List.take_append,a y,show k*sz+sz - sz=k*sz by omega,List.take_of_length_le (by rw[a y];omega),ih k];simp
   rw[c,d,List.take_drop,show l+(h - l)=h by omega]
 rw[e]at this
 rw[show((xs.take h).drop l).length=h - l by simp;omega]
 exact this
theorem Sl.subL_m{α:Type}{g:α→Value}{w:World}{v:Value}{xs:List α}(a:Sl w v xs.length (xs.map g)){l h:Nat}(h1:l≤h)(h2:h≤xs.length):
   Sl w (xj v l h 1) ((xs.take h).drop l).length (((xs.take h).drop l).map g):=by
 rw[zDd]at a ⊢
 exact Sl.subL_f (g:=fun x=>[g x]) (fun _=>O) a h1 h2
theorem Sl.dropL_f{α:Type}{g:α→List Value}{sz:Nat}(a:∀ x,(g x).length=sz){w:World}{v:Value}{xs:List α}(b:Sl w v xs.length (xs.flatMap g)){l:Nat}(h1:l≤xs.length):
   Sl w (xj v l xs.length sz) (xs.drop l).length ((xs.drop l).flatMap g):=by
 have:=Sl.subL_f a b h1 (Nat.le_refl _)
 rwa [List.take_length]at this
theorem Sl.dropL_m{α:Type}{g:α→Value}{w:World}{v:Value}{xs:List α}(a:Sl w v xs.length (xs.map g)){l:Nat}(h1:l≤xs.length):
   Sl w (xj v l xs.length 1) (xs.drop l).length ((xs.drop l).map g):=by
 have:=Sl.subL_m a h1 (Nat.le_refl _)
 rwa [List.take_length]at this
theorem Rd.dropL_f{α:Type}{g:α→List Value}{sz:Nat}(b:∀ x,(g x).length=sz){v:Value}{xs:List α}(a:Rd w S (Res.sl v xs.length (xs.flatMap g))){l:Nat}(h1:l≤xs.length):
 Rd w S (Res.sl (xj v l xs.length sz) (xs.drop l).length ((xs.drop l).flatMap g)):=a.sub (fun c=>Sl.dropL_f b c h1) (zAw a.φ l _ sz)
theorem Rd.dropL_m{α:Type}{g:α→Value}{v:Value}{xs:List α}(a:Rd w S (Res.sl v xs.length (xs.map g))){l:Nat}(h1:l≤xs.length):
 Rd w S (Res.sl (xj v l xs.length 1) (xs.drop l).length ((xs.drop l).map g)):=a.sub (fun b=>Sl.dropL_m b h1) (zAw a.φ l _ 1)
theorem Rd.subL_f{α:Type}{g:α→List Value}{sz:Nat}(b:∀ x,(g x).length=sz){v:Value}{xs:List α}(a:Rd w S (Res.sl v xs.length (xs.flatMap g))){l h:Nat}(h1:l≤h)(h2:h≤xs.length):
 Rd w S (Res.sl (xj v l h sz) ((xs.take h).drop l).length (((xs.take h).drop l).flatMap g)):=a.sub (fun c=>Sl.subL_f b c h1 h2) (zAw a.φ l h sz)
theorem Rd.subL_m{α:Type}{g:α→Value}{v:Value}{xs:List α}(a:Rd w S (Res.sl v xs.length (xs.map g))){l h:Nat}(h1:l≤h)(h2:h≤xs.length):
 Rd w S (Res.sl (xj v l h 1) ((xs.take h).drop l).length (((xs.take h).drop l).map g)):=a.sub (fun b=>Sl.subL_m b h1 h2) (zAw a.φ l h 1)
end
section
variable {P:Program} {n:Nat} {ops:Array Oper} {N R:K} {X:List (Nat×K)} {f:Nat→Value} {A:World→Prop} {rest:List Oper}
variable {d:Nat} {ty:TypeId} {p:String} {af:Array Edge} {x y:Operand} {t e:TypeId} {sz by':Nat}
variable {w0:World} {S:List Nat} {L L2:List Res}
theorem kC(L2:List Res)(h:∀ w,Own w0 S L w→Own w0 S L2 w)(k:CL P n ops rest N f (Own w0 S L2)):CL P n ops rest N f (Own w0 S L):=zQb k h
theorem zS{q:Prop}(h:∀ w,Own w0 S L w→q)(k:q→CL P n ops rest N f (Own w0 S L)):CL P n ops rest N f (Own w0 S L):=fun w a=>k (h w a) w a
theorem zN3(d:Nat)(c:P.underlying t=some .bool)(a b:Bool)(w:World):(Op.equalIn (d+1) t (.bool a) (.bool b)).run P w= .ok (a==b) w:=by
 simp[Op.equalIn,zp c]
theorem zRK{q r:Prop}[Decidable q][Decidable r]{t':TypeId}(a:zFf P t=true)(b:ev f x= .bool (decide q))(c:ev f y= .bool (decide r)):RV P f ⟨some d, .binOp .eql t x y t',ty,p,af,none⟩ A (.bool (decide (q↔r))):=
 fun w _=>by
   unfold zFf at a
   split at a
   · rename_i he
     have e1:binOp .eql t (.bool (decide q)) (.bool (decide r))=(do pure (.bool (←Op.equal t (.bool (decide q)) (.bool (decide r))))):=rfl
     have e:(Op.equal t (.bool (decide q)) (.bool (decide r))).run P w= .ok (decide q==decide r) w:=zN3 9999 he _ _ w
     simp only[execOp,b,c,eqGuard,e1]
     simp[e]
   cases a
theorem zSX{q r:Prop}[Decidable q][Decidable r]{t':TypeId}(a:zFf P t=true)(b:ev f x= .bool (decide q))(c:ev f y= .bool (decide r))(e:Nat.blt d n=true)(k:CL P n ops rest N (upd f d (.bool (decide (q↔r)))) A):CL P n ops (⟨some d, .binOp .eql t x y t',ty,p,af,none⟩::rest) N f A:=yN e (zRK a b c) k
theorem zBF:∀ {vs:List Value},(∀ v∈vs,cell1 v=true)→vs.flatMap (fun v=>v.cells.toList)=vs
 | [],_=>rfl
 |v::vs,h=>by rw[List.flatMap_cons,kz (h v qJ),zBF fun u a=>h u (by simp[a])];rfl
theorem ko{len:Nat}{parts:List (Nat×Operand)}{vs:List Value}(c:(slT P t).map (fun q=>(q.1,q.2.1))=some (e,1))(g:parts.map Prod.fst=List.range len)(hv:parts.map (fun q=>ev f q.2)=vs)
   (a:∀ v∈vs,cell1 v=true) (hb:len*1≤16777216) (h:Nat.blt d n=true)
   (k:∀ b,CL P n ops rest N (upd f d (.slice (some ⟨b,0,none⟩) len len)) (Own w0 S (L++[Res.vec e 1 (.slice (some ⟨b,0,none⟩) len len) len vs]))):
   CL P n ops (⟨some d, .buildSlice t len parts.toArray,ty,p,af,none⟩::rest) N f (Own w0 S L):=by
 refine yH c g hv (fun v hv=>by rw[kz (a v hv)];rfl) hb h fun b=> ?_
 rw[zBF a]
 exact k b
theorem zMi(a b:Nat):(if(b:Int)>a then(b:Int)else a)=((max a b:Nat):Int):=by split<;>omega
theorem zLz(a b:Int):(if b>a then b else a)=max a b:=by split<;>omega
theorem zUl(a b:Nat):(if(b:Int)<a then(b:Int)else a)=((min a b:Nat):Int):=by split<;>omega
theorem zT6(a b:Int):(if b<a then b else a)=min a b:=by split<;>omega
theorem zMK{k k':IntKind}{a b c:Int}{ats:Array TypeId}(e:ev f x= .int k a)(g:ev f y= .int k' b)(h:(if b>a then b else a)=c):RV P f ⟨some d, .call ⟨.builtin .max,#[x,y],ats⟩,ty,p,af,none⟩ A (.int k c):=by
 intro w _
 subst h
 simp[execOp,resolve,invoke,builtin,e,g,Builtin.max_,Builtin.max2]
theorem zCi{k k':IntKind}{a b c:Int}{ats:Array TypeId}(e:ev f x= .int k a)(g:ev f y= .int k' b)(h:(if b>a then b else a)=c)(i:Nat.blt d n=true)(j:CL P n ops rest N (upd f d (.int k c)) A):CL P n ops (⟨some d, .call ⟨.builtin .max,#[x,y],ats⟩,ty,p,af,none⟩::rest) N f A:=yN i (zMK e g h) j
theorem zP3{k k':IntKind}{a b c:Int}{ats:Array TypeId}(e:ev f x= .int k a)(g:ev f y= .int k' b)(h:(if b<a then b else a)=c):RV P f ⟨some d, .call ⟨.builtin .min,#[x,y],ats⟩,ty,p,af,none⟩ A (.int k c):=by
 intro w _
 subst h
 simp[execOp,resolve,invoke,builtin,e,g,Builtin.min_,Builtin.min2]
theorem zPv{k k':IntKind}{a b c:Int}{ats:Array TypeId}(e:ev f x= .int k a)(g:ev f y= .int k' b)(h:(if b<a then b else a)=c)(i:Nat.blt d n=true)(j:CL P n ops rest N (upd f d (.int k c)) A):CL P n ops (⟨some d, .call ⟨.builtin .min,#[x,y],ats⟩,ty,p,af,none⟩::rest) N f A:=yN i (zP3 e g h) j
theorem zOU{v:Value}{len:Nat}{cs:List Value}{t':TypeId}(b:kA P t=true)(c:ev f x=v)(e:ev f y=zW)(g:∀ w,A w→Sl w v len cs):RV P f ⟨some d, .binOp .eql t x y t',ty,p,af,none⟩ A (.bool (zAX v)):=by
 intro w hw
 obtain⟨a,cap,rfl, -⟩:=(g w hw).shape
 exact zR9 (A:=A) b c e w hw
theorem zAu{v:Value}{len:Nat}{cs:List Value}{t':TypeId}(a:kA P t=true)(b:ev f x=v)(c:ev f y=zW)(e:∀ w,A w→Sl w v len cs)(g:Nat.blt d n=true)(k:CL P n ops rest N (upd f d (.bool (zAX v))) A):CL P n ops (⟨some d, .binOp .eql t x y t',ty,p,af,none⟩::rest) N f A:=
 yN g (zOU a b c e) k
def zEr(pl:Nat→Option (Nat×Nat))(cells:List Value):List (Nat×Value)→Option (List Value)
 | []=>some cells
 |(i,v)::rest=>
   match pl i with
   |none=>none
   |some (off,1)=>if off+1≤cells.length then zEr pl (yc cells off [v]) rest else none
   |some (off,size)=>if v.cells.toList.length=size∧off+v.cells.toList.length≤cells.length then zEr pl (yc cells off v.cells.toList) rest else none
def zPF(pl:Nat→Option (Nat×Nat)):List (Nat×Value)→Prop
 | []=>True
 |(i,v)::rest=>(match pl i with|some (_,1)=>cell1 v=true|_=>True)∧zPF pl rest
theorem zBu(pl:Nat→Option (Nat×Nat)):∀ (parts:List (Nat×Value)) (cells out:List Value),zPF pl parts→zEr pl cells parts=some out→zAV pl cells parts=some out
 | [],cells,out,_,h=>h
 |(i,v)::rest,cells,out,hc,h=>by
   unfold zEr at h
   unfold zAV
   obtain⟨h1,h2⟩:=hc
   cases hp:pl i with
   |none=>rw[hp]at h;exact h
   |some q=>
     obtain⟨off,size⟩:=q
     rw[hp]at h h1
     by_cases hs:size=1
     · subst hs
       simp only at h h1 ⊢
       rw[kz h1]
       split at h
       · rename_i hle
         rw[if_pos (by simpa using hle)]
         exact zBu pl rest _ out h2 h
       cases h
     match size,hs with
     |0,_=>simp only at h ⊢;split at h;rename_i hle;rw[if_pos hle];exact zBu pl rest _ out h2 h;cases h
     |1,hs=>exact absurd rfl hs
     |n+2,_=>simp only at h ⊢;split at h;rename_i hle;rw[if_pos hle];exact zBu pl rest _ out h2 h;cases h
theorem zGq{z:List Value}{pl:List (Nat×Nat)}{parts:List (Nat×Operand)}{cs:List Value}(a:zA1 P t=some (z,pl))(b:zPF (pl[·]?) (parts.map fun q=>(q.1,ev f q.2)))(c:zEr (pl[·]?) z (parts.map fun q=>(q.1,ev f q.2))=some cs):RV P f ⟨some d, .build t parts.toArray,ty,p,af,none⟩ A ((.agg cs.toArray)):=
 xY a (zBu _ _ _ _ b c)
theorem xP{z:List Value}{pl:List (Nat×Nat)}{parts:List (Nat×Operand)}{cs:List Value}(a:zA1 P t=some (z,pl))(b:zPF (pl[·]?) (parts.map fun q=>(q.1,ev f q.2)))(c:zEr (pl[·]?) z (parts.map fun q=>(q.1,ev f q.2))=some cs)(e:Nat.blt d n=true)
 (k:CL P n ops rest N (upd f d (.agg cs.toArray)) A):CL P n ops (⟨some d, .build t parts.toArray,ty,p,af,none⟩::rest) N f A:=yN e (zGq a b c) k
variable {W:World→Prop} {w:World} {fuel:Nat} {listed:Array Bool}
def zAZ(ops:Array Oper)(listed:Array Bool)(i d n:Nat):Bool:=Region.noSelect ops&&(Region.free .any ops listed i&&((Region.ready .any ops listed).contains i&&Nat.blt d n))
theorem zAa{i:Nat}(h:zAZ ops listed i d n=true):Region.noSelect ops=true∧Region.free .any ops listed i=true∧(Region.ready .any ops listed).contains i=true∧Nat.blt d n=true:=by
 unfold zAZ at h
 simp only[Bool.and_eq_true]at h
 exact h
theorem zUQ(i:Nat){op:Op}{v:Value}(hi:ops[i]?=some ⟨some d,op,ty,p,af,none⟩)(a:zAZ ops listed i d n=true)
   (hv:RV P f ⟨some d,op,ty,p,af,none⟩ W v) (b:W w) (k:HL P n ops W N fuel (listed.setIfInBounds i true) (upd f d v) w):HL P n ops W N (fuel+1) listed f w:=
 have h:=zAa a
 zQP i hi h.1 h.2.1 h.2.2.1 hv h.2.2.2 b k
theorem zTB(i:Nat){op:Op}{v:Value}{j e:Nat}{b:Bool}(hi:ops[i]?=some ⟨some d,op,ty,p,af,some (j,b)⟩)(a:yu ops j=some e)(hb:f e= .bool b)(c:zAZ ops listed i d n=true)
   (hv:RV P f ⟨some d,op,ty,p,af,none⟩ W v) (g:W w) (k:HL P n ops W N fuel (listed.setIfInBounds i true) (upd f d v) w):HL P n ops W N (fuel+1) listed f w:=
 have h:=zAa c
 zOQ i hi a hb h.1 h.2.1 h.2.2.1 hv h.2.2.2 g k
theorem zTV(i:Nat){op:Op}{j e:Nat}{b b':Bool}(hi:ops[i]?=some ⟨some d,op,ty,p,af,some (j,b)⟩)(c:yu ops j=some e)(hb:f e= .bool b')(a:(b'==b)=false)(g:zAZ ops listed i d n=true)
   (l:W w) (k:HL P n ops W N fuel (listed.setIfInBounds i true) (upd f d undef) w):HL P n ops W N (fuel+1) listed f w:=
 have h:=zAa g
 zQo i hi c hb a h.1 h.2.1 h.2.2.1 h.2.2.2 l k
theorem zo(i:Nat){A:World→Prop}{o:Oper}(hi:ops[i]?=some o)(m:A w)(h:CL P n ops [o] (fun d b=>W b∧HL P n ops W N fuel (listed.setIfInBounds i true) d b) f A):PK P n ops W N fuel listed i f w:=by
 intro a ha
 have h1:=h w m a ha
 unfold wpOp
 simp only[hi]
 unfold wpList at h1
 split
 · rename_i hw
   rw[if_pos hw]at h1
   rcases h1 with h1|⟨_,q,s,h1⟩
   · left
     unfold Oper.wp at h1 ⊢
     generalize (execOp a.eval o).run P w=r at *
     have key:∀ (j:Act) (b:World),wpList P ops (kO n fun d b=>W b∧HL P n ops W N fuel (listed.setIfInBounds i true) d b) [] j b→W b∧wpAnyH P .any ops (kO n N) W fuel (listed.setIfInBounds i true) j b:=by
       rintro j b ⟨d,k,h2,l⟩
       exact⟨h2,l j k⟩
     cases r with
     |ok nx b=>
       cases nx<;>simp only[Oper.upon]at h1 ⊢ <;>
         first
           |exact key _ _ h1
           |exact Calls.mono h1 (fun e p g=>by
               cases e with
               |returned v=>exact key _ _ g
               |panicked c=>exact g.elim
               |outgrown=>obtain⟨t,u,h2⟩:=g;exact h2.elim)
           |exact Rows.mono h1 (fun _ _ g=>key _ _ g)
     |halt x b=>cases x<;>simp only[Oper.upon]at h1 ⊢ <;>exact h1.elim
   exact h1.elim
 rename_i hw
 rw[if_neg hw]at h1
 obtain⟨d,k,h2,l⟩:=h1
 exact⟨h2,l _ k⟩
theorem zTp(i:Nat){A:World→Prop}{o:Oper}(d:Region.ready .any ops listed=[i])(hi:ops[i]?=some o)(e:A w)(h:CL P n ops [o] (fun g b=>W b∧HL P n ops W N fuel (listed.setIfInBounds i true) g b) f A):HL P n ops W N (fuel+1) listed f w:=by
 intro a ha
 refine wpAnyH_all d qJ fun k c=> ?_
 simp at c;subst c
 exact zo k hi e h a ha
theorem zCA{i j k:Nat}(c:Region.ready .any ops listed=[i,j,k])(h1:PK P n ops W N fuel listed i f w)(h2:PK P n ops W N fuel listed j f w)(d:PK P n ops W N fuel listed k f w):HL P n ops W N (fuel+1) listed f w:=by
 intro a ha
 refine wpAnyH_all c qJ fun q b=> ?_
 simp at b
 rcases b with rfl|rfl|rfl
 · exact h1 a ha
 · exact h2 a ha
 exact d a ha
theorem yF{α:Type}{g:α→List Value}(b:∀ x,(g x).length=sz){l l':List α}(c:∀ x∈l',∀ v∈g x,cell1 v=true)(i:Nat){v u:Value}(h:slT P t=some (e,sz,by'))(a:ev f x=v)(j:L[i]?=some (Res.vec e sz v l.length (l.flatMap g)))(m:ev f y=u)
   (o:∀ w,Own w0 S L w→Sl w u l'.length (l'.flatMap g)) (hb:(l.length+l'.length)*by'≤140737488355328) (hp:0<by') (q:Nat.blt d n=true)
   (k:∀ v',CL P n ops rest N (upd f d v') (Own w0 S (L.set i (Res.vec e sz v' (l++l').length ((l++l').flatMap g))))):
   CL P n ops (⟨some d, .call ⟨.builtin .append,#[x,y],#[t,t]⟩,ty,p,af,none⟩::rest) N f (Own w0 S L):=by
 refine zGm i h a j m o (jc b l') ?_ hb ?_ q ?_
 · intro v hv
   obtain⟨x,a,hv⟩:=List.mem_flatMap.1 hv
   exact c x a v hv
 · rw[xB]
   have:l.length+l'.length≤(l.length+l'.length)*by':=Nat.le_mul_of_pos_right _ hp
   omega
 intro v'
 have:=k v'
 rwa [List.length_append,List.flatMap_append]at this
theorem zAe{l l':List UInt8}(i:Nat){v u:Value}(a:slT P t=some (e,1,1))(b:ev f x=v)(c:L[i]?=some (Res.vec e 1 v l.length (l.map vb)))(g:ev f y=u)
   (h:∀ w,Own w0 S L w→Sl w u l'.length (l'.map vb)) (hb:l.length+l'.length≤140737488355328) (j:Nat.blt d n=true)
   (k:∀ v',CL P n ops rest N (upd f d v') (Own w0 S (L.set i (Res.vec e 1 v' (l++l').length ((l++l').map vb))))):
   CL P n ops (⟨some d, .call ⟨.builtin .append,#[x,y],#[t,t]⟩,ty,p,af,none⟩::rest) N f (Own w0 S L):=by
 refine zGm i a b c g h qJ (zBn _) qG ?_ j ?_
 · rw[xB];omega
 intro v'
 have:=k v'
 rwa [List.length_append,List.map_append]at this
def Pr(A:World→Prop)(v:Value)(len:Nat)(cs:List Value):Prop:=∀ w,A w→Sl w v len cs
section
variable {v u:Value} {len sz:Nat} {cs:List Value}
theorem pV(k:Nat)(h:L[k]?=some (Res.vec e sz v len cs)):Pr (Own w0 S L) v len cs:=fun _ a=>Vec.sl (a.holds k _ h)
theorem pR(h:Rd w0 S (Res.sl v len cs)):Pr (Own w0 S L) v len cs:=fun _ a=>Own.rd h a
theorem zQK(a:Pr A v len cs)(b:ev f x=v)(c:kA P t=true):RV P f ⟨some d, .call ⟨.builtin .len,#[x],#[t]⟩,ty,p,af,none⟩ A (.int .i64 len):=zHZ c b a
theorem zSO{k:IntKind}{i:Int}(a:Pr A v len cs)(sz j:Nat)(b:ev f x=v)(c:ev f y= .int k i)(e:zA5 P t=some sz)(hi:i=j)(g:j<len):RV P f ⟨some d, .indexAddr t x y,ty,p,af,none⟩ A (.pointer (some ⟨xw v,yr v+j*sz,none⟩)):=zKm b c e a hi g
theorem zQD{α:Type}[Inhabited α]{g:α→List Value}{xs:List α}{off:Nat}(a:Pr A v len (xs.flatMap g))(sz j o:Nat)(b:∀ x,(g x).length=sz)(c:ev f x= .pointer (some ⟨xw v,off,none⟩))(ho:off=yr v+(j*sz+o))(e:j<xs.length)(h:(g (zc xs j))[o]?=some u)(i:one P t=true):RV P f ⟨some d, .load t x,ty,p,af,none⟩ A u:=
 zMI (j*sz+o) c ho a (jn b (y8 e) h) i
theorem zQk{xs:List UInt8}{off:Nat}(a:Pr A v len (xs.map vb))(j:Nat)(b:ev f x= .pointer (some ⟨xw v,off,none⟩))(ho:off=yr v+j)(c:j<xs.length)(e:one P t=true):RV P f ⟨some d, .load t x,ty,p,af,none⟩ A (.int .u8 ((zc xs j).toNat:Nat)):=
 zMI j b ho a (by rw[List.getElem?_map,y8 c];rfl) e
theorem zL5{α:Type}[Inhabited α]{g:α→List Value}{xs:List α}{off:Nat}(b:Pr A v len (xs.flatMap g))(sz j:Nat)(a:∀ x,(g x).length=sz)(c:ev f x= .pointer (some ⟨xw v,off,none⟩))(ho:off=yr v+j*sz)(e:j<xs.length)(i:jF P t=some sz):RV P f ⟨some d, .load t x,ty,p,af,none⟩ A (.agg (g (zc xs j)).toArray):=
 zLW (j*sz) (g (zc xs j)) c ho b (fun k u h=>zD5 (o:=0) a (y8 e) (fun k u h=>by rw[Nat.zero_add];exact h) k u h) (by rw[a];exact i)
theorem zAr{lo hi:Option Operand}(a:Pr A v len cs)(sz l h:Nat)(b:zA5 P t=some sz)(c:ev f x=v)(hl:bnd f 0 lo l)(hh:bnd f len hi h)(h1:l≤h)(h2:h≤len):RV P f ⟨some d, .slice t x lo hi none,ty,p,af,none⟩ A (xj v l h sz):=zLl b c a hl hh h1 h2
theorem zBS{lo hi:Option Operand}(a:Pr A v len cs)(sz l h:Nat)(b:zA5 P t=some sz)(c:ev f x=v)(hl:bnd f 0 lo l)(hh:bnd f len hi h)(h1:l≤h)(h2:h≤len)(e:Nat.blt d n=true)
 (k:CL P n ops rest N (upd f d (xj v l h sz)) A):CL P n ops (⟨some d, .slice t x lo hi none,ty,p,af,none⟩::rest) N f A:=yN e (zAr a sz l h b c hl hh h1 h2) k
end
theorem zE(m:List Nat){f':Nat→Value}(b:m.mapM (fun i=>L[i]?)=some L2)(c:m.Nodup)(h:∀ w,Own w0 S L w→Own w0 S L2 w→HL P n ops (Own w0 S L2) N fuel listed f' w):
 CL P n ops [] (fun g d=>Own w0 S L2 d∧HL P n ops (Own w0 S L2) N fuel listed g d) f' (Own w0 S L):=zx (fun w a=>⟨a.sel m b c,h w a (a.sel m b c)⟩)
abbrev Vi(n:Int):Value:= .int .i64 n
abbrev Vj(n:Nat):Value:= .int .i64 (n:Int)
abbrev Vn(n:Nat):Value:= .int .u64 (n:Int)
section
variable {v u:Value} {len sz i b off o:Nat} {cs:List Value}
theorem zL(a:ev f x= .pointer (some ⟨b,off,none⟩))(ho:zCW P t i=some o:=by kernel_rfl):RV P f ⟨some d, .fieldAddr t x i,ty,p,af,none⟩ A (.pointer (some ⟨b,off+o,none⟩)):=zTD a ho
theorem zI(a:ev f x= .pointer (some ⟨b,off,none⟩))(c:Nat.blt d n=true)(k:CL P n ops rest N (upd f d (.pointer (some ⟨b,off+o,none⟩))) A)(ho:zCW P t i=some o:=by kernel_rfl):CL P n ops (⟨some d, .fieldAddr t x i,ty,p,af,none⟩::rest) N f A:=zTz a ho c k
theorem zZ(i:Nat){e:TypeId}(a:ev f x= .pointer (some ⟨b,off,none⟩))(c:L[i]?=some (Res.row b e cs))(hv:cs[off]?=some v)(g:one P t=true:=by kernel_rfl):RV P f ⟨some d, .load t x,ty,p,af,none⟩ (Own w0 S L) v:=zIv i a c hv g
theorem zJ(i:Nat){e:TypeId}(a:ev f x= .pointer (some ⟨b,off,none⟩))(c:L[i]?=some (Res.row b e cs))(hv:cs[off]?=some v)(g:Nat.blt d n=true)(k:CL P n ops rest N (upd f d v) (Own w0 S L))(h:one P t=true:=by kernel_rfl):CL P n ops (⟨some d, .load t x,ty,p,af,none⟩::rest) N f (Own w0 S L):=zTF i a c hv h g k
theorem xG(i:Nat){e:TypeId}(a:ev f x= .pointer (some ⟨b,0,none⟩))(c:L[i]?=some (Res.row b e cs))(g:jF P t=some cs.length:=by kernel_rfl):RV P f ⟨some d, .load t x,ty,p,af,none⟩ (Own w0 S L) (.agg cs.toArray):=zTd i a c g
theorem z6(i:Nat){e:TypeId}(a:ev f x= .pointer (some ⟨b,0,none⟩))(c:L[i]?=some (Res.row b e cs))(g:Nat.blt d n=true)(k:CL P n ops rest N (upd f d (.agg cs.toArray)) (Own w0 S L))(h:jF P t=some cs.length:=by kernel_rfl):CL P n ops (⟨some d, .load t x,ty,p,af,none⟩::rest) N f (Own w0 S L):=zSz i a c h g k
theorem kY(a:Pr A v len cs)(b:ev f x=v)(c:kA P t=true:=by kernel_rfl):RV P f ⟨some d, .call ⟨.builtin .len,#[x],#[t]⟩,ty,p,af,none⟩ A (.int .i64 len):=zHZ c b a
theorem zn(a:Pr A v len cs)(b:ev f x=v)(c:Nat.blt d n=true)(k:CL P n ops rest N (upd f d (.int .i64 len)) A)(e:kA P t=true:=by kernel_rfl):CL P n ops (⟨some d, .call ⟨.builtin .len,#[x],#[t]⟩,ty,p,af,none⟩::rest) N f A:=yN c (zQK a b e) k
theorem kN{k:IntKind}{i:Int}(a:Pr A v len cs)(sz j:Nat)(b:ev f x=v)(c:ev f y= .int k i)(hi:i=j)(e:j<len)(g:zA5 P t=some sz:=by kernel_rfl):RV P f ⟨some d, .indexAddr t x y,ty,p,af,none⟩ A (.pointer (some ⟨xw v,yr v+j*sz,none⟩)):=zKm b c g a hi e
theorem yL{k:IntKind}{i:Int}(a:Pr A v len cs)(sz j:Nat)(b:ev f x=v)(c:ev f y= .int k i)(hi:i=j)(e:j<len)(g:Nat.blt d n=true)(h:CL P n ops rest N (upd f d (.pointer (some ⟨xw v,yr v+j*sz,none⟩))) A)(l:zA5 P t=some sz:=by kernel_rfl):CL P n ops (⟨some d, .indexAddr t x y,ty,p,af,none⟩::rest) N f A:=yN g (zSO a sz j b c l hi e) h
theorem zA8{α:Type}[Inhabited α]{g:α→List Value}{xs:List α}(a:Pr A v len (xs.flatMap g))(sz j o:Nat)(b:∀ x,(g x).length=sz)(c:ev f x= .pointer (some ⟨xw v,off,none⟩))(ho:off=yr v+(j*sz+o))(e:j<xs.length)(h:(g (zc xs j))[o]?=some u)(i:one P t=true:=by kernel_rfl):RV P f ⟨some d, .load t x,ty,p,af,none⟩ A u:=zQD a sz j o b c ho e h i
theorem xC{α:Type}[Inhabited α]{g:α→List Value}{xs:List α}(a:Pr A v len (xs.flatMap g))(sz j o:Nat)(b:∀ x,(g x).length=sz)(c:ev f x= .pointer (some ⟨xw v,off,none⟩))(ho:off=yr v+(j*sz+o))(e:j<xs.length)(h:(g (zc xs j))[o]?=some u)(i:Nat.blt d n=true)(k:CL P n ops rest N (upd f d u) A)(l:one P t=true:=by kernel_rfl):CL P n ops (⟨some d, .load t x,ty,p,af,none⟩::rest) N f A:=yN i (zQD a sz j o b c ho e h l) k
theorem zCO{xs:List UInt8}(a:Pr A v len (xs.map vb))(j:Nat)(b:ev f x= .pointer (some ⟨xw v,off,none⟩))(ho:off=yr v+j)(c:j<xs.length)(e:Nat.blt d n=true)(k:CL P n ops rest N (upd f d (.int .u8 ((zc xs j).toNat:Nat))) A)(g:one P t=true:=by kernel_rfl):CL P n ops (⟨some d, .load t x,ty,p,af,none⟩::rest) N f A:=yN e (zQk a j b ho c g) k
theorem zD0{α:Type}[Inhabited α]{g:α→List Value}{xs:List α}(a:Pr A v len (xs.flatMap g))(sz j:Nat)(b:∀ x,(g x).length=sz)(c:ev f x= .pointer (some ⟨xw v,off,none⟩))(ho:off=yr v+j*sz)(e:j<xs.length)(h:jF P t=some sz:=by kernel_rfl):RV P f ⟨some d, .load t x,ty,p,af,none⟩ A (.agg (g (zc xs j)).toArray):=zL5 a sz j b c ho e h
theorem jy{α:Type}[Inhabited α]{g:α→List Value}{xs:List α}(a:Pr A v len (xs.flatMap g))(sz j:Nat)(b:∀ x,(g x).length=sz)(c:ev f x= .pointer (some ⟨xw v,off,none⟩))(ho:off=yr v+j*sz)(e:j<xs.length)(h:Nat.blt d n=true)(k:CL P n ops rest N (upd f d (.agg (g (zc xs j)).toArray)) A)(i:jF P t=some sz:=by kernel_rfl):CL P n ops (⟨some d, .load t x,ty,p,af,none⟩::rest) N f A:=yN h (zL5 a sz j b c ho e i) k
theorem zi(i:Nat){e:TypeId}(a:ev f x= .pointer (some ⟨b,off,none⟩))(c:ev f y=v)(d:L[i]?=some (Res.row b e cs))(hv:cell1 v=true)(ho:Nat.blt off cs.length=true)(k:CL P n ops rest N f (Own w0 S (L.set i (Res.row b e (cs.set off v)))))(g:jm P t=some 1:=by kernel_rfl):CL P n ops (⟨none, .store t x y,ty,p,af,none⟩::rest) N f (Own w0 S L):=zUL i a c d g hv (Nat.le_of_ble_eq_true ho) k
theorem zf(i:Nat){e:TypeId}{vs:List Value}(a:ev f x= .pointer (some ⟨b,off,none⟩))(c:ev f y= .agg vs.toArray)(d:L[i]?=some (Res.row b e cs))(hv:∀ v∈vs,cell1 v=true)(ho:Nat.ble (off+vs.length) cs.length=true)(k:CL P n ops rest N f (Own w0 S (L.set i (Res.row b e (yc cs off vs)))))(g:jm P t=some vs.length:=by kernel_rfl):CL P n ops (⟨none, .store t x y,ty,p,af,none⟩::rest) N f (Own w0 S L):=zSp i a c d g hv (Nat.le_of_ble_eq_true ho) k
theorem zG{g:FuncId}{l:List Operand}{vs:List Value}{ats:Array TypeId}(a:l.map (ev f)=vs)(b:Nat.blt d n=true)(h:∀ w,A w→Rets P g vs.toArray w fun v c=>WL P n ops rest N (upd f d v) c)(e:x9 P g=true:=by kernel_rfl):CL P n ops (⟨some d, .call ⟨.value (.func g),l.toArray,ats⟩,ty,p,af,none⟩::rest) N f A:=zCR e a b h
theorem zD(i:Nat){op:Op}(hi:ops[i]?=some ⟨some d,op,ty,p,af,none⟩)(hv:RV P f ⟨some d,op,ty,p,af,none⟩ W v)(a:W w)(k:HL P n ops W N fuel (listed.setIfInBounds i true) (upd f d v) w)(b:zAZ ops listed i d n=true:=by kernel_rfl):HL P n ops W N (fuel+1) listed f w:=zUQ i hi b hv a k
theorem xR(i:Nat){op:Op}{j e:Nat}{b:Bool}(hi:ops[i]?=some ⟨some d,op,ty,p,af,some (j,b)⟩)(a:yu ops j=some e)(hb:f e= .bool b)(hv:RV P f ⟨some d,op,ty,p,af,none⟩ W v)(c:W w)(k:HL P n ops W N fuel (listed.setIfInBounds i true) (upd f d v) w)(g:zAZ ops listed i d n=true:=by kernel_rfl):HL P n ops W N (fuel+1) listed f w:=zTB i hi a hb g hv c k
theorem yD(i:Nat){op:Op}{j e:Nat}{b b':Bool}(hi:ops[i]?=some ⟨some d,op,ty,p,af,some (j,b)⟩)(c:yu ops j=some e)(hb:f e= .bool b')(a:(b'==b)=false)(g:W w)(k:HL P n ops W N fuel (listed.setIfInBounds i true) (upd f d undef) w)(h:zAZ ops listed i d n=true:=by kernel_rfl):HL P n ops W N (fuel+1) listed f w:=zTV i hi c hb a h g k
theorem zM(i:Nat){o:Oper}(hi:ops[i]?=some o)(b:A w)(h:CL P n ops [o] (fun c a=>W a∧HL P n ops W N fuel (listed.setIfInBounds i true) c a) f A)(d:Region.ready .any ops listed=[i]:=by kernel_rfl):HL P n ops W N (fuel+1) listed f w:=zTp i d hi b h
theorem zX(h:N f w)(a:Region.ready .any ops listed=[]:=by kernel_rfl):HL P n ops W N fuel listed f w:=zQM a h
theorem z7(i j:Nat)(h1:PK P n ops W N fuel listed i f w)(h2:PK P n ops W N fuel listed j f w)(a:Region.ready .any ops listed=[i,j]:=by kernel_rfl):HL P n ops W N (fuel+1) listed f w:=zNa a h1 h2
end
section
variable {fn:Func} {g:FuncId} {c:Code} {args:List Value} {w:World} {R:Value→World→Prop}
theorem zO(a:P.funcs[g]?=some fn)(hb:fn.body=some c)(b:fn.ntmps=n)(d:Own w S L w)(h:C P n c (zBb P fn n R) (zBb P fn n R) [] (ini args) (Own w S L))(hl:Nat.ble args.length n=true:=by kernel_rfl):Rets P g args.toArray w R:=xi a hb b hl d h
end
theorem z8{T:List Nat}{f0 g:Nat→Value}{t:Nat}{v:Value}{A B:World→Prop}(a:g t=v)(b:∀ w,B w→A w)(c:Out T f0 g:=by repeat (first|exact .refl _ _|refine .upd rfl ?_|refine .msk rfl ?_)):CL P n ops [] (zES T f0 t v A) g B:=zx fun w d=>⟨c,a,b w d⟩
theorem zCx{T:List Nat}{f0 g:Nat→Value}{t:Nat}{v:Value}{A:World→Prop}(a:g t=v)(b:Out T f0 g:=by repeat (first|exact .refl _ _|refine .upd rfl ?_|refine .msk rfl ?_)):QL P n ops [] (zES T f0 t v A) g A:=zTR fun w c=>⟨b,a,c⟩
section
variable {o:Oper} {i:Nat} {f':Nat→Value}
theorem zA3(i:Nat){o:Oper}(hi:ops[i]?=some o)(h:CL P n ops [o] (fun g a=>Own w0 S [] a∧HL P n ops (Own w0 S []) N fuel (listed.setIfInBounds i true) g a) f' (Own w0 S L))(b:Region.ready .any ops listed=[i]:=by kernel_rfl):
 CL P n ops [] (fun g a=>Own w0 S [] a∧HL P n ops (Own w0 S []) N (fuel+1) listed g a) f' (Own w0 S L):=zE [] rfl List.nodup_nil fun w c d=>zM i hi c h b
end
end
end Go.Sc
