import Derived.Test.YtkkeknmkipkbmaaGreatFwS
set_option linter.unusedSimpArgs false
set_option linter.unusedVariables false
set_option linter.unusedSectionVars false
namespace Go.Sc
theorem zF8{b:Bool}{p:Prop}[Decidable p](h:b=true↔p):Value.bool b= .bool (decide p):=by
  cases b with
  |true=>rw[decide_eq_true (h.1 rfl)]
  |false=>rw[decide_eq_false fun hp=>by cases h.2 hp]
theorem bT{b:Bool}(h:b=true):Value.bool b= .bool true:=by rw[h]
theorem bF{b:Bool}(h:¬ b=true):Value.bool b= .bool false:=by cases b<;>simp_all
theorem Sl.nil{w:World}:Sl w (.slice none 0 0) 0 []:= .inl ⟨none,rfl,rfl,rfl⟩
theorem zGF{n:Nat}(h:n<256): [UInt8.ofNat n].map vb=[Value.int .u8 (n:Int)]:=by
  simp[vb,Nat.mod_eq_of_lt h]
def zDv:Value→Bool
  | .slice a _ _=>a.isNone
  |_=>false
theorem Sl.isNil{w:World}{v:Value}{n:Nat}{cs:List Value}(h:Sl w v n cs)(hn:zDv v=true):v= .slice none 0 0∧n=0:=by
  rcases h with⟨a,rfl,rfl,_⟩|⟨b,off,cap,rfl,_⟩
  · cases a<;>simp_all[zDv]
  simp[zDv]at hn
theorem Rd.nil{w:World}{S:List Nat}:Rd w S (Res.sl (.slice none 0 0) 0 []):=⟨Sl.nil,by simp[Res.sl,zBO]⟩
theorem kN{cs us:List Value}(off:Nat)(h:us=(cs.drop off).take us.length):∀ k u,us[k]?=some u→cs[off+k]?=some u:=by
  intro k u hu
  rw[h,List.getElem?_take]at hu
  split at hu
  · rw[List.getElem?_drop]at hu;exact hu
  cases hu
def I1(a:Int):List Value:=[Value.int .i64 a]
def U1(a:Nat):List Value:=[Value.int .u64 a]
def B1(a:Bool):List Value:=[Value.bool a]
abbrev zi(n:Nat):Prop:=n≤1000000000000
def yE(p:Prop)[Decidable p]:Int:=if p then 0 else 2
theorem errOf_zero{p:Prop}[Decidable p]:yE p=0↔p:=by unfold yE;split<;>simp_all
theorem jY{p:Prop}[Decidable p](h:p):yE p=0:=if_pos h
theorem j7{p:Prop}[Decidable p](h:¬ p):yE p=2:=if_neg h
theorem xO{l:List Value}(h:l.all cell1=true):∀ v∈l,cell1 v=true:=List.all_eq_true.1 h
theorem zh:∀ v∈([]:List Value),cell1 v=true:=by simp
theorem zF{v:Value}{l:List Value}(h:cell1 v=true)(hl:∀ v∈l,cell1 v=true):∀ u∈v::l,cell1 u=true:=by
  intro u hu
  rcases List.mem_cons.1 hu with rfl|hu
  · exact h
  exact hl u hu
theorem all_cons{α:Type}{p:α→Prop}{a:α}{l:List α}(h:p a)(hl:∀ x∈l,p x):∀ x∈a::l,p x:=by
  intro x hx
  rcases List.mem_cons.1 hx with rfl|hx
  · exact h
  exact hl x hx
def zG{α:Type}[Inhabited α](l:List α)(j:Nat):α:=l[j]?.getD default
theorem yW{α:Type}[Inhabited α]{l:List α}{j:Nat}(h:j<l.length):l[j]?=some (zG l j):=by simp[zG,h]
theorem zd{α:Type}[Inhabited α]{l:List α}{j:Nat}(h:j<l.length):zG l j∈l:=List.mem_of_getElem? (yW h)
theorem nth_eq{α:Type}[Inhabited α]{l:List α}{j:Nat}{x:α}(h:l[j]?=some x):zG l j=x:=by simp[zG,h]
theorem kY{α β:Type}[Inhabited α][Inhabited β]{g:α→β}{l:List α}{j:Nat}(h:j<l.length):zG (l.map g) j=g (zG l j):=by simp[zG,h]
theorem kg{α:Type}[Inhabited α](l:List α)(i j:Nat):zG (l.drop i) j=zG l (i+j):=by simp[zG,List.getElem?_drop]
theorem kU{α:Type}[Inhabited α]{l:List α}{i j:Nat}(h:j<i):zG (l.take i) j=zG l j:=by simp[zG,List.getElem?_take,h]
theorem ju{α:Type}[Inhabited α]{l:List α}{k:Nat}(h:k<l.length):l.drop k=zG l k::l.drop (k+1):=by
  rw[List.drop_eq_getElem_cons h];congr 1;exact(nth_eq (List.getElem?_eq_getElem h)).symm
theorem zu{α:Type}[Inhabited α]{l:List α}{k:Nat}(h:k<l.length):l.take (k+1)=l.take k++[zG l k]:=by
  rw[List.take_add_one,yW h];rfl
def Res.star(rs:List Res):Res where
  fp:=y1 rs
  φ w:=(∀ r∈rs,r.φ w)∧∀ (i j:Nat) (r s:Res),i≠j→rs[i]?=some r→rs[j]?=some s→∀ b∈r.fp,b∉s.fp
  st w w' h hb:=⟨fun r hr=>r.st w w' (h.1 r hr) fun b hb'=>hb b (by obtain⟨i,hi,rfl⟩:=List.mem_iff_getElem.1 hr;exact mem_fps.2 ⟨i,_,List.getElem?_eq_getElem hi,hb'⟩),h.2⟩
  lt w h b hb:=by
    obtain⟨i,r,hr,hb⟩:=mem_fps.1 hb
    exact r.lt w (h.1 r (List.mem_of_getElem? hr)) b hb
section
variable {w0 w w':World} {S:List Nat} {L Lin Lout:List Res}
theorem Own.qG(h:Own w0 S L w):Own w0 S (L++[Res.star []]) w:=by
  refine h.qi ⟨Keep.refl _ _,?_,?_,?_⟩
  · intro i j r s hij hr hs
    match i,j with
    |0,0=>exact absurd rfl hij
    |i+1,_=>simp at hr
    |_,j+1=>simp at hs
  · intro i r hr
    match i with
    |0=>simp at hr;subst hr;exact⟨by simp,by simp⟩
    |i+1=>simp at hr
  intro i r hr b hb
  match i with
  |0=>simp at hr;subst hr;simp[Res.star,y1]at hb
  |i+1=>simp at hr
theorem Own.starSnoc{rs:List Res}{r:Res}(i j:Nat)(hij:i≠j)(h1:L[i]?=some (Res.star rs))(h2:L[j]?=some r)(h:Own w0 S L w):Own w0 S ((L.set i (Res.star (rs++[r]))).eraseIdx j) w:=by
  refine h.join hij h1 h2 ?_ ?_
  · rintro⟨h3,h4⟩ h5 h6
    refine⟨fun s hs=> ?_,?_⟩
    · rcases List.mem_append.1 hs with hs|hs
      · exact h3 s hs
      simp at hs;exact hs▸h5
    have far:∀ (k:Nat) (s:Res),rs[k]?=some s→∀ b∈s.fp,b∉r.fp:=fun k s hs b hb=>h6 b (mem_fps.2 ⟨k,s,hs,hb⟩)
    have at_:∀ (k:Nat) (s:Res),(rs++[r])[k]?=some s→rs[k]?=some s∨(k=rs.length∧s=r):=by
      intro k s hs
      rw[List.getElem?_append]at hs
      split at hs
      · exact .inl hs
      have:k - rs.length=0:=by
        cases hk:k - rs.length with
        |zero=>rfl
        |succ m=>rw[hk]at hs;simp at hs
      rw[this]at hs;simp at hs
      exact .inr ⟨by omega,hs.symm⟩
    intro a b s t hab hs ht x hx hx'
    rcases at_ a s hs with h7|⟨h7,rfl⟩<;>rcases at_ b t ht with h8|⟨h8,rfl⟩
    · exact h4 a b s t hab h7 h8 x hx hx'
    · exact far a s h7 x hx hx'
    · exact far b t h8 x hx' hx
    omega
  intro b hb
  obtain⟨k,s,hs,hb⟩:=mem_fps.1 hb
  rw[List.getElem?_append]at hs
  split at hs
  · exact .inl (mem_fps.2 ⟨k,s,hs,hb⟩)
  cases hk:k - rs.length with
  |zero=>rw[hk]at hs;simp at hs;exact .inr (hs▸hb)
  |succ m=>rw[hk]at hs;simp at hs
theorem Own.qJ{α:Type}{g:α→Res}{l:List α}{x:α}(i j:Nat)(hij:i≠j)(h1:L[i]?=some (Res.star (l.map g)))(h2:L[j]?=some (g x))(h:Own w0 S L w):Own w0 S ((L.set i (Res.star ((l++[x]).map g))).eraseIdx j) w:=by
  rw[List.map_append]
  exact h.starSnoc i j hij h1 h2
theorem Own.star0{rs:List Res}(j:Nat)(hL:L[j]?=some (Res.star rs))(h:Own w0 S L w):∀ r∈rs,Rd w [] r:=fun r hr=>⟨(h.holds j _ hL).1 r hr,by simp⟩
theorem Own.star{rs:List Res}(j:Nat)(hL:L[j]?=some (Res.star rs))(m:List Nat)(hm:m.mapM (fun i=>L[i]?)=some Lin)(hj:m.any (Nat.beq j)=false)(h:Own w0 S L w):∀ r∈rs,Rd w (y1 Lin) r:=by
  intro r hr
  have h1:=h.rdRes j hL m hm hj
  obtain⟨i,hi,rfl⟩:=List.mem_iff_getElem.1 hr
  exact h1.sub (fun h2=>h2.1 _ hr) fun b hb=>mem_fps.2 ⟨i,_,List.getElem?_eq_getElem hi,hb⟩
end
section
variable {w0 w w':World} {S:List Nat} {L Lin Lout:List Res}
theorem Own.rdVec{e:TypeId}{sz n:Nat}{v:Value}{cs:List Value}(j:Nat)(hL:L[j]?=some (Res.vec e sz v n cs))(m:List Nat)(hm:m.mapM (fun i=>L[i]?)=some Lin)(hj:m.any (Nat.beq j)=false)(h:Own w0 S L w):Rd w (y1 Lin) (Res.sl v n cs):=
  (h.rdRes j hL m hm hj).sub Vec.sl zAU
theorem Own.qq{e:TypeId}{sz n:Nat}{v:Value}{cs:List Value}(j:Nat)(hL:L[j]?=some (Res.vec e sz v n cs))(h:Own w0 S L w):Rd w [] (Res.sl v n cs):=⟨Vec.sl (h.holds j _ hL),by simp⟩
theorem Sl.subL_f{α:Type}{g:α→List Value}{sz:Nat}(hg:∀ x,(g x).length=sz){w:World}{v:Value}{xs:List α}(hs:Sl w v xs.length (xs.flatMap g)){l h:Nat}(h1:l≤h)(h2:h≤xs.length):
    Sl w (y3 v l h sz) ((xs.take h).drop l).length (((xs.take h).drop l).flatMap g):=by
  have:=hs.subV h1 h2 (jx hg xs)
  have e:((xs.flatMap g).drop (l*sz)).take ((h - l)*sz)=((xs.take h).drop l).flatMap g:=by
    have a1:∀ (xs:List α) (k:Nat),(xs.flatMap g).drop (k*sz)=(xs.drop k).flatMap g:=by
      intro xs
      induction xs with
      |nil=>simp
      |cons y ys ih=>
        intro k
        cases k with
        |zero=>simp
        |succ k=>rw[List.flatMap_cons,Nat.add_mul,Nat.one_mul,Nat.add_comm,←List.drop_drop,show(g y++ys.flatMap g).drop sz=ys.flatMap g by rw[←hg y,List.drop_left]];simpa using ih k
    have a2:∀ (xs:List α) (k:Nat),(xs.flatMap g).take (k*sz)=(xs.take k).flatMap g:=by
      intro xs
      induction xs with
      |nil=>simp
      |cons y ys ih=>
        intro k
        cases k with
        |zero=>simp
        |succ k=>rw[List.flatMap_cons,Nat.add_mul,Nat.one_mul,List.take_append,hg y,show k*sz+sz - sz=k*sz by omega,List.take_of_length_le (by rw[hg y];omega),ih k];simp
    rw[a1,a2,List.take_drop,show l+(h - l)=h by omega]
  rw[e]at this
  rw[show((xs.take h).drop l).length=h - l by simp;omega]
  exact this
theorem Sl.subL_m{α:Type}{g:α→Value}{w:World}{v:Value}{xs:List α}(hs:Sl w v xs.length (xs.map g)){l h:Nat}(h1:l≤h)(h2:h≤xs.length):
    Sl w (y3 v l h 1) ((xs.take h).drop l).length (((xs.take h).drop l).map g):=by
  rw[zF4]at hs ⊢
  exact Sl.subL_f (g:=fun x=>[g x]) (fun _=>O) hs h1 h2
theorem Sl.dropL_f{α:Type}{g:α→List Value}{sz:Nat}(hg:∀ x,(g x).length=sz){w:World}{v:Value}{xs:List α}(hs:Sl w v xs.length (xs.flatMap g)){l:Nat}(h1:l≤xs.length):
    Sl w (y3 v l xs.length sz) (xs.drop l).length ((xs.drop l).flatMap g):=by
  have:=Sl.subL_f hg hs h1 (Nat.le_refl _)
  rwa [List.take_length]at this
theorem Sl.dropL_m{α:Type}{g:α→Value}{w:World}{v:Value}{xs:List α}(hs:Sl w v xs.length (xs.map g)){l:Nat}(h1:l≤xs.length):
    Sl w (y3 v l xs.length 1) (xs.drop l).length ((xs.drop l).map g):=by
  have:=Sl.subL_m hs h1 (Nat.le_refl _)
  rwa [List.take_length]at this
theorem Rd.dropL_f{α:Type}{g:α→List Value}{sz:Nat}(hg:∀ x,(g x).length=sz){v:Value}{xs:List α}(hs:Rd w S (Res.sl v xs.length (xs.flatMap g))){l:Nat}(h1:l≤xs.length):
    Rd w S (Res.sl (y3 v l xs.length sz) (xs.drop l).length ((xs.drop l).flatMap g)):=hs.sub (fun h'=>Sl.dropL_f hg h' h1) (jo hs.φ l _ sz)
theorem Rd.dropL_m{α:Type}{g:α→Value}{v:Value}{xs:List α}(hs:Rd w S (Res.sl v xs.length (xs.map g))){l:Nat}(h1:l≤xs.length):
    Rd w S (Res.sl (y3 v l xs.length 1) (xs.drop l).length ((xs.drop l).map g)):=hs.sub (fun h'=>Sl.dropL_m h' h1) (jo hs.φ l _ 1)
theorem Rd.subL_f{α:Type}{g:α→List Value}{sz:Nat}(hg:∀ x,(g x).length=sz){v:Value}{xs:List α}(hs:Rd w S (Res.sl v xs.length (xs.flatMap g))){l h:Nat}(h1:l≤h)(h2:h≤xs.length):
    Rd w S (Res.sl (y3 v l h sz) ((xs.take h).drop l).length (((xs.take h).drop l).flatMap g)):=hs.sub (fun h'=>Sl.subL_f hg h' h1 h2) (jo hs.φ l h sz)
theorem Rd.subL_m{α:Type}{g:α→Value}{v:Value}{xs:List α}(hs:Rd w S (Res.sl v xs.length (xs.map g))){l h:Nat}(h1:l≤h)(h2:h≤xs.length):
    Rd w S (Res.sl (y3 v l h 1) ((xs.take h).drop l).length (((xs.take h).drop l).map g)):=hs.sub (fun h'=>Sl.subL_m h' h1 h2) (jo hs.φ l h 1)
end
section
variable {P:Program} {n:Nat} {ops:Array Oper} {N R:K} {X:List (Nat×K)} {f:Nat→Value} {A:World→Prop} {rest:List Oper}
variable {d:Nat} {ty:TypeId} {p:String} {af:Array Edge} {x y:Operand} {t e:TypeId} {sz by':Nat}
variable {w0:World} {S:List Nat} {L L2:List Res}
theorem z4(L2:List Res)(h:∀ w,Own w0 S L w→Own w0 S L2 w)(k:CL P n ops rest N f (Own w0 S L2)):CL P n ops rest N f (Own w0 S L):=zPt k h
theorem zN{q:Prop}(h:∀ w,Own w0 S L w→q)(k:q→CL P n ops rest N f (Own w0 S L)):CL P n ops rest N f (Own w0 S L):=fun w hw=>k (h w hw) w hw
theorem zN2(d:Nat)(he:P.underlying t=some .bool)(a b:Bool)(w:World):(Op.equalIn (d+1) t (.bool a) (.bool b)).run P w= .ok (a==b) w:=by
  simp[Op.equalIn,yB he]
theorem zPg{q r:Prop}[Decidable q][Decidable r]{t':TypeId}(ht:zFK P t=true)(hx:ev f x= .bool (decide q))(hy:ev f y= .bool (decide r)):RV P f ⟨some d, .binOp .eql t x y t',ty,p,af,none⟩ A (.bool (decide (q↔r))):=
  fun w _=>by
    unfold zFK at ht
    split at ht
    · rename_i he
      have e1:binOp .eql t (.bool (decide q)) (.bool (decide r))=(do pure (.bool (←Op.equal t (.bool (decide q)) (.bool (decide r))))):=rfl
      have hq:(Op.equal t (.bool (decide q)) (.bool (decide r))).run P w= .ok (decide q==decide r) w:=zN2 9999 he _ _ w
      simp only[execOp,hx,hy,eqGuard,e1]
      simp[hq]
    cases ht
theorem zP2{q r:Prop}[Decidable q][Decidable r]{t':TypeId}(ht:zFK P t=true)(hx:ev f x= .bool (decide q))(hy:ev f y= .bool (decide r))(hd:Nat.blt d n=true)(k:CL P n ops rest N (upd f d (.bool (decide (q↔r)))) A):CL P n ops (⟨some d, .binOp .eql t x y t',ty,p,af,none⟩::rest) N f A:=yX hd (zPg ht hx hy) k
theorem zA6:∀ {vs:List Value},(∀ v∈vs,cell1 v=true)→vs.flatMap (fun v=>v.cells.toList)=vs
  | [],_=>rfl
  |v::vs,h=>by rw[List.flatMap_cons,kr (h v qQ),zA6 fun u hu=>h u (by simp[hu])];rfl
theorem zE5{len:Nat}{parts:List (Nat×Operand)}{vs:List Value}(ht:(slT P t).map (fun q=>(q.1,q.2.1))=some (e,1))(hn:parts.map Prod.fst=List.range len)(hv:parts.map (fun q=>ev f q.2)=vs)
    (hc:∀ v∈vs,cell1 v=true) (hb:len*1≤16777216) (hd:Nat.blt d n=true)
    (k:∀ b,CL P n ops rest N (upd f d (.slice (some ⟨b,0,none⟩) len len)) (Own w0 S (L++[Res.vec e 1 (.slice (some ⟨b,0,none⟩) len len) len vs]))):
    CL P n ops (⟨some d, .buildSlice t len parts.toArray,ty,p,af,none⟩::rest) N f (Own w0 S L):=by
  refine zx ht hn hv (fun v hv=>by rw[kr (hc v hv)];rfl) hb hd fun b=> ?_
  rw[zA6 hc]
  exact k b
theorem zFE(a b:Nat):(if(b:Int)>a then(b:Int)else a)=((max a b:Nat):Int):=by split<;>omega
theorem zQm(a b:Int):(if b>a then b else a)=max a b:=by split<;>omega
theorem zNc(a b:Nat):(if(b:Int)<a then(b:Int)else a)=((min a b:Nat):Int):=by split<;>omega
theorem zQu(a b:Int):(if b<a then b else a)=min a b:=by split<;>omega
theorem zGP{k k':IntKind}{a b c:Int}{ats:Array TypeId}(hx:ev f x= .int k a)(hy:ev f y= .int k' b)(hc:(if b>a then b else a)=c):RV P f ⟨some d, .call ⟨.builtin .max,#[x,y],ats⟩,ty,p,af,none⟩ A (.int k c):=by
  intro w _
  subst hc
  simp[execOp,resolve,invoke,builtin,hx,hy,Builtin.max_,Builtin.max2]
theorem zD9{k k':IntKind}{a b c:Int}{ats:Array TypeId}(hx:ev f x= .int k a)(hy:ev f y= .int k' b)(hc:(if b>a then b else a)=c)(hd:Nat.blt d n=true)(kk:CL P n ops rest N (upd f d (.int k c)) A):CL P n ops (⟨some d, .call ⟨.builtin .max,#[x,y],ats⟩,ty,p,af,none⟩::rest) N f A:=yX hd (zGP hx hy hc) kk
theorem zFk{k k':IntKind}{a b c:Int}{ats:Array TypeId}(hx:ev f x= .int k a)(hy:ev f y= .int k' b)(hc:(if b<a then b else a)=c):RV P f ⟨some d, .call ⟨.builtin .min,#[x,y],ats⟩,ty,p,af,none⟩ A (.int k c):=by
  intro w _
  subst hc
  simp[execOp,resolve,invoke,builtin,hx,hy,Builtin.min_,Builtin.min2]
theorem zOe{k k':IntKind}{a b c:Int}{ats:Array TypeId}(hx:ev f x= .int k a)(hy:ev f y= .int k' b)(hc:(if b<a then b else a)=c)(hd:Nat.blt d n=true)(kk:CL P n ops rest N (upd f d (.int k c)) A):CL P n ops (⟨some d, .call ⟨.builtin .min,#[x,y],ats⟩,ty,p,af,none⟩::rest) N f A:=yX hd (zFk hx hy hc) kk
theorem zOD{v:Value}{len:Nat}{cs:List Value}{t':TypeId}(ht:kd P t=true)(hx:ev f x=v)(hy:ev f y= .slice none 0 0)(hs:∀ w,A w→Sl w v len cs):RV P f ⟨some d, .binOp .eql t x y t',ty,p,af,none⟩ A (.bool (zDv v)):=by
  intro w hw
  obtain⟨a,cap,rfl, -⟩:=(hs w hw).shape
  exact zPD (A:=A) ht hx hy w hw
theorem zE8{v:Value}{len:Nat}{cs:List Value}{t':TypeId}(ht:kd P t=true)(hx:ev f x=v)(hy:ev f y= .slice none 0 0)(hs:∀ w,A w→Sl w v len cs)(hd:Nat.blt d n=true)(k:CL P n ops rest N (upd f d (.bool (zDv v))) A):CL P n ops (⟨some d, .binOp .eql t x y t',ty,p,af,none⟩::rest) N f A:=
  yX hd (zOD ht hx hy hs) k
def zEg(pl:Nat→Option (Nat×Nat))(cells:List Value):List (Nat×Value)→Option (List Value)
  | []=>some cells
  |(i,v)::rest=>
    match pl i with
    |none=>none
    |some (off,1)=>if off+1≤cells.length then zEg pl (yy cells off [v]) rest else none
    |some (off,size)=>if v.cells.toList.length=size∧off+v.cells.toList.length≤cells.length then zEg pl (yy cells off v.cells.toList) rest else none
def zNN(pl:Nat→Option (Nat×Nat)):List (Nat×Value)→Prop
  | []=>True
  |(i,v)::rest=>(match pl i with|some (_,1)=>cell1 v=true|_=>True)∧zNN pl rest
theorem zBx(pl:Nat→Option (Nat×Nat)):∀ (parts:List (Nat×Value)) (cells out:List Value),zNN pl parts→zEg pl cells parts=some out→zAK pl cells parts=some out
  | [],cells,out,_,h=>h
  |(i,v)::rest,cells,out,hc,h=>by
    unfold zEg at h
    unfold zAK
    obtain⟨h1,h2⟩:=hc
    cases hp:pl i with
    |none=>rw[hp]at h;exact h
    |some q=>
      obtain⟨off,size⟩:=q
      rw[hp]at h h1
      by_cases hs:size=1
      · subst hs
        simp only at h h1 ⊢
        rw[kr h1]
        split at h
        · rename_i hle
          rw[if_pos (by simpa using hle)]
          exact zBx pl rest _ out h2 h
        cases h
      match size,hs with
      |0,_=>simp only at h ⊢;split at h;rename_i hle;rw[if_pos hle];exact zBx pl rest _ out h2 h;cases h
      |1,hs=>exact absurd rfl hs
      |n+2,_=>simp only at h ⊢;split at h;rename_i hle;rw[if_pos hle];exact zBx pl rest _ out h2 h;cases h
theorem zMC{z:List Value}{pl:List (Nat×Nat)}{parts:List (Nat×Operand)}{cs:List Value}(hs:zAr P t=some (z,pl))(hc:zNN (pl[·]?) (parts.map fun q=>(q.1,ev f q.2)))(hf:zEg (pl[·]?) z (parts.map fun q=>(q.1,ev f q.2))=some cs):RV P f ⟨some d, .build t parts.toArray,ty,p,af,none⟩ A ((.agg cs.toArray)):=
  zA1 hs (zBx _ _ _ _ hc hf)
theorem jK{z:List Value}{pl:List (Nat×Nat)}{parts:List (Nat×Operand)}{cs:List Value}(hs:zAr P t=some (z,pl))(hc:zNN (pl[·]?) (parts.map fun q=>(q.1,ev f q.2)))(hf:zEg (pl[·]?) z (parts.map fun q=>(q.1,ev f q.2))=some cs)(hd:Nat.blt d n=true)
    (k:CL P n ops rest N (upd f d (.agg cs.toArray)) A):CL P n ops (⟨some d, .build t parts.toArray,ty,p,af,none⟩::rest) N f A:=yX hd (zMC hs hc hf) k
variable {W:World→Prop} {w:World} {fuel:Nat} {listed:Array Bool}
theorem zPr(i:Nat){op:Op}{j e:Nat}{b:Bool}(hi:ops[i]?=some ⟨some d,op,ty,p,af,some (j,b)⟩)(hj:yn ops j=some e)(hu:f e=undef)(hs:Region.noSelect ops=true)(hf:Region.free .any ops listed i=true)(hr:(Region.ready .any ops listed).contains i=true)
    (hd:Nat.blt d n=true) (hS:W w) (k:HL P n ops W N fuel (listed.setIfInBounds i true) (upd f d undef) w):HL P n ops W N (fuel+1) listed f w:=by
  intro a ha
  refine wpAnyH_take (v:=undef) hi hs hf hr (fun c a w h=>h.elim) (.inr ⟨by simp[Region.wanted,jj (ops:=ops) ha hj hu],O⟩) hS (k _ (ha.put (by simpa [Nat.blt_eq]using hd) undef))
def jd(ops:Array Oper)(listed:Array Bool)(i d n:Nat):Bool:=Region.noSelect ops&&(Region.free .any ops listed i&&((Region.ready .any ops listed).contains i&&Nat.blt d n))
theorem jS{i:Nat}(h:jd ops listed i d n=true):Region.noSelect ops=true∧Region.free .any ops listed i=true∧(Region.ready .any ops listed).contains i=true∧Nat.blt d n=true:=by
  unfold jd at h
  simp only[Bool.and_eq_true]at h
  exact h
theorem zRK(i:Nat){op:Op}{v:Value}(hi:ops[i]?=some ⟨some d,op,ty,p,af,none⟩)(hq:jd ops listed i d n=true)
    (hv:RV P f ⟨some d,op,ty,p,af,none⟩ W v) (hS:W w) (k:HL P n ops W N fuel (listed.setIfInBounds i true) (upd f d v) w):HL P n ops W N (fuel+1) listed f w:=
  have h:=jS hq
  zPe i hi h.1 h.2.1 h.2.2.1 hv h.2.2.2 hS k
theorem zQP(i:Nat){op:Op}{v:Value}{j e:Nat}{b:Bool}(hi:ops[i]?=some ⟨some d,op,ty,p,af,some (j,b)⟩)(hj:yn ops j=some e)(hb:f e= .bool b)(hq:jd ops listed i d n=true)
    (hv:RV P f ⟨some d,op,ty,p,af,none⟩ W v) (hS:W w) (k:HL P n ops W N fuel (listed.setIfInBounds i true) (upd f d v) w):HL P n ops W N (fuel+1) listed f w:=
  have h:=jS hq
  zNF i hi hj hb h.1 h.2.1 h.2.2.1 hv h.2.2.2 hS k
theorem zQ2(i:Nat){op:Op}{j e:Nat}{b b':Bool}(hi:ops[i]?=some ⟨some d,op,ty,p,af,some (j,b)⟩)(hj:yn ops j=some e)(hb:f e= .bool b')(hne:(b'==b)=false)(hq:jd ops listed i d n=true)
    (hS:W w) (k:HL P n ops W N fuel (listed.setIfInBounds i true) (upd f d undef) w):HL P n ops W N (fuel+1) listed f w:=
  have h:=jS hq
  zP8 i hi hj hb hne h.1 h.2.1 h.2.2.1 h.2.2.2 hS k
theorem zQf(i:Nat){op:Op}{j e:Nat}{b:Bool}(hi:ops[i]?=some ⟨some d,op,ty,p,af,some (j,b)⟩)(hj:yn ops j=some e)(hu:f e=undef)(hq:jd ops listed i d n=true)
    (hS:W w) (k:HL P n ops W N fuel (listed.setIfInBounds i true) (upd f d undef) w):HL P n ops W N (fuel+1) listed f w:=
  have h:=jS hq
  zPr i hi hj hu h.1 h.2.1 h.2.2.1 h.2.2.2 hS k
theorem zl(i:Nat){A:World→Prop}{o:Oper}(hi:ops[i]?=some o)(hA:A w)(h:CL P n ops [o] (fun f' w'=>W w'∧HL P n ops W N fuel (listed.setIfInBounds i true) f' w') f A):PK P n ops W N fuel listed i f w:=by
  intro a ha
  have h1:=h w hA a ha
  unfold wpOp
  simp only[hi]
  unfold wpList at h1
  split
  · rename_i hw
    rw[if_pos hw]at h1
    rcases h1 with h1|⟨_,a1,w1,h1⟩
    · left
      unfold Oper.wp at h1 ⊢
      generalize (execOp a.eval o).run P w=r at *
      have key:∀ (a':Act) (w':World),wpList P ops (kG n fun f' w'=>W w'∧HL P n ops W N fuel (listed.setIfInBounds i true) f' w') [] a' w'→W w'∧wpAnyH P .any ops (kG n N) W fuel (listed.setIfInBounds i true) a' w':=by
        rintro a' w' ⟨f',hr,h2,h3⟩
        exact⟨h2,h3 a' hr⟩
      cases r with
      |ok nx w'=>
        cases nx<;>simp only[Oper.upon]at h1 ⊢ <;>
          first
            |exact key _ _ h1
            |exact Calls.mono h1 (fun e w'' he=>by
                cases e with
                |returned v=>exact key _ _ he
                |panicked c=>exact he.elim
                |outgrown=>obtain⟨a2,w2,h2⟩:=he;exact h2.elim)
            |exact Rows.mono h1 (fun _ _ he=>key _ _ he)
      |halt x w'=>cases x<;>simp only[Oper.upon]at h1 ⊢ <;>exact h1.elim
    exact h1.elim
  rename_i hw
  rw[if_neg hw]at h1
  obtain⟨f',hr,h2,h3⟩:=h1
  exact⟨h2,h3 _ hr⟩
theorem zQZ(i:Nat){A:World→Prop}{o:Oper}(hr:Region.ready .any ops listed=[i])(hi:ops[i]?=some o)(hA:A w)(h:CL P n ops [o] (fun f' w'=>W w'∧HL P n ops W N fuel (listed.setIfInBounds i true) f' w') f A):HL P n ops W N (fuel+1) listed f w:=by
  intro a ha
  refine wpAnyH_all hr qQ fun k hk=> ?_
  simp at hk;subst hk
  exact zl k hi hA h a ha
theorem zIK{i j k:Nat}(hr:Region.ready .any ops listed=[i,j,k])(h1:PK P n ops W N fuel listed i f w)(h2:PK P n ops W N fuel listed j f w)(h3:PK P n ops W N fuel listed k f w):HL P n ops W N (fuel+1) listed f w:=by
  intro a ha
  refine wpAnyH_all hr qQ fun q hq=> ?_
  simp at hq
  rcases hq with rfl|rfl|rfl
  · exact h1 a ha
  · exact h2 a ha
  exact h3 a ha
theorem zy{α:Type}{g:α→List Value}(hg:∀ x,(g x).length=sz){l l':List α}(hc:∀ x∈l',∀ v∈g x,cell1 v=true)(i:Nat){v u:Value}(ht:slT P t=some (e,sz,by'))(hx:ev f x=v)(hL:L[i]?=some (Res.vec e sz v l.length (l.flatMap g)))(hy:ev f y=u)
    (hs:∀ w,Own w0 S L w→Sl w u l'.length (l'.flatMap g)) (hb:(l.length+l'.length)*by'≤140737488355328) (hp:0<by') (hd:Nat.blt d n=true)
    (k:∀ v',CL P n ops rest N (upd f d v') (Own w0 S (L.set i (Res.vec e sz v' (l++l').length ((l++l').flatMap g))))):
    CL P n ops (⟨some d, .call ⟨.builtin .append,#[x,y],#[t,t]⟩,ty,p,af,none⟩::rest) N f (Own w0 S L):=by
  refine zFs i ht hx hL hy hs (jx hg l') ?_ hb ?_ hd ?_
  · intro v hv
    obtain⟨x,hx,hv⟩:=List.mem_flatMap.1 hv
    exact hc x hx v hv
  · rw[xI]
    have:l.length+l'.length≤(l.length+l'.length)*by':=Nat.le_mul_of_pos_right _ hp
    omega
  intro v'
  have:=k v'
  rwa [List.length_append,List.flatMap_append]at this
theorem zDN{l l':List UInt8}(i:Nat){v u:Value}(ht:slT P t=some (e,1,1))(hx:ev f x=v)(hL:L[i]?=some (Res.vec e 1 v l.length (l.map vb)))(hy:ev f y=u)
    (hs:∀ w,Own w0 S L w→Sl w u l'.length (l'.map vb)) (hb:l.length+l'.length≤140737488355328) (hd:Nat.blt d n=true)
    (k:∀ v',CL P n ops rest N (upd f d v') (Own w0 S (L.set i (Res.vec e 1 v' (l++l').length ((l++l').map vb))))):
    CL P n ops (⟨some d, .call ⟨.builtin .append,#[x,y],#[t,t]⟩,ty,p,af,none⟩::rest) N f (Own w0 S L):=by
  refine zFs i ht hx hL hy hs qQ (zBo _) V ?_ hd ?_
  · rw[xI];omega
  intro v'
  have:=k v'
  rwa [List.length_append,List.map_append]at this
def Pr(A:World→Prop)(v:Value)(len:Nat)(cs:List Value):Prop:=∀ w,A w→Sl w v len cs
section
variable {v u:Value} {len sz:Nat} {cs:List Value}
theorem pV(k:Nat)(h:L[k]?=some (Res.vec e sz v len cs)):Pr (Own w0 S L) v len cs:=fun _ hw=>Vec.sl (hw.holds k _ h)
theorem pR(h:Rd w0 S (Res.sl v len cs)):Pr (Own w0 S L) v len cs:=fun _ hw=>Own.rd h hw
theorem zO5(hs:Pr A v len cs)(hx:ev f x=v)(ht:kd P t=true):RV P f ⟨some d, .call ⟨.builtin .len,#[x],#[t]⟩,ty,p,af,none⟩ A (.int .i64 len):=zMt ht hx hs
theorem zPs{k:IntKind}{i:Int}(hs:Pr A v len cs)(sz j:Nat)(hx:ev f x=v)(hy:ev f y= .int k i)(ht:zBh P t=some sz)(hi:i=j)(hj:j<len):RV P f ⟨some d, .indexAddr t x y,ty,p,af,none⟩ A (.pointer (some ⟨kL v,xH v+j*sz,none⟩)):=zL1 hx hy ht hs hi hj
theorem zOY{α:Type}[Inhabited α]{g:α→List Value}{xs:List α}{off:Nat}(hs:Pr A v len (xs.flatMap g))(sz j o:Nat)(hg:∀ x,(g x).length=sz)(hx:ev f x= .pointer (some ⟨kL v,off,none⟩))(ho:off=xH v+(j*sz+o))(hj:j<xs.length)(hu:(g (zG xs j))[o]?=some u)(ht:one P t=true):RV P f ⟨some d, .load t x,ty,p,af,none⟩ A u:=
  zOZ (j*sz+o) hx ho hs (zIH hg (yW hj) hu) ht
theorem zPj{xs:List UInt8}{off:Nat}(hs:Pr A v len (xs.map vb))(j:Nat)(hx:ev f x= .pointer (some ⟨kL v,off,none⟩))(ho:off=xH v+j)(hj:j<xs.length)(ht:one P t=true):RV P f ⟨some d, .load t x,ty,p,af,none⟩ A (.int .u8 ((zG xs j).toNat:Nat)):=
  zOZ j hx ho hs (by rw[List.getElem?_map,yW hj];rfl) ht
theorem zME{α:Type}[Inhabited α]{g:α→List Value}{xs:List α}{off:Nat}(hs:Pr A v len (xs.flatMap g))(sz j:Nat)(hg:∀ x,(g x).length=sz)(hx:ev f x= .pointer (some ⟨kL v,off,none⟩))(ho:off=xH v+j*sz)(hj:j<xs.length)(ht:jm P t=some sz):RV P f ⟨some d, .load t x,ty,p,af,none⟩ A (.agg (g (zG xs j)).toArray):=
  zOl (j*sz) (g (zG xs j)) hx ho hs (fun k u h=>zL3 (o:=0) hg (yW hj) (fun k u h=>by rw[Nat.zero_add];exact h) k u h) (by rw[hg];exact ht)
theorem zDC{lo hi:Option Operand}(hs:Pr A v len cs)(sz l h:Nat)(ht:zBh P t=some sz)(hx:ev f x=v)(hl:bnd f 0 lo l)(hh:bnd f len hi h)(h1:l≤h)(h2:h≤len):RV P f ⟨some d, .slice t x lo hi none,ty,p,af,none⟩ A (y3 v l h sz):=zMI ht hx hs hl hh h1 h2
theorem kW{lo hi:Option Operand}(hs:Pr A v len cs)(sz l h:Nat)(ht:zBh P t=some sz)(hx:ev f x=v)(hl:bnd f 0 lo l)(hh:bnd f len hi h)(h1:l≤h)(h2:h≤len)(hd:Nat.blt d n=true)
    (k:CL P n ops rest N (upd f d (y3 v l h sz)) A):CL P n ops (⟨some d, .slice t x lo hi none,ty,p,af,none⟩::rest) N f A:=yX hd (zDC hs sz l h ht hx hl hh h1 h2) k
end
theorem zE(m:List Nat){f':Nat→Value}(hm:m.mapM (fun i=>L[i]?)=some L2)(hn:m.Nodup)(h:∀ w,Own w0 S L w→Own w0 S L2 w→HL P n ops (Own w0 S L2) N fuel listed f' w):
    CL P n ops [] (fun g w'=>Own w0 S L2 w'∧HL P n ops (Own w0 S L2) N fuel listed g w') f' (Own w0 S L):=zg (fun w hw=>⟨hw.sel m hm hn,h w hw (hw.sel m hm hn)⟩)
abbrev Vi(n:Int):Value:= .int .i64 n
abbrev Vj(n:Nat):Value:= .int .i64 (n:Int)
abbrev Vn(n:Nat):Value:= .int .u64 (n:Int)
section
variable {v u:Value} {len sz i b off o:Nat} {cs:List Value}
theorem zH(hx:ev f x= .pointer (some ⟨b,off,none⟩))(ho:zCC P t i=some o:=by kernel_rfl):RV P f ⟨some d, .fieldAddr t x i,ty,p,af,none⟩ A (.pointer (some ⟨b,off+o,none⟩)):=zQ6 hx ho
theorem zK(hx:ev f x= .pointer (some ⟨b,off,none⟩))(hd:Nat.blt d n=true)(k:CL P n ops rest N (upd f d (.pointer (some ⟨b,off+o,none⟩))) A)(ho:zCC P t i=some o:=by kernel_rfl):CL P n ops (⟨some d, .fieldAddr t x i,ty,p,af,none⟩::rest) N f A:=zQy hx ho hd k
theorem zY(i:Nat){e:TypeId}(hx:ev f x= .pointer (some ⟨b,off,none⟩))(hL:L[i]?=some (Res.row b e cs))(hv:cs[off]?=some v)(ht:one P t=true:=by kernel_rfl):RV P f ⟨some d, .load t x,ty,p,af,none⟩ (Own w0 S L) v:=zLw i hx hL hv ht
theorem zM(i:Nat){e:TypeId}(hx:ev f x= .pointer (some ⟨b,off,none⟩))(hL:L[i]?=some (Res.row b e cs))(hv:cs[off]?=some v)(hd:Nat.blt d n=true)(k:CL P n ops rest N (upd f d v) (Own w0 S L))(ht:one P t=true:=by kernel_rfl):CL P n ops (⟨some d, .load t x,ty,p,af,none⟩::rest) N f (Own w0 S L):=zQE i hx hL hv ht hd k
theorem x1(i:Nat){e:TypeId}(hx:ev f x= .pointer (some ⟨b,0,none⟩))(hL:L[i]?=some (Res.row b e cs))(ht:jm P t=some cs.length:=by kernel_rfl):RV P f ⟨some d, .load t x,ty,p,af,none⟩ (Own w0 S L) (.agg cs.toArray):=zQR i hx hL ht
theorem yL(i:Nat){e:TypeId}(hx:ev f x= .pointer (some ⟨b,0,none⟩))(hL:L[i]?=some (Res.row b e cs))(hd:Nat.blt d n=true)(k:CL P n ops rest N (upd f d (.agg cs.toArray)) (Own w0 S L))(ht:jm P t=some cs.length:=by kernel_rfl):CL P n ops (⟨some d, .load t x,ty,p,af,none⟩::rest) N f (Own w0 S L):=zQ0 i hx hL ht hd k
theorem zAA(hs:Pr A v len cs)(hx:ev f x=v)(ht:kd P t=true:=by kernel_rfl):RV P f ⟨some d, .call ⟨.builtin .len,#[x],#[t]⟩,ty,p,af,none⟩ A (.int .i64 len):=zMt ht hx hs
theorem zp(hs:Pr A v len cs)(hx:ev f x=v)(hd:Nat.blt d n=true)(k:CL P n ops rest N (upd f d (.int .i64 len)) A)(ht:kd P t=true:=by kernel_rfl):CL P n ops (⟨some d, .call ⟨.builtin .len,#[x],#[t]⟩,ty,p,af,none⟩::rest) N f A:=yX hd (zO5 hs hx ht) k
theorem yz{k:IntKind}{i:Int}(hs:Pr A v len cs)(sz j:Nat)(hx:ev f x=v)(hy:ev f y= .int k i)(hi:i=j)(hj:j<len)(ht:zBh P t=some sz:=by kernel_rfl):RV P f ⟨some d, .indexAddr t x y,ty,p,af,none⟩ A (.pointer (some ⟨kL v,xH v+j*sz,none⟩)):=zL1 hx hy ht hs hi hj
theorem zk{k:IntKind}{i:Int}(hs:Pr A v len cs)(sz j:Nat)(hx:ev f x=v)(hy:ev f y= .int k i)(hi:i=j)(hj:j<len)(hd:Nat.blt d n=true)(kk:CL P n ops rest N (upd f d (.pointer (some ⟨kL v,xH v+j*sz,none⟩))) A)(ht:zBh P t=some sz:=by kernel_rfl):CL P n ops (⟨some d, .indexAddr t x y,ty,p,af,none⟩::rest) N f A:=yX hd (zPs hs sz j hx hy ht hi hj) kk
theorem x0{α:Type}[Inhabited α]{g:α→List Value}{xs:List α}(hs:Pr A v len (xs.flatMap g))(sz j o:Nat)(hg:∀ x,(g x).length=sz)(hx:ev f x= .pointer (some ⟨kL v,off,none⟩))(ho:off=xH v+(j*sz+o))(hj:j<xs.length)(hu:(g (zG xs j))[o]?=some u)(ht:one P t=true:=by kernel_rfl):RV P f ⟨some d, .load t x,ty,p,af,none⟩ A u:=zOY hs sz j o hg hx ho hj hu ht
theorem yH{α:Type}[Inhabited α]{g:α→List Value}{xs:List α}(hs:Pr A v len (xs.flatMap g))(sz j o:Nat)(hg:∀ x,(g x).length=sz)(hx:ev f x= .pointer (some ⟨kL v,off,none⟩))(ho:off=xH v+(j*sz+o))(hj:j<xs.length)(hu:(g (zG xs j))[o]?=some u)(hd:Nat.blt d n=true)(k:CL P n ops rest N (upd f d u) A)(ht:one P t=true:=by kernel_rfl):CL P n ops (⟨some d, .load t x,ty,p,af,none⟩::rest) N f A:=yX hd (zOY hs sz j o hg hx ho hj hu ht) k
theorem zDZ{xs:List UInt8}(hs:Pr A v len (xs.map vb))(j:Nat)(hx:ev f x= .pointer (some ⟨kL v,off,none⟩))(ho:off=xH v+j)(hj:j<xs.length)(hd:Nat.blt d n=true)(k:CL P n ops rest N (upd f d (.int .u8 ((zG xs j).toNat:Nat))) A)(ht:one P t=true:=by kernel_rfl):CL P n ops (⟨some d, .load t x,ty,p,af,none⟩::rest) N f A:=yX hd (zPj hs j hx ho hj ht) k
theorem zFU{α:Type}[Inhabited α]{g:α→List Value}{xs:List α}(hs:Pr A v len (xs.flatMap g))(sz j:Nat)(hg:∀ x,(g x).length=sz)(hx:ev f x= .pointer (some ⟨kL v,off,none⟩))(ho:off=xH v+j*sz)(hj:j<xs.length)(ht:jm P t=some sz:=by kernel_rfl):RV P f ⟨some d, .load t x,ty,p,af,none⟩ A (.agg (g (zG xs j)).toArray):=zME hs sz j hg hx ho hj ht
theorem kP{α:Type}[Inhabited α]{g:α→List Value}{xs:List α}(hs:Pr A v len (xs.flatMap g))(sz j:Nat)(hg:∀ x,(g x).length=sz)(hx:ev f x= .pointer (some ⟨kL v,off,none⟩))(ho:off=xH v+j*sz)(hj:j<xs.length)(hd:Nat.blt d n=true)(k:CL P n ops rest N (upd f d (.agg (g (zG xs j)).toArray)) A)(ht:jm P t=some sz:=by kernel_rfl):CL P n ops (⟨some d, .load t x,ty,p,af,none⟩::rest) N f A:=yX hd (zME hs sz j hg hx ho hj ht) k
theorem zn(i:Nat){e:TypeId}(hx:ev f x= .pointer (some ⟨b,off,none⟩))(hy:ev f y=v)(hL:L[i]?=some (Res.row b e cs))(hv:cell1 v=true)(ho:Nat.blt off cs.length=true)(k:CL P n ops rest N f (Own w0 S (L.set i (Res.row b e (cs.set off v)))))(ht:zA8 P t=some 1:=by kernel_rfl):CL P n ops (⟨none, .store t x y,ty,p,af,none⟩::rest) N f (Own w0 S L):=zRP i hx hy hL ht hv (Nat.le_of_ble_eq_true ho) k
theorem zo(i:Nat){e:TypeId}{vs:List Value}(hx:ev f x= .pointer (some ⟨b,off,none⟩))(hy:ev f y= .agg vs.toArray)(hL:L[i]?=some (Res.row b e cs))(hv:∀ v∈vs,cell1 v=true)(ho:Nat.ble (off+vs.length) cs.length=true)(k:CL P n ops rest N f (Own w0 S (L.set i (Res.row b e (yy cs off vs)))))(ht:zA8 P t=some vs.length:=by kernel_rfl):CL P n ops (⟨none, .store t x y,ty,p,af,none⟩::rest) N f (Own w0 S L):=zQd i hx hy hL ht hv (Nat.le_of_ble_eq_true ho) k
theorem a_call{g:FuncId}{l:List Operand}{vs:List Value}{ats:Array TypeId}(ha:l.map (ev f)=vs)(hd:Nat.blt d n=true)(h:∀ w,A w→Rets P g vs.toArray w fun v w'=>WL P n ops rest N (upd f d v) w')(hg:kS P g=true:=by kernel_rfl):CL P n ops (⟨some d, .call ⟨.value (.func g),l.toArray,ats⟩,ty,p,af,none⟩::rest) N f A:=zCQ hg ha hd h
theorem zB(i:Nat){op:Op}(hi:ops[i]?=some ⟨some d,op,ty,p,af,none⟩)(hv:RV P f ⟨some d,op,ty,p,af,none⟩ W v)(hS:W w)(k:HL P n ops W N fuel (listed.setIfInBounds i true) (upd f d v) w)(hq:jd ops listed i d n=true:=by kernel_rfl):HL P n ops W N (fuel+1) listed f w:=zRK i hi hq hv hS k
theorem zf(i:Nat){op:Op}{j e:Nat}{b:Bool}(hi:ops[i]?=some ⟨some d,op,ty,p,af,some (j,b)⟩)(hj:yn ops j=some e)(hb:f e= .bool b)(hv:RV P f ⟨some d,op,ty,p,af,none⟩ W v)(hS:W w)(k:HL P n ops W N fuel (listed.setIfInBounds i true) (upd f d v) w)(hq:jd ops listed i d n=true:=by kernel_rfl):HL P n ops W N (fuel+1) listed f w:=zQP i hi hj hb hq hv hS k
theorem zX(i:Nat){op:Op}{j e:Nat}{b b':Bool}(hi:ops[i]?=some ⟨some d,op,ty,p,af,some (j,b)⟩)(hj:yn ops j=some e)(hb:f e= .bool b')(hne:(b'==b)=false)(hS:W w)(k:HL P n ops W N fuel (listed.setIfInBounds i true) (upd f d undef) w)(hq:jd ops listed i d n=true:=by kernel_rfl):HL P n ops W N (fuel+1) listed f w:=zQ2 i hi hj hb hne hq hS k
theorem y0(i:Nat){op:Op}{j e:Nat}{b:Bool}(hi:ops[i]?=some ⟨some d,op,ty,p,af,some (j,b)⟩)(hj:yn ops j=some e)(hu:f e=undef)(hS:W w)(k:HL P n ops W N fuel (listed.setIfInBounds i true) (upd f d undef) w)(hq:jd ops listed i d n=true:=by kernel_rfl):HL P n ops W N (fuel+1) listed f w:=zQf i hi hj hu hq hS k
theorem zJ(i:Nat){o:Oper}(hi:ops[i]?=some o)(hA:A w)(h:CL P n ops [o] (fun f' w'=>W w'∧HL P n ops W N fuel (listed.setIfInBounds i true) f' w') f A)(hr:Region.ready .any ops listed=[i]:=by kernel_rfl):HL P n ops W N (fuel+1) listed f w:=zQZ i hr hi hA h
theorem zT(h:N f w)(hr:Region.ready .any ops listed=[]:=by kernel_rfl):HL P n ops W N fuel listed f w:=zPc hr h
theorem zq(i j:Nat)(h1:PK P n ops W N fuel listed i f w)(h2:PK P n ops W N fuel listed j f w)(hr:Region.ready .any ops listed=[i,j]:=by kernel_rfl):HL P n ops W N (fuel+1) listed f w:=zNa hr h1 h2
end
section
variable {fn:Func} {g:FuncId} {c:Code} {args:List Value} {w:World} {R:Value→World→Prop}
theorem zW(hf:P.funcs[g]?=some fn)(hb:fn.body=some c)(hn:fn.ntmps=n)(hA:Own w S L w)(h:C P n c (zCp P fn n R) (zCp P fn n R) [] (ini args) (Own w S L))(hl:Nat.ble args.length n=true:=by kernel_rfl):Rets P g args.toArray w R:=kC hf hb hn hl hA h
end
theorem yN{T:List Nat}{f0 g:Nat→Value}{t:Nat}{v:Value}{A B:World→Prop}(hg:g t=v)(hA:∀ w,B w→A w)(hO:Out T f0 g:=by repeat (first|exact .refl _ _|refine .upd rfl ?_|refine .msk rfl ?_)):CL P n ops [] (zEf T f0 t v A) g B:=zg fun w hw=>⟨hO,hg,hA w hw⟩
theorem zEC{T:List Nat}{f0 g:Nat→Value}{t:Nat}{v:Value}{A:World→Prop}(hg:g t=v)(hO:Out T f0 g:=by repeat (first|exact .refl _ _|refine .upd rfl ?_|refine .msk rfl ?_)):QL P n ops [] (zEf T f0 t v A) g A:=zOg fun w hw=>⟨hO,hg,hw⟩
section
variable {o:Oper} {i:Nat} {f':Nat→Value}
theorem yo(i:Nat){o:Oper}(hi:ops[i]?=some o)(h:CL P n ops [o] (fun g w'=>Own w0 S [] w'∧HL P n ops (Own w0 S []) N fuel (listed.setIfInBounds i true) g w') f' (Own w0 S L))(hr:Region.ready .any ops listed=[i]:=by kernel_rfl):
    CL P n ops [] (fun g w'=>Own w0 S [] w'∧HL P n ops (Own w0 S []) N (fuel+1) listed g w') f' (Own w0 S L):=zE [] rfl List.nodup_nil fun w hw hS=>zJ i hi hw h hr
end
end
end Go.Sc
