import Derived.Test.YtkkeknmkipkbmaaGreatBytes
import Derived.Test.YtkkeknmkipkbmaaGreatProg
set_option linter.unusedSectionVars false
set_option linter.unusedSimpArgs false
set_option linter.unusedVariables false
set_option maxRecDepth 10000
namespace Go.Proofs.YtkkeknmkipkbmaaGreat
open Go Go.Sc Go.Proofs
theorem _root_.Go.Sc.qN{p:Prop}(h:p:=by kernel_rfl):p:=h
theorem zDl(n:Nat)(hn:n<18446744073709551616)(w:World):
    Rets Tryz.prog 188 #[.int .u64 n] w fun v w'=>v= .int .i64 (yD n)∧Own w [] [] w':=by
  refine kC (args:=[.int .u64 n]) Tryz.func188 O Tryz.ntmps188 O (Own.start w) ?_
  refine zC ?_
  refine zI O ?_
  refine zA ?_
  refine zAB (Nat×Nat) (fun s=>[(0, .int .u64 s.1),(2, .int .i64 s.2)]) (fun s=>yD n=yD s.1+s.2∧s.1<4294967296∧s.2≤32) (fun _=>[]) ?_ (fun s g ⟨h1,h2,h3⟩=> ?_)
  · refine zC ?_
    refine zD O ?_
    refine kK O O O ?_
    refine zA ?_
    refine za O (fun c1=> ?_) (fun c1=> ?_)
    · refine zC ?_
      refine zD O ?_
      refine zIu (c:=((n / 4294967296:Nat):Int)) O O V (by show(n:Int).fdiv 4294967296=_;rw[Int.fdiv_eq_ediv_of_nonneg _ V];omega) O ?_
      refine zI O ?_
      refine zA ?_
      refine zV ?_
      refine zI O ?_
      have hb:yD n=yD (n / 4294967296)+32:=j6 (k:=32) V
      exact zg (fun w hw=>⟨(n / 4294967296,0+32),⟨O,O,trivial⟩,⟨by show yD n=yD (n / 4294967296)+(0+32);omega,by omega,by omega⟩,hw⟩)
    exact yZ (fun w hw=>⟨(n,0),⟨rfl,rfl,trivial⟩,⟨by show yD n=yD n+0;omega,by omega,by omega⟩,hw⟩)
  refine zAB (Nat×Nat) (fun s=>[(0, .int .u64 s.1),(2, .int .i64 s.2)]) (fun s=>yD n=yD s.1+s.2∧s.1<65536∧s.2≤48) (fun _=>[]) ?_ (fun s g ⟨h1,h2,h3⟩=> ?_)
  · refine zC ?_
    refine zD O ?_
    refine kK O O O ?_
    refine zA ?_
    refine za O (fun c1=> ?_) (fun c1=> ?_)
    · refine zC ?_
      refine zD O ?_
      refine zIu (c:=((s.1 / 65536:Nat):Int)) O O V (by show(s.1:Int).fdiv 65536=_;rw[Int.fdiv_eq_ediv_of_nonneg _ V];omega) O ?_
      refine zI O ?_
      refine zA ?_
      refine zV ?_
      refine zD O ?_
      refine zt (c:=((s.2+16:Nat):Int)) O O (by rw[zr V];omega) O ?_
      refine zI O ?_
      have hb:yD s.1=yD (s.1 / 65536)+16:=j6 (k:=16) V
      exact zg (fun w hw=>⟨(s.1 / 65536,s.2+16),⟨O,O,trivial⟩,⟨by show yD n=yD (s.1 / 65536)+(s.2+16);omega,by omega,by omega⟩,hw⟩)
    exact yZ (fun w hw=>⟨(s.1,s.2),⟨rfl,rfl,trivial⟩,⟨by show yD n=yD s.1+s.2;omega,by omega,by omega⟩,hw⟩)
  refine zAB (Nat×Nat) (fun s=>[(0, .int .u64 s.1),(2, .int .i64 s.2)]) (fun s=>yD n=yD s.1+s.2∧s.1<256∧s.2≤56) (fun _=>[]) ?_ (fun s g ⟨h1,h2,h3⟩=> ?_)
  · refine zC ?_
    refine zD O ?_
    refine kK O O O ?_
    refine zA ?_
    refine za O (fun c1=> ?_) (fun c1=> ?_)
    · refine zC ?_
      refine zD O ?_
      refine zIu (c:=((s.1 / 256:Nat):Int)) O O V (by show(s.1:Int).fdiv 256=_;rw[Int.fdiv_eq_ediv_of_nonneg _ V];omega) O ?_
      refine zI O ?_
      refine zA ?_
      refine zV ?_
      refine zD O ?_
      refine zt (c:=((s.2+8:Nat):Int)) O O (by rw[zr V];omega) O ?_
      refine zI O ?_
      have hb:yD s.1=yD (s.1 / 256)+8:=j6 (k:=8) V
      exact zg (fun w hw=>⟨(s.1 / 256,s.2+8),⟨O,O,trivial⟩,⟨by show yD n=yD (s.1 / 256)+(s.2+8);omega,by omega,by omega⟩,hw⟩)
    exact yZ (fun w hw=>⟨(s.1,s.2),⟨rfl,rfl,trivial⟩,⟨by show yD n=yD s.1+s.2;omega,by omega,by omega⟩,hw⟩)
  refine zC ?_
  refine zD O ?_
  refine zD O ?_
  refine xt O O (zPK V) O ?_ qN
  have hl:s.1<(ByteArray.mk lenTabL.toArray).size:=by rw[show(ByteArray.mk lenTabL.toArray).size=256 by kernel_rfl];exact h2
  refine zQ3 (s:=⟨lenTabL.toArray⟩) qN qN O O hl O ?_
  have ht:((ByteArray.mk lenTabL.toArray)[s.1]).toNat=yD s.1:=by
    have:=zJF ⟨s.1,h2⟩
    rw[List.getElem?_eq_getElem (show s.1<lenTabL.length from h2)]at this
    exact Option.some.inj this
  have hle:=ky (n:=s.1) (k:=8) h2
  refine xt (c:=(yD s.1:Int)) qN O (by rw[ht];exact zr V) O ?_ qN
  refine zt (c:=(yD n:Int)) O O (by rw[zr V,h1];omega) O ?_
  refine zI O ?_
  refine zA ?_
  exact zU (z9 O O (fun w hw=>⟨O,hw⟩))
abbrev T8:Nat:=5
def BSl(w:World)(v:Value)(bs:List UInt8):Prop:=Sl w v bs.length (bs.map vb)
def zEB(v:Value)(bs:List UInt8):Res:=Res.vec T8 1 v bs.length (bs.map vb)
theorem zM7:slT Tryz.prog 36=some (T8,1,1):=by kernel_rfl
theorem _root_.Go.Sc.qM{p:Prop}(h:p:=by decide):p:=h
theorem zGs(v:Value)(bs:List UInt8)(w:World)(hv:BSl w v bs)(hb:bs.length≤1099511627776):
    Rets Tryz.prog 40 #[v] w fun v' w'=>Own w [] [zEB v' bs] w':=by
  have hs:=hv
  obtain⟨a,cap,rfl,h1,h2,ha⟩:=Sl.shape hv
  cases a with
  |none=>
    have hbs:bs=[]:=by
      cases bs with
      |nil=>rfl
      |cons x xs=>obtain⟨b,off,e⟩:=ha qQ;cases e
    subst hbs
    refine kC (args:=[.slice none 0 cap]) Tryz.func40 O Tryz.ntmps40 O (Own.start w) ?_
    refine zC ?_
    refine zI O ?_
    refine zA ?_
    refine zP ?_
    refine zC ?_
    refine zD O ?_
    refine zMo qN O O O ?_
    refine zA ?_
    refine zID O ?_
    refine zC ?_
    refine zI O ?_
    refine zA ?_
    exact zU (z9 (v:= .slice none 0 0) O O (fun w hw=>by simpa [zEB]using zm hw T8 1))
  |some a=>
    refine kC (args:=[.slice (some a) bs.length cap]) Tryz.func40 O Tryz.ntmps40 O (Own.start w) ?_
    refine zC ?_
    refine zI O ?_
    refine zA ?_
    refine zP ?_
    refine zC ?_
    refine zD O ?_
    refine zMo qN O O O ?_
    refine zA ?_
    refine xx O ?_
    refine zQ ?_
    refine zC ?_
    refine zx (e:=T8) (sz:=1) (vs:=[]) qN O O qQ qM O (fun b5=> ?_)
    refine zD O ?_
    refine zFs (by':=1) (news:=bs.map vb) (m:=bs.length) 0 zM7 O O O (fun w' hw=>hw.old (Res.sl _ _ _) hs qQ) qQ (zBo bs) V (by rw[xI];omega) O (fun v7=> ?_)
    refine zI O ?_
    refine zA ?_
    exact zU (z9 (v:=v7) O O (fun w hw=>by simpa [zEB]using hw))
theorem zEd(a:Option Addr)(n cap:Nat)(w:World)(hc:n≤cap):
    Rets Tryz.prog 189 #[.slice a n cap] w fun v' w'=>v'= .slice a n n∧Own w [] [] w':=by
  refine kC (args:=[.slice a n cap]) Tryz.func189 O Tryz.ntmps189 O (Own.start w) ?_
  refine zC ?_
  refine zI O ?_
  refine zA ?_
  refine zC ?_
  refine zD O ?_
  refine zD O ?_
  refine zIj qN O O ?_
  refine zD O ?_
  refine zIj qN O O ?_
  refine zPp (sz:=1) (l:=0) (h:=n) (m:=n) qN O O ⟨.i64,O⟩ ⟨.i64,O⟩ V V hc O ?_
  refine zI O ?_
  refine zA ?_
  refine zU (z9 O O (fun w hw=>⟨?_,hw⟩))
  show kO a cap 0 n n 1=_
  cases a<;>simp[kO,Addr.add]
theorem _root_.Go.Sc.qR{p:Prop}(h:p:=by simp[Value.cells]):p:=h
theorem zFw(v:Value)(bs:List UInt8)(n:Nat)(hn:n<18446744073709551616)(w:World)(hv:BSl w v bs)(hb:bs.length≤1000000000000):
    Rets Tryz.prog 145 #[v, .int .u64 n] w fun v' w'=>Own w [] [zEB v' (bs++num n)] w':=by
  have hk:=zA9 hn
  refine kC (args:=[v, .int .u64 n]) Tryz.func145 O Tryz.ntmps145 O (Own.start w) ?_
  refine zC ?_
  refine zI O ?_
  refine zA ?_
  -- region 1 codec.go:14
  refine zC ?_
  refine zD O ?_
  refine zCQ qN O O (fun w' hw=> ?_)
  refine(zDl n hn w').mono ?_
  rintro _ w1 ⟨rfl,hO⟩
  refine O0 ?_ (by simpa using hw.qi hO)
  have hl64:=ky (n:=n) (k:=64) hn
  refine zt (c:=((yD n+7:Nat):Int)) O O (by rw[zr V];omega) O ?_
  refine zL6 (c:=(yU n:Int)) O O V (by rw[Int.tdiv_eq_ediv_of_nonneg V];unfold yU;rw[zr V];omega) O ?_
  refine zI O ?_
  refine zA ?_
  -- region 2 codec.go:15
  refine yt (fun(v6:Value)=>[(1, .int .u64 n),(5, .int .i64 (yU n:Nat)),(6,v6)]) (fun _=>True) (fun v6=>[zEB v6 (bs++[UInt8.ofNat (yU n)])]) ?_ (fun v6 g _=> ?_)
  · refine zV ?_
    refine zD O ?_
    refine zCQ qN O O (fun w' hw=> ?_)
    refine(zGs v bs w' (hw.old (Res.sl _ _ _) hv qQ) V).mono ?_
    intro v13 w1 hO
    have hO':=hw.qi hO
    rcases(hO'.holds 0 _ rfl).2 with⟨rfl,hz⟩|⟨g,cap,cur,rfl, -,hg,hcap,hmax, -, -⟩
    · have hbs:bs=[]:=List.eq_nil_of_length_eq_zero hz
      subst hbs
      refine O1 ?_ hO'
      refine zCQ qN O O (fun w' hw=> ?_)
      refine(zEd none 0 0 w' V).mono ?_
      rintro _ w2 ⟨rfl,hO⟩
      refine(?_:CL _ _ _ _ _ _ (Own w [] [_])) w2 (by simpa using hw.qi hO)
      refine zD O ?_
      refine xt qN O (zPK V) O ?_ qN
      refine zx (e:=T8) (sz:=1) (vs:=[.int .u8 (yU n)]) qN O O qR qM O (fun b17=> ?_)
      refine zFs (by':=1) (m:=1) 0 zM7 O O O (fun w hw=>Vec.sl (hw.holds 1 _ O)) qR (by simp[Value.cells,cell1]) qQ (by rw[xI];simp) O (fun v18=> ?_)
      refine zI O ?_
      refine zg (fun w hw=>⟨v18,⟨O,O,O,trivial⟩,trivial,?_⟩)
      have h1:=hw.one 0 rfl
      have e:vb (UInt8.ofNat (yU n))= .int .u8 (yU n):=by rw[zDG,Nat.mod_eq_of_lt V]
      simpa [zEB,Value.cells,e]using h1
    refine(?_:CL _ _ _ _ _ _ (Own w [] [zEB (.slice (some ⟨g,0,none⟩) bs.length cap) bs])) w1 hO'
    refine zCQ qN O O (fun w' hw=> ?_)
    refine(zEd _ bs.length cap w' hcap).mono ?_
    rintro _ w2 ⟨rfl,hO⟩
    have hO2:=hw.qi hO
    rw[List.append_nil]at hO2
    refine(?_:CL _ _ _ _ _ _ (Own w [] [_])) w2 hO2
    refine zD O ?_
    refine xt qN O (zPK V) O ?_ qN
    refine zx (e:=T8) (sz:=1) (vs:=[.int .u8 (yU n)]) qN O O qR qM O (fun b17=> ?_)
    refine zO7 (by':=1) (m:=1) (cs:=bs.map vb) zM7 O (fun w hw=> ?_) qQ O (fun w hw=>Vec.sl (hw.holds 1 _ O)) qR V V (by rw[xI];omega) O (fun v18=> ?_)
    · rcases Vec.sl (hw.holds 0 _ rfl)with⟨a1,e,e1,e2⟩|⟨b1,off1,cap1,e,k1,k2,k3,k4⟩
      · exact .inl ⟨_,by rw[e1],e1,e2⟩
      simp at e
      obtain⟨⟨rfl,rfl⟩,rfl⟩:=e
      by_cases hz:bs.length=0
      · exact .inl ⟨_,by rw[hz],hz,by simpa using hz⟩
      exact .inr ⟨_,_,_,rfl,⟨Nat.le_refl _,by omega⟩,by have:=k1.1;omega,k3,k4⟩
    refine zI O ?_
    refine zg (fun w hw=>⟨v18,⟨O,O,O,trivial⟩,trivial,?_⟩)
    have h1:=hw.one 2 rfl
    have e:vb (UInt8.ofNat (yU n))= .int .u8 (yU n):=by rw[zDG,Nat.mod_eq_of_lt V]
    simpa [zEB,Value.cells,e]using h1
  refine zP ?_
  -- region 3 codec.go:16
  refine zC ?_
  refine zD O ?_
  refine x8 O O (zr V) O ?_
  refine zI O ?_
  refine zA ?_
  refine zZ ?_
  refine x3 (fun(v6:Value) (pre:List UInt8) (j:Nat)=>[(1, .int .u64 n),(6,v6),(7, .int .i64 ((j:Int) - 1))]) (fun _ pre j=>pre++be n j=be n (yU n)∧j≤yU n∧pre.length≤8)
    (fun v6 pre _=>[zEB v6 (bs++UInt8.ofNat (yU n)::pre)]) (fun _ _ j=>j) (fun w hw=>⟨v6,[],yU n,⟨rfl,rfl,rfl,trivial⟩,⟨rfl,Nat.le_refl _,by simp⟩,hw⟩) (fun v6 pre j g2 hs=> ?_)
  obtain⟨h1,h2,h3⟩:=hs
  have hpl:pre.length+j=yU n:=by have:=congrArg List.length h1;simpa [zAf]using this
  refine zP ?_
  -- region 4 codec.go:16
  refine zC ?_
  refine zD O ?_
  refine kK O O O ?_
  refine zA ?_
  refine za O (fun c1=> ?_) (fun c1=> ?_)
  · refine zQ ?_
    obtain⟨j,rfl⟩:∃ i,j=i+1:=⟨j - 1,by omega⟩
    refine zP ?_
    refine zZ ?_
    -- region 6 codec.go:17
    refine zV ?_
    refine zD O ?_
    refine zD O ?_
    refine zD O ?_
    refine zKf (c:=((8*j:Nat):Int)) O O (by rw[zr V];omega) O ?_
    have hfd:(n:Int).fdiv (2 ^ (min ((8*j:Nat):Int).toNat IntKind.u64.bits))=((n / 2 ^ (8*j):Nat):Int):=by
      have e1:min ((8*j:Nat):Int).toNat IntKind.u64.bits=8*j:=by simp only[IntKind.bits];omega
      have e2:(2:Int) ^ (8*j)=((2 ^ (8*j):Nat):Int):=by norm_cast
      rw[e1,e2,Int.fdiv_eq_ediv_of_nonneg _ (Int.natCast_nonneg _)]
      norm_cast
    refine zIu O O V hfd O ?_
    refine xt (c:=((n / 2 ^ (8*j)%256:Nat):Int)) qN O (by rw[wu8];norm_cast) O ?_ qN
    refine zx (e:=T8) (sz:=1) (vs:=[.int .u8 ((n / 2 ^ (8*j)%256:Nat):Int)]) qN O O qR qM O (fun b31=> ?_)
    refine zFs (by':=1) (m:=1) 0 zM7 O O O (fun w hw=>Vec.sl (hw.holds 1 _ O)) qR (by simp[Value.cells,cell1]) qX (by rw[xI];simp;omega) O (fun v32=> ?_)
    refine zI O ?_
    refine zA ?_
    -- region 5 codec.go:16
    refine zV ?_
    refine zD O ?_
    refine x8 (c:=(j:Int) - 1) O O (by rw[zr V];omega) O ?_
    refine zI O ?_
    refine zg (fun w hw=>⟨v32,pre++[UInt8.ofNat (n / 2 ^ (8*j))],j,⟨O,O,O,trivial⟩,⟨?_,by omega,by simp;omega⟩,?_,Nat.lt_succ_self j⟩)
    · rw[←h1];simp[be]
    have h4:=hw.one 0 rfl
    simpa [zEB,Value.cells,zDG,Nat.add_assoc]using h4
  refine yF rfl ?_
  have hj:j=0:=by omega
  subst hj
  -- region 7 codec.go:19
  refine zC ?_
  refine zD O ?_
  refine zI O ?_
  refine zA ?_
  refine zU (z9 O O (fun w hw=> ?_))
  have e:pre=be n (yU n):=by simpa [be]using h1
  subst e
  exact hw
abbrev xP:Nat:=188
def vu(n:Nat):Value:= .int .u64 n
def yK(ns:List Nat):List UInt8:=ns.flatMap num
theorem yS{ns:List Nat}(h:∀ n∈ns,n<18446744073709551616):(yK ns).length≤9*ns.length:=by
  induction ns with
  |nil=>simp[yK]
  |cons n ns ih=>
    have h1:=zLf (h n qQ)
    have h2:=ih (fun m hm=>h m (by simp[hm]))
    simp only[yK,List.flatMap_cons,List.length_append,List.length_cons]at h2 ⊢
    omega
end Go.Proofs.YtkkeknmkipkbmaaGreat
set_option linter.unusedVariables false
namespace Go.Sc
section
variable {P:Program} {n:Nat} {ops:Array Oper} {N R:K} {X:List (Nat×K)} {f:Nat→Value} {W:World→Prop} {w w0:World} {S:List Nat} {L:List Res}
variable {d:Nat} {ty t e:TypeId} {p:String} {af:Array Edge} {fuel sz by':Nat} {listed:Array Bool} {x y:Operand}
def PK(P:Program)(n:Nat)(ops:Array Oper)(W:World→Prop)(N:K)(fuel:Nat)(listed:Array Bool)(i:Nat)(f:Nat→Value)(w:World):Prop:=
  ∀ a,Rep n f a→wpOp P ops (kG n N) i (fun a' w'=>W w'∧wpAnyH P .any ops (kG n N) W fuel (listed.setIfInBounds i true) a' w') a w
theorem zNa{i j:Nat}(hr:Region.ready .any ops listed=[i,j])(h1:PK P n ops W N fuel listed i f w)(h2:PK P n ops W N fuel listed j f w):HL P n ops W N (fuel+1) listed f w:=by
  intro a ha
  refine wpAnyH_all hr qQ fun k hk=> ?_
  simp at hk
  rcases hk with rfl|rfl
  · exact h1 a ha
  exact h2 a ha
end
theorem zF4{α:Type}(g:α→Value):∀ l:List α,l.map g=l.flatMap (fun x=>[g x])
  | []=>rfl
  |a::l=>by simp[zF4 g l]
theorem xC(b:Bool):Value.bool b= .bool (decide (b=true)):=by cases b<;>rfl
def y1(L:List Res):List Nat:=L.flatMap (·.fp)
def yp(m:List Nat):Nat→List Res→List Res
  |_,[]=>[]
  |i,r::L=>bif m.any (Nat.beq i)then yp m (i+1) L else r::yp m (i+1) L
theorem mem_fps{L:List Res}{b:Nat}:b∈y1 L↔∃ (i:Nat) (r:Res),L[i]?=some r∧b∈r.fp:=by
  unfold y1
  rw[List.mem_flatMap]
  constructor
  · rintro⟨r,hr,hb⟩
    obtain⟨i,hi,rfl⟩:=List.mem_iff_getElem.1 hr
    exact⟨i,_,List.getElem?_eq_getElem hi,hb⟩
  rintro⟨i,r,hr,hb⟩
  exact⟨r,List.mem_of_getElem? hr,hb⟩
theorem beq_any{m:List Nat}{i:Nat}:m.any (Nat.beq i)=true↔i∈m:=by
  rw[List.any_eq_true]
  constructor
  · rintro⟨x,hx,h⟩;rw[Nat.eq_of_beq_eq_true h];exact hx
  intro h;exact⟨i,h,Nat.beq_refl i⟩
theorem zD0(m:List Nat):∀ (L:List Res) (i:Nat),∃ k:Nat→Nat,(∀ a b:Nat,a<(yp m i L).length→b<(yp m i L).length→k a=k b→a=b)∧
    ∀ (j:Nat) (r:Res),(yp m i L)[j]?=some r→L[k j]?=some r∧i+k j∉m
  | [],i=>⟨id,by simp[yp],by simp[yp]⟩
  |r::L,i=>by
    obtain⟨k,h1,h2⟩:=zD0 m L (i+1)
    unfold yp
    cases hc:m.any (Nat.beq i)with
    |true=>
      refine⟨fun j=>k j+1,fun a b ha hb e=>h1 a b ha hb (by have e':k a+1=k b+1:=e;omega),fun j s hs=> ?_⟩
      obtain⟨h3,h4⟩:=h2 j s hs
      exact⟨by simpa using h3,by rw[show i+(k j+1)=i+1+k j by omega];exact h4⟩
    |false=>
      refine⟨fun j=>match j with|0=>0|j+1=>k j+1,?_,?_⟩
      · intro a b ha hb e
        match a,b with
        |0,0=>rfl
        |0,b+1=>simp at e
        |a+1,0=>simp at e
        |a+1,b+1=>
          simp at ha hb e
          rw[h1 a b ha hb e]
      intro j s hs
      match j with
      |0=>
        simp at hs
        refine⟨by simpa using hs,fun hm=> ?_⟩
        rw[beq_any.2 (by simpa using hm)]at hc;cases hc
      |j+1=>
        simp at hs
        obtain⟨h3,h4⟩:=h2 j s hs
        exact⟨by simpa using h3,by show i+(k j+1)∉m;rw[show i+(k j+1)=i+1+k j by omega];exact h4⟩
section
variable {w0 w w':World} {S:List Nat} {L Lin Lout:List Res}
theorem Own.give(m:List Nat)(hm:m.mapM (fun i=>L[i]?)=some Lin)(hn:m.Nodup)(h:Own w0 S L w):Own w (y1 Lin) Lin w:=by
  have h':=h.sel m hm hn
  exact⟨Keep.refl _ _,h'.apart,h'.holds,fun i r hr b hb=> .inl (mem_fps.2 ⟨i,r,hr,hb⟩)⟩
theorem Own.fpsFresh(m:List Nat)(hm:m.mapM (fun i=>L[i]?)=some Lin)(h:Own w0 S L w):∀ b∈y1 Lin,b∈S∨w0.heap.size≤b:=by
  intro b hb
  obtain⟨i,r,hr,hb⟩:=mem_fps.1 hb
  obtain⟨k,_,hk⟩:=zCv hm i r hr
  exact h.fresh k r hk b hb
theorem Own.qh(m:List Nat)(hm:m.mapM (fun i=>L[i]?)=some Lin)(h:Own w0 S L w)(hg:Own w (y1 Lin) Lout w'):Own w0 S (yp m 0 L++Lout) w':=by
  obtain⟨k,hinj,hk⟩:=zD0 m L 0
  have hk':∀ (j:Nat) (r:Res),(yp m 0 L)[j]?=some r→L[k j]?=some r∧k j∉m:=fun j r hr=>by simpa using hk j r hr
  have hfr:=h.fpsFresh m hm
  -- the rest's blocks are none of those that are qB
  have hold:∀ (j:Nat) (r:Res),(yp m 0 L)[j]?=some r→∀ b∈r.fp,b<w.heap.size∧b∉y1 Lin:=by
    intro j r hr b hb
    obtain⟨h1,h2⟩:=hk' j r hr
    refine⟨h.lt h1 b hb,fun hb'=> ?_⟩
    obtain⟨i,s,hs,hb'⟩:=mem_fps.1 hb'
    obtain⟨q,hq,hqs⟩:=zCv hm i s hs
    exact h.apart (k j) q r s (fun e=>h2 (e▸List.mem_of_getElem? hq)) h1 hqs b hb hb'
  have hnew:∀ (j:Nat) (s:Res),Lout[j]?=some s→∀ b∈s.fp,b∈y1 Lin∨w.heap.size≤b:=hg.fresh
  refine⟨⟨hg.keep.os.trans h.keep.os,hg.keep.tape.trans h.keep.tape,hg.keep.output.trans h.keep.output,Nat.le_trans h.keep.size hg.keep.size,fun b hb hS=> ?_⟩,?_,?_,?_⟩
  · rw[hg.keep.block b (Nat.lt_of_lt_of_le hb h.keep.size) (fun hm'=> ?_)]
    · exact h.keep.block b hb hS
    rcases hfr b hm' with h1|h1
    · exact hS h1
    omega
  · intro i j r s hij hr hs b hb hb'
    rw[List.getElem?_append]at hr hs
    split at hr<;>split at hs
    · rename_i hi hj
      exact h.apart (k i) (k j) r s (fun e=>hij (hinj i j hi hj e)) (hk' i r hr).1 (hk' j s hs).1 b hb hb'
    · have h1:=hold _ _ hr b hb
      rcases hnew _ _ hs b hb' with h2|h2
      · exact h1.2 h2
      omega
    · have h1:=hold _ _ hs b hb'
      rcases hnew _ _ hr b hb with h2|h2
      · exact h1.2 h2
      omega
    exact hg.apart _ _ r s V hr hs b hb hb'
  · intro i r hr
    rw[List.getElem?_append]at hr
    split at hr
    · exact r.st w w' (h.holds _ r (hk' i r hr).1) fun b hb=>hg.keep.block b (hold _ _ hr b hb).1 (hold _ _ hr b hb).2
    exact hg.holds _ r hr
  intro i r hr b hb
  rw[List.getElem?_append]at hr
  split at hr
  · exact h.fresh _ r (hk' i r hr).1 b hb
  rcases hnew _ _ hr b hb with h1|h1
  · exact hfr b h1
  have:=h.keep.size;right;omega
structure Rd(w:World)(S:List Nat)(r:Res):Prop where
  φ:r.φ w
  far:∀ b∈r.fp,b∉S
theorem Rd.sub{r r':Res}(h:Rd w S r)(hφ:r.φ w→r'.φ w)(hf:∀ b∈r'.fp,b∈r.fp):Rd w S r':=⟨hφ h.φ,fun b hb=>h.far b (hf b hb)⟩
theorem Rd.of{r:Res}(h:r.φ w):Rd w [] r:=⟨h,by simp⟩
theorem Own.rd{r:Res}(hr:Rd w0 S r)(h:Own w0 S L w):r.φ w:=h.old r hr.φ hr.far
theorem Own.rdTo{r:Res}(hr:Rd w0 S r)(m:List Nat)(hm:m.mapM (fun i=>L[i]?)=some Lin)(h:Own w0 S L w):Rd w (y1 Lin) r:=by
  refine⟨h.old r hr.φ hr.far,fun b hb hb'=> ?_⟩
  rcases h.fpsFresh m hm b hb' with h1|h1
  · exact hr.far b hb h1
  have:=r.lt w0 hr.φ b hb;omega
theorem Own.rdRes{r:Res}(j:Nat)(hL:L[j]?=some r)(m:List Nat)(hm:m.mapM (fun i=>L[i]?)=some Lin)(hj:m.any (Nat.beq j)=false)(h:Own w0 S L w):Rd w (y1 Lin) r:=by
  refine⟨h.holds j r hL,fun b hb hb'=> ?_⟩
  obtain⟨i,s,hs,hb'⟩:=mem_fps.1 hb'
  obtain⟨q,hq,hqs⟩:=zCv hm i s hs
  refine h.apart j q r s (fun e=> ?_) hL hqs b hb hb'
  rw[beq_any.2 (e▸List.mem_of_getElem? hq)]at hj;cases hj
theorem Own.rd0{r:Res}(hr:Rd w0 S r)(h:Own w0 S L w):Rd w [] r:=⟨h.rd hr,by simp⟩
theorem Own.rdRes0{r:Res}(j:Nat)(hL:L[j]?=some r)(h:Own w0 S L w):Rd w [] r:=⟨h.holds j r hL,by simp⟩
end
def kL:Value→Nat
  | .slice (some a) _ _=>a.block
  |_=>0
def xH:Value→Nat
  | .slice (some a) _ _=>a.off
  |_=>0
def y3(v:Value)(l h sz:Nat):Value:=match v with
  | .slice a _ cap=>kO a cap l h cap sz
  |v=>v
theorem Sl.at_{w:World}{v:Value}{n:Nat}{cs:List Value}(h:Sl w v n cs){i:Nat}{u:Value}(hu:cs[i]?=some u):w.cell? ⟨kL v,xH v+i,none⟩=some u:=by
  rcases h with⟨a,rfl,_,rfl⟩|⟨b,off,cap,rfl,_,_,_,h4⟩
  · simp at hu
  exact h4 i u hu
theorem Sl.subV{w:World}{v:Value}{n:Nat}{cs:List Value}(hs:Sl w v n cs){l h sz:Nat}(h1:l≤h)(hn:h≤n)(hlen:cs.length=n*sz):Sl w (y3 v l h sz) (h - l) ((cs.drop (l*sz)).take ((h - l)*sz)):=by
  obtain⟨a,cap,rfl,hc, -, -⟩:=hs.shape
  exact hs.sub h1 V (Nat.le_refl _) hn hlen
theorem jo{w:World}{v:Value}{n:Nat}{cs:List Value}(hs:Sl w v n cs)(l h sz:Nat):∀ b∈zBO (y3 v l h sz),b∈zBO v:=by
  obtain⟨a,cap,rfl,hc, -, -⟩:=hs.shape
  exact zJw a n cap l h cap sz (Nat.le_refl _)
theorem Rd.subV{w:World}{S:List Nat}{v:Value}{n:Nat}{cs:List Value}(hs:Rd w S (Res.sl v n cs)){l h sz:Nat}(h1:l≤h)(hn:h≤n)(hlen:cs.length=n*sz):Rd w S (Res.sl (y3 v l h sz) (h - l) ((cs.drop (l*sz)).take ((h - l)*sz))):=
  hs.sub (fun h'=>Sl.subV h' h1 hn hlen) (jo hs.φ l h sz)
section
variable {P:Program} {n:Nat} {ops:Array Oper} {N R:K} {X:List (Nat×K)} {f:Nat→Value} {A:World→Prop} {rest:List Oper}
variable {d:Nat} {ty:TypeId} {p:String} {af:Array Edge} {x y:Operand} {t:TypeId} {sz:Nat}
variable {w0:World} {S:List Nat} {L:List Res} {v:Value} {len:Nat} {cs:List Value}
theorem zMt(ht:kd P t=true)(hx:ev f x=v)(hs:∀ w,A w→Sl w v len cs):RV P f ⟨some d, .call ⟨.builtin .len,#[x],#[t]⟩,ty,p,af,none⟩ A (.int .i64 len):=by
  intro w hw
  obtain⟨a,cap,rfl, -⟩:=(hs w hw).shape
  exact zRA (A:=A) ht hx w hw
theorem zL1{k:IntKind}{i:Int}{j:Nat}(hx:ev f x=v)(hy:ev f y= .int k i)(ht:zBh P t=some sz)(hs:∀ w,A w→Sl w v len cs)(hi:i=j)(hj:j<len):RV P f ⟨some d, .indexAddr t x y,ty,p,af,none⟩ A (.pointer (some ⟨kL v,xH v+j*sz,none⟩)):=by
  intro w hw
  obtain⟨a,cap,rfl,h1,h2,h3⟩:=(hs w hw).shape
  obtain⟨b,off,rfl⟩:=h3 V
  exact zQw (A:=A) hx hy ht hi hj w hw
theorem zMI{l h:Nat}{lo hi:Option Operand}(ht:zBh P t=some sz)(hx:ev f x=v)(hs:∀ w,A w→Sl w v len cs)(hl:bnd f 0 lo l)(hh:bnd f len hi h)(h1:l≤h)(h2:h≤len):RV P f ⟨some d, .slice t x lo hi none,ty,p,af,none⟩ A (y3 v l h sz):=by
  intro w hw
  obtain⟨a,cap,rfl,h3, -⟩:=(hs w hw).shape
  exact zQY (A:=A) ht hx hl hh h1 V w hw
theorem zPx{l h:Nat}{lo hi:Option Operand}(ht:zBh P t=some sz)(hx:ev f x=v)(hs:∀ w,A w→Sl w v len cs)(hl:bnd f 0 lo l)(hh:bnd f len hi h)(h1:l≤h)(h2:h≤len)(hd:Nat.blt d n=true)
    (k:CL P n ops rest N (upd f d (y3 v l h sz)) A):CL P n ops (⟨some d, .slice t x lo hi none,ty,p,af,none⟩::rest) N f A:=yX hd (zMI ht hx hs hl hh h1 h2) k
theorem zOZ(i:Nat){off:Nat}{u:Value}(hx:ev f x= .pointer (some ⟨kL v,off,none⟩))(ho:off=xH v+i)(hs:∀ w,A w→Sl w v len cs)(hu:cs[i]?=some u)(ht:one P t=true):RV P f ⟨some d, .load t x,ty,p,af,none⟩ A u:=
  zHL hx ht (fun w hw=>by subst ho;exact(hs w hw).at_ hu)
theorem zOl(i:Nat){off:Nat}(us:List Value)(hx:ev f x= .pointer (some ⟨kL v,off,none⟩))(ho:off=xH v+i)(hs:∀ w,A w→Sl w v len cs)(hu:∀ k u,us[k]?=some u→cs[i+k]?=some u)(ht:jm P t=some us.length):RV P f ⟨some d, .load t x,ty,p,af,none⟩ A (.agg us.toArray):=
  zLL hx ht (fun w hw k u hk=>by subst ho;rw[Nat.add_assoc];exact(hs w hw).at_ (hu k u hk))
theorem zE9(i:Nat){b off:Nat}{e:TypeId}{cs:List Value}(us:List Value)(hx:ev f x= .pointer (some ⟨b,off,none⟩))(hL:L[i]?=some (Res.row b e cs))(hv:∀ k u,us[k]?=some u→cs[off+k]?=some u)(ht:jm P t=some us.length):RV P f ⟨some d, .load t x,ty,p,af,none⟩ (Own w0 S L) (.agg us.toArray):=
  zLL hx ht (fun w hw k u hk=>hw.rowCell hL (hv k u hk))
theorem zAZ(i:Nat){b off:Nat}{e:TypeId}{cs:List Value}(us:List Value)(hx:ev f x= .pointer (some ⟨b,off,none⟩))(hL:L[i]?=some (Res.row b e cs))(hv:∀ k u,us[k]?=some u→cs[off+k]?=some u)(ht:jm P t=some us.length)(hd:Nat.blt d n=true)
    (k:CL P n ops rest N (upd f d (.agg us.toArray)) (Own w0 S L)):CL P n ops (⟨some d, .load t x,ty,p,af,none⟩::rest) N f (Own w0 S L):=yX hd (zE9 i us hx hL hv ht) k
theorem ze(m:List Nat){L':List Res}(hmm:m.mapM (fun i=>L[i]?)=some L')(hn:m.Nodup){id:Nat}{l:List Oper}(hm:P.follows .mixedOrders=true)
    (h:∀ w,Own w0 S L w→Own w0 S L' w→HL P n l.toArray (Own w0 S L') N l.length (Array.replicate l.length false) f w):C P n (.region id l.toArray true) N R X f (Own w0 S L):=
  zLd (Own w0 S L') hm (fun w hw=>(hw.sel m hmm hn).drawn) (fun w hw=>h _ hw.drawn (hw.sel m hmm hn).drawn)
theorem zNq{c a b:Operand}(hc:ev f c= .bool true)(hd:Nat.blt d n=true)(k:CL P n ops rest N (upd f d (ev f a)) A):CL P n ops (⟨some d, .pick c a b,ty,p,af,none⟩::rest) N f A:=zMM hc hd k
theorem j8{c a b:Operand}(hc:ev f c= .bool false)(hd:Nat.blt d n=true)(k:CL P n ops rest N (upd f d (ev f b)) A):CL P n ops (⟨some d, .pick c a b,ty,p,af,none⟩::rest) N f A:=zMM hc hd k
theorem yf{c a b:Operand}(hc:ev f c= .bool true):RV P f ⟨some d, .pick c a b,ty,p,af,none⟩ A (ev f a):=zLt hc
theorem yM{c a b:Operand}(hc:ev f c= .bool false):RV P f ⟨some d, .pick c a b,ty,p,af,none⟩ A (ev f b):=zLt hc
end
theorem zIH{α:Type}{g:α→List Value}{sz:Nat}(hg:∀ x,(g x).length=sz){l:List α}{j:Nat}{x:α}(hj:l[j]?=some x){i:Nat}{u:Value}(hu:(g x)[i]?=some u):(l.flatMap g)[j*sz+i]?=some u:=by
  rw[zBW hg l j i x hj (by rw[←hg x];exact(List.getElem?_eq_some_iff.1 hu).1)];exact hu
theorem zL3{α:Type}{g:α→List Value}{sz:Nat}(hg:∀ x,(g x).length=sz){l:List α}{j:Nat}{x:α}(hj:l[j]?=some x){o:Nat}{us:List Value}(hu:∀ k u,us[k]?=some u→(g x)[o+k]?=some u):∀ k u,us[k]?=some u→(l.flatMap g)[j*sz+o+k]?=some u:=by
  intro k u hk
  rw[Nat.add_assoc]
  exact zIH hg hj (hu k u hk)
end Go.Sc
