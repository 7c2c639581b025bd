import Derived.Test.YtkkeknmkipkbmaaGreatBytes
import Derived.Test.YtkkeknmkipkbmaaGreatProg
set_option linter.unusedSectionVars false
set_option linter.unusedSimpArgs false
set_option linter.unusedVariables false
set_option maxRecDepth 10000
namespace Go.Proofs.YtkkeknmkipkbmaaGreat
open Go Go.Sc Go.Proofs
theorem _root_.Go.Sc.qN{p:Prop}(h:p:=by kernel_rfl):p:=h
theorem zC9(n:Nat)(hn:n<18446744073709551616)(w:World):
    Rets Tryz.prog 188 #[.int .u64 n] w fun v w'=>v= .int .i64 (z9 n)∧Own w [] [] w':=by
  refine xz (args:=[.int .u64 n]) Tryz.func188 O Tryz.ntmps188 O (Own.start w) ?_
  refine zB ?_
  refine zI O ?_
  refine zA ?_
  refine zAE (Nat×Nat) (fun s=>[(0, .int .u64 s.1),(2, .int .i64 s.2)]) (fun s=>z9 n=z9 s.1+s.2∧s.1<4294967296∧s.2≤32) (fun _=>[]) ?_ (fun s g ⟨h1,h2,h3⟩=> ?_)
  · refine zB ?_
    refine zD O ?_
    refine kM O O O ?_
    refine zA ?_
    refine zY O (fun c1=> ?_) (fun c1=> ?_)
    · refine zB ?_
      refine zD O ?_
      refine zHi (c:=((n / 4294967296:Nat):Int)) O O V (by show(n:Int).fdiv 4294967296=_;rw[Int.fdiv_eq_ediv_of_nonneg _ V];omega) O ?_
      refine zI O ?_
      refine zA ?_
      refine zS ?_
      refine zI O ?_
      have hb:z9 n=z9 (n / 4294967296)+32:=jx (k:=32) V
      exact zd (fun w hw=>⟨(n / 4294967296,0+32),⟨O,O,trivial⟩,⟨by show z9 n=z9 (n / 4294967296)+(0+32);omega,by omega,by omega⟩,hw⟩)
    exact yc (fun w hw=>⟨(n,0),⟨rfl,rfl,trivial⟩,⟨by show z9 n=z9 n+0;omega,by omega,by omega⟩,hw⟩)
  refine zAE (Nat×Nat) (fun s=>[(0, .int .u64 s.1),(2, .int .i64 s.2)]) (fun s=>z9 n=z9 s.1+s.2∧s.1<65536∧s.2≤48) (fun _=>[]) ?_ (fun s g ⟨h1,h2,h3⟩=> ?_)
  · refine zB ?_
    refine zD O ?_
    refine kM O O O ?_
    refine zA ?_
    refine zY O (fun c1=> ?_) (fun c1=> ?_)
    · refine zB ?_
      refine zD O ?_
      refine zHi (c:=((s.1 / 65536:Nat):Int)) O O V (by show(s.1:Int).fdiv 65536=_;rw[Int.fdiv_eq_ediv_of_nonneg _ V];omega) O ?_
      refine zI O ?_
      refine zA ?_
      refine zS ?_
      refine zD O ?_
      refine zp (c:=((s.2+16:Nat):Int)) O O (by rw[zq V];omega) O ?_
      refine zI O ?_
      have hb:z9 s.1=z9 (s.1 / 65536)+16:=jx (k:=16) V
      exact zd (fun w hw=>⟨(s.1 / 65536,s.2+16),⟨O,O,trivial⟩,⟨by show z9 n=z9 (s.1 / 65536)+(s.2+16);omega,by omega,by omega⟩,hw⟩)
    exact yc (fun w hw=>⟨(s.1,s.2),⟨rfl,rfl,trivial⟩,⟨by show z9 n=z9 s.1+s.2;omega,by omega,by omega⟩,hw⟩)
  refine zAE (Nat×Nat) (fun s=>[(0, .int .u64 s.1),(2, .int .i64 s.2)]) (fun s=>z9 n=z9 s.1+s.2∧s.1<256∧s.2≤56) (fun _=>[]) ?_ (fun s g ⟨h1,h2,h3⟩=> ?_)
  · refine zB ?_
    refine zD O ?_
    refine kM O O O ?_
    refine zA ?_
    refine zY O (fun c1=> ?_) (fun c1=> ?_)
    · refine zB ?_
      refine zD O ?_
      refine zHi (c:=((s.1 / 256:Nat):Int)) O O V (by show(s.1:Int).fdiv 256=_;rw[Int.fdiv_eq_ediv_of_nonneg _ V];omega) O ?_
      refine zI O ?_
      refine zA ?_
      refine zS ?_
      refine zD O ?_
      refine zp (c:=((s.2+8:Nat):Int)) O O (by rw[zq V];omega) O ?_
      refine zI O ?_
      have hb:z9 s.1=z9 (s.1 / 256)+8:=jx (k:=8) V
      exact zd (fun w hw=>⟨(s.1 / 256,s.2+8),⟨O,O,trivial⟩,⟨by show z9 n=z9 (s.1 / 256)+(s.2+8);omega,by omega,by omega⟩,hw⟩)
    exact yc (fun w hw=>⟨(s.1,s.2),⟨rfl,rfl,trivial⟩,⟨by show z9 n=z9 s.1+s.2;omega,by omega,by omega⟩,hw⟩)
  refine zB ?_
  refine zD O ?_
  refine zD O ?_
  refine xo O O (zPF V) O ?_ qN
  have hl:s.1<(ByteArray.mk lenTabL.toArray).size:=by rw[show(ByteArray.mk lenTabL.toArray).size=256 by kernel_rfl];exact h2
  refine zQk (s:=⟨lenTabL.toArray⟩) qN qN O O hl O ?_
  have ht:((ByteArray.mk lenTabL.toArray)[s.1]).toNat=z9 s.1:=by
    have:=zJT ⟨s.1,h2⟩
    rw[List.getElem?_eq_getElem (show s.1<lenTabL.length from h2)]at this
    exact Option.some.inj this
  have hle:=kj (n:=s.1) (k:=8) h2
  refine xo (c:=(z9 s.1:Int)) qN O (by rw[ht];exact zq V) O ?_ qN
  refine zp (c:=(z9 n:Int)) O O (by rw[zq V,h1];omega) O ?_
  refine zI O ?_
  refine zA ?_
  exact zV (z6 O O (fun w hw=>⟨O,hw⟩))
abbrev T8:Nat:=5
def BSl(w:World)(v:Value)(bs:List UInt8):Prop:=Sl w v bs.length (bs.map vb)
def zD0(v:Value)(bs:List UInt8):Res:=Res.vec T8 1 v bs.length (bs.map vb)
theorem zMs:slT Tryz.prog 36=some (T8,1,1):=by kernel_rfl
theorem _root_.Go.Sc.qM{p:Prop}(h:p:=by decide):p:=h
theorem zGq(v:Value)(bs:List UInt8)(w:World)(hv:BSl w v bs)(hb:bs.length≤1099511627776):
    Rets Tryz.prog 40 #[v] w fun v' w'=>Own w [] [zD0 v' bs] w':=by
  have hs:=hv
  obtain⟨a,cap,rfl,h1,h2,ha⟩:=Sl.shape hv
  cases a with
  |none=>
    have hbs:bs=[]:=by
      cases bs with
      |nil=>rfl
      |cons x xs=>obtain⟨b,off,e⟩:=ha qQ;cases e
    subst hbs
    refine xz (args:=[.slice none 0 cap]) Tryz.func40 O Tryz.ntmps40 O (Own.start w) ?_
    refine zB ?_
    refine zI O ?_
    refine zA ?_
    refine zN ?_
    refine zB ?_
    refine zD O ?_
    refine zLj qN O O O ?_
    refine zA ?_
    refine zHl O ?_
    refine zB ?_
    refine zI O ?_
    refine zA ?_
    exact zV (z6 (v:= .slice none 0 0) O O (fun w hw=>by simpa [zD0]using zl hw T8 1))
  |some a=>
    refine xz (args:=[.slice (some a) bs.length cap]) Tryz.func40 O Tryz.ntmps40 O (Own.start w) ?_
    refine zB ?_
    refine zI O ?_
    refine zA ?_
    refine zN ?_
    refine zB ?_
    refine zD O ?_
    refine zLj qN O O O ?_
    refine zA ?_
    refine xt O ?_
    refine zO ?_
    refine zB ?_
    refine zy (e:=T8) (sz:=1) (vs:=[]) qN O O qQ qM O (fun b5=> ?_)
    refine zD O ?_
    refine zFj (by':=1) (news:=bs.map vb) (m:=bs.length) 0 zMs O O O (fun w' hw=>hw.old (Res.sl _ _ _) hs qQ) qQ (zBK bs) V (by rw[xB];omega) O (fun v7=> ?_)
    refine zI O ?_
    refine zA ?_
    exact zV (z6 (v:=v7) O O (fun w hw=>by simpa [zD0]using hw))
theorem zEU(a:Option Addr)(n cap:Nat)(w:World)(hc:n≤cap):
    Rets Tryz.prog 189 #[.slice a n cap] w fun v' w'=>v'= .slice a n n∧Own w [] [] w':=by
  refine xz (args:=[.slice a n cap]) Tryz.func189 O Tryz.ntmps189 O (Own.start w) ?_
  refine zB ?_
  refine zI O ?_
  refine zA ?_
  refine zB ?_
  refine zD O ?_
  refine zD O ?_
  refine zHk qN O O ?_
  refine zD O ?_
  refine zHk qN O O ?_
  refine zOe (sz:=1) (l:=0) (h:=n) (m:=n) qN O O ⟨.i64,O⟩ ⟨.i64,O⟩ V V hc O ?_
  refine zI O ?_
  refine zA ?_
  refine zV (z6 O O (fun w hw=>⟨?_,hw⟩))
  show kH a cap 0 n n 1=_
  cases a<;>simp[kH,Addr.add]
theorem _root_.Go.Sc.qR{p:Prop}(h:p:=by simp[Value.cells]):p:=h
theorem zGN(v:Value)(bs:List UInt8)(n:Nat)(hn:n<18446744073709551616)(w:World)(hv:BSl w v bs)(hb:bs.length≤1000000000000):
    Rets Tryz.prog 145 #[v, .int .u64 n] w fun v' w'=>Own w [] [zD0 v' (bs++num n)] w':=by
  have hk:=zA5 hn
  refine xz (args:=[v, .int .u64 n]) Tryz.func145 O Tryz.ntmps145 O (Own.start w) ?_
  refine zB ?_
  refine zI O ?_
  refine zA ?_
  -- region 1 codec.go:14
  refine zB ?_
  refine zD O ?_
  refine zBx qN O O (fun w' hw=> ?_)
  refine(zC9 n hn w').mono ?_
  rintro _ w1 ⟨rfl,hO⟩
  refine O0 ?_ (by simpa using hw.qi hO)
  have hl64:=kj (n:=n) (k:=64) hn
  refine zp (c:=((z9 n+7:Nat):Int)) O O (by rw[zq V];omega) O ?_
  refine zOI (c:=(yM n:Int)) O O V (by rw[Int.tdiv_eq_ediv_of_nonneg V];unfold yM;rw[zq V];omega) O ?_
  refine zI O ?_
  refine zA ?_
  -- region 2 codec.go:15
  refine yt (fun(v6:Value)=>[(1, .int .u64 n),(5, .int .i64 (yM n:Nat)),(6,v6)]) (fun _=>True) (fun v6=>[zD0 v6 (bs++[UInt8.ofNat (yM n)])]) ?_ (fun v6 g _=> ?_)
  · refine zS ?_
    refine zD O ?_
    refine zBx qN O O (fun w' hw=> ?_)
    refine(zGq v bs w' (hw.old (Res.sl _ _ _) hv qQ) V).mono ?_
    intro v13 w1 hO
    have hO':=hw.qi hO
    rcases(hO'.holds 0 _ rfl).2 with⟨rfl,hz⟩|⟨g,cap,cur,rfl, -,hg,hcap,hmax, -, -⟩
    · have hbs:bs=[]:=List.eq_nil_of_length_eq_zero hz
      subst hbs
      refine O1 ?_ hO'
      refine zBx qN O O (fun w' hw=> ?_)
      refine(zEU none 0 0 w' V).mono ?_
      rintro _ w2 ⟨rfl,hO⟩
      refine(?_:CL _ _ _ _ _ _ (Own w [] [_])) w2 (by simpa using hw.qi hO)
      refine zD O ?_
      refine xo qN O (zPF V) O ?_ qN
      refine zy (e:=T8) (sz:=1) (vs:=[.int .u8 (yM n)]) qN O O qR qM O (fun b17=> ?_)
      refine zFj (by':=1) (m:=1) 0 zMs O O O (fun w hw=>Vec.sl (hw.holds 1 _ O)) qR (by simp[Value.cells,cell1]) qQ (by rw[xB];simp) O (fun v18=> ?_)
      refine zI O ?_
      refine zd (fun w hw=>⟨v18,⟨O,O,O,trivial⟩,trivial,?_⟩)
      have h1:=hw.one 0 rfl
      have e:vb (UInt8.ofNat (yM n))= .int .u8 (yM n):=by rw[zC4,Nat.mod_eq_of_lt V]
      simpa [zD0,Value.cells,e]using h1
    refine(?_:CL _ _ _ _ _ _ (Own w [] [zD0 (.slice (some ⟨g,0,none⟩) bs.length cap) bs])) w1 hO'
    refine zBx qN O O (fun w' hw=> ?_)
    refine(zEU _ bs.length cap w' hcap).mono ?_
    rintro _ w2 ⟨rfl,hO⟩
    have hO2:=hw.qi hO
    rw[List.append_nil]at hO2
    refine(?_:CL _ _ _ _ _ _ (Own w [] [_])) w2 hO2
    refine zD O ?_
    refine xo qN O (zPF V) O ?_ qN
    refine zy (e:=T8) (sz:=1) (vs:=[.int .u8 (yM n)]) qN O O qR qM O (fun b17=> ?_)
    refine zOO (by':=1) (m:=1) (cs:=bs.map vb) zMs O (fun w hw=> ?_) qQ O (fun w hw=>Vec.sl (hw.holds 1 _ O)) qR V V (by rw[xB];omega) O (fun v18=> ?_)
    · rcases Vec.sl (hw.holds 0 _ rfl)with⟨a1,e,e1,e2⟩|⟨b1,off1,cap1,e,k1,k2,k3,k4⟩
      · exact .inl ⟨_,by rw[e1],e1,e2⟩
      simp at e
      obtain⟨⟨rfl,rfl⟩,rfl⟩:=e
      by_cases hz:bs.length=0
      · exact .inl ⟨_,by rw[hz],hz,by simpa using hz⟩
      exact .inr ⟨_,_,_,rfl,⟨Nat.le_refl _,by omega⟩,by have:=k1.1;omega,k3,k4⟩
    refine zI O ?_
    refine zd (fun w hw=>⟨v18,⟨O,O,O,trivial⟩,trivial,?_⟩)
    have h1:=hw.one 2 rfl
    have e:vb (UInt8.ofNat (yM n))= .int .u8 (yM n):=by rw[zC4,Nat.mod_eq_of_lt V]
    simpa [zD0,Value.cells,e]using h1
  refine zN ?_
  -- region 3 codec.go:16
  refine zB ?_
  refine zD O ?_
  refine kI O O (zq V) O ?_
  refine zI O ?_
  refine zA ?_
  refine zX ?_
  refine xi (fun(v6:Value) (pre:List UInt8) (j:Nat)=>[(1, .int .u64 n),(6,v6),(7, .int .i64 ((j:Int) - 1))]) (fun _ pre j=>pre++be n j=be n (yM n)∧j≤yM n∧pre.length≤8)
    (fun v6 pre _=>[zD0 v6 (bs++UInt8.ofNat (yM n)::pre)]) (fun _ _ j=>j) (fun w hw=>⟨v6,[],yM n,⟨rfl,rfl,rfl,trivial⟩,⟨rfl,Nat.le_refl _,by simp⟩,hw⟩) (fun v6 pre j g2 hs=> ?_)
  obtain⟨h1,h2,h3⟩:=hs
  have hpl:pre.length+j=yM n:=by have:=congrArg List.length h1;simpa [zAU]using this
  refine zN ?_
  -- region 4 codec.go:16
  refine zB ?_
  refine zD O ?_
  refine kM O O O ?_
  refine zA ?_
  refine zY O (fun c1=> ?_) (fun c1=> ?_)
  · refine zO ?_
    obtain⟨j,rfl⟩:∃ i,j=i+1:=⟨j - 1,by omega⟩
    refine zN ?_
    refine zX ?_
    -- region 6 codec.go:17
    refine zS ?_
    refine zD O ?_
    refine zD O ?_
    refine zD O ?_
    refine zLu (c:=((8*j:Nat):Int)) O O (by rw[zq V];omega) O ?_
    have hfd:(n:Int).fdiv (2 ^ (min ((8*j:Nat):Int).toNat IntKind.u64.bits))=((n / 2 ^ (8*j):Nat):Int):=by
      have e1:min ((8*j:Nat):Int).toNat IntKind.u64.bits=8*j:=by simp only[IntKind.bits];omega
      have e2:(2:Int) ^ (8*j)=((2 ^ (8*j):Nat):Int):=by norm_cast
      rw[e1,e2,Int.fdiv_eq_ediv_of_nonneg _ (Int.natCast_nonneg _)]
      norm_cast
    refine zHi O O V hfd O ?_
    refine xo (c:=((n / 2 ^ (8*j)%256:Nat):Int)) qN O (by rw[wu8];norm_cast) O ?_ qN
    refine zy (e:=T8) (sz:=1) (vs:=[.int .u8 ((n / 2 ^ (8*j)%256:Nat):Int)]) qN O O qR qM O (fun b31=> ?_)
    refine zFj (by':=1) (m:=1) 0 zMs O O O (fun w hw=>Vec.sl (hw.holds 1 _ O)) qR (by simp[Value.cells,cell1]) qX (by rw[xB];simp;omega) O (fun v32=> ?_)
    refine zI O ?_
    refine zA ?_
    -- region 5 codec.go:16
    refine zS ?_
    refine zD O ?_
    refine kI (c:=(j:Int) - 1) O O (by rw[zq V];omega) O ?_
    refine zI O ?_
    refine zd (fun w hw=>⟨v32,pre++[UInt8.ofNat (n / 2 ^ (8*j))],j,⟨O,O,O,trivial⟩,⟨?_,by omega,by simp;omega⟩,?_,Nat.lt_succ_self j⟩)
    · rw[←h1];simp[be]
    have h4:=hw.one 0 rfl
    simpa [zD0,Value.cells,zC4,Nat.add_assoc]using h4
  refine yA rfl ?_
  have hj:j=0:=by omega
  subst hj
  -- region 7 codec.go:19
  refine zB ?_
  refine zD O ?_
  refine zI O ?_
  refine zA ?_
  refine zV (z6 O O (fun w hw=> ?_))
  have e:pre=be n (yM n):=by simpa [be]using h1
  subst e
  exact hw
abbrev xI:Nat:=188
def vu(n:Nat):Value:= .int .u64 n
def yH(ns:List Nat):List UInt8:=ns.flatMap num
theorem yL{ns:List Nat}(h:∀ n∈ns,n<18446744073709551616):(yH ns).length≤9*ns.length:=by
  induction ns with
  |nil=>simp[yH]
  |cons n ns ih=>
    have h1:=zKc (h n qQ)
    have h2:=ih (fun m hm=>h m (by simp[hm]))
    simp only[yH,List.flatMap_cons,List.length_append,List.length_cons]at h2 ⊢
    omega
end Go.Proofs.YtkkeknmkipkbmaaGreat
set_option linter.unusedVariables false
namespace Go.Sc
section
variable {P:Program} {n:Nat} {ops:Array Oper} {N R:K} {X:List (Nat×K)} {f:Nat→Value} {W:World→Prop} {w w0:World} {S:List Nat} {L:List Res}
variable {d:Nat} {ty t e:TypeId} {p:String} {af:Array Edge} {fuel sz by':Nat} {listed:Array Bool} {x y:Operand}
def PK(P:Program)(n:Nat)(ops:Array Oper)(W:World→Prop)(N:K)(fuel:Nat)(listed:Array Bool)(i:Nat)(f:Nat→Value)(w:World):Prop:=
  ∀ a,Rep n f a→wpOp P ops (x6 n N) i (fun a' w'=>W w'∧wpAnyH P .any ops (x6 n N) W fuel (listed.setIfInBounds i true) a' w') a w
theorem zMt{i j:Nat}(hr:Region.ready .any ops listed=[i,j])(h1:PK P n ops W N fuel listed i f w)(h2:PK P n ops W N fuel listed j f w):HL P n ops W N (fuel+1) listed f w:=by
  intro a ha
  refine wpAnyH_all hr qQ fun k hk=> ?_
  simp at hk
  rcases hk with rfl|rfl
  · exact h1 a ha
  exact h2 a ha
end
theorem zFx{α:Type}(g:α→Value):∀ l:List α,l.map g=l.flatMap (fun x=>[g x])
  | []=>rfl
  |a::l=>by simp[zFx g l]
theorem xZ(b:Bool):Value.bool b= .bool (decide (b=true)):=by cases b<;>rfl
def y2(L:List Res):List Nat:=L.flatMap (·.fp)
def yi(m:List Nat):Nat→List Res→List Res
  |_,[]=>[]
  |i,r::L=>bif m.any (Nat.beq i)then yi m (i+1) L else r::yi m (i+1) L
theorem mem_fps{L:List Res}{b:Nat}:b∈y2 L↔∃ (i:Nat) (r:Res),L[i]?=some r∧b∈r.fp:=by
  unfold y2
  rw[List.mem_flatMap]
  constructor
  · rintro⟨r,hr,hb⟩
    obtain⟨i,hi,rfl⟩:=List.mem_iff_getElem.1 hr
    exact⟨i,_,List.getElem?_eq_getElem hi,hb⟩
  rintro⟨i,r,hr,hb⟩
  exact⟨r,List.mem_of_getElem? hr,hb⟩
theorem beq_any{m:List Nat}{i:Nat}:m.any (Nat.beq i)=true↔i∈m:=by
  rw[List.any_eq_true]
  constructor
  · rintro⟨x,hx,h⟩;rw[Nat.eq_of_beq_eq_true h];exact hx
  intro h;exact⟨i,h,Nat.beq_refl i⟩
theorem zDP(m:List Nat):∀ (L:List Res) (i:Nat),∃ k:Nat→Nat,(∀ a b:Nat,a<(yi m i L).length→b<(yi m i L).length→k a=k b→a=b)∧
    ∀ (j:Nat) (r:Res),(yi m i L)[j]?=some r→L[k j]?=some r∧i+k j∉m
  | [],i=>⟨id,by simp[yi],by simp[yi]⟩
  |r::L,i=>by
    obtain⟨k,h1,h2⟩:=zDP m L (i+1)
    unfold yi
    cases hc:m.any (Nat.beq i)with
    |true=>
      refine⟨fun j=>k j+1,fun a b ha hb e=>h1 a b ha hb (by have e':k a+1=k b+1:=e;omega),fun j s hs=> ?_⟩
      obtain⟨h3,h4⟩:=h2 j s hs
      exact⟨by simpa using h3,by rw[show i+(k j+1)=i+1+k j by omega];exact h4⟩
    |false=>
      refine⟨fun j=>match j with|0=>0|j+1=>k j+1,?_,?_⟩
      · intro a b ha hb e
        match a,b with
        |0,0=>rfl
        |0,b+1=>simp at e
        |a+1,0=>simp at e
        |a+1,b+1=>
          simp at ha hb e
          rw[h1 a b ha hb e]
      intro j s hs
      match j with
      |0=>
        simp at hs
        refine⟨by simpa using hs,fun hm=> ?_⟩
        rw[beq_any.2 (by simpa using hm)]at hc;cases hc
      |j+1=>
        simp at hs
        obtain⟨h3,h4⟩:=h2 j s hs
        exact⟨by simpa using h3,by show i+(k j+1)∉m;rw[show i+(k j+1)=i+1+k j by omega];exact h4⟩
section
variable {w0 w w':World} {S:List Nat} {L Lin Lout:List Res}
theorem Own.give(m:List Nat)(hm:m.mapM (fun i=>L[i]?)=some Lin)(hn:m.Nodup)(h:Own w0 S L w):Own w (y2 Lin) Lin w:=by
  have h':=h.sel m hm hn
  exact⟨Keep.refl _ _,h'.apart,h'.holds,fun i r hr b hb=> .inl (mem_fps.2 ⟨i,r,hr,hb⟩)⟩
theorem Own.fpsFresh(m:List Nat)(hm:m.mapM (fun i=>L[i]?)=some Lin)(h:Own w0 S L w):∀ b∈y2 Lin,b∈S∨w0.heap.size≤b:=by
  intro b hb
  obtain⟨i,r,hr,hb⟩:=mem_fps.1 hb
  obtain⟨k,_,hk⟩:=zCb hm i r hr
  exact h.fresh k r hk b hb
theorem Own.qg(m:List Nat)(hm:m.mapM (fun i=>L[i]?)=some Lin)(h:Own w0 S L w)(hg:Own w (y2 Lin) Lout w'):Own w0 S (yi m 0 L++Lout) w':=by
  obtain⟨k,hinj,hk⟩:=zDP m L 0
  have hk':∀ (j:Nat) (r:Res),(yi m 0 L)[j]?=some r→L[k j]?=some r∧k j∉m:=fun j r hr=>by simpa using hk j r hr
  have hfr:=h.fpsFresh m hm
  -- the rest's blocks are none of those that are qC
  have hold:∀ (j:Nat) (r:Res),(yi m 0 L)[j]?=some r→∀ b∈r.fp,b<w.heap.size∧b∉y2 Lin:=by
    intro j r hr b hb
    obtain⟨h1,h2⟩:=hk' j r hr
    refine⟨h.lt h1 b hb,fun hb'=> ?_⟩
    obtain⟨i,s,hs,hb'⟩:=mem_fps.1 hb'
    obtain⟨q,hq,hqs⟩:=zCb hm i s hs
    exact h.apart (k j) q r s (fun e=>h2 (e▸List.mem_of_getElem? hq)) h1 hqs b hb hb'
  have hnew:∀ (j:Nat) (s:Res),Lout[j]?=some s→∀ b∈s.fp,b∈y2 Lin∨w.heap.size≤b:=hg.fresh
  refine⟨⟨hg.keep.os.trans h.keep.os,hg.keep.tape.trans h.keep.tape,hg.keep.output.trans h.keep.output,Nat.le_trans h.keep.size hg.keep.size,fun b hb hS=> ?_⟩,?_,?_,?_⟩
  · rw[hg.keep.block b (Nat.lt_of_lt_of_le hb h.keep.size) (fun hm'=> ?_)]
    · exact h.keep.block b hb hS
    rcases hfr b hm' with h1|h1
    · exact hS h1
    omega
  · intro i j r s hij hr hs b hb hb'
    rw[List.getElem?_append]at hr hs
    split at hr<;>split at hs
    · rename_i hi hj
      exact h.apart (k i) (k j) r s (fun e=>hij (hinj i j hi hj e)) (hk' i r hr).1 (hk' j s hs).1 b hb hb'
    · have h1:=hold _ _ hr b hb
      rcases hnew _ _ hs b hb' with h2|h2
      · exact h1.2 h2
      omega
    · have h1:=hold _ _ hs b hb'
      rcases hnew _ _ hr b hb with h2|h2
      · exact h1.2 h2
      omega
    exact hg.apart _ _ r s V hr hs b hb hb'
  · intro i r hr
    rw[List.getElem?_append]at hr
    split at hr
    · exact r.st w w' (h.holds _ r (hk' i r hr).1) fun b hb=>hg.keep.block b (hold _ _ hr b hb).1 (hold _ _ hr b hb).2
    exact hg.holds _ r hr
  intro i r hr b hb
  rw[List.getElem?_append]at hr
  split at hr
  · exact h.fresh _ r (hk' i r hr).1 b hb
  rcases hnew _ _ hr b hb with h1|h1
  · exact hfr b h1
  have:=h.keep.size;right;omega
structure Rd(w:World)(S:List Nat)(r:Res):Prop where
  φ:r.φ w
  far:∀ b∈r.fp,b∉S
theorem Rd.sub{r r':Res}(h:Rd w S r)(hφ:r.φ w→r'.φ w)(hf:∀ b∈r'.fp,b∈r.fp):Rd w S r':=⟨hφ h.φ,fun b hb=>h.far b (hf b hb)⟩
theorem Rd.of{r:Res}(h:r.φ w):Rd w [] r:=⟨h,by simp⟩
theorem Own.rd{r:Res}(hr:Rd w0 S r)(h:Own w0 S L w):r.φ w:=h.old r hr.φ hr.far
theorem Own.rdTo{r:Res}(hr:Rd w0 S r)(m:List Nat)(hm:m.mapM (fun i=>L[i]?)=some Lin)(h:Own w0 S L w):Rd w (y2 Lin) r:=by
  refine⟨h.old r hr.φ hr.far,fun b hb hb'=> ?_⟩
  rcases h.fpsFresh m hm b hb' with h1|h1
  · exact hr.far b hb h1
  have:=r.lt w0 hr.φ b hb;omega
theorem Own.rdRes{r:Res}(j:Nat)(hL:L[j]?=some r)(m:List Nat)(hm:m.mapM (fun i=>L[i]?)=some Lin)(hj:m.any (Nat.beq j)=false)(h:Own w0 S L w):Rd w (y2 Lin) r:=by
  refine⟨h.holds j r hL,fun b hb hb'=> ?_⟩
  obtain⟨i,s,hs,hb'⟩:=mem_fps.1 hb'
  obtain⟨q,hq,hqs⟩:=zCb hm i s hs
  refine h.apart j q r s (fun e=> ?_) hL hqs b hb hb'
  rw[beq_any.2 (e▸List.mem_of_getElem? hq)]at hj;cases hj
theorem Own.rd0{r:Res}(hr:Rd w0 S r)(h:Own w0 S L w):Rd w [] r:=⟨h.rd hr,by simp⟩
theorem Own.rdRes0{r:Res}(j:Nat)(hL:L[j]?=some r)(h:Own w0 S L w):Rd w [] r:=⟨h.holds j r hL,by simp⟩
end
def kC:Value→Nat
  | .slice (some a) _ _=>a.block
  |_=>0
def xE:Value→Nat
  | .slice (some a) _ _=>a.off
  |_=>0
def yy(v:Value)(l h sz:Nat):Value:=match v with
  | .slice a _ cap=>kH a cap l h cap sz
  |v=>v
theorem Sl.at_{w:World}{v:Value}{n:Nat}{cs:List Value}(h:Sl w v n cs){i:Nat}{u:Value}(hu:cs[i]?=some u):w.cell? ⟨kC v,xE v+i,none⟩=some u:=by
  rcases h with⟨a,rfl,_,rfl⟩|⟨b,off,cap,rfl,_,_,_,h4⟩
  · simp at hu
  exact h4 i u hu
theorem Sl.subV{w:World}{v:Value}{n:Nat}{cs:List Value}(hs:Sl w v n cs){l h sz:Nat}(h1:l≤h)(hn:h≤n)(hlen:cs.length=n*sz):Sl w (yy v l h sz) (h - l) ((cs.drop (l*sz)).take ((h - l)*sz)):=by
  obtain⟨a,cap,rfl,hc, -, -⟩:=hs.shape
  exact hs.sub h1 V (Nat.le_refl _) hn hlen
theorem jh{w:World}{v:Value}{n:Nat}{cs:List Value}(hs:Sl w v n cs)(l h sz:Nat):∀ b∈zA6 (yy v l h sz),b∈zA6 v:=by
  obtain⟨a,cap,rfl,hc, -, -⟩:=hs.shape
  exact zJp a n cap l h cap sz (Nat.le_refl _)
theorem Rd.subV{w:World}{S:List Nat}{v:Value}{n:Nat}{cs:List Value}(hs:Rd w S (Res.sl v n cs)){l h sz:Nat}(h1:l≤h)(hn:h≤n)(hlen:cs.length=n*sz):Rd w S (Res.sl (yy v l h sz) (h - l) ((cs.drop (l*sz)).take ((h - l)*sz))):=
  hs.sub (fun h'=>Sl.subV h' h1 hn hlen) (jh hs.φ l h sz)
section
variable {P:Program} {n:Nat} {ops:Array Oper} {N R:K} {X:List (Nat×K)} {f:Nat→Value} {A:World→Prop} {rest:List Oper}
variable {d:Nat} {ty:TypeId} {p:String} {af:Array Edge} {x y:Operand} {t:TypeId} {sz:Nat}
variable {w0:World} {S:List Nat} {L:List Res} {v:Value} {len:Nat} {cs:List Value}
theorem zKO(ht:kb P t=true)(hx:ev f x=v)(hs:∀ w,A w→Sl w v len cs):RV P f ⟨some d, .call ⟨.builtin .len,#[x],#[t]⟩,ty,p,af,none⟩ A (.int .i64 len):=by
  intro w hw
  obtain⟨a,cap,rfl, -⟩:=(hs w hw).shape
  exact zQV (A:=A) ht hx w hw
theorem zLW{k:IntKind}{i:Int}{j:Nat}(hx:ev f x=v)(hy:ev f y= .int k i)(ht:zBF P t=some sz)(hs:∀ w,A w→Sl w v len cs)(hi:i=j)(hj:j<len):RV P f ⟨some d, .indexAddr t x y,ty,p,af,none⟩ A (.pointer (some ⟨kC v,xE v+j*sz,none⟩)):=by
  intro w hw
  obtain⟨a,cap,rfl,h1,h2,h3⟩:=(hs w hw).shape
  obtain⟨b,off,rfl⟩:=h3 V
  exact zP5 (A:=A) hx hy ht hi hj w hw
theorem zKz{l h:Nat}{lo hi:Option Operand}(ht:zBF P t=some sz)(hx:ev f x=v)(hs:∀ w,A w→Sl w v len cs)(hl:bnd f 0 lo l)(hh:bnd f len hi h)(h1:l≤h)(h2:h≤len):RV P f ⟨some d, .slice t x lo hi none,ty,p,af,none⟩ A (yy v l h sz):=by
  intro w hw
  obtain⟨a,cap,rfl,h3, -⟩:=(hs w hw).shape
  exact zQG (A:=A) ht hx hl hh h1 V w hw
theorem zOy{l h:Nat}{lo hi:Option Operand}(ht:zBF P t=some sz)(hx:ev f x=v)(hs:∀ w,A w→Sl w v len cs)(hl:bnd f 0 lo l)(hh:bnd f len hi h)(h1:l≤h)(h2:h≤len)(hd:Nat.blt d n=true)
    (k:CL P n ops rest N (upd f d (yy v l h sz)) A):CL P n ops (⟨some d, .slice t x lo hi none,ty,p,af,none⟩::rest) N f A:=yR hd (zKz ht hx hs hl hh h1 h2) k
theorem zN6(i:Nat){off:Nat}{u:Value}(hx:ev f x= .pointer (some ⟨kC v,off,none⟩))(ho:off=xE v+i)(hs:∀ w,A w→Sl w v len cs)(hu:cs[i]?=some u)(ht:one P t=true):RV P f ⟨some d, .load t x,ty,p,af,none⟩ A u:=
  zGx hx ht (fun w hw=>by subst ho;exact(hs w hw).at_ hu)
theorem zO7(i:Nat){off:Nat}(us:List Value)(hx:ev f x= .pointer (some ⟨kC v,off,none⟩))(ho:off=xE v+i)(hs:∀ w,A w→Sl w v len cs)(hu:∀ k u,us[k]?=some u→cs[i+k]?=some u)(ht:jZ P t=some us.length):RV P f ⟨some d, .load t x,ty,p,af,none⟩ A (.agg us.toArray):=
  zLA hx ht (fun w hw k u hk=>by subst ho;rw[Nat.add_assoc];exact(hs w hw).at_ (hu k u hk))
theorem zEj(i:Nat){b off:Nat}{e:TypeId}{cs:List Value}(us:List Value)(hx:ev f x= .pointer (some ⟨b,off,none⟩))(hL:L[i]?=some (Res.row b e cs))(hv:∀ k u,us[k]?=some u→cs[off+k]?=some u)(ht:jZ P t=some us.length):RV P f ⟨some d, .load t x,ty,p,af,none⟩ (Own w0 S L) (.agg us.toArray):=
  zLA hx ht (fun w hw k u hk=>hw.rowCell hL (hv k u hk))
theorem zAJ(i:Nat){b off:Nat}{e:TypeId}{cs:List Value}(us:List Value)(hx:ev f x= .pointer (some ⟨b,off,none⟩))(hL:L[i]?=some (Res.row b e cs))(hv:∀ k u,us[k]?=some u→cs[off+k]?=some u)(ht:jZ P t=some us.length)(hd:Nat.blt d n=true)
    (k:CL P n ops rest N (upd f d (.agg us.toArray)) (Own w0 S L)):CL P n ops (⟨some d, .load t x,ty,p,af,none⟩::rest) N f (Own w0 S L):=yR hd (zEj i us hx hL hv ht) k
theorem zg(m:List Nat){L':List Res}(hmm:m.mapM (fun i=>L[i]?)=some L')(hn:m.Nodup){id:Nat}{l:List Oper}(hm:P.follows .mixedOrders=true)
    (h:∀ w,Own w0 S L w→Own w0 S L' w→HL P n l.toArray (Own w0 S L') N l.length (Array.replicate l.length false) f w):C P n (.region id l.toArray true) N R X f (Own w0 S L):=
  zKA (Own w0 S L') hm (fun w hw=>(hw.sel m hmm hn).drawn) (fun w hw=>h _ hw.drawn (hw.sel m hmm hn).drawn)
theorem zMW{c a b:Operand}(hc:ev f c= .bool true)(hd:Nat.blt d n=true)(k:CL P n ops rest N (upd f d (ev f a)) A):CL P n ops (⟨some d, .pick c a b,ty,p,af,none⟩::rest) N f A:=zLp hc hd k
theorem js{c a b:Operand}(hc:ev f c= .bool false)(hd:Nat.blt d n=true)(k:CL P n ops rest N (upd f d (ev f b)) A):CL P n ops (⟨some d, .pick c a b,ty,p,af,none⟩::rest) N f A:=zLp hc hd k
theorem yl{c a b:Operand}(hc:ev f c= .bool true):RV P f ⟨some d, .pick c a b,ty,p,af,none⟩ A (ev f a):=zK9 hc
theorem yS{c a b:Operand}(hc:ev f c= .bool false):RV P f ⟨some d, .pick c a b,ty,p,af,none⟩ A (ev f b):=zK9 hc
end
theorem zIQ{α:Type}{g:α→List Value}{sz:Nat}(hg:∀ x,(g x).length=sz){l:List α}{j:Nat}{x:α}(hj:l[j]?=some x){i:Nat}{u:Value}(hu:(g x)[i]?=some u):(l.flatMap g)[j*sz+i]?=some u:=by
  rw[zBQ hg l j i x hj (by rw[←hg x];exact(List.getElem?_eq_some_iff.1 hu).1)];exact hu
theorem zKf{α:Type}{g:α→List Value}{sz:Nat}(hg:∀ x,(g x).length=sz){l:List α}{j:Nat}{x:α}(hj:l[j]?=some x){o:Nat}{us:List Value}(hu:∀ k u,us[k]?=some u→(g x)[o+k]?=some u):∀ k u,us[k]?=some u→(l.flatMap g)[j*sz+o+k]?=some u:=by
  intro k u hk
  rw[Nat.add_assoc]
  exact zIQ hg hj (hu k u hk)
end Go.Sc
