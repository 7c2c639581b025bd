import Derived.Test.YthpoddkmhfhboaaGreatDoorBytes
import Derived.Test.YthpoddkmhfhboaaGreatDoorProg
set_option linter.unusedSectionVars false
set_option linter.unusedSimpArgs false
set_option linter.unusedVariables false
set_option maxRecDepth 10000
namespace Go.Proofs.YthpoddkmhfhboaaGreatDoor
open Go.Sc
theorem _root_.Go.Sc.qF{p:Prop}(h:p:=by kernel_rfl):p:=h
theorem zDb(n:Nat)(i:n<18446744073709551616)(w:World):
   Rets Tryz.prog 203 #[.int .u64 n] w fun v d=>v= .int .i64 (yK n)∧Own w [] [] d:=by
 refine xi (args:=[.int .u64 n]) Tryz.func203 O Tryz.ntmps203 O (Own.start w) (zB (zF O (zA (zAE (Nat×Nat) (fun s=>[(0, .int .u64 s.1),(2, .int .i64 s.2)]) (fun s=>yK n=yK s.1+s.2∧s.1<4294967296∧s.2≤32) (fun _=>[]) ?_ (fun s g ⟨h1,h2,h3⟩=> ?_)))))
 · refine zB (zC rfl (xJ rfl rfl rfl (zA (zT rfl (fun b=> ?_) (fun b=> ?_)))))
   · refine zB (zC rfl (zCE (c:=((n / 4294967296:Nat):Int)) rfl rfl qG (by show(n:Int).fdiv 4294967296=_;rw[Int.fdiv_eq_ediv_of_nonneg _ qG];omega) rfl (zF rfl (zA (ze (zF rfl ?_))))))
     have hb:yK n=yK (n / 4294967296)+32:=jO (k:=32) qG
     exact zx (fun w a=>⟨(n / 4294967296,0+32),⟨O,O,trivial⟩,⟨by show yK n=yK (n / 4294967296)+(0+32);omega,by omega,by omega⟩,a⟩)
   exact x4 (fun w a=>⟨(n,0),⟨rfl,rfl,trivial⟩,⟨by show yK n=yK n+0;omega,by omega,by omega⟩,a⟩)
 refine zAE (Nat×Nat) (fun s=>[(0, .int .u64 s.1),(2, .int .i64 s.2)]) (fun s=>yK n=yK s.1+s.2∧s.1<65536∧s.2≤48) (fun _=>[]) ?_ (fun s g ⟨h1,h2,h3⟩=> ?_)
 · refine zB (zC rfl (xJ rfl rfl rfl (zA (zT rfl (fun b=> ?_) (fun b=> ?_)))))
   · refine zB (zC rfl (zCE (c:=((s.1 / 65536:Nat):Int)) rfl rfl qG (by show(s.1:Int).fdiv 65536=_;rw[Int.fdiv_eq_ediv_of_nonneg _ qG];omega) rfl (zF rfl (zA (ze (zC rfl (zr (c:=((s.2+16:Nat):Int)) rfl rfl (by rw[zt qG];omega) rfl (zF rfl ?_))))))))
     have hb:yK s.1=yK (s.1 / 65536)+16:=jO (k:=16) qG
     exact zx (fun w a=>⟨(s.1 / 65536,s.2+16),⟨O,O,trivial⟩,⟨by show yK n=yK (s.1 / 65536)+(s.2+16);omega,by omega,by omega⟩,a⟩)
   exact x4 (fun w a=>⟨(s.1,s.2),⟨rfl,rfl,trivial⟩,⟨by show yK n=yK s.1+s.2;omega,by omega,by omega⟩,a⟩)
 refine zAE (Nat×Nat) (fun s=>[(0, .int .u64 s.1),(2, .int .i64 s.2)]) (fun s=>yK n=yK s.1+s.2∧s.1<256∧s.2≤56) (fun _=>[]) ?_ (fun s g ⟨h1,h2,h3⟩=> ?_)
 · refine zB (zC rfl (xJ rfl rfl rfl (zA (zT rfl (fun b=> ?_) (fun b=> ?_)))))
   · refine zB (zC rfl (zCE (c:=((s.1 / 256:Nat):Int)) rfl rfl qG (by show(s.1:Int).fdiv 256=_;rw[Int.fdiv_eq_ediv_of_nonneg _ qG];omega) rfl (zF rfl (zA (ze (zC rfl (zr (c:=((s.2+8:Nat):Int)) rfl rfl (by rw[zt qG];omega) rfl (zF rfl ?_))))))))
     have hb:yK s.1=yK (s.1 / 256)+8:=jO (k:=8) qG
     exact zx (fun w a=>⟨(s.1 / 256,s.2+8),⟨O,O,trivial⟩,⟨by show yK n=yK (s.1 / 256)+(s.2+8);omega,by omega,by omega⟩,a⟩)
   exact x4 (fun w a=>⟨(s.1,s.2),⟨rfl,rfl,trivial⟩,⟨by show yK n=yK s.1+s.2;omega,by omega,by omega⟩,a⟩)
 refine zB (zC O (zC O (yh O O (zRo qG) O ?_ qF)))
 have hl:s.1<(ByteArray.mk lenTabL.toArray).size:=by rw[show(ByteArray.mk lenTabL.toArray).size=256 by kernel_rfl];exact h2
 refine zSt (s:=⟨lenTabL.toArray⟩) qF qF O O hl O ?_
 have e:((ByteArray.mk lenTabL.toArray)[s.1]).toNat=yK s.1:=by
   have:=zJU ⟨s.1,h2⟩
   rw[List.getElem?_eq_getElem (show s.1<lenTabL.length from h2)]at this
   exact Option.some.inj this
 have h:=kD (n:=s.1) (k:=8) h2
 refine yh (c:=(yK s.1:Int)) qF O (by rw[e];exact zt qG) O ?_ qF
 refine zr (c:=(yK n:Int)) O O (by rw[zt qG,h1];omega) O (zF O (zA (zP (zm O O (fun w a=>⟨O,a⟩)))))
abbrev T8:Nat:=5
def BSl(w:World)(v:Value)(bs:List UInt8):Prop:=Sl w v bs.length (bs.map vb)
def zFS(v:Value)(bs:List UInt8):Res:=Res.vec T8 1 v bs.length (bs.map vb)
theorem zOX:slT Tryz.prog 73=some (T8,1,1):=by kernel_rfl
theorem _root_.Go.Sc.V{p:Prop}(h:p:=by decide):p:=h
theorem zHM(v:Value)(bs:List UInt8)(w:World)(hv:BSl w v bs)(hb:bs.length≤1099511627776):
   Rets Tryz.prog 43 #[v] w fun h g=>Own w [] [zFS h bs] g:=by
 have i:=hv
 obtain⟨a,cap,rfl,h1,h2,j⟩:=Sl.shape hv
 cases a with
 |none=>
   have d:bs=[]:=by
     cases bs with
     |nil=>rfl
     |cons x xs=>obtain⟨b,off,e⟩:=j qJ;cases e
   subst d
   refine xi (args:=[.slice none 0 cap]) Tryz.func43 O Tryz.ntmps43 O (Own.start w) (zB (zF O (zA (zK (zB (zC O (zGw qF O O O (zA (x0 O (zB (zF O (zA (zP (zm (v:=zW) O O (fun w c=>by simpa [zFS]using zq c T8 1)))))))))))))))
 |some a=>
   refine xi (args:=[.slice (some a) bs.length cap]) Tryz.func43 O Tryz.ntmps43 O (Own.start w) (zB (zF O (zA (zK (zB (zC O (zGw qF O O O (zA (yW O (zN (zB (yH (e:=T8) (sz:=1) (vs:=[]) qF O O qJ V O (fun l=>(zC O (zGm (by':=1) (news:=bs.map vb) (m:=bs.length) 0 zOX O O O (fun g c=>c.old (Res.sl _ _ _) i qJ) qJ (zBn bs) qG (by rw[xB];omega) O (fun k=>(zF O (zA (zP (zm (v:=k) O O (fun w c=>by simpa [zFS]using c)))))))))))))))))))))
theorem zEs(a:Option Addr)(n cap:Nat)(w:World)(b:n≤cap):
   Rets Tryz.prog 438 #[.slice a n cap] w fun c d=>c= .slice a n n∧Own w [] [] d:=by
 refine xi (args:=[.slice a n cap]) Tryz.func438 O Tryz.ntmps438 O (Own.start w) (zB (zF O (zA (zB (zC O (zC O (jM qF O O (zC O (jM qF O O (zRy (sz:=1) (l:=0) (h:=n) (m:=n) qF O O ⟨.i64,O⟩ ⟨.i64,O⟩ qG qG b O (zF O (zA (zP (zm O O (fun w e=>⟨?_,e⟩)))))))))))))))
 show kS a cap 0 n n 1=_
 cases a<;>simp[kS,Addr.add]
theorem _root_.Go.Sc.qL{p:Prop}(h:p:=by simp[Value.cells]):p:=h
theorem zGD(v:Value)(bs:List UInt8)(n:Nat)(s:n<18446744073709551616)(w:World)(hv:BSl w v bs)(hb:bs.length≤1000000000000):
   Rets Tryz.prog 312 #[v, .int .u64 n] w fun v' h=>Own w [] [zFS v' (bs++xS n)] h:=by
 have hk:=zBY s
 refine xi (args:=[v, .int .u64 n]) Tryz.func312 O Tryz.ntmps312 O (Own.start w) (zB (zF O (zA ?_)))
 -- region 1 codec.go:14
 refine zB (zC O (zCR qF O O (fun h a=>((zDb n s h).mono ?_))))
 rintro _ r ⟨rfl,l⟩
 refine(?_:CL _ _ _ _ _ _ (Own w [] [])) r (by simpa using a.qb l)
 have a0:=kD (n:=n) (k:=64) s
 refine zr (c:=((yK n+7:Nat):Int)) O O (by rw[zt qG];omega) O ?_
 refine zEw (c:=(yV n:Int)) O O qG (by rw[Int.tdiv_eq_ediv_of_nonneg qG];unfold yV;rw[zt qG];omega) O (zF O (zA ?_))
 -- region 2 codec.go:15
 refine jf (fun(d:Value)=>[(1, .int .u64 n),(5, .int .i64 (yV n:Nat)),(6,d)]) (fun _=>True) (fun d=>[zFS d (bs++[UInt8.ofNat (yV n)])]) ?_ (fun d g _=> ?_)
 · refine ze (zC rfl (zCR qF rfl rfl (fun h a=>((zHM v bs h (a.old (Res.sl _ _ _) hv qJ) qG).mono ?_))))
   intro v13 r l
   have o:=a.qb l
   rcases(o.holds 0 _ rfl).2 with⟨rfl,hz⟩|⟨g,cap,cur,rfl, -,hg,hcap,hmax, -, -⟩
   · have t:bs=[]:=List.eq_nil_of_length_eq_zero hz
     subst t
     refine(?_:CL _ _ _ _ _ _ (Own w [] [_])) r o
     refine zCR qF O O (fun h a=>((zEs none 0 0 h qG).mono ?_))
     rintro _ u ⟨rfl,l⟩
     refine(?_:CL _ _ _ _ _ _ (Own w [] [_])) u (by simpa using a.qb l)
     refine zC O (yh qF O (zRo qG) O ?_ qF)
     refine yH (e:=T8) (sz:=1) (vs:=[.int .u8 (yV n)]) qF O O qL V O (fun x=> ?_)
     refine zGm (by':=1) (m:=1) 0 zOX O O O (fun w a=>Vec.sl (a.holds 1 _ O)) qL (by simp[Value.cells,cell1]) qJ (by rw[xB];simp) O (fun p=>(zF O ?_))
     refine zx (fun w a=>⟨p,⟨O,O,O,trivial⟩,trivial,?_⟩)
     have h1:=a.one 0 rfl
     have e:vb (UInt8.ofNat (yV n))= .int .u8 (yV n):=by rw[zEA,Nat.mod_eq_of_lt qG]
     simpa [zFS,Value.cells,e]using h1
   refine(?_:CL _ _ _ _ _ _ (Own w [] [_])) r o
   refine zCR qF O O (fun h a=>((zEs _ bs.length cap h hcap).mono ?_))
   rintro _ u ⟨rfl,l⟩
   have q:=a.qb l
   rw[List.append_nil]at q
   refine(?_:CL _ _ _ _ _ _ (Own w [] [_])) u q
   refine zC O (yh qF O (zRo qG) O ?_ qF)
   refine yH (e:=T8) (sz:=1) (vs:=[.int .u8 (yV n)]) qF O O qL V O (fun x=> ?_)
   refine zQL (by':=1) (m:=1) (cs:=bs.map vb) zOX O (fun w a=> ?_) qJ O (fun w a=>Vec.sl (a.holds 1 _ O)) qL qG qG (by rw[xB];omega) O (fun p=> ?_)
   · rcases Vec.sl (a.holds 0 _ rfl)with⟨a1,e,e1,e2⟩|⟨b1,a2,a3,e,k1,k2,k3,k4⟩
     · exact .inl ⟨_,by rw[e1],e1,e2⟩
     simp at e
     obtain⟨⟨rfl,rfl⟩,rfl⟩:=e
     by_cases hz:bs.length=0
     · exact .inl ⟨_,by rw[hz],hz,by simpa using hz⟩
     exact .inr ⟨_,_,_,rfl,⟨Nat.le_refl _,by omega⟩,by have:=k1.1;omega,k3,k4⟩
   refine zF O (zx (fun w a=>⟨p,⟨O,O,O,trivial⟩,trivial,?_⟩))
   have h1:=a.one 2 rfl
   have e:vb (UInt8.ofNat (yV n))= .int .u8 (yV n):=by rw[zEA,Nat.mod_eq_of_lt qG]
   simpa [zFS,Value.cells,e]using h1
 refine zK ?_
 -- region 3 codec.go:16
 refine zB (zC O (y9 O O (zt qG) O (zF O (zA (zU ?_)))))
 refine xV (fun(d:Value) (b:List UInt8) (j:Nat)=>[(1, .int .u64 n),(6,d),(7, .int .i64 ((j:Int) - 1))]) (fun _ b j=>b++be n j=be n (yV n)∧j≤yV n∧b.length≤8)
   (fun d b _=>[zFS d (bs++UInt8.ofNat (yV n)::b)]) (fun _ _ j=>j) (fun w a=>⟨d,[],yV n,⟨rfl,rfl,rfl,trivial⟩,⟨rfl,Nat.le_refl _,by simp⟩,a⟩) (fun d b j g2 hs=> ?_)
 obtain⟨h1,h2,h3⟩:=hs
 have a4:b.length+j=yV n:=by have:=congrArg List.length h1;simpa [zAv]using this
 refine zK ?_
 -- region 4 codec.go:16
 refine zB (zC O (xJ O O O (zA (zT O (fun c1=> ?_) (fun c1=> ?_)))))
 · refine zN ?_
   obtain⟨j,rfl⟩:∃ i,j=i+1:=⟨j - 1,by omega⟩
   refine zK (zU ?_)
   -- region 6 codec.go:17
   refine ze (zC O (zC O (zC O (zAU (c:=((8*j:Nat):Int)) O O (by rw[zt qG];omega) O ?_))))
   have y:(n:Int).fdiv (2 ^ (min ((8*j:Nat):Int).toNat IntKind.u64.bits))=((n / 2 ^ (8*j):Nat):Int):=by
     have e1:min ((8*j:Nat):Int).toNat IntKind.u64.bits=8*j:=by simp only[IntKind.bits];omega
     have e2:(2:Int) ^ (8*j)=((2 ^ (8*j):Nat):Int):=by norm_cast
     rw[e1,e2,Int.fdiv_eq_ediv_of_nonneg _ (Int.natCast_nonneg _)]
     norm_cast
   refine zCE O O qG y O (yh (c:=((n / 2 ^ (8*j)%256:Nat):Int)) qF O (by rw[wu8];norm_cast) O ?_ qF)
   refine yH (e:=T8) (sz:=1) (vs:=[.int .u8 ((n / 2 ^ (8*j)%256:Nat):Int)]) qF O O qL V O (fun a5=> ?_)
   refine zGm (by':=1) (m:=1) 0 zOX O O O (fun w a=>Vec.sl (a.holds 1 _ O)) qL (by simp[Value.cells,cell1]) qN (by rw[xB];simp;omega) O (fun z=>(zF O ?_))
   refine zA ?_
   -- region 5 codec.go:16
   refine ze (zC O (y9 (c:=(j:Int) - 1) O O (by rw[zt qG];omega) O (zF O ?_)))
   refine zx (fun w a=>⟨z,b++[UInt8.ofNat (n / 2 ^ (8*j))],j,⟨O,O,O,trivial⟩,⟨?_,by omega,by simp;omega⟩,?_,Nat.lt_succ_self j⟩)
   · rw[←h1];simp[be]
   have h4:=a.one 0 rfl
   simpa [zFS,Value.cells,zEA,Nat.add_assoc]using h4
 refine zw rfl ?_
 have hj:j=0:=by omega
 subst hj
 -- region 7 codec.go:19
 refine zB (zC O (zF O (zA (zP (zm O O (fun w a=> ?_))))))
 have e:b=be n (yV n):=by simpa [be]using h1
 subst e
 exact a
abbrev yy:Nat:=522
def vu(n:Nat):Value:= .int .u64 n
def yO(ns:List Nat):List UInt8:=ns.flatMap xS
theorem yS{ns:List Nat}(h:∀ n∈ns,n<18446744073709551616):(yO ns).length≤9*ns.length:=by
 induction ns with
 |nil=>simp[yO]
 |cons n ns ih=>
   have h1:=jz (h n qJ)
   have h2:=ih (fun m a=>h m (by simp[a]))
   simp only[yO,List.flatMap_cons,List.length_append,List.length_cons]at h2 ⊢
   omega
end Go.Proofs.YthpoddkmhfhboaaGreatDoor
namespace Go.Sc
section
variable {P:Program} {n:Nat} {ops:Array Oper} {N R:K} {X:List (Nat×K)} {f:Nat→Value} {W:World→Prop} {w w0:World} {S:List Nat} {L:List Res}
variable {d:Nat} {ty t e:TypeId} {p:String} {af:Array Edge} {fuel sz by':Nat} {listed:Array Bool} {x y:Operand}
def PK(P:Program)(n:Nat)(ops:Array Oper)(W:World→Prop)(N:K)(fuel:Nat)(listed:Array Bool)(i:Nat)(f:Nat→Value)(w:World):Prop:=
 ∀ a,Rep n f a→wpOp P ops (kO n N) i (fun a' w'=>W w'∧wpAnyH P .any ops (kO n N) W fuel (listed.setIfInBounds i true) a' w') a w
theorem zNa{i j:Nat}(c:Region.ready .any ops listed=[i,j])(h1:PK P n ops W N fuel listed i f w)(h2:PK P n ops W N fuel listed j f w):HL P n ops W N (fuel+1) listed f w:=by
 intro a ha
 refine wpAnyH_all c qJ fun k b=> ?_
 simp at b
 rcases b with rfl|rfl
 · exact h1 a ha
 exact h2 a ha
end
theorem zDd{α:Type}(g:α→Value):∀ l:List α,l.map g=l.flatMap (fun x=>[g x])
 | []=>rfl
 |a::l=>by simp[zDd g l]
theorem y2(b:Bool):Value.bool b= .bool (decide (b=true)):=by cases b<;>rfl
def xL(L:List Res):List Nat:=L.flatMap (·.fp)
def y5(m:List Nat):Nat→List Res→List Res
 |_,[]=>[]
 |i,r::L=>bif m.any (Nat.beq i)then y5 m (i+1) L else r::y5 m (i+1) L
theorem mem_fps{L:List Res}{b:Nat}:b∈xL L↔∃ (i:Nat) (r:Res),L[i]?=some r∧b∈r.fp:=by
 unfold xL
 rw[List.mem_flatMap]
 constructor
 · rintro⟨r,a,hb⟩
   obtain⟨i,hi,rfl⟩:=List.mem_iff_getElem.1 a
   exact⟨i,_,List.getElem?_eq_getElem hi,hb⟩
 rintro⟨i,r,a,hb⟩
 exact⟨r,List.mem_of_getElem? a,hb⟩
theorem beq_any{m:List Nat}{i:Nat}:m.any (Nat.beq i)=true↔i∈m:=by
 rw[List.any_eq_true]
 constructor
 · rintro⟨x,a,h⟩;rw[Nat.eq_of_beq_eq_true h];exact a
 intro h;exact⟨i,h,Nat.beq_refl i⟩
theorem zDF(m:List Nat):∀ (L:List Res) (i:Nat),∃ k:Nat→Nat,(∀ a b:Nat,a<(y5 m i L).length→b<(y5 m i L).length→k a=k b→a=b)∧
   ∀ (j:Nat) (r:Res),(y5 m i L)[j]?=some r→L[k j]?=some r∧i+k j∉m
 | [],i=>⟨id,by simp[y5],by simp[y5]⟩
 |r::L,i=>by
   obtain⟨k,h1,h2⟩:=zDF m L (i+1)
   unfold y5
   cases hc:m.any (Nat.beq i)with
   |true=>
     refine⟨fun j=>k j+1,fun a b d hb e=>h1 a b d hb (by have l:k a+1=k b+1:=e;omega),fun j s c=> ?_⟩
     obtain⟨f,g⟩:=h2 j s c
     exact⟨by simpa using f,by rw[show i+(k j+1)=i+1+k j by omega];exact g⟩
   |false=>
     refine⟨fun j=>match j with|0=>0|j+1=>k j+1,?_,?_⟩
     · intro a b d hb e
       match a,b with
       |0,0=>rfl
       |0,b+1=>simp at e
       |a+1,0=>simp at e
       |a+1,b+1=>
         simp at d hb e
         rw[h1 a b d hb e]
     intro j s c
     match j with
     |0=>
       simp at c
       refine⟨by simpa using c,fun h=> ?_⟩
       rw[beq_any.2 (by simpa using h)]at hc;cases hc
     |j+1=>
       simp at c
       obtain⟨f,g⟩:=h2 j s c
       exact⟨by simpa using f,by show i+(k j+1)∉m;rw[show i+(k j+1)=i+1+k j by omega];exact g⟩
section
variable {w0 w w':World} {S:List Nat} {L Lin Lout:List Res}
theorem Own.give(m:List Nat)(c:m.mapM (fun i=>L[i]?)=some Lin)(d:m.Nodup)(h:Own w0 S L w):Own w (xL Lin) Lin w:=by
 have a:=h.sel m c d
 exact⟨Keep.refl _ _,a.apart,a.holds,fun i r e b hb=> .inl (mem_fps.2 ⟨i,r,e,hb⟩)⟩
theorem Own.fpsFresh(m:List Nat)(a:m.mapM (fun i=>L[i]?)=some Lin)(h:Own w0 S L w):∀ b∈xL Lin,b∈S∨w0.heap.size≤b:=by
 intro b hb
 obtain⟨i,r,c,hb⟩:=mem_fps.1 hb
 obtain⟨k,_,d⟩:=zC9 a i r c
 exact h.fresh k r d b hb
theorem Own.qc(m:List Nat)(v:m.mapM (fun i=>L[i]?)=some Lin)(h:Own w0 S L w)(l:Own w (xL Lin) Lout w'):Own w0 S (y5 m 0 L++Lout) w':=by
 obtain⟨k,o,y⟩:=zDF m L 0
 have f:∀ (j:Nat) (r:Res),(y5 m 0 L)[j]?=some r→L[k j]?=some r∧k j∉m:=fun j r a=>by simpa using y j r a
 have p:=h.fpsFresh m v
 -- the rest's blocks are none of those that are qE
 have d:∀ (j:Nat) (r:Res),(y5 m 0 L)[j]?=some r→∀ b∈r.fp,b<w.heap.size∧b∉xL Lin:=by
   intro j r a b hb
   obtain⟨h1,h2⟩:=f j r a
   refine⟨h.lt h1 b hb,fun c=> ?_⟩
   obtain⟨i,s,n,c⟩:=mem_fps.1 c
   obtain⟨q,z,t⟩:=zC9 v i s n
   exact h.apart (k j) q r s (fun e=>h2 (e▸List.mem_of_getElem? z)) h1 t b hb c
 have g:∀ (j:Nat) (s:Res),Lout[j]?=some s→∀ b∈s.fp,b∈xL Lin∨w.heap.size≤b:=l.fresh
 refine⟨⟨l.keep.os.trans h.keep.os,l.keep.tape.trans h.keep.tape,l.keep.output.trans h.keep.output,Nat.le_trans h.keep.size l.keep.size,fun b hb x=> ?_⟩,?_,?_,?_⟩
 · rw[l.keep.block b (Nat.lt_of_lt_of_le hb h.keep.size) (fun u=> ?_)]
   · exact h.keep.block b hb x
   rcases p b u with h1|h1
   · exact x h1
   omega
 · intro i j r s hij a n b hb c
   rw[List.getElem?_append]at a n
   split at a<;>split at n
   · rename_i hi hj
     exact h.apart (k i) (k j) r s (fun e=>hij (o i j hi hj e)) (f i r a).1 (f j s n).1 b hb c
   · have h1:=d _ _ a b hb
     rcases g _ _ n b c with h2|h2
     · exact h1.2 h2
     omega
   · have h1:=d _ _ n b c
     rcases g _ _ a b hb with h2|h2
     · exact h1.2 h2
     omega
   exact l.apart _ _ r s qG a n b hb c
 · intro i r a
   rw[List.getElem?_append]at a
   split at a
   · exact r.st w w' (h.holds _ r (f i r a).1) fun b hb=>l.keep.block b (d _ _ a b hb).1 (d _ _ a b hb).2
   exact l.holds _ r a
 intro i r a b hb
 rw[List.getElem?_append]at a
 split at a
 · exact h.fresh _ r (f i r a).1 b hb
 rcases g _ _ a b hb with h1|h1
 · exact p b h1
 have:=h.keep.size;right;omega
structure Rd(w:World)(S:List Nat)(r:Res):Prop where
 φ:r.φ w
 far:∀ b∈r.fp,b∉S
theorem Rd.sub{r r':Res}(h:Rd w S r)(a:r.φ w→r'.φ w)(c:∀ b∈r'.fp,b∈r.fp):Rd w S r':=⟨a h.φ,fun b hb=>h.far b (c b hb)⟩
theorem Rd.of{r:Res}(h:r.φ w):Rd w [] r:=⟨h,by simp⟩
theorem Own.rd{r:Res}(a:Rd w0 S r)(h:Own w0 S L w):r.φ w:=h.old r a.φ a.far
theorem Own.rdTo{r:Res}(a:Rd w0 S r)(m:List Nat)(d:m.mapM (fun i=>L[i]?)=some Lin)(h:Own w0 S L w):Rd w (xL Lin) r:=by
 refine⟨h.old r a.φ a.far,fun b hb c=> ?_⟩
 rcases h.fpsFresh m d b c with h1|h1
 · exact a.far b hb h1
 have:=r.lt w0 a.φ b hb;omega
theorem Own.rdRes{r:Res}(j:Nat)(d:L[j]?=some r)(m:List Nat)(g:m.mapM (fun i=>L[i]?)=some Lin)(f:m.any (Nat.beq j)=false)(h:Own w0 S L w):Rd w (xL Lin) r:=by
 refine⟨h.holds j r d,fun b hb a=> ?_⟩
 obtain⟨i,s,k,a⟩:=mem_fps.1 a
 obtain⟨q,l,c⟩:=zC9 g i s k
 refine h.apart j q r s (fun e=> ?_) d c b hb a
 rw[beq_any.2 (e▸List.mem_of_getElem? l)]at f;cases f
theorem Own.rd0{r:Res}(a:Rd w0 S r)(h:Own w0 S L w):Rd w [] r:=⟨h.rd a,by simp⟩
theorem Own.rdRes0{r:Res}(j:Nat)(a:L[j]?=some r)(h:Own w0 S L w):Rd w [] r:=⟨h.holds j r a,by simp⟩
end
def xw:Value→Nat
 | .slice (some a) _ _=>a.block
 |_=>0
def yr:Value→Nat
 | .slice (some a) _ _=>a.off
 |_=>0
def xj(v:Value)(l h sz:Nat):Value:=match v with
 | .slice a _ cap=>kS a cap l h cap sz
 |v=>v
theorem Sl.at_{w:World}{v:Value}{n:Nat}{cs:List Value}(h:Sl w v n cs){i:Nat}{u:Value}(c:cs[i]?=some u):w.cell? ⟨xw v,yr v+i,none⟩=some u:=by
 rcases h with⟨a,rfl,_,rfl⟩|⟨b,off,cap,rfl,_,_,_,d⟩
 · simp at c
 exact d i u c
theorem Sl.subV{w:World}{v:Value}{n:Nat}{cs:List Value}(c:Sl w v n cs){l h sz:Nat}(h1:l≤h)(d:h≤n)(b:cs.length=n*sz):Sl w (xj v l h sz) (h - l) ((cs.drop (l*sz)).take ((h - l)*sz)):=by
 obtain⟨a,cap,rfl,hc, -, -⟩:=c.shape
 exact c.sub h1 qG (Nat.le_refl _) d b
theorem zAw{w:World}{v:Value}{n:Nat}{cs:List Value}(c:Sl w v n cs)(l h sz:Nat):∀ b∈zBy (xj v l h sz),b∈zBy v:=by
 obtain⟨a,cap,rfl,hc, -, -⟩:=c.shape
 exact zJO a n cap l h cap sz (Nat.le_refl _)
section
variable {P:Program} {n:Nat} {ops:Array Oper} {N R:K} {X:List (Nat×K)} {f:Nat→Value} {A:World→Prop} {rest:List Oper}
variable {d:Nat} {ty:TypeId} {p:String} {af:Array Edge} {x y:Operand} {t:TypeId} {sz:Nat}
variable {w0:World} {S:List Nat} {L:List Res} {v:Value} {len:Nat} {cs:List Value}
theorem zHZ(b:kA P t=true)(c:ev f x=v)(e:∀ w,A w→Sl w v len cs):RV P f ⟨some d, .call ⟨.builtin .len,#[x],#[t]⟩,ty,p,af,none⟩ A (.int .i64 len):=by
 intro w hw
 obtain⟨a,cap,rfl, -⟩:=(e w hw).shape
 exact zSx (A:=A) b c w hw
theorem zHR(a:kA P t=true)(b:ev f x=v)(c:∀ w,A w→Sl w v len cs)(e:Nat.blt d n=true)(k:CL P n ops rest N (upd f d (.int .i64 len)) A):CL P n ops (⟨some d, .call ⟨.builtin .len,#[x],#[t]⟩,ty,p,af,none⟩::rest) N f A:=
 yN e (zHZ a b c) k
theorem zKm{k:IntKind}{i:Int}{j:Nat}(c:ev f x=v)(e:ev f y= .int k i)(g:zA5 P t=some sz)(h:∀ w,A w→Sl w v len cs)(hi:i=j)(l:j<len):RV P f ⟨some d, .indexAddr t x y,ty,p,af,none⟩ A (.pointer (some ⟨xw v,yr v+j*sz,none⟩)):=by
 intro w hw
 obtain⟨a,cap,rfl,h1,h2,m⟩:=(h w hw).shape
 obtain⟨b,off,rfl⟩:=m qG
 exact zTZ (A:=A) c e g hi l w hw
theorem zLl{l h:Nat}{lo hi:Option Operand}(b:zA5 P t=some sz)(c:ev f x=v)(e:∀ w,A w→Sl w v len cs)(hl:bnd f 0 lo l)(hh:bnd f len hi h)(h1:l≤h)(h2:h≤len):RV P f ⟨some d, .slice t x lo hi none,ty,p,af,none⟩ A (xj v l h sz):=by
 intro w hw
 obtain⟨a,cap,rfl,h3, -⟩:=(e w hw).shape
 exact zTQ (A:=A) b c hl hh h1 qG w hw
theorem zSY{l h:Nat}{lo hi:Option Operand}(a:zA5 P t=some sz)(b:ev f x=v)(c:∀ w,A w→Sl w v len cs)(hl:bnd f 0 lo l)(hh:bnd f len hi h)(h1:l≤h)(h2:h≤len)(e:Nat.blt d n=true)
 (k:CL P n ops rest N (upd f d (xj v l h sz)) A):CL P n ops (⟨some d, .slice t x lo hi none,ty,p,af,none⟩::rest) N f A:=yN e (zLl a b c hl hh h1 h2) k
theorem zMI(i:Nat){off:Nat}{u:Value}(a:ev f x= .pointer (some ⟨xw v,off,none⟩))(ho:off=yr v+i)(b:∀ w,A w→Sl w v len cs)(c:cs[i]?=some u)(e:one P t=true):RV P f ⟨some d, .load t x,ty,p,af,none⟩ A u:=
 zQh a e (fun w g=>by subst ho;exact(b w g).at_ c)
theorem zEQ(i:Nat){off:Nat}{u:Value}(a:ev f x= .pointer (some ⟨xw v,off,none⟩))(ho:off=yr v+i)(b:∀ w,A w→Sl w v len cs)(c:cs[i]?=some u)(e:one P t=true)(g:Nat.blt d n=true)
 (k:CL P n ops rest N (upd f d u) A):CL P n ops (⟨some d, .load t x,ty,p,af,none⟩::rest) N f A:=yN g (zMI i a ho b c e) k
theorem zLW(i:Nat){off:Nat}(us:List Value)(a:ev f x= .pointer (some ⟨xw v,off,none⟩))(ho:off=yr v+i)(b:∀ w,A w→Sl w v len cs)(c:∀ k u,us[k]?=some u→cs[i+k]?=some u)(e:jF P t=some us.length):RV P f ⟨some d, .load t x,ty,p,af,none⟩ A (.agg us.toArray):=
 zME a e (fun w g k u h=>by subst ho;rw[Nat.add_assoc];exact(b w g).at_ (c k u h))
theorem zKk(i:Nat){off:Nat}(us:List Value)(a:ev f x= .pointer (some ⟨xw v,off,none⟩))(ho:off=yr v+i)(b:∀ w,A w→Sl w v len cs)(c:∀ k u,us[k]?=some u→cs[i+k]?=some u)(e:jF P t=some us.length)(g:Nat.blt d n=true)
 (k:CL P n ops rest N (upd f d (.agg us.toArray)) A):CL P n ops (⟨some d, .load t x,ty,p,af,none⟩::rest) N f A:=yN g (zLW i us a ho b c e) k
theorem zBL(i:Nat){b off:Nat}{e:TypeId}{cs:List Value}(us:List Value)(a:ev f x= .pointer (some ⟨b,off,none⟩))(c:L[i]?=some (Res.row b e cs))(hv:∀ k u,us[k]?=some u→cs[off+k]?=some u)(g:jF P t=some us.length):RV P f ⟨some d, .load t x,ty,p,af,none⟩ (Own w0 S L) (.agg us.toArray):=
 zME a g (fun w h k u j=>h.rowCell c (hv k u j))
theorem xI(i:Nat){b off:Nat}{e:TypeId}{cs:List Value}(us:List Value)(a:ev f x= .pointer (some ⟨b,off,none⟩))(c:L[i]?=some (Res.row b e cs))(hv:∀ k u,us[k]?=some u→cs[off+k]?=some u)(g:jF P t=some us.length)(h:Nat.blt d n=true)
 (k:CL P n ops rest N (upd f d (.agg us.toArray)) (Own w0 S L)):CL P n ops (⟨some d, .load t x,ty,p,af,none⟩::rest) N f (Own w0 S L):=yN h (zBL i us a c hv g) k
theorem zd(m:List Nat){L':List Res}(a:m.mapM (fun i=>L[i]?)=some L')(c:m.Nodup){id:Nat}{l:List Oper}(d:P.follows .mixedOrders=true)
   (h:∀ w,Own w0 S L w→Own w0 S L' w→HL P n l.toArray (Own w0 S L') N l.length (Array.replicate l.length false) f w):C P n (.region id l.toArray true) N R X f (Own w0 S L):=
 zRF (Own w0 S L') d (fun w b=>(b.sel m a c).drawn) (fun w b=>h _ b.drawn (b.sel m a c).drawn)
theorem zC6{c a b:Operand}(e:ev f c=xx)(g:Nat.blt d n=true)(k:CL P n ops rest N (upd f d (ev f a)) A):CL P n ops (⟨some d, .pick c a b,ty,p,af,none⟩::rest) N f A:=zMl e g k
theorem xA{c a b:Operand}(e:ev f c=yC)(g:Nat.blt d n=true)(k:CL P n ops rest N (upd f d (ev f b)) A):CL P n ops (⟨some d, .pick c a b,ty,p,af,none⟩::rest) N f A:=zMl e g k
theorem zC5{c a b:Operand}(e:ev f c=xx):RV P f ⟨some d, .pick c a b,ty,p,af,none⟩ A (ev f a):=zLR e
theorem jw{c a b:Operand}(e:ev f c=yC):RV P f ⟨some d, .pick c a b,ty,p,af,none⟩ A (ev f b):=zLR e
end
theorem jn{α:Type}{g:α→List Value}{sz:Nat}(a:∀ x,(g x).length=sz){l:List α}{j:Nat}{x:α}(c:l[j]?=some x){i:Nat}{u:Value}(b:(g x)[i]?=some u):(l.flatMap g)[j*sz+i]?=some u:=by
 rw[zDL a l j i x c (by rw[←a x];exact(List.getElem?_eq_some_iff.1 b).1)];exact b
theorem zD5{α:Type}{g:α→List Value}{sz:Nat}(a:∀ x,(g x).length=sz){l:List α}{j:Nat}{x:α}(b:l[j]?=some x){o:Nat}{us:List Value}(c:∀ k u,us[k]?=some u→(g x)[o+k]?=some u):∀ k u,us[k]?=some u→(l.flatMap g)[j*sz+o+k]?=some u:=by
 intro k u hk
 rw[Nat.add_assoc]
 exact jn a b (c k u hk)
end Go.Sc
