import Derived.Test.YtmpaljnacfidaaaGreatDoorOne
import Derived.Test.YtmpaljnacfidaaaGreatDoorWdP
import Derived.Test.YtmpaljnacfidaaaGreatDoorFwS
import Derived.Test.YtmpaljnacfidaaaGreatDoorFwR
import Derived.Test.YtmpaljnacfidaaaGreatDoorIn
import Derived.Test.YtmpaljnacfidaaaGreatDoorFw3
set_option linter.unusedSectionVars false
set_option linter.unusedSimpArgs false
set_option linter.unusedVariables false
set_option maxRecDepth 10000
namespace Go.Proofs.YtmpaljnacfidaaaGreatDoor
open Go Go.Sc Go.Proofs
def xW(l:LeaD):Value:= .agg l.cells.toArray
def kK(n:Nat):Value:= .int .u64 n
def kS(n:Int):Value:= .int .i64 n
theorem zDp:KeyL Tryz.prog 9 Value.string:=zKD qD
theorem zCb:KeyL Tryz.prog 31 kK:=zFr qD
theorem zHc:kH Tryz.prog 180=some (9,2):=by kernel_rfl
theorem zEW:kH Tryz.prog 181=some (31,195):=by kernel_rfl
theorem zIW:xn Tryz.prog 2=some (kS 0):=by kernel_rfl
theorem zSr:xn Tryz.prog 195=some (xW LeaD.zero):=by kernel_rfl
def zBG(k:ByteArray)(kl:List (Nat×LeaD)):Int:=xR k (kl.map (·.2))
theorem zL5{k:ByteArray}{kl:List (Nat×LeaD)}{n:Int}(h:n=IntKind.i64.wrap (zBG k kl - zBG k [])):n=yY k kl:=by
  rw[h];simp[zBG,xR,yY,zDK]
theorem zKq{k:ByteArray}{kl todo q1 q2:List (Nat×LeaD)}{i:Nat}{v:LeaD}{n:Int}(h:n=IntKind.i64.wrap (zBG k kl - zBG k todo))(a:todo=q1++(i,v)::q2)(b:v.key=k):IntKind.i64.wrap (n+v.amount)=IntKind.i64.wrap (zBG k kl - zBG k (q1++q2)):=by
  rw[h,zK8,a];unfold zBG;rw[kX,if_pos b];congr 1;omega
theorem zNv{k:ByteArray}{kl todo q1 q2:List (Nat×LeaD)}{i:Nat}{v:LeaD}{n:Int}(h:n=IntKind.i64.wrap (zBG k kl - zBG k todo))(a:todo=q1++(i,v)::q2)(b:¬ v.key=k):n=IntKind.i64.wrap (zBG k kl - zBG k (q1++q2)):=by
  rw[h,a];unfold zBG;rw[kX,if_neg b];congr 1;omega
theorem zHu(k:ByteArray)(w:World):Rets Tryz.prog 132 #[.string k] w fun e c=>e= .bool (decide (x6 k))∧Own w [] [] c:=by
  refine zO Tryz.func132 O Tryz.ntmps132 (Own.start w) (zB (zG O (zA (zB (zC O (zLf O O O (zC O (yA (q:=k≠yEb) 3 2 [8,7,6] (((k.size:Nat):Int)≤64) O O O O O O trivial O (fun a=> ?_) (fun d=> ?_)))))))))
  ·refine zQ O (gT a) (zC O (zQ O (gT a) (zCO qD O O (zQ O (gT a) (yq O O O (z8 O (fun _ b=>b)))))))
  refine zG O (zA (zP (zn (v:= .bool (decide ((k≠yEb)∧(((k.size:Nat):Int)≤64)))) O O (fun c b=>⟨(by congr 1;exact decide_eq_decide.2 (by unfold x6;rw[zSk];omega)),b.drop⟩))))
theorem zH6(n:Int)(w:World):Rets Tryz.prog 134 #[Vi n] w fun e c=>e= .bool (decide (xF n))∧Own w [] [] c:=by
  refine zO Tryz.func134 O Tryz.ntmps134 (Own.start w) (zB (zG O (zA (zB (zC O (xE O O O (zC O (yA (q:=1≤n) 2 2 [7,6] (n≤1099511627776) O O O O O O trivial O (fun a=> ?_) (fun d=> ?_)))))))))
  ·refine zQ O (gT a) (zC O (zQ O (gT a) (yq O O O (z8 O (fun _ b=>b)))))
  refine zG O (zA (zP (zn (v:= .bool (decide ((1≤n)∧(n≤1099511627776)))) O O (fun c b=>⟨O,b.drop⟩))))
theorem zDA{S:List Nat}(b bm lm:Nat)(now:Int)(cnt:Nat)(kl:List (Nat×LeaD))(k:ByteArray)(w:World)(j:Own w S [Res.row b 183 [.map (some bm), .map (some lm),Vi now,Vn cnt],Res.mp kK xW lm kl] w):Rets Tryz.prog 133 #[.pointer (some ⟨b,0,none⟩), .string k] w fun r h=>∃ (n:Int),r=Vi n∧n=yY k kl∧Own w S [Res.row b 183 [.map (some bm), .map (some lm),Vi now,Vn cnt],Res.mp kK xW lm kl] h:=by
  refine zO Tryz.func133 O Tryz.ntmps133 j (zB (zG O (zA (zB (zG O (zA (zK (zB (zC O (zV O O (zI (o:=1) O O (zJ 0 (v:= .map (some lm)) O O O O (ji 1 zEW O O O (fun i=>(zA (zU (xI (fun(a:List (Nat×LeaD)) (n:Int)=>[(1, .string k),(5,Vi n),(12, .pointer (some ⟨i,0,none⟩))]) (fun(a:List (Nat×LeaD)) (n:Int)=>n=IntKind.i64.wrap (zBG k kl - zBG k a)) (fun(a:List (Nat×LeaD)) (n:Int)=>[Res.row b 183 [.map (some bm), .map (some lm),Vi now,Vn cnt],Res.rg kK xW lm i kl a]) (fun(a:List (Nat×LeaD)) (n:Int)=>a.length) (fun h e=>⟨kl,0,⟨O,O,O,trivial⟩,(by rw[Int.sub_self];decide),e⟩) (fun a n g l=>(zB (zAl 1 O O O (fun m=> ?_) (fun q1 k v q d=> ?_)))))))))))))))))))))
  ·refine zb (vs:=[zu]) O O O (zA (zK (yT O (zz O (zB (zC O (zG O (zA (zP (zn (v:=Vi n) O O (fun h e=>⟨n,O,zL5 (m▸l),(Own.rgEnd 1 e O)⟩)))))))))))
  refine zb (vs:=[xl,Vn k, .agg (LeaD.cells v).toArray]) O O O (zA (zK (x2 O (zN (zU (zB (jo 1 O O O (zb (vs:=[Vn k, .agg (LeaD.cells v).toArray]) O O O (zk (v:= .agg #[Vn 0,Vn 0,yh,Vi 0,Vi 0]) qD O (fun s=>ze 2 O O O (z6 O) O (zA (zB (zI (o:=2) O O (zJ 2 (v:= .string v.key) O O O O (zC O (zGF O O O (zA (zT O (fun p=> ?_) (fun p=> ?_)))))))))))))))))))
  ·refine zd (zC O (zI (o:=3) O O (zJ 2 (v:=Vi v.amount) O O O O (zr (c:=IntKind.i64.wrap (n+v.amount)) O O O O (zG O (zw (fun h e=>⟨q1++q,IntKind.i64.wrap (n+v.amount),⟨O,O,O,trivial⟩,zKq l d p,e.sel [0,1] O V,(by rw[d,List.length_append,List.length_append,List.length_cons];omega)⟩)))))))
  exact xy (fun h e=>⟨q1++q,n,⟨O,O,O,trivial⟩,zNv l d p,e.sel [0,1] O V,(by rw[d,List.length_append,List.length_append,List.length_cons];omega)⟩)
def zAw(kl:List (Nat×LeaD))(s i:Nat)(x:LeaD)(e:Int):Prop:=
  (e=17∧x=LeaD.zero∧∀ l,zl i kl=some l→l.session≠s)∨(e=0∧zl i kl=some x∧x.session=s)
theorem zOF{kl:List (Nat×LeaD)}{s i:Nat}(h:(!(zl i kl).isSome)=true∨((((zl i kl).getD LeaD.zero).session:Nat):Int)≠((s:Nat):Int)):zAw kl s i LeaD.zero 17:=by
  refine .inl ⟨O,O,fun l hl=> ?_⟩
  rw[hl]at h
  rcases h with h|h
  · cases h
  intro e;exact h (by rw[Option.getD_some,e])
theorem zJr{kl:List (Nat×LeaD)}{s i:Nat}(h:¬((!(zl i kl).isSome)=true∨((((zl i kl).getD LeaD.zero).session:Nat):Int)≠((s:Nat):Int))):zAw kl s i ((zl i kl).getD LeaD.zero) 0:=by
  cases hl:zl i kl with
  |none=>rw[hl]at h;exact absurd (.inl rfl) h
  |some l=>
    rw[hl,Option.getD_some]at h
    exact .inr ⟨O,hl,Decidable.by_contra fun(q:¬ l.session=s)=>h (.inr fun e=>q qE)⟩
theorem zFk{kl:List (Nat×LeaD)}{s i:Nat}{x:LeaD}{e:Int}(h:zAw kl s i x e)(a:e≠0):e=17∧x=LeaD.zero∧∀ l,zl i kl=some l→l.session≠s:=by
  rcases h with h|h
  · exact h
  exact absurd h.1 a
theorem zFB{kl:List (Nat×LeaD)}{s i:Nat}{x:LeaD}{e:Int}(h:zAw kl s i x e)(a:¬ e≠0):zl i kl=some x∧x.session=s:=by
  rcases h with h|h
  · rw[h.1]at a;exact absurd V a
  exact h.2
theorem zOS{kl:List (Nat×LeaD)}{s i:Nat}{x:LeaD}{e:Int}(h:zAw kl s i x e)(a:¬ e=0):zD3 kl s i x e kl:=by
  have:=zFk h a;exact .inl ⟨this.2.2,this.1,this.2.1,rfl⟩
theorem zJs{kl:List (Nat×LeaD)}{s i:Nat}{x:LeaD}{e:Int}(h:zAw kl s i x e)(a:e=0):zD3 kl s i x e (jQ i kl):=by
  have:=zFB h (fun q=>q a);exact .inr ⟨x,this.1,this.2,a,rfl,rfl⟩
theorem zI2{now:Int}{kb:List (ByteArray×Int)}{kl:List (Nat×LeaD)}{s i:Nat}{sp:Int}{x:LeaD}{e:Int}(a:¬ ¬ xF sp)(h:zAw kl s i x e)(b:e≠0):zA7 now kb kl s i sp LeaD.zero e kl:=by
  have:=zFk h b;exact .inr (.inl ⟨Decidable.not_not.1 a,this.2.2,this.1,rfl,rfl⟩)
theorem zFN{now:Int}{kb:List (ByteArray×Int)}{kl:List (Nat×LeaD)}{s i:Nat}{sp n:Int}{x:LeaD}{e:Int}(a:¬ ¬ xF sp)(h:zAw kl s i x e)(b:¬ e≠0)(c:n=yY x.key kl)(d:(zl x.key kb).getD 0<n):zA7 now kb kl s i sp LeaD.zero 16 kl:=by
  have:=zFB h b;exact .inr (.inr ⟨Decidable.not_not.1 a,x,this.1,this.2, .inl ⟨c▸d,rfl,rfl,rfl⟩⟩)
theorem zHq{now:Int}{kb:List (ByteArray×Int)}{kl:List (Nat×LeaD)}{s i:Nat}{sp n:Int}{x:LeaD}{e:Int}(a:¬ ¬ xF sp)(h:zAw kl s i x e)(b:¬ e≠0)(c:n=yY x.key kl)(d:¬(zl x.key kb).getD 0<n):zA7 now kb kl s i sp (zAS x (now+sp)) 0 (yS i (zAS x (now+sp)) kl):=by
  have:=zFB h b;exact .inr (.inr ⟨Decidable.not_not.1 a,x,this.1,this.2, .inr ⟨by rw[c]at d;omega,rfl,rfl,rfl⟩⟩)
theorem zIH{S:List Nat}(b bm lm:Nat)(now:Int)(cnt:Nat)(kl:List (Nat×LeaD))(s i:Nat)(w:World)(g:Own w S [Res.row b 183 [.map (some bm), .map (some lm),Vi now,Vn cnt],Res.mp kK xW lm kl] w):Rets Tryz.prog 135 #[.pointer (some ⟨b,0,none⟩),Vn s,Vn i] w fun m d=>∃ (x:LeaD) (e:Int),m= .tuple #[.agg (LeaD.cells x).toArray,Vi e]∧zAw kl s i x e∧Own w S [Res.row b 183 [.map (some bm), .map (some lm),Vi now,Vn cnt],Res.mp kK xW lm kl] d:=by
  refine zO Tryz.func135 O Tryz.ntmps135 g (zB (zk (v:= .agg #[Vn 0,Vn 0,yh,Vi 0,Vi 0]) qD O (fun n=>zG O (zA (zB (zC O (zV O O (zI (o:=1) O O (zJ 0 (v:= .map (some lm)) O O O O (zC O (zC6 (k:=i) (kv:=kl) (zv:=LeaD.zero) zCb zEW zSr O O (fun d h=>Own.holds h 1 _ O) O (zC O (zb (vs:=[.agg (LeaD.cells ((zl i kl).getD LeaD.zero)).toArray, .bool ((zl i kl).isSome)]) O O O (zb (vs:=[.agg (LeaD.cells ((zl i kl).getD LeaD.zero)).toArray, .bool ((zl i kl).isSome)]) O O O (zk (v:= .agg #[Vn 0,Vn 0,yh,Vi 0,Vi 0]) qD O (fun p=>ze 3 O O O (z6 O) O (zG O (zA (zK (zB (zC O (xi (b:=(zl i kl).isSome) O O (zC O (yK (q:=(!((zl i kl).isSome))=true) 4 2 [25,24,23,22] (((((zl i kl).getD LeaD.zero).session:Nat):Int)≠((s:Nat):Int)) O O (yt _) O O O trivial O (fun a=> ?_) (fun l=> ?_)))))))))))))))))))))))))
  ·refine zQ O (bF a) (zI (o:=1) O O (zQ O (bF a) (zJ 3 (v:=Vn (((zl i kl).getD LeaD.zero).session)) O O O O (zQ O (bF a) (zC O (zQ O (bF a) (yd O O O (z8 O (fun _ c=>c)))))))))
  refine zA (zT O (fun j=> ?_) (fun j=> ?_))
  ·refine zB (yG (cs:=[Vn 0,Vn 0,yh,Vi 0,Vi 0]) (z:=[Vn 0,Vn 0,yh,Vi 0,Vi 0]) (pl:=[(0,1),(1,1),(2,1),(3,1),(4,1)]) qD qD O (ze 2 O O O (z6 O) O (zG O (zA (zP (yc (cs:=[Vn 0,Vn 0,yh,Vi 0,Vi 0]) (v:=Vi 17) O O O qD (Own.qc (i:=2) O) (fun d c=>⟨LeaD.zero,17,O,zOF j,c.sel [0,1] O V⟩)))))))
  refine zN (zB (z1 (cs:=(LeaD.cells ((zl i kl).getD LeaD.zero))) 3 O O O (ze 2 O O O (z6 O) O (zG O (zA (zP (yc (cs:=(LeaD.cells ((zl i kl).getD LeaD.zero))) (v:=Vi 0) O O O qD (Own.qc (i:=2) O) (fun d c=>⟨(zl i kl).getD LeaD.zero,0,O,zJr j,c.sel [0,1] O V⟩))))))))
theorem zSo(a c:Int)(w:World)(p:0≤a∧a≤9223372036854775807)(r: -9223372036854775808≤c∧c≤9223372036854775807):Rets Tryz.prog 46 #[Vi a,Vi c] w fun m i=>∃ (n e:Int),m= .tuple #[Vi n,Vi e]∧((9223372036854775807<a+c∧e=3∧n=0)∨(a+c≤9223372036854775807∧e=0∧n=a+c))∧Own w [] [] i:=by
  refine zO Tryz.func46 O Tryz.ntmps46 (Own.start w) (zB (zG O (zG O (zA (zK (zB (zC O (yU O O O (zC O (yA (q:=0<c) 4 2 [12,11,10,9] ((9223372036854775807 - c)<a) O O O O O O trivial O (fun d=> ?_) (fun l=> ?_)))))))))))
  ·refine zQ O (gT d) (zC O (zQ O (gT d) (zC O (zQ O (gT d) (y5 O O (zt qE) O (zQ O (gT d) (yU O O O (z8 O (fun _ h=>h)))))))))
  refine zC O (yK (q:=(0<c)∧((9223372036854775807 - c)<a)) 8 8 [22,21,20,19,18,17,16,15] ((c<0)∧(a<((-9223372036854775808) - c))) O O O O O O trivial O (fun g=> ?_) (fun j=> ?_))
  ·refine zQ O (gF g) (zC O (zQ O (gF g) (zy O O O (zQ O (gF g) (zC O (yA (q:=c<0) 4 11 [21,20,19,18] (a<((-9223372036854775808) - c)) O O O O O O ⟨_,O,O,gF g⟩ O (fun b=> ?_) (fun k=> ?_)))))))
   ·refine zQ O (gT b) (zC O (zQ O (gT b) (zC O (zQ O (gT b) (y5 O O (zt qE) O (zQ O (gT b) (zy O O O (z8 O (fun _ h=>h)))))))))
   exact z8 O (fun _ h=>h)
  refine zA (zT O (fun o=> ?_) (fun o=> ?_))
  ·refine zB (zG O (zG O (zA (zP (yg (v:=Vi 0) (v':=Vi 3) O O O (fun i h=>⟨0,3,O, .inl ⟨by omega,O,O⟩,h.drop⟩))))))
  refine zN (zB (zC O (zC O (zr O O (zt qE) O (zG O (zG O (zA (zP (yg (v:=Vi (a+c)) (v':=Vi 0) O O O (fun i h=>⟨a+c,0,O, .inr ⟨by omega,O,O⟩,h.drop⟩))))))))))
theorem zON(v:Value)(l:List Int)(w:World)(hl:l.length=2)(r:0≤zf l 0∧zf l 0≤9223372036854775807)(h1: -9223372036854775808≤zf l 1∧zf l 1≤9223372036854775807)(hv:Rd w [] (Res.sl v l.length (l.flatMap I1))):Rets Tryz.prog 45 #[v] w fun u j=>∃ (n e:Int),u= .tuple #[Vi n,Vi e]∧((9223372036854775807<zf l 0+zf l 1∧e=3∧n=0)∨(zf l 0+zf l 1≤9223372036854775807∧e=0∧n=zf l 0+zf l 1))∧Own w [] [] j:=by
  refine zO Tryz.func45 O Tryz.ntmps45 (Own.start w) (zB (zG O (zG O (zA (zB (zG O (zA (zK (zB (zC O (zo (pR hv) O O (zC O (zA (zU (xI (fun(k:Nat) (n:Int)=>[(4,Vi n),(8,v),(9,Vj l.length),(10,Vj k)]) (fun(k:Nat) (n:Int)=>k≤2∧((k=0→n=0)∧(k=1→n=zf l 0)∧(k=2→n=zf l 0+zf l 1))∧((k<2→0≤n)∧n≤9223372036854775807)) (fun(k:Nat) (n:Int)=>[]) (fun(k:Nat) (n:Int)=>2 - k) (fun j c=>⟨0,0,⟨O,O,O,O,trivial⟩,⟨by omega,⟨fun _=>O,by omega,by omega⟩,⟨fun _=>by omega,by omega⟩⟩,c⟩) (fun k n g s=> ?_))))))))))))))))
  have x:=s.1
  have b:=s.2.1
  have p:=s.2.2
  refine zB (zy O O O (zA (zK (zT O (fun y=> ?_) (fun y=> ?_)))))
  ·have d:k<2:=by omega
   have m:(k=0→zf l k=zf l 0)∧(k=1→zf l k=zf l 1):=⟨fun h=>by rw[h],fun h=>by rw[h]⟩
   have t: -9223372036854775808≤zf l k∧zf l k≤9223372036854775807:=by rcases(show k=0∨k=1 by omega)with h|h<;>rw[h]<;>omega
   refine zN (zK (zU (zB (yH (pR hv) 1 k O O O qE O (y8 (pR hv) 1 k 0 (fun _=>O) O O qE O O (zG O (zA (zB (zG O (zA (zB (zC O (zC O (zH O O (fun j c=>(zSo n (zf l k) j ⟨p.1 d,p.2⟩ t).mono ?_)))))))))))))))
   rintro _ z ⟨o,i,rfl,a,hO⟩
   refine(?_:CL _ _ _ _ _ _ (Own w [] [])) z (c.qb hO)
   refine zC O (zb (vs:=[Vi o,Vi i]) O O O (zb (vs:=[Vi o,Vi i]) O O O (zG O (zG O (zA (zB (zC O (yd O O O (zA (zT O (fun q=> ?_) (fun q=> ?_)))))))))))
   ·refine zB (zC O (zG O (zG O (zA (zP (yg (v:=Vi 0) (v':=Vi i) O O O (fun j c=>⟨0,i,O, .inl ⟨((zC2 d b m a r h1).1 q).1,((zC2 d b m a r h1).1 q).2,O⟩,c.drop⟩)))))))
   refine zN (zd (zr O O (zt qE) O (zC O (zw (fun j c=>⟨k+1,o,⟨O,O,O,O,trivial⟩,⟨by omega,(zC2 d b m a r h1).2 q⟩,c,qE⟩)))))
  refine zz O (zB (zC O (zG O (zG O (zA (zP (yg (v:=Vi n) (v':=Vi 0) O O O (fun j c=>⟨n,0,O, .inr ⟨by have:=b.2.2 qE;omega,O,b.2.2 qE⟩,c.drop⟩))))))))
theorem zQp{S:List Nat}(b bm lm:Nat)(now:Int)(cnt:Nat)(kb:List (ByteArray×Int))(kl:List (Nat×LeaD))(k:ByteArray)(a:Int)(w:World)(x:Own w S [Res.row b 183 [.map (some bm), .map (some lm),Vi now,Vn cnt],Res.mp Value.string kS bm kb,Res.mp kK xW lm kl] w):Rets Tryz.prog 83 #[.pointer (some ⟨b,0,none⟩), .string k,Vi a] w fun u_ h=>∃ (n e:Int) (kb':List (ByteArray×Int)),u_= .tuple #[Vi n,Vi e]∧e=jF k a kb∧kb'=zFc k a kb∧(n=if e=0 then yY k kl else 0)∧Own w S [Res.row b 183 [.map (some bm), .map (some lm),Vi now,Vn cnt],Res.mp Value.string kS bm kb',Res.mp kK xW lm kl] h:=by
  refine zO Tryz.func83 O Tryz.ntmps83 x (zB (zG O (zG O (zA (zK (zB (zC O (yF qD O O O (zC O (zQ O O (zC O (zQ O O (zH O O (fun h d=>((zHu k h).mono ?_)))))))))))))))
  rintro _ y ⟨rfl,p⟩
  refine(?_:CL _ _ _ _ _ _ (Own w S [_,_,_])) y (d.qb p)
  refine zQ O O (xJ (q:=x6 k) O O (y2 O O (zC O (yK (q:=¬(x6 k)) 2 7 [19,18] (a<0) O O O O O O trivial O (fun j=> ?_) (fun z=> ?_)))))
  ·refine zQ O (gF j) (zC O (zQ O (gF j) (zy O O O (z8 O (fun _ d=>d)))))
  refine zA (zT O (fun i=> ?_) (fun i=> ?_))
  ·refine zB (zG O (zG O (zA (zP (yg (v:=Vi 0) (v':=Vi 1) O O O (fun h d=>⟨0,1,kb,O,(zD2 i).symm,zF8 (zD2 i) V,O,d⟩))))))
  refine zN (zB (zC O (zV O O (zI (o:=0) O O (zJ 0 (v:= .map (some bm)) O O O O (zC O (zC6 (k:=k) (kv:=kb) (zv:=0) zDp zHc zIW O O (fun h l=>Own.holds l 1 _ O) O (zC O (zb (vs:=[Vi ((zl k kb).getD 0), .bool ((zl k kb).isSome)]) O O O (zb (vs:=[Vi ((zl k kb).getD 0), .bool ((zl k kb).isSome)]) O O O (zG O (zG O (zA (zK (zU (zB (zC O (yR O O O (zG O (zA (zT O (fun m=> ?_) (fun m=> ?_))))))))))))))))))))))
  ·refine zd (zC O (zV O O (zI (o:=0) O O (zJ 0 (v:= .map (some bm)) O O O O (zC O (zC1 1 (k:=k) zDp zHc O O O (zA (zB (zC O (zC O (zH O O (fun h d=>(zDA b bm lm now cnt kl k h (d.give [0,2] O V)).mono ?_))))))))))))
   rintro _ y ⟨r,rfl,g,p⟩
   refine fq [0,2] O d p (zG O (zG O (zA (zP (yg (v:=Vi r) (v':=Vi 0) O O O (fun h d=>⟨r,0,jQ k kb,O,(zD7 i m).symm,zLC (zD7 i m) m,g,d.sel [1,0,2] O V⟩))))))
  refine zB (zC O (xi (b:=(zl k kb).isSome) O O (zC O (yA (q:=(!((zl k kb).isSome))=true) 6 2 [53,52,51,50,49,48] (64≤((kb.length:Nat):Int)) O O (yt _) O O O trivial O (fun c=> ?_) (fun a0=> ?_)))))
  ·refine zQ O (bT c) (zC O (zQ O (bT c) (zV O O (zQ O (bT c) (zI (o:=0) O O (zQ O (bT c) (zJ 0 (v:= .map (some bm)) O O O O (zQ O (bT c) (zCq Value.string kS (kv:=kb) zHc O (fun h l=>Own.holds l 1 _ O) O (zQ O (bT c) (xE O O O (z8 O (fun _ d=>d)))))))))))))
  refine zG O (zA (zT O (fun s=> ?_) (fun s=> ?_)))
  ·refine zB (zG O (zG O (zA (zP (yg (v:=Vi 0) (v':=Vi 7) O O O (fun h d=>⟨0,7,kb,O,(zCz i m s).symm,zF8 (zCz i m s) V,O,d⟩))))))
  refine zd (zC O (zV O O (zI (o:=0) O O (zJ 0 (v:= .map (some bm)) O O O O (zC O (zC O (jD 1 (k:=k) (v:=a) zDp zHc O O O O (zA (zB (zC O (zC O (zH O O (fun h d=>((zDA b bm lm now cnt kl k h (d.give [0,2] O V)).mono ?_))))))))))))))
  rintro _ y ⟨u,rfl,g,p⟩
  refine fq [0,2] O d p (zG O (zG O (zA (zP (yg (v:=Vi u) (v':=Vi 0) O O O (fun h d=>⟨u,0,yS k a kb,O,(zD5 i s).symm,zLU (zD5 i s) m,g,d.sel [1,0,2] O V⟩))))))
theorem zP4(w:World):Rets Tryz.prog 34 #[] w fun g a=>∃ (b bm lm:Nat),g= .pointer (some ⟨b,0,none⟩)∧Own w [] [Res.row b 183 [.map (some bm), .map (some lm),Vi 0,Vn 0],Res.mp Value.string kS bm ([]:List (ByteArray×Int)),Res.mp kK xW lm ([]:List (Nat×LeaD))] a:=by
  refine zO Tryz.func34 O Tryz.ntmps34 (Own.start w) (zB (zG O (zA (zB (xb (α:=Int) Value.string kS O O (fun c=>xb (α:=LeaD) kK xW O O (fun d=>yG (cs:=[.map (some c), .map (some d),Vi 0,Vn 0]) (z:=[.map none, .map none,Vi 0,Vn 0]) (pl:=[(0,1),(1,1),(2,1),(3,1)]) qD qD O (zj O O (fun e=>zG O (zA (zP (zn (v:= .pointer (some ⟨e,0,none⟩)) O O (fun a h=>⟨e,c,d,O,h.sel [2,0,1] O V⟩)))))))))))))
theorem zRZ{S:List Nat}(b bm lm:Nat)(now:Int)(cnt:Nat)(kb:List (ByteArray×Int))(kl:List (Nat×LeaD))(s:Nat)(k:ByteArray)(a j:Int)(w:World)(a4:0≤yY k kl∧yY k kl≤9223372036854775807)(ha:x3 a)(ht:0≤now∧now≤2305843009213693952)(hc:cnt≤1000000000)(a6:Own w S [Res.row b 183 [.map (some bm), .map (some lm),Vi now,Vn cnt],Res.mp Value.string kS bm kb,Res.mp kK xW lm kl] w):Rets Tryz.prog 85 #[.pointer (some ⟨b,0,none⟩),Vn s, .string k,Vi a,Vi j] w fun u_ h=>∃ (x:LeaD) (e:Int) (cnt':Nat) (kl':List (Nat×LeaD)),u_= .tuple #[.agg (LeaD.cells x).toArray,Vi e]∧e=xd s k a j kb kl∧x=zIY e cnt s k a (now+j)∧cnt'=zK0 e cnt∧kl'=zId e x kl∧Own w S [Res.row b 183 [.map (some bm), .map (some lm),Vi now,Vn cnt'],Res.mp Value.string kS bm kb,Res.mp kK xW lm kl'] h:=by
  refine zO Tryz.func85 O Tryz.ntmps85 a6 (zB (zk (v:= .agg #[Vn 0,Vn 0,yh,Vi 0,Vi 0]) qD O (fun ac=>zG O (zA (zK (zB (zC O (yF qD O O O (zC O (zQ O O (zC O (zQ O O (yR O O O (y2 O O (zC O (yK (q:=((s:Nat):Int)=((0:Nat):Int)) 3 6 [26,25,24] (¬(x6 k)) O O O O O O trivial O (fun n=> ?_) (fun a7=> ?_)))))))))))))))))
  ·refine zQ O (gF n) (zC O (zQ O (gF n) (zH O O (fun h c=>(zHu k h).mono ?_))))
   rintro _ w1 ⟨rfl,hO⟩
   refine(?_:CL _ _ _ _ _ _ (Own w S [_,_,_,_])) w1 (c.qb hO)
   refine zQ O (gF n) (xJ (q:=x6 k) O O (z8 O (fun _ c=>c)))
  refine zC O (yK (q:=(((s:Nat):Int)=((0:Nat):Int))∨(¬(x6 k))) 2 11 [30,29] (a<1) O O O O O O trivial O (fun p=> ?_) (fun a8=> ?_))
  ·refine zQ O (gF p) (zC O (zQ O (gF p) (zy O O O (z8 O (fun _ c=>c)))))
  refine zC O (yK (q:=((((s:Nat):Int)=((0:Nat):Int))∨(¬(x6 k)))∨(a<1)) 3 15 [35,34,33] (¬(xF j)) O O O O O O trivial O (fun l=> ?_) (fun a9=> ?_))
  ·refine zQ O (gF l) (zC O (zQ O (gF l) (zH O O (fun h c=>(zH6 j h).mono ?_))))
   rintro _ w1 ⟨rfl,hO⟩
   refine(?_:CL _ _ _ _ _ _ (Own w S [_,_,_,_])) w1 (c.qb hO)
   refine zQ O (gF l) (xJ (q:=xF j) O O (z8 O (fun _ c=>c)))
  refine zA (zT O (fun c1=> ?_) (fun c1=> ?_))
  ·refine zB (yG (cs:=[Vn 0,Vn 0,yh,Vi 0,Vi 0]) (z:=[Vn 0,Vn 0,yh,Vi 0,Vi 0]) (pl:=[(0,1),(1,1),(2,1),(3,1),(4,1)]) qD qD O (ze 3 O O O (z6 O) O (zG O (zA (zP (yc (cs:=[Vn 0,Vn 0,yh,Vi 0,Vi 0]) (v:=Vi 1) O O O qD (Own.qc (i:=3) O) (fun h c=>⟨LeaD.zero,1,cnt,kl,O,(zO4 (larg.1 c1)).symm,O,O,O,c.sel [0,1,2] O V⟩)))))))
  have r:¬ xX s k a j:=fun q=>c1 (larg.2 q)
  have aa:xF j:=Decidable.by_contra fun q=>c1 (.inr q)
  have ad:1≤a:=Int.not_lt.1 fun q=>c1 (.inl (.inr q))
  unfold xF at aa
  refine zN (zB (zC O (zV O O (zI (o:=0) O O (zJ 0 (v:= .map (some bm)) O O O O (zC O (zC6 (k:=k) (kv:=kb) (zv:=0) zDp zHc zIW O O (fun h a2=>Own.holds a2 1 _ O) O (zC O (zb (vs:=[Vi ((zl k kb).getD 0), .bool ((zl k kb).isSome)]) O O O (zb (vs:=[Vi ((zl k kb).getD 0), .bool ((zl k kb).isSome)]) O O O (zG O (zG O (zA (zK (zB (zC O (xi (b:=(zl k kb).isSome) O O (zA (ku O (fun c2=> ?_) (fun c2=> ?_))))))))))))))))))))
  ·refine zB (yG (cs:=[Vn 0,Vn 0,yh,Vi 0,Vi 0]) (z:=[Vn 0,Vn 0,yh,Vi 0,Vi 0]) (pl:=[(0,1),(1,1),(2,1),(3,1),(4,1)]) qD qD O (ze 3 O O O (z6 O) O (zG O (zA (zP (yc (cs:=[Vn 0,Vn 0,yh,Vi 0,Vi 0]) (v:=Vi 8) O O O qD (Own.qc (i:=3) O) (fun h c=>⟨LeaD.zero,8,cnt,kl,O,(zSZ r c2).symm,O,O,O,c.sel [0,1,2] O V⟩)))))))
  have y:¬(!(zl k kb).isSome)=true:=by rw[c2];decide
  refine zN (zB (zC O (zC O (zH O O (fun h c=>(zDA b bm lm now cnt kl k h (c.give [0,2] O V)).mono ?_)))))
  rintro _ w1 ⟨a0,rfl,u,hO⟩
  refine fq [0,2] O c hO (zC O (yC (e:=2) (sz:=1) (vs:=[Vi a0,Vi a]) qD O O qJ V O (fun ab=>zH O O (fun h c=>(zON (.slice (some ⟨ab,0,none⟩) 2 2) [a0,a] h O (by show 0≤a0∧a0≤_;rw[u];exact a4) (by show _≤a∧a≤_;exact⟨by omega,ha.2⟩) (c.qh 4 O)).mono ?_))))
  rintro _ w1 ⟨a5,a1,rfl,a3,hO⟩
  have d:=zKP a3 u
  refine(?_:CL _ _ _ _ _ _ (Own w S [_,_,_,_,_])) w1 (c.qb hO)
  refine zC O (zb (vs:=[Vi a5,Vi a1]) O O O (zb (vs:=[Vi a5,Vi a1]) O O O (zG O (zG O (zA (zK (zU (zB (zC O (yd O O O (zG O (zA (zT O (fun m=> ?_) (fun m=> ?_))))))))))))))
  ·refine zB (yG (cs:=[Vn 0,Vn 0,yh,Vi 0,Vi 0]) (z:=[Vn 0,Vn 0,yh,Vi 0,Vi 0]) (pl:=[(0,1),(1,1),(2,1),(3,1),(4,1)]) qD qD O (zC O (ze 1 O O O (z6 O) O (zG O (zA (zP (yc (cs:=[Vn 0,Vn 0,yh,Vi 0,Vi 0]) (v:=Vi a1) O O O qD (Own.qc (i:=1) O) (fun h c=>⟨LeaD.zero,a1,cnt,kl,O,(by rw[(zAK d m).2];exact(zSh r y (zAK d m).1).symm),(by rw[(zAK d m).2];rfl),(by rw[(zAK d m).2];rfl),(by rw[(zAK d m).2];rfl),c.sel [2,0,3] O V⟩))))))))
  refine zB (zC O (zC O (yU O O O (zG O (zA (zT O (fun c4=> ?_) (fun c4=> ?_)))))))
  ·refine zB (yG (cs:=[Vn 0,Vn 0,yh,Vi 0,Vi 0]) (z:=[Vn 0,Vn 0,yh,Vi 0,Vi 0]) (pl:=[(0,1),(1,1),(2,1),(3,1),(4,1)]) qD qD O (ze 1 O O O (z6 O) O (zG O (zA (zP (yc (cs:=[Vn 0,Vn 0,yh,Vi 0,Vi 0]) (v:=Vi 16) O O O qD (Own.qc (i:=1) O) (fun h c=>⟨LeaD.zero,16,cnt,kl,O,(zPa r y (jm d m).1 (by rw[←(jm d m).2];exact c4)).symm,O,O,O,c.sel [2,0,3] O V⟩)))))))
  refine zB (zC O (zV O O (zI (o:=1) O O (zJ 2 (v:= .map (some lm)) O O O O (zCq kK xW (kv:=kl) zEW O (fun h a2=>Own.holds a2 3 _ O) O (xE O O O (zG O (zA (zT O (fun c5=> ?_) (fun c5=> ?_))))))))))
  ·refine zB (yG (cs:=[Vn 0,Vn 0,yh,Vi 0,Vi 0]) (z:=[Vn 0,Vn 0,yh,Vi 0,Vi 0]) (pl:=[(0,1),(1,1),(2,1),(3,1),(4,1)]) qD qD O (ze 1 O O O (z6 O) O (zG O (zA (zP (yc (cs:=[Vn 0,Vn 0,yh,Vi 0,Vi 0]) (v:=Vi 7) O O O qD (Own.qc (i:=1) O) (fun h c=>⟨LeaD.zero,7,cnt,kl,O,(zSj r y (jm d m).1 (by rw[←(jm d m).2];exact c4) c5).symm,O,O,O,c.sel [2,0,3] O V⟩)))))))
  refine zN (zB (zC O (zV O O (zI (o:=3) O O (zJ 2 (v:=Vn cnt) O O O O (zr O O (yp qE) O (zV O O (zI (o:=3) O O (zi (cs:=[.map (some bm), .map (some lm),Vi now,Vn cnt]) 2 O O O O O (zA (zK (zc [0,1,2,3,4] O V qD (fun h c g=>(zD 0 O za g (zD 1 O (zX O) g (zD 2 O (zL (o:=3) O) g (zD 3 O (zZ 2 (v:=Vn (cnt+1)) O O O) g (zD 4 O za g (zD 5 O za g (zD 6 O za g (zD 7 O za g (zD 8 O (zX O) g (zD 9 O (zL (o:=2) O) g (zD 10 O (zZ 2 (v:=Vi now) O O O) g (zD 11 O za g (zD 12 O (xL O O (zt qE)) g (zD 13 O (xU (cs:=[Vn (cnt+1),Vn s, .string k,Vi a,Vi (now+j)]) (z:=[Vn 0,Vn 0,yh,Vi 0,Vi 0]) (pl:=[(0,1),(1,1),(2,1),(3,1),(4,1)]) qD qD) g (zM 14 O c (zk (v:= .agg #[Vn 0,Vn 0,yh,Vi 0,Vi 0]) qD O (fun ae=>zE [0,1,2,3,4] O V (fun h c g=>zM 15 O c (ze 5 O O O (z6 O) O (zE [0,1,2,3,4] O V (fun h c g=>zY ((?_:C _ _ _ _ _ _ _ (Own w S [_,_,_,_,_,_])) _ c)))))))))))))))))))))))))))))))))))
  refine zK (zc [0,1,2,4,5] O V qD (fun h c g=>zD 0 O za g (zD 1 O (zX O) g (zD 2 O (zL (o:=1) O) g (zD 3 O (zZ 2 (v:= .map (some lm)) O O O) g (zD 4 O (zL (o:=0) O) g (zD 5 O (zZ 4 (v:=Vn (cnt+1)) O O O) g (zD 6 O (xB (cs:=[Vn (cnt+1),Vn s, .string k,Vi a,Vi (now+j)]) 4 O O) g (zM 7 O c (jD 3 (k:=cnt+1) (v:=({id:=cnt+1,session:=s,key:=k,amount:=a,until_:=now+j}:LeaD)) zCb zEW O O O O (zE [0,1,2,4,5] O V (fun h c g=>zY ((?_:C _ _ _ _ _ _ _ (Own w S [_,_,_,_,_,_])) _ c)))))))))))))
  refine zB (z1 (cs:=[Vn (cnt+1),Vn s, .string k,Vi a,Vi (now+j)]) 5 O O O (ze 1 O O O (z6 O) O (zG O (zA (zP (yc (cs:=[Vn (cnt+1),Vn s, .string k,Vi a,Vi (now+j)]) (v:=Vi 0) O O O qD (Own.qc (i:=1) O) (fun h c=>⟨⟨cnt+1,s,k,a,now+j⟩,0,cnt+1,yS (cnt+1) ⟨cnt+1,s,k,a,now+j⟩ kl,O,(zSp r y (jm d m).1 (by rw[←(jm d m).2];exact c4) c5).symm,O,O,O,c.sel [2,0,3] O V⟩)))))))
theorem zM6{S:List Nat}(b bm lm:Nat)(now:Int)(cnt:Nat)(kb:List (ByteArray×Int))(kl:List (Nat×LeaD))(s i:Nat)(m:Int)(w:World)(ht:0≤now∧now≤2305843009213693952)(a0:Own w S [Res.row b 183 [.map (some bm), .map (some lm),Vi now,Vn cnt],Res.mp Value.string kS bm kb,Res.mp kK xW lm kl] w):Rets Tryz.prog 86 #[.pointer (some ⟨b,0,none⟩),Vn s,Vn i,Vi m] w fun u_ h=>∃ (x:LeaD) (e:Int) (kl':List (Nat×LeaD)),u_= .tuple #[.agg (LeaD.cells x).toArray,Vi e]∧zA7 now kb kl s i m x e kl'∧Own w S [Res.row b 183 [.map (some bm), .map (some lm),Vi now,Vn cnt],Res.mp Value.string kS bm kb,Res.mp kK xW lm kl'] h:=by
  refine zO Tryz.func86 O Tryz.ntmps86 a0 (zB (zk (v:= .agg #[Vn 0,Vn 0,yh,Vi 0,Vi 0]) qD O (fun b8=>zG O (zA (zK (zB (zC O (yF qD O O O (zC O (zQ O O (zC O (zQ O O (zH O O (fun h g=>((zH6 m h).mono ?_)))))))))))))))
  rintro _ w1 ⟨rfl,r⟩
  refine(?_:CL _ _ _ _ _ _ (Own w S [_,_,_,_])) w1 (g.qb r)
  refine zQ O O (xJ (q:=xF m) O O (y2 O O (zA (zT O (fun p=> ?_) (fun p=> ?_)))))
  ·refine zB (yG (cs:=[Vn 0,Vn 0,yh,Vi 0,Vi 0]) (z:=[Vn 0,Vn 0,yh,Vi 0,Vi 0]) (pl:=[(0,1),(1,1),(2,1),(3,1),(4,1)]) qD qD O (ze 3 O O O (z6 O) O (zG O (zA (zP (yc (cs:=[Vn 0,Vn 0,yh,Vi 0,Vi 0]) (v:=Vi 1) O O O qD (Own.qc (i:=3) O) (fun h g=>⟨LeaD.zero,1,kl,O, .inl ⟨p,O,O,O⟩,g.sel [0,1,2] O V⟩)))))))
  have a1:1≤m∧m≤1099511627776:=Decidable.not_not.1 p
  refine zN (zB (zC O (zC O (zC O (zH O O (fun h g=>(zIH b bm lm now cnt kl s i h (g.give [0,2] O V)).mono ?_))))))
  rintro _ w1 ⟨a,n,rfl,j,r⟩
  refine fq [0,2] O g r (zC O (zb (vs:=[.agg (LeaD.cells a).toArray,Vi n]) O O O (zb (vs:=[.agg (LeaD.cells a).toArray,Vi n]) O O O (zk (v:= .agg #[Vn 0,Vn 0,yh,Vi 0,Vi 0]) qD O (fun a2=>ze 4 O O O (z6 O) O (zG O (zA (zK (zU (zB (zC O (yd O O O (zG O (zA (zT O (fun y=> ?_) (fun y=> ?_))))))))))))))))
  ·refine zB (yG (cs:=[Vn 0,Vn 0,yh,Vi 0,Vi 0]) (z:=[Vn 0,Vn 0,yh,Vi 0,Vi 0]) (pl:=[(0,1),(1,1),(2,1),(3,1),(4,1)]) qD qD O (zC O (ze 1 O O O (z6 O) O (zG O (zA (zP (yc (cs:=[Vn 0,Vn 0,yh,Vi 0,Vi 0]) (v:=Vi n) O O O qD (Own.qc (i:=1) O) (fun h g=>⟨LeaD.zero,n,kl,O,zI2 p j y,g.sel [2,0,3] O V⟩))))))))
  refine zK (zc [0,1,4] O V qD (fun h g d=>zD 0 O za d (zD 1 O (zL (o:=2) O) d (zD 2 O (zZ 2 (v:= .string a.key) O O O) d (zD 4 O za d (zD 5 O (zX O) d (zD 6 O (zL (o:=0) O) d (zD 8 O (zL (o:=2) O) d (zD 9 O (zZ 2 (v:= .string a.key) O O O) d (z2 3 7 ?_ ?_))))))))))
  ·refine zm 3 O g (zH O O (fun h g=>(zDA b bm lm now cnt kl a.key h (g.give [2,3] O V)).mono ?_))
   rintro _ w1 ⟨a3,rfl,l,r⟩
   refine fq [2,3] O g r (zE [0,1,2] O V (fun h g d=>zM 7 O g (zJ 3 (v:= .map (some bm)) O O O O (zE [0,1,2] O V (fun h g d=>zD 10 O (zF5 (k:=a.key) (kv:=kb) (zv:=0) zDp zHc zIW O O (fun h u=>Own.holds u 0 _ O)) d (zD 11 O (zCX O O) d (zD 12 O z7 d (zY ((?_:C _ _ _ _ _ _ _ (Own w S [_,_,_,_,_])) _ g)))))))))
   refine zT O (fun c3=> ?_) (fun c3=> ?_)
   ·refine zB (yG (cs:=[Vn 0,Vn 0,yh,Vi 0,Vi 0]) (z:=[Vn 0,Vn 0,yh,Vi 0,Vi 0]) (pl:=[(0,1),(1,1),(2,1),(3,1),(4,1)]) qD qD O (ze 1 O O O (z6 O) O (zG O (zA (zP (yc (cs:=[Vn 0,Vn 0,yh,Vi 0,Vi 0]) (v:=Vi 16) O O O qD (Own.qc (i:=1) O) (fun h g=>⟨LeaD.zero,16,kl,O,zFN p j y l c3,g.sel [3,0,4] O V⟩)))))))
   refine zN (zK (zc [0,1,3,4] O V qD (fun h g d=>zD 0 O (zL (o:=4) O) d (zD 2 O za d (zD 3 O (zX O) d (zD 4 O (zL (o:=2) O) d (zD 5 O (zZ 2 (v:=Vi now) O O O) d (zD 6 O za d (zD 7 O (xL O O (zt qE)) d (zM 1 O g (zJ 2 (v:=Vi a.until_) O O O O (zE [0,1,3,4] O V (fun h g d=>(zD 8 O (zKn (c:=max a.until_ (now+m)) O O (zLz _ _)) d (zD 9 O (zL (o:=4) O) d (zM 10 O g (zi (cs:=(LeaD.cells a)) 2 O O O O O (zE [0,1,3,4] O V (fun h g d=>zY ((?_:C _ _ _ _ _ _ _ (Own w S [_,_,_,_,_])) _ g))))))))))))))))))))
   refine zK (zc [0,1,2,3] O V qD (fun h g d=>zD 0 O za d (zD 1 O (zX O) d (zD 2 O (zL (o:=1) O) d (zD 3 O (zZ 3 (v:= .map (some lm)) O O O) d (zD 4 O za d (zD 5 O (xB 2 O O) d (zM 6 O g (jD 4 (k:=i) (v:=({a with until_:=max a.until_ (now+m)}:LeaD)) zCb zEW O O O O (zE [0,1,2,3] O V (fun h g d=>zY ((?_:C _ _ _ _ _ _ _ (Own w S [_,_,_,_,_])) _ g))))))))))))
   refine zB (z1 2 O O O (ze 1 O O O (z6 O) O (zG O (zA (zP (yc (cs:=[Vn a.id,Vn a.session, .string a.key,Vi a.amount,Vi (max a.until_ (now+m))]) (v:=Vi 0) O O O qD (Own.qc (i:=1) O) (fun h g=>⟨zAS a (now+m),0,yS i (zAS a (now+m)) kl,O,zHq p j y l c3,g.sel [3,0,4] O V⟩)))))))
  refine zm 7 O g (zJ 2 (v:= .map (some bm)) O O O O (zE [0,1,4] O V (fun h g d=>zD 10 O (zF5 (k:=a.key) (kv:=kb) (zv:=0) zDp zHc zIW O O (fun h u=>Own.holds u 0 _ O)) d (zM 3 O g (zH O O (fun h g=>(zDA b bm lm now cnt kl a.key h (g.give [2,3] O V)).mono ?_))))))
  rintro _ w1 ⟨a4,rfl,l,r⟩
  refine fq [2,3] O g r (zE [0,1,2] O V (fun h g d=>zD 11 O (zCX O O) d (zD 12 O z7 d (zY ((?_:C _ _ _ _ _ _ _ (Own w S [_,_,_,_,_])) _ g)))))
  refine zT O (fun c4=> ?_) (fun c4=> ?_)
  ·refine zB (yG (cs:=[Vn 0,Vn 0,yh,Vi 0,Vi 0]) (z:=[Vn 0,Vn 0,yh,Vi 0,Vi 0]) (pl:=[(0,1),(1,1),(2,1),(3,1),(4,1)]) qD qD O (ze 1 O O O (z6 O) O (zG O (zA (zP (yc (cs:=[Vn 0,Vn 0,yh,Vi 0,Vi 0]) (v:=Vi 16) O O O qD (Own.qc (i:=1) O) (fun h g=>⟨LeaD.zero,16,kl,O,zFN p j y l c4,g.sel [3,0,4] O V⟩)))))))
  refine zN (zK (zc [0,1,3,4] O V qD (fun h g d=>zD 0 O (zL (o:=4) O) d (zD 2 O za d (zD 3 O (zX O) d (zD 4 O (zL (o:=2) O) d (zD 5 O (zZ 2 (v:=Vi now) O O O) d (zD 6 O za d (zD 7 O (xL O O (zt qE)) d (zM 1 O g (zJ 2 (v:=Vi a.until_) O O O O (zE [0,1,3,4] O V (fun h g d=>(zD 8 O (zKn (c:=max a.until_ (now+m)) O O (zLz _ _)) d (zD 9 O (zL (o:=4) O) d (zM 10 O g (zi (cs:=(LeaD.cells a)) 2 O O O O O (zE [0,1,3,4] O V (fun h g d=>zY ((?_:C _ _ _ _ _ _ _ (Own w S [_,_,_,_,_])) _ g))))))))))))))))))))
  refine zK (zc [0,1,2,3] O V qD (fun h g d=>zD 0 O za d (zD 1 O (zX O) d (zD 2 O (zL (o:=1) O) d (zD 3 O (zZ 3 (v:= .map (some lm)) O O O) d (zD 4 O za d (zD 5 O (xB 2 O O) d (zM 6 O g (jD 4 (k:=i) (v:=({a with until_:=max a.until_ (now+m)}:LeaD)) zCb zEW O O O O (zE [0,1,2,3] O V (fun h g d=>zY ((?_:C _ _ _ _ _ _ _ (Own w S [_,_,_,_,_])) _ g))))))))))))
  refine zB (z1 2 O O O (ze 1 O O O (z6 O) O (zG O (zA (zP (yc (cs:=[Vn a.id,Vn a.session, .string a.key,Vi a.amount,Vi (max a.until_ (now+m))]) (v:=Vi 0) O O O qD (Own.qc (i:=1) O) (fun h g=>⟨zAS a (now+m),0,yS i (zAS a (now+m)) kl,O,zHq p j y l c4,g.sel [3,0,4] O V⟩)))))))
theorem zNe{S:List Nat}(b bm lm:Nat)(now:Int)(cnt:Nat)(kl:List (Nat×LeaD))(s i:Nat)(w:World)(j:Own w S [Res.row b 183 [.map (some bm), .map (some lm),Vi now,Vn cnt],Res.mp kK xW lm kl] w):Rets Tryz.prog 87 #[.pointer (some ⟨b,0,none⟩),Vn s,Vn i] w fun m h=>∃ (x:LeaD) (e:Int) (kl':List (Nat×LeaD)),m= .tuple #[.agg (LeaD.cells x).toArray,Vi e]∧zD3 kl s i x e kl'∧Own w S [Res.row b 183 [.map (some bm), .map (some lm),Vi now,Vn cnt],Res.mp kK xW lm kl'] h:=by
  refine zO Tryz.func87 O Tryz.ntmps87 j (zB (zk (v:= .agg #[Vn 0,Vn 0,yh,Vi 0,Vi 0]) qD O (fun p=>zG O (zA (zK (zB (zC O (yF qD O O O (zA (yT O (zN (zB (zC O (zC O (zC O (zH O O (fun h g=>(zIH b bm lm now cnt kl s i h (g.give [0,1] O V)).mono ?_)))))))))))))))))
  rintro _ q ⟨a,c,rfl,d,n⟩
  refine fq [0,1] O g n (zC O (zb (vs:=[.agg (LeaD.cells a).toArray,Vi c]) O O O (zb (vs:=[.agg (LeaD.cells a).toArray,Vi c]) O O O (zk (v:= .agg #[Vn 0,Vn 0,yh,Vi 0,Vi 0]) qD O (fun r=>ze 3 O O O (z6 O) O (zG O (zA (zK (zB (zC O (yR O O O (zA (zT O (fun l=> ?_) (fun l=> ?_))))))))))))))
  ·refine zd (zC O (zV O O (zI (o:=1) O O (zJ 1 (v:= .map (some lm)) O O O O (zC O (zC1 2 (k:=i) zCb zEW O O O (zA (zB (z1 (cs:=(LeaD.cells a)) 3 O O O (zC O (ze 0 O O O (z6 O) O (zG O (zA (zP (yc (cs:=(LeaD.cells a)) (v:=Vi c) O O O qD (Own.qc (i:=0) O) (fun h g=>⟨a,c,jQ i kl,O,zJs d l,g.sel [1,2] O V⟩))))))))))))))))
  refine zN (zB (z1 (cs:=(LeaD.cells a)) 3 O O O (zC O (ze 0 O O O (z6 O) O (zG O (zA (zP (yc (cs:=(LeaD.cells a)) (v:=Vi c) O O O qD (Own.qc (i:=0) O) (fun h g=>⟨a,c,kl,O,zOS d l,g.sel [1,2] O V⟩)))))))))
theorem zOO{S:List Nat}(b bm lm:Nat)(now:Int)(cnt:Nat)(kl:List (Nat×LeaD))(n:Int)(w:World)(ht:0≤now∧now≤2305843009213693952)(hn:x3 n)(x:KNd kl)(hl:kl.length≤128)(z:(kw now n kl).length≤1)(a0:Own w S [Res.row b 183 [.map (some bm), .map (some lm),Vi now,Vn cnt],Res.mp kK xW lm kl] w):Rets Tryz.prog 427 #[.pointer (some ⟨b,0,none⟩),Vi n] w fun u_ m=>∃ (h:Value) (c:List Nat) (e now':Int) (kl':List (Nat×LeaD)),u_= .tuple #[h,Vi e]∧e=kY now n∧now'=yr now n∧kl'=yf now n kl∧Own w S [Res.row b 183 [.map (some bm), .map (some lm),Vi now',Vn cnt],Res.mp kK xW lm kl',Res.vec 31 1 h c.length (c.flatMap U1)] m:=by
  refine zO Tryz.func427 O Tryz.ntmps427 a0 (zB (zG O (zG O (zA (zK (zU (zB (zC O (yF qD O O O (zC O (zQ O O (zC O (zQ O O (zy O O O (y2 O O (zC O (yK (q:=n<0) 2 6 [17,16] (1099511627776<n) O O O O O O trivial O (fun r=> ?_) (fun a3=> ?_))))))))))))))))))
  ·refine zQ O (gF r) (zC O (zQ O (gF r) (yU O O O (z8 O (fun _ d=>d)))))
  refine zG O (zA (zT O (fun i=> ?_) (fun i=> ?_)))
  ·refine zB (zG O (zG O (zA (zP (yg (v:=zW) (v':=Vi 1) O O O (fun m d=>⟨.slice none 0 0,[],1,now,kl,O,(jk (kl:=kl) (zHd i) V).1,(jk (kl:=kl) (zHd i) V).2.1,(jk (kl:=kl) (zHd i) V).2.2.1,(zq d 31 1)⟩))))))
  refine zB (zC O (zV O O (zI (o:=2) O O (zJ 0 (v:=Vi now) O O O O (zC O (y5 O O (zt qE) O (yU O O O (zG O (zA (zT O (fun s=> ?_) (fun s=> ?_)))))))))))
  ·refine zB (zG O (zG O (zA (zP (yg (v:=zW) (v':=Vi 3) O O O (fun m d=>⟨.slice none 0 0,[],3,now,kl,O,(jk (kl:=kl) (zHK i s) V).1,(jk (kl:=kl) (zHK i s) V).2.1,(jk (kl:=kl) (zHK i s) V).2.2.1,(zq d 31 1)⟩))))))
  refine zN (zB (zC O (zV O O (zI (o:=2) O O (zJ 0 (v:=Vi now) O O O O (zC O (zr O O (zt qE) O (zV O O (zI (o:=2) O O (zi (cs:=[.map (some bm), .map (some lm),Vi now,Vn cnt]) 0 O O O O O (zA (zK (zB (zC O (zV O O (zI (o:=1) O O (zJ 0 (v:= .map (some lm)) O O O O (ji 1 zEW O O O (fun y=>zA (zU (zIj (fun(a kv:List (Nat×LeaD)) (h:Value) (c:List Nat)=>[(0, .pointer (some ⟨b,0,none⟩)),(4,h),(39, .pointer (some ⟨y,0,none⟩))]) (fun(a kv:List (Nat×LeaD)) (h:Value) (c:List Nat)=>PassI (now+n) kl a kv c) (fun(a kv:List (Nat×LeaD)) (h:Value) (c:List Nat)=>[Res.row b 183 [.map (some bm), .map (some lm),Vi (now+n),Vn cnt],Res.rg kK xW lm y kv a,Res.vec 31 1 h c.length (c.flatMap U1)]) (fun(a kv:List (Nat×LeaD)) (h:Value) (c:List Nat)=>a.length) (fun m d=>⟨kl,kl,zW,[],⟨O,O,O,trivial⟩,PassI.start _ _,(zq d 31 1)⟩) (fun a kv h c g u=> ?_))))))))))))))))))))))
  have a4:c.length≤128:=Nat.le_trans (PassI.len u) hl
  refine zB (zAl 1 O O O (fun p=> ?_) (fun q1 k v q2 j=> ?_))
  ·refine zb (vs:=[zu]) O O O (zA (zK (yT O (zz O (zB (zC O (zH O O (fun m d=>(zHx h c m (by rw[(u.done p x (zEi i s)).2.2.2.length_eq];exact z) (d.give [2] O V)).mono ?_))))))))
   rintro _ w1 ⟨rfl,hO⟩
   refine fq [2] O d hO (zA (zB (zC O (zG O (zG O (zA (zP (yg (v:=h) (v':=Vi 0) O O O (fun m d=>⟨h,c,0,now+n,kv,O,(u.done p x (zEi i s)).1,(u.done p x (zEi i s)).2.1,(u.done p x (zEi i s)).2.2.1,(Own.rgEnd 1 d O)⟩)))))))))
  refine zb (vs:=[xl,Vn k, .agg (LeaD.cells v).toArray]) O O O (zA (zK (x2 O (zN (zU (zB (jo 1 O O O (zb (vs:=[Vn k, .agg (LeaD.cells v).toArray]) O O O (zb (vs:=[Vn k, .agg (LeaD.cells v).toArray]) O O O (zk (v:= .agg #[Vn 0,Vn 0,yh,Vi 0,Vi 0]) qD O (fun b7=>zG O (ze 3 O O O (z6 O) O (zA (yZ qD qD (zR O (zL (o:=4) O) (zR O (zZ 3 (v:=Vi v.until_) O O O) (zR O za (zR O (zX O) (zR O (zL (o:=2) O) (zR O (zZ 0 (v:=Vi (now+n)) O O O) (zR O (zIe O O) (xP (zT O (fun c5=> ?_) (fun c5=> ?_))))))))))))))))))))))))
  ·refine zB (zC O (zC O (yC (e:=31) (sz:=1) (vs:=[Vn k]) qD O O qJ V O (fun a5=>yE (g:=U1) (sz:=1) (by':=8) (fun _=>O) (l:=c) (l':=[k]) (by simp[cell1,U1]) 2 qD O O O (fun m a1=>Vec.sl (Own.holds a1 4 _ O)) qF V O (fun a2=>zG O (zA (zd (zC O (zV O O (zI (o:=1) O O (zJ 0 (v:= .map (some lm)) O O O O (zC O (zKj 1 (k:=k) zCb zEW O O O (u.out x j) (zw (fun m d=>⟨q1++q2,jQ k kv,a2,c++[k],⟨O,O,O,trivial⟩,u.yes x j c5,d.sel [0,1,2] O V,(by rw[j,List.length_append,List.length_append,List.length_cons];omega)⟩)))))))))))))))
  exact xy (fun m d=>⟨q1++q2,kv,h,c,⟨O,O,O,trivial⟩,u.no j c5,d.sel [0,1,2] O V,(by rw[j,List.length_append,List.length_append,List.length_cons];omega)⟩)
end Go.Proofs.YtmpaljnacfidaaaGreatDoor
