import Derived.Test.YthpoddkmhfhboaaGreatDoorOne
set_option linter.unusedSimpArgs false
set_option linter.unusedVariables false
set_option maxRecDepth 10000
namespace Go.Proofs.YthpoddkmhfhboaaGreatDoor
open Go.Sc
def xf(l:LeaD):Value:= .agg l.cells.toArray
def xr(n:Nat):Value:= .int .u64 n
def kh(n:Int):Value:= .int .i64 n
theorem zEG:KeyL Tryz.prog 9 Value.string:=zM6 qF
theorem zCh:KeyL Tryz.prog 31 xr:=zGY qF
theorem zHC:kU Tryz.prog 264=some (9,2):=by kernel_rfl
theorem zFR:kU Tryz.prog 266=some (31,271):=by kernel_rfl
theorem zIL:x2 Tryz.prog 2=some (kh 0):=by kernel_rfl
theorem zSn:x2 Tryz.prog 271=some (xf LeaD.zero):=by kernel_rfl
def zBV(k:ByteArray)(kl:List (Nat×LeaD)):Int:=kd k (kl.map (·.2))
theorem zMn{k:ByteArray}{kl:List (Nat×LeaD)}{n:Int}(h:n=IntKind.i64.wrap (zBV k kl - zBV k [])):n=yi k kl:=by
 rw[h];simp[zBV,kd,yi,zCl]
theorem zNC{k:ByteArray}{kl todo q1 q2:List (Nat×LeaD)}{i:Nat}{v:LeaD}{n:Int}(h:n=IntKind.i64.wrap (zBV k kl - zBV k todo))(a:todo=q1++(i,v)::q2)(b:v.key=k):IntKind.i64.wrap (n+v.amount)=IntKind.i64.wrap (zBV k kl - zBV k (q1++q2)):=by
 rw[h,zLp,a];unfold zBV;rw[zCm,if_pos b];congr 1;omega
theorem zOe{k:ByteArray}{kl todo q1 q2:List (Nat×LeaD)}{i:Nat}{v:LeaD}{n:Int}(h:n=IntKind.i64.wrap (zBV k kl - zBV k todo))(a:todo=q1++(i,v)::q2)(b:¬ v.key=k):n=IntKind.i64.wrap (zBV k kl - zBV k (q1++q2)):=by
 rw[h,a];unfold zBV;rw[zCm,if_neg b];congr 1;omega
theorem zI9(k:ByteArray)(w:World):Rets Tryz.prog 396 #[.string k] w fun e c=>e= .bool (decide (x1 k))∧Own w [] [] c:=by
 refine zO Tryz.func396 O Tryz.ntmps396 (Own.start w)<|zB<|zF O<|zA<|zB<|zC O<|zK4 O O O<|zC O<|yA (q:=k≠yEb) 3 2 [8,7,6] (((k.size:Nat):Int)≤64) O O O O O O trivial O (fun a=> ?_)<|fun d=> ?_
 ·refine zQ O (gT a)<|zC O<|zQ O (gT a)<|zCa qF O O<|zQ O (gT a)<|yx O O O<|z8 O<|fun _ b=>b
 refine zF O<|zA<|zP<|zm (v:= .bool (decide ((k≠yEb)∧(((k.size:Nat):Int)≤64)))) O O<|fun c b=>⟨(by congr 1;exact decide_eq_decide.2 (by unfold x1;rw[zS5];omega)),b.drop⟩
theorem zIb(n:Int)(w:World):Rets Tryz.prog 576 #[Vi n] w fun e c=>e= .bool (decide (xO n))∧Own w [] [] c:=by
 refine zO Tryz.func576 O Tryz.ntmps576 (Own.start w)<|zB<|zF O<|zA<|zB<|zC O<|xJ O O O<|zC O<|yA (q:=1≤n) 2 2 [7,6] (n≤1099511627776) O O O O O O trivial O (fun a=> ?_)<|fun d=> ?_
 ·refine zQ O (gT a)<|zC O<|zQ O (gT a)<|yx O O O<|z8 O<|fun _ b=>b
 refine zF O<|zA<|zP<|zm (v:= .bool (decide ((1≤n)∧(n≤1099511627776)))) O O<|fun c b=>⟨O,b.drop⟩
theorem zDu{S:List Nat}(b bm lm:Nat)(now:Int)(cnt:Nat)(kl:List (Nat×LeaD))(k:ByteArray)(w:World)(j:Own w S [Res.row b 268 [.map (some bm), .map (some lm),Vi now,Vn cnt],Res.mp xr xf lm kl] w):Rets Tryz.prog 397 #[.pointer (some ⟨b,0,none⟩), .string k] w fun q h=>∃ (n:Int),q=Vi n∧n=yi k kl∧Own w S [Res.row b 268 [.map (some bm), .map (some lm),Vi now,Vn cnt],Res.mp xr xf lm kl] h:=by
 refine zO Tryz.func397 O Tryz.ntmps397 j<|zB<|zF O<|zA<|zB<|zF O<|zA<|zK<|zB<|zC O<|zV O O<|zI (o:=1) O O<|zJ 0 (v:= .map (some lm)) O O O O<|jU 1 zFR O O O<|fun i=>(zA<|zU<|xD (fun(a:List (Nat×LeaD)) (n:Int)=>[(1, .string k),(5,Vi n),(12, .pointer<|some ⟨i,0,none⟩)]) (fun(a:List (Nat×LeaD)) (n:Int)=>n=IntKind.i64.wrap (zBV k kl - zBV k a)) (fun(a:List (Nat×LeaD)) (n:Int)=>[Res.row b 268 [.map (some bm), .map (some lm),Vi now,Vn cnt],Res.rg xr xf lm i kl a]) (fun(a:List (Nat×LeaD)) (n:Int)=>a.length) (fun h e=>⟨kl,0,⟨O,O,O,trivial⟩,(by rw[Int.sub_self];decide),e⟩)<|fun a n g l=>(zB<|zAD 1 O O O (fun m=> ?_)<|fun q1 k v q2 d=> ?_))
 ·refine zb (vs:=[yC]) O O O<|zA<|zK<|yW O<|zw O<|zB<|zC O<|zF O<|zA<|zP<|zm (v:=Vi n) O O<|fun h e=>⟨n,O,zMn<|m▸l,(Own.rgEnd 1 e O)⟩
 refine zb (vs:=[xx,Vn k, .agg (LeaD.cells v).toArray]) O O O<|zA<|zK<|x0 O<|zN<|zU<|zB<|ja 1 O O O<|zb (vs:=[Vn k, .agg (LeaD.cells v).toArray]) O O O<|zk (v:= .agg #[Vn 0,Vn 0,ym,Vi 0,Vi 0]) qF O<|fun r=>zf 2 O O O (zz O) O<|zA<|zB<|zI (o:=2) O O<|zJ 2 (v:= .string v.key) O O O O<|zC O<|zEq O O O<|zA<|zT O (fun p=> ?_)<|fun p=> ?_
 ·refine ze<|zC O<|zI (o:=3) O O<|zJ 2 (v:=Vi v.amount) O O O O<|zr (c:=IntKind.i64.wrap (n+v.amount)) O O O O<|zF O<|zx<|fun h e=>⟨q1++q2,IntKind.i64.wrap (n+v.amount),⟨O,O,O,trivial⟩,zNC l d p,e.sel [0,1] O V,(by rw[d,List.length_append,List.length_append,List.length_cons];omega)⟩
 exact x4<|fun h e=>⟨q1++q2,n,⟨O,O,O,trivial⟩,zOe l d p,e.sel [0,1] O V,(by rw[d,List.length_append,List.length_append,List.length_cons];omega)⟩
def zBH(kl:List (Nat×LeaD))(s i:Nat)(x:LeaD)(e:Int):Prop:=
 (e=17∧x=LeaD.zero∧∀ l,zl i kl=some l→l.session≠s)∨(e=0∧zl i kl=some x∧x.session=s)
theorem zN4{kl:List (Nat×LeaD)}{s i:Nat}(h:(!(zl i kl).isSome)=true∨((((zl i kl).getD LeaD.zero).session:Nat):Int)≠((s:Nat):Int)):zBH kl s i LeaD.zero 17:=by
 refine .inl ⟨O,O,fun l hl=> ?_⟩
 rw[hl]at h
 rcases h with h|h
 · cases h
 intro e;exact h (by rw[Option.getD_some,e])
theorem zLI{kl:List (Nat×LeaD)}{s i:Nat}(h:¬((!(zl i kl).isSome)=true∨((((zl i kl).getD LeaD.zero).session:Nat):Int)≠((s:Nat):Int))):zBH kl s i ((zl i kl).getD LeaD.zero) 0:=by
 cases hl:zl i kl with
 |none=>rw[hl]at h;exact absurd (.inl rfl) h
 |some l=>
   rw[hl,Option.getD_some]at h
   exact .inr ⟨O,hl,Decidable.by_contra fun(q:¬ l.session=s)=>h<|.inr fun e=>q qG⟩
theorem zFq{kl:List (Nat×LeaD)}{s i:Nat}{x:LeaD}{e:Int}(h:zBH kl s i x e)(a:e≠0):e=17∧x=LeaD.zero∧∀ l,zl i kl=some l→l.session≠s:=by
 rcases h with h|h
 · exact h
 exact absurd h.1 a
theorem zE3{kl:List (Nat×LeaD)}{s i:Nat}{x:LeaD}{e:Int}(h:zBH kl s i x e)(a:¬ e≠0):zl i kl=some x∧x.session=s:=by
 rcases h with h|h
 · rw[h.1]at a;exact absurd V a
 exact h.2
theorem zPV{kl:List (Nat×LeaD)}{s i:Nat}{x:LeaD}{e:Int}(h:zBH kl s i x e)(a:¬ e=0):zJG kl s i x e kl:=by
 have:=zFq h a;exact .inl ⟨this.2.2,this.1,this.2.1,rfl⟩
theorem zLa{kl:List (Nat×LeaD)}{s i:Nat}{x:LeaD}{e:Int}(h:zBH kl s i x e)(a:e=0):zJG kl s i x e (zAF i kl):=by
 have:=zE3 h (fun q=>q a);exact .inr ⟨x,this.1,this.2,a,rfl,rfl⟩
theorem zKM{now:Int}{kb:List (ByteArray×Int)}{kl:List (Nat×LeaD)}{s i:Nat}{sp:Int}{x:LeaD}{e:Int}(a:¬ ¬ xO sp)(h:zBH kl s i x e)(b:e≠0):zDI now kb kl s i sp LeaD.zero e kl:=by
 have:=zFq h b;exact .inr (.inl ⟨Decidable.not_not.1 a,this.2.2,this.1,rfl,rfl⟩)
theorem zGh{now:Int}{kb:List (ByteArray×Int)}{kl:List (Nat×LeaD)}{s i:Nat}{sp n:Int}{x:LeaD}{e:Int}(a:¬ ¬ xO sp)(h:zBH kl s i x e)(b:¬ e≠0)(c:n=yi x.key kl)(d:(zl x.key kb).getD 0<n):zDI now kb kl s i sp LeaD.zero 16 kl:=by
 have:=zE3 h b;exact .inr (.inr ⟨Decidable.not_not.1 a,x,this.1,this.2, .inl ⟨c▸d,rfl,rfl,rfl⟩⟩)
theorem zIk{now:Int}{kb:List (ByteArray×Int)}{kl:List (Nat×LeaD)}{s i:Nat}{sp n:Int}{x:LeaD}{e:Int}(a:¬ ¬ xO sp)(h:zBH kl s i x e)(b:¬ e≠0)(c:n=yi x.key kl)(d:¬(zl x.key kb).getD 0<n):zDI now kb kl s i sp (zAo x (now+sp)) 0 (yZ i (zAo x (now+sp)) kl):=by
 have:=zE3 h b;exact .inr (.inr ⟨Decidable.not_not.1 a,x,this.1,this.2, .inr ⟨by rw[c]at d;omega,rfl,rfl,rfl⟩⟩)
theorem zIX{S:List Nat}(b bm lm:Nat)(now:Int)(cnt:Nat)(kl:List (Nat×LeaD))(s i:Nat)(w:World)(g:Own w S [Res.row b 268 [.map (some bm), .map (some lm),Vi now,Vn cnt],Res.mp xr xf lm kl] w):Rets Tryz.prog 577 #[.pointer (some ⟨b,0,none⟩),Vn s,Vn i] w fun m d=>∃ (x:LeaD) (e:Int),m= .tuple #[.agg (LeaD.cells x).toArray,Vi e]∧zBH kl s i x e∧Own w S [Res.row b 268 [.map (some bm), .map (some lm),Vi now,Vn cnt],Res.mp xr xf lm kl] d:=by
 refine zO Tryz.func577 O Tryz.ntmps577 g<|zB<|zk (v:= .agg #[Vn 0,Vn 0,ym,Vi 0,Vi 0]) qF O<|fun n=>zF O<|zA<|zB<|zC O<|zV O O<|zI (o:=1) O O<|zJ 0 (v:= .map (some lm)) O O O O<|zC O<|zD4 (k:=i) (kv:=kl) (zv:=LeaD.zero) zCh zFR zSn O O (fun d h=>Own.holds h 1 _ O) O<|zC O<|zb (vs:=[.agg (LeaD.cells<|(zl i kl).getD LeaD.zero).toArray, .bool ((zl i kl).isSome)]) O O O<|zb (vs:=[.agg (LeaD.cells<|(zl i kl).getD LeaD.zero).toArray, .bool ((zl i kl).isSome)]) O O O<|zk (v:= .agg #[Vn 0,Vn 0,ym,Vi 0,Vi 0]) qF O<|fun p=>zf 3 O O O (zz O) O<|zF O<|zA<|zK<|zB<|zC O<|xo (b:=(zl i kl).isSome) O O<|zC O<|yP (q:=(!((zl i kl).isSome))=true) 4 2 [25,24,23,22] (((((zl i kl).getD LeaD.zero).session:Nat):Int)≠((s:Nat):Int)) O O (y2 _) O O O trivial O (fun a=> ?_)<|fun l=> ?_
 ·refine zQ O (bF a)<|zI (o:=1) O O<|zQ O (bF a)<|zJ 3 (v:=Vn (((zl i kl).getD LeaD.zero).session)) O O O O<|zQ O (bF a)<|zC O<|zQ O (bF a)<|yf O O O<|z8 O<|fun _ c=>c
 refine zA<|zT O (fun j=> ?_)<|fun j=> ?_
 ·refine zB<|yJ (cs:=[Vn 0,Vn 0,ym,Vi 0,Vi 0]) (z:=[Vn 0,Vn 0,ym,Vi 0,Vi 0]) (pl:=[(0,1),(1,1),(2,1),(3,1),(4,1)]) qF qF O<|zf 2 O O O (zz O) O<|zF O<|zA<|zP<|yk (cs:=[Vn 0,Vn 0,ym,Vi 0,Vi 0]) (v:=Vi 17) O O O qF (Own.qd (i:=2) O)<|fun d c=>⟨LeaD.zero,17,O,zN4 j,c.sel [0,1] O V⟩
 refine zN<|zB<|z6 (cs:=(LeaD.cells<|(zl i kl).getD LeaD.zero)) 3 O O O<|zf 2 O O O (zz O) O<|zF O<|zA<|zP<|yk (cs:=(LeaD.cells<|(zl i kl).getD LeaD.zero)) (v:=Vi 0) O O O qF (Own.qd (i:=2) O)<|fun d c=>⟨(zl i kl).getD LeaD.zero,0,O,zLI j,c.sel [0,1] O V⟩
theorem zT3(a c:Int)(w:World)(p:0≤a∧a≤9223372036854775807)(r: -9223372036854775808≤c∧c≤9223372036854775807):Rets Tryz.prog 36 #[Vi a,Vi c] w fun m i=>∃ (n e:Int),m= .tuple #[Vi n,Vi e]∧((9223372036854775807<a+c∧e=3∧n=0)∨(a+c≤9223372036854775807∧e=0∧n=a+c))∧Own w [] [] i:=by
 refine zO Tryz.func36 O Tryz.ntmps36 (Own.start w)<|zB<|zF O<|zF O<|zA<|zK<|zB<|zC O<|yY O O O<|zC O<|yA (q:=0<c) 4 2 [12,11,10,9] ((9223372036854775807 - c)<a) O O O O O O trivial O (fun d=> ?_)<|fun l=> ?_
 ·refine zQ O (gT d)<|zC O<|zQ O (gT d)<|zC O<|zQ O (gT d)<|y9 O O (zt qG) O<|zQ O (gT d)<|yY O O O<|z8 O<|fun _ h=>h
 refine zC O<|yP (q:=(0<c)∧((9223372036854775807 - c)<a)) 8 8 [22,21,20,19,18,17,16,15] ((c<0)∧(a<((-9223372036854775808) - c))) O O O O O O trivial O (fun g=> ?_)<|fun j=> ?_
 ·refine zQ O (gF g)<|zC O<|zQ O (gF g)<|zu O O O<|zQ O (gF g)<|zC O<|yA (q:=c<0) 4 11 [21,20,19,18] (a<((-9223372036854775808) - c)) O O O O O O ⟨_,O,O,gF g⟩ O (fun b=> ?_)<|fun k=> ?_
  ·refine zQ O (gT b)<|zC O<|zQ O (gT b)<|zC O<|zQ O (gT b)<|y9 O O (zt qG) O<|zQ O (gT b)<|zu O O O<|z8 O<|fun _ h=>h
  exact z8 O<|fun _ h=>h
 refine zA<|zT O (fun o=> ?_)<|fun o=> ?_
 ·refine zB<|zF O<|zF O<|zA<|zP<|yg (v:=Vi 0) (v':=Vi 3) O O O<|fun i h=>⟨0,3,O, .inl ⟨by omega,O,O⟩,h.drop⟩
 refine zN<|zB<|zC O<|zC O<|zr O O (zt qG) O<|zF O<|zF O<|zA<|zP<|yg (v:=Vi (a+c)) (v':=Vi 0) O O O<|fun i h=>⟨a+c,0,O, .inr ⟨by omega,O,O⟩,h.drop⟩
theorem zOR(v:Value)(l:List Int)(w:World)(hl:l.length=2)(r:0≤zc l 0∧zc l 0≤9223372036854775807)(h1: -9223372036854775808≤zc l 1∧zc l 1≤9223372036854775807)(hv:Rd w [] (Res.sl v l.length (l.flatMap I1))):Rets Tryz.prog 35 #[v] w fun u j=>∃ (n e:Int),u= .tuple #[Vi n,Vi e]∧((9223372036854775807<zc l 0+zc l 1∧e=3∧n=0)∨(zc l 0+zc l 1≤9223372036854775807∧e=0∧n=zc l 0+zc l 1))∧Own w [] [] j:=by
 refine zO Tryz.func35 O Tryz.ntmps35 (Own.start w)<|zB<|zF O<|zF O<|zA<|zB<|zF O<|zA<|zK<|zB<|zC O<|zn (pR hv) O O<|zC O<|zA<|zU<|xD (fun(k:Nat) (n:Int)=>[(4,Vi n),(8,v),(9,Vj l.length),(10,Vj k)]) (fun(k:Nat) (n:Int)=>k≤2∧((k=0→n=0)∧(k=1→n=zc l 0)∧(k=2→n=zc l 0+zc l 1))∧((k<2→0≤n)∧n≤9223372036854775807)) (fun(k:Nat) (n:Int)=>[]) (fun(k:Nat) (n:Int)=>2 - k) (fun j c=>⟨0,0,⟨O,O,O,O,trivial⟩,⟨by omega,⟨fun _=>O,by omega,by omega⟩,⟨fun _=>by omega,by omega⟩⟩,c⟩)<|fun k n g s=> ?_
 have x:=s.1
 have b:=s.2.1
 have p:=s.2.2
 refine zB<|zu O O O<|zA<|zK<|zT O (fun y=> ?_)<|fun y=> ?_
 ·have d:k<2:=by omega
  have m:(k=0→zc l k=zc l 0)∧(k=1→zc l k=zc l 1):=⟨fun h=>by rw[h],fun h=>by rw[h]⟩
  have t: -9223372036854775808≤zc l k∧zc l k≤9223372036854775807:=by rcases(show k=0∨k=1 by omega)with h|h<;>rw[h]<;>omega
  refine zN<|zK<|zU<|zB<|yL (pR hv) 1 k O O O qG O<|xC (pR hv) 1 k 0 (fun _=>O) O O qG O O<|zF O<|zA<|zB<|zF O<|zA<|zB<|zC O<|zC O<|zG O O<|fun j c=>(zT3 n (zc l k) j ⟨p.1 d,p.2⟩ t).mono ?_
  rintro _ z ⟨o,i,rfl,a,hO⟩
  refine(?_:CL _ _ _ _ _ _ (Own w [] [])) z<|c.qb hO
  refine zC O<|zb (vs:=[Vi o,Vi i]) O O O<|zb (vs:=[Vi o,Vi i]) O O O<|zF O<|zF O<|zA<|zB<|zC O<|yf O O O<|zA<|zT O (fun q=> ?_)<|fun q=> ?_
  ·refine zB<|zC O<|zF O<|zF O<|zA<|zP<|yg (v:=Vi 0) (v':=Vi i) O O O<|fun j c=>⟨0,i,O, .inl ⟨((zD7 d b m a r h1).1 q).1,((zD7 d b m a r h1).1 q).2,O⟩,c.drop⟩
  refine zN<|ze<|zr O O (zt qG) O<|zC O<|zx<|fun j c=>⟨k+1,o,⟨O,O,O,O,trivial⟩,⟨by omega,(zD7 d b m a r h1).2 q⟩,c,qG⟩
 refine zw O<|zB<|zC O<|zF O<|zF O<|zA<|zP<|yg (v:=Vi n) (v':=Vi 0) O O O<|fun j c=>⟨n,0,O, .inr ⟨by have:=b.2.2 qG;omega,O,b.2.2 qG⟩,c.drop⟩
theorem zRT{S:List Nat}(b bm lm:Nat)(now:Int)(cnt:Nat)(kb:List (ByteArray×Int))(kl:List (Nat×LeaD))(k:ByteArray)(a:Int)(w:World)(x:Own w S [Res.row b 268 [.map (some bm), .map (some lm),Vi now,Vn cnt],Res.mp Value.string kh bm kb,Res.mp xr xf lm kl] w):Rets Tryz.prog 542 #[.pointer (some ⟨b,0,none⟩), .string k,Vi a] w fun u_ h=>∃ (n e:Int) (kb':List (ByteArray×Int)),u_= .tuple #[Vi n,Vi e]∧e=ju k a kb∧kb'=zFQ k a kb∧(n=if e=0 then yi k kl else 0)∧Own w S [Res.row b 268 [.map (some bm), .map (some lm),Vi now,Vn cnt],Res.mp Value.string kh bm kb',Res.mp xr xf lm kl] h:=by
 refine zO Tryz.func542 O Tryz.ntmps542 x<|zB<|zF O<|zF O<|zA<|zK<|zB<|zC O<|yE qF O O O<|zC O<|zQ O O<|zC O<|zQ O O<|zG O O<|fun h d=>((zI9 k h).mono ?_)
 rintro _ y ⟨rfl,p⟩
 refine(?_:CL _ _ _ _ _ _ (Own w S [_,_,_])) y<|d.qb p
 refine zQ O O<|xQ (q:=x1 k) O O<|xA O O<|zC O<|yP (q:=¬(x1 k)) 2 7 [19,18] (a<0) O O O O O O trivial O (fun j=> ?_)<|fun z=> ?_
 ·refine zQ O (gF j)<|zC O<|zQ O (gF j)<|zu O O O<|z8 O<|fun _ d=>d
 refine zA<|zT O (fun i=> ?_)<|fun i=> ?_
 ·refine zB<|zF O<|zF O<|zA<|zP<|yg (v:=Vi 0) (v':=Vi 1) O O O<|fun h d=>⟨0,1,kb,O,(zEN i).symm,zF2 (zEN i) V,O,d⟩
 refine zN<|zB<|zC O<|zV O O<|zI (o:=0) O O<|zJ 0 (v:= .map (some bm)) O O O O<|zC O<|zD4 (k:=k) (kv:=kb) (zv:=0) zEG zHC zIL O O (fun h l=>Own.holds l 1 _ O) O<|zC O<|zb (vs:=[Vi ((zl k kb).getD 0), .bool ((zl k kb).isSome)]) O O O<|zb (vs:=[Vi ((zl k kb).getD 0), .bool ((zl k kb).isSome)]) O O O<|zF O<|zF O<|zA<|zK<|zU<|zB<|zC O<|yT O O O<|zF O<|zA<|zT O (fun m=> ?_)<|fun m=> ?_
 ·refine ze<|zC O<|zV O O<|zI (o:=0) O O<|zJ 0 (v:= .map (some bm)) O O O O<|zC O<|zDW 1 (k:=k) zEG zHC O O O<|zA<|zB<|zC O<|zC O<|zG O O<|fun h d=>(zDu b bm lm now cnt kl k h<|d.give [0,2] O V).mono ?_
  rintro _ y ⟨r,rfl,g,p⟩
  refine fq [0,2] O d p<|zF O<|zF O<|zA<|zP<|yg (v:=Vi r) (v':=Vi 0) O O O<|fun h d=>⟨r,0,zAF k kb,O,(zEX i m).symm,zLT (zEX i m) m,g,d.sel [1,0,2] O V⟩
 refine zB<|zC O<|xo (b:=(zl k kb).isSome) O O<|zC O<|yA (q:=(!((zl k kb).isSome))=true) 6 2 [53,52,51,50,49,48] (64≤((kb.length:Nat):Int)) O O (y2 _) O O O trivial O (fun c=> ?_)<|fun a0=> ?_
 ·refine zQ O (bT c)<|zC O<|zQ O (bT c)<|zV O O<|zQ O (bT c)<|zI (o:=0) O O<|zQ O (bT c)<|zJ 0 (v:= .map (some bm)) O O O O<|zQ O (bT c)<|zDC Value.string kh (kv:=kb) zHC O (fun h l=>Own.holds l 1 _ O) O<|zQ O (bT c)<|xJ O O O<|z8 O<|fun _ d=>d
 refine zF O<|zA<|zT O (fun s=> ?_)<|fun s=> ?_
 ·refine zB<|zF O<|zF O<|zA<|zP<|yg (v:=Vi 0) (v':=Vi 7) O O O<|fun h d=>⟨0,7,kb,O,(zDf i m s).symm,zF2 (zDf i m s) V,O,d⟩
 refine ze<|zC O<|zV O O<|zI (o:=0) O O<|zJ 0 (v:= .map (some bm)) O O O O<|zC O<|zC O<|jC 1 (k:=k) (v:=a) zEG zHC O O O O<|zA<|zB<|zC O<|zC O<|zG O O<|fun h d=>((zDu b bm lm now cnt kl k h<|d.give [0,2] O V).mono ?_)
 rintro _ y ⟨u,rfl,g,p⟩
 refine fq [0,2] O d p<|zF O<|zF O<|zA<|zP<|yg (v:=Vi u) (v':=Vi 0) O O O<|fun h d=>⟨u,0,yZ k a kb,O,(zEj i s).symm,zMJ (zEj i s) m,g,d.sel [1,0,2] O V⟩
theorem zRW(w:World):Rets Tryz.prog 126 #[] w fun g a=>∃ (b bm lm:Nat),g= .pointer (some ⟨b,0,none⟩)∧Own w [] [Res.row b 268 [.map (some bm), .map (some lm),Vi 0,Vn 0],Res.mp Value.string kh bm ([]:List (ByteArray×Int)),Res.mp xr xf lm ([]:List (Nat×LeaD))] a:=by
 refine zO Tryz.func126 O Tryz.ntmps126 (Own.start w)<|zB<|zF O<|zA<|zB<|xl (α:=Int) Value.string kh O O<|fun c=>xl (α:=LeaD) xr xf O O<|fun d=>yJ (cs:=[.map (some c), .map (some d),Vi 0,Vn 0]) (z:=[.map none, .map none,Vi 0,Vn 0]) (pl:=[(0,1),(1,1),(2,1),(3,1)]) qF qF O<|zj O O<|fun e=>zF O<|zA<|zP<|zm (v:= .pointer (some ⟨e,0,none⟩)) O O<|fun a h=>⟨e,c,d,O,h.sel [2,0,1] O V⟩
theorem zRG{S:List Nat}(b bm lm:Nat)(now:Int)(cnt:Nat)(kb:List (ByteArray×Int))(kl:List (Nat×LeaD))(s:Nat)(k:ByteArray)(a j:Int)(w:World)(a4:0≤yi k kl∧yi k kl≤9223372036854775807)(ha:kE a)(ht:0≤now∧now≤2305843009213693952)(hc:cnt≤1000000000)(a6:Own w S [Res.row b 268 [.map (some bm), .map (some lm),Vi now,Vn cnt],Res.mp Value.string kh bm kb,Res.mp xr xf lm kl] w):Rets Tryz.prog 544 #[.pointer (some ⟨b,0,none⟩),Vn s, .string k,Vi a,Vi j] w fun u_ h=>∃ (x:LeaD) (e:Int) (cnt':Nat) (kl':List (Nat×LeaD)),u_= .tuple #[.agg (LeaD.cells x).toArray,Vi e]∧e=xe s k a j kb kl∧x=zDK e cnt s k a (now+j)∧cnt'=zMe e cnt∧kl'=zIm e x kl∧Own w S [Res.row b 268 [.map (some bm), .map (some lm),Vi now,Vn cnt'],Res.mp Value.string kh bm kb,Res.mp xr xf lm kl'] h:=by
 refine zO Tryz.func544 O Tryz.ntmps544 a6<|zB<|zk (v:= .agg #[Vn 0,Vn 0,ym,Vi 0,Vi 0]) qF O<|fun ac=>zF O<|zA<|zK<|zB<|zC O<|yE qF O O O<|zC O<|zQ O O<|zC O<|zQ O O<|yT O O O<|xA O O<|zC O<|yP (q:=((s:Nat):Int)=((0:Nat):Int)) 3 6 [26,25,24] (¬(x1 k)) O O O O O O trivial O (fun n=> ?_)<|fun a7=> ?_
 ·refine zQ O (gF n)<|zC O<|zQ O (gF n)<|zG O O<|fun h c=>(zI9 k h).mono ?_
  rintro _ w1 ⟨rfl,hO⟩
  refine(?_:CL _ _ _ _ _ _ (Own w S [_,_,_,_])) w1<|c.qb hO
  refine zQ O (gF n)<|xQ (q:=x1 k) O O<|z8 O<|fun _ c=>c
 refine zC O<|yP (q:=(((s:Nat):Int)=((0:Nat):Int))∨(¬(x1 k))) 2 11 [30,29] (a<1) O O O O O O trivial O (fun p=> ?_)<|fun a8=> ?_
 ·refine zQ O (gF p)<|zC O<|zQ O (gF p)<|zu O O O<|z8 O<|fun _ c=>c
 refine zC O<|yP (q:=((((s:Nat):Int)=((0:Nat):Int))∨(¬(x1 k)))∨(a<1)) 3 15 [35,34,33] (¬(xO j)) O O O O O O trivial O (fun l=> ?_)<|fun a9=> ?_
 ·refine zQ O (gF l)<|zC O<|zQ O (gF l)<|zG O O<|fun h c=>(zIb j h).mono ?_
  rintro _ w1 ⟨rfl,hO⟩
  refine(?_:CL _ _ _ _ _ _ (Own w S [_,_,_,_])) w1<|c.qb hO
  refine zQ O (gF l)<|xQ (q:=xO j) O O<|z8 O<|fun _ c=>c
 refine zA<|zT O (fun c1=> ?_)<|fun c1=> ?_
 ·refine zB<|yJ (cs:=[Vn 0,Vn 0,ym,Vi 0,Vi 0]) (z:=[Vn 0,Vn 0,ym,Vi 0,Vi 0]) (pl:=[(0,1),(1,1),(2,1),(3,1),(4,1)]) qF qF O<|zf 3 O O O (zz O) O<|zF O<|zA<|zP<|yk (cs:=[Vn 0,Vn 0,ym,Vi 0,Vi 0]) (v:=Vi 1) O O O qF (Own.qd (i:=3) O)<|fun h c=>⟨LeaD.zero,1,cnt,kl,O,(zPs<|larg.1 c1).symm,O,O,O,c.sel [0,1,2] O V⟩
 have r:¬ kF s k a j:=fun q=>c1 (larg.2 q)
 have aa:xO j:=Decidable.by_contra fun q=>c1 (.inr q)
 have ad:1≤a:=Int.not_lt.1 fun q=>c1 (.inl (.inr q))
 unfold xO at aa
 refine zN<|zB<|zC O<|zV O O<|zI (o:=0) O O<|zJ 0 (v:= .map (some bm)) O O O O<|zC O<|zD4 (k:=k) (kv:=kb) (zv:=0) zEG zHC zIL O O (fun h a2=>Own.holds a2 1 _ O) O<|zC O<|zb (vs:=[Vi ((zl k kb).getD 0), .bool ((zl k kb).isSome)]) O O O<|zb (vs:=[Vi ((zl k kb).getD 0), .bool ((zl k kb).isSome)]) O O O<|zF O<|zF O<|zA<|zK<|zB<|zC O<|xo (b:=(zl k kb).isSome) O O<|zA<|jJ O (fun c2=> ?_)<|fun c2=> ?_
 ·refine zB<|yJ (cs:=[Vn 0,Vn 0,ym,Vi 0,Vi 0]) (z:=[Vn 0,Vn 0,ym,Vi 0,Vi 0]) (pl:=[(0,1),(1,1),(2,1),(3,1),(4,1)]) qF qF O<|zf 3 O O O (zz O) O<|zF O<|zA<|zP<|yk (cs:=[Vn 0,Vn 0,ym,Vi 0,Vi 0]) (v:=Vi 8) O O O qF (Own.qd (i:=3) O)<|fun h c=>⟨LeaD.zero,8,cnt,kl,O,(zTb r c2).symm,O,O,O,c.sel [0,1,2] O V⟩
 have y:¬(!(zl k kb).isSome)=true:=by rw[c2];decide
 refine zN<|zB<|zC O<|zC O<|zG O O<|fun h c=>(zDu b bm lm now cnt kl k h<|c.give [0,2] O V).mono ?_
 rintro _ w1 ⟨a0,rfl,u,hO⟩
 refine fq [0,2] O c hO<|zC O<|yH (e:=2) (sz:=1) (vs:=[Vi a0,Vi a]) qF O O qL V O<|fun ab=>zG O O<|fun h c=>(zOR (.slice (some ⟨ab,0,none⟩) 2 2) [a0,a] h O (by show 0≤a0∧a0≤_;rw[u];exact a4) (by show _≤a∧a≤_;exact⟨by omega,ha.2⟩)<|c.qj 4 O).mono ?_
 rintro _ w1 ⟨a5,a1,rfl,a3,hO⟩
 have d:=zMo a3 u
 refine(?_:CL _ _ _ _ _ _ (Own w S [_,_,_,_,_])) w1<|c.qb hO
 refine zC O<|zb (vs:=[Vi a5,Vi a1]) O O O<|zb (vs:=[Vi a5,Vi a1]) O O O<|zF O<|zF O<|zA<|zK<|zU<|zB<|zC O<|yf O O O<|zF O<|zA<|zT O (fun m=> ?_)<|fun m=> ?_
 ·refine zB<|yJ (cs:=[Vn 0,Vn 0,ym,Vi 0,Vi 0]) (z:=[Vn 0,Vn 0,ym,Vi 0,Vi 0]) (pl:=[(0,1),(1,1),(2,1),(3,1),(4,1)]) qF qF O<|zC O<|zf 1 O O O (zz O) O<|zF O<|zA<|zP<|yk (cs:=[Vn 0,Vn 0,ym,Vi 0,Vi 0]) (v:=Vi a1) O O O qF (Own.qd (i:=1) O)<|fun h c=>⟨LeaD.zero,a1,cnt,kl,O,(by rw[(zAb d m).2];exact(zTo r y (zAb d m).1).symm),(by rw[(zAb d m).2];rfl),(by rw[(zAb d m).2];rfl),(by rw[(zAb d m).2];rfl),c.sel [2,0,3] O V⟩
 refine zB<|zC O<|zC O<|yY O O O<|zF O<|zA<|zT O (fun c4=> ?_)<|fun c4=> ?_
 ·refine zB<|yJ (cs:=[Vn 0,Vn 0,ym,Vi 0,Vi 0]) (z:=[Vn 0,Vn 0,ym,Vi 0,Vi 0]) (pl:=[(0,1),(1,1),(2,1),(3,1),(4,1)]) qF qF O<|zf 1 O O O (zz O) O<|zF O<|zA<|zP<|yk (cs:=[Vn 0,Vn 0,ym,Vi 0,Vi 0]) (v:=Vi 16) O O O qF (Own.qd (i:=1) O)<|fun h c=>⟨LeaD.zero,16,cnt,kl,O,(zRz r y (j1 d m).1 (by rw[←(j1 d m).2];exact c4)).symm,O,O,O,c.sel [2,0,3] O V⟩
 refine zB<|zC O<|zV O O<|zI (o:=1) O O<|zJ 2 (v:= .map (some lm)) O O O O<|zDC xr xf (kv:=kl) zFR O (fun h a2=>Own.holds a2 3 _ O) O<|xJ O O O<|zF O<|zA<|zT O (fun c5=> ?_)<|fun c5=> ?_
 ·refine zB<|yJ (cs:=[Vn 0,Vn 0,ym,Vi 0,Vi 0]) (z:=[Vn 0,Vn 0,ym,Vi 0,Vi 0]) (pl:=[(0,1),(1,1),(2,1),(3,1),(4,1)]) qF qF O<|zf 1 O O O (zz O) O<|zF O<|zA<|zP<|yk (cs:=[Vn 0,Vn 0,ym,Vi 0,Vi 0]) (v:=Vi 7) O O O qF (Own.qd (i:=1) O)<|fun h c=>⟨LeaD.zero,7,cnt,kl,O,(zSv r y (j1 d m).1 (by rw[←(j1 d m).2];exact c4) c5).symm,O,O,O,c.sel [2,0,3] O V⟩
 refine zN<|zB<|zC O<|zV O O<|zI (o:=3) O O<|zJ 2 (v:=Vn cnt) O O O O<|zr O O (yz qG) O<|zV O O<|zI (o:=3) O O<|zi (cs:=[.map (some bm), .map (some lm),Vi now,Vn cnt]) 2 O O O O O<|zA<|zK<|zd [0,1,2,3,4] O V qF<|fun h c g=>(zD 0 O za g<|zD 1 O (zY O) g<|zD 2 O (zL (o:=3) O) g<|zD 3 O (zZ 2 (v:=Vn (cnt+1)) O O O) g<|zD 4 O za g<|zD 5 O za g<|zD 6 O za g<|zD 7 O za g<|zD 8 O (zY O) g<|zD 9 O (zL (o:=2) O) g<|zD 10 O (zZ 2 (v:=Vi now) O O O) g<|zD 11 O za g<|zD 12 O (xN O O<|zt qG) g<|zD 13 O (xY (cs:=[Vn (cnt+1),Vn s, .string k,Vi a,Vi (now+j)]) (z:=[Vn 0,Vn 0,ym,Vi 0,Vi 0]) (pl:=[(0,1),(1,1),(2,1),(3,1),(4,1)]) qF qF) g<|zM 14 O c<|zk (v:= .agg #[Vn 0,Vn 0,ym,Vi 0,Vi 0]) qF O<|fun ae=>zE [0,1,2,3,4] O V<|fun h c g=>zM 15 O c<|zf 5 O O O (zz O) O<|zE [0,1,2,3,4] O V<|fun h c g=>zX<|(?_:C _ _ _ _ _ _ _ (Own w S [_,_,_,_,_,_])) _ c)
 refine zK<|zd [0,1,2,4,5] O V qF<|fun h c g=>zD 0 O za g<|zD 1 O (zY O) g<|zD 2 O (zL (o:=1) O) g<|zD 3 O (zZ 2 (v:= .map (some lm)) O O O) g<|zD 4 O (zL (o:=0) O) g<|zD 5 O (zZ 4 (v:=Vn (cnt+1)) O O O) g<|zD 6 O (xG (cs:=[Vn (cnt+1),Vn s, .string k,Vi a,Vi (now+j)]) 4 O O) g<|zM 7 O c<|jC 3 (k:=cnt+1) (v:=({id:=cnt+1,session:=s,key:=k,amount:=a,until_:=now+j}:LeaD)) zCh zFR O O O O<|zE [0,1,2,4,5] O V<|fun h c g=>zX<|(?_:C _ _ _ _ _ _ _ (Own w S [_,_,_,_,_,_])) _ c
 refine zB<|z6 (cs:=[Vn (cnt+1),Vn s, .string k,Vi a,Vi (now+j)]) 5 O O O<|zf 1 O O O (zz O) O<|zF O<|zA<|zP<|yk (cs:=[Vn (cnt+1),Vn s, .string k,Vi a,Vi (now+j)]) (v:=Vi 0) O O O qF (Own.qd (i:=1) O)<|fun h c=>⟨⟨cnt+1,s,k,a,now+j⟩,0,cnt+1,yZ (cnt+1) ⟨cnt+1,s,k,a,now+j⟩ kl,O,(zGK r y (j1 d m).1 (by rw[←(j1 d m).2];exact c4) c5).symm,O,O,O,c.sel [2,0,3] O V⟩
theorem zNq{S:List Nat}(b bm lm:Nat)(now:Int)(cnt:Nat)(kb:List (ByteArray×Int))(kl:List (Nat×LeaD))(s i:Nat)(m:Int)(w:World)(ht:0≤now∧now≤2305843009213693952)(a0:Own w S [Res.row b 268 [.map (some bm), .map (some lm),Vi now,Vn cnt],Res.mp Value.string kh bm kb,Res.mp xr xf lm kl] w):Rets Tryz.prog 545 #[.pointer (some ⟨b,0,none⟩),Vn s,Vn i,Vi m] w fun u_ h=>∃ (x:LeaD) (e:Int) (kl':List (Nat×LeaD)),u_= .tuple #[.agg (LeaD.cells x).toArray,Vi e]∧zDI now kb kl s i m x e kl'∧Own w S [Res.row b 268 [.map (some bm), .map (some lm),Vi now,Vn cnt],Res.mp Value.string kh bm kb,Res.mp xr xf lm kl'] h:=by
 refine zO Tryz.func545 O Tryz.ntmps545 a0<|zB<|zk (v:= .agg #[Vn 0,Vn 0,ym,Vi 0,Vi 0]) qF O<|fun b8=>zF O<|zA<|zK<|zB<|zC O<|yE qF O O O<|zC O<|zQ O O<|zC O<|zQ O O<|zG O O<|fun h g=>((zIb m h).mono ?_)
 rintro _ w1 ⟨rfl,r⟩
 refine(?_:CL _ _ _ _ _ _ (Own w S [_,_,_,_])) w1<|g.qb r
 refine zQ O O<|xQ (q:=xO m) O O<|xA O O<|zA<|zT O (fun p=> ?_)<|fun p=> ?_
 ·refine zB<|yJ (cs:=[Vn 0,Vn 0,ym,Vi 0,Vi 0]) (z:=[Vn 0,Vn 0,ym,Vi 0,Vi 0]) (pl:=[(0,1),(1,1),(2,1),(3,1),(4,1)]) qF qF O<|zf 3 O O O (zz O) O<|zF O<|zA<|zP<|yk (cs:=[Vn 0,Vn 0,ym,Vi 0,Vi 0]) (v:=Vi 1) O O O qF (Own.qd (i:=3) O)<|fun h g=>⟨LeaD.zero,1,kl,O, .inl ⟨p,O,O,O⟩,g.sel [0,1,2] O V⟩
 have a1:1≤m∧m≤1099511627776:=Decidable.not_not.1 p
 refine zN<|zB<|zC O<|zC O<|zC O<|zG O O<|fun h g=>(zIX b bm lm now cnt kl s i h<|g.give [0,2] O V).mono ?_
 rintro _ w1 ⟨a,n,rfl,j,r⟩
 refine fq [0,2] O g r<|zC O<|zb (vs:=[.agg (LeaD.cells a).toArray,Vi n]) O O O<|zb (vs:=[.agg (LeaD.cells a).toArray,Vi n]) O O O<|zk (v:= .agg #[Vn 0,Vn 0,ym,Vi 0,Vi 0]) qF O<|fun a2=>zf 4 O O O (zz O) O<|zF O<|zA<|zK<|zU<|zB<|zC O<|yf O O O<|zF O<|zA<|zT O (fun y=> ?_)<|fun y=> ?_
 ·refine zB<|yJ (cs:=[Vn 0,Vn 0,ym,Vi 0,Vi 0]) (z:=[Vn 0,Vn 0,ym,Vi 0,Vi 0]) (pl:=[(0,1),(1,1),(2,1),(3,1),(4,1)]) qF qF O<|zC O<|zf 1 O O O (zz O) O<|zF O<|zA<|zP<|yk (cs:=[Vn 0,Vn 0,ym,Vi 0,Vi 0]) (v:=Vi n) O O O qF (Own.qd (i:=1) O)<|fun h g=>⟨LeaD.zero,n,kl,O,zKM p j y,g.sel [2,0,3] O V⟩
 refine zK<|zd [0,1,4] O V qF<|fun h g d=>zD 0 O za d<|zD 1 O (zL (o:=2) O) d<|zD 2 O (zZ 2 (v:= .string a.key) O O O) d<|zD 4 O za d<|zD 5 O (zY O) d<|zD 6 O (zL (o:=0) O) d<|zD 8 O (zL (o:=2) O) d<|zD 9 O (zZ 2 (v:= .string a.key) O O O) d<|z7 3 7 ?_ ?_
 ·refine zo 3 O g<|zG O O<|fun h g=>(zDu b bm lm now cnt kl a.key h<|g.give [2,3] O V).mono ?_
  rintro _ w1 ⟨a3,rfl,l,r⟩
  refine fq [2,3] O g r<|zE [0,1,2] O V<|fun h g d=>zM 7 O g<|zJ 3 (v:= .map (some bm)) O O O O<|zE [0,1,2] O V<|fun h g d=>zD 10 O (zF7 (k:=a.key) (kv:=kb) (zv:=0) zEG zHC zIL O O<|fun h u=>Own.holds u 0 _ O) d<|zD 11 O (zBm O O) d<|zD 12 O yB d<|zX<|(?_:C _ _ _ _ _ _ _ (Own w S [_,_,_,_,_])) _ g
  refine zT O (fun c3=> ?_)<|fun c3=> ?_
  ·refine zB<|yJ (cs:=[Vn 0,Vn 0,ym,Vi 0,Vi 0]) (z:=[Vn 0,Vn 0,ym,Vi 0,Vi 0]) (pl:=[(0,1),(1,1),(2,1),(3,1),(4,1)]) qF qF O<|zf 1 O O O (zz O) O<|zF O<|zA<|zP<|yk (cs:=[Vn 0,Vn 0,ym,Vi 0,Vi 0]) (v:=Vi 16) O O O qF (Own.qd (i:=1) O)<|fun h g=>⟨LeaD.zero,16,kl,O,zGh p j y l c3,g.sel [3,0,4] O V⟩
  refine zN<|zK<|zd [0,1,3,4] O V qF<|fun h g d=>zD 0 O (zL (o:=4) O) d<|zD 2 O za d<|zD 3 O (zY O) d<|zD 4 O (zL (o:=2) O) d<|zD 5 O (zZ 2 (v:=Vi now) O O O) d<|zD 6 O za d<|zD 7 O (xN O O<|zt qG) d<|zM 1 O g<|zJ 2 (v:=Vi a.until_) O O O O<|zE [0,1,3,4] O V<|fun h g d=>(zD 8 O (zMK (c:=max a.until_ (now+m)) O O<|zLz _ _) d<|zD 9 O (zL (o:=4) O) d<|zM 10 O g<|zi (cs:=(LeaD.cells a)) 2 O O O O O<|zE [0,1,3,4] O V<|fun h g d=>zX<|(?_:C _ _ _ _ _ _ _ (Own w S [_,_,_,_,_])) _ g)
  refine zK<|zd [0,1,2,3] O V qF<|fun h g d=>zD 0 O za d<|zD 1 O (zY O) d<|zD 2 O (zL (o:=1) O) d<|zD 3 O (zZ 3 (v:= .map (some lm)) O O O) d<|zD 4 O za d<|zD 5 O (xG 2 O O) d<|zM 6 O g<|jC 4 (k:=i) (v:=({a with until_:=max a.until_ (now+m)}:LeaD)) zCh zFR O O O O<|zE [0,1,2,3] O V<|fun h g d=>zX<|(?_:C _ _ _ _ _ _ _ (Own w S [_,_,_,_,_])) _ g
  refine zB<|z6 2 O O O<|zf 1 O O O (zz O) O<|zF O<|zA<|zP<|yk (cs:=[Vn a.id,Vn a.session, .string a.key,Vi a.amount,Vi (max a.until_<|now+m)]) (v:=Vi 0) O O O qF (Own.qd (i:=1) O)<|fun h g=>⟨zAo a<|now+m,0,yZ i (zAo a<|now+m) kl,O,zIk p j y l c3,g.sel [3,0,4] O V⟩
 refine zo 7 O g<|zJ 2 (v:= .map (some bm)) O O O O<|zE [0,1,4] O V<|fun h g d=>zD 10 O (zF7 (k:=a.key) (kv:=kb) (zv:=0) zEG zHC zIL O O<|fun h u=>Own.holds u 0 _ O) d<|zM 3 O g<|zG O O<|fun h g=>(zDu b bm lm now cnt kl a.key h<|g.give [2,3] O V).mono ?_
 rintro _ w1 ⟨a4,rfl,l,r⟩
 refine fq [2,3] O g r<|zE [0,1,2] O V<|fun h g d=>zD 11 O (zBm O O) d<|zD 12 O yB d<|zX<|(?_:C _ _ _ _ _ _ _ (Own w S [_,_,_,_,_])) _ g
 refine zT O (fun c4=> ?_)<|fun c4=> ?_
 ·refine zB<|yJ (cs:=[Vn 0,Vn 0,ym,Vi 0,Vi 0]) (z:=[Vn 0,Vn 0,ym,Vi 0,Vi 0]) (pl:=[(0,1),(1,1),(2,1),(3,1),(4,1)]) qF qF O<|zf 1 O O O (zz O) O<|zF O<|zA<|zP<|yk (cs:=[Vn 0,Vn 0,ym,Vi 0,Vi 0]) (v:=Vi 16) O O O qF (Own.qd (i:=1) O)<|fun h g=>⟨LeaD.zero,16,kl,O,zGh p j y l c4,g.sel [3,0,4] O V⟩
 refine zN<|zK<|zd [0,1,3,4] O V qF<|fun h g d=>zD 0 O (zL (o:=4) O) d<|zD 2 O za d<|zD 3 O (zY O) d<|zD 4 O (zL (o:=2) O) d<|zD 5 O (zZ 2 (v:=Vi now) O O O) d<|zD 6 O za d<|zD 7 O (xN O O<|zt qG) d<|zM 1 O g<|zJ 2 (v:=Vi a.until_) O O O O<|zE [0,1,3,4] O V<|fun h g d=>(zD 8 O (zMK (c:=max a.until_ (now+m)) O O<|zLz _ _) d<|zD 9 O (zL (o:=4) O) d<|zM 10 O g<|zi (cs:=(LeaD.cells a)) 2 O O O O O<|zE [0,1,3,4] O V<|fun h g d=>zX<|(?_:C _ _ _ _ _ _ _ (Own w S [_,_,_,_,_])) _ g)
 refine zK<|zd [0,1,2,3] O V qF<|fun h g d=>zD 0 O za d<|zD 1 O (zY O) d<|zD 2 O (zL (o:=1) O) d<|zD 3 O (zZ 3 (v:= .map (some lm)) O O O) d<|zD 4 O za d<|zD 5 O (xG 2 O O) d<|zM 6 O g<|jC 4 (k:=i) (v:=({a with until_:=max a.until_ (now+m)}:LeaD)) zCh zFR O O O O<|zE [0,1,2,3] O V<|fun h g d=>zX<|(?_:C _ _ _ _ _ _ _ (Own w S [_,_,_,_,_])) _ g
 refine zB<|z6 2 O O O<|zf 1 O O O (zz O) O<|zF O<|zA<|zP<|yk (cs:=[Vn a.id,Vn a.session, .string a.key,Vi a.amount,Vi (max a.until_<|now+m)]) (v:=Vi 0) O O O qF (Own.qd (i:=1) O)<|fun h g=>⟨zAo a<|now+m,0,yZ i (zAo a<|now+m) kl,O,zIk p j y l c4,g.sel [3,0,4] O V⟩
theorem zNN{S:List Nat}(b bm lm:Nat)(now:Int)(cnt:Nat)(kl:List (Nat×LeaD))(s i:Nat)(w:World)(j:Own w S [Res.row b 268 [.map (some bm), .map (some lm),Vi now,Vn cnt],Res.mp xr xf lm kl] w):Rets Tryz.prog 546 #[.pointer (some ⟨b,0,none⟩),Vn s,Vn i] w fun m h=>∃ (x:LeaD) (e:Int) (kl':List (Nat×LeaD)),m= .tuple #[.agg (LeaD.cells x).toArray,Vi e]∧zJG kl s i x e kl'∧Own w S [Res.row b 268 [.map (some bm), .map (some lm),Vi now,Vn cnt],Res.mp xr xf lm kl'] h:=by
 refine zO Tryz.func546 O Tryz.ntmps546 j<|zB<|zk (v:= .agg #[Vn 0,Vn 0,ym,Vi 0,Vi 0]) qF O<|fun p=>zF O<|zA<|zK<|zB<|zC O<|yE qF O O O<|zA<|yW O<|zN<|zB<|zC O<|zC O<|zC O<|zG O O<|fun h g=>(zIX b bm lm now cnt kl s i h<|g.give [0,1] O V).mono ?_
 rintro _ q ⟨a,c,rfl,d,n⟩
 refine fq [0,1] O g n<|zC O<|zb (vs:=[.agg (LeaD.cells a).toArray,Vi c]) O O O<|zb (vs:=[.agg (LeaD.cells a).toArray,Vi c]) O O O<|zk (v:= .agg #[Vn 0,Vn 0,ym,Vi 0,Vi 0]) qF O<|fun r=>zf 3 O O O (zz O) O<|zF O<|zA<|zK<|zB<|zC O<|yT O O O<|zA<|zT O (fun l=> ?_)<|fun l=> ?_
 ·refine ze<|zC O<|zV O O<|zI (o:=1) O O<|zJ 1 (v:= .map (some lm)) O O O O<|zC O<|zDW 2 (k:=i) zCh zFR O O O<|zA<|zB<|z6 (cs:=(LeaD.cells a)) 3 O O O<|zC O<|zf 0 O O O (zz O) O<|zF O<|zA<|zP<|yk (cs:=(LeaD.cells a)) (v:=Vi c) O O O qF (Own.qd (i:=0) O)<|fun h g=>⟨a,c,zAF i kl,O,zLa d l,g.sel [1,2] O V⟩
 refine zN<|zB<|z6 (cs:=(LeaD.cells a)) 3 O O O<|zC O<|zf 0 O O O (zz O) O<|zF O<|zA<|zP<|yk (cs:=(LeaD.cells a)) (v:=Vi c) O O O qF (Own.qd (i:=0) O)<|fun h g=>⟨a,c,kl,O,zPV d l,g.sel [1,2] O V⟩
theorem zN8{S:List Nat}(b bm lm:Nat)(now:Int)(cnt:Nat)(kl:List (Nat×LeaD))(n:Int)(w:World)(ht:0≤now∧now≤2305843009213693952)(hn:kE n)(x:KNd kl)(hl:kl.length≤128)(z:(kZ now n kl).length≤1)(a0:Own w S [Res.row b 268 [.map (some bm), .map (some lm),Vi now,Vn cnt],Res.mp xr xf lm kl] w):Rets Tryz.prog 407 #[.pointer (some ⟨b,0,none⟩),Vi n] w fun u_ m=>∃ (h:Value) (c:List Nat) (e now':Int) (kl':List (Nat×LeaD)),u_= .tuple #[h,Vi e]∧e=kP now n∧now'=ye now n∧kl'=yX now n kl∧Own w S [Res.row b 268 [.map (some bm), .map (some lm),Vi now',Vn cnt],Res.mp xr xf lm kl',Res.vec 31 1 h c.length (c.flatMap U1)] m:=by
 refine zO Tryz.func407 O Tryz.ntmps407 a0<|zB<|zF O<|zF O<|zA<|zK<|zU<|zB<|zC O<|yE qF O O O<|zC O<|zQ O O<|zC O<|zQ O O<|zu O O O<|xA O O<|zC O<|yP (q:=n<0) 2 6 [17,16] (1099511627776<n) O O O O O O trivial O (fun r=> ?_)<|fun a3=> ?_
 ·refine zQ O (gF r)<|zC O<|zQ O (gF r)<|yY O O O<|z8 O<|fun _ d=>d
 refine zF O<|zA<|zT O (fun i=> ?_)<|fun i=> ?_
 ·refine zB<|zF O<|zF O<|zA<|zP<|yg (v:=zW) (v':=Vi 1) O O O<|fun m d=>⟨.slice none 0 0,[],1,now,kl,O,(j8 (kl:=kl) (zHJ i) V).1,(j8 (kl:=kl) (zHJ i) V).2.1,(j8 (kl:=kl) (zHJ i) V).2.2.1,(zq d 31 1)⟩
 refine zB<|zC O<|zV O O<|zI (o:=2) O O<|zJ 0 (v:=Vi now) O O O O<|zC O<|y9 O O (zt qG) O<|yY O O O<|zF O<|zA<|zT O (fun s=> ?_)<|fun s=> ?_
 ·refine zB<|zF O<|zF O<|zA<|zP<|yg (v:=zW) (v':=Vi 3) O O O<|fun m d=>⟨.slice none 0 0,[],3,now,kl,O,(j8 (kl:=kl) (zG8 i s) V).1,(j8 (kl:=kl) (zG8 i s) V).2.1,(j8 (kl:=kl) (zG8 i s) V).2.2.1,(zq d 31 1)⟩
 refine zN<|zB<|zC O<|zV O O<|zI (o:=2) O O<|zJ 0 (v:=Vi now) O O O O<|zC O<|zr O O (zt qG) O<|zV O O<|zI (o:=2) O O<|zi (cs:=[.map (some bm), .map (some lm),Vi now,Vn cnt]) 0 O O O O O<|zA<|zK<|zB<|zC O<|zV O O<|zI (o:=1) O O<|zJ 0 (v:= .map (some lm)) O O O O<|jU 1 zFR O O O<|fun y=>zA<|zU<|zN7 (fun(a kv:List (Nat×LeaD)) (h:Value) (c:List Nat)=>[(0, .pointer<|some ⟨b,0,none⟩),(4,h),(39, .pointer<|some ⟨y,0,none⟩)]) (fun(a kv:List (Nat×LeaD)) (h:Value) (c:List Nat)=>PassI (now+n) kl a kv c) (fun(a kv:List (Nat×LeaD)) (h:Value) (c:List Nat)=>[Res.row b 268 [.map (some bm), .map (some lm),Vi (now+n),Vn cnt],Res.rg xr xf lm y kv a,Res.vec 31 1 h c.length (c.flatMap U1)]) (fun(a kv:List (Nat×LeaD)) (h:Value) (c:List Nat)=>a.length) (fun m d=>⟨kl,kl,zW,[],⟨O,O,O,trivial⟩,PassI.start _ _,(zq d 31 1)⟩)<|fun a kv h c g u=> ?_
 have a4:c.length≤128:=Nat.le_trans (PassI.len u) hl
 refine zB<|zAD 1 O O O (fun p=> ?_)<|fun q1 k v q2 j=> ?_
 ·refine zb (vs:=[yC]) O O O<|zA<|zK<|yW O<|zw O<|zB<|zC O<|zG O O<|fun m d=>(zFK h c m (by rw[(u.done p x (zCT i s)).2.2.2.length_eq];exact z)<|d.give [2] O V).mono ?_
  rintro _ w1 ⟨rfl,hO⟩
  refine fq [2] O d hO<|zA<|zB<|zC O<|zF O<|zF O<|zA<|zP<|yg (v:=h) (v':=Vi 0) O O O<|fun m d=>⟨h,c,0,now+n,kv,O,(u.done p x<|zCT i s).1,(u.done p x<|zCT i s).2.1,(u.done p x<|zCT i s).2.2.1,(Own.rgEnd 1 d O)⟩
 refine zb (vs:=[xx,Vn k, .agg (LeaD.cells v).toArray]) O O O<|zA<|zK<|x0 O<|zN<|zU<|zB<|ja 1 O O O<|zb (vs:=[Vn k, .agg (LeaD.cells v).toArray]) O O O<|zb (vs:=[Vn k, .agg (LeaD.cells v).toArray]) O O O<|zk (v:= .agg #[Vn 0,Vn 0,ym,Vi 0,Vi 0]) qF O<|fun b7=>zF O<|zf 3 O O O (zz O) O<|zA<|yd qF qF<|zR O (zL (o:=4) O)<|zR O (zZ 3 (v:=Vi v.until_) O O O)<|zR O (za)<|zR O (zY O)<|zR O (zL (o:=2) O)<|zR O (zZ 0 (v:=Vi (now+n)) O O O)<|zR O (zJH O O)<|xX<|zT O (fun c5=> ?_)<|fun c5=> ?_
 ·refine zB<|zC O<|zC O<|yH (e:=31) (sz:=1) (vs:=[Vn k]) qF O O qL V O<|fun a5=>yF (g:=U1) (sz:=1) (by':=8) (fun _=>O) (l:=c) (l':=[k]) (by simp[cell1,U1]) 2 qF O O O (fun m a1=>Vec.sl<|Own.holds a1 4 _ O) qH V O<|fun a2=>zF O<|zA<|ze<|zC O<|zV O O<|zI (o:=1) O O<|zJ 0 (v:= .map (some lm)) O O O O<|zC O<|zMd 1 (k:=k) zCh zFR O O O (u.out x j)<|zx<|fun m d=>⟨q1++q2,zAF k kv,a2,c++[k],⟨O,O,O,trivial⟩,u.yes x j c5,d.sel [0,1,2] O V,(by rw[j,List.length_append,List.length_append,List.length_cons];omega)⟩
 exact x4<|fun m d=>⟨q1++q2,kv,h,c,⟨O,O,O,trivial⟩,u.no j c5,d.sel [0,1,2] O V,(by rw[j,List.length_append,List.length_append,List.length_cons];omega)⟩
end Go.Proofs.YthpoddkmhfhboaaGreatDoor
