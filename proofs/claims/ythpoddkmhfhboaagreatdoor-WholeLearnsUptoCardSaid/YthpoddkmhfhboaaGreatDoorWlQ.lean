import Derived.Test.YthpoddkmhfhboaaGreatDoorOne
set_option linter.unusedSimpArgs false
set_option linter.unusedVariables false
set_option maxRecDepth 10000
namespace Go.Proofs.YthpoddkmhfhboaaGreatDoor
open Go.Sc
def xc(l:LeaD):Value:= .agg l.cells.toArray
def xn(n:Nat):Value:= .int .u64 n
def kc(n:Int):Value:= .int .i64 n
theorem zD5:KeyL Tryz.prog 9 Value.string:=zK3 qF
theorem zCa:KeyL Tryz.prog 31 xn:=zFk qF
theorem zHv:kR Tryz.prog 264=some (9,2):=by kernel_rfl
theorem zE1:kR Tryz.prog 266=some (31,271):=by kernel_rfl
theorem zIC:xz Tryz.prog 2=some (kc 0):=by kernel_rfl
theorem zTm:xz Tryz.prog 271=some (xc LeaD.zero):=by kernel_rfl
def zBY(k:ByteArray)(kl:List (Nat×LeaD)):Int:=jI k (kl.map (·.2))
theorem zLb{k:ByteArray}{kl:List (Nat×LeaD)}{n:Int}(h:n=IntKind.i64.wrap (zBY k kl - zBY k [])):n=yg k kl:=by
 rw[h];simp[zBY,jI,yg,zDB]
theorem zLS{k:ByteArray}{kl todo q1 q2:List (Nat×LeaD)}{i:Nat}{v:LeaD}{n:Int}(h:n=IntKind.i64.wrap (zBY k kl - zBY k todo))(a:todo=q1++(i,v)::q2)(b:v.key=k):IntKind.i64.wrap (n+v.amount)=IntKind.i64.wrap (zBY k kl - zBY k (q1++q2)):=by
 rw[h,zKy,a];unfold zBY;rw[zCo,if_pos b];congr 1;omega
theorem zNg{k:ByteArray}{kl todo q1 q2:List (Nat×LeaD)}{i:Nat}{v:LeaD}{n:Int}(h:n=IntKind.i64.wrap (zBY k kl - zBY k todo))(a:todo=q1++(i,v)::q2)(b:¬ v.key=k):n=IntKind.i64.wrap (zBY k kl - zBY k (q1++q2)):=by
 rw[h,a];unfold zBY;rw[zCo,if_neg b];congr 1;omega
theorem zIh(k:ByteArray)(w:World):Rets Tryz.prog 396 #[.string k] w fun e c=>e= .bool (decide (kB k))∧Own w [] [] c:=by
 refine zO Tryz.func396 O Tryz.ntmps396 (Own.start w) (zB (zF O (zA (zB (zC O (zMv O O O (zC O (yB (q:=k≠yEb) 3 2 [8,7,6] (((k.size:Nat):Int)≤64) O O O O O O trivial O (fun a=> ?_) (fun d=> ?_)))))))))
 ·refine zQ O (gT a) (zC O (zQ O (gT a) (zCN qF O O (zQ O (gT a) (yr O O O (z8 O (fun _ b=>b)))))))
 refine zF O (zA (zP (zm (v:= .bool (decide ((k≠yEb)∧(((k.size:Nat):Int)≤64)))) O O (fun c b=>⟨(by congr 1;exact decide_eq_decide.2 (by unfold kB;rw[zTU];omega)),b.drop⟩))))
theorem zIa(n:Int)(w:World):Rets Tryz.prog 576 #[Vi n] w fun e c=>e= .bool (decide (xS n))∧Own w [] [] c:=by
 refine zO Tryz.func576 O Tryz.ntmps576 (Own.start w) (zB (zF O (zA (zB (zC O (xG O O O (zC O (yB (q:=1≤n) 2 2 [7,6] (n≤1099511627776) O O O O O O trivial O (fun a=> ?_) (fun d=> ?_)))))))))
 ·refine zQ O (gT a) (zC O (zQ O (gT a) (yr O O O (z8 O (fun _ b=>b)))))
 refine zF O (zA (zP (zm (v:= .bool (decide ((1≤n)∧(n≤1099511627776)))) O O (fun c b=>⟨O,b.drop⟩))))
theorem zDC{S:List Nat}(b bm lm:Nat)(now:Int)(cnt:Nat)(kl:List (Nat×LeaD))(k:ByteArray)(w:World)(j:Own w S [Res.row b 268 [.map (some bm), .map (some lm),Vi now,Vn cnt],Res.mp xn xc lm kl] w):Rets Tryz.prog 397 #[.pointer (some ⟨b,0,none⟩), .string k] w fun q h=>∃ (n:Int),q=Vi n∧n=yg k kl∧Own w S [Res.row b 268 [.map (some bm), .map (some lm),Vi now,Vn cnt],Res.mp xn xc lm kl] h:=by
 refine zO Tryz.func397 O Tryz.ntmps397 j (zB (zF O (zA (zB (zF O (zA (zK (zB (zC O (zV O O (zI (o:=1) O O (zJ 0 (v:= .map (some lm)) O O O O (jN 1 zE1 O O O (fun i=>(zA (zU (xE (fun(a:List (Nat×LeaD)) (n:Int)=>[(1, .string k),(5,Vi n),(12, .pointer (some ⟨i,0,none⟩))]) (fun(a:List (Nat×LeaD)) (n:Int)=>n=IntKind.i64.wrap (zBY k kl - zBY k a)) (fun(a:List (Nat×LeaD)) (n:Int)=>[Res.row b 268 [.map (some bm), .map (some lm),Vi now,Vn cnt],Res.rg xn xc lm i kl a]) (fun(a:List (Nat×LeaD)) (n:Int)=>a.length) (fun h e=>⟨kl,0,⟨O,O,O,trivial⟩,(by rw[Int.sub_self];decide),e⟩) (fun a n g l=>(zB (zAJ 1 O O O (fun m=> ?_) (fun q1 k v q2 d=> ?_)))))))))))))))))))))
 ·refine zb (vs:=[yC]) O O O (zA (zK (yW O (zu O (zB (zC O (zF O (zA (zP (zm (v:=Vi n) O O (fun h e=>⟨n,O,zLb (m▸l),(Own.rgEnd 1 e O)⟩)))))))))))
 refine zb (vs:=[xi,Vn k, .agg (LeaD.cells v).toArray]) O O O (zA (zK (x0 O (zN (zU (zB (jV 1 O O O (zb (vs:=[Vn k, .agg (LeaD.cells v).toArray]) O O O (zk (v:= .agg #[Vn 0,Vn 0,yk,Vi 0,Vi 0]) qF O (fun r=>zf 2 O O O (zz O) O (zA (zB (zI (o:=2) O O (zJ 2 (v:= .string v.key) O O O O (zC O (zEf O O O (zA (zT O (fun p=> ?_) (fun p=> ?_)))))))))))))))))))
 ·refine ze (zC O (zI (o:=3) O O (zJ 2 (v:=Vi v.amount) O O O O (zr (c:=IntKind.i64.wrap (n+v.amount)) O O O O (zF O (zx (fun h e=>⟨q1++q2,IntKind.i64.wrap (n+v.amount),⟨O,O,O,trivial⟩,zLS l d p,e.sel [0,1] O V,(by rw[d,List.length_append,List.length_append,List.length_cons];omega)⟩)))))))
 exact x2 (fun h e=>⟨q1++q2,n,⟨O,O,O,trivial⟩,zNg l d p,e.sel [0,1] O V,(by rw[d,List.length_append,List.length_append,List.length_cons];omega)⟩)
def zA9(kl:List (Nat×LeaD))(s i:Nat)(x:LeaD)(e:Int):Prop:=
 (e=17∧x=LeaD.zero∧∀ l,zl i kl=some l→l.session≠s)∨(e=0∧zl i kl=some x∧x.session=s)
theorem zNA{kl:List (Nat×LeaD)}{s i:Nat}(h:(!(zl i kl).isSome)=true∨((((zl i kl).getD LeaD.zero).session:Nat):Int)≠((s:Nat):Int)):zA9 kl s i LeaD.zero 17:=by
 refine .inl ⟨O,O,fun l hl=> ?_⟩
 rw[hl]at h
 rcases h with h|h
 · cases h
 intro e;exact h (by rw[Option.getD_some,e])
theorem zLc{kl:List (Nat×LeaD)}{s i:Nat}(h:¬((!(zl i kl).isSome)=true∨((((zl i kl).getD LeaD.zero).session:Nat):Int)≠((s:Nat):Int))):zA9 kl s i ((zl i kl).getD LeaD.zero) 0:=by
 cases hl:zl i kl with
 |none=>rw[hl]at h;exact absurd (.inl rfl) h
 |some l=>
   rw[hl,Option.getD_some]at h
   exact .inr ⟨O,hl,Decidable.by_contra fun(q:¬ l.session=s)=>h (.inr fun e=>q qG)⟩
theorem zGK{kl:List (Nat×LeaD)}{s i:Nat}{x:LeaD}{e:Int}(h:zA9 kl s i x e)(a:e≠0):e=17∧x=LeaD.zero∧∀ l,zl i kl=some l→l.session≠s:=by
 rcases h with h|h
 · exact h
 exact absurd h.1 a
theorem zEw{kl:List (Nat×LeaD)}{s i:Nat}{x:LeaD}{e:Int}(h:zA9 kl s i x e)(a:¬ e≠0):zl i kl=some x∧x.session=s:=by
 rcases h with h|h
 · rw[h.1]at a;exact absurd V a
 exact h.2
theorem zOi{kl:List (Nat×LeaD)}{s i:Nat}{x:LeaD}{e:Int}(h:zA9 kl s i x e)(a:¬ e=0):zIW kl s i x e kl:=by
 have:=zGK h a;exact .inl ⟨this.2.2,this.1,this.2.1,rfl⟩
theorem zMO{kl:List (Nat×LeaD)}{s i:Nat}{x:LeaD}{e:Int}(h:zA9 kl s i x e)(a:e=0):zIW kl s i x e (zAD i kl):=by
 have:=zEw h (fun q=>q a);exact .inr ⟨x,this.1,this.2,a,rfl,rfl⟩
theorem zJt{now:Int}{kb:List (ByteArray×Int)}{kl:List (Nat×LeaD)}{s i:Nat}{sp:Int}{x:LeaD}{e:Int}(a:¬ ¬ xS sp)(h:zA9 kl s i x e)(b:e≠0):zBa now kb kl s i sp LeaD.zero e kl:=by
 have:=zGK h b;exact .inr (.inl ⟨Decidable.not_not.1 a,this.2.2,this.1,rfl,rfl⟩)
theorem zGS{now:Int}{kb:List (ByteArray×Int)}{kl:List (Nat×LeaD)}{s i:Nat}{sp n:Int}{x:LeaD}{e:Int}(a:¬ ¬ xS sp)(h:zA9 kl s i x e)(b:¬ e≠0)(c:n=yg x.key kl)(d:(zl x.key kb).getD 0<n):zBa now kb kl s i sp LeaD.zero 16 kl:=by
 have:=zEw h b;exact .inr (.inr ⟨Decidable.not_not.1 a,x,this.1,this.2, .inl ⟨c▸d,rfl,rfl,rfl⟩⟩)
theorem zIe{now:Int}{kb:List (ByteArray×Int)}{kl:List (Nat×LeaD)}{s i:Nat}{sp n:Int}{x:LeaD}{e:Int}(a:¬ ¬ xS sp)(h:zA9 kl s i x e)(b:¬ e≠0)(c:n=yg x.key kl)(d:¬(zl x.key kb).getD 0<n):zBa now kb kl s i sp (zAm x (now+sp)) 0 (yZ i (zAm x (now+sp)) kl):=by
 have:=zEw h b;exact .inr (.inr ⟨Decidable.not_not.1 a,x,this.1,this.2, .inr ⟨by rw[c]at d;omega,rfl,rfl,rfl⟩⟩)
theorem zIy{S:List Nat}(b bm lm:Nat)(now:Int)(cnt:Nat)(kl:List (Nat×LeaD))(s i:Nat)(w:World)(g:Own w S [Res.row b 268 [.map (some bm), .map (some lm),Vi now,Vn cnt],Res.mp xn xc lm kl] w):Rets Tryz.prog 577 #[.pointer (some ⟨b,0,none⟩),Vn s,Vn i] w fun m d=>∃ (x:LeaD) (e:Int),m= .tuple #[.agg (LeaD.cells x).toArray,Vi e]∧zA9 kl s i x e∧Own w S [Res.row b 268 [.map (some bm), .map (some lm),Vi now,Vn cnt],Res.mp xn xc lm kl] d:=by
 refine zO Tryz.func577 O Tryz.ntmps577 g (zB (zk (v:= .agg #[Vn 0,Vn 0,yk,Vi 0,Vi 0]) qF O (fun n=>zF O (zA (zB (zC O (zV O O (zI (o:=1) O O (zJ 0 (v:= .map (some lm)) O O O O (zC O (zDs (k:=i) (kv:=kl) (zv:=LeaD.zero) zCa zE1 zTm O O (fun d h=>Own.holds h 1 _ O) O (zC O (zb (vs:=[.agg (LeaD.cells ((zl i kl).getD LeaD.zero)).toArray, .bool ((zl i kl).isSome)]) O O O (zb (vs:=[.agg (LeaD.cells ((zl i kl).getD LeaD.zero)).toArray, .bool ((zl i kl).isSome)]) O O O (zk (v:= .agg #[Vn 0,Vn 0,yk,Vi 0,Vi 0]) qF O (fun p=>zf 3 O O O (zz O) O (zF O (zA (zK (zB (zC O (xp (b:=(zl i kl).isSome) O O (zC O (yP (q:=(!((zl i kl).isSome))=true) 4 2 [25,24,23,22] (((((zl i kl).getD LeaD.zero).session:Nat):Int)≠((s:Nat):Int)) O O (y0 _) O O O trivial O (fun a=> ?_) (fun l=> ?_)))))))))))))))))))))))))
 ·refine zQ O (bF a) (zI (o:=1) O O (zQ O (bF a) (zJ 3 (v:=Vn (((zl i kl).getD LeaD.zero).session)) O O O O (zQ O (bF a) (zC O (zQ O (bF a) (ye O O O (z8 O (fun _ c=>c)))))))))
 refine zA (zT O (fun j=> ?_) (fun j=> ?_))
 ·refine zB (yJ (cs:=[Vn 0,Vn 0,yk,Vi 0,Vi 0]) (z:=[Vn 0,Vn 0,yk,Vi 0,Vi 0]) (pl:=[(0,1),(1,1),(2,1),(3,1),(4,1)]) qF qF O (zf 2 O O O (zz O) O (zF O (zA (zP (yl (cs:=[Vn 0,Vn 0,yk,Vi 0,Vi 0]) (v:=Vi 17) O O O qF (Own.qc (i:=2) O) (fun d c=>⟨LeaD.zero,17,O,zNA j,c.sel [0,1] O V⟩)))))))
 refine zN (zB (z6 (cs:=(LeaD.cells ((zl i kl).getD LeaD.zero))) 3 O O O (zf 2 O O O (zz O) O (zF O (zA (zP (yl (cs:=(LeaD.cells ((zl i kl).getD LeaD.zero))) (v:=Vi 0) O O O qF (Own.qc (i:=2) O) (fun d c=>⟨(zl i kl).getD LeaD.zero,0,O,zLc j,c.sel [0,1] O V⟩))))))))
theorem zSe(a c:Int)(w:World)(p:0≤a∧a≤9223372036854775807)(r: -9223372036854775808≤c∧c≤9223372036854775807):Rets Tryz.prog 36 #[Vi a,Vi c] w fun m i=>∃ (n e:Int),m= .tuple #[Vi n,Vi e]∧((9223372036854775807<a+c∧e=3∧n=0)∨(a+c≤9223372036854775807∧e=0∧n=a+c))∧Own w [] [] i:=by
 refine zO Tryz.func36 O Tryz.ntmps36 (Own.start w) (zB (zF O (zF O (zA (zK (zB (zC O (yX O O O (zC O (yB (q:=0<c) 4 2 [12,11,10,9] ((9223372036854775807 - c)<a) O O O O O O trivial O (fun d=> ?_) (fun l=> ?_)))))))))))
 ·refine zQ O (gT d) (zC O (zQ O (gT d) (zC O (zQ O (gT d) (y7 O O (zt qG) O (zQ O (gT d) (yX O O O (z8 O (fun _ h=>h)))))))))
 refine zC O (yP (q:=(0<c)∧((9223372036854775807 - c)<a)) 8 8 [22,21,20,19,18,17,16,15] ((c<0)∧(a<((-9223372036854775808) - c))) O O O O O O trivial O (fun g=> ?_) (fun j=> ?_))
 ·refine zQ O (gF g) (zC O (zQ O (gF g) (zw O O O (zQ O (gF g) (zC O (yB (q:=c<0) 4 11 [21,20,19,18] (a<((-9223372036854775808) - c)) O O O O O O ⟨_,O,O,gF g⟩ O (fun b=> ?_) (fun k=> ?_)))))))
  ·refine zQ O (gT b) (zC O (zQ O (gT b) (zC O (zQ O (gT b) (y7 O O (zt qG) O (zQ O (gT b) (zw O O O (z8 O (fun _ h=>h)))))))))
  exact z8 O (fun _ h=>h)
 refine zA (zT O (fun o=> ?_) (fun o=> ?_))
 ·refine zB (zF O (zF O (zA (zP (yh (v:=Vi 0) (v':=Vi 3) O O O (fun i h=>⟨0,3,O, .inl ⟨by omega,O,O⟩,h.drop⟩))))))
 refine zN (zB (zC O (zC O (zr O O (zt qG) O (zF O (zF O (zA (zP (yh (v:=Vi (a+c)) (v':=Vi 0) O O O (fun i h=>⟨a+c,0,O, .inr ⟨by omega,O,O⟩,h.drop⟩))))))))))
theorem zPM(v:Value)(l:List Int)(w:World)(hl:l.length=2)(r:0≤zc l 0∧zc l 0≤9223372036854775807)(h1: -9223372036854775808≤zc l 1∧zc l 1≤9223372036854775807)(hv:Rd w [] (Res.sl v l.length (l.flatMap I1))):Rets Tryz.prog 35 #[v] w fun u j=>∃ (n e:Int),u= .tuple #[Vi n,Vi e]∧((9223372036854775807<zc l 0+zc l 1∧e=3∧n=0)∨(zc l 0+zc l 1≤9223372036854775807∧e=0∧n=zc l 0+zc l 1))∧Own w [] [] j:=by
 refine zO Tryz.func35 O Tryz.ntmps35 (Own.start w) (zB (zF O (zF O (zA (zB (zF O (zA (zK (zB (zC O (zn (pR hv) O O (zC O (zA (zU (xE (fun(k:Nat) (n:Int)=>[(4,Vi n),(8,v),(9,Vj l.length),(10,Vj k)]) (fun(k:Nat) (n:Int)=>k≤2∧((k=0→n=0)∧(k=1→n=zc l 0)∧(k=2→n=zc l 0+zc l 1))∧((k<2→0≤n)∧n≤9223372036854775807)) (fun(k:Nat) (n:Int)=>[]) (fun(k:Nat) (n:Int)=>2 - k) (fun j c=>⟨0,0,⟨O,O,O,O,trivial⟩,⟨by omega,⟨fun _=>O,by omega,by omega⟩,⟨fun _=>by omega,by omega⟩⟩,c⟩) (fun k n g s=> ?_))))))))))))))))
 have x:=s.1
 have b:=s.2.1
 have p:=s.2.2
 refine zB (zw O O O (zA (zK (zT O (fun y=> ?_) (fun y=> ?_)))))
 ·have d:k<2:=by omega
  have m:(k=0→zc l k=zc l 0)∧(k=1→zc l k=zc l 1):=⟨fun h=>by rw[h],fun h=>by rw[h]⟩
  have t: -9223372036854775808≤zc l k∧zc l k≤9223372036854775807:=by rcases(show k=0∨k=1 by omega)with h|h<;>rw[h]<;>omega
  refine zN (zK (zU (zB (yL (pR hv) 1 k O O O qG O (xC (pR hv) 1 k 0 (fun _=>O) O O qG O O (zF O (zA (zB (zF O (zA (zB (zC O (zC O (zG O O (fun j c=>(zSe n (zc l k) j ⟨p.1 d,p.2⟩ t).mono ?_)))))))))))))))
  rintro _ z ⟨o,i,rfl,a,hO⟩
  refine(?_:CL _ _ _ _ _ _ (Own w [] [])) z (c.qb hO)
  refine zC O (zb (vs:=[Vi o,Vi i]) O O O (zb (vs:=[Vi o,Vi i]) O O O (zF O (zF O (zA (zB (zC O (ye O O O (zA (zT O (fun q=> ?_) (fun q=> ?_)))))))))))
  ·refine zB (zC O (zF O (zF O (zA (zP (yh (v:=Vi 0) (v':=Vi i) O O O (fun j c=>⟨0,i,O, .inl ⟨((zDe d b m a r h1).1 q).1,((zDe d b m a r h1).1 q).2,O⟩,c.drop⟩)))))))
  refine zN (ze (zr O O (zt qG) O (zC O (zx (fun j c=>⟨k+1,o,⟨O,O,O,O,trivial⟩,⟨by omega,(zDe d b m a r h1).2 q⟩,c,qG⟩)))))
 refine zu O (zB (zC O (zF O (zF O (zA (zP (yh (v:=Vi n) (v':=Vi 0) O O O (fun j c=>⟨n,0,O, .inr ⟨by have:=b.2.2 qG;omega,O,b.2.2 qG⟩,c.drop⟩))))))))
theorem zRs{S:List Nat}(b bm lm:Nat)(now:Int)(cnt:Nat)(kb:List (ByteArray×Int))(kl:List (Nat×LeaD))(k:ByteArray)(a:Int)(w:World)(x:Own w S [Res.row b 268 [.map (some bm), .map (some lm),Vi now,Vn cnt],Res.mp Value.string kc bm kb,Res.mp xn xc lm kl] w):Rets Tryz.prog 542 #[.pointer (some ⟨b,0,none⟩), .string k,Vi a] w fun u_ h=>∃ (n e:Int) (kb':List (ByteArray×Int)),u_= .tuple #[Vi n,Vi e]∧e=ku k a kb∧kb'=zDP k a kb∧(n=if e=0 then yg k kl else 0)∧Own w S [Res.row b 268 [.map (some bm), .map (some lm),Vi now,Vn cnt],Res.mp Value.string kc bm kb',Res.mp xn xc lm kl] h:=by
 refine zO Tryz.func542 O Tryz.ntmps542 x (zB (zF O (zF O (zA (zK (zB (zC O (yE qF O O O (zC O (zQ O O (zC O (zQ O O (zG O O (fun h d=>((zIh k h).mono ?_)))))))))))))))
 rintro _ y ⟨rfl,p⟩
 refine(?_:CL _ _ _ _ _ _ (Own w S [_,_,_])) y (d.qb p)
 refine zQ O O (xR (q:=kB k) O O (xB O O (zC O (yP (q:=¬(kB k)) 2 7 [19,18] (a<0) O O O O O O trivial O (fun j=> ?_) (fun z=> ?_)))))
 ·refine zQ O (gF j) (zC O (zQ O (gF j) (zw O O O (z8 O (fun _ d=>d)))))
 refine zA (zT O (fun i=> ?_) (fun i=> ?_))
 ·refine zB (zF O (zF O (zA (zP (yh (v:=Vi 0) (v':=Vi 1) O O O (fun h d=>⟨0,1,kb,O,(zED i).symm,zF0 (zED i) V,O,d⟩))))))
 refine zN (zB (zC O (zV O O (zI (o:=0) O O (zJ 0 (v:= .map (some bm)) O O O O (zC O (zDs (k:=k) (kv:=kb) (zv:=0) zD5 zHv zIC O O (fun h l=>Own.holds l 1 _ O) O (zC O (zb (vs:=[Vi ((zl k kb).getD 0), .bool ((zl k kb).isSome)]) O O O (zb (vs:=[Vi ((zl k kb).getD 0), .bool ((zl k kb).isSome)]) O O O (zF O (zF O (zA (zK (zU (zB (zC O (yT O O O (zF O (zA (zT O (fun m=> ?_) (fun m=> ?_))))))))))))))))))))))
 ·refine ze (zC O (zV O O (zI (o:=0) O O (zJ 0 (v:= .map (some bm)) O O O O (zC O (zDw 1 (k:=k) zD5 zHv O O O (zA (zB (zC O (zC O (zG O O (fun h d=>(zDC b bm lm now cnt kl k h (d.give [0,2] O V)).mono ?_))))))))))))
  rintro _ y ⟨r,rfl,g,p⟩
  refine fq [0,2] O d p (zF O (zF O (zA (zP (yh (v:=Vi r) (v':=Vi 0) O O O (fun h d=>⟨r,0,zAD k kb,O,(zEW i m).symm,zKi (zEW i m) m,g,d.sel [1,0,2] O V⟩))))))
 refine zB (zC O (xp (b:=(zl k kb).isSome) O O (zC O (yB (q:=(!((zl k kb).isSome))=true) 6 2 [53,52,51,50,49,48] (64≤((kb.length:Nat):Int)) O O (y0 _) O O O trivial O (fun c=> ?_) (fun a0=> ?_)))))
 ·refine zQ O (bT c) (zC O (zQ O (bT c) (zV O O (zQ O (bT c) (zI (o:=0) O O (zQ O (bT c) (zJ 0 (v:= .map (some bm)) O O O O (zQ O (bT c) (zCx Value.string kc (kv:=kb) zHv O (fun h l=>Own.holds l 1 _ O) O (zQ O (bT c) (xG O O O (z8 O (fun _ d=>d)))))))))))))
 refine zF O (zA (zT O (fun s=> ?_) (fun s=> ?_)))
 ·refine zB (zF O (zF O (zA (zP (yh (v:=Vi 0) (v':=Vi 7) O O O (fun h d=>⟨0,7,kb,O,(zC6 i m s).symm,zF0 (zC6 i m s) V,O,d⟩))))))
 refine ze (zC O (zV O O (zI (o:=0) O O (zJ 0 (v:= .map (some bm)) O O O O (zC O (zC O (jA 1 (k:=k) (v:=a) zD5 zHv O O O O (zA (zB (zC O (zC O (zG O O (fun h d=>((zDC b bm lm now cnt kl k h (d.give [0,2] O V)).mono ?_))))))))))))))
 rintro _ y ⟨u,rfl,g,p⟩
 refine fq [0,2] O d p (zF O (zF O (zA (zP (yh (v:=Vi u) (v':=Vi 0) O O O (fun h d=>⟨u,0,yZ k a kb,O,(zEo i s).symm,zKb (zEo i s) m,g,d.sel [1,0,2] O V⟩))))))
theorem zQ8(w:World):Rets Tryz.prog 126 #[] w fun g a=>∃ (b bm lm:Nat),g= .pointer (some ⟨b,0,none⟩)∧Own w [] [Res.row b 268 [.map (some bm), .map (some lm),Vi 0,Vn 0],Res.mp Value.string kc bm ([]:List (ByteArray×Int)),Res.mp xn xc lm ([]:List (Nat×LeaD))] a:=by
 refine zO Tryz.func126 O Tryz.ntmps126 (Own.start w) (zB (zF O (zA (zB (xk (α:=Int) Value.string kc O O (fun c=>xk (α:=LeaD) xn xc O O (fun d=>yJ (cs:=[.map (some c), .map (some d),Vi 0,Vn 0]) (z:=[.map none, .map none,Vi 0,Vn 0]) (pl:=[(0,1),(1,1),(2,1),(3,1)]) qF qF O (zj O O (fun e=>zF O (zA (zP (zm (v:= .pointer (some ⟨e,0,none⟩)) O O (fun a h=>⟨e,c,d,O,h.sel [2,0,1] O V⟩)))))))))))))
theorem zRV{S:List Nat}(b bm lm:Nat)(now:Int)(cnt:Nat)(kb:List (ByteArray×Int))(kl:List (Nat×LeaD))(s:Nat)(k:ByteArray)(a j:Int)(w:World)(a4:0≤yg k kl∧yg k kl≤9223372036854775807)(ha:xw a)(ht:0≤now∧now≤2305843009213693952)(hc:cnt≤1000000000)(a6:Own w S [Res.row b 268 [.map (some bm), .map (some lm),Vi now,Vn cnt],Res.mp Value.string kc bm kb,Res.mp xn xc lm kl] w):Rets Tryz.prog 544 #[.pointer (some ⟨b,0,none⟩),Vn s, .string k,Vi a,Vi j] w fun u_ h=>∃ (x:LeaD) (e:Int) (cnt':Nat) (kl':List (Nat×LeaD)),u_= .tuple #[.agg (LeaD.cells x).toArray,Vi e]∧e=xl s k a j kb kl∧x=zGJ e cnt s k a (now+j)∧cnt'=zKS e cnt∧kl'=zME e x kl∧Own w S [Res.row b 268 [.map (some bm), .map (some lm),Vi now,Vn cnt'],Res.mp Value.string kc bm kb,Res.mp xn xc lm kl'] h:=by
 refine zO Tryz.func544 O Tryz.ntmps544 a6 (zB (zk (v:= .agg #[Vn 0,Vn 0,yk,Vi 0,Vi 0]) qF O (fun ac=>zF O (zA (zK (zB (zC O (yE qF O O O (zC O (zQ O O (zC O (zQ O O (yT O O O (xB O O (zC O (yP (q:=((s:Nat):Int)=((0:Nat):Int)) 3 6 [26,25,24] (¬(kB k)) O O O O O O trivial O (fun n=> ?_) (fun a7=> ?_)))))))))))))))))
 ·refine zQ O (gF n) (zC O (zQ O (gF n) (zG O O (fun h c=>(zIh k h).mono ?_))))
  rintro _ w1 ⟨rfl,hO⟩
  refine(?_:CL _ _ _ _ _ _ (Own w S [_,_,_,_])) w1 (c.qb hO)
  refine zQ O (gF n) (xR (q:=kB k) O O (z8 O (fun _ c=>c)))
 refine zC O (yP (q:=(((s:Nat):Int)=((0:Nat):Int))∨(¬(kB k))) 2 11 [30,29] (a<1) O O O O O O trivial O (fun p=> ?_) (fun a8=> ?_))
 ·refine zQ O (gF p) (zC O (zQ O (gF p) (zw O O O (z8 O (fun _ c=>c)))))
 refine zC O (yP (q:=((((s:Nat):Int)=((0:Nat):Int))∨(¬(kB k)))∨(a<1)) 3 15 [35,34,33] (¬(xS j)) O O O O O O trivial O (fun l=> ?_) (fun a9=> ?_))
 ·refine zQ O (gF l) (zC O (zQ O (gF l) (zG O O (fun h c=>(zIa j h).mono ?_))))
  rintro _ w1 ⟨rfl,hO⟩
  refine(?_:CL _ _ _ _ _ _ (Own w S [_,_,_,_])) w1 (c.qb hO)
  refine zQ O (gF l) (xR (q:=xS j) O O (z8 O (fun _ c=>c)))
 refine zA (zT O (fun c1=> ?_) (fun c1=> ?_))
 ·refine zB (yJ (cs:=[Vn 0,Vn 0,yk,Vi 0,Vi 0]) (z:=[Vn 0,Vn 0,yk,Vi 0,Vi 0]) (pl:=[(0,1),(1,1),(2,1),(3,1),(4,1)]) qF qF O (zf 3 O O O (zz O) O (zF O (zA (zP (yl (cs:=[Vn 0,Vn 0,yk,Vi 0,Vi 0]) (v:=Vi 1) O O O qF (Own.qc (i:=3) O) (fun h c=>⟨LeaD.zero,1,cnt,kl,O,(zPZ (larg.1 c1)).symm,O,O,O,c.sel [0,1,2] O V⟩)))))))
 have r:¬ kC s k a j:=fun q=>c1 (larg.2 q)
 have aa:xS j:=Decidable.by_contra fun q=>c1 (.inr q)
 have ad:1≤a:=Int.not_lt.1 fun q=>c1 (.inl (.inr q))
 unfold xS at aa
 refine zN (zB (zC O (zV O O (zI (o:=0) O O (zJ 0 (v:= .map (some bm)) O O O O (zC O (zDs (k:=k) (kv:=kb) (zv:=0) zD5 zHv zIC O O (fun h a2=>Own.holds a2 1 _ O) O (zC O (zb (vs:=[Vi ((zl k kb).getD 0), .bool ((zl k kb).isSome)]) O O O (zb (vs:=[Vi ((zl k kb).getD 0), .bool ((zl k kb).isSome)]) O O O (zF O (zF O (zA (zK (zB (zC O (xp (b:=(zl k kb).isSome) O O (zA (k9 O (fun c2=> ?_) (fun c2=> ?_))))))))))))))))))))
 ·refine zB (yJ (cs:=[Vn 0,Vn 0,yk,Vi 0,Vi 0]) (z:=[Vn 0,Vn 0,yk,Vi 0,Vi 0]) (pl:=[(0,1),(1,1),(2,1),(3,1),(4,1)]) qF qF O (zf 3 O O O (zz O) O (zF O (zA (zP (yl (cs:=[Vn 0,Vn 0,yk,Vi 0,Vi 0]) (v:=Vi 8) O O O qF (Own.qc (i:=3) O) (fun h c=>⟨LeaD.zero,8,cnt,kl,O,(zTK r c2).symm,O,O,O,c.sel [0,1,2] O V⟩)))))))
 have y:¬(!(zl k kb).isSome)=true:=by rw[c2];decide
 refine zN (zB (zC O (zC O (zG O O (fun h c=>(zDC b bm lm now cnt kl k h (c.give [0,2] O V)).mono ?_)))))
 rintro _ w1 ⟨a0,rfl,u,hO⟩
 refine fq [0,2] O c hO (zC O (yG (e:=2) (sz:=1) (vs:=[Vi a0,Vi a]) qF O O qL V O (fun ab=>zG O O (fun h c=>(zPM (.slice (some ⟨ab,0,none⟩) 2 2) [a0,a] h O (by show 0≤a0∧a0≤_;rw[u];exact a4) (by show _≤a∧a≤_;exact⟨by omega,ha.2⟩) (c.qj 4 O)).mono ?_))))
 rintro _ w1 ⟨a5,a1,rfl,a3,hO⟩
 have d:=zMF a3 u
 refine(?_:CL _ _ _ _ _ _ (Own w S [_,_,_,_,_])) w1 (c.qb hO)
 refine zC O (zb (vs:=[Vi a5,Vi a1]) O O O (zb (vs:=[Vi a5,Vi a1]) O O O (zF O (zF O (zA (zK (zU (zB (zC O (ye O O O (zF O (zA (zT O (fun m=> ?_) (fun m=> ?_))))))))))))))
 ·refine zB (yJ (cs:=[Vn 0,Vn 0,yk,Vi 0,Vi 0]) (z:=[Vn 0,Vn 0,yk,Vi 0,Vi 0]) (pl:=[(0,1),(1,1),(2,1),(3,1),(4,1)]) qF qF O (zC O (zf 1 O O O (zz O) O (zF O (zA (zP (yl (cs:=[Vn 0,Vn 0,yk,Vi 0,Vi 0]) (v:=Vi a1) O O O qF (Own.qc (i:=1) O) (fun h c=>⟨LeaD.zero,a1,cnt,kl,O,(by rw[(zAa d m).2];exact(zSw r y (zAa d m).1).symm),(by rw[(zAa d m).2];rfl),(by rw[(zAa d m).2];rfl),(by rw[(zAa d m).2];rfl),c.sel [2,0,3] O V⟩))))))))
 refine zB (zC O (zC O (yX O O O (zF O (zA (zT O (fun c4=> ?_) (fun c4=> ?_)))))))
 ·refine zB (yJ (cs:=[Vn 0,Vn 0,yk,Vi 0,Vi 0]) (z:=[Vn 0,Vn 0,yk,Vi 0,Vi 0]) (pl:=[(0,1),(1,1),(2,1),(3,1),(4,1)]) qF qF O (zf 1 O O O (zz O) O (zF O (zA (zP (yl (cs:=[Vn 0,Vn 0,yk,Vi 0,Vi 0]) (v:=Vi 16) O O O qF (Own.qc (i:=1) O) (fun h c=>⟨LeaD.zero,16,cnt,kl,O,(zQu r y (j1 d m).1 (by rw[←(j1 d m).2];exact c4)).symm,O,O,O,c.sel [2,0,3] O V⟩)))))))
 refine zB (zC O (zV O O (zI (o:=1) O O (zJ 2 (v:= .map (some lm)) O O O O (zCx xn xc (kv:=kl) zE1 O (fun h a2=>Own.holds a2 3 _ O) O (xG O O O (zF O (zA (zT O (fun c5=> ?_) (fun c5=> ?_))))))))))
 ·refine zB (yJ (cs:=[Vn 0,Vn 0,yk,Vi 0,Vi 0]) (z:=[Vn 0,Vn 0,yk,Vi 0,Vi 0]) (pl:=[(0,1),(1,1),(2,1),(3,1),(4,1)]) qF qF O (zf 1 O O O (zz O) O (zF O (zA (zP (yl (cs:=[Vn 0,Vn 0,yk,Vi 0,Vi 0]) (v:=Vi 7) O O O qF (Own.qc (i:=1) O) (fun h c=>⟨LeaD.zero,7,cnt,kl,O,(zTl r y (j1 d m).1 (by rw[←(j1 d m).2];exact c4) c5).symm,O,O,O,c.sel [2,0,3] O V⟩)))))))
 refine zN (zB (zC O (zV O O (zI (o:=3) O O (zJ 2 (v:=Vn cnt) O O O O (zr O O (yy qG) O (zV O O (zI (o:=3) O O (zi (cs:=[.map (some bm), .map (some lm),Vi now,Vn cnt]) 2 O O O O O (zA (zK (zd [0,1,2,3,4] O V qF (fun h c g=>(zD 0 O za g (zD 1 O (zY O) g (zD 2 O (zL (o:=3) O) g (zD 3 O (zZ 2 (v:=Vn (cnt+1)) O O O) g (zD 4 O za g (zD 5 O za g (zD 6 O za g (zD 7 O za g (zD 8 O (zY O) g (zD 9 O (zL (o:=2) O) g (zD 10 O (zZ 2 (v:=Vi now) O O O) g (zD 11 O za g (zD 12 O (xO O O (zt qG)) g (zD 13 O (xX (cs:=[Vn (cnt+1),Vn s, .string k,Vi a,Vi (now+j)]) (z:=[Vn 0,Vn 0,yk,Vi 0,Vi 0]) (pl:=[(0,1),(1,1),(2,1),(3,1),(4,1)]) qF qF) g (zM 14 O c (zk (v:= .agg #[Vn 0,Vn 0,yk,Vi 0,Vi 0]) qF O (fun ae=>zE [0,1,2,3,4] O V (fun h c g=>zM 15 O c (zf 5 O O O (zz O) O (zE [0,1,2,3,4] O V (fun h c g=>zX ((?_:C _ _ _ _ _ _ _ (Own w S [_,_,_,_,_,_])) _ c)))))))))))))))))))))))))))))))))))
 refine zK (zd [0,1,2,4,5] O V qF (fun h c g=>zD 0 O za g (zD 1 O (zY O) g (zD 2 O (zL (o:=1) O) g (zD 3 O (zZ 2 (v:= .map (some lm)) O O O) g (zD 4 O (zL (o:=0) O) g (zD 5 O (zZ 4 (v:=Vn (cnt+1)) O O O) g (zD 6 O (xI (cs:=[Vn (cnt+1),Vn s, .string k,Vi a,Vi (now+j)]) 4 O O) g (zM 7 O c (jA 3 (k:=cnt+1) (v:=({id:=cnt+1,session:=s,key:=k,amount:=a,until_:=now+j}:LeaD)) zCa zE1 O O O O (zE [0,1,2,4,5] O V (fun h c g=>zX ((?_:C _ _ _ _ _ _ _ (Own w S [_,_,_,_,_,_])) _ c)))))))))))))
 refine zB (z6 (cs:=[Vn (cnt+1),Vn s, .string k,Vi a,Vi (now+j)]) 5 O O O (zf 1 O O O (zz O) O (zF O (zA (zP (yl (cs:=[Vn (cnt+1),Vn s, .string k,Vi a,Vi (now+j)]) (v:=Vi 0) O O O qF (Own.qc (i:=1) O) (fun h c=>⟨⟨cnt+1,s,k,a,now+j⟩,0,cnt+1,yZ (cnt+1) ⟨cnt+1,s,k,a,now+j⟩ kl,O,(zTb r y (j1 d m).1 (by rw[←(j1 d m).2];exact c4) c5).symm,O,O,O,c.sel [2,0,3] O V⟩)))))))
theorem zOJ{S:List Nat}(b bm lm:Nat)(now:Int)(cnt:Nat)(kb:List (ByteArray×Int))(kl:List (Nat×LeaD))(s i:Nat)(m:Int)(w:World)(ht:0≤now∧now≤2305843009213693952)(a0:Own w S [Res.row b 268 [.map (some bm), .map (some lm),Vi now,Vn cnt],Res.mp Value.string kc bm kb,Res.mp xn xc lm kl] w):Rets Tryz.prog 545 #[.pointer (some ⟨b,0,none⟩),Vn s,Vn i,Vi m] w fun u_ h=>∃ (x:LeaD) (e:Int) (kl':List (Nat×LeaD)),u_= .tuple #[.agg (LeaD.cells x).toArray,Vi e]∧zBa now kb kl s i m x e kl'∧Own w S [Res.row b 268 [.map (some bm), .map (some lm),Vi now,Vn cnt],Res.mp Value.string kc bm kb,Res.mp xn xc lm kl'] h:=by
 refine zO Tryz.func545 O Tryz.ntmps545 a0 (zB (zk (v:= .agg #[Vn 0,Vn 0,yk,Vi 0,Vi 0]) qF O (fun b8=>zF O (zA (zK (zB (zC O (yE qF O O O (zC O (zQ O O (zC O (zQ O O (zG O O (fun h g=>((zIa m h).mono ?_)))))))))))))))
 rintro _ w1 ⟨rfl,r⟩
 refine(?_:CL _ _ _ _ _ _ (Own w S [_,_,_,_])) w1 (g.qb r)
 refine zQ O O (xR (q:=xS m) O O (xB O O (zA (zT O (fun p=> ?_) (fun p=> ?_)))))
 ·refine zB (yJ (cs:=[Vn 0,Vn 0,yk,Vi 0,Vi 0]) (z:=[Vn 0,Vn 0,yk,Vi 0,Vi 0]) (pl:=[(0,1),(1,1),(2,1),(3,1),(4,1)]) qF qF O (zf 3 O O O (zz O) O (zF O (zA (zP (yl (cs:=[Vn 0,Vn 0,yk,Vi 0,Vi 0]) (v:=Vi 1) O O O qF (Own.qc (i:=3) O) (fun h g=>⟨LeaD.zero,1,kl,O, .inl ⟨p,O,O,O⟩,g.sel [0,1,2] O V⟩)))))))
 have a1:1≤m∧m≤1099511627776:=Decidable.not_not.1 p
 refine zN (zB (zC O (zC O (zC O (zG O O (fun h g=>(zIy b bm lm now cnt kl s i h (g.give [0,2] O V)).mono ?_))))))
 rintro _ w1 ⟨a,n,rfl,j,r⟩
 refine fq [0,2] O g r (zC O (zb (vs:=[.agg (LeaD.cells a).toArray,Vi n]) O O O (zb (vs:=[.agg (LeaD.cells a).toArray,Vi n]) O O O (zk (v:= .agg #[Vn 0,Vn 0,yk,Vi 0,Vi 0]) qF O (fun a2=>zf 4 O O O (zz O) O (zF O (zA (zK (zU (zB (zC O (ye O O O (zF O (zA (zT O (fun y=> ?_) (fun y=> ?_))))))))))))))))
 ·refine zB (yJ (cs:=[Vn 0,Vn 0,yk,Vi 0,Vi 0]) (z:=[Vn 0,Vn 0,yk,Vi 0,Vi 0]) (pl:=[(0,1),(1,1),(2,1),(3,1),(4,1)]) qF qF O (zC O (zf 1 O O O (zz O) O (zF O (zA (zP (yl (cs:=[Vn 0,Vn 0,yk,Vi 0,Vi 0]) (v:=Vi n) O O O qF (Own.qc (i:=1) O) (fun h g=>⟨LeaD.zero,n,kl,O,zJt p j y,g.sel [2,0,3] O V⟩))))))))
 refine zK (zd [0,1,4] O V qF (fun h g d=>zD 0 O za d (zD 1 O (zL (o:=2) O) d (zD 2 O (zZ 2 (v:= .string a.key) O O O) d (zD 4 O za d (zD 5 O (zY O) d (zD 6 O (zL (o:=0) O) d (zD 8 O (zL (o:=2) O) d (zD 9 O (zZ 2 (v:= .string a.key) O O O) d (z7 3 7 ?_ ?_))))))))))
 ·refine zo 3 O g (zG O O (fun h g=>(zDC b bm lm now cnt kl a.key h (g.give [2,3] O V)).mono ?_))
  rintro _ w1 ⟨a3,rfl,l,r⟩
  refine fq [2,3] O g r (zE [0,1,2] O V (fun h g d=>zM 7 O g (zJ 3 (v:= .map (some bm)) O O O O (zE [0,1,2] O V (fun h g d=>zD 10 O (zGd (k:=a.key) (kv:=kb) (zv:=0) zD5 zHv zIC O O (fun h u=>Own.holds u 0 _ O)) d (zD 11 O (zBp O O) d (zD 12 O yA d (zX ((?_:C _ _ _ _ _ _ _ (Own w S [_,_,_,_,_])) _ g)))))))))
  refine zT O (fun c3=> ?_) (fun c3=> ?_)
  ·refine zB (yJ (cs:=[Vn 0,Vn 0,yk,Vi 0,Vi 0]) (z:=[Vn 0,Vn 0,yk,Vi 0,Vi 0]) (pl:=[(0,1),(1,1),(2,1),(3,1),(4,1)]) qF qF O (zf 1 O O O (zz O) O (zF O (zA (zP (yl (cs:=[Vn 0,Vn 0,yk,Vi 0,Vi 0]) (v:=Vi 16) O O O qF (Own.qc (i:=1) O) (fun h g=>⟨LeaD.zero,16,kl,O,zGS p j y l c3,g.sel [3,0,4] O V⟩)))))))
  refine zN (zK (zd [0,1,3,4] O V qF (fun h g d=>zD 0 O (zL (o:=4) O) d (zD 2 O za d (zD 3 O (zY O) d (zD 4 O (zL (o:=2) O) d (zD 5 O (zZ 2 (v:=Vi now) O O O) d (zD 6 O za d (zD 7 O (xO O O (zt qG)) d (zM 1 O g (zJ 2 (v:=Vi a.until_) O O O O (zE [0,1,3,4] O V (fun h g d=>(zD 8 O (zKl (c:=max a.until_ (now+m)) O O (zKM _ _)) d (zD 9 O (zL (o:=4) O) d (zM 10 O g (zi (cs:=(LeaD.cells a)) 2 O O O O O (zE [0,1,3,4] O V (fun h g d=>zX ((?_:C _ _ _ _ _ _ _ (Own w S [_,_,_,_,_])) _ g))))))))))))))))))))
  refine zK (zd [0,1,2,3] O V qF (fun h g d=>zD 0 O za d (zD 1 O (zY O) d (zD 2 O (zL (o:=1) O) d (zD 3 O (zZ 3 (v:= .map (some lm)) O O O) d (zD 4 O za d (zD 5 O (xI 2 O O) d (zM 6 O g (jA 4 (k:=i) (v:=({a with until_:=max a.until_ (now+m)}:LeaD)) zCa zE1 O O O O (zE [0,1,2,3] O V (fun h g d=>zX ((?_:C _ _ _ _ _ _ _ (Own w S [_,_,_,_,_])) _ g))))))))))))
  refine zB (z6 2 O O O (zf 1 O O O (zz O) O (zF O (zA (zP (yl (cs:=[Vn a.id,Vn a.session, .string a.key,Vi a.amount,Vi (max a.until_ (now+m))]) (v:=Vi 0) O O O qF (Own.qc (i:=1) O) (fun h g=>⟨zAm a (now+m),0,yZ i (zAm a (now+m)) kl,O,zIe p j y l c3,g.sel [3,0,4] O V⟩)))))))
 refine zo 7 O g (zJ 2 (v:= .map (some bm)) O O O O (zE [0,1,4] O V (fun h g d=>zD 10 O (zGd (k:=a.key) (kv:=kb) (zv:=0) zD5 zHv zIC O O (fun h u=>Own.holds u 0 _ O)) d (zM 3 O g (zG O O (fun h g=>(zDC b bm lm now cnt kl a.key h (g.give [2,3] O V)).mono ?_))))))
 rintro _ w1 ⟨a4,rfl,l,r⟩
 refine fq [2,3] O g r (zE [0,1,2] O V (fun h g d=>zD 11 O (zBp O O) d (zD 12 O yA d (zX ((?_:C _ _ _ _ _ _ _ (Own w S [_,_,_,_,_])) _ g)))))
 refine zT O (fun c4=> ?_) (fun c4=> ?_)
 ·refine zB (yJ (cs:=[Vn 0,Vn 0,yk,Vi 0,Vi 0]) (z:=[Vn 0,Vn 0,yk,Vi 0,Vi 0]) (pl:=[(0,1),(1,1),(2,1),(3,1),(4,1)]) qF qF O (zf 1 O O O (zz O) O (zF O (zA (zP (yl (cs:=[Vn 0,Vn 0,yk,Vi 0,Vi 0]) (v:=Vi 16) O O O qF (Own.qc (i:=1) O) (fun h g=>⟨LeaD.zero,16,kl,O,zGS p j y l c4,g.sel [3,0,4] O V⟩)))))))
 refine zN (zK (zd [0,1,3,4] O V qF (fun h g d=>zD 0 O (zL (o:=4) O) d (zD 2 O za d (zD 3 O (zY O) d (zD 4 O (zL (o:=2) O) d (zD 5 O (zZ 2 (v:=Vi now) O O O) d (zD 6 O za d (zD 7 O (xO O O (zt qG)) d (zM 1 O g (zJ 2 (v:=Vi a.until_) O O O O (zE [0,1,3,4] O V (fun h g d=>(zD 8 O (zKl (c:=max a.until_ (now+m)) O O (zKM _ _)) d (zD 9 O (zL (o:=4) O) d (zM 10 O g (zi (cs:=(LeaD.cells a)) 2 O O O O O (zE [0,1,3,4] O V (fun h g d=>zX ((?_:C _ _ _ _ _ _ _ (Own w S [_,_,_,_,_])) _ g))))))))))))))))))))
 refine zK (zd [0,1,2,3] O V qF (fun h g d=>zD 0 O za d (zD 1 O (zY O) d (zD 2 O (zL (o:=1) O) d (zD 3 O (zZ 3 (v:= .map (some lm)) O O O) d (zD 4 O za d (zD 5 O (xI 2 O O) d (zM 6 O g (jA 4 (k:=i) (v:=({a with until_:=max a.until_ (now+m)}:LeaD)) zCa zE1 O O O O (zE [0,1,2,3] O V (fun h g d=>zX ((?_:C _ _ _ _ _ _ _ (Own w S [_,_,_,_,_])) _ g))))))))))))
 refine zB (z6 2 O O O (zf 1 O O O (zz O) O (zF O (zA (zP (yl (cs:=[Vn a.id,Vn a.session, .string a.key,Vi a.amount,Vi (max a.until_ (now+m))]) (v:=Vi 0) O O O qF (Own.qc (i:=1) O) (fun h g=>⟨zAm a (now+m),0,yZ i (zAm a (now+m)) kl,O,zIe p j y l c4,g.sel [3,0,4] O V⟩)))))))
theorem zOD{S:List Nat}(b bm lm:Nat)(now:Int)(cnt:Nat)(kl:List (Nat×LeaD))(s i:Nat)(w:World)(j:Own w S [Res.row b 268 [.map (some bm), .map (some lm),Vi now,Vn cnt],Res.mp xn xc lm kl] w):Rets Tryz.prog 546 #[.pointer (some ⟨b,0,none⟩),Vn s,Vn i] w fun m h=>∃ (x:LeaD) (e:Int) (kl':List (Nat×LeaD)),m= .tuple #[.agg (LeaD.cells x).toArray,Vi e]∧zIW kl s i x e kl'∧Own w S [Res.row b 268 [.map (some bm), .map (some lm),Vi now,Vn cnt],Res.mp xn xc lm kl'] h:=by
 refine zO Tryz.func546 O Tryz.ntmps546 j (zB (zk (v:= .agg #[Vn 0,Vn 0,yk,Vi 0,Vi 0]) qF O (fun p=>zF O (zA (zK (zB (zC O (yE qF O O O (zA (yW O (zN (zB (zC O (zC O (zC O (zG O O (fun h g=>(zIy b bm lm now cnt kl s i h (g.give [0,1] O V)).mono ?_)))))))))))))))))
 rintro _ q ⟨a,c,rfl,d,n⟩
 refine fq [0,1] O g n (zC O (zb (vs:=[.agg (LeaD.cells a).toArray,Vi c]) O O O (zb (vs:=[.agg (LeaD.cells a).toArray,Vi c]) O O O (zk (v:= .agg #[Vn 0,Vn 0,yk,Vi 0,Vi 0]) qF O (fun r=>zf 3 O O O (zz O) O (zF O (zA (zK (zB (zC O (yT O O O (zA (zT O (fun l=> ?_) (fun l=> ?_))))))))))))))
 ·refine ze (zC O (zV O O (zI (o:=1) O O (zJ 1 (v:= .map (some lm)) O O O O (zC O (zDw 2 (k:=i) zCa zE1 O O O (zA (zB (z6 (cs:=(LeaD.cells a)) 3 O O O (zC O (zf 0 O O O (zz O) O (zF O (zA (zP (yl (cs:=(LeaD.cells a)) (v:=Vi c) O O O qF (Own.qc (i:=0) O) (fun h g=>⟨a,c,zAD i kl,O,zMO d l,g.sel [1,2] O V⟩))))))))))))))))
 refine zN (zB (z6 (cs:=(LeaD.cells a)) 3 O O O (zC O (zf 0 O O O (zz O) O (zF O (zA (zP (yl (cs:=(LeaD.cells a)) (v:=Vi c) O O O qF (Own.qc (i:=0) O) (fun h g=>⟨a,c,kl,O,zOi d l,g.sel [1,2] O V⟩)))))))))
theorem zNc{S:List Nat}(b bm lm:Nat)(now:Int)(cnt:Nat)(kl:List (Nat×LeaD))(n:Int)(w:World)(ht:0≤now∧now≤2305843009213693952)(hn:xw n)(x:KNd kl)(hl:kl.length≤128)(z:(kX now n kl).length≤1)(a0:Own w S [Res.row b 268 [.map (some bm), .map (some lm),Vi now,Vn cnt],Res.mp xn xc lm kl] w):Rets Tryz.prog 407 #[.pointer (some ⟨b,0,none⟩),Vi n] w fun u_ m=>∃ (h:Value) (c:List Nat) (e now':Int) (kl':List (Nat×LeaD)),u_= .tuple #[h,Vi e]∧e=ka now n∧now'=yY now n∧kl'=yO now n kl∧Own w S [Res.row b 268 [.map (some bm), .map (some lm),Vi now',Vn cnt],Res.mp xn xc lm kl',Res.vec 31 1 h c.length (c.flatMap U1)] m:=by
 refine zO Tryz.func407 O Tryz.ntmps407 a0 (zB (zF O (zF O (zA (zK (zU (zB (zC O (yE qF O O O (zC O (zQ O O (zC O (zQ O O (zw O O O (xB O O (zC O (yP (q:=n<0) 2 6 [17,16] (1099511627776<n) O O O O O O trivial O (fun r=> ?_) (fun a3=> ?_))))))))))))))))))
 ·refine zQ O (gF r) (zC O (zQ O (gF r) (yX O O O (z8 O (fun _ d=>d)))))
 refine zF O (zA (zT O (fun i=> ?_) (fun i=> ?_)))
 ·refine zB (zF O (zF O (zA (zP (yh (v:=zW) (v':=Vi 1) O O O (fun m d=>⟨.slice none 0 0,[],1,now,kl,O,(jt (kl:=kl) (zHV i) V).1,(jt (kl:=kl) (zHV i) V).2.1,(jt (kl:=kl) (zHV i) V).2.2.1,(zq d 31 1)⟩))))))
 refine zB (zC O (zV O O (zI (o:=2) O O (zJ 0 (v:=Vi now) O O O O (zC O (y7 O O (zt qG) O (yX O O O (zF O (zA (zT O (fun s=> ?_) (fun s=> ?_)))))))))))
 ·refine zB (zF O (zF O (zA (zP (yh (v:=zW) (v':=Vi 3) O O O (fun m d=>⟨.slice none 0 0,[],3,now,kl,O,(jt (kl:=kl) (zHc i s) V).1,(jt (kl:=kl) (zHc i s) V).2.1,(jt (kl:=kl) (zHc i s) V).2.2.1,(zq d 31 1)⟩))))))
 refine zN (zB (zC O (zV O O (zI (o:=2) O O (zJ 0 (v:=Vi now) O O O O (zC O (zr O O (zt qG) O (zV O O (zI (o:=2) O O (zi (cs:=[.map (some bm), .map (some lm),Vi now,Vn cnt]) 0 O O O O O (zA (zK (zB (zC O (zV O O (zI (o:=1) O O (zJ 0 (v:= .map (some lm)) O O O O (jN 1 zE1 O O O (fun y=>zA (zU (zOR (fun(a kv:List (Nat×LeaD)) (h:Value) (c:List Nat)=>[(0, .pointer (some ⟨b,0,none⟩)),(4,h),(39, .pointer (some ⟨y,0,none⟩))]) (fun(a kv:List (Nat×LeaD)) (h:Value) (c:List Nat)=>PassI (now+n) kl a kv c) (fun(a kv:List (Nat×LeaD)) (h:Value) (c:List Nat)=>[Res.row b 268 [.map (some bm), .map (some lm),Vi (now+n),Vn cnt],Res.rg xn xc lm y kv a,Res.vec 31 1 h c.length (c.flatMap U1)]) (fun(a kv:List (Nat×LeaD)) (h:Value) (c:List Nat)=>a.length) (fun m d=>⟨kl,kl,zW,[],⟨O,O,O,trivial⟩,PassI.start _ _,(zq d 31 1)⟩) (fun a kv h c g u=> ?_))))))))))))))))))))))
 have a4:c.length≤128:=Nat.le_trans (PassI.len u) hl
 refine zB (zAJ 1 O O O (fun p=> ?_) (fun q1 k v q2 j=> ?_))
 ·refine zb (vs:=[yC]) O O O (zA (zK (yW O (zu O (zB (zC O (zG O O (fun m d=>(zFL h c m (by rw[(u.done p x (zAS i s)).2.2.2.length_eq];exact z) (d.give [2] O V)).mono ?_))))))))
  rintro _ w1 ⟨rfl,hO⟩
  refine fq [2] O d hO (zA (zB (zC O (zF O (zF O (zA (zP (yh (v:=h) (v':=Vi 0) O O O (fun m d=>⟨h,c,0,now+n,kv,O,(u.done p x (zAS i s)).1,(u.done p x (zAS i s)).2.1,(u.done p x (zAS i s)).2.2.1,(Own.rgEnd 1 d O)⟩)))))))))
 refine zb (vs:=[xi,Vn k, .agg (LeaD.cells v).toArray]) O O O (zA (zK (x0 O (zN (zU (zB (jV 1 O O O (zb (vs:=[Vn k, .agg (LeaD.cells v).toArray]) O O O (zb (vs:=[Vn k, .agg (LeaD.cells v).toArray]) O O O (zk (v:= .agg #[Vn 0,Vn 0,yk,Vi 0,Vi 0]) qF O (fun b7=>zF O (zf 3 O O O (zz O) O (zA (yf qF qF (zR O (zL (o:=4) O) (zR O (zZ 3 (v:=Vi v.until_) O O O) (zR O za (zR O (zY O) (zR O (zL (o:=2) O) (zR O (zZ 0 (v:=Vi (now+n)) O O O) (zR O (zIM O O) (xW (zT O (fun c5=> ?_) (fun c5=> ?_))))))))))))))))))))))))
 ·refine zB (zC O (zC O (yG (e:=31) (sz:=1) (vs:=[Vn k]) qF O O qL V O (fun a5=>yF (g:=U1) (sz:=1) (by':=8) (fun _=>O) (l:=c) (l':=[k]) (by simp[cell1,U1]) 2 qF O O O (fun m a1=>Vec.sl (Own.holds a1 4 _ O)) qH V O (fun a2=>zF O (zA (ze (zC O (zV O O (zI (o:=1) O O (zJ 0 (v:= .map (some lm)) O O O O (zC O (zLA 1 (k:=k) zCa zE1 O O O (u.out x j) (zx (fun m d=>⟨q1++q2,zAD k kv,a2,c++[k],⟨O,O,O,trivial⟩,u.yes x j c5,d.sel [0,1,2] O V,(by rw[j,List.length_append,List.length_append,List.length_cons];omega)⟩)))))))))))))))
 exact x2 (fun m d=>⟨q1++q2,kv,h,c,⟨O,O,O,trivial⟩,u.no j c5,d.sel [0,1,2] O V,(by rw[j,List.length_append,List.length_append,List.length_cons];omega)⟩)
end Go.Proofs.YthpoddkmhfhboaaGreatDoor
