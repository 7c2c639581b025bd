import Derived.Test.YthpoddkmhfhboaaGreatDoorWgE
import Derived.Test.YthpoddkmhfhboaaGreatDoorFwP
set_option linter.unusedSimpArgs false
set_option linter.unusedVariables false
set_option maxRecDepth 10000
namespace Go.Proofs.YthpoddkmhfhboaaGreatDoor
open Go.Sc
theorem zLL{P:Program}{kt:TypeId}{q:IntKind}(h:zCv P kt=some q):KeyD P kt (fun n:Int=>Value.int q n):=by
 unfold zCv at h
 split at h
 · rename_i k hk
   simp at h;subst h
   refine⟨⟨_,hk,fun a b=> ?_, .inl ⟨_,O⟩⟩,fun a=> ?_⟩
   · simp only[Instr.sameNow,if_true]
     congr 1
   simp[Instr.sameBits]
 cases h
theorem zMM{P:Program}{kt:TypeId}{q:IntKind}(h:zCv P kt=some q):KeyL P kt (fun n:Int=>Value.int q n):=(zLL h).l
theorem zQa:KeyL Tryz.prog 3 kh:=zMM qF
theorem zIp:kU Tryz.prog 79=some (3,2):=by kernel_rfl
theorem zRX:x2 Tryz.prog 2=some (kh 0):=by kernel_rfl
def yR(t rho:Int):Int:=(t*1000000+1000000+rho - 1) / (1000000+rho)
def yo(t rho:Int):Int:=t*(1000000+rho) / 1000000
theorem zF6(a:Int):0≤zHp .u64 a ((15:Nat):Int)∧zHp .u64 a ((15:Nat):Int)≤15:=by
 have h:((a%2 ^ IntKind.u64.bits).toNat&&& ((((15:Nat):Int)%2 ^ IntKind.u64.bits).toNat):Nat)≤15:=Nat.le_trans Nat.and_le_right V
 unfold zHp
 rw[yz qG];omega
theorem zMb(a:Int):IntKind.i64.wrap (zHp .u64 a ((15:Nat):Int))=zHp .u64 a ((15:Nat):Int):=by
 have:=zF6 a
 exact zt qG
theorem zFF{t a T A:Int}(b:0≤t)(h1:t≤T)(h2:0≤a)(c:a≤A):0≤t*a∧t*a≤T*A:=⟨Int.mul_nonneg b h2,Int.mul_le_mul h1 c h2 qG⟩
theorem zSV{a b:Int}(c:0≤a)(d:a≤9223372036854775807)(hb:0<b):IntKind.i64.wrap (a.tdiv b)=a / b:=by
 rw[Int.tdiv_eq_ediv_of_nonneg c]
 have h1:0≤a / b:=Int.ediv_nonneg c qG
 have h2:a / b≤a:=Int.ediv_le_self _ c
 exact zt qG
theorem zPc(t rho:Int)(w:World)(i:0≤t∧t≤1000000)(j:0≤rho∧rho≤500000):Rets Tryz.prog 87 #[Vi t,Vi rho] w fun e a=>e= .tuple #[Vi (yR t rho),Vi 0]∧Own w [] [] a:=by
 refine zO Tryz.func87 O Tryz.ntmps87 (Own.start w) (zB (zF O (zF O (zA (zK (zB (zC O (zC O (zG O O (fun a b=>(zLd t rho a).mono ?_))))))))))
 rintro _ g ⟨rfl,h⟩
 refine(?_:CL _ _ _ _ _ _ (Own w [] [])) g (b.qb h)
 refine zA (zT O (fun d=> ?_) (fun d=> ?_))
 ·exact absurd d (by unfold zAm;omega)
 refine zN (zB (zC O (zAU O O (zt qG) O (zr O O (zt qG) O (zC O (zr O O (zt qG) O (y9 O O (zt qG) O (zC O (zr O O (zt qG) O (zEw (c:=yR t rho) O O qG (zSV qG qG qG) O (zF O (zF O (zA (zP (yg (v:=Vi (yR t rho)) (v':=Vi 0) O O O (fun a b=>⟨O,b.drop⟩))))))))))))))))
theorem zQe(t rho:Int)(w:World)(d:0≤t∧t≤1000000)(j:0≤rho∧rho≤500000):Rets Tryz.prog 88 #[Vi t,Vi rho] w fun g a=>g= .tuple #[Vi (yo t rho),Vi 0]∧Own w [] [] a:=by
 have k:=zFF d.1 d.2 (show 0≤1000000+rho by omega) (show 1000000+rho≤1500000 by omega)
 refine zO Tryz.func88 O Tryz.ntmps88 (Own.start w) (zB (zF O (zF O (zA (zK (zB (zC O (zC O (zG O O (fun a b=>(zLd t rho a).mono ?_))))))))))
 rintro _ h ⟨rfl,i⟩
 refine(?_:CL _ _ _ _ _ _ (Own w [] [])) h (b.qb i)
 refine zA (zT O (fun e=> ?_) (fun e=> ?_))
 ·exact absurd e (by unfold zAm;omega)
 refine zN (zB (zC O (zC O (zr O O (zt qG) O (zAU (c:=t*(1000000+rho)) O O (zt qG) O (zEw (c:=yo t rho) O O qG (zSV qG qG qG) O (zF O (zF O (zA (zP (yg (v:=Vi (yo t rho)) (v':=Vi 0) O O O (fun a b=>⟨O,b.drop⟩))))))))))))
theorem _root_.Go.Sc.qU{p:Prop}(h:p:=by first|decide|omega):p:=h
theorem zOx(e:Int)(qe:Nat)(w:World)(h: -2≤e∧e≤1)(i:e≠0):Rets Tryz.prog 89 #[Vi e,Vn qe] w fun d a=>∃ (n:Int),d=Vi n∧0≤n∧n≤15∧Own w [] [] a:=by
 refine zO Tryz.func89 O Tryz.ntmps89 (Own.start w) (zB (zF O (zA (zB (zC O (y9 O O (zt qG) O (zAU O O (zt qG) O (zF O (zA (zK (zB (zC O (zu O O O (zA (zT O (fun g=> ?_) (fun g=> ?_))))))))))))))))
 ·refine ze (zC O (y9 O O (zt qG) O (zAU O O (zt qG) O (zI4 (c:=4*(7 - e)) O O qG (by rw[Int.tmod_eq_emod_of_nonneg qG];omega) O (zF O (zA (zB (zC O (zC O (zCE O O qU O O (zPl O O O O (yh qF O (zMb _) O ?_ qF))))))))))))
  refine zF O (zA (zP (zm (v:=Vi (zHp .u64 (zB4 .u64 ((qe:Nat):Int) (4*(7 - e))) ((15:Nat):Int))) O O (fun a b=>⟨_,O,(zF6 _).1,(zF6 _).2,b.drop⟩))))
 refine zN (zB (zC O (zC O (zCE O O qU O O (zPl O O O O (yh qF O (zMb _) O ?_ qF))))))
 refine zF O (zA (zP (zm (v:=Vi (zHp .u64 (zB4 .u64 ((qe:Nat):Int) (4*(e - 1))) ((15:Nat):Int))) O O (fun a b=>⟨_,O,(zF6 _).1,(zF6 _).2,b.drop⟩))))
def zK3(lo hi:Int)(kv kv':List (Int×Int)):Prop:=∀ k t,zl k kv=some t→∃ d,zl k kv'=some (t+d)∧lo≤d∧d≤hi
structure CkOk(kv:List (Int×Int))(T:Int):Prop where
 nd:KNd kv
 key:∀ p∈kv,(-2≤p.1∧p.1≤1)∧p.1≠0
 val:∀ p∈kv,0≤p.2∧p.2≤T
structure ClkI(lo hi:Int)(kv todo ks:List (Int×Int)):Prop where
 nd:KNd todo
 sub:∀ p∈todo,p∈kv
 kn:KNd ks
 rel:∀ k t,zl k kv=some t→(zl k todo=some t∧zl k ks=none)∨(zl k todo=none∧∃ d,zl k ks=some (t+d)∧lo≤d∧d≤hi)
 out:∀ k,zl k kv=none→zl k ks=none
theorem ClkI.start{lo hi:Int}{kv:List (Int×Int)}(h:KNd kv):ClkI lo hi kv kv []:=⟨h,fun _ h=>h,List.nodup_nil,fun _ _ h=> .inl ⟨h,rfl⟩,fun _ _=>rfl⟩
theorem ClkI.step{lo hi d k v:Int}{kv todo ks q1 q2:List (Int×Int)}(h:ClkI lo hi kv todo ks)(i:todo=q1++(k,v)::q2)(h1:lo≤d)(h2:d≤hi)(g:KNd kv):ClkI lo hi kv (q1++q2) (yZ k (v+d) ks):=by
 subst i
 have hp:(q1++(k,v)::q2).Perm ((k,v)::(q1++q2)):=List.perm_middle
 have f:=h.nd.perm hp
 have l:∀ j,zl j (q1++q2)=if j=k then none else zl j (q1++(k,v)::q2):=fun j=>by
   rw[zKO h.nd hp]
   by_cases c:j=k
   · rw[if_pos c,getA_none.2 fun p a=>by rw[c];exact(KNd.cons.1 f).1 p a]
   rw[if_neg c]
   show _=if j=k then some v else zl j (q1++q2)
   rw[if_neg c]
 refine⟨(KNd.cons.1 f).2,fun p a=>h.sub p (hp.mem_iff.2 (.tail _ a)),h.kn.put,fun j t b=> ?_,fun j b=> ?_⟩
 · rw[l,zDS]
   by_cases c:j=k
   · rw[if_pos c,if_pos c]
     have e:zl k kv=some v:=zAQ g (h.sub _ qJ)
     rw[c,e]at b;cases b
     exact .inr ⟨O,d,O,h1,h2⟩
   rw[if_neg c,if_neg c];exact h.rel j t b
 rw[zDS]
 by_cases c:j=k
 · have e:zl k kv=some v:=zAQ g (h.sub _ qJ)
   rw[c,e]at b;cases b
 rw[if_neg c];exact h.out j b
theorem ClkI.done{lo hi T:Int}{kv ks:List (Int×Int)}(h:ClkI lo hi kv [] ks)(b:CkOk kv T)(g:0≤lo)(h1:hi≤2000):zK3 lo hi kv ks∧CkOk ks (T+2000):=by
 have c:zK3 lo hi kv ks:=fun k t f=>by
   rcases h.rel k t f with⟨q,_⟩|⟨_,q⟩
   · cases q
   exact q
 have hb:∀ p∈ks,∃ t d,(p.1,t)∈kv∧p.2=t+d∧lo≤d∧d≤hi:=fun p hp=>by
   have e:=zAQ h.kn hp
   cases hq:zl p.1 kv with
   |none=>rw[h.out _ hq]at e;cases e
   |some t=>
     obtain⟨d,h1,h2⟩:=c _ _ hq
     exact⟨t,d,j2 hq,Option.some.inj (e.symm.trans h1),h2⟩
 refine⟨c,h.kn,fun p hp=> ?_,fun p hp=> ?_⟩
 · obtain⟨t,d,a,_⟩:=hb p hp
   exact b.key (p.1,t) a
 obtain⟨t,d,a,e,i,j⟩:=hb p hp
 have l:0≤t∧t≤T:=b.val (p.1,t) a
 omega
theorem zKw{n rho:Int}(a:0≤n∧n≤1000)(b:0≤rho∧rho≤500000):0≤yR n rho∧yR n rho≤yo n rho∧yo n rho≤2000:=by
 have c:=zFF a.1 a.2 (show 0≤1000000+rho by omega) (show 1000000+rho≤1500000 by omega)
 have h1:yR n rho≤n:=by
   unfold yR
   have h2:n*1000000+1000000+rho - 1<(n+1)*(1000000+rho):=by
     have:=Int.mul_nonneg a.1 b.1
     rw[Int.add_mul,Int.mul_add];omega
   have:=Int.ediv_lt_of_lt_mul (show 0<1000000+rho by omega) h2
   omega
 have d:n≤yo n rho:=by
   unfold yo
   refine Int.le_ediv_of_mul_le qG ?_
   have:=Int.mul_nonneg a.1 b.1
   rw[Int.mul_add];omega
 refine⟨?_,by omega,?_⟩
 · unfold yR;exact Int.ediv_nonneg qG qG
 unfold yo;omega
theorem zPO{lo hi sh:Int}(d:0≤lo)(h1:lo≤hi)(h2:hi≤2000000)(b:0≤sh)(a:sh≤15):IntKind.i64.wrap ((hi - lo)*sh)=(hi - lo)*sh∧IntKind.i64.wrap (((hi - lo)*sh).tdiv 15)=((hi - lo)*sh) / 15∧0≤((hi - lo)*sh) / 15∧((hi - lo)*sh) / 15≤hi - lo:=by
 have c:=zFF (show 0≤hi - lo by omega) (show hi - lo≤2000000 by omega) b a
 have e:(hi - lo)*sh≤(hi - lo)*15:=Int.mul_le_mul_of_nonneg_left a qG
 exact⟨zt qG,zSV c.1 qG qG,by omega,by omega⟩
theorem zSQ{S:List Nat}(cb m:Nat)(nodes edges rho real:Int)(sk:Bool)(kv:List (Int×Int))(n:Int)(qe:Nat)(T:Int)(w:World)(hn:0≤n∧n≤1000)(hr:0≤rho∧rho≤500000)(u:CkOk kv T)(hT:T≤1000000000000)(a5:0≤real∧real≤1000000000000)(a3:Own w S [Res.row cb 81 [.map (some m),Vi nodes,Vi edges,Vi rho,Vi real, .bool sk],Res.mp kh kh m kv] w):Rets Tryz.prog 49 #[.pointer (some ⟨cb,0,none⟩),Vi n,Vn qe] w fun u_ h=>∃ (m':Nat) (kv':List (Int×Int)),u_=Vi 0∧zK3 (yR n rho) (yo n rho) kv kv'∧CkOk kv' (T+2000)∧Own w S [Res.row cb 81 [.map (some m'),Vi nodes,Vi edges,Vi rho,Vi (real+n), .bool sk],Res.mp kh kh m' kv'] h:=by
 have b:0≤yR n rho∧yR n rho≤yo n rho∧yo n rho≤2000:=zKw hn hr
 refine zO Tryz.func49 O Tryz.ntmps49 a3 (zB (zF O (zA (zK (zB (zC O (yE qF O O O (zC O (zQ O O (zC O (zQ O O (zu O O O (xA O O (zC O (yP (q:=n<0) 2 6 [22,21] (1099511627776<n) O O O O O O trivial O (fun j=> ?_) (fun a4=> ?_))))))))))))))))
 ·refine zQ O (gF j) (zC O (zQ O (gF j) (yY O O O (z8 O (fun _ d=>d)))))
 refine zA (zT O (fun c1=> ?_) (fun c1=> ?_))
 ·exact absurd c1 qG
 refine zN (zB (zC O (zC O (zV O O (zI (o:=3) O O (zJ 0 (v:=Vi rho) O O O O (zG O O (fun h d=>(zPc n rho h qH hr).mono ?_))))))))
 rintro _ x ⟨rfl,y⟩
 refine(?_:CL _ _ _ _ _ _ (Own w S [_,_])) x (d.qb y)
 refine zC O (zb (vs:=[Vi (yR n rho),Vi 0]) O O O (zb (vs:=[Vi (yR n rho),Vi 0]) O O O (zF O (zF O (zA (zB (zC O (zC O (zV O O (zI (o:=3) O O (zJ 0 (v:=Vi rho) O O O O (zG O O (fun h d=>((zQe n rho h qH qH).mono ?_))))))))))))))
 rintro _ x ⟨rfl,y⟩
 refine(?_:CL _ _ _ _ _ _ (Own w S [_,_])) x (d.qb y)
 refine zC O (zb (vs:=[Vi (yo n rho),Vi 0]) O O O (zb (vs:=[Vi (yo n rho),Vi 0]) O O O (zF O (zF O (zA (zB (xl (α:=Int) kh kh O O (fun p=>zF O (zA (zK (zB (zC O (zV O O (zI (o:=0) O O (zJ 0 (v:= .map (some m)) O O O O (jU 1 zIp O O O (fun z=>zA (zU (xD (fun(a l:List (Int×Int))=>[(0, .pointer (some ⟨cb,0,none⟩)),(1,Vi n),(2,Vn qe),(7,Vi (yR n rho)),(9,Vi (yo n rho)),(11, .map (some p)),(47, .pointer (some ⟨z,0,none⟩))]) (fun(a l:List (Int×Int))=>ClkI (yR n rho) (yo n rho) kv a l) (fun(a l:List (Int×Int))=>[Res.row cb 81 [.map (some m),Vi nodes,Vi edges,Vi rho,Vi real, .bool sk],Res.rg kh kh m z kv a,Res.mp kh kh p l]) (fun(a l:List (Int×Int))=>a.length) (fun h d=>⟨kv,[],⟨O,O,O,O,O,O,O,trivial⟩,ClkI.start u.nd,d⟩) (fun a l g hΦ=>(zB (zAD 1 O O O (fun a0=> ?_) (fun q1 k v q2 r=> ?_)))))))))))))))))))))))
 ·refine zb (vs:=[yC]) O O O (zA (zK (yW O (zw O (zK (zB (zC O (zV O O (zI (o:=4) O O (zJ 0 (v:=Vi real) O O O O (zC O (zr O O (zt qG) O (yY O O O (zA (zT O (fun c3=> ?_) (fun c3=> ?_))))))))))))))))
  ·exact absurd c3 qG
  refine zN (zB (zC O (zV O O (zI (o:=4) O O (zJ 0 (v:=Vi real) O O O O (zC O (zr O O (zt qG) O (zV O O (zI (o:=4) O O (zi 0 O O O O O (zA (zB (zC O (zC O (zV O O (zI (o:=0) O O (zi 0 O O O O O (zA (zB (zF O (zA (zP (zm (v:=Vi 0) O O (fun h d=>⟨p,l,O,((a0▸hΦ).done u b.1 b.2.2).1,((a0▸hΦ).done u b.1 b.2.2).2,d.sel [0,2] O V⟩))))))))))))))))))))))))
 have a1:=hΦ.sub (k,v) (by rw[r];simp)
 have a6:(-2≤k∧k≤1)∧k≠0:=u.key _ a1
 have a7:0≤v∧v≤T:=u.val _ a1
 refine zb (vs:=[xx,Vi k,Vi v]) O O O (zA (zK (x0 O (zN (zU (zB (ja 1 O O O (zb (vs:=[Vi k,Vi v]) O O O (zb (vs:=[Vi k,Vi v]) O O O (zF O (zF O (zA (zB (zC O (zC O (zC O (zC O (y9 O O (zt qG) O (zC O (zC O (zG O O (fun h d=>(zOx k qe h qH qH).mono ?_))))))))))))))))))))))
 rintro _ x ⟨i,rfl,s,e,y⟩
 have a2:=zPO b.1 b.2.1 qG s e
 refine(?_:CL _ _ _ _ _ _ (Own w S [_,_,_])) x (d.qb y)
 refine zAU (c:=(yo n rho - yR n rho)*i) O O a2.1 O (zEw (c:=(yo n rho - yR n rho)*i / 15) O O qG a2.2.1 O (zr O O (zt qG) O (zr O O (zt qG) O (zF O (zA (zK (zB (zC O (yY O O O (zA (zT O (fun c5=> ?_) (fun c5=> ?_))))))))))))
 ·exact absurd c5 qG
 refine zN (ze (zC O (zC O (zC O (jC 2 (k:=k) (v:=v+((yR n rho)+((yo n rho - yR n rho)*i / 15))) zQa zIp O O O O (zx (fun h d=>⟨q1++q2,yZ k (v+(yR n rho+(yo n rho - yR n rho)*i / 15)) l,⟨O,O,O,O,O,O,O,trivial⟩,(hΦ.step r qG qG u.nd),d,(by rw[r,List.length_append,List.length_append,List.length_cons];omega)⟩)))))))
theorem zTN{S:List Nat}(cb m:Nat)(nodes edges rho real:Int)(g:Bool)(kv:List (Int×Int))(e t:Int)(w:World)(h:zl e kv=some t)(a:Own w S [Res.row cb 81 [.map (some m),Vi nodes,Vi edges,Vi rho,Vi real, .bool g],Res.mp kh kh m kv] w):Rets Tryz.prog 12 #[.pointer (some ⟨cb,0,none⟩),Vi e] w fun j c=>j= .tuple #[Vi t,Vi 0]∧Own w S [Res.row cb 81 [.map (some m),Vi nodes,Vi edges,Vi rho,Vi real, .bool g],Res.mp kh kh m kv] c:=by
 refine zO Tryz.func12 O Tryz.ntmps12 a (zB (zF O (zF O (zA (zK (zB (zC O (yE qF O O O (zA (yW O (zN (zB (zC O (zV O O (zI (o:=0) O O (zJ 0 (v:= .map (some m)) O O O O (zC O (zD4 (k:=e) (kv:=kv) (zv:=0) zQa zIp zRX O O (fun c d=>Own.holds d 1 _ O) O (zC O (zb (vs:=[Vi ((zl e kv).getD 0), .bool ((zl e kv).isSome)]) O O O (zb (vs:=[Vi ((zl e kv).getD 0), .bool ((zl e kv).isSome)]) O O O (zF O (zF O (zA (zK (zB (zC O (xo (b:=(zl e kv).isSome) O O (zA (jJ O (fun i=> ?_) (fun i=> ?_)))))))))))))))))))))))))))))))
 ·exact absurd i (by rw[h];simp)
 refine zN (zB (zC O (zF O (zF O (zA (zP (yg (v:=Vi ((zl e kv).getD 0)) (v':=Vi 0) O O O (fun c l=>⟨(by rw[h];rfl),l⟩))))))))
def CkN(j:Int)(kv:List (Int×Int)):Prop:=(j= -2∧kv=[])∨(j= -1∧kv=[(-2,0)])∨(j=0∧kv=[(-2,0),(-1,0)])∨(j=1∧kv=[(-2,0),(-1,0)])∨(j=2∧kv=[(-2,0),(-1,0),(1,0)])
theorem CkN.next{j:Int}{kv:List (Int×Int)}(h:CkN j kv)(h1:j≤1):(j≠0→CkN (j+1) (yZ j 0 kv))∧(¬ j≠0→CkN (j+1) kv):=by
 rcases h with⟨rfl,rfl⟩|⟨rfl,rfl⟩|⟨rfl,rfl⟩|⟨rfl,rfl⟩|⟨rfl,rfl⟩
 · exact⟨fun _=> .inr (.inl ⟨rfl,rfl⟩),fun q=>absurd V q⟩
 · exact⟨fun _=> .inr (.inr (.inl ⟨rfl,rfl⟩)),fun q=>absurd V q⟩
 · exact⟨fun q=>absurd rfl q,fun _=> .inr (.inr (.inr (.inl ⟨rfl,rfl⟩)))⟩
 · exact⟨fun _=> .inr (.inr (.inr (.inr ⟨rfl,rfl⟩))),fun q=>absurd V q⟩
 omega
theorem CkN.done{j:Int}{kv:List (Int×Int)}(h:CkN j kv)(h1:¬ j≤1):kv=[(-2,0),(-1,0),(1,0)]:=by
 rcases h with⟨rfl,_⟩|⟨rfl,_⟩|⟨rfl,_⟩|⟨rfl,_⟩|⟨_,h⟩
 · omega
 · omega
 · omega
 · omega
 exact h
theorem CkN.bd{j:Int}{kv:List (Int×Int)}(h:CkN j kv): -2≤j∧j≤2:=by
 rcases h with⟨rfl,_⟩|⟨rfl,_⟩|⟨rfl,_⟩|⟨rfl,_⟩|⟨rfl,_⟩<;>omega
theorem zNz(rho:Int)(w:World)(hr:0≤rho∧rho≤500000):Rets Tryz.prog 38 #[Vi 1,Vi 2,Vi rho] w fun u_ n=>∃ (cb m:Nat) (kv:List (Int×Int)),u_= .tuple #[.pointer (some ⟨cb,0,none⟩),Vi 0]∧kv=[(-2,0),(-1,0),(1,0)]∧Own w [] [Res.row cb 81 [.map (some m),Vi 1,Vi 2,Vi rho,Vi 0,yC],Res.mp kh kh m kv] n:=by
 refine zO Tryz.func38 O Tryz.ntmps38 (Own.start w) (zB (zF O (zF O (zA (zK (zB (zC O (zu O O O (zC O (yP (q:=1<1) 2 2 [14,13] (16<1) O O O O O O trivial O (fun i=> ?_) (fun a0=> ?_)))))))))))
 ·refine zQ O (gF i) (zC O (zQ O (gF i) (yY O O O (z8 O (fun _ a=>a)))))
 refine zC O (yP (q:=(1<1)∨(16<1)) 2 6 [18,17] (2<0) O O O O O O trivial O (fun l=> ?_) (fun a1=> ?_))
 ·refine zQ O (gF l) (zC O (zQ O (gF l) (zu O O O (z8 O (fun _ a=>a)))))
 refine zC O (yP (q:=((1<1)∨(16<1))∨(2<0)) 2 10 [22,21] (16<2) O O O O O O trivial O (fun b=> ?_) (fun s=> ?_))
 ·refine zQ O (gF b) (zC O (zQ O (gF b) (yY O O O (z8 O (fun _ a=>a)))))
 refine zC O (yP (q:=(((1<1)∨(16<1))∨(2<0))∨(16<2)) 2 14 [26,25] (rho<0) O O O O O O trivial O (fun c=> ?_) (fun u=> ?_))
 ·refine zQ O (gF c) (zC O (zQ O (gF c) (zu O O O (z8 O (fun _ a=>a)))))
 refine zC O (yP (q:=((((1<1)∨(16<1))∨(2<0))∨(16<2))∨(rho<0)) 2 18 [30,29] (500000<rho) O O O O O O trivial O (fun d=> ?_) (fun x=> ?_))
 ·refine zQ O (gF d) (zC O (zQ O (gF d) (yY O O O (z8 O (fun _ a=>a)))))
 refine zA (zT O (fun c1=> ?_) (fun c1=> ?_))
 ·exact absurd c1 qG
 refine zN (zB (xl (α:=Int) kh kh O O (fun e=>zC O (zC O (zC O (yJ (cs:=[.map (some e),Vi 1,Vi 2,Vi rho,Vi 0,yC]) (z:=[.map none,Vi 0,Vi 0,Vi 0,Vi 0,yC]) (pl:=[(0,1),(1,1),(2,1),(3,1),(4,1),(5,1)]) qF qF O (zj O O (fun h=>zF O (zA (zK (zB (zC O (zFr O O (zF O (zA (zU (xD (fun(j:Int) (kv:List (Int×Int))=>[(0,Vi 1),(8, .pointer (some ⟨h,0,none⟩)),(9,Vi j)]) (fun(j:Int) (kv:List (Int×Int))=>CkN j kv) (fun(j:Int) (kv:List (Int×Int))=>[Res.mp kh kh e kv,Res.row h 81 [.map (some e),Vi 1,Vi 2,Vi rho,Vi 0,yC]]) (fun(j:Int) (kv:List (Int×Int))=>(2 - j).toNat) (fun n a=>⟨-2,[],⟨O,O,(by rfl),trivial⟩, .inl ⟨O,O⟩,a⟩) (fun j kv g p=> ?_))))))))))))))))))
 have a2:=p.bd
 refine zK (zB (zC O (zC O (yx O O O (zA (zT O (fun r=> ?_) (fun r=> ?_)))))))
 ·refine zN (zK (zU (zB (zC O (yf O O O (zA (zT O (fun y=> ?_) (fun y=> ?_))))))))
  ·refine ze (zC O (zV O O (zI (o:=0) O O (zJ 1 (v:= .map (some e)) O O O O (zC O (jC 0 (k:=j) (v:=0) zQa zIp O O O O (zA (ze (zC O (zr O O (zt qG) O (zF O (zx (fun n a=>⟨j+1,yZ j 0 kv,⟨O,O,O,trivial⟩,(p.next r).1 y,a,qG⟩)))))))))))))
  refine zN (ze (zC O (zr O O (zt qG) O (zF O (zx (fun n a=>⟨j+1,kv,⟨O,O,O,trivial⟩,(p.next r).2 y,a,qG⟩))))))
 refine zw O (zB (zC O (zF O (zF O (zA (zP (yg (v:= .pointer (some ⟨h,0,none⟩)) (v':=Vi 0) O O O (fun n a=>⟨h,e,kv,O,p.done r,a.sel [1,0] O V⟩))))))))
structure CkD where
 m:Nat
 rho:Int
 real:Int
 kv:List (Int×Int)
 t1:Int
 e1:Int
 e2:Int
def Res.ck(cb:Nat)(c:CkD):Res:=Res.star [Res.row cb 81 [.map (some c.m),Vi 1,Vi 2,Vi c.rho,Vi c.real, .bool false],Res.mp kh kh c.m c.kv]
structure CkA(c:CkD)(T:Int):Prop where
 ok:CkOk c.kv T
 g1:zl 1 c.kv=some c.t1
 h1:zl (-1) c.kv=some c.e1
 h2:zl (-2) c.kv=some c.e2
 real:0≤c.real∧c.real≤T
 rho:0≤c.rho∧c.rho≤500000
def yt(c:CkD)(e:Int):Int:=if e=1 then c.t1 else if e= -1 then c.e1 else c.e2
theorem CkA.bd{c:CkD}{T:Int}(h:CkA c T):(0≤c.t1∧c.t1≤T)∧(0≤c.e1∧c.e1≤T)∧(0≤c.e2∧c.e2≤T):=⟨h.ok.val _ (j2 h.g1),h.ok.val _ (j2 h.h1),h.ok.val _ (j2 h.h2)⟩
theorem zNZ(rho:Int)(w:World)(a:0≤rho∧rho≤500000):Rets Tryz.prog 38 #[Vi 1,Vi 2,Vi rho] w fun b d=>∃ (cb:Nat) (c:CkD),b= .tuple #[.pointer (some ⟨cb,0,none⟩),Vi 0]∧CkA c 0∧c.rho=rho∧c.t1=0∧c.e1=0∧c.e2=0∧Own w [] [Res.ck cb c] d:=by
 refine(zNz rho w a).mono ?_
 rintro _ g ⟨cb,m,kv,rfl,rfl,e⟩
 refine⟨cb,⟨m,rho,0,[(-2,0),(-1,0),(1,0)],0,0,0⟩,O,⟨⟨(by unfold KNd;decide:KNd ([(-2,0),(-1,0),(1,0)]:List (Int×Int))),?_,?_⟩,O,O,O,by show(0:Int)≤0∧(0:Int)≤0;omega,a⟩,O,O,O,O,(e.qg [0,1] O V).sel [0] O V⟩
 · intro p hp;simp at hp;rcases hp with rfl|rfl|rfl<;>decide
 intro p hp;simp at hp;rcases hp with rfl|rfl|rfl<;>decide
theorem zGU{S:List Nat}(cb:Nat)(c:CkD)(n:Int)(qe:Nat)(T:Int)(w:World)(h:0≤n∧n≤1000)(b:CkA c T)(i:T≤1000000000000)(d:Own w S [Res.ck cb c] w):Rets Tryz.prog 49 #[.pointer (some ⟨cb,0,none⟩),Vi n,Vn qe] w fun j k=>∃ (a:CkD),j=Vi 0∧CkA a (T+2000)∧a.rho=c.rho∧(c.t1+yR n c.rho≤a.t1∧a.t1≤c.t1+yo n c.rho)∧(c.e1+yR n c.rho≤a.e1∧a.e1≤c.e1+yo n c.rho)∧(c.e2+yR n c.rho≤a.e2∧a.e2≤c.e2+yo n c.rho)∧Own w S [Res.ck cb a] k:=by
 have e:=b.real
 refine(zSQ cb c.m 1 2 c.rho c.real false c.kv n qe T w h b.rho b.ok i ⟨e.1,by omega⟩ (d.qi 0 O)).mono ?_
 rintro _ t ⟨l,g,rfl,h1,h2,o⟩
 obtain⟨p,g1,u⟩:=h1 _ _ b.g1
 obtain⟨q,r,v⟩:=h1 _ _ b.h1
 obtain⟨s,g3,x⟩:=h1 _ _ b.h2
 exact⟨⟨l,c.rho,c.real+n,g,c.t1+p,c.e1+q,c.e2+s⟩,O,⟨h2,g1,r,g3,by show 0≤c.real+n∧c.real+n≤T+2000;omega,b.rho⟩,O,by dsimp only;omega,by dsimp only;omega,by dsimp only;omega,(o.qg [0,1] O V).sel [0] O V⟩
theorem zIc{S:List Nat}(cb:Nat)(c:CkD)(e:Int)(T:Int)(w:World)(a:CkA c T)(d:e=1∨e= -1∨e= -2)(b:Own w S [Res.ck cb c] w):Rets Tryz.prog 12 #[.pointer (some ⟨cb,0,none⟩),Vi e] w fun g h=>g= .tuple #[Vi (yt c e),Vi 0]∧Own w S [Res.ck cb c] h:=by
 refine(zTN cb c.m 1 2 c.rho c.real false c.kv e (yt c e) w (by rcases d with rfl|rfl|rfl;exact a.g1;exact a.h1;exact a.h2) (b.qi 0 O)).mono ?_
 rintro _ j ⟨rfl,i⟩
 exact⟨O,(i.qg [0,1] O V).sel [0] O V⟩
def folA:Nat→Nat→List EntA→Prop
 |_,_,[]=>True
 |i,t,e::l=>(e.ok∧e.index=i+1∧t≤e.term)∧folA e.index e.term l
instance folA.dec:(i t:Nat)→(l:List EntA)→Decidable (folA i t l)
 |_,_,[]=>isTrue trivial
 |i,t,e::l=>by
   unfold folA
   have:=folA.dec e.index e.term l
   infer_instance
def zAM(i:Nat)(l:List EntA):Nat:=i+l.length
def zAL(t:Nat):List EntA→Nat
 | []=>t
 |e::l=>zAL e.term l
theorem folA_append{l m:List EntA}:∀ {i t:Nat},folA i t (l++m)↔folA i t l∧folA (zAM i l) (zAL t l) m:=by
 induction l with
 |nil=>intro i t;simp[folA,zAM,zAL]
 |cons e l ih=>
   intro i t
   simp only[List.cons_append,folA,ih,zAL,zAM,List.length_cons]
   constructor
   · rintro⟨h1,h2,a⟩;rw[h1.2.1]at a;exact⟨⟨h1,h2⟩,by rwa [Nat.add_assoc,Nat.add_comm 1]at a⟩
   rintro⟨⟨h1,h2⟩,a⟩;refine⟨h1,h2,?_⟩;rw[h1.2.1];rwa [Nat.add_assoc,Nat.add_comm 1]
theorem zEl{l:List EntA}{e:EntA}:∀ {t:Nat},zAL t (l++[e])=e.term:=by
 induction l with
 |nil=>intro t;rfl
 |cons a l ih=>intro t;exact ih
theorem zBw{l:List EntA}(h:0<l.length){t:Nat}:zAL t l=(zc l (l.length - 1)).term:=by
 have e:l=l.take (l.length - 1)++[zc l (l.length - 1)]:=by
   rw[←yl qG,List.take_of_length_le qG]
 rw[e,zEl];congr 1;rw[←e]
theorem folA.take{i t:Nat}{l:List EntA}(h:folA i t l)(k:Nat):folA i t (l.take k):=by
 rw[←List.take_append_drop k l]at h;exact(folA_append.1 h).1
theorem folA.ok{l:List EntA}:∀ {i t:Nat},folA i t l→∀ e∈l,e.ok:=by
 induction l with
 |nil=>intro _ _ _ e b;cases b
 |cons a l ih=>
   intro i t h e b
   rcases List.mem_cons.1 b with rfl|b
   · exact h.1.1
   exact ih h.2 e b
theorem folA.idx{l:List EntA}:∀ {i t:Nat},folA i t l→∀ k,k<l.length→(zc l k).index=i+k+1:=by
 induction l with
 |nil=>intro _ _ _ k hk;simp at hk
 |cons a l ih=>
   intro i t h k hk
   cases k with
   |zero=>simpa [zc]using h.1.2.1
   |succ k=>
     have:=ih h.2 k (by simpa using hk)
     have e:zc (a::l) (k+1)=zc l k:=by simp[zc]
     rw[e,this,h.1.2.1];omega
theorem folA.snoc{i t:Nat}{l:List EntA}{e:EntA}:folA i t (l++[e])↔folA i t l∧e.ok∧e.index=zAM i l+1∧zAL t l≤e.term:=by
 rw[folA_append];simp[folA]
theorem folA.last_le{i t:Nat}{l:List EntA}(h:folA i t l)(hi:i≤4611686018427387904):i+l.length≤4611686018427387904:=by
 by_cases hl:l.length=0
 · omega
 have h1:=h.idx (l.length - 1) qG
 have h2:=(h.ok _ (zy (l:=l) (j:=l.length - 1) qG)).1.2.1.1
 omega
theorem folA.term_le{i t:Nat}{l:List EntA}(h:folA i t l)(a:t≤4611686018427387904):zAL t l≤4611686018427387904:=by
 by_cases hl:l.length=0
 · rw[List.eq_nil_of_length_eq_zero hl];exact a
 rw[zBw qG]
 exact(h.ok _ (zy (l:=l) (j:=l.length - 1) qG)).1.2.1.2
structure LogA where
 i:Nat
 t:Nat
 l:List EntA
 deriving DecidableEq
structure LogA.good(x:LogA):Prop where
 i:x.i≤4611686018427387904
 t:x.t≤4611686018427387904
 fol:folA x.i x.t x.l
def LogA.last(x:LogA):Nat:=x.i+x.l.length
def LogA.end_(x:LogA):Nat:=zAL x.t x.l
def LogA.termE(x:LogA)(k:Nat):Nat×Int:=
 if k<x.i then(0,13)else if k=x.i then(x.t,0)else if k≤x.last then((zc x.l (k - x.i - 1)).term,0)else(0,8)
def LogA.fits(x:LogA)(k t:Nat):Prop:=(x.termE k).2=0∧(x.termE k).1=t
instance (x:LogA)(k t:Nat):Decidable (x.fits k t):=by unfold LogA.fits;infer_instance
def LogA.fresh(x:LogA)(k t:Nat):Prop:=x.end_<t∨(t=x.end_∧x.last≤k)
instance (x:LogA)(k t:Nat):Decidable (x.fresh k t):=by unfold LogA.fresh;infer_instance
def LogA.fromE(x:LogA)(k:Nat)(most:Int):List EntA×Int:=
 if k≤x.i then([],13)else if x.last+1<k then([],8)else if most<0 then([],1)else((x.l.drop (k - x.i - 1)).take most.toNat,0)
def LogA.kn(x:LogA):List EntA→Nat
 | []=>0
 |e::m=>if x.fits e.index e.term then x.kn m+1 else 0
theorem LogA.kn_le(x:LogA):∀ (m:List EntA),x.kn m≤m.length
 | []=>Nat.le_refl _
 |e::m=>by unfold LogA.kn;have:=x.kn_le m;split<;>simp<;>omega
theorem LogA.kn_fits(x:LogA):∀ (m:List EntA),∀ e∈m.take (x.kn m),x.fits e.index e.term
 | [],e,b=>by simp at b
 |a::m,e,b=>by
   unfold LogA.kn at b
   split at b
   · rename_i h
     rw[List.take_succ_cons]at b
     rcases List.mem_cons.1 b with rfl|b
     · exact h
     exact x.kn_fits m e b
   simp at b
theorem LogA.kn_of(x:LogA):∀ {m:List EntA} {k:Nat},k≤m.length→(∀ e∈m.take k,x.fits e.index e.term)→(k<m.length→¬ x.fits (zc m k).index (zc m k).term)→x.kn m=k
 | [],k,hk,_,_=>by simp at hk;subst hk;rfl
 |a::m,k,hk,h1,h2=>by
   unfold LogA.kn
   cases k with
   |zero=>rw[if_neg (by simpa [zc]using h2 qJ)]
   |succ k=>
     rw[if_pos (h1 a qJ)]
     congr 1
     refine x.kn_of (by simpa using hk) (fun e c=>h1 e (by rw[List.take_succ_cons];exact .tail _ c)) fun b=> ?_
     have:=h2 (by simpa using b)
     simpa [zc]using this
def LogA.put(x:LogA)(m:List EntA):LogA:=
 if x.kn m<m.length then⟨x.i,x.t,x.l.take ((zc m (x.kn m)).index - x.i - 1)++m.drop (x.kn m)⟩else x
def LogA.put0(x:LogA)(m:List EntA):Nat:=if x.kn m<m.length then(zc m (x.kn m)).index else 0
def LogA.append(x:LogA)(index term:Nat)(m:List EntA):LogA:=if folA index term m∧x.fits index term then x.put m else x
def LogA.ans(x:LogA)(index term:Nat)(m:List EntA):Nat×Nat×Int:=
 if folA index term m then(if x.fits index term then(index+m.length,x.put0 m,0)else(0,0,12))else(0,0,2)
def LogA.hintN(x:LogA)(k t:Nat):Nat→Nat×Nat
 |0=>(x.i,x.t)
 |n+1=>if(zc x.l n).index≤k∧(zc x.l n).term≤t then((zc x.l n).index,(zc x.l n).term)else x.hintN k t n
def LogA.hint(x:LogA)(k t:Nat):Nat×Nat:=x.hintN k t x.l.length
def LogA.shrink(x:LogA)(k:Nat):LogA:=if(x.termE k).2=0 then⟨k,(x.termE k).1,x.l.drop (k - x.i)⟩else x
theorem LogA.good.last_le{x:LogA}(h:x.good):x.last≤4611686018427387904:=h.fol.last_le h.i
theorem LogA.good.end_le{x:LogA}(h:x.good):x.end_≤4611686018427387904:=h.fol.term_le h.t
theorem LogA.fits_iff{x:LogA}{k t:Nat}:x.fits k t↔(x.i≤k∧k≤x.last)∧(if k=x.i then x.t else(zc x.l (k - x.i - 1)).term)=t:=by
 unfold LogA.fits LogA.termE
 by_cases h1:k<x.i
 · rw[if_pos h1];simp;omega
 rw[if_neg h1]
 by_cases h2:k=x.i
 · rw[if_pos h2,if_pos h2];subst h2;unfold LogA.last;simp
 rw[if_neg h2,if_neg h2]
 by_cases h3:k≤x.last
 · rw[if_pos h3];simp;omega
 rw[if_neg h3];simp;omega
theorem LogA.upto{x:LogA}{k:Nat}(h1:x.i≤k)(h2:k≤x.last):(if k=x.i then x.t else(zc x.l (k - x.i - 1)).term)=zAL x.t (x.l.take (k - x.i)):=by
 unfold LogA.last at h2
 by_cases h:k=x.i
 · rw[if_pos h,h,Nat.sub_self];rfl
 rw[if_neg h,zBw qN,List.length_take,Nat.min_eq_left qG,zDl qG]
theorem LogA.fits_end{x:LogA}{k t:Nat}(h:x.fits k t):(x.i≤k∧k≤x.last)∧zAL x.t (x.l.take (k - x.i))=t:=by
 have a:=LogA.fits_iff.1 h
 rw[LogA.upto a.1.1 a.1.2]at a
 exact a
theorem LogA.fits_of{x:LogA}{k t:Nat}(h1:x.i≤k∧k≤x.last)(h2:zAL x.t (x.l.take (k - x.i))=t):x.fits k t:=by
 rw[LogA.fits_iff,LogA.upto h1.1 h1.2];exact⟨h1,h2⟩
theorem zIH{x:LogA}{index term:Nat}{m:List EntA}(b:folA index term m)(c:x.fits index term):x.fits (zAM index (m.take (x.kn m))) (zAL term (m.take (x.kn m))):=by
 by_cases h0:x.kn m=0
 · rw[h0];exact c
 have hl:=x.kn_le m
 have a:(m.take (x.kn m)).length=x.kn m:=by simp;omega
 rw[zBw qG,a,zDl qG]
 have:=b.idx (x.kn m - 1) qG
 have h2:=x.kn_fits m (zc m (x.kn m - 1)) (by rw[←zDl (i:=x.kn m) qG];exact zy qG)
 rw[this]at h2
 have e:zAM index (m.take (x.kn m))=index+(x.kn m - 1)+1:=by unfold zAM;omega
 rw[e];exact h2
theorem zLO{x:LogA}(a:x.good){index term:Nat}{m:List EntA}(b:folA index term m)(c:x.fits index term):(x.put m).good:=by
 unfold LogA.put
 split
 · rename_i hk
   have h1:=LogA.fits_end (zIH b c)
   have h2:=b.idx _ hk
   refine⟨a.i,a.t,?_⟩
   have d:(m.take (x.kn m)).length=x.kn m:=by simp;omega
   have e:(zc m (x.kn m)).index - x.i - 1=zAM index (m.take (x.kn m)) - x.i:=by unfold zAM;omega
   dsimp only
   rw[e,folA_append]
   refine⟨a.fol.take _,?_⟩
   have f:=h1.1
   unfold LogA.last at f
   have e2:zAM x.i (x.l.take (zAM index (m.take (x.kn m)) - x.i))=zAM index (m.take (x.kn m)):=by
     show x.i+_=_;rw[List.length_take,Nat.min_eq_left qG];omega
   rw[e2,h1.2]
   rw[←List.take_append_drop (x.kn m) m]at b
   exact(folA_append.1 b).2
 exact a
theorem LogA.append_good{x:LogA}(a:x.good){index term:Nat}{m:List EntA}:(x.append index term m).good:=by
 unfold LogA.append
 split
 · rename_i h;exact zLO a h.1 h.2
 exact a
theorem LogA.kn_all{x:LogA}{m:List EntA}(h:∀ e∈m,x.fits e.index e.term):x.kn m=m.length:=x.kn_of (Nat.le_refl _) (by rwa [List.take_length]) fun h=>absurd h (Nat.lt_irrefl _)
theorem LogA.put_same{x:LogA}{m:List EntA}(h:∀ e∈m,x.fits e.index e.term):x.put m=x∧x.put0 m=0:=by
 have:=LogA.kn_all h
 constructor
 · unfold LogA.put;rw[if_neg qG]
 unfold LogA.put0;rw[if_neg qG]
end Go.Proofs.YthpoddkmhfhboaaGreatDoor
