import Derived.Test.YthpoddkmhfhboaaGreatDoorWlW
set_option linter.unusedSectionVars false
set_option linter.unusedSimpArgs false
set_option linter.unusedVariables false
set_option maxRecDepth 10000
namespace Go.Proofs.YthpoddkmhfhboaaGreatDoor
open Go.Sc
theorem zIt{P:Program}{n:Nat}{fn:Func}{R:Value→World→Prop}{A:World→Prop}{f:Nat→Value}{t0 t1 t2:Tmp}{T:TypeId}{b:Nat}{cs:List Value}{v1 v2:Value}(d:fn.results= #[.cell t0 T, .tmp t1, .tmp t2])(e:f t0= .pointer (some ⟨b,0,none⟩))(h1:f t1=v1)(h2:f t2=v2)
   (g:jF P T=some cs.length) (j:∀ w,A w→∀ i u,cs[i]?=some u→w.cell? ⟨b,0+i,none⟩=some u) (h:∀ w,A w→R (.tuple #[.agg cs.toArray,v1,v2]) w):∀ w,A w→zBb P fn n R f w:=
 fun w c=>⟨_,fun a k=>by
   have:=y7 (P:=P) g (j w c)
   simp[results,d,k.get,e,h1,h2,asAddr,this],h w c⟩
theorem ValPost.none{α:Type}{d:Option α}{x z:α}{e:Int}(h:ValPost d x z e)(a:e≠0):d= .none:=by
 rcases h with h|h
 · exact absurd h.1 a
 exact h.2.1
theorem ValPost.some{α:Type}{d:Option α}{x z:α}{e:Int}(h:ValPost d x z e)(a:¬ e≠0):d= .some x:=by
 rcases h with h|h
 · exact h.2
 exact absurd (by rw[h.1];decide) a
theorem kH{α β:Type}{p:List UInt8→Nat→Option (α×Nat)}{q:α→List UInt8→Nat→Option (β×Nat)}{b:List UInt8}{a k:Nat}{v:β}(h:yp p q b a=some (v,k)):∃ x j,p b a=some (x,j)∧q x b j=some (v,k):=by
 simp only[yp,Option.bind_eq_some_iff]at h
 obtain⟨⟨x,j⟩,h1,h2⟩:=h
 exact⟨x,j,h1,h2⟩
theorem zJB{n:Nat}(h:n<18446744073709551616):kE (x6 n):=by unfold kE x6;split<;>omega
theorem zJc{b:List UInt8}{c:CmdD}(h:zAK b=some c):c.wf:=by
 unfold zAK whole at h
 simp only[Option.bind_eq_some_iff]at h
 obtain⟨⟨x,j⟩,h1,h2⟩:=h
 split at h2
 · rename_i hc
   cases h2
   have e:=hc.2.2
   obtain⟨s,_,e1,h1⟩:=kH h1
   obtain⟨q,_,e2,h1⟩:=kH h1
   obtain⟨o,_,k,h1⟩:=kH h1
   obtain⟨d,_,m,h1⟩:=kH h1
   obtain⟨a,_,f,h1⟩:=kH h1
   obtain⟨t,_,g,h1⟩:=kH h1
   obtain⟨l,_,i,h1⟩:=kH h1
   simp only[xZ,Option.some.injEq,Prod.mk.injEq]at h1
   obtain⟨rfl,_⟩:=h1
   exact⟨(x7 e1).1,(x7 e2).1,by dsimp only at e ⊢;omega,zJB (x7 f).1,zJB (x7 g).1,(x7 i).1⟩
 cases h2
def zA6(idx:Nat)(now:Int)(cnt:Nat)(kb:List (ByteArray×Int))(kl:List (Nat×LeaD))(kr:List (Nat×RepD))(x:EntA)(r:RepD)(has:Bool)(e:Int)(idx':Nat)(now':Int)(cnt':Nat)(kb':List (ByteArray×Int))(kl':List (Nat×LeaD))(kr':List (Nat×RepD)):Prop:=
 (((¬ x.ok∧e=2)∨(x.ok∧x.index≠idx+1∧e=12))∧r=RepD.zero∧has=false∧idx'=idx∧now'=now∧cnt'=cnt∧kb'=kb∧kl'=kl∧kr'=kr)
 ∨((x.ok∧x.index=idx+1)∧e=0∧idx'=x.index∧now'=ye now x.delta
   ∧(((x.kind≠2∨zAK x.data=none)∧r=RepD.zero∧has=false∧cnt'=cnt∧kb'=kb∧kl'=yX now x.delta kl∧kr'=kr)
     ∨(x.kind=2∧has=true∧∃ c did,zAK x.data=some c∧DoK (ye now x.delta) cnt kb (yX now x.delta kl) kr c r did cnt' kb' kl' kr')))
theorem zNE{S:List Nat}(b tb cb bm lm rm idx:Nat)(now:Int)(cnt:Nat)(kb:List (ByteArray×Int))(kl:List (Nat×LeaD))(kr:List (Nat×RepD))(x:EntD)(w:World)(hx:x.wf)(hd:kE x.delta)(ht:0≤now∧now≤2305843009213693952)(hc:cnt≤1000000000)(hi:idx<18446744073709551615)(hk:KNd kl)(ah:kl.length≤128)(af:∀ k,0≤yi k (yX now x.delta kl)∧yi k (yX now x.delta kl)≤9223372036854775807)(ai:∀ i l,zl i (yX now x.delta kl)=some l→l.id<18446744073709551616∧kE l.amount∧kE l.until_)(aj:0≤ye now x.delta∧ye now x.delta≤2305843009213693952)(ap:(kZ now x.delta kl).length≤1)(ak:Own w S [Res.row b 126 [.pointer (some ⟨tb,0,none⟩), .pointer (some ⟨cb,0,none⟩),Vn idx],Res.row tb 268 [.map (some bm), .map (some lm),Vi now,Vn cnt],Res.mp Value.string kh bm kb,Res.mp xr xf lm kl,Res.row cb 275 [.map (some rm)],Res.mp ekR kj rm kr] w)(ab:EntD.rd x w S):Rets Tryz.prog 259 #[.pointer (some ⟨b,0,none⟩), .agg (EntD.cells x).toArray] w fun u_ h=>∃ (r:RepD) (has:Bool) (er:Int) (idx':Nat) (now':Int) (cnt':Nat) (kb':List (ByteArray×Int)) (kl':List (Nat×LeaD)) (kr':List (Nat×RepD)),u_= .tuple #[.agg (RepD.cells r).toArray, .bool has,Vi er]∧zA6 idx now cnt kb kl kr x.toEntA r has er idx' now' cnt' kb' kl' kr'∧Own w S [Res.row b 126 [.pointer (some ⟨tb,0,none⟩), .pointer (some ⟨cb,0,none⟩),Vn idx'],Res.row tb 268 [.map (some bm), .map (some lm),Vi now',Vn cnt'],Res.mp Value.string kh bm kb',Res.mp xr xf lm kl',Res.row cb 275 [.map (some rm)],Res.mp ekR kj rm kr'] h:=by
 have aq:=hx.data
 refine zO Tryz.func259 O Tryz.ntmps259 ak (zB (zj O O (fun b3=>zk (v:= .agg #[Vn 0,Vn 0,Vi 0,Vn 0,Vi 0,Vi 0]) qF O (fun b4=>zF O (zF O (zA (zK (zB (zC O (yE qF O O O (zA (yW O (zN (zK (zB (z6 (cs:=(EntD.cells x)) 6 O O O (zG O O (fun h a=>(zBW x h ‹_› (ab.at0 a)).mono ?_))))))))))))))))))
 rintro _ w1 ⟨ag,rfl,hO⟩
 refine(?_:CL _ _ _ _ _ _ (Own w S [_,_,_,_,_,_,_,_,_])) w1 (a.qb hO)
 refine zC O (zb (vs:=[ag,Vi (yI x.ok)]) O O O (zb (vs:=[ag,Vi (yI x.ok)]) O O O (zF O (zF O (zA (zB (zC O (yf O O O (zA (zT O (fun c2=> ?_) (fun c2=> ?_)))))))))))
 ·refine zB (yJ (cs:=[Vn 0,Vn 0,Vi 0,Vn 0,Vi 0,Vi 0]) (z:=[Vn 0,Vn 0,Vi 0,Vn 0,Vi 0,Vi 0]) (pl:=[(0,1),(1,1),(2,1),(3,1),(4,1),(5,1)]) qF qF O (zf 7 O O O (zz O) O (zF O (zF O (zA (zP (zIt (cs:=[Vn 0,Vn 0,Vi 0,Vn 0,Vi 0,Vi 0]) (v1:=yC) (v2:=Vi 2) O O O O qF (Own.qd (i:=7) O) (fun h a=>⟨({session:=0,seq:=0,e:=0,lease:=0,amount:=0,until_:=0}:RepD),false,2,idx,now,cnt,kb,kl,kr,O, .inl ⟨.inl ⟨zF1 c2,O⟩,O,O,O,O,O,O,O,O⟩,a.sel [0,1,2,3,4,5] O V⟩))))))))
 refine zN (zK (yd qF qF (zR O (zL (o:=0) O) (zR O (zZ 6 (v:=Vn x.index) O O O) (zR O za (zR O (zY O) (zR O (zL (o:=2) O) (zR O (zZ 0 (v:=Vn idx) O O O) (zR O (xN O O (yz qG)) (zR O (zGC O O) (xX (zT O (fun c3=> ?_) (fun c3=> ?_)))))))))))))
 ·refine zB (yJ (cs:=[Vn 0,Vn 0,Vi 0,Vn 0,Vi 0,Vi 0]) (z:=[Vn 0,Vn 0,Vi 0,Vn 0,Vi 0,Vi 0]) (pl:=[(0,1),(1,1),(2,1),(3,1),(4,1),(5,1)]) qF qF O (zf 7 O O O (zz O) O (zF O (zF O (zA (zP (zIt (cs:=[Vn 0,Vn 0,Vi 0,Vn 0,Vi 0,Vi 0]) (v1:=yC) (v2:=Vi 12) O O O O qF (Own.qd (i:=7) O) (fun h a=>⟨({session:=0,seq:=0,e:=0,lease:=0,amount:=0,until_:=0}:RepD),false,12,idx,now,cnt,kb,kl,kr,O, .inl ⟨.inr ⟨zCe c2,by omega,O⟩,O,O,O,O,O,O,O,O⟩,a.sel [0,1,2,3,4,5] O V⟩))))))))
 have ac:x.ok∧x.index=idx+1:=⟨zCe c2,by omega⟩
 have ar:x.data.length≤4096:=ac.1.1.2.2.2
 refine zN (zK (zd [0,2,4,5,6,7,8] O V qF (fun h a hS=>zD 0 O za hS (zD 1 O (zY O) hS (zD 2 O (zL (o:=0) O) hS (zD 3 O (zZ 0 (v:= .pointer (some ⟨tb,0,none⟩)) O O O) hS (zD 4 O (zL (o:=3) O) hS (zD 5 O (zZ 4 (v:=Vi x.delta) O O O) hS (zM 6 O a (zG O O (fun h a=>(zN8 tb bm lm now cnt kl x.delta h qH ‹_› hk ah qH (a.give [1,3] O V)).mono ?_)))))))))))
 rintro _ w1 ⟨an,ao,au,c,s,rfl,al,u,y,hO⟩
 refine fq [1,3] O a hO (zE [0,1,2,3,4,5,6] O V (fun h a hS=>zX ((?_:C _ _ _ _ _ _ _ (Own w S [_,_,_,_,_,_,_,_,_,_])) _ a)))
 refine zB (zC O (zI (o:=0) O O (zJ 4 (v:=Vn x.index) O O O O (zV O O (zI (o:=2) O O (zi 0 O O O O O (zA (zB (zI (o:=4) O O (zJ 4 (v:=x.dv) O O O O (zG O O (fun h a=>(zOq x.dv x.data h qH (a.rd0 ab.dv)).mono ?_))))))))))))
 rintro _ w1 ⟨ad,ae,a0,a1,j,m,n,a2,rfl,d,hO⟩
 have a5:=u
 have a6:=y
 refine(?_:CL _ _ _ _ _ _ (Own w S [_,_,_,_,_,_,_,_,_,_])) w1 (a.qb hO)
 refine zC O (zb (vs:=[.agg #[Vn ad,Vn ae,Vi a0, .string a1,Vi j,Vi m,Vn n],Vi a2]) O O O (zb (vs:=[.agg #[Vn ad,Vn ae,Vi a0, .string a1,Vi j,Vi m,Vn n],Vi a2]) O O O (zk (v:= .agg #[Vn 0,Vn 0,Vi 0,ym,Vi 0,Vi 0,Vn 0]) qF O (fun b9=>zf 10 O O O (zz O) O (zF O (zA (zK (zB (zI (o:=2) O O (zJ 4 (v:=Vi x.kind) O O O O (yf O O O (zC O (yP (q:=x.kind≠2) 2 3 [56,55] (a2≠0) O O O O O O trivial O (fun a3=> ?_) (fun am=> ?_))))))))))))))
 ·refine zQ O (gF a3) (zC O (zQ O (gF a3) (yf O O O (z8 O (fun _ a=>a)))))
 refine zA (zT O (fun c4=> ?_) (fun c4=> ?_))
 ·refine zB (yJ (cs:=[Vn 0,Vn 0,Vi 0,Vn 0,Vi 0,Vi 0]) (z:=[Vn 0,Vn 0,Vi 0,Vn 0,Vi 0,Vi 0]) (pl:=[(0,1),(1,1),(2,1),(3,1),(4,1),(5,1)]) qF qF O (zf 5 O O O (zz O) O (zF O (zF O (zA (zP (zIt (cs:=[Vn 0,Vn 0,Vi 0,Vn 0,Vi 0,Vi 0]) (v1:=yC) (v2:=Vi 0) O O O O qF (Own.qd (i:=5) O) (fun h a=>⟨({session:=0,seq:=0,e:=0,lease:=0,amount:=0,until_:=0}:RepD),false,0,x.index,c,cnt,kb,s,kr,O, .inr ⟨ac,O,O,a5, .inl ⟨by rcases c4 with q|q;exact .inl q;exact .inr (d.none q),O,O,O,O,a6,O⟩⟩,a.sel [0,7,1,8,2,3] O V⟩))))))))
 refine zN (zB (zC O (z6 10 O O O (zG O O (fun h a=>(zTA b tb cb bm lm rm x.index c cnt kb s kr ({session:=ad,seq:=ae,op:=a0,key:=a1,amount:=j,span:=m,lease:=n}:CmdD) h (zJc (d.some (fun q=>c4 (.inr q)))) (by rw[a5];exact aj) qH (by rw[a6];exact af _) (by rw[a6];exact ai) (a.give [0,7,1,8,2,3] O V)).mono ?_)))))
 rintro _ w1 ⟨g,p,a4,a7,a8,a9,rfl,aa,hO⟩
 refine fq [0,7,1,8,2,3] O a hO (zC O (zb (vs:=[.agg (RepD.cells g).toArray, .bool p]) O O O (zb (vs:=[.agg (RepD.cells g).toArray, .bool p]) O O O (zk (v:= .agg #[Vn 0,Vn 0,Vi 0,Vn 0,Vi 0,Vi 0]) qF O (fun av=>zf 11 O O O (zz O) O (zF O (zA (zB (z6 (cs:=(RepD.cells g)) 11 O O O (zf 1 O O O (zz O) O (zF O (zF O (zA (zP (zIt (cs:=(RepD.cells g)) (v1:=xx) (v2:=Vi 0) O O O O qF (Own.qd (i:=1) O) (fun h a=>⟨g,true,0,x.index,c,a4,a7,a8,a9,O, .inr ⟨ac,O,O,a5, .inr ⟨Decidable.not_not.1 fun q=>c4 (.inl q),O,_,_,d.some (fun q=>c4 (.inr q)),by rw[←a5,←a6];exact aa⟩⟩,a.sel [5,6,7,8,9,10] O V⟩))))))))))))))))
end Go.Proofs.YthpoddkmhfhboaaGreatDoor
namespace Go.Sc
def zCU(P:Program)(t:TypeId):Bool:=match P.underlying t with|some (.map _ _)=>true|_=>false
theorem zAj{P:Program}{t:TypeId}(h:zCU P t=true):∃ k v,P.underlying t=some (.map k v):=by
 unfold zCU at h
 split at h
 · rename_i k v hk;exact⟨k,v,hk⟩
 cases h
section
variable {κ α:Type} [DecidableEq κ] {P:Program} {kt vt t t':TypeId} {ke:κ→Value} {ve:α→Value}
variable {n:Nat} {ops:Array Oper} {N:K} {f:Nat→Value} {rest:List Oper} {d:Nat} {ty:TypeId} {p:String} {af:Array Edge} {x y z:Operand} {w0:World} {S:List Nat} {L:List Res} {A:World→Prop}
theorem zQV(d:Nat){k e:TypeId}(h:P.underlying t=some (.map k e))(m:Option Nat)(w:World):(Op.equalIn (d+1) t (.map m) (.map none)).run P w= .ok m.isNone w:=by
 cases m<;>simp[Op.equalIn,zp h]
theorem zRH{m:Option Nat}(a:zCU P t=true)(b:ev f x= .map m)(c:ev f y= .map none):RV P f ⟨some d, .binOp .eql t x y t',ty,p,af,none⟩ A (.bool m.isNone):=fun w _=>by
 obtain⟨k,v,h⟩:=zAj a
 have e:(Op.equal t (.map m) (.map none)).run P w= .ok m.isNone w:=zQV 9999 h m w
 simp only[execOp,b,c,eqGuard]
 simp[binOp,e]
theorem zH2{m:Option Nat}(a:zCU P t=true)(b:ev f x= .map m)(c:ev f y= .map none)(e:Nat.blt d n=true)(k:CL P n ops rest N (upd f d (.bool m.isNone)) A):CL P n ops (⟨some d, .binOp .eql t x y t',ty,p,af,none⟩::rest) N f A:=yN e (zRH a b c) k
theorem zHn{v:Value}(c:zCU P t=true)(e:ev f x=v)(g:Nat.blt d n=true)(k:CL P n ops rest N (upd f d (.iface t v)) A):CL P n ops (⟨some d, .makeInterface t x,ty,p,af,none⟩::rest) N f A:=by
 obtain⟨a,b,h⟩:=zAj c
 exact yN g (fun w _=>by simp[execOp,e,Instr.makeInterface,zp h]) k
theorem zM4{v:Value}{xT:TypeId}(c:zCU P t=true)(e:ev f x= .iface t v)(g:Nat.blt d n=true)(k:CL P n ops rest N (upd f d v) A):CL P n ops (⟨some d, .typeAssert x xT t false,ty,p,af,none⟩::rest) N f A:=by
 obtain⟨a,b,h⟩:=zAj c
 exact yN g (fun w _=>by simp[execOp,e,Instr.typeAssert,zp h]) k
set_option maxHeartbeats 1000000 in
theorem zLi (i : Nat) {b : Nat} {kv : List (κ × Value)} {g : FuncId} {fn : Func} {ts : Array TypeId} (l : P.funcs[g]? = some fn) (h : (fn.name == "runtime.NumGoroutine") = false) (hb : fn.body.isNone = true) (m : Extern.findNext fn = none) (q : Extern.find fn = some Extern.MapsClone.clone)
    (r : ev f x = .iface t (.map (some b))) (s : L[i]? = some (Res.map ke b kv)) (u : Nat.blt d n = true)
    (k : ∀ b', CL P n ops rest N (upd f d (.iface t (.map (some b')))) (Own w0 S (L ++ [Res.map ke b' kv]))) :
    CL P n ops (⟨some d, .call ⟨.value (.func g), #[x], ts⟩, ty, p, af, none⟩ :: rest) N f (Own w0 S L) := by
  intro w hw
  obtain ⟨es, c, h1, h2, v⟩ := hw.holds i _ s
  have y : Own w [] [Res.map ke w.heap.size kv] (w.alloc (.map es c)) :=
    Own.mk1 ⟨rfl, rfl, rfl, by simp, fun k z _ => heap_alloc_old w _ z⟩ ⟨es, c, heap_alloc_new w _, h2, v⟩ (fun b hb => by simp [Res.map] at hb; right; omega)
  refine xc (w' := w.alloc (.map es c)) ?_ u (k w.heap.size _ (hw.qb y))
  have j := run_callFunc_extern (P := P) l h hb m q #[.iface t (.map (some b))] w
  have h4 : (Extern.MapsClone.clone #[.iface t (.map (some b))]).run P w = .ok (.iface t (.map (some w.heap.size))) (w.alloc (.map es c)) := by
    have e : Extern.MapsClone.clone #[.iface t (.map (some b))] = (getObj b >>= fun o => match o with
      | .map entries c => (newObj (.map entries c) >>= fun n => pure (.iface t (.map (some n))))
      | _ => stuck "maps.clone: a map expected") := rfl
    rw [e]
    simp [x3 (P := P) h1, newObj, Sem.run]
  rw [h4] at j
  simp [execOp, resolve, invoke, show ev f (.func g) = .func (.func g) #[] #[] from rfl, Deferred.ofValue, r, j]
theorem zCg (i : Nat) {b : Nat} {kv : List (κ × α)} {g : FuncId} {fn : Func} {ts : Array TypeId} (c : P.funcs[g]? = some fn) (a : (fn.name == "runtime.NumGoroutine") = false) (hb : fn.body.isNone = true) (e : Extern.findNext fn = none) (h : Extern.find fn = some Extern.MapsClone.clone)
    (j : ev f x = .iface t (.map (some b))) (l : L[i]? = some (Res.mp ke ve b kv)) (m : Nat.blt d n = true)
    (k : ∀ b', CL P n ops rest N (upd f d (.iface t (.map (some b')))) (Own w0 S (L ++ [Res.mp ke ve b' kv]))) :
    CL P n ops (⟨some d, .call ⟨.value (.func g), #[x], ts⟩, ty, p, af, none⟩ :: rest) N f (Own w0 S L) := zLi i c a hb e h j l m k
end
end Go.Sc
namespace Go.Proofs.YthpoddkmhfhboaaGreatDoor
open Go.Sc
theorem zJd{S:List Nat}(m:Nat)(kb:List (ByteArray×Int))(w:World)(a:Own w S [Res.mp Value.string kh m kb] w):Rets Tryz.prog 130 #[.map (some m)] w fun e b=>∃ (c:Nat),e= .map (some c)∧Own w S [Res.mp Value.string kh m kb,Res.mp Value.string kh c kb] b:=by
 refine zO Tryz.func130 O Tryz.ntmps130 a (zB (zF O (zA (zK (zB (zC O (zH2 qF O O O (zA (yW O (zN (zB (zC O (zHn qF O O (zCg 0 (ke:=Value.string) (ve:=kh) (kv:=kb) Tryz.func247 qF qF qF qF O O O (fun d=>zM4 qF O O (zF O (zA (zP (zm (v:= .map (some d)) O O (fun b g=>⟨d,O,g⟩))))))))))))))))))))
theorem zJQ{S:List Nat}(m:Nat)(kl:List (Nat×LeaD))(w:World)(a:Own w S [Res.mp xr xf m kl] w):Rets Tryz.prog 131 #[.map (some m)] w fun e b=>∃ (c:Nat),e= .map (some c)∧Own w S [Res.mp xr xf m kl,Res.mp xr xf c kl] b:=by
 refine zO Tryz.func131 O Tryz.ntmps131 a (zB (zF O (zA (zK (zB (zC O (zH2 qF O O O (zA (yW O (zN (zB (zC O (zHn qF O O (zCg 0 (ke:=xr) (ve:=xf) (kv:=kl) Tryz.func247 qF qF qF qF O O O (fun d=>zM4 qF O O (zF O (zA (zP (zm (v:= .map (some d)) O O (fun b g=>⟨d,O,g⟩))))))))))))))))))))
theorem zNm{S:List Nat}(b bm lm:Nat)(now:Int)(cnt:Nat)(kb:List (ByteArray×Int))(kl:List (Nat×LeaD))(w:World)(k:Own w S [Res.row b 268 [.map (some bm), .map (some lm),Vi now,Vn cnt],Res.mp Value.string kh bm kb,Res.mp xr xf lm kl] w):Rets Tryz.prog 79 #[.pointer (some ⟨b,0,none⟩)] w fun n d=>∃ (m h i:Nat),n= .pointer (some ⟨m,0,none⟩)∧Own w S [Res.row b 268 [.map (some bm), .map (some lm),Vi now,Vn cnt],Res.mp Value.string kh bm kb,Res.mp xr xf lm kl,Res.row m 268 [.map (some h), .map (some i),Vi now,Vn cnt],Res.mp Value.string kh h kb,Res.mp xr xf i kl] d:=by
 refine zO Tryz.func79 O Tryz.ntmps79 k (zB (zF O (zA (zK (zB (zC O (yE qF O O O (zA (yW O (zN (zK (zd [0] O V qF (fun d c a=>zD 0 O za a (zD 1 O (zY O) a (zD 2 O (zL (o:=0) O) a (zD 3 O (zZ 0 (v:= .map (some bm)) O O O) a (zD 5 O za a (zD 6 O (zY O) a (zD 7 O (zL (o:=1) O) a (zD 8 O (zZ 0 (v:= .map (some lm)) O O O) a (zD 10 O za a (zD 11 O (zY O) a (zD 12 O (zL (o:=2) O) a (zD 13 O (zZ 0 (v:=Vi now) O O O) a (zD 14 O za a (zD 15 O (zY O) a (zD 16 O (zL (o:=3) O) a (zD 17 O (zZ 0 (v:=Vn cnt) O O O) a (zM 4 O c (zG O O (fun d c=>(zJd bm kb d (c.give [1] O V)).mono ?_)))))))))))))))))))))))))))))))
 rintro _ p ⟨e,rfl,l⟩
 refine fq [1] O c l (zE [0] O V (fun d c a=>zM 9 O c (zG O O (fun d c=>(zJQ lm kl d (c.give [1] O V)).mono ?_))))
 rintro _ p ⟨g,rfl,l⟩
 refine fq [1] O c l (zE [0] O V (fun d c a=>zD 18 O (xY (cs:=[.map (some e), .map (some g),Vi now,Vn cnt]) (z:=[.map none, .map none,Vi 0,Vn 0]) (pl:=[(0,1),(1,1),(2,1),(3,1)]) qF qF) a (zM 19 O c (zj O O (fun j=>zE [0] O V (fun d c a=>zD 20 O yB a (zX ((?_:C _ _ _ _ _ _ _ (Own w S [_,_,_,_,_,_])) _ c))))))))
 exact zP (zm (v:= .pointer (some ⟨j,0,none⟩)) O O (fun d c=>⟨j,e,g,O,c.sel [0,1,3,5,2,4] O V⟩))
theorem zMG{S:List Nat}(m:Nat)(kl:List (Nat×RepD))(w:World)(a:Own w S [Res.mp ekR kj m kl] w):Rets Tryz.prog 132 #[.map (some m)] w fun e b=>∃ (c:Nat),e= .map (some c)∧Own w S [Res.mp ekR kj m kl,Res.mp ekR kj c kl] b:=by
 refine zO Tryz.func132 O Tryz.ntmps132 a (zB (zF O (zA (zK (zB (zC O (zH2 qF O O O (zA (yW O (zN (zB (zC O (zHn qF O O (zCg 0 (ke:=ekR) (ve:=kj) (kv:=kl) Tryz.func247 qF qF qF qF O O O (fun d=>zM4 qF O O (zF O (zA (zP (zm (v:= .map (some d)) O O (fun b g=>⟨d,O,g⟩))))))))))))))))))))
theorem zOL{S:List Nat}(b m:Nat)(kl:List (Nat×RepD))(w:World)(g:Own w S [Res.row b 275 [.map (some m)],Res.mp ekR kj m kl] w):Rets Tryz.prog 80 #[.pointer (some ⟨b,0,none⟩)] w fun j d=>∃ (h i:Nat),j= .pointer (some ⟨h,0,none⟩)∧Own w S [Res.row b 275 [.map (some m)],Res.mp ekR kj m kl,Res.row h 275 [.map (some i)],Res.mp ekR kj i kl] d:=by
 refine zO Tryz.func80 O Tryz.ntmps80 g (zB (zF O (zA (zK (zB (zC O (yE qF O O O (zA (yW O (zN (zB (zC O (zV O O (zI (o:=0) O O (zJ 0 (v:= .map (some m)) O O O O (zG O O (fun d e=>(zMG m kl d (e.give [1] O V)).mono ?_)))))))))))))))))
 rintro _ l ⟨a,rfl,k⟩
 refine fq [1] O e k (yJ (cs:=[.map (some a)]) (z:=[.map none]) (pl:=[(0,1)]) qF qF O (zj O O (fun c=>zF O (zA (zP (zm (v:= .pointer (some ⟨c,0,none⟩)) O O (fun d e=>⟨c,a,O,e.sel [0,1,3,2] O V⟩)))))))
theorem zLt{S:List Nat}(b tb cb idx:Nat)(w:World)(a:Own w S [Res.row b 126 [.pointer (some ⟨tb,0,none⟩), .pointer (some ⟨cb,0,none⟩),Vn idx]] w):Rets Tryz.prog 21 #[.pointer (some ⟨b,0,none⟩)] w fun d c=>d=Vn idx∧Own w S [Res.row b 126 [.pointer (some ⟨tb,0,none⟩), .pointer (some ⟨cb,0,none⟩),Vn idx]] c:=by
 refine zO Tryz.func21 O Tryz.ntmps21 a (zB (zF O (zA (zK (zB (zC O (yE qF O O O (zA (yW O (zN (zB (zC O (zV O O (zI (o:=2) O O (zJ 0 (v:=Vn idx) O O O O (zF O (zA (zP (zm (v:=Vn idx) O O (fun c e=>⟨O,e⟩))))))))))))))))))))
theorem zOp{S:List Nat}(b tb cb rm idx:Nat)(kr:List (Nat×RepD))(s q:Nat)(w:World)(j:Own w S [Res.row b 126 [.pointer (some ⟨tb,0,none⟩), .pointer (some ⟨cb,0,none⟩),Vn idx],Res.row cb 275 [.map (some rm)],Res.mp ekR kj rm kr] w):Rets Tryz.prog 153 #[.pointer (some ⟨b,0,none⟩),Vn s,Vn q] w fun k g=>∃ (r:RepD) (e:Int) (f:Bool),k= .tuple #[.agg (RepD.cells r).toArray, .bool f]∧yn kr s q=(r,e)∧f=decide (e=0)∧Own w S [Res.row b 126 [.pointer (some ⟨tb,0,none⟩), .pointer (some ⟨cb,0,none⟩),Vn idx],Res.row cb 275 [.map (some rm)],Res.mp ekR kj rm kr] g:=by
 refine zO Tryz.func153 O Tryz.ntmps153 j (zB (zk (v:= .agg #[Vn 0,Vn 0,Vi 0,Vn 0,Vi 0,Vi 0]) qF O (fun m=>zF O (zA (zK (zB (zC O (yE qF O O O (zA (yW O (zN (zB (zC O (zV O O (zI (o:=1) O O (zJ 0 (v:= .pointer (some ⟨cb,0,none⟩)) O O O O (zC O (zC O (zG O O (fun g h=>(zC8 cb rm kr s q g (h.give [1,2] O V)).mono ?_))))))))))))))))))))
 rintro _ n ⟨a,c,rfl,d,l⟩
 refine fq [1,2] O h l (zC O (zb (vs:=[.agg (RepD.cells a).toArray,Vi c]) O O O (zb (vs:=[.agg (RepD.cells a).toArray,Vi c]) O O O (zk (v:= .agg #[Vn 0,Vn 0,Vi 0,Vn 0,Vi 0,Vi 0]) qF O (fun p=>zf 4 O O O (zz O) O (zF O (zA (zB (z6 (cs:=(RepD.cells a)) 4 O O O (zC O (yT O O O (zf 1 O O O (zz O) O (zF O (zA (zP (yk (cs:=(RepD.cells a)) (v:= .bool (decide (c=0))) O O O qF (Own.qd (i:=1) O) (fun g h=>⟨a,c,decide (c=0),O,d,O,h.sel [0,2,3] O V⟩)))))))))))))))))
theorem zOh{S:List Nat}(b tb cb bm lm rm idx:Nat)(now:Int)(cnt:Nat)(kb:List (ByteArray×Int))(kl:List (Nat×LeaD))(kr:List (Nat×RepD))(w:World)(r:Own w S [Res.row b 126 [.pointer (some ⟨tb,0,none⟩), .pointer (some ⟨cb,0,none⟩),Vn idx],Res.row tb 268 [.map (some bm), .map (some lm),Vi now,Vn cnt],Res.mp Value.string kh bm kb,Res.mp xr xf lm kl,Res.row cb 275 [.map (some rm)],Res.mp ekR kj rm kr] w):Rets Tryz.prog 44 #[.pointer (some ⟨b,0,none⟩)] w fun x d=>∃ (u j k l m n:Nat),x= .pointer (some ⟨u,0,none⟩)∧Own w S [Res.row b 126 [.pointer (some ⟨tb,0,none⟩), .pointer (some ⟨cb,0,none⟩),Vn idx],Res.row tb 268 [.map (some bm), .map (some lm),Vi now,Vn cnt],Res.mp Value.string kh bm kb,Res.mp xr xf lm kl,Res.row cb 275 [.map (some rm)],Res.mp ekR kj rm kr,Res.row u 126 [.pointer (some ⟨j,0,none⟩), .pointer (some ⟨k,0,none⟩),Vn idx],Res.row j 268 [.map (some l), .map (some m),Vi now,Vn cnt],Res.mp Value.string kh l kb,Res.mp xr xf m kl,Res.row k 275 [.map (some n)],Res.mp ekR kj n kr] d:=by
 refine zO Tryz.func44 O Tryz.ntmps44 r (zB (zF O (zA (zK (zB (zC O (yE qF O O O (zA (yW O (zN (zK (zd [0] O V qF (fun d c a=>zD 0 O za a (zD 1 O (zY O) a (zD 2 O (zL (o:=0) O) a (zD 3 O (zZ 0 (v:= .pointer (some ⟨tb,0,none⟩)) O O O) a (zD 5 O za a (zD 6 O (zY O) a (zD 7 O (zL (o:=1) O) a (zD 8 O (zZ 0 (v:= .pointer (some ⟨cb,0,none⟩)) O O O) a (zD 10 O za a (zD 11 O (zY O) a (zD 12 O (zL (o:=2) O) a (zD 13 O (zZ 0 (v:=Vn idx) O O O) a (zM 4 O c (zG O O (fun d c=>((zNm tb bm lm now cnt kb kl d (c.give [1,2,3] O V)).mono ?_))))))))))))))))))))))))))))
 rintro _ y ⟨e,h,i,rfl,s⟩
 refine fq [1,2,3] O c s (zE [0] O V (fun d c a=>zM 9 O c (zG O O (fun d c=>(zOL cb rm kr d (c.give [1,2] O V)).mono ?_))))
 rintro _ y ⟨g,p,rfl,s⟩
 refine fq [1,2] O c s (zE [0] O V (fun d c a=>zD 14 O (xY (cs:=[.pointer (some ⟨e,0,none⟩), .pointer (some ⟨g,0,none⟩),Vn idx]) (z:=[.pointer none, .pointer none,Vn 0]) (pl:=[(0,1),(1,1),(2,1)]) qF qF) a (zM 15 O c (zj O O (fun q=>zE [0] O V (fun d c a=>zD 16 O yB a (zX ((?_:C _ _ _ _ _ _ _ (Own w S [_,_,_,_,_,_,_,_,_,_,_,_])) _ c))))))))
 exact zP (zm (v:= .pointer (some ⟨q,0,none⟩)) O O (fun d c=>⟨q,e,g,h,i,p,O,c.sel [0,1,2,3,7,8,11,4,5,6,9,10] O V⟩))
structure LgA where
 now:Int
 cnt:Nat
 kb:List (ByteArray×Int)
 kl:List (Nat×LeaD)
 kr:List (Nat×RepD)
structure LgD where
 tb:Nat
 cb:Nat
 bm:Nat
 lm:Nat
 rm:Nat
 idx:Nat
 a:LgA
def lgZ:LgA:=⟨0,0,[],[],[]⟩
def lgP(b:Nat)(s:LgD):List Res:=[Res.row b 126 [.pointer (some ⟨s.tb,0,none⟩), .pointer (some ⟨s.cb,0,none⟩),Vn s.idx],Res.row s.tb 268 [.map (some s.bm), .map (some s.lm),Vi s.a.now,Vn s.a.cnt],Res.mp Value.string kh s.bm s.a.kb,Res.mp xr xf s.lm s.a.kl,Res.row s.cb 275 [.map (some s.rm)],Res.mp ekR kj s.rm s.a.kr]
def Res.lg(b:Nat)(s:LgD):Res:=Res.star (lgP b s)
structure ApOk(a:LgA)(d:Int):Prop where
 dl:kE d
 now:0≤a.now∧a.now≤2305843009213693952
 cnt:a.cnt≤1000000000
 nd:KNd a.kl
 len:a.kl.length≤128
 lent:∀ k,0≤yi k (yX a.now d a.kl)∧yi k (yX a.now d a.kl)≤9223372036854775807
 lea:∀ i l,zl i (yX a.now d a.kl)=some l→l.id<18446744073709551616∧kE l.amount∧kE l.until_
 pn:0≤ye a.now d∧ye a.now d≤2305843009213693952
 gone:(kZ a.now d a.kl).length≤1
structure DoOk(a:LgA)(k:ByteArray):Prop where
 now:0≤a.now∧a.now≤2305843009213693952
 cnt:a.cnt≤1000000000
 lent:0≤yi k a.kl∧yi k a.kl≤9223372036854775807
 lea:∀ i l,zl i a.kl=some l→l.id<18446744073709551616∧kE l.amount∧kE l.until_
theorem zQ4(w:World):Rets Tryz.prog 77 #[] w fun c d=>∃ (b:Nat) (s:LgD),c= .pointer (some ⟨b,0,none⟩)∧s.idx=0∧s.a=lgZ∧Own w [] [Res.lg b s] d:=by
 refine(zQR w).mono ?_
 rintro _ g ⟨b,tb,cb,bm,lm,rm,rfl,e⟩
 exact⟨b,⟨tb,cb,bm,lm,rm,0,lgZ⟩,O,O,O,(e.qg [0,1,2,3,4,5] O V).sel [0] O V⟩
theorem kB{S:List Nat}(b:Nat)(s:LgD)(x:EntD)(w:World)(q:x.wf)(c:ApOk s.a x.delta)(hi:s.idx<18446744073709551615)(m:Own w S [Res.lg b s] w)(g:EntD.rd x w S):Rets Tryz.prog 259 #[.pointer (some ⟨b,0,none⟩), .agg (EntD.cells x).toArray] w fun t u=>∃ (e:LgD) (r:RepD) (d:Bool) (l:Int),t= .tuple #[.agg (RepD.cells r).toArray, .bool d,Vi l]∧zA6 s.idx s.a.now s.a.cnt s.a.kb s.a.kl s.a.kr x.toEntA r d l e.idx e.a.now e.a.cnt e.a.kb e.a.kl e.a.kr∧Own w S [Res.lg b e] u:=by
 refine(zNE b s.tb s.cb s.bm s.lm s.rm s.idx s.a.now s.a.cnt s.a.kb s.a.kl s.a.kr x w q c.dl c.now c.cnt hi c.nd c.len c.lent c.lea c.pn c.gone (m.qi 0 O) g).mono ?_
 rintro _ y ⟨r,d,l,i,j,k,n,o,p,rfl,h,v⟩
 exact⟨⟨s.tb,s.cb,s.bm,s.lm,s.rm,i,⟨j,k,n,o,p⟩⟩,r,d,l,O,h,(v.qg [0,1,2,3,4,5] O V).sel [0] O V⟩
theorem zJD{S:List Nat}(b:Nat)(s:LgD)(c q:Nat)(w:World)(d:Own w S [Res.lg b s] w):Rets Tryz.prog 153 #[.pointer (some ⟨b,0,none⟩),Vn c,Vn q] w fun g i=>∃ (r:RepD) (e:Int) (f:Bool),g= .tuple #[.agg (RepD.cells r).toArray, .bool f]∧yn s.a.kr c q=(r,e)∧f=decide (e=0)∧Own w S [Res.lg b s] i:=by
 have h1:=(d.qi 0 rfl).sel [0,4,5,1,2,3] rfl V
 refine(zOp b s.tb s.cb s.rm s.idx s.a.kr c q w (h1.give [0,1,2] O V)).mono ?_
 rintro _ k ⟨r,e,f,rfl,h,h2,j⟩
 exact⟨r,e,f,O,h,h2,(((h1.qc [0,1,2] O j).sel [3,0,1,2,4,5] O V).qg [0,1,2,3,4,5] O V).sel [0] O V⟩
theorem jX{S:List Nat}(b:Nat)(s:LgD)(w:World)(a:Own w S [Res.lg b s] w):Rets Tryz.prog 21 #[.pointer (some ⟨b,0,none⟩)] w fun c d=>c=Vn s.idx∧Own w S [Res.lg b s] d:=by
 have h1:=a.qi 0 rfl
 refine(zLt b s.tb s.cb s.idx w (h1.give [0] O V)).mono ?_
 rintro _ g ⟨rfl,e⟩
 exact⟨O,(((h1.qc [0] O e).sel [5,0,1,2,3,4] O V).qg [0,1,2,3,4,5] O V).sel [0] O V⟩
theorem zIe{S:List Nat}(b:Nat)(s:LgD)(w:World)(d:Own w S [Res.lg b s] w):Rets Tryz.prog 44 #[.pointer (some ⟨b,0,none⟩)] w fun k l=>∃ (c:Nat) (j:LgD),k= .pointer (some ⟨c,0,none⟩)∧j.idx=s.idx∧Own w S [Res.lg b s,Res.lg c j] l:=by
 refine(zOh b s.tb s.cb s.bm s.lm s.rm s.idx s.a.now s.a.cnt s.a.kb s.a.kl s.a.kr w (d.qi 0 O)).mono ?_
 rintro _ n ⟨c,tb2,e,g,h,i,rfl,m⟩
 exact⟨c,⟨tb2,e,g,h,i,s.idx,s.a⟩,O,O,((m.qg [0,1,2,3,4,5] O V).qg [0,1,2,3,4,5] O V).sel [0,1] O V⟩
abbrev jL(wb:Nat)(st:SetD)(nv dv ev:Value)(pb cb:Nat)(n:Value)(cv ov lv km:Value):Res:=Res.row wb 72 [Vi st.nodes,Vi st.voters,Vi st.edges,Vi st.rho,Vi st.base,Vi st.spread,Vi st.beat,Vi st.disk,Vi st.post,Vi st.keep,nv,dv,ev,pt pb,pt cb,n,cv,ov,lv, .bool false, .slice none 0 0,km]
abbrev kV(nb cb gb:Nat)(av:Value)(lk stb:Nat)(st:SetD)(ov tv fv:Value):Res:=Res.row nb 122 [pt cb,pt gb,av,Vn lk,pt stb,Vi st.nodes,Vi st.voters,Vi st.edges,Vi st.rho,Vi st.base,Vi st.spread,Vi st.beat,Vi st.disk,Vi st.post,Vi st.keep, .bool false,ov,tv,fv]
theorem zD2(k:ByteArray):zCr (jW k)=k:=by cases k;simp[zCr,jW]
theorem zLU{x:CmdD}(h:x.wf)(ho:0≤x.op∧x.op≤5):Rt zMk x x.enc:=by
 have b:=zAx h.amount
 have c:=zAx h.span
 have d:=zD2 x.key
 have a:(jW x.key).length<18446744073709551616:=by rw[xa];have:=h.key;omega
 have e1:x.enc=xS x.session++(xS x.seq++(xS (u64 x.op)++(dat (jW x.key)++(xS (u64 x.amount)++(xS (u64 x.span)++(xS x.lease++[])))))):=by simp[CmdD.enc,yO]
 rw[e1]
 have e:Rt (yp kI fun l=>xZ (⟨x.session,x.seq,x.op,zCr (jW x.key),x6 (u64 x.amount),x6 (u64 x.span),l⟩:CmdD)) x (xS x.lease++[]):=
   (x8 h.lease).bind (q:=fun l=>xZ (⟨x.session,x.seq,x.op,zCr (jW x.key),x6 (u64 x.amount),x6 (u64 x.span),l⟩:CmdD)) (by rw[b,c,d];exact Rt.pure x)
 exact(x8 h.session).bind ((x8 h.seq).bind ((zHY ho.1 ho.2 V).bind ((zGE a).bind ((x8 (ya _)).bind ((x8 (ya _)).bind e)))))
theorem zO8{x:CmdD}(h:x.wf)(ho:x.ok):zAK x.enc=some x:=zCY (p:=zMk) (zLU h ⟨by have:=ho.1.1;omega,ho.1.2⟩) ho
theorem zOB{x:AskD}(h:x.wf)(ho:x.ok)(hl:x.look=false):zDG x.enc=some x:=by
 have a:=ho
 unfold AskD.ok at a
 rw[if_neg (by rw[hl];decide)]at a
 have c:=zD2 x.key
 have b:(jW x.key).length<18446744073709551616:=by rw[xa];have:=h.key;omega
 have d:=zLU h.cmd (⟨by have:=a.1.1.1.1;omega,a.1.1.1.2⟩:0≤x.cmd.op∧x.cmd.op≤5)
 have e1:x.enc=xS (fl x.look)++(xS (fl x.lazy)++(xS x.seq++(x.cmd.enc++(dat (jW x.key)++[])))):=by simp[AskD.enc,yO]
 rw[e1]
 have e:Rt (yp jE fun k=>xZ (⟨x.look,x.lazy,x.seq,x.cmd,zCr k⟩:AskD)) x (dat (jW x.key)++[]):=
   (zGE b).bind (q:=fun k=>xZ (⟨x.look,x.lazy,x.seq,x.cmd,zCr k⟩:AskD)) (by rw[c];exact Rt.pure x)
 exact zCY (p:=zRw) ((zE5 _).bind ((zE5 _).bind ((x8 h.seq).bind (d.bind e)))) ho
theorem zBd{x:AskD}(h:x.wf)(ho:x.ok)(hl:x.look=false):x.enc.length≤65536:=by
 have a:=ho
 unfold AskD.ok at a
 rw[if_neg (by rw[hl];decide)]at a
 have j:x.key.size=0:=by rw[a.1.2];rfl
 have b:x.cmd.key.size≤64:=a.1.1.2
 have k:=xa x.key
 have c:=xa x.cmd.key
 have l:=xz (jW x.key) qG
 have d:=xz (jW x.cmd.key) qG
 have e:=zMq x.look
 have f:=zMq x.lazy
 have m:=jz h.seq
 have g:=yS (ns:=[x.cmd.session,x.cmd.seq,u64 x.cmd.op]) (by have:=h.cmd.session;have:=h.cmd.seq;simp[ya, *])
 have i:=yS (ns:=[u64 x.cmd.amount,u64 x.cmd.span,x.cmd.lease]) (by have:=h.cmd.lease;simp[ya, *])
 have e1:x.enc=xS (fl x.look)++(xS (fl x.lazy)++(xS x.seq++(x.cmd.enc++(dat (jW x.key)++[])))):=by simp[AskD.enc,yO]
 rw[e1]
 simp only[CmdD.enc,List.length_append,List.length_cons,List.length_nil]at *
 omega
structure EgD where
 lm:Nat
 nm:Nat
 id:Int
 nodes:Int
 rho:Int
 a:AskD
 since:Int
 waits:Bool
 seq:Nat
 next:Int
 now:Int
 kl:List (Nat×TruD)
 kn:List (Nat×Bool)
def Res.eg(b:Nat)(d:EgD):Res:=Res.star [Res.row b 97 [.bool d.a.look, .bool d.a.lazy,Vn d.a.seq,Vn d.a.cmd.session,Vn d.a.cmd.seq,Vi d.a.cmd.op, .string d.a.cmd.key,Vi d.a.cmd.amount,Vi d.a.cmd.span,Vn d.a.cmd.lease, .string d.a.key,Vi d.since, .bool d.waits, .map (some d.lm), .map (some d.nm),Vi d.id,Vi d.nodes,Vi d.rho,Vn d.seq,Vi d.next,Vi d.now],Res.mp xr jN d.lm d.kl,Res.mp xr Value.bool d.nm d.kn]
def zBU(d e:EgD):Prop:=(d.id=e.id∧d.nodes=e.nodes)∧d.rho=e.rho
theorem zRJ(id nodes rho:Int)(w:World)(c:1≤id∧id≤16)(e:1≤nodes∧nodes≤16)(g:0≤rho∧rho≤500000):Rets Tryz.prog 42 #[Vi id,Vi nodes,Vi rho] w fun h i=>∃ (b:Nat) (d:EgD),h= .tuple #[.pointer (some ⟨b,0,none⟩),Vi 0]∧((d.id=id∧d.nodes=nodes)∧d.rho=rho)∧((d.waits=false∧d.seq=0)∧d.next=1)∧d.a=askZ∧((d.kl=[]∧d.kn=[])∧d.now=0)∧Own w [] [Res.eg b d] i:=by
 refine(zRY id nodes rho w c e g).mono ?_
 rintro _ k ⟨b,lm,nm,rfl,j⟩
 exact⟨b,⟨lm,nm,id,nodes,rho,askZ,0,false,0,1,0,[],[]⟩,O,⟨⟨O,O⟩,O⟩,⟨⟨O,O⟩,O⟩,O,⟨⟨O,O⟩,O⟩,(j.qg [0,1,2] O V).sel [0] O V⟩
theorem zPC{S:List Nat}(b:Nat)(d:EgD)(op:Int)(key:ByteArray)(k l:Int)(le:Nat)(t:Int)(w:World)(m:kE k)(n:kE l)(o:le<18446744073709551616)(u:d.seq≤1000000)(p:Own w S [Res.eg b d] w):Rets Tryz.prog 61 #[.pointer (some ⟨b,0,none⟩),Vi op, .string key,Vi k,Vi l,Vn le,Vi t] w fun v x=>∃ (to e:Int) (r:Value) (bs:List UInt8) (c:EgD),v= .tuple #[Vi to,r,Vi e]∧CallK d.a d.since d.waits op key k l le t d.id d.seq d.now d.kl d.kn to d.next e c.a c.since c.waits c.seq c.now c.kl c.kn∧(e=0→bs=(if c.a.ok then c.a.enc else []))∧zBU c d∧c.next=d.next∧Own w S [Res.eg b c,Res.vec 5 1 r bs.length (bs.map vb)] x:=by
 refine(zON b d.lm d.nm d.id d.nodes d.rho d.a d.since d.waits d.seq d.next d.now d.kl d.kn op key k l le t w m n o u (p.qi 0 O)).mono ?_
 rintro _ w1 ⟨to,e,r,bs,y,g,h,i,j,q,s,rfl,h1,h2,z⟩
 exact⟨to,e,r,bs,⟨d.lm,d.nm,d.id,d.nodes,d.rho,y,g,h,i,d.next,j,q,s⟩,O,h1,h2,⟨⟨O,O⟩,O⟩,O,(z.qg [0,1,2] O V).sel [1,0] O V⟩
theorem zNG{S:List Nat}(b:Nat)(d:EgD)(src:Int)(v:Value)(i:List UInt8)(t:Int)(w:World)(hl:i.length≤1048576)(n:d.a.wf)(k:d.nodes≤16)(l:Own w S [Res.eg b d] w)(o:Rd w S (Res.sl v i.length (i.map vb))):Rets Tryz.prog 51 #[.pointer (some ⟨b,0,none⟩),Vi src,v,Vi t] w fun p q=>∃ (done:Bool) (x:TldD) (to e:Int) (r:Value) (bs:List UInt8) (c:EgD),p= .tuple #[.bool done, .agg (TldD.cells x).toArray,Vi to,r,Vi e]∧TakeK i d.a d.since d.rho d.waits t d.now d.kl d.kn done x bs e c.waits c.now c.kl∧(done=true→r=zW∧c.next=d.next)∧zBU c d∧((c.a=d.a∧c.seq=d.seq)∧c.since=d.since∧c.kn=d.kn)∧Own w S [Res.eg b c,Res.vec 5 1 r bs.length (bs.map vb)] q:=by
 refine(zOA b d.lm d.nm d.id d.nodes d.rho d.a d.since d.waits d.seq d.next d.now d.kl d.kn src v i t w hl n k (l.qi 0 O) o).mono ?_
 rintro _ u ⟨done,x,to,e,r,bs,g,h,j,m,rfl,h1,h2,s⟩
 exact⟨done,x,to,e,r,bs,⟨d.lm,d.nm,d.id,d.nodes,d.rho,d.a,d.since,g,d.seq,h,j,m,d.kn⟩,O,h1,h2,⟨⟨O,O⟩,O⟩,⟨⟨O,O⟩,O,O⟩,(s.qg [0,1,2] O V).sel [1,0] O V⟩
theorem zHw{S:List Nat}(b:Nat)(d:EgD)(w:World)(c:Own w S [Res.eg b d] w):Rets Tryz.prog 62 #[.pointer (some ⟨b,0,none⟩)] w fun e g=>∃ (y:AskD) (f:Bool),e= .tuple #[.agg (AskD.cells y).toArray, .bool f]∧y=(if d.waits=true then d.a else askZ)∧Own w S [Res.eg b d] g:=by
 refine(zH1 b d.lm d.nm d.id d.nodes d.rho d.a d.since d.waits d.seq d.next d.now w ((c.qi 0 O).give [0] O V)).mono ?_
 rintro _ i ⟨y,f,rfl,h1,h2,h⟩
 exact⟨y,f,O,h1,(((c.qi 0 O).qc [0] O h).qg [2,0,1] O V).sel [0] O V⟩
theorem zBM{κ α β:Type}{g:κ×α→β}{kl todo q1 q2:List (κ×α)}{xs:List β}{p:κ×α}(h:(xs++todo.map g).Perm (kl.map g))(b:todo=q1++p::q2):((xs++[g p])++(q1++q2).map g).Perm (kl.map g):=by
 refine List.Perm.trans ?_ h
 rw[b,List.append_assoc]
 refine List.Perm.append_left _ ?_
 rw[List.map_append,List.map_append,List.map_cons]
 exact(List.perm_middle (l₁:=q1.map g) (l₂:=q2.map g) (a:=g p)).symm
theorem zDX{κ α β:Type}{g:κ×α→β}{kl todo q1 q2:List (κ×α)}{xs:List β}{p:κ×α}(h:(xs++todo.map g).Perm (kl.map g))(a:todo=q1++p::q2):xs.length<kl.length:=by
 have:=h.length_eq
 rw[a]at this
 simp at this;omega
theorem zKz(sb m:Nat)(kl:List (Nat×TruD)):zFz Tryz.prog 73 [.pointer (some ⟨sb,0,none⟩)] (fun x:Nat=>Value.int .u64 (x:Nat)) (fun c=>c.Perm (kl.map (·.1))) kl.length [Res.row sb 88 [.map (some m)],Res.mp xr jN m kl]:=by
 intro ly J L0 w Y hJ hin
 refine xi (args:=[.func (.yield ly) #[] #[], .pointer (some ⟨sb,0,none⟩)]) Tryz.func73 O Tryz.ntmps73 O (show Own w (xL ([Res.row sb 88 [.map (some m)],Res.mp xr jN m kl]++L0)) (Res.row sb 88 [.map (some m)]::Res.mp xr jN m kl::L0) w from hin) (zB (zJ 0 (v:= .map (some m)) O O O O (jU 1 zET O O O (fun l=>zA (zU (xV (fun(a:List (Nat×TruD)) (c:List Nat) (Lr:List Res)=>[(0, .func (.yield ly) #[] #[]),(5, .pointer (some ⟨l,0,none⟩))]) (fun(a:List (Nat×TruD)) (c:List Nat) (Lr:List Res)=>(c++a.map (·.1)).Perm (kl.map (·.1))∧J c Lr) (fun(a:List (Nat×TruD)) (c:List Nat) (Lr:List Res)=>(Res.row sb 88 [.map (some m)]::Res.rg xr jN m l kl a::Lr)) (fun(a:List (Nat×TruD)) (c:List Nat) (Lr:List Res)=>a.length) (fun o i=>⟨kl,[],L0,⟨O,O,trivial⟩,⟨.refl _,hJ⟩,i⟩) (fun a c Lr g p=> ?_)))))))
 have d:=p.1
 have j:=p.2
 refine zB (zAD 1 O O O (fun n=> ?_) (fun q1 k v q2 h=> ?_))
 ·refine zb (vs:=[yC]) O O O (zA (zK (yW O (xy O (yq O (fun o i=>⟨c,Lr,(by rw[n]at d;simpa using d),j,(Own.rgEnd 1 i O)⟩))))))
 refine zb (vs:=[xx,Vn k, .agg (TruD.cells v).toArray]) O O O (zA (zK (x0 O (zN (zU (zB (ja 1 O O O (zb (vs:=[Vn k, .agg (TruD.cells v).toArray]) O O O (zF O (zA (zBo (xm O za (xm O za (zDA [Res.row sb 88 [.map (some m)],Res.rg xr jN m l kl (q1++q2)] k Y O O j (zDX d h) O (fun Ly1_ e=>(xm O (zDT (b:=true) O) (zF3 (yW O (x4 (fun o i=>⟨q1++q2,c++[k],Ly1_,⟨O,O,trivial⟩,⟨zBM d h,e⟩,i,(by rw[h,List.length_append,List.length_append,List.length_cons];omega)⟩))))))))))))))))))))
theorem zPa{S:List Nat}(m:Nat)(kl:List (Nat×TruD))(w:World)(a:Own w S [Res.mp xr jN m kl] w):Rets Tryz.prog 34 #[.map (some m)] w fun e d=>∃ (b:Nat),e= .func (.func 73) #[] #[.pointer (some ⟨b,0,none⟩)]∧Own w S [Res.mp xr jN m kl,Res.row b 88 [.map (some m)]] d:=by
 refine zO Tryz.func34 O Tryz.ntmps34 a (zB (zj O O (fun c=>zF O (zA (zB (j7 (va:=[]) (vb:=[.pointer (some ⟨c,0,none⟩)]) O O O (zF O (zA (zP (zm (v:= .func (.func 73) #[] #[.pointer (some ⟨c,0,none⟩)]) O O (fun d g=>⟨c,O,g⟩)))))))))))
theorem zID{S:List Nat}(b m:Nat)(kl:List (Nat×TruD))(w:World)(hl:kl.length≤1000000000)(h:Own w S [Res.row b 88 [.map (some m)],Res.mp xr jN m kl] w):Rets Tryz.prog 71 #[.func (.func 73) #[] #[.pointer (some ⟨b,0,none⟩)]] w fun k e=>∃ (j:Value) (i:List Nat),k=j∧i.Perm (kl.map (·.1))∧Own w S [Res.row b 88 [.map (some m)],Res.mp xr jN m kl,Res.vec 31 1 j i.length (i.flatMap U1)] e:=by
 refine zO Tryz.func71 O Tryz.ntmps71 h (zB (zF O (zA (zB (zC O (zG O O (fun e g=>(zF5 73 [.pointer (some ⟨b,0,none⟩)] qF (zKz b m kl) qG e (g.give [0,1] O V)).mono ?_)))))))
 rintro c n ⟨_,d,rfl,a,l⟩
 refine fq [0,1] O g l (zF O (zA (zP (zm (v:=c) O O (fun e g=>⟨c,d,O,a,g⟩)))))
theorem zKJ{S:List Nat}(b m:Nat)(kl:List (Nat×TruD))(w:World)(hl:kl.length≤1)(h:Own w S [Res.row b 88 [.map (some m)],Res.mp xr jN m kl] w):Rets Tryz.prog 33 #[.func (.func 73) #[] #[.pointer (some ⟨b,0,none⟩)]] w fun l g=>∃ (k:Value) (i:List Nat),l=k∧i.Perm (kl.map (·.1))∧Own w S [Res.row b 88 [.map (some m)],Res.mp xr jN m kl,Res.vec 31 1 k i.length (i.flatMap U1)] g:=by
 refine zO Tryz.func33 O Tryz.ntmps33 h (zB (zF O (zA (zB (zC O (zG O O (fun g e=>(zID b m kl g qH (e.give [0,1] O V)).mono ?_)))))))
 rintro a n ⟨_,c,rfl,d,j⟩
 have o:c.length≤1:=by rw[d.length_eq,List.length_map];exact hl
 refine fq [0,1] O e j (zF O (zA (zB (zC O (zG O O (fun g e=>(zFK a c g qH (e.give [2] O V)).mono ?_))))))
 rintro _ n ⟨rfl,j⟩
 refine fq [2] O e j (zA (zB (zC O (zF O (zA (zP (zm (v:=a) O O (fun g e=>⟨a,c,O,d,e⟩))))))))
theorem zRa(a c:Int)(w:World):Rets Tryz.prog 36 #[Vi a,Vi c] w fun m h=>m= .tuple #[Vi ((zAf a c).1),Vi ((zAf a c).2)]∧Own w [] [] h:=by
 refine zO Tryz.func36 O Tryz.ntmps36 (Own.start w) (zB (zF O (zF O (zA (zK (zB (zC O (yY O O O (zC O (yA (q:=0<c) 4 2 [12,11,10,9] ((IntKind.i64.wrap (9223372036854775807 - c))<a) O O O O O O trivial O (fun d=> ?_) (fun l=> ?_)))))))))))
 ·refine zQ O (gT d) (zC O (zQ O (gT d) (zC O (zQ O (gT d) (y9 (c:=IntKind.i64.wrap (9223372036854775807 - c)) O O O O (zQ O (gT d) (yY O O O (z8 O (fun _ g=>g)))))))))
 refine zC O (yP (q:=(0<c)∧((IntKind.i64.wrap (9223372036854775807 - c))<a)) 8 8 [22,21,20,19,18,17,16,15] ((c<0)∧(a<(IntKind.i64.wrap (-9223372036854775808 - c)))) O O O O O O trivial O (fun e=> ?_) (fun i=> ?_))
 ·refine zQ O (gF e) (zC O (zQ O (gF e) (zu O O O (zQ O (gF e) (zC O (yA (q:=c<0) 4 11 [21,20,19,18] (a<(IntKind.i64.wrap (-9223372036854775808 - c))) O O O O O O ⟨_,O,O,gF e⟩ O (fun b=> ?_) (fun j=> ?_)))))))
  ·refine zQ O (gT b) (zC O (zQ O (gT b) (zC O (zQ O (gT b) (y9 (c:=IntKind.i64.wrap (-9223372036854775808 - c)) O O O O (zQ O (gT b) (zu O O O (z8 O (fun _ g=>g)))))))))
  exact z8 O (fun _ g=>g)
 refine zA (zT O (fun k=> ?_) (fun k=> ?_))
 ·refine zB (zF O (zF O (zA (zP (yg (v:=Vi 0) (v':=Vi 3) O O O (fun h g=>⟨(by unfold zAf;rw[if_pos k]),g.drop⟩))))))
 refine zN (zB (zC O (zC O (zr (c:=IntKind.i64.wrap (a+c)) O O O O (zF O (zF O (zA (zP (yg (v:=Vi (IntKind.i64.wrap (a+c))) (v':=Vi 0) O O O (fun h g=>⟨(by unfold zAf;rw[if_neg k]),g.drop⟩))))))))))
theorem zMN(v:Value)(l:List Int)(w:World)(hl:l.length≤1000000000)(hv:Rd w [] (Res.sl v l.length (l.flatMap I1))):Rets Tryz.prog 35 #[v] w fun h b=>h= .tuple #[Vi ((kL 0 l).1),Vi ((kL 0 l).2)]∧Own w [] [] b:=by
 refine zO Tryz.func35 O Tryz.ntmps35 (Own.start w) (zB (zF O (zF O (zA (zB (zF O (zA (zK (zB (zC O (zn (pR hv) O O (zC O (zA (zU (xD (fun(k:Nat) (n:Int)=>[(4,Vi n),(8,v),(9,Vj l.length),(10,Vj k)]) (fun(k:Nat) (n:Int)=>k≤l.length∧kL n (l.drop k)=kL 0 l) (fun(k:Nat) (n:Int)=>[]) (fun(k:Nat) (n:Int)=>l.length - k) (fun b a=>⟨0,0,⟨O,O,O,O,trivial⟩,⟨Nat.zero_le _,O⟩,a⟩) (fun k n g e=> ?_))))))))))))))))
 have o:=e.1
 have c:=e.2
 refine zB (zu O O O (zA (zK (zT O (fun i=> ?_) (fun i=> ?_)))))
 ·refine zN (zK (zU (zB (yL (pR hv) 1 k O O O qG O (xC (pR hv) 1 k 0 (fun _=>O) O O qG O O (zF O (zA (zB (zF O (zA (zB (zC O (zC O (zG O O (fun b a=>(zRa n (zc l k) b).mono ?_)))))))))))))))
  rintro _ j ⟨rfl,m⟩
  refine(?_:CL _ _ _ _ _ _ (Own w [] [])) j (a.qb m)
  refine zC O (zb (vs:=[Vi ((zAf n (zc l k)).1),Vi ((zAf n (zc l k)).2)]) O O O (zb (vs:=[Vi ((zAf n (zc l k)).1),Vi ((zAf n (zc l k)).2)]) O O O (zF O (zF O (zA (zB (zC O (yf O O O (zA (zT O (fun d=> ?_) (fun d=> ?_)))))))))))
  ·refine zB (zC O (zF O (zF O (zA (zP (yg (v:=Vi 0) (v':=Vi ((zAf n (zc l k)).2)) O O O (fun b a=>⟨(by rw[←c,zLF qG d]),a.drop⟩)))))))
  refine zN (ze (zr O O (zt qG) O (zC O (zx (fun b a=>⟨k+1,(zAf n (zc l k)).1,⟨O,O,O,O,trivial⟩,⟨by omega,by rw[←c,zOs qG d]⟩,a,qG⟩)))))
 refine zw O (zB (zC O (zF O (zF O (zA (zP (yg (v:=Vi n) (v':=Vi 0) O O O (fun b a=>⟨(by rw[←c,zKt qG]),a.drop⟩))))))))
theorem zJl{S:List Nat}(b lm nm:Nat)(id nodes rho:Int)(a:AskD)(since:Int)(waits:Bool)(seq:Nat)(next now:Int)(kl:List (Nat×TruD))(key:ByteArray)(t:Int)(w:World)(hl:kl.length≤1)(a0:Own w S [Res.row b 97 [.bool a.look, .bool a.lazy,Vn a.seq,Vn a.cmd.session,Vn a.cmd.seq,Vi a.cmd.op, .string a.cmd.key,Vi a.cmd.amount,Vi a.cmd.span,Vn a.cmd.lease, .string a.key,Vi since, .bool waits, .map (some lm), .map (some nm),Vi id,Vi nodes,Vi rho,Vn seq,Vi next,Vi now],Res.mp xr jN lm kl] w):Rets Tryz.prog 14 #[.pointer (some ⟨b,0,none⟩), .string key,Vi t] w fun u_ h=>∃ (r:List Nat),u_= .tuple #[Vi ((kL 0 (jK key (max now t) kl r)).1),Vi ((kL 0 (jK key (max now t) kl r)).2)]∧r.Perm (kl.map (·.1))∧Own w S [Res.row b 97 [.bool a.look, .bool a.lazy,Vn a.seq,Vn a.cmd.session,Vn a.cmd.seq,Vi a.cmd.op, .string a.cmd.key,Vi a.cmd.amount,Vi a.cmd.span,Vn a.cmd.lease, .string a.key,Vi since, .bool waits, .map (some lm), .map (some nm),Vi id,Vi nodes,Vi rho,Vn seq,Vi next,Vi (max now t)],Res.mp xr jN lm kl] h:=by
 refine zO Tryz.func14 O Tryz.ntmps14 a0 (zB (zF O (zF O (zA (zK (zB (zC O (yE qF O O O (zA (yW O (zN (zB (zC O (zC O (zG O O (fun h d=>(zC7 b lm nm id nodes rho a since waits seq next now t h (d.give [0] O V)).mono ?_))))))))))))))))
 rintro _ y ⟨rfl,s⟩
 refine fq [0] O d s (zF O (zA (zB (zF O (zA (zK (zB (zC O (zV O O (zI (o:=13) O O (zJ 1 (v:= .map (some lm)) O O O O (zG O O (fun h d=>(zPa lm kl h (d.give [0] O V)).mono ?_)))))))))))))
 rintro _ y ⟨x,rfl,s⟩
 refine fq [0] O d s (zG O O (fun h d=>(zKJ x lm kl h qH (d.give [2,1] O V)).mono ?_))
 rintro p y ⟨_,c,rfl,m,s⟩
 refine fq [2,1] O d s (zn (pV 3 O) O O (zC O (zA (zU (xV (fun(i:Nat) (v:Value) (l:List Int)=>[(0, .pointer (some ⟨b,0,none⟩)),(1, .string key),(2,Vi (max now t)),(8,v),(22,p),(23,Vj c.length),(24,Vj i)]) (fun(i:Nat) (v:Value) (l:List Int)=>i≤c.length∧l=jK key (max now t) kl (c.take i)) (fun(i:Nat) (v:Value) (l:List Int)=>[Res.row b 97 [.bool a.look, .bool a.lazy,Vn a.seq,Vn a.cmd.session,Vn a.cmd.seq,Vi a.cmd.op, .string a.cmd.key,Vi a.cmd.amount,Vi a.cmd.span,Vn a.cmd.lease, .string a.key,Vi since, .bool waits, .map (some lm), .map (some nm),Vi id,Vi nodes,Vi rho,Vn seq,Vi next,Vi (max now t)],Res.row x 88 [.map (some lm)],Res.mp xr jN lm kl,Res.vec 31 1 p c.length (c.flatMap U1),Res.vec 2 1 v l.length (l.flatMap I1)]) (fun(i:Nat) (v:Value) (l:List Int)=>c.length - i) (fun h d=>⟨0,zW,[],⟨O,O,O,O,O,O,O,trivial⟩,⟨Nat.zero_le _,O⟩,(zq d 2 1)⟩) (fun i v l g hΦ=> ?_))))))
 have hi:=hΦ.1
 have n:=hΦ.2
 have a3:c.length=kl.length:=by rw[m.length_eq,List.length_map]
 have a4:l.length≤1000000:=by rw[n];have:=zLq key (max now t) kl (c.take i);rw[List.length_take]at this;omega
 refine zB (zu O O O (zA (zK (zT O (fun c2=> ?_) (fun c2=> ?_)))))
 ·refine zN (zK (zU (zB (yL (pV 3 O) 1 i O O O qG O (xC (pV 3 O) 1 i 0 (fun _=>O) O O qG O O (zF O (zA (zB (zC O (zV O O (zI (o:=13) O O (zJ 0 (v:= .map (some lm)) O O O O (zC O (zQE (k:=(zc c i)) (kv:=kl) (zv:=TruD.zero) zCh zET zLf O O (fun h u=>Own.holds u 2 _ O) O (zk (v:= .agg #[ym,Vi 0,Vi 0]) qF O (fun a5=>zf 5 O O O (zz O) O (zA (zB (zI (o:=0) O O (zJ 5 (v:= .string (((zl (zc c i) kl).getD TruD.zero).key)) O O O O (zC O (zEq O O O (zC O (yA (q:=(((zl (zc c i) kl).getD TruD.zero).key)=key) 4 4 [42,41,40,39] ((max now t)<(((zl (zc c i) kl).getD TruD.zero).till)) O O O O O O trivial O (fun j=> ?_) (fun a2=> ?_)))))))))))))))))))))))))
  ·refine zQ O (gT j) (zI (o:=2) O O (zQ O (gT j) (zJ 5 (v:=Vi (((zl (zc c i) kl).getD TruD.zero).till)) O O O O (zQ O (gT j) (zC O (zQ O (gT j) (yY O O O (z8 O (fun _ d=>d)))))))))
  refine zA (zT O (fun z=> ?_) (fun z=> ?_))
  ·refine ze (zC O (zI (o:=1) O O (zJ 5 (v:=Vi (((zl (zc c i) kl).getD TruD.zero).amount)) O O O O (yH (e:=2) (sz:=1) (vs:=[Vi (((zl (zc c i) kl).getD TruD.zero).amount)]) qF O O qL V O (fun a6=>yF (g:=I1) (sz:=1) (by':=8) (fun _=>O) (l:=l) (l':=[((zl (zc c i) kl).getD TruD.zero).amount]) qO 4 qF O O O (fun h u=>Vec.sl (Own.holds u 6 _ O)) qH V O (fun a1=>zF O (zA (ze (zr O O (zt qG) O (zC O (zx (fun h d=>⟨i+1,a1,l++[((zl (zc c i) kl).getD TruD.zero).amount],⟨O,O,O,O,O,O,O,trivial⟩,⟨by omega,by rw[n];exact zLw qG z.1 z.2⟩,d.sel [0,1,2,3,4] O V,qG⟩))))))))))))
  refine zN (ze (zr O O (zt qG) O (zC O (zx (fun h d=>⟨i+1,v,l,⟨O,O,O,O,O,O,O,trivial⟩,⟨by omega,by rw[n];exact zPT qG z⟩,d.sel [0,1,2,3,4] O V,qG⟩)))))
 refine zw O (zB (zC O (zG O O (fun h d=>(zMN v l h qH (d.qj 4 O)).mono ?_))))
 rintro _ y ⟨rfl,s⟩
 refine(?_:CL _ _ _ _ _ _ (Own w S [_,_,_,_,_])) y (d.qb s)
 refine zb (vs:=[Vi ((kL 0 l).1),Vi ((kL 0 l).2)]) O O O (zb (vs:=[Vi ((kL 0 l).1),Vi ((kL 0 l).2)]) O O O (zF O (zF O (zA (zP (yg (v:=Vi ((kL 0 l).1)) (v':=Vi ((kL 0 l).2)) O O O (fun h d=>⟨c,(by rw[n,List.take_of_length_le qG]),m,d.sel [0,2] O V⟩)))))))
theorem zJa{S:List Nat}(b:Nat)(d:EgD)(key:ByteArray)(t:Int)(w:World)(hl:d.kl.length≤1)(e:Own w S [Res.eg b d] w):Rets Tryz.prog 14 #[.pointer (some ⟨b,0,none⟩), .string key,Vi t] w fun h i=>∃ (c:List Nat) (g:EgD),h= .tuple #[Vi ((kL 0 (jK key (max d.now t) d.kl c)).1),Vi ((kL 0 (jK key (max d.now t) d.kl c)).2)]∧c.Perm (d.kl.map (·.1))∧g={d with now:=max d.now t}∧Own w S [Res.eg b g] i:=by
 have hi:=e.qi 0 rfl
 refine(zJl b d.lm d.nm d.id d.nodes d.rho d.a d.since d.waits d.seq d.next d.now d.kl key t w hl (hi.give [0,1] O V)).mono ?_
 rintro _ k ⟨c,rfl,h1,j⟩
 exact⟨c,{d with now:=max d.now t},O,h1,O,((hi.qc [0,1] O j).qg [1,2,0] O V).sel [0] O V⟩
end Go.Proofs.YthpoddkmhfhboaaGreatDoor
