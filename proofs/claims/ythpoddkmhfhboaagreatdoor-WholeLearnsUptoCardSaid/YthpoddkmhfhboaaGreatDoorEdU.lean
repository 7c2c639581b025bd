import Derived.Test.YthpoddkmhfhboaaGreatDoorWlW
set_option linter.unusedSectionVars false
set_option linter.unusedSimpArgs false
set_option linter.unusedVariables false
set_option maxRecDepth 10000
namespace Go.Proofs.YthpoddkmhfhboaaGreatDoor
open Go.Sc
theorem zIq{P:Program}{n:Nat}{fn:Func}{R:Value→World→Prop}{A:World→Prop}{f:Nat→Value}{t0 t1 t2:Tmp}{T:TypeId}{b:Nat}{cs:List Value}{v1 v2:Value}(d:fn.results= #[.cell t0 T, .tmp t1, .tmp t2])(e:f t0= .pointer (some ⟨b,0,none⟩))(h1:f t1=v1)(h2:f t2=v2)
   (g:jH P T=some cs.length) (j:∀ w,A w→∀ i u,cs[i]?=some u→w.cell? ⟨b,0+i,none⟩=some u) (h:∀ w,A w→R (.tuple #[.agg cs.toArray,v1,v2]) w):∀ w,A w→zBQ P fn n R f w:=
 fun w c=>⟨_,fun a k=>by
   have:=y5 (P:=P) g (j w c)
   simp[results,d,k.get,e,h1,h2,asAddr,this],h w c⟩
theorem ValPost.none{α:Type}{d:Option α}{x z:α}{e:Int}(h:ValPost d x z e)(a:e≠0):d= .none:=by
 rcases h with h|h
 · exact absurd h.1 a
 exact h.2.1
theorem ValPost.some{α:Type}{d:Option α}{x z:α}{e:Int}(h:ValPost d x z e)(a:¬ e≠0):d= .some x:=by
 rcases h with h|h
 · exact h.2
 exact absurd (by rw[h.1];decide) a
theorem kJ{α β:Type}{p:List UInt8→Nat→Option (α×Nat)}{q:α→List UInt8→Nat→Option (β×Nat)}{b:List UInt8}{a k:Nat}{v:β}(h:yo p q b a=some (v,k)):∃ x j,p b a=some (x,j)∧q x b j=some (v,k):=by
 simp only[yo,Option.bind_eq_some_iff]at h
 obtain⟨⟨x,j⟩,h1,h2⟩:=h
 exact⟨x,j,h1,h2⟩
theorem zIk{n:Nat}(h:n<18446744073709551616):xw (x5 n):=by unfold xw x5;split<;>omega
theorem zJe{b:List UInt8}{c:CmdD}(h:j8 b=some c):c.wf:=by
 unfold j8 whole at h
 simp only[Option.bind_eq_some_iff]at h
 obtain⟨⟨x,j⟩,h1,h2⟩:=h
 split at h2
 · rename_i hc
   cases h2
   have e:=hc.2.2
   obtain⟨s,_,e1,h1⟩:=kJ h1
   obtain⟨q,_,e2,h1⟩:=kJ h1
   obtain⟨o,_,k,h1⟩:=kJ h1
   obtain⟨d,_,m,h1⟩:=kJ h1
   obtain⟨a,_,f,h1⟩:=kJ h1
   obtain⟨t,_,g,h1⟩:=kJ h1
   obtain⟨l,_,i,h1⟩:=kJ h1
   simp only[xZ,Option.some.injEq,Prod.mk.injEq]at h1
   obtain⟨rfl,_⟩:=h1
   exact⟨(x4 e1).1,(x4 e2).1,by dsimp only at e ⊢;omega,zIk (x4 f).1,zIk (x4 g).1,(x4 i).1⟩
 cases h2
def zA0(idx:Nat)(now:Int)(cnt:Nat)(kb:List (ByteArray×Int))(kl:List (Nat×LeaD))(kr:List (Nat×RepD))(x:EntA)(r:RepD)(has:Bool)(e:Int)(idx':Nat)(now':Int)(cnt':Nat)(kb':List (ByteArray×Int))(kl':List (Nat×LeaD))(kr':List (Nat×RepD)):Prop:=
 (((¬ x.ok∧e=2)∨(x.ok∧x.index≠idx+1∧e=12))∧r=RepD.zero∧has=false∧idx'=idx∧now'=now∧cnt'=cnt∧kb'=kb∧kl'=kl∧kr'=kr)
 ∨((x.ok∧x.index=idx+1)∧e=0∧idx'=x.index∧now'=yY now x.delta
   ∧(((x.kind≠2∨j8 x.data=none)∧r=RepD.zero∧has=false∧cnt'=cnt∧kb'=kb∧kl'=yO now x.delta kl∧kr'=kr)
     ∨(x.kind=2∧has=true∧∃ c did,j8 x.data=some c∧DoK (yY now x.delta) cnt kb (yO now x.delta kl) kr c r did cnt' kb' kl' kr')))
theorem zKd{S:List Nat}(b tb cb bm lm rm idx:Nat)(now:Int)(cnt:Nat)(kb:List (ByteArray×Int))(kl:List (Nat×LeaD))(kr:List (Nat×RepD))(x:EntD)(w:World)(hx:x.wf)(hd:xw x.delta)(ht:0≤now∧now≤2305843009213693952)(hc:cnt≤1000000000)(hi:idx<18446744073709551615)(hk:KNd kl)(ah:kl.length≤128)(af:∀ k,0≤yg k (yO now x.delta kl)∧yg k (yO now x.delta kl)≤9223372036854775807)(ai:∀ i l,zl i (yO now x.delta kl)=some l→l.id<18446744073709551616∧xw l.amount∧xw l.until_)(aj:0≤yY now x.delta∧yY now x.delta≤2305843009213693952)(ap:(kX now x.delta kl).length≤1)(ak:Own w S [Res.row b 126 [.pointer (some ⟨tb,0,none⟩), .pointer (some ⟨cb,0,none⟩),Vn idx],Res.row tb 268 [.map (some bm), .map (some lm),Vi now,Vn cnt],Res.mp Value.string kc bm kb,Res.mp xn xc lm kl,Res.row cb 275 [.map (some rm)],Res.mp ekR kh rm kr] w)(ab:EntD.rd x w S):Rets Tryz.prog 259 #[.pointer (some ⟨b,0,none⟩), .agg (EntD.cells x).toArray] w fun u_ h=>∃ (r:RepD) (has:Bool) (er:Int) (idx':Nat) (now':Int) (cnt':Nat) (kb':List (ByteArray×Int)) (kl':List (Nat×LeaD)) (kr':List (Nat×RepD)),u_= .tuple #[.agg (RepD.cells r).toArray, .bool has,Vi er]∧zA0 idx now cnt kb kl kr x.toEntA r has er idx' now' cnt' kb' kl' kr'∧Own w S [Res.row b 126 [.pointer (some ⟨tb,0,none⟩), .pointer (some ⟨cb,0,none⟩),Vn idx'],Res.row tb 268 [.map (some bm), .map (some lm),Vi now',Vn cnt'],Res.mp Value.string kc bm kb',Res.mp xn xc lm kl',Res.row cb 275 [.map (some rm)],Res.mp ekR kh rm kr'] h:=by
 have aq:=hx.data
 refine zO Tryz.func259 O Tryz.ntmps259 ak (zB (zj O O (fun b3=>zk (v:= .agg #[Vn 0,Vn 0,Vi 0,Vn 0,Vi 0,Vi 0]) qF O (fun b4=>zF O (zF O (zA (zK (zB (zC O (yE qF O O O (zA (yW O (zN (zK (zB (z6 (cs:=(EntD.cells x)) 6 O O O (zG O O (fun h a=>(zBX x h ‹_› (ab.at0 a)).mono ?_))))))))))))))))))
 rintro _ w1 ⟨ag,rfl,hO⟩
 refine(?_:CL _ _ _ _ _ _ (Own w S [_,_,_,_,_,_,_,_,_])) w1 (a.qb hO)
 refine zC O (zb (vs:=[ag,Vi (yI x.ok)]) O O O (zb (vs:=[ag,Vi (yI x.ok)]) O O O (zF O (zF O (zA (zB (zC O (ye O O O (zA (zT O (fun c2=> ?_) (fun c2=> ?_)))))))))))
 ·refine zB (yJ (cs:=[Vn 0,Vn 0,Vi 0,Vn 0,Vi 0,Vi 0]) (z:=[Vn 0,Vn 0,Vi 0,Vn 0,Vi 0,Vi 0]) (pl:=[(0,1),(1,1),(2,1),(3,1),(4,1),(5,1)]) qF qF O (zf 7 O O O (zz O) O (zF O (zF O (zA (zP (zIq (cs:=[Vn 0,Vn 0,Vi 0,Vn 0,Vi 0,Vi 0]) (v1:=yC) (v2:=Vi 2) O O O O qF (Own.qc (i:=7) O) (fun h a=>⟨({session:=0,seq:=0,e:=0,lease:=0,amount:=0,until_:=0}:RepD),false,2,idx,now,cnt,kb,kl,kr,O, .inl ⟨.inl ⟨zF8 c2,O⟩,O,O,O,O,O,O,O,O⟩,a.sel [0,1,2,3,4,5] O V⟩))))))))
 refine zN (zK (yf qF qF (zR O (zL (o:=0) O) (zR O (zZ 6 (v:=Vn x.index) O O O) (zR O za (zR O (zY O) (zR O (zL (o:=2) O) (zR O (zZ 0 (v:=Vn idx) O O O) (zR O (xO O O (yy qG)) (zR O (zGU O O) (xW (zT O (fun c3=> ?_) (fun c3=> ?_)))))))))))))
 ·refine zB (yJ (cs:=[Vn 0,Vn 0,Vi 0,Vn 0,Vi 0,Vi 0]) (z:=[Vn 0,Vn 0,Vi 0,Vn 0,Vi 0,Vi 0]) (pl:=[(0,1),(1,1),(2,1),(3,1),(4,1),(5,1)]) qF qF O (zf 7 O O O (zz O) O (zF O (zF O (zA (zP (zIq (cs:=[Vn 0,Vn 0,Vi 0,Vn 0,Vi 0,Vi 0]) (v1:=yC) (v2:=Vi 12) O O O O qF (Own.qc (i:=7) O) (fun h a=>⟨({session:=0,seq:=0,e:=0,lease:=0,amount:=0,until_:=0}:RepD),false,12,idx,now,cnt,kb,kl,kr,O, .inl ⟨.inr ⟨zCV c2,by omega,O⟩,O,O,O,O,O,O,O,O⟩,a.sel [0,1,2,3,4,5] O V⟩))))))))
 have ac:x.ok∧x.index=idx+1:=⟨zCV c2,by omega⟩
 have ar:x.data.length≤4096:=ac.1.1.2.2.2
 refine zN (zK (zd [0,2,4,5,6,7,8] O V qF (fun h a hS=>zD 0 O za hS (zD 1 O (zY O) hS (zD 2 O (zL (o:=0) O) hS (zD 3 O (zZ 0 (v:= .pointer (some ⟨tb,0,none⟩)) O O O) hS (zD 4 O (zL (o:=3) O) hS (zD 5 O (zZ 4 (v:=Vi x.delta) O O O) hS (zM 6 O a (zG O O (fun h a=>(zNc tb bm lm now cnt kl x.delta h qH ‹_› hk ah qH (a.give [1,3] O V)).mono ?_)))))))))))
 rintro _ w1 ⟨an,ao,au,c,s,rfl,al,u,y,hO⟩
 refine fq [1,3] O a hO (zE [0,1,2,3,4,5,6] O V (fun h a hS=>zX ((?_:C _ _ _ _ _ _ _ (Own w S [_,_,_,_,_,_,_,_,_,_])) _ a)))
 refine zB (zC O (zI (o:=0) O O (zJ 4 (v:=Vn x.index) O O O O (zV O O (zI (o:=2) O O (zi 0 O O O O O (zA (zB (zI (o:=4) O O (zJ 4 (v:=x.dv) O O O O (zG O O (fun h a=>(zNe x.dv x.data h qH (a.rd0 ab.dv)).mono ?_))))))))))))
 rintro _ w1 ⟨ad,ae,a0,a1,j,m,n,a2,rfl,d,hO⟩
 have a5:=u
 have a6:=y
 refine(?_:CL _ _ _ _ _ _ (Own w S [_,_,_,_,_,_,_,_,_,_])) w1 (a.qb hO)
 refine zC O (zb (vs:=[.agg #[Vn ad,Vn ae,Vi a0, .string a1,Vi j,Vi m,Vn n],Vi a2]) O O O (zb (vs:=[.agg #[Vn ad,Vn ae,Vi a0, .string a1,Vi j,Vi m,Vn n],Vi a2]) O O O (zk (v:= .agg #[Vn 0,Vn 0,Vi 0,yk,Vi 0,Vi 0,Vn 0]) qF O (fun b9=>zf 10 O O O (zz O) O (zF O (zA (zK (zB (zI (o:=2) O O (zJ 4 (v:=Vi x.kind) O O O O (ye O O O (zC O (yP (q:=x.kind≠2) 2 3 [56,55] (a2≠0) O O O O O O trivial O (fun a3=> ?_) (fun am=> ?_))))))))))))))
 ·refine zQ O (gF a3) (zC O (zQ O (gF a3) (ye O O O (z8 O (fun _ a=>a)))))
 refine zA (zT O (fun c4=> ?_) (fun c4=> ?_))
 ·refine zB (yJ (cs:=[Vn 0,Vn 0,Vi 0,Vn 0,Vi 0,Vi 0]) (z:=[Vn 0,Vn 0,Vi 0,Vn 0,Vi 0,Vi 0]) (pl:=[(0,1),(1,1),(2,1),(3,1),(4,1),(5,1)]) qF qF O (zf 5 O O O (zz O) O (zF O (zF O (zA (zP (zIq (cs:=[Vn 0,Vn 0,Vi 0,Vn 0,Vi 0,Vi 0]) (v1:=yC) (v2:=Vi 0) O O O O qF (Own.qc (i:=5) O) (fun h a=>⟨({session:=0,seq:=0,e:=0,lease:=0,amount:=0,until_:=0}:RepD),false,0,x.index,c,cnt,kb,s,kr,O, .inr ⟨ac,O,O,a5, .inl ⟨by rcases c4 with q|q;exact .inl q;exact .inr (d.none q),O,O,O,O,a6,O⟩⟩,a.sel [0,7,1,8,2,3] O V⟩))))))))
 refine zN (zB (zC O (z6 10 O O O (zG O O (fun h a=>(zTq b tb cb bm lm rm x.index c cnt kb s kr ({session:=ad,seq:=ae,op:=a0,key:=a1,amount:=j,span:=m,lease:=n}:CmdD) h (zJe (d.some (fun q=>c4 (.inr q)))) (by rw[a5];exact aj) qH (by rw[a6];exact af _) (by rw[a6];exact ai) (a.give [0,7,1,8,2,3] O V)).mono ?_)))))
 rintro _ w1 ⟨g,p,a4,a7,a8,a9,rfl,aa,hO⟩
 refine fq [0,7,1,8,2,3] O a hO (zC O (zb (vs:=[.agg (RepD.cells g).toArray, .bool p]) O O O (zb (vs:=[.agg (RepD.cells g).toArray, .bool p]) O O O (zk (v:= .agg #[Vn 0,Vn 0,Vi 0,Vn 0,Vi 0,Vi 0]) qF O (fun av=>zf 11 O O O (zz O) O (zF O (zA (zB (z6 (cs:=(RepD.cells g)) 11 O O O (zf 1 O O O (zz O) O (zF O (zF O (zA (zP (zIq (cs:=(RepD.cells g)) (v1:=xi) (v2:=Vi 0) O O O O qF (Own.qc (i:=1) O) (fun h a=>⟨g,true,0,x.index,c,a4,a7,a8,a9,O, .inr ⟨ac,O,O,a5, .inr ⟨Decidable.not_not.1 fun q=>c4 (.inl q),O,_,_,d.some (fun q=>c4 (.inr q)),by rw[←a5,←a6];exact aa⟩⟩,a.sel [5,6,7,8,9,10] O V⟩))))))))))))))))
end Go.Proofs.YthpoddkmhfhboaaGreatDoor
namespace Go.Sc
def zCO(P:Program)(t:TypeId):Bool:=match P.underlying t with|some (.map _ _)=>true|_=>false
theorem zAU{P:Program}{t:TypeId}(h:zCO P t=true):∃ k v,P.underlying t=some (.map k v):=by
 unfold zCO at h
 split at h
 · rename_i k v hk;exact⟨k,v,hk⟩
 cases h
section
variable {κ α:Type} [DecidableEq κ] {P:Program} {kt vt t t':TypeId} {ke:κ→Value} {ve:α→Value}
variable {n:Nat} {ops:Array Oper} {N:K} {f:Nat→Value} {rest:List Oper} {d:Nat} {ty:TypeId} {p:String} {af:Array Edge} {x y z:Operand} {w0:World} {S:List Nat} {L:List Res} {A:World→Prop}
theorem zQm(d:Nat){k e:TypeId}(h:P.underlying t=some (.map k e))(m:Option Nat)(w:World):(Op.equalIn (d+1) t (.map m) (.map none)).run P w= .ok m.isNone w:=by
 cases m<;>simp[Op.equalIn,zp h]
theorem zRU{m:Option Nat}(a:zCO P t=true)(b:ev f x= .map m)(c:ev f y= .map none):RV P f ⟨some d, .binOp .eql t x y t',ty,p,af,none⟩ A (.bool m.isNone):=fun w _=>by
 obtain⟨k,v,h⟩:=zAU a
 have e:(Op.equal t (.map m) (.map none)).run P w= .ok m.isNone w:=zQm 9999 h m w
 simp only[execOp,b,c,eqGuard]
 simp[binOp,e]
theorem zGo{m:Option Nat}(a:zCO P t=true)(b:ev f x= .map m)(c:ev f y= .map none)(e:Nat.blt d n=true)(k:CL P n ops rest N (upd f d (.bool m.isNone)) A):CL P n ops (⟨some d, .binOp .eql t x y t',ty,p,af,none⟩::rest) N f A:=yM e (zRU a b c) k
theorem zHp{v:Value}(c:zCO P t=true)(e:ev f x=v)(g:Nat.blt d n=true)(k:CL P n ops rest N (upd f d (.iface t v)) A):CL P n ops (⟨some d, .makeInterface t x,ty,p,af,none⟩::rest) N f A:=by
 obtain⟨a,b,h⟩:=zAU c
 exact yM g (fun w _=>by simp[execOp,e,Instr.makeInterface,zp h]) k
theorem zMX{v:Value}{xT:TypeId}(c:zCO P t=true)(e:ev f x= .iface t v)(g:Nat.blt d n=true)(k:CL P n ops rest N (upd f d v) A):CL P n ops (⟨some d, .typeAssert x xT t false,ty,p,af,none⟩::rest) N f A:=by
 obtain⟨a,b,h⟩:=zAU c
 exact yM g (fun w _=>by simp[execOp,e,Instr.typeAssert,zp h]) k
set_option maxHeartbeats 1000000 in
theorem zLe (i : Nat) {b : Nat} {kv : List (κ × Value)} {g : FuncId} {fn : Func} {ts : Array TypeId} (l : P.funcs[g]? = some fn) (h : (fn.name == "runtime.NumGoroutine") = false) (hb : fn.body.isNone = true) (m : Extern.findNext fn = none) (q : Extern.find fn = some Extern.MapsClone.clone)
    (r : ev f x = .iface t (.map (some b))) (s : L[i]? = some (Res.map ke b kv)) (u : Nat.blt d n = true)
    (k : ∀ b', CL P n ops rest N (upd f d (.iface t (.map (some b')))) (Own w0 S (L ++ [Res.map ke b' kv]))) :
    CL P n ops (⟨some d, .call ⟨.value (.func g), #[x], ts⟩, ty, p, af, none⟩ :: rest) N f (Own w0 S L) := by
  intro w hw
  obtain ⟨es, c, h1, h2, v⟩ := hw.holds i _ s
  have y : Own w [] [Res.map ke w.heap.size kv] (w.alloc (.map es c)) :=
    Own.mk1 ⟨rfl, rfl, rfl, by simp, fun k z _ => heap_alloc_old w _ z⟩ ⟨es, c, heap_alloc_new w _, h2, v⟩ (fun b hb => by simp [Res.map] at hb; right; omega)
  refine xb (w' := w.alloc (.map es c)) ?_ u (k w.heap.size _ (hw.qb y))
  have j := run_callFunc_extern (P := P) l h hb m q #[.iface t (.map (some b))] w
  have h4 : (Extern.MapsClone.clone #[.iface t (.map (some b))]).run P w = .ok (.iface t (.map (some w.heap.size))) (w.alloc (.map es c)) := by
    have e : Extern.MapsClone.clone #[.iface t (.map (some b))] = (getObj b >>= fun o => match o with
      | .map entries c => (newObj (.map entries c) >>= fun n => pure (.iface t (.map (some n))))
      | _ => stuck "maps.clone: a map expected") := rfl
    rw [e]
    simp [xy (P := P) h1, newObj, Sem.run]
  rw [h4] at j
  simp [execOp, resolve, invoke, show ev f (.func g) = .func (.func g) #[] #[] from rfl, Deferred.ofValue, r, j]
theorem zCH (i : Nat) {b : Nat} {kv : List (κ × α)} {g : FuncId} {fn : Func} {ts : Array TypeId} (c : P.funcs[g]? = some fn) (a : (fn.name == "runtime.NumGoroutine") = false) (hb : fn.body.isNone = true) (e : Extern.findNext fn = none) (h : Extern.find fn = some Extern.MapsClone.clone)
    (j : ev f x = .iface t (.map (some b))) (l : L[i]? = some (Res.mp ke ve b kv)) (m : Nat.blt d n = true)
    (k : ∀ b', CL P n ops rest N (upd f d (.iface t (.map (some b')))) (Own w0 S (L ++ [Res.mp ke ve b' kv]))) :
    CL P n ops (⟨some d, .call ⟨.value (.func g), #[x], ts⟩, ty, p, af, none⟩ :: rest) N f (Own w0 S L) := zLe i c a hb e h j l m k
end
end Go.Sc
namespace Go.Proofs.YthpoddkmhfhboaaGreatDoor
open Go.Sc
theorem zJh{S:List Nat}(m:Nat)(kb:List (ByteArray×Int))(w:World)(a:Own w S [Res.mp Value.string kc m kb] w):Rets Tryz.prog 130 #[.map (some m)] w fun e b=>∃ (c:Nat),e= .map (some c)∧Own w S [Res.mp Value.string kc m kb,Res.mp Value.string kc c kb] b:=by
 refine zO Tryz.func130 O Tryz.ntmps130 a (zB (zF O (zA (zK (zB (zC O (zGo qF O O O (zA (yW O (zN (zB (zC O (zHp qF O O (zCH 0 (ke:=Value.string) (ve:=kc) (kv:=kb) Tryz.func247 qF qF qF qF O O O (fun d=>zMX qF O O (zF O (zA (zP (zm (v:= .map (some d)) O O (fun b g=>⟨d,O,g⟩))))))))))))))))))))
theorem zJ0{S:List Nat}(m:Nat)(kl:List (Nat×LeaD))(w:World)(a:Own w S [Res.mp xn xc m kl] w):Rets Tryz.prog 131 #[.map (some m)] w fun e b=>∃ (c:Nat),e= .map (some c)∧Own w S [Res.mp xn xc m kl,Res.mp xn xc c kl] b:=by
 refine zO Tryz.func131 O Tryz.ntmps131 a (zB (zF O (zA (zK (zB (zC O (zGo qF O O O (zA (yW O (zN (zB (zC O (zHp qF O O (zCH 0 (ke:=xn) (ve:=xc) (kv:=kl) Tryz.func247 qF qF qF qF O O O (fun d=>zMX qF O O (zF O (zA (zP (zm (v:= .map (some d)) O O (fun b g=>⟨d,O,g⟩))))))))))))))))))))
theorem zOa{S:List Nat}(b bm lm:Nat)(now:Int)(cnt:Nat)(kb:List (ByteArray×Int))(kl:List (Nat×LeaD))(w:World)(k:Own w S [Res.row b 268 [.map (some bm), .map (some lm),Vi now,Vn cnt],Res.mp Value.string kc bm kb,Res.mp xn xc lm kl] w):Rets Tryz.prog 79 #[.pointer (some ⟨b,0,none⟩)] w fun n d=>∃ (m h i:Nat),n= .pointer (some ⟨m,0,none⟩)∧Own w S [Res.row b 268 [.map (some bm), .map (some lm),Vi now,Vn cnt],Res.mp Value.string kc bm kb,Res.mp xn xc lm kl,Res.row m 268 [.map (some h), .map (some i),Vi now,Vn cnt],Res.mp Value.string kc h kb,Res.mp xn xc i kl] d:=by
 refine zO Tryz.func79 O Tryz.ntmps79 k (zB (zF O (zA (zK (zB (zC O (yE qF O O O (zA (yW O (zN (zK (zd [0] O V qF (fun d c a=>zD 0 O za a (zD 1 O (zY O) a (zD 2 O (zL (o:=0) O) a (zD 3 O (zZ 0 (v:= .map (some bm)) O O O) a (zD 5 O za a (zD 6 O (zY O) a (zD 7 O (zL (o:=1) O) a (zD 8 O (zZ 0 (v:= .map (some lm)) O O O) a (zD 10 O za a (zD 11 O (zY O) a (zD 12 O (zL (o:=2) O) a (zD 13 O (zZ 0 (v:=Vi now) O O O) a (zD 14 O za a (zD 15 O (zY O) a (zD 16 O (zL (o:=3) O) a (zD 17 O (zZ 0 (v:=Vn cnt) O O O) a (zM 4 O c (zG O O (fun d c=>(zJh bm kb d (c.give [1] O V)).mono ?_)))))))))))))))))))))))))))))))
 rintro _ p ⟨e,rfl,l⟩
 refine fq [1] O c l (zE [0] O V (fun d c a=>zM 9 O c (zG O O (fun d c=>(zJ0 lm kl d (c.give [1] O V)).mono ?_))))
 rintro _ p ⟨g,rfl,l⟩
 refine fq [1] O c l (zE [0] O V (fun d c a=>zD 18 O (xX (cs:=[.map (some e), .map (some g),Vi now,Vn cnt]) (z:=[.map none, .map none,Vi 0,Vn 0]) (pl:=[(0,1),(1,1),(2,1),(3,1)]) qF qF) a (zM 19 O c (zj O O (fun j=>zE [0] O V (fun d c a=>zD 20 O yA a (zX ((?_:C _ _ _ _ _ _ _ (Own w S [_,_,_,_,_,_])) _ c))))))))
 exact zP (zm (v:= .pointer (some ⟨j,0,none⟩)) O O (fun d c=>⟨j,e,g,O,c.sel [0,1,3,5,2,4] O V⟩))
theorem zM1{S:List Nat}(m:Nat)(kl:List (Nat×RepD))(w:World)(a:Own w S [Res.mp ekR kh m kl] w):Rets Tryz.prog 132 #[.map (some m)] w fun e b=>∃ (c:Nat),e= .map (some c)∧Own w S [Res.mp ekR kh m kl,Res.mp ekR kh c kl] b:=by
 refine zO Tryz.func132 O Tryz.ntmps132 a (zB (zF O (zA (zK (zB (zC O (zGo qF O O O (zA (yW O (zN (zB (zC O (zHp qF O O (zCH 0 (ke:=ekR) (ve:=kh) (kv:=kl) Tryz.func247 qF qF qF qF O O O (fun d=>zMX qF O O (zF O (zA (zP (zm (v:= .map (some d)) O O (fun b g=>⟨d,O,g⟩))))))))))))))))))))
theorem zNf{S:List Nat}(b m:Nat)(kl:List (Nat×RepD))(w:World)(g:Own w S [Res.row b 275 [.map (some m)],Res.mp ekR kh m kl] w):Rets Tryz.prog 80 #[.pointer (some ⟨b,0,none⟩)] w fun j d=>∃ (h i:Nat),j= .pointer (some ⟨h,0,none⟩)∧Own w S [Res.row b 275 [.map (some m)],Res.mp ekR kh m kl,Res.row h 275 [.map (some i)],Res.mp ekR kh i kl] d:=by
 refine zO Tryz.func80 O Tryz.ntmps80 g (zB (zF O (zA (zK (zB (zC O (yE qF O O O (zA (yW O (zN (zB (zC O (zV O O (zI (o:=0) O O (zJ 0 (v:= .map (some m)) O O O O (zG O O (fun d e=>(zM1 m kl d (e.give [1] O V)).mono ?_)))))))))))))))))
 rintro _ l ⟨a,rfl,k⟩
 refine fq [1] O e k (yJ (cs:=[.map (some a)]) (z:=[.map none]) (pl:=[(0,1)]) qF qF O (zj O O (fun c=>zF O (zA (zP (zm (v:= .pointer (some ⟨c,0,none⟩)) O O (fun d e=>⟨c,a,O,e.sel [0,1,3,2] O V⟩)))))))
theorem zMj{S:List Nat}(b tb cb idx:Nat)(w:World)(a:Own w S [Res.row b 126 [.pointer (some ⟨tb,0,none⟩), .pointer (some ⟨cb,0,none⟩),Vn idx]] w):Rets Tryz.prog 21 #[.pointer (some ⟨b,0,none⟩)] w fun d c=>d=Vn idx∧Own w S [Res.row b 126 [.pointer (some ⟨tb,0,none⟩), .pointer (some ⟨cb,0,none⟩),Vn idx]] c:=by
 refine zO Tryz.func21 O Tryz.ntmps21 a (zB (zF O (zA (zK (zB (zC O (yE qF O O O (zA (yW O (zN (zB (zC O (zV O O (zI (o:=2) O O (zJ 0 (v:=Vn idx) O O O O (zF O (zA (zP (zm (v:=Vn idx) O O (fun c e=>⟨O,e⟩))))))))))))))))))))
theorem zNI{S:List Nat}(b tb cb rm idx:Nat)(kr:List (Nat×RepD))(s q:Nat)(w:World)(j:Own w S [Res.row b 126 [.pointer (some ⟨tb,0,none⟩), .pointer (some ⟨cb,0,none⟩),Vn idx],Res.row cb 275 [.map (some rm)],Res.mp ekR kh rm kr] w):Rets Tryz.prog 153 #[.pointer (some ⟨b,0,none⟩),Vn s,Vn q] w fun k g=>∃ (r:RepD) (e:Int) (f:Bool),k= .tuple #[.agg (RepD.cells r).toArray, .bool f]∧yn kr s q=(r,e)∧f=decide (e=0)∧Own w S [Res.row b 126 [.pointer (some ⟨tb,0,none⟩), .pointer (some ⟨cb,0,none⟩),Vn idx],Res.row cb 275 [.map (some rm)],Res.mp ekR kh rm kr] g:=by
 refine zO Tryz.func153 O Tryz.ntmps153 j (zB (zk (v:= .agg #[Vn 0,Vn 0,Vi 0,Vn 0,Vi 0,Vi 0]) qF O (fun m=>zF O (zA (zK (zB (zC O (yE qF O O O (zA (yW O (zN (zB (zC O (zV O O (zI (o:=1) O O (zJ 0 (v:= .pointer (some ⟨cb,0,none⟩)) O O O O (zC O (zC O (zG O O (fun g h=>(zC0 cb rm kr s q g (h.give [1,2] O V)).mono ?_))))))))))))))))))))
 rintro _ n ⟨a,c,rfl,d,l⟩
 refine fq [1,2] O h l (zC O (zb (vs:=[.agg (RepD.cells a).toArray,Vi c]) O O O (zb (vs:=[.agg (RepD.cells a).toArray,Vi c]) O O O (zk (v:= .agg #[Vn 0,Vn 0,Vi 0,Vn 0,Vi 0,Vi 0]) qF O (fun p=>zf 4 O O O (zz O) O (zF O (zA (zB (z6 (cs:=(RepD.cells a)) 4 O O O (zC O (yT O O O (zf 1 O O O (zz O) O (zF O (zA (zP (yl (cs:=(RepD.cells a)) (v:= .bool (decide (c=0))) O O O qF (Own.qc (i:=1) O) (fun g h=>⟨a,c,decide (c=0),O,d,O,h.sel [0,2,3] O V⟩)))))))))))))))))
theorem zPJ{S:List Nat}(b tb cb bm lm rm idx:Nat)(now:Int)(cnt:Nat)(kb:List (ByteArray×Int))(kl:List (Nat×LeaD))(kr:List (Nat×RepD))(w:World)(r:Own w S [Res.row b 126 [.pointer (some ⟨tb,0,none⟩), .pointer (some ⟨cb,0,none⟩),Vn idx],Res.row tb 268 [.map (some bm), .map (some lm),Vi now,Vn cnt],Res.mp Value.string kc bm kb,Res.mp xn xc lm kl,Res.row cb 275 [.map (some rm)],Res.mp ekR kh rm kr] w):Rets Tryz.prog 44 #[.pointer (some ⟨b,0,none⟩)] w fun x d=>∃ (u j k l m n:Nat),x= .pointer (some ⟨u,0,none⟩)∧Own w S [Res.row b 126 [.pointer (some ⟨tb,0,none⟩), .pointer (some ⟨cb,0,none⟩),Vn idx],Res.row tb 268 [.map (some bm), .map (some lm),Vi now,Vn cnt],Res.mp Value.string kc bm kb,Res.mp xn xc lm kl,Res.row cb 275 [.map (some rm)],Res.mp ekR kh rm kr,Res.row u 126 [.pointer (some ⟨j,0,none⟩), .pointer (some ⟨k,0,none⟩),Vn idx],Res.row j 268 [.map (some l), .map (some m),Vi now,Vn cnt],Res.mp Value.string kc l kb,Res.mp xn xc m kl,Res.row k 275 [.map (some n)],Res.mp ekR kh n kr] d:=by
 refine zO Tryz.func44 O Tryz.ntmps44 r (zB (zF O (zA (zK (zB (zC O (yE qF O O O (zA (yW O (zN (zK (zd [0] O V qF (fun d c a=>zD 0 O za a (zD 1 O (zY O) a (zD 2 O (zL (o:=0) O) a (zD 3 O (zZ 0 (v:= .pointer (some ⟨tb,0,none⟩)) O O O) a (zD 5 O za a (zD 6 O (zY O) a (zD 7 O (zL (o:=1) O) a (zD 8 O (zZ 0 (v:= .pointer (some ⟨cb,0,none⟩)) O O O) a (zD 10 O za a (zD 11 O (zY O) a (zD 12 O (zL (o:=2) O) a (zD 13 O (zZ 0 (v:=Vn idx) O O O) a (zM 4 O c (zG O O (fun d c=>((zOa tb bm lm now cnt kb kl d (c.give [1,2,3] O V)).mono ?_))))))))))))))))))))))))))))
 rintro _ y ⟨e,h,i,rfl,s⟩
 refine fq [1,2,3] O c s (zE [0] O V (fun d c a=>zM 9 O c (zG O O (fun d c=>(zNf cb rm kr d (c.give [1,2] O V)).mono ?_))))
 rintro _ y ⟨g,p,rfl,s⟩
 refine fq [1,2] O c s (zE [0] O V (fun d c a=>zD 14 O (xX (cs:=[.pointer (some ⟨e,0,none⟩), .pointer (some ⟨g,0,none⟩),Vn idx]) (z:=[.pointer none, .pointer none,Vn 0]) (pl:=[(0,1),(1,1),(2,1)]) qF qF) a (zM 15 O c (zj O O (fun q=>zE [0] O V (fun d c a=>zD 16 O yA a (zX ((?_:C _ _ _ _ _ _ _ (Own w S [_,_,_,_,_,_,_,_,_,_,_,_])) _ c))))))))
 exact zP (zm (v:= .pointer (some ⟨q,0,none⟩)) O O (fun d c=>⟨q,e,g,h,i,p,O,c.sel [0,1,2,3,7,8,11,4,5,6,9,10] O V⟩))
structure LgA where
 now:Int
 cnt:Nat
 kb:List (ByteArray×Int)
 kl:List (Nat×LeaD)
 kr:List (Nat×RepD)
structure LgD where
 tb:Nat
 cb:Nat
 bm:Nat
 lm:Nat
 rm:Nat
 idx:Nat
 a:LgA
def lgZ:LgA:=⟨0,0,[],[],[]⟩
def lgP(b:Nat)(s:LgD):List Res:=[Res.row b 126 [.pointer (some ⟨s.tb,0,none⟩), .pointer (some ⟨s.cb,0,none⟩),Vn s.idx],Res.row s.tb 268 [.map (some s.bm), .map (some s.lm),Vi s.a.now,Vn s.a.cnt],Res.mp Value.string kc s.bm s.a.kb,Res.mp xn xc s.lm s.a.kl,Res.row s.cb 275 [.map (some s.rm)],Res.mp ekR kh s.rm s.a.kr]
def Res.lg(b:Nat)(s:LgD):Res:=Res.star (lgP b s)
structure ApOk(a:LgA)(d:Int):Prop where
 dl:xw d
 now:0≤a.now∧a.now≤2305843009213693952
 cnt:a.cnt≤1000000000
 nd:KNd a.kl
 len:a.kl.length≤128
 lent:∀ k,0≤yg k (yO a.now d a.kl)∧yg k (yO a.now d a.kl)≤9223372036854775807
 lea:∀ i l,zl i (yO a.now d a.kl)=some l→l.id<18446744073709551616∧xw l.amount∧xw l.until_
 pn:0≤yY a.now d∧yY a.now d≤2305843009213693952
 gone:(kX a.now d a.kl).length≤1
structure DoOk(a:LgA)(k:ByteArray):Prop where
 now:0≤a.now∧a.now≤2305843009213693952
 cnt:a.cnt≤1000000000
 lent:0≤yg k a.kl∧yg k a.kl≤9223372036854775807
 lea:∀ i l,zl i a.kl=some l→l.id<18446744073709551616∧xw l.amount∧xw l.until_
theorem zRR(w:World):Rets Tryz.prog 77 #[] w fun c d=>∃ (b:Nat) (s:LgD),c= .pointer (some ⟨b,0,none⟩)∧s.idx=0∧s.a=lgZ∧Own w [] [Res.lg b s] d:=by
 refine(zRM w).mono ?_
 rintro _ g ⟨b,tb,cb,bm,lm,rm,rfl,e⟩
 exact⟨b,⟨tb,cb,bm,lm,rm,0,lgZ⟩,O,O,O,(e.qf [0,1,2,3,4,5] O V).sel [0] O V⟩
theorem x9{S:List Nat}(b:Nat)(s:LgD)(x:EntD)(w:World)(q:x.wf)(c:ApOk s.a x.delta)(hi:s.idx<18446744073709551615)(m:Own w S [Res.lg b s] w)(g:EntD.rd x w S):Rets Tryz.prog 259 #[.pointer (some ⟨b,0,none⟩), .agg (EntD.cells x).toArray] w fun t u=>∃ (e:LgD) (r:RepD) (d:Bool) (l:Int),t= .tuple #[.agg (RepD.cells r).toArray, .bool d,Vi l]∧zA0 s.idx s.a.now s.a.cnt s.a.kb s.a.kl s.a.kr x.toEntA r d l e.idx e.a.now e.a.cnt e.a.kb e.a.kl e.a.kr∧Own w S [Res.lg b e] u:=by
 refine(zKd b s.tb s.cb s.bm s.lm s.rm s.idx s.a.now s.a.cnt s.a.kb s.a.kl s.a.kr x w q c.dl c.now c.cnt hi c.nd c.len c.lent c.lea c.pn c.gone (m.qi 0 O) g).mono ?_
 rintro _ y ⟨r,d,l,i,j,k,n,o,p,rfl,h,v⟩
 exact⟨⟨s.tb,s.cb,s.bm,s.lm,s.rm,i,⟨j,k,n,o,p⟩⟩,r,d,l,O,h,(v.qf [0,1,2,3,4,5] O V).sel [0] O V⟩
theorem zIN{S:List Nat}(b:Nat)(s:LgD)(c q:Nat)(w:World)(d:Own w S [Res.lg b s] w):Rets Tryz.prog 153 #[.pointer (some ⟨b,0,none⟩),Vn c,Vn q] w fun g i=>∃ (r:RepD) (e:Int) (f:Bool),g= .tuple #[.agg (RepD.cells r).toArray, .bool f]∧yn s.a.kr c q=(r,e)∧f=decide (e=0)∧Own w S [Res.lg b s] i:=by
 have h1:=(d.qi 0 rfl).sel [0,4,5,1,2,3] rfl V
 refine(zNI b s.tb s.cb s.rm s.idx s.a.kr c q w (h1.give [0,1,2] O V)).mono ?_
 rintro _ k ⟨r,e,f,rfl,h,h2,j⟩
 exact⟨r,e,f,O,h,h2,(((h1.qh [0,1,2] O j).sel [3,0,1,2,4,5] O V).qf [0,1,2,3,4,5] O V).sel [0] O V⟩
theorem jO{S:List Nat}(b:Nat)(s:LgD)(w:World)(a:Own w S [Res.lg b s] w):Rets Tryz.prog 21 #[.pointer (some ⟨b,0,none⟩)] w fun c d=>c=Vn s.idx∧Own w S [Res.lg b s] d:=by
 have h1:=a.qi 0 rfl
 refine(zMj b s.tb s.cb s.idx w (h1.give [0] O V)).mono ?_
 rintro _ g ⟨rfl,e⟩
 exact⟨O,(((h1.qh [0] O e).sel [5,0,1,2,3,4] O V).qf [0,1,2,3,4,5] O V).sel [0] O V⟩
theorem zIs{S:List Nat}(b:Nat)(s:LgD)(w:World)(d:Own w S [Res.lg b s] w):Rets Tryz.prog 44 #[.pointer (some ⟨b,0,none⟩)] w fun k l=>∃ (c:Nat) (j:LgD),k= .pointer (some ⟨c,0,none⟩)∧j.idx=s.idx∧Own w S [Res.lg b s,Res.lg c j] l:=by
 refine(zPJ b s.tb s.cb s.bm s.lm s.rm s.idx s.a.now s.a.cnt s.a.kb s.a.kl s.a.kr w (d.qi 0 O)).mono ?_
 rintro _ n ⟨c,tb2,e,g,h,i,rfl,m⟩
 exact⟨c,⟨tb2,e,g,h,i,s.idx,s.a⟩,O,O,((m.qf [0,1,2,3,4,5] O V).qf [0,1,2,3,4,5] O V).sel [0,1] O V⟩
abbrev kq(wb:Nat)(st:SetD)(nv dv ev:Value)(pb cb:Nat)(n:Value)(cv ov lv km:Value):Res:=Res.row wb 72 [Vi st.nodes,Vi st.voters,Vi st.edges,Vi st.rho,Vi st.base,Vi st.spread,Vi st.beat,Vi st.disk,Vi st.post,Vi st.keep,nv,dv,ev,pt pb,pt cb,n,cv,ov,lv, .bool false, .slice none 0 0,km]
abbrev kS(nb cb gb:Nat)(av:Value)(lk stb:Nat)(st:SetD)(ov tv fv:Value):Res:=Res.row nb 122 [pt cb,pt gb,av,Vn lk,pt stb,Vi st.nodes,Vi st.voters,Vi st.edges,Vi st.rho,Vi st.base,Vi st.spread,Vi st.beat,Vi st.disk,Vi st.post,Vi st.keep, .bool false,ov,tv,fv]
theorem zDg(k:ByteArray):zCj (j6 k)=k:=by cases k;simp[zCj,j6]
theorem zL8{x:CmdD}(h:x.wf)(ho:0≤x.op∧x.op≤5):Rt zLW x x.enc:=by
 have b:=zAs h.amount
 have c:=zAs h.span
 have d:=zDg x.key
 have a:(j6 x.key).length<18446744073709551616:=by rw[xY];have:=h.key;omega
 have e1:x.enc=kD x.session++(kD x.seq++(kD (u64 x.op)++(dat (j6 x.key)++(kD (u64 x.amount)++(kD (u64 x.span)++(kD x.lease++[])))))):=by simp[CmdD.enc,yS]
 rw[e1]
 have e:Rt (yo kE fun l=>xZ (⟨x.session,x.seq,x.op,zCj (j6 x.key),x5 (u64 x.amount),x5 (u64 x.span),l⟩:CmdD)) x (kD x.lease++[]):=
   (x6 h.lease).bind (q:=fun l=>xZ (⟨x.session,x.seq,x.op,zCj (j6 x.key),x5 (u64 x.amount),x5 (u64 x.span),l⟩:CmdD)) (by rw[b,c,d];exact Rt.pure x)
 exact(x6 h.session).bind ((x6 h.seq).bind ((zHx ho.1 ho.2 V).bind ((zGO a).bind ((x6 (yc _)).bind ((x6 (yc _)).bind e)))))
theorem zNh{x:CmdD}(h:x.wf)(ho:x.ok):j8 x.enc=some x:=zCR (p:=zLW) (zL8 h ⟨by have:=ho.1.1;omega,ho.1.2⟩) ho
theorem zO4{x:AskD}(h:x.wf)(ho:x.ok)(hl:x.look=false):zDQ x.enc=some x:=by
 have a:=ho
 unfold AskD.ok at a
 rw[if_neg (by rw[hl];decide)]at a
 have c:=zDg x.key
 have b:(j6 x.key).length<18446744073709551616:=by rw[xY];have:=h.key;omega
 have d:=zL8 h.cmd (⟨by have:=a.1.1.1.1;omega,a.1.1.1.2⟩:0≤x.cmd.op∧x.cmd.op≤5)
 have e1:x.enc=kD (fl x.look)++(kD (fl x.lazy)++(kD x.seq++(x.cmd.enc++(dat (j6 x.key)++[])))):=by simp[AskD.enc,yS]
 rw[e1]
 have e:Rt (yo jD fun k=>xZ (⟨x.look,x.lazy,x.seq,x.cmd,zCj k⟩:AskD)) x (dat (j6 x.key)++[]):=
   (zGO b).bind (q:=fun k=>xZ (⟨x.look,x.lazy,x.seq,x.cmd,zCj k⟩:AskD)) (by rw[c];exact Rt.pure x)
 exact zCR (p:=zR8) ((zEq _).bind ((zEq _).bind ((x6 h.seq).bind (d.bind e)))) ho
theorem zBT{x:AskD}(h:x.wf)(ho:x.ok)(hl:x.look=false):x.enc.length≤65536:=by
 have a:=ho
 unfold AskD.ok at a
 rw[if_neg (by rw[hl];decide)]at a
 have j:x.key.size=0:=by rw[a.1.2];rfl
 have b:x.cmd.key.size≤64:=a.1.1.2
 have k:=xY x.key
 have c:=xY x.cmd.key
 have l:=x1 (j6 x.key) qG
 have d:=x1 (j6 x.cmd.key) qG
 have e:=zMt x.look
 have f:=zMt x.lazy
 have m:=jq h.seq
 have g:=yR (ns:=[x.cmd.session,x.cmd.seq,u64 x.cmd.op]) (by have:=h.cmd.session;have:=h.cmd.seq;simp[yc, *])
 have i:=yR (ns:=[u64 x.cmd.amount,u64 x.cmd.span,x.cmd.lease]) (by have:=h.cmd.lease;simp[yc, *])
 have e1:x.enc=kD (fl x.look)++(kD (fl x.lazy)++(kD x.seq++(x.cmd.enc++(dat (j6 x.key)++[])))):=by simp[AskD.enc,yS]
 rw[e1]
 simp only[CmdD.enc,List.length_append,List.length_cons,List.length_nil]at *
 omega
structure EgD where
 lm:Nat
 nm:Nat
 id:Int
 nodes:Int
 rho:Int
 a:AskD
 since:Int
 waits:Bool
 seq:Nat
 next:Int
 now:Int
 kl:List (Nat×TruD)
 kn:List (Nat×Bool)
def Res.eg(b:Nat)(d:EgD):Res:=Res.star [Res.row b 97 [.bool d.a.look, .bool d.a.lazy,Vn d.a.seq,Vn d.a.cmd.session,Vn d.a.cmd.seq,Vi d.a.cmd.op, .string d.a.cmd.key,Vi d.a.cmd.amount,Vi d.a.cmd.span,Vn d.a.cmd.lease, .string d.a.key,Vi d.since, .bool d.waits, .map (some d.lm), .map (some d.nm),Vi d.id,Vi d.nodes,Vi d.rho,Vn d.seq,Vi d.next,Vi d.now],Res.mp xn jM d.lm d.kl,Res.mp xn Value.bool d.nm d.kn]
def zBV(d e:EgD):Prop:=(d.id=e.id∧d.nodes=e.nodes)∧d.rho=e.rho
theorem zQ5(id nodes rho:Int)(w:World)(c:1≤id∧id≤16)(e:1≤nodes∧nodes≤16)(g:0≤rho∧rho≤500000):Rets Tryz.prog 42 #[Vi id,Vi nodes,Vi rho] w fun h i=>∃ (b:Nat) (d:EgD),h= .tuple #[.pointer (some ⟨b,0,none⟩),Vi 0]∧((d.id=id∧d.nodes=nodes)∧d.rho=rho)∧((d.waits=false∧d.seq=0)∧d.next=1)∧d.a=askZ∧((d.kl=[]∧d.kn=[])∧d.now=0)∧Own w [] [Res.eg b d] i:=by
 refine(zQd id nodes rho w c e g).mono ?_
 rintro _ k ⟨b,lm,nm,rfl,j⟩
 exact⟨b,⟨lm,nm,id,nodes,rho,askZ,0,false,0,1,0,[],[]⟩,O,⟨⟨O,O⟩,O⟩,⟨⟨O,O⟩,O⟩,O,⟨⟨O,O⟩,O⟩,(j.qf [0,1,2] O V).sel [0] O V⟩
theorem zNX{S:List Nat}(b:Nat)(d:EgD)(op:Int)(key:ByteArray)(k l:Int)(le:Nat)(t:Int)(w:World)(m:xw k)(n:xw l)(o:le<18446744073709551616)(u:d.seq≤1000000)(p:Own w S [Res.eg b d] w):Rets Tryz.prog 61 #[.pointer (some ⟨b,0,none⟩),Vi op, .string key,Vi k,Vi l,Vn le,Vi t] w fun v x=>∃ (to e:Int) (r:Value) (bs:List UInt8) (c:EgD),v= .tuple #[Vi to,r,Vi e]∧CallK d.a d.since d.waits op key k l le t d.id d.seq d.now d.kl d.kn to d.next e c.a c.since c.waits c.seq c.now c.kl c.kn∧(e=0→bs=(if c.a.ok then c.a.enc else []))∧zBV c d∧c.next=d.next∧Own w S [Res.eg b c,Res.vec 5 1 r bs.length (bs.map vb)] x:=by
 refine(zN4 b d.lm d.nm d.id d.nodes d.rho d.a d.since d.waits d.seq d.next d.now d.kl d.kn op key k l le t w m n o u (p.qi 0 O)).mono ?_
 rintro _ w1 ⟨to,e,r,bs,y,g,h,i,j,q,s,rfl,h1,h2,z⟩
 exact⟨to,e,r,bs,⟨d.lm,d.nm,d.id,d.nodes,d.rho,y,g,h,i,d.next,j,q,s⟩,O,h1,h2,⟨⟨O,O⟩,O⟩,O,(z.qf [0,1,2] O V).sel [1,0] O V⟩
theorem zOl{S:List Nat}(b:Nat)(d:EgD)(src:Int)(v:Value)(i:List UInt8)(t:Int)(w:World)(hl:i.length≤1048576)(n:d.a.wf)(k:d.nodes≤16)(l:Own w S [Res.eg b d] w)(o:Rd w S (Res.sl v i.length (i.map vb))):Rets Tryz.prog 51 #[.pointer (some ⟨b,0,none⟩),Vi src,v,Vi t] w fun p q=>∃ (done:Bool) (x:TldD) (to e:Int) (r:Value) (bs:List UInt8) (c:EgD),p= .tuple #[.bool done, .agg (TldD.cells x).toArray,Vi to,r,Vi e]∧TakeK i d.a d.since d.rho d.waits t d.now d.kl d.kn done x bs e c.waits c.now c.kl∧(done=true→r=zW∧c.next=d.next)∧zBV c d∧((c.a=d.a∧c.seq=d.seq)∧c.since=d.since∧c.kn=d.kn)∧Own w S [Res.eg b c,Res.vec 5 1 r bs.length (bs.map vb)] q:=by
 refine(zOx b d.lm d.nm d.id d.nodes d.rho d.a d.since d.waits d.seq d.next d.now d.kl d.kn src v i t w hl n k (l.qi 0 O) o).mono ?_
 rintro _ u ⟨done,x,to,e,r,bs,g,h,j,m,rfl,h1,h2,s⟩
 exact⟨done,x,to,e,r,bs,⟨d.lm,d.nm,d.id,d.nodes,d.rho,d.a,d.since,g,d.seq,h,j,m,d.kn⟩,O,h1,h2,⟨⟨O,O⟩,O⟩,⟨⟨O,O⟩,O,O⟩,(s.qf [0,1,2] O V).sel [1,0] O V⟩
theorem zHF{S:List Nat}(b:Nat)(d:EgD)(w:World)(c:Own w S [Res.eg b d] w):Rets Tryz.prog 62 #[.pointer (some ⟨b,0,none⟩)] w fun e g=>∃ (y:AskD) (f:Bool),e= .tuple #[.agg (AskD.cells y).toArray, .bool f]∧y=(if d.waits=true then d.a else askZ)∧Own w S [Res.eg b d] g:=by
 refine(zGx b d.lm d.nm d.id d.nodes d.rho d.a d.since d.waits d.seq d.next d.now w ((c.qi 0 O).give [0] O V)).mono ?_
 rintro _ i ⟨y,f,rfl,h1,h2,h⟩
 exact⟨y,f,O,h1,(((c.qi 0 O).qh [0] O h).qf [2,0,1] O V).sel [0] O V⟩
theorem zBN{κ α β:Type}{g:κ×α→β}{kl todo q1 q2:List (κ×α)}{xs:List β}{p:κ×α}(h:(xs++todo.map g).Perm (kl.map g))(b:todo=q1++p::q2):((xs++[g p])++(q1++q2).map g).Perm (kl.map g):=by
 refine List.Perm.trans ?_ h
 rw[b,List.append_assoc]
 refine List.Perm.append_left _ ?_
 rw[List.map_append,List.map_append,List.map_cons]
 exact(List.perm_middle (l₁:=q1.map g) (l₂:=q2.map g) (a:=g p)).symm
theorem zDr{κ α β:Type}{g:κ×α→β}{kl todo q1 q2:List (κ×α)}{xs:List β}{p:κ×α}(h:(xs++todo.map g).Perm (kl.map g))(a:todo=q1++p::q2):xs.length<kl.length:=by
 have:=h.length_eq
 rw[a]at this
 simp at this;omega
theorem zLz(sb m:Nat)(kl:List (Nat×TruD)):zGL Tryz.prog 73 [.pointer (some ⟨sb,0,none⟩)] (fun x:Nat=>Value.int .u64 (x:Nat)) (fun c=>c.Perm (kl.map (·.1))) kl.length [Res.row sb 88 [.map (some m)],Res.mp xn jM m kl]:=by
 intro ly J L0 w Y hJ hin
 refine xh (args:=[.func (.yield ly) #[] #[], .pointer (some ⟨sb,0,none⟩)]) Tryz.func73 O Tryz.ntmps73 O (show Own w (xM ([Res.row sb 88 [.map (some m)],Res.mp xn jM m kl]++L0)) (Res.row sb 88 [.map (some m)]::Res.mp xn jM m kl::L0) w from hin) (zB (zJ 0 (v:= .map (some m)) O O O O (jN 1 zEg O O O (fun l=>zA (zU (xP (fun(a:List (Nat×TruD)) (c:List Nat) (Lr:List Res)=>[(0, .func (.yield ly) #[] #[]),(5, .pointer (some ⟨l,0,none⟩))]) (fun(a:List (Nat×TruD)) (c:List Nat) (Lr:List Res)=>(c++a.map (·.1)).Perm (kl.map (·.1))∧J c Lr) (fun(a:List (Nat×TruD)) (c:List Nat) (Lr:List Res)=>(Res.row sb 88 [.map (some m)]::Res.rg xn jM m l kl a::Lr)) (fun(a:List (Nat×TruD)) (c:List Nat) (Lr:List Res)=>a.length) (fun o i=>⟨kl,[],L0,⟨O,O,trivial⟩,⟨.refl _,hJ⟩,i⟩) (fun a c Lr g p=> ?_)))))))
 have d:=p.1
 have j:=p.2
 refine zB (zAJ 1 O O O (fun n=> ?_) (fun q1 k v q2 h=> ?_))
 ·refine zb (vs:=[yC]) O O O (zA (zK (yW O (xx O (yp O (fun o i=>⟨c,Lr,(by rw[n]at d;simpa using d),j,(Own.rgEnd 1 i O)⟩))))))
 refine zb (vs:=[xi,Vn k, .agg (TruD.cells v).toArray]) O O O (zA (zK (x0 O (zN (zU (zB (jV 1 O O O (zb (vs:=[Vn k, .agg (TruD.cells v).toArray]) O O O (zF O (zA (zBr (xj O za (xj O za (zC2 [Res.row sb 88 [.map (some m)],Res.rg xn jM m l kl (q1++q2)] k Y O O j (zDr d h) O (fun Ly1_ e=>(xj O (zDN (b:=true) O) (zGf (yW O (x2 (fun o i=>⟨q1++q2,c++[k],Ly1_,⟨O,O,trivial⟩,⟨zBN d h,e⟩,i,(by rw[h,List.length_append,List.length_append,List.length_cons];omega)⟩))))))))))))))))))))
theorem zPL{S:List Nat}(m:Nat)(kl:List (Nat×TruD))(w:World)(a:Own w S [Res.mp xn jM m kl] w):Rets Tryz.prog 34 #[.map (some m)] w fun e d=>∃ (b:Nat),e= .func (.func 73) #[] #[.pointer (some ⟨b,0,none⟩)]∧Own w S [Res.mp xn jM m kl,Res.row b 88 [.map (some m)]] d:=by
 refine zO Tryz.func34 O Tryz.ntmps34 a (zB (zj O O (fun c=>zF O (zA (zB (j2 (va:=[]) (vb:=[.pointer (some ⟨c,0,none⟩)]) O O O (zF O (zA (zP (zm (v:= .func (.func 73) #[] #[.pointer (some ⟨c,0,none⟩)]) O O (fun d g=>⟨c,O,g⟩)))))))))))
theorem zHY{S:List Nat}(b m:Nat)(kl:List (Nat×TruD))(w:World)(hl:kl.length≤1000000000)(h:Own w S [Res.row b 88 [.map (some m)],Res.mp xn jM m kl] w):Rets Tryz.prog 71 #[.func (.func 73) #[] #[.pointer (some ⟨b,0,none⟩)]] w fun k e=>∃ (j:Value) (i:List Nat),k=j∧i.Perm (kl.map (·.1))∧Own w S [Res.row b 88 [.map (some m)],Res.mp xn jM m kl,Res.vec 31 1 j i.length (i.flatMap U1)] e:=by
 refine zO Tryz.func71 O Tryz.ntmps71 h (zB (zF O (zA (zB (zC O (zG O O (fun e g=>(zFn 73 [.pointer (some ⟨b,0,none⟩)] qF (zLz b m kl) qG e (g.give [0,1] O V)).mono ?_)))))))
 rintro c n ⟨_,d,rfl,a,l⟩
 refine fq [0,1] O g l (zF O (zA (zP (zm (v:=c) O O (fun e g=>⟨c,d,O,a,g⟩)))))
theorem zJ8{S:List Nat}(b m:Nat)(kl:List (Nat×TruD))(w:World)(hl:kl.length≤1)(h:Own w S [Res.row b 88 [.map (some m)],Res.mp xn jM m kl] w):Rets Tryz.prog 33 #[.func (.func 73) #[] #[.pointer (some ⟨b,0,none⟩)]] w fun l g=>∃ (k:Value) (i:List Nat),l=k∧i.Perm (kl.map (·.1))∧Own w S [Res.row b 88 [.map (some m)],Res.mp xn jM m kl,Res.vec 31 1 k i.length (i.flatMap U1)] g:=by
 refine zO Tryz.func33 O Tryz.ntmps33 h (zB (zF O (zA (zB (zC O (zG O O (fun g e=>(zHY b m kl g qH (e.give [0,1] O V)).mono ?_)))))))
 rintro a n ⟨_,c,rfl,d,j⟩
 have o:c.length≤1:=by rw[d.length_eq,List.length_map];exact hl
 refine fq [0,1] O e j (zF O (zA (zB (zC O (zG O O (fun g e=>(zFL a c g qH (e.give [2] O V)).mono ?_))))))
 rintro _ n ⟨rfl,j⟩
 refine fq [2] O e j (zA (zB (zC O (zF O (zA (zP (zm (v:=a) O O (fun g e=>⟨a,c,O,d,e⟩))))))))
theorem zK8(a c:Int)(w:World):Rets Tryz.prog 36 #[Vi a,Vi c] w fun m h=>m= .tuple #[Vi ((jZ a c).1),Vi ((jZ a c).2)]∧Own w [] [] h:=by
 refine zO Tryz.func36 O Tryz.ntmps36 (Own.start w) (zB (zF O (zF O (zA (zK (zB (zC O (yX O O O (zC O (yB (q:=0<c) 4 2 [12,11,10,9] ((IntKind.i64.wrap (9223372036854775807 - c))<a) O O O O O O trivial O (fun d=> ?_) (fun l=> ?_)))))))))))
 ·refine zQ O (gT d) (zC O (zQ O (gT d) (zC O (zQ O (gT d) (y7 (c:=IntKind.i64.wrap (9223372036854775807 - c)) O O O O (zQ O (gT d) (yX O O O (z8 O (fun _ g=>g)))))))))
 refine zC O (yP (q:=(0<c)∧((IntKind.i64.wrap (9223372036854775807 - c))<a)) 8 8 [22,21,20,19,18,17,16,15] ((c<0)∧(a<(IntKind.i64.wrap (-9223372036854775808 - c)))) O O O O O O trivial O (fun e=> ?_) (fun i=> ?_))
 ·refine zQ O (gF e) (zC O (zQ O (gF e) (zw O O O (zQ O (gF e) (zC O (yB (q:=c<0) 4 11 [21,20,19,18] (a<(IntKind.i64.wrap (-9223372036854775808 - c))) O O O O O O ⟨_,O,O,gF e⟩ O (fun b=> ?_) (fun j=> ?_)))))))
  ·refine zQ O (gT b) (zC O (zQ O (gT b) (zC O (zQ O (gT b) (y7 (c:=IntKind.i64.wrap (-9223372036854775808 - c)) O O O O (zQ O (gT b) (zw O O O (z8 O (fun _ g=>g)))))))))
  exact z8 O (fun _ g=>g)
 refine zA (zT O (fun k=> ?_) (fun k=> ?_))
 ·refine zB (zF O (zF O (zA (zP (yh (v:=Vi 0) (v':=Vi 3) O O O (fun h g=>⟨(by unfold jZ;rw[if_pos k]),g.drop⟩))))))
 refine zN (zB (zC O (zC O (zr (c:=IntKind.i64.wrap (a+c)) O O O O (zF O (zF O (zA (zP (yh (v:=Vi (IntKind.i64.wrap (a+c))) (v':=Vi 0) O O O (fun h g=>⟨(by unfold jZ;rw[if_neg k]),g.drop⟩))))))))))
theorem zKs(v:Value)(l:List Int)(w:World)(hl:l.length≤1000000000)(hv:Rd w [] (Res.sl v l.length (l.flatMap I1))):Rets Tryz.prog 35 #[v] w fun h b=>h= .tuple #[Vi ((ja 0 l).1),Vi ((ja 0 l).2)]∧Own w [] [] b:=by
 refine zO Tryz.func35 O Tryz.ntmps35 (Own.start w) (zB (zF O (zF O (zA (zB (zF O (zA (zK (zB (zC O (zn (pR hv) O O (zC O (zA (zU (xE (fun(k:Nat) (n:Int)=>[(4,Vi n),(8,v),(9,Vj l.length),(10,Vj k)]) (fun(k:Nat) (n:Int)=>k≤l.length∧ja n (l.drop k)=ja 0 l) (fun(k:Nat) (n:Int)=>[]) (fun(k:Nat) (n:Int)=>l.length - k) (fun b a=>⟨0,0,⟨O,O,O,O,trivial⟩,⟨Nat.zero_le _,O⟩,a⟩) (fun k n g e=> ?_))))))))))))))))
 have o:=e.1
 have c:=e.2
 refine zB (zw O O O (zA (zK (zT O (fun i=> ?_) (fun i=> ?_)))))
 ·refine zN (zK (zU (zB (yL (pR hv) 1 k O O O qG O (xC (pR hv) 1 k 0 (fun _=>O) O O qG O O (zF O (zA (zB (zF O (zA (zB (zC O (zC O (zG O O (fun b a=>(zK8 n (zc l k) b).mono ?_)))))))))))))))
  rintro _ j ⟨rfl,m⟩
  refine(?_:CL _ _ _ _ _ _ (Own w [] [])) j (a.qb m)
  refine zC O (zb (vs:=[Vi ((jZ n (zc l k)).1),Vi ((jZ n (zc l k)).2)]) O O O (zb (vs:=[Vi ((jZ n (zc l k)).1),Vi ((jZ n (zc l k)).2)]) O O O (zF O (zF O (zA (zB (zC O (ye O O O (zA (zT O (fun d=> ?_) (fun d=> ?_)))))))))))
  ·refine zB (zC O (zF O (zF O (zA (zP (yh (v:=Vi 0) (v':=Vi ((jZ n (zc l k)).2)) O O O (fun b a=>⟨(by rw[←c,zMf qG d]),a.drop⟩)))))))
  refine zN (ze (zr O O (zt qG) O (zC O (zx (fun b a=>⟨k+1,(jZ n (zc l k)).1,⟨O,O,O,O,trivial⟩,⟨by omega,by rw[←c,zPP qG d]⟩,a,qG⟩)))))
 refine zu O (zB (zC O (zF O (zF O (zA (zP (yh (v:=Vi n) (v':=Vi 0) O O O (fun b a=>⟨(by rw[←c,zLB qG]),a.drop⟩))))))))
theorem zJ2{S:List Nat}(b lm nm:Nat)(id nodes rho:Int)(a:AskD)(since:Int)(waits:Bool)(seq:Nat)(next now:Int)(kl:List (Nat×TruD))(key:ByteArray)(t:Int)(w:World)(hl:kl.length≤1)(a0:Own w S [Res.row b 97 [.bool a.look, .bool a.lazy,Vn a.seq,Vn a.cmd.session,Vn a.cmd.seq,Vi a.cmd.op, .string a.cmd.key,Vi a.cmd.amount,Vi a.cmd.span,Vn a.cmd.lease, .string a.key,Vi since, .bool waits, .map (some lm), .map (some nm),Vi id,Vi nodes,Vi rho,Vn seq,Vi next,Vi now],Res.mp xn jM lm kl] w):Rets Tryz.prog 14 #[.pointer (some ⟨b,0,none⟩), .string key,Vi t] w fun u_ h=>∃ (r:List Nat),u_= .tuple #[Vi ((ja 0 (jr key (max now t) kl r)).1),Vi ((ja 0 (jr key (max now t) kl r)).2)]∧r.Perm (kl.map (·.1))∧Own w S [Res.row b 97 [.bool a.look, .bool a.lazy,Vn a.seq,Vn a.cmd.session,Vn a.cmd.seq,Vi a.cmd.op, .string a.cmd.key,Vi a.cmd.amount,Vi a.cmd.span,Vn a.cmd.lease, .string a.key,Vi since, .bool waits, .map (some lm), .map (some nm),Vi id,Vi nodes,Vi rho,Vn seq,Vi next,Vi (max now t)],Res.mp xn jM lm kl] h:=by
 refine zO Tryz.func14 O Tryz.ntmps14 a0 (zB (zF O (zF O (zA (zK (zB (zC O (yE qF O O O (zA (yW O (zN (zB (zC O (zC O (zG O O (fun h d=>(zC3 b lm nm id nodes rho a since waits seq next now t h (d.give [0] O V)).mono ?_))))))))))))))))
 rintro _ y ⟨rfl,s⟩
 refine fq [0] O d s (zF O (zA (zB (zF O (zA (zK (zB (zC O (zV O O (zI (o:=13) O O (zJ 1 (v:= .map (some lm)) O O O O (zG O O (fun h d=>(zPL lm kl h (d.give [0] O V)).mono ?_)))))))))))))
 rintro _ y ⟨x,rfl,s⟩
 refine fq [0] O d s (zG O O (fun h d=>(zJ8 x lm kl h qH (d.give [2,1] O V)).mono ?_))
 rintro p y ⟨_,c,rfl,m,s⟩
 refine fq [2,1] O d s (zn (pV 3 O) O O (zC O (zA (zU (xP (fun(i:Nat) (v:Value) (l:List Int)=>[(0, .pointer (some ⟨b,0,none⟩)),(1, .string key),(2,Vi (max now t)),(8,v),(22,p),(23,Vj c.length),(24,Vj i)]) (fun(i:Nat) (v:Value) (l:List Int)=>i≤c.length∧l=jr key (max now t) kl (c.take i)) (fun(i:Nat) (v:Value) (l:List Int)=>[Res.row b 97 [.bool a.look, .bool a.lazy,Vn a.seq,Vn a.cmd.session,Vn a.cmd.seq,Vi a.cmd.op, .string a.cmd.key,Vi a.cmd.amount,Vi a.cmd.span,Vn a.cmd.lease, .string a.key,Vi since, .bool waits, .map (some lm), .map (some nm),Vi id,Vi nodes,Vi rho,Vn seq,Vi next,Vi (max now t)],Res.row x 88 [.map (some lm)],Res.mp xn jM lm kl,Res.vec 31 1 p c.length (c.flatMap U1),Res.vec 2 1 v l.length (l.flatMap I1)]) (fun(i:Nat) (v:Value) (l:List Int)=>c.length - i) (fun h d=>⟨0,zW,[],⟨O,O,O,O,O,O,O,trivial⟩,⟨Nat.zero_le _,O⟩,(zq d 2 1)⟩) (fun i v l g hΦ=> ?_))))))
 have hi:=hΦ.1
 have n:=hΦ.2
 have a3:c.length=kl.length:=by rw[m.length_eq,List.length_map]
 have a4:l.length≤1000000:=by rw[n];have:=zMm key (max now t) kl (c.take i);rw[List.length_take]at this;omega
 refine zB (zw O O O (zA (zK (zT O (fun c2=> ?_) (fun c2=> ?_)))))
 ·refine zN (zK (zU (zB (yL (pV 3 O) 1 i O O O qG O (xC (pV 3 O) 1 i 0 (fun _=>O) O O qG O O (zF O (zA (zB (zC O (zV O O (zI (o:=13) O O (zJ 0 (v:= .map (some lm)) O O O O (zC O (zPY (k:=(zc c i)) (kv:=kl) (zv:=TruD.zero) zCa zEg zMY O O (fun h u=>Own.holds u 2 _ O) O (zk (v:= .agg #[yk,Vi 0,Vi 0]) qF O (fun a5=>zf 5 O O O (zz O) O (zA (zB (zI (o:=0) O O (zJ 5 (v:= .string (((zl (zc c i) kl).getD TruD.zero).key)) O O O O (zC O (zEf O O O (zC O (yB (q:=(((zl (zc c i) kl).getD TruD.zero).key)=key) 4 4 [42,41,40,39] ((max now t)<(((zl (zc c i) kl).getD TruD.zero).till)) O O O O O O trivial O (fun j=> ?_) (fun a2=> ?_)))))))))))))))))))))))))
  ·refine zQ O (gT j) (zI (o:=2) O O (zQ O (gT j) (zJ 5 (v:=Vi (((zl (zc c i) kl).getD TruD.zero).till)) O O O O (zQ O (gT j) (zC O (zQ O (gT j) (yX O O O (z8 O (fun _ d=>d)))))))))
  refine zA (zT O (fun z=> ?_) (fun z=> ?_))
  ·refine ze (zC O (zI (o:=1) O O (zJ 5 (v:=Vi (((zl (zc c i) kl).getD TruD.zero).amount)) O O O O (yG (e:=2) (sz:=1) (vs:=[Vi (((zl (zc c i) kl).getD TruD.zero).amount)]) qF O O qL V O (fun a6=>yF (g:=I1) (sz:=1) (by':=8) (fun _=>O) (l:=l) (l':=[((zl (zc c i) kl).getD TruD.zero).amount]) qO 4 qF O O O (fun h u=>Vec.sl (Own.holds u 6 _ O)) qH V O (fun a1=>zF O (zA (ze (zr O O (zt qG) O (zC O (zx (fun h d=>⟨i+1,a1,l++[((zl (zc c i) kl).getD TruD.zero).amount],⟨O,O,O,O,O,O,O,trivial⟩,⟨by omega,by rw[n];exact zMJ qG z.1 z.2⟩,d.sel [0,1,2,3,4] O V,qG⟩))))))))))))
  refine zN (ze (zr O O (zt qG) O (zC O (zx (fun h d=>⟨i+1,v,l,⟨O,O,O,O,O,O,O,trivial⟩,⟨by omega,by rw[n];exact zO6 qG z⟩,d.sel [0,1,2,3,4] O V,qG⟩)))))
 refine zu O (zB (zC O (zG O O (fun h d=>(zKs v l h qH (d.qj 4 O)).mono ?_))))
 rintro _ y ⟨rfl,s⟩
 refine(?_:CL _ _ _ _ _ _ (Own w S [_,_,_,_,_])) y (d.qb s)
 refine zb (vs:=[Vi ((ja 0 l).1),Vi ((ja 0 l).2)]) O O O (zb (vs:=[Vi ((ja 0 l).1),Vi ((ja 0 l).2)]) O O O (zF O (zF O (zA (zP (yh (v:=Vi ((ja 0 l).1)) (v':=Vi ((ja 0 l).2)) O O O (fun h d=>⟨c,(by rw[n,List.take_of_length_le qG]),m,d.sel [0,2] O V⟩)))))))
theorem zJu{S:List Nat}(b:Nat)(d:EgD)(key:ByteArray)(t:Int)(w:World)(hl:d.kl.length≤1)(e:Own w S [Res.eg b d] w):Rets Tryz.prog 14 #[.pointer (some ⟨b,0,none⟩), .string key,Vi t] w fun h i=>∃ (c:List Nat) (g:EgD),h= .tuple #[Vi ((ja 0 (jr key (max d.now t) d.kl c)).1),Vi ((ja 0 (jr key (max d.now t) d.kl c)).2)]∧c.Perm (d.kl.map (·.1))∧g={d with now:=max d.now t}∧Own w S [Res.eg b g] i:=by
 have hi:=e.qi 0 rfl
 refine(zJ2 b d.lm d.nm d.id d.nodes d.rho d.a d.since d.waits d.seq d.next d.now d.kl key t w hl (hi.give [0,1] O V)).mono ?_
 rintro _ k ⟨c,rfl,h1,j⟩
 exact⟨c,{d with now:=max d.now t},O,h1,O,((hi.qh [0,1] O j).qf [1,2,0] O V).sel [0] O V⟩
end Go.Proofs.YthpoddkmhfhboaaGreatDoor
