import Derived.Test.YtmpaljnacfidaaaGreatDoorWlW
import Derived.Test.YtmpaljnacfidaaaGreatDoorFwN
import Derived.Test.YtmpaljnacfidaaaGreatDoorIn
import Derived.Test.YtmpaljnacfidaaaGreatDoorFw3
import Derived.Test.YtmpaljnacfidaaaGreatDoorFwR
import Derived.Laws.Externs
import Derived.Test.YtmpaljnacfidaaaGreatDoorFwP
set_option linter.unusedSectionVars false
set_option linter.unusedSimpArgs false
set_option linter.unusedVariables false
set_option maxRecDepth 10000
namespace Go.Proofs.YtmpaljnacfidaaaGreatDoor
open Go Go.Sc Go.Proofs
theorem zIh{P:Program}{n:Nat}{fn:Func}{R:Value→World→Prop}{A:World→Prop}{f:Nat→Value}{t0 t1 t2:Tmp}{T:TypeId}{b:Nat}{cs:List Value}{v1 v2:Value}(d:fn.results= #[.cell t0 T, .tmp t1, .tmp t2])(e:f t0= .pointer (some ⟨b,0,none⟩))(h1:f t1=v1)(h2:f t2=v2)
    (g:jE P T=some cs.length) (j:∀ w,A w→∀ i u,cs[i]?=some u→w.cell? ⟨b,0+i,none⟩=some u) (h:∀ w,A w→R (.tuple #[.agg cs.toArray,v1,v2]) w):∀ w,A w→zBF P fn n R f w:=
  fun w c=>⟨_,fun a k=>by
    have:=yy (P:=P) g (j w c)
    simp[results,d,k.get,e,h1,h2,asAddr,this],h w c⟩
theorem ValPost.none{α:Type}{d:Option α}{x z:α}{e:Int}(h:ValPost d x z e)(a:e≠0):d= .none:=by
  rcases h with h|h
  · exact absurd h.1 a
  exact h.2.1
theorem ValPost.some{α:Type}{d:Option α}{x z:α}{e:Int}(h:ValPost d x z e)(a:¬ e≠0):d= .some x:=by
  rcases h with h|h
  · exact h.2
  exact absurd (by rw[h.1];decide) a
theorem kC{α β:Type}{p:List UInt8→Nat→Option (α×Nat)}{q:α→List UInt8→Nat→Option (β×Nat)}{b:List UInt8}{a k:Nat}{v:β}(h:yi p q b a=some (v,k)):∃ x j,p b a=some (x,j)∧q x b j=some (v,k):=by
  simp only[yi,Option.bind_eq_some_iff]at h
  obtain⟨⟨x,j⟩,h1,h2⟩:=h
  exact⟨x,j,h1,h2⟩
theorem zIO{n:Nat}(h:n<18446744073709551616):x3 (xw n):=by unfold x3 xw;split<;>omega
theorem zJg{b:List UInt8}{c:CmdD}(h:j9 b=some c):c.wf:=by
  unfold j9 whole at h
  simp only[Option.bind_eq_some_iff]at h
  obtain⟨⟨x,j⟩,h1,h2⟩:=h
  split at h2
  · rename_i hc
    cases h2
    have e:=hc.2.2
    obtain⟨s,_,e1,h1⟩:=kC h1
    obtain⟨q,_,e2,h1⟩:=kC h1
    obtain⟨o,_,k,h1⟩:=kC h1
    obtain⟨d,_,m,h1⟩:=kC h1
    obtain⟨a,_,f,h1⟩:=kC h1
    obtain⟨t,_,g,h1⟩:=kC h1
    obtain⟨l,_,i,h1⟩:=kC h1
    simp only[xS,Option.some.injEq,Prod.mk.injEq]at h1
    obtain⟨rfl,_⟩:=h1
    exact⟨(xr e1).1,(xr e2).1,by dsimp only at e ⊢;omega,zIO (xr f).1,zIO (xr g).1,(xr i).1⟩
  cases h2
def zAG(idx:Nat)(now:Int)(cnt:Nat)(kb:List (ByteArray×Int))(kl:List (Nat×LeaD))(kr:List (Nat×RepD))(x:EntA)(r:RepD)(has:Bool)(e:Int)(idx':Nat)(now':Int)(cnt':Nat)(kb':List (ByteArray×Int))(kl':List (Nat×LeaD))(kr':List (Nat×RepD)):Prop:=
  (((¬ x.ok∧e=2)∨(x.ok∧x.index≠idx+1∧e=12))∧r=RepD.zero∧has=false∧idx'=idx∧now'=now∧cnt'=cnt∧kb'=kb∧kl'=kl∧kr'=kr)
  ∨((x.ok∧x.index=idx+1)∧e=0∧idx'=x.index∧now'=yr now x.delta
    ∧(((x.kind≠2∨j9 x.data=none)∧r=RepD.zero∧has=false∧cnt'=cnt∧kb'=kb∧kl'=yf now x.delta kl∧kr'=kr)
      ∨(x.kind=2∧has=true∧∃ c did,j9 x.data=some c∧DoK (yr now x.delta) cnt kb (yf now x.delta kl) kr c r did cnt' kb' kl' kr')))
theorem zKA{S:List Nat}(b tb cb bm lm rm idx:Nat)(now:Int)(cnt:Nat)(kb:List (ByteArray×Int))(kl:List (Nat×LeaD))(kr:List (Nat×RepD))(x:EntD)(w:World)(hx:x.wf)(hd:x3 x.delta)(ht:0≤now∧now≤2305843009213693952)(hc:cnt≤1000000000)(hi:idx<18446744073709551615)(hk:KNd kl)(ah:kl.length≤128)(af:∀ k,0≤yY k (yf now x.delta kl)∧yY k (yf now x.delta kl)≤9223372036854775807)(ai:∀ i l,zl i (yf now x.delta kl)=some l→l.id<18446744073709551616∧x3 l.amount∧x3 l.until_)(aj:0≤yr now x.delta∧yr now x.delta≤2305843009213693952)(ap:(kw now x.delta kl).length≤1)(ak:Own w S [Res.row b 87 [.pointer (some ⟨tb,0,none⟩), .pointer (some ⟨cb,0,none⟩),Vn idx],Res.row tb 183 [.map (some bm), .map (some lm),Vi now,Vn cnt],Res.mp Value.string kS bm kb,Res.mp kK xW lm kl,Res.row cb 186 [.map (some rm)],Res.mp ekR kV rm kr] w)(ab:EntD.rd x w S):Rets Tryz.prog 294 #[.pointer (some ⟨b,0,none⟩), .agg (EntD.cells x).toArray] w fun u_ h=>∃ (r:RepD) (has:Bool) (er:Int) (idx':Nat) (now':Int) (cnt':Nat) (kb':List (ByteArray×Int)) (kl':List (Nat×LeaD)) (kr':List (Nat×RepD)),u_= .tuple #[.agg (RepD.cells r).toArray, .bool has,Vi er]∧zAG idx now cnt kb kl kr x.toEntA r has er idx' now' cnt' kb' kl' kr'∧Own w S [Res.row b 87 [.pointer (some ⟨tb,0,none⟩), .pointer (some ⟨cb,0,none⟩),Vn idx'],Res.row tb 183 [.map (some bm), .map (some lm),Vi now',Vn cnt'],Res.mp Value.string kS bm kb',Res.mp kK xW lm kl',Res.row cb 186 [.map (some rm)],Res.mp ekR kV rm kr'] h:=by
  have aq:=hx.data
  refine zO Tryz.func294 O Tryz.ntmps294 ak (zB (zj O O (fun b3=>zk (v:= .agg #[Vn 0,Vn 0,Vi 0,Vn 0,Vi 0,Vi 0]) qD O (fun b4=>zG O (zG O (zA (zK (zB (zC O (yF qD O O O (zA (yT O (zN (zK (zB (z1 (cs:=(EntD.cells x)) 6 O O O (zH O O (fun h a=>(zBO x h ‹_› (ab.at0 a)).mono ?_))))))))))))))))))
  rintro _ w1 ⟨ag,rfl,hO⟩
  refine(?_:CL _ _ _ _ _ _ (Own w S [_,_,_,_,_,_,_,_,_])) w1 (a.qb hO)
  refine zC O (zb (vs:=[ag,Vi (yB x.ok)]) O O O (zb (vs:=[ag,Vi (yB x.ok)]) O O O (zG O (zG O (zA (zB (zC O (yd O O O (zA (zT O (fun c2=> ?_) (fun c2=> ?_)))))))))))
  ·refine zB (yG (cs:=[Vn 0,Vn 0,Vi 0,Vn 0,Vi 0,Vi 0]) (z:=[Vn 0,Vn 0,Vi 0,Vn 0,Vi 0,Vi 0]) (pl:=[(0,1),(1,1),(2,1),(3,1),(4,1),(5,1)]) qD qD O (ze 7 O O O (z6 O) O (zG O (zG O (zA (zP (zIh (cs:=[Vn 0,Vn 0,Vi 0,Vn 0,Vi 0,Vi 0]) (v1:=zu) (v2:=Vi 2) O O O O qD (Own.qc (i:=7) O) (fun h a=>⟨({session:=0,seq:=0,e:=0,lease:=0,amount:=0,until_:=0}:RepD),false,2,idx,now,cnt,kb,kl,kr,O, .inl ⟨.inl ⟨zFO c2,O⟩,O,O,O,O,O,O,O,O⟩,a.sel [0,1,2,3,4,5] O V⟩))))))))
  refine zN (zK (yZ qD qD (zR O (zL (o:=0) O) (zR O (zZ 6 (v:=Vn x.index) O O O) (zR O za (zR O (zX O) (zR O (zL (o:=2) O) (zR O (zZ 0 (v:=Vn idx) O O O) (zR O (xL O O (yp qE)) (zR O (zF1 O O) (xP (zT O (fun c3=> ?_) (fun c3=> ?_)))))))))))))
  ·refine zB (yG (cs:=[Vn 0,Vn 0,Vi 0,Vn 0,Vi 0,Vi 0]) (z:=[Vn 0,Vn 0,Vi 0,Vn 0,Vi 0,Vi 0]) (pl:=[(0,1),(1,1),(2,1),(3,1),(4,1),(5,1)]) qD qD O (ze 7 O O O (z6 O) O (zG O (zG O (zA (zP (zIh (cs:=[Vn 0,Vn 0,Vi 0,Vn 0,Vi 0,Vi 0]) (v1:=zu) (v2:=Vi 12) O O O O qD (Own.qc (i:=7) O) (fun h a=>⟨({session:=0,seq:=0,e:=0,lease:=0,amount:=0,until_:=0}:RepD),false,12,idx,now,cnt,kb,kl,kr,O, .inl ⟨.inr ⟨zCK c2,by omega,O⟩,O,O,O,O,O,O,O,O⟩,a.sel [0,1,2,3,4,5] O V⟩))))))))
  have ac:x.ok∧x.index=idx+1:=⟨zCK c2,by omega⟩
  have ar:x.data.length≤4096:=ac.1.1.2.2.2
  refine zN (zK (zc [0,2,4,5,6,7,8] O V qD (fun h a hS=>zD 0 O za hS (zD 1 O (zX O) hS (zD 2 O (zL (o:=0) O) hS (zD 3 O (zZ 0 (v:= .pointer (some ⟨tb,0,none⟩)) O O O) hS (zD 4 O (zL (o:=3) O) hS (zD 5 O (zZ 4 (v:=Vi x.delta) O O O) hS (zM 6 O a (zH O O (fun h a=>(zOO tb bm lm now cnt kl x.delta h qF ‹_› hk ah qF (a.give [1,3] O V)).mono ?_)))))))))))
  rintro _ w1 ⟨an,ao,au,c,s,rfl,al,u,y,hO⟩
  refine fq [1,3] O a hO (zE [0,1,2,3,4,5,6] O V (fun h a hS=>zY ((?_:C _ _ _ _ _ _ _ (Own w S [_,_,_,_,_,_,_,_,_,_])) _ a)))
  refine zB (zC O (zI (o:=0) O O (zJ 4 (v:=Vn x.index) O O O O (zV O O (zI (o:=2) O O (zi 0 O O O O O (zA (zB (zI (o:=4) O O (zJ 4 (v:=x.dv) O O O O (zH O O (fun h a=>(zMu x.dv x.data h qF (a.rd0 ab.dv)).mono ?_))))))))))))
  rintro _ w1 ⟨ad,ae,a0,a1,j,m,n,a2,rfl,d,hO⟩
  have a5:=u
  have a6:=y
  refine(?_:CL _ _ _ _ _ _ (Own w S [_,_,_,_,_,_,_,_,_,_])) w1 (a.qb hO)
  refine zC O (zb (vs:=[.agg #[Vn ad,Vn ae,Vi a0, .string a1,Vi j,Vi m,Vn n],Vi a2]) O O O (zb (vs:=[.agg #[Vn ad,Vn ae,Vi a0, .string a1,Vi j,Vi m,Vn n],Vi a2]) O O O (zk (v:= .agg #[Vn 0,Vn 0,Vi 0,yh,Vi 0,Vi 0,Vn 0]) qD O (fun b9=>ze 10 O O O (z6 O) O (zG O (zA (zK (zB (zI (o:=2) O O (zJ 4 (v:=Vi x.kind) O O O O (yd O O O (zC O (yK (q:=x.kind≠2) 2 3 [56,55] (a2≠0) O O O O O O trivial O (fun a3=> ?_) (fun am=> ?_))))))))))))))
  ·refine zQ O (gF a3) (zC O (zQ O (gF a3) (yd O O O (z8 O (fun _ a=>a)))))
  refine zA (zT O (fun c4=> ?_) (fun c4=> ?_))
  ·refine zB (yG (cs:=[Vn 0,Vn 0,Vi 0,Vn 0,Vi 0,Vi 0]) (z:=[Vn 0,Vn 0,Vi 0,Vn 0,Vi 0,Vi 0]) (pl:=[(0,1),(1,1),(2,1),(3,1),(4,1),(5,1)]) qD qD O (ze 5 O O O (z6 O) O (zG O (zG O (zA (zP (zIh (cs:=[Vn 0,Vn 0,Vi 0,Vn 0,Vi 0,Vi 0]) (v1:=zu) (v2:=Vi 0) O O O O qD (Own.qc (i:=5) O) (fun h a=>⟨({session:=0,seq:=0,e:=0,lease:=0,amount:=0,until_:=0}:RepD),false,0,x.index,c,cnt,kb,s,kr,O, .inr ⟨ac,O,O,a5, .inl ⟨by rcases c4 with q|q;exact .inl q;exact .inr (d.none q),O,O,O,O,a6,O⟩⟩,a.sel [0,7,1,8,2,3] O V⟩))))))))
  refine zN (zB (zC O (z1 10 O O O (zH O O (fun h a=>(zOq b tb cb bm lm rm x.index c cnt kb s kr ({session:=ad,seq:=ae,op:=a0,key:=a1,amount:=j,span:=m,lease:=n}:CmdD) h (zJg (d.some (fun q=>c4 (.inr q)))) (by rw[a5];exact aj) qF (by rw[a6];exact af _) (by rw[a6];exact ai) (a.give [0,7,1,8,2,3] O V)).mono ?_)))))
  rintro _ w1 ⟨g,p,a4,a7,a8,a9,rfl,aa,hO⟩
  refine fq [0,7,1,8,2,3] O a hO (zC O (zb (vs:=[.agg (RepD.cells g).toArray, .bool p]) O O O (zb (vs:=[.agg (RepD.cells g).toArray, .bool p]) O O O (zk (v:= .agg #[Vn 0,Vn 0,Vi 0,Vn 0,Vi 0,Vi 0]) qD O (fun av=>ze 11 O O O (z6 O) O (zG O (zA (zB (z1 (cs:=(RepD.cells g)) 11 O O O (ze 1 O O O (z6 O) O (zG O (zG O (zA (zP (zIh (cs:=(RepD.cells g)) (v1:=xl) (v2:=Vi 0) O O O O qD (Own.qc (i:=1) O) (fun h a=>⟨g,true,0,x.index,c,a4,a7,a8,a9,O, .inr ⟨ac,O,O,a5, .inr ⟨Decidable.not_not.1 fun q=>c4 (.inl q),O,_,_,d.some (fun q=>c4 (.inr q)),by rw[←a5,←a6];exact aa⟩⟩,a.sel [5,6,7,8,9,10] O V⟩))))))))))))))))
end Go.Proofs.YtmpaljnacfidaaaGreatDoor
set_option linter.unusedVariables false
set_option linter.unusedSectionVars false
namespace Go.Sc
def zCJ(P:Program)(t:TypeId):Bool:=match P.underlying t with|some (.map _ _)=>true|_=>false
theorem zAR{P:Program}{t:TypeId}(h:zCJ P t=true):∃ k v,P.underlying t=some (.map k v):=by
  unfold zCJ at h
  split at h
  · rename_i k v hk;exact⟨k,v,hk⟩
  cases h
section
variable {κ α:Type} [DecidableEq κ] {P:Program} {kt vt t t':TypeId} {ke:κ→Value} {ve:α→Value}
variable {n:Nat} {ops:Array Oper} {N:K} {f:Nat→Value} {rest:List Oper} {d:Nat} {ty:TypeId} {p:String} {af:Array Edge} {x y z:Operand} {w0:World} {S:List Nat} {L:List Res} {A:World→Prop}
theorem zQq(d:Nat){k e:TypeId}(h:P.underlying t=some (.map k e))(m:Option Nat)(w:World):(Op.equalIn (d+1) t (.map m) (.map none)).run P w= .ok m.isNone w:=by
  cases m<;>simp[Op.equalIn,zp h]
theorem zQw{m:Option Nat}(a:zCJ P t=true)(b:ev f x= .map m)(c:ev f y= .map none):RV P f ⟨some d, .binOp .eql t x y t',ty,p,af,none⟩ A (.bool m.isNone):=fun w _=>by
  obtain⟨k,v,h⟩:=zAR a
  have e:(Op.equal t (.map m) (.map none)).run P w= .ok m.isNone w:=zQq 9999 h m w
  simp only[execOp,b,c,eqGuard]
  simp[binOp,e]
theorem zHb{m:Option Nat}(a:zCJ P t=true)(b:ev f x= .map m)(c:ev f y= .map none)(e:Nat.blt d n=true)(k:CL P n ops rest N (upd f d (.bool m.isNone)) A):CL P n ops (⟨some d, .binOp .eql t x y t',ty,p,af,none⟩::rest) N f A:=yI e (zQw a b c) k
theorem zGL{v:Value}(c:zCJ P t=true)(e:ev f x=v)(g:Nat.blt d n=true)(k:CL P n ops rest N (upd f d (.iface t v)) A):CL P n ops (⟨some d, .makeInterface t x,ty,p,af,none⟩::rest) N f A:=by
  obtain⟨a,b,h⟩:=zAR c
  exact yI g (fun w _=>by simp[execOp,e,Instr.makeInterface,zp h]) k
theorem zLr{v:Value}{xT:TypeId}(c:zCJ P t=true)(e:ev f x= .iface t v)(g:Nat.blt d n=true)(k:CL P n ops rest N (upd f d v) A):CL P n ops (⟨some d, .typeAssert x xT t false,ty,p,af,none⟩::rest) N f A:=by
  obtain⟨a,b,h⟩:=zAR c
  exact yI g (fun w _=>by simp[execOp,e,Instr.typeAssert,zp h]) k
set_option maxHeartbeats 1000000 in
theorem zKy (i : Nat) {b : Nat} {kv : List (κ × Value)} {g : FuncId} {fn : Func} {ts : Array TypeId} (l : P.funcs[g]? = some fn) (h : (fn.name == "runtime.NumGoroutine") = false) (hb : fn.body.isNone = true) (m : Extern.findNext fn = none) (q : Extern.find fn = some Extern.MapsClone.clone)
    (r : ev f x = .iface t (.map (some b))) (s : L[i]? = some (Res.map ke b kv)) (u : Nat.blt d n = true)
    (k : ∀ b', CL P n ops rest N (upd f d (.iface t (.map (some b')))) (Own w0 S (L ++ [Res.map ke b' kv]))) :
    CL P n ops (⟨some d, .call ⟨.value (.func g), #[x], ts⟩, ty, p, af, none⟩ :: rest) N f (Own w0 S L) := by
  intro w hw
  obtain ⟨es, c, h1, h2, v⟩ := hw.holds i _ s
  have y : Own w [] [Res.map ke w.heap.size kv] (w.alloc (.map es c)) :=
    Own.mk1 ⟨rfl, rfl, rfl, by simp, fun k z _ => heap_alloc_old w _ z⟩ ⟨es, c, heap_alloc_new w _, h2, v⟩ (fun b hb => by simp [Res.map] at hb; right; omega)
  refine xV (w' := w.alloc (.map es c)) ?_ u (k w.heap.size _ (hw.qb y))
  have j := run_callFunc_extern (P := P) l h hb m q #[.iface t (.map (some b))] w
  have h4 : (Extern.MapsClone.clone #[.iface t (.map (some b))]).run P w = .ok (.iface t (.map (some w.heap.size))) (w.alloc (.map es c)) := by
    have e : Extern.MapsClone.clone #[.iface t (.map (some b))] = (getObj b >>= fun o => match o with
      | .map entries c => (newObj (.map entries c) >>= fun n => pure (.iface t (.map (some n))))
      | _ => stuck "maps.clone: a map expected") := rfl
    rw [e]
    simp [xp (P := P) h1, newObj, Sem.run]
  rw [h4] at j
  simp [execOp, resolve, invoke, show ev f (.func g) = .func (.func g) #[] #[] from rfl, Deferred.ofValue, r, j]
theorem zB8 (i : Nat) {b : Nat} {kv : List (κ × α)} {g : FuncId} {fn : Func} {ts : Array TypeId} (c : P.funcs[g]? = some fn) (a : (fn.name == "runtime.NumGoroutine") = false) (hb : fn.body.isNone = true) (e : Extern.findNext fn = none) (h : Extern.find fn = some Extern.MapsClone.clone)
    (j : ev f x = .iface t (.map (some b))) (l : L[i]? = some (Res.mp ke ve b kv)) (m : Nat.blt d n = true)
    (k : ∀ b', CL P n ops rest N (upd f d (.iface t (.map (some b')))) (Own w0 S (L ++ [Res.mp ke ve b' kv]))) :
    CL P n ops (⟨some d, .call ⟨.value (.func g), #[x], ts⟩, ty, p, af, none⟩ :: rest) N f (Own w0 S L) := zKy i c a hb e h j l m k
end
end Go.Sc
set_option linter.unusedVariables false
set_option maxRecDepth 10000
namespace Go.Proofs.YtmpaljnacfidaaaGreatDoor
open Go Go.Sc Go.Proofs
theorem zIy{S:List Nat}(m:Nat)(kb:List (ByteArray×Int))(w:World)(a:Own w S [Res.mp Value.string kS m kb] w):Rets Tryz.prog 159 #[.map (some m)] w fun e b=>∃ (c:Nat),e= .map (some c)∧Own w S [Res.mp Value.string kS m kb,Res.mp Value.string kS c kb] b:=by
  refine zO Tryz.func159 O Tryz.ntmps159 a (zB (zG O (zA (zK (zB (zC O (zHb qD O O O (zA (yT O (zN (zB (zC O (zGL qD O O (zB8 0 (ke:=Value.string) (ve:=kS) (kv:=kb) Tryz.func282 qD qD qD qD O O O (fun d=>zLr qD O O (zG O (zA (zP (zn (v:= .map (some d)) O O (fun b g=>⟨d,O,g⟩))))))))))))))))))))
theorem zJZ{S:List Nat}(m:Nat)(kl:List (Nat×LeaD))(w:World)(a:Own w S [Res.mp kK xW m kl] w):Rets Tryz.prog 160 #[.map (some m)] w fun e b=>∃ (c:Nat),e= .map (some c)∧Own w S [Res.mp kK xW m kl,Res.mp kK xW c kl] b:=by
  refine zO Tryz.func160 O Tryz.ntmps160 a (zB (zG O (zA (zK (zB (zC O (zHb qD O O O (zA (yT O (zN (zB (zC O (zGL qD O O (zB8 0 (ke:=kK) (ve:=xW) (kv:=kl) Tryz.func282 qD qD qD qD O O O (fun d=>zLr qD O O (zG O (zA (zP (zn (v:= .map (some d)) O O (fun b g=>⟨d,O,g⟩))))))))))))))))))))
theorem zOQ{S:List Nat}(b bm lm:Nat)(now:Int)(cnt:Nat)(kb:List (ByteArray×Int))(kl:List (Nat×LeaD))(w:World)(k:Own w S [Res.row b 183 [.map (some bm), .map (some lm),Vi now,Vn cnt],Res.mp Value.string kS bm kb,Res.mp kK xW lm kl] w):Rets Tryz.prog 96 #[.pointer (some ⟨b,0,none⟩)] w fun n d=>∃ (m h i:Nat),n= .pointer (some ⟨m,0,none⟩)∧Own w S [Res.row b 183 [.map (some bm), .map (some lm),Vi now,Vn cnt],Res.mp Value.string kS bm kb,Res.mp kK xW lm kl,Res.row m 183 [.map (some h), .map (some i),Vi now,Vn cnt],Res.mp Value.string kS h kb,Res.mp kK xW i kl] d:=by
  refine zO Tryz.func96 O Tryz.ntmps96 k (zB (zG O (zA (zK (zB (zC O (yF qD O O O (zA (yT O (zN (zK (zc [0] O V qD (fun d c a=>zD 0 O za a (zD 1 O (zX O) a (zD 2 O (zL (o:=0) O) a (zD 3 O (zZ 0 (v:= .map (some bm)) O O O) a (zD 5 O za a (zD 6 O (zX O) a (zD 7 O (zL (o:=1) O) a (zD 8 O (zZ 0 (v:= .map (some lm)) O O O) a (zD 10 O za a (zD 11 O (zX O) a (zD 12 O (zL (o:=2) O) a (zD 13 O (zZ 0 (v:=Vi now) O O O) a (zD 14 O za a (zD 15 O (zX O) a (zD 16 O (zL (o:=3) O) a (zD 17 O (zZ 0 (v:=Vn cnt) O O O) a (zM 4 O c (zH O O (fun d c=>(zIy bm kb d (c.give [1] O V)).mono ?_)))))))))))))))))))))))))))))))
  rintro _ p ⟨e,rfl,l⟩
  refine fq [1] O c l (zE [0] O V (fun d c a=>zM 9 O c (zH O O (fun d c=>(zJZ lm kl d (c.give [1] O V)).mono ?_))))
  rintro _ p ⟨g,rfl,l⟩
  refine fq [1] O c l (zE [0] O V (fun d c a=>zD 18 O (xU (cs:=[.map (some e), .map (some g),Vi now,Vn cnt]) (z:=[.map none, .map none,Vi 0,Vn 0]) (pl:=[(0,1),(1,1),(2,1),(3,1)]) qD qD) a (zM 19 O c (zj O O (fun j=>zE [0] O V (fun d c a=>zD 20 O z7 a (zY ((?_:C _ _ _ _ _ _ _ (Own w S [_,_,_,_,_,_])) _ c))))))))
  exact zP (zn (v:= .pointer (some ⟨j,0,none⟩)) O O (fun d c=>⟨j,e,g,O,c.sel [0,1,3,5,2,4] O V⟩))
theorem zLl{S:List Nat}(m:Nat)(kl:List (Nat×RepD))(w:World)(a:Own w S [Res.mp ekR kV m kl] w):Rets Tryz.prog 161 #[.map (some m)] w fun e b=>∃ (c:Nat),e= .map (some c)∧Own w S [Res.mp ekR kV m kl,Res.mp ekR kV c kl] b:=by
  refine zO Tryz.func161 O Tryz.ntmps161 a (zB (zG O (zA (zK (zB (zC O (zHb qD O O O (zA (yT O (zN (zB (zC O (zGL qD O O (zB8 0 (ke:=ekR) (ve:=kV) (kv:=kl) Tryz.func282 qD qD qD qD O O O (fun d=>zLr qD O O (zG O (zA (zP (zn (v:= .map (some d)) O O (fun b g=>⟨d,O,g⟩))))))))))))))))))))
theorem zOA{S:List Nat}(b m:Nat)(kl:List (Nat×RepD))(w:World)(g:Own w S [Res.row b 186 [.map (some m)],Res.mp ekR kV m kl] w):Rets Tryz.prog 97 #[.pointer (some ⟨b,0,none⟩)] w fun j d=>∃ (h i:Nat),j= .pointer (some ⟨h,0,none⟩)∧Own w S [Res.row b 186 [.map (some m)],Res.mp ekR kV m kl,Res.row h 186 [.map (some i)],Res.mp ekR kV i kl] d:=by
  refine zO Tryz.func97 O Tryz.ntmps97 g (zB (zG O (zA (zK (zB (zC O (yF qD O O O (zA (yT O (zN (zB (zC O (zV O O (zI (o:=0) O O (zJ 0 (v:= .map (some m)) O O O O (zH O O (fun d e=>(zLl m kl d (e.give [1] O V)).mono ?_)))))))))))))))))
  rintro _ l ⟨a,rfl,k⟩
  refine fq [1] O e k (yG (cs:=[.map (some a)]) (z:=[.map none]) (pl:=[(0,1)]) qD qD O (zj O O (fun c=>zG O (zA (zP (zn (v:= .pointer (some ⟨c,0,none⟩)) O O (fun d e=>⟨c,a,O,e.sel [0,1,3,2] O V⟩)))))))
theorem zLT{S:List Nat}(b tb cb idx:Nat)(w:World)(a:Own w S [Res.row b 87 [.pointer (some ⟨tb,0,none⟩), .pointer (some ⟨cb,0,none⟩),Vn idx]] w):Rets Tryz.prog 24 #[.pointer (some ⟨b,0,none⟩)] w fun d c=>d=Vn idx∧Own w S [Res.row b 87 [.pointer (some ⟨tb,0,none⟩), .pointer (some ⟨cb,0,none⟩),Vn idx]] c:=by
  refine zO Tryz.func24 O Tryz.ntmps24 a (zB (zG O (zA (zK (zB (zC O (yF qD O O O (zA (yT O (zN (zB (zC O (zV O O (zI (o:=2) O O (zJ 0 (v:=Vn idx) O O O O (zG O (zA (zP (zn (v:=Vn idx) O O (fun c e=>⟨O,e⟩))))))))))))))))))))
theorem zMV{S:List Nat}(b tb cb rm idx:Nat)(kr:List (Nat×RepD))(s q:Nat)(w:World)(j:Own w S [Res.row b 87 [.pointer (some ⟨tb,0,none⟩), .pointer (some ⟨cb,0,none⟩),Vn idx],Res.row cb 186 [.map (some rm)],Res.mp ekR kV rm kr] w):Rets Tryz.prog 182 #[.pointer (some ⟨b,0,none⟩),Vn s,Vn q] w fun k g=>∃ (r:RepD) (e:Int) (f:Bool),k= .tuple #[.agg (RepD.cells r).toArray, .bool f]∧ym kr s q=(r,e)∧f=decide (e=0)∧Own w S [Res.row b 87 [.pointer (some ⟨tb,0,none⟩), .pointer (some ⟨cb,0,none⟩),Vn idx],Res.row cb 186 [.map (some rm)],Res.mp ekR kV rm kr] g:=by
  refine zO Tryz.func182 O Tryz.ntmps182 j (zB (zk (v:= .agg #[Vn 0,Vn 0,Vi 0,Vn 0,Vi 0,Vi 0]) qD O (fun m=>zG O (zA (zK (zB (zC O (yF qD O O O (zA (yT O (zN (zB (zC O (zV O O (zI (o:=1) O O (zJ 0 (v:= .pointer (some ⟨cb,0,none⟩)) O O O O (zC O (zC O (zH O O (fun g h=>(zCo cb rm kr s q g (h.give [1,2] O V)).mono ?_))))))))))))))))))))
  rintro _ n ⟨a,c,rfl,d,l⟩
  refine fq [1,2] O h l (zC O (zb (vs:=[.agg (RepD.cells a).toArray,Vi c]) O O O (zb (vs:=[.agg (RepD.cells a).toArray,Vi c]) O O O (zk (v:= .agg #[Vn 0,Vn 0,Vi 0,Vn 0,Vi 0,Vi 0]) qD O (fun p=>ze 4 O O O (z6 O) O (zG O (zA (zB (z1 (cs:=(RepD.cells a)) 4 O O O (zC O (yR O O O (ze 1 O O O (z6 O) O (zG O (zA (zP (yc (cs:=(RepD.cells a)) (v:= .bool (decide (c=0))) O O O qD (Own.qc (i:=1) O) (fun g h=>⟨a,c,decide (c=0),O,d,O,h.sel [0,2,3] O V⟩)))))))))))))))))
theorem zNK{S:List Nat}(b tb cb bm lm rm idx:Nat)(now:Int)(cnt:Nat)(kb:List (ByteArray×Int))(kl:List (Nat×LeaD))(kr:List (Nat×RepD))(w:World)(r:Own w S [Res.row b 87 [.pointer (some ⟨tb,0,none⟩), .pointer (some ⟨cb,0,none⟩),Vn idx],Res.row tb 183 [.map (some bm), .map (some lm),Vi now,Vn cnt],Res.mp Value.string kS bm kb,Res.mp kK xW lm kl,Res.row cb 186 [.map (some rm)],Res.mp ekR kV rm kr] w):Rets Tryz.prog 54 #[.pointer (some ⟨b,0,none⟩)] w fun x d=>∃ (u j k l m n:Nat),x= .pointer (some ⟨u,0,none⟩)∧Own w S [Res.row b 87 [.pointer (some ⟨tb,0,none⟩), .pointer (some ⟨cb,0,none⟩),Vn idx],Res.row tb 183 [.map (some bm), .map (some lm),Vi now,Vn cnt],Res.mp Value.string kS bm kb,Res.mp kK xW lm kl,Res.row cb 186 [.map (some rm)],Res.mp ekR kV rm kr,Res.row u 87 [.pointer (some ⟨j,0,none⟩), .pointer (some ⟨k,0,none⟩),Vn idx],Res.row j 183 [.map (some l), .map (some m),Vi now,Vn cnt],Res.mp Value.string kS l kb,Res.mp kK xW m kl,Res.row k 186 [.map (some n)],Res.mp ekR kV n kr] d:=by
  refine zO Tryz.func54 O Tryz.ntmps54 r (zB (zG O (zA (zK (zB (zC O (yF qD O O O (zA (yT O (zN (zK (zc [0] O V qD (fun d c a=>zD 0 O za a (zD 1 O (zX O) a (zD 2 O (zL (o:=0) O) a (zD 3 O (zZ 0 (v:= .pointer (some ⟨tb,0,none⟩)) O O O) a (zD 5 O za a (zD 6 O (zX O) a (zD 7 O (zL (o:=1) O) a (zD 8 O (zZ 0 (v:= .pointer (some ⟨cb,0,none⟩)) O O O) a (zD 10 O za a (zD 11 O (zX O) a (zD 12 O (zL (o:=2) O) a (zD 13 O (zZ 0 (v:=Vn idx) O O O) a (zM 4 O c (zH O O (fun d c=>((zOQ tb bm lm now cnt kb kl d (c.give [1,2,3] O V)).mono ?_))))))))))))))))))))))))))))
  rintro _ y ⟨e,h,i,rfl,s⟩
  refine fq [1,2,3] O c s (zE [0] O V (fun d c a=>zM 9 O c (zH O O (fun d c=>(zOA cb rm kr d (c.give [1,2] O V)).mono ?_))))
  rintro _ y ⟨g,p,rfl,s⟩
  refine fq [1,2] O c s (zE [0] O V (fun d c a=>zD 14 O (xU (cs:=[.pointer (some ⟨e,0,none⟩), .pointer (some ⟨g,0,none⟩),Vn idx]) (z:=[.pointer none, .pointer none,Vn 0]) (pl:=[(0,1),(1,1),(2,1)]) qD qD) a (zM 15 O c (zj O O (fun q=>zE [0] O V (fun d c a=>zD 16 O z7 a (zY ((?_:C _ _ _ _ _ _ _ (Own w S [_,_,_,_,_,_,_,_,_,_,_,_])) _ c))))))))
  exact zP (zn (v:= .pointer (some ⟨q,0,none⟩)) O O (fun d c=>⟨q,e,g,h,i,p,O,c.sel [0,1,2,3,7,8,11,4,5,6,9,10] O V⟩))
structure LgA where
  now:Int
  cnt:Nat
  kb:List (ByteArray×Int)
  kl:List (Nat×LeaD)
  kr:List (Nat×RepD)
structure LgD where
  tb:Nat
  cb:Nat
  bm:Nat
  lm:Nat
  rm:Nat
  idx:Nat
  a:LgA
def lgZ:LgA:=⟨0,0,[],[],[]⟩
def lgP(b:Nat)(s:LgD):List Res:=[Res.row b 87 [.pointer (some ⟨s.tb,0,none⟩), .pointer (some ⟨s.cb,0,none⟩),Vn s.idx],Res.row s.tb 183 [.map (some s.bm), .map (some s.lm),Vi s.a.now,Vn s.a.cnt],Res.mp Value.string kS s.bm s.a.kb,Res.mp kK xW s.lm s.a.kl,Res.row s.cb 186 [.map (some s.rm)],Res.mp ekR kV s.rm s.a.kr]
def Res.lg(b:Nat)(s:LgD):Res:=Res.star (lgP b s)
structure ApOk(a:LgA)(d:Int):Prop where
  dl:x3 d
  now:0≤a.now∧a.now≤2305843009213693952
  cnt:a.cnt≤1000000000
  nd:KNd a.kl
  len:a.kl.length≤128
  lent:∀ k,0≤yY k (yf a.now d a.kl)∧yY k (yf a.now d a.kl)≤9223372036854775807
  lea:∀ i l,zl i (yf a.now d a.kl)=some l→l.id<18446744073709551616∧x3 l.amount∧x3 l.until_
  pn:0≤yr a.now d∧yr a.now d≤2305843009213693952
  gone:(kw a.now d a.kl).length≤1
structure DoOk(a:LgA)(k:ByteArray):Prop where
  now:0≤a.now∧a.now≤2305843009213693952
  cnt:a.cnt≤1000000000
  lent:0≤yY k a.kl∧yY k a.kl≤9223372036854775807
  lea:∀ i l,zl i a.kl=some l→l.id<18446744073709551616∧x3 l.amount∧x3 l.until_
theorem zLE(w:World):Rets Tryz.prog 10 #[] w fun c d=>∃ (b:Nat) (s:LgD),c= .pointer (some ⟨b,0,none⟩)∧s.idx=0∧s.a=lgZ∧Own w [] [Res.lg b s] d:=by
  refine(zRa w).mono ?_
  rintro _ g ⟨b,tb,cb,bm,lm,rm,rfl,e⟩
  exact⟨b,⟨tb,cb,bm,lm,rm,0,lgZ⟩,O,O,O,(e.qf [0,1,2,3,4,5] O V).sel [0] O V⟩
theorem x4{S:List Nat}(b:Nat)(s:LgD)(x:EntD)(w:World)(q:x.wf)(c:ApOk s.a x.delta)(hi:s.idx<18446744073709551615)(m:Own w S [Res.lg b s] w)(g:EntD.rd x w S):Rets Tryz.prog 294 #[.pointer (some ⟨b,0,none⟩), .agg (EntD.cells x).toArray] w fun t u=>∃ (e:LgD) (r:RepD) (d:Bool) (l:Int),t= .tuple #[.agg (RepD.cells r).toArray, .bool d,Vi l]∧zAG s.idx s.a.now s.a.cnt s.a.kb s.a.kl s.a.kr x.toEntA r d l e.idx e.a.now e.a.cnt e.a.kb e.a.kl e.a.kr∧Own w S [Res.lg b e] u:=by
  refine(zKA b s.tb s.cb s.bm s.lm s.rm s.idx s.a.now s.a.cnt s.a.kb s.a.kl s.a.kr x w q c.dl c.now c.cnt hi c.nd c.len c.lent c.lea c.pn c.gone (m.qg 0 O) g).mono ?_
  rintro _ y ⟨r,d,l,i,j,k,n,o,p,rfl,h,v⟩
  exact⟨⟨s.tb,s.cb,s.bm,s.lm,s.rm,i,⟨j,k,n,o,p⟩⟩,r,d,l,O,h,(v.qf [0,1,2,3,4,5] O V).sel [0] O V⟩
theorem zST{S:List Nat}(b:Nat)(s:LgD)(c:CmdD)(w:World)(j:c.wf)(i:DoOk s.a c.key)(k:Own w S [Res.lg b s] w):Rets Tryz.prog 11 #[.pointer (some ⟨b,0,none⟩), .agg (CmdD.cells c).toArray] w fun o p=>∃ (e:LgD) (r:RepD) (d:Bool),o= .tuple #[.agg (RepD.cells r).toArray, .bool d]∧DoK s.a.now s.a.cnt s.a.kb s.a.kl s.a.kr c r d e.a.cnt e.a.kb e.a.kl e.a.kr∧e.a.now=s.a.now∧Own w S [Res.lg b e] p:=by
  refine(zOq b s.tb s.cb s.bm s.lm s.rm s.idx s.a.now s.a.cnt s.a.kb s.a.kl s.a.kr c w j i.now i.cnt i.lent i.lea (k.qg 0 O)).mono ?_
  rintro _ t ⟨r,d,g,l,m,n,rfl,h,q⟩
  exact⟨⟨s.tb,s.cb,s.bm,s.lm,s.rm,s.idx,⟨s.a.now,g,l,m,n⟩⟩,r,d,O,h,O,(q.qf [0,1,2,3,4,5] O V).sel [0] O V⟩
theorem zIa{S:List Nat}(b:Nat)(s:LgD)(c q:Nat)(w:World)(d:Own w S [Res.lg b s] w):Rets Tryz.prog 182 #[.pointer (some ⟨b,0,none⟩),Vn c,Vn q] w fun g i=>∃ (r:RepD) (e:Int) (f:Bool),g= .tuple #[.agg (RepD.cells r).toArray, .bool f]∧ym s.a.kr c q=(r,e)∧f=decide (e=0)∧Own w S [Res.lg b s] i:=by
  have h1:=(d.qg 0 rfl).sel [0,4,5,1,2,3] rfl V
  refine(zMV b s.tb s.cb s.rm s.idx s.a.kr c q w (h1.give [0,1,2] O V)).mono ?_
  rintro _ k ⟨r,e,f,rfl,h,h2,j⟩
  exact⟨r,e,f,O,h,h2,(((h1.qi [0,1,2] O j).sel [3,0,1,2,4,5] O V).qf [0,1,2,3,4,5] O V).sel [0] O V⟩
theorem jh{S:List Nat}(b:Nat)(s:LgD)(w:World)(a:Own w S [Res.lg b s] w):Rets Tryz.prog 24 #[.pointer (some ⟨b,0,none⟩)] w fun c d=>c=Vn s.idx∧Own w S [Res.lg b s] d:=by
  have h1:=a.qg 0 rfl
  refine(zLT b s.tb s.cb s.idx w (h1.give [0] O V)).mono ?_
  rintro _ g ⟨rfl,e⟩
  exact⟨O,(((h1.qi [0] O e).sel [5,0,1,2,3,4] O V).qf [0,1,2,3,4,5] O V).sel [0] O V⟩
theorem zHm{S:List Nat}(b:Nat)(s:LgD)(w:World)(d:Own w S [Res.lg b s] w):Rets Tryz.prog 54 #[.pointer (some ⟨b,0,none⟩)] w fun k l=>∃ (c:Nat) (j:LgD),k= .pointer (some ⟨c,0,none⟩)∧j.idx=s.idx∧Own w S [Res.lg b s,Res.lg c j] l:=by
  refine(zNK b s.tb s.cb s.bm s.lm s.rm s.idx s.a.now s.a.cnt s.a.kb s.a.kl s.a.kr w (d.qg 0 O)).mono ?_
  rintro _ n ⟨c,tb2,e,g,h,i,rfl,m⟩
  exact⟨c,⟨tb2,e,g,h,i,s.idx,s.a⟩,O,O,((m.qf [0,1,2,3,4,5] O V).qf [0,1,2,3,4,5] O V).sel [0,1] O V⟩
end Go.Proofs.YtmpaljnacfidaaaGreatDoor
