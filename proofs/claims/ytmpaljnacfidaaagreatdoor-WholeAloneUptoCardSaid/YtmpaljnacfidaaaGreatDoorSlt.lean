import Derived.Test.YtmpaljnacfidaaaGreatDoorDsk
import Derived.Test.YtmpaljnacfidaaaGreatDoorFwJS
import Derived.Test.YtmpaljnacfidaaaGreatDoorIn
import Derived.Test.YtmpaljnacfidaaaGreatDoorFw3
import Derived.Test.YtmpaljnacfidaaaGreatDoorFwN
set_option linter.unusedSectionVars false
set_option linter.unusedSimpArgs false
set_option linter.unusedVariables false
set_option maxRecDepth 10000
namespace Go.Proofs.YtmpaljnacfidaaaGreatDoor
open Go Go.Sc Go.Proofs
theorem zQb{S:List Nat}(v:Value)(l:List ByteArray)(n:Nat)(w:World)(i:n≤1)(a:Own w S [Res.vec 9 1 v l.length (l.flatMap S1)] w):Rets Tryz.prog 541 #[v,Vj 0,Vj n] w fun e b=>e= .tuple #[]∧Own w S [Res.vec 9 1 v l.length (l.flatMap S1)] b:=by
  refine zO Tryz.func541 O Tryz.ntmps541 a (zB (zC O (zr O O (zt qE) O (zG O (zA (zU (yP (fun(k:Nat)=>[(0,v),(1,Vj 0),(2,Vj n),(6,Vj k)]) (fun(k:Nat)=>k=1) (fun(k:Nat)=>[Res.vec 9 1 v l.length (l.flatMap S1)]) (fun(k:Nat)=>0) (fun b c=>⟨1,⟨O,O,O,O,trivial⟩,O,c⟩) (fun k g h=> ?_))))))))
  have j:=h
  refine zK (zB (zC O (zC O (zy O O O (zA (zT O (fun d=> ?_) (fun d=> ?_)))))))
  ·exact absurd d qE
  exact xz O (yl O (fun b c=>⟨O,c⟩))
theorem zPW{S:List Nat}(v:Value)(l:List ByteArray)(n:Nat)(b:Int)(w:World)(m:n≤1)(e:Own w S [Res.vec 9 1 v l.length (l.flatMap S1)] w):Rets Tryz.prog 492 #[v,Vj 0,Vj n,Vi b] w fun i d=>i= .tuple #[]∧Own w S [Res.vec 9 1 v l.length (l.flatMap S1)] d:=by
  refine zO Tryz.func492 O Tryz.ntmps492 e (zB (zG O (zA (zB (zG O (zA (zU (yP (fun(k:Nat)=>[(0,v),(1,Vj 0),(2,Vj n),(3,Vi b),(8,xl),(9,xl)]) (fun(k:Nat)=>k=1) (fun(k:Nat)=>[Res.vec 9 1 v l.length (l.flatMap S1)]) (fun(k:Nat)=>0) (fun d a=>⟨1,⟨O,O,O,O,O,O,trivial⟩,O,a⟩) (fun k g o=>(zU (zB (zC O (zC O (y5 (c:=((n:Nat):Int)) O O (zt qE) O (zG O (zA (zK (zB (zC O (yq O O O (zA (zT O (fun h=> ?_) (fun h=> ?_)))))))))))))))))))))))
  ·refine zB (zC O (zC O (zC O (zH O O (fun d a=>(zQb v l n d qF (a.give [0] O V)).mono ?_)))))
   rintro _ p ⟨rfl,j⟩
   refine fq [0] O a j (zA (zP (yl O (fun d a=>⟨O,a⟩))))
  exact absurd h qE
theorem zMe{S:List Nat}(v:Value)(l:List ByteArray)(w:World)(hl:l.length≤1)(c:Own w S [Res.vec 9 1 v l.length (l.flatMap S1)] w):Rets Tryz.prog 398 #[v] w fun g a=>g= .tuple #[]∧Own w S [Res.vec 9 1 v l.length (l.flatMap S1)] a:=by
  refine zO Tryz.func398 O Tryz.ntmps398 c (zB (zC O (zo (pV 0 O) O O (zG O (zA (zd (zC O (zC O (zC O (ya qD O (yp qE) O ?_ qD))))))))))
  refine zH O O (fun a b=>(zIA l.length a qF).mono ?_)
  rintro _ e ⟨rfl,d⟩
  refine(?_:CL _ _ _ _ _ _ (Own w S [_])) e (b.qb d)
  refine zH O O (fun a b=>(zPW v l l.length (((yJ l.length):Nat):Int) a qF (b.give [0] O V)).mono ?_)
  rintro _ e ⟨rfl,d⟩
  refine fq [0] O b d (zw (yl O (fun a b=>⟨O,b⟩)))
theorem zGf{κ α β:Type}{g:κ×α→β}{kl todo q1 q2:List (κ×α)}{xs:List β}{p:κ×α}(h:(xs++todo.map g).Perm (kl.map g))(b:todo=q1++p::q2):((xs++[g p])++(q1++q2).map g).Perm (kl.map g):=by
  refine List.Perm.trans ?_ h
  rw[b,List.append_assoc]
  refine List.Perm.append_left _ ?_
  rw[List.map_append,List.map_append,List.map_cons]
  exact(List.perm_middle (l₁:=q1.map g) (l₂:=q2.map g) (a:=g p)).symm
theorem zKs{κ α β:Type}{g:κ×α→β}{kl todo q1 q2:List (κ×α)}{xs:List β}{p:κ×α}(h:(xs++todo.map g).Perm (kl.map g))(a:todo=q1++p::q2):xs.length<kl.length:=by
  have:=h.length_eq
  rw[a]at this
  simp at this;omega
theorem zLI(sb m:Nat)(kf:List (ByteArray×FilD)):zHZ Tryz.prog 399 [pt sb] (fun x:ByteArray=>Value.string x) (fun c=>c.Perm (kf.map (·.1))) kf.length [Res.row sb 204 [.map (some m)],Res.mp Value.string FilD.val m kf]:=by
  intro ly J L0 w Y hJ hin
  refine xq (args:=[.func (.yield ly) #[] #[],pt sb]) Tryz.func399 O Tryz.ntmps399 O (show Own w (xH ([Res.row sb 204 [.map (some m)],Res.mp Value.string FilD.val m kf]++L0)) (Res.row sb 204 [.map (some m)]::Res.mp Value.string FilD.val m kf::L0) w from hin) (zB (zJ 0 (v:= .map (some m)) O O O O (ji 1 zFx O O O (fun l=>zA (zU (xt (fun(a:List (ByteArray×FilD)) (c:List ByteArray) (Lr:List Res)=>[(0, .func (.yield ly) #[] #[]),(5,pt l)]) (fun(a:List (ByteArray×FilD)) (c:List ByteArray) (Lr:List Res)=>(c++a.map (·.1)).Perm (kf.map (·.1))∧J c Lr) (fun(a:List (ByteArray×FilD)) (c:List ByteArray) (Lr:List Res)=>(Res.row sb 204 [.map (some m)]::Res.rg Value.string FilD.val m l kf a::Lr)) (fun(a:List (ByteArray×FilD)) (c:List ByteArray) (Lr:List Res)=>a.length) (fun o i=>⟨kf,[],L0,⟨O,O,trivial⟩,⟨.refl _,hJ⟩,i⟩) (fun a c Lr g p=> ?_)))))))
  have d:=p.1
  have j:=p.2
  refine zB (zAl 1 O O O (fun n=> ?_) (fun q1 k v q h=> ?_))
  ·refine zb (vs:=[zu]) O O O (zA (zK (yT O (xz O (yl O (fun o i=>⟨c,Lr,(by rw[n]at d;simpa using d),j,(Own.rgEnd 1 i O)⟩))))))
  refine zb (vs:=[xl, .string k,v.v]) O O O (zA (zK (x2 O (zN (zU (zB (jo 1 O O O (zb (vs:=[.string k,v.v]) O O O (zG O (zA (zCm (xx O za (xx O za (zEc [Res.row sb 204 [.map (some m)],Res.rg Value.string FilD.val m l kf (q1++q)] k Y O O j (zKs d h) O (fun Ly1_ e=>(xx O (zD6 (b:=true) O) (zIV (yT O (xy (fun o i=>⟨q1++q,c++[k],Ly1_,⟨O,O,trivial⟩,⟨zGf d h,e⟩,i,(by rw[h,List.length_append,List.length_append,List.length_cons];omega)⟩))))))))))))))))))))
theorem zNQ{S:List Nat}(m:Nat)(kf:List (ByteArray×FilD))(w:World)(a:Own w S [Res.mp Value.string FilD.val m kf] w):Rets Tryz.prog 257 #[.map (some m)] w fun e d=>∃ (b:Nat),e= .func (.func 399) #[] #[pt b]∧Own w S [Res.mp Value.string FilD.val m kf,Res.row b 204 [.map (some m)]] d:=by
  refine zO Tryz.func257 O Tryz.ntmps257 a (zB (zj O O (fun c=>zG O (zA (zB (zAX (va:=[]) (vb:=[pt c]) O O O (zG O (zA (zP (zn (v:= .func (.func 399) #[] #[pt c]) O O (fun d g=>⟨c,O,g⟩)))))))))))
theorem zKt{Sx:List ByteArray→Prop}{N:Nat}{Ls:List Res}(s:FuncId)(lb:List Value)(j:x8 Tryz.prog s=true)(m:zHZ Tryz.prog s lb (fun x=> .string x) Sx N Ls)(hN:N≤1000000000)(w:World)(u:Own w (xH Ls) Ls w):Rets Tryz.prog 491 #[zW, .func (.func s) #[] lb.toArray] w fun u_ c=>∃ (v:Value) (n:List ByteArray),u_=v∧Sx n∧Own w (xH Ls) (Ls++[Res.vec 9 1 v n.length (n.flatMap S1)]) c:=by
  refine zCG (args:=[zW, .func (.func s) #[] lb.toArray]) Tryz.func491 O Tryz.ntmps491 O O O (show Own w (xH Ls) Ls w from u) (zj O O (fun b=>(zG O (zw (fun w1 d=>((?_:CL _ _ _ _ _ _ (Own w (xH Ls) (Ls++[Res.row b 287 [zW]]))) w1 d))))))
  refine zC O (zw (fun w2 d=> ?_))
  have o:=zq d 9 1
  rw[List.append_assoc]at o
  refine zEo (enc:=(fun x=> .string x)) (p:=7) (q:=5) (Ju:=fun h L=>∃ v,L=[Res.row b 287 [v],Res.vec 9 1 v h.length (h.flatMap S1)]) O j m ⟨.slice none 0 0,O⟩ o O O O ?_ ?_ ?_
  · intro x w
    exact(zG O (zw (fun c k=>⟨O,k⟩)):CL _ _ _ _ _ _ (fun c=>c=w)) w O
  · rintro h x L w ⟨v,rfl⟩ a0
    refine zJ 0 (v:=v) O O O O (zC O (yC (e:=9) (sz:=1) (vs:=[.string x]) qD O O qJ V O (fun a1=>(yE (g:=S1) (sz:=1) (by':=16) (fun _=>O) (l:=h) (l':=[x]) (by simp[cell1,S1]) 1 qD O O O (fun c k=>Vec.sl (Own.holds k 2 _ O)) qF V O (fun a2=>(zS (fun c d=>Own.qa (i:=1) O d) (fun r=>(zi (cs:=[v]) 0 O O O r O (zw (fun c d=>⟨_,⟨_,O⟩,d.sel [0,1] O V⟩))))))))))
  rintro n L' D c hS ⟨v,rfl⟩ hO a ha
  have y:=hO.perm (List.Perm.cons _ (List.perm_append_comm))
  refine zGg (v:=v) O ?_ y (fun a3 z=>⟨v,n,O,hS,?_⟩) a ha
  · exact xx rfl (zH2 1 (v:=v) rfl rfl rfl qD) (xx rfl z7 (zJ5 (fun c d=>⟨rfl,d⟩)))
  exact(Own.tail z).perm (List.perm_append_comm (l₁:=[_]))
theorem zHh{S:List Nat}(b m:Nat)(kf:List (ByteArray×FilD))(w:World)(hl:kf.length≤1000000000)(h:Own w S [Res.row b 204 [.map (some m)],Res.mp Value.string FilD.val m kf] w):Rets Tryz.prog 397 #[.func (.func 399) #[] #[pt b]] w fun k e=>∃ (j:Value) (i:List ByteArray),k=j∧i.Perm (kf.map (·.1))∧Own w S [Res.row b 204 [.map (some m)],Res.mp Value.string FilD.val m kf,Res.vec 9 1 j i.length (i.flatMap S1)] e:=by
  refine zO Tryz.func397 O Tryz.ntmps397 h (zB (zG O (zA (zB (zC O (zH O O (fun e g=>(zKt 399 [pt b] qD (zLI b m kf) qE e (g.give [0,1] O V)).mono ?_)))))))
  rintro c n ⟨_,d,rfl,a,l⟩
  refine fq [0,1] O g l (zG O (zA (zP (zn (v:=c) O O (fun e g=>⟨c,d,O,a,g⟩)))))
theorem zJP{S:List Nat}(b m:Nat)(kf:List (ByteArray×FilD))(w:World)(hl:kf.length≤1)(h:Own w S [Res.row b 204 [.map (some m)],Res.mp Value.string FilD.val m kf] w):Rets Tryz.prog 256 #[.func (.func 399) #[] #[pt b]] w fun l g=>∃ (k:Value) (i:List ByteArray),l=k∧i.Perm (kf.map (·.1))∧Own w S [Res.row b 204 [.map (some m)],Res.mp Value.string FilD.val m kf,Res.vec 9 1 k i.length (i.flatMap S1)] g:=by
  refine zO Tryz.func256 O Tryz.ntmps256 h (zB (zG O (zA (zB (zC O (zH O O (fun g e=>(zHh b m kf g qF (e.give [0,1] O V)).mono ?_)))))))
  rintro a n ⟨_,c,rfl,d,j⟩
  have o:c.length≤1:=by rw[d.length_eq,List.length_map];exact hl
  refine fq [0,1] O e j (zG O (zA (zB (zC O (zH O O (fun g e=>(zMe a c g qF (e.give [2] O V)).mono ?_))))))
  rintro _ n ⟨rfl,j⟩
  refine fq [2] O e j (zA (zB (zC O (zG O (zA (zP (zn (v:=a) O O (fun g e=>⟨a,c,O,d,e⟩))))))))
theorem zLu{S:List Nat}(db:Nat)(D:DskD)(kf:List (ByteArray×FilD))(w:World)(p:DskOk D)(hl:kf.length≤1)(h:Own w S [zAq db D,Res.mp Value.string FilD.val D.fm kf,Res.star ((kf.map Prod.snd).map FilD.dres),vW D.uv D.us] w):Rets Tryz.prog 146 #[pt db] w fun n b=>∃ (k:Value) (i:List ByteArray),n=k∧i.Perm (kf.map (·.1))∧Own w S [zAq db D,Res.mp Value.string FilD.val D.fm kf,Res.star ((kf.map Prod.snd).map FilD.dres),vW D.uv D.us,Res.vec 9 1 k i.length (i.flatMap S1)] b:=by
  refine zO Tryz.func146 O Tryz.ntmps146 h (zB (zG O (zA (zK (zB (zC O (zH O O (fun b a=>(zDE db D kf b ‹_› (a.give [0,1,2,3] O V)).mono ?_))))))))
  rintro _ l ⟨rfl,e⟩
  refine fq [0,1,2,3] O a e (yd O O O (zA (zT O (fun m=> ?_) (fun m=> ?_))))
  ·exact absurd O m
  refine zN (zB (zC O (zV O O (zI (o:=0) O O (zJ 0 (v:= .map (some D.fm)) O O O O (zH O O (fun b a=>(zNQ D.fm kf b (a.give [1] O V)).mono ?_)))))))
  rintro _ l ⟨j,rfl,e⟩
  refine fq [1] O a e (zH O O (fun b a=>(zJP j D.fm kf b qF (a.give [4,3] O V)).mono ?_))
  rintro c l ⟨_,g,rfl,d,e⟩
  refine fq [4,3] O a e (zG O (zA (zP (zn (v:=c) O O (fun b a=>⟨c,g,O,d,a.sel [0,4,1,2,5] O V⟩)))))
theorem zDh(db:Nat)(D:DskD)(kf:List (ByteArray×FilD))(w:World)(d:DskCl D)(hl:kf.length≤1)(b:Own w (xH [Res.dk db D kf]) [Res.dk db D kf] w):Rets Tryz.prog 146 #[pt db] w fun e g=>∃ (c:Value) (a:List ByteArray),e=c∧a.Perm (kf.map (·.1))∧Own w (xH [Res.dk db D kf]) [Res.dk db D kf,Res.vec 9 1 c a.length (a.flatMap S1)] g:=by
  refine(zLu db D kf w d.ok hl (b.qg 0 O)).mono ?_
  rintro _ i ⟨c,a,rfl,h1,h⟩
  exact⟨_,a,O,h1,(h.qf [0,1,2,3] O V).sel [1,0] O V⟩
def dig1:ByteArray:=⟨#[48,49,50,51,52,53,54,55,56,57,97,98,99,100,101,102,103,104,105,106,107,108,109,110,111,112,113,114,115,116,117,118,119,120,121,122]⟩
def dig2:ByteArray:=⟨#[48,48,48,49,48,50,48,51,48,52,48,53,48,54,48,55,48,56,48,57,49,48,49,49,49,50,49,51,49,52,49,53,49,54,49,55,49,56,49,57,50,48,50,49,50,50,50,51,50,52,50,53,50,54,50,55,50,56,50,57,51,48,51,49,51,50,51,51,51,52,51,53,51,54,51,55,51,56,51,57,52,48,52,49,52,50,52,51,52,52,52,53,52,54,52,55,52,56,52,57,53,48,53,49,53,50,53,51,53,52,53,53,53,54,53,55,53,56,53,57,54,48,54,49,54,50,54,51,54,52,54,53,54,54,54,55,54,56,54,57,55,48,55,49,55,50,55,51,55,52,55,53,55,54,55,55,55,56,55,57,56,48,56,49,56,50,56,51,56,52,56,53,56,54,56,55,56,56,56,57,57,48,57,49,57,50,57,51,57,52,57,53,57,54,57,55,57,56,57,57]⟩
def zEd(s:ByteArray):Bool:=Nat.ble s.size 2&&s.data.toList.all (nameSet.contains ·)
theorem zD4{s:ByteArray}(h:zEd s=true):s.size≤2∧∀ c∈s.data.toList,c∈nameSet:=by
  unfold zEd at h
  rw[Bool.and_eq_true]at h
  exact⟨Nat.le_of_ble_eq_true h.1,fun c a=>by simpa using List.all_eq_true.1 h.2 c a⟩
theorem zJx:(List.range 10).all (fun n=>zEd (dig1.extract n (n+1)))=true:=by kernel_rfl
theorem zLe:(List.range 100).all (fun n=>zEd (dig2.extract (n*2) (n*2+2)))=true:=by kernel_rfl
theorem zNU{n:Nat}(h:n<10):(dig1.extract n (n+1)).size≤2∧∀ c∈(dig1.extract n (n+1)).data.toList,c∈nameSet:=zD4 (List.all_eq_true.1 zJx n (List.mem_range.2 h))
theorem zOo{n:Nat}(h:n<100):(dig2.extract (n*2) (n*2+2)).size≤2∧∀ c∈(dig2.extract (n*2) (n*2+2)).data.toList,c∈nameSet:=zD4 (List.all_eq_true.1 zLe n (List.mem_range.2 h))
theorem zOn(n:Nat)(w:World)(d:n<100):Rets Tryz.prog 531 #[Vj n] w fun e a=>∃ (s:ByteArray),e= .string s∧(s.size≤2∧∀ c∈s.data.toList,c∈nameSet)∧Own w [] [] a:=by
  refine zO Tryz.func531 O Tryz.ntmps531 (Own.start w) (zB (zG O (zA (zK (zB (zC O (zy O O O (zA (zT O (fun g=> ?_) (fun g=> ?_))))))))))
  ·refine zB (zC O (zC O (zr O O (zt qE) O (zKF (i:=n) (j:=n+1) qD O O O qE (by show n+1≤36;omega) O (zG O (zA (zP (zn (v:= .string ((⟨#[48,49,50,51,52,53,54,55,56,57,97,98,99,100,101,102,103,104,105,106,107,108,109,110,111,112,113,114,115,116,117,118,119,120,121,122]⟩:ByteArray).extract n (n+1))) O O (fun a b=>⟨dig1.extract n (n+1),O,zNU qE,b.drop⟩)))))))))
  refine zN (zB (zC O (zAD O O (zt qE) O (zC O (zAD O O (zt qE) O (zr O O (zt qE) O (zKF (i:=n*2) (j:=(n*2)+2) qD O O O qE (by show n*2+2≤200;omega) O (zG O (zA (zP (zn (v:= .string ((⟨#[48,48,48,49,48,50,48,51,48,52,48,53,48,54,48,55,48,56,48,57,49,48,49,49,49,50,49,51,49,52,49,53,49,54,49,55,49,56,49,57,50,48,50,49,50,50,50,51,50,52,50,53,50,54,50,55,50,56,50,57,51,48,51,49,51,50,51,51,51,52,51,53,51,54,51,55,51,56,51,57,52,48,52,49,52,50,52,51,52,52,52,53,52,54,52,55,52,56,52,57,53,48,53,49,53,50,53,51,53,52,53,53,53,54,53,55,53,56,53,57,54,48,54,49,54,50,54,51,54,52,54,53,54,54,54,55,54,56,54,57,55,48,55,49,55,50,55,51,55,52,55,53,55,54,55,55,55,56,55,57,56,48,56,49,56,50,56,51,56,52,56,53,56,54,56,55,56,56,56,57,57,48,57,49,57,50,57,51,57,52,57,53,57,54,57,55,57,56,57,57]⟩:ByteArray).extract (n*2) ((n*2)+2))) O O (fun a b=>⟨dig2.extract (n*2) (n*2+2),O,zOo d,b.drop⟩))))))))))))
theorem zJS(n:Nat)(w:World)(l:n<100):Rets Tryz.prog 481 #[Vn n,Vi 10] w fun i d=>∃ (s:ByteArray),i= .string s∧(s.size≤2∧∀ c∈s.data.toList,c∈nameSet)∧Own w [] [] d:=by
  refine zO Tryz.func481 O Tryz.ntmps481 (Own.start w) (zB (zG O (zA (zK (zB (zC O (yR O O O (zA (zT O (fun g=> ?_) (fun g=> ?_))))))))))
  ·refine zK (zB (zC O (zy O O O (zA (zT O (fun h=> ?_) (fun h=> ?_))))))
   ·refine zB (zC O (ya qD O (zt qE) O ?_ qD))
    refine zH O O (fun d e=>(zOn n d qF).mono ?_)
    rintro _ j ⟨b,rfl,a,k⟩
    refine(?_:CL _ _ _ _ _ _ (Own w [] [])) j (e.qb k)
    refine zG O (zA (zP (zn (v:= .string b) O O (fun d e=>⟨b,O,a,e.drop⟩))))
   exact absurd h qE
  exact absurd O g
theorem j7(n:Nat)(w:World)(j:n<100):Rets Tryz.prog 386 #[Vn n,Vi 10] w fun g d=>∃ (s:ByteArray),g= .string s∧(s.size≤2∧∀ c∈s.data.toList,c∈nameSet)∧Own w [] [] d:=by
  refine zO Tryz.func386 O Tryz.ntmps386 (Own.start w) (zB (zG O (zA (zB (zC O (zC O (zH O O (fun d e=>(zJS n d qF).mono ?_))))))))
  rintro _ h ⟨b,rfl,a,i⟩
  refine(?_:CL _ _ _ _ _ _ (Own w [] [])) h (e.qb i)
  refine zG O (zA (zP (zn (v:= .string b) O O (fun d e=>⟨b,O,a,e.drop⟩))))
theorem zL0(x:Int)(w:World):Rets Tryz.prog 513 #[.int .u32 x] w fun g b=>∃ (r:Value) (bs:List UInt8),g=r∧bs.length=4∧Own w [] [vY r bs] b:=by
  refine zO Tryz.func513 O Tryz.ntmps513 (Own.start w) (zB (zG O (zA (zB (zC O (zBf O O qS O O (ya (c:=IntKind.u8.wrap (zBh .u32 x ((24:Nat):Int))) qD O O O ?_ qD)))))))
  refine zC O (zBf O O qS O O (ya (c:=IntKind.u8.wrap (zBh .u32 x ((16:Nat):Int))) qD O O O ?_ qD))
  refine zC O (zBf O O qS O O (ya (c:=IntKind.u8.wrap (zBh .u32 x ((8:Nat):Int))) qD O O O ?_ qD))
  refine zC O (ya (c:=IntKind.u8.wrap x) qD O O O ?_ qD)
  refine yC (e:=5) (sz:=1) (vs:=[.int .u8 (IntKind.u8.wrap (zBh .u32 x ((24:Nat):Int))), .int .u8 (IntKind.u8.wrap (zBh .u32 x ((16:Nat):Int))), .int .u8 (IntKind.u8.wrap (zBh .u32 x ((8:Nat):Int))), .int .u8 (IntKind.u8.wrap x)]) qD O O qJ V O (fun a=>(x5 [vY (.slice (some ⟨a,0,none⟩) 4 4) ([UInt8.ofNat ((IntKind.u8.wrap (zBh .u32 x ((24:Nat):Int))).toNat),UInt8.ofNat ((IntKind.u8.wrap (zBh .u32 x ((16:Nat):Int))).toNat),UInt8.ofNat ((IntKind.u8.wrap (zBh .u32 x ((8:Nat):Int))).toNat),UInt8.ofNat ((IntKind.u8.wrap x).toNat)]:List UInt8)] (fun b d=>by unfold vY;rw[zTU];exact d) (zG O (zA (zP (zn (v:=(.slice (some ⟨a,0,none⟩) 4 4)) O O (fun b d=>⟨(.slice (some ⟨a,0,none⟩) 4 4),([UInt8.ofNat ((IntKind.u8.wrap (zBh .u32 x ((24:Nat):Int))).toNat),UInt8.ofNat ((IntKind.u8.wrap (zBh .u32 x ((16:Nat):Int))).toNat),UInt8.ofNat ((IntKind.u8.wrap (zBh .u32 x ((8:Nat):Int))).toNat),UInt8.ofNat ((IntKind.u8.wrap x).toNat)]:List UInt8),O,O,d⟩)))))))
theorem zKd{S:List Nat}(sb:Nat)(n:Int)(v:Value)(l:List UInt8)(w:World)(hl:l.length≤1000000)(h:Own w S [Res.row sb 633 [.int .u32 n]] w)(hv:Rd w S (Res.sl v l.length (l.map vb))):Rets Tryz.prog 480 #[pt sb,v] w fun i d=>∃ (p:Int),i= .tuple #[]∧Own w S [Res.row sb 633 [.int .u32 p]] d:=by
  refine zO Tryz.func480 O Tryz.ntmps480 h (zB (zC O (zo (pR hv) O O (zC O (zA (zU (xI (fun(k:Nat) (m:Int)=>[(0,pt sb),(6,v),(7,Vj l.length),(8,Vj k)]) (fun(k:Nat) (m:Int)=>k≤l.length) (fun(k:Nat) (m:Int)=>[Res.row sb 633 [.int .u32 m]]) (fun(k:Nat) (m:Int)=>l.length - k) (fun d b=>⟨0,n,⟨O,O,O,O,trivial⟩,Nat.zero_le _,b⟩) (fun k m g q=>(zB (zy O O O (zA (zK (zT O (fun r=> ?_) (fun r=> ?_))))))))))))))
  ·refine zN (zK (zU (zB (yH (pR hv) 1 k O O O qE O (zCD (pR hv) k O qE qE O (zG O (zA (zB (zC O (zV O O (zI (o:=0) O O (zJ 0 (v:= .int .u32 m) O O O O (zC O (ya (k':= .u32) (c:=IntKind.u32.wrap (((zf l k).toNat:Nat):Int)) qD O O O ?_ qD))))))))))))))
   refine zRy O O O O (zV O O (zI (o:=0) O O (zi (cs:=[.int .u32 m]) 0 O O O O O (zA (zB (zC O (zA (zU (xI (fun(j:Nat) (e:Int)=>[(0,pt sb),(6,v),(7,Vj l.length),(8,Vj k),(21,Vj j)]) (fun(j:Nat) (e:Int)=>j≤8) (fun(j:Nat) (e:Int)=>[Res.row sb 633 [.int .u32 e]]) (fun(j:Nat) (e:Int)=>8 - j) (fun d b=>⟨0,_,⟨O,O,O,O,O,trivial⟩,Nat.zero_le _,b⟩) (fun j e g q=>(zB (zy O O O (zA (zK (zT O (fun s=> ?_) (fun s=> ?_))))))))))))))))
   ·refine zN (zK (zU (zc [] O V qD (fun d b a=>zD 0 O za a (zD 1 O za a (zD 2 O (zX O) a (zD 3 O (zL (o:=0) O) a (zD 6 O za a (zD 7 O (zX O) a (zD 8 O (zL (o:=0) O) a (z2 4 9 ?_ ?_)))))))))))
    ·refine zm 4 O b (zJ 0 (v:= .int .u32 e) O O O O (zE [] O V (fun d b a=>zD 5 O (zPI O O qS O) a (zM 9 O b (zJ 0 (v:= .int .u32 e) O O O O (zE [] O V (fun d b a=>zD 10 O (zHt O O O) a (zD 11 O (zFU O) a (zD 12 O (zHt O O O) a (zD 13 O (zPE O O O) a (zD 14 O (zX O) a (zD 15 O (zL (o:=0) O) a (zM 16 O b (zi (cs:=[.int .u32 e]) 0 O O O O O (zE [] O V (fun d b a=>zY ((?_:C _ _ _ _ _ _ _ (Own w S [_])) _ b)))))))))))))))))
     refine zd (zr O O (zt qE) O (zC O (zw (fun d b=>⟨j+1,_,⟨O,O,O,O,O,trivial⟩,qE,b,qE⟩))))
    refine zm 9 O b (zJ 0 (v:= .int .u32 e) O O O O (zE [] O V (fun d b a=>zD 10 O (zHt O O O) a (zD 11 O (zFU O) a (zD 12 O (zHt O O O) a (zM 4 O b (zJ 0 (v:= .int .u32 e) O O O O (zE [] O V (fun d b a=>zD 5 O (zPI O O qS O) a (zD 13 O (zPE O O O) a (zD 14 O (zX O) a (zD 15 O (zL (o:=0) O) a (zM 16 O b (zi (cs:=[.int .u32 e]) 0 O O O O O (zE [] O V (fun d b a=>zY ((?_:C _ _ _ _ _ _ _ (Own w S [_])) _ b)))))))))))))))))
    refine zd (zr O O (zt qE) O (zC O (zw (fun d b=>⟨j+1,_,⟨O,O,O,O,O,trivial⟩,qE,b,qE⟩))))
   refine zz O (zd (zr O O (zt qE) O (zC O (zw (fun d b=>⟨k+1,e,⟨O,O,O,O,trivial⟩,qE,b,qE⟩)))))
  exact xz O (yl O (fun d b=>⟨m,O,b⟩))
theorem zRv(v:Value)(l:List (Value×List UInt8))(w:World)(hl:l.length≤1000)(hb:∀ p∈l,p.2.length≤1000000)(hv:Rd w [] (Res.sl v l.length (l.flatMap pv)))(a:∀ p∈l,BsRd p w []):Rets Tryz.prog 384 #[v] w fun h c=>∃ (n:Int),h= .int .u32 n∧Own w [] [] c:=by
  refine zO Tryz.func384 O Tryz.ntmps384 (Own.start w) (zB (zG O (zA (zB (yG (cs:=[.int .u32 (4294967295:Nat)]) (z:=[.int .u32 (0:Nat)]) (pl:=[(0,1)]) qD qD O (zk (v:= .agg #[.int .u32 (0:Nat)]) qD O (fun e=>ze 0 O O O (z6 O) O (zA (zK (zB (zC O (zo (pR hv) O O (zC O (zA (zU (xI (fun(k:Nat) (m:Int)=>[(3,pt e),(7,v),(8,Vj l.length),(9,Vj k)]) (fun(k:Nat) (m:Int)=>k≤l.length) (fun(k:Nat) (m:Int)=>[Res.row e 633 [.int .u32 m]]) (fun(k:Nat) (m:Int)=>l.length - k) (fun c b=>⟨0,_,⟨O,O,O,O,trivial⟩,Nat.zero_le _,b⟩) (fun k m g s=>(zB (zy O O O (zA (zK (zT O (fun i=> ?_) (fun i=> ?_)))))))))))))))))))))))
  ·have q:=hb _ (zx (l:=l) (j:=k) qE)
   refine zN (zK (zU (zB (yH (pR hv) 1 k O O O qE O (y8 (pR hv) 1 k 0 (fun _=>O) O O qE O O (zG O (zA (zd (zC O (zH O O (fun c b=>(zKd e m ((zf l k).1) ((zf l k).2) c qF (b.give [0] O V) (b.rdTo (a _ (zx qE)) [0] O)).mono ?_)))))))))))
   rintro _ u ⟨d,rfl,r⟩
   refine fq [0] O b r (zA (zd (zr O O (zt qE) O (zC O (zw (fun c b=>⟨k+1,d,⟨O,O,O,O,trivial⟩,qE,b,qE⟩))))))
  refine zz O (zB (zI (o:=0) O O (zJ 0 (v:= .int .u32 m) O O O O (zSJ O O (zG O (zA (zP (zn (v:= .int .u32 (zL9 .u32 m)) O O (fun c b=>⟨zL9 .u32 m,O,b.drop⟩)))))))))
theorem zEv(v:Value)(l:List UInt8)(w:World)(hl:l.length≤65536)(hv:Rd w [] (Res.sl v l.length (l.map vb))):Rets Tryz.prog 456 #[v] w fun y d=>∃ (r:Value) (bs:List UInt8),y= .tuple #[r,Vi 0]∧bs.length=l.length+8∧Own w [] [vY r bs] d:=by
  refine zO Tryz.func456 O Tryz.ntmps456 (Own.start w) (zB (zG O (zG O (zA (zK (zB (zC O (zo (pR hv) O O (yU O O O (zA (zT O (fun x=> ?_) (fun x=> ?_))))))))))))
  ·exact absurd x qE
  refine zN (zB (zC O (zo (pR hv) O O (ya (k':= .u32) (c:=IntKind.u32.wrap ((l.length:Nat):Int)) qD O O O ?_ qD))))
  refine zH O O (fun d b=>(zL0 (IntKind.u32.wrap ((l.length:Nat):Int)) d).mono ?_)
  rintro m n ⟨_,a,rfl,h,o⟩
  refine(?_:CL _ _ _ _ _ _ (Own w [] [_])) n (b.qb o)
  refine zG O (zA (zB (zC O (zC O (zC O (zS (fun d b=>Own.qa (i:=0) O b) (fun q=>(kU (e:=77) (vs:=[m,v]) qD O O (zF q (zF (Sl.cell1 (Rd.φ hv)) zh)) V O (fun s=>zH O O (fun d b=>(zRv (.slice (some ⟨s,0,none⟩) 2 2) [(m,a),(v,l)] d qI (by intro p hp;simp at hp;rcases hp with rfl|rfl<;>dsimp only<;>omega) (b.qh 1 O) (all_cons (b.qh 0 O) (all_cons (b.rd0 hv) (fun p hp=>by cases hp)))).mono ?_))))))))))
  rintro _ n ⟨u,rfl,o⟩
  refine(?_:CL _ _ _ _ _ _ (Own w [] [_,_])) n (b.qb o)
  refine zH O O (fun d b=>(zL0 u d).mono ?_)
  rintro z n ⟨_,g,rfl,j,o⟩
  refine(?_:CL _ _ _ _ _ _ (Own w [] [_,_,_])) n (b.qb o)
  refine zAJ (l:=a) (l':=g) 0 qD O O O (fun d k=>Vec.sl (Own.holds k 2 _ O)) qF O (fun a0=>zG O (zA (zB (zC O (zC O (zAJ (l:=a++g) (l':=l) 0 qD O O O (fun d k=>Own.rd hv k) qF O (fun v21=>zG O (zG O (zA (zP (yg (v:=v21) (v':=Vi 0) O O O (fun d b=>⟨v21,(a++g)++l,O,(by rw[List.length_append,List.length_append,h,j];omega),b.sel [0] O V⟩))))))))))))
def zE5:List UInt8:=[97,98,99,100,101,102,103,104,105,106,107,108,109,110,111,112,113,114,115,116,117,118,119,120,121,122]
def zA6(s:ByteArray):Prop:=(1≤s.size∧s.size≤8)∧∀ c∈s.data.toList,c∈zE5
theorem zOa{nm:ByteArray}(h:zA6 nm):¬((nm=yEb∨8<((nm.size:Nat):Int))∨(⟨(Lib.trimS nm.data.toList zE5).toArray⟩:ByteArray)≠yEb):=by
  rintro((rfl|q)|q)
  · exact absurd h.1.1 V
  · have:=h.1.2;omega
  exact q (by rw[zFw h.2])
theorem zG3:∀ c∈zE5,c∈nameSet:=by decide
theorem zGy{b s:ByteArray}(hb:zA6 b)(d:s.size≤2∧∀ c∈s.data.toList,c∈nameSet):kR ((b++(⟨#[46]⟩:ByteArray))++s):=by
  have h1:=hb.1
  have e:(⟨#[46]⟩:ByteArray).size=1:=rfl
  refine⟨?_,fun c a=> ?_⟩
  · rw[ByteArray.size_append,ByteArray.size_append,e];omega
  rw[ByteArray.data_append,ByteArray.data_append,Array.toList_append,Array.toList_append]at a
  rcases List.mem_append.1 a with a|a
  · rcases List.mem_append.1 a with a|a
    · exact zG3 c (hb.2 c a)
    have:c=46:=by simpa using a
    rw[this];decide
  exact d.2 c a
def ka(b db:Nat)(nm:ByteArray)(last:Nat)(vv:Value)(has:Bool)(ov:Value):Res:=Res.row b 414 [pt db, .string nm,Vn last,vv, .bool has,ov, .bool false]
theorem zFe{S:List Nat}(sb db:Nat)(nm:ByteArray)(a:Nat)(vv ov:Value)(b:Bool)(w:World)(c:Own w S [ka sb db nm a vv b ov] w):Rets Tryz.prog 387 #[pt sb,Vi 0] w fun e d=>e=Vi 0∧Own w S [ka sb db nm a vv b ov] d:=by
  refine zO Tryz.func387 O Tryz.ntmps387 c (zB (zG O (zA (zB (zC O (zC O (zV O O (zI (o:=6) O O (zJ 0 (v:=zu) O O O O (zC O (zQ O O (zC O (zQ O O (yR O O O (y2 O O (zV O O (zI (o:=6) O O (zi 0 O O O O O (zA (zB (zC O (zG O (zA (zP (zn (v:=Vi 0) O O (fun d g=>⟨O,g⟩))))))))))))))))))))))))))
theorem zDF{S:List Nat}(sb db:Nat)(nm:ByteArray)(a:Nat)(vv:Value)(b:Bool)(w:World)(c:Own w S [ka sb db nm a vv b zW] w):Rets Tryz.prog 249 #[pt sb] w fun g d=>g=Vi 0∧Own w S [ka sb db nm a vv b zW] d:=by
  refine zO Tryz.func249 O Tryz.ntmps249 c (zB (zG O (zA (zK (zB (zC O (zV O O (zI (o:=5) O O (zJ 0 (v:=zW) O O O O (jK qD O O (yR O O O (zA (zT O (fun e=> ?_) (fun e=> ?_))))))))))))))
  ·refine zB (zG O (zA (zP (zn (v:=Vi 0) O O (fun d h=>⟨O,h⟩)))))
  exact absurd O e
theorem zEL{S:List Nat}(db:Nat)(D:DskD)(kf:List (ByteArray×FilD))(nm:ByteArray)(w:World)(hk:DskCl D)(hl:kf.length=0)(s:zA6 nm)(n:Own w S [Res.dk db D kf] w):Rets Tryz.prog 142 #[pt db, .string nm] w fun u_ e=>∃ (sb:Nat),u_= .tuple #[pt sb,Vi 0]∧Own w S [Res.dk db D kf,ka sb db nm 0 zW false zW] e:=by
  have a0:=s.1
  refine zO Tryz.func142 O Tryz.ntmps142 n (zB (zG O (zG O (zA (zK (zB (zC O (yF qD O O O (zC O (zQ O O (zC O (zQ O O (zGF O O O (y2 O O (zC O (yK (q:=nm=yEb) 3 6 [27,26,25] (8<((nm.size:Nat):Int)) O O O O O O trivial O (fun h=> ?_) (fun p=> ?_)))))))))))))))))
  ·refine zQ O (gF h) (zC O (zQ O (gF h) (zCO qD O O (zQ O (gF h) (yU O O O (z8 O (fun _ b=>b)))))))
  refine zC O (yK (q:=(nm=yEb)∨(8<((nm.size:Nat):Int))) 3 11 [32,31,30] ((⟨(Lib.trimS nm.data.toList (⟨#[97,98,99,100,101,102,103,104,105,106,107,108,109,110,111,112,113,114,115,116,117,118,119,120,121,122]⟩:ByteArray).data.toList).toArray⟩:ByteArray)≠yEb) O O O O O O trivial O (fun c=> ?_) (fun r=> ?_))
  ·refine zQ O (gF c) (zC O (zQ O (gF c) (zH O O (fun e b=>(zKv nm (⟨#[97,98,99,100,101,102,103,104,105,106,107,108,109,110,111,112,113,114,115,116,117,118,119,120,121,122]⟩:ByteArray) e qF V V).mono ?_))))
   rintro _ m ⟨rfl,j⟩
   refine(?_:CL _ _ _ _ _ _ (Own w S [_])) m (b.qb j)
   refine zQ O (gF c) (zLf O O O (z8 O (fun _ b=>b)))
  refine zA (zT O (fun u=> ?_) (fun u=> ?_))
  ·exact absurd u (zOa s)
  refine zN (zK (zB (zC O (zH O O (fun e b=>(zIZ db _ _ e ‹_› (b.give [0] O V)).mono ?_)))))
  rintro _ m ⟨rfl,j⟩
  refine fq [0] O b j (zA (yT O (zN (zB (zC O (zC O (yG (cs:=[pt db, .string nm,Vn 0,zW,zu,zW,zu]) (z:=[.pointer none,yh,Vn 0,zW,zu,zW,zu]) (pl:=[(0,1),(1,1),(2,1),(3,1),(4,1),(5,1),(6,1)]) qD qD O (zj O O (fun a=>zk (v:= .pointer none) qD O (fun x=>zi (cs:=[.pointer none]) 2 O O O O O (zA (zB (zk (v:=Vn 0) qD O (fun y=>(zi (cs:=[Vn 0]) 3 O O O O O (zA (zK (zB (zC O (zH O O (fun e b=>(zDh db _ _ e ‹_› qF (b.give [0] O V)).mono ?_)))))))))))))))))))))
  rintro i m ⟨_,d,rfl,l,j⟩
  refine fq [0] O b j (zo (pV 4 O) O O (zC O (zA (zU (yP (fun(k:Nat)=>[(0,pt db),(6,pt x),(7,pt y),(41,i),(42,Vj d.length),(43,Vj k)]) (fun(k:Nat)=>k=0) (fun(k:Nat)=>[ka a db nm 0 zW false zW,Res.row x 277 [pt a],Res.row y 31 [Vn 0],Res.dk db D kf,Res.vec 9 1 i d.length (d.flatMap S1)]) (fun(k:Nat)=>0) (fun e b=>⟨0,⟨O,O,O,O,O,O,trivial⟩,O,b⟩) (fun k g hΦ=> ?_))))))
  have a1:=hΦ
  have a2:d.length=0:=by rw[l.length_eq,List.length_map];exact hl
  refine zB (zy O O O (zA (zK (zT O (fun c3=> ?_) (fun c3=> ?_)))))
  ·exact absurd c3 qE
  refine zz O (zK (zB (zJ 1 (v:=pt a) O O O O (zV O O (zI (o:=4) O O (zJ 0 (v:=zu) O O O O (zA (yT O (zN (zK (zB (zJ 1 (v:=pt a) O O O O (zH O O (fun e b=>(zDF a db nm 0 zW false e (b.give [0] O V)).mono ?_))))))))))))))
  rintro _ m ⟨rfl,j⟩
  refine fq [0] O b j (zG O (zA (zB (zC O (yd O O O (zA (zT O (fun c5=> ?_) (fun c5=> ?_))))))))
  ·exact absurd O c5
  refine zN (zK (zB (zJ 0 (v:=pt a) O O O O (zV O O (zI (o:=4) O O (zJ 4 (v:=zu) O O O O (zA (yT O (zN (zB (zJ 0 (v:=pt a) O O O O (zG O (zG O (zA (zP (yg (v:=pt a) (v':=Vi 0) O O O (fun e b=>⟨a,O,b.sel [2,4] O V⟩)))))))))))))))))
theorem zDs{S:List Nat}(sb db:Nat)(nm:ByteArray)(a:Nat)(vv ov:Value)(w:World)(c:Own w S [ka sb db nm a vv false ov] w):Rets Tryz.prog 403 #[pt sb] w fun e d=>e= .tuple #[zW,Vi 8]∧Own w S [ka sb db nm a vv false ov] d:=by
  refine zO Tryz.func403 O Tryz.ntmps403 c (zB (zG O (zG O (zA (zK (zU (zB (zC O (yF qD O O O (zG O (zA (yT O (zB (zC O (zV O O (zI (o:=6) O O (zJ 0 (v:=zu) O O O O (zG O (zA (yT O (zB (zC O (zV O O (zI (o:=4) O O (zJ 0 (v:=zu) O O O O (xi (b:=false) O O (zG O (zA (x2 O (zB (zG O (zG O (zA (zP (yg (v:=zW) (v':=Vi 8) O O O (fun d g=>⟨O,g⟩))))))))))))))))))))))))))))))))))))
theorem _root_.Go.Sc.sz_lit{a:Array UInt8}:(⟨a⟩:ByteArray).size=a.size:=rfl
theorem _root_.Go.Sc.qV{p:Prop}(h:p:=by first|omega|(simp only[ByteArray.size_append,sz_lit,List.size_toArray,List.length_cons,List.length_nil]<;>omega)):p:=h
theorem zJk{S:List Nat}(sb db:Nat)(nm:ByteArray)(b:Nat)(vv ov:Value)(g:Bool)(n:Nat)(w:World)(p:n<100)(hb:zA6 nm)(i:Own w S [ka sb db nm b vv g ov] w):Rets Tryz.prog 248 #[pt sb,Vn n] w fun j e=>∃ (s:ByteArray),j= .string s∧kR s∧Own w S [ka sb db nm b vv g ov] e:=by
  have k:=hb.1
  refine zO Tryz.func248 O Tryz.ntmps248 i (zB (zG O (zA (zK (zc [0] O V qD (fun e c a=>zD 0 O za a (zD 1 O (zX O) a (zD 2 O (zL (o:=1) O) a (zD 3 O (zZ 0 (v:= .string nm) O O O) a (zD 4 O (zHC O O qV) a (zD 5 O za a (zM 6 O c (zH O O (fun e c=>((j7 n e qF).mono ?_)))))))))))))))
  rintro _ l ⟨h,rfl,d,m⟩
  refine(?_:CL _ _ _ _ _ _ (Own w S [_])) l (c.qb m)
  refine zE [0] O V (fun e c a=>zD 7 O (zHC O O qV) a (zD 8 O z7 a (zY ((?_:C _ _ _ _ _ _ _ (Own w S [_])) _ c))))
  exact zP (zn (v:= .string ((nm++(⟨#[46]⟩:ByteArray))++h)) O O (fun e c=>⟨(nm++(⟨#[46]⟩:ByteArray))++h,O,zGy hb d,c⟩))
theorem zI7{S:List Nat}(sb db:Nat)(nm:ByteArray)(D:DskD)(kf:List (ByteArray×FilD))(dv:Value)(data:List UInt8)(w:World)(hk:DskCl D)(hb:zA6 nm)(hl:kf.length<4096)(hd:data.length≤60000)(hr:((tot kf+data.length+8:Nat):Int)≤D.room)(y:Own w S [ka sb db nm 0 zW false zW,Res.dk db D kf] w)(p:Rd w S (Res.sl dv data.length (data.map vb))):Rets Tryz.prog 350 #[pt sb,dv] w fun u_ b=>∃ (v1 v2:Value) (la:Nat) (D':DskD) (f:FilD) (fn:ByteArray),u_=Vi 0∧DskCl D'∧D'.room=D.room∧f.bs.length≤((zl fn kf).getD kJ).bs.length+data.length+8∧Own w S [ka sb db nm la v1 true v2,Res.dk db D' (yS fn f kf)] b:=by
  refine zO Tryz.func350 O Tryz.ntmps350 y (zB (zG O (zA (zK (zU (zB (zC O (yF qD O O O (zG O (zA (yT O (zB (zC O (zV O O (zI (o:=6) O O (zJ 0 (v:=zu) O O O O (zG O (zA (yT O (zB (zC O (zo (pR p) O O (yU O O O (zG O (zA (zT O (fun c3=> ?_) (fun c3=> ?_)))))))))))))))))))))))))))
  ·exact absurd c3 qE
  refine zN (zB (zC O (zH O O (fun b a=>(zEv dv data b qF (a.rd0 p)).mono ?_))))
  rintro _ m ⟨q,u,rfl,z,c⟩
  refine(?_:CL _ _ _ _ _ _ (Own w S [_,_,_])) m (a.qb c)
  refine zC O (zb (vs:=[q,Vi 0]) O O O (zb (vs:=[q,Vi 0]) O O O (zG O (zG O (zA (zB (zC O (zC O (zV O O (zI (o:=2) O O (zJ 0 (v:=Vn 0) O O O O (zr O O (yp qE) O (zH O O (fun b a=>(zJk sb db nm 0 zW zW false (0+1) b V ‹_› (a.give [0] O V)).mono ?_))))))))))))))
  rintro _ m ⟨g,rfl,r,c⟩
  refine fq [0] O a c (zG O (zA (zB (zC O (zC O (zV O O (zI (o:=0) O O (zJ 2 (v:=pt db) O O O O (zC O (zC O (zH O O (fun b a=>(zEe db _ _ g 0 q u b ‹_› r qF qF qF (a.give [0] O V) (a.rdVec 1 O [0] O O)).mono ?_))))))))))))
  rintro _ m ⟨D'4_,s,rfl,a0,h,j,c⟩
  have a5:=j
  have a1:=h
  have a6:=zAe (k:=g) (f:=s) (l:=kf)
  have a7:=hk.ok.room
  refine fq [0] O a c (zH O O (fun b a=>(zFe sb db nm 0 zW zW false b (a.give [1] O V)).mono ?_))
  rintro _ m ⟨rfl,c⟩
  refine fq [1] O a c (zG O (zA (zK (zB (zC O (yR O O O (zA (zT O (fun c4=> ?_) (fun c4=> ?_)))))))))
  ·refine zB (zC O (zV O O (zI (o:=2) O O (zJ 2 (v:=Vn 0) O O O O (zr O O (yp qE) O (zV O O (zI (o:=2) O O (zi 2 O O O O O (zA (zd (zC O (zC O (zV O O (zI (o:=0) O O (zJ 2 (v:=pt db) O O O O (zH O O (fun b a=>(zEz db D'4_ (yS g s kf) b ‹_› qE (a.give [1] O V)).mono ?_)))))))))))))))))
   rintro _ m ⟨D'6_,rfl,n,d,c⟩
   have a2:=n
   have a3:=d
   refine fq [1] O a c (zH O O (fun b a=>(zFe sb db nm (0+1) zW zW false b (a.give [1] O V)).mono ?_))
   rintro _ m ⟨rfl,c⟩
   refine fq [1] O a c (zG O (zA (zK (zB (zC O (yd O O O (zA (zT O (fun c5=> ?_) (fun c5=> ?_)))))))))
   ·exact absurd O c5
   refine zN (zB (zC O (zC O (zC O (zH O O (fun b a=>(yu dv data b qG (a.rd0 p)).mono ?_))))))
   rintro a4 m ⟨_,rfl,c⟩
   refine(?_:CL _ _ _ _ _ _ (Own w S [_,_,_,_])) m (a.qb c)
   refine zV O O (zI (o:=3) O O (zS (fun b a=>Own.qa (i:=3) O a) (fun x=>(zi 2 O O O x O (zV O O (zI (o:=4) O O (zi 2 O O O O O (zA (zB (zC O (zH O O (fun b a=>(zDF sb db nm (0+1) a4 true b (a.give [2] O V)).mono ?_))))))))))))
   rintro _ m ⟨rfl,c⟩
   refine fq [2] O a c (zG O (zA (zB (zC O (zC O (yC (e:=9) (sz:=1) (vs:=[.string g]) qD O O qJ V O (fun a8=>zV O O (zI (o:=5) O O (zi 3 O O O O O (zA (zB (zC O (zG O (zA (zP (zn (v:=Vi 0) O O (fun b a=>⟨_,_,_,_,s,g,O,a2,a3.trans a1,qE,a.sel [3,1] O V⟩)))))))))))))))))
  exact absurd O c4
end Go.Proofs.YtmpaljnacfidaaaGreatDoor
