import Derived.Test.YthpoddkmhfhboaaGreatDoorDsk
set_option linter.unusedSimpArgs false
set_option linter.unusedVariables false
set_option maxRecDepth 10000
namespace Go.Proofs.YthpoddkmhfhboaaGreatDoor
open Go.Sc
theorem zSE{S:List Nat}(v:Value)(l:List ByteArray)(n:Nat)(w:World)(i:n≤1)(a:Own w S [Res.vec 9 1 v l.length (l.flatMap S1)] w):Rets Tryz.prog 533 #[v,Vj 0,Vj n] w fun e b=>e= .tuple #[]∧Own w S [Res.vec 9 1 v l.length (l.flatMap S1)] b:=by
 refine zO Tryz.func533 O Tryz.ntmps533 a<|zB<|zC O<|zr O O (zt qG) O<|zF O<|zA<|zU<|yQ (fun(k:Nat)=>[(0,v),(1,Vj 0),(2,Vj n),(6,Vj k)]) (fun(k:Nat)=>k=1) (fun(k:Nat)=>[Res.vec 9 1 v l.length (l.flatMap S1)]) (fun(k:Nat)=>0) (fun b c=>⟨1,⟨O,O,O,O,trivial⟩,O,c⟩)<|fun k g h=> ?_
 have j:=h
 refine zK<|zB<|zC O<|zC O<|zu O O O<|zA<|zT O (fun d=> ?_)<|fun d=> ?_
 ·exact absurd d qG
 exact xy O<|yq O<|fun b c=>⟨O,c⟩
theorem zRc{S:List Nat}(v:Value)(l:List ByteArray)(n:Nat)(b:Int)(w:World)(m:n≤1)(e:Own w S [Res.vec 9 1 v l.length (l.flatMap S1)] w):Rets Tryz.prog 481 #[v,Vj 0,Vj n,Vi b] w fun i d=>i= .tuple #[]∧Own w S [Res.vec 9 1 v l.length (l.flatMap S1)] d:=by
 refine zO Tryz.func481 O Tryz.ntmps481 e<|zB<|zF O<|zA<|zB<|zF O<|zA<|zU<|yQ (fun(k:Nat)=>[(0,v),(1,Vj 0),(2,Vj n),(3,Vi b),(8,xx),(9,xx)]) (fun(k:Nat)=>k=1) (fun(k:Nat)=>[Res.vec 9 1 v l.length (l.flatMap S1)]) (fun(k:Nat)=>0) (fun d a=>⟨1,⟨O,O,O,O,O,O,trivial⟩,O,a⟩)<|fun k g o=>(zU<|zB<|zC O<|zC O<|y9 (c:=((n:Nat):Int)) O O (zt qG) O<|zF O<|zA<|zK<|zB<|zC O<|yx O O O<|zA<|zT O (fun h=> ?_)<|fun h=> ?_)
 ·refine zB<|zC O<|zC O<|zC O<|zG O O<|fun d a=>(zSE v l n d qH<|a.give [0] O V).mono ?_
  rintro _ p ⟨rfl,j⟩
  refine fq [0] O a j<|zA<|zP<|yq O<|fun d a=>⟨O,a⟩
 exact absurd h qG
theorem zOD{S:List Nat}(v:Value)(l:List ByteArray)(w:World)(hl:l.length≤1)(c:Own w S [Res.vec 9 1 v l.length (l.flatMap S1)] w):Rets Tryz.prog 374 #[v] w fun g a=>g= .tuple #[]∧Own w S [Res.vec 9 1 v l.length (l.flatMap S1)] a:=by
 refine zO Tryz.func374 O Tryz.ntmps374 c<|zB<|zC O<|zn (pV 0 O) O O<|zF O<|zA<|ze<|zC O<|zC O<|zC O<|yh qF O (yz qG) O ?_ qF
 refine zG O O<|fun a b=>(zIV l.length a qH).mono ?_
 rintro _ e ⟨rfl,d⟩
 refine(?_:CL _ _ _ _ _ _ (Own w S [_])) e<|b.qb d
 refine zG O O<|fun a b=>(zRc v l l.length (((yK l.length):Nat):Int) a qH<|b.give [0] O V).mono ?_
 rintro _ e ⟨rfl,d⟩
 refine fq [0] O b d<|zx<|yq O<|fun a b=>⟨O,b⟩
theorem zBM{κ α β:Type}{g:κ×α→β}{kl todo q1 q2:List (κ×α)}{xs:List β}{p:κ×α}(h:(xs++todo.map g).Perm (kl.map g))(b:todo=q1++p::q2):((xs++[g p])++(q1++q2).map g).Perm (kl.map g):=by
 refine List.Perm.trans ?_ h
 rw[b,List.append_assoc]
 refine List.Perm.append_left _ ?_
 rw[List.map_append,List.map_append,List.map_cons]
 exact(List.perm_middle (l₁:=q1.map g) (l₂:=q2.map g) (a:=g p)).symm
theorem zDX{κ α β:Type}{g:κ×α→β}{kl todo q1 q2:List (κ×α)}{xs:List β}{p:κ×α}(h:(xs++todo.map g).Perm (kl.map g))(a:todo=q1++p::q2):xs.length<kl.length:=by
 have:=h.length_eq
 rw[a]at this
 simp at this;omega
theorem zM9(sb m:Nat)(kf:List (ByteArray×FilD)):zFz Tryz.prog 375 [pt sb] (fun x:ByteArray=>Value.string x) (fun c=>c.Perm (kf.map (·.1))) kf.length [Res.row sb 171 [.map (some m)],Res.mp Value.string FilD.val m kf]:=by
 intro ly J L0 w Y hJ hin
 refine xi (args:=[.func (.yield ly) #[] #[],pt sb]) Tryz.func375 O Tryz.ntmps375 O (show Own w (xL ([Res.row sb 171 [.map (some m)],Res.mp Value.string FilD.val m kf]++L0)) (Res.row sb 171 [.map (some m)]::Res.mp Value.string FilD.val m kf::L0) w from hin) (zB (zJ 0 (v:= .map (some m)) O O O O (jU 1 zFs O O O (fun l=>zA (zU (xV (fun(a:List (ByteArray×FilD)) (c:List ByteArray) (Lr:List Res)=>[(0, .func (.yield ly) #[] #[]),(5,pt l)]) (fun(a:List (ByteArray×FilD)) (c:List ByteArray) (Lr:List Res)=>(c++a.map (·.1)).Perm (kf.map (·.1))∧J c Lr) (fun(a:List (ByteArray×FilD)) (c:List ByteArray) (Lr:List Res)=>(Res.row sb 171 [.map (some m)]::Res.rg Value.string FilD.val m l kf a::Lr)) (fun(a:List (ByteArray×FilD)) (c:List ByteArray) (Lr:List Res)=>a.length) (fun o i=>⟨kf,[],L0,⟨O,O,trivial⟩,⟨.refl _,hJ⟩,i⟩) (fun a c Lr g p=> ?_)))))))
 have d:=p.1
 have j:=p.2
 refine zB (zAD 1 O O O (fun n=> ?_) (fun q1 k v q2 h=> ?_))
 ·refine zb (vs:=[yC]) O O O (zA (zK (yW O (xy O (yq O (fun o i=>⟨c,Lr,(by rw[n]at d;simpa using d),j,(Own.rgEnd 1 i O)⟩))))))
 refine zb (vs:=[xx, .string k,v.v]) O O O (zA (zK (x0 O (zN (zU (zB (ja 1 O O O (zb (vs:=[.string k,v.v]) O O O (zF O (zA (zBo (xm O za (xm O za (zDA [Res.row sb 171 [.map (some m)],Res.rg Value.string FilD.val m l kf (q1++q2)] k Y O O j (zDX d h) O (fun Ly1_ e=>(xm O (zDT (b:=true) O) (zF3 (yW O (x4 (fun o i=>⟨q1++q2,c++[k],Ly1_,⟨O,O,trivial⟩,⟨zBM d h,e⟩,i,(by rw[h,List.length_append,List.length_append,List.length_cons];omega)⟩))))))))))))))))))))
theorem zOI{S:List Nat}(m:Nat)(kf:List (ByteArray×FilD))(w:World)(a:Own w S [Res.mp Value.string FilD.val m kf] w):Rets Tryz.prog 222 #[.map (some m)] w fun e d=>∃ (b:Nat),e= .func (.func 375) #[] #[pt b]∧Own w S [Res.mp Value.string FilD.val m kf,Res.row b 171 [.map (some m)]] d:=by
 refine zO Tryz.func222 O Tryz.ntmps222 a<|zB<|zj O O<|fun c=>zF O<|zA<|zB<|j7 (va:=[]) (vb:=[pt c]) O O O<|zF O<|zA<|zP<|zm (v:= .func (.func 375) #[] #[pt c]) O O<|fun d g=>⟨c,O,g⟩
theorem zLV{Sx:List ByteArray→Prop}{N:Nat}{Ls:List Res}(s:FuncId)(lb:List Value)(j:x9 Tryz.prog s=true)(m:zFz Tryz.prog s lb (fun x=> .string x) Sx N Ls)(hN:N≤1000000000)(w:World)(u:Own w (xL Ls) Ls w):Rets Tryz.prog 480 #[zW, .func (.func s) #[] lb.toArray] w fun u_ c=>∃ (v:Value) (n:List ByteArray),u_=v∧Sx n∧Own w (xL Ls) (Ls++[Res.vec 9 1 v n.length (n.flatMap S1)]) c:=by
 refine zCQ (args:=[zW, .func (.func s) #[] lb.toArray]) Tryz.func480 O Tryz.ntmps480 O O O (show Own w (xL Ls) Ls w from u)<|zj O O<|fun b=>(zF O<|zx<|fun w1 d=>((?_:CL _ _ _ _ _ _ (Own w (xL Ls)<|Ls++[Res.row b 240 [zW]])) w1 d))
 refine zC O<|zx<|fun w2 d=> ?_
 have o:=zq d 9 1
 rw[List.append_assoc]at o
 refine zE8 (enc:=(fun x=> .string x)) (p:=7) (q:=5) (Ju:=fun h L=>∃ v,L=[Res.row b 240 [v],Res.vec 9 1 v h.length (h.flatMap S1)]) O j m ⟨.slice none 0 0,O⟩ o O O O ?_ ?_ ?_
 · intro x w
   exact(zF O (zx<|fun c k=>⟨O,k⟩):CL _ _ _ _ _ _ (fun c=>c=w)) w O
 · rintro h x L w ⟨v,rfl⟩ a0
   refine zJ 0 (v:=v) O O O O<|zC O<|yH (e:=9) (sz:=1) (vs:=[.string x]) qF O O qL V O<|fun a1=>(yF (g:=S1) (sz:=1) (by':=16) (fun _=>O) (l:=h) (l':=[x]) (by simp[cell1,S1]) 1 qF O O O (fun c k=>Vec.sl<|Own.holds k 2 _ O) qH V O<|fun a2=>(zS (fun c d=>Own.qa (i:=1) O d)<|fun r=>(zi (cs:=[v]) 0 O O O r O<|zx<|fun c d=>⟨_,⟨_,O⟩,d.sel [0,1] O V⟩)))
 rintro n L' D c hS ⟨v,rfl⟩ hO a ha
 have y:=hO.perm (List.Perm.cons _ (List.perm_append_comm))
 refine zIA (v:=v) O ?_ y (fun a3 z=>⟨v,n,O,hS,?_⟩) a ha
 · exact xm rfl (zIv 1 (v:=v) rfl rfl rfl qF) (xm rfl yB (zKg (fun c d=>⟨rfl,d⟩)))
 exact(Own.tail z).perm (List.perm_append_comm (l₁:=[_]))
theorem zGs{S:List Nat}(b m:Nat)(kf:List (ByteArray×FilD))(w:World)(hl:kf.length≤1000000000)(h:Own w S [Res.row b 171 [.map (some m)],Res.mp Value.string FilD.val m kf] w):Rets Tryz.prog 373 #[.func (.func 375) #[] #[pt b]] w fun k e=>∃ (j:Value) (i:List ByteArray),k=j∧i.Perm (kf.map (·.1))∧Own w S [Res.row b 171 [.map (some m)],Res.mp Value.string FilD.val m kf,Res.vec 9 1 j i.length (i.flatMap S1)] e:=by
 refine zO Tryz.func373 O Tryz.ntmps373 h<|zB<|zF O<|zA<|zB<|zC O<|zG O O<|fun e g=>(zLV 375 [pt b] qF (zM9 b m kf) qG e<|g.give [0,1] O V).mono ?_
 rintro c n ⟨_,d,rfl,a,l⟩
 refine fq [0,1] O g l<|zF O<|zA<|zP<|zm (v:=c) O O<|fun e g=>⟨c,d,O,a,g⟩
theorem zJX{S:List Nat}(b m:Nat)(kf:List (ByteArray×FilD))(w:World)(hl:kf.length≤1)(h:Own w S [Res.row b 171 [.map (some m)],Res.mp Value.string FilD.val m kf] w):Rets Tryz.prog 221 #[.func (.func 375) #[] #[pt b]] w fun l g=>∃ (k:Value) (i:List ByteArray),l=k∧i.Perm (kf.map (·.1))∧Own w S [Res.row b 171 [.map (some m)],Res.mp Value.string FilD.val m kf,Res.vec 9 1 k i.length (i.flatMap S1)] g:=by
 refine zO Tryz.func221 O Tryz.ntmps221 h<|zB<|zF O<|zA<|zB<|zC O<|zG O O<|fun g e=>(zGs b m kf g qH<|e.give [0,1] O V).mono ?_
 rintro a n ⟨_,c,rfl,d,j⟩
 have o:c.length≤1:=by rw[d.length_eq,List.length_map];exact hl
 refine fq [0,1] O e j<|zF O<|zA<|zB<|zC O<|zG O O<|fun g e=>(zOD a c g qH<|e.give [2] O V).mono ?_
 rintro _ n ⟨rfl,j⟩
 refine fq [2] O e j<|zA<|zB<|zC O<|zF O<|zA<|zP<|zm (v:=a) O O<|fun g e=>⟨a,c,O,d,e⟩
theorem zLH{S:List Nat}(db:Nat)(D:DskD)(kf:List (ByteArray×FilD))(w:World)(p:DskOk D)(hl:kf.length≤1)(h:Own w S [zA4 db D,Res.mp Value.string FilD.val D.fm kf,Res.star ((kf.map Prod.snd).map FilD.dres),vW D.uv D.us] w):Rets Tryz.prog 115 #[pt db] w fun n b=>∃ (k:Value) (i:List ByteArray),n=k∧i.Perm (kf.map (·.1))∧Own w S [zA4 db D,Res.mp Value.string FilD.val D.fm kf,Res.star ((kf.map Prod.snd).map FilD.dres),vW D.uv D.us,Res.vec 9 1 k i.length (i.flatMap S1)] b:=by
 refine zO Tryz.func115 O Tryz.ntmps115 h<|zB<|zF O<|zA<|zK<|zB<|zC O<|zG O O<|fun b a=>(zDz db D kf b ‹_› (a.give [0,1,2,3] O V)).mono ?_
 rintro _ l ⟨rfl,e⟩
 refine fq [0,1,2,3] O a e<|yf O O O<|zA<|zT O (fun m=> ?_)<|fun m=> ?_
 ·exact absurd O m
 refine zN<|zB<|zC O<|zV O O<|zI (o:=0) O O<|zJ 0 (v:= .map (some D.fm)) O O O O<|zG O O<|fun b a=>(zOI D.fm kf b<|a.give [1] O V).mono ?_
 rintro _ l ⟨j,rfl,e⟩
 refine fq [1] O a e<|zG O O<|fun b a=>(zJX j D.fm kf b qH<|a.give [4,3] O V).mono ?_
 rintro c l ⟨_,g,rfl,d,e⟩
 refine fq [4,3] O a e<|zF O<|zA<|zP<|zm (v:=c) O O<|fun b a=>⟨c,g,O,d,a.sel [0,4,1,2,5] O V⟩
theorem zDo(db:Nat)(D:DskD)(kf:List (ByteArray×FilD))(w:World)(d:DskCl D)(hl:kf.length≤1)(b:Own w (xL [Res.dk db D kf]) [Res.dk db D kf] w):Rets Tryz.prog 115 #[pt db] w fun e g=>∃ (c:Value) (a:List ByteArray),e=c∧a.Perm (kf.map (·.1))∧Own w (xL [Res.dk db D kf]) [Res.dk db D kf,Res.vec 9 1 c a.length (a.flatMap S1)] g:=by
 refine(zLH db D kf w d.ok hl<|b.qi 0 O).mono ?_
 rintro _ i ⟨c,a,rfl,h1,h⟩
 exact⟨_,a,O,h1,(h.qg [0,1,2,3] O V).sel [1,0] O V⟩
def dig1:ByteArray:=⟨#[48,49,50,51,52,53,54,55,56,57,97,98,99,100,101,102,103,104,105,106,107,108,109,110,111,112,113,114,115,116,117,118,119,120,121,122]⟩
def dig2:ByteArray:=⟨#[48,48,48,49,48,50,48,51,48,52,48,53,48,54,48,55,48,56,48,57,49,48,49,49,49,50,49,51,49,52,49,53,49,54,49,55,49,56,49,57,50,48,50,49,50,50,50,51,50,52,50,53,50,54,50,55,50,56,50,57,51,48,51,49,51,50,51,51,51,52,51,53,51,54,51,55,51,56,51,57,52,48,52,49,52,50,52,51,52,52,52,53,52,54,52,55,52,56,52,57,53,48,53,49,53,50,53,51,53,52,53,53,53,54,53,55,53,56,53,57,54,48,54,49,54,50,54,51,54,52,54,53,54,54,54,55,54,56,54,57,55,48,55,49,55,50,55,51,55,52,55,53,55,54,55,55,55,56,55,57,56,48,56,49,56,50,56,51,56,52,56,53,56,54,56,55,56,56,56,57,57,48,57,49,57,50,57,51,57,52,57,53,57,54,57,55,57,56,57,57]⟩
def zE0(s:ByteArray):Bool:=Nat.ble s.size 2&&s.data.toList.all (nameSet.contains ·)
theorem zEg{s:ByteArray}(h:zE0 s=true):s.size≤2∧∀ c∈s.data.toList,c∈nameSet:=by
 unfold zE0 at h
 rw[Bool.and_eq_true]at h
 exact⟨Nat.le_of_ble_eq_true h.1,fun c a=>by simpa using List.all_eq_true.1 h.2 c a⟩
theorem zMB:(List.range 10).all (fun n=>zE0 (dig1.extract n (n+1)))=true:=by kernel_rfl
theorem zK7:(List.range 100).all (fun n=>zE0 (dig2.extract (n*2) (n*2+2)))=true:=by kernel_rfl
theorem zNV{n:Nat}(h:n<10):(dig1.extract n (n+1)).size≤2∧∀ c∈(dig1.extract n (n+1)).data.toList,c∈nameSet:=zEg (List.all_eq_true.1 zMB n (List.mem_range.2 h))
theorem zN1{n:Nat}(h:n<100):(dig2.extract (n*2) (n*2+2)).size≤2∧∀ c∈(dig2.extract (n*2) (n*2+2)).data.toList,c∈nameSet:=zEg (List.all_eq_true.1 zK7 n (List.mem_range.2 h))
theorem zNU(n:Nat)(w:World)(d:n<100):Rets Tryz.prog 523 #[Vj n] w fun e a=>∃ (s:ByteArray),e= .string s∧(s.size≤2∧∀ c∈s.data.toList,c∈nameSet)∧Own w [] [] a:=by
 refine zO Tryz.func523 O Tryz.ntmps523 (Own.start w)<|zB<|zF O<|zA<|zK<|zB<|zC O<|zu O O O<|zA<|zT O (fun g=> ?_)<|fun g=> ?_
 ·refine zB<|zC O<|zC O<|zr O O (zt qG) O<|zL7 (i:=n) (j:=n+1) qF O O O qG (by show n+1≤36;omega) O<|zF O<|zA<|zP<|zm (v:= .string ((⟨#[48,49,50,51,52,53,54,55,56,57,97,98,99,100,101,102,103,104,105,106,107,108,109,110,111,112,113,114,115,116,117,118,119,120,121,122]⟩:ByteArray).extract n<|n+1)) O O<|fun a b=>⟨dig1.extract n<|n+1,O,zNV qG,b.drop⟩
 refine zN<|zB<|zC O<|zAU O O (zt qG) O<|zC O<|zAU O O (zt qG) O<|zr O O (zt qG) O<|zL7 (i:=n*2) (j:=(n*2)+2) qF O O O qG (by show n*2+2≤200;omega) O<|zF O<|zA<|zP<|zm (v:= .string ((⟨#[48,48,48,49,48,50,48,51,48,52,48,53,48,54,48,55,48,56,48,57,49,48,49,49,49,50,49,51,49,52,49,53,49,54,49,55,49,56,49,57,50,48,50,49,50,50,50,51,50,52,50,53,50,54,50,55,50,56,50,57,51,48,51,49,51,50,51,51,51,52,51,53,51,54,51,55,51,56,51,57,52,48,52,49,52,50,52,51,52,52,52,53,52,54,52,55,52,56,52,57,53,48,53,49,53,50,53,51,53,52,53,53,53,54,53,55,53,56,53,57,54,48,54,49,54,50,54,51,54,52,54,53,54,54,54,55,54,56,54,57,55,48,55,49,55,50,55,51,55,52,55,53,55,54,55,55,55,56,55,57,56,48,56,49,56,50,56,51,56,52,56,53,56,54,56,55,56,56,56,57,57,48,57,49,57,50,57,51,57,52,57,53,57,54,57,55,57,56,57,57]⟩:ByteArray).extract (n*2)<|(n*2)+2)) O O<|fun a b=>⟨dig2.extract (n*2)<|n*2+2,O,zN1 d,b.drop⟩
theorem zJT(n:Nat)(w:World)(l:n<100):Rets Tryz.prog 470 #[Vn n,Vi 10] w fun i d=>∃ (s:ByteArray),i= .string s∧(s.size≤2∧∀ c∈s.data.toList,c∈nameSet)∧Own w [] [] d:=by
 refine zO Tryz.func470 O Tryz.ntmps470 (Own.start w)<|zB<|zF O<|zA<|zK<|zB<|zC O<|yT O O O<|zA<|zT O (fun g=> ?_)<|fun g=> ?_
 ·refine zK<|zB<|zC O<|zu O O O<|zA<|zT O (fun h=> ?_)<|fun h=> ?_
  ·refine zB<|zC O<|yh qF O (zt qG) O ?_ qF
   refine zG O O<|fun d e=>(zNU n d qH).mono ?_
   rintro _ j ⟨b,rfl,a,k⟩
   refine(?_:CL _ _ _ _ _ _ (Own w [] [])) j<|e.qb k
   refine zF O<|zA<|zP<|zm (v:= .string b) O O<|fun d e=>⟨b,O,a,e.drop⟩
  exact absurd h qG
 exact absurd O g
theorem zAO(n:Nat)(w:World)(j:n<100):Rets Tryz.prog 362 #[Vn n,Vi 10] w fun g d=>∃ (s:ByteArray),g= .string s∧(s.size≤2∧∀ c∈s.data.toList,c∈nameSet)∧Own w [] [] d:=by
 refine zO Tryz.func362 O Tryz.ntmps362 (Own.start w)<|zB<|zF O<|zA<|zB<|zC O<|zC O<|zG O O<|fun d e=>(zJT n d qH).mono ?_
 rintro _ h ⟨b,rfl,a,i⟩
 refine(?_:CL _ _ _ _ _ _ (Own w [] [])) h<|e.qb i
 refine zF O<|zA<|zP<|zm (v:= .string b) O O<|fun d e=>⟨b,O,a,e.drop⟩
theorem zMt(x:Int)(w:World):Rets Tryz.prog 505 #[.int .u32 x] w fun g b=>∃ (r:Value) (bs:List UInt8),g=r∧bs.length=4∧Own w [] [vY r bs] b:=by
 refine zO Tryz.func505 O Tryz.ntmps505 (Own.start w) (zB (zF O (zA (zB (zC O (zCE O O qU O O (yh (c:=IntKind.u8.wrap (zB4 .u32 x ((24:Nat):Int))) qF O O O ?_ qF)))))))
 refine zC O (zCE O O qU O O (yh (c:=IntKind.u8.wrap (zB4 .u32 x ((16:Nat):Int))) qF O O O ?_ qF))
 refine zC O (zCE O O qU O O (yh (c:=IntKind.u8.wrap (zB4 .u32 x ((8:Nat):Int))) qF O O O ?_ qF))
 refine zC O (yh (c:=IntKind.u8.wrap x) qF O O O ?_ qF)
 refine yH (e:=5) (sz:=1) (vs:=[.int .u8 (IntKind.u8.wrap (zB4 .u32 x ((24:Nat):Int))), .int .u8 (IntKind.u8.wrap (zB4 .u32 x ((16:Nat):Int))), .int .u8 (IntKind.u8.wrap (zB4 .u32 x ((8:Nat):Int))), .int .u8 (IntKind.u8.wrap x)]) qF O O qL V O (fun a=>(kC [vY (.slice (some ⟨a,0,none⟩) 4 4) ([UInt8.ofNat ((IntKind.u8.wrap (zB4 .u32 x ((24:Nat):Int))).toNat),UInt8.ofNat ((IntKind.u8.wrap (zB4 .u32 x ((16:Nat):Int))).toNat),UInt8.ofNat ((IntKind.u8.wrap (zB4 .u32 x ((8:Nat):Int))).toNat),UInt8.ofNat ((IntKind.u8.wrap x).toNat)]:List UInt8)] (fun b d=>by unfold vY;rw[zUY];exact d) (zF O (zA (zP (zm (v:=(.slice (some ⟨a,0,none⟩) 4 4)) O O (fun b d=>⟨(.slice (some ⟨a,0,none⟩) 4 4),([UInt8.ofNat ((IntKind.u8.wrap (zB4 .u32 x ((24:Nat):Int))).toNat),UInt8.ofNat ((IntKind.u8.wrap (zB4 .u32 x ((16:Nat):Int))).toNat),UInt8.ofNat ((IntKind.u8.wrap (zB4 .u32 x ((8:Nat):Int))).toNat),UInt8.ofNat ((IntKind.u8.wrap x).toNat)]:List UInt8),O,O,d⟩)))))))
theorem zMO{S:List Nat}(sb:Nat)(n:Int)(v:Value)(l:List UInt8)(w:World)(hl:l.length≤1000000)(h:Own w S [Res.row sb 621 [.int .u32 n]] w)(hv:Rd w S (Res.sl v l.length (l.map vb))):Rets Tryz.prog 469 #[pt sb,v] w fun i d=>∃ (p:Int),i= .tuple #[]∧Own w S [Res.row sb 621 [.int .u32 p]] d:=by
 refine zO Tryz.func469 O Tryz.ntmps469 h (zB (zC O (zn (pR hv) O O (zC O (zA (zU (xD (fun(k:Nat) (m:Int)=>[(0,pt sb),(6,v),(7,Vj l.length),(8,Vj k)]) (fun(k:Nat) (m:Int)=>k≤l.length) (fun(k:Nat) (m:Int)=>[Res.row sb 621 [.int .u32 m]]) (fun(k:Nat) (m:Int)=>l.length - k) (fun d b=>⟨0,n,⟨O,O,O,O,trivial⟩,Nat.zero_le _,b⟩) (fun k m g q=>(zB (zu O O O (zA (zK (zT O (fun r=> ?_) (fun r=> ?_))))))))))))))
 ·refine zN (zK (zU (zB (yL (pR hv) 1 k O O O qG O (zCO (pR hv) k O qG qG O (zF O (zA (zB (zC O (zV O O (zI (o:=0) O O (zJ 0 (v:= .int .u32 m) O O O O (zC O (yh (k':= .u32) (c:=IntKind.u32.wrap (((zc l k).toNat:Nat):Int)) qF O O O ?_ qF))))))))))))))
  refine zTJ O O O O (zV O O (zI (o:=0) O O (zi (cs:=[.int .u32 m]) 0 O O O O O (zA (zB (zC O (zA (zU (xD (fun(j:Nat) (e:Int)=>[(0,pt sb),(6,v),(7,Vj l.length),(8,Vj k),(21,Vj j)]) (fun(j:Nat) (e:Int)=>j≤8) (fun(j:Nat) (e:Int)=>[Res.row sb 621 [.int .u32 e]]) (fun(j:Nat) (e:Int)=>8 - j) (fun d b=>⟨0,_,⟨O,O,O,O,O,trivial⟩,Nat.zero_le _,b⟩) (fun j e g q=>(zB (zu O O O (zA (zK (zT O (fun s=> ?_) (fun s=> ?_))))))))))))))))
  ·refine zN (zK (zU (zd [] O V qF (fun d b a=>zD 0 O za a (zD 1 O za a (zD 2 O (zY O) a (zD 3 O (zL (o:=0) O) a (zD 6 O za a (zD 7 O (zY O) a (zD 8 O (zL (o:=0) O) a (z7 4 9 ?_ ?_)))))))))))
   ·refine zo 4 O b (zJ 0 (v:= .int .u32 e) O O O O (zE [] O V (fun d b a=>zD 5 O (zQC O O qU O) a (zM 9 O b (zJ 0 (v:= .int .u32 e) O O O O (zE [] O V (fun d b a=>zD 10 O (zIK O O O) a (zD 11 O (zGL O) a (zD 12 O (zIK O O O) a (zD 13 O (zQA O O O) a (zD 14 O (zY O) a (zD 15 O (zL (o:=0) O) a (zM 16 O b (zi (cs:=[.int .u32 e]) 0 O O O O O (zE [] O V (fun d b a=>zX ((?_:C _ _ _ _ _ _ _ (Own w S [_])) _ b)))))))))))))))))
    refine ze (zr O O (zt qG) O (zC O (zx (fun d b=>⟨j+1,_,⟨O,O,O,O,O,trivial⟩,qG,b,qG⟩))))
   refine zo 9 O b (zJ 0 (v:= .int .u32 e) O O O O (zE [] O V (fun d b a=>zD 10 O (zIK O O O) a (zD 11 O (zGL O) a (zD 12 O (zIK O O O) a (zM 4 O b (zJ 0 (v:= .int .u32 e) O O O O (zE [] O V (fun d b a=>zD 5 O (zQC O O qU O) a (zD 13 O (zQA O O O) a (zD 14 O (zY O) a (zD 15 O (zL (o:=0) O) a (zM 16 O b (zi (cs:=[.int .u32 e]) 0 O O O O O (zE [] O V (fun d b a=>zX ((?_:C _ _ _ _ _ _ _ (Own w S [_])) _ b)))))))))))))))))
   refine ze (zr O O (zt qG) O (zC O (zx (fun d b=>⟨j+1,_,⟨O,O,O,O,O,trivial⟩,qG,b,qG⟩))))
  refine zw O (ze (zr O O (zt qG) O (zC O (zx (fun d b=>⟨k+1,e,⟨O,O,O,O,trivial⟩,qG,b,qG⟩)))))
 exact xy O (yq O (fun d b=>⟨m,O,b⟩))
theorem zSh(v:Value)(l:List (Value×List UInt8))(w:World)(hl:l.length≤1000)(hb:∀ p∈l,p.2.length≤1000000)(hv:Rd w [] (Res.sl v l.length (l.flatMap pv)))(a:∀ p∈l,BsRd p w []):Rets Tryz.prog 360 #[v] w fun h c=>∃ (n:Int),h= .int .u32 n∧Own w [] [] c:=by
 refine zO Tryz.func360 O Tryz.ntmps360 (Own.start w) (zB (zF O (zA (zB (yJ (cs:=[.int .u32 (4294967295:Nat)]) (z:=[.int .u32 (0:Nat)]) (pl:=[(0,1)]) qF qF O (zk (v:= .agg #[.int .u32 (0:Nat)]) qF O (fun e=>zf 0 O O O (zz O) O (zA (zK (zB (zC O (zn (pR hv) O O (zC O (zA (zU (xD (fun(k:Nat) (m:Int)=>[(3,pt e),(7,v),(8,Vj l.length),(9,Vj k)]) (fun(k:Nat) (m:Int)=>k≤l.length) (fun(k:Nat) (m:Int)=>[Res.row e 621 [.int .u32 m]]) (fun(k:Nat) (m:Int)=>l.length - k) (fun c b=>⟨0,_,⟨O,O,O,O,trivial⟩,Nat.zero_le _,b⟩) (fun k m g s=>(zB (zu O O O (zA (zK (zT O (fun i=> ?_) (fun i=> ?_)))))))))))))))))))))))
 ·have q:=hb _ (zy (l:=l) (j:=k) qG)
  refine zN (zK (zU (zB (yL (pR hv) 1 k O O O qG O (xC (pR hv) 1 k 0 (fun _=>O) O O qG O O (zF O (zA (ze (zC O (zG O O (fun c b=>(zMO e m ((zc l k).1) ((zc l k).2) c qH (b.give [0] O V) (b.rdTo (a _ (zy qG)) [0] O)).mono ?_)))))))))))
  rintro _ u ⟨d,rfl,r⟩
  refine fq [0] O b r (zA (ze (zr O O (zt qG) O (zC O (zx (fun c b=>⟨k+1,d,⟨O,O,O,O,trivial⟩,qG,b,qG⟩))))))
 refine zw O (zB (zI (o:=0) O O (zJ 0 (v:= .int .u32 m) O O O O (zSy O O (zF O (zA (zP (zm (v:= .int .u32 (zML .u32 m)) O O (fun c b=>⟨zML .u32 m,O,b.drop⟩)))))))))
theorem zFO(v:Value)(l:List UInt8)(w:World)(hl:l.length≤65536)(hv:Rd w [] (Res.sl v l.length (l.map vb))):Rets Tryz.prog 445 #[v] w fun y d=>∃ (r:Value) (bs:List UInt8),y= .tuple #[r,Vi 0]∧bs.length=l.length+8∧Own w [] [vY r bs] d:=by
 refine zO Tryz.func445 O Tryz.ntmps445 (Own.start w) (zB (zF O (zF O (zA (zK (zB (zC O (zn (pR hv) O O (yY O O O (zA (zT O (fun x=> ?_) (fun x=> ?_))))))))))))
 ·exact absurd x qG
 refine zN (zB (zC O (zn (pR hv) O O (yh (k':= .u32) (c:=IntKind.u32.wrap ((l.length:Nat):Int)) qF O O O ?_ qF))))
 refine zG O O (fun d b=>(zMt (IntKind.u32.wrap ((l.length:Nat):Int)) d).mono ?_)
 rintro m n ⟨_,a,rfl,h,o⟩
 refine(?_:CL _ _ _ _ _ _ (Own w [] [_])) n (b.qb o)
 refine zF O (zA (zB (zC O (zC O (zC O (zS (fun d b=>Own.qa (i:=0) O b) (fun q=>(ko (e:=73) (vs:=[m,v]) qF O O (zH q (zH (Sl.cell1 (Rd.φ hv)) zh)) V O (fun s=>zG O O (fun d b=>(zSh (.slice (some ⟨s,0,none⟩) 2 2) [(m,a),(v,l)] d qK (by intro p hp;simp at hp;rcases hp with rfl|rfl<;>dsimp only<;>omega) (b.qj 1 O) (all_cons (b.qj 0 O) (all_cons (b.rd0 hv) (fun p hp=>by cases hp)))).mono ?_))))))))))
 rintro _ n ⟨u,rfl,o⟩
 refine(?_:CL _ _ _ _ _ _ (Own w [] [_,_])) n (b.qb o)
 refine zG O O (fun d b=>(zMt u d).mono ?_)
 rintro z n ⟨_,g,rfl,j,o⟩
 refine(?_:CL _ _ _ _ _ _ (Own w [] [_,_,_])) n (b.qb o)
 refine zAe (l:=a) (l':=g) 0 qF O O O (fun d k=>Vec.sl (Own.holds k 2 _ O)) qH O (fun a0=>zF O (zA (zB (zC O (zC O (zAe (l:=a++g) (l':=l) 0 qF O O O (fun d k=>Own.rd hv k) qH O (fun v21=>zF O (zF O (zA (zP (yg (v:=v21) (v':=Vi 0) O O O (fun d b=>⟨v21,(a++g)++l,O,(by rw[List.length_append,List.length_append,h,j];omega),b.sel [0] O V⟩))))))))))))
def zFN:List UInt8:=[97,98,99,100,101,102,103,104,105,106,107,108,109,110,111,112,113,114,115,116,117,118,119,120,121,122]
def zBR(s:ByteArray):Prop:=(1≤s.size∧s.size≤8)∧∀ c∈s.data.toList,c∈zFN
theorem zN0{nm:ByteArray}(h:zBR nm):¬((nm=yEb∨8<((nm.size:Nat):Int))∨(⟨(Lib.trimS nm.data.toList zFN).toArray⟩:ByteArray)≠yEb):=by
 rintro((rfl|q)|q)
 · exact absurd h.1.1 V
 · have:=h.1.2;omega
 exact q (by rw[zGc h.2])
theorem zHN:∀ c∈zFN,c∈nameSet:=by decide
theorem zHK{b s:ByteArray}(hb:zBR b)(d:s.size≤2∧∀ c∈s.data.toList,c∈nameSet):kg ((b++(⟨#[46]⟩:ByteArray))++s):=by
 have h1:=hb.1
 have e:(⟨#[46]⟩:ByteArray).size=1:=rfl
 refine⟨?_,fun c a=> ?_⟩
 · rw[ByteArray.size_append,ByteArray.size_append,e];omega
 rw[ByteArray.data_append,ByteArray.data_append,Array.toList_append,Array.toList_append]at a
 rcases List.mem_append.1 a with a|a
 · rcases List.mem_append.1 a with a|a
   · exact zHN c (hb.2 c a)
   have:c=46:=by simpa using a
   rw[this];decide
 exact d.2 c a
def k9(b db:Nat)(nm:ByteArray)(last:Nat)(vv:Value)(has:Bool)(ov:Value):Res:=Res.row b 368 [pt db, .string nm,Vn last,vv, .bool has,ov, .bool false]
theorem zGg{S:List Nat}(sb db:Nat)(nm:ByteArray)(a:Nat)(vv ov:Value)(b:Bool)(w:World)(c:Own w S [k9 sb db nm a vv b ov] w):Rets Tryz.prog 363 #[pt sb,Vi 0] w fun e d=>e=Vi 0∧Own w S [k9 sb db nm a vv b ov] d:=by
 refine zO Tryz.func363 O Tryz.ntmps363 c (zB (zF O (zA (zB (zC O (zC O (zV O O (zI (o:=6) O O (zJ 0 (v:=yC) O O O O (zC O (zQ O O (zC O (zQ O O (yT O O O (xA O O (zV O O (zI (o:=6) O O (zi 0 O O O O O (zA (zB (zC O (zF O (zA (zP (zm (v:=Vi 0) O O (fun d g=>⟨O,g⟩))))))))))))))))))))))))))
theorem zED{S:List Nat}(sb db:Nat)(nm:ByteArray)(a:Nat)(vv:Value)(b:Bool)(w:World)(c:Own w S [k9 sb db nm a vv b zW] w):Rets Tryz.prog 214 #[pt sb] w fun g d=>g=Vi 0∧Own w S [k9 sb db nm a vv b zW] d:=by
 refine zO Tryz.func214 O Tryz.ntmps214 c (zB (zF O (zA (zK (zB (zC O (zV O O (zI (o:=5) O O (zJ 0 (v:=zW) O O O O (jM qF O O (yT O O O (zA (zT O (fun e=> ?_) (fun e=> ?_))))))))))))))
 ·refine zB (zF O (zA (zP (zm (v:=Vi 0) O O (fun d h=>⟨O,h⟩)))))
 exact absurd O e
theorem zEe{S:List Nat}(db:Nat)(D:DskD)(kf:List (ByteArray×FilD))(nm:ByteArray)(w:World)(hk:DskCl D)(hl:kf.length=0)(s:zBR nm)(n:Own w S [Res.dk db D kf] w):Rets Tryz.prog 111 #[pt db, .string nm] w fun u_ e=>∃ (sb:Nat),u_= .tuple #[pt sb,Vi 0]∧Own w S [Res.dk db D kf,k9 sb db nm 0 zW false zW] e:=by
 have a0:=s.1
 refine zO Tryz.func111 O Tryz.ntmps111 n (zB (zF O (zF O (zA (zK (zB (zC O (yE qF O O O (zC O (zQ O O (zC O (zQ O O (zEq O O O (xA O O (zC O (yP (q:=nm=yEb) 3 6 [27,26,25] (8<((nm.size:Nat):Int)) O O O O O O trivial O (fun h=> ?_) (fun p=> ?_)))))))))))))))))
 ·refine zQ O (gF h) (zC O (zQ O (gF h) (zCa qF O O (zQ O (gF h) (yY O O O (z8 O (fun _ b=>b)))))))
 refine zC O (yP (q:=(nm=yEb)∨(8<((nm.size:Nat):Int))) 3 11 [32,31,30] ((⟨(Lib.trimS nm.data.toList (⟨#[97,98,99,100,101,102,103,104,105,106,107,108,109,110,111,112,113,114,115,116,117,118,119,120,121,122]⟩:ByteArray).data.toList).toArray⟩:ByteArray)≠yEb) O O O O O O trivial O (fun c=> ?_) (fun r=> ?_))
 ·refine zQ O (gF c) (zC O (zQ O (gF c) (zG O O (fun e b=>(zL1 nm (⟨#[97,98,99,100,101,102,103,104,105,106,107,108,109,110,111,112,113,114,115,116,117,118,119,120,121,122]⟩:ByteArray) e qH V V).mono ?_))))
  rintro _ m ⟨rfl,j⟩
  refine(?_:CL _ _ _ _ _ _ (Own w S [_])) m (b.qb j)
  refine zQ O (gF c) (zK4 O O O (z8 O (fun _ b=>b)))
 refine zA (zT O (fun u=> ?_) (fun u=> ?_))
 ·exact absurd u (zN0 s)
 refine zN (zK (zB (zC O (zG O O (fun e b=>(zJA db _ _ e ‹_› (b.give [0] O V)).mono ?_)))))
 rintro _ m ⟨rfl,j⟩
 refine fq [0] O b j (zA (yW O (zN (zB (zC O (zC O (yJ (cs:=[pt db, .string nm,Vn 0,zW,yC,zW,yC]) (z:=[.pointer none,ym,Vn 0,zW,yC,zW,yC]) (pl:=[(0,1),(1,1),(2,1),(3,1),(4,1),(5,1),(6,1)]) qF qF O (zj O O (fun a=>zk (v:= .pointer none) qF O (fun x=>zi (cs:=[.pointer none]) 2 O O O O O (zA (zB (zk (v:=Vn 0) qF O (fun y=>(zi (cs:=[Vn 0]) 3 O O O O O (zA (zK (zB (zC O (zG O O (fun e b=>(zDo db _ _ e ‹_› qH (b.give [0] O V)).mono ?_)))))))))))))))))))))
 rintro i m ⟨_,d,rfl,l,j⟩
 refine fq [0] O b j (zn (pV 4 O) O O (zC O (zA (zU (yQ (fun(k:Nat)=>[(0,pt db),(6,pt x),(7,pt y),(41,i),(42,Vj d.length),(43,Vj k)]) (fun(k:Nat)=>k=0) (fun(k:Nat)=>[k9 a db nm 0 zW false zW,Res.row x 230 [pt a],Res.row y 31 [Vn 0],Res.dk db D kf,Res.vec 9 1 i d.length (d.flatMap S1)]) (fun(k:Nat)=>0) (fun e b=>⟨0,⟨O,O,O,O,O,O,trivial⟩,O,b⟩) (fun k g hΦ=> ?_))))))
 have a1:=hΦ
 have a2:d.length=0:=by rw[l.length_eq,List.length_map];exact hl
 refine zB (zu O O O (zA (zK (zT O (fun c3=> ?_) (fun c3=> ?_)))))
 ·exact absurd c3 qG
 refine zw O (zK (zB (zJ 1 (v:=pt a) O O O O (zV O O (zI (o:=4) O O (zJ 0 (v:=yC) O O O O (zA (yW O (zN (zK (zB (zJ 1 (v:=pt a) O O O O (zG O O (fun e b=>(zED a db nm 0 zW false e (b.give [0] O V)).mono ?_))))))))))))))
 rintro _ m ⟨rfl,j⟩
 refine fq [0] O b j (zF O (zA (zB (zC O (yf O O O (zA (zT O (fun c5=> ?_) (fun c5=> ?_))))))))
 ·exact absurd O c5
 refine zN (zK (zB (zJ 0 (v:=pt a) O O O O (zV O O (zI (o:=4) O O (zJ 4 (v:=yC) O O O O (zA (yW O (zN (zB (zJ 0 (v:=pt a) O O O O (zF O (zF O (zA (zP (yg (v:=pt a) (v':=Vi 0) O O O (fun e b=>⟨a,O,b.sel [2,4] O V⟩)))))))))))))))))
theorem zEM{S:List Nat}(sb db:Nat)(nm:ByteArray)(a:Nat)(vv ov:Value)(w:World)(c:Own w S [k9 sb db nm a vv false ov] w):Rets Tryz.prog 379 #[pt sb] w fun e d=>e= .tuple #[zW,Vi 8]∧Own w S [k9 sb db nm a vv false ov] d:=by
 refine zO Tryz.func379 O Tryz.ntmps379 c (zB (zF O (zF O (zA (zK (zU (zB (zC O (yE qF O O O (zF O (zA (yW O (zB (zC O (zV O O (zI (o:=6) O O (zJ 0 (v:=yC) O O O O (zF O (zA (yW O (zB (zC O (zV O O (zI (o:=4) O O (zJ 0 (v:=yC) O O O O (xo (b:=false) O O (zF O (zA (x0 O (zB (zF O (zF O (zA (zP (yg (v:=zW) (v':=Vi 8) O O O (fun d g=>⟨O,g⟩))))))))))))))))))))))))))))))))))))
theorem _root_.Go.Sc.qX{p:Prop}(h:p:=by first|omega|(simp only[ByteArray.size_append,zDx,List.size_toArray,List.length_cons,List.length_nil]<;>omega)):p:=h
theorem zJ3{S:List Nat}(sb db:Nat)(nm:ByteArray)(b:Nat)(vv ov:Value)(g:Bool)(n:Nat)(w:World)(p:n<100)(hb:zBR nm)(i:Own w S [k9 sb db nm b vv g ov] w):Rets Tryz.prog 213 #[pt sb,Vn n] w fun j e=>∃ (s:ByteArray),j= .string s∧kg s∧Own w S [k9 sb db nm b vv g ov] e:=by
 have k:=hb.1
 refine zO Tryz.func213 O Tryz.ntmps213 i (zB (zF O (zA (zK (zd [0] O V qF (fun e c a=>zD 0 O za a (zD 1 O (zY O) a (zD 2 O (zL (o:=1) O) a (zD 3 O (zZ 0 (v:= .string nm) O O O) a (zD 4 O (zHy O O qX) a (zD 5 O za a (zM 6 O c (zG O O (fun e c=>((zAO n e qH).mono ?_)))))))))))))))
 rintro _ l ⟨h,rfl,d,m⟩
 refine(?_:CL _ _ _ _ _ _ (Own w S [_])) l (c.qb m)
 refine zE [0] O V (fun e c a=>zD 7 O (zHy O O qX) a (zD 8 O yB a (zX ((?_:C _ _ _ _ _ _ _ (Own w S [_])) _ c))))
 exact zP (zm (v:= .string ((nm++(⟨#[46]⟩:ByteArray))++h)) O O (fun e c=>⟨(nm++(⟨#[46]⟩:ByteArray))++h,O,zHK hb d,c⟩))
theorem zJs{S:List Nat}(sb db:Nat)(nm:ByteArray)(D:DskD)(kf:List (ByteArray×FilD))(dv:Value)(data:List UInt8)(w:World)(hk:DskCl D)(hb:zBR nm)(hl:kf.length<4096)(hd:data.length≤60000)(hr:((tot kf+data.length+8:Nat):Int)≤D.room)(y:Own w S [k9 sb db nm 0 zW false zW,Res.dk db D kf] w)(p:Rd w S (Res.sl dv data.length (data.map vb))):Rets Tryz.prog 327 #[pt sb,dv] w fun u_ b=>∃ (v1 v2:Value) (la:Nat) (D':DskD) (f:FilD) (fn:ByteArray),u_=Vi 0∧DskCl D'∧D'.room=D.room∧f.bs.length≤((zl fn kf).getD kT).bs.length+data.length+8∧Own w S [k9 sb db nm la v1 true v2,Res.dk db D' (yZ fn f kf)] b:=by
 refine zO Tryz.func327 O Tryz.ntmps327 y (zB (zF O (zA (zK (zU (zB (zC O (yE qF O O O (zF O (zA (yW O (zB (zC O (zV O O (zI (o:=6) O O (zJ 0 (v:=yC) O O O O (zF O (zA (yW O (zB (zC O (zn (pR p) O O (yY O O O (zF O (zA (zT O (fun c3=> ?_) (fun c3=> ?_)))))))))))))))))))))))))))
 ·exact absurd c3 qG
 refine zN (zB (zC O (zG O O (fun b a=>(zFO dv data b qH (a.rd0 p)).mono ?_))))
 rintro _ m ⟨q,u,rfl,z,c⟩
 refine(?_:CL _ _ _ _ _ _ (Own w S [_,_,_])) m (a.qb c)
 refine zC O (zb (vs:=[q,Vi 0]) O O O (zb (vs:=[q,Vi 0]) O O O (zF O (zF O (zA (zB (zC O (zC O (zV O O (zI (o:=2) O O (zJ 0 (v:=Vn 0) O O O O (zr O O (yz qG) O (zG O O (fun b a=>(zJ3 sb db nm 0 zW zW false (0+1) b V ‹_› (a.give [0] O V)).mono ?_))))))))))))))
 rintro _ m ⟨g,rfl,r,c⟩
 refine fq [0] O a c (zF O (zA (zB (zC O (zC O (zV O O (zI (o:=0) O O (zJ 2 (v:=pt db) O O O O (zC O (zC O (zG O O (fun b a=>(zFU db _ _ g 0 q u b ‹_› r qH qH qH (a.give [0] O V) (a.rdVec 1 O [0] O O)).mono ?_))))))))))))
 rintro _ m ⟨D'4_,s,rfl,a0,h,j,c⟩
 have a5:=j
 have a1:=h
 have a6:=zAt (k:=g) (f:=s) (l:=kf)
 have a7:=hk.ok.room
 refine fq [0] O a c (zG O O (fun b a=>(zGg sb db nm 0 zW zW false b (a.give [1] O V)).mono ?_))
 rintro _ m ⟨rfl,c⟩
 refine fq [1] O a c (zF O (zA (zK (zB (zC O (yT O O O (zA (zT O (fun c4=> ?_) (fun c4=> ?_)))))))))
 ·refine zB (zC O (zV O O (zI (o:=2) O O (zJ 2 (v:=Vn 0) O O O O (zr O O (yz qG) O (zV O O (zI (o:=2) O O (zi 2 O O O O O (zA (ze (zC O (zC O (zV O O (zI (o:=0) O O (zJ 2 (v:=pt db) O O O O (zG O O (fun b a=>(zFT db D'4_ (yZ g s kf) b ‹_› qG (a.give [1] O V)).mono ?_)))))))))))))))))
  rintro _ m ⟨D'6_,rfl,n,d,c⟩
  have a2:=n
  have a3:=d
  refine fq [1] O a c (zG O O (fun b a=>(zGg sb db nm (0+1) zW zW false b (a.give [1] O V)).mono ?_))
  rintro _ m ⟨rfl,c⟩
  refine fq [1] O a c (zF O (zA (zK (zB (zC O (yf O O O (zA (zT O (fun c5=> ?_) (fun c5=> ?_)))))))))
  ·exact absurd O c5
  refine zN (zB (zC O (zC O (zC O (zG O O (fun b a=>(y3 dv data b qI (a.rd0 p)).mono ?_))))))
  rintro a4 m ⟨_,rfl,c⟩
  refine(?_:CL _ _ _ _ _ _ (Own w S [_,_,_,_])) m (a.qb c)
  refine zV O O (zI (o:=3) O O (zS (fun b a=>Own.qa (i:=3) O a) (fun x=>(zi 2 O O O x O (zV O O (zI (o:=4) O O (zi 2 O O O O O (zA (zB (zC O (zG O O (fun b a=>(zED sb db nm (0+1) a4 true b (a.give [2] O V)).mono ?_))))))))))))
  rintro _ m ⟨rfl,c⟩
  refine fq [2] O a c (zF O (zA (zB (zC O (zC O (yH (e:=9) (sz:=1) (vs:=[.string g]) qF O O qL V O (fun a8=>zV O O (zI (o:=5) O O (zi 3 O O O O O (zA (zB (zC O (zF O (zA (zP (zm (v:=Vi 0) O O (fun b a=>⟨_,_,_,_,s,g,O,a2,a3.trans a1,qG,a.sel [3,1] O V⟩)))))))))))))))))
 exact absurd O c4
end Go.Proofs.YthpoddkmhfhboaaGreatDoor
