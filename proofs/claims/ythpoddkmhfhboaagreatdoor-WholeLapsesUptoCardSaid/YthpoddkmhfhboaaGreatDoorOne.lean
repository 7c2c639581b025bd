import Derived.RangeFuncRecord
import Derived.Test.YthpoddkmhfhboaaGreatDoorWdP
set_option linter.unusedSimpArgs false
set_option linter.unusedVariables false
set_option linter.unusedSectionVars false
namespace Go.Sc
theorem zD1:∀ (L Ls:List Res),(List.range' Ls.length L.length).mapM (fun i=>(Ls++L)[i]?)=some L
 | [],Ls=>rfl
 |r::L,Ls=>by
   have a:=zD1 L (Ls++[r])
   rw[List.length_cons,List.range'_succ,List.mapM_cons]
   have b:(Ls++r::L)[Ls.length]?=some r:=by simp
   rw[b]
   simp only[List.append_assoc,List.cons_append,List.nil_append,List.length_append,List.length_cons,List.length_nil]at a
   simp only[Option.bind_eq_bind,Option.bind_some]
   rw[a]
   rfl
theorem zCo:∀ (Ls:List Res) (i k:Nat) (L:List Res),k=i+Ls.length→y5 (List.range' k L.length) i (Ls++L)=Ls
 | [],i,k,L,h=>by
   subst h
   have:∀ (L:List Res) (m:List Nat) (i:Nat),(∀ j,i≤j→j<i+L.length→j∈m)→y5 m i L=[]:=by
     intro L
     induction L with
     |nil=>intro m i _;rfl
     |cons r L ih=>
       intro m i hm
       unfold y5
       have:m.any (Nat.beq i)=true:=List.any_eq_true.2 ⟨i,hm i (Nat.le_refl _) qJ,Nat.beq_refl i⟩
       rw[this]
       exact ih m (i+1) fun j h1 h2=>hm j qG (by simp only[List.length_cons];omega)
   refine this L _ _ fun j h1 h2=>List.mem_range'_1.2 ⟨by simpa using h1,by simpa using h2⟩
 |r::Ls,i,k,L,h=>by
   have a:(List.range' k L.length).any (Nat.beq i)=false:=by
     rw[List.any_eq_false]
     intro j hj hb
     have:=(List.mem_range'_1.1 hj).1
     have:=Nat.eq_of_beq_eq_true hb
     simp only[List.length_cons]at h
     omega
   show y5 _ i (r::(Ls++L))=_
   unfold y5
   rw[a]
   show r::_=_
   rw[zCo Ls (i+1) k L (by simp only[List.length_cons]at h;omega)]
theorem zB9:∀ (n k:Nat),(List.range' k n).Nodup
 |0,k=>by simp
 |n+1,k=>by
   rw[List.range'_succ,List.nodup_cons]
   exact⟨fun h=>by have:=(List.mem_range'_1.1 h).1;omega,zB9 n (k+1)⟩
section
variable {w0 w w':World} {S:List Nat} {L L' Ls:List Res}
theorem Own.giveEnd(h:Own w0 S (Ls++L) w):Own w (xL L) L w:=h.give _ (zD1 L Ls) (zB9 _ _)
theorem Own.frameEnd(h:Own w0 S (Ls++L) w)(a:Own w (xL L) L' w'):Own w0 S (Ls++L') w':=by
 have:=h.qc _ (zD1 L Ls) a
 rwa [zCo Ls 0 _ L qG]at this
theorem zHs{P:Program}{n:Nat}{ops:Array Oper}{N:K}{f:Nat→Value}{rest:List Oper}{d:Nat}{ty t:TypeId}{p:String}{af:Array Edge}{x:Operand}{v:Value}(a:ev f x=v)(h1:cell1 v=true)(c:Nat.blt d n=true)(k:∀ b,CL P n ops rest N (upd f d (.pointer (some ⟨b,0,none⟩))) (Own w0 S (L++[Res.row b t [v]]))):
   CL P n ops (⟨some d, .box t x,ty,p,af,none⟩::rest) N f (Own w0 S L):=
 zj a c fun b=>by rw[kz h1];exact k b
def Res.obj(b:Nat)(o:Obj):Res where
 fp:=[b]
 φ w:=w.heap[b]?=some o
 st w w' h hb:=by show w'.heap[b]?=_;rw[hb b qJ];exact h
 lt w h b' hb':=by simp at hb';subst hb';exact(Array.getElem?_eq_some_iff.1 h).1
theorem Own.putObj{i b:Nat}{o:Obj}(a:Obj)(h:Own w0 S L w)(d:L[i]?=some (Res.obj b o)):Own w0 S (L.set i (Res.obj b a)) (w.putObj b a):=by
 have hb:b<w.heap.size:=h.lt d b (by simp[Res.obj])
 have:=h.frame1 (r':=Res.obj b a) (E:=[]) d (Own.mk1 (w':=w.putObj b a) ⟨rfl,rfl,rfl,by simp,fun k f e=> ?_⟩ (World.putObj_heap_same hb) (fun g c=> .inl c))
 · simpa using this
 simp only[Res.obj,List.mem_singleton]at e
 exact World.putObj_heap_other e
theorem Own.newObj(h:Own w0 S L w)(o:Obj):Own w0 S (L++[Res.obj w.heap.size o]) (w.alloc o):=
 h.qb (Own.mk1 ⟨rfl,rfl,rfl,by simp,fun k a _=>heap_alloc_old w _ a⟩ (World.alloc_heap_new w o) (fun b hb=>by simp[Res.obj]at hb;right;omega))
end
def Wd(ro:Option Nat):Fence:={Fence.wide with round:=ro}
def xU(l:List Oper):Bool:=l.all fun o=>match o.op with| .defer _=>false|_=>true
section
variable {P:Program} {n:Nat} {ops:Array Oper}
theorem zBc{ro:Option Nat}{m:Nat}{g:FuncId}{args:Array Value}{w:World}{R:Ending→World→Prop}(h:Calls P g args w R):CallsIn (Wd ro) m P g args w R:=by
 have:=callsIn_wide (n:=m).2 h
 cases ro with
 |none=>exact this
 |some l=>exact this
theorem zCN{ro:Option Nat}{m:Nat}{row:String}{args:Array Value}{w:World}{R:Value→World→Prop}(h:Rows P row args w R):RowsIn (Wd ro) m P row args w R:=by
 intro c cs _
 obtain⟨v,a,r,s⟩:=h c cs
 refine⟨v,a,r,?_⟩
 have e:Machine.fenced P (Wd ro)=Machine.fenced P Fence.wide:=by cases ro<;>rfl
 rw[e]
 exact stepsIn_wide.2 s
theorem zCs{ro:Option Nat}{m:Nat}{Q:Exit→Act→World→Prop}(g:¬ LetsOut Q):∀ (l:List Oper) (a:Act) (w:World),xU l=true→wpList P ops Q l a w→wpListIn (Wd ro) m P ops Q l a w
 | [],a,w,_,h=>h
 |o::l,a,w,hn,h=>by
   simp only[xU,List.all_cons,Bool.and_eq_true]at hn
   have d:=fun a w=>zCs (m:=m) (ro:=ro) g l a w hn.2
   unfold wpList at h
   unfold wpListIn
   split
   · rename_i hw
     rw[if_pos hw]at h
     have h:=h.resolve_right fun q=>g q.2
     refine⟨fun _ _=>trivial,?_⟩
     rw[Oper.semAt_eq _ _ _ (fun c i=>by rw[i]at hn;simp at hn)]
     unfold Oper.wp at h
     generalize (execOp a.eval o).run P w=r at h ⊢
     cases r with
     |ok nx w'=>
       cases nx<;>simp only[Oper.upon,Oper.uponIn]at h ⊢ <;>
         first
           |exact h.elim
           |exact d _ _ h
           |exact⟨fun q=>by simp[Wd,Fence.wide]at q,(zBc h).mono fun e f b=>by
               cases e with
               |returned v=>exact d _ _ b
               |panicked c=>exact b
               |outgrown=>exact b⟩
           |exact⟨fun q=>by simp[Wd,Fence.wide]at q,(zCN h).mono fun v f b=>d _ _ b⟩
     |halt x w'=>cases x<;>simp only[Oper.upon,Oper.uponIn]at h ⊢ <;>exact h
   rename_i hw
   rw[if_neg hw]at h
   exact⟨fun _ _=>trivial,d _ _ h⟩
theorem jq{N:K}:¬ LetsOut (kO n N):=by rintro⟨a,w,h⟩;exact h
theorem kR{ro:Option Nat}{m i:Nat}{l:List Oper}{N:K}{f:Nat→Value}{w:World}(b:xU l=true)(h:WL P n l.toArray l N f w):∀ a,Rep n f a→(Code.region i l.toArray false).wpIn (Wd ro) m P (kO n N) a w:=
 fun a c=>wpIn_region_lit (zCs jq l a w b (h a c))
def zMm{α:Type}(P:Program)(l:Nat)(enc:α→Value)(N:Nat)(J:List α→List Res→Prop):Prop:=
 ∀ pre x L w,J pre L→pre.length<N→Own w (xL L) L w→∃ fn tmps asg body,(Instr.yield l #[enc x]).run P w= .ok (.round l fn tmps asg body) w∧
   RoundIn Fence.wide 0 P l fn tmps asg body w fun e w'=>e= .returned (.bool true)∧∃ L',J (pre++[x]) L'∧Own w (xL L) L' w'
def zFz{α:Type}(P:Program)(g:FuncId)(lb:List Value)(enc:α→Value)(Sx:List α→Prop)(N:Nat)(Ls:List Res):Prop:=
 ∀ (l:Nat) (J:List α→List Res→Prop) (L:List Res) (w:World),zMm P l enc N J→J [] L→Own w (xL (Ls++L)) (Ls++L) w→
   Rets P g (.func (.yield l) #[] #[]::lb).toArray w fun _ w'=>∃ xs L',Sx xs∧J xs L'∧Own w (xL (Ls++L)) (Ls++L') w'
def RepD(n:Nat)(ds:List Deferred)(f:Nat→Value)(a:Act):Prop:=Rep n f {a with defers:=[]}∧a.defers=ds
theorem RepD.of{f:Nat→Value}{a:Act}(h:Rep n f a):RepD n [] f a:=⟨by have:=h.defers;cases a;simp only at this;subst this;exact h,h.defers⟩
theorem RepD.rep{f:Nat→Value}{a:Act}(h:RepD n [] f a):Rep n f a:=by
 obtain⟨h1,h2⟩:=h
 cases a
 simp only at h2;subst h2
 exact h1
theorem RepD.eval{f:Nat→Value}{a:Act}{ds:List Deferred}(h:RepD n ds f a):a.eval=ev f:=h.1.eval (a:={a with defers:=[]})
theorem RepD.put{f:Nat→Value}{a:Act}{ds:List Deferred}(h:RepD n ds f a){d:Nat}(b:d<n)(v:Value):RepD n ds (upd f d v) (a.put (some d) v):=⟨h.1.put b v,h.2⟩
def zJE(n:Nat)(ds:List Deferred)(N:K):Exit→Act→World→Prop
 | .normal,a,w=>∃ f,RepD n ds f a∧N f w
 |_,_,_=>False
def IL(P:Program)(n:Nat)(ds:List Deferred)(ops:Array Oper)(l:List Oper)(N:K)(f:Nat→Value)(A:World→Prop):Prop:=∀ w,A w→∀ a,RepD n ds f a→wpListIn (Wd none) 0 P ops (zJE n ds N) l a w
variable {f:Nat→Value} {A:World→Prop} {rest:List Oper} {d:Nat} {ty:TypeId} {p:String} {af:Array Edge} {N R:K} {X:List (Nat×K)} {ds:List Deferred}
theorem zEL:∀ e a w,zJE n [] N e a w→post n N R X e a w:=by
 intro e a w h
 cases e<;>first|exact h.elim|exact(let ⟨f,h1,h2⟩:=h;⟨f,h1.rep,h2⟩)
theorem zRh{id:Nat}{l:List Oper}(h:IL P n [] l.toArray l N f A):C P n (.region id l.toArray false) N R X f A:=fun w b a c=>
 wpIn_wide.1 (wpIn_mono (wpIn_region_lit (F:=Fence.wide) (n:=0) (h w b a (RepD.of c))) zEL)
theorem zBo{id:Nat}{l:List Oper}{y:Code}(h:IL P n [] l.toArray l (fun f w=>W P n y N R X f w) f A):C P n (.seq (.region id l.toArray false) y) N R X f A:=zK (zRh h)
theorem zKg(h:∀ w,A w→N f w):IL P n ds ops [] N f A:=fun w b a c=>⟨f,c,h w b⟩
theorem zF3{c:Code}{M:K}(h:C P n c M R X f A):IL P n ds ops [] (fun f w=>W P n c M R X f w) f A:=fun w b a d=>⟨f,d,h w b⟩
theorem xm{op:Op}{v:Value}(b:Nat.blt d n=true)(hv:RV P f ⟨some d,op,ty,p,af,none⟩ A v)(k:IL P n ds ops rest N (upd f d v) A):IL P n ds ops (⟨some d,op,ty,p,af,none⟩::rest) N f A:=by
 intro w hw a ha
 unfold wpListIn
 rw[if_pos qV]
 refine⟨fun _ _=>trivial,?_⟩
 show Oper.uponIn _ _ _ _ _ _ _ ((execOp a.eval _).run P w)
 rw[ha.eval,hv w hw]
 exact k w hw _ (ha.put (by simpa [Nat.blt_eq]using b) v)
theorem zDA{α:Type}{enc:α→Value}{s l M:Nat}{x:Operand}{ats:Array TypeId}{J:List α→List Res→Prop}{w0:World}{S:List Nat}{L:List Res}{pre:List α}(Ls:List Res)(e:α)(Y:zMm P l enc M J)(i:f s= .func (.yield l) #[] #[])(j:ev f x=enc e)
   (m:J pre L) (r:pre.length<M) (t:Nat.blt d n=true) (k:∀ L',J (pre++[e]) L'→IL P n ds ops rest N (upd f d xx) (Own w0 S (Ls++L'))):IL P n ds ops (⟨some d, .call ⟨.value (.tmp s),#[x],ats⟩,ty,p,af,none⟩::rest) N f (Own w0 S (Ls++L)):=by
 intro w hw a ha
 unfold wpListIn
 rw[if_pos qV]
 refine⟨fun _ _=>trivial,?_⟩
 have u:∀ o,Oper.semAt (Wd none).round a.eval o=execOp a.eval o:=fun _=>rfl
 rw[u]
 obtain⟨v,b,g,c,y,z⟩:=Y pre e L w m r hw.giveEnd
 have he:(execOp (ev f) ⟨some d, .call ⟨.value (.tmp s),#[x],ats⟩,ty,p,af,none⟩).run P w= .ok (.round l v b g c) w:=by
   simp[execOp,resolve,show ev f (.tmp s)=f s from rfl,i,Deferred.ofValue,invoke,j,y]
 rw[ha.eval,he]
 refine⟨fun q=>by simp[Wd,Fence.wide]at q,RoundIn.mono (F:=Fence.wide) z ?_⟩
 rintro _ w' ⟨rfl,L',h,hO⟩
 exact k L' h w' (hw.frameEnd hO) _ (ha.put (by simpa [Nat.blt_eq]using t) _)
end
section
variable {w0 w w':World} {S:List Nat} {L L' Ls:List Res}
theorem Own.swapAt(Lp:List Res)(r s:Res)(L:List Res)(h:Own w0 S (Lp++r::s::L) w):Own w0 S (Lp++s::r::L) w:=by
 have a:∀ (x y:Res) (i:Nat),(Lp++x::y::L)[i]?=if i<Lp.length then Lp[i]? else if i=Lp.length then some x else if i=Lp.length+1 then some y else L[i - Lp.length - 2]?:=by
   intro x y i
   rw[List.getElem?_append]
   split
   · rfl
   cases hi:i - Lp.length with
   |zero=>rw[if_pos qG];rfl
   |succ k=>
     rw[if_neg qG]
     cases k with
     |zero=>rw[if_pos qG];rfl
     |succ k=>rw[if_neg qG,show k+1+1 - 2=k by omega];rfl
 refine h.pick (fun i=>if i=Lp.length then Lp.length+1 else if i=Lp.length+1 then Lp.length else i) ?_ ?_
 · intro i x hx
   rw[a]at hx ⊢
   by_cases h1:i=Lp.length
   · rw[if_neg qG,if_pos h1]at hx
     rw[if_pos h1,if_neg qG,if_neg qG,if_pos rfl];exact hx
   rw[if_neg h1]
   by_cases h2:i=Lp.length+1
   · rw[if_neg qG,if_neg qG,if_pos h2]at hx
     rw[if_pos h2,if_neg qG,if_pos rfl];exact hx
   rw[if_neg h2]
   rw[if_neg h1,if_neg h2]at hx
   rw[if_neg h1,if_neg h2];exact hx
 intro i j _ _ hij
 split at hij<;>split at hij<;>(try split at hij)<;>(try split at hij)<;>omega
theorem Own.perm(hp:L.Perm L')(h:Own w0 S L w):Own w0 S L' w:=by
 suffices ∀ {L L':List Res},L.Perm L'→∀ Lp,Own w0 S (Lp++L) w→Own w0 S (Lp++L') w from this hp [] h
 intro L L' hp
 induction hp with
 |nil=>exact fun _ h=>h
 |cons x _ ih=>intro Lp h;have:=ih (Lp++[x]) (by simpa using h);simpa using this
 |swap x y l=>intro Lp h;exact h.swapAt
 |trans _ _ ih1 ih2=>exact fun Lp h=>ih2 Lp (ih1 Lp h)
theorem Own.tail{r:Res}(h:Own w0 S (r::L) w):Own w0 S L w:=by
 refine h.pick (· +1) (fun i x a=>by simpa using a) (fun i j _ _ h=>by omega)
end
section
variable {P:Program} {n:Nat} {fn:Func} {g:FuncId}
theorem zI6(args:List Value)(n:Nat)(hl:args.length≤n):Rep n (ini args) {tmps:=args.toArray++Array.replicate (n - args.toArray.size) undef,defers:=[]}:=by
 refine⟨by simp;omega,O,fun t=> ?_⟩
 simp only[Array.getD_eq_getD_getElem?]
 have:∀ (l:List Value) (m t:Nat),((l.toArray++Array.replicate m undef)[t]?).getD undef=ini l t:=by
   intro l
   induction l with
   |nil=>intro m t;simp[ini,Array.getElem?_replicate];split<;>rfl
   |cons v l ih=>
     intro m t
     cases t with
     |zero=>simp[ini,Array.getElem?_append]
     |succ t=>
       have:=ih m t
       simp only[ini]
       rw[←this]
       simp[Array.getElem?_append]
 exact this _ _ _
def RF(P:Program)(fn:Func)(n:Nat)(c1 c2:Code)(R:Value→World→Prop):K:=fun f w=>∀ a,Rep n f a→
 c1.wpIn Fence.wide 0 P (Exit.then (c2.wpIn Fence.wide 0 P (bodyPostM Fence.wide 0 P fn fun e w'=>∃ v,e= .returned v∧R v w')) (bodyPostM Fence.wide 0 P fn fun e w'=>∃ v,e= .returned v∧R v w')) a w
theorem zCQ{i0 i1:Nat}{l0 l1:List Oper}{c1 c2:Code}{args:List Value}{A:World→Prop}{w:World}{R:Value→World→Prop}(j:P.funcs[g]?=some fn)(hb:fn.body=some (.seq (.region i0 l0.toArray false) (.seq (.seq (.region i1 l1.toArray false) c1) c2)))
   (k:fn.ntmps=n) (hl:Nat.ble args.length n=true) (b:xU l0=true) (c:xU l1=true) (l:A w) (h:CL P n l0.toArray l0 (fun f w=>WL P n l1.toArray l1 (RF P fn n c1 c2 R) f w) (ini args) A):Rets P g args.toArray w R:=by
 subst k
 refine callsIn_wide (n:=0).1 (callsIn_of_wp_marks j hb trivial (wpIn_seq (wpIn_mono (kR (ro:=none) (m:=0) b (h w l) _ (zI6 args fn.ntmps (Nat.le_of_ble_eq_true hl))) ?_)))
 intro e a w hq
 cases e<;>first|exact hq.elim|skip
 obtain⟨f,d,i⟩:=hq
 refine wpIn_seq (wpIn_seq (wpIn_mono (kR (ro:=none) (m:=0) c i a d) ?_))
 intro e a w hq
 cases e<;>first|exact hq.elim|skip
 obtain⟨f,d,i⟩:=hq
 refine wpIn_mono (i a d) ?_
 intro e a w hq
 cases e<;>exact hq
theorem zE8{α:Type}{enc:α→Value}{Sx:List α→Prop}{N s p q i2 b0 b1 i3:Nat}{sg:FuncId}{lb:List Value}{Ls Lu:List Res}{Ju:List α→List Res→Prop}{l2 l3:List Oper}{f:Nat→Value}{w0 w:World}{S:List Nat}{c2:Code}{R:Value→World→Prop}
   (hs:f s= .func (.func sg) #[] lb.toArray) (o:x9 P sg=true) (y:zFz P sg lb enc Sx N Ls) (h0:Ju [] Lu) (hw:Own w0 S (Ls++Lu) w) (hp:Nat.blt p n=true) (a5:xU l2=true) (a6:xU l3=true)
   (c:∀ x w,WL P n l2.toArray l2 (fun f' j=>f'=upd (upd f p (enc x)) q (enc x)∧j=w) (upd f p (enc x)) w)
   (d:∀ b x L w,Ju b L→b.length<N→CL P n l3.toArray l3 (fun _ j=>∃ L',Ju (b++[x]) L'∧Own w (xL L) L' j) (upd (upd f p (enc x)) q (enc x)) (Own w (xL L) L))
   (r:∀ xs L' D j,Sx xs→Ju xs L'→Own w0 S (Res.obj D (.deferred (some []))::(Ls++L')) j→∀ a,RepD n [{target:= .collected D,args:= #[]}] f a→c2.wpIn Fence.wide 0 P (bodyPostM Fence.wide 0 P fn fun e j=>∃ v,e= .returned v∧R v j) a j):
   RF P fn n (.block b0 (.rangeFunc (.tmp s) #[p] (.region i2 l2.toArray false) (.block b1 (.region i3 l3.toArray false)))) c2 R f w:=by
 intro a ha
 refine wpIn_block (wpIn_rangeFunc ?_)
 intro fid _
 obtain⟨rc,hrc⟩:∃ rc:LoopState→Option Code→Loop,rc=fun st pe=>{state:=st,pending:=pe,fn:=fid,tmps:=a.tmps,params:= #[p],assign:= .region i2 l2.toArray false,body:= .block b1 (.region i3 l3.toArray false),defers:=w.heap.size}:=⟨_,rfl⟩
 have a7:Own w0 S (Res.obj w.heap.size (.deferred (some []))::(Ls++Res.obj (w.heap.size+1) (.loop (rc .ready none))::Lu)) ((w.alloc (.deferred (some []))).alloc (.loop (rc .ready none))):=by
   have h1:=(hw.newObj (.deferred (some []))).newObj (.loop (rc .ready none))
   rw[World.size_alloc]at h1
   refine h1.perm ?_
   rw[List.append_assoc]
   exact List.perm_append_comm.trans (List.Perm.cons _ (show(Res.obj (w.heap.size+1) (.loop (rc .ready none))::(Ls++Lu)).Perm _ from List.perm_middle.symm))
 refine⟨w.heap.size+1,[{target:= .collected w.heap.size,args:= #[]}],(w.alloc (.deferred (some []))).alloc (.loop (rc .ready none)),{target:= .fn (.func sg) lb.toArray,args:= #[.func (.yield (w.heap.size+1)) #[] #[]]},(w.alloc (.deferred (some []))).alloc (.loop (rc .ready none)),sg,#[.func (.yield (w.heap.size+1)) #[] #[]]++lb.toArray,(w.alloc (.deferred (some []))).alloc (.loop (rc .ready none)),
   by rw[hrc];exact run_enterLoop_outer _ _ _ _ _,?_,fun _ _=>trivial,?_,fun q=>by simp[Fence.wide]at q,?_⟩
 · simp[resolve,ha.eval,ev,hs,Deferred.ofValue]
 · have:=ku o ((w.alloc (.deferred (some []))).alloc (.loop (rc .ready none))) (#[.func (.yield (w.heap.size+1)) #[] #[]]++lb.toArray)
   simp only[invoke]
   exact this
 rw[show(#[Value.func (.yield (w.heap.size+1)) #[] #[]]++lb.toArray)=(.func (.yield (w.heap.size+1)) #[] #[]::lb).toArray by simp]
 have k:Own w0 S ([Res.obj w.heap.size (.deferred (some []))]++(Ls++Res.obj (w.heap.size+1) (.loop (rc .ready none))::Lu)) ((w.alloc (.deferred (some []))).alloc (.loop (rc .ready none))):=a7
 refine callsIn_wide.2 (Calls.mono (y (w.heap.size+1) (fun b L=>∃ L1,L=Res.obj (w.heap.size+1) (.loop (rc .ready none))::L1∧Ju b L1) _ _ ?_ ⟨Lu,O,h0⟩ k.giveEnd) ?_)
 · -- a round
   rintro b x L u ⟨L1,rfl,hJ⟩ z hO
   have hl:u.heap[w.heap.size+1]?=some (.loop (rc .ready none)):=hO.holds 0 _ rfl
   have hy:(Instr.yield (w.heap.size+1) #[enc x]).run P u= .ok (.round (w.heap.size+1) fid (a.tmps.setIfInBounds p (enc x)) (.region i2 l2.toArray false) (.block b1 (.region i3 l3.toArray false))) u:=by
     have h:=run_yield (P:=P) (args:= #[enc x]) hl (by rw[hrc];rfl)
     rw[h,hrc]
     simp
   refine⟨_,_,_,_,hy,?_⟩
   have a0:Rep n (upd f p (enc x)) {tmps:=a.tmps.setIfInBounds p (enc x),defers:=[]}:=by
     have h1:=ha.put (by simpa [Nat.blt_eq]using hp) (enc x)
     have h2:=ha.defers
     cases a
     simp only at h2;subst h2
     exact h1
   refine roundIn_of_wpIn trivial (wpIn_mono (kR (ro:=some (w.heap.size+1)) (m:=0) a5 (c x u) _ a0) ?_)
   intro e a2 w2 hq
   cases e<;>first|exact hq.elim|skip
   obtain⟨f',a1,a8,a9⟩:=hq
   rw[a8]at a1
   rw[a9]
   have g:=hO.putObj (i:=0) (.loop {rc .ready none with state:= .busy}) rfl
   have l:Own u (xL (Res.obj (w.heap.size+1) (.loop (rc .ready none))::L1)) ([Res.obj (w.heap.size+1) (.loop {rc .ready none with state:= .busy})]++L1) (u.putObj (w.heap.size+1) (.loop {rc .ready none with state:= .busy})):=g
   refine⟨_,run_beginRound hl (by rw[hrc]),(wpIn_block (wpIn_mono (kR (ro:=some (w.heap.size+1)) (m:=0) a6 (d b x L1 _ hJ z _ l.giveEnd) a2 a1) ?_))⟩
   intro e a3 w3 hq
   cases e<;>first|exact hq.elim|skip
   obtain⟨f3,ad,L',aa,t⟩:=hq
   have a4:=l.frameEnd t
   have ab:w3.heap[w.heap.size+1]?=some (.loop {rc .ready none with state:= .busy}):=a4.holds 0 _ rfl
   have he:=run_endRound (P:=P) none ab
   refine⟨_,_,he,O,Res.obj (w.heap.size+1) (.loop (rc .ready none))::L',⟨L',O,aa⟩,?_⟩
   have ac:=a4.putObj (i:=0) (.loop (rc .ready none)) rfl
   have e1:(.loop {{rc .ready none with state:= .busy}with state:=if(none:Option Code).isNone then .ready else .done,pending:=none}:Obj)= .loop (rc .ready none):=by rw[hrc];rfl
   rw[e1]
   exact ac
 rintro _ w2 ⟨v,rfl,xs,L',hS,⟨L1,rfl,hJ⟩,hO⟩
 have g:=(show Own w0 S _ _ from k.frameEnd hO).perm (show([Res.obj w.heap.size (.deferred (some []))]++(Ls++Res.obj (w.heap.size+1) (.loop (rc .ready none))::L1)).Perm (Res.obj (w.heap.size+1) (.loop (rc .ready none))::Res.obj w.heap.size (.deferred (some []))::(Ls++L1))from
   (List.Perm.cons _ List.perm_middle).trans (.swap _ _ _))
 have hl:w2.heap[w.heap.size+1]?=some (.loop (rc .ready none)):=g.holds 0 _ rfl
 refine⟨none,w2.putObj (w.heap.size+1) (.loop (rc .exhausted none)),by rw[run_endLoop (P:=P) hl (by rw[hrc];simp),hrc],?_⟩
 have t:=(g.putObj (i:=0) (.loop (rc .exhausted none)) rfl).tail
 show Exit.inBlock b0 _ .normal _ _
 refine r xs L1 w.heap.size _ hS hJ t _ ⟨?_,?_⟩
 · have h2:=ha.defers
   cases a
   simp only at h2;subst h2
   exact ha
 show _++a.defers=_
 rw[ha.defers];rfl
theorem zIA{t i4:Nat}{v:Value}{l4:List Oper}{f:Nat→Value}{w0 w:World}{S:List Nat}{L:List Res}{D:Nat}{R:Value→World→Prop}(k:fn.results= #[.tmp t])
   (h:IL P n [{target:= .collected D,args:= #[]}] l4.toArray l4 (fun g c=>g t=v∧Own w0 S (Res.obj D (.deferred (some []))::L) c) f (Own w0 S (Res.obj D (.deferred (some []))::L))) (l:Own w0 S (Res.obj D (.deferred (some []))::L) w)
   (m:∀ w'',Own w0 S L w''→R v w''):∀ a,RepD n [{target:= .collected D,args:= #[]}] f a→(Code.seq (.region i4 l4.toArray false) .ret).wpIn Fence.wide 0 P (bodyPostM Fence.wide 0 P fn fun e c=>∃ v,e= .returned v∧R v c) a w:=by
 intro a ha
 refine wpIn_seq (wpIn_mono (wpIn_region_lit (F:=Fence.wide) (n:=0) (h w l a ha)) ?_)
 intro e a w hq
 cases e<;>first|exact hq.elim|skip
 obtain⟨g,b,hv,j⟩:=hq
 refine wpIn_ret ?_
 show LeavesInM Fence.wide 0 P fn a.tmps _ a.defers .returning w
 rw[b.2]
 refine⟨by simp, .inl ⟨D,_,O,run_takeDeferred (j.holds 0 _ O),?_⟩⟩
 have d:=(j.putObj (i:=0) (.deferred none) rfl).tail
 refine⟨v,?_,v,O,m _ d⟩
 have:=b.1.get t
 rw[results_tmp k,this,hv]
end
end Go.Sc
set_option maxRecDepth 10000
namespace Go.Proofs.YthpoddkmhfhboaaGreatDoor
open Go.Sc
def zR8(a b:Int):Int:=IntKind.u64.wrap (((a%2 ^ IntKind.u64.bits).toNat ^^^ (b%2 ^ IntKind.u64.bits).toNat:Nat):Int)
def zTX(a b:Int):Int:=IntKind.u64.wrap (a*2 ^ (min b.toNat IntKind.u64.bits))
def zUV(a b:Int):Int:=a.fdiv (2 ^ (min b.toNat IntKind.u64.bits))
def xs1(x:Int):Int:=zR8 x (zTX x 13)
def xs2(x:Int):Int:=zR8 (xs1 x) (zUV (xs1 x) 7)
def xs3(x:Int):Int:=zR8 (xs2 x) (zTX (xs2 x) 17)
theorem zNM(n:Nat)(w:World)(a:n<18446744073709551616):Rets Tryz.prog 203 #[.int .u64 (n:Nat)] w fun b c=>b= .int .i64 ((yK n):Nat)∧Own w [] [] c:=by
 exact zDb n a w
theorem zIV(n:Nat)(w:World)(g:n<18446744073709551616):Rets Tryz.prog 109 #[.int .u64 (n:Nat)] w fun c a=>c= .int .i64 ((yK n):Nat)∧Own w [] [] a:=by
 refine xi (args:=[.int .u64 (n:Nat)]) Tryz.func109 O Tryz.ntmps109 O (Own.start w) (zB (zF O (zA (zK (yW O (zN (zB (zC O (zCR qF O O (fun a b=>((zNM n a ‹_›).mono ?_)))))))))))
 rintro _ d ⟨rfl,e⟩
 refine(?_:CL _ _ _ _ _ _ (Own w [] [])) d (b.qb e)
 refine zF O (zA (zP (zm (v:= .int .i64 ((yK n):Nat)) O O (fun a b=>⟨O,b.drop⟩))))
theorem zQq{S:List Nat}(v:Value)(l:List Nat)(n:Nat)(w:World)(i:n≤1)(a:Own w S [Res.vec 31 1 v l.length (l.flatMap U1)] w):Rets Tryz.prog 193 #[v,Vj 0,Vj n] w fun e b=>e= .tuple #[]∧Own w S [Res.vec 31 1 v l.length (l.flatMap U1)] b:=by
 refine zO Tryz.func193 O Tryz.ntmps193 a (zB (zC O (zr O O (zt qG) O (zF O (zA (zU (yQ (fun(k:Nat)=>[(0,v),(1,Vj 0),(2,Vj n),(6,Vj k)]) (fun(k:Nat)=>k=1) (fun(k:Nat)=>[Res.vec 31 1 v l.length (l.flatMap U1)]) (fun(k:Nat)=>0) (fun b c=>⟨1,⟨O,O,O,O,trivial⟩,O,c⟩) (fun k g h=> ?_))))))))
 have j:=h
 refine zK (zB (zC O (zC O (zu O O O (zA (zT O (fun d=> ?_) (fun d=> ?_)))))))
 ·exact absurd d qG
 exact xy O (yq O (fun b c=>⟨O,c⟩))
theorem zSB{S:List Nat}(v:Value)(l:List Nat)(n:Nat)(b:Int)(w:World)(m:n≤1)(e:Own w S [Res.vec 31 1 v l.length (l.flatMap U1)] w):Rets Tryz.prog 108 #[v,Vj 0,Vj n,Vi b] w fun i d=>i= .tuple #[]∧Own w S [Res.vec 31 1 v l.length (l.flatMap U1)] d:=by
 refine zO Tryz.func108 O Tryz.ntmps108 e (zB (zF O (zA (zB (zF O (zA (zU (yQ (fun(k:Nat)=>[(0,v),(1,Vj 0),(2,Vj n),(3,Vi b),(8,xx),(9,xx)]) (fun(k:Nat)=>k=1) (fun(k:Nat)=>[Res.vec 31 1 v l.length (l.flatMap U1)]) (fun(k:Nat)=>0) (fun d a=>⟨1,⟨O,O,O,O,O,O,trivial⟩,O,a⟩) (fun k g o=>(zU (zB (zC O (zC O (y9 (c:=((n:Nat):Int)) O O (zt qG) O (zF O (zA (zK (zB (zC O (yx O O O (zA (zT O (fun h=> ?_) (fun h=> ?_)))))))))))))))))))))))
 ·refine zB (zC O (zC O (zC O (zG O O (fun d a=>(zQq v l n d qH (a.give [0] O V)).mono ?_)))))
  rintro _ p ⟨rfl,j⟩
  refine fq [0] O a j (zA (zP (yq O (fun d a=>⟨O,a⟩))))
 exact absurd h qG
theorem zFK{S:List Nat}(v:Value)(l:List Nat)(w:World)(hl:l.length≤1)(c:Own w S [Res.vec 31 1 v l.length (l.flatMap U1)] w):Rets Tryz.prog 72 #[v] w fun g a=>g= .tuple #[]∧Own w S [Res.vec 31 1 v l.length (l.flatMap U1)] a:=by
 refine zO Tryz.func72 O Tryz.ntmps72 c (zB (zC O (zn (pV 0 O) O O (zF O (zA (ze (zC O (zC O (zC O (yh qF O (yz qG) O ?_ qF))))))))))
 refine zG O O (fun a b=>(zIV l.length a qH).mono ?_)
 rintro _ e ⟨rfl,d⟩
 refine(?_:CL _ _ _ _ _ _ (Own w S [_])) e (b.qb d)
 refine zG O O (fun a b=>(zSB v l l.length (((yK l.length):Nat):Int) a qH (b.give [0] O V)).mono ?_)
 rintro _ e ⟨rfl,d⟩
 refine fq [0] O b d (zx (yq O (fun a b=>⟨O,b⟩)))
theorem zQ8{S:List Nat}(v:Value)(l:List Int)(n:Nat)(w:World)(i:n≤1)(a:Own w S [Res.vec 3 1 v l.length (l.flatMap I1)] w):Rets Tryz.prog 587 #[v,Vj 0,Vj n] w fun e b=>e= .tuple #[]∧Own w S [Res.vec 3 1 v l.length (l.flatMap I1)] b:=by
 refine zO Tryz.func587 O Tryz.ntmps587 a (zB (zC O (zr O O (zt qG) O (zF O (zA (zU (yQ (fun(k:Nat)=>[(0,v),(1,Vj 0),(2,Vj n),(6,Vj k)]) (fun(k:Nat)=>k=1) (fun(k:Nat)=>[Res.vec 3 1 v l.length (l.flatMap I1)]) (fun(k:Nat)=>0) (fun b c=>⟨1,⟨O,O,O,O,trivial⟩,O,c⟩) (fun k g h=> ?_))))))))
 have j:=h
 refine zK (zB (zC O (zC O (zu O O O (zA (zT O (fun d=> ?_) (fun d=> ?_)))))))
 ·exact absurd d qG
 exact xy O (yq O (fun b c=>⟨O,c⟩))
theorem zRC{S:List Nat}(v:Value)(l:List Int)(n:Nat)(b:Int)(w:World)(m:n≤1)(e:Own w S [Res.vec 3 1 v l.length (l.flatMap I1)] w):Rets Tryz.prog 555 #[v,Vj 0,Vj n,Vi b] w fun i d=>i= .tuple #[]∧Own w S [Res.vec 3 1 v l.length (l.flatMap I1)] d:=by
 refine zO Tryz.func555 O Tryz.ntmps555 e (zB (zF O (zA (zB (zF O (zA (zU (yQ (fun(k:Nat)=>[(0,v),(1,Vj 0),(2,Vj n),(3,Vi b),(8,xx),(9,xx)]) (fun(k:Nat)=>k=1) (fun(k:Nat)=>[Res.vec 3 1 v l.length (l.flatMap I1)]) (fun(k:Nat)=>0) (fun d a=>⟨1,⟨O,O,O,O,O,O,trivial⟩,O,a⟩) (fun k g o=>(zU (zB (zC O (zC O (y9 (c:=((n:Nat):Int)) O O (zt qG) O (zF O (zA (zK (zB (zC O (yx O O O (zA (zT O (fun h=> ?_) (fun h=> ?_)))))))))))))))))))))))
 ·refine zB (zC O (zC O (zC O (zG O O (fun d a=>(zQ8 v l n d qH (a.give [0] O V)).mono ?_)))))
  rintro _ p ⟨rfl,j⟩
  refine fq [0] O a j (zA (zP (yq O (fun d a=>⟨O,a⟩))))
 exact absurd h qG
theorem zOW{S:List Nat}(v:Value)(l:List Int)(w:World)(hl:l.length≤1)(c:Own w S [Res.vec 3 1 v l.length (l.flatMap I1)] w):Rets Tryz.prog 506 #[v] w fun g a=>g= .tuple #[]∧Own w S [Res.vec 3 1 v l.length (l.flatMap I1)] a:=by
 refine zO Tryz.func506 O Tryz.ntmps506 c (zB (zC O (zn (pV 0 O) O O (zF O (zA (ze (zC O (zC O (zC O (yh qF O (yz qG) O ?_ qF))))))))))
 refine zG O O (fun a b=>(zIV l.length a qH).mono ?_)
 rintro _ e ⟨rfl,d⟩
 refine(?_:CL _ _ _ _ _ _ (Own w S [_])) e (b.qb d)
 refine zG O O (fun a b=>(zRC v l l.length (((yK l.length):Nat):Int) a qH (b.give [0] O V)).mono ?_)
 rintro _ e ⟨rfl,d⟩
 refine fq [0] O b d (zx (yq O (fun a b=>⟨O,b⟩)))
end Go.Proofs.YthpoddkmhfhboaaGreatDoor
