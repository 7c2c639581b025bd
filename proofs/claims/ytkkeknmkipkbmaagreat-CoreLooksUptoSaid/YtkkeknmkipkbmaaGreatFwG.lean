import Derived.Test.YtkkeknmkipkbmaaGreatFwX
import Derived.Test.YtkkeknmkipkbmaaGreatFwT
import Derived.RangeFuncRecord
import Derived.TacticsIn
import Derived.Below
set_option linter.unusedSimpArgs false
set_option linter.unusedVariables false
set_option linter.unusedSectionVars false
namespace Go.Sc
theorem zDi:∀ (L Ls:List Res),(List.range' Ls.length L.length).mapM (fun i=>(Ls++L)[i]?)=some L
  | [],Ls=>rfl
  |r::L,Ls=>by
    have ih:=zDi L (Ls++[r])
    rw[List.length_cons,List.range'_succ,List.mapM_cons]
    have h0:(Ls++r::L)[Ls.length]?=some r:=by simp
    rw[h0]
    simp only[List.append_assoc,List.cons_append,List.nil_append,List.length_append,List.length_cons,List.length_nil]at ih
    simp only[Option.bind_eq_bind,Option.bind_some]
    rw[ih]
    rfl
theorem zCj:∀ (Ls:List Res) (i k:Nat) (L:List Res),k=i+Ls.length→yp (List.range' k L.length) i (Ls++L)=Ls
  | [],i,k,L,h=>by
    subst h
    have:∀ (L:List Res) (m:List Nat) (i:Nat),(∀ j,i≤j→j<i+L.length→j∈m)→yp m i L=[]:=by
      intro L
      induction L with
      |nil=>intro m i _;rfl
      |cons r L ih=>
        intro m i hm
        unfold yp
        have:m.any (Nat.beq i)=true:=List.any_eq_true.2 ⟨i,hm i (Nat.le_refl _) qQ,Nat.beq_refl i⟩
        rw[this]
        exact ih m (i+1) fun j h1 h2=>hm j V (by simp only[List.length_cons];omega)
    refine this L _ _ fun j h1 h2=>List.mem_range'_1.2 ⟨by simpa using h1,by simpa using h2⟩
  |r::Ls,i,k,L,h=>by
    have h0:(List.range' k L.length).any (Nat.beq i)=false:=by
      rw[List.any_eq_false]
      intro j hj hb
      have:=(List.mem_range'_1.1 hj).1
      have:=Nat.eq_of_beq_eq_true hb
      simp only[List.length_cons]at h
      omega
    show yp _ i (r::(Ls++L))=_
    unfold yp
    rw[h0]
    show r::_=_
    rw[zCj Ls (i+1) k L (by simp only[List.length_cons]at h;omega)]
theorem zBd:∀ (n k:Nat),(List.range' k n).Nodup
  |0,k=>by simp
  |n+1,k=>by
    rw[List.range'_succ,List.nodup_cons]
    exact⟨fun h=>by have:=(List.mem_range'_1.1 h).1;omega,zBd n (k+1)⟩
section
variable {w0 w w':World} {S:List Nat} {L L' Ls:List Res}
theorem Own.giveEnd(h:Own w0 S (Ls++L) w):Own w (y1 L) L w:=h.give _ (zDi L Ls) (zBd _ _)
theorem Own.frameEnd(h:Own w0 S (Ls++L) w)(hg:Own w (y1 L) L' w'):Own w0 S (Ls++L') w':=by
  have:=h.qh _ (zDi L Ls) hg
  rwa [zCj Ls 0 _ L V]at this
theorem Own.all(h:Own w0 S L w):Own w (y1 L) L w:=Own.giveEnd (Ls:=[]) h
theorem zHs{P:Program}{n:Nat}{ops:Array Oper}{N:K}{f:Nat→Value}{rest:List Oper}{d:Nat}{ty t:TypeId}{p:String}{af:Array Edge}{x:Operand}{v:Value}(hx:ev f x=v)(h1:cell1 v=true)(hd:Nat.blt d n=true)(k:∀ b,CL P n ops rest N (upd f d (.pointer (some ⟨b,0,none⟩))) (Own w0 S (L++[Res.row b t [v]]))):
    CL P n ops (⟨some d, .box t x,ty,p,af,none⟩::rest) N f (Own w0 S L):=
  z8 hx hd fun b=>by rw[kr h1];exact k b
def Res.obj(b:Nat)(o:Obj):Res where
  fp:=[b]
  φ w:=w.heap[b]?=some o
  st w w' h hb:=by show w'.heap[b]?=_;rw[hb b qQ];exact h
  lt w h b' hb':=by simp at hb';subst hb';exact(Array.getElem?_eq_some_iff.1 h).1
theorem Own.putObj{i b:Nat}{o:Obj}(o':Obj)(h:Own w0 S L w)(hL:L[i]?=some (Res.obj b o)):Own w0 S (L.set i (Res.obj b o')) (w.putObj b o'):=by
  have hb:b<w.heap.size:=h.lt hL b (by simp[Res.obj])
  have:=h.frame1 (r':=Res.obj b o') (E:=[]) hL (Own.mk1 (w':=w.putObj b o') ⟨rfl,rfl,rfl,by simp,fun k hk hS=> ?_⟩ (World.putObj_heap_same hb) (fun b' hb'=> .inl hb'))
  · simpa using this
  simp only[Res.obj,List.mem_singleton]at hS
  exact World.putObj_heap_other hS
theorem Own.newObj(h:Own w0 S L w)(o:Obj):Own w0 S (L++[Res.obj w.heap.size o]) (w.alloc o):=
  h.qi (Own.mk1 ⟨rfl,rfl,rfl,by simp,fun k hk _=>heap_alloc_old w _ hk⟩ (World.alloc_heap_new w o) (fun b hb=>by simp[Res.obj]at hb;right;omega))
end
def Wd(ro:Option Nat):Fence:={Fence.wide with round:=ro}
def xd(l:List Oper):Bool:=l.all fun o=>match o.op with| .defer _=>false|_=>true
section
variable {P:Program} {n:Nat} {ops:Array Oper}
theorem zBF{ro:Option Nat}{m:Nat}{g:FuncId}{args:Array Value}{w:World}{R:Ending→World→Prop}(h:Calls P g args w R):CallsIn (Wd ro) m P g args w R:=by
  have:=callsIn_wide (n:=m).2 h
  cases ro with
  |none=>exact this
  |some l=>exact this
theorem zCV{ro:Option Nat}{m:Nat}{row:String}{args:Array Value}{w:World}{R:Value→World→Prop}(h:Rows P row args w R):RowsIn (Wd ro) m P row args w R:=by
  intro c cs _
  obtain⟨v,w',r,s⟩:=h c cs
  refine⟨v,w',r,?_⟩
  have e:Machine.fenced P (Wd ro)=Machine.fenced P Fence.wide:=by cases ro<;>rfl
  rw[e]
  exact stepsIn_wide.2 s
theorem zCh{ro:Option Nat}{m:Nat}{Q:Exit→Act→World→Prop}(hq:¬ LetsOut Q):∀ (l:List Oper) (a:Act) (w:World),xd l=true→wpList P ops Q l a w→wpListIn (Wd ro) m P ops Q l a w
  | [],a,w,_,h=>h
  |o::l,a,w,hn,h=>by
    simp only[xd,List.all_cons,Bool.and_eq_true]at hn
    have ih:=fun a w=>zCh (m:=m) (ro:=ro) hq l a w hn.2
    unfold wpList at h
    unfold wpListIn
    split
    · rename_i hw
      rw[if_pos hw]at h
      have h:=h.resolve_right fun q=>hq q.2
      refine⟨fun _ _=>trivial,?_⟩
      rw[Oper.semAt_eq _ _ _ (fun c hc=>by rw[hc]at hn;simp at hn)]
      unfold Oper.wp at h
      generalize (execOp a.eval o).run P w=r at h ⊢
      cases r with
      |ok nx w'=>
        cases nx<;>simp only[Oper.upon,Oper.uponIn]at h ⊢ <;>
          first
            |exact h.elim
            |exact ih _ _ h
            |exact⟨fun q=>by simp[Wd,Fence.wide]at q,(zBF h).mono fun e w'' he=>by
                cases e with
                |returned v=>exact ih _ _ he
                |panicked c=>exact he
                |outgrown=>exact he⟩
            |exact⟨fun q=>by simp[Wd,Fence.wide]at q,(zCV h).mono fun v w'' he=>ih _ _ he⟩
      |halt x w'=>cases x<;>simp only[Oper.upon,Oper.uponIn]at h ⊢ <;>exact h
    rename_i hw
    rw[if_neg hw]at h
    exact⟨fun _ _=>trivial,ih _ _ h⟩
theorem jW{N:K}:¬ LetsOut (kG n N):=by rintro⟨a,w,h⟩;exact h
theorem kH{ro:Option Nat}{m i:Nat}{l:List Oper}{N:K}{f:Nat→Value}{w:World}(hn:xd l=true)(h:WL P n l.toArray l N f w):∀ a,Rep n f a→(Code.region i l.toArray false).wpIn (Wd ro) m P (kG n N) a w:=
  fun a ha=>wpIn_region_lit (zCh jW l a w hn (h a ha))
def zMf{α:Type}(P:Program)(l:Nat)(enc:α→Value)(N:Nat)(J:List α→List Res→Prop):Prop:=
  ∀ pre x L w,J pre L→pre.length<N→Own w (y1 L) L w→∃ fn tmps asg body,(Instr.yield l #[enc x]).run P w= .ok (.round l fn tmps asg body) w∧
    RoundIn Fence.wide 0 P l fn tmps asg body w fun e w'=>e= .returned (.bool true)∧∃ L',J (pre++[x]) L'∧Own w (y1 L) L' w'
def zLj{α:Type}(P:Program)(g:FuncId)(lb:List Value)(enc:α→Value)(Sx:List α→Prop)(N:Nat)(Ls:List Res):Prop:=
  ∀ (l:Nat) (J:List α→List Res→Prop) (L:List Res) (w:World),zMf P l enc N J→J [] L→Own w (y1 (Ls++L)) (Ls++L) w→
    Rets P g (.func (.yield l) #[] #[]::lb).toArray w fun _ w'=>∃ xs L',Sx xs∧J xs L'∧Own w (y1 (Ls++L)) (Ls++L') w'
def RepD(n:Nat)(ds:List Deferred)(f:Nat→Value)(a:Act):Prop:=Rep n f {a with defers:=[]}∧a.defers=ds
theorem RepD.of{f:Nat→Value}{a:Act}(h:Rep n f a):RepD n [] f a:=⟨by have:=h.defers;cases a;simp only at this;subst this;exact h,h.defers⟩
theorem RepD.rep{f:Nat→Value}{a:Act}(h:RepD n [] f a):Rep n f a:=by
  obtain⟨h1,h2⟩:=h
  cases a
  simp only at h2;subst h2
  exact h1
theorem RepD.eval{f:Nat→Value}{a:Act}{ds:List Deferred}(h:RepD n ds f a):a.eval=ev f:=h.1.eval (a:={a with defers:=[]})
theorem RepD.put{f:Nat→Value}{a:Act}{ds:List Deferred}(h:RepD n ds f a){d:Nat}(hd:d<n)(v:Value):RepD n ds (upd f d v) (a.put (some d) v):=⟨h.1.put hd v,h.2⟩
def zH7(n:Nat)(ds:List Deferred)(N:K):Exit→Act→World→Prop
  | .normal,a,w=>∃ f,RepD n ds f a∧N f w
  |_,_,_=>False
def IL(P:Program)(n:Nat)(ds:List Deferred)(ops:Array Oper)(l:List Oper)(N:K)(f:Nat→Value)(A:World→Prop):Prop:=∀ w,A w→∀ a,RepD n ds f a→wpListIn (Wd none) 0 P ops (zH7 n ds N) l a w
variable {f:Nat→Value} {A:World→Prop} {rest:List Oper} {d:Nat} {ty:TypeId} {p:String} {af:Array Edge} {N R:K} {X:List (Nat×K)} {ds:List Deferred}
theorem zEE:∀ e a w,zH7 n [] N e a w→post n N R X e a w:=by
  intro e a w h
  cases e<;>first|exact h.elim|exact(let ⟨f,h1,h2⟩:=h;⟨f,h1.rep,h2⟩)
theorem zO9{id:Nat}{l:List Oper}(h:IL P n [] l.toArray l N f A):C P n (.region id l.toArray false) N R X f A:=fun w hw a ha=>
  wpIn_wide.1 (wpIn_mono (wpIn_region_lit (F:=Fence.wide) (n:=0) (h w hw a (RepD.of ha))) zEE)
theorem zFS{id:Nat}{l:List Oper}{y:Code}(h:IL P n [] l.toArray l (fun f w=>W P n y N R X f w) f A):C P n (.seq (.region id l.toArray false) y) N R X f A:=zP (zO9 h)
theorem zOT(h:∀ w,A w→N f w):IL P n ds ops [] N f A:=fun w hw a ha=>⟨f,ha,h w hw⟩
theorem zKe{c:Code}{M:K}(h:C P n c M R X f A):IL P n ds ops [] (fun f w=>W P n c M R X f w) f A:=fun w hw a ha=>⟨f,ha,h w hw⟩
theorem ku{op:Op}{v:Value}(hd:Nat.blt d n=true)(hv:RV P f ⟨some d,op,ty,p,af,none⟩ A v)(k:IL P n ds ops rest N (upd f d v) A):IL P n ds ops (⟨some d,op,ty,p,af,none⟩::rest) N f A:=by
  intro w hw a ha
  unfold wpListIn
  rw[if_pos we]
  refine⟨fun _ _=>trivial,?_⟩
  show Oper.uponIn _ _ _ _ _ _ _ ((execOp a.eval _).run P w)
  rw[ha.eval,hv w hw]
  exact k w hw _ (ha.put (by simpa [Nat.blt_eq]using hd) v)
theorem zIJ{α:Type}{enc:α→Value}{s l M:Nat}{x:Operand}{ats:Array TypeId}{J:List α→List Res→Prop}{w0:World}{S:List Nat}{L:List Res}{pre:List α}(Ls:List Res)(e:α)(Y:zMf P l enc M J)(hf:f s= .func (.yield l) #[] #[])(hx:ev f x=enc e)
    (hJ:J pre L) (hM:pre.length<M) (hd:Nat.blt d n=true) (k:∀ L',J (pre++[e]) L'→IL P n ds ops rest N (upd f d (.bool true)) (Own w0 S (Ls++L'))):IL P n ds ops (⟨some d, .call ⟨.value (.tmp s),#[x],ats⟩,ty,p,af,none⟩::rest) N f (Own w0 S (Ls++L)):=by
  intro w hw a ha
  unfold wpListIn
  rw[if_pos we]
  refine⟨fun _ _=>trivial,?_⟩
  have hs:∀ o,Oper.semAt (Wd none).round a.eval o=execOp a.eval o:=fun _=>rfl
  rw[hs]
  obtain⟨fn,tmps,asg,body,hy,hr⟩:=Y pre e L w hJ hM hw.giveEnd
  have he:(execOp (ev f) ⟨some d, .call ⟨.value (.tmp s),#[x],ats⟩,ty,p,af,none⟩).run P w= .ok (.round l fn tmps asg body) w:=by
    simp[execOp,resolve,show ev f (.tmp s)=f s from rfl,hf,Deferred.ofValue,invoke,hx,hy]
  rw[ha.eval,he]
  refine⟨fun q=>by simp[Wd,Fence.wide]at q,RoundIn.mono (F:=Fence.wide) hr ?_⟩
  rintro _ w' ⟨rfl,L',hJ',hO⟩
  exact k L' hJ' w' (hw.frameEnd hO) _ (ha.put (by simpa [Nat.blt_eq]using hd) _)
end
section
variable {w0 w w':World} {S:List Nat} {L L' Ls:List Res}
theorem Own.swapAt(Lp:List Res)(r s:Res)(L:List Res)(h:Own w0 S (Lp++r::s::L) w):Own w0 S (Lp++s::r::L) w:=by
  have at0:∀ (x y:Res) (i:Nat),(Lp++x::y::L)[i]?=if i<Lp.length then Lp[i]? else if i=Lp.length then some x else if i=Lp.length+1 then some y else L[i - Lp.length - 2]?:=by
    intro x y i
    rw[List.getElem?_append]
    split
    · rfl
    cases hi:i - Lp.length with
    |zero=>rw[if_pos V];rfl
    |succ k=>
      rw[if_neg V]
      cases k with
      |zero=>rw[if_pos V];rfl
      |succ k=>rw[if_neg V,show k+1+1 - 2=k by omega];rfl
  refine h.pick (fun i=>if i=Lp.length then Lp.length+1 else if i=Lp.length+1 then Lp.length else i) ?_ ?_
  · intro i x hx
    rw[at0]at hx ⊢
    by_cases h1:i=Lp.length
    · rw[if_neg V,if_pos h1]at hx
      rw[if_pos h1,if_neg V,if_neg V,if_pos rfl];exact hx
    rw[if_neg h1]
    by_cases h2:i=Lp.length+1
    · rw[if_neg V,if_neg V,if_pos h2]at hx
      rw[if_pos h2,if_neg V,if_pos rfl];exact hx
    rw[if_neg h2]
    rw[if_neg h1,if_neg h2]at hx
    rw[if_neg h1,if_neg h2];exact hx
  intro i j _ _ hij
  split at hij<;>split at hij<;>(try split at hij)<;>(try split at hij)<;>omega
theorem Own.perm(hp:L.Perm L')(h:Own w0 S L w):Own w0 S L' w:=by
  suffices ∀ {L L':List Res},L.Perm L'→∀ Lp,Own w0 S (Lp++L) w→Own w0 S (Lp++L') w from this hp [] h
  intro L L' hp
  induction hp with
  |nil=>exact fun _ h=>h
  |cons x _ ih=>intro Lp h;have:=ih (Lp++[x]) (by simpa using h);simpa using this
  |swap x y l=>intro Lp h;exact h.swapAt
  |trans _ _ ih1 ih2=>exact fun Lp h=>ih2 Lp (ih1 Lp h)
theorem Own.tail{r:Res}(h:Own w0 S (r::L) w):Own w0 S L w:=by
  refine h.pick (· +1) (fun i x hx=>by simpa using hx) (fun i j _ _ h=>by omega)
end
section
variable {P:Program} {n:Nat} {fn:Func} {g:FuncId}
theorem zIp(args:List Value)(n:Nat)(hl:args.length≤n):Rep n (ini args) {tmps:=args.toArray++Array.replicate (n - args.toArray.size) undef,defers:=[]}:=by
  refine⟨by simp;omega,O,fun t=> ?_⟩
  simp only[Array.getD_eq_getD_getElem?]
  have:∀ (l:List Value) (m t:Nat),((l.toArray++Array.replicate m undef)[t]?).getD undef=ini l t:=by
    intro l
    induction l with
    |nil=>intro m t;simp[ini,Array.getElem?_replicate];split<;>rfl
    |cons v l ih=>
      intro m t
      cases t with
      |zero=>simp[ini,Array.getElem?_append]
      |succ t=>
        have:=ih m t
        simp only[ini]
        rw[←this]
        simp[Array.getElem?_append]
  exact this _ _ _
def RF(P:Program)(fn:Func)(n:Nat)(c1 c2:Code)(R:Value→World→Prop):K:=fun f w=>∀ a,Rep n f a→
  c1.wpIn Fence.wide 0 P (Exit.then (c2.wpIn Fence.wide 0 P (bodyPostM Fence.wide 0 P fn fun e w'=>∃ v,e= .returned v∧R v w')) (bodyPostM Fence.wide 0 P fn fun e w'=>∃ v,e= .returned v∧R v w')) a w
theorem zEe{i0 i1:Nat}{l0 l1:List Oper}{c1 c2:Code}{args:List Value}{A:World→Prop}{w:World}{R:Value→World→Prop}(hf:P.funcs[g]?=some fn)(hb:fn.body=some (.seq (.region i0 l0.toArray false) (.seq (.seq (.region i1 l1.toArray false) c1) c2)))
    (hn:fn.ntmps=n) (hl:Nat.ble args.length n=true) (hd0:xd l0=true) (hd1:xd l1=true) (hA:A w) (h:CL P n l0.toArray l0 (fun f w=>WL P n l1.toArray l1 (RF P fn n c1 c2 R) f w) (ini args) A):Rets P g args.toArray w R:=by
  subst hn
  refine callsIn_wide (n:=0).1 (callsIn_of_wp_marks hf hb trivial ?_)
  refine wpIn_seq (wpIn_mono (kH (ro:=none) (m:=0) hd0 (h w hA) _ (zIp args fn.ntmps (Nat.le_of_ble_eq_true hl))) ?_)
  intro e a w hq
  cases e<;>first|exact hq.elim|skip
  obtain⟨f,hr,hw⟩:=hq
  refine wpIn_seq (wpIn_seq (wpIn_mono (kH (ro:=none) (m:=0) hd1 hw a hr) ?_))
  intro e a w hq
  cases e<;>first|exact hq.elim|skip
  obtain⟨f,hr,hw⟩:=hq
  refine wpIn_mono (hw a hr) ?_
  intro e a w hq
  cases e<;>exact hq
theorem zH1{α:Type}{enc:α→Value}{Sx:List α→Prop}{N s p q i2 b0 b1 i3:Nat}{sg:FuncId}{lb:List Value}{Ls Lu:List Res}{Ju:List α→List Res→Prop}{l2 l3:List Oper}{f:Nat→Value}{w0 w:World}{S:List Nat}{c2:Code}{R:Value→World→Prop}
    (hs:f s= .func (.func sg) #[] lb.toArray) (hcall:kS P sg=true) (hseq:zLj P sg lb enc Sx N Ls) (h0:Ju [] Lu) (hw:Own w0 S (Ls++Lu) w) (hp:Nat.blt p n=true) (hd2:xd l2=true) (hd3:xd l3=true)
    (hround2:∀ x w,WL P n l2.toArray l2 (fun f' w'=>f'=upd (upd f p (enc x)) q (enc x)∧w'=w) (upd f p (enc x)) w)
    (hround3:∀ pre x L w,Ju pre L→pre.length<N→CL P n l3.toArray l3 (fun _ w'=>∃ L',Ju (pre++[x]) L'∧Own w (y1 L) L' w') (upd (upd f p (enc x)) q (enc x)) (Own w (y1 L) L))
    (hdone:∀ xs L' D w',Sx xs→Ju xs L'→Own w0 S (Res.obj D (.deferred (some []))::(Ls++L')) w'→∀ a,RepD n [{target:= .collected D,args:= #[]}] f a→c2.wpIn Fence.wide 0 P (bodyPostM Fence.wide 0 P fn fun e w'=>∃ v,e= .returned v∧R v w') a w'):
    RF P fn n (.block b0 (.rangeFunc (.tmp s) #[p] (.region i2 l2.toArray false) (.block b1 (.region i3 l3.toArray false)))) c2 R f w:=by
  intro a ha
  refine wpIn_block ?_
  refine wpIn_rangeFunc ?_
  intro fid _
  obtain⟨rc,hrc⟩:∃ rc:LoopState→Option Code→Loop,rc=fun st pe=>{state:=st,pending:=pe,fn:=fid,tmps:=a.tmps,params:= #[p],assign:= .region i2 l2.toArray false,body:= .block b1 (.region i3 l3.toArray false),defers:=w.heap.size}:=⟨_,rfl⟩
  have hO1:Own w0 S (Res.obj w.heap.size (.deferred (some []))::(Ls++Res.obj (w.heap.size+1) (.loop (rc .ready none))::Lu)) ((w.alloc (.deferred (some []))).alloc (.loop (rc .ready none))):=by
    have h1:=(hw.newObj (.deferred (some []))).newObj (.loop (rc .ready none))
    rw[World.size_alloc]at h1
    refine h1.perm ?_
    rw[List.append_assoc]
    exact List.perm_append_comm.trans (List.Perm.cons _ (show(Res.obj (w.heap.size+1) (.loop (rc .ready none))::(Ls++Lu)).Perm _ from List.perm_middle.symm))
  refine⟨w.heap.size+1,[{target:= .collected w.heap.size,args:= #[]}],(w.alloc (.deferred (some []))).alloc (.loop (rc .ready none)),{target:= .fn (.func sg) lb.toArray,args:= #[.func (.yield (w.heap.size+1)) #[] #[]]},(w.alloc (.deferred (some []))).alloc (.loop (rc .ready none)),sg,#[.func (.yield (w.heap.size+1)) #[] #[]]++lb.toArray,(w.alloc (.deferred (some []))).alloc (.loop (rc .ready none)),
    by rw[hrc];exact run_enterLoop_outer _ _ _ _ _,?_,fun _ _=>trivial,?_,fun q=>by simp[Fence.wide]at q,?_⟩
  · simp[resolve,ha.eval,ev,hs,Deferred.ofValue]
  · have:=ka hcall ((w.alloc (.deferred (some []))).alloc (.loop (rc .ready none))) (#[.func (.yield (w.heap.size+1)) #[] #[]]++lb.toArray)
    simp only[invoke]
    exact this
  rw[show(#[Value.func (.yield (w.heap.size+1)) #[] #[]]++lb.toArray)=(.func (.yield (w.heap.size+1)) #[] #[]::lb).toArray by simp]
  have hO1':Own w0 S ([Res.obj w.heap.size (.deferred (some []))]++(Ls++Res.obj (w.heap.size+1) (.loop (rc .ready none))::Lu)) ((w.alloc (.deferred (some []))).alloc (.loop (rc .ready none))):=hO1
  refine callsIn_wide.2 (Calls.mono (hseq (w.heap.size+1) (fun pre L=>∃ L1,L=Res.obj (w.heap.size+1) (.loop (rc .ready none))::L1∧Ju pre L1) _ _ ?_ ⟨Lu,O,h0⟩ hO1'.giveEnd) ?_)
  · -- a round
    rintro pre x L w1 ⟨L1,rfl,hJ⟩ hlen hO
    have hl:w1.heap[w.heap.size+1]?=some (.loop (rc .ready none)):=hO.holds 0 _ rfl
    have hy:(Instr.yield (w.heap.size+1) #[enc x]).run P w1= .ok (.round (w.heap.size+1) fid (a.tmps.setIfInBounds p (enc x)) (.region i2 l2.toArray false) (.block b1 (.region i3 l3.toArray false))) w1:=by
      have h:=run_yield (P:=P) (args:= #[enc x]) hl (by rw[hrc];rfl)
      rw[h,hrc]
      simp
    refine⟨_,_,_,_,hy,?_⟩
    have hrep:Rep n (upd f p (enc x)) {tmps:=a.tmps.setIfInBounds p (enc x),defers:=[]}:=by
      have h1:=ha.put (by simpa [Nat.blt_eq]using hp) (enc x)
      have h2:=ha.defers
      cases a
      simp only at h2;subst h2
      exact h1
    refine roundIn_of_wpIn trivial (wpIn_mono (kH (ro:=some (w.heap.size+1)) (m:=0) hd2 (hround2 x w1) _ hrep) ?_)
    intro e a2 w2 hq
    cases e<;>first|exact hq.elim|skip
    obtain⟨f',hr',hf',hw'⟩:=hq
    rw[hf']at hr'
    rw[hw']
    have hO2:=hO.putObj (i:=0) (.loop {rc .ready none with state:= .busy}) rfl
    have hO2':Own w1 (y1 (Res.obj (w.heap.size+1) (.loop (rc .ready none))::L1)) ([Res.obj (w.heap.size+1) (.loop {rc .ready none with state:= .busy})]++L1) (w1.putObj (w.heap.size+1) (.loop {rc .ready none with state:= .busy})):=hO2
    refine⟨_,run_beginRound hl (by rw[hrc]),?_⟩
    refine wpIn_block (wpIn_mono (kH (ro:=some (w.heap.size+1)) (m:=0) hd3 (hround3 pre x L1 _ hJ hlen _ hO2'.giveEnd) a2 hr') ?_)
    intro e a3 w3 hq
    cases e<;>first|exact hq.elim|skip
    obtain⟨f3,hr3,L',hJ',hO3⟩:=hq
    have hO4:=hO2'.frameEnd hO3
    have hl3:w3.heap[w.heap.size+1]?=some (.loop {rc .ready none with state:= .busy}):=hO4.holds 0 _ rfl
    have he:=run_endRound (P:=P) none hl3
    refine⟨_,_,he,O,Res.obj (w.heap.size+1) (.loop (rc .ready none))::L',⟨L',O,hJ'⟩,?_⟩
    have hO5:=hO4.putObj (i:=0) (.loop (rc .ready none)) rfl
    have e1:(.loop {{rc .ready none with state:= .busy}with state:=if(none:Option Code).isNone then .ready else .done,pending:=none}:Obj)= .loop (rc .ready none):=by rw[hrc];rfl
    rw[e1]
    exact hO5
  rintro _ w2 ⟨v,rfl,xs,L',hS,⟨L1,rfl,hJ⟩,hO⟩
  have hO2:=(show Own w0 S _ _ from hO1'.frameEnd hO).perm (show([Res.obj w.heap.size (.deferred (some []))]++(Ls++Res.obj (w.heap.size+1) (.loop (rc .ready none))::L1)).Perm (Res.obj (w.heap.size+1) (.loop (rc .ready none))::Res.obj w.heap.size (.deferred (some []))::(Ls++L1))from
    (List.Perm.cons _ List.perm_middle).trans (.swap _ _ _))
  have hl:w2.heap[w.heap.size+1]?=some (.loop (rc .ready none)):=hO2.holds 0 _ rfl
  refine⟨none,w2.putObj (w.heap.size+1) (.loop (rc .exhausted none)),by rw[run_endLoop (P:=P) hl (by rw[hrc];simp),hrc],?_⟩
  have hO3:=(hO2.putObj (i:=0) (.loop (rc .exhausted none)) rfl).tail
  show Exit.inBlock b0 _ .normal _ _
  refine hdone xs L1 w.heap.size _ hS hJ hO3 _ ⟨?_,?_⟩
  · have h2:=ha.defers
    cases a
    simp only at h2;subst h2
    exact ha
  show _++a.defers=_
  rw[ha.defers];rfl
theorem zMU{t i4:Nat}{v:Value}{l4:List Oper}{f:Nat→Value}{w0 w:World}{S:List Nat}{L:List Res}{D:Nat}{R:Value→World→Prop}(hr:fn.results= #[.tmp t])
    (h:IL P n [{target:= .collected D,args:= #[]}] l4.toArray l4 (fun f' w'=>f' t=v∧Own w0 S (Res.obj D (.deferred (some []))::L) w') f (Own w0 S (Res.obj D (.deferred (some []))::L))) (hw:Own w0 S (Res.obj D (.deferred (some []))::L) w)
    (hR:∀ w'',Own w0 S L w''→R v w''):∀ a,RepD n [{target:= .collected D,args:= #[]}] f a→(Code.seq (.region i4 l4.toArray false) .ret).wpIn Fence.wide 0 P (bodyPostM Fence.wide 0 P fn fun e w'=>∃ v,e= .returned v∧R v w') a w:=by
  intro a ha
  refine wpIn_seq (wpIn_mono (wpIn_region_lit (F:=Fence.wide) (n:=0) (h w hw a ha)) ?_)
  intro e a w hq
  cases e<;>first|exact hq.elim|skip
  obtain⟨f',hr',hv,hO⟩:=hq
  refine wpIn_ret ?_
  show LeavesInM Fence.wide 0 P fn a.tmps _ a.defers .returning w
  rw[hr'.2]
  refine⟨by simp, .inl ⟨D,_,O,run_takeDeferred (hO.holds 0 _ O),?_⟩⟩
  have hO2:=(hO.putObj (i:=0) (.deferred none) rfl).tail
  refine⟨v,?_,v,O,hR _ hO2⟩
  have:=hr'.1.get t
  rw[results_tmp hr,this,hv]
end
end Go.Sc
