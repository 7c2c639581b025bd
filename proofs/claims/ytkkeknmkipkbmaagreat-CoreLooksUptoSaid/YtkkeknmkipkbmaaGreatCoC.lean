import Derived.Test.YtkkeknmkipkbmaaGreatFwJ
set_option linter.unusedSimpArgs false
set_option linter.unusedVariables false
set_option linter.unusedSectionVars false
namespace Go.Sc
def zIy{α:Type}(P:Program)(l:Nat)(e1 e2:α→Value)(Q:List α→α→Prop)(J Jx:List α→List Res→Prop):Prop:=
  ∀ pre x L w,J pre L→Q pre x→Own w (y1 L) L w→∃ fn tmps asg body,(Instr.yield l #[e1 x,e2 x]).run P w= .ok (.round l fn tmps asg body) w∧
    RoundIn Fence.wide 0 P l fn tmps asg body w fun e w'=>∃ r:Bool,e= .returned (.bool r)∧∃ L',(if r then J (pre++[x]) L' else Jx (pre++[x]) L')∧Own w (y1 L) L' w'
def zOU{α:Type}(P:Program)(g:FuncId)(lb:List Value)(e1 e2:α→Value)(Q:List α→α→Prop)(Sx:List α→Prop)(Ls:List Res):Prop:=
  ∀ (l:Nat) (J Jx:List α→List Res→Prop) (L:List Res) (w:World),zIy P l e1 e2 Q J Jx→J [] L→Own w (y1 (Ls++L)) (Ls++L) w→
    Rets P g (.func (.yield l) #[] #[]::lb).toArray w fun _ w'=>∃ (r:Bool) (xs:List α) (L':List Res),(if r then Sx xs∧J xs L' else Jx xs L')∧Own w (y1 (Ls++L)) (Ls++L') w'
section
variable {P:Program} {n:Nat} {ops:Array Oper} {f:Nat→Value} {A:World→Prop} {rest:List Oper} {d:Nat} {ty:TypeId} {p:String} {af:Array Edge} {N R:K} {X:List (Nat×K)} {ds:List Deferred} {fn:Func} {g:FuncId}
theorem zLo{α:Type}{e1 e2:α→Value}{Q:List α→α→Prop}{s l:Nat}{x y:Operand}{ats:Array TypeId}{J Jx:List α→List Res→Prop}{w0:World}{S:List Nat}{L:List Res}{pre:List α}(Ls:List Res)(e:α)(Y:zIy P l e1 e2 Q J Jx)(hf:f s= .func (.yield l) #[] #[])(hx:ev f x=e1 e)(hy:ev f y=e2 e)
    (hJ:J pre L) (hQ:Q pre e) (hd:Nat.blt d n=true) (k:∀ (r:Bool) L',(if r then J (pre++[e]) L' else Jx (pre++[e]) L')→IL P n ds ops rest N (upd f d (.bool r)) (Own w0 S (Ls++L'))):IL P n ds ops (⟨some d, .call ⟨.value (.tmp s),#[x,y],ats⟩,ty,p,af,none⟩::rest) N f (Own w0 S (Ls++L)):=by
  intro w hw a ha
  unfold wpListIn
  rw[if_pos we]
  refine⟨fun _ _=>trivial,?_⟩
  have hs:∀ o,Oper.semAt (Wd none).round a.eval o=execOp a.eval o:=fun _=>rfl
  rw[hs]
  obtain⟨fn,tmps,asg,body,hy2,hr⟩:=Y pre e L w hJ hQ hw.giveEnd
  have he:(execOp (ev f) ⟨some d, .call ⟨.value (.tmp s),#[x,y],ats⟩,ty,p,af,none⟩).run P w= .ok (.round l fn tmps asg body) w:=by
    simp[execOp,resolve,show ev f (.tmp s)=f s from rfl,hf,Deferred.ofValue,invoke,hx,hy,hy2]
  rw[ha.eval,he]
  refine⟨fun q=>by simp[Wd,Fence.wide]at q,RoundIn.mono (F:=Fence.wide) hr ?_⟩
  rintro _ w' ⟨r,rfl,L',hJ',hO⟩
  exact k r L' hJ' w' (hw.frameEnd hO) _ (ha.put (by simpa [Nat.blt_eq]using hd) _)
theorem zDt{ro:Option Nat}{m:Nat}{Q:Exit→Act→World→Prop}(hq:¬ LetsOut Q)(hn:∀ (i:Nat) (o:Oper),ops[i]?=some o→∀ c,o.op≠ .defer c):∀ (l:List Nat) (a:Act) (w:World),wpOps P ops Q l a w→wpOpsIn (Wd ro) m P ops Q l a w
  | [],a,w,h=>h
  |i::l,a,w,h=>by
    have ih:=fun a w=>zDt (m:=m) (ro:=ro) hq hn l a w
    unfold wpOps at h
    unfold wpOpsIn
    cases ho:ops[i]? with
    |none=>rw[ho]at h;exact ih _ _ h
    |some o=>
      rw[ho]at h
      simp only at h ⊢
      split
      · rename_i hw
        rw[if_pos hw]at h
        have h:=h.resolve_right fun q=>hq q.2
        refine⟨fun _ _=>trivial,?_⟩
        rw[Oper.semAt_eq _ _ _ (fun c hc=>hn i o ho c hc)]
        unfold Oper.wp at h
        generalize (execOp a.eval o).run P w=r at h ⊢
        cases r with
        |ok nx w'=>
          cases nx<;>simp only[Oper.upon,Oper.uponIn]at h ⊢ <;>
            first
              |exact h.elim
              |exact ih _ _ h
              |exact⟨fun q=>by simp[Wd,Fence.wide]at q,(zBF h).mono fun e w'' he=>by
                  cases e with
                  |returned v=>exact ih _ _ he
                  |panicked c=>exact he
                  |outgrown=>exact he⟩
              |exact⟨fun q=>by simp[Wd,Fence.wide]at q,(zCV h).mono fun v w'' he=>ih _ _ he⟩
        |halt x w'=>cases x<;>simp only[Oper.upon,Oper.uponIn]at h ⊢ <;>exact h
      rename_i hw
      rw[if_neg hw]at h
      exact⟨fun _ _=>trivial,ih _ _ h⟩
theorem zGV{l:List Oper}(h:xd l=true):∀ (i:Nat) (o:Oper),l.toArray[i]?=some o→∀ c,o.op≠ .defer c:=fun i o ho c hc=>by
  have hm:o∈l:=List.mem_of_getElem? (by simpa using ho)
  have:=(List.all_eq_true.1 h) o hm
  rw[hc]at this;simp at this
theorem zE2{ro:Option Nat}{m i:Nat}{l:List Oper}{w:World}(hn:xd l=true)(S:World→Prop)(hm:P.follows .mixedOrders=true)(h:HL P n l.toArray S N l.length (Array.replicate l.length false) f (drawn w)):∀ a,Rep n f a→(Code.region i l.toArray true).wpIn (Wd ro) m P (kG n N) a w:=
  fun a ha=>wpIn_region_draw fun t=>by
    refine zDt jW (zGV hn) _ _ _ ?_
    simp only[Region.schedule,hm,Bool.true_or,if_true]
    refine wpAny_sound (ops:=l.toArray) (Q:=kG n N) l.toArray.size t _ a _ (wpAny_of_held (S:=S) _ _ _ _ ?_)
    have h1:=h a ha
    show wpAnyH P .any l.toArray (kG n N) S l.toArray.size (Array.replicate l.toArray.size false) a (drawn w)
    rw[List.size_toArray]
    exact h1
def zQT(n:Nat)(Bn Bx:World→Prop):Exit→Act→World→Prop
  | .normal,_,w=>Bn w
  | .ret,_,w=>Bx w
  |_,_,_=>False
def RS(P:Program)(n l:Nat)(Bn Bx:World→Prop)(c:Code):K:=fun f w=>∀ a,Rep n f a→c.wpIn (Wd (some l)) 0 P (zQT n Bn Bx) a w
theorem zLU{l i:Nat}{lo:List Oper}{c:Code}{Bn Bx:World→Prop}{w:World}(hn:xd lo=true)(h:WL P n lo.toArray lo (RS P n l Bn Bx c) f w):RS P n l Bn Bx (.seq (.region i lo.toArray false) c) f w:=fun a ha=>by
  refine wpIn_seq (wpIn_mono (kH hn h a ha) ?_)
  intro e a w hq
  cases e<;>first|exact hq.elim|skip
  obtain⟨f',hr,hB⟩:=hq
  exact hB a hr
theorem zN4{l i:Nat}{lo:List Oper}{c:Code}{Bn Bx:World→Prop}{w0 w:World}{S:List Nat}{L:List Res}(m:List Nat){L':List Res}(hmm:m.mapM (fun i=>L[i]?)=some L')(hnd:m.Nodup)(hn:xd lo=true)(hm:P.follows .mixedOrders=true)
    (h:∀ w,Own w0 S L w→Own w0 S L' w→HL P n lo.toArray (Own w0 S L') (RS P n l Bn Bx c) lo.length (Array.replicate lo.length false) f w) (hw:Own w0 S L w):RS P n l Bn Bx (.seq (.region i lo.toArray true) c) f w:=fun a ha=>by
  refine wpIn_seq (wpIn_mono (zE2 hn (Own w0 S L') hm (h _ hw.drawn (hw.sel m hmm hnd).drawn) a ha) ?_)
  intro e a w hq
  cases e<;>first|exact hq.elim|skip
  obtain⟨f',hr,hB⟩:=hq
  exact hB a hr
theorem zP9{l:Nat}{Bn Bx:World→Prop}{w:World}(h:Bx w):RS P n l Bn Bx .ret f w:=fun a ha=>wpIn_ret h
theorem zM3{l:Nat}{Bn Bx:World→Prop}{w:World}(h:Bn w):RS P n l Bn Bx .skip f w:=fun a ha=>wpIn_skip h
theorem zPl{l:Nat}{Bn Bx:World→Prop}{w:World}{c:Operand}{x y:Code}{q:Prop}[Decidable q](hc:ev f c= .bool (decide q))(h1:q→RS P n l Bn Bx x f w)(h2:¬ q→RS P n l Bn Bx y f w):RS P n l Bn Bx (.cond c x y) f w:=fun a ha=>by
  by_cases hq:q
  · exact wpIn_cond_true (by rw[ha.eval,hc,decide_eq_true hq]) (h1 hq a ha)
  exact wpIn_cond_false (by rw[ha.eval,hc,decide_eq_false hq]) (h2 hq a ha)
theorem zK2{α:Type}{e1 e2:α→Value}{Q:List α→α→Prop}{Sx:List α→Prop}{s p1 p2 i2 b0 b1:Nat}{sg:FuncId}{lb:List Value}{Ls Lu:List Res}{Ju Jx:List α→List Res→Prop}{l2:List Oper}{c3:Code}{f:Nat→Value}{w0 w:World}{S:List Nat}{c2:Code}{R:Value→World→Prop}
    (hs:f s= .func (.func sg) #[] lb.toArray) (hcall:kS P sg=true) (hseq:zOU P sg lb e1 e2 Q Sx Ls) (h0:Ju [] Lu) (hw:Own w0 S (Ls++Lu) w) (hp1:Nat.blt p1 n=true) (hp2:Nat.blt p2 n=true) (hd2:xd l2=true)
    {Mid:List α→α→(Nat→Value)→List Res→Prop}
    (hround2:∀ pre x L w,Ju pre L→Q pre x→CL P n l2.toArray l2 (fun f' w'=>∃ L2,Mid pre x f' L2∧Own w (y1 L) L2 w') (upd (upd f p1 (e1 x)) p2 (e2 x)) (Own w (y1 L) L))
    (hround3:∀ l pre x f' L w,Mid pre x f' L→Q pre x→Own w (y1 L) L w→RS P n l (fun w'=>∃ L',Ju (pre++[x]) L'∧Own w (y1 L) L' w') (fun w'=>∃ L',Jx (pre++[x]) L'∧Own w (y1 L) L' w') c3 f' w)
    (hdone:∀ xs L' D w',Sx xs→Ju xs L'→Own w0 S (Res.obj D (.deferred (some []))::(Ls++L')) w'→∀ a,RepD n [{target:= .collected D,args:= #[]}] f a→c2.wpIn Fence.wide 0 P (bodyPostM Fence.wide 0 P fn fun e w'=>∃ v,e= .returned v∧R v w') a w')
    (hstop:∀ xs L' D w',Jx xs L'→Own w0 S (Res.obj D (.deferred (some []))::(Ls++L')) w'→∀ a,RepD n [{target:= .collected D,args:= #[]}] f a→LeavesInM Fence.wide 0 P fn a.tmps (fun e w'=>∃ v,e= .returned v∧R v w') a.defers .returning w'):
    RF P fn n (.block b0 (.rangeFunc (.tmp s) #[p1,p2] (.region i2 l2.toArray false) (.block b1 c3))) c2 R f w:=by
  intro a ha
  refine wpIn_block ?_
  refine wpIn_rangeFunc ?_
  intro fid _
  obtain⟨rc,hrc⟩:∃ rc:LoopState→Option Code→Loop,rc=fun st pe=>{state:=st,pending:=pe,fn:=fid,tmps:=a.tmps,params:= #[p1,p2],assign:= .region i2 l2.toArray false,body:= .block b1 c3,defers:=w.heap.size}:=⟨_,rfl⟩
  have hO1:Own w0 S (Res.obj w.heap.size (.deferred (some []))::(Ls++Res.obj (w.heap.size+1) (.loop (rc .ready none))::Lu)) ((w.alloc (.deferred (some []))).alloc (.loop (rc .ready none))):=by
    have h1:=(hw.newObj (.deferred (some []))).newObj (.loop (rc .ready none))
    rw[World.size_alloc]at h1
    refine h1.perm ?_
    rw[List.append_assoc]
    exact List.perm_append_comm.trans (List.Perm.cons _ (show(Res.obj (w.heap.size+1) (.loop (rc .ready none))::(Ls++Lu)).Perm _ from List.perm_middle.symm))
  refine⟨w.heap.size+1,[{target:= .collected w.heap.size,args:= #[]}],(w.alloc (.deferred (some []))).alloc (.loop (rc .ready none)),{target:= .fn (.func sg) lb.toArray,args:= #[.func (.yield (w.heap.size+1)) #[] #[]]},(w.alloc (.deferred (some []))).alloc (.loop (rc .ready none)),sg,#[.func (.yield (w.heap.size+1)) #[] #[]]++lb.toArray,(w.alloc (.deferred (some []))).alloc (.loop (rc .ready none)),
    by rw[hrc];exact run_enterLoop_outer _ _ _ _ _,?_,fun _ _=>trivial,?_,fun q=>by simp[Fence.wide]at q,?_⟩
  · simp[resolve,ha.eval,ev,hs,Deferred.ofValue]
  · have:=ka hcall ((w.alloc (.deferred (some []))).alloc (.loop (rc .ready none))) (#[.func (.yield (w.heap.size+1)) #[] #[]]++lb.toArray)
    simp only[invoke]
    exact this
  rw[show(#[Value.func (.yield (w.heap.size+1)) #[] #[]]++lb.toArray)=(.func (.yield (w.heap.size+1)) #[] #[]::lb).toArray by simp]
  have hO1':Own w0 S ([Res.obj w.heap.size (.deferred (some []))]++(Ls++Res.obj (w.heap.size+1) (.loop (rc .ready none))::Lu)) ((w.alloc (.deferred (some []))).alloc (.loop (rc .ready none))):=hO1
  refine callsIn_wide.2 (Calls.mono (hseq (w.heap.size+1) (fun pre L=>∃ L1,L=Res.obj (w.heap.size+1) (.loop (rc .ready none))::L1∧Ju pre L1) (fun pre L=>∃ L1,L=Res.obj (w.heap.size+1) (.loop (rc .done (some .ret)))::L1∧Jx pre L1) _ _ ?_ ⟨Lu,O,h0⟩ hO1'.giveEnd) ?_)
  · rintro pre x L w1 ⟨L1,rfl,hJ⟩ hQ hO
    have hl:w1.heap[w.heap.size+1]?=some (.loop (rc .ready none)):=hO.holds 0 _ rfl
    have hy:(Instr.yield (w.heap.size+1) #[e1 x,e2 x]).run P w1= .ok (.round (w.heap.size+1) fid ((a.tmps.setIfInBounds p1 (e1 x)).setIfInBounds p2 (e2 x)) (.region i2 l2.toArray false) (.block b1 c3)) w1:=by
      have h:=run_yield (P:=P) (args:= #[e1 x,e2 x]) hl (by rw[hrc];rfl)
      rw[h,hrc]
      simp
    refine⟨_,_,_,_,hy,?_⟩
    have hrep:Rep n (upd (upd f p1 (e1 x)) p2 (e2 x)) {tmps:=(a.tmps.setIfInBounds p1 (e1 x)).setIfInBounds p2 (e2 x),defers:=[]}:=by
      have h1:=(ha.put (by simpa [Nat.blt_eq]using hp1) (e1 x)).put (by simpa [Nat.blt_eq]using hp2) (e2 x)
      have h2:=ha.defers
      cases a
      simp only at h2;subst h2
      exact h1
    refine roundIn_of_wpIn trivial (wpIn_mono (kH (ro:=some (w.heap.size+1)) (m:=0) hd2 (hround2 pre x L1 w1 hJ hQ w1 (show Own w1 (y1 L1) L1 w1 from(show Own w1 _ ([Res.obj (w.heap.size+1) (.loop (rc .ready none))]++L1) w1 from hO).giveEnd)) _ hrep) ?_)
    intro e a2 w2 hq
    cases e<;>first|exact hq.elim|skip
    obtain⟨f',hr',L2,hmid,hOm⟩:=hq
    have hOa:Own w1 (y1 (Res.obj (w.heap.size+1) (.loop (rc .ready none))::L1)) ([Res.obj (w.heap.size+1) (.loop (rc .ready none))]++L2) w2:=(show Own w1 _ ([Res.obj (w.heap.size+1) (.loop (rc .ready none))]++L1) w1 from hO).frameEnd hOm
    have hl2:w2.heap[w.heap.size+1]?=some (.loop (rc .ready none)):=hOa.holds 0 _ rfl
    have hOb:=hOa.putObj (i:=0) (.loop {rc .ready none with state:= .busy}) rfl
    refine⟨_,run_beginRound hl2 (by rw[hrc]),?_⟩
    have hOb':Own w1 (y1 (Res.obj (w.heap.size+1) (.loop (rc .ready none))::L1)) ([Res.obj (w.heap.size+1) (.loop {rc .ready none with state:= .busy})]++L2) (w2.putObj (w.heap.size+1) (.loop {rc .ready none with state:= .busy})):=hOb
    refine wpIn_block (wpIn_mono (hround3 (w.heap.size+1) pre x f' L2 _ hmid hQ hOb'.giveEnd a2 hr') ?_)
    intro e a3 w3 hq
    cases e<;>first|exact hq.elim|skip
    · obtain⟨L',hJ',hO3⟩:=hq
      have hO4:=hOb'.frameEnd hO3
      have hl3:w3.heap[w.heap.size+1]?=some (.loop {rc .ready none with state:= .busy}):=hO4.holds 0 _ rfl
      have he:=run_endRound (P:=P) none hl3
      refine⟨_,_,he,true,O,Res.obj (w.heap.size+1) (.loop (rc .ready none))::L',⟨L',O,hJ'⟩,?_⟩
      have hO5:=hO4.putObj (i:=0) (.loop (rc .ready none)) rfl
      have e1:(.loop {{rc .ready none with state:= .busy}with state:=if(none:Option Code).isNone then .ready else .done,pending:=none}:Obj)= .loop (rc .ready none):=by rw[hrc];rfl
      rw[e1]
      exact hO5
    obtain⟨L',hJ',hO3⟩:=hq
    have hO4:=hOb'.frameEnd hO3
    have hl3:w3.heap[w.heap.size+1]?=some (.loop {rc .ready none with state:= .busy}):=hO4.holds 0 _ rfl
    have he:=run_endRound (P:=P) (some .ret) hl3
    refine⟨_,_,he,false,O,Res.obj (w.heap.size+1) (.loop (rc .done (some .ret)))::L',⟨L',O,hJ'⟩,?_⟩
    have hO5:=hO4.putObj (i:=0) (.loop (rc .done (some .ret))) rfl
    have e1:(.loop {{rc .ready none with state:= .busy}with state:=if(some Code.ret).isNone then .ready else .done,pending:=some .ret}:Obj)= .loop (rc .done (some .ret)):=by rw[hrc];rfl
    rw[e1]
    exact hO5
  rintro _ w2 ⟨v,rfl,r,xs,L',hS,hO⟩
  cases r with
  |true=>
    obtain⟨hS,L1,rfl,hJ⟩:=hS
    have hO2:=(show Own w0 S _ _ from hO1'.frameEnd hO).perm (show([Res.obj w.heap.size (.deferred (some []))]++(Ls++Res.obj (w.heap.size+1) (.loop (rc .ready none))::L1)).Perm (Res.obj (w.heap.size+1) (.loop (rc .ready none))::Res.obj w.heap.size (.deferred (some []))::(Ls++L1))from
      (List.Perm.cons _ List.perm_middle).trans (.swap _ _ _))
    have hl:w2.heap[w.heap.size+1]?=some (.loop (rc .ready none)):=hO2.holds 0 _ rfl
    refine⟨none,w2.putObj (w.heap.size+1) (.loop (rc .exhausted none)),by rw[run_endLoop (P:=P) hl (by rw[hrc];simp),hrc],?_⟩
    have hO3:=(hO2.putObj (i:=0) (.loop (rc .exhausted none)) rfl).tail
    show Exit.inBlock b0 _ .normal _ _
    refine hdone xs L1 w.heap.size _ hS hJ hO3 _ ⟨?_,?_⟩
    · have h2:=ha.defers
      cases a
      simp only at h2;subst h2
      exact ha
    show _++a.defers=_
    rw[ha.defers];rfl
  |false=>
    obtain⟨L1,rfl,hJ⟩:=hS
    have hO2:=(show Own w0 S _ _ from hO1'.frameEnd hO).perm (show([Res.obj w.heap.size (.deferred (some []))]++(Ls++Res.obj (w.heap.size+1) (.loop (rc .done (some .ret)))::L1)).Perm (Res.obj (w.heap.size+1) (.loop (rc .done (some .ret)))::Res.obj w.heap.size (.deferred (some []))::(Ls++L1))from
      (List.Perm.cons _ List.perm_middle).trans (.swap _ _ _))
    have hl:w2.heap[w.heap.size+1]?=some (.loop (rc .done (some .ret))):=hO2.holds 0 _ rfl
    refine⟨some .ret,w2.putObj (w.heap.size+1) (.loop (rc .exhausted (some .ret))),by rw[run_endLoop (P:=P) hl (by rw[hrc];simp),hrc],?_⟩
    have hO3:=(hO2.putObj (i:=0) (.loop (rc .exhausted (some .ret))) rfl).tail
    refine wpIn_ret ?_
    show LeavesInM Fence.wide 0 P fn a.tmps _ _ .returning _
    refine hstop xs L1 w.heap.size _ hJ hO3 {a with defers:=[{target:= .collected w.heap.size,args:= #[]}]++a.defers} ⟨?_,?_⟩
    · have h2:=ha.defers
      cases a
      simp only at h2;subst h2
      exact ha
    show _++a.defers=_
    rw[ha.defers];rfl
theorem zL9{t4 t5 D:Nat}{T4 T5:TypeId}{f:Nat→Value}{w0 w:World}{S:List Nat}{R:Value→World→Prop}{L':List Res}{cs:List Value}{v:Value}{b4 b5 j4 j5:Nat}(hr:fn.results= #[.cell t4 T4, .cell t5 T5])(h5:one P T5=true)
    (e4:f t4= .pointer (some ⟨b4,0,none⟩)) (e5:f t5= .pointer (some ⟨b5,0,none⟩)) (q4:L'[j4]?=some (Res.row b4 T4 cs)) (q5:L'[j5]?=some (Res.row b5 T5 [v])) (hT:jm P T4=some cs.length)
    (hO:Own w0 S (Res.obj D (.deferred (some []))::L') w) (hR:∀ w'',Own w0 S L' w''→R (.tuple #[.agg cs.toArray,v]) w''):
    ∀ a,RepD n [{target:= .collected D,args:= #[]}] f a→LeavesInM Fence.wide 0 P fn a.tmps (fun e w'=>∃ v,e= .returned v∧R v w') a.defers .returning w:=by
  intro a hr'
  rw[hr'.2]
  refine⟨by simp, .inl ⟨D,_,O,run_takeDeferred (hO.holds 0 _ O),?_⟩⟩
  have hO2:=(hO.putObj (i:=0) (.deferred none) rfl).tail
  refine⟨_,?_,_,O,hR _ hO2⟩
  have g:∀ t,a.tmps.getD t undef=f t:=hr'.1.get
  have r4:=xU (P:=P) hT (hO2.qr q4)
  have r5:=jA (P:=P) h5 (hO2.rowCell q5 (off:=0) (v:=v) rfl)
  simp[results,hr,g,e4,e5,asAddr,r4,r5]
end
end Go.Sc
set_option linter.unusedVariables false
set_option maxRecDepth 10000
namespace Go.Proofs.YtkkeknmkipkbmaaGreat
open Go Go.Sc Go.Proofs
def zAM(upto:Nat)(x:EntA):Bool:=decide (x.kind=3∧x.index≤upto)
def y9(vs0:List Int)(es:List EntA)(upto:Nat):ConfA×Nat:=
  match es.reverse.find? (zAM upto)with
  |some x=>((xN x.data).getD ⟨[],[]⟩,x.index)
  |none=>(⟨vs0,[]⟩,0)
theorem zJR{α:Type}[Inhabited α]{l:List α}{p:α→Bool}{m:Nat}(hm:m<l.length)(h:∀ j,j<m→p (zG l (l.length - 1 - j))=false)(hx:p (zG l (l.length - 1 - m))=true):l.reverse.find? p=some (zG l (l.length - 1 - m)):=by
  have at_:∀ j (hj:j<l.length),l.reverse[j]?=some (zG l (l.length - 1 - j)):=fun j hj=>by rw[List.getElem?_reverse V];exact yW V
  rw[List.find?_eq_some_iff_getElem]
  refine⟨hx,m,by simpa using hm,?_,fun j hj=> ?_⟩
  · have:=at_ m hm;rw[List.getElem?_eq_getElem (by simpa using hm)]at this;exact Option.some.inj this
  have e:=at_ j V;rw[List.getElem?_eq_getElem qX]at e;rw[Option.some.inj e,h j hj];rfl
theorem zJx{α:Type}[Inhabited α]{l:List α}{p:α→Bool}(h:∀ j,j<l.length→p (zG l (l.length - 1 - j))=false):l.reverse.find? p=none:=by
  rw[List.find?_eq_none]
  intro x hx
  obtain⟨i,hi⟩:=List.mem_iff_getElem?.1 (List.mem_reverse.1 hx)
  have hl:i<l.length:=(List.getElem?_eq_some_iff.1 hi).1
  have:=h (l.length - 1 - i) V
  rw[show l.length - 1 - (l.length - 1 - i)=i by omega,nth_eq hi]at this
  rw[this];simp
theorem zKL(sb:Nat)(v:Value)(l:List EntD)(hl:zi l.length):zOU Tryz.prog 158 [pt sb] (fun x:Int×EntD=>Value.int .i64 x.1) (fun x:Int×EntD=>Value.agg (EntD.cells x.2).toArray) (fun pre (x:Int×EntD)=>pre.length<l.length∧x.2=zG l (l.length - 1 - pre.length)) (fun xs=>xs.length=l.length) [Res.row sb 57 [v],vE v l]:=by
  intro ly J Jx L0 w Y hJ hin
  refine kC (args:=[.func (.yield ly) #[] #[],pt sb]) Tryz.func158 O Tryz.ntmps158 O (show Own w (y1 ([Res.row sb 57 [v],vE v l]++L0)) (Res.row sb 57 [v]::vE v l::L0) w from hin) ?_
  refine zC (zM 0 (v:=v) O O O O (zp (pV 1 O) O O (x8 O O (zr V) O (zI O (zA (zZ ?_))))))
  refine x3 (fun(k:Nat) (pre:List (Int×EntD)) (Lr:List Res)=>[(0, .func (.yield ly) #[] #[]),(1,pt sb),(3,Vi (((k:Nat):Int) - 1))]) (fun(k:Nat) (pre:List (Int×EntD)) (Lr:List Res)=>(k≤l.length∧pre.length+k=l.length)∧J pre Lr) (fun(k:Nat) (pre:List (Int×EntD)) (Lr:List Res)=>(Res.row sb 57 [v]::vE v l::Lr)) (fun(k:Nat) (pre:List (Int×EntD)) (Lr:List Res)=>k) (fun w' hw=>⟨l.length,[],L0,⟨O,O,O,trivial⟩,⟨⟨Nat.le_refl _,by simp⟩,hJ⟩,hw⟩) (fun k pre Lr g hΦ=> ?_)
  have hk:=hΦ.1
  have hJk:=hΦ.2
  refine zP (zC (zD O (kK O O O (zA (za O (fun c1=> ?_) (fun c1=> ?_))))))
  ·refine zQ (zP (zZ (zFS ?_)))
   refine ku O zS ?_
   refine ku O zS ?_
   refine ku O (zY 0 (v:=v) O O O) ?_
   refine ku O zS ?_
   refine ku O (yz (pV 1 O) 5 (k - 1) O O V V) ?_
   refine ku O (zFU (pV 1 O) 5 (k - 1) (off:=xH v+(k - 1)*5) (fun _=>O) O O V) ?_
   refine zLo [Res.row sb 57 [v],vE v l] (((k:Nat):Int) - 1,zG l (k - 1)) Y O O O hJk ⟨by omega,by show zG l (k - 1)=zG l _;congr 1;omega⟩ O (fun rLy1_ Ly1_ hJLy1_=> ?_)
   refine ku O (zDx (b:=rLy1_) O) ?_
   refine zKe ?_
   refine zAu O (fun c2=> ?_) (fun c2=> ?_)
   ·exact zU (yQ O (fun w' hw=>⟨false,pre++[(((k:Nat):Int) - 1,zG l (k - 1))],Ly1_,(by have e:rLy1_=false:=(by simpa using c2);have h:=hJLy1_;rwa [if_neg (by rw[e];simp)]at h),hw⟩))
   refine zQ (zV (zD O (x8 O O (zr V) O (zI O ?_))))
   exact zg (fun w' hw=>⟨k - 1,pre++[(((k:Nat):Int) - 1,zG l (k - 1))],Ly1_,⟨O,O,(by show Value.int .i64 _=Value.int .i64 _;congr 1;omega),trivial⟩,⟨⟨by omega,by simp;omega⟩,(by have e:rLy1_=true:=(by simpa using c2);have h:=hJLy1_;rwa [if_pos e]at h)⟩,hw,V⟩)
  exact kw O (yQ O (fun w' hw=>⟨true,pre,Lr,⟨by omega,hJk⟩,hw⟩))
theorem zPy{S:List Nat}(v:Value)(l:List EntD)(w:World)(hin:Own w S [vE v l] w):Rets Tryz.prog 117 #[v] w fun u_ w'=>∃ (b:Nat),u_= .func (.func 158) #[] #[pt b]∧Own w S [vE v l,Res.row b 57 [v]] w':=by
  refine zW Tryz.func117 O Tryz.ntmps117 hin ?_
  refine zC ?_
  refine zN (fun w' hw=>Own.qg (i:=0) O hw) (fun hc1_=> ?_)
  refine zHs O hc1_ O (fun b1=>zI O (zA (zC (zBX (va:=[]) (vb:=[pt b1]) O O O (zI O (zA ?_))))))
  exact zU (z9 (v:= .func (.func 158) #[] #[pt b1]) O O (fun w' hw=>⟨b1,O,hw⟩))
theorem zFt(c:ConfD)(w:World)(hv:c.vs.length≤10000000)(hl:c.ls.length≤10000000)(rd_c:ConfD.rd c w []):Rets Tryz.prog 68 #[.agg (ConfD.cells c).toArray] w fun u_ w'=>∃ (cv cw:Value),u_= .agg #[cv,cw]∧Own w [] [vI cv c.vs,vI cw c.ls] w':=by
  refine zW Tryz.func68 O Tryz.ntmps68 (Own.start w) ?_
  refine zC (z8 O O (fun b1=>yC (v:= .agg #[.slice none 0 0, .slice none 0 0]) qN O (fun b2=>zA (zP (ze [0] O qM qN (fun w' hw hS=>zB 0 O (zH (o:=0) O) hS (zB 1 O (zY 0 (v:=c.vv) O O O) hS (zB 3 O (zH (o:=1) O) hS (zB 4 O (zY 0 (v:=c.lv) O O O) hS (zJ 2 O hw (a_call O O (fun w' hw=>(zBZ c.vv c.vs w' qP (hw.rd0 rd_c.vv)).mono ?_))))))))))))
  rintro r1_ w1 ⟨_,rfl,hO⟩
  refine O3 ?_ (hw.qi hO)
  refine zE [0] O qM (fun w' hw hS=>zJ 5 O hw (a_call O O (fun w' hw=>(zBZ c.lv c.ls w' qP (hw.rd0 rd_c.lv)).mono ?_)))
  rintro r2_ w1 ⟨_,rfl,hO⟩
  refine O4 ?_ (hw.qi hO)
  refine zE [0] O qM (fun w' hw hS=>zJ 6 O hw ?_)
  refine zN (fun w' hw=>Own.qg (i:=2) O hw) (fun hc3_=> ?_)
  refine zN (fun w' hw=>Own.qg (i:=3) O hw) (fun hc4_=> ?_)
  refine jK (cs:=[r1_,r2_]) (z:=[.slice none 0 0, .slice none 0 0]) (pl:=[(0,1),(1,1)]) qN ⟨hc3_,hc4_,trivial⟩ qN O (zE [0] O qM (fun w' hw hS=>zJ 7 O hw (zo 1 O O O (zF hc3_ (zF hc4_ zh)) O (zE [0] O qM (fun w' hw hS=>zT ?_)))))
  refine Oc4 ?_ hw
  exact zU (jp (cs:=[r1_,r2_]) O O qN (Own.qr (i:=1) O) (fun w' hw=>⟨r1_,r2_,O,hw.sel [2,3] O qM⟩))
theorem zL5{es rs:List EntD}{e:Int}(hl:es.length≤1000000)(hf:(LG 0 0 es).fromE (0+1) 1073741824=(rs.map EntD.toEntA,e)):rs.map EntD.toEntA=es.map EntD.toEntA:=by
  rw[LG.fromE_eq,if_neg V,if_neg V,if_neg V]at hf
  have e1:=congrArg Prod.fst hf
  have e1:((es.map EntD.toEntA).drop (0+1 - 0 - 1)).take (1073741824:Int).toNat=rs.map EntD.toEntA:=e1
  rw[←e1,List.drop_zero,List.take_of_length_le qX]
theorem zN0{rs:List EntD}{j:Nat}(h:j<rs.length):zG (rs.map EntD.toEntA) j=(zG rs j).toEntA:=nth_eq (by rw[List.getElem?_map,yW h];rfl)
theorem zQW{rs:List EntD}{upto:Nat}{pre:List (Int×EntD)}{x:Int×EntD}(hJ:∀ j,j<pre.length→zAM upto (zG rs (rs.length - 1 - j)).toEntA=false)(hQ:pre.length<rs.length∧x.2=zG rs (rs.length - 1 - pre.length))(h:¬(x.2.kind=3∧x.2.index≤upto)):∀ j,j<(pre++[x]).length→zAM upto (zG rs (rs.length - 1 - j)).toEntA=false:=by
  intro j hj
  by_cases hj2:j<pre.length
  · exact hJ j hj2
  rw[show j=pre.length by simp at hj;omega,←hQ.2]
  exact decide_eq_false h
theorem zOM{vs0:List Int}{rs:List EntD}{upto:Nat}{pre:List (Int×EntD)}{x:Int×EntD}{F:ConfA}{e:Int}(hJ:∀ j,j<pre.length→zAM upto (zG rs (rs.length - 1 - j)).toEntA=false)(hQ:pre.length<rs.length∧x.2=zG rs (rs.length - 1 - pre.length))(h:x.2.kind=3∧x.2.index≤upto)(hv:ValPost (xN x.2.data) F ⟨[],[]⟩ e):(F,x.2.index)=y9 vs0 (rs.map EntD.toEntA) upto:=by
  unfold y9
  rw[zJR (m:=pre.length) (by simpa using hQ.1) (fun j hj=>by rw[List.length_map,zN0 V];exact hJ j hj) (by rw[List.length_map,zN0 V,←hQ.2];exact decide_eq_true h)]
  rw[List.length_map,zN0 V,←hQ.2]
  show(F,x.2.index)=((xN x.2.data).getD ⟨[],[]⟩,x.2.index)
  rcases hv with⟨_,hv⟩|⟨_,hv,rfl⟩<;>rw[hv]<;>rfl
theorem zNh{vs0:List Int}{rs:List EntD}{upto n:Nat}(hn:n=rs.length)(hJ:∀ j,j<n→zAM upto (zG rs (rs.length - 1 - j)).toEntA=false):((⟨vs0,[]⟩:ConfA),0)=y9 vs0 (rs.map EntD.toEntA) upto:=by
  unfold y9
  rw[zJx (fun j hj=>by rw[List.length_map]at hj ⊢;rw[zN0 V];exact hJ j V)]
theorem zDU{S:List Nat}(cb jb:Nat)(t:TimD)(a:StA)(r:RolD)(b:StB)(lead yv out:Value)(qe:Nat)(lv:Value)(es:List EntD)(upto:Nat)(w:World)(hg:(LG 0 0 es).good)(hl:es.length≤1000000)(hvl:b.vs.length≤1000)(hin:Own w S [z7 cb t lead a r b yv jb qe out,Res.nl b lv es] w):Rets Tryz.prog 73 #[pt cb,Vn upto] w fun u_ w'=>∃ (cv cw:Value) (F:ConfA) (I:Nat),u_= .tuple #[.agg #[cv,cw],Vn I]∧(F,I)=y9 b.vs (es.map EntD.toEntA) upto∧Own w S [z7 cb t lead a r b yv jb qe out,Res.nl b lv es,vI cv F.vs,vI cw F.ls] w':=by
  refine zJO (args:=[pt cb,Vn upto]) (A:=Own w S [z7 cb t lead a r b yv jb qe out,Res.nl b lv es]) Tryz.func73 O Tryz.ntmps73 O hin ?_
  refine zV (z8 O O (fun b3=>yC (v:= .agg #[.slice none 0 0, .slice none 0 0]) qN O (fun b4=>yC (v:=Vn 0) qN O (fun b5=>zg (fun w1 hw=> ?_)))))
  refine Oc5 ?_ hw
  refine ze [0,1,2,3,4] O qM qN (fun w' hw hS=>zB 0 O zS hS (zB 1 O (zO O) hS (zB 2 O (zH (o:=29) O) hS (zB 3 O (zY 0 (v:=pt b.lb) O O O) hS (zB 4 O zS hS (zB 5 O (zO O) hS (zB 6 O (zH (o:=24) O) hS (zB 7 O (zH (o:=0) O) hS (zB 8 O (zY 0 (v:=Vn 0) O O O) hS (zB 9 O (yr O O (xA V)) hS (zJ 10 O hw (a_call O O (fun w' hw=> ?_)))))))))))))
  refine(zHp b.lb 0 0 lv es (0+1) 1073741824 w' V ‹_› (hw.qF 1 0 O O) (hw.qH 1 1 O O) (EntD.rd.qF 1 2 O O hw)).mono ?_
  rintro _ w1 ⟨r1_,rs2_,e3_,rfl,hf1_10,hO⟩
  have hrs:=zL5 hl hf1_10
  have hrl:rs2_.length=es.length:=(by simpa using congrArg List.length hrs)
  refine O7 ?_ (hw.qi hO)
  refine zE [0,1,2,3,4] O qM (fun w' hw hS=>zB 11 O zS hS (zB 12 O (yT (vs:=[r1_,Vi e3_]) O O) hS (zB 13 O (yT (vs:=[r1_,Vi e3_]) O O) hS (zB 14 O yO hS (zB 15 O yO hS (zT ?_))))))
  skip
  refine(?_:C _ _ _ _ _ _ _ (Own w S [_,_,_,_,_,_,_])) w' hw
  refine zV (zD O (a_call O O (fun w' hw=>(zPy r1_ rs2_ w' (hw.give [5] O qM)).mono ?_)))
  rintro _ w1 ⟨b4_,rfl,hO⟩
  refine O8 ?_ (hw.qh [5] O hO)
  refine zg (fun w1 hw=> ?_)
  refine zK2 (e1:=fun x:Int×EntD=>Value.int .i64 x.1) (e2:=fun x:Int×EntD=>Value.agg (EntD.cells x.2).toArray) (Q:=fun pre (x:Int×EntD)=>pre.length<rs2_.length∧x.2=zG rs2_ (rs2_.length - 1 - pre.length)) (Sx:=fun xs=>xs.length=rs2_.length) (Ls:=[Res.row b4_ 57 [r1_],vE r1_ rs2_]) (Lu:=[z7 cb t lead a r b yv jb qe out,Res.nl b lv es,Res.row b3 22 [Vn upto],Res.row b4 35 [.slice none 0 0, .slice none 0 0],Res.row b5 22 [Vn 0],sE rs2_]) (Ju:=fun pre L=>L=[z7 cb t lead a r b yv jb qe out,Res.nl b lv es,Res.row b3 22 [Vn upto],Res.row b4 35 [.slice none 0 0, .slice none 0 0],Res.row b5 22 [Vn 0],sE rs2_]∧(∀ j,j<pre.length→zAM upto (zG rs2_ (rs2_.length - 1 - j)).toEntA=false)) (Jx:=fun pre L=>∃ (cv cw:Value) (F:ConfA) (i:Nat),L=[z7 cb t lead a r b yv jb qe out,Res.row b4 35 [cv,cw],Res.row b5 22 [Vn i],Res.nl b lv es,vI cv F.vs,vI cw F.ls]∧(F,i)=y9 b.vs (es.map EntD.toEntA) upto) (Mid:=fun pre x f' L=>∃ b9:Nat,Agr f' [(3,pt b3),(4,pt b4),(5,pt b5),(9,pt b9)]∧L=[z7 cb t lead a r b yv jb qe out,Res.nl b lv es,Res.row b3 22 [Vn upto],Res.row b4 35 [.slice none 0 0, .slice none 0 0],Res.row b5 22 [Vn 0],sE rs2_,Res.row b9 81 (EntD.cells x.2)]∧(∀ j,j<pre.length→zAM upto (zG rs2_ (rs2_.length - 1 - j)).toEntA=false)) O qN (zKL _ _ _ (by simp only[zi];omega)) ⟨O,(fun j h=>by cases h)⟩ (hw.sel [7,6,0,1,2,3,4,5] O qM) O O O ?_ ?_ ?_ ?_
  ·rintro pre x L w ⟨rfl,hJ⟩ hQ
   have hxm:x.2∈rs2_:=by rw[hQ.2];exact zd V
   have hxa:x.2.toEntA∈es.map EntD.toEntA:=hrs▸List.mem_map_of_mem hxm
   have hxl:x.2.data.length≤4096:=(folA.ok hg.fol _ hxa).1.2.2.2
   refine yC (v:= .agg #[Vn 0,Vn 0,Vi 0,Vi 0, .slice none 0 0]) qN O (fun b9=> ?_)
   refine zN (fun w' hw=>Sl.cell1 (Rd.φ ((EntD.rd.star0 5 O hw _ hxm).dv))) (fun hc1_=> ?_)
   refine zo 6 O O O (zF O (zF O (zF O (zF O (zF hc1_ zh))))) O ?_
   exact zg (fun w' hw=>⟨_,⟨b9,⟨O,O,O,O,trivial⟩,O,hJ⟩,hw⟩)
  ·rintro l pre x f' L w ⟨b9,hA,rfl,hJ⟩ hQ hw
   rw[←zBg hA]
   have hxm:x.2∈rs2_:=by rw[hQ.2];exact zd V
   have hxa:x.2.toEntA∈es.map EntD.toEntA:=hrs▸List.mem_map_of_mem hxm
   have hxl:x.2.data.length≤4096:=(folA.ok hg.fol _ hxa).1.2.2.2
   refine zLU O ((?_:CL _ _ _ _ _ _ (Own w (y1 [z7 cb t lead a r b yv jb qe out,Res.nl b lv es,Res.row b3 22 [Vn upto],Res.row b4 35 [.slice none 0 0, .slice none 0 0],Res.row b5 22 [Vn 0],sE rs2_,Res.row b9 81 (EntD.cells x.2)]) [z7 cb t lead a r b yv jb qe out,Res.nl b lv es,Res.row b3 22 [Vn upto],Res.row b4 35 [.slice none 0 0, .slice none 0 0],Res.row b5 22 [Vn 0],sE rs2_,Res.row b9 81 (EntD.cells x.2)])) w hw)
   refine zK (o:=2) O O (zM 6 (v:=Vi x.2.kind) O O O O (yR O O O (zD O (yJ (q:=x.2.kind=3) 4 3 [37,36,35,34] (((x.2.index:Nat):Int)≤((upto:Nat):Int)) O O O O O O trivial O (fun h4_3=> ?_) (fun g4_8=> ?_)))))
   ·refine zR O (gT h4_3) (zK (o:=0) O O (zR O (gT h4_3) (zM 6 (v:=Vn x.2.index) O O O O (zR O (gT h4_3) (zM 2 (v:=Vn upto) O O O O (zR O (gT h4_3) (x6 O O O ?_)))))))
    exact yN O (fun _ hw=>hw)
   refine zg (fun w1 hw=>zPl O (fun c1=> ?_) (fun c1=> ?_))
   ·refine zLU O ((?_:CL _ _ _ _ _ _ (Own w (y1 [z7 cb t lead a r b yv jb qe out,Res.nl b lv es,Res.row b3 22 [Vn upto],Res.row b4 35 [.slice none 0 0, .slice none 0 0],Res.row b5 22 [Vn 0],sE rs2_,Res.row b9 81 (EntD.cells x.2)]) [z7 cb t lead a r b yv jb qe out,Res.nl b lv es,Res.row b3 22 [Vn upto],Res.row b4 35 [.slice none 0 0, .slice none 0 0],Res.row b5 22 [Vn 0],sE rs2_,Res.row b9 81 (EntD.cells x.2)])) w1 hw)
    refine zK (o:=4) O O (zM 6 (v:=x.2.dv) O O O O (a_call O O (fun w' hw=>(zF7 x.2.dv x.2.data w' qP ((EntD.rd.star0 5 O hw _ hxm).dv)).mono ?_)))
    rintro _ w1 ⟨r15_,l16_,r27_,l28_,e9_,rfl,hf5_2,hf5_2_1,hf5_2_2,hO⟩
    refine(?_:CL _ _ _ _ _ _ (Own w (y1 [z7 cb t lead a r b yv jb qe out,Res.nl b lv es,Res.row b3 22 [Vn upto],Res.row b4 35 [.slice none 0 0, .slice none 0 0],Res.row b5 22 [Vn 0],sE rs2_,Res.row b9 81 (EntD.cells x.2)]) [z7 cb t lead a r b yv jb qe out,Res.nl b lv es,Res.row b3 22 [Vn upto],Res.row b4 35 [.slice none 0 0, .slice none 0 0],Res.row b5 22 [Vn 0],sE rs2_,Res.row b9 81 (EntD.cells x.2),vI r15_ l16_,vI r27_ l28_])) w1 (hw.qi hO)
    refine zD O (yA (vs:=[.agg #[r15_,r27_],Vi e9_]) O O O (yA (vs:=[.agg #[r15_,r27_],Vi e9_]) O O O (yC (v:= .agg #[.slice none 0 0, .slice none 0 0]) qN O (fun b10=> ?_))))
    refine zN (fun w' hw=>Own.qg (i:=7) O hw) (fun hc2_=> ?_)
    refine zN (fun w' hw=>Own.qg (i:=8) O hw) (fun hc3_=> ?_)
    refine zo 9 O O O (zF hc2_ (zF hc3_ zh)) O (zI O (zg (fun w2 hw=>zN4 [0,2,6,7,8,9] O qM O qN (fun w' hw hS=> ?_) hw)))
    refine zB 0 O (x1 (cs:=[r15_,r27_]) 5 O O) hS (zB 1 O (zH (o:=0) O) hS (zB 2 O (zY 2 (v:=Vn x.2.index) O O O) hS (zJ 3 O hw (zo 3 O O O (zF hc2_ (zF hc3_ zh)) O (zE [0,2,6,7,8,9] O qM (fun w' hw hS=>zJ 4 O hw (zn (cs:=[Vn 0]) 4 O O O O O (zE [0,2,6,7,8,9] O qM (fun w' hw hS=>zT ?_)))))))))
    exact zP9 ⟨_,⟨r15_,r27_,(⟨l16_,l28_⟩:ConfA),x.2.index,O,hrs▸zOM hJ hQ ⟨c1.1,by omega⟩ hf5_2⟩,hw.sel [0,3,4,1,7,8] O qM⟩
   exact zM3 ⟨_,⟨O,zQW hJ hQ (fun q=>c1 ⟨q.1,by omega⟩)⟩,hw.sel [0,1,2,3,4,5] O qM⟩
  ·rintro xs L' D w1 hS ⟨rfl,hJ⟩ hO a_ ha_
   refine zOP O qN O ?_ hO a_ ha_
   refine zD O (zb O O (zK (o:=24) O O (zK (o:=2) O O (zAZ 3 [b.vv,b.wv] O O (kN 26 O) qN O (a_call O O (fun w' hw=>(zFt ({vv:=b.vv,vs:=b.vs,lv:=b.wv,ls:=[]}:ConfD) w' qP qP ⟨(hw.qH 4 3 O O),(hw.qH 4 4 O O)⟩).mono ?_))))))
   rintro _ w1 ⟨cv10_,cw11_,rfl,hO⟩
   refine O11 ?_ (hw.qi hO)
   refine zN (fun w' hw=>Own.qg (i:=9) O hw) (fun hc4_=> ?_)
   refine zN (fun w' hw=>Own.qg (i:=10) O hw) (fun hc5_=> ?_)
   refine zo 6 O O O (zF hc4_ (zF hc5_ zh)) O (zn (cs:=[Vn 0]) 7 O O O O O ?_)
   exact zg (fun w' hw=>⟨_,[cv10_,cw11_],Vn 0,b4,b5,5,6,⟨O,O⟩,⟨by rfl,by rfl⟩,by kernel_rfl,hw,fun w'' hO2=>⟨cv10_,cw11_,(⟨b.vs,[]⟩:ConfA),0,O,hrs▸zNh hS hJ,hO2.sel [2,3,8,9] O qM⟩⟩)
  rintro xs L' D w1 ⟨cv,cw,F,i,rfl,hX⟩ hO
  exact zL9 (cs:=[cv,cw]) (v:=Vn i) (j4:=3) (j5:=4) O qN O O O O qN hO (fun w'' hO2=>⟨cv,cw,F,i,O,hX,hO2.sel [2,5,6,7] O qM⟩)
end Go.Proofs.YtkkeknmkipkbmaaGreat
