import Derived.Test.YtkkeknmkipkbmaaGreatFwJ
set_option linter.unusedSimpArgs false
set_option linter.unusedVariables false
set_option linter.unusedSectionVars false
namespace Go.Sc
def zHp{α:Type}(P:Program)(l:Nat)(e1 e2:α→Value)(Q:List α→α→Prop)(J Jx:List α→List Res→Prop):Prop:=
  ∀ pre x L w,J pre L→Q pre x→Own w (y1 L) L w→∃ fn tmps asg body,(Instr.yield l #[e1 x,e2 x]).run P w= .ok (.round l fn tmps asg body) w∧
    RoundIn Fence.wide 0 P l fn tmps asg body w fun e w'=>∃ r:Bool,e= .returned (.bool r)∧∃ L',(if r then J (pre++[x]) L' else Jx (pre++[x]) L')∧Own w (y1 L) L' w'
def zMo{α:Type}(P:Program)(g:FuncId)(lb:List Value)(e1 e2:α→Value)(Q:List α→α→Prop)(Sx:List α→Prop)(Ls:List Res):Prop:=
  ∀ (l:Nat) (J Jx:List α→List Res→Prop) (L:List Res) (w:World),zHp P l e1 e2 Q J Jx→J [] L→Own w (y1 (Ls++L)) (Ls++L) w→
    Rets P g (.func (.yield l) #[] #[]::lb).toArray w fun _ w'=>∃ (r:Bool) (xs:List α) (L':List Res),(if r then Sx xs∧J xs L' else Jx xs L')∧Own w (y1 (Ls++L)) (Ls++L') w'
section
variable {P:Program} {n:Nat} {ops:Array Oper} {f:Nat→Value} {A:World→Prop} {rest:List Oper} {d:Nat} {ty:TypeId} {p:String} {af:Array Edge} {N R:K} {X:List (Nat×K)} {ds:List Deferred} {fn:Func} {g:FuncId}
theorem zKe{α:Type}{e1 e2:α→Value}{Q:List α→α→Prop}{s l:Nat}{x y:Operand}{ats:Array TypeId}{J Jx:List α→List Res→Prop}{w0:World}{S:List Nat}{L:List Res}{pre:List α}(Ls:List Res)(e:α)(Y:zHp P l e1 e2 Q J Jx)(hf:f s= .func (.yield l) #[] #[])(hx:ev f x=e1 e)(hy:ev f y=e2 e)
    (hJ:J pre L) (hQ:Q pre e) (hd:Nat.blt d n=true) (k:∀ (r:Bool) L',(if r then J (pre++[e]) L' else Jx (pre++[e]) L')→IL P n ds ops rest N (upd f d (.bool r)) (Own w0 S (Ls++L'))):IL P n ds ops (⟨some d, .call ⟨.value (.tmp s),#[x,y],ats⟩,ty,p,af,none⟩::rest) N f (Own w0 S (Ls++L)):=by
  intro w hw a ha
  unfold wpListIn
  rw[if_pos qZ]
  refine⟨fun _ _=>trivial,?_⟩
  have hs:∀ o,Oper.semAt (Wd none).round a.eval o=execOp a.eval o:=fun _=>rfl
  rw[hs]
  obtain⟨fn,tmps,asg,body,hy2,hr⟩:=Y pre e L w hJ hQ hw.giveEnd
  have he:(execOp (ev f) ⟨some d, .call ⟨.value (.tmp s),#[x,y],ats⟩,ty,p,af,none⟩).run P w= .ok (.round l fn tmps asg body) w:=by
    simp[execOp,resolve,show ev f (.tmp s)=f s from rfl,hf,Deferred.ofValue,invoke,hx,hy,hy2]
  rw[ha.eval,he]
  refine⟨fun q=>by simp[Wd,Fence.wide]at q,RoundIn.mono (F:=Fence.wide) hr ?_⟩
  rintro _ w' ⟨r,rfl,L',hJ',hO⟩
  exact k r L' hJ' w' (hw.frameEnd hO) _ (ha.put (by simpa [Nat.blt_eq]using hd) _)
theorem zCs{ro:Option Nat}{m:Nat}{Q:Exit→Act→World→Prop}(hq:¬ LetsOut Q)(hn:∀ (i:Nat) (o:Oper),ops[i]?=some o→∀ c,o.op≠ .defer c):∀ (l:List Nat) (a:Act) (w:World),wpOps P ops Q l a w→wpOpsIn (Wd ro) m P ops Q l a w
  | [],a,w,h=>h
  |i::l,a,w,h=>by
    have ih:=fun a w=>zCs (m:=m) (ro:=ro) hq hn l a w
    unfold wpOps at h
    unfold wpOpsIn
    cases ho:ops[i]? with
    |none=>rw[ho]at h;exact ih _ _ h
    |some o=>
      rw[ho]at h
      simp only at h ⊢
      split
      · rename_i hw
        rw[if_pos hw]at h
        have h:=h.resolve_right fun q=>hq q.2
        refine⟨fun _ _=>trivial,?_⟩
        rw[Oper.semAt_eq _ _ _ (fun c hc=>hn i o ho c hc)]
        unfold Oper.wp at h
        generalize (execOp a.eval o).run P w=r at h ⊢
        cases r with
        |ok nx w'=>
          cases nx<;>simp only[Oper.upon,Oper.uponIn]at h ⊢ <;>
            first
              |exact h.elim
              |exact ih _ _ h
              |exact⟨fun q=>by simp[Wd,Fence.wide]at q,(zAr h).mono fun e w'' he=>by
                  cases e with
                  |returned v=>exact ih _ _ he
                  |panicked c=>exact he
                  |outgrown=>exact he⟩
              |exact⟨fun q=>by simp[Wd,Fence.wide]at q,(zBe h).mono fun v w'' he=>ih _ _ he⟩
        |halt x w'=>cases x<;>simp only[Oper.upon,Oper.uponIn]at h ⊢ <;>exact h
      rename_i hw
      rw[if_neg hw]at h
      exact⟨fun _ _=>trivial,ih _ _ h⟩
theorem zFE{l:List Oper}(h:xP l=true):∀ (i:Nat) (o:Oper),l.toArray[i]?=some o→∀ c,o.op≠ .defer c:=fun i o ho c hc=>by
  have hm:o∈l:=List.mem_of_getElem? (by simpa using ho)
  have:=(List.all_eq_true.1 h) o hm
  rw[hc]at this;simp at this
theorem zEP{ro:Option Nat}{m i:Nat}{l:List Oper}{w:World}(hn:xP l=true)(S:World→Prop)(hm:P.follows .mixedOrders=true)(h:HL P n l.toArray S N l.length (Array.replicate l.length false) f (drawn w)):∀ a,Rep n f a→(Code.region i l.toArray true).wpIn (Wd ro) m P (x1 n N) a w:=
  fun a ha=>wpIn_region_draw fun t=>by
    refine zCs jG (zFE hn) _ _ _ ?_
    simp only[Region.schedule,hm,Bool.true_or,if_true]
    refine wpAny_sound (ops:=l.toArray) (Q:=x1 n N) l.toArray.size t _ a _ (wpAny_of_held (S:=S) _ _ _ _ ?_)
    have h1:=h a ha
    show wpAnyH P .any l.toArray (x1 n N) S l.toArray.size (Array.replicate l.toArray.size false) a (drawn w)
    rw[List.size_toArray]
    exact h1
def zOO(n:Nat)(Bn Bx:World→Prop):Exit→Act→World→Prop
  | .normal,_,w=>Bn w
  | .ret,_,w=>Bx w
  |_,_,_=>False
def RS(P:Program)(n l:Nat)(Bn Bx:World→Prop)(c:Code):K:=fun f w=>∀ a,Rep n f a→c.wpIn (Wd (some l)) 0 P (zOO n Bn Bx) a w
theorem zJJ{l i:Nat}{lo:List Oper}{c:Code}{Bn Bx:World→Prop}{w:World}(hn:xP lo=true)(h:WL P n lo.toArray lo (RS P n l Bn Bx c) f w):RS P n l Bn Bx (.seq (.region i lo.toArray false) c) f w:=fun a ha=>by
  refine wpIn_seq (wpIn_mono (x2 hn h a ha) ?_)
  intro e a w hq
  cases e<;>first|exact hq.elim|skip
  obtain⟨f',hr,hB⟩:=hq
  exact hB a hr
theorem zMJ{l i:Nat}{lo:List Oper}{c:Code}{Bn Bx:World→Prop}{w0 w:World}{S:List Nat}{L:List Res}(m:List Nat){L':List Res}(hmm:m.mapM (fun i=>L[i]?)=some L')(hnd:m.Nodup)(hn:xP lo=true)(hm:P.follows .mixedOrders=true)
    (h:∀ w,Own w0 S L w→Own w0 S L' w→HL P n lo.toArray (Own w0 S L') (RS P n l Bn Bx c) lo.length (Array.replicate lo.length false) f w) (hw:Own w0 S L w):RS P n l Bn Bx (.seq (.region i lo.toArray true) c) f w:=fun a ha=>by
  refine wpIn_seq (wpIn_mono (zEP hn (Own w0 S L') hm (h _ hw.drawn (hw.sel m hmm hnd).drawn) a ha) ?_)
  intro e a w hq
  cases e<;>first|exact hq.elim|skip
  obtain⟨f',hr,hB⟩:=hq
  exact hB a hr
theorem zNu{l:Nat}{Bn Bx:World→Prop}{w:World}(h:Bx w):RS P n l Bn Bx .ret f w:=fun a ha=>wpIn_ret h
theorem zL5{l:Nat}{Bn Bx:World→Prop}{w:World}(h:Bn w):RS P n l Bn Bx .skip f w:=fun a ha=>wpIn_skip h
theorem zNX{l:Nat}{Bn Bx:World→Prop}{w:World}{c:Operand}{x y:Code}{q:Prop}[Decidable q](hc:ev f c= .bool (decide q))(h1:q→RS P n l Bn Bx x f w)(h2:¬ q→RS P n l Bn Bx y f w):RS P n l Bn Bx (.cond c x y) f w:=fun a ha=>by
  by_cases hq:q
  · exact wpIn_cond_true (by rw[ha.eval,hc,decide_eq_true hq]) (h1 hq a ha)
  exact wpIn_cond_false (by rw[ha.eval,hc,decide_eq_false hq]) (h2 hq a ha)
theorem zKj{α:Type}{e1 e2:α→Value}{Q:List α→α→Prop}{Sx:List α→Prop}{s p1 p2 i2 b0 b1:Nat}{sg:FuncId}{lb:List Value}{Ls Lu:List Res}{Ju Jx:List α→List Res→Prop}{l2:List Oper}{c3:Code}{f:Nat→Value}{w0 w:World}{S:List Nat}{c2:Code}{R:Value→World→Prop}
    (hs:f s= .func (.func sg) #[] lb.toArray) (hcall:x7 P sg=true) (hseq:zMo P sg lb e1 e2 Q Sx Ls) (h0:Ju [] Lu) (hw:Own w0 S (Ls++Lu) w) (hp1:Nat.blt p1 n=true) (hp2:Nat.blt p2 n=true) (hd2:xP l2=true)
    {Mid:List α→α→(Nat→Value)→List Res→Prop}
    (hround2:∀ pre x L w,Ju pre L→Q pre x→CL P n l2.toArray l2 (fun f' w'=>∃ L2,Mid pre x f' L2∧Own w (y1 L) L2 w') (upd (upd f p1 (e1 x)) p2 (e2 x)) (Own w (y1 L) L))
    (hround3:∀ l pre x f' L w,Mid pre x f' L→Q pre x→Own w (y1 L) L w→RS P n l (fun w'=>∃ L',Ju (pre++[x]) L'∧Own w (y1 L) L' w') (fun w'=>∃ L',Jx (pre++[x]) L'∧Own w (y1 L) L' w') c3 f' w)
    (hdone:∀ xs L' D w',Sx xs→Ju xs L'→Own w0 S (Res.obj D (.deferred (some []))::(Ls++L')) w'→∀ a,RepD n [{target:= .collected D,args:= #[]}] f a→c2.wpIn Fence.wide 0 P (bodyPostM Fence.wide 0 P fn fun e w'=>∃ v,e= .returned v∧R v w') a w')
    (hstop:∀ xs L' D w',Jx xs L'→Own w0 S (Res.obj D (.deferred (some []))::(Ls++L')) w'→∀ a,RepD n [{target:= .collected D,args:= #[]}] f a→LeavesInM Fence.wide 0 P fn a.tmps (fun e w'=>∃ v,e= .returned v∧R v w') a.defers .returning w'):
    RF P fn n (.block b0 (.rangeFunc (.tmp s) #[p1,p2] (.region i2 l2.toArray false) (.block b1 c3))) c2 R f w:=by
  intro a ha
  refine wpIn_block ?_
  refine wpIn_rangeFunc ?_
  intro fid _
  obtain⟨rc,hrc⟩:∃ rc:LoopState→Option Code→Loop,rc=fun st pe=>{state:=st,pending:=pe,fn:=fid,tmps:=a.tmps,params:= #[p1,p2],assign:= .region i2 l2.toArray false,body:= .block b1 c3,defers:=w.heap.size}:=⟨_,rfl⟩
  have hO1:Own w0 S (Res.obj w.heap.size (.deferred (some []))::(Ls++Res.obj (w.heap.size+1) (.loop (rc .ready none))::Lu)) ((w.alloc (.deferred (some []))).alloc (.loop (rc .ready none))):=by
    have h1:=(hw.newObj (.deferred (some []))).newObj (.loop (rc .ready none))
    rw[World.size_alloc]at h1
    refine h1.perm ?_
    rw[List.append_assoc]
    exact List.perm_append_comm.trans (List.Perm.cons _ (show(Res.obj (w.heap.size+1) (.loop (rc .ready none))::(Ls++Lu)).Perm _ from List.perm_middle.symm))
  refine⟨w.heap.size+1,[{target:= .collected w.heap.size,args:= #[]}],(w.alloc (.deferred (some []))).alloc (.loop (rc .ready none)),{target:= .fn (.func sg) lb.toArray,args:= #[.func (.yield (w.heap.size+1)) #[] #[]]},(w.alloc (.deferred (some []))).alloc (.loop (rc .ready none)),sg,#[.func (.yield (w.heap.size+1)) #[] #[]]++lb.toArray,(w.alloc (.deferred (some []))).alloc (.loop (rc .ready none)),
    by rw[hrc];exact run_enterLoop_outer _ _ _ _ _,?_,fun _ _=>trivial,?_,fun q=>by simp[Fence.wide]at q,?_⟩
  · simp[resolve,ha.eval,ev,hs,Deferred.ofValue]
  · have:=kJ hcall ((w.alloc (.deferred (some []))).alloc (.loop (rc .ready none))) (#[.func (.yield (w.heap.size+1)) #[] #[]]++lb.toArray)
    simp only[invoke]
    exact this
  rw[show(#[Value.func (.yield (w.heap.size+1)) #[] #[]]++lb.toArray)=(.func (.yield (w.heap.size+1)) #[] #[]::lb).toArray by simp]
  have hO1':Own w0 S ([Res.obj w.heap.size (.deferred (some []))]++(Ls++Res.obj (w.heap.size+1) (.loop (rc .ready none))::Lu)) ((w.alloc (.deferred (some []))).alloc (.loop (rc .ready none))):=hO1
  refine callsIn_wide.2 (Calls.mono (hseq (w.heap.size+1) (fun pre L=>∃ L1,L=Res.obj (w.heap.size+1) (.loop (rc .ready none))::L1∧Ju pre L1) (fun pre L=>∃ L1,L=Res.obj (w.heap.size+1) (.loop (rc .done (some .ret)))::L1∧Jx pre L1) _ _ ?_ ⟨Lu,O,h0⟩ hO1'.giveEnd) ?_)
  · rintro pre x L w1 ⟨L1,rfl,hJ⟩ hQ hO
    have hl:w1.heap[w.heap.size+1]?=some (.loop (rc .ready none)):=hO.holds 0 _ rfl
    have hy:(Instr.yield (w.heap.size+1) #[e1 x,e2 x]).run P w1= .ok (.round (w.heap.size+1) fid ((a.tmps.setIfInBounds p1 (e1 x)).setIfInBounds p2 (e2 x)) (.region i2 l2.toArray false) (.block b1 c3)) w1:=by
      have h:=run_yield (P:=P) (args:= #[e1 x,e2 x]) hl (by rw[hrc];rfl)
      rw[h,hrc]
      simp
    refine⟨_,_,_,_,hy,?_⟩
    have hrep:Rep n (upd (upd f p1 (e1 x)) p2 (e2 x)) {tmps:=(a.tmps.setIfInBounds p1 (e1 x)).setIfInBounds p2 (e2 x),defers:=[]}:=by
      have h1:=(ha.put (by simpa [Nat.blt_eq]using hp1) (e1 x)).put (by simpa [Nat.blt_eq]using hp2) (e2 x)
      have h2:=ha.defers
      cases a
      simp only at h2;subst h2
      exact h1
    refine roundIn_of_wpIn trivial (wpIn_mono (x2 (ro:=some (w.heap.size+1)) (m:=0) hd2 (hround2 pre x L1 w1 hJ hQ w1 (show Own w1 (y1 L1) L1 w1 from(show Own w1 _ ([Res.obj (w.heap.size+1) (.loop (rc .ready none))]++L1) w1 from hO).giveEnd)) _ hrep) ?_)
    intro e a2 w2 hq
    cases e<;>first|exact hq.elim|skip
    obtain⟨f',hr',L2,hmid,hOm⟩:=hq
    have hOa:Own w1 (y1 (Res.obj (w.heap.size+1) (.loop (rc .ready none))::L1)) ([Res.obj (w.heap.size+1) (.loop (rc .ready none))]++L2) w2:=(show Own w1 _ ([Res.obj (w.heap.size+1) (.loop (rc .ready none))]++L1) w1 from hO).frameEnd hOm
    have hl2:w2.heap[w.heap.size+1]?=some (.loop (rc .ready none)):=hOa.holds 0 _ rfl
    have hOb:=hOa.putObj (i:=0) (.loop {rc .ready none with state:= .busy}) rfl
    refine⟨_,run_beginRound hl2 (by rw[hrc]),?_⟩
    have hOb':Own w1 (y1 (Res.obj (w.heap.size+1) (.loop (rc .ready none))::L1)) ([Res.obj (w.heap.size+1) (.loop {rc .ready none with state:= .busy})]++L2) (w2.putObj (w.heap.size+1) (.loop {rc .ready none with state:= .busy})):=hOb
    refine wpIn_block (wpIn_mono (hround3 (w.heap.size+1) pre x f' L2 _ hmid hQ hOb'.giveEnd a2 hr') ?_)
    intro e a3 w3 hq
    cases e<;>first|exact hq.elim|skip
    · obtain⟨L',hJ',hO3⟩:=hq
      have hO4:=hOb'.frameEnd hO3
      have hl3:w3.heap[w.heap.size+1]?=some (.loop {rc .ready none with state:= .busy}):=hO4.holds 0 _ rfl
      have he:=run_endRound (P:=P) none hl3
      refine⟨_,_,he,true,O,Res.obj (w.heap.size+1) (.loop (rc .ready none))::L',⟨L',O,hJ'⟩,?_⟩
      have hO5:=hO4.putObj (i:=0) (.loop (rc .ready none)) rfl
      have e1:(.loop {{rc .ready none with state:= .busy}with state:=if(none:Option Code).isNone then .ready else .done,pending:=none}:Obj)= .loop (rc .ready none):=by rw[hrc];rfl
      rw[e1]
      exact hO5
    obtain⟨L',hJ',hO3⟩:=hq
    have hO4:=hOb'.frameEnd hO3
    have hl3:w3.heap[w.heap.size+1]?=some (.loop {rc .ready none with state:= .busy}):=hO4.holds 0 _ rfl
    have he:=run_endRound (P:=P) (some .ret) hl3
    refine⟨_,_,he,false,O,Res.obj (w.heap.size+1) (.loop (rc .done (some .ret)))::L',⟨L',O,hJ'⟩,?_⟩
    have hO5:=hO4.putObj (i:=0) (.loop (rc .done (some .ret))) rfl
    have e1:(.loop {{rc .ready none with state:= .busy}with state:=if(some Code.ret).isNone then .ready else .done,pending:=some .ret}:Obj)= .loop (rc .done (some .ret)):=by rw[hrc];rfl
    rw[e1]
    exact hO5
  rintro _ w2 ⟨v,rfl,r,xs,L',hS,hO⟩
  cases r with
  |true=>
    obtain⟨hS,L1,rfl,hJ⟩:=hS
    have hO2:=(show Own w0 S _ _ from hO1'.frameEnd hO).perm (show([Res.obj w.heap.size (.deferred (some []))]++(Ls++Res.obj (w.heap.size+1) (.loop (rc .ready none))::L1)).Perm (Res.obj (w.heap.size+1) (.loop (rc .ready none))::Res.obj w.heap.size (.deferred (some []))::(Ls++L1))from
      (List.Perm.cons _ List.perm_middle).trans (.swap _ _ _))
    have hl:w2.heap[w.heap.size+1]?=some (.loop (rc .ready none)):=hO2.holds 0 _ rfl
    refine⟨none,w2.putObj (w.heap.size+1) (.loop (rc .exhausted none)),by rw[run_endLoop (P:=P) hl (by rw[hrc];simp),hrc],?_⟩
    have hO3:=(hO2.putObj (i:=0) (.loop (rc .exhausted none)) rfl).tail
    show Exit.inBlock b0 _ .normal _ _
    refine hdone xs L1 w.heap.size _ hS hJ hO3 _ ⟨?_,?_⟩
    · have h2:=ha.defers
      cases a
      simp only at h2;subst h2
      exact ha
    show _++a.defers=_
    rw[ha.defers];rfl
  |false=>
    obtain⟨L1,rfl,hJ⟩:=hS
    have hO2:=(show Own w0 S _ _ from hO1'.frameEnd hO).perm (show([Res.obj w.heap.size (.deferred (some []))]++(Ls++Res.obj (w.heap.size+1) (.loop (rc .done (some .ret)))::L1)).Perm (Res.obj (w.heap.size+1) (.loop (rc .done (some .ret)))::Res.obj w.heap.size (.deferred (some []))::(Ls++L1))from
      (List.Perm.cons _ List.perm_middle).trans (.swap _ _ _))
    have hl:w2.heap[w.heap.size+1]?=some (.loop (rc .done (some .ret))):=hO2.holds 0 _ rfl
    refine⟨some .ret,w2.putObj (w.heap.size+1) (.loop (rc .exhausted (some .ret))),by rw[run_endLoop (P:=P) hl (by rw[hrc];simp),hrc],?_⟩
    have hO3:=(hO2.putObj (i:=0) (.loop (rc .exhausted (some .ret))) rfl).tail
    refine wpIn_ret ?_
    show LeavesInM Fence.wide 0 P fn a.tmps _ _ .returning _
    refine hstop xs L1 w.heap.size _ hJ hO3 {a with defers:=[{target:= .collected w.heap.size,args:= #[]}]++a.defers} ⟨?_,?_⟩
    · have h2:=ha.defers
      cases a
      simp only at h2;subst h2
      exact ha
    show _++a.defers=_
    rw[ha.defers];rfl
theorem zJN{t4 t5 D:Nat}{T4 T5:TypeId}{f:Nat→Value}{w0 w:World}{S:List Nat}{R:Value→World→Prop}{L':List Res}{cs:List Value}{v:Value}{b4 b5 j4 j5:Nat}(hr:fn.results= #[.cell t4 T4, .cell t5 T5])(h5:one P T5=true)
    (e4:f t4= .pointer (some ⟨b4,0,none⟩)) (e5:f t5= .pointer (some ⟨b5,0,none⟩)) (q4:L'[j4]?=some (Res.row b4 T4 cs)) (q5:L'[j5]?=some (Res.row b5 T5 [v])) (hT:jQ P T4=some cs.length)
    (hO:Own w0 S (Res.obj D (.deferred (some []))::L') w) (hR:∀ w'',Own w0 S L' w''→R (.tuple #[.agg cs.toArray,v]) w''):
    ∀ a,RepD n [{target:= .collected D,args:= #[]}] f a→LeavesInM Fence.wide 0 P fn a.tmps (fun e w'=>∃ v,e= .returned v∧R v w') a.defers .returning w:=by
  intro a hr'
  rw[hr'.2]
  refine⟨by simp, .inl ⟨D,_,O,run_takeDeferred (hO.holds 0 _ O),?_⟩⟩
  have hO2:=(hO.putObj (i:=0) (.deferred none) rfl).tail
  refine⟨_,?_,_,O,hR _ hO2⟩
  have g:∀ t,a.tmps.getD t undef=f t:=hr'.1.get
  have r4:=xH (P:=P) hT (hO2.qq q4)
  have r5:=kd (P:=P) h5 (hO2.rowCell q5 (off:=0) (v:=v) rfl)
  simp[results,hr,g,e4,e5,asAddr,r4,r5]
end
end Go.Sc
