import Derived.Test.YthpoddkmhfhboaaGreatDoorPst
set_option linter.unusedSectionVars false
set_option linter.unusedSimpArgs false
set_option linter.unusedVariables false
set_option maxRecDepth 10000
namespace Go.Proofs.YthpoddkmhfhboaaGreatDoor
open Go.Sc
def ka(a:StA)(qe:Nat):Int:=a.base+((qe%(Int.toNat a.spread+1):Nat):Int)
structure StA.ok(a:StA):Prop where
 id:1≤a.id∧a.id≤16
 rho:0≤a.rho∧a.rho≤500000
 base:1≤a.base∧a.base≤1000000
 spread:1≤a.spread∧a.spread≤1000000
 beat:1≤a.beat∧a.beat≤1000000
theorem zFp{a:StA}{qe:Nat}(h:a.ok):1≤ka a qe∧ka a qe≤2000000:=by
 have h1:=h.base;have h2:=h.spread
 have b:qe%(Int.toNat a.spread+1)<Int.toNat a.spread+1:=Nat.mod_lt _ qG
 unfold ka;omega
theorem zCS{S:List Nat}(cb jb:Nat)(t:TimD)(a:StA)(r:RolD)(b:StB)(lead yv out:Value)(qe:Nat)(w:World)(e:a.ok)(n:qe<18446744073709551616)(d:Own w S [xh cb t lead a r b yv jb qe out] w):Rets Tryz.prog 125 #[pt cb] w fun h g=>h=Vi (ka a qe)∧Own w S [xh cb t lead a r b yv jb qe out] g:=by
 have i:=e.spread
 have j:=e.base
 have k:u64 (a.spread+1)=Int.toNat a.spread+1:=by unfold u64;omega
 have p:qe%u64 (a.spread+1)<u64 (a.spread+1):=Nat.mod_lt qe qG
 have l:qe%u64 (a.spread+1)≤1073741824:=by omega
 refine zO Tryz.func125 O Tryz.ntmps125 d (zB (zF O (zA (yd qF qF (zR O za (zR O (zY O) (zR O (zL (o:=11) O) (zR O (zL (o:=4) O) (zR O (zZ 0 (v:=Vi a.base) O O O) (zR O za (zR O (zY O) (zR O (zL (o:=32) O) (zR O (zZ 0 (v:=Vn qe) O O O) (zR O za (zR O (zY O) (zR O (zL (o:=11) O) (zR O (zL (o:=5) O) (zR O (zZ 0 (v:=Vi a.spread) O O O) (zR O (xN O O (zt qG)) (zR O (kQ qF O (y0 _) qF) (zR O (zQG (c:=((qe%(u64 (a.spread+1)):Nat):Int)) O O qG O) (zR O (kQ qF O (zt qG) qF) (zR O (xN O O (zt qG)) (zR O yB (xX (zP (zm (v:=Vi (a.base+((qe%(u64 (a.spread+1)):Nat):Int))) O O (fun g m=>⟨(by rw[k];rfl),m⟩))))))))))))))))))))))))))))
theorem zFB{S:List Nat}(cb jb:Nat)(t:TimD)(a:StA)(r:RolD)(b:StB)(lead yv out:Value)(qe:Nat)(now:Int)(d:Nat)(w:World)(e:Own w S [xh cb t lead a r b yv jb qe out] w):Rets Tryz.prog 140 #[pt cb,Vi now,Vn d] w fun j h=>∃ (i:Nat),j= .tuple #[]∧Own w S [xh cb ({t with now:=max t.now now}:TimD) lead a r b yv jb d (pt i),Res.ou i xn] h:=by
 refine zO Tryz.func140 O Tryz.ntmps140 e (zB (zC O (zC O (zV O O (zI (o:=2) O O (zI (o:=0) O O (zJ 0 (v:=Vi t.now) O O O O (zC O (zCi (c:=max t.now now) O O (zLz _ _) O (zV O O (zI (o:=2) O O (zI (o:=0) O O (zi 0 O O O O O (zA (zB (zC O (zC O (zV O O (zI (o:=32) O O (zi 0 O O O O O (zA (ze (zC O (yJ (cs:=[zW,yC,zW,zW]) (z:=[zW,yC,zW,zW]) (pl:=[(0,1),(1,1),(2,1),(3,1)]) qF qF O (zj O O (fun g=>zV O O (zI (o:=33) O O (zi 0 O O O O O (zx (yq O (fun h k=>⟨g,O,((zq (zq (Own.qn (zq k 206 14)) 443 2) 31 1).qg [1,2,3,4,5] O V)⟩)))))))))))))))))))))))))))))))
theorem zLk{S:List Nat}(cb jb:Nat)(t:TimD)(a:StA)(r:RolD)(b:StB)(lead yv:Value)(qe:Nat)(j:Nat)(o:OutD)(w:World)(k:Own w S [xh cb t lead a r b yv jb qe (pt j),Res.ou j o] w):Rets Tryz.prog 145 #[pt cb] w fun l h=>l= .agg (OutD.cells o).toArray∧Own w S [xh cb t lead a r b yv jb qe (.pointer none),vM o.mv o.qx,sM o.qx,vR o.rv o.qC,vU o.xv o.qy] h:=by
 refine zO Tryz.func145 O Tryz.ntmps145 k (zB (zk (v:= .agg #[zW,yC,zW,zW]) qF O (fun m=>zA (zB (zC O (zV O O (zI (o:=33) O O (zJ 0 (v:=pt j) O O O O (zV O O (kC [xh cb t lead a r b yv jb qe (pt j),Res.row m 194 [zW,yC,zW,zW],zKn j o,vM o.mv o.qx,sM o.qx,vR o.rv o.qC,vU o.xv o.qy] (fun h c=>c.qi 1 O) (z6 (cs:=(OutD.cells o)) 2 O O O (zk (v:= .agg #[zW,yC,zW,zW]) qF O (fun n=>(zS (fun h c=>Own.qa (i:=3) O c) (fun d=>(zS (fun h c=>Own.qa (i:=5) O c) (fun e=>(zS (fun h c=>Own.qa (i:=6) O c) (fun g=>(zf 7 O O O (zH d (zH O (zH e (zH g zh)))) O (zA (zB (zC O (zV O O (zI (o:=33) O O (zi 0 O O O O O (zA (zB (z6 (cs:=(OutD.cells o)) 7 O O O (zf 1 O O O (zH d (zH O (zH e (zH g zh)))) O (zA (zP (xg (cs:=(OutD.cells o)) O O qF (Own.qd (i:=1) O) (fun h c=>⟨O,c.sel [0,3,4,5,6] O V⟩))))))))))))))))))))))))))))))))))
theorem jv{S:List Nat}(cb jb:Nat)(t:TimD)(a:StA)(r:RolD)(b:StB)(yv out:Value)(qe:Nat)(d:Int)(w:World)(c:Own w S [xh cb t (.pointer none) a r b yv jb qe out] w):Rets Tryz.prog 266 #[pt cb,Vi d] w fun g e=>g= .tuple #[]∧Own w S [xh cb t (.pointer none) a ({qm:=1,who:=d,qf:=r.qf}:RolD) b zW jb qe out] e:=by
 refine zO Tryz.func266 O Tryz.ntmps266 c (zB (zC O (zC O (zC O (zC O (zV O O (zI (o:=21) O O (zi 0 O O O O O (zV O O (zI (o:=22) O O (zi 0 O O O O O (zV O O (zI (o:=30) O O (zi 0 O O O O O (zA (zK (zB (zC O (zV O O (zI (o:=9) O O (zJ 0 (v:= .pointer none) O O O O (jt qF O O O (zA (yW O (zN (ze (zC O (zV O O (zI (o:=9) O O (zi 0 O O O O O (zx (yq O (fun e h=>⟨O,h⟩)))))))))))))))))))))))))))))))))
end Go.Proofs.YthpoddkmhfhboaaGreatDoor
namespace Go.Sc
section
variable {P:Program} {n:Nat} {fn:Func} {g:FuncId}
end
def zOl{α:Type}(P:Program)(l:Nat)(e1 e2:α→Value)(Q:α→Prop)(N:Nat)(J:List α→List Res→Prop):Prop:=
 ∀ pre x L w,J pre L→Q x→pre.length<N→Own w (xL L) L w→∃ fn tmps asg body,(Instr.yield l #[e1 x,e2 x]).run P w= .ok (.round l fn tmps asg body) w∧
   RoundIn Fence.wide 0 P l fn tmps asg body w fun e w'=>e= .returned (.bool true)∧∃ L',J (pre++[x]) L'∧Own w (xL L) L' w'
def SeqC2{α:Type}(P:Program)(g:FuncId)(lb:List Value)(e1 e2:α→Value)(Q:α→Prop)(Sx:List α→Prop)(N:Nat)(Ls:List Res):Prop:=
 ∀ (l:Nat) (J:List α→List Res→Prop) (L:List Res) (w:World),zOl P l e1 e2 Q N J→J [] L→Own w (xL (Ls++L)) (Ls++L) w→
   Rets P g (.func (.yield l) #[] #[]::lb).toArray w fun _ w'=>∃ xs L',Sx xs∧J xs L'∧Own w (xL (Ls++L)) (Ls++L') w'
section
variable {P:Program} {n:Nat} {ops:Array Oper} {f:Nat→Value} {A:World→Prop} {rest:List Oper} {d:Nat} {ty:TypeId} {p:String} {af:Array Edge} {N R:K} {X:List (Nat×K)} {ds:List Deferred} {fn:Func} {g:FuncId}
def RC(P:Program)(n l:Nat)(c:Code)(f:Nat→Value)(A B:World→Prop):Prop:=∀ a w,Rep n f a→A w→c.wpIn (Wd (some l)) 0 P (kO n fun _ w'=>B w') a w
theorem zKG{r0 r1 r2 blk c2:Code}{args:List Value}{w:World}{R:Value→World→Prop}(d:P.funcs[g]?=some fn)(hb:fn.body=some (.seq r0 (.seq r1 (.seq (.seq r2 blk) c2))))(i:fn.ntmps=n)(hl:Nat.ble args.length n=true)(j:A w)
   (h:C P n r0 (fun f w=>W P n r1 (fun f w=>W P n r2 (RF P fn n blk c2 R) (fun _ _=>False) [] f w) (fun _ _=>False) [] f w) (fun _ _=>False) [] (ini args) A):Rets P g args.toArray w R:=by
 subst i
 refine callsIn_wide (n:=0).1 (callsIn_of_wp_marks d hb trivial ?_)
 have out:∀ {N:K} {e:Exit} {a:Act} {w:World},post fn.ntmps N (fun _ _=>False) [] e a w→e= .normal∧∃ f,Rep fn.ntmps f a∧N f w:=by
   intro N e a w hq
   cases e with
   |normal=>exact⟨rfl,hq⟩
   |ret=>obtain⟨_,_,h⟩:=hq;exact h.elim
   |exit id=>obtain⟨_,_,_,h,_⟩:=hq;cases h
   |_=>exact hq.elim
 refine wpIn_seq (wpIn_mono (wpIn_wide.2 (h w j _ (zI6 args fn.ntmps (Nat.le_of_ble_eq_true hl)))) ?_)
 intro e a w hq
 obtain⟨rfl,f,b,c⟩:=out hq
 refine wpIn_seq (wpIn_mono (wpIn_wide.2 (c a b)) ?_)
 intro e a w hq
 obtain⟨rfl,f,b,c⟩:=out hq
 refine wpIn_seq (wpIn_seq (wpIn_mono (wpIn_wide.2 (c a b)) ?_))
 intro e a w hq
 obtain⟨rfl,f,b,c⟩:=out hq
 refine wpIn_mono (c a b) ?_
 intro e a w hq
 cases e<;>exact hq
theorem zKl:∀ (Q Q':Exit→Act→World→Prop),(∀ e a w,Q e a w→Q' e a w)→∀ (l:List Oper) (a:Act) (w:World),wpList P ops Q l a w→wpList P ops Q' l a w:=by
 intro Q Q' hq l
 induction l with
 |nil=>intro a w h;exact hq _ _ _ h
 |cons o l ih=>
   intro a w h
   unfold wpList at h ⊢
   split
   · rename_i hw
     rw[if_pos hw]at h
     rcases h with h|⟨h1,d,f,h2⟩
     · left
       unfold Oper.wp at *
       generalize (execOp a.eval o).run P w=r at *
       cases r with
       |ok nx w'=>
         cases nx<;>simp only[Oper.upon]at h ⊢ <;>
           first
             |exact ih _ _ h
             |exact Calls.mono h (fun e g b=>by
                 cases e with
                 |returned v=>exact ih _ _ b
                 |panicked c=>exact hq _ _ _ b
                 |outgrown=>obtain⟨i,j,h2⟩:=b;exact⟨i,j,hq _ _ _ h2⟩)
             |exact Rows.mono h (fun _ _ b=>ih _ _ b)
       |halt x w'=>cases x<;>simp only[Oper.upon]at h ⊢ <;>exact hq _ _ _ h
     exact .inr ⟨h1,d,f,hq _ _ _ h2⟩
   rename_i hw
   rw[if_neg hw]at h
   exact ih _ _ h
def wd(a:Act)(ds:List Deferred):Act:={a with defers:=a.defers++ds}
theorem zFM{Q:Exit→Act→World→Prop}{ds:List Deferred}(g:¬ LetsOut fun e a w=>Q e (wd a ds) w):∀ (l:List Oper) (a:Act) (w:World),xU l=true→wpList P ops (fun e a w=>Q e (wd a ds) w) l a w→wpListIn (Wd none) 0 P ops Q l (wd a ds) w
 | [],a,w,_,h=>h
 |o::l,a,w,hn,h=>by
   simp only[xU,List.all_cons,Bool.and_eq_true]at hn
   have i:∀ (d:Option Nat) (v:Value) (w:World),wpList P ops (fun e a w=>Q e (wd a ds) w) l (a.put d v) w→wpListIn (Wd none) 0 P ops Q l ((wd a ds).put d v) w:=fun d v w h=>by
     have e:wd (a.put d v) ds=(wd a ds).put d v:=by cases d<;>rfl
     have:=zFM g l (a.put d v) w hn.2 h
     rwa [e]at this
   have j:∀ (x:Deferred) (d:Option Nat) (v:Value) (w:World),wpList P ops (fun e a w=>Q e (wd a ds) w) l (({a with defers:=x::a.defers}:Act).put d v) w→wpListIn (Wd none) 0 P ops Q l (({wd a ds with defers:=x::(wd a ds).defers}:Act).put d v) w:=fun x d v w h=>by
     have e:wd (({a with defers:=x::a.defers}:Act).put d v) ds=({wd a ds with defers:=x::(wd a ds).defers}:Act).put d v:=by cases d<;>rfl
     have:=zFM g l _ w hn.2 h
     rwa [e]at this
   unfold wpList at h
   unfold wpListIn
   split
   · rename_i b
     have b:Region.wanted o (yielded ops a.tmps)=true:=b
     rw[if_pos b]at h
     have h:=h.resolve_right fun q=>g q.2
     refine⟨fun _ _=>trivial,?_⟩
     rw[Oper.semAt_eq _ _ _ (fun c m=>by rw[m]at hn;simp at hn)]
     unfold Oper.wp at h
     have n:(wd a ds).eval=a.eval:=rfl
     rw[n]
     generalize (execOp a.eval o).run P w=r at h ⊢
     cases r with
     |ok nx w'=>
       cases nx<;>simp only[Oper.upon,Oper.uponIn]at h ⊢ <;>
         first
           |exact h.elim
           |exact i _ _ _ h
           |exact j _ _ _ _ h
           |exact⟨fun q=>by simp[Wd,Fence.wide]at q,(zBc h).mono fun e k f=>by
               cases e with
               |returned v=>exact i _ _ _ f
               |panicked c=>exact f
               |outgrown=>exact absurd f g⟩
           |exact⟨fun q=>by simp[Wd,Fence.wide]at q,(zCN h).mono fun v k f=>i _ _ _ f⟩
     |halt x w'=>cases x<;>simp only[Oper.upon,Oper.uponIn]at h ⊢ <;>exact h
   rename_i b
   have b:¬ Region.wanted o (yielded ops a.tmps)=true:=b
   rw[if_neg b]at h
   exact⟨fun _ _=>trivial,i _ _ _ h⟩
theorem zHI{N:K}{l:List Oper}{a:Act}{w:World}(d:xU l=true)(h:wpList P ops (kO n N) l {a with defers:=[]} w):wpListIn (Wd none) 0 P ops (zJE n a.defers N) l a w:=by
 have g:wpList P ops (fun e b w=>zJE n a.defers N e (wd b a.defers) w) l {a with defers:=[]} w:=zKl _ _ (fun e b w q=>by
   cases e<;>first|exact q|skip
   obtain⟨f,c,i⟩:=q
   refine⟨f,⟨?_,?_⟩,i⟩
   · have h2:=c.defers
     cases b
     simp only at h2;subst h2
     exact c
   show b.defers++a.defers=a.defers
   rw[c.defers];rfl) _ _ _ h
 exact zFM (fun q=>by obtain⟨_,_,q⟩:=q;exact q) l {a with defers:=[]} w d g
theorem zNR{i4 t4 t5 D:Nat}{T4 T5:TypeId}{l4:List Oper}{f:Nat→Value}{w0 w:World}{S:List Nat}{L:List Res}{R:Value→World→Prop}(q:fn.results= #[.cell t4 T4, .cell t5 T5])(r:one P T5=true)(s:xU l4=true)
   (h:CL P n l4.toArray l4 (fun d j=>∃ (L':List Res) (cs:List Value) (v:Value) (k l m o:Nat),(d t4= .pointer (some ⟨k,0,none⟩)∧d t5= .pointer (some ⟨l,0,none⟩))∧(L'[m]?=some (Res.row k T4 cs)∧L'[o]?=some (Res.row l T5 [v]))∧jF P T4=some cs.length
     ∧Own w0 S (Res.obj D (.deferred (some []))::L') j∧∀ w'',Own w0 S L' w''→R (.tuple #[.agg cs.toArray,v]) w'') f (Own w0 S (Res.obj D (.deferred (some []))::L))) (u:Own w0 S (Res.obj D (.deferred (some []))::L) w):
   ∀ a,RepD n [{target:= .collected D,args:= #[]}] f a→(Code.seq (.region i4 l4.toArray false) .ret).wpIn Fence.wide 0 P (bodyPostM Fence.wide 0 P fn fun e j=>∃ v,e= .returned v∧R v j) a w:=by
 intro a ha
 have h1:=zHI (a:=a) s (h w u _ ha.1)
 rw[ha.2]at h1
 refine wpIn_seq (wpIn_mono (wpIn_region_lit (F:=Fence.wide) (n:=0) h1) ?_)
 intro e a w hq
 cases e<;>first|exact hq.elim|skip
 obtain⟨d,c,L',cs,v,k,l,m,o,⟨x,y⟩,⟨z,q5⟩,hT,p,hR⟩:=hq
 refine wpIn_ret ?_
 show LeavesInM Fence.wide 0 P fn a.tmps _ a.defers .returning w
 rw[c.2]
 refine⟨by simp, .inl ⟨D,_,O,run_takeDeferred (p.holds 0 _ O),?_⟩⟩
 have b:=(p.putObj (i:=0) (.deferred none) rfl).tail
 refine⟨_,?_,_,O,hR _ b⟩
 have g:∀ t,a.tmps.getD t undef=d t:=c.1.get
 have r4:=y7 (P:=P) hT (b.qd z)
 have r5:=jS (P:=P) r (b.rowCell q5 (off:=0) (v:=v) rfl)
 simp[results,q,g,x,y,asAddr,r4,r5]
end
def zIE{α:Type}(P:Program)(l:Nat)(e1 e2:α→Value)(Q:List α→α→Prop)(J Jx:List α→List Res→Prop):Prop:=
 ∀ pre x L w,J pre L→Q pre x→Own w (xL L) L w→∃ fn tmps asg body,(Instr.yield l #[e1 x,e2 x]).run P w= .ok (.round l fn tmps asg body) w∧
   RoundIn Fence.wide 0 P l fn tmps asg body w fun e w'=>∃ r:Bool,e= .returned (.bool r)∧∃ L',(if r then J (pre++[x]) L' else Jx (pre++[x]) L')∧Own w (xL L) L' w'
def zQF{α:Type}(P:Program)(g:FuncId)(lb:List Value)(e1 e2:α→Value)(Q:List α→α→Prop)(Sx:List α→Prop)(Ls:List Res):Prop:=
 ∀ (l:Nat) (J Jx:List α→List Res→Prop) (L:List Res) (w:World),zIE P l e1 e2 Q J Jx→J [] L→Own w (xL (Ls++L)) (Ls++L) w→
   Rets P g (.func (.yield l) #[] #[]::lb).toArray w fun _ w'=>∃ (r:Bool) (xs:List α) (L':List Res),(if r then Sx xs∧J xs L' else Jx xs L')∧Own w (xL (Ls++L)) (Ls++L') w'
section
variable {P:Program} {n:Nat} {ops:Array Oper} {f:Nat→Value} {A:World→Prop} {rest:List Oper} {d:Nat} {ty:TypeId} {p:String} {af:Array Edge} {N R:K} {X:List (Nat×K)} {ds:List Deferred} {fn:Func} {g:FuncId}
theorem zM0{α:Type}{e1 e2:α→Value}{Q:List α→α→Prop}{s l:Nat}{x y:Operand}{ats:Array TypeId}{J Jx:List α→List Res→Prop}{w0:World}{S:List Nat}{L:List Res}{pre:List α}(Ls:List Res)(e:α)(Y:zIE P l e1 e2 Q J Jx)(j:f s= .func (.yield l) #[] #[])(m:ev f x=e1 e)(t:ev f y=e2 e)
   (u:J pre L) (v:Q pre e) (z:Nat.blt d n=true) (k:∀ (r:Bool) L',(if r then J (pre++[e]) L' else Jx (pre++[e]) L')→IL P n ds ops rest N (upd f d (.bool r)) (Own w0 S (Ls++L'))):IL P n ds ops (⟨some d, .call ⟨.value (.tmp s),#[x,y],ats⟩,ty,p,af,none⟩::rest) N f (Own w0 S (Ls++L)):=by
 intro w hw a ha
 unfold wpListIn
 rw[if_pos qV]
 refine⟨fun _ _=>trivial,?_⟩
 have hs:∀ o,Oper.semAt (Wd none).round a.eval o=execOp a.eval o:=fun _=>rfl
 rw[hs]
 obtain⟨fn,b,g,c,h,hr⟩:=Y pre e L w u v hw.giveEnd
 have he:(execOp (ev f) ⟨some d, .call ⟨.value (.tmp s),#[x,y],ats⟩,ty,p,af,none⟩).run P w= .ok (.round l fn b g c) w:=by
   simp[execOp,resolve,show ev f (.tmp s)=f s from rfl,j,Deferred.ofValue,invoke,m,t,h]
 rw[ha.eval,he]
 refine⟨fun q=>by simp[Wd,Fence.wide]at q,RoundIn.mono (F:=Fence.wide) hr ?_⟩
 rintro _ w' ⟨r,rfl,L',i,hO⟩
 exact k r L' i w' (hw.frameEnd hO) _<|ha.put (by simpa [Nat.blt_eq]using z) _
theorem zEC{ro:Option Nat}{m:Nat}{Q:Exit→Act→World→Prop}(g:¬ LetsOut Q)(j:∀ (i:Nat) (o:Oper),ops[i]?=some o→∀ c,o.op≠ .defer c):∀ (l:List Nat) (a:Act) (w:World),wpOps P ops Q l a w→wpOpsIn (Wd ro) m P ops Q l a w
 | [],a,w,h=>h
 |i::l,a,w,h=>by
   have b:=fun a w=>zEC (m:=m) (ro:=ro) g j l a w
   unfold wpOps at h
   unfold wpOpsIn
   cases ho:ops[i]? with
   |none=>rw[ho]at h;exact b _ _ h
   |some o=>
     rw[ho]at h
     simp only at h ⊢
     split
     · rename_i hw
       rw[if_pos hw]at h
       have h:=h.resolve_right fun q=>g q.2
       refine⟨fun _ _=>trivial,?_⟩
       rw[Oper.semAt_eq _ _ _ (fun c k=>j i o ho c k)]
       unfold Oper.wp at h
       generalize (execOp a.eval o).run P w=r at h ⊢
       cases r with
       |ok nx w'=>
         cases nx<;>simp only[Oper.upon,Oper.uponIn]at h ⊢ <;>
           first
             |exact h.elim
             |exact b _ _ h
             |exact⟨fun q=>by simp[Wd,Fence.wide]at q,(zBc h).mono fun e f d=>by
                 cases e with
                 |returned v=>exact b _ _ d
                 |panicked c=>exact d
                 |outgrown=>exact d⟩
             |exact⟨fun q=>by simp[Wd,Fence.wide]at q,(zCN h).mono fun v f d=>b _ _ d⟩
       |halt x w'=>cases x<;>simp only[Oper.upon,Oper.uponIn]at h ⊢ <;>exact h
     rename_i hw
     rw[if_neg hw]at h
     exact⟨fun _ _=>trivial,b _ _ h⟩
theorem zFu{l:List Oper}(h:xU l=true):∀ (i:Nat) (o:Oper),l.toArray[i]?=some o→∀ c,o.op≠ .defer c:=fun i o ho c a=>by
 have b:o∈l:=List.mem_of_getElem? (by simpa using ho)
 have:=(List.all_eq_true.1 h) o b
 rw[a]at this;simp at this
theorem zFE{ro:Option Nat}{m i:Nat}{l:List Oper}{w:World}(b:xU l=true)(S:World→Prop)(c:P.follows .mixedOrders=true)(h:HL P n l.toArray S N l.length (Array.replicate l.length false) f (drawn w)):∀ a,Rep n f a→(Code.region i l.toArray true).wpIn (Wd ro) m P (kO n N) a w:=
 fun a d=>wpIn_region_draw fun t=>by
   refine zEC jq (zFu b) _ _ _ ?_
   simp only[Region.schedule,c,Bool.true_or,if_true]
   refine wpAny_sound (ops:=l.toArray) (Q:=kO n N) l.toArray.size t _ a _<|wpAny_of_held (S:=S) _ _ _ _ ?_
   have h1:=h a d
   show wpAnyH P .any l.toArray (kO n N) S l.toArray.size (Array.replicate l.toArray.size false) a (drawn w)
   rw[List.size_toArray]
   exact h1
def zUB(n:Nat)(Bn Bx:World→Prop):Exit→Act→World→Prop
 | .normal,_,w=>Bn w
 | .ret,_,w=>Bx w
 |_,_,_=>False
def RS(P:Program)(n l:Nat)(Bn Bx:World→Prop)(c:Code):K:=fun f w=>∀ a,Rep n f a→c.wpIn (Wd (some l)) 0 P (zUB n Bn Bx) a w
theorem zLh{l i:Nat}{lo:List Oper}{c:Code}{Bn Bx:World→Prop}{w:World}(b:xU lo=true)(h:WL P n lo.toArray lo (RS P n l Bn Bx c) f w):RS P n l Bn Bx (.seq (.region i lo.toArray false) c) f w:=fun a d=>by
 refine wpIn_seq<|wpIn_mono (kR b h a d) ?_
 intro e a w hq
 cases e<;>first|exact hq.elim|skip
 obtain⟨k,g,j⟩:=hq
 exact j a g
theorem zN5{l i:Nat}{lo:List Oper}{c:Code}{Bn Bx:World→Prop}{w0 w:World}{S:List Nat}{L:List Res}(m:List Nat){L':List Res}(b:m.mapM (fun i=>L[i]?)=some L')(d:m.Nodup)(j:xU lo=true)(k:P.follows .mixedOrders=true)
   (h:∀ w,Own w0 S L w→Own w0 S L' w→HL P n lo.toArray (Own w0 S L') (RS P n l Bn Bx c) lo.length (Array.replicate lo.length false) f w) (g:Own w0 S L w):RS P n l Bn Bx (.seq (.region i lo.toArray true) c) f w:=fun a o=>by
 refine wpIn_seq<|wpIn_mono (zFE j (Own w0 S L') k (h _ g.drawn (g.sel m b d).drawn) a o) ?_
 intro e a w hq
 cases e<;>first|exact hq.elim|skip
 obtain⟨r,p,q⟩:=hq
 exact q a p
theorem zSC{l:Nat}{Bn Bx:World→Prop}{w:World}(h:Bx w):RS P n l Bn Bx .ret f w:=fun a b=>wpIn_ret h
theorem zNv{l:Nat}{Bn Bx:World→Prop}{w:World}(h:Bn w):RS P n l Bn Bx .skip f w:=fun a b=>wpIn_skip h
theorem zSL{l:Nat}{Bn Bx:World→Prop}{w:World}{c:Operand}{x y:Code}{q:Prop}[Decidable q](d:ev f c= .bool (decide q))(h1:q→RS P n l Bn Bx x f w)(h2:¬ q→RS P n l Bn Bx y f w):RS P n l Bn Bx (.cond c x y) f w:=fun a b=>by
 by_cases hq:q
 · exact wpIn_cond_true (by rw[b.eval,d,decide_eq_true hq]) (h1 hq a b)
 exact wpIn_cond_false (by rw[b.eval,d,decide_eq_false hq]) (h2 hq a b)
theorem zKj{α:Type}{e1 e2:α→Value}{Q:List α→α→Prop}{Sx:List α→Prop}{s p1 p2 i2 b0 b1:Nat}{sg:FuncId}{lb:List Value}{Ls Lu:List Res}{Ju Jx:List α→List Res→Prop}{l2:List Oper}{c3:Code}{f:Nat→Value}{w0 w:World}{S:List Nat}{c2:Code}{R:Value→World→Prop}
   (hs:f s= .func (.func sg) #[] lb.toArray) (z:x9 P sg=true) (a7:zQF P sg lb e1 e2 Q Sx Ls) (h0:Ju [] Lu) (hw:Own w0 S (Ls++Lu) w) (ab:Nat.blt p1 n=true) (ac:Nat.blt p2 n=true) (ad:xU l2=true)
   {Mid:List α→α→(Nat→Value)→List Res→Prop}
   (j:∀ b x L w,Ju b L→Q b x→CL P n l2.toArray l2 (fun f' c=>∃ L2,Mid b x f' L2∧Own w (xL L) L2 c) (upd (upd f p1 (e1 x)) p2 (e2 x)) (Own w (xL L) L))
   (k:∀ l b x f' L w,Mid b x f' L→Q b x→Own w (xL L) L w→RS P n l (fun c=>∃ L',Ju (b++[x]) L'∧Own w (xL L) L' c) (fun c=>∃ L',Jx (b++[x]) L'∧Own w (xL L) L' c) c3 f' w)
   (a0:∀ xs L' D c,Sx xs→Ju xs L'→Own w0 S (Res.obj D (.deferred (some []))::(Ls++L')) c→∀ a,RepD n [{target:= .collected D,args:= #[]}] f a→c2.wpIn Fence.wide 0 P (bodyPostM Fence.wide 0 P fn fun e c=>∃ v,e= .returned v∧R v c) a c)
   (a1:∀ xs L' D c,Jx xs L'→Own w0 S (Res.obj D (.deferred (some []))::(Ls++L')) c→∀ a,RepD n [{target:= .collected D,args:= #[]}] f a→LeavesInM Fence.wide 0 P fn a.tmps (fun e c=>∃ v,e= .returned v∧R v c) a.defers .returning c):
   RF P fn n (.block b0 (.rangeFunc (.tmp s) #[p1,p2] (.region i2 l2.toArray false) (.block b1 c3))) c2 R f w:=by
 intro a ha
 refine wpIn_block<|wpIn_rangeFunc ?_
 intro fid _
 obtain⟨rc,hrc⟩:∃ rc:LoopState→Option Code→Loop,rc=fun st pe=>{state:=st,pending:=pe,fn:=fid,tmps:=a.tmps,params:= #[p1,p2],assign:= .region i2 l2.toArray false,body:= .block b1 c3,defers:=w.heap.size}:=⟨_,rfl⟩
 have ae:Own w0 S (Res.obj w.heap.size (.deferred (some []))::(Ls++Res.obj (w.heap.size+1) (.loop (rc .ready none))::Lu)) ((w.alloc (.deferred (some []))).alloc (.loop (rc .ready none))):=by
   have h1:=(hw.newObj (.deferred (some []))).newObj (.loop (rc .ready none))
   rw[World.size_alloc]at h1
   refine h1.perm ?_
   rw[List.append_assoc]
   exact List.perm_append_comm.trans<|List.Perm.cons _<|show(Res.obj (w.heap.size+1) (.loop<|rc .ready none)::(Ls++Lu)).Perm _ from List.perm_middle.symm
 refine⟨w.heap.size+1,[{target:= .collected w.heap.size,args:= #[]}],(w.alloc<|.deferred<|some []).alloc (.loop<|rc .ready none),{target:= .fn (.func sg) lb.toArray,args:= #[.func (.yield<|w.heap.size+1) #[] #[]]},(w.alloc<|.deferred<|some []).alloc (.loop<|rc .ready none),sg,#[.func (.yield<|w.heap.size+1) #[] #[]]++lb.toArray,(w.alloc<|.deferred<|some []).alloc (.loop<|rc .ready none),
   by rw[hrc];exact run_enterLoop_outer _ _ _ _ _,?_,fun _ _=>trivial,?_,fun q=>by simp[Fence.wide]at q,?_⟩
 · simp[resolve,ha.eval,ev,hs,Deferred.ofValue]
 · have:=ku z ((w.alloc (.deferred (some []))).alloc (.loop (rc .ready none))) (#[.func (.yield (w.heap.size+1)) #[] #[]]++lb.toArray)
   simp only[invoke]
   exact this
 rw[show(#[Value.func (.yield (w.heap.size+1)) #[] #[]]++lb.toArray)=(.func (.yield (w.heap.size+1)) #[] #[]::lb).toArray by simp]
 have o:Own w0 S ([Res.obj w.heap.size (.deferred (some []))]++(Ls++Res.obj (w.heap.size+1) (.loop (rc .ready none))::Lu)) ((w.alloc (.deferred (some []))).alloc (.loop (rc .ready none))):=ae
 refine callsIn_wide.2<|Calls.mono (a7 (w.heap.size+1) (fun b L=>∃ L1,L=Res.obj (w.heap.size+1) (.loop<|rc .ready none)::L1∧Ju b L1) (fun b L=>∃ L1,L=Res.obj (w.heap.size+1) (.loop<|rc .done<|some .ret)::L1∧Jx b L1) _ _ ?_ ⟨Lu,O,h0⟩ o.giveEnd) ?_
 · rintro b x L g ⟨L1,rfl,hJ⟩ hQ hO
   have hl:g.heap[w.heap.size+1]?=some (.loop (rc .ready none)):=hO.holds 0 _ rfl
   have hy:(Instr.yield (w.heap.size+1) #[e1 x,e2 x]).run P g= .ok (.round (w.heap.size+1) fid ((a.tmps.setIfInBounds p1 (e1 x)).setIfInBounds p2 (e2 x)) (.region i2 l2.toArray false) (.block b1 c3)) g:=by
     have h:=run_yield (P:=P) (args:= #[e1 x,e2 x]) hl (by rw[hrc];rfl)
     rw[h,hrc]
     simp
   refine⟨_,_,_,_,hy,?_⟩
   have a8:Rep n (upd (upd f p1 (e1 x)) p2 (e2 x)) {tmps:=(a.tmps.setIfInBounds p1 (e1 x)).setIfInBounds p2 (e2 x),defers:=[]}:=by
     have h1:=(ha.put (by simpa [Nat.blt_eq]using ab) (e1 x)).put (by simpa [Nat.blt_eq]using ac) (e2 x)
     have h2:=ha.defers
     cases a
     simp only at h2;subst h2
     exact h1
   refine roundIn_of_wpIn trivial<|wpIn_mono (kR (ro:=some (w.heap.size+1)) (m:=0) ad (j b x L1 g hJ hQ g<|show Own g (xL L1) L1 g from(show Own g _ ([Res.obj (w.heap.size+1) (.loop<|rc .ready none)]++L1) g from hO).giveEnd) _ a8) ?_
   intro e a2 y hq
   cases e<;>first|exact hq.elim|skip
   obtain⟨f',af,L2,a9,ag⟩:=hq
   have aa:Own g (xL (Res.obj (w.heap.size+1) (.loop (rc .ready none))::L1)) ([Res.obj (w.heap.size+1) (.loop (rc .ready none))]++L2) y:=(show Own g _ ([Res.obj (w.heap.size+1) (.loop (rc .ready none))]++L1) g from hO).frameEnd ag
   have ah:y.heap[w.heap.size+1]?=some (.loop (rc .ready none)):=aa.holds 0 _ rfl
   have ai:=aa.putObj (i:=0) (.loop {rc .ready none with state:= .busy}) rfl
   refine⟨_,run_beginRound ah (by rw[hrc]),?_⟩
   have p:Own g (xL (Res.obj (w.heap.size+1) (.loop (rc .ready none))::L1)) ([Res.obj (w.heap.size+1) (.loop {rc .ready none with state:= .busy})]++L2) (y.putObj (w.heap.size+1) (.loop {rc .ready none with state:= .busy})):=ai
   refine wpIn_block<|wpIn_mono (k (w.heap.size+1) b x f' L2 _ a9 hQ p.giveEnd a2 af) ?_
   intro e a3 w3 hq
   cases e<;>first|exact hq.elim|skip
   · obtain⟨L',a4,d⟩:=hq
     have t:=p.frameEnd d
     have a5:w3.heap[w.heap.size+1]?=some (.loop {rc .ready none with state:= .busy}):=t.holds 0 _ rfl
     have he:=run_endRound (P:=P) none a5
     refine⟨_,_,he,true,O,Res.obj (w.heap.size+1) (.loop<|rc .ready none)::L',⟨L',O,a4⟩,?_⟩
     have a6:=t.putObj (i:=0) (.loop (rc .ready none)) rfl
     have e1:(.loop {{rc .ready none with state:= .busy}with state:=if(none:Option Code).isNone then .ready else .done,pending:=none}:Obj)= .loop (rc .ready none):=by rw[hrc];rfl
     rw[e1]
     exact a6
   obtain⟨L',a4,d⟩:=hq
   have t:=p.frameEnd d
   have a5:w3.heap[w.heap.size+1]?=some (.loop {rc .ready none with state:= .busy}):=t.holds 0 _ rfl
   have he:=run_endRound (P:=P) (some .ret) a5
   refine⟨_,_,he,false,O,Res.obj (w.heap.size+1) (.loop<|rc .done<|some .ret)::L',⟨L',O,a4⟩,?_⟩
   have a6:=t.putObj (i:=0) (.loop (rc .done (some .ret))) rfl
   have e1:(.loop {{rc .ready none with state:= .busy}with state:=if(some Code.ret).isNone then .ready else .done,pending:=some .ret}:Obj)= .loop (rc .done (some .ret)):=by rw[hrc];rfl
   rw[e1]
   exact a6
 rintro _ y ⟨v,rfl,r,xs,L',hS,hO⟩
 cases r with
 |true=>
   obtain⟨hS,L1,rfl,hJ⟩:=hS
   have u:=(show Own w0 S _ _ from o.frameEnd hO).perm (show([Res.obj w.heap.size (.deferred (some []))]++(Ls++Res.obj (w.heap.size+1) (.loop (rc .ready none))::L1)).Perm (Res.obj (w.heap.size+1) (.loop (rc .ready none))::Res.obj w.heap.size (.deferred (some []))::(Ls++L1))from
     (List.Perm.cons _ List.perm_middle).trans (.swap _ _ _))
   have hl:y.heap[w.heap.size+1]?=some (.loop (rc .ready none)):=u.holds 0 _ rfl
   refine⟨none,y.putObj (w.heap.size+1)<|.loop<|rc .exhausted none,by rw[run_endLoop (P:=P) hl (by rw[hrc];simp),hrc],?_⟩
   have d:=(u.putObj (i:=0) (.loop (rc .exhausted none)) rfl).tail
   show Exit.inBlock b0 _ .normal _ _
   refine a0 xs L1 w.heap.size _ hS hJ d _ ⟨?_,?_⟩
   · have h2:=ha.defers
     cases a
     simp only at h2;subst h2
     exact ha
   show _++a.defers=_
   rw[ha.defers];rfl
 |false=>
   obtain⟨L1,rfl,hJ⟩:=hS
   have u:=(show Own w0 S _ _ from o.frameEnd hO).perm (show([Res.obj w.heap.size (.deferred (some []))]++(Ls++Res.obj (w.heap.size+1) (.loop (rc .done (some .ret)))::L1)).Perm (Res.obj (w.heap.size+1) (.loop (rc .done (some .ret)))::Res.obj w.heap.size (.deferred (some []))::(Ls++L1))from
     (List.Perm.cons _ List.perm_middle).trans (.swap _ _ _))
   have hl:y.heap[w.heap.size+1]?=some (.loop (rc .done (some .ret))):=u.holds 0 _ rfl
   refine⟨some .ret,y.putObj (w.heap.size+1)<|.loop<|rc .exhausted<|some .ret,by rw[run_endLoop (P:=P) hl (by rw[hrc];simp),hrc],?_⟩
   have d:=(u.putObj (i:=0) (.loop (rc .exhausted (some .ret))) rfl).tail
   refine wpIn_ret ?_
   show LeavesInM Fence.wide 0 P fn a.tmps _ _ .returning _
   refine a1 xs L1 w.heap.size _ hJ d {a with defers:=[{target:= .collected w.heap.size,args:= #[]}]++a.defers} ⟨?_,?_⟩
   · have h2:=ha.defers
     cases a
     simp only at h2;subst h2
     exact ha
   show _++a.defers=_
   rw[ha.defers];rfl
theorem zMa{t4 t5 D:Nat}{T4 T5:TypeId}{f:Nat→Value}{w0 w:World}{S:List Nat}{R:Value→World→Prop}{L':List Res}{cs:List Value}{v:Value}{b4 b5 j4 j5:Nat}(d:fn.results= #[.cell t4 T4, .cell t5 T5])(h:one P T5=true)
   (j:f t4= .pointer (some ⟨b4,0,none⟩)) (k:f t5= .pointer (some ⟨b5,0,none⟩)) (l:L'[j4]?=some (Res.row b4 T4 cs)) (m:L'[j5]?=some (Res.row b5 T5 [v])) (o:jF P T4=some cs.length)
   (c:Own w0 S (Res.obj D (.deferred (some []))::L') w) (p:∀ w'',Own w0 S L' w''→R (.tuple #[.agg cs.toArray,v]) w''):
   ∀ a,RepD n [{target:= .collected D,args:= #[]}] f a→LeavesInM Fence.wide 0 P fn a.tmps (fun e q=>∃ v,e= .returned v∧R v q) a.defers .returning w:=by
 intro a hr'
 rw[hr'.2]
 refine⟨by simp, .inl ⟨D,_,O,run_takeDeferred (c.holds 0 _ O),?_⟩⟩
 have b:=(c.putObj (i:=0) (.deferred none) rfl).tail
 refine⟨_,?_,_,O,p _ b⟩
 have g:∀ t,a.tmps.getD t undef=f t:=hr'.1.get
 have r:=y7 (P:=P) o (b.qd l)
 have s:=jS (P:=P) h (b.rowCell m (off:=0) (v:=v) rfl)
 simp[results,d,g,j,k,asAddr,r,s]
end
end Go.Sc
namespace Go.Proofs.YthpoddkmhfhboaaGreatDoor
open Go.Sc
def zGM(upto:Nat)(x:EntA):Bool:=decide (x.kind=3∧x.index≤upto)
def zAk(vs0:List Int)(es:List EntA)(upto:Nat):ConfA×Nat:=
 match es.reverse.find? (zGM upto)with
 |some x=>((zAJ x.data).getD ⟨[],[]⟩,x.index)
 |none=>(⟨vs0,[]⟩,0)
theorem zJV{α:Type}[Inhabited α]{l:List α}{p:α→Bool}{m:Nat}(b:m<l.length)(h:∀ j,j<m→p (zc l (l.length - 1 - j))=false)(d:p (zc l (l.length - 1 - m))=true):l.reverse.find? p=some (zc l (l.length - 1 - m)):=by
 have a:∀ j (c:j<l.length),l.reverse[j]?=some (zc l (l.length - 1 - j)):=fun j c=>by rw[List.getElem?_reverse qG];exact y8 qG
 rw[List.find?_eq_some_iff_getElem]
 refine⟨d,m,by simpa using b,?_,fun j c=> ?_⟩
 · have:=a m b;rw[List.getElem?_eq_getElem (by simpa using b)]at this;exact Option.some.inj this
 have e:=a j qG;rw[List.getElem?_eq_getElem qN]at e;rw[Option.some.inj e,h j c];rfl
theorem zKP{α:Type}[Inhabited α]{l:List α}{p:α→Bool}(h:∀ j,j<l.length→p (zc l (l.length - 1 - j))=false):l.reverse.find? p=none:=by
 rw[List.find?_eq_none]
 intro x hx
 obtain⟨i,hi⟩:=List.mem_iff_getElem?.1 (List.mem_reverse.1 hx)
 have hl:i<l.length:=(List.getElem?_eq_some_iff.1 hi).1
 have:=h (l.length - 1 - i) qG
 rw[show l.length - 1 - (l.length - 1 - i)=i by omega,jY hi]at this
 rw[this];simp
theorem zKN(sb:Nat)(v:Value)(l:List EntD)(hl:zg l.length):zQF Tryz.prog 488 [pt sb] (fun x:Int×EntD=>Value.int .i64 x.1) (fun x:Int×EntD=>Value.agg (EntD.cells x.2).toArray) (fun a (x:Int×EntD)=>a.length<l.length∧x.2=zc l (l.length - 1 - a.length)) (fun p=>p.length=l.length) [Res.row sb 56 [v],vE v l]:=by
 intro ly J Jx L0 w Y hJ hin
 refine xi (args:=[.func (.yield ly) #[] #[],pt sb]) Tryz.func488 O Tryz.ntmps488 O (show Own w (xL<|[Res.row sb 56 [v],vE v l]++L0) (Res.row sb 56 [v]::vE v l::L0) w from hin)<|zB<|zJ 0 (v:=v) O O O O<|zn (pV 1 O) O O<|y9 O O (zt qG) O<|zF O<|zA<|zU<|xV (fun(k:Nat) (a:List (Int×EntD)) (Lr:List Res)=>[(0, .func (.yield ly) #[] #[]),(1,pt sb),(3,Vi<|((k:Nat):Int) - 1)]) (fun(k:Nat) (a:List (Int×EntD)) (Lr:List Res)=>(k≤l.length∧a.length+k=l.length)∧J a Lr) (fun(k:Nat) (a:List (Int×EntD)) (Lr:List Res)=>(Res.row sb 56 [v]::vE v l::Lr)) (fun(k:Nat) (a:List (Int×EntD)) (Lr:List Res)=>k) (fun m i=>⟨l.length,[],L0,⟨O,O,O,trivial⟩,⟨⟨Nat.le_refl _,by simp⟩,hJ⟩,i⟩)<|fun k a Lr g o=> ?_
 have r:=o.1
 have j:=o.2
 refine zK<|zB<|zC O<|xJ O O O<|zA<|zT O (fun q=> ?_)<|fun q=> ?_
 ·refine zN<|zK<|zU<|zBo<|xm O (za)<|xm O (za)<|xm O (zZ 0 (v:=v) O O O)<|xm O (za)<|xm O (kN (pV 1 O) 5 (k - 1) O O qG qG)<|xm O (zD0 (pV 1 O) 5 (k - 1) (off:=yr v+(k - 1)*5) (fun _=>O) O O qG)<|zM0 [Res.row sb 56 [v],vE v l] (((k:Nat):Int) - 1,zc l (k - 1)) Y O O O j ⟨by omega,by show zc l (k - 1)=zc l _;congr 1;omega⟩ O<|fun c Ly1_ d=>(xm O (zDT (b:=c) O)<|zF3<|jJ O (fun n=> ?_)<|fun n=> ?_)
  ·exact zP<|yq O<|fun m i=>⟨false,a++[(((k:Nat):Int) - 1,zc l (k - 1))],Ly1_,(by have e:c=false:=(by simpa using n);have h:=d;rwa [if_neg (by rw[e];simp)]at h),i⟩
  refine zN<|ze<|zC O<|y9 O O (zt qG) O<|zF O<|zx<|fun m i=>⟨k - 1,a++[(((k:Nat):Int) - 1,zc l (k - 1))],Ly1_,⟨O,O,(by show Value.int .i64 _=Value.int .i64 _;congr 1;omega),trivial⟩,⟨⟨by omega,by simp;omega⟩,(by have e:c=true:=(by simpa using n);have h:=d;rwa [if_pos e]at h)⟩,i,qG⟩
 exact xy O<|yq O<|fun m i=>⟨true,a,Lr,⟨by omega,j⟩,i⟩
theorem zQm{S:List Nat}(v:Value)(l:List EntD)(w:World)(c:Own w S [vE v l] w):Rets Tryz.prog 412 #[v] w fun h d=>∃ (b:Nat),h= .func (.func 488) #[] #[pt b]∧Own w S [vE v l,Res.row b 56 [v]] d:=by
 refine zO Tryz.func412 O Tryz.ntmps412 c<|zB<|zS (fun d e=>Own.qa (i:=0) O e)<|fun a=>(zHs O a O<|fun g=>zF O<|zA<|zB<|j7 (va:=[]) (vb:=[pt g]) O O O<|zF O<|zA<|zP<|zm (v:= .func (.func 488) #[] #[pt g]) O O<|fun d e=>⟨g,O,e⟩)
theorem zGl(c:ConfD)(w:World)(hv:c.vs.length≤10000000)(hl:c.ls.length≤10000000)(d:ConfD.rd c w []):Rets Tryz.prog 241 #[.agg (ConfD.cells c).toArray] w fun n b=>∃ (cv cw:Value),n= .agg #[cv,cw]∧Own w [] [vI cv c.vs,vI cw c.ls] b:=by
 refine zO Tryz.func241 O Tryz.ntmps241 (Own.start w)<|zB<|zj O O<|fun p=>zk (v:= .agg #[zW,zW]) qF O<|fun q=>zA<|zK<|zd [0] O V qF<|fun b a e=>zD 0 O (zL (o:=0) O) e<|zD 1 O (zZ 0 (v:=c.vv) O O O) e<|zD 3 O (zL (o:=1) O) e<|zD 4 O (zZ 0 (v:=c.lv) O O O) e<|zM 2 O a<|zG O O<|fun b a=>(y4 c.vv c.vs b qI<|a.rd0 d.vv).mono ?_
 rintro j l ⟨_,rfl,m⟩
 refine(?_:CL _ _ _ _ _ _ (Own w [] [_,_,_])) l<|a.qb m
 refine zE [0] O V<|fun b a e=>zM 5 O a<|zG O O<|fun b a=>(y4 c.lv c.ls b qI<|a.rd0 d.lv).mono ?_
 rintro k l ⟨_,rfl,m⟩
 refine(?_:CL _ _ _ _ _ _ (Own w [] [_,_,_,_])) l<|a.qb m
 refine zE [0] O V<|fun b a e=>zM 6 O a<|zS (fun b a=>Own.qa (i:=2) O a)<|fun g=>(zS (fun b a=>Own.qa (i:=3) O a)<|fun h=>(xP (cs:=[j,k]) (z:=[zW,zW]) (pl:=[(0,1),(1,1)]) qF ⟨g,h,trivial⟩ qF O<|zE [0] O V<|fun b a e=>zM 7 O a<|zf 1 O O O (zH g<|zH h zh) O<|zE [0] O V<|fun b a e=>zX<|(?_:C _ _ _ _ _ _ _ (Own w [] [_,_,_,_])) _ a))
 exact zP<|xg (cs:=[j,k]) O O qF (Own.qd (i:=1) O)<|fun b a=>⟨j,k,O,a.sel [2,3] O V⟩
theorem zGG{es rs:List EntD}{e:Int}(hl:es.length≤1000000)(a:(LG 0 0 es).fromE (0+1) 1073741824=(rs.map EntD.toEntA,e)):rs.map EntD.toEntA=es.map EntD.toEntA:=by
 rw[LG.fromE_eq,if_neg qG,if_neg qG,if_neg qG]at a
 have e1:=congrArg Prod.fst a
 have e1:((es.map EntD.toEntA).drop (0+1 - 0 - 1)).take (1073741824:Int).toNat=rs.map EntD.toEntA:=e1
 rw[←e1,List.drop_zero,List.take_of_length_le qN]
theorem zPh{rs:List EntD}{j:Nat}(h:j<rs.length):zc (rs.map EntD.toEntA) j=(zc rs j).toEntA:=jY (by rw[List.getElem?_map,y8 h];rfl)
theorem zT8{rs:List EntD}{upto:Nat}{pre:List (Int×EntD)}{x:Int×EntD}(a:∀ j,j<pre.length→zGM upto (zc rs (rs.length - 1 - j)).toEntA=false)(b:pre.length<rs.length∧x.2=zc rs (rs.length - 1 - pre.length))(h:¬(x.2.kind=3∧x.2.index≤upto)):∀ j,j<(pre++[x]).length→zGM upto (zc rs (rs.length - 1 - j)).toEntA=false:=by
 intro j hj
 by_cases hj2:j<pre.length
 · exact a j hj2
 rw[show j=pre.length by simp at hj;omega,←b.2]
 exact decide_eq_false h
theorem zNf{vs0:List Int}{rs:List EntD}{upto:Nat}{pre:List (Int×EntD)}{x:Int×EntD}{F:ConfA}{e:Int}(b:∀ j,j<pre.length→zGM upto (zc rs (rs.length - 1 - j)).toEntA=false)(a:pre.length<rs.length∧x.2=zc rs (rs.length - 1 - pre.length))(h:x.2.kind=3∧x.2.index≤upto)(hv:ValPost (zAJ x.2.data) F ⟨[],[]⟩ e):(F,x.2.index)=zAk vs0 (rs.map EntD.toEntA) upto:=by
 unfold zAk
 rw[zJV (m:=pre.length) (by simpa using a.1) (fun j c=>by rw[List.length_map,zPh qG];exact b j c) (by rw[List.length_map,zPh qG,←a.2];exact decide_eq_true h)]
 rw[List.length_map,zPh qG,←a.2]
 show(F,x.2.index)=((zAJ x.2.data).getD ⟨[],[]⟩,x.2.index)
 rcases hv with⟨_,hv⟩|⟨_,hv,rfl⟩<;>rw[hv]<;>rfl
theorem zOa{vs0:List Int}{rs:List EntD}{upto n:Nat}(c:n=rs.length)(a:∀ j,j<n→zGM upto (zc rs (rs.length - 1 - j)).toEntA=false):((⟨vs0,[]⟩:ConfA),0)=zAk vs0 (rs.map EntD.toEntA) upto:=by
 unfold zAk
 rw[zKP (fun j b=>by rw[List.length_map]at b ⊢;rw[zPh qG];exact a j qG)]
theorem zHf{S:List Nat}(cb jb:Nat)(t:TimD)(a:StA)(r:RolD)(b:StB)(lead yv out:Value)(qe:Nat)(lv:Value)(es:List EntD)(d:Nat)(w:World)(hg:(LG 0 0 es).good)(hl:es.length≤1000000)(aq:b.vs.length≤1000)(ak:Own w S [xh cb t lead a r b yv jb qe out,Res.nl b lv es] w):Rets Tryz.prog 270 #[pt cb,Vn d] w fun u_ k=>∃ (cv cw:Value) (F:ConfA) (I:Nat),u_= .tuple #[.agg #[cv,cw],Vn I]∧(F,I)=zAk b.vs (es.map EntD.toEntA) d∧Own w S [xh cb t lead a r b yv jb qe out,Res.nl b lv es,vI cv F.vs,vI cw F.ls] k:=by
 refine zKG (args:=[pt cb,Vn d]) (A:=Own w S [xh cb t lead a r b yv jb qe out,Res.nl b lv es]) Tryz.func270 O Tryz.ntmps270 O ak<|ze<|zj O O<|fun b3=>zk (v:= .agg #[zW,zW]) qF O<|fun y=>zk (v:=Vn 0) qF O<|fun z=>zx<|fun u e=>((?_:C _ _ _ _ _ _ _ (Own w S [_,_,_,_,_])) u e)
 refine zd [0,1,2,3,4] O V qF<|fun k e g=>zD 0 O za g<|zD 1 O (zY O) g<|zD 2 O (zL (o:=29) O) g<|zD 3 O (zZ 0 (v:=pt b.lb) O O O) g<|zD 4 O za g<|zD 5 O (zY O) g<|zD 6 O (zL (o:=24) O) g<|zD 7 O (zL (o:=0) O) g<|zD 8 O (zZ 0 (v:=Vn 0) O O O) g<|zD 9 O (xN O O<|yz qG) g<|zM 10 O e<|zG O O<|fun k e=>((zE7 b.lb 0 0 lv es (0+1) 1073741824 k qH ‹_› (e.qq 1 0 O O) (e.qr 1 1 O O)<|EntD.rd.qq 1 2 O O e).mono ?_)
 rintro _ u ⟨a0,c,ad,rfl,a5,hO⟩
 have a1:=zGG hl a5
 have ar:c.length=es.length:=(by simpa using congrArg List.length a1)
 refine(?_:CL _ _ _ _ _ _ (Own w S [_,_,_,_,_,_,_])) u<|e.qb hO
 refine zE [0,1,2,3,4] O V<|fun k e g=>zD 11 O za g<|zD 12 O (yG (vs:=[a0,Vi ad]) O O) g<|zD 13 O (yG (vs:=[a0,Vi ad]) O O) g<|zD 14 O yB g<|zD 15 O yB g<|zX ?_
 skip
 refine(?_:C _ _ _ _ _ _ _ (Own w S [_,_,_,_,_,_,_])) k e
 refine ze<|zC O<|zG O O<|fun k e=>(zQm a0 c k<|e.give [5] O V).mono ?_
 rintro _ u ⟨al,rfl,hO⟩
 refine fq [5] O e hO<|zx<|fun u e=>(zKj (e1:=fun x:Int×EntD=>Value.int .i64 x.1) (e2:=fun x:Int×EntD=>Value.agg (EntD.cells x.2).toArray) (Q:=fun m (x:Int×EntD)=>m.length<c.length∧x.2=zc c (c.length - 1 - m.length)) (Sx:=fun xs=>xs.length=c.length) (Ls:=[Res.row al 56 [a0],vE a0 c]) (Lu:=[xh cb t lead a r b yv jb qe out,Res.nl b lv es,Res.row b3 31 [Vn d],Res.row y 178 [zW,zW],Res.row z 31 [Vn 0],sE c]) (Ju:=fun m L=>L=[xh cb t lead a r b yv jb qe out,Res.nl b lv es,Res.row b3 31 [Vn d],Res.row y 178 [zW,zW],Res.row z 31 [Vn 0],sE c]∧(∀ j,j<m.length→zGM d (zc c<|c.length - 1 - j).toEntA=false)) (Jx:=fun m L=>∃ (cv cw:Value) (F:ConfA) (i:Nat),L=[xh cb t lead a r b yv jb qe out,Res.row y 178 [cv,cw],Res.row z 31 [Vn i],Res.nl b lv es,vI cv F.vs,vI cw F.ls]∧(F,i)=zAk b.vs (es.map EntD.toEntA) d) (Mid:=fun m x f' L=>∃ b9:Nat,Agr f' [(3,pt b3),(4,pt y),(5,pt z),(9,pt b9)]∧L=[xh cb t lead a r b yv jb qe out,Res.nl b lv es,Res.row b3 31 [Vn d],Res.row y 178 [zW,zW],Res.row z 31 [Vn 0],sE c,Res.row b9 113 (EntD.cells x.2)]∧(∀ j,j<m.length→zGM d (zc c<|c.length - 1 - j).toEntA=false)) O qF (zKN _ _ _ (by simp only[zg];omega)) ⟨O,(fun j h=>by cases h)⟩ (e.sel [7,6,0,1,2,3,4,5] O V) O O O ?_ ?_ ?_ ?_)
 ·rintro m x L w ⟨rfl,hJ⟩ hQ
  have a2:x.2∈c:=by rw[hQ.2];exact zy qG
  have aa:x.2.toEntA∈es.map EntD.toEntA:=a1▸List.mem_map_of_mem a2
  have am:x.2.data.length≤4096:=(folA.ok hg.fol _ aa).1.2.2.2
  refine zk (v:= .agg #[Vn 0,Vn 0,Vi 0,Vi 0,zW]) qF O<|fun b9=>(zS (fun k e=>Sl.cell1<|Rd.φ<|(EntD.rd.star0 5 O e _ a2).dv)<|fun ae=>(zf 6 O O O (zH O<|zH O<|zH O<|zH O<|zH ae zh) O<|zx<|fun k e=>⟨_,⟨b9,⟨O,O,O,O,trivial⟩,O,hJ⟩,e⟩))
 ·rintro l m x f' L w ⟨b9,hA,rfl,hJ⟩ hQ e
  rw[←zBr hA]
  have a2:x.2∈c:=by rw[hQ.2];exact zy qG
  have aa:x.2.toEntA∈es.map EntD.toEntA:=a1▸List.mem_map_of_mem a2
  have am:x.2.data.length≤4096:=(folA.ok hg.fol _ aa).1.2.2.2
  refine zLh O<|(?_:CL _ _ _ _ _ _ (Own w (xL [xh cb t lead a r b yv jb qe out,Res.nl b lv es,Res.row b3 31 [Vn d],Res.row y 178 [zW,zW],Res.row z 31 [Vn 0],sE c,Res.row b9 113 (EntD.cells x.2)]) [xh cb t lead a r b yv jb qe out,Res.nl b lv es,Res.row b3 31 [Vn d],Res.row y 178 [zW,zW],Res.row z 31 [Vn 0],sE c,Res.row b9 113 (EntD.cells x.2)])) w e
  refine zI (o:=2) O O<|zJ 6 (v:=Vi x.2.kind) O O O O<|yT O O O<|zC O<|yA (q:=x.2.kind=3) 4 3 [37,36,35,34] (((x.2.index:Nat):Int)≤((d:Nat):Int)) O O O O O O trivial O (fun s=> ?_)<|fun ap=> ?_
  ·refine zQ O (gT s)<|zI (o:=0) O O<|zQ O (gT s)<|zJ 6 (v:=Vn x.2.index) O O O O<|zQ O (gT s)<|zJ 2 (v:=Vn d) O O O O<|zQ O (gT s)<|yx O O O<|z8 O<|fun _ e=>e
  refine zx<|fun u e=>zSL O (fun c1=> ?_)<|fun c1=> ?_
  ·refine zLh O<|(?_:CL _ _ _ _ _ _ (Own w (xL [xh cb t lead a r b yv jb qe out,Res.nl b lv es,Res.row b3 31 [Vn d],Res.row y 178 [zW,zW],Res.row z 31 [Vn 0],sE c,Res.row b9 113 (EntD.cells x.2)]) [xh cb t lead a r b yv jb qe out,Res.nl b lv es,Res.row b3 31 [Vn d],Res.row y 178 [zW,zW],Res.row z 31 [Vn 0],sE c,Res.row b9 113 (EntD.cells x.2)])) u e
   refine zI (o:=4) O O<|zJ 6 (v:=x.2.dv) O O O O<|zG O O<|fun k e=>(zGf x.2.dv x.2.data k qI<|(EntD.rd.star0 5 O e _ a2).dv).mono ?_
   rintro _ u ⟨n,a6,p,a7,af,rfl,ab,ag,ah,hO⟩
   refine(?_:CL _ _ _ _ _ _ (Own w (xL [xh cb t lead a r b yv jb qe out,Res.nl b lv es,Res.row b3 31 [Vn d],Res.row y 178 [zW,zW],Res.row z 31 [Vn 0],sE c,Res.row b9 113 (EntD.cells x.2)]) [xh cb t lead a r b yv jb qe out,Res.nl b lv es,Res.row b3 31 [Vn d],Res.row y 178 [zW,zW],Res.row z 31 [Vn 0],sE c,Res.row b9 113 (EntD.cells x.2),vI n a6,vI p a7])) u<|e.qb hO
   refine zC O<|zb (vs:=[.agg #[n,p],Vi af]) O O O<|zb (vs:=[.agg #[n,p],Vi af]) O O O<|zk (v:= .agg #[zW,zW]) qF O<|fun au=>(zS (fun k e=>Own.qa (i:=7) O e)<|fun a8=>(zS (fun k e=>Own.qa (i:=8) O e)<|fun a9=>(zf 9 O O O (zH a8<|zH a9 zh) O<|zF O<|zx<|fun w2 e=>zN5 [0,2,6,7,8,9] O V O qF (fun k e g=> ?_) e)))
   refine zD 0 O (xG (cs:=[n,p]) 5 O O) g<|zD 1 O (zL (o:=0) O) g<|zD 2 O (zZ 2 (v:=Vn x.2.index) O O O) g<|zM 3 O e<|zf 3 O O O (zH a8<|zH a9 zh) O<|zE [0,2,6,7,8,9] O V<|fun k e g=>zM 4 O e<|zi (cs:=[Vn 0]) 4 O O O O O<|zE [0,2,6,7,8,9] O V<|fun k e g=>zX<|zSC ⟨_,⟨n,p,(⟨a6,a7⟩:ConfA),x.2.index,O,a1▸zNf hJ hQ ⟨c1.1,by omega⟩ ab⟩,e.sel [0,3,4,1,7,8] O V⟩
  exact zNv ⟨_,⟨O,zT8 hJ hQ<|fun q=>c1 ⟨q.1,by omega⟩⟩,e.sel [0,1,2,3,4,5] O V⟩
 ·rintro xs L' D u g ⟨rfl,hJ⟩ hO a_ an
  refine zNR O qF O ?_ hO a_ an
  refine zC O<|zV O O<|zI (o:=24) O O<|zI (o:=2) O O<|xI 3 [b.vv,b.wv] O O (yj 26 O) qF O<|zG O O<|fun k e=>(zGl ({vv:=b.vv,vs:=b.vs,lv:=b.wv,ls:=[]}:ConfD) k qI qI ⟨(e.qr 4 3 O O),(e.qr 4 4 O O)⟩).mono ?_
  rintro _ u ⟨a3,a4,rfl,hO⟩
  refine(?_:CL _ _ _ _ _ _ (Own w S [_,_,_,_,_,_,_,_,_,_,_])) u<|e.qb hO
  refine zS (fun k e=>Own.qa (i:=9) O e)<|fun ai=>(zS (fun k e=>Own.qa (i:=10) O e)<|fun aj=>(zf 6 O O O (zH ai<|zH aj zh) O<|zi (cs:=[Vn 0]) 7 O O O O O<|zx<|fun k e=>⟨_,[a3,a4],Vn 0,y,z,5,6,⟨O,O⟩,⟨by rfl,by rfl⟩,by kernel_rfl,e,fun ao ac=>⟨a3,a4,(⟨b.vs,[]⟩:ConfA),0,O,a1▸zOa g hJ,ac.sel [2,3,8,9] O V⟩⟩))
 rintro xs L' D u ⟨cv,cw,F,i,rfl,hX⟩ hO
 exact zMa (cs:=[cv,cw]) (v:=Vn i) (j4:=3) (j5:=4) O qF O O O O qF hO<|fun ao ac=>⟨cv,cw,F,i,O,hX,ac.sel [2,5,6,7] O V⟩
end Go.Proofs.YthpoddkmhfhboaaGreatDoor
