import Derived.Test.YtkkeknmkipkbmaaGreatFw5
import Derived.Laws.IdiomStrings
import Derived.OrdersHeld
import Derived.KernelRfl
set_option linter.unusedSectionVars false
set_option linter.unusedSimpArgs false
set_option linter.unusedVariables false
namespace Go.Sc
def vb(c:UInt8):Value:= .int .u8 c.toNat
theorem zBL(bs:List UInt8):∀ v∈bs.map vb,cell1 v=true:=by
  intro v hv
  obtain⟨c,_,rfl⟩:=List.mem_map.1 hv
  rfl
def vi(k:IntKind)(x:Int):Value:= .int k x
def x6(a:Option Addr)(cap l h m sz:Nat):Value:= .slice (if m=l then a else a.map (·.add (l*sz))) (h - l) (m - l)
theorem zBC(a:Option Addr)(len cap l h m sz:Nat):yW (x6 a cap l h m sz)=yW (.slice a len cap):=by
  cases a with
  |none=>unfold x6;split<;>rfl
  |some a=>
    unfold x6
    split
    · rfl
    simp[yW,Addr.add]
    split<;>rfl
theorem zIa(a:Option Addr)(len cap l h m sz:Nat)(hm:m≤cap):∀ b∈zAk (x6 a cap l h m sz),b∈zAk (.slice a len cap):=by
  intro b hb
  have h1:=j6 b hb
  rw[zBC a len]at h1
  cases a with
  |none=>simp[yW]at h1
  |some a=>
    by_cases hc:0<cap
    · rw[zEm hc];exact h1
    have hc0:cap=0:=by omega
    have hm0:m=0:=by omega
    subst hc0;subst hm0
    unfold x6 at hb
    rw[Nat.zero_sub]at hb
    split at hb<;>simp[zAk]at hb
theorem Sl.sub{w:World}{a:Option Addr}{n cap:Nat}{cs:List Value}(hs:Sl w (.slice a n cap) n cs){l h m sz:Nat}(h1:l≤h)(h2:h≤m)(h3:m≤cap)(hn:h≤n)(hlen:cs.length=n*sz):
    Sl w (x6 a cap l h m sz) (h - l) ((cs.drop (l*sz)).take ((h - l)*sz)):=by
  rcases hs with⟨a',e,rfl,rfl⟩|⟨b,off,cap',e,hc1,hc2,hb,hcell⟩
  · simp at e
    obtain⟨rfl,rfl⟩:=e
    have e1:m=0:=by omega
    have e2:l=0:=by omega
    have e3:h=0:=by omega
    subst e1;subst e2;subst e3
    exact .inl ⟨_,by simp[x6];rfl,O,by simp⟩
  simp at e
  obtain⟨rfl,rfl⟩:=e
  unfold x6
  by_cases hml:m=l
  · rw[if_pos hml]
    have:h=l:=by omega
    subst this
    subst hml
    exact .inl ⟨some ⟨b,off,none⟩,by simp,by omega,by simp⟩
  rw[if_neg hml]
  refine .inr ⟨b,off+l*sz,m - l,by simp[jM],by omega,by rw[y5]at *;omega,hb,?_⟩
  intro i u hu
  rw[List.getElem?_take]at hu
  split at hu
  · rw[List.getElem?_drop]at hu
    rw[Nat.add_assoc]
    exact hcell _ u hu
  cases hu
section
variable {P:Program} {n:Nat} {ops:Array Oper} {N R:K} {X:List (Nat×K)} {f:Nat→Value} {A:World→Prop} {rest:List Oper}
variable {d:Nat} {ty:TypeId} {p:String} {af:Array Edge} {x y:Operand} {t e:TypeId} {sz by':Nat}
variable {w0:World} {S:List Nat} {L:List Res}
theorem zl{w:World}(h:Own w0 S L w)(e:TypeId)(sz:Nat):Own w0 S (L++[Res.vec e sz (.slice none 0 0) 0 []]) w:=
  h.qi (Own.mk1 (Keep.refl _ _) (zL1 w e sz) (fun b hb=>by simp[Res.vec,yW]at hb))
theorem zFU(i:Nat){v u:Value}{c m:Nat}{cs news:List Value}(ht:slT P t=some (e,sz,by'))(hx:ev f x=v)(hL:L[i]?=some (Res.vec e sz v c cs))(hy:ev f y=u)(hs:∀ w,Own w0 S L w→Sl w u m news)
    (hl:news.length=m*sz) (h1:∀ v∈news,cell1 v=true) (hb:(c+m)*by'≤140737488355328) (h63:c+m≤maxLen) (hd:Nat.blt d n=true)
    (k:∀ v',CL P n ops rest N (upd f d v') (Own w0 S (L.set i (Res.vec e sz v' (c+m) (cs++news))))):
    CL P n ops (⟨some d, .call ⟨.builtin .append,#[x,y],#[t,t]⟩,ty,p,af,none⟩::rest) N f (Own w0 S L):=by
  intro w hw
  obtain⟨v',w',hr,hO⟩:=zDO (P:=P) (ty:=ty) ht (hw.holds i _ hL) (hs w hw) hl h1 h63 hb
  have hO':=hw.frame1 (E:=[]) hL hO
  rw[List.append_nil]at hO'
  refine kY (w':=w') ?_ hd (k v' _ hO')
  simp[execOp,resolve,invoke,builtin,hx,hy,hr]
theorem zNj{b off c m:Nat}{u:Value}{cs news:List Value}(ht:slT P t=some (e,sz,by'))(hx:ev f x= .slice (some ⟨b,off,none⟩) c c)(hv:∀ w,Own w0 S L w→Sl w (.slice (some ⟨b,off,none⟩) c c) c cs)(hc:cs.length=c*sz)
    (hy:ev f y=u) (hs:∀ w,Own w0 S L w→Sl w u m news) (hl:news.length=m*sz) (hm:0<m) (hb:(c+m)*by'≤140737488355328) (h63:c+m≤maxLen) (hd:Nat.blt d n=true)
    (k:∀ v',CL P n ops rest N (upd f d v') (Own w0 S (L++[Res.vec e sz v' (c+m) (cs++news)]))):
    CL P n ops (⟨some d, .call ⟨.builtin .append,#[x,y],#[t,t]⟩,ty,p,af,none⟩::rest) N f (Own w0 S L):=by
  intro w hw
  obtain⟨v',w',hr,hO⟩:=zB2 (P:=P) (ty:=ty) ht (hv w hw) hc (hs w hw) hl hm h63 hb
  refine kY (w':=w') ?_ hd (k v' _ (hw.qi hO))
  simp[execOp,resolve,invoke,builtin,hx,hy,hr]
def bnd(f:Nat→Value)(dflt:Nat):Option Operand→Nat→Prop
  |none,k=>k=dflt
  |some o,k=>∃ kk,ev f o= .int kk (k:Int)
theorem xg{w:World}{v:Value}{kk:IntKind}{k c:Nat}(code:BoundsCode)(hv:v= .int kk (k:Int))(hk:k≤c):(Instr.sliceBound v c code).run P w= .ok k w:=by
  subst hv
  simp[Instr.sliceBound,asIntOf,hk]
theorem zOE{a:Option Addr}{len cap l h:Nat}{lo hi:Option Operand}(ht:zA2 P t=some sz)(hx:ev f x= .slice a len cap)(hl:bnd f 0 lo l)(hh:bnd f len hi h)(h1:l≤h)(h2:h≤cap):RV P f ⟨some d, .slice t x lo hi none,ty,p,af,none⟩ A ((x6 a cap l h cap sz)):=
  fun w _=>by
    unfold zA2 at ht
    split at ht
    · rename_i e he
      simp only[Option.map_eq_some_iff]at ht
      obtain⟨i0,hi0,rfl⟩:=ht
      have hsl:(Instr.sliceBounds true len cap (lo.map (ev f)) (hi.map (ev f)) none).run P w= .ok (l,h,cap) w:=by
        cases lo<;>cases hi<;>simp only[bnd]at hl hh
        · subst hl;subst hh;simp[Instr.sliceBounds]
        · subst hl;obtain⟨kk,hh⟩:=hh
          simp[Instr.sliceBounds,xg (P:=P) (w:=w) _ hh h2]
        · subst hh;obtain⟨kk,hl⟩:=hl
          simp[Instr.sliceBounds,xg (P:=P) (w:=w) _ hl h1]
        obtain⟨kk,hh⟩:=hh;obtain⟨kl,hl⟩:=hl
        simp[Instr.sliceBounds,xg (P:=P) (w:=w) _ hl h1,xg (P:=P) (w:=w) _ hh h2]
      simp[execOp,Instr.sliceAt,hx,zo he,Instr.slice,hsl,sizeOf,typeInfo,hi0,x6]
    cases ht
theorem zNn{a:Option Addr}{len cap l h m:Nat}{lo:Option Operand}{hi mx:Operand}(ht:zA2 P t=some sz)(hx:ev f x= .slice a len cap)(hl:bnd f 0 lo l)(hh:bnd f len (some hi) h)(hm:bnd f cap (some mx) m)(h1:l≤h)(h2:h≤m)(h3:m≤cap)(hd:Nat.blt d n=true)
    (k:CL P n ops rest N (upd f d (x6 a cap l h m sz)) A):CL P n ops (⟨some d, .slice t x lo (some hi) (some mx),ty,p,af,none⟩::rest) N f A:=
  yR hd (fun w _=>by
    unfold zA2 at ht
    split at ht
    · rename_i e he
      simp only[Option.map_eq_some_iff]at ht
      obtain⟨i0,hi0,rfl⟩:=ht
      have hsl:(Instr.sliceBounds true len cap (lo.map (ev f)) (some (ev f hi)) (some (ev f mx))).run P w= .ok (l,h,m) w:=by
        obtain⟨kk,hh⟩:=hh;obtain⟨km,hm⟩:=hm
        cases lo<;>simp only[bnd]at hl
        · subst hl
          simp[Instr.sliceBounds,xg (P:=P) (w:=w) _ hm h3,xg (P:=P) (w:=w) _ hh h2]
        obtain⟨kl,hl⟩:=hl
        simp[Instr.sliceBounds,xg (P:=P) (w:=w) _ hl h1,xg (P:=P) (w:=w) _ hm h3,xg (P:=P) (w:=w) _ hh h2]
      simp[execOp,Instr.sliceAt,hx,zo he,Instr.slice,hsl,sizeOf,typeInfo,hi0,x6]
    cases ht) k
def isBytesT(P:Program)(t:TypeId):Bool:=match P.underlying t with|some (.slice e)=>(match P.underlying e with|some (.int .u8)=>true|_=>false)|_=>false
theorem zE8(h:zGV P t=true):P.underlying t=some .string:=by
  unfold zGV at h
  split at h
  · assumption
  cases h
theorem zBA(s u:ByteArray):(s.toList==u.toList)=decide (s=u):=by
  rw[ByteArray.toList_eq,ByteArray.toList_eq]
  by_cases h:s=u
  · subst h;simp
  have:s.data.toList≠u.data.toList:=fun e=>h (by
    cases s;cases u;simp at e;simp[e])
  rw[decide_eq_false h]
  simpa using this
theorem zOH{s:ByteArray}{kk:IntKind}{j:Nat}{i:Int}(ht:zGV P t=true)(hx:ev f x= .string s)(hy:ev f y= .int kk i)(hi:i=j)(hj:j<s.size)(hd:Nat.blt d n=true)
    (k:CL P n ops rest N (upd f d (vb s[j])) A):CL P n ops (⟨some d, .index t x y,ty,p,af,none⟩::rest) N f A:=
  yR hd (fun w _=>by
    have h':=zE8 ht
    subst hi
    have:s[j]?=some s[j]:=by simp[hj]
    simp[execOp,hx,hy,Instr.index,asIntOf,zo h',this,vb]) k
end
section
variable {P:Program} {n:Nat} {ops:Array Oper} {N R:K} {X:List (Nat×K)} {f:Nat→Value} {S:World→Prop} {w:World}
variable {d:Nat} {ty:TypeId} {p:String} {af:Array Edge} {fuel:Nat} {listed:Array Bool}
def HL(P:Program)(n:Nat)(ops:Array Oper)(S:World→Prop)(N:K)(fuel:Nat)(listed:Array Bool)(f:Nat→Value)(w:World):Prop:=
  ∀ a,Rep n f a→wpAnyH P .any ops (x1 n N) S fuel listed a w
theorem zDY{id:Nat}{l:List Oper}(S:World→Prop)(hm:P.follows .mixedOrders=true)(hS:S (drawn w))
    (h:HL P n l.toArray S N l.length (Array.replicate l.length false) f (drawn w)):W P n (.region id l.toArray true) N R X f w:=by
  intro a ha
  refine wp_mono (wp_region_any (Q:=x1 n N) hm (wpAny_of_held (S:=S) _ _ _ _ ?_)) ?_
  · have h1:=h a ha
    show wpAnyH P .any l.toArray (x1 n N) S l.toArray.size (Array.replicate l.toArray.size false) a (drawn w)
    rw[List.size_toArray]
    exact h1
  intro e a w hq
  cases e<;>first|exact hq.elim|exact hq
theorem zN7(i:Nat){op:Op}{v:Value}(hi:ops[i]?=some ⟨some d,op,ty,p,af,none⟩)(hs:Region.noSelect ops=true)(hf:Region.free .any ops listed i=true)(hr:(Region.ready .any ops listed).contains i=true)
    (hv:RV P f ⟨some d,op,ty,p,af,none⟩ S v) (hd:Nat.blt d n=true) (hS:S w) (k:HL P n ops S N fuel (listed.setIfInBounds i true) (upd f d v) w):HL P n ops S N (fuel+1) listed f w:=by
  intro a ha
  refine wpAnyH_take (v:=v) hi hs hf hr (fun c a w h=>h.elim) (.inl ⟨by simp[Region.wanted],fun w' hw'=> ?_⟩) hS (k _ (ha.put (by simpa [Nat.blt_eq]using hd) v))
  rw[ha.eval]
  exact hv w' hw'
theorem zMN(i:Nat){op:Op}{v:Value}{j e:Nat}{b:Bool}(hi:ops[i]?=some ⟨some d,op,ty,p,af,some (j,b)⟩)(hj:yf ops j=some e)(hb:f e= .bool b)(hs:Region.noSelect ops=true)(hf:Region.free .any ops listed i=true)(hr:(Region.ready .any ops listed).contains i=true)
    (hv:RV P f ⟨some d,op,ty,p,af,none⟩ S v) (hd:Nat.blt d n=true) (hS:S w) (k:HL P n ops S N fuel (listed.setIfInBounds i true) (upd f d v) w):HL P n ops S N (fuel+1) listed f w:=by
  intro a ha
  refine wpAnyH_take (v:=v) hi hs hf hr (fun c a w h=>h.elim) (.inl ⟨by simp[Region.wanted,xt ha hj hb],fun w' hw'=> ?_⟩) hS (k _ (ha.put (by simpa [Nat.blt_eq]using hd) v))
  rw[ha.eval]
  exact hv w' hw'
theorem zNv(i:Nat){op:Op}{j e:Nat}{b b':Bool}(hi:ops[i]?=some ⟨some d,op,ty,p,af,some (j,b)⟩)(hj:yf ops j=some e)(hb:f e= .bool b')(hne:(b'==b)=false)(hs:Region.noSelect ops=true)(hf:Region.free .any ops listed i=true)(hr:(Region.ready .any ops listed).contains i=true)
    (hd:Nat.blt d n=true) (hS:S w) (k:HL P n ops S N fuel (listed.setIfInBounds i true) (upd f d undef) w):HL P n ops S N (fuel+1) listed f w:=by
  intro a ha
  refine wpAnyH_take (v:=undef) hi hs hf hr (fun c a w h=>h.elim) (.inr ⟨by simp[Region.wanted,xt ha hj hb];simpa using hne,O⟩) hS (k _ (ha.put (by simpa [Nat.blt_eq]using hd) undef))
theorem zNZ(hr:Region.ready .any ops listed=[])(h:N f w):HL P n ops S N fuel listed f w:=by
  intro a ha
  cases fuel with
  |zero=>exact⟨hr,f,ha,h⟩
  |succ fuel=>exact⟨fun _=>⟨f,ha,h⟩,fun i hi=>by rw[hr]at hi;cases hi⟩
theorem zJh{A:World→Prop}{id:Nat}{l:List Oper}(S:World→Prop)(hm:P.follows .mixedOrders=true)(hS:∀ w,A w→S (drawn w))
    (h:∀ w,A w→HL P n l.toArray S N l.length (Array.replicate l.length false) f (drawn w)):C P n (.region id l.toArray true) N R X f A:=fun w hw=>zDY S hm (hS w hw) (h w hw)
end
def zB6(P:Program)(fn:Func)(n:Nat)(R:Value→World→Prop):K:=fun f w=>∃ v,(∀ a,Rep n f a→(results fn a.tmps).run P w= .ok v w)∧R v w
section
variable {P:Program} {n:Nat} {fn:Func} {g:FuncId} {c:Code} {args:List Value} {w0 w:World} {R:Value→World→Prop} {S:List Nat} {L:List Res} {A:World→Prop} {f:Nat→Value}
theorem xo(hf:P.funcs[g]?=some fn)(hb:fn.body=some c)(hn:fn.ntmps=n)(hl:Nat.ble args.length n=true)(hA:A w)(h:C P n c (zB6 P fn n R) (zB6 P fn n R) [] (ini args) A):Rets P g args.toArray w R:=by
  subst hn
  exact zI9 hf hb (Nat.le_of_ble_eq_true hl) (h w hA)
theorem yJ(hr:fn.results= #[])(h:∀ w,A w→R (.tuple #[]) w):∀ w,A w→zB6 P fn n R f w:=
  fun w hw=>⟨_,fun a ha=>results_none hr a.tmps P w,h w hw⟩
theorem z5{t:Tmp}{v:Value}(hr:fn.results= #[.tmp t])(hv:f t=v)(h:∀ w,A w→R v w):∀ w,A w→zB6 P fn n R f w:=
  fun w hw=>⟨v,fun a ha=>by rw[results_tmp hr,ha.get,hv],h w hw⟩
theorem xu{t u:Tmp}{v v':Value}(hr:fn.results= #[.tmp t, .tmp u])(hv:f t=v)(hv':f u=v')(h:∀ w,A w→R (.tuple #[v,v']) w):∀ w,A w→zB6 P fn n R f w:=
  fun w hw=>⟨_,fun a ha=>by rw[results_tmp2 hr,ha.get,ha.get,hv,hv'],h w hw⟩
theorem zEW{t u s:Tmp}{v v' v'':Value}(hr:fn.results= #[.tmp t, .tmp u, .tmp s])(hv:f t=v)(hv':f u=v')(hv'':f s=v'')(h:∀ w,A w→R (.tuple #[v,v',v'']) w):∀ w,A w→zB6 P fn n R f w:=
  fun w hw=>⟨_,fun a ha=>by simp[results,hr,ha.get,hv,hv',hv''],h w hw⟩
theorem jV{t:Tmp}{T:TypeId}{b:Nat}{cs:List Value}(hr:fn.results= #[.cell t T])(hv:f t= .pointer (some ⟨b,0,none⟩))(ht:jQ P T=some cs.length)(hc:∀ w,A w→∀ i u,cs[i]?=some u→w.cell? ⟨b,0+i,none⟩=some u)
    (h:∀ w,A w→R (.agg cs.toArray) w):∀ w,A w→zB6 P fn n R f w:=
  fun w hw=>⟨_,fun a ha=>by
    have:=xH (P:=P) ht (hc w hw)
    simp[results,hr,ha.get,hv,asAddr,this],h w hw⟩
theorem xj{t u:Tmp}{T:TypeId}{b:Nat}{cs:List Value}{v:Value}(hr:fn.results= #[.cell t T, .tmp u])(hv:f t= .pointer (some ⟨b,0,none⟩))(hv':f u=v)(ht:jQ P T=some cs.length)(hc:∀ w,A w→∀ i u,cs[i]?=some u→w.cell? ⟨b,0+i,none⟩=some u)
    (h:∀ w,A w→R (.tuple #[.agg cs.toArray,v]) w):∀ w,A w→zB6 P fn n R f w:=
  fun w hw=>⟨_,fun a ha=>by
    have:=xH (P:=P) ht (hc w hw)
    simp[results,hr,ha.get,hv,hv',asAddr,this],h w hw⟩
theorem Own.qq{i b:Nat}{e:TypeId}{cs:List Value}(hL:L[i]?=some (Res.row b e cs)):∀ w,Own w0 S L w→∀ j u,cs[j]?=some u→w.cell? ⟨b,0+j,none⟩=some u:=
  fun w hw j u hu=>by rw[Nat.zero_add];exact hw.rowCell hL hu
end
def Agr(f:Nat→Value):List (Nat×Value)→Prop
  | []=>True
  |(i,v)::r=>f i=v∧Agr f r
def zAn(g:Nat→Value):List (Nat×Value)→Nat→Value
  | []=>g
  |(i,v)::r=>upd (zAn g r) i v
theorem zA9{g:Nat→Value}:∀ {l:List (Nat×Value)},Agr g l→zAn g l=g
  | [],_=>rfl
  |(i,v)::r,h=>by
    simp only[zAn]
    rw[zA9 h.2]
    funext j
    by_cases hj:j=i
    · subst hj;rw[zA1];exact h.1.symm
    rw[jd _ _ hj]
section
variable {P:Program} {n:Nat} {N R:K} {X:List (Nat×K)} {f:Nat→Value} {w0:World} {S:List Nat} {A:World→Prop}
def zPO(σ:Type)(sl:σ→List (Nat×Value))(B:σ→World→Prop):K:=fun f w=>∃ s:σ,Agr f (sl s)∧B s w
theorem zIE{c:Code}{Q:Exit→Act→World→Prop}{a:Act}{w:World}{σ:Type}(J:σ→Act→World→Prop)(μ:σ→Nat)(s0:σ)(h0:J s0 a w)
    (round:∀ s a w,J s a w→c.wp P (Exit.then (fun a' w'=>∃ s',J s' a' w'∧μ s'<μ s) Q) a w):(Code.loop c).wp P Q a w:=by
  intro b k cs
  have key:∀ m s a w,μ s=m→J s a w→∃ e a' w',Q e a' w'∧Arrives P (lone (b.at a (.code c:: .inLoop c::k)) cs w) b k cs e a' w':=by
    intro m
    induction m using Nat.strongRecOn with
    |_ m ih=>
      intro s a w hm hJ
      obtain⟨e,a₁,w₁,hq,harr⟩:=round s a w hJ b (.inLoop c::k) cs
      cases e with
      |normal=>
        obtain⟨s',hJ',hlt⟩:=hq
        obtain⟨e₂,a₂,w₂,hq₂,harr₂⟩:=ih (μ s') (hm▸hlt) s' a₁ w₁ rfl hJ'
        exact⟨e₂,a₂,w₂,hq₂, .of_steps (Steps.trans harr (.one step_inLoop)) harr₂⟩
      |exit id=>exact⟨_,a₁,w₁,hq, .pass (x:= .inLoop c) rfl (fun _ _=> .inl qP) harr⟩
      |goto l=>exact⟨_,a₁,w₁,hq, .pass (x:= .inLoop c) rfl (fun _ _=> .inl qP) harr⟩
      |ret=>exact⟨_,a₁,w₁,hq, .pass (x:= .inLoop c) rfl (fun _ _=> .inl qP) harr⟩
      |panic ch=>exact⟨_,a₁,w₁,hq, .pass (x:= .inLoop c) rfl (fun _ _=> .inl qP) harr⟩
      |outgrown=>exact⟨_,a₁,w₁,hq, .pass (x:= .inLoop c) rfl (fun _ _=> .inl qP) harr⟩
  obtain⟨e,a',w',hq,harr⟩:=key _ s0 a w rfl h0
  exact⟨e,a',w',hq, .of_steps (.one step_loop) harr⟩
theorem zMx{c:Code}(σ:Type)(sl:σ→List (Nat×Value))(B:σ→World→Prop)(μ:σ→Nat)(h0:∀ w,A w→zPO σ sl B f w)
    (round:∀ (s:σ) (g:Nat→Value),C P n c (fun f' w'=>∃ s':σ,Agr f' (sl s')∧B s' w'∧μ s'<μ s) R X (zAn g (sl s)) (B s)):C P n (.loop c) N R X f A:=by
  intro w hw a ha
  obtain⟨s0,ha0,hb0⟩:=h0 w hw
  refine zIE (fun s a w=>∃ f,Rep n f a∧Agr f (sl s)∧B s w) μ s0 ⟨f,ha,ha0,hb0⟩ ?_
  rintro s a w ⟨f,ha,hag,hb⟩
  have h1:=round s f w hb
  rw[zA9 hag]at h1
  refine wp_mono (h1 a ha) ?_
  intro e a' w' hq
  cases e with
  |normal=>
    obtain⟨g,hr,s',h1,h2,h3⟩:=hq
    exact⟨s',⟨g,hr,h1,h2⟩,h3⟩
  |exit id=>exact hq
  |ret=>exact hq
  |goto l=>exact hq
  |panic c=>exact hq
  |outgrown=>exact hq
end
theorem zu{a:Int}(h: -9223372036854775808≤a∧a≤9223372036854775807):IntKind.i64.wrap a=a:=by
  unfold IntKind.wrap
  simp[IntKind.bits,IntKind.signed]
  split<;>omega
theorem xN{a:Int}(h:0≤a∧a≤18446744073709551615):IntKind.u64.wrap a=a:=by
  unfold IntKind.wrap
  simp[IntKind.bits,IntKind.signed]
  omega
theorem wu8{a:Int}:IntKind.u8.wrap a=a%256:=by
  simp[IntKind.wrap,IntKind.bits,IntKind.signed]
theorem zNL{a:Int}(h:0≤a∧a≤255):IntKind.u8.wrap a=a:=by rw[wu8];omega
end Go.Sc
