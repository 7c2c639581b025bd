import Derived.Test.YtkkeknmkipkbmaaGreatFw5
import Derived.Laws.IdiomStrings
import Derived.OrdersHeld
import Derived.KernelRfl
set_option linter.unusedSectionVars false
set_option linter.unusedSimpArgs false
set_option linter.unusedVariables false
namespace Go.Sc
def vb(c:UInt8):Value:= .int .u8 c.toNat
theorem zBo(bs:List UInt8):∀ v∈bs.map vb,cell1 v=true:=by
  intro v hv
  obtain⟨c,_,rfl⟩:=List.mem_map.1 hv
  rfl
def vi(k:IntKind)(x:Int):Value:= .int k x
def kO(a:Option Addr)(cap l h m sz:Nat):Value:= .slice (if m=l then a else a.map (·.add (l*sz))) (h - l) (m - l)
theorem zB3(a:Option Addr)(len cap l h m sz:Nat):yd (kO a cap l h m sz)=yd (.slice a len cap):=by
  cases a with
  |none=>unfold kO;split<;>rfl
  |some a=>
    unfold kO
    split
    · rfl
    simp[yd,Addr.add]
    split<;>rfl
theorem zJw(a:Option Addr)(len cap l h m sz:Nat)(hm:m≤cap):∀ b∈zBO (kO a cap l h m sz),b∈zBO (.slice a len cap):=by
  intro b hb
  have h1:=zAU b hb
  rw[zB3 a len]at h1
  cases a with
  |none=>simp[yd]at h1
  |some a=>
    by_cases hc:0<cap
    · rw[zFP hc];exact h1
    have hc0:cap=0:=by omega
    have hm0:m=0:=by omega
    subst hc0;subst hm0
    unfold kO at hb
    rw[Nat.zero_sub]at hb
    split at hb<;>simp[zBO]at hb
theorem Sl.sub{w:World}{a:Option Addr}{n cap:Nat}{cs:List Value}(hs:Sl w (.slice a n cap) n cs){l h m sz:Nat}(h1:l≤h)(h2:h≤m)(h3:m≤cap)(hn:h≤n)(hlen:cs.length=n*sz):
    Sl w (kO a cap l h m sz) (h - l) ((cs.drop (l*sz)).take ((h - l)*sz)):=by
  rcases hs with⟨a',e,rfl,rfl⟩|⟨b,off,cap',e,hc1,hc2,hb,hcell⟩
  · simp at e
    obtain⟨rfl,rfl⟩:=e
    have e1:m=0:=by omega
    have e2:l=0:=by omega
    have e3:h=0:=by omega
    subst e1;subst e2;subst e3
    exact .inl ⟨_,by simp[kO];rfl,O,by simp⟩
  simp at e
  obtain⟨rfl,rfl⟩:=e
  unfold kO
  by_cases hml:m=l
  · rw[if_pos hml]
    have:h=l:=by omega
    subst this
    subst hml
    exact .inl ⟨some ⟨b,off,none⟩,by simp,by omega,by simp⟩
  rw[if_neg hml]
  refine .inr ⟨b,off+l*sz,m - l,by simp[ji],by omega,by rw[xI]at *;omega,hb,?_⟩
  intro i u hu
  rw[List.getElem?_take]at hu
  split at hu
  · rw[List.getElem?_drop]at hu
    rw[Nat.add_assoc]
    exact hcell _ u hu
  cases hu
section
variable {P:Program} {n:Nat} {ops:Array Oper} {N R:K} {X:List (Nat×K)} {f:Nat→Value} {A:World→Prop} {rest:List Oper}
variable {d:Nat} {ty:TypeId} {p:String} {af:Array Edge} {x y:Operand} {t e:TypeId} {sz by':Nat}
variable {w0:World} {S:List Nat} {L:List Res}
theorem zm{w:World}(h:Own w0 S L w)(e:TypeId)(sz:Nat):Own w0 S (L++[Res.vec e sz (.slice none 0 0) 0 []]) w:=
  h.qi (Own.mk1 (Keep.refl _ _) (zNf w e sz) (fun b hb=>by simp[Res.vec,yd]at hb))
theorem zF3(e:TypeId)(sz:Nat)(k:CL P n ops rest N f (Own w0 S (L++[Res.vec e sz (.slice none 0 0) 0 []]))):CL P n ops rest N f (Own w0 S L):=fun w hw=>k w (zm hw e sz)
theorem zFs(i:Nat){v u:Value}{c m:Nat}{cs news:List Value}(ht:slT P t=some (e,sz,by'))(hx:ev f x=v)(hL:L[i]?=some (Res.vec e sz v c cs))(hy:ev f y=u)(hs:∀ w,Own w0 S L w→Sl w u m news)
    (hl:news.length=m*sz) (h1:∀ v∈news,cell1 v=true) (hb:(c+m)*by'≤140737488355328) (h63:c+m≤maxLen) (hd:Nat.blt d n=true)
    (k:∀ v',CL P n ops rest N (upd f d v') (Own w0 S (L.set i (Res.vec e sz v' (c+m) (cs++news))))):
    CL P n ops (⟨some d, .call ⟨.builtin .append,#[x,y],#[t,t]⟩,ty,p,af,none⟩::rest) N f (Own w0 S L):=by
  intro w hw
  obtain⟨v',w',hr,hO⟩:=zDe (P:=P) (ty:=ty) ht (hw.holds i _ hL) (hs w hw) hl h1 h63 hb
  have hO':=hw.frame1 (E:=[]) hL hO
  rw[List.append_nil]at hO'
  refine k7 (w':=w') ?_ hd (k v' _ hO')
  simp[execOp,resolve,invoke,builtin,hx,hy,hr]
theorem zO7{b off c m:Nat}{u:Value}{cs news:List Value}(ht:slT P t=some (e,sz,by'))(hx:ev f x= .slice (some ⟨b,off,none⟩) c c)(hv:∀ w,Own w0 S L w→Sl w (.slice (some ⟨b,off,none⟩) c c) c cs)(hc:cs.length=c*sz)
    (hy:ev f y=u) (hs:∀ w,Own w0 S L w→Sl w u m news) (hl:news.length=m*sz) (hm:0<m) (hb:(c+m)*by'≤140737488355328) (h63:c+m≤maxLen) (hd:Nat.blt d n=true)
    (k:∀ v',CL P n ops rest N (upd f d v') (Own w0 S (L++[Res.vec e sz v' (c+m) (cs++news)]))):
    CL P n ops (⟨some d, .call ⟨.builtin .append,#[x,y],#[t,t]⟩,ty,p,af,none⟩::rest) N f (Own w0 S L):=by
  intro w hw
  obtain⟨v',w',hr,hO⟩:=zCs (P:=P) (ty:=ty) ht (hv w hw) hc (hs w hw) hl hm h63 hb
  refine k7 (w':=w') ?_ hd (k v' _ (hw.qi hO))
  simp[execOp,resolve,invoke,builtin,hx,hy,hr]
def bnd(f:Nat→Value)(dflt:Nat):Option Operand→Nat→Prop
  |none,k=>k=dflt
  |some o,k=>∃ kk,ev f o= .int kk (k:Int)
theorem x4{w:World}{v:Value}{kk:IntKind}{k c:Nat}(code:BoundsCode)(hv:v= .int kk (k:Int))(hk:k≤c):(Instr.sliceBound v c code).run P w= .ok k w:=by
  subst hv
  simp[Instr.sliceBound,asIntOf,hk]
theorem zQY{a:Option Addr}{len cap l h:Nat}{lo hi:Option Operand}(ht:zBh P t=some sz)(hx:ev f x= .slice a len cap)(hl:bnd f 0 lo l)(hh:bnd f len hi h)(h1:l≤h)(h2:h≤cap):RV P f ⟨some d, .slice t x lo hi none,ty,p,af,none⟩ A ((kO a cap l h cap sz)):=
  fun w _=>by
    unfold zBh at ht
    split at ht
    · rename_i e he
      simp only[Option.map_eq_some_iff]at ht
      obtain⟨i0,hi0,rfl⟩:=ht
      have hsl:(Instr.sliceBounds true len cap (lo.map (ev f)) (hi.map (ev f)) none).run P w= .ok (l,h,cap) w:=by
        cases lo<;>cases hi<;>simp only[bnd]at hl hh
        · subst hl;subst hh;simp[Instr.sliceBounds]
        · subst hl;obtain⟨kk,hh⟩:=hh
          simp[Instr.sliceBounds,x4 (P:=P) (w:=w) _ hh h2]
        · subst hh;obtain⟨kk,hl⟩:=hl
          simp[Instr.sliceBounds,x4 (P:=P) (w:=w) _ hl h1]
        obtain⟨kk,hh⟩:=hh;obtain⟨kl,hl⟩:=hl
        simp[Instr.sliceBounds,x4 (P:=P) (w:=w) _ hl h1,x4 (P:=P) (w:=w) _ hh h2]
      simp[execOp,Instr.sliceAt,hx,yB he,Instr.slice,hsl,sizeOf,typeInfo,hi0,kO]
    cases ht
theorem zPp{a:Option Addr}{len cap l h m:Nat}{lo:Option Operand}{hi mx:Operand}(ht:zBh P t=some sz)(hx:ev f x= .slice a len cap)(hl:bnd f 0 lo l)(hh:bnd f len (some hi) h)(hm:bnd f cap (some mx) m)(h1:l≤h)(h2:h≤m)(h3:m≤cap)(hd:Nat.blt d n=true)
    (k:CL P n ops rest N (upd f d (kO a cap l h m sz)) A):CL P n ops (⟨some d, .slice t x lo (some hi) (some mx),ty,p,af,none⟩::rest) N f A:=
  yX hd (fun w _=>by
    unfold zBh at ht
    split at ht
    · rename_i e he
      simp only[Option.map_eq_some_iff]at ht
      obtain⟨i0,hi0,rfl⟩:=ht
      have hsl:(Instr.sliceBounds true len cap (lo.map (ev f)) (some (ev f hi)) (some (ev f mx))).run P w= .ok (l,h,m) w:=by
        obtain⟨kk,hh⟩:=hh;obtain⟨km,hm⟩:=hm
        cases lo<;>simp only[bnd]at hl
        · subst hl
          simp[Instr.sliceBounds,x4 (P:=P) (w:=w) _ hm h3,x4 (P:=P) (w:=w) _ hh h2]
        obtain⟨kl,hl⟩:=hl
        simp[Instr.sliceBounds,x4 (P:=P) (w:=w) _ hl h1,x4 (P:=P) (w:=w) _ hm h3,x4 (P:=P) (w:=w) _ hh h2]
      simp[execOp,Instr.sliceAt,hx,yB he,Instr.slice,hsl,sizeOf,typeInfo,hi0,kO]
    cases ht) k
def zDY(P:Program)(t:TypeId):Bool:=match P.underlying t with|some (.slice e)=>(match P.underlying e with|some (.int .u8)=>true|_=>false)|_=>false
theorem zEK(h:zDY P t=true):∃ e,P.underlying t=some (.slice e)∧P.underlying e=some (.int .u8):=by
  unfold zDY at h
  split at h
  · rename_i e he
    split at h
    · rename_i h8;exact⟨e,he,h8⟩
    cases h
  cases h
theorem zCk(h:zFY P t=true):P.underlying t=some .string:=by
  unfold zFY at h
  split at h
  · assumption
  cases h
theorem zOa{t':TypeId}{v:Value}{bs:List UInt8}(ht:zDY P t=true)(ht':zFY P t'=true)(hx:ev f x=v)(hs:∀ w,A w→Sl w v bs.length (bs.map vb))(hd:Nat.blt d n=true)
    (k:CL P n ops rest N (upd f d (.string ⟨bs.toArray⟩)) A):CL P n ops (⟨some d, .convert t t' x,ty,p,af,none⟩::rest) N f A:=
  yX hd (fun w hw=>by
    obtain⟨e,he,h8⟩:=zEK ht
    have h':=zCk ht'
    rcases hs w hw with⟨a0,rfl,h0,h1⟩|⟨b,off,cap,rfl,h1,h2,h3,h4⟩
    · have:bs=[]:=by simpa using h1
      subst this
      have h0:(convert t t' (.slice a0 0 0)).run P w= .ok (.string ⟨#[]⟩) w:=by
        cases a0 with
        |none=>exact run_convert_bytes_nil (P:=P) w t e he h8 0 0 t' h'
        |some a=>exact run_convert_bytes_back (P:=P) w t t' e a 0 [] he h8 h' qQ
      simp only[execOp,hx]
      simp[h0]
    have:=run_convert_bytes_arg (P:=P) w t e he h8 b off bs.length cap (bs.map fun c=>(c.toNat:Int)) qQ (fun i hi=>by
      have:=h4 i (vb bs[i]) (by simp[hi])
      rw[this]
      simp[vb,List.getD,hi]) t' h'
    have e2:strOfNums (bs.map fun c=>(c.toNat:Int))=⟨bs.toArray⟩:=by
      unfold strOfNums
      congr 1
      simp[List.map_map,Function.comp_def]
    simp only[execOp,hx]
    simp[this,e2]) k
theorem zBq(s u:ByteArray):(s.toList==u.toList)=decide (s=u):=by
  rw[ByteArray.toList_eq,ByteArray.toList_eq]
  by_cases h:s=u
  · subst h;simp
  have:s.data.toList≠u.data.toList:=fun e=>h (by
    cases s;cases u;simp at e;simp[e])
  rw[decide_eq_false h]
  simpa using this
theorem zQk{s u:ByteArray}{t':TypeId}(hx:ev f x= .string s)(hy:ev f y= .string u)(hd:Nat.blt d n=true)(k:CL P n ops rest N (upd f d (.bool (decide (s=u)))) A):
    CL P n ops (⟨some d, .binOp .eql t x y t',ty,p,af,none⟩::rest) N f A:=
  yX hd (fun w _=>by simp only[execOp,hx,hy,eqGuard];simp[binOp,Op.stringOp,zBq]) k
theorem zQ3{s:ByteArray}{kk:IntKind}{j:Nat}{i:Int}(ht:zFY P t=true)(hx:ev f x= .string s)(hy:ev f y= .int kk i)(hi:i=j)(hj:j<s.size)(hd:Nat.blt d n=true)
    (k:CL P n ops rest N (upd f d (vb s[j])) A):CL P n ops (⟨some d, .index t x y,ty,p,af,none⟩::rest) N f A:=
  yX hd (fun w _=>by
    have h':=zCk ht
    subst hi
    have:s[j]?=some s[j]:=by simp[hj]
    simp[execOp,hx,hy,Instr.index,asIntOf,yB h',this,vb]) k
end
section
variable {P:Program} {n:Nat} {ops:Array Oper} {N R:K} {X:List (Nat×K)} {f:Nat→Value} {S:World→Prop} {w:World}
variable {d:Nat} {ty:TypeId} {p:String} {af:Array Edge} {fuel:Nat} {listed:Array Bool}
def HL(P:Program)(n:Nat)(ops:Array Oper)(S:World→Prop)(N:K)(fuel:Nat)(listed:Array Bool)(f:Nat→Value)(w:World):Prop:=
  ∀ a,Rep n f a→wpAnyH P .any ops (kG n N) S fuel listed a w
theorem zEG{id:Nat}{l:List Oper}(S:World→Prop)(hm:P.follows .mixedOrders=true)(hS:S (drawn w))
    (h:HL P n l.toArray S N l.length (Array.replicate l.length false) f (drawn w)):W P n (.region id l.toArray true) N R X f w:=by
  intro a ha
  refine wp_mono (wp_region_any (Q:=kG n N) hm (wpAny_of_held (S:=S) _ _ _ _ ?_)) ?_
  · have h1:=h a ha
    show wpAnyH P .any l.toArray (kG n N) S l.toArray.size (Array.replicate l.toArray.size false) a (drawn w)
    rw[List.size_toArray]
    exact h1
  intro e a w hq
  cases e<;>first|exact hq.elim|exact hq
theorem zPe(i:Nat){op:Op}{v:Value}(hi:ops[i]?=some ⟨some d,op,ty,p,af,none⟩)(hs:Region.noSelect ops=true)(hf:Region.free .any ops listed i=true)(hr:(Region.ready .any ops listed).contains i=true)
    (hv:RV P f ⟨some d,op,ty,p,af,none⟩ S v) (hd:Nat.blt d n=true) (hS:S w) (k:HL P n ops S N fuel (listed.setIfInBounds i true) (upd f d v) w):HL P n ops S N (fuel+1) listed f w:=by
  intro a ha
  refine wpAnyH_take (v:=v) hi hs hf hr (fun c a w h=>h.elim) (.inl ⟨by simp[Region.wanted],fun w' hw'=> ?_⟩) hS (k _ (ha.put (by simpa [Nat.blt_eq]using hd) v))
  rw[ha.eval]
  exact hv w' hw'
theorem zNF(i:Nat){op:Op}{v:Value}{j e:Nat}{b:Bool}(hi:ops[i]?=some ⟨some d,op,ty,p,af,some (j,b)⟩)(hj:yn ops j=some e)(hb:f e= .bool b)(hs:Region.noSelect ops=true)(hf:Region.free .any ops listed i=true)(hr:(Region.ready .any ops listed).contains i=true)
    (hv:RV P f ⟨some d,op,ty,p,af,none⟩ S v) (hd:Nat.blt d n=true) (hS:S w) (k:HL P n ops S N fuel (listed.setIfInBounds i true) (upd f d v) w):HL P n ops S N (fuel+1) listed f w:=by
  intro a ha
  refine wpAnyH_take (v:=v) hi hs hf hr (fun c a w h=>h.elim) (.inl ⟨by simp[Region.wanted,kD ha hj hb],fun w' hw'=> ?_⟩) hS (k _ (ha.put (by simpa [Nat.blt_eq]using hd) v))
  rw[ha.eval]
  exact hv w' hw'
theorem zP8(i:Nat){op:Op}{j e:Nat}{b b':Bool}(hi:ops[i]?=some ⟨some d,op,ty,p,af,some (j,b)⟩)(hj:yn ops j=some e)(hb:f e= .bool b')(hne:(b'==b)=false)(hs:Region.noSelect ops=true)(hf:Region.free .any ops listed i=true)(hr:(Region.ready .any ops listed).contains i=true)
    (hd:Nat.blt d n=true) (hS:S w) (k:HL P n ops S N fuel (listed.setIfInBounds i true) (upd f d undef) w):HL P n ops S N (fuel+1) listed f w:=by
  intro a ha
  refine wpAnyH_take (v:=undef) hi hs hf hr (fun c a w h=>h.elim) (.inr ⟨by simp[Region.wanted,kD ha hj hb];simpa using hne,O⟩) hS (k _ (ha.put (by simpa [Nat.blt_eq]using hd) undef))
theorem zPc(hr:Region.ready .any ops listed=[])(h:N f w):HL P n ops S N fuel listed f w:=by
  intro a ha
  cases fuel with
  |zero=>exact⟨hr,f,ha,h⟩
  |succ fuel=>exact⟨fun _=>⟨f,ha,h⟩,fun i hi=>by rw[hr]at hi;cases hi⟩
theorem zLd{A:World→Prop}{id:Nat}{l:List Oper}(S:World→Prop)(hm:P.follows .mixedOrders=true)(hS:∀ w,A w→S (drawn w))
    (h:∀ w,A w→HL P n l.toArray S N l.length (Array.replicate l.length false) f (drawn w)):C P n (.region id l.toArray true) N R X f A:=fun w hw=>zEG S hm (hS w hw) (h w hw)
end
def zCp(P:Program)(fn:Func)(n:Nat)(R:Value→World→Prop):K:=fun f w=>∃ v,(∀ a,Rep n f a→(results fn a.tmps).run P w= .ok v w)∧R v w
section
variable {P:Program} {n:Nat} {fn:Func} {g:FuncId} {c:Code} {args:List Value} {w0 w:World} {R:Value→World→Prop} {S:List Nat} {L:List Res} {A:World→Prop} {f:Nat→Value}
theorem kC(hf:P.funcs[g]?=some fn)(hb:fn.body=some c)(hn:fn.ntmps=n)(hl:Nat.ble args.length n=true)(hA:A w)(h:C P n c (zCp P fn n R) (zCp P fn n R) [] (ini args) A):Rets P g args.toArray w R:=by
  subst hn
  exact zJ2 hf hb (Nat.le_of_ble_eq_true hl) (h w hA)
theorem yQ(hr:fn.results= #[])(h:∀ w,A w→R (.tuple #[]) w):∀ w,A w→zCp P fn n R f w:=
  fun w hw=>⟨_,fun a ha=>results_none hr a.tmps P w,h w hw⟩
theorem z9{t:Tmp}{v:Value}(hr:fn.results= #[.tmp t])(hv:f t=v)(h:∀ w,A w→R v w):∀ w,A w→zCp P fn n R f w:=
  fun w hw=>⟨v,fun a ha=>by rw[results_tmp hr,ha.get,hv],h w hw⟩
theorem xz{t u:Tmp}{v v':Value}(hr:fn.results= #[.tmp t, .tmp u])(hv:f t=v)(hv':f u=v')(h:∀ w,A w→R (.tuple #[v,v']) w):∀ w,A w→zCp P fn n R f w:=
  fun w hw=>⟨_,fun a ha=>by rw[results_tmp2 hr,ha.get,ha.get,hv,hv'],h w hw⟩
theorem zFV{t u s:Tmp}{v v' v'':Value}(hr:fn.results= #[.tmp t, .tmp u, .tmp s])(hv:f t=v)(hv':f u=v')(hv'':f s=v'')(h:∀ w,A w→R (.tuple #[v,v',v'']) w):∀ w,A w→zCp P fn n R f w:=
  fun w hw=>⟨_,fun a ha=>by simp[results,hr,ha.get,hv,hv',hv''],h w hw⟩
theorem jp{t:Tmp}{T:TypeId}{b:Nat}{cs:List Value}(hr:fn.results= #[.cell t T])(hv:f t= .pointer (some ⟨b,0,none⟩))(ht:jm P T=some cs.length)(hc:∀ w,A w→∀ i u,cs[i]?=some u→w.cell? ⟨b,0+i,none⟩=some u)
    (h:∀ w,A w→R (.agg cs.toArray) w):∀ w,A w→zCp P fn n R f w:=
  fun w hw=>⟨_,fun a ha=>by
    have:=xU (P:=P) ht (hc w hw)
    simp[results,hr,ha.get,hv,asAddr,this],h w hw⟩
theorem xj{t u:Tmp}{T:TypeId}{b:Nat}{cs:List Value}{v:Value}(hr:fn.results= #[.cell t T, .tmp u])(hv:f t= .pointer (some ⟨b,0,none⟩))(hv':f u=v)(ht:jm P T=some cs.length)(hc:∀ w,A w→∀ i u,cs[i]?=some u→w.cell? ⟨b,0+i,none⟩=some u)
    (h:∀ w,A w→R (.tuple #[.agg cs.toArray,v]) w):∀ w,A w→zCp P fn n R f w:=
  fun w hw=>⟨_,fun a ha=>by
    have:=xU (P:=P) ht (hc w hw)
    simp[results,hr,ha.get,hv,hv',asAddr,this],h w hw⟩
theorem Own.qr{i b:Nat}{e:TypeId}{cs:List Value}(hL:L[i]?=some (Res.row b e cs)):∀ w,Own w0 S L w→∀ j u,cs[j]?=some u→w.cell? ⟨b,0+j,none⟩=some u:=
  fun w hw j u hu=>by rw[Nat.zero_add];exact hw.rowCell hL hu
end
def Agr(f:Nat→Value):List (Nat×Value)→Prop
  | []=>True
  |(i,v)::r=>f i=v∧Agr f r
def zAL(g:Nat→Value):List (Nat×Value)→Nat→Value
  | []=>g
  |(i,v)::r=>upd (zAL g r) i v
theorem zBg{g:Nat→Value}:∀ {l:List (Nat×Value)},Agr g l→zAL g l=g
  | [],_=>rfl
  |(i,v)::r,h=>by
    simp only[zAL]
    rw[zBg h.2]
    funext j
    by_cases hj:j=i
    · subst hj;rw[zBc];exact h.1.symm
    rw[j3 _ _ hj]
section
variable {P:Program} {n:Nat} {N R:K} {X:List (Nat×K)} {f:Nat→Value} {w0:World} {S:List Nat} {A:World→Prop}
def zRF(σ:Type)(sl:σ→List (Nat×Value))(B:σ→World→Prop):K:=fun f w=>∃ s:σ,Agr f (sl s)∧B s w
theorem zKC{c:Code}{Q:Exit→Act→World→Prop}{a:Act}{w:World}{σ:Type}(J:σ→Act→World→Prop)(μ:σ→Nat)(s0:σ)(h0:J s0 a w)
    (round:∀ s a w,J s a w→c.wp P (Exit.then (fun a' w'=>∃ s',J s' a' w'∧μ s'<μ s) Q) a w):(Code.loop c).wp P Q a w:=by
  intro b k cs
  have key:∀ m s a w,μ s=m→J s a w→∃ e a' w',Q e a' w'∧Arrives P (lone (b.at a (.code c:: .inLoop c::k)) cs w) b k cs e a' w':=by
    intro m
    induction m using Nat.strongRecOn with
    |_ m ih=>
      intro s a w hm hJ
      obtain⟨e,a₁,w₁,hq,harr⟩:=round s a w hJ b (.inLoop c::k) cs
      cases e with
      |normal=>
        obtain⟨s',hJ',hlt⟩:=hq
        obtain⟨e₂,a₂,w₂,hq₂,harr₂⟩:=ih (μ s') (hm▸hlt) s' a₁ w₁ rfl hJ'
        exact⟨e₂,a₂,w₂,hq₂, .of_steps (Steps.trans harr (.one step_inLoop)) harr₂⟩
      |exit id=>exact⟨_,a₁,w₁,hq, .pass (x:= .inLoop c) rfl (fun _ _=> .inl qQ) harr⟩
      |goto l=>exact⟨_,a₁,w₁,hq, .pass (x:= .inLoop c) rfl (fun _ _=> .inl qQ) harr⟩
      |ret=>exact⟨_,a₁,w₁,hq, .pass (x:= .inLoop c) rfl (fun _ _=> .inl qQ) harr⟩
      |panic ch=>exact⟨_,a₁,w₁,hq, .pass (x:= .inLoop c) rfl (fun _ _=> .inl qQ) harr⟩
      |outgrown=>exact⟨_,a₁,w₁,hq, .pass (x:= .inLoop c) rfl (fun _ _=> .inl qQ) harr⟩
  obtain⟨e,a',w',hq,harr⟩:=key _ s0 a w rfl h0
  exact⟨e,a',w',hq, .of_steps (.one step_loop) harr⟩
theorem zOk{c:Code}(σ:Type)(sl:σ→List (Nat×Value))(B:σ→World→Prop)(μ:σ→Nat)(h0:∀ w,A w→zRF σ sl B f w)
    (round:∀ (s:σ) (g:Nat→Value),C P n c (fun f' w'=>∃ s':σ,Agr f' (sl s')∧B s' w'∧μ s'<μ s) R X (zAL g (sl s)) (B s)):C P n (.loop c) N R X f A:=by
  intro w hw a ha
  obtain⟨s0,ha0,hb0⟩:=h0 w hw
  refine zKC (fun s a w=>∃ f,Rep n f a∧Agr f (sl s)∧B s w) μ s0 ⟨f,ha,ha0,hb0⟩ ?_
  rintro s a w ⟨f,ha,hag,hb⟩
  have h1:=round s f w hb
  rw[zBg hag]at h1
  refine wp_mono (h1 a ha) ?_
  intro e a' w' hq
  cases e with
  |normal=>
    obtain⟨g,hr,s',h1,h2,h3⟩:=hq
    exact⟨s',⟨g,hr,h1,h2⟩,h3⟩
  |exit id=>exact hq
  |ret=>exact hq
  |goto l=>exact hq
  |panic c=>exact hq
  |outgrown=>exact hq
end
theorem zr{a:Int}(h: -9223372036854775808≤a∧a≤9223372036854775807):IntKind.i64.wrap a=a:=by
  unfold IntKind.wrap
  simp[IntKind.bits,IntKind.signed]
  split<;>omega
theorem xA{a:Int}(h:0≤a∧a≤18446744073709551615):IntKind.u64.wrap a=a:=by
  unfold IntKind.wrap
  simp[IntKind.bits,IntKind.signed]
  omega
theorem wu8{a:Int}:IntKind.u8.wrap a=a%256:=by
  simp[IntKind.wrap,IntKind.bits,IntKind.signed]
theorem zPK{a:Int}(h:0≤a∧a≤255):IntKind.u8.wrap a=a:=by rw[wu8];omega
def inT(T:List Nat)(i:Nat):Bool:=T.any (Nat.beq i)
def msk(f g:Nat→Value)(T:List Nat):Nat→Value:=fun i=>bif inT T i then g i else f i
def Out(T:List Nat)(f g:Nat→Value):Prop:=∀ i,inT T i=false→g i=f i
theorem Out.refl(T:List Nat)(f:Nat→Value):Out T f f:=fun _ _=>rfl
theorem Out.upd{T:List Nat}{f g:Nat→Value}{d:Nat}{v:Value}(hd:inT T d=true)(h:Out T f g):Out T f (upd g d v):=fun i hi=>by
  rw[j3]
  · exact h i hi
  intro e;subst e;rw[hd]at hi;cases hi
theorem Out.msk{T T':List Nat}{f g g':Nat→Value}(hT:T'.all (inT T)=true)(h:Out T f g):Out T f (msk g g' T'):=fun i hi=>by
  unfold Go.Sc.msk
  cases h2:inT T' i with
  |false=>exact h i hi
  |true=>
    exfalso
    unfold inT at h2
    rw[List.any_eq_true]at h2
    obtain⟨x,hx,hb⟩:=h2
    have:=Nat.eq_of_beq_eq_true hb
    subst this
    rw[List.all_eq_true]at hT
    rw[hT _ hx]at hi
    cases hi
theorem zEy{T:List Nat}{f g:Nat→Value}(h:Out T f g):msk f g T=g:=by
  funext i
  unfold msk
  cases hi:inT T i with
  |true=>rfl
  |false=>exact(h i hi).symm
def jP(ops:Array Oper)(j e:Nat)(b:Bool):List Nat→List Oper→Option (List Nat)
  |U,[]=>some U
  |U,o::r=>
    match o.guard,o.dst with
    |some (i,w),some d=>if((Nat.beq i j&&(w==b))||(match yn ops i with|some s=>inT U s|none=>false))&& !(Nat.beq d e)then jP ops j e b (d::U) r else none
    |_,_=>none
theorem zBm{α:Type}{c:Bool}{x:Option α}{y:α}(h:(if c then x else none)=some y):c=true∧x=some y:=by cases c<;>simp_all
section
variable {P:Program} {n:Nat} {ops:Array Oper} {N:K} {A:World→Prop}
theorem jj{f:Nat→Value}{a:Act}(ha:Rep n f a){i s:Nat}(hi:yn ops i=some s)(hs:f s=undef):yielded ops a.tmps i=none:=by
  have h:=ha.get s
  unfold yn at hi
  simp only[yielded,hi,Option.bind_some]
  rw[Array.getD_eq_getD_getElem?,hs]at h
  cases hx:a.tmps[s]? with
  |none=>rfl
  |some x=>rw[hx]at h;simp at h;subst h;rfl
theorem zDM{j e:Nat}{b b':Bool}(hj:yn ops j=some e)(hne:(b'==b)=false){w:World}{rest:List Oper}:∀ (l1:List Oper) (U T:List Nat) (f:Nat→Value),
    jP ops j e b U l1=some T→f e= .bool b'→(∀ s,inT U s=true→f s=undef)→(l1.all fun o=>match o.dst with|some d=>Nat.blt d n|none=>false)=true→
    (∀ g,Out T f g→WL P n ops rest N g w)→WL P n ops (l1++rest) N f w
  | [],U,T,f,hs,hf,hU,hn,k=>k f (Out.refl _ _)
  |o::l1,U,T,f,hs,hf,hU,hn,k=>by
    intro a ha
    unfold jP at hs
    cases hg:o.guard with
    |none=>rw[hg]at hs;cases hs
    |some q=>
      obtain⟨i,w0⟩:=q
      cases hd:o.dst with
      |none=>rw[hg,hd]at hs;cases hs
      |some d=>
        rw[hg,hd]at hs
        dsimp only at hs
        obtain⟨hc,hs⟩:=zBm hs
        simp only[Bool.and_eq_true,Bool.or_eq_true,Bool.not_eq_true']at hc
        obtain⟨hc,hde⟩:=hc
        have hne':e≠d:=by intro h;subst h;simp at hde
        have hdn:d<n:=by
          simp only[List.all_cons,Bool.and_eq_true,hd]at hn
          simpa [Nat.blt_eq]using hn.1
        have hw:Region.wanted o (yielded ops a.tmps)=false:=by
          unfold Region.wanted
          rw[hg]
          rcases hc with⟨h1,h2⟩|h1
          · have:i=j:=Nat.eq_of_beq_eq_true h1
            subst this
            have:w0=b:=by simpa using h2
            subst this
            simp only[kD ha hj hf]
            simpa using hne
          cases hsl:yn ops i with
          |none=>rw[hsl]at h1;cases h1
          |some s=>
            rw[hsl]at h1
            simp only[jj ha hsl (hU s h1)]
            rfl
        show wpList P ops (kG n N) (o::(l1++rest)) a w
        unfold wpList
        rw[if_neg (by rw[hw];simp),hd]
        refine zDM hj hne l1 (d::U) T (upd f d undef) hs (by rw[j3 _ _ hne'];exact hf) ?_ (by simp only[List.all_cons,Bool.and_eq_true]at hn;exact hn.2) ?_ _ (ha.put hdn undef)
        · intro s hs'
          by_cases h:s=d
          · subst h;rw[zBc]
          rw[j3 _ _ h]
          refine hU s ?_
          unfold inT at hs' ⊢
          simp only[List.any_cons,Bool.or_eq_true]at hs'
          rcases hs' with h1|h1
          · exact absurd (Nat.eq_of_beq_eq_true h1) h
          exact h1
        intro g hg'
        refine k g (fun i hi=> ?_)
        rw[hg' i hi]
        refine j3 _ _ ?_
        intro h;subst h
        -- d stands in T
        have mem:∀ (l:List Oper) (U T:List Nat),jP ops j e b U l=some T→∀ x,inT U x=true→inT T x=true:=by
          intro l
          induction l with
          |nil=>intro U T h x hx;simp[jP]at h;subst h;exact hx
          |cons o l ih=>
            intro U T h x hx
            unfold jP at h
            split at h
            · exact ih _ _ (zBm h).2 x (by unfold inT at hx ⊢;simp[hx])
            cases h
        have:=mem l1 _ _ hs i (by unfold inT;simp)
        rw[this]at hi;cases hi
variable {f:Nat→Value} {d e t:Nat} {ty:TypeId} {p:String} {af:Array Edge} {l rest:List Oper}
def zEf(T:List Nat)(f:Nat→Value)(t:Nat)(v:Value)(A:World→Prop):K:=fun g w=>Out T f g∧g t=v∧A w
theorem zEh{w:World}{l2:List Oper}{M:K}:∀ (l1:List Oper) {f:Nat→Value},WL P n ops l1 M f w→(∀ f w,M f w→WL P n ops l2 N f w)→WL P n ops (l1++l2) N f w:=by
  intro l1 f h hk a ha
  have:=h a ha
  clear h ha
  revert this a w
  suffices ∀ (l:List Oper) (a:Act) (w:World),wpList P ops (kG n M) l a w→wpList P ops (kG n N) (l++l2) a w from fun a w h=>this l1 w a h
  intro l
  induction l with
  |nil=>
    intro a w h
    obtain⟨f,hr,hm⟩:=h
    exact hk f w hm a hr
  |cons o l ih=>
    intro a w h
    show wpList P ops (kG n N) (o::(l++l2)) a w
    unfold wpList at h ⊢
    split
    · rename_i hw
      rw[if_pos hw]at h
      rcases h with h|⟨h1,a1,w1,h2⟩
      · left
        unfold Oper.wp at *
        generalize (execOp a.eval o).run P w=r at *
        cases r with
        |ok nx w'=>
          cases nx<;>simp only[Oper.upon]at h ⊢ <;>
            first
              |exact ih _ _ h
              |exact Calls.mono h (fun e w'' he=>by
                  cases e with
                  |returned v=>exact ih _ _ he
                  |panicked c=>exact he
                  |outgrown=>obtain⟨a2,w2,h2⟩:=he;exact h2.elim)
              |exact Rows.mono h (fun _ _ he=>ih _ _ he)
        |halt x w'=>cases x<;>simp only[Oper.upon]at h ⊢ <;>exact h
      exact h2.elim
    rename_i hw
    rw[if_neg hw]at h
    exact ih _ _ h
def zCD(n:Nat)(l:List Oper):Bool:=l.all fun o=>match o.dst with|some d=>Nat.blt d n|none=>false
theorem yJ(m j:Nat)(T:List Nat){q:Prop}(r:Prop)[Decidable q][Decidable r]{gd:Option (Nat×Bool)}(hm:l.drop m=⟨some d, .pick (.tmp e) (.tmp t) (.const (.bool false)),ty,p,af,gd⟩::rest)
    (hj:yn ops j=some e) (hq:f e= .bool (decide q)) (hT:jP ops j e true [] (l.take m)=some T) (hn:zCD n (l.take m)=true) (he:inT T e=false)
    (hgd:match gd with|none=>True|some (i,b)=>∃ s,yn ops i=some s∧inT T s=false∧f s= .bool b) (hd:Nat.blt d n=true)
    (hy:q→CL P n ops (l.take m) (zEf T f t (.bool (decide r)) A) f A)
    (k:∀ g,CL P n ops rest N (upd (msk f g T) d (.bool (decide (q∧r)))) A):CL P n ops l N f A:=by
  intro w hw
  rw[←List.take_append_drop m l,hm]
  have fin:∀ (g:Nat→Value) (w:World) (v:Value),A w→Out T f g→(bif decide q then g t else .bool false)=v→v= .bool (decide (q∧r))→
      WL P n ops (⟨some d, .pick (.tmp e) (.tmp t) (.const (.bool false)),ty,p,af,gd⟩::rest) N g w:=by
    intro g w v hA ho hv hv'
    have hge:g e= .bool (decide q):=(ho e he).trans hq
    have core:WL P n ops (⟨some d, .pick (.tmp e) (.tmp t) (.const (.bool false)),ty,p,af,none⟩::rest) N g w:=by
      refine k7 (v:=v) (w':=w) ?_ hd ?_
      · subst hv
        by_cases hq':q<;>simp[execOp,ev,hge,hq',asBool]
      rw[hv']
      have:=k g w hA
      rw[zEy ho]at this
      exact this
    cases gd with
    |none=>exact core
    |some ib=>
      obtain⟨i,b⟩:=ib
      obtain⟨s,h1,h2,h3⟩:=hgd
      exact zKV h1 ((ho s h2).trans h3) core
  by_cases hc:q
  · refine zEh _ (hy hc w hw) ?_
    rintro g w' ⟨ho,ht,hA⟩
    refine fin g w' _ hA ho O ?_
    simp[hc,ht]
  refine zDM (b':=false) hj rfl _ [] T f hT (by rw[hq];simp[hc]) (by simp[inT]) hn ?_
  intro g ho
  refine fin g w _ hw ho O ?_
  simp[hc]
theorem yj(m j:Nat)(T:List Nat){q:Prop}(r:Prop)[Decidable q][Decidable r]{gd:Option (Nat×Bool)}(hm:l.drop m=⟨some d, .pick (.tmp e) (.const (.bool true)) (.tmp t),ty,p,af,gd⟩::rest)
    (hj:yn ops j=some e) (hq:f e= .bool (decide q)) (hT:jP ops j e false [] (l.take m)=some T) (hn:zCD n (l.take m)=true) (he:inT T e=false)
    (hgd:match gd with|none=>True|some (i,b)=>∃ s,yn ops i=some s∧inT T s=false∧f s= .bool b) (hd:Nat.blt d n=true)
    (hy:¬ q→CL P n ops (l.take m) (zEf T f t (.bool (decide r)) A) f A)
    (k:∀ g,CL P n ops rest N (upd (msk f g T) d (.bool (decide (q∨r)))) A):CL P n ops l N f A:=by
  intro w hw
  rw[←List.take_append_drop m l,hm]
  have fin:∀ (g:Nat→Value) (w:World) (v:Value),A w→Out T f g→(bif decide q then .bool true else g t)=v→v= .bool (decide (q∨r))→
      WL P n ops (⟨some d, .pick (.tmp e) (.const (.bool true)) (.tmp t),ty,p,af,gd⟩::rest) N g w:=by
    intro g w v hA ho hv hv'
    have hge:g e= .bool (decide q):=(ho e he).trans hq
    have core:WL P n ops (⟨some d, .pick (.tmp e) (.const (.bool true)) (.tmp t),ty,p,af,none⟩::rest) N g w:=by
      refine k7 (v:=v) (w':=w) ?_ hd ?_
      · subst hv
        by_cases hq':q<;>simp[execOp,ev,hge,hq',asBool]
      rw[hv']
      have:=k g w hA
      rw[zEy ho]at this
      exact this
    cases gd with
    |none=>exact core
    |some ib=>
      obtain⟨i,b⟩:=ib
      obtain⟨s,h1,h2,h3⟩:=hgd
      exact zKV h1 ((ho s h2).trans h3) core
  by_cases hc:q
  · refine zDM (b':=true) hj rfl _ [] T f hT (by rw[hq];simp[hc]) (by simp[inT]) hn ?_
    intro g ho
    refine fin g w _ hw ho O ?_
    simp[hc]
  refine zEh _ (hy hc w hw) ?_
  rintro g w' ⟨ho,ht,hA⟩
  refine fin g w' _ hA ho O ?_
  simp[hc,ht]
theorem zQ{y:Code}{M R R':K}{X X':List (Nat×K)}{f:Nat→Value}(h:C P n y M R X f A):C P n .skip (fun f w=>W P n y M R X f w) R' X' f A:=fun w hw=>zLC (h w hw)
theorem yF{id:Nat}{y:Code}{M M' R R':K}{X X':List (Nat×K)}{f:Nat→Value}(hk:look id X=some (fun f w=>W P n y M R X' f w))(h:C P n y M R X' f A):C P n (.exit id) M' R' X f A:=fun w hw=>zKx hk (h w hw)
def zOV(σ:Type)(sl:σ→List (Nat×Value))(Φ:σ→Prop)(w0:World)(S:List Nat)(L:σ→List Res):K:=fun f w=>∃ s:σ,Agr f (sl s)∧Φ s∧Own w0 S (L s) w
theorem zAB{x y:Code}{M R:K}{X:List (Nat×K)}{f:Nat→Value}{w0:World}{S:List Nat}{L0:List Res}(σ:Type)(sl:σ→List (Nat×Value))(Φ:σ→Prop)(L:σ→List Res)(hx:C P n x (zOV σ sl Φ w0 S L) R X f (Own w0 S L0))
    (hy:∀ (s:σ) (g:Nat→Value),Φ s→C P n y M R X (zAL g (sl s)) (Own w0 S (L s))):C P n (.seq x y) M R X f (Own w0 S L0):=
  zQD _ hx fun f w ⟨s,ha,hΦ,hO⟩=>by
    have:=hy s f hΦ w hO
    rw[zBg ha]at this
    exact this
theorem zAl{c:Code}{M R:K}{X:List (Nat×K)}{f:Nat→Value}{w0:World}{S:List Nat}{L0:List Res}(σ:Type)(sl:σ→List (Nat×Value))(Φ:σ→Prop)(L:σ→List Res)(μ:σ→Nat)(h0:∀ w,Own w0 S L0 w→zOV σ sl Φ w0 S L f w)
    (round:∀ (s:σ) (g:Nat→Value),Φ s→C P n c (fun f' w'=>∃ s':σ,Agr f' (sl s')∧Φ s'∧Own w0 S (L s') w'∧μ s'<μ s) R X (zAL g (sl s)) (Own w0 S (L s))):C P n (.loop c) M R X f (Own w0 S L0):=
  zOk σ sl (fun s w=>Φ s∧Own w0 S (L s) w) μ h0 fun s g w ⟨hΦ,hO⟩=>kR (round s g hΦ w hO) fun f' w' ⟨s',h1,h2,h3,h4⟩=>⟨s',h1,⟨h2,h3⟩,h4⟩
theorem zBD{x y:Code}{M R:K}{X:List (Nat×K)}{f:Nat→Value}{w0:World}{S:List Nat}{L0:List Res}(sl:List (Nat×Value))(Φ:Prop)(L:List Res)
    (hx:C P n x (fun f w=>Agr f (sl)∧Φ∧Own w0 S (L) w) R X f (Own w0 S L0))
    (hy:∀ (g:Nat→Value),Φ→C P n y M R X (zAL g (sl)) (Own w0 S (L))):C P n (.seq x y) M R X f (Own w0 S L0):=
  zAB (Unit) (fun s=>sl) (fun s=>Φ) (fun s=>L) (fun w hw=>kR (hx w hw) fun f w ⟨h1,h2,h3⟩=>⟨(),h1,h2,h3⟩) (fun s g h=>hy g h)
theorem yt{x y:Code}{M R:K}{X:List (Nat×K)}{f:Nat→Value}{w0:World}{S:List Nat}{L0:List Res}{α:Type}(sl:α→List (Nat×Value))(Φ:α→Prop)(L:α→List Res)
    (hx:C P n x (fun f w=>∃ (a:α),Agr f (sl a)∧Φ a∧Own w0 S (L a) w) R X f (Own w0 S L0))
    (hy:∀ (a:α) (g:Nat→Value),Φ a→C P n y M R X (zAL g (sl a)) (Own w0 S (L a))):C P n (.seq x y) M R X f (Own w0 S L0):=
  zAB (α) (fun s=>sl s) (fun s=>Φ s) (fun s=>L s) (fun w hw=>kR (hx w hw) fun f w ⟨a,h1,h2,h3⟩=>⟨a,h1,h2,h3⟩) (fun s g h=>hy s g h)
theorem xT{cc:Code}{M R:K}{X:List (Nat×K)}{f:Nat→Value}{w0:World}{S:List Nat}{L0:List Res}{α:Type}(sl:α→List (Nat×Value))(Φ:α→Prop)(L:α→List Res)(μ:α→Nat)
    (h0:∀ w,Own w0 S L0 w→∃ (a:α),Agr f (sl a)∧Φ a∧Own w0 S (L a) w)
    (round:∀ (a:α) (g:Nat→Value),Φ a→C P n cc (fun f' w'=>∃ (a':α),Agr f' (sl a')∧Φ a'∧Own w0 S (L a') w'∧μ a'<μ a) R X (zAL g (sl a)) (Own w0 S (L a))):C P n (.loop cc) M R X f (Own w0 S L0):=
  zAl (α) (fun s=>sl s) (fun s=>Φ s) (fun s=>L s) (fun s=>μ s) (fun w hw=>let ⟨a,h1,h2,h3⟩:=h0 w hw;⟨a,h1,h2,h3⟩)
    (fun s g h w hw=>kR (round s g h w hw) fun f' w' ⟨a',h1,h2,h3,h4⟩=>⟨a',h1,h2,h3,h4⟩)
theorem j9{x y:Code}{M R:K}{X:List (Nat×K)}{f:Nat→Value}{w0:World}{S:List Nat}{L0:List Res}{α β:Type}(sl:α→β→List (Nat×Value))(Φ:α→β→Prop)(L:α→β→List Res)
    (hx:C P n x (fun f w=>∃ (a:α) (b:β),Agr f (sl a b)∧Φ a b∧Own w0 S (L a b) w) R X f (Own w0 S L0))
    (hy:∀ (a:α) (b:β) (g:Nat→Value),Φ a b→C P n y M R X (zAL g (sl a b)) (Own w0 S (L a b))):C P n (.seq x y) M R X f (Own w0 S L0):=
  zAB (α×β) (fun s=>sl s.1 s.2) (fun s=>Φ s.1 s.2) (fun s=>L s.1 s.2) (fun w hw=>kR (hx w hw) fun f w ⟨a,b,h1,h2,h3⟩=>⟨(a,b),h1,h2,h3⟩) (fun s g h=>hy s.1 s.2 g h)
theorem y7{cc:Code}{M R:K}{X:List (Nat×K)}{f:Nat→Value}{w0:World}{S:List Nat}{L0:List Res}{α β:Type}(sl:α→β→List (Nat×Value))(Φ:α→β→Prop)(L:α→β→List Res)(μ:α→β→Nat)
    (h0:∀ w,Own w0 S L0 w→∃ (a:α) (b:β),Agr f (sl a b)∧Φ a b∧Own w0 S (L a b) w)
    (round:∀ (a:α) (b:β) (g:Nat→Value),Φ a b→C P n cc (fun f' w'=>∃ (a':α) (b':β),Agr f' (sl a' b')∧Φ a' b'∧Own w0 S (L a' b') w'∧μ a' b'<μ a b) R X (zAL g (sl a b)) (Own w0 S (L a b))):C P n (.loop cc) M R X f (Own w0 S L0):=
  zAl (α×β) (fun s=>sl s.1 s.2) (fun s=>Φ s.1 s.2) (fun s=>L s.1 s.2) (fun s=>μ s.1 s.2) (fun w hw=>let ⟨a,b,h1,h2,h3⟩:=h0 w hw;⟨(a,b),h1,h2,h3⟩)
    (fun s g h w hw=>kR (round s.1 s.2 g h w hw) fun f' w' ⟨a',b',h1,h2,h3,h4⟩=>⟨(a',b'),h1,h2,h3,h4⟩)
theorem jl{x y:Code}{M R:K}{X:List (Nat×K)}{f:Nat→Value}{w0:World}{S:List Nat}{L0:List Res}{α β γ:Type}(sl:α→β→γ→List (Nat×Value))(Φ:α→β→γ→Prop)(L:α→β→γ→List Res)
    (hx:C P n x (fun f w=>∃ (a:α) (b:β) (c:γ),Agr f (sl a b c)∧Φ a b c∧Own w0 S (L a b c) w) R X f (Own w0 S L0))
    (hy:∀ (a:α) (b:β) (c:γ) (g:Nat→Value),Φ a b c→C P n y M R X (zAL g (sl a b c)) (Own w0 S (L a b c))):C P n (.seq x y) M R X f (Own w0 S L0):=
  zAB (α×β×γ) (fun s=>sl s.1 s.2.1 s.2.2) (fun s=>Φ s.1 s.2.1 s.2.2) (fun s=>L s.1 s.2.1 s.2.2) (fun w hw=>kR (hx w hw) fun f w ⟨a,b,c,h1,h2,h3⟩=>⟨(a,b,c),h1,h2,h3⟩) (fun s g h=>hy s.1 s.2.1 s.2.2 g h)
theorem x3{cc:Code}{M R:K}{X:List (Nat×K)}{f:Nat→Value}{w0:World}{S:List Nat}{L0:List Res}{α β γ:Type}(sl:α→β→γ→List (Nat×Value))(Φ:α→β→γ→Prop)(L:α→β→γ→List Res)(μ:α→β→γ→Nat)
    (h0:∀ w,Own w0 S L0 w→∃ (a:α) (b:β) (c:γ),Agr f (sl a b c)∧Φ a b c∧Own w0 S (L a b c) w)
    (round:∀ (a:α) (b:β) (c:γ) (g:Nat→Value),Φ a b c→C P n cc (fun f' w'=>∃ (a':α) (b':β) (c':γ),Agr f' (sl a' b' c')∧Φ a' b' c'∧Own w0 S (L a' b' c') w'∧μ a' b' c'<μ a b c) R X (zAL g (sl a b c)) (Own w0 S (L a b c))):C P n (.loop cc) M R X f (Own w0 S L0):=
  zAl (α×β×γ) (fun s=>sl s.1 s.2.1 s.2.2) (fun s=>Φ s.1 s.2.1 s.2.2) (fun s=>L s.1 s.2.1 s.2.2) (fun s=>μ s.1 s.2.1 s.2.2) (fun w hw=>let ⟨a,b,c,h1,h2,h3⟩:=h0 w hw;⟨(a,b,c),h1,h2,h3⟩)
    (fun s g h w hw=>kR (round s.1 s.2.1 s.2.2 g h w hw) fun f' w' ⟨a',b',c',h1,h2,h3,h4⟩=>⟨(a',b',c'),h1,h2,h3,h4⟩)
theorem zOh{x y:Code}{M R:K}{X:List (Nat×K)}{f:Nat→Value}{w0:World}{S:List Nat}{L0:List Res}{α β γ δ:Type}(sl:α→β→γ→δ→List (Nat×Value))(Φ:α→β→γ→δ→Prop)(L:α→β→γ→δ→List Res)
    (hx:C P n x (fun f w=>∃ (a:α) (b:β) (c:γ) (d:δ),Agr f (sl a b c d)∧Φ a b c d∧Own w0 S (L a b c d) w) R X f (Own w0 S L0))
    (hy:∀ (a:α) (b:β) (c:γ) (d:δ) (g:Nat→Value),Φ a b c d→C P n y M R X (zAL g (sl a b c d)) (Own w0 S (L a b c d))):C P n (.seq x y) M R X f (Own w0 S L0):=
  zAB (α×β×γ×δ) (fun s=>sl s.1 s.2.1 s.2.2.1 s.2.2.2) (fun s=>Φ s.1 s.2.1 s.2.2.1 s.2.2.2) (fun s=>L s.1 s.2.1 s.2.2.1 s.2.2.2) (fun w hw=>kR (hx w hw) fun f w ⟨a,b,c,d,h1,h2,h3⟩=>⟨(a,b,c,d),h1,h2,h3⟩) (fun s g h=>hy s.1 s.2.1 s.2.2.1 s.2.2.2 g h)
theorem zNL{cc:Code}{M R:K}{X:List (Nat×K)}{f:Nat→Value}{w0:World}{S:List Nat}{L0:List Res}{α β γ δ:Type}(sl:α→β→γ→δ→List (Nat×Value))(Φ:α→β→γ→δ→Prop)(L:α→β→γ→δ→List Res)(μ:α→β→γ→δ→Nat)
    (h0:∀ w,Own w0 S L0 w→∃ (a:α) (b:β) (c:γ) (d:δ),Agr f (sl a b c d)∧Φ a b c d∧Own w0 S (L a b c d) w)
    (round:∀ (a:α) (b:β) (c:γ) (d:δ) (g:Nat→Value),Φ a b c d→C P n cc (fun f' w'=>∃ (a':α) (b':β) (c':γ) (d':δ),Agr f' (sl a' b' c' d')∧Φ a' b' c' d'∧Own w0 S (L a' b' c' d') w'∧μ a' b' c' d'<μ a b c d) R X (zAL g (sl a b c d)) (Own w0 S (L a b c d))):C P n (.loop cc) M R X f (Own w0 S L0):=
  zAl (α×β×γ×δ) (fun s=>sl s.1 s.2.1 s.2.2.1 s.2.2.2) (fun s=>Φ s.1 s.2.1 s.2.2.1 s.2.2.2) (fun s=>L s.1 s.2.1 s.2.2.1 s.2.2.2) (fun s=>μ s.1 s.2.1 s.2.2.1 s.2.2.2) (fun w hw=>let ⟨a,b,c,d,h1,h2,h3⟩:=h0 w hw;⟨(a,b,c,d),h1,h2,h3⟩)
    (fun s g h w hw=>kR (round s.1 s.2.1 s.2.2.1 s.2.2.2 g h w hw) fun f' w' ⟨a',b',c',d',h1,h2,h3,h4⟩=>⟨(a',b',c',d'),h1,h2,h3,h4⟩)
theorem zM2{cc:Code}{M R:K}{X:List (Nat×K)}{f:Nat→Value}{w0:World}{S:List Nat}{L0:List Res}{α β γ δ ε:Type}(sl:α→β→γ→δ→ε→List (Nat×Value))(Φ:α→β→γ→δ→ε→Prop)(L:α→β→γ→δ→ε→List Res)(μ:α→β→γ→δ→ε→Nat)
    (h0:∀ w,Own w0 S L0 w→∃ (a:α) (b:β) (c:γ) (d:δ) (e:ε),Agr f (sl a b c d e)∧Φ a b c d e∧Own w0 S (L a b c d e) w)
    (round:∀ (a:α) (b:β) (c:γ) (d:δ) (e:ε) (g:Nat→Value),Φ a b c d e→C P n cc (fun f' w'=>∃ (a':α) (b':β) (c':γ) (d':δ) (e':ε),Agr f' (sl a' b' c' d' e')∧Φ a' b' c' d' e'∧Own w0 S (L a' b' c' d' e') w'∧μ a' b' c' d' e'<μ a b c d e) R X (zAL g (sl a b c d e)) (Own w0 S (L a b c d e))):C P n (.loop cc) M R X f (Own w0 S L0):=
  zAl (α×β×γ×δ×ε) (fun s=>sl s.1 s.2.1 s.2.2.1 s.2.2.2.1 s.2.2.2.2) (fun s=>Φ s.1 s.2.1 s.2.2.1 s.2.2.2.1 s.2.2.2.2) (fun s=>L s.1 s.2.1 s.2.2.1 s.2.2.2.1 s.2.2.2.2) (fun s=>μ s.1 s.2.1 s.2.2.1 s.2.2.2.1 s.2.2.2.2) (fun w hw=>let ⟨a,b,c,d,e,h1,h2,h3⟩:=h0 w hw;⟨(a,b,c,d,e),h1,h2,h3⟩)
    (fun s g h w hw=>kR (round s.1 s.2.1 s.2.2.1 s.2.2.2.1 s.2.2.2.2 g h w hw) fun f' w' ⟨a',b',c',d',e',h1,h2,h3,h4⟩=>⟨(a',b',c',d',e'),h1,h2,h3,h4⟩)
theorem gT{q:Prop}[Decidable q](h:q):Value.bool (decide q)= .bool true:=by rw[decide_eq_true h]
theorem gF{q:Prop}[Decidable q](h:¬ q):Value.bool (decide q)= .bool false:=by rw[decide_eq_false h]
end
end Go.Sc
