import Derived.Test.YthpoddkmhfhboaaGreatDoorFw5
import Derived.Laws.IdiomStrings
import Derived.OrdersHeld
set_option linter.unusedSectionVars false
set_option linter.unusedSimpArgs false
set_option linter.unusedVariables false
namespace Go.Sc
def vb(c:UInt8):Value:= .int .u8 c.toNat
theorem zBn(bs:List UInt8):∀ v∈bs.map vb,cell1 v=true:=by
 intro v hv
 obtain⟨c,_,rfl⟩:=List.mem_map.1 hv
 rfl
def vi(k:IntKind)(x:Int):Value:= .int k x
def kS(a:Option Addr)(cap l h m sz:Nat):Value:= .slice (if m=l then a else a.map (·.add (l*sz))) (h - l) (m - l)
theorem zGb(a:Option Addr)(len cap l h m sz:Nat):xK (kS a cap l h m sz)=xK (.slice a len cap):=by
 cases a with
 |none=>unfold kS;split<;>rfl
 |some a=>
   unfold kS
   split
   · rfl
   simp[xK,Addr.add]
   split<;>rfl
theorem zJO(a:Option Addr)(len cap l h m sz:Nat)(e:m≤cap):∀ b∈zBy (kS a cap l h m sz),b∈zBy (.slice a len cap):=by
 intro b hb
 have h1:=zAA b hb
 rw[zGb a len]at h1
 cases a with
 |none=>simp[xK]at h1
 |some a=>
   by_cases hc:0<cap
   · rw[zFY hc];exact h1
   have c:cap=0:=by omega
   have d:m=0:=by omega
   subst c;subst d
   unfold kS at hb
   rw[Nat.zero_sub]at hb
   split at hb<;>simp[zBy]at hb
theorem Sl.sub{w:World}{a:Option Addr}{n cap:Nat}{cs:List Value}(g:Sl w (.slice a n cap) n cs){l h m sz:Nat}(h1:l≤h)(h2:h≤m)(p:m≤cap)(q:h≤n)(d:cs.length=n*sz):
   Sl w (kS a cap l h m sz) (h - l) ((cs.drop (l*sz)).take ((h - l)*sz)):=by
 rcases g with⟨r,e,rfl,rfl⟩|⟨b,off,f,e,j,k,hb,c⟩
 · simp at e
   obtain⟨rfl,rfl⟩:=e
   have e1:m=0:=by omega
   have e2:l=0:=by omega
   have o:h=0:=by omega
   subst e1;subst e2;subst o
   exact .inl ⟨_,by simp[kS];rfl,O,by simp⟩
 simp at e
 obtain⟨rfl,rfl⟩:=e
 unfold kS
 by_cases hml:m=l
 · rw[if_pos hml]
   have:h=l:=by omega
   subst this
   subst hml
   exact .inl ⟨some ⟨b,off,none⟩,by simp,by omega,by simp⟩
 rw[if_neg hml]
 refine .inr ⟨b,off+l*sz,m - l,by simp[jx],by omega,by rw[xB]at *;omega,hb,?_⟩
 intro i u hu
 rw[List.getElem?_take]at hu
 split at hu
 · rw[List.getElem?_drop]at hu
   rw[Nat.add_assoc]
   exact c _ u hu
 cases hu
section
variable {P:Program} {n:Nat} {ops:Array Oper} {N R:K} {X:List (Nat×K)} {f:Nat→Value} {A:World→Prop} {rest:List Oper}
variable {d:Nat} {ty:TypeId} {p:String} {af:Array Edge} {x y:Operand} {t e:TypeId} {sz by':Nat}
variable {w0:World} {S:List Nat} {L:List Res}
theorem zq{w:World}(h:Own w0 S L w)(e:TypeId)(sz:Nat):Own w0 S (L++[Res.vec e sz zW 0 []]) w:=
 h.qb (Own.mk1 (Keep.refl _ _) (zOF w e sz) (fun b hb=>by simp[Res.vec,xK]at hb))
theorem y1(e:TypeId)(sz:Nat)(k:CL P n ops rest N f (Own w0 S (L++[Res.vec e sz zW 0 []]))):CL P n ops rest N f (Own w0 S L):=fun w a=>k w (zq a e sz)
theorem zGm(i:Nat){v u:Value}{c m:Nat}{cs news:List Value}(l:slT P t=some (e,sz,by'))(o:ev f x=v)(h:L[i]?=some (Res.vec e sz v c cs))(q:ev f y=u)(r:∀ w,Own w0 S L w→Sl w u m news)
   (hl:news.length=m*sz) (h1:∀ v∈news,cell1 v=true) (hb:(c+m)*by'≤140737488355328) (g:c+m≤maxLen) (s:Nat.blt d n=true)
   (k:∀ b,CL P n ops rest N (upd f d b) (Own w0 S (L.set i (Res.vec e sz b (c+m) (cs++news))))):
   CL P n ops (⟨some d, .call ⟨.builtin .append,#[x,y],#[t,t]⟩,ty,p,af,none⟩::rest) N f (Own w0 S L):=by
 intro w hw
 obtain⟨b,j,z,hO⟩:=zD9 (P:=P) (ty:=ty) l (hw.holds i _ h) (r w hw) hl h1 g hb
 have a:=hw.frame1 (E:=[]) h hO
 rw[List.append_nil]at a
 refine xc (w':=j) ?_ s (k b _ a)
 simp[execOp,resolve,invoke,builtin,o,q,z]
theorem zQL{b off c m:Nat}{u:Value}{cs news:List Value}(i:slT P t=some (e,sz,by'))(j:ev f x= .slice (some ⟨b,off,none⟩) c c)(hv:∀ w,Own w0 S L w→Sl w (.slice (some ⟨b,off,none⟩) c c) c cs)(l:cs.length=c*sz)
   (o:ev f y=u) (q:∀ w,Own w0 S L w→Sl w u m news) (hl:news.length=m*sz) (r:0<m) (hb:(c+m)*by'≤140737488355328) (g:c+m≤maxLen) (s:Nat.blt d n=true)
   (k:∀ a,CL P n ops rest N (upd f d a) (Own w0 S (L++[Res.vec e sz a (c+m) (cs++news)]))):
   CL P n ops (⟨some d, .call ⟨.builtin .append,#[x,y],#[t,t]⟩,ty,p,af,none⟩::rest) N f (Own w0 S L):=by
 intro w hw
 obtain⟨a,h,v,z⟩:=zCy (P:=P) (ty:=ty) i (hv w hw) l (q w hw) hl r g hb
 refine xc (w':=h) ?_ s (k a _ (hw.qb z))
 simp[execOp,resolve,invoke,builtin,j,o,v]
def bnd(f:Nat→Value)(dflt:Nat):Option Operand→Nat→Prop
 |none,k=>k=dflt
 |some o,k=>∃ kk,ev f o= .int kk (k:Int)
theorem xE{w:World}{v:Value}{kk:IntKind}{k c:Nat}(a:BoundsCode)(hv:v= .int kk (k:Int))(b:k≤c):(Instr.sliceBound v c a).run P w= .ok k w:=by
 subst hv
 simp[Instr.sliceBound,asIntOf,b]
theorem zTQ{a:Option Addr}{len cap l h:Nat}{lo hi:Option Operand}(b:zA5 P t=some sz)(j:ev f x= .slice a len cap)(hl:bnd f 0 lo l)(hh:bnd f len hi h)(h1:l≤h)(h2:h≤cap):RV P f ⟨some d, .slice t x lo hi none,ty,p,af,none⟩ A ((kS a cap l h cap sz)):=
 fun w _=>by
   unfold zA5 at b
   split at b
   · rename_i e he
     simp only[Option.map_eq_some_iff]at b
     obtain⟨k,c,rfl⟩:=b
     have g:(Instr.sliceBounds true len cap (lo.map (ev f)) (hi.map (ev f)) none).run P w= .ok (l,h,cap) w:=by
       cases lo<;>cases hi<;>simp only[bnd]at hl hh
       · subst hl;subst hh;simp[Instr.sliceBounds]
       · subst hl;obtain⟨i,hh⟩:=hh
         simp[Instr.sliceBounds,xE (P:=P) (w:=w) _ hh h2]
       · subst hh;obtain⟨i,hl⟩:=hl
         simp[Instr.sliceBounds,xE (P:=P) (w:=w) _ hl h1]
       obtain⟨i,hh⟩:=hh;obtain⟨kl,hl⟩:=hl
       simp[Instr.sliceBounds,xE (P:=P) (w:=w) _ hl h1,xE (P:=P) (w:=w) _ hh h2]
     simp[execOp,Instr.sliceAt,j,zp he,Instr.slice,g,sizeOf,typeInfo,c,kS]
   cases b
theorem zTE{a:Option Addr}{len cap l h:Nat}{lo hi:Option Operand}(b:zA5 P t=some sz)(j:ev f x= .slice a len cap)(hl:bnd f 0 lo l)(hh:bnd f len hi h)(h1:l≤h)(h2:h≤cap)(m:Nat.blt d n=true)
   (k:CL P n ops rest N (upd f d (kS a cap l h cap sz)) A):CL P n ops (⟨some d, .slice t x lo hi none,ty,p,af,none⟩::rest) N f A:=
 yN m (fun w _=>by
   unfold zA5 at b
   split at b
   · rename_i e he
     simp only[Option.map_eq_some_iff]at b
     obtain⟨o,c,rfl⟩:=b
     have g:(Instr.sliceBounds true len cap (lo.map (ev f)) (hi.map (ev f)) none).run P w= .ok (l,h,cap) w:=by
       cases lo<;>cases hi<;>simp only[bnd]at hl hh
       · subst hl;subst hh;simp[Instr.sliceBounds]
       · subst hl;obtain⟨i,hh⟩:=hh
         simp[Instr.sliceBounds,xE (P:=P) (w:=w) _ hh h2]
       · subst hh;obtain⟨i,hl⟩:=hl
         simp[Instr.sliceBounds,xE (P:=P) (w:=w) _ hl h1]
       obtain⟨i,hh⟩:=hh;obtain⟨kl,hl⟩:=hl
       simp[Instr.sliceBounds,xE (P:=P) (w:=w) _ hl h1,xE (P:=P) (w:=w) _ hh h2]
     simp[execOp,Instr.sliceAt,j,zp he,Instr.slice,g,sizeOf,typeInfo,c,kS]
   cases b) k
theorem zRy{a:Option Addr}{len cap l h m:Nat}{lo:Option Operand}{hi mx:Operand}(b:zA5 P t=some sz)(o:ev f x= .slice a len cap)(hl:bnd f 0 lo l)(hh:bnd f len (some hi) h)(c:bnd f cap (some mx) m)(h1:l≤h)(h2:h≤m)(j:m≤cap)(q:Nat.blt d n=true)
   (k:CL P n ops rest N (upd f d (kS a cap l h m sz)) A):CL P n ops (⟨some d, .slice t x lo (some hi) (some mx),ty,p,af,none⟩::rest) N f A:=
 yN q (fun w _=>by
   unfold zA5 at b
   split at b
   · rename_i e he
     simp only[Option.map_eq_some_iff]at b
     obtain⟨r,g,rfl⟩:=b
     have i:(Instr.sliceBounds true len cap (lo.map (ev f)) (some (ev f hi)) (some (ev f mx))).run P w= .ok (l,h,m) w:=by
       obtain⟨s,hh⟩:=hh;obtain⟨km,c⟩:=c
       cases lo<;>simp only[bnd]at hl
       · subst hl
         simp[Instr.sliceBounds,xE (P:=P) (w:=w) _ c j,xE (P:=P) (w:=w) _ hh h2]
       obtain⟨kl,hl⟩:=hl
       simp[Instr.sliceBounds,xE (P:=P) (w:=w) _ hl h1,xE (P:=P) (w:=w) _ c j,xE (P:=P) (w:=w) _ hh h2]
     simp[execOp,Instr.sliceAt,o,zp he,Instr.slice,i,sizeOf,typeInfo,g,kS]
   cases b) k
def zB2(P:Program)(t:TypeId):Bool:=match P.underlying t with|some (.slice e)=>(match P.underlying e with|some (.int .u8)=>true|_=>false)|_=>false
theorem zBI(h:zB2 P t=true):∃ e,P.underlying t=some (.slice e)∧P.underlying e=some (.int .u8):=by
 unfold zB2 at h
 split at h
 · rename_i e he
   split at h
   · rename_i h8;exact⟨e,he,h8⟩
   cases h
 cases h
theorem jA(h:jI P t=true):P.underlying t=some .string:=by
 unfold jI at h
 split at h
 · assumption
 cases h
theorem zGR{t':TypeId}{v:Value}{bs:List UInt8}(q:zB2 P t=true)(g:jI P t'=true)(m:ev f x=v)(r:∀ w,A w→Sl w v bs.length (bs.map vb))(s:Nat.blt d n=true)
   (k:CL P n ops rest N (upd f d (.string ⟨bs.toArray⟩)) A):CL P n ops (⟨some d, .convert t t' x,ty,p,af,none⟩::rest) N f A:=
 yN s (fun w u=>by
   obtain⟨e,h,j⟩:=zBI q
   have l:=jA g
   rcases r w u with⟨a0,rfl,o,h1⟩|⟨b,off,cap,rfl,h1,h2,z,y⟩
   · have:bs=[]:=by simpa using h1
     subst this
     have o:(convert t t' (.slice a0 0 0)).run P w= .ok ym w:=by
       cases a0 with
       |none=>exact run_convert_bytes_nil (P:=P) w t e h j 0 0 t' l
       |some a=>exact run_convert_bytes_back (P:=P) w t t' e a 0 [] h j l qJ
     simp only[execOp,m]
     simp[o]
   have:=run_convert_bytes_arg (P:=P) w t e h j b off bs.length cap (bs.map fun c=>(c.toNat:Int)) qJ (fun i hi=>by
     have:=y i (vb bs[i]) (by simp[hi])
     rw[this]
     simp[vb,List.getD,hi]) t' l
   have e2:strOfNums (bs.map fun c=>(c.toNat:Int))=⟨bs.toArray⟩:=by
     unfold strOfNums
     congr 1
     simp[List.map_map,Function.comp_def]
   simp only[execOp,m]
   simp[this,e2]) k
theorem zP0{t':TypeId}{s:ByteArray}(l:jI P t=true)(a:zB2 P t'=true)(m:ev f x= .string s)(hb:s.size≤maxLen)(o:Nat.blt d n=true)
   (k:∀ v,CL P n ops rest N (upd f d v) (Own w0 S (L++[Res.sl v s.size (s.data.toList.map vb)]))):
   CL P n ops (⟨some d, .convert t t' x,ty,p,af,none⟩::rest) N f (Own w0 S L):=by
 intro w hw
 obtain⟨e,q,r⟩:=zBI a
 have y:=Lib.run_convert_string_bytes (P:=P) w t t' e s (jA l) q r
 have z:Own w [] [Res.sl (.slice (some ⟨w.heap.size,0,none⟩) s.size (grownCap w s.size 0 e)) s.size (s.data.toList.map vb)] (Lib.bytesWorld w e s):=by
   refine Own.mk1 ⟨O,O,O,by rw[Lib.bytesWorld_size];omega,fun k hk _=>Lib.bytesWorld_at_old w e s k hk⟩ ?_ ?_
   · by_cases hc0:grownCap w s.size 0 e=0
     · have:=grownCap_ge w s.size 0 e
       have g:s.size=0:=by omega
       refine .inl ⟨some ⟨w.heap.size,0,none⟩,by rw[hc0,g],g,?_⟩
       rw[List.map_eq_nil_iff]
       exact List.eq_nil_of_length_eq_zero (by rw[Array.length_toList];exact g)
     refine .inr ⟨w.heap.size,0,_,O,⟨grownCap_ge w s.size 0 e,by omega⟩,grownCap_le_maxLen w s.size 0 e hb,by rw[Lib.bytesWorld_size];omega,fun i u h=> ?_⟩
     rw[List.getElem?_map]at h
     simp only[Option.map_eq_some_iff]at h
     obtain⟨c,j,rfl⟩:=h
     have hi:i<s.size:=by
       have:=(List.getElem?_eq_some_iff.1 j).1
       rw[Array.length_toList]at this
       exact this
     have:=Lib.bytesWorld_cell w e s i hi
     rw[Nat.zero_add,this]
     simp[List.getD,j,vb]
   intro b hb
   have hb:=zAA b hb
   simp[xK]at hb
   right;omega
 refine xc (w':=Lib.bytesWorld w e s) ?_ o (k _ _ (hw.qb z))
 simp[execOp,m,y]
theorem jR(s u:ByteArray):(s.toList==u.toList)=decide (s=u):=by
 rw[ByteArray.toList_eq,ByteArray.toList_eq]
 by_cases h:s=u
 · subst h;simp
 have:s.data.toList≠u.data.toList:=fun e=>h (by
   cases s;cases u;simp at e;simp[e])
 rw[decide_eq_false h]
 simpa using this
theorem zEq{s u:ByteArray}{t':TypeId}(a:ev f x= .string s)(b:ev f y= .string u)(c:Nat.blt d n=true)(k:CL P n ops rest N (upd f d (.bool (decide (s=u)))) A):
   CL P n ops (⟨some d, .binOp .eql t x y t',ty,p,af,none⟩::rest) N f A:=
 yN c (fun w _=>by simp only[execOp,a,b,eqGuard];simp[binOp,Op.stringOp,jR]) k
theorem zK4{s u:ByteArray}{t':TypeId}(a:ev f x= .string s)(b:ev f y= .string u)(c:Nat.blt d n=true)(k:CL P n ops rest N (upd f d (.bool (decide (s≠u)))) A):
   CL P n ops (⟨some d, .binOp .neq t x y t',ty,p,af,none⟩::rest) N f A:=
 yN c (fun w _=>by simp only[execOp,a,b,eqGuard];simp[binOp,Op.stringOp,jR]) k
theorem zSt{s:ByteArray}{kk:IntKind}{j:Nat}{i:Int}(a:jI P t=true)(b:ev f x= .string s)(c:ev f y= .int kk i)(hi:i=j)(e:j<s.size)(g:Nat.blt d n=true)
   (k:CL P n ops rest N (upd f d (vb s[j])) A):CL P n ops (⟨some d, .index t x y,ty,p,af,none⟩::rest) N f A:=
 yN g (fun w _=>by
   have h:=jA a
   subst hi
   have:s[j]?=some s[j]:=by simp[e]
   simp[execOp,b,c,Instr.index,asIntOf,zp h,this,vb]) k
end
section
variable {P:Program} {n:Nat} {ops:Array Oper} {N R:K} {X:List (Nat×K)} {f:Nat→Value} {S:World→Prop} {w:World}
variable {d:Nat} {ty:TypeId} {p:String} {af:Array Edge} {fuel:Nat} {listed:Array Bool}
def HL(P:Program)(n:Nat)(ops:Array Oper)(S:World→Prop)(N:K)(fuel:Nat)(listed:Array Bool)(f:Nat→Value)(w:World):Prop:=
 ∀ a,Rep n f a→wpAnyH P .any ops (kO n N) S fuel listed a w
theorem zEK{id:Nat}{l:List Oper}(S:World→Prop)(b:P.follows .mixedOrders=true)(c:S (drawn w))
   (h:HL P n l.toArray S N l.length (Array.replicate l.length false) f (drawn w)):W P n (.region id l.toArray true) N R X f w:=by
 intro a ha
 refine wp_mono (wp_region_any (Q:=kO n N) b (wpAny_of_held (S:=S) _ _ _ _ ?_)) ?_
 · have h1:=h a ha
   show wpAnyH P .any l.toArray (kO n N) S l.toArray.size (Array.replicate l.toArray.size false) a (drawn w)
   rw[List.size_toArray]
   exact h1
 intro e a w hq
 cases e<;>first|exact hq.elim|exact hq
theorem zQP(i:Nat){op:Op}{v:Value}(hi:ops[i]?=some ⟨some d,op,ty,p,af,none⟩)(e:Region.noSelect ops=true)(g:Region.free .any ops listed i=true)(j:(Region.ready .any ops listed).contains i=true)
   (hv:RV P f ⟨some d,op,ty,p,af,none⟩ S v) (l:Nat.blt d n=true) (m:S w) (k:HL P n ops S N fuel (listed.setIfInBounds i true) (upd f d v) w):HL P n ops S N (fuel+1) listed f w:=by
 intro a ha
 refine wpAnyH_take (v:=v) hi e g j (fun c a w h=>h.elim) (.inl ⟨by simp[Region.wanted],fun o b=> ?_⟩) m (k _ (ha.put (by simpa [Nat.blt_eq]using l) v))
 rw[ha.eval]
 exact hv o b
theorem zOQ(i:Nat){op:Op}{v:Value}{j e:Nat}{b:Bool}(hi:ops[i]?=some ⟨some d,op,ty,p,af,some (j,b)⟩)(l:yu ops j=some e)(hb:f e= .bool b)(m:Region.noSelect ops=true)(o:Region.free .any ops listed i=true)(q:(Region.ready .any ops listed).contains i=true)
   (hv:RV P f ⟨some d,op,ty,p,af,none⟩ S v) (r:Nat.blt d n=true) (s:S w) (k:HL P n ops S N fuel (listed.setIfInBounds i true) (upd f d v) w):HL P n ops S N (fuel+1) listed f w:=by
 intro a ha
 refine wpAnyH_take (v:=v) hi m o q (fun c a w h=>h.elim) (.inl ⟨by simp[Region.wanted,kG ha l hb],fun t g=> ?_⟩) s (k _ (ha.put (by simpa [Nat.blt_eq]using r) v))
 rw[ha.eval]
 exact hv t g
theorem zQo(i:Nat){op:Op}{j e:Nat}{b b':Bool}(hi:ops[i]?=some ⟨some d,op,ty,p,af,some (j,b)⟩)(l:yu ops j=some e)(hb:f e= .bool b')(g:(b'==b)=false)(m:Region.noSelect ops=true)(o:Region.free .any ops listed i=true)(q:(Region.ready .any ops listed).contains i=true)
   (r:Nat.blt d n=true) (s:S w) (k:HL P n ops S N fuel (listed.setIfInBounds i true) (upd f d undef) w):HL P n ops S N (fuel+1) listed f w:=by
 intro a ha
 refine wpAnyH_take (v:=undef) hi m o q (fun c a w h=>h.elim) (.inr ⟨by simp[Region.wanted,kG ha l hb];simpa using g,O⟩) s (k _ (ha.put (by simpa [Nat.blt_eq]using r) undef))
theorem zQM(b:Region.ready .any ops listed=[])(h:N f w):HL P n ops S N fuel listed f w:=by
 intro a ha
 cases fuel with
 |zero=>exact⟨b,f,ha,h⟩
 |succ fuel=>exact⟨fun _=>⟨f,ha,h⟩,fun i hi=>by rw[b]at hi;cases hi⟩
theorem zRF{A:World→Prop}{id:Nat}{l:List Oper}(S:World→Prop)(b:P.follows .mixedOrders=true)(c:∀ w,A w→S (drawn w))
 (h:∀ w,A w→HL P n l.toArray S N l.length (Array.replicate l.length false) f (drawn w)):C P n (.region id l.toArray true) N R X f A:=fun w a=>zEK S b (c w a) (h w a)
end
def zBb(P:Program)(fn:Func)(n:Nat)(R:Value→World→Prop):K:=fun f w=>∃ v,(∀ a,Rep n f a→(results fn a.tmps).run P w= .ok v w)∧R v w
section
variable {P:Program} {n:Nat} {fn:Func} {g:FuncId} {c:Code} {args:List Value} {w0 w:World} {R:Value→World→Prop} {S:List Nat} {L:List Res} {A:World→Prop} {f:Nat→Value}
theorem xi(a:P.funcs[g]?=some fn)(hb:fn.body=some c)(b:fn.ntmps=n)(hl:Nat.ble args.length n=true)(d:A w)(h:C P n c (zBb P fn n R) (zBb P fn n R) [] (ini args) A):Rets P g args.toArray w R:=by
 subst b
 exact zJ0 a hb (Nat.le_of_ble_eq_true hl) (h w d)
theorem yq(b:fn.results= #[])(h:∀ w,A w→R (.tuple #[]) w):∀ w,A w→zBb P fn n R f w:=
 fun w c=>⟨_,fun a d=>results_none b a.tmps P w,h w c⟩
theorem zm{t:Tmp}{v:Value}(b:fn.results= #[.tmp t])(hv:f t=v)(h:∀ w,A w→R v w):∀ w,A w→zBb P fn n R f w:=
 fun w c=>⟨v,fun a d=>by rw[results_tmp b,d.get,hv],h w c⟩
theorem yg{t u:Tmp}{v v':Value}(d:fn.results= #[.tmp t, .tmp u])(hv:f t=v)(b:f u=v')(h:∀ w,A w→R (.tuple #[v,v']) w):∀ w,A w→zBb P fn n R f w:=
 fun w e=>⟨_,fun a c=>by rw[results_tmp2 d,c.get,c.get,hv,b],h w e⟩
theorem zAB{t u s:Tmp}{v v' v'':Value}(d:fn.results= #[.tmp t, .tmp u, .tmp s])(hv:f t=v)(c:f u=v')(b:f s=v'')(h:∀ w,A w→R (.tuple #[v,v',v'']) w):∀ w,A w→zBb P fn n R f w:=
 fun w e=>⟨_,fun a g=>by simp[results,d,g.get,hv,c,b],h w e⟩
theorem xg{t:Tmp}{T:TypeId}{b:Nat}{cs:List Value}(d:fn.results= #[.cell t T])(hv:f t= .pointer (some ⟨b,0,none⟩))(e:jF P T=some cs.length)(g:∀ w,A w→∀ i u,cs[i]?=some u→w.cell? ⟨b,0+i,none⟩=some u)
   (h:∀ w,A w→R (.agg cs.toArray) w):∀ w,A w→zBb P fn n R f w:=
 fun w c=>⟨_,fun a j=>by
   have:=y7 (P:=P) e (g w c)
   simp[results,d,j.get,hv,asAddr,this],h w c⟩
theorem yk{t u:Tmp}{T:TypeId}{b:Nat}{cs:List Value}{v:Value}(e:fn.results= #[.cell t T, .tmp u])(hv:f t= .pointer (some ⟨b,0,none⟩))(c:f u=v)(g:jF P T=some cs.length)(j:∀ w,A w→∀ i u,cs[i]?=some u→w.cell? ⟨b,0+i,none⟩=some u)
   (h:∀ w,A w→R (.tuple #[.agg cs.toArray,v]) w):∀ w,A w→zBb P fn n R f w:=
 fun w d=>⟨_,fun a k=>by
   have:=y7 (P:=P) g (j w d)
   simp[results,e,k.get,hv,c,asAddr,this],h w d⟩
theorem Own.qd{i b:Nat}{e:TypeId}{cs:List Value}(a:L[i]?=some (Res.row b e cs)):∀ w,Own w0 S L w→∀ j u,cs[j]?=some u→w.cell? ⟨b,0+j,none⟩=some u:=
 fun w c j u d=>by rw[Nat.zero_add];exact c.rowCell a d
end
def Agr(f:Nat→Value):List (Nat×Value)→Prop
 | []=>True
 |(i,v)::r=>f i=v∧Agr f r
def zAR(g:Nat→Value):List (Nat×Value)→Nat→Value
 | []=>g
 |(i,v)::r=>upd (zAR g r) i v
theorem zBr{g:Nat→Value}:∀ {l:List (Nat×Value)},Agr g l→zAR g l=g
 | [],_=>rfl
 |(i,v)::r,h=>by
   simp only[zAR]
   rw[zBr h.2]
   funext j
   by_cases hj:j=i
   · subst hj;rw[zB7];exact h.1.symm
   rw[zAS _ _ hj]
section
variable {P:Program} {n:Nat} {N R:K} {X:List (Nat×K)} {f:Nat→Value} {w0:World} {S:List Nat} {A:World→Prop}
def zUO(σ:Type)(sl:σ→List (Nat×Value))(B:σ→World→Prop):K:=fun f w=>∃ s:σ,Agr f (sl s)∧B s w
theorem zKQ{c:Code}{Q:Exit→Act→World→Prop}{a:Act}{w:World}{σ:Type}(J:σ→Act→World→Prop)(μ:σ→Nat)(t:σ)(u:J t a w)
   (round:∀ s a w,J s a w→c.wp P (Exit.then (fun h i=>∃ o,J o h i∧μ o<μ s) Q) a w):(Code.loop c).wp P Q a w:=by
 intro b k cs
 have key:∀ m s a w,μ s=m→J s a w→∃ e h i,Q e h i∧Arrives P (lone (b.at a (.code c:: .inLoop c::k)) cs w) b k cs e h i:=by
   intro m
   induction m using Nat.strongRecOn with
   |_ m ih=>
     intro s a w hm hJ
     obtain⟨e,j,n,f,d⟩:=round s a w hJ b (.inLoop c::k) cs
     cases e with
     |normal=>
       obtain⟨o,p,q⟩:=f
       obtain⟨v,y,z,r,g⟩:=ih (μ o) (hm▸q) o j n rfl p
       exact⟨v,y,z,r, .of_steps (Steps.trans d (.one step_inLoop)) g⟩
     |exit id=>exact⟨_,j,n,f, .pass (x:= .inLoop c) rfl (fun _ _=> .inl qJ) d⟩
     |goto l=>exact⟨_,j,n,f, .pass (x:= .inLoop c) rfl (fun _ _=> .inl qJ) d⟩
     |ret=>exact⟨_,j,n,f, .pass (x:= .inLoop c) rfl (fun _ _=> .inl qJ) d⟩
     |panic ch=>exact⟨_,j,n,f, .pass (x:= .inLoop c) rfl (fun _ _=> .inl qJ) d⟩
     |outgrown=>exact⟨_,j,n,f, .pass (x:= .inLoop c) rfl (fun _ _=> .inl qJ) d⟩
 obtain⟨e,h,i,f,d⟩:=key _ t a w rfl u
 exact⟨e,h,i,f, .of_steps (.one step_loop) d⟩
theorem zSN{c:Code}(σ:Type)(d:σ→List (Nat×Value))(B:σ→World→Prop)(μ:σ→Nat)(o:∀ w,A w→zUO σ d B f w)
   (round:∀ (s:σ) (g:Nat→Value),C P n c (fun p m=>∃ b:σ,Agr p (d b)∧B b m∧μ b<μ s) R X (zAR g (d s)) (B s)):C P n (.loop c) N R X f A:=by
 intro w hw a h
 obtain⟨q,i,j⟩:=o w hw
 refine zKQ (fun s a w=>∃ f,Rep n f a∧Agr f (d s)∧B s w) μ q ⟨f,h,i,j⟩ ?_
 rintro s a w ⟨f,h,k,hb⟩
 have h1:=round s f w hb
 rw[zBr k]at h1
 refine wp_mono (h1 a h) ?_
 intro e a' m hq
 cases e with
 |normal=>
   obtain⟨g,r,b,h1,h2,t⟩:=hq
   exact⟨b,⟨g,r,h1,h2⟩,t⟩
 |exit id=>exact hq
 |ret=>exact hq
 |goto l=>exact hq
 |panic c=>exact hq
 |outgrown=>exact hq
end
theorem zt{a:Int}(h: -9223372036854775808≤a∧a≤9223372036854775807):IntKind.i64.wrap a=a:=by
 unfold IntKind.wrap
 simp[IntKind.bits,IntKind.signed]
 split<;>omega
theorem yz{a:Int}(h:0≤a∧a≤18446744073709551615):IntKind.u64.wrap a=a:=by
 unfold IntKind.wrap
 simp[IntKind.bits,IntKind.signed]
 omega
theorem wu8{a:Int}:IntKind.u8.wrap a=a%256:=by
 simp[IntKind.wrap,IntKind.bits,IntKind.signed]
theorem zRo{a:Int}(h:0≤a∧a≤255):IntKind.u8.wrap a=a:=by rw[wu8];omega
theorem zRr{a:Int}(h:0≤a∧a≤18446744073709551615):IntKind.i64.wrap a=if a≤9223372036854775807 then a else a - 18446744073709551616:=by
 unfold IntKind.wrap
 simp[IntKind.bits,IntKind.signed]
 split<;>split<;>omega
end Go.Sc
