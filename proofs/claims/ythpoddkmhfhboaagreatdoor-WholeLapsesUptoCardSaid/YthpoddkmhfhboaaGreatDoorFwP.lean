import Derived.LaidEql
import Derived.Test.YthpoddkmhfhboaaGreatDoorOne
set_option linter.unusedSectionVars false
set_option linter.unusedSimpArgs false
set_option linter.unusedVariables false
namespace Go.Sc
section
variable {P:Program} {w:World} {t e ty:TypeId} {sz by':Nat}
end
section
variable {P:Program} {n:Nat} {ops:Array Oper} {N:K} {f:Nat→Value} {rest:List Oper}
variable {d:Nat} {ty:TypeId} {p:String} {af:Array Edge} {x y:Operand} {t e:TypeId} {sz by':Nat}
variable {w0:World} {S:List Nat} {L:List Res}
theorem zSk{α:Type}{g:α→List Value}{z:α}{zv:Value}{kx ky:IntKind}{m:Nat}(s:slT P t=some (e,1,by'))(l:x2 P e=some zv)(u:zv.cells= #[zv])(v:g z=[zv])(o:ev f x= .int kx (m:Int))(q:ev f y= .int ky (m:Int))(hb:m*by'≤140737488355328)(hp:0<by')(hd:Nat.blt d n=true)
   (k:∀ b,CL P n ops rest N (upd f d (.slice (some ⟨b,0,none⟩) m m)) (Own w0 S (L++[Res.vec e 1 (.slice (some ⟨b,0,none⟩) m m) (List.replicate m z).length ((List.replicate m z).flatMap g)]))):
   CL P n ops (⟨some d, .makeSlice t x y,ty,p,af,none⟩::rest) N f (Own w0 S L):=by
 intro w hw
 obtain⟨hu,i,c,hi,a,hs,h,a0,a1⟩:=zAl s
 have e0:c=zv:=by
   simp only[x2,hi,Option.bind_some,a]at l
   exact Option.some.inj l
 subst e0
 subst h
 have hm:m≤m*i.bytes:=Nat.le_mul_of_pos_right _ hp
 obtain⟨j,r,h1,h2⟩:=run_make_full (P:=P) w 0 t e i c 1 hu hi a hs kx ky m (by rw[Nat.mul_comm];omega) (by rw[xB];omega) (Nat.zero_le _)
 have hO:Own w [] [Res.vec e 1 (.slice (some ⟨w.heap.size,0,none⟩) m m) (List.replicate m z).length ((List.replicate m z).flatMap g)] j:=by
   refine Own.mk1 ⟨h2.os,h2.tape,h2.output,h2.size,fun k hk _=>h2.block k hk qJ⟩ ?_ (fun b hb=>by simp[Res.vec,xK]at hb;right;omega)
   have e1:(madeCells c.cells (m*1)).toList=(List.replicate m z).flatMap g:=by
     rw[u,Nat.mul_one,toList_madeCells_one]
     clear r h1 h2 hb hm o q k
     induction m with
     |zero=>rfl
     |succ m ih=>rw[List.replicate_succ,List.replicate_succ,List.flatMap_cons,v,←ih];rfl
   rw[e1]at h1
   rw[List.length_replicate];exact h1
 refine xc (w':=j) ?_ hd (k w.heap.size _ (hw.qb hO))
 simp[execOp,o,q,r]
end
def zMP(v:Value)(o len:Nat)(u:Value):Prop:=(o=0∧u=v)∨u=xj v o len 1
theorem zHl{cs:List Value}{o:Nat}:yc cs o []=cs:=by unfold yc;simp
theorem zQH{w:World}{T:TypeId}{v u:Value}{o len:Nat}{cs:List Value}(h:w.ownsRow 0 T 1 v len cs)(ho:o≤len)(a:zMP v o len u):∃ base dc,u= .slice base (len - o) dc∧(0<len - o→base=some ⟨xw v,yr v+o,none⟩):=by
 obtain⟨hl,⟨rfl,h1⟩|⟨g,cap,b,rfl,c,h1,h2,d,e,f⟩⟩:=h
 · have ho:o=0:=by omega
   subst ho
   rcases a with⟨_,rfl⟩|rfl
   · exact⟨none,0,by rw[h1],fun q=>by omega⟩
   refine⟨none,0,?_,fun q=>by omega⟩
   show kS none 0 0 len 0 1=_
   unfold kS;simp
 rcases a with⟨rfl,rfl⟩|rfl
 · exact⟨some ⟨g,0,none⟩,cap,by rw[Nat.sub_zero],fun _=>rfl⟩
 by_cases hc:cap=o
 · refine⟨some ⟨g,0,none⟩,cap - o,?_,fun q=>by omega⟩
   show kS (some ⟨g,0,none⟩) cap o len cap 1=_
   unfold kS;simp[hc]
 refine⟨some ⟨g,0+o,none⟩,cap - o,?_,fun _=>rfl⟩
 show kS (some ⟨g,0,none⟩) cap o len cap 1=_
 unfold kS;rw[if_neg qG]
 by_cases h0':o=0<;>simp[Addr.add,h0']
section
variable {P:Program} {n:Nat} {ops:Array Oper} {N R:K} {X:List (Nat×K)} {f:Nat→Value} {rest:List Oper} {w0:World} {S:List Nat} {L:List Res}
variable {d:Nat} {ty:TypeId} {p:String} {af:Array Edge} {x y:Operand} {t t' e:TypeId}
theorem zJy{w:World}{sv:Value}{sl m:Nat}{scs:List Value}(h:Sl w sv sl scs)(hl:scs.length=sl)(g:m≤sl):(Builtin.firstCells 1 m sv).run P w= .ok (scs.take m).toArray w:=by
 rcases h with⟨a,rfl,rfl,rfl⟩|⟨b,off,cap,rfl,h1,h2,i,f⟩
 · have:m=0:=by omega
   subst this
   cases a with
   |none=>simp[Builtin.firstCells]
   |some a=>
     have:=run_loadCells_list (P:=P) w a [] qJ
     simpa [Builtin.firstCells]using this
 have e:(scs.take m).length=m:=by rw[List.length_take];omega
 have:=run_loadCells_list (P:=P) w ⟨b,off,none⟩ (scs.take m) (fun j u d=>by
   rw[List.getElem?_take]at d
   split at d
   · have e2:(⟨b,off,none⟩:Addr).add j=⟨b,off+j,none⟩:=by
       by_cases c:j=0<;>simp[Addr.add,c]
     rw[e2];exact f j u d
   cases d)
 rw[e]at this
 simpa [Builtin.firstCells]using this
theorem zTL{T:TypeId}{v sv:Value}{len sl:Nat}{cs scs:List Value}(i o:Nat)(hx:zMP v o len (ev f x))(hy:ev f y=sv)(hs:Pr (Own w0 S L) sv sl scs)(q:scs.length=sl)(l:L[i]?=some (Res.vec T 1 v len cs))(ho:o≤len)(ht:P.underlying t=some (.slice e))(hz:(P.info? e).map (·.size)=some 1)(hc:∀ u∈scs,cell1 u=true)(hd:Nat.blt d n=true)
   (k:∀ u,CL P n ops rest N (upd f d u) (Own w0 S (L.set i (Res.vec T 1 v len (yc cs o (scs.take (Nat.min sl (len - o)))))))):CL P n ops (⟨some d, .call ⟨.builtin .copy,#[x,y],#[t,t']⟩,ty,p,af,none⟩::rest) N f (Own w0 S L):=by
 intro w hw
 have r:=hw.holds i _ l
 obtain⟨base,dc,m,hb⟩:=zQH r ho hx
 have g:=hs w hw
 have hm:Nat.min sl (len - o)≤sl:=Nat.min_le_left _ _
 have s:=zJy (P:=P) g q hm
 have c:(Builtin.lenOf sv).run P w= .ok sl w:=by
   rcases g with⟨a,rfl,rfl,_⟩|⟨b,off,cap,rfl,_⟩<;>simp[Builtin.lenOf]
 cases hq:P.info? e with
 |none=>simp[hq]at hz
 |some i0=>
   have hi:i0.size=1:=by simpa [hq]using hz
   by_cases h0:Nat.min sl (len - o)=0
   · rw[h0,List.take_zero,zHl]at k
     have z:L.set i (Res.vec T 1 v len cs)=L:=by
       apply List.ext_getElem?
       intro j
       by_cases hj:j=i
       · subst hj;rw[List.getElem?_set_self (List.getElem?_eq_some_iff.1 l).1,l]
       rw[List.getElem?_set_ne (Ne.symm hj)]
     rw[z]at k
     rw[h0]at s
     refine xc (v:=goInt 0) (w':=w) ?_ hd (k _ _ hw)
     cases base<;>simp[execOp,resolve,invoke,builtin,m,hy,Builtin.copy_,run_underlying ht,c,h0,sizeOf,typeInfo,hq,hi,s,storeCells]
   have h:0<len - o:=by
     have:Nat.min sl (len - o)≤len - o:=Nat.min_le_right _ _
     omega
   have a0:=hb h
   have a1:(scs.take (Nat.min sl (len - o))).length=Nat.min sl (len - o):=by rw[List.length_take];omega
   have a6:Nat.min sl (len - o)≤len - o:=Nat.min_le_right _ _
   obtain⟨w',a2,a3,a4,hk⟩:=zDn (P:=P) (o:=o) (vs:=scs.take (Nat.min sl (len - o))) r (fun u m=>hc u (List.mem_of_mem_take m)) (by rw[a1,r.1];omega) qG
   have h1:=hw.frame1 (r':=Res.vec T 1 v len (yc cs o (scs.take (Nat.min sl (len - o))))) (E:=[]) l (Own.mk1 (by show Keep (xK v) _ _;rw[a4];exact hk) a3 (fun b' a5=> .inl a5))
   refine xc (v:=goInt (Nat.min sl (len - o))) (w':=w') ?_ hd (k _ _ (by simpa using h1))
   simp[execOp,resolve,invoke,builtin,m,a0,hy,Builtin.copy_,run_underlying ht,c,sizeOf,typeInfo,hq,hi,s,a2]
def spl{α:Type}(l:List α)(o:Nat)(m:List α):List α:=l.take o++(m++l.drop (o+m.length))
theorem zPH{α:Type}(g:α→Value)(l m:List α)(o:Nat):yc (l.map g) o (m.map g)=(spl l o m).map g:=by unfold yc spl;simp
theorem zHT{α:Type}{l m:List α}{o:Nat}(h:o+m.length≤l.length):(spl l o m).length=l.length:=by unfold spl;simp;omega
theorem zMY{T:TypeId}{v sv:Value}{l bs:List UInt8}(i o:Nat)(c:zMP v o l.length (ev f x))(g:ev f y=sv)(j:Pr (Own w0 S L) sv bs.length (bs.map vb))(m:L[i]?=some (Res.vec T 1 v l.length (l.map vb)))(ho:o≤l.length)(q:P.underlying t=some (.slice e))(r:(P.info? e).map (·.size)=some 1)(s:Nat.blt d n=true)
   (k:∀ (u:Value) (l':List UInt8),l'.length=l.length→CL P n ops rest N (upd f d u) (Own w0 S (L.set i (Res.vec T 1 v l'.length (l'.map vb))))):CL P n ops (⟨some d, .call ⟨.builtin .copy,#[x,y],#[t,t']⟩,ty,p,af,none⟩::rest) N f (Own w0 S L):=by
 have w:Nat.min bs.length (l.length - o)≤l.length - o:=Nat.min_le_right _ _
 have a:(spl l o (bs.take (Nat.min bs.length (l.length - o)))).length=l.length:=zHT (by rw[List.length_take];omega)
 refine zTL i o c g j qJ m ho q r (fun u z=>by obtain⟨b,_,rfl⟩:=List.mem_map.1 z;rfl) s fun u=> ?_
 have h:=k u _ a
 rw[a]at h
 rw[←List.map_take,zPH];exact h
end
open Go
section
variable {P:Program} {n:Nat} {ops:Array Oper} {N R:K} {X:List (Nat×K)} {f:Nat→Value} {A:World→Prop} {rest:List Oper} {w0:World} {S:List Nat} {L:List Res}
variable {d:Nat} {ty:TypeId} {p:String} {af:Array Edge} {x y:Operand} {t e:TypeId}
theorem zEv{α:Type}[Inhabited α]{g:α→List Value}{sz:Nat}(d:∀ x,(g x).length=sz){o:Nat}{vs:List Value}(ho:o+vs.length≤sz):∀ {l:List α} {k:Nat} {a:α},k<l.length→g a=yc (g (zc l k)) o vs→(l.set k a).flatMap g=yc (l.flatMap g) (k*sz+o) vs
 | [],k,a,h,_=>by simp at h
 |b::l,0,a,_,c=>by
   have c:g a=yc (g b) o vs:=c
   have hb:=d b
   simp only[List.set_cons_zero,List.flatMap_cons,Nat.zero_mul,Nat.zero_add,c,yc]
   rw[List.take_append_of_le_length qG,List.drop_append_of_le_length qG]
   simp
 |b::l,k+1,a,h,c=>by
   have f:=zEv d ho (l:=l) (k:=k) (a:=a) (by simpa using h) c
   have hb:=d b
   simp only[List.set_cons_succ,List.flatMap_cons,f,yc]
   have e:(k+1)*sz=sz+k*sz:=by rw[Nat.add_mul,Nat.one_mul,Nat.add_comm]
   rw[e,List.take_append,List.drop_append,List.take_of_length_le (l:=g b) qG,List.drop_of_length_le (l:=g b) qG,hb,
     show sz+k*sz+o - sz=k*sz+o by omega,show sz+k*sz+o+vs.length - sz=k*sz+o+vs.length by omega]
   simp
theorem zR1{α:Type}[Inhabited α]{g:α→List Value}{xs:List α}(k sz j o:Nat)(a:α)(vs:List Value){off:Nat}{v:Value}(d:L[k]?=some (Res.vec e sz v xs.length (xs.flatMap g)))(b:∀ x,(g x).length=sz)(h:ev f x= .pointer (some ⟨xw v,off,none⟩))(ho:off=yr v+(j*sz+o))(i:ev f y= .agg vs.toArray)(l:g a=yc (g (zc xs j)) o vs)(m:∀ u∈vs,cell1 u=true)(q:j<xs.length)(hp:o+vs.length≤sz)(r:0<vs.length)(s:jm P t=some vs.length)
   (c:CL P n ops rest N f (Own w0 S (L.set k (Res.vec e sz v (xs.set j a).length ((xs.set j a).flatMap g))))):CL P n ops (⟨none, .store t x y,ty,p,af,none⟩::rest) N f (Own w0 S L):=by
 refine zSW k (j*sz+o) h ho i d s m (by rw[jc b];exact Nat.le_trans qG (Nat.le_trans (Nat.le_of_eq (by rw[Nat.add_mul,Nat.one_mul]:j*sz+sz=(j+1)*sz)) (Nat.mul_le_mul_right sz (show j+1≤xs.length by omega)))) ?_ r
 rw[zEv b hp q l,List.length_set]at c
 exact c
def zSm(P:Program)(t:TypeId):Option (List Value×Nat):=
 match P.underlying t,(P.info? t).bind (·.zero)with
 |some (.array _ e),some z=>(P.info? e).map fun i=>(z.cells.toList,i.size)
 |_,_=>none
theorem v_bldA{z:List Value}{sz:Nat}{parts:List (Nat×Operand)}{cs:List Value}(a:zSm P t=some (z,sz))(g:zAV (fun i=>some (i*sz,sz)) z (parts.map fun q=>(q.1,ev f q.2))=some cs):RV P f ⟨some d, .build t parts.toArray,ty,p,af,none⟩ A (.agg cs.toArray):=
 fun w _=>by
   unfold zSm at a
   split at a
   · rename_i m e z0 hu hz
     simp only[Option.map_eq_some_iff,Prod.mk.injEq]at a
     obtain⟨i,hi,rfl,rfl⟩:=a
     simp only[Option.bind_eq_some_iff]at hz
     obtain⟨h,b,c⟩:=hz
     have h2:=zBz _ _ _ _ g
     simp only[Array.toArray_toList]at h2
     simp[execOp,Instr.build,zeroValue,typeInfo,sizeOf,b,c,hi,zp hu,h2]
   cases a
def zRL(P:Program)(t:TypeId)(i:Nat):Option Nat:=
 match P.underlying t with
 |some (.struct fs)=>(fs[i]?).bind fun f=>if one P f.type then some f.offset else none
 |_=>none
theorem zDh{o i:Nat}{cs:Array Value}{v:Value}(e:ev f x= .agg cs)(ho:zRL P t i=some o)(hv:cs[o]?=some v):RV P f ⟨some d, .field t x i,ty,p,af,none⟩ A v:=
 fun w _=>by
   unfold zRL at ho
   split at ho
   · rename_i fs hfs
     simp only[Option.bind_eq_some_iff]at ho
     obtain⟨fl,a,ho⟩:=ho
     split at ho
     · rename_i h1
       cases ho
       obtain⟨h2,g,b,c⟩:=zGP h1
       simp[execOp,e,Instr.field,zp hfs,a,asAgg,part,h2,sizeOf,typeInfo,b,c,hv]
     cases ho
   cases ho
theorem zKx{o i:Nat}{cs:Array Value}{v:Value}(a:ev f x= .agg cs)(ho:zRL P t i=some o)(hv:cs[o]?=some v)(b:Nat.blt d n=true)(k:CL P n ops rest N (upd f d v) A):CL P n ops (⟨some d, .field t x i,ty,p,af,none⟩::rest) N f A:=yN b (zDh a ho hv) k
theorem zTg{fn:Func}{R:Value→World→Prop}{t u u2 u3:Tmp}{T:TypeId}{b:Nat}{cs:List Value}{v v2 v3:Value}(j:fn.results= #[.cell t T, .tmp u, .tmp u2, .tmp u3])(hv:f t= .pointer (some ⟨b,0,none⟩))(c:f u=v)(d:f u2=v2)(e:f u3=v3)(k:jF P T=some cs.length)(l:∀ w,A w→∀ i u,cs[i]?=some u→w.cell? ⟨b,0+i,none⟩=some u)
   (h:∀ w,A w→R (.tuple #[.agg cs.toArray,v,v2,v3]) w):∀ w,A w→zBb P fn n R f w:=
 fun w g=>⟨_,fun a m=>by
   have:=y7 (P:=P) k (l w g)
   simp[results,j,m.get,hv,c,d,e,asAddr,this],h w g⟩
end
open Go
section
variable {P:Program} {n:Nat} {ops:Array Oper} {N:K} {f:Nat→Value} {A:World→Prop} {rest:List Oper} {w0:World} {S:List Nat} {L:List Res}
variable {d:Nat} {ty:TypeId} {p:String} {af:Array Edge} {x y z:Operand} {t e t':TypeId} {by':Nat}
theorem zQr{kx ky:IntKind}{m:Nat}(a:slT P t=some (e,1,by'))(c:x2 P e=some (vb 0))(i:ev f x= .int kx (m:Int))(j:ev f y= .int ky (m:Int))(hb:m*by'≤140737488355328)(hp:0<by')(l:Nat.blt d n=true)
   (k:∀ b,CL P n ops rest N (upd f d (.slice (some ⟨b,0,none⟩) m m)) (Own w0 S (L++[Res.vec e 1 (.slice (some ⟨b,0,none⟩) m m) (List.replicate m (0:UInt8)).length ((List.replicate m (0:UInt8)).map vb)]))):
   CL P n ops (⟨some d, .makeSlice t x y,ty,p,af,none⟩::rest) N f (Own w0 S L):=
 zSk (g:=fun b:UInt8=>[vb b]) (z:=0) (zv:=vb 0) a c rfl rfl i j hb hp l fun b=>by
   have h:=k b
   rwa [zDd]at h
theorem zRp{s:ByteArray}{k1 k2:IntKind}{i j:Nat}(a:jI P t=true)(b:ev f x= .string s)(c:ev f y= .int k1 (i:Int))(e:ev f z= .int k2 (j:Int))(h1:i≤j)(h2:j≤s.size):
   RV P f ⟨some d, .slice t x (some y) (some z) none,ty,p,af,none⟩ A (.string (s.extract i j)):=fun w _=>by
 have h:=run_slice_string (P:=P) w t s k1 k2 i j (jA a) qG qG qG
 simp only[Int.toNat_natCast]at h
 rw[←Go.run_sliceAt_string (P:=P) w t (.string s) (some (.int k1 (i:Int))) (some (.int k2 (j:Int))) none (jA a)]at h
 simp[execOp,b,c,e,h]
theorem zL7{s:ByteArray}{k1 k2:IntKind}{i j:Nat}(a:jI P t=true)(b:ev f x= .string s)(c:ev f y= .int k1 (i:Int))(e:ev f z= .int k2 (j:Int))(h1:i≤j)(h2:j≤s.size)(g:Nat.blt d n=true)
 (k:CL P n ops rest N (upd f d (.string (s.extract i j))) A):CL P n ops (⟨some d, .slice t x (some y) (some z) none,ty,p,af,none⟩::rest) N f A:=yN g (zRp a b c e h1 h2) k
theorem zDx{a:Array UInt8}:(⟨a⟩:ByteArray).size=a.size:=rfl
theorem zHy{s u:ByteArray}(a:ev f x= .string s)(b:ev f y= .string u)(c:s.size+u.size≤9223372036854775807):RV P f ⟨some d, .binOp .add t x y t',ty,p,af,none⟩ A (.string (s++u)):=fun w _=>by
 have h:¬(((s.size+u.size:Nat):Int)>IntKind.i64.max):=by
   show ¬(((s.size+u.size:Nat):Int)>9223372036854775807)
   omega
 have h2:Op.stringOp .add s u=pure (.string (s++u)):=by
   unfold Op.stringOp
   simp only[if_neg h]
 simp[execOp,a,b,eqGuard,binOp,h2]
theorem zHz{s u:ByteArray}(a:ev f x= .string s)(b:ev f y= .string u)(c:s.size+u.size≤9223372036854775807)(e:Nat.blt d n=true)(k:CL P n ops rest N (upd f d (.string (s++u))) A):CL P n ops (⟨some d, .binOp .add t x y t',ty,p,af,none⟩::rest) N f A:=yN e (zHy a b c) k
def zRk(P:Program)(t:TypeId)(i:Nat):Option (Nat×Nat):=
 match P.underlying t with
 |some (.struct fs)=>(fs[i]?).bind fun f=>(jF P f.type).map fun n=>(f.offset,n)
 |_=>none
theorem zR5{o m i:Nat}{cs us:Array Value}(e:ev f x= .agg cs)(ho:zRk P t i=some (o,m))(hv:cs.extract o (o+m)=us):RV P f ⟨some d, .field t x i,ty,p,af,none⟩ A (.agg us):=
 fun w _=>by
   unfold zRk at ho
   split at ho
   · rename_i fs hfs
     simp only[Option.bind_eq_some_iff,Option.map_eq_some_iff]at ho
     obtain⟨fl,a,n,g,ho⟩:=ho
     cases ho
     obtain⟨h2,h,b,c⟩:=zEo g
     simp[execOp,e,Instr.field,zp hfs,a,asAgg,part,h2,sizeOf,typeInfo,b,c,hv]
   cases ho
theorem zRB{o m i:Nat}{cs us:Array Value}(a:ev f x= .agg cs)(ho:zRk P t i=some (o,m))(hv:cs.extract o (o+m)=us)(b:Nat.blt d n=true)(k:CL P n ops rest N (upd f d (.agg us)) A):CL P n ops (⟨some d, .field t x i,ty,p,af,none⟩::rest) N f A:=yN b (zR5 a ho hv) k
theorem zMH{b:Nat}{ty':TypeId}(m:zEB P t=true)(a:(P.info? t').isSome=true)(c:ev f x= .pointer (some ⟨b,0,none⟩))(e:ev f y= .pointer (some ⟨b,0,none⟩))(g:P.underlying t=some (.pointer t')):
   RV P f ⟨some d, .binOp .neq t x y ty',ty,p,af,none⟩ A yC:=fun w _=>by
 obtain⟨j,i⟩:=Option.isSome_iff_exists.1 a
 have l:∀ k:Nat,(Op.equalIn (k+1) t (.pointer (some ⟨b,0,none⟩)) (.pointer (some ⟨b,0,none⟩))).run P w= .ok true w:=fun k=>by simp[Op.equalIn,run_underlying g,sizeOf,typeInfo,i,run_sameAddr_same]
 have h:(Op.equal t (.pointer (some ⟨b,0,none⟩)) (.pointer (some ⟨b,0,none⟩))).run P w= .ok true w:=l 9999
 simp only[execOp,c,e,eqGuard,zE2]
 simp[h]
theorem Row.notFrozen{w:World}{b o:Nat}{e:TypeId}{cs:List Value}(h:Row w b e cs):w.frozen? ⟨b,o,none⟩=false:=by
 obtain⟨lo,hi,h1,h2⟩:=h
 simp only[World.frozen?,h1]
 rcases h2 with h2|h2
 · simp;omega
 exact h2.elim
theorem zNF(i j:Nat){b c:Nat}{T:TypeId}{us vs:List Value}{ty':TypeId}(a:i≠j)(n:P.underlying t=some (.pointer t'))(l:(P.info? t').map (fun i=>Nat.ble 1 i.size)=some true)(r:ev f x= .pointer (some ⟨b,0,none⟩))(s:ev f y= .pointer (some ⟨c,0,none⟩))(h1:L[i]?=some (Res.row b T us))(h2:L[j]?=some (Res.row c T vs))(l1:0<us.length)(l2:0<vs.length):
   RV P f ⟨some d, .binOp .neq t x y ty',ty,p,af,none⟩ (Own w0 S L) xx:=fun w e=>by
 have r1:Row w b T us:=e.holds i _ h1
 have m:Row w c T vs:=e.holds j _ h2
 have g:b≠c:=fun q=>e.apart i j _ _ a h1 h2 b qM (by simp[Res.row,q])
 have u:=fun o=>r1.notFrozen (o:=o)
 have v:=fun o=>m.notFrozen (o:=o)
 obtain⟨_,_,g1,_⟩:=r1
 obtain⟨_,_,z,_⟩:=m
 cases hq:P.info? t' with
 |none=>simp[hq]at l
 |some i0=>
   have hi:i0.size≠0:=by
     have:Nat.ble 1 i0.size=true:=by simpa [hq]using l
     have:=Nat.le_of_ble_eq_true this
     omega
   have hs:(sameAddr ⟨b,0,none⟩ ⟨c,0,none⟩).run P w= .ok false w:=by
     simp[sameAddr,g,noView,viewAt,World.shape?,mayBeOne,stringish,u,v,g1,z]
   have h9:∀ k:Nat,(Op.equalIn (k+1) t (.pointer (some ⟨b,0,none⟩)) (.pointer (some ⟨c,0,none⟩))).run P w= .ok false w:=fun k=>by simp[Op.equalIn,run_underlying n,sizeOf,typeInfo,hq,hi,hs]
   have h:(Op.equal t (.pointer (some ⟨b,0,none⟩)) (.pointer (some ⟨c,0,none⟩))).run P w= .ok false w:=h9 9999
   simp only[execOp,r,s,eqGuard,zE2]
   simp[h]
variable {k:IntKind} {a b:Int}
def zTC(k:IntKind)(a b:Int):Int:=k.wrap (((a%2 ^ k.bits).toNat ^^^ (b%2 ^ k.bits).toNat:Nat):Int)
def zHp(k:IntKind)(a b:Int):Int:=k.wrap (((a%2 ^ k.bits).toNat&&& (b%2 ^ k.bits).toNat:Nat):Int)
def zB4(k:IntKind)(a b:Int):Int:=a.fdiv (2 ^ (min b.toNat k.bits))
def jD(k:IntKind)(a:Int):Int:=k.wrap (0 - a)
def zML(k:IntKind)(a:Int):Int:=zTC k (if k.signed then -1 else k.max) a
theorem zGL(b:ev f x= .int k a):RV P f ⟨some d, .unOp .neg t x,ty,p,af,none⟩ A (.int k (jD k a)):=fun w _=>by
 simp[execOp,b,Op.unary,Op.intArith,jD]
theorem zFr(b:ev f x= .int k a)(c:Nat.blt d n=true)(e:CL P n ops rest N (upd f d (.int k (jD k a))) A):CL P n ops (⟨some d, .unOp .neg t x,ty,p,af,none⟩::rest) N f A:=yN c (zGL b) e
theorem zTj(b:ev f x= .int k a):RV P f ⟨some d, .unOp .xor t x,ty,p,af,none⟩ A (.int k (zML k a)):=fun w _=>by
 simp[execOp,b,Op.unary,Op.intBits,zML,zTC]
theorem zSy(b:ev f x= .int k a)(c:Nat.blt d n=true)(e:CL P n ops rest N (upd f d (.int k (zML k a))) A):CL P n ops (⟨some d, .unOp .xor t x,ty,p,af,none⟩::rest) N f A:=yN c (zTj b) e
theorem zKv{v:Value}{len:Nat}{cs:List Value}{t':TypeId}(b:kA P t=true)(c:ev f x=v)(g:ev f y=zW)(h:∀ w,A w→Sl w v len cs):RV P f ⟨some d, .binOp .neq t x y t',ty,p,af,none⟩ A (.bool (!zAX v)):=by
 intro w hw
 obtain⟨a,cap,rfl, -⟩:=(h w hw).shape
 unfold kA at b
 split at b
 · rename_i e he
   have i:(Op.equal t (.slice a len cap) zW).run P w= .ok a.isNone w:=zHd 9999 he a len cap w
   simp only[execOp,c,g,eqGuard,zPf]
   simp[i,zAX]
 cases b
theorem zLG{v:Value}{len:Nat}{cs:List Value}{t':TypeId}(a:kA P t=true)(b:ev f x=v)(c:ev f y=zW)(e:∀ w,A w→Sl w v len cs)(g:Nat.blt d n=true)(k:CL P n ops rest N (upd f d (.bool (!zAX v))) A):CL P n ops (⟨some d, .binOp .neq t x y t',ty,p,af,none⟩::rest) N f A:=
 yN g (zKv a b c e) k
end
theorem zP4{P:Program}{n:Nat}{fn:Func}{R:Value→World→Prop}{A:World→Prop}{f:Nat→Value}{t0 t1 t2:Tmp}{T:TypeId}{b:Nat}{cs:List Value}{v0 v2:Value}(d:fn.results= #[.tmp t0, .cell t1 T, .tmp t2])(e:f t0=v0)(h1:f t1= .pointer (some ⟨b,0,none⟩))(h2:f t2=v2)
   (g:jF P T=some cs.length) (j:∀ w,A w→∀ i u,cs[i]?=some u→w.cell? ⟨b,0+i,none⟩=some u) (h:∀ w,A w→R (.tuple #[v0, .agg cs.toArray,v2]) w):∀ w,A w→zBb P fn n R f w:=
 fun w c=>⟨_,fun a k=>by
   have:=y7 (P:=P) g (j w c)
   simp[results,d,k.get,e,h1,h2,asAddr,this],h w c⟩
theorem zUf{P:Program}{n:Nat}{fn:Func}{R:Value→World→Prop}{A:World→Prop}{f:Nat→Value}{t u s r:Tmp}{v v' v'' v3:Value}(d:fn.results= #[.tmp t, .tmp u, .tmp s, .tmp r])(hv:f t=v)(c:f u=v')(b:f s=v'')(e:f r=v3)(h:∀ w,A w→R (.tuple #[v,v',v'',v3]) w):∀ w,A w→zBb P fn n R f w:=
 fun w g=>⟨_,fun a i=>by simp[results,d,i.get,hv,c,b,e],h w g⟩
theorem zNk(x:Int):0≤IntKind.u8.wrap x∧IntKind.u8.wrap x<256:=by
 rw[wu8];omega
theorem u8v(x:Int):vb (UInt8.ofNat (IntKind.u8.wrap x).toNat)=Value.int .u8 (IntKind.u8.wrap x):=by
 have h:=zNk x
 unfold vb
 rw[show((UInt8.ofNat (IntKind.u8.wrap x).toNat).toNat:Int)=IntKind.u8.wrap x by
   rw[UInt8.toNat_ofNat',Nat.mod_eq_of_lt qG];omega]
theorem zUY(a b c d:Int):([UInt8.ofNat (IntKind.u8.wrap a).toNat,UInt8.ofNat (IntKind.u8.wrap b).toNat,UInt8.ofNat (IntKind.u8.wrap c).toNat,UInt8.ofNat (IntKind.u8.wrap d).toNat]:List UInt8).map vb=[.int .u8 (IntKind.u8.wrap a), .int .u8 (IntKind.u8.wrap b), .int .u8 (IntKind.u8.wrap c), .int .u8 (IntKind.u8.wrap d)]:=by
 simp only[List.map_cons,List.map_nil,u8v]
section
variable {w0 w w':World} {S:List Nat} {L Ls Lin Lout:List Res}
theorem zGn{i:Nat}{r:Res}(h:L[i]?=some r): [i].mapM (fun i=>L[i]?)=some [r]:=by simp[h]
theorem Own.ofStar{rs:List Res}(h:(Res.star rs).φ w):Own w (xL rs) rs w:=
 ⟨Keep.refl _ _,h.2,fun _ r a=>h.1 r (List.mem_of_getElem? a),fun i r a b hb=> .inl (mem_fps.2 ⟨i,r,a,hb⟩)⟩
theorem zIq(r:Res):xL [r]=r.fp:=by simp[xL]
theorem Own.toStar{F:List Nat}{rs:List Res}(h:Own w0 F rs w):Own w0 F [Res.star rs] w:=by
 refine⟨h.keep,?_,?_,?_⟩
 · intro i j r s hij a c
   match i,j with
   |0,0=>exact absurd rfl hij
   |i+1,_=>simp at a
   |_,j+1=>simp at c
 · intro i r a
   match i with
   |0=>
     simp at a;subst a
     exact⟨fun r a=>by obtain⟨k,d,rfl⟩:=List.mem_iff_getElem.1 a;exact h.holds k _ (List.getElem?_eq_getElem d),h.apart⟩
   |i+1=>simp at a
 intro i r a b hb
 match i with
 |0=>simp at a;subst a;obtain⟨k,s,c,hb⟩:=mem_fps.1 hb;exact h.fresh k s c b hb
 |i+1=>simp at a
theorem Own.qi{rs:List Res}(i:Nat)(h1:L[i]?=some (Res.star rs))(h:Own w0 S L w):Own w0 S (y5 [i] 0 L++rs) w:=
 h.qc [i] (zGn h1) (by rw[zIq];exact Own.ofStar (h.holds i _ h1))
theorem Own.qg(m:List Nat)(a:m.mapM (fun i=>L[i]?)=some Lin)(b:m.Nodup)(h:Own w0 S L w):Own w0 S (y5 m 0 L++[Res.star Lin]) w:=
 h.qc m a (h.give m a b).toStar
theorem Own.shutEnd{rs:List Res}(h:Own w0 S (Ls++rs) w):Own w0 S (Ls++[Res.star rs]) w:=h.frameEnd h.giveEnd.toStar
theorem zHP{α:Type}[Inhabited α]{l:List α}{k:Nat}(h:k<l.length):l.Perm (zc l k::l.eraseIdx k):=by
 rw[List.eraseIdx_eq_take_drop_succ]
 have e:l=l.take k++zc l k::l.drop (k+1):=by rw[←zBl h,List.take_append_drop]
 calc l.Perm (l.take k++zc l k::l.drop (k+1)):=by rw[←e]
   _ |>.Perm (zc l k::(l.take k++l.drop (k+1))):=List.perm_middle
theorem zKf{α:Type}[Inhabited α]{l:List α}{k:Nat}{a:α}(h:k<l.length):(a::l.eraseIdx k).Perm (l.set k a):=by
 rw[List.eraseIdx_eq_take_drop_succ,List.set_eq_take_append_cons_drop,if_pos h]
 exact List.perm_middle.symm
theorem Own.qz{α:Type}[Inhabited α]{g:α→Res}{l:List α}(i k:Nat)(a:k<l.length)(h1:L[i]?=some (Res.star (l.map g)))(h:Own w0 S L w):Own w0 S (y5 [i] 0 L++[g (zc l k),Res.star ((l.eraseIdx k).map g)]) w:=by
 have hp:(l.map g).Perm (g (zc l k)::(l.eraseIdx k).map g):=(zHP a).map g
 refine h.qc [i] (zGn h1) ?_
 rw[zIq]
 have h2:Own w (xL (l.map g)) ([g (zc l k)]++(l.eraseIdx k).map g) w:=(Own.ofStar (h.holds i _ h1)).perm hp
 exact h2.shutEnd
theorem Own.qB{α:Type}[Inhabited α]{g:α→Res}{l:List α}(i j k:Nat)(a:α)(d:k<l.length)(b:i≠j)(h1:L[i]?=some (g a))(h2:L[j]?=some (Res.star ((l.eraseIdx k).map g)))(h:Own w0 S L w):Own w0 S (y5 [i,j] 0 L++[Res.star ((l.set k a).map g)]) w:=by
 have c: [i,j].mapM (fun i=>L[i]?)=some [g a,Res.star ((l.eraseIdx k).map g)]:=by simp[h1,h2]
 have e:=h.give [i,j] c (by simp[b])
 refine h.qc [i,j] c ?_
 have f:=e.qi 1 rfl
 have m:Own w (xL [g a,Res.star ((l.eraseIdx k).map g)]) ((l.set k a).map g) w:=f.perm ((zKf d).map g)
 exact m.toStar
def Res.any{α:Type}(r:α→Res)(F:List Nat):Res where
 fp:=F
 φ w:=∃ a,(r a).φ w∧(r a).fp=F
 st w w' h hb:=by obtain⟨a,h,e⟩:=h;exact⟨a,(r a).st w w' h (by rw[e];exact hb),e⟩
 lt w h b hb:=by obtain⟨a,h,e⟩:=h;exact(r a).lt w h b (by rw[e];exact hb)
theorem Own.qq{rs:List Res}{r:Res}(i k:Nat)(h1:L[i]?=some (Res.star rs))(h2:rs[k]?=some r)(h:Own w0 S L w):Rd w [] r:=h.star0 i h1 r (List.mem_of_getElem? h2)
theorem Own.qr{rs:List Res}{T:TypeId}{sz m:Nat}{v:Value}{cs:List Value}(i k:Nat)(h1:L[i]?=some (Res.star rs))(h2:rs[k]?=some (Res.vec T sz v m cs))(h:Own w0 S L w):Rd w [] (Res.sl v m cs):=(h.qq i k h1 h2).sub Vec.sl zAA
end
section
variable {P:Program} {n:Nat} {ops:Array Oper} {N:K} {f:Nat→Value} {A:World→Prop} {rest:List Oper} {w0:World} {S:List Nat} {L:List Res}
variable {d:Nat} {ty:TypeId} {p:String} {af:Array Edge} {x y:Operand} {t e:TypeId}
end
end Go.Sc
