import Derived.Test.YthpoddkmhfhboaaGreatDoorFw3
import Derived.Laws.BytesArg
import Derived.Lib.ConvBytes
set_option linter.unusedSectionVars false
set_option linter.unusedSimpArgs false
set_option linter.unusedVariables false
namespace Go.Sc
theorem jx(b off k:Nat):(⟨b,off,none⟩:Addr).add k=⟨b,off+k,none⟩:=by
 unfold Addr.add
 split
 · rename_i h;simp[h]
 rfl
theorem jS{P:Program}{t:TypeId}(b:one P t=true){w:World}{a:Addr}{v:Value}(c:w.cell? a=some v):(loadVar t a).run P w= .ok v w:=by
 obtain⟨h1,i,hi,d⟩:=zGP b
 simp[loadVar,h1,load,Sem.run,c]
theorem y7{P:Program}{t:TypeId}{cs:List Value}(a:jF P t=some cs.length){w:World}{b off:Nat}(c:∀ i u,cs[i]?=some u→w.cell? ⟨b,off+i,none⟩=some u):(loadVar t ⟨b,off,none⟩).run P w= .ok (.agg cs.toArray) w:=by
 obtain⟨h1,i,hi,d⟩:=zEo a
 have:=run_loadCells_list (P:=P) (w:=w) ⟨b,off,none⟩ cs (fun j v hv=>by rw[jx];exact c j v hv)
 simp[loadVar,h1,sizeOf,typeInfo,hi,d,this]
def cell1:Value→Bool
 | .agg _=>false
 | .tuple _=>false
 |_=>true
theorem kz{v:Value}(h:cell1 v=true):v.cells= #[v]:=by cases v<;>first|rfl|cases h
theorem zKC{v:Value}(h:cell1 v=true):v.oneCell'=true:=by cases v<;>first|rfl|cases h
theorem zBK{P:Program}{w:World}{a:Addr}{v u:Value}(hv:cell1 v=true)(b:w.cell? a=some u)(c:w.frozen? a=false):(store a v).run P w= .ok () (w.setCell a v):=by
 unfold store
 cases v<;>first|(simp[cell1]at hv;done)|simp[Sem.run,b,c]
theorem zBC{P:Program}{t:TypeId}{i:TypeInfo}(hi:P.info? t=some i)(a:i.size=1){w:World}{b off:Nat}{v u:Value}(hv:cell1 v=true)(c:w.cell? ⟨b,off,none⟩=some u)(d:w.frozen? ⟨b,off,none⟩=false):
   (storeVar t ⟨b,off,none⟩ v).run P w= .ok () (w.setCell ⟨b,off,none⟩ v):=by
 have:=zBK (P:=P) hv c d
 simp[storeVar,sizeOf,typeInfo,hi,a,kz hv,storeCells,jx,this]
def yc(l:List Value)(off:Nat)(cs:List Value):List Value:=l.take off++cs++l.drop (off+cs.length)
theorem _root_.Go.Sc.qN{p:Prop}(h:p:=by simp;omega):p:=h
theorem zBv{P:Program}{b off:Nat}{e:TypeId}:∀ (cs l:List Value) (k:Nat) (w:World),(∀ v∈cs,cell1 v=true)→Row w b e l→off+k+cs.length≤l.length→
   ∃ f,(storeCells ⟨b,off,none⟩ cs k).run P w= .ok () f∧Row f b e (yc l (off+k) cs)∧Keep [b] w f
 | [],l,k,w,_,hr,_=>⟨w,by simp[storeCells],by simpa [yc]using hr,Keep.refl _ _⟩
 |v::cs,l,k,w,h1,hr,hl=>by
   simp only[List.length_cons]at hl
   have c:off+k<l.length:=by omega
   obtain⟨u,g⟩:∃ u,l[off+k]?=some u:=⟨l[off+k],by simp[c]⟩
   have i:=zBK (P:=P) (w:=w) (a:=⟨b,off+k,none⟩) (h1 v qJ) (hr.cell g) (hr.free c)
   have d:=hr.set (off:=off+k) v
   obtain⟨f,j,h,m⟩:=zBv (P:=P) (off:=off) cs (l.set (off+k) v) (k+1) _ (fun u g=>h1 u (by simp[g])) d.1 qN
   refine⟨f,?_,?_,d.2.trans m⟩
   · simp[storeCells,jx,i,j]
   have:yc (l.set (off+k) v) (off+(k+1)) cs=yc l (off+k) (v::cs):=by
     unfold yc
     have e1:(l.set (off+k) v).take (off+(k+1))=l.take (off+k)++[v]:=by
       rw[show off+(k+1)=(off+k)+1 by omega,List.take_set,List.take_succ_eq_append_getElem c,List.set_append_right _ _ qN]
       simp[Nat.min_eq_left (Nat.le_of_lt c)]
     have e2:(l.set (off+k) v).drop (off+(k+1)+cs.length)=l.drop (off+k+(cs.length+1)):=by
       rw[List.drop_set_of_lt qG]
       congr 1
       omega
     rw[e1,e2]
     simp
   rw[←this];exact h
section
variable {P:Program} {n:Nat} {ops:Array Oper} {N R:K} {f:Nat→Value} {A:World→Prop} {rest:List Oper}
variable {d:Nat} {ty:TypeId} {p:String} {af:Array Edge} {x y:Operand} {t:TypeId}
variable {w0:World} {S:List Nat} {L:List Res}
theorem zY{a:Addr}(b:ev f x= .pointer (some a)):RV P f ⟨some d, .nilCheck x,ty,p,af,none⟩ A ((.pointer (some a))):=
 fun w _=>by simp[execOp,b]
theorem zV{a:Addr}(b:ev f x= .pointer (some a))(c:Nat.blt d n=true)(k:CL P n ops rest N (upd f d (.pointer (some a))) A):CL P n ops (⟨some d, .nilCheck x,ty,p,af,none⟩::rest) N f A:=
 yN c (fun w _=>by simp[execOp,b]) k
theorem zTD{b off o i:Nat}(e:ev f x= .pointer (some ⟨b,off,none⟩))(ho:zCW P t i=some o):RV P f ⟨some d, .fieldAddr t x i,ty,p,af,none⟩ A ((.pointer (some ⟨b,off+o,none⟩))):=
 fun w _=>by
   unfold zCW at ho
   split at ho
   · rename_i fs hfs
     simp only[Option.bind_eq_some_iff]at ho
     obtain⟨fl,a,g,c,ho⟩:=ho
     split at ho
     · cases ho
     rename_i hz
     simp at ho;subst ho
     simp[execOp,e,Instr.fieldAt,zp hfs,a,Instr.sureAddr,fieldPlace,sizeOf,typeInfo,c,hz,jx]
   cases ho
theorem zTz{b off o i:Nat}(e:ev f x= .pointer (some ⟨b,off,none⟩))(ho:zCW P t i=some o)(g:Nat.blt d n=true)(k:CL P n ops rest N (upd f d (.pointer (some ⟨b,off+o,none⟩))) A):
   CL P n ops (⟨some d, .fieldAddr t x i,ty,p,af,none⟩::rest) N f A:=
 yN g (fun w _=>by
   unfold zCW at ho
   split at ho
   · rename_i fs hfs
     simp only[Option.bind_eq_some_iff]at ho
     obtain⟨fl,a,h,c,ho⟩:=ho
     split at ho
     · cases ho
     rename_i hz
     simp at ho;subst ho
     simp[execOp,e,Instr.fieldAt,zp hfs,a,Instr.sureAddr,fieldPlace,sizeOf,typeInfo,c,hz,jx]
   cases ho) k
theorem zTZ{k:IntKind}{i:Int}{j b off len cap sz:Nat}(g:ev f x= .slice (some ⟨b,off,none⟩) len cap)(h:ev f y= .int k i)(a:zA5 P t=some sz)(hi:i=j)(l:j<len):RV P f ⟨some d, .indexAddr t x y,ty,p,af,none⟩ A ((.pointer (some ⟨b,off+j*sz,none⟩))):=
 fun w _=>by
   unfold zA5 at a
   split at a
   · rename_i e he
     simp only[Option.map_eq_some_iff]at a
     obtain⟨n,c,rfl⟩:=a
     subst hi
     have m:(j:Int)<len:=by omega
     simp[execOp,g,h,Instr.indexAt,asIntOf,zp he,sizeOf,typeInfo,c,l,jx]
   cases a
theorem zQh{a:Addr}{v:Value}(b:ev f x= .pointer (some a))(c:one P t=true)(e:∀ w,A w→w.cell? a=some v):RV P f ⟨some d, .load t x,ty,p,af,none⟩ A (v):=
 fun w g=>by simp[execOp,b,Instr.loadAt,Instr.sureAddr,jS c (e w g)]
theorem zTh{a:Addr}{v:Value}(b:ev f x= .pointer (some a))(c:one P t=true)(e:∀ w,A w→w.cell? a=some v)(g:Nat.blt d n=true)(k:CL P n ops rest N (upd f d v) A):
   CL P n ops (⟨some d, .load t x,ty,p,af,none⟩::rest) N f A:=
 yN g (fun w h=>by simp[execOp,b,Instr.loadAt,Instr.sureAddr,jS c (e w h)]) k
theorem zME{b off:Nat}{cs:List Value}(a:ev f x= .pointer (some ⟨b,off,none⟩))(c:jF P t=some cs.length)(e:∀ w,A w→∀ i u,cs[i]?=some u→w.cell? ⟨b,off+i,none⟩=some u):RV P f ⟨some d, .load t x,ty,p,af,none⟩ A ((.agg cs.toArray)):=
 fun w g=>by simp[execOp,a,Instr.loadAt,Instr.sureAddr,y7 c (e w g)]
theorem zT2{b off:Nat}{cs:List Value}(a:ev f x= .pointer (some ⟨b,off,none⟩))(c:jF P t=some cs.length)(e:∀ w,A w→∀ i u,cs[i]?=some u→w.cell? ⟨b,off+i,none⟩=some u)(g:Nat.blt d n=true)
   (k:CL P n ops rest N (upd f d (.agg cs.toArray)) A):CL P n ops (⟨some d, .load t x,ty,p,af,none⟩::rest) N f A:=
 yN g (fun w h=>by simp[execOp,a,Instr.loadAt,Instr.sureAddr,y7 c (e w h)]) k
theorem zIv(i:Nat){b off:Nat}{e:TypeId}{cs:List Value}{v:Value}(a:ev f x= .pointer (some ⟨b,off,none⟩))(c:L[i]?=some (Res.row b e cs))(hv:cs[off]?=some v)(g:one P t=true):RV P f ⟨some d, .load t x,ty,p,af,none⟩ (Own w0 S L) (v):=
 zQh a g (fun w h=>h.rowCell c hv)
theorem zTF(i:Nat){b off:Nat}{e:TypeId}{cs:List Value}{v:Value}(a:ev f x= .pointer (some ⟨b,off,none⟩))(c:L[i]?=some (Res.row b e cs))(hv:cs[off]?=some v)(g:one P t=true)(h:Nat.blt d n=true)
   (k:CL P n ops rest N (upd f d v) (Own w0 S L)):CL P n ops (⟨some d, .load t x,ty,p,af,none⟩::rest) N f (Own w0 S L):=
 zTh a g (fun w j=>j.rowCell c hv) h k
theorem zTd(i:Nat){b:Nat}{e:TypeId}{cs:List Value}(a:ev f x= .pointer (some ⟨b,0,none⟩))(c:L[i]?=some (Res.row b e cs))(g:jF P t=some cs.length):RV P f ⟨some d, .load t x,ty,p,af,none⟩ (Own w0 S L) ((.agg cs.toArray)):=
 zME a g (fun w h j u k=>h.rowCell c (by simpa using k))
theorem zSz(i:Nat){b:Nat}{e:TypeId}{cs:List Value}(a:ev f x= .pointer (some ⟨b,0,none⟩))(c:L[i]?=some (Res.row b e cs))(g:jF P t=some cs.length)(h:Nat.blt d n=true)
   (k:CL P n ops rest N (upd f d (.agg cs.toArray)) (Own w0 S L)):CL P n ops (⟨some d, .load t x,ty,p,af,none⟩::rest) N f (Own w0 S L):=
 zT2 a g (fun w l j u m=>l.rowCell c (by simpa using m)) h k
theorem zBG{b off:Nat}{v:Value}(a:ev f x= .pointer (some ⟨b,off,none⟩))(c:w0.cell? ⟨b,off,none⟩=some v)(hb:b∉S)(e:one P t=true):RV P f ⟨some d, .load t x,ty,p,af,none⟩ (Own w0 S L) (v):=
 zQh a e (fun w g=>g.oldCell c hb)
theorem zAT{b off:Nat}{v:Value}(a:ev f x= .pointer (some ⟨b,off,none⟩))(c:w0.cell? ⟨b,off,none⟩=some v)(hb:b∉S)(e:one P t=true)(g:Nat.blt d n=true)
   (k:CL P n ops rest N (upd f d v) (Own w0 S L)):CL P n ops (⟨some d, .load t x,ty,p,af,none⟩::rest) N f (Own w0 S L):=
 zTh a e (fun w h=>h.oldCell c hb) g k
theorem zUL(i:Nat){b off:Nat}{e:TypeId}{cs:List Value}{v:Value}(l:ev f x= .pointer (some ⟨b,off,none⟩))(m:ev f y=v)(g:L[i]?=some (Res.row b e cs))(h:jm P t=some 1)(hv:cell1 v=true)(ho:off<cs.length)
   (k:CL P n ops rest N f (Own w0 S (L.set i (Res.row b e (cs.set off v))))):CL P n ops (⟨none, .store t x y,ty,p,af,none⟩::rest) N f (Own w0 S L):=by
 intro w hw
 simp only[jm,Option.map_eq_some_iff]at h
 obtain⟨o,a,c⟩:=h
 have j:Row w b e cs:=hw.holds i _ g
 obtain⟨u,hu⟩:∃ u,cs[off]?=some u:=⟨cs[off],by simp[ho]⟩
 have d:=zBC (P:=P) a c (w:=w) (b:=b) (off:=off) hv (j.cell hu) (j.free ho)
 refine zBj (w':=w.setCell ⟨b,off,none⟩ v) ?_<|k _<|hw.setRow g v
 simp[execOp,l,m,Instr.storeAt,Instr.sureAddr,d]
theorem zSp(i:Nat){b off:Nat}{e:TypeId}{cs vs:List Value}(o:ev f x= .pointer (some ⟨b,off,none⟩))(q:ev f y= .agg vs.toArray)(j:L[i]?=some (Res.row b e cs))(l:jm P t=some vs.length)(hv:∀ v∈vs,cell1 v=true)(ho:off+vs.length≤cs.length)
   (k:CL P n ops rest N f (Own w0 S (L.set i (Res.row b e (yc cs off vs))))):CL P n ops (⟨none, .store t x y,ty,p,af,none⟩::rest) N f (Own w0 S L):=by
 intro w hw
 simp only[jm,Option.map_eq_some_iff]at l
 obtain⟨z,a,c⟩:=l
 have r:Row w b e cs:=hw.holds i _ j
 obtain⟨m,d,g,s⟩:=zBv (P:=P) (off:=off) vs cs 0 w hv r qG
 have u:=hw.frame1 (r':=Res.row b e (yc cs off vs)) (E:=[]) j (Own.mk1 s g (fun b' h=> .inl h))
 refine zBj (w':=m) ?_<|k _ (by simpa using u)
 simp[execOp,o,q,Instr.storeAt,Instr.sureAddr,storeVar,sizeOf,typeInfo,a,c,Value.cells,d]
theorem zj{v:Value}(a:ev f x=v)(c:Nat.blt d n=true)(k:∀ b,CL P n ops rest N (upd f d (.pointer (some ⟨b,0,none⟩))) (Own w0 S (L++[Res.row b t v.cells.toList]))):
   CL P n ops (⟨some d, .box t x,ty,p,af,none⟩::rest) N f (Own w0 S L):=by
 intro w hw
 refine xc (w':=w.alloc (.cells v.cells.toList.toArray t)) ?_ c<|k w.heap.size _<|hw.alloc t v.cells.toList
 simp[execOp,a,Instr.box,newVar,newRow]
theorem zk{v:Value}(e:x2 P t=some v)(g:Nat.blt d n=true)(k:∀ b,CL P n ops rest N (upd f d (.pointer (some ⟨b,0,none⟩))) (Own w0 S (L++[Res.row b t v.cells.toList]))):
   CL P n ops (⟨some d, .alloc t,ty,p,af,none⟩::rest) N f (Own w0 S L):=by
 intro w hw
 simp only[x2,Option.bind_eq_some_iff]at e
 obtain⟨h,a,c⟩:=e
 refine xc (w':=w.alloc (.cells v.cells.toList.toArray t)) ?_ g<|k w.heap.size _<|hw.alloc t v.cells.toList
 simp[execOp,Instr.alloc,zeroValue,typeInfo,a,c,newVar,newRow]
theorem zCR{g:FuncId}{l:List Operand}{vs:List Value}{ats:Array TypeId}(b:x9 P g=true)(c:l.map (ev f)=vs)(e:Nat.blt d n=true)
   (h:∀ w,A w→Rets P g vs.toArray w fun v a=>WL P n ops rest N (upd f d v) a):CL P n ops (⟨some d, .call ⟨.value (.func g),l.toArray,ats⟩,ty,p,af,none⟩::rest) N f A:=by
 intro w hw
 refine zGd (w':=w) (g:=g) (args:=vs.toArray) ?_ e<|h w hw
 have i:=ku b w vs.toArray
 simp[execOp,resolve,ev,Deferred.ofValue,invoke,c,i]
theorem yM{g:FuncId}{s:Nat}{l:List Operand}{vs fst cap:List Value}{ats:Array TypeId}(c:f s= .func (.func g) fst.toArray cap.toArray)(e:x9 P g=true)(i:l.map (ev f)=vs)(j:Nat.blt d n=true)
   (h:∀ w,A w→Rets P g (fst++vs++cap).toArray w fun v a=>WL P n ops rest N (upd f d v) a):CL P n ops (⟨some d, .call ⟨.value (.tmp s),l.toArray,ats⟩,ty,p,af,none⟩::rest) N f A:=by
 intro w hw
 refine zGd (w':=w) (g:=g) (args:=(fst++vs++cap).toArray) ?_ j<|h w hw
 have b:=ku e w (fst++vs++cap).toArray
 simp only[List.append_assoc]at b
 simp[execOp,resolve,ev,c,Deferred.ofValue,invoke,i,b]
theorem zEF{g:Fn}{a b:List Operand}{va vb:List Value}(c:a.map (ev f)=va)(hb:b.map (ev f)=vb):RV P f ⟨some d, .makeFunc g a.toArray b.toArray,ty,p,af,none⟩ A ((.func g va.toArray vb.toArray)):=
 fun w _=>by simp[execOp,Instr.makeFunc,c,hb]
theorem j7{g:Fn}{a b:List Operand}{va vb:List Value}(c:a.map (ev f)=va)(hb:b.map (ev f)=vb)(e:Nat.blt d n=true)(k:CL P n ops rest N (upd f d (.func g va.toArray vb.toArray)) A):
   CL P n ops (⟨some d, .makeFunc g a.toArray b.toArray,ty,p,af,none⟩::rest) N f A:=
 yN e (fun w _=>by simp[execOp,Instr.makeFunc,c,hb]) k
theorem zMw(d:Nat){e:TypeId}(b:P.underlying t=some (.pointer e))(a:Option Addr)(w:World):(Op.equalIn (d+1) t (.pointer a) (.pointer none)).run P w= .ok a.isNone w:=by
 cases a<;>simp[Op.equalIn,zp b]
theorem zHd(d:Nat){e:TypeId}(b:P.underlying t=some (.slice e))(a:Option Addr)(i j:Nat)(w:World):(Op.equalIn (d+1) t (.slice a i j) zW).run P w= .ok a.isNone w:=by
 cases a<;>simp[Op.equalIn,zp b]
theorem zOo(a b:Option Addr):binOp .eql t (.pointer a) (.pointer b)=(do pure (.bool (←Op.equal t (.pointer a) (.pointer b)))):=rfl
theorem zE2(a b:Option Addr):binOp .neq t (.pointer a) (.pointer b)=(do pure (.bool (!(←Op.equal t (.pointer a) (.pointer b))))):=rfl
theorem zIg(a b:Option Addr)(i j k l:Nat):binOp .eql t (.slice a i j) (.slice b k l)=(do pure (.bool (←Op.equal t (.slice a i j) (.slice b k l)))):=rfl
theorem zPf(a b:Option Addr)(i j k l:Nat):binOp .neq t (.slice a i j) (.slice b k l)=(do pure (.bool (!(←Op.equal t (.slice a i j) (.slice b k l))))):=rfl
theorem yE{a:Option Addr}{t':TypeId}(b:zEB P t=true)(c:ev f x= .pointer a)(g:ev f y= .pointer none)(h:Nat.blt d n=true)(k:CL P n ops rest N (upd f d (.bool a.isNone)) A):
   CL P n ops (⟨some d, .binOp .eql t x y t',ty,p,af,none⟩::rest) N f A:=
 yN h (fun w _=>by
   unfold zEB at b
   split at b
   · rename_i e he
     have i:(Op.equal t (.pointer a) (.pointer none)).run P w= .ok a.isNone w:=zMw 9999 he a w
     simp only[execOp,c,g,eqGuard,zOo]
     simp[i]
   cases b) k
theorem jt{a:Option Addr}{t':TypeId}(b:zEB P t=true)(c:ev f x= .pointer a)(g:ev f y= .pointer none)(h:Nat.blt d n=true)(k:CL P n ops rest N (upd f d (.bool a.isSome)) A):
   CL P n ops (⟨some d, .binOp .neq t x y t',ty,p,af,none⟩::rest) N f A:=
 yN h (fun w _=>by
   unfold zEB at b
   split at b
   · rename_i e he
     have i:(Op.equal t (.pointer a) (.pointer none)).run P w= .ok a.isNone w:=zMw 9999 he a w
     simp only[execOp,c,g,eqGuard,zE2]
     simp[i]
   cases b) k
theorem zR9{a:Option Addr}{len cap:Nat}{t':TypeId}(b:kA P t=true)(c:ev f x= .slice a len cap)(g:ev f y=zW):RV P f ⟨some d, .binOp .eql t x y t',ty,p,af,none⟩ A ((.bool a.isNone)):=
 fun w _=>by
   unfold kA at b
   split at b
   · rename_i e he
     have h:(Op.equal t (.slice a len cap) zW).run P w= .ok a.isNone w:=zHd 9999 he a len cap w
     simp only[execOp,c,g,eqGuard,zIg]
     simp[h]
   cases b
theorem zGw{a:Option Addr}{len cap:Nat}{t':TypeId}(b:kA P t=true)(c:ev f x= .slice a len cap)(g:ev f y=zW)(h:Nat.blt d n=true)(k:CL P n ops rest N (upd f d (.bool a.isNone)) A):
   CL P n ops (⟨some d, .binOp .eql t x y t',ty,p,af,none⟩::rest) N f A:=
 yN h (fun w _=>by
   unfold kA at b
   split at b
   · rename_i e he
     have i:(Op.equal t (.slice a len cap) zW).run P w= .ok a.isNone w:=zHd 9999 he a len cap w
     simp only[execOp,c,g,eqGuard,zIg]
     simp[i]
   cases b) k
theorem zSx{a:Option Addr}{len cap:Nat}(b:kA P t=true)(c:ev f x= .slice a len cap):RV P f ⟨some d, .call ⟨.builtin .len,#[x],#[t]⟩,ty,p,af,none⟩ A ((.int .i64 len)):=
 fun w _=>by
   unfold kA at b
   split at b
   · rename_i e he
     simp[execOp,resolve,invoke,builtin,Builtin.len_,c,zp he,goInt]
   cases b
theorem jM{a:Option Addr}{len cap:Nat}(b:kA P t=true)(c:ev f x= .slice a len cap)(g:Nat.blt d n=true)(k:CL P n ops rest N (upd f d (.int .i64 len)) A):
   CL P n ops (⟨some d, .call ⟨.builtin .len,#[x],#[t]⟩,ty,p,af,none⟩::rest) N f A:=
 yN g (fun w _=>by
   unfold kA at b
   split at b
   · rename_i e he
     simp[execOp,resolve,invoke,builtin,Builtin.len_,c,zp he,goInt]
   cases b) k
theorem zCa{s:ByteArray}(a:jI P t=true)(b:ev f x= .string s)(c:Nat.blt d n=true)(k:CL P n ops rest N (upd f d (.int .i64 s.size)) A):
   CL P n ops (⟨some d, .call ⟨.builtin .len,#[x],#[t]⟩,ty,p,af,none⟩::rest) N f A:=
 yN c (fun w _=>by
   unfold jI at a
   split at a
   · rename_i he
     simp[execOp,resolve,invoke,builtin,Builtin.len_,b,zp he,goInt]
   cases a) k
end
def slT(P:Program)(t:TypeId):Option (TypeId×Nat×Nat):=
 match P.underlying t with
 |some (.slice e)=>(P.info? e).bind fun i=>i.zero.bind fun z=>if z.cells.size=i.size∧0<i.size then some (e,i.size,i.bytes)else none
 |_=>none
theorem zAl{P:Program}{t e:TypeId}{sz by':Nat}(h:slT P t=some (e,sz,by')):
   P.underlying t=some (.slice e)∧∃ i z,P.info? e=some i∧i.zero=some z∧i.size=sz∧i.bytes=by'∧z.cells.size=sz∧0<sz:=by
 unfold slT at h
 split at h
 · rename_i e' he
   simp only[Option.bind_eq_some_iff]at h
   obtain⟨i,hi,z,a,h⟩:=h
   split at h
   · rename_i hc
     simp at h
     obtain⟨rfl,rfl,rfl⟩:=h
     exact⟨he,i,z,hi,a,O,O,hc.1,hc.2⟩
   cases h
 cases h
theorem xB:maxLen=9223372036854775807:=rfl
section
variable {P:Program} {w:World} {t e ty:TypeId} {sz by':Nat}
theorem zCd(w:World)(a news:List Value)(z:Value)(n m b:Nat)(h:z.cells.size=sz)(ho:a.length=n*sz)(hl:news.length=m*sz)(d:n+m≤maxLen):
   (w.drew.alloc (.cells (a.toArray++news.toArray++Builtin.zeroCells z.cells (grownCap w (n+m) b e - (n+m))) e)).ownsRow 0 e sz
       (.slice (some ⟨w.heap.size,0,none⟩) (n+m) (grownCap w (n+m) b e)) (n+m) (a++news)∧
   Keep [] w (w.drew.alloc (.cells (a.toArray++news.toArray++Builtin.zeroCells z.cells (grownCap w (n+m) b e - (n+m))) e)):=by
 have f:=grownCap_ge w (n+m) b e
 have g:grownCap w (n+m) b e≤maxLen:=grownCap_le_maxLen w (n+m) b e d
 have c:(a++news).length=(n+m)*sz:=by rw[List.length_append,ho,hl,Nat.add_mul]
 refine⟨⟨c, .inr ⟨w.heap.size,_,_,O,Nat.zero_le _,heap_alloc_new w.drew _,f,g,?_,?_⟩⟩,⟨O,O,O,by simp,fun k i _=>heap_alloc_old w.drew _ k i⟩⟩
 · simp only[Array.size_append,List.size_toArray,size_zeroCells,h,ho,hl,←Nat.add_mul]
   congr 1
   omega
 simp only[Array.toList_append,List.append_assoc]
 rw[←List.append_assoc,←c]
 exact List.take_left
theorem Sl.cells{u:Value}{m:Nat}{news:List Value}(h:Sl w u m news):(∃ a,u= .slice a 0 0∧m=0∧news=[])∨∃ b off cap,u= .slice (some ⟨b,off,none⟩) m cap∧∀ j v,news[j]?=some v→w.cell? ((⟨b,off,none⟩:Addr).add j)=some v:=by
 rcases h with h|⟨b,off,cap,rfl,h1,h2,d,c⟩
 · exact .inl h
 exact .inr ⟨b,off,cap,rfl,fun j v hv=>by rw[jx];exact c j v hv⟩
theorem zD9(ht:slT P t=some (e,sz,by')){v u:Value}{n m:Nat}{xs news:List Value}(c:w.ownsRow 0 e sz v n xs)(s:Sl w u m news)(hl:news.length=m*sz)(h1:∀ v∈news,cell1 v=true)
   (o:n+m≤maxLen) (hb:(n+m)*by'≤140737488355328):
   ∃ v' w',(Builtin.append_ #[t,t] ty #[v,u]).run P w= .ok v' w'∧Own w (xK v) [Res.vec e sz v' (n+m) (xs++news)] w':=by
 obtain⟨q,i,z,hi,hz,rfl,rfl,x,a5⟩:=zAl ht
 have a3:n+m≤9223372036854775807:=by rw[xB]at o;exact o
 have a4:∀ u∈news,u.oneCell'=true:=fun u q=>zKC (h1 u q)
 rcases s.cells with⟨a,rfl,rfl,rfl⟩|⟨b,off,cap,rfl,f⟩
 · refine⟨v,w,?_,Own.mk1 (Keep.refl _ _) (by simpa [Res.vec]using c) (fun b hb=> .inl hb)⟩
   rcases c.2 with⟨rfl,rfl⟩|⟨g,cap,p,rfl,h0,hg,y,a0,a1,l⟩
   · cases a<;>simp[Builtin.append_,run_underlying q,sizeOf,typeInfo,hi,Builtin.lenOf,Builtin.firstCells,loadCells,loadCellsFrom,storeCells]
   cases a<;>simp[Builtin.append_,run_underlying q,sizeOf,typeInfo,hi,Builtin.lenOf,Builtin.firstCells,y,loadCells,loadCellsFrom,storeCells]
 rcases c.2 with⟨rfl,rfl⟩|⟨g,d,p,rfl,h0,hg,y,a0,a1,l⟩
 · have hx:xs=[]:=List.eq_nil_of_length_eq_zero (by simpa using c.1)
   subst hx
   by_cases hm:m=0
   · subst hm
     have hn:news=[]:=List.eq_nil_of_length_eq_zero (by simpa using hl)
     subst hn
     refine⟨.slice none 0 0,w,?_,Own.mk1 (Keep.refl _ _) (by simpa [Res.vec]using c) (fun b hb=> .inl hb)⟩
     simp[Builtin.append_,run_underlying q,sizeOf,typeInfo,hi,Builtin.lenOf,Builtin.firstCells,loadCells,loadCellsFrom,storeCells]
   have hr:=run_append_nil (P:=P) w t ty e i z q hi hz ⟨b,off,none⟩ m cap news hl f qG qG (by have hb:=hb;simp only[Nat.zero_add]at hb;omega)
   have h:=zCd (e:=e) (sz:=i.size) w [] news z 0 m 0 x qJ hl o
   simp only[Nat.zero_add,List.nil_append,Array.empty_append]at h ⊢
   refine⟨_,_,hr,Own.mk1 (by simpa [xK]using h.2) h.1 ?_⟩
   intro b hb;simp[Res.vec,xK]at hb;right;omega
 by_cases hroom:n+m≤d
 · have a2:n*i.size+news.length≤p.size:=by rw[hl,a1,←Nat.add_mul];exact Nat.mul_le_mul_right _ hroom
   have hr:=run_append_room (P:=P) w t ty e i q hi g n d p hg ⟨b,off,none⟩ m cap news hl f a4 hroom a2
   have r:(xs++news).length=(n+m)*i.size:=by rw[List.length_append,c.1,hl,Nat.add_mul]
   refine⟨_,_,hr,Own.mk1 ⟨O,O,O,by simp,fun k _ hk=>setRow_other w g k _ (fun e=>hk (by simp[xK,e]))⟩ ⟨r, .inr ⟨g,d,_,O,Nat.zero_le _,setRow_heap w g p _ e _ hg,hroom,a0,?_,?_⟩⟩ (fun b hb=> .inl hb)⟩
   · simp only[List.size_toArray,List.length_append,List.length_take,List.length_drop,Array.length_toList]
     omega
   rw[l,←r]
   exact List.take_left
 have holds:∀ j u,xs[j]?=some u→w.cell? ((⟨g,0,none⟩:Addr).add j)=some u:=c.cells (g:=g) rfl
 have hr:=run_append_grow (P:=P) w t ty e i z q hi hz ⟨g,0,none⟩ n d xs c.1 holds ⟨b,off,none⟩ m cap news hl f qG qG (growslice_fits qG hb)
 have h:=zCd (e:=e) (sz:=i.size) w xs news z n m d x c.1 hl o
 refine⟨_,_,hr,Own.mk1 (h.2.mono qJ) h.1 ?_⟩
 intro b hb;simp[Res.vec,xK]at hb;right;omega
theorem zCy(r:slT P t=some (e,sz,by')){b off n m:Nat}{u:Value}{xs news:List Value}(hv:Sl w (.slice (some ⟨b,off,none⟩) n n) n xs)(o:xs.length=n*sz)(d:Sl w u m news)(hl:news.length=m*sz)(hm:0<m)
   (a:n+m≤maxLen) (hb:(n+m)*by'≤140737488355328):
   ∃ v' w',(Builtin.append_ #[t,t] ty #[.slice (some ⟨b,off,none⟩) n n,u]).run P w= .ok v' w'∧Own w [] [Res.vec e sz v' (n+m) (xs++news)] w':=by
 obtain⟨s,i,z,hi,x,rfl,rfl,l,y⟩:=zAl r
 have k:n+m≤9223372036854775807:=by rw[xB]at a;exact a
 rcases d.cells with⟨a',rfl,rfl,rfl⟩|⟨b',f,cap,rfl,c⟩
 · omega
 have holds:∀ j v,xs[j]?=some v→w.cell? ((⟨b,off,none⟩:Addr).add j)=some v:=by
   rcases hv.cells with⟨_,_,_,rfl⟩|⟨b1,p,q,h,holds⟩
   · intro j v hj;simp at hj
   simp at h
   obtain⟨⟨rfl,rfl⟩,rfl⟩:=h
   exact holds
 have hr:=run_append_grow (P:=P) w t ty e i z s hi x ⟨b,off,none⟩ n n xs o holds ⟨b',f,none⟩ m cap news hl c qG qG (growslice_fits qG hb)
 have g:=zCd (e:=e) (sz:=i.size) w xs news z n m n l o hl a
 refine⟨_,_,hr,Own.mk1 g.2 g.1 ?_⟩
 intro b hb;simp[Res.vec,xK]at hb;right;omega
end
def zAV(pl:Nat→Option (Nat×Nat))(cells:List Value):List (Nat×Value)→Option (List Value)
 | []=>some cells
 |(i,v)::rest=>
   match pl i with
   |none=>none
   |some (off,size)=>if v.cells.toList.length=size∧off+v.cells.toList.length≤cells.length then zAV pl (yc cells off v.cells.toList) rest else none
theorem zCC:∀ (vs:List Value) (cells:Array Value) (off k:Nat),off+k+vs.length≤cells.size→
   (vs.zipIdx k).foldl (fun cs (c,j)=>cs.setIfInBounds (off+j) c) cells=(yc cells.toList (off+k) vs).toArray
 | [],cells,off,k,_=>by simp[yc]
 |v::vs,cells,off,k,h=>by
   simp only[List.length_cons]at h
   rw[List.zipIdx_cons,List.foldl_cons]
   have:=zCC vs (cells.setIfInBounds (off+k) v) off (k+1) qN
   simp only at this ⊢
   rw[this]
   congr 1
   have a:off+k<cells.toList.length:=by simp;omega
   unfold yc
   simp only[Array.toList_setIfInBounds]
   have e1:(cells.toList.set (off+k) v).take (off+(k+1))=cells.toList.take (off+k)++[v]:=by
     rw[show off+(k+1)=(off+k)+1 by omega,List.take_set,List.take_succ_eq_append_getElem a,List.set_append_right _ _ qN]
     simp only[Array.length_toList]at a
     simp[Nat.min_eq_left (Nat.le_of_lt a)]
   have e2:(cells.toList.set (off+k) v).drop (off+(k+1)+vs.length)=cells.toList.drop (off+k+(vs.length+1)):=by
     rw[List.drop_set_of_lt qG]
     congr 1
     omega
   rw[e1,e2]
   simp
theorem zBz(pl:Nat→Option (Nat×Nat)):∀ (parts:List (Nat×Value)) (cells:List Value) (out:List Value),zAV pl cells parts=some out→Instr.fill pl cells.toArray parts=some out.toArray
 | [],cells,out,h=>by simp[zAV]at h;subst h;simp[Instr.fill]
 |(i,v)::rest,cells,out,h=>by
   unfold zAV at h
   unfold Instr.fill
   cases hp:pl i with
   |none=>rw[hp]at h;cases h
   |some q=>
     obtain⟨off,size⟩:=q
     rw[hp]at h
     simp only at h ⊢
     split at h
     · rename_i hc
       have a:v.cells.size=size:=by simpa using hc.1
       have b:off+v.cells.size≤cells.toArray.size:=by simpa using hc.2
       rw[if_neg (by simp only[a]at *;simp at *;omega)]
       have:=zCC v.cells.toList cells.toArray off 0 (by simpa using hc.2)
       have c:v.cells.zipIdx=(v.cells.toList.zipIdx 0).toArray:=by
         apply Array.ext'
         simp[Array.toList_zipIdx]
       rw[c,List.foldl_toArray,this]
       exact zBz pl rest _ out h
     cases h
def zA1(P:Program)(t:TypeId):Option (List Value×List (Nat×Nat)):=
 match P.underlying t,(P.info? t).bind (·.zero)with
 |some (.struct fs),some z=>(fs.toList.mapM fun(f:Field)=>(P.info? f.type).map fun i=>(f.offset,i.size)).map fun l=>(z.cells.toList,l)
 |_,_=>none
section
variable {P:Program} {n:Nat} {ops:Array Oper} {N R:K} {f:Nat→Value} {A:World→Prop} {rest:List Oper}
variable {d:Nat} {ty:TypeId} {p:String} {af:Array Edge} {x y:Operand} {t:TypeId}
variable {w0:World} {S:List Nat} {L:List Res}
theorem zBP{P:Program}(w:World):∀ (fs:List Field) (l:List (Nat×Nat)),(fs.mapM fun(f:Field)=>(P.info? f.type).map fun i=>(f.offset,i.size))=some l→
   (fs.mapM fun(f:Field)=>do pure (f.offset,←sizeOf f.type)).run P w= .ok l w
 | [],l,h=>by simp at h;subst h;simp
 |f::fs,l,h=>by
   simp only[List.mapM_cons,bind,Option.bind_eq_some_iff,Option.map_eq_some_iff,pure]at h
   obtain⟨q,⟨i,hi,rfl⟩,b,a,h⟩:=h
   simp at h;subst h
   have:=zBP w fs b a
   have c:(sizeOf f.type).run P w= .ok i.size w:=by simp[sizeOf,typeInfo,hi]
   simp only[List.mapM_cons,Sem.run_bind,Sem.run_pure,Result.andThen,c,this]
theorem xY{z:List Value}{pl:List (Nat×Nat)}{parts:List (Nat×Operand)}{cs:List Value}(a:zA1 P t=some (z,pl))(h:zAV (pl[·]?) z (parts.map fun q=>(q.1,ev f q.2))=some cs):RV P f ⟨some d, .build t parts.toArray,ty,p,af,none⟩ A ((.agg cs.toArray)):=
 fun w _=>by
   unfold zA1 at a
   split at a
   · rename_i fs z0 hu hz
     simp only[Option.map_eq_some_iff,Prod.mk.injEq]at a
     obtain⟨l,hl,rfl,rfl⟩:=a
     simp only[Option.bind_eq_some_iff]at hz
     obtain⟨j,b,c⟩:=hz
     have h1:=zBP (P:=P) w fs.toList l hl
     have h2:=zBz _ _ _ _ h
     have i:(fs.mapM fun(f:Field)=>do pure (f.offset,←sizeOf f.type):Sem _).run P w= .ok l.toArray w:=by
       cases fs with
       |mk fl=>
         have e:(List.mapM (fun(f:Field)=>Prod.mk f.offset<$>sizeOf f.type) fl).run P w= .ok l w:=by simpa using h1
         simp[e]
     have g:(fs.mapM (fun(f:Field)=>Prod.mk f.offset<$>sizeOf f.type):Sem _).run P w= .ok l.toArray w:=by simpa using i
     simp only[Array.toArray_toList]at h2
     simp[execOp,Instr.build,zeroValue,typeInfo,b,c,zp hu,g,h2]
   cases a
theorem yJ{z:List Value}{pl:List (Nat×Nat)}{parts:List (Nat×Operand)}{cs:List Value}(a:zA1 P t=some (z,pl))(h:zAV (pl[·]?) z (parts.map fun q=>(q.1,ev f q.2))=some cs)(i:Nat.blt d n=true)
   (k:CL P n ops rest N (upd f d (.agg cs.toArray)) A):CL P n ops (⟨some d, .build t parts.toArray,ty,p,af,none⟩::rest) N f A:=
 yN i (fun w _=>by
   unfold zA1 at a
   split at a
   · rename_i fs z0 hu hz
     simp only[Option.map_eq_some_iff,Prod.mk.injEq]at a
     obtain⟨l,hl,rfl,rfl⟩:=a
     simp only[Option.bind_eq_some_iff]at hz
     obtain⟨m,b,c⟩:=hz
     have h1:=zBP (P:=P) w fs.toList l hl
     have h2:=zBz _ _ _ _ h
     have j:(fs.mapM fun(f:Field)=>do pure (f.offset,←sizeOf f.type):Sem _).run P w= .ok l.toArray w:=by
       cases fs with
       |mk fl=>
         have e:(List.mapM (fun(f:Field)=>Prod.mk f.offset<$>sizeOf f.type) fl).run P w= .ok l w:=by simpa using h1
         simp[e]
     have g:(fs.mapM (fun(f:Field)=>Prod.mk f.offset<$>sizeOf f.type):Sem _).run P w= .ok l.toArray w:=by simpa using j
     simp only[Array.toArray_toList]at h2
     simp[execOp,Instr.build,zeroValue,typeInfo,b,c,zp hu,g,h2]
   cases a) k
theorem zEH{l cs:List Value}{off:Nat}(h:off+cs.length≤l.length):(yc l off cs).length=l.length:=by
 simp[yc];omega
theorem zCq{sz:Nat}:∀ {vs:List Value},(∀ v∈vs,v.cells.toList.length=sz)→(vs.flatMap fun v=>v.cells.toList).length=vs.length*sz
 | [],_=>by simp
 |v::vs,hc=>by rw[List.flatMap_cons,List.length_append,zCq (fun u a=>hc u (by simp[a])),hc v qJ,List.length_cons,Nat.add_mul];omega
theorem zEd(sz:Nat):∀ (vs:List Value) (k:Nat) (cells:List Value),(∀ v∈vs,v.cells.toList.length=sz)→cells.length=(k+vs.length)*sz→
   zAV (fun i=>some (i*sz,sz)) cells ((List.range' k vs.length).zip vs)=some (cells.take (k*sz)++vs.flatMap fun v=>v.cells.toList)
 | [],k,cells,_,hl=>by simp[zAV];rw[List.take_of_length_le];simp at hl;omega
 |v::vs,k,cells,hv,hl=>by
   have h1:=hv v qJ
   simp only[List.length_cons,List.range'_succ,List.zip_cons_cons,zAV]
   have a:k*sz+v.cells.toList.length≤cells.length:=by
     rw[h1,hl];simp only[List.length_cons]
     have:(k+(vs.length+1))*sz=k*sz+sz+vs.length*sz:=by rw[Nat.add_mul,Nat.add_mul];omega
     omega
   rw[if_pos ⟨h1,a⟩]
   have b:(yc cells (k*sz) v.cells.toList).length=cells.length:=zEH a
   have d:=zEd sz vs (k+1) (yc cells (k*sz) v.cells.toList) (fun u e=>hv u (by simp[e])) (by rw[b,hl];simp only[List.length_cons];congr 1;omega)
   rw[d]
   congr 1
   have:(yc cells (k*sz) v.cells.toList).take ((k+1)*sz)=cells.take (k*sz)++v.cells.toList:=by
     unfold yc
     have e1:(cells.take (k*sz)++v.cells.toList).length=(k+1)*sz:=by
       have c:v.cells.size=sz:=by simpa using h1
       rw[List.length_append,List.length_take,h1,Nat.add_mul,Nat.one_mul]
       simp only[h1,Array.length_toList,c]at a
       omega
     rw[←e1,List.take_left]
   rw[this]
   simp
theorem yH{len sz:Nat}{e:TypeId}{parts:List (Nat×Operand)}{vs:List Value}(h:(slT P t).map (fun q=>(q.1,q.2.1))=some (e,sz))(u:parts.map Prod.fst=List.range len)(hv:parts.map (fun q=>ev f q.2)=vs)
   (x:∀ v∈vs,v.cells.toList.length=sz) (hb:len*sz≤16777216) (hd:Nat.blt d n=true)
   (k:∀ b,CL P n ops rest N (upd f d (.slice (some ⟨b,0,none⟩) len len)) (Own w0 S (L++[Res.vec e sz (.slice (some ⟨b,0,none⟩) len len) len (vs.flatMap fun v=>v.cells.toList)]))):
   CL P n ops (⟨some d, .buildSlice t len parts.toArray,ty,p,af,none⟩::rest) N f (Own w0 S L):=by
 intro w hw
 simp only[Option.map_eq_some_iff]at h
 obtain⟨⟨e',c,a0⟩,h,y⟩:=h
 simp only[Prod.mk.injEq]at y
 obtain⟨rfl,rfl⟩:=y
 obtain⟨hu,i,z,hi,hz,hs,a1,a2,j⟩:=zAl h
 have g:vs.length=len:=by
   have:=congrArg List.length u
   rw[←hv];simpa using this
 have l:(parts.map fun q=>(q.1,ev f q.2))=(List.range' 0 vs.length).zip vs:=by
   have e1:(parts.map fun q=>(q.1,ev f q.2))=(parts.map Prod.fst).zip (parts.map fun q=>ev f q.2):=by
     rw[List.zip_map',]
   rw[e1,u,hv,g,List.range_eq_range']
 generalize hcells:(Array.range (len*c)).map ((if len*c=0 then #[]else z.cells)[· %(if len*c=0 then #[]else z.cells).size]!)=cells0
 have m:cells0.toList.length=(0+vs.length)*c:=by rw[←hcells];simp[g]
 have a:=zBz _ _ _ _ (zEd c vs 0 cells0.toList x m)
 simp only[Nat.zero_mul,List.take_zero,List.nil_append,Array.toArray_toList]at a
 rw[←l]at a
 have o:(vs.flatMap fun v=>v.cells.toList).length=len*c:=by rw[←g];exact zCq x
 have r:len≤maxLen:=by
   rw[xB]
   have:len*1≤len*c:=Nat.mul_le_mul_left _ j
   omega
 refine xc (w':=w.alloc (.cells (vs.flatMap fun v=>v.cells.toList).toArray e')) ?_ hd (k w.heap.size _ (hw.qb (Own.mk1 ⟨O,O,O,by simp,fun k hk _=>heap_alloc_old w _ k hk⟩ (zPe (heap_alloc_new w _) o r) ?_)))
 · have s:¬(16777216<len*c):=by omega
   by_cases h0:len*c=0
   · rw[if_pos h0]at hcells
     have e0:Array.range 0=(#[]:Array Nat):=rfl
     rw[h0,e0]at hcells
     simp only[Array.map_empty]at hcells
     rw[←hcells]at a
     simp[execOp,Instr.buildSlice,zp hu,sizeOf,typeInfo,hi,hs,h0,e0,newRow,a]
   rw[if_neg h0]at hcells
   simp[execOp,Instr.buildSlice,zp hu,sizeOf,typeInfo,hi,hs,s,h0,zeroValue,hz,newRow]
   rw[hcells,a]
   simp
 intro b hb
 simp[Res.vec,xK]at hb
 right;omega
end
end Go.Sc
