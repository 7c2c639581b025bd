import Derived.Test.YthpoddkmhfhboaaGreatDoorRlog
set_option linter.unusedSectionVars false
set_option linter.unusedSimpArgs false
set_option linter.unusedVariables false
namespace Go.Sc
open Go
section
variable {P:Program} {n:Nat} {ops:Array Oper} {N:K} {f:Nat→Value} {A:World→Prop} {rest:List Oper} {d:Nat} {ty:TypeId} {p:String} {af:Array Edge} {x y z:Operand}
def zKF(a b c:Int):Int:=if c>(if b>a then b else a)then c else(if b>a then b else a)
def zJ2(a b c:Int):Int:=if c<(if b<a then b else a)then c else(if b<a then b else a)
theorem zQB(a b c:Int):zKF a b c=max (max a b) c:=by unfold zKF;split<;>split at * <;>omega
theorem zP6(a b c:Int):zJ2 a b c=min (min a b) c:=by unfold zJ2;split<;>split at * <;>omega
theorem zTq(a b c:Nat):zKF a b c=((max (max a b) c:Nat):Int):=by rw[zQB];omega
theorem zTv(a b c:Nat):zJ2 a b c=((min (min a b) c:Nat):Int):=by rw[zP6];omega
theorem zRD{k k' k2:IntKind}{a b e c:Int}{ats:Array TypeId}(g:ev f x= .int k a)(i:ev f y= .int k' b)(j:ev f z= .int k2 e)(l:zKF a b e=c):RV P f ⟨some d, .call ⟨.builtin .max,#[x,y,z],ats⟩,ty,p,af,none⟩ A (.int k c):=by
 intro w _
 subst l
 by_cases h:b>a<;>simp[execOp,resolve,invoke,builtin,g,i,j,Builtin.max_,Builtin.max2,zKF,h]
theorem zQu{k k' k2:IntKind}{a b e c:Int}{ats:Array TypeId}(g:ev f x= .int k a)(i:ev f y= .int k' b)(j:ev f z= .int k2 e)(l:zJ2 a b e=c):RV P f ⟨some d, .call ⟨.builtin .min,#[x,y,z],ats⟩,ty,p,af,none⟩ A (.int k c):=by
 intro w _
 subst l
 by_cases h:b<a<;>simp[execOp,resolve,invoke,builtin,g,i,j,Builtin.min_,Builtin.min2,zJ2,h]
theorem zKu{k k' k2:IntKind}{a b e c:Int}{ats:Array TypeId}(g:ev f x= .int k a)(h:ev f y= .int k' b)(i:ev f z= .int k2 e)(j:zKF a b e=c)(l:Nat.blt d n=true)(m:CL P n ops rest N (upd f d (.int k c)) A):CL P n ops (⟨some d, .call ⟨.builtin .max,#[x,y,z],ats⟩,ty,p,af,none⟩::rest) N f A:=yN l (zRD g h i j) m
theorem zMu{k k' k2:IntKind}{a b e c:Int}{ats:Array TypeId}(g:ev f x= .int k a)(h:ev f y= .int k' b)(i:ev f z= .int k2 e)(j:zJ2 a b e=c)(l:Nat.blt d n=true)(m:CL P n ops rest N (upd f d (.int k c)) A):CL P n ops (⟨some d, .call ⟨.builtin .min,#[x,y,z],ats⟩,ty,p,af,none⟩::rest) N f A:=yN l (zQu g h i j) m
end
end Go.Sc
set_option maxRecDepth 10000
namespace Go.Proofs.YthpoddkmhfhboaaGreatDoor
open Go.Sc
def pt(b:Nat):Value:= .pointer (some ⟨b,0,none⟩)
def vI(v:Value)(l:List Int):Res:=Res.vec 3 1 v l.length (l.flatMap I1)
def vU(v:Value)(l:List Nat):Res:=Res.vec 31 1 v l.length (l.flatMap U1)
def vT(v:Value)(l:List Int):Res:=Res.vec 2 1 v l.length (l.flatMap I1)
def vY(v:Value)(l:List UInt8):Res:=Res.vec 5 1 v l.length (l.map vb)
theorem EntD.rd.qq{es:List EntD}{rs:List Res}{w0 w:World}{S:List Nat}{L:List Res}(i k:Nat)(h1:L[i]?=some (Res.star rs))(h2:rs[k]?=some (Res.star (es.map EntD.dres)))(a:Own w0 S L w):∀ p∈es,p.rd w []:=fun p hp=>EntD.dres_rd ((a.qq i k h1 h2).sub (fun h=>h.1 _ (List.mem_map_of_mem hp)) (fun b hb=>by obtain⟨j,c⟩:=List.mem_iff_getElem?.1 (List.mem_map_of_mem (f:=EntD.dres) hp);exact mem_fps.2 ⟨j,_,c,hb⟩))
def vE(v:Value)(l:List EntD):Res:=Res.vec 113 5 v l.length (l.flatMap EntD.cells)
def sE(l:List EntD):Res:=Res.star (l.map EntD.dres)
structure TimD where
 term:Nat
 ql:Int
 now:Int
 qt:Int
 due:Int
 qo:Int
 qk:Int
 gd:Int
 qh:Int
 deriving Inhabited
def TimD.cells(x:TimD):List Value:=[Vn x.term,Vi x.ql,Vi x.now,Vi x.qt,Vi x.due,Vi x.qo,Vi x.qk,Vi x.gd,Vi x.qh]
structure StA where
 id:Int
 nodes:Int
 voters:Int
 edges:Int
 rho:Int
 base:Int
 spread:Int
 beat:Int
 disk:Int
 post:Int
 keep:Int
 deriving Inhabited
def StA.cells(x:StA):List Value:=[Vi x.id,Vi x.nodes,Vi x.voters,Vi x.edges,Vi x.rho,Vi x.base,Vi x.spread,Vi x.beat,Vi x.disk,Vi x.post,Vi x.keep]
structure RolD where
 qm:Int
 who:Int
 qf:Nat
 deriving Inhabited
def RolD.cells(x:RolD):List Value:=[Vi x.qm,Vi x.who,Vn x.qf]
structure StB where
 vv:Value
 vs:List Int
 wv:Value
 dv:Value
 lb:Nat
 deriving Inhabited
def StB.cells(x:StB):List Value:=[x.vv,x.wv,x.dv, .pointer (some ⟨x.lb,0,none⟩)]
def xh(cb:Nat)(t:TimD)(lead:Value)(a:StA)(r:RolD)(b:StB)(yv:Value)(jb qe:Nat)(out:Value):Res:=
 Res.row cb 260 (TimD.cells t++(lead::(StA.cells a++(RolD.cells r++(Vn 0::Vn 0::(StB.cells b++[yv, .pointer (some ⟨jb,0,none⟩),Vn qe,out]))))))
structure PeerM where
 id:Int
 next:Nat
 mtch:Nat
 round:Nat
 flight:Int
 off:Int
 opn:Bool
 told:Bool
 asked:Bool
 deriving Inhabited
def PeerM.cells(x:PeerM):List Value:=[Vi x.id,Vn x.next,Vn x.mtch,Vn x.round,Vi x.flight,Vi x.off, .bool x.opn, .bool x.told, .bool x.asked]
abbrev PeerP:=Nat×PeerM
def PeerP.cells(x:PeerP):List Value:=[.pointer (some ⟨x.1,0,none⟩)]
def PeerP.dres(x:PeerP):Res:=Res.row x.1 344 (PeerM.cells x.2)
structure LookM where
 id:Nat
 index:Nat
 round:Nat
 deriving Inhabited
def LookM.cells(x:LookM):List Value:=[Vn x.id,Vn x.index,Vn x.round]
structure RdyD where
 id:Nat
 index:Nat
 deriving Inhabited
def RdyD.cells(x:RdyD):List Value:=[Vn x.id,Vn x.index]
structure LdD where
 pv:Value
 qD:List PeerP
 av:Value
 answered:List Int
 rv:Value
 rounds:List Int
 sure:Nat
 kv:Value
 qA:List LookM
 give:Int
 qE:Bool
def LdD.cells(x:LdD):List Value:=[x.pv,x.av,x.rv,Vn x.sure,x.kv,Vi x.give, .bool x.qE]
def zT7:ConfD:={vv:= .slice none 0 0,vs:=[],lv:= .slice none 0 0,ls:=[]}
def zUc(kind src dst:Int)(term index qp qf round:Nat)(flag:Bool)(ev:Value)(qs:List EntD):MsgD:=
 {kind:=kind,src:=src,dst:=dst,term:=term,index:=index,qp:=qp,qf:=qf,round:=round,flag:=flag,ev:=ev,qs:=qs,conf:=zT7,off:=0,dv:= .slice none 0 0,data:=[]}
def MsgD.plain(x:MsgD):Prop:=x.conf=zT7∧x.dv= .slice none 0 0∧x.data=[]
def Res.when(p:Prop)(r:Res):Res where
 fp:=r.fp
 φ w:=p∧r.φ w
 st w w' h hb:=⟨h.1,r.st w w' h.2 hb⟩
 lt w h b hb:=r.lt w h.2 b hb
def MsgD.dres(x:MsgD):Res:=Res.when x.plain (Res.star [Res.vec 113 5 x.ev x.qs.length (x.qs.flatMap EntD.cells),Res.star (x.qs.map EntD.dres)])
instance:Inhabited MsgD:=⟨zUc 0 0 0 0 0 0 0 0 false (.slice none 0 0) []⟩
structure OutD where
 mv:Value
 qx:List MsgD
 shot:Bool
 rv:Value
 qC:List RdyD
 xv:Value
 qy:List Nat
def OutD.cells(x:OutD):List Value:=[x.mv, .bool x.shot,x.rv,x.xv]
def xn:OutD:={mv:= .slice none 0 0,qx:=[],shot:=false,rv:= .slice none 0 0,qC:=[],xv:= .slice none 0 0,qy:=[]}
def vM(v:Value)(l:List MsgD):Res:=Res.vec 206 14 v l.length (l.flatMap MsgD.cells)
def vR(v:Value)(l:List RdyD):Res:=Res.vec 443 2 v l.length (l.flatMap RdyD.cells)
def vL(v:Value)(l:List LookM):Res:=Res.vec 472 3 v l.length (l.flatMap LookM.cells)
def vP(v:Value)(l:List PeerP):Res:=Res.vec 336 1 v l.length (l.flatMap PeerP.cells)
def sM(l:List MsgD):Res:=Res.star (l.map MsgD.dres)
def sP(l:List PeerP):Res:=Res.star (l.map PeerP.dres)
def rPeer(b:Nat)(p:PeerM):Res:=Res.row b 344 (PeerM.cells p)
def zTO(b:Nat)(l:LdD):Res:=Res.row b 334 (LdD.cells l)
def zKn(b:Nat)(o:OutD):Res:=Res.row b 194 (OutD.cells o)
def Res.nl(b:StB)(lv:Value)(es:List EntD):Res:=Res.star [Res.row b.lb 415 [Vn 0,Vn 0,lv],vE lv es,sE es,vI b.vv b.vs,vI b.wv ([]:List Int)]
def Res.ld(ld:Nat)(l:LdD):Res:=Res.star [zTO ld l,vP l.pv l.qD,sP l.qD,vI l.av l.answered,vT l.rv l.rounds,vL l.kv l.qA]
def Res.ou(ob:Nat)(o:OutD):Res:=Res.star [zKn ob o,vM o.mv o.qx,sM o.qx,vR o.rv o.qC,vU o.xv o.qy]
def pset(ps:List PeerP)(k:Nat)(p:PeerM):List PeerP:=ps.set k ((zc ps k).1,p)
end Go.Proofs.YthpoddkmhfhboaaGreatDoor
namespace Go.Sc
section
variable {P:Program}
theorem zBE (em : Bool) (m : Nat) {cs : List Value} {w : World} : ∀ (fs : List Field) (ks : List (Nat × Option (Option IntKind))),
    (fs.mapM fun (f : Field) => if f.name = "_" then none else
      match P.underlying f.type with
      | some (.int k) => some (f.offset, some (some k))
      | some .string => some (f.offset, some none)
      | some .bool => some (f.offset, none)
      | _ => none) = some ks → kw ks cs = true →
    (forIn fs PUnit.unit fun (f : Field) (_ : PUnit) => (if f.name ≠ "_" then do
        Instr.checkKey em (m + 1) f.type (← part f.type cs.toArray f.offset)
        pure (ForInStep.yield PUnit.unit)
      else pure (ForInStep.yield PUnit.unit) : Sem (ForInStep PUnit))).run P w = .ok () w
  | [], ks, h, _ => by simp
  | f :: fs, ks, h, hx => by
    simp only [List.mapM_cons, bind, Option.bind_eq_some_iff, pure] at h
    obtain ⟨q, b, l, hl, h⟩ := h
    simp at h; subst h
    split at b
    · cases b
    rename_i hn
    simp only [kw, List.all_cons, Bool.and_eq_true] at hx
    have g := zBE em m (cs := cs) (w := w) fs l hl hx.2
    obtain ⟨hx1, -⟩ := hx
    have e : q.1 = f.offset ∧ (match q.2 with | some (some k) => P.underlying f.type = some (.int k) | some none => P.underlying f.type = some .string | none => P.underlying f.type = some .bool) := by
      split at b <;> simp at b <;> subst b <;> exact ⟨rfl, by assumption⟩
    cases ha : cs[q.1]? with
    | none => rw [ha] at hx1; cases hx1
    | some a =>
      rw [ha] at hx1
      obtain ⟨-, e2⟩ := zIh (P := P) (t := f.type) (d := 0) (w := w) e.2 hx1 hx1
      have i := zCX (P := P) (cs := cs.toArray) e2 (by simpa [e.1] using ha)
      have j : (Instr.checkKey em (m + 1) f.type a).run P w = .ok () w := by
        have c := e.2
        unfold Instr.checkKey
        split at c <;> simp [zp c]
      simp only [List.forIn_cons, hn, ne_eq, not_false_eq_true, if_true, Sem.run_bind, i, j, Result.andThen_ok, Sem.run_pure]
      exact g
theorem zC0(em:Bool)(m:Nat){t:TypeId}{ks:List (Nat×Option (Option IntKind))}{cs:List Value}{w:World}(h:zAd P t=some ks)(a:kw ks cs=true):(Instr.checkKey em (m+2) t (.agg cs.toArray)).run P w= .ok () w:=by
 unfold zAd at h
 split at h
 · rename_i fs hfs
   split at h
   · cases h
   unfold Instr.checkKey
   have:=zBE em m (cs:=cs) (w:=w) fs.toList ks h a
   simp only[Sem.run_bind,zp hfs,Result.andThen_ok]
   rw[←Array.forIn_toList]
   rw[show ∀ (s:Sem PUnit),s.run P w= .ok () w→(s.run P w).andThen (fun _ b=>Sem.run P (pure ()) b)= .ok () w from fun s c=>by rw[c];rfl]
   exact this
 cases h
variable {κ:Type} [DecidableEq κ] {kt:TypeId} {g:κ→List Value}
theorem zGQ{ks:List (Nat×Option (Option IntKind))}(h:zAd P kt=some ks)(d:∀ a,kw ks (g a)=true)(f:∀ a b,eqL ks (g a) (g b)=decide (a=b))(l:∀ a,Instr.sameBits 10000 (.agg (g a).toArray) (.agg (g a).toArray)=true):KeyL P kt fun a=> .agg (g a).toArray:=by
 have n:∃ fs,P.underlying kt=some (.struct fs):=by
   unfold zAd at h
   split at h
   · rename_i fs j;exact⟨fs,j⟩
   cases h
 obtain⟨fs,j⟩:=n
 have o:∀ (k:κ) (w:World) (es:List MapEntry) (kv:List (κ×Value)) (i:Nat),es.map (fun e=>(e.key,e.val))=kv.map (fun p=>(Value.agg (g p.1).toArray,p.2))→(Instr.findAsking kt (.agg (g k).toArray) es i).run P w= .ok (kc k kv i) w:=by
   intro k w es
   induction es with
   |nil=>intro kv i m;cases kv<;>simp_all[Instr.findAsking,kc]
   |cons e es ih=>
     intro kv i m
     cases kv with
     |nil=>simp at m
     |cons x kv=>
       simp only[List.map_cons,List.cons.injEq,Prod.mk.injEq]at m
       obtain⟨⟨h1,h2⟩,r⟩:=m
       unfold Instr.findAsking kc
       have e1:=zAN (w:=w) h (d k) (d x.1)
       rw[f]at e1
       rw[h1]
       simp only[Sem.run_bind,e1,Result.andThen_ok]
       by_cases c:k=x.1
       · simp[c,h2]
       simp only[decide_eq_true_eq,c,decide_false,if_false,Bool.false_eq_true]
       exact ih kv (i+1) r
 refine⟨fun k es kv m w=> ?_,fun em k w=>zC0 em 9998 h (d k),l,fun{a b} e=> ?_⟩
 · have:=o k w es kv 0 m
   rw[←this]
   cases es with
   |nil=>simp[Instr.findKey,zp j,Instr.findNow,Instr.findAsking]
   |cons e es=>simp[Instr.findKey,zp j,Instr.findNow,Instr.sameNow]
 have h1:=f a b
 have h2:=f b b
 have s:g a=g b:=by injection e with e;exact congrArg Array.toList e |> fun q=>by simpa using q
 rw[s,h2]at h1
 simpa using h1.symm
end
open Go
section
variable {P:Program} {n:Nat} {ops:Array Oper} {N:K} {f:Nat→Value} {A:World→Prop} {rest:List Oper} {w0:World} {S:List Nat} {L:List Res}
variable {d:Nat} {ty:TypeId} {p:String} {af:Array Edge} {x y z:Operand} {t t' e:TypeId} {g cap sz:Nat}
theorem zPw:xj (.slice (some ⟨g,0,none⟩) 1 cap) 0 0 sz= .slice (some ⟨g,0,none⟩) 0 cap:=by
 show kS (some ⟨g,0,none⟩) cap 0 0 cap sz=_
 unfold kS;simp[Addr.add]
theorem zQZ(b:ev f x=xj (.slice (some ⟨g,0,none⟩) 1 cap) 0 0 sz)(c:ev f y=xj (.slice (some ⟨g,0,none⟩) 1 cap) 1 1 sz)(h:P.underlying t=some (.slice e))(l:(P.info? e).isSome=true)(m:Nat.blt d n=true)
   (k:CL P n ops rest N (upd f d (.slice (some ⟨g,0,none⟩) 0 cap)) A):CL P n ops (⟨some d, .call ⟨.builtin .append,#[x,y],#[t,t]⟩,ty,p,af,none⟩::rest) N f A:=
 yN m (fun w _=>by
   obtain⟨j,i⟩:=Option.isSome_iff_exists.1 l
   have e2:∃ a,xj (.slice (some ⟨g,0,none⟩) 1 cap) 1 1 sz= .slice a 0 (cap - 1):=
     ⟨if cap=1 then some ⟨g,0,none⟩else(some (⟨g,0,none⟩:Addr)).map (·.add (1*sz)),rfl⟩
   obtain⟨a,e2⟩:=e2
   rw[zPw]at b
   rw[e2]at c
   cases a with
   |none=>simp[execOp,resolve,invoke,builtin,b,c,Builtin.append_,run_underlying h,sizeOf,typeInfo,i,Builtin.lenOf,Builtin.firstCells,storeCells]
   |some a=>
     have h1:=run_loadCells_list (P:=P) w a [] qJ
     have h1:(loadCells a 0).run P w= .ok #[] w:=h1
     simp[execOp,resolve,invoke,builtin,b,c,Builtin.append_,run_underlying h,sizeOf,typeInfo,i,Builtin.lenOf,Builtin.firstCells,storeCells,h1]) k
theorem zRs(a:ev f x= .slice (some ⟨g,0,none⟩) 0 cap)(b:Nat.blt d n=true)(c:P.underlying t=some (.slice e))
   (k:CL P n ops rest N (upd f d (.int .i64 ((0:Nat):Int))) A):CL P n ops (⟨some d, .call ⟨.builtin .len,#[x],#[t]⟩,ty,p,af,none⟩::rest) N f A:=
 yN b (fun w _=>by
   simp[execOp,resolve,invoke,builtin,a,Builtin.len_,run_underlying c,goInt]) k
theorem zOv{T:TypeId}{cs:List Value}(i:Nat)(l:L[i]?=some (Res.vec T sz (.slice (some ⟨g,0,none⟩) 1 cap) 1 cs))(m:ev f x= .slice (some ⟨g,0,none⟩) 0 cap)(o:ev f y= .int .i64 ((0:Nat):Int))(q:ev f z= .int .i64 ((1:Nat):Int))(c:P.underlying t=some (.slice e))(hi:(P.info? e).isSome=true)(r:Nat.blt d n=true)
   (k:CL P n ops rest N (upd f d (.slice (some ⟨g,0,none⟩) 1 cap)) (Own w0 S L)):CL P n ops (⟨some d, .slice t x (some y) (some z) none,ty,p,af,none⟩::rest) N f (Own w0 S L):=
 yN r (fun w s=>by
   obtain⟨j,u⟩:=Option.isSome_iff_exists.1 hi
   have hc:1≤cap:=by
     obtain⟨_,⟨_,h1⟩|⟨_,_,_,v,_,_,h2,_⟩⟩:=s.holds i _ l
     · omega
     cases v;exact h2
   have b:¬ cap=0:=by omega
   have h:P.elem t=e:=by simp[Program.elem,c]
   have a:P.underlying t=some (.slice (P.elem t)):=by rw[h];exact c
   have h1:=run_slice_lh (P:=P) w t (some ⟨g,0,none⟩) 0 cap a .i64 .i64 0 1 qG qG qG
   rw[←run_sliceAt_slice (P:=P) w t _ _ _ _ a,h]at h1
   have h2:(Instr.sliceAt t (.slice (some ⟨g,0,none⟩) 0 cap) (some (.int .i64 0)) (some (.int .i64 1)) none).run P w= .ok (.slice (some ⟨g,0,none⟩) 1 cap) w:=by
     rw[h1];simp[sizeOf,typeInfo,u,sliced,b,Addr.add]
   simp[execOp,m,o,q,h2]) k
theorem zNS{T:TypeId}{cs:List Value}{u:Operand}(i:Nat)(m:L[i]?=some (Res.vec T sz (.slice (some ⟨g,0,none⟩) 1 cap) 1 cs))(o:ev f x= .slice (some ⟨g,0,none⟩) 1 cap)(q:ev f y= .int .i64 ((0:Nat):Int))(r:ev f z= .int .i64 ((1:Nat):Int))(s:ev f u= .int .i64 ((1:Nat):Int))(h:P.underlying t=some (.slice e))(hi:(P.info? e).isSome=true)(hd:Nat.blt d n=true)
   (k:∀ v,CL P n ops rest N (upd f d v) (Own w0 S L)):CL P n ops (⟨some d, .slice t x (some y) (some z) (some u),ty,p,af,none⟩::rest) N f (Own w0 S L):=
 yN (v:= .slice (some ⟨g,0,none⟩) 1 1) hd (fun w hw=>by
   obtain⟨j,hj⟩:=Option.isSome_iff_exists.1 hi
   have hc:1≤cap:=by
     obtain⟨_,⟨_,h1⟩|⟨_,_,_,h0,_,_,h2,_⟩⟩:=hw.holds i _ m
     · omega
     cases h0;exact h2
   have l:P.elem t=e:=by simp[Program.elem,h]
   have a:P.underlying t=some (.slice (P.elem t)):=by rw[l];exact h
   have h1:=run_slice_any (P:=P) w t (some ⟨g,0,none⟩) 1 cap a (some (.int .i64 0)) (some (.int .i64 1)) (some (.int .i64 1))
   rw[←run_sliceAt_slice (P:=P) w t _ _ _ _ a,l]at h1
   have hb:(Instr.sliceBounds true 1 cap (some (.int .i64 0)) (some (.int .i64 1)) (some (.int .i64 1))).run P w= .ok (0,1,1) w:=by
     have b:(1:Int)≤(cap:Int):=by omega
     have c:¬(cap:Int)<1:=by omega
     simp[Instr.sliceBounds,Instr.sliceBound,asIntOf,hc,b,c]
   have h2:(Instr.sliceAt t (.slice (some ⟨g,0,none⟩) 1 cap) (some (.int .i64 0)) (some (.int .i64 1)) (some (.int .i64 1))).run P w= .ok (.slice (some ⟨g,0,none⟩) 1 1) w:=by
     rw[h1,hb];simp[sizeOf,typeInfo,hj,sliced,Addr.add,Result.andThen]
   simp[execOp,o,q,r,s,h2]) (k _)
theorem zND{T:TypeId}{cs zs:List Value}{z0:Value}(i:Nat)(d:L[i]?=some (Res.vec T sz (.slice (some ⟨g,0,none⟩) 1 cap) 1 cs))(hx:ev f x= .slice (some ⟨g,0,none⟩) 1 cap)(ht:P.underlying t=some (.slice T))(z:(P.info? T).bind (·.zero)=some z0)(e:(Builtin.zeroCells z0.cells 1).toList=zs)(a1:zs.length=sz)(hp:0<sz)(hc:∀ u∈zs,cell1 u=true)
   (k:CL P n ops rest N f (Own w0 S (L.set i (Res.vec T sz (.slice (some ⟨g,0,none⟩) 0 cap) 0 [])))):CL P n ops (⟨none, .call ⟨.builtin .clear,#[x],#[t]⟩,ty,p,af,none⟩::rest) N f (Own w0 S L):=by
 intro w hw
 simp only[Option.bind_eq_some_iff]at z
 obtain⟨i0,h,j⟩:=z
 have hO:=hw.holds i _ d
 have hl:cs.length=1*sz:=hO.1
 obtain⟨a,l,m,hb,q⟩:=zDn (P:=P) (o:=0) (vs:=zs) hO hc qG qG
 have h6:=hw.frame1 (E:=[]) (r':=Res.vec T sz (.slice (some ⟨g,0,none⟩) 1 cap) 1 (yc cs 0 zs)) d (Own.mk1 (by show Keep [g] w a;exact q) m (fun b' r=> .inl r))
 have h7:Own w0 S (L.set i (Res.vec T sz (.slice (some ⟨g,0,none⟩) 1 cap) 1 (yc cs 0 zs))) a:=by simpa using h6
 have s:=(List.getElem?_eq_some_iff.1 d).1
 have h8:=h7.turn (i:=i) (r':=Res.vec T sz (.slice (some ⟨g,0,none⟩) 0 cap) 0 []) (List.getElem?_set_self s) (by
   rintro⟨_,⟨h1,_⟩|⟨g',a0,y,h0,h1,h2,h3,h4,h5,h9⟩⟩
   · cases h1
   cases h0
   exact⟨by simp, .inr ⟨g,cap,y,O,h1,h2,Nat.zero_le _,h4,h5,by simp⟩⟩) (fun b hb=>hb)
 rw[List.set_set]at h8
 refine zFL (v:= .tuple #[]) (w':=a) ?_ (k _ h8)
 have c:(storeCells ⟨g,0,none⟩ zs).run P w= .ok () a:=l
 simp[execOp,resolve,invoke,builtin,hx,Builtin.clear_,run_underlying ht,zeroValue,typeInfo,h,j,e,c]
end
end Go.Sc
namespace Go.Proofs.YthpoddkmhfhboaaGreatDoor
open Go.Sc
structure LetD where
 src:Int
 dst:Int
 dv:Value
 data:List UInt8
 deriving Inhabited
def LetD.cells(x:LetD):List Value:=[Vi x.src,Vi x.dst,x.dv]
def ekP(p:Int×Int):Value:= .agg #[Vi p.1,Vi p.2]
theorem zUd:KeyL Tryz.prog 141 ekP:=zGQ (g:=fun p:Int×Int=>[Vi p.1,Vi p.2]) (ks:=[(0,some (some .i64)),(1,some (some .i64))]) qF (fun _=>rfl) (fun a b=>by simp[eqL,eqC,Prod.ext_iff]) (fun a=>by simp[Instr.sameBits])
theorem zSg:kU Tryz.prog 148=some (141,4):=by kernel_rfl
theorem zQj:x2 Tryz.prog 4=some (Value.bool false):=by kernel_rfl
theorem zLQ(n:Int)(w:World):Rets Tryz.prog 167 #[Vi n] w fun j h=>j= .bool (decide ((1≤n∧n≤16)∨(n≤ -1∧ -16≤n)))∧Own w [] [] h:=by
 refine zO Tryz.func167 O Tryz.ntmps167 (Own.start w) (zB (zF O (zA (zB (zC O (xJ O O O (zC O (yA (q:=1≤n) 2 2 [7,6] (n≤16) O O O O O O trivial O (fun b=> ?_) (fun i=> ?_)))))))))
 ·refine zQ O (gT b) (zC O (zQ O (gT b) (yx O O O (z8 O (fun _ d=>d)))))
 refine zC O (yP (q:=(1≤n)∧(n≤16)) 6 6 [15,14,13,12,11,10] ((n≤(-1))∧((-16)≤n)) O O O O O O trivial O (fun a=> ?_) (fun e=> ?_))
 ·refine zQ O (gF a) (zC O (zQ O (gF a) (yx O O O (zQ O (gF a) (zC O (yA (q:=n≤(-1)) 2 9 [14,13] ((-16)≤n) O O O O O O ⟨_,O,O,gF a⟩ O (fun c=> ?_) (fun g=> ?_)))))))
  ·refine zQ O (gT c) (zC O (zQ O (gT c) (xJ O O O (z8 O (fun _ d=>d)))))
  exact z8 O (fun _ d=>d)
 refine zF O (zA (zP (zm (v:= .bool (decide (((1≤n)∧(n≤16))∨((n≤(-1))∧((-16)≤n))))) O O (fun h d=>⟨O,d.drop⟩))))
theorem zK2(a b:Int)(w:World):Rets Tryz.prog 99 #[.agg #[Vi a,Vi b]] w fun l g=>l= .bool (decide ((((1≤a∧a≤16)∨(a≤ -1∧ -16≤a))∧((1≤b∧b≤16)∨(b≤ -1∧ -16≤b)))∧a≠b))∧Own w [] [] g:=by
 refine zO Tryz.func99 O Tryz.ntmps99 (Own.start w) (zB (zj O O (fun m=>zF O (zA (zB (zI (o:=0) O O (zJ 0 (v:=Vi a) O O O O (zG O O (fun g e=>(zLQ a g).mono ?_)))))))))
 rintro _ h ⟨rfl,i⟩
 refine(?_:CL _ _ _ _ _ _ (Own w [] [_])) h (e.qb i)
 refine zC O (yA (q:=(1≤a∧a≤16)∨(a≤ -1∧ -16≤a)) 3 3 [9,8,7] ((1≤b∧b≤16)∨(b≤ -1∧ -16≤b)) O O O O O O trivial O (fun d=> ?_) (fun k=> ?_))
 ·refine zQ O (gT d) (zI (o:=1) O O (zQ O (gT d) (zJ 0 (v:=Vi b) O O O O (zQ O (gT d) (zG O O (fun g e=>(zLQ b g).mono ?_))))))
  rintro _ h ⟨rfl,i⟩
  refine(?_:CL _ _ _ _ _ _ (Own w [] [_])) h (e.qb i)
  exact z8 O (fun _ e=>e)
 refine zC O (yA (q:=((1≤a∧a≤16)∨(a≤ -1∧ -16≤a))∧((1≤b∧b≤16)∨(b≤ -1∧ -16≤b))) 5 8 [16,15,14,13,12] (a≠b) O O O O O O trivial O (fun c=> ?_) (fun j=> ?_))
 ·refine zQ O (gT c) (zI (o:=0) O O (zQ O (gT c) (zJ 0 (v:=Vi a) O O O O (zQ O (gT c) (zI (o:=1) O O (zQ O (gT c) (zJ 0 (v:=Vi b) O O O O (zQ O (gT c) (yf O O O (z8 O (fun _ e=>e)))))))))))
 refine zF O (zA (zP (zm (v:= .bool (decide ((((1≤a∧a≤16)∨(a≤ -1∧ -16≤a))∧((1≤b∧b≤16)∨(b≤ -1∧ -16≤b)))∧(a≠b)))) O O (fun g e=>⟨O,e.drop⟩))))
theorem zSG{S:List Nat}(g cap:Nat)(x:LetD)(w:World)(d:Own w S [Res.vec 143 3 (.slice (some ⟨g,0,none⟩) 1 cap) [x].length ([x].flatMap LetD.cells)] w):Rets Tryz.prog 55 #[(.slice (some ⟨g,0,none⟩) 1 cap),Vi 0,Vi 1] w fun i c=>i=(.slice (some ⟨g,0,none⟩) 0 cap)∧Own w S [Res.vec 143 3 (.slice (some ⟨g,0,none⟩) 0 cap) ([]:List LetD).length (([]:List LetD).flatMap LetD.cells)] c:=by
 have j: [x].length=1:=rfl
 refine zO Tryz.func55 O Tryz.ntmps55 d (zB (zF O (zA (zB (zC O (zC O (zC O (zC O (zn (pV 0 O) O O (zNS (e:=143) (sz:=3) 0 O O O O O qF qF O (fun k=>zA (zK (zB (zC O (zC O (yT O O O (zA (zT O (fun h=> ?_) (fun h=> ?_)))))))))))))))))))
 ·exact absurd h V
 refine zN (zB (zC O (zn (pV 0 O) O O (zF O (zA (zK (zd [0] O V qF (fun c b a=>zD 0 O za a (zD 1 O za a (zD 2 O (zAr (pV 0 O) 3 0 0 qF O O ⟨_,O⟩ qG qG) a (zD 3 O za a (zD 4 O za a (zD 5 O (zAr (pV 0 O) 3 1 ([x].length) qF O ⟨_,O⟩ O qG qG) a (zM 6 O b (zQZ (e:=143) (sz:=3) O O qF qF O (zE [0] O V (fun c b a=>zD 7 O yB a (zX ((?_:C _ _ _ _ _ _ _ (Own w S [_])) _ b)))))))))))))))))))
 refine zB (zC O (zC O (zRs (e:=143) O O qF (zC O (zOv (e:=143) (sz:=3) 0 O O O O qF qF O (zND (T:=143) (sz:=3) (z0:= .agg #[Vi 0,Vi 0,zW]) (zs:=[Vi 0,Vi 0,zW]) 0 O O qF qF qF O V (by simp[cell1]) (zA (zB (zC O (zF O (zA (zP (zm (v:= .slice (some ⟨g,0,none⟩) 0 cap) O O (fun c b=>⟨O,b⟩))))))))))))))
theorem zRt{S:List Nat}(v:Value)(x:LetD)(j:Int)(w:World)(c:j=1)(a:Own w S [Res.vec 143 3 v [x].length ([x].flatMap LetD.cells)] w):Rets Tryz.prog 55 #[v,Vi 0,Vi j] w fun d e=>∃ (b:Value),d=b∧Own w S [Res.vec 143 3 b ([]:List LetD).length (([]:List LetD).flatMap LetD.cells)] e:=by
 subst c
 obtain⟨hl,⟨_,h1⟩|⟨g,cap,i,rfl,h⟩⟩:=a.holds 0 _ rfl
 · cases h1
 exact(zSG g cap x w a).mono fun u k h=>⟨_,h.1,h.2⟩
theorem _root_.Go.Sc.qZ{p:Prop}(h:p:=by simp[Value.cells,LetD.cells]):p:=h
theorem zQQ{S:List Nat}(pb cm:Nat)(room:Int)(v:Value)(src dst:Int)(dv:Value)(data:List UInt8)(w:World)(hr:1≤room)(hd:data.length≤65536)(a1:Own w S [Res.row pb 150 [v, .map (some cm),Vi room],Res.vec 143 3 v ([]:List LetD).length (([]:List LetD).flatMap LetD.cells)] w)(u:Rd w S (Res.sl dv data.length (data.map vb))):Rets Tryz.prog 56 #[pt pb, .agg #[Vi src,Vi dst,dv]] w fun u_ b=>∃ (v' r:Value),u_=Vi 0∧Own w S [Res.row pb 150 [v', .map (some cm),Vi room],Res.vec 143 3 v' [({src:=src,dst:=dst,dv:=r,data:=data}:LetD)].length ([({src:=src,dst:=dst,dv:=r,data:=data}:LetD)].flatMap LetD.cells),vY r data] b:=by
 refine zO Tryz.func56 O Tryz.ntmps56 a1 (zB (zj O O (fun b3=>zF O (zA (zK (yd qF qF (zR O za (zR O (zY O) (zR O (zL (o:=0) O) (zR O (zZ 0 (v:=v) O O O) (zR O (kY (pV 1 O) O) (zR O za (zR O (zY O) (zR O (zL (o:=2) O) (zR O (zZ 0 (v:=Vi room) O O O) (zR O (zGk O O) (xX (zT O (fun c1=> ?_) (fun c1=> ?_)))))))))))))))))))
 ·exact absurd c1 (by show ¬(room≤((0:Nat):Int));omega)
 refine zN (zK (zd [2] O V qF (fun b a c=>zD 0 O za c (zD 1 O za c (zD 2 O (zY O) c (zD 3 O (zL (o:=0) O) c (zD 5 O (zL (o:=0) O) c (zD 6 O (zBL 0 [Vi src,Vi dst] O O (yj 0 O) qF) c (zD 7 O (zL (o:=2) O) c (zD 8 O (zZ 0 (v:=dv) O O O) c (z7 4 9 ?_ ?_)))))))))))
 ·refine zo 4 O a (zJ 0 (v:=v) O O O O (zE [2] O V (fun b a c=>zM 9 O a (zG O O (fun b a=>(y3 dv data b qI (a.rd0 u)).mono ?_)))))
  rintro m w1 ⟨_,rfl,hO⟩
  refine(?_:CL _ _ _ _ _ _ (Own w S [_,_,_,_])) w1 (a.qb hO)
  refine zE [2] O V (fun b a c=>zM 10 O a (zS (fun b a=>Own.qa (i:=3) O a) (fun n=>(xP (cs:=[Vi src,Vi dst,m]) (z:=[Vi 0,Vi 0,zW]) (pl:=[(0,2),(2,1)]) qF ⟨trivial,n,trivial⟩ qF O (zE [2] O V (fun b a c=>zM 11 O a (yH (e:=143) (sz:=3) (vs:=[.agg #[Vi src,Vi dst,m]]) qF O O qZ V O (fun q=>zE [2] O V (fun b a c=>zM 12 O a (yF (g:=LetD.cells) (sz:=3) (by':=40) (fun _=>O) (l:=[]) (l':=[({src:=src,dst:=dst,dv:=m,data:=data}:LetD)]) (all_cons ((zH O (zH O (zH n zh)))) qJ) 1 qF O O O (fun b h=>Vec.sl (Own.holds h 4 _ O)) qH V O (fun j=>zE [2] O V (fun b a c=>zD 13 O (zY O) c (zD 14 O (zL (o:=0) O) c (zM 15 O a (zS (fun b a=>Own.qa (i:=1) O a) (fun x=>(zi (cs:=[v, .map (some cm),Vi room]) 0 O O O x O (zE [2] O V (fun b a c=>zX ((?_:C _ _ _ _ _ _ _ (Own w S [_,_,_,_,_])) _ a))))))))))))))))))))
  refine zB (zF O (zA (zP (zm (v:=Vi 0) O O (fun b a=>⟨j,m,O,a.sel [0,1,3] O V⟩)))))
 refine zo 9 O a (zG O O (fun b a=>(y3 dv data b qI (a.rd0 u)).mono ?_))
 rintro d w1 ⟨_,rfl,hO⟩
 refine(?_:CL _ _ _ _ _ _ (Own w S [_,_,_,_])) w1 (a.qb hO)
 refine zE [2] O V (fun b a c=>z7 4 10 ?_ ?_)
 ·refine zo 4 O a (zJ 0 (v:=v) O O O O (zE [2] O V (fun b a c=>zM 10 O a (zS (fun b a=>Own.qa (i:=3) O a) (fun p=>(xP (cs:=[Vi src,Vi dst,d]) (z:=[Vi 0,Vi 0,zW]) (pl:=[(0,2),(2,1)]) qF ⟨trivial,p,trivial⟩ qF O (zE [2] O V (fun b a c=>zM 11 O a (yH (e:=143) (sz:=3) (vs:=[.agg #[Vi src,Vi dst,d]]) qF O O qZ V O (fun q=>zE [2] O V (fun b a c=>zM 12 O a (yF (g:=LetD.cells) (sz:=3) (by':=40) (fun _=>O) (l:=[]) (l':=[({src:=src,dst:=dst,dv:=d,data:=data}:LetD)]) (all_cons ((zH O (zH O (zH p zh)))) qJ) 1 qF O O O (fun b h=>Vec.sl (Own.holds h 4 _ O)) qH V O (fun j=>zE [2] O V (fun b a c=>zD 13 O (zY O) c (zD 14 O (zL (o:=0) O) c (zM 15 O a (zS (fun b a=>Own.qa (i:=1) O a) (fun y=>(zi (cs:=[v, .map (some cm),Vi room]) 0 O O O y O (zE [2] O V (fun b a c=>zX ((?_:C _ _ _ _ _ _ _ (Own w S [_,_,_,_,_])) _ a))))))))))))))))))))))
  refine zB (zF O (zA (zP (zm (v:=Vi 0) O O (fun b a=>⟨j,d,O,a.sel [0,1,3] O V⟩)))))
 refine zo 10 O a (zS (fun b a=>Own.qa (i:=3) O a) (fun k=>(xP (cs:=[Vi src,Vi dst,d]) (z:=[Vi 0,Vi 0,zW]) (pl:=[(0,2),(2,1)]) qF ⟨trivial,k,trivial⟩ qF O (zE [2] O V (fun b a c=>z7 4 11 ?_ ?_)))))
 ·refine zo 4 O a (zJ 0 (v:=v) O O O O (zE [2] O V (fun b a c=>zM 11 O a (yH (e:=143) (sz:=3) (vs:=[.agg #[Vi src,Vi dst,d]]) qF O O qZ V O (fun q=>zE [2] O V (fun b a c=>zM 12 O a (yF (g:=LetD.cells) (sz:=3) (by':=40) (fun _=>O) (l:=[]) (l':=[({src:=src,dst:=dst,dv:=d,data:=data}:LetD)]) (all_cons ((zH O (zH O (zH k zh)))) qJ) 1 qF O O O (fun b h=>Vec.sl (Own.holds h 4 _ O)) qH V O (fun j=>zE [2] O V (fun b a c=>zD 13 O (zY O) c (zD 14 O (zL (o:=0) O) c (zM 15 O a (zS (fun b a=>Own.qa (i:=1) O a) (fun a0=>(zi (cs:=[v, .map (some cm),Vi room]) 0 O O O a0 O (zE [2] O V (fun b a c=>zX ((?_:C _ _ _ _ _ _ _ (Own w S [_,_,_,_,_])) _ a)))))))))))))))))
  refine zB (zF O (zA (zP (zm (v:=Vi 0) O O (fun b a=>⟨j,d,O,a.sel [0,1,3] O V⟩)))))
 refine zo 11 O a (yH (e:=143) (sz:=3) (vs:=[.agg #[Vi src,Vi dst,d]]) qF O O qZ V O (fun q=>zE [2] O V (fun b a c=>zM 4 O a (zJ 0 (v:=v) O O O O (zE [2] O V (fun b a c=>zM 12 O a (yF (g:=LetD.cells) (sz:=3) (by':=40) (fun _=>O) (l:=[]) (l':=[({src:=src,dst:=dst,dv:=d,data:=data}:LetD)]) (all_cons ((zH O (zH O (zH k zh)))) qJ) 1 qF O O O (fun b h=>Vec.sl (Own.holds h 4 _ O)) qH V O (fun j=>zE [2] O V (fun b a c=>zD 13 O (zY O) c (zD 14 O (zL (o:=0) O) c (zM 15 O a (zS (fun b a=>Own.qa (i:=1) O a) (fun s=>(zi (cs:=[v, .map (some cm),Vi room]) 0 O O O s O (zE [2] O V (fun b a c=>zX ((?_:C _ _ _ _ _ _ _ (Own w S [_,_,_,_,_])) _ a)))))))))))))))))
 refine zB (zF O (zA (zP (zm (v:=Vi 0) O O (fun b a=>⟨j,d,O,a.sel [0,1,3] O V⟩)))))
theorem zQz{S:List Nat}(pb cm:Nat)(room:Int)(v:Value)(x:LetD)(w:World)(d:Own w S [Res.row pb 150 [v, .map (some cm),Vi room],Res.vec 143 3 v [x].length ([x].flatMap LetD.cells),vY x.dv x.data] w):Rets Tryz.prog 54 #[pt pb,Vi 0] w fun j e=>j= .tuple #[.agg #[Vi x.src,Vi x.dst,x.dv],Vi 0]∧Own w S [Res.row pb 150 [v, .map (some cm),Vi room],Res.vec 143 3 v [x].length ([x].flatMap LetD.cells),vY x.dv x.data] e:=by
 have k: [x].length=1:=rfl
 refine zO Tryz.func54 O Tryz.ntmps54 d (zB (zk (v:= .agg #[Vi 0,Vi 0,zW]) qF O (fun l=>zF O (zA (zK (zU (zB (zC O (yE qF O O O (zF O (zA (yW O (zB (zC O (zu O O O (zC O (yP (q:=0<0) 7 2 [20,19,18,17,16,15,14] ((([x].length:Nat):Int)≤0) O O O O O O trivial O (fun a=> ?_) (fun g=> ?_))))))))))))))))))
 ·refine zQ O (gF a) (zC O (zQ O (gF a) (zC O (zQ O (gF a) (zV O O (zQ O (gF a) (zI (o:=0) O O (zQ O (gF a) (zJ 0 (v:=v) O O O O (zQ O (gF a) (zn (pV 1 O) O O (zQ O (gF a) (xJ O O O (z8 O (fun _ b=>b)))))))))))))))
 refine zF O (zA (zT O (fun h=> ?_) (fun h=> ?_)))
 ·exact absurd h (by show ¬((0:Int)<0∨((1:Nat):Int)≤0);omega)
 refine zN (zB (zC O (zV O O (zI (o:=0) O O (zJ 0 (v:=v) O O O O (zC O (yL (pV 1 O) 3 0 O O O qG O (jy (pV 1 O) 3 0 (off:=yr v+0*3) (fun _=>O) O qP qG O (zS (fun e b=>Own.qa (i:=2) O b) (fun c=>(zf 3 O O O (zH O (zH O (zH c zh))) O (zF O (zA (zP (yk (cs:=(LetD.cells x)) (v:=Vi 0) O O O qF (Own.qd (i:=3) O) (fun e b=>⟨O,b.sel [0,1,2] O V⟩))))))))))))))))
theorem zKY{S:List Nat}(pb cm:Nat)(room:Int)(v:Value)(x:LetD)(w:World)(g:Own w S [Res.row pb 150 [v, .map (some cm),Vi room],Res.vec 143 3 v [x].length ([x].flatMap LetD.cells),vY x.dv x.data] w):Rets Tryz.prog 25 #[pt pb,Vi 0] w fun l b=>∃ (h:Value),l= .tuple #[Vi x.src,Vi x.dst,x.dv,Vi 0]∧Own w S [Res.row pb 150 [h, .map (some cm),Vi room],Res.vec 143 3 h ([]:List LetD).length (([]:List LetD).flatMap LetD.cells),vY x.dv x.data] b:=by
 refine zO Tryz.func25 O Tryz.ntmps25 g (zB (zF O (zF O (zF O (zF O (zA (zB (zC O (zC O (zG O O (fun b a=>(zQz pb cm room v x b (a.give [0,1,2] O V)).mono ?_)))))))))))
 rintro _ m ⟨rfl,j⟩
 refine fq [0,1,2] O a j (zC O (zb (vs:=[.agg #[Vi x.src,Vi x.dst,x.dv],Vi 0]) O O O (zb (vs:=[.agg #[Vi x.src,Vi x.dst,x.dv],Vi 0]) O O O (zk (v:= .agg #[Vi 0,Vi 0,zW]) qF O (fun n=>(zS (fun b a=>Own.qa (i:=2) O a) (fun c=>(zf 3 O O O (zH O (zH O (zH c zh))) O (zF O (zA (zK (zB (zC O (yT O O O (zA (zT O (fun k=> ?_) (fun k=> ?_)))))))))))))))))
 ·refine ze (zC O (zC O (zV O O (zI (o:=0) O O (zJ 0 (v:=v) O O O O (zC O (zC O (zr O O (zt qG) O (zG O O (fun b a=>(zRt v x ((0+1:Nat):Int) b qH (a.give [1] O V)).mono ?_))))))))))
  rintro d m ⟨_,rfl,j⟩
  refine fq [1] O a j (zV O O (zI (o:=0) O O (zS (fun b a=>Own.qa (i:=3) O a) (fun e=>(zi (cs:=[v, .map (some cm),Vi room]) 0 O O O e O (zA (yd qF qF (zR O (zL (o:=0) O) (zR O (zL (o:=0) O) (zR O (zZ 2 (v:=Vi x.src) O O O) (zR O (zL (o:=0) O) (zR O (zL (o:=1) O) (zR O (zZ 2 (v:=Vi x.dst) O O O) (zR O (zL (o:=2) O) (zR O (zZ 2 (v:=x.dv) O O O) (zR O za (zR O yB (zR O yB (zR O yB (zR O yB (xX (zP (zUf (v:=Vi x.src) (v':=Vi x.dst) (v'':=x.dv) (v3:=Vi 0) O O O O O (fun b a=>⟨d,O,a.sel [0,3,1] O V⟩))))))))))))))))))))))))
 exact absurd O k
theorem zOf{S:List Nat}(pb cm:Nat)(room:Int)(v:Value)(src dst:Int)(dv:Value)(data:List UInt8)(w:World)(x:1≤room)(y:data.length≤65536)(s:(((1≤src∧src≤16)∨(src≤ -1∧ -16≤src))∧((1≤dst∧dst≤16)∨(dst≤ -1∧ -16≤dst)))∧src≠dst)(e:Own w S [Res.row pb 150 [v, .map (some cm),Vi room],Res.vec 143 3 v ([]:List LetD).length (([]:List LetD).flatMap LetD.cells),Res.mp ekP Value.bool cm ([]:List ((Int×Int)×Bool))] w)(a:Rd w S (Res.sl dv data.length (data.map vb))):Rets Tryz.prog 52 #[pt pb,Vi src,Vi dst,dv] w fun u b=>∃ (j r:Value),u=Vi 0∧Own w S [Res.row pb 150 [j, .map (some cm),Vi room],Res.vec 143 3 j [({src:=src,dst:=dst,dv:=r,data:=data}:LetD)].length ([({src:=src,dst:=dst,dv:=r,data:=data}:LetD)].flatMap LetD.cells),vY r data,Res.mp ekP Value.bool cm ([]:List ((Int×Int)×Bool))] b:=by
 refine zO Tryz.func52 O Tryz.ntmps52 e (zB (zF O (zA (zB (zC O (zC O (yJ (cs:=[Vi src,Vi dst]) (z:=[Vi 0,Vi 0]) (pl:=[(0,1),(1,1)]) qF qF O (zk (v:= .agg #[Vi 0,Vi 0]) qF O (fun b9=>zf 3 O O O (zz O) O (zA (zK (zU (zB (zC O (yE qF O O O (zC O (zQ O O (z6 (cs:=[Vi src,Vi dst]) 3 O O O (zQ O O (zG O O (fun b c=>(zK2 src dst b).mono ?_)))))))))))))))))))))
 rintro _ l ⟨rfl,g⟩
 refine(?_:CL _ _ _ _ _ _ (Own w S [_,_,_,_])) l (c.qb g)
 refine zQ O O (xQ (q:=(((1≤src∧src≤16)∨(src≤ -1∧ -16≤src))∧((1≤dst∧dst≤16)∨(dst≤ -1∧ -16≤dst)))∧src≠dst) O O (xA O O (zF O (zA (zT O (fun m=> ?_) (fun m=> ?_))))))
 ·exact absurd s m
 refine zB (zC O (zn (pR a) O O (yY O O O (zF O (zA (zT O (fun n=> ?_) (fun n=> ?_)))))))
 ·exact absurd n qG
 refine yd qF qF (zR O za (zR O (zY O) (zR O (zL (o:=1) O) (zR O (zZ 0 (v:= .map (some cm)) O O O) (zR O (xG (cs:=[Vi src,Vi dst]) 3 O O) (zR O (zF7 (k:=(src,dst)) (kv:=([]:List ((Int×Int)×Bool))) (zv:=false) zUd zSg zQj O O (fun b h=>Own.holds h 2 _ O)) (zR O yB (xX (jJ O (fun p=> ?_) (fun p=> ?_))))))))))
 ·exact absurd p (by intro q;cases q)
 refine zN (zB (zC O (z6 (cs:=[Vi src,Vi dst]) 3 O O O (zC O (xP (cs:=[Vi src,Vi dst,dv]) (z:=[Vi 0,Vi 0,zW]) (pl:=[(0,2),(2,1)]) qF ⟨trivial,(Sl.cell1 (Rd.φ a)),trivial⟩ qF O (zG O O (fun b c=>(zQQ pb cm room v src dst dv data b qH qH (c.give [0,1] O V) (c.rdTo a [0,1] O)).mono ?_)))))))
 rintro _ l ⟨d,i,rfl,g⟩
 refine fq [0,1] O c g (zF O (zA (zP (zm (v:=Vi 0) O O (fun b c=>⟨d,i,O,c.sel [2,3,4,0] O V⟩)))))
theorem zQ7(room:Int)(w:World)(j:1≤room∧room≤4096):Rets Tryz.prog 39 #[Vi room] w fun i e=>∃ (pb cm:Nat),i= .tuple #[pt pb,Vi 0]∧Own w [] [Res.row pb 150 [zW, .map (some cm),Vi room],Res.mp ekP Value.bool cm ([]:List ((Int×Int)×Bool))] e:=by
 refine zO Tryz.func39 O Tryz.ntmps39 (Own.start w) (zB (zF O (zF O (zA (zK (zB (zC O (zu O O O (zC O (yP (q:=room<0) 2 2 [8,7] (4096<room) O O O O O O trivial O (fun a=> ?_) (fun g=> ?_)))))))))))
 ·refine zQ O (gF a) (zC O (zQ O (gF a) (yY O O O (z8 O (fun _ d=>d)))))
 refine zA (zT O (fun h=> ?_) (fun h=> ?_))
 ·exact absurd h qG
 refine zN (zB (xl (α:=Bool) ekP Value.bool O O (fun b=>zC O (yJ (cs:=[zW, .map (some b),Vi room]) (z:=[zW, .map none,Vi 0]) (pl:=[(0,1),(1,1),(2,1)]) qF qF O (zj O O (fun c=>zF O (zF O (zA (zP (yg (v:=pt c) (v':=Vi 0) O O O (fun e d=>⟨c,b,O,d.sel [1,0] O V⟩)))))))))))
def LetD.dres(x:LetD):Res:=vY x.dv x.data
structure PsD where
 v:Value
 cm:Nat
 l:List LetD
def Res.ps(pb:Nat)(s:PsD):Res:=Res.star [Res.row pb 150 [s.v, .map (some s.cm),Vi 400],Res.vec 143 3 s.v s.l.length (s.l.flatMap LetD.cells),Res.mp ekP Value.bool s.cm ([]:List ((Int×Int)×Bool)),Res.star (s.l.map LetD.dres)]
theorem zR0(room:Int)(w:World)(a:room=400):Rets Tryz.prog 39 #[Vi room] w fun b c=>∃ (pb:Nat) (s:PsD),b= .tuple #[pt pb,Vi 0]∧s.l=[]∧Own w [] [Res.ps pb s] c:=by
 subst a
 refine(zQ7 400 w V).mono ?_
 rintro _ e ⟨pb,cm,rfl,d⟩
 exact⟨pb,⟨.slice none 0 0,cm,[]⟩,O,O,(((zq d 143 3).qn).qg [0,2,1,3] O V).sel [0] O V⟩
theorem zFA{S:List Nat}(pb:Nat)(s:PsD)(src dst:Int)(dv:Value)(data:List UInt8)(w:World)(hl:s.l=[])(d:data.length≤65536)(e:(((1≤src∧src≤16)∨(src≤ -1∧ -16≤src))∧((1≤dst∧dst≤16)∨(dst≤ -1∧ -16≤dst)))∧src≠dst)(a:Own w S [Res.ps pb s] w)(b:Rd w S (Res.sl dv data.length (data.map vb))):Rets Tryz.prog 52 #[pt pb,Vi src,Vi dst,dv] w fun g h=>∃ (c:PsD) (r:Value),g=Vi 0∧c.l=[⟨src,dst,r,data⟩]∧Own w S [Res.ps pb c] h:=by
 obtain⟨v,cm,l⟩:=s
 have hl:l=[]:=hl
 subst hl
 have i:=(a.qi 0 rfl).sel [0,1,2] rfl V
 refine(zOf pb cm 400 v src dst dv data w V d e i b).mono ?_
 rintro _ m ⟨j,r,rfl,k⟩
 exact⟨⟨j,cm,[⟨src,dst,r,data⟩]⟩,r,O,O,((k.qg [2] O V).qg [0,1,2,3] O V).sel [0] O V⟩
theorem zI5{S:List Nat}(pb:Nat)(s:PsD)(x:LetD)(w:World)(hl:s.l=[x])(a:Own w S [Res.ps pb s] w):Rets Tryz.prog 25 #[pt pb,Vi 0] w fun d e=>∃ (b:PsD),d= .tuple #[Vi x.src,Vi x.dst,x.dv,Vi 0]∧b.l=[]∧Own w S [Res.ps pb b,vY x.dv x.data] e:=by
 obtain⟨v,cm,l⟩:=s
 have hl:l=[x]:=hl
 subst hl
 have c:=((a.qi 0 rfl).qi 3 rfl).sel [0,1,3,2] rfl V
 refine(zKY pb cm 400 v x w (c.give [0,1,2] O V)).mono ?_
 rintro _ i ⟨g,rfl,h⟩
 exact⟨⟨g,cm,[]⟩,O,O,((((c.qc [0,1,2] O h).qn).qg [1,2,0,4] O V).sel [1,0] O V)⟩
end Go.Proofs.YthpoddkmhfhboaaGreatDoor
