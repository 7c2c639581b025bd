import Derived.Test.YtkkeknmkipkbmaaGreatFwX
import Derived.Test.YtkkeknmkipkbmaaGreatFwU
import Derived.Test.YtkkeknmkipkbmaaGreatFwG
import Derived.Test.YtkkeknmkipkbmaaGreatMsgD
import Derived.Test.YtkkeknmkipkbmaaGreatRlog
set_option linter.unusedSimpArgs false
set_option linter.unusedVariables false
set_option linter.unusedSectionVars false
namespace Go.Sc
section
variable {w0 w w':World} {S:List Nat} {L Ls Lin Lout:List Res}
theorem zGW{i:Nat}{r:Res}(h:L[i]?=some r): [i].mapM (fun i=>L[i]?)=some [r]:=by simp[h]
theorem Own.ofStar{rs:List Res}(h:(Res.star rs).φ w):Own w (y1 rs) rs w:=
  ⟨Keep.refl _ _,h.2,fun _ r hr=>h.1 r (List.mem_of_getElem? hr),fun i r hr b hb=> .inl (mem_fps.2 ⟨i,r,hr,hb⟩)⟩
theorem zIz(r:Res):y1 [r]=r.fp:=by simp[y1]
theorem Own.toStar{F:List Nat}{rs:List Res}(h:Own w0 F rs w):Own w0 F [Res.star rs] w:=by
  refine⟨h.keep,?_,?_,?_⟩
  · intro i j r s hij hr hs
    match i,j with
    |0,0=>exact absurd rfl hij
    |i+1,_=>simp at hr
    |_,j+1=>simp at hs
  · intro i r hr
    match i with
    |0=>
      simp at hr;subst hr
      exact⟨fun r hr=>by obtain⟨k,hk,rfl⟩:=List.mem_iff_getElem.1 hr;exact h.holds k _ (List.getElem?_eq_getElem hk),h.apart⟩
    |i+1=>simp at hr
  intro i r hr b hb
  match i with
  |0=>simp at hr;subst hr;obtain⟨k,s,hs,hb⟩:=mem_fps.1 hb;exact h.fresh k s hs b hb
  |i+1=>simp at hr
theorem Own.qn{rs:List Res}(i:Nat)(h1:L[i]?=some (Res.star rs))(h:Own w0 S L w):Own w0 S (yp [i] 0 L++rs) w:=
  h.qh [i] (zGW h1) (by rw[zIz];exact Own.ofStar (h.holds i _ h1))
theorem Own.qo(m:List Nat)(hm:m.mapM (fun i=>L[i]?)=some Lin)(hn:m.Nodup)(h:Own w0 S L w):Own w0 S (yp m 0 L++[Res.star Lin]) w:=
  h.qh m hm (h.give m hm hn).toStar
theorem Own.shutEnd{rs:List Res}(h:Own w0 S (Ls++rs) w):Own w0 S (Ls++[Res.star rs]) w:=h.frameEnd h.giveEnd.toStar
theorem Own.starPerm{rs ss:List Res}(i:Nat)(hp:rs.Perm ss)(h1:L[i]?=some (Res.star rs))(h:Own w0 S L w):Own w0 S (L.set i (Res.star ss)) w:=by
  have h2:Own w (y1 rs) ss w:=(Own.ofStar (h.holds i _ h1)).perm hp
  have h3:=h2.toStar.holds 0 _ rfl
  refine h.turn h1 (fun _=>h3) (fun b hb=> ?_)
  obtain⟨k,s,hs,hb⟩:=mem_fps.1 hb
  obtain⟨j,hj⟩:=List.mem_iff_getElem?.1 (hp.mem_iff.2 (List.mem_of_getElem? hs))
  exact mem_fps.2 ⟨j,s,hj,hb⟩
theorem zHa{α:Type}[Inhabited α]{l:List α}{k:Nat}(h:k<l.length):l.Perm (zG l k::l.eraseIdx k):=by
  rw[List.eraseIdx_eq_take_drop_succ]
  have e:l=l.take k++zG l k::l.drop (k+1):=by rw[←ju h,List.take_append_drop]
  calc l.Perm (l.take k++zG l k::l.drop (k+1)):=by rw[←e]
    _ |>.Perm (zG l k::(l.take k++l.drop (k+1))):=List.perm_middle
theorem zL2{α:Type}[Inhabited α]{l:List α}{k:Nat}{a:α}(h:k<l.length):(a::l.eraseIdx k).Perm (l.set k a):=by
  rw[List.eraseIdx_eq_take_drop_succ,List.set_eq_take_append_cons_drop,if_pos h]
  exact List.perm_middle.symm
theorem Own.qI{α:Type}[Inhabited α]{g:α→Res}{l:List α}(i k:Nat)(hk:k<l.length)(h1:L[i]?=some (Res.star (l.map g)))(h:Own w0 S L w):Own w0 S (yp [i] 0 L++[g (zG l k),Res.star ((l.eraseIdx k).map g)]) w:=by
  have hp:(l.map g).Perm (g (zG l k)::(l.eraseIdx k).map g):=(zHa hk).map g
  refine h.qh [i] (zGW h1) ?_
  rw[zIz]
  have h2:Own w (y1 (l.map g)) ([g (zG l k)]++(l.eraseIdx k).map g) w:=(Own.ofStar (h.holds i _ h1)).perm hp
  exact h2.shutEnd
theorem Own.qL{α:Type}[Inhabited α]{g:α→Res}{l:List α}(i j k:Nat)(a:α)(hk:k<l.length)(hij:i≠j)(h1:L[i]?=some (g a))(h2:L[j]?=some (Res.star ((l.eraseIdx k).map g)))(h:Own w0 S L w):Own w0 S (yp [i,j] 0 L++[Res.star ((l.set k a).map g)]) w:=by
  have hm: [i,j].mapM (fun i=>L[i]?)=some [g a,Res.star ((l.eraseIdx k).map g)]:=by simp[h1,h2]
  have hg:=h.give [i,j] hm (by simp[hij])
  refine h.qh [i,j] hm ?_
  have h3:=hg.qn 1 rfl
  have h4:Own w (y1 [g a,Res.star ((l.eraseIdx k).map g)]) ((l.set k a).map g) w:=h3.perm ((zL2 hk).map g)
  exact h4.toStar
theorem zLp{α:Type}{l m:List α}(hs:m.Sublist l):∃ r,l.Perm (m++r):=by
  induction hs with
  |slnil=>exact⟨[],List.Perm.refl _⟩
  |cons a _ ih=>obtain⟨r,hr⟩:=ih;exact⟨a::r,(hr.cons a).trans List.perm_middle.symm⟩
  |cons_cons a _ ih=>obtain⟨r,hr⟩:=ih;exact⟨r,hr.cons a⟩
theorem Own.qK{α:Type}{g:α→Res}{l m:List α}(i:Nat)(hs:m.Sublist l)(h1:L[i]?=some (Res.star (l.map g)))(h:Own w0 S L w):Own w0 S (L.set i (Res.star (m.map g))) w:=by
  obtain⟨r,hr⟩:=zLp hs
  have h2:Own w (y1 (l.map g)) (m.map g++r.map g) w:=by
    have:=(Own.ofStar (h.holds i _ h1)).perm (hr.map g)
    rwa [List.map_append]at this
  have h3:Own w (y1 (l.map g)) (m.map g) w:=by
    have h5:=h2.shutEnd
    have h6:Own w (y1 (l.map g)) (Res.star (r.map g)::m.map g) w:=h5.perm (List.perm_append_comm (l₂:=[Res.star (r.map g)]))
    exact h6.tail
  refine h.turn h1 (fun _=>h3.toStar.holds 0 _ O) (fun b hb=> ?_)
  obtain⟨k,s,hs',hb⟩:=mem_fps.1 hb
  obtain⟨a,ha,rfl⟩:=List.mem_map.1 (List.mem_of_getElem? hs')
  obtain⟨j,hj⟩:=List.mem_iff_getElem?.1 (List.mem_map_of_mem (f:=g) (hs.mem ha))
  exact mem_fps.2 ⟨j,_,hj,hb⟩
def Res.any{α:Type}(r:α→Res)(F:List Nat):Res where
  fp:=F
  φ w:=∃ a,(r a).φ w∧(r a).fp=F
  st w w' h hb:=by obtain⟨a,h,e⟩:=h;exact⟨a,(r a).st w w' h (by rw[e];exact hb),e⟩
  lt w h b hb:=by obtain⟨a,h,e⟩:=h;exact(r a).lt w h b (by rw[e];exact hb)
theorem Own.anyOpen{α:Type}{r:α→Res}{F:List Nat}(i:Nat)(h1:L[i]?=some (Res.any r F))(h:Own w0 S L w):∃ a,Own w0 S (L.set i (r a)) w:=by
  obtain⟨a,ha,e⟩:=h.holds i _ h1
  exact⟨a,h.turn h1 (fun _=>ha) (fun b hb=>by rw[e]at hb;exact hb)⟩
theorem Own.anyShut{α:Type}{r:α→Res}(i:Nat)(a:α)(h1:L[i]?=some (r a))(h:Own w0 S L w):Own w0 S (L.set i (Res.any r (r a).fp)) w:=
  h.turn h1 (fun h=>⟨a,h,rfl⟩) (fun _ hb=>hb)
theorem Own.starRow{α:Type}[Inhabited α]{g:α→Res}{l:List α}{b:Nat}{e:TypeId}{cs:List Value}{o:Nat}{v:Value}(i k:Nat)(h1:L[i]?=some (Res.star (l.map g)))(hk:k<l.length)(hg:g (zG l k)=Res.row b e cs)(ho:cs[o]?=some v)(h:Own w0 S L w):w.cell? ⟨b,o,none⟩=some v:=by
  have h2:=h.qI i k hk h1
  rw[hg]at h2
  have h3:=Own.qr (i:=(yp [i] 0 L).length) (b:=b) (e:=e) qQ w h2 o v ho
  rwa [Nat.zero_add]at h3
theorem Own.qF{rs:List Res}{r:Res}(i k:Nat)(h1:L[i]?=some (Res.star rs))(h2:rs[k]?=some r)(h:Own w0 S L w):Rd w [] r:=h.star0 i h1 r (List.mem_of_getElem? h2)
theorem Own.partStar0{α:Type}[Inhabited α]{g:α→Res}{l:List α}{rs:List Res}(i k j:Nat)(h1:L[i]?=some (Res.star rs))(h2:rs[k]?=some (Res.star (l.map g)))(hj:j<l.length)(h:Own w0 S L w):Rd w [] (g (zG l j)):=
  (h.qF i k h1 h2).sub (fun h=>h.1 _ (List.mem_map_of_mem (zd hj))) (fun b hb=>by obtain⟨q,hq⟩:=List.mem_iff_getElem?.1 (List.mem_map_of_mem (f:=g) (zd hj));exact mem_fps.2 ⟨q,_,hq,hb⟩)
theorem Own.qH{rs:List Res}{T:TypeId}{sz m:Nat}{v:Value}{cs:List Value}(i k:Nat)(h1:L[i]?=some (Res.star rs))(h2:rs[k]?=some (Res.vec T sz v m cs))(h:Own w0 S L w):Rd w [] (Res.sl v m cs):=(h.qF i k h1 h2).sub Vec.sl zAU
theorem Own.partSl{rs:List Res}{T:TypeId}{sz m:Nat}{v:Value}{cs:List Value}(i k:Nat)(h1:L[i]?=some (Res.star rs))(h2:rs[k]?=some (Res.vec T sz v m cs))(h:Own w0 S L w):Sl w v m cs:=(h.qH i k h1 h2).φ
theorem Own.partCell{rs:List Res}{b:Nat}{e:TypeId}{cs:List Value}{o:Nat}{v:Value}(i k:Nat)(h1:L[i]?=some (Res.star rs))(h2:rs[k]?=some (Res.row b e cs))(ho:cs[o]?=some v)(h:Own w0 S L w):w.cell? ⟨b,o,none⟩=some v:=(h.qF i k h1 h2).φ.cell ho
end
section
variable {P:Program} {n:Nat} {ops:Array Oper} {N:K} {f:Nat→Value} {A:World→Prop} {rest:List Oper} {w0:World} {S:List Nat} {L:List Res}
variable {d:Nat} {ty:TypeId} {p:String} {af:Array Edge} {x y:Operand} {t e:TypeId}
theorem zKa{α:Type}[Inhabited α]{g:α→Res}{l:List α}{b:Nat}{cs:List Value}{v:Value}(i k o:Nat)(h1:L[i]?=some (Res.star (l.map g)))(hk:k<l.length)(hg:g (zG l k)=Res.row b e cs)(ho:cs[o]?=some v)(hx:ev f x= .pointer (some ⟨b,o,none⟩))(ht:one P t=true):RV P f ⟨some d, .load t x,ty,p,af,none⟩ (Own w0 S L) v:=
  zHL hx ht (fun w hw=>hw.starRow i k h1 hk hg ho)
theorem zLa{α:Type}[Inhabited α]{g:α→Res}{l:List α}{b:Nat}{cs:List Value}{v:Value}(i k o:Nat)(h1:L[i]?=some (Res.star (l.map g)))(hk:k<l.length)(hg:g (zG l k)=Res.row b e cs)(ho:cs[o]?=some v)(hx:ev f x= .pointer (some ⟨b,o,none⟩))(ht:one P t=true)(hd:Nat.blt d n=true)
    (kk:CL P n ops rest N (upd f d v) (Own w0 S L)):CL P n ops (⟨some d, .load t x,ty,p,af,none⟩::rest) N f (Own w0 S L):=yX hd (zKa i k o h1 hk hg ho hx ht) kk
theorem jz{rs:List Res}{b:Nat}{cs:List Value}{v:Value}(i k o:Nat)(h1:L[i]?=some (Res.star rs))(h2:rs[k]?=some (Res.row b e cs))(ho:cs[o]?=some v)(hx:ev f x= .pointer (some ⟨b,o,none⟩))(ht:one P t=true):RV P f ⟨some d, .load t x,ty,p,af,none⟩ (Own w0 S L) v:=
  zHL hx ht (fun w hw=>hw.partCell i k h1 h2 ho)
theorem z6{rs:List Res}{b:Nat}{cs:List Value}{v:Value}(i k o:Nat)(h1:L[i]?=some (Res.star rs))(h2:rs[k]?=some (Res.row b e cs))(ho:cs[o]?=some v)(hx:ev f x= .pointer (some ⟨b,o,none⟩))(ht:one P t=true)(hd:Nat.blt d n=true)
    (kk:CL P n ops rest N (upd f d v) (Own w0 S L)):CL P n ops (⟨some d, .load t x,ty,p,af,none⟩::rest) N f (Own w0 S L):=yX hd (jz i k o h1 h2 ho hx ht) kk
theorem zBE{α:Type}[Inhabited α]{g:α→Res}{l:List α}{rs:List Res}{b:Nat}{cs:List Value}{v:Value}(i k j o:Nat)(h1:L[i]?=some (Res.star rs))(h2:rs[k]?=some (Res.star (l.map g)))(hj:j<l.length)(hg:g (zG l j)=Res.row b e cs)(ho:cs[o]?=some v)(hx:ev f x= .pointer (some ⟨b,o,none⟩))(ht:one P t=true):RV P f ⟨some d, .load t x,ty,p,af,none⟩ (Own w0 S L) v:=
  zHL hx ht (fun w hw=>by have h:=(hw.partStar0 i k j h1 h2 hj).φ;rw[hg]at h;exact h.cell ho)
theorem kE{α:Type}[Inhabited α]{g:α→Res}{l:List α}{rs:List Res}{b:Nat}{cs:List Value}{v:Value}(i k j o:Nat)(h1:L[i]?=some (Res.star rs))(h2:rs[k]?=some (Res.star (l.map g)))(hj:j<l.length)(hg:g (zG l j)=Res.row b e cs)(ho:cs[o]?=some v)(hx:ev f x= .pointer (some ⟨b,o,none⟩))(ht:one P t=true)(hd:Nat.blt d n=true)
    (kk:CL P n ops rest N (upd f d v) (Own w0 S L)):CL P n ops (⟨some d, .load t x,ty,p,af,none⟩::rest) N f (Own w0 S L):=yX hd (zBE i k j o h1 h2 hj hg ho hx ht) kk
theorem pC{rs:List Res}{T:TypeId}{sz m:Nat}{v:Value}{cs:List Value}(i k:Nat)(h1:L[i]?=some (Res.star rs))(h2:rs[k]?=some (Res.vec T sz v m cs)):Pr (Own w0 S L) v m cs:=fun _ hw=>hw.partSl i k h1 h2
end
open Go
section
variable {P:Program} {n:Nat} {ops:Array Oper} {N:K} {f:Nat→Value} {A:World→Prop} {rest:List Oper} {d:Nat} {ty:TypeId} {p:String} {af:Array Edge} {x y z:Operand}
def zJN(a b c:Int):Int:=if c>(if b>a then b else a)then c else(if b>a then b else a)
def zMB(a b c:Int):Int:=if c<(if b<a then b else a)then c else(if b<a then b else a)
theorem zOc(a b c:Int):zJN a b c=max (max a b) c:=by unfold zJN;split<;>split at * <;>omega
theorem zQ8(a b c:Int):zMB a b c=min (min a b) c:=by unfold zMB;split<;>split at * <;>omega
theorem zQe(a b c:Nat):zJN a b c=((max (max a b) c:Nat):Int):=by rw[zOc];omega
theorem zLQ{k k' k2:IntKind}{a b e c:Int}{ats:Array TypeId}(hx:ev f x= .int k a)(hy:ev f y= .int k' b)(hz:ev f z= .int k2 e)(hc:zJN a b e=c):RV P f ⟨some d, .call ⟨.builtin .max,#[x,y,z],ats⟩,ty,p,af,none⟩ A (.int k c):=by
  intro w _
  subst hc
  by_cases h:b>a<;>simp[execOp,resolve,invoke,builtin,hx,hy,hz,Builtin.max_,Builtin.max2,zJN,h]
theorem zPP{k k' k2:IntKind}{a b e c:Int}{ats:Array TypeId}(hx:ev f x= .int k a)(hy:ev f y= .int k' b)(hz:ev f z= .int k2 e)(hc:zMB a b e=c):RV P f ⟨some d, .call ⟨.builtin .min,#[x,y,z],ats⟩,ty,p,af,none⟩ A (.int k c):=by
  intro w _
  subst hc
  by_cases h:b<a<;>simp[execOp,resolve,invoke,builtin,hx,hy,hz,Builtin.min_,Builtin.min2,zMB,h]
theorem zPE{k k' k2:IntKind}{a b e c:Int}{ats:Array TypeId}(hx:ev f x= .int k a)(hy:ev f y= .int k' b)(hz:ev f z= .int k2 e)(hc:zJN a b e=c)(hd:Nat.blt d n=true)(kk:CL P n ops rest N (upd f d (.int k c)) A):CL P n ops (⟨some d, .call ⟨.builtin .max,#[x,y,z],ats⟩,ty,p,af,none⟩::rest) N f A:=yX hd (zLQ hx hy hz hc) kk
theorem zO8{k k' k2:IntKind}{a b e c:Int}{ats:Array TypeId}(hx:ev f x= .int k a)(hy:ev f y= .int k' b)(hz:ev f z= .int k2 e)(hc:zMB a b e=c)(hd:Nat.blt d n=true)(kk:CL P n ops rest N (upd f d (.int k c)) A):CL P n ops (⟨some d, .call ⟨.builtin .min,#[x,y,z],ats⟩,ty,p,af,none⟩::rest) N f A:=yX hd (zPP hx hy hz hc) kk
end
end Go.Sc
set_option linter.unusedVariables false
set_option maxRecDepth 10000
namespace Go.Proofs.YtkkeknmkipkbmaaGreat
open Go Go.Sc Go.Proofs
def pt(b:Nat):Value:= .pointer (some ⟨b,0,none⟩)
def vI(v:Value)(l:List Int):Res:=Res.vec 3 1 v l.length (l.flatMap I1)
def vU(v:Value)(l:List Nat):Res:=Res.vec 22 1 v l.length (l.flatMap U1)
def vT(v:Value)(l:List Int):Res:=Res.vec 2 1 v l.length (l.flatMap I1)
def vY(v:Value)(l:List UInt8):Res:=Res.vec 5 1 v l.length (l.map vb)
theorem EntD.rd.qF{es:List EntD}{rs:List Res}{w0 w:World}{S:List Nat}{L:List Res}(i k:Nat)(h1:L[i]?=some (Res.star rs))(h2:rs[k]?=some (Res.star (es.map EntD.dres)))(hw:Own w0 S L w):∀ p∈es,p.rd w []:=fun p hp=>EntD.dres_rd ((hw.qF i k h1 h2).sub (fun h=>h.1 _ (List.mem_map_of_mem hp)) (fun b hb=>by obtain⟨j,hj⟩:=List.mem_iff_getElem?.1 (List.mem_map_of_mem (f:=EntD.dres) hp);exact mem_fps.2 ⟨j,_,hj,hb⟩))
def vE(v:Value)(l:List EntD):Res:=Res.vec 81 5 v l.length (l.flatMap EntD.cells)
def sE(l:List EntD):Res:=Res.star (l.map EntD.dres)
structure TimD where
  term:Nat
  qD:Int
  now:Int
  qA:Int
  due:Int
  qE:Int
  qz:Int
  gd:Int
  qC:Int
  deriving Inhabited
def TimD.cells(x:TimD):List Value:=[Vn x.term,Vi x.qD,Vi x.now,Vi x.qA,Vi x.due,Vi x.qE,Vi x.qz,Vi x.gd,Vi x.qC]
structure StA where
  id:Int
  nodes:Int
  voters:Int
  edges:Int
  rho:Int
  base:Int
  spread:Int
  beat:Int
  disk:Int
  post:Int
  keep:Int
  deriving Inhabited
def StA.cells(x:StA):List Value:=[Vi x.id,Vi x.nodes,Vi x.voters,Vi x.edges,Vi x.rho,Vi x.base,Vi x.spread,Vi x.beat,Vi x.disk,Vi x.post,Vi x.keep]
structure RolD where
  qp:Int
  who:Int
  qc:Nat
  deriving Inhabited
def RolD.cells(x:RolD):List Value:=[Vi x.qp,Vi x.who,Vn x.qc]
structure StB where
  vv:Value
  vs:List Int
  wv:Value
  dv:Value
  lb:Nat
  deriving Inhabited
def StB.cells(x:StB):List Value:=[x.vv,x.wv,x.dv, .pointer (some ⟨x.lb,0,none⟩)]
def z7(cb:Nat)(t:TimD)(lead:Value)(a:StA)(r:RolD)(b:StB)(yv:Value)(jb qe:Nat)(out:Value):Res:=
  Res.row cb 101 (TimD.cells t++(lead::(StA.cells a++(RolD.cells r++(Vn 0::Vn 0::(StB.cells b++[yv, .pointer (some ⟨jb,0,none⟩),Vn qe,out]))))))
structure PeerM where
  id:Int
  next:Nat
  qy:Nat
  round:Nat
  qx:Int
  off:Int
  opn:Bool
  told:Bool
  asked:Bool
  deriving Inhabited
def PeerM.cells(x:PeerM):List Value:=[Vi x.id,Vn x.next,Vn x.qy,Vn x.round,Vi x.qx,Vi x.off, .bool x.opn, .bool x.told, .bool x.asked]
abbrev PeerP:=Nat×PeerM
def PeerP.cells(x:PeerP):List Value:=[.pointer (some ⟨x.1,0,none⟩)]
def PeerP.dres(x:PeerP):Res:=Res.row x.1 162 (PeerM.cells x.2)
structure LookM where
  id:Nat
  index:Nat
  round:Nat
  deriving Inhabited
def LookM.cells(x:LookM):List Value:=[Vn x.id,Vn x.index,Vn x.round]
structure RdyD where
  id:Nat
  index:Nat
  deriving Inhabited
def RdyD.cells(x:RdyD):List Value:=[Vn x.id,Vn x.index]
structure LdD where
  pv:Value
  qa:List PeerP
  av:Value
  qf:List Int
  rv:Value
  qd:List Int
  sure:Nat
  kv:Value
  qj:List LookM
  give:Int
  qB:Bool
def LdD.cells(x:LdD):List Value:=[x.pv,x.av,x.rv,Vn x.sure,x.kv,Vi x.give, .bool x.qB]
def zQ1:ConfD:={vv:= .slice none 0 0,vs:=[],lv:= .slice none 0 0,ls:=[]}
def yw(kind src dst:Int)(term index ql qc round:Nat)(flag:Bool)(ev:Value)(qm:List EntD):MsgD:=
  {kind:=kind,src:=src,dst:=dst,term:=term,index:=index,ql:=ql,qc:=qc,round:=round,flag:=flag,ev:=ev,qm:=qm,conf:=zQ1,off:=0,dv:= .slice none 0 0,data:=[]}
def MsgD.plain(x:MsgD):Prop:=x.conf=zQ1∧x.dv= .slice none 0 0∧x.data=[]
def Res.when(p:Prop)(r:Res):Res where
  fp:=r.fp
  φ w:=p∧r.φ w
  st w w' h hb:=⟨h.1,r.st w w' h.2 hb⟩
  lt w h b hb:=r.lt w h.2 b hb
def MsgD.dres(x:MsgD):Res:=Res.when x.plain (Res.star [Res.vec 81 5 x.ev x.qm.length (x.qm.flatMap EntD.cells),Res.star (x.qm.map EntD.dres)])
theorem MsgD.dres_rd{x:MsgD}{w:World}{S:List Nat}(h:Rd w S x.dres):x.rd w S:=by
  have h1:Rd w S (Res.star [Res.vec 81 5 x.ev x.qm.length (x.qm.flatMap EntD.cells),Res.star (x.qm.map EntD.dres)]):=h.sub (fun h=>h.2) (fun _ h=>h)
  have hp:=h.φ.1
  refine⟨?_,?_,?_,?_⟩
  · exact(h1.sub (fun h=>h.1 _ qQ) (fun b hb=>mem_fps.2 ⟨0,_,rfl,hb⟩):Rd w S (Res.vec 81 5 x.ev x.qm.length (x.qm.flatMap EntD.cells))).sub Vec.sl zAU
  · intro p hp'
    have h2:Rd w S (Res.star (x.qm.map EntD.dres)):=h1.sub (fun h=>h.1 _ qQ) (fun b hb=>mem_fps.2 ⟨1,_,rfl,hb⟩)
    have h3:p.dres∈x.qm.map EntD.dres:=List.mem_map_of_mem hp'
    obtain⟨i,hi⟩:=List.mem_iff_getElem?.1 h3
    exact EntD.dres_rd (h2.sub (fun h=>h.1 _ h3) (fun b hb=>mem_fps.2 ⟨i,_,hi,hb⟩))
  · rw[hp.1];exact⟨Rd.nil,Rd.nil⟩
  rw[hp.2.1,hp.2.2];exact Rd.nil
theorem MsgD.rd.star0{es:List MsgD}{w0 w:World}{S:List Nat}{L:List Res}(j:Nat)(hL:L[j]?=some (Res.star (es.map MsgD.dres)))(h:Own w0 S L w):∀ p∈es,p.rd w []:=fun p hp=>MsgD.dres_rd (h.star0 j hL _ (List.mem_map_of_mem hp))
theorem MsgD.rd.star{es:List MsgD}{w0 w:World}{S:List Nat}{L Lin:List Res}(j:Nat)(hL:L[j]?=some (Res.star (es.map MsgD.dres)))(m:List Nat)(hm:m.mapM (fun i=>L[i]?)=some Lin)(hj:m.any (Nat.beq j)=false)(h:Own w0 S L w):∀ p∈es,p.rd w (y1 Lin):=fun p hp=>MsgD.dres_rd (h.star j hL m hm hj _ (List.mem_map_of_mem hp))
theorem MsgD.c1all{ms:List MsgD}{w:World}{S:List Nat}(h:∀ p∈ms,MsgD.rd p w S):∀ x∈ms,∀ u∈MsgD.cells x,cell1 u:=by
  intro x hx u hu
  have hr:=h x hx
  simp only[MsgD.cells,ConfD.cells,List.mem_append,List.mem_cons,List.not_mem_nil,or_false]at hu
  rcases hu with(rfl|rfl|rfl|rfl|rfl|rfl|rfl|rfl|rfl|rfl)|(rfl|rfl)|rfl|rfl
  all_goals first
    |exact Sl.cell1 (Rd.φ hr.ev)
    |exact Sl.cell1 (Rd.φ hr.conf.vv)
    |exact Sl.cell1 (Rd.φ hr.conf.lv)
    |exact Sl.cell1 (Rd.φ hr.dv)
    |rfl
theorem _root_.Go.Sc.Own.msgIn{w0 w:World}{S:List Nat}{L:List Res}{m:MsgD}(i j:Nat)(hij:i≠j)(hp:m.plain)(h1:L[i]?=some (Res.vec 81 5 m.ev m.qm.length (m.qm.flatMap EntD.cells)))(h2:L[j]?=some (Res.star (m.qm.map EntD.dres)))(h:Own w0 S L w):Own w0 S (yp [i,j] 0 L++[Res.star ([m].map MsgD.dres)]) w:=by
  have hm: [i,j].mapM (fun i=>L[i]?)=some [Res.vec 81 5 m.ev m.qm.length (m.qm.flatMap EntD.cells),Res.star (m.qm.map EntD.dres)]:=by simp[h1,h2]
  refine h.qh [i,j] hm ?_
  have h3:=(h.give [i,j] hm (by simp[hij])).toStar
  have h4:Own w (y1 [Res.vec 81 5 m.ev m.qm.length (m.qm.flatMap EntD.cells),Res.star (m.qm.map EntD.dres)]) [MsgD.dres m] w:=h3.turn (i:=0) rfl (fun h=>⟨hp,h⟩) (fun _ hb=>hb)
  exact h4.toStar
theorem _root_.Go.Sc.Own.msg0{w0 w:World}{S:List Nat}{L:List Res}{m:MsgD}(hp:m.plain)(hv:m.ev= .slice none 0 0)(he:m.qm=[])(h:Own w0 S L w):Own w0 S (L++[Res.star ([m].map MsgD.dres)]) w:=by
  have h1:Own w [] [Res.vec 81 5 (.slice none 0 0) 0 [],Res.star []] w:=(zm (Own.start w) 81 5).qG
  refine h.qi ?_
  have h2:=h1.toStar
  have e:m.dres.fp=(Res.star [Res.vec 81 5 (.slice none 0 0) 0 [],Res.star []]).fp:=by
    show(Res.star [Res.vec 81 5 m.ev m.qm.length (m.qm.flatMap EntD.cells),Res.star (m.qm.map EntD.dres)]).fp=_
    rw[hv,he];rfl
  have h4:Own w [] [MsgD.dres m] w:=h2.turn (i:=0) rfl (fun h=>⟨hp,by rw[hv,he];exact h⟩) (fun b hb=>by rw[e]at hb;exact hb)
  exact h4.toStar
instance:Inhabited MsgD:=⟨yw 0 0 0 0 0 0 0 0 false (.slice none 0 0) []⟩
theorem _root_.Go.Sc.Own.msgOn{w0 w:World}{S:List Nat}{L:List Res}{ms ns:List MsgD}{m:MsgD}{k:Nat}(i j:Nat)(hij:i≠j)(hk:k<ms.length)(hm:m.dres=(zG ms k).dres)(h1:L[i]?=some (Res.star (ns.map MsgD.dres)))(h2:L[j]?=some (Res.star ((ms.drop k).map MsgD.dres)))(h:Own w0 S L w):Own w0 S (yp [i,j] 0 L++[Res.star ((ns++[m]).map MsgD.dres),Res.star ((ms.drop (k+1)).map MsgD.dres)]) w:=by
  have hq: [i,j].mapM (fun i=>L[i]?)=some [Res.star (ns.map MsgD.dres),Res.star ((ms.drop k).map MsgD.dres)]:=by simp[h1,h2]
  refine h.qh [i,j] hq ?_
  have h3:=(h.give [i,j] hq (by simp[hij])).qn 1 rfl
  rw[ju hk,List.map_cons,←hm]at h3
  have h3:Own w (y1 [Res.star (ns.map MsgD.dres),Res.star (m.dres::(ms.drop (k+1)).map MsgD.dres)]) ([Res.star (ns.map MsgD.dres),m.dres]++(ms.drop (k+1)).map MsgD.dres) w:=h3
  have h4:=h3.shutEnd
  have h5:=h4.qJ (x:=m) 0 1 qM rfl rfl
  rw[ju hk,List.map_cons,←hm]
  exact h5
structure OutD where
  mv:Value
  qk:List MsgD
  shot:Bool
  rv:Value
  qw:List RdyD
  xv:Value
  qt:List Nat
def OutD.cells(x:OutD):List Value:=[x.mv, .bool x.shot,x.rv,x.xv]
def outZ:OutD:={mv:= .slice none 0 0,qk:=[],shot:=false,rv:= .slice none 0 0,qw:=[],xv:= .slice none 0 0,qt:=[]}
def vM(v:Value)(l:List MsgD):Res:=Res.vec 59 14 v l.length (l.flatMap MsgD.cells)
def vR(v:Value)(l:List RdyD):Res:=Res.vec 53 2 v l.length (l.flatMap RdyD.cells)
def vL(v:Value)(l:List LookM):Res:=Res.vec 116 3 v l.length (l.flatMap LookM.cells)
def vP(v:Value)(l:List PeerP):Res:=Res.vec 160 1 v l.length (l.flatMap PeerP.cells)
def sM(l:List MsgD):Res:=Res.star (l.map MsgD.dres)
def sP(l:List PeerP):Res:=Res.star (l.map PeerP.dres)
def kF(b:Nat)(p:PeerM):Res:=Res.row b 162 (PeerM.cells p)
def yP(b:Nat)(l:LdD):Res:=Res.row b 110 (LdD.cells l)
def zAt(b:Nat)(o:OutD):Res:=Res.row b 44 (OutD.cells o)
def Res.nl(b:StB)(lv:Value)(es:List EntD):Res:=Res.star [Res.row b.lb 144 [Vn 0,Vn 0,lv],vE lv es,sE es,vI b.vv b.vs,vI b.wv ([]:List Int)]
def Res.ld(ld:Nat)(l:LdD):Res:=Res.star [yP ld l,vP l.pv l.qa,sP l.qa,vI l.av l.qf,vT l.rv l.qd,vL l.kv l.qj]
def Res.ou(ob:Nat)(o:OutD):Res:=Res.star [zAt ob o,vM o.mv o.qk,sM o.qk,vR o.rv o.qw,vU o.xv o.qt]
theorem PeerP.rd0{ps:List PeerP}{k:Nat}{w0 w:World}{S:List Nat}{L:List Res}(j:Nat)(hL:L[j]?=some (Res.star (ps.map PeerP.dres)))(hk:k<ps.length)(hw:Own w0 S L w):Rd w [] (Res.row (zG ps k).1 162 (PeerM.cells (zG ps k).2)):=hw.star0 j hL _ (List.mem_map_of_mem (zd hk))
theorem PeerP.rdm{ps:List PeerP}{k:Nat}{w0 w:World}{S:List Nat}{L Lin:List Res}(j:Nat)(hL:L[j]?=some (Res.star (ps.map PeerP.dres)))(hk:k<ps.length)(m:List Nat)(hm:m.mapM (fun i=>L[i]?)=some Lin)(hj:m.any (Nat.beq j)=false)(hw:Own w0 S L w):Rd w (y1 Lin) (Res.row (zG ps k).1 162 (PeerM.cells (zG ps k).2)):=hw.star j hL m hm hj _ (List.mem_map_of_mem (zd hk))
def z5(ps:List PeerP)(k:Nat)(p:PeerM):List PeerP:=ps.set k ((zG ps k).1,p)
theorem xG{ps:List PeerP}{k:Nat}{p:PeerM}:(z5 ps k p).length=ps.length:=List.length_set
theorem zHM{ps:List PeerP}{k:Nat}{p:PeerM}(hk:k<ps.length):(z5 ps k p).flatMap PeerP.cells=ps.flatMap PeerP.cells:=by
  have h:∀ l:List PeerP,l.flatMap PeerP.cells=(l.map Prod.fst).map fun b=>Value.pointer (some ⟨b,0,none⟩):=fun l=>by induction l<;>simp_all[PeerP.cells]
  rw[h,h];congr 1
  unfold z5
  rw[List.map_set]
  have:(ps.map Prod.fst)[k]?=some (zG ps k).1:=by rw[List.getElem?_map,yW hk];rfl
  refine List.ext_getElem? fun i=> ?_
  rw[List.getElem?_set]
  split
  · rename_i e;subst e
    rw[if_pos (by simpa using hk),this]
  rfl
theorem _root_.Go.Sc.Own.peerIn{w0 w:World}{S:List Nat}{L:List Res}{ps:List PeerP}{pv:Value}(i j v k:Nat)(p:PeerM)(hk:k<ps.length)(hd: [i,j,v].Nodup)(h1:L[i]?=some (Res.row (zG ps k).1 162 (PeerM.cells p)))(h2:L[j]?=some (Res.star ((ps.eraseIdx k).map PeerP.dres)))(h3:L[v]?=some (Res.vec 160 1 pv ps.length (ps.flatMap PeerP.cells)))(h:Own w0 S L w):
    Own w0 S (yp [i,j,v] 0 L++[Res.vec 160 1 pv (z5 ps k p).length ((z5 ps k p).flatMap PeerP.cells),Res.star ((z5 ps k p).map PeerP.dres)]) w:=by
  have hm: [i,j,v].mapM (fun i=>L[i]?)=some [Res.row (zG ps k).1 162 (PeerM.cells p),Res.star ((ps.eraseIdx k).map PeerP.dres),Res.vec 160 1 pv ps.length (ps.flatMap PeerP.cells)]:=by simp[h1,h2,h3]
  refine h.qh [i,j,v] hm ?_
  rw[xG,zHM hk]
  exact(h.give [i,j,v] hm hd).qL 0 1 k ((zG ps k).1,p) hk qM O O
end Go.Proofs.YtkkeknmkipkbmaaGreat
