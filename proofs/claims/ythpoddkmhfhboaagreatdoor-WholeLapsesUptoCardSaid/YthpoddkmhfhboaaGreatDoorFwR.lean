import Derived.Test.YthpoddkmhfhboaaGreatDoorFwT
import Derived.Maps.RangeRun
set_option linter.unusedSimpArgs false
set_option linter.unusedVariables false
set_option linter.unusedSectionVars false
namespace Go.Sc
theorem ws{a b:Nat}(h:b≤a)(h2:a<18446744073709551616):IntKind.u64.wrap ((a:Int) - (b:Int))=((a - b:Nat):Int):=by
 rw[show(a:Int) - (b:Int)=((a - b:Nat):Int)by omega];exact yz qG
theorem zUU(a b:Nat):IntKind.u64.wrap (((a+b:Nat):Int))=(((a+b)%18446744073709551616:Nat):Int):=by
 rw[y0];unfold u64;omega
theorem jk{α:Type}{p:α→Prop}{l:List α}{k:Nat}(h:∀ x∈l,p x):∀ x∈l.drop k,p x:=fun x a=>h x (List.mem_of_mem_drop a)
theorem zDV{α:Type}{p:α→Prop}{l:List α}{k:Nat}(h:∀ x∈l,p x):∀ x∈l.take k,p x:=fun x a=>h x (List.mem_of_mem_take a)
section
variable {w0 w w':World} {S:List Nat} {L Lin Lout:List Res}
theorem Own.starSel{rs ss:List Res}(i:Nat)(f:Nat→Nat)(c:∀ k r,ss[k]?=some r→rs[f k]?=some r)(j:∀ a b,a≠b→f a≠f b)(h1:L[i]?=some (Res.star rs))(h:Own w0 S L w):Own w0 S (L.set i (Res.star ss)) w:=by
 refine h.turn h1 ?_ ?_
 · rintro⟨l,m⟩
   refine⟨fun r d=> ?_,fun a b r s e d g=>m (f a) (f b) r s (j a b e) (c a r d)<|c b s g⟩
   obtain⟨k,n,rfl⟩:=List.mem_iff_getElem.1 d
   exact l _<|List.mem_of_getElem?<|c k _<|List.getElem?_eq_getElem n
 intro b hb
 obtain⟨k,s,g,hb⟩:=mem_fps.1 hb
 exact mem_fps.2 ⟨f k,s,c k s g,hb⟩
theorem Own.starTake{α:Type}{g:α→Res}{l:List α}(i k:Nat)(h1:L[i]?=some (Res.star (l.map g)))(h:Own w0 S L w):Own w0 S (L.set i (Res.star ((l.take k).map g))) w:=by
 refine h.starSel i id ?_ (fun a b h=>h) h1
 intro a r hr
 rw[List.map_take,List.getElem?_take]at hr
 split at hr
 · exact hr
 cases hr
theorem Own.starDrop{α:Type}{g:α→Res}{l:List α}(i k:Nat)(h1:L[i]?=some (Res.star (l.map g)))(h:Own w0 S L w):Own w0 S (L.set i (Res.star ((l.drop k).map g))) w:=by
 refine h.starSel i (k+ ·) ?_ (fun a b h=>by show k+a≠k+b;omega) h1
 intro a r hr
 rwa [List.map_drop,List.getElem?_drop]at hr
theorem Own.starApp{α:Type}{g:α→Res}{l m:List α}(i j:Nat)(n:i≠j)(h1:L[i]?=some (Res.star (l.map g)))(h2:L[j]?=some (Res.star (m.map g)))(h:Own w0 S L w):Own w0 S ((L.set i (Res.star ((l++m).map g))).eraseIdx j) w:=by
 rw[List.map_append]
 generalize l.map g=rs at h1 ⊢
 generalize m.map g=ss at h2 ⊢
 have e:∀ (k:Nat) (s:Res),(rs++ss)[k]?=some s→(k<rs.length∧rs[k]?=some s)∨(rs.length≤k∧ss[k - rs.length]?=some s):=by
   intro k s c
   rw[List.getElem?_append]at c
   split at c
   · exact .inl ⟨by assumption,c⟩
   exact .inr ⟨by omega,c⟩
 refine h.join n h1 h2 ?_ ?_
 · rintro⟨r,u⟩ ⟨v,o⟩ p
   refine⟨fun s c=> ?_,?_⟩
   · rcases List.mem_append.1 c with c|c
     · exact r s c
     exact v s c
   intro a b s t hab c ht x hx hx'
   rcases e a s c with⟨q,d⟩|⟨q,d⟩<;>rcases e b t ht with⟨y,f⟩|⟨y,f⟩
   · exact u a b s t hab d f x hx hx'
   · exact p x (mem_fps.2 ⟨a,s,d,hx⟩) (mem_fps.2 ⟨_,t,f,hx'⟩)
   · exact p x (mem_fps.2 ⟨b,t,f,hx'⟩) (mem_fps.2 ⟨_,s,d,hx⟩)
   exact o (a - rs.length) (b - rs.length) s t qG d f x hx hx'
 intro b hb
 obtain⟨k,s,c,hb⟩:=mem_fps.1 hb
 rcases e k s c with⟨_,d⟩|⟨_,d⟩
 · exact .inl (mem_fps.2 ⟨k,s,d,hb⟩)
 exact .inr (mem_fps.2 ⟨_,s,d,hb⟩)
end
theorem zI7{w:World}{e:TypeId}{sz n o:Nat}{v u:Value}{cs:List Value}(h:w.ownsRow 0 e sz v n cs)(ho:o<cs.length):
   (∃ u0,w.cell? ⟨xw v,yr v+o,none⟩=some u0)∧w.frozen? ⟨xw v,yr v+o,none⟩=false∧(w.setCell ⟨xw v,yr v+o,none⟩ u).ownsRow 0 e sz v n (cs.set o u)∧xK v=[xw v]∧Keep [xw v] w (w.setCell ⟨xw v,yr v+o,none⟩ u):=by
 obtain⟨hl,h|⟨g,cap,a,rfl,f,h1,h2,i,d,j⟩⟩:=h
 · obtain⟨rfl,rfl⟩:=h;simp at hl;subst hl;simp at ho
 have e1:xw (.slice (some ⟨g,0,none⟩) n cap)=g:=rfl
 have e2:yr (.slice (some ⟨g,0,none⟩) n cap)=0:=rfl
 rw[e1,e2,Nat.zero_add]
 have c:Row w g e a.toList:=⟨0,0,by simpa using h1, .inl (Nat.le_refl _)⟩
 have k:n*sz≤a.size:=by rw[d];exact Nat.mul_le_mul_right _ h2
 have b:o<a.toList.length:=by simp;omega
 have l:=c.set (off:=o) u
 refine⟨⟨_,c.cell<|List.getElem?_eq_getElem b⟩,c.free b,⟨by simpa using hl, .inr ⟨g,cap,a.setIfInBounds o u,O,f,?_,h2,i,by simpa using d,?_⟩⟩,O,l.2⟩
 · simp[World.setCell,Array.getElem?_modify,h1]
 rw[←j,Array.toList_setIfInBounds,List.take_set]
theorem zDn{P:Program}{w:World}{e:TypeId}{sz n o:Nat}{v:Value}{cs vs:List Value}(h:w.ownsRow 0 e sz v n cs)(hv:∀ u∈vs,cell1 u=true)(ho:o+vs.length≤cs.length)(hp:0<vs.length):
   ∃ b,(storeCells ⟨xw v,yr v+o,none⟩ vs 0).run P w= .ok () b∧b.ownsRow 0 e sz v n (yc cs o vs)∧xK v=[xw v]∧Keep [xw v] w b:=by
 obtain⟨hl,h|⟨g,cap,f,rfl,q,h1,h2,r,s,t⟩⟩:=h
 · obtain⟨_,rfl⟩:=h;rw[Nat.zero_mul]at hl;omega
 have e1:xw (.slice (some ⟨g,0,none⟩) n cap)=g:=rfl
 have e2:yr (.slice (some ⟨g,0,none⟩) n cap)=0:=rfl
 rw[e1,e2,Nat.zero_add]
 -- one cell after the other
 have key:∀ (us:List Value) (k:Nat) (w:World) (cs:List Value),(∀ u∈us,cell1 u=true)→w.ownsRow 0 e sz (.slice (some ⟨g,0,none⟩) n cap) n cs→o+k+us.length≤cs.length→
     ∃ b,(storeCells ⟨g,o,none⟩ us k).run P w= .ok () b∧b.ownsRow 0 e sz (.slice (some ⟨g,0,none⟩) n cap) n (yc cs (o+k) us)∧Keep [g] w b:=by
   intro us
   induction us with
   |nil=>intro k w cs _ hO _;exact⟨w,by simp[storeCells],by simpa [yc]using hO,Keep.refl _ _⟩
   |cons u us ih=>
     intro k w cs hu hO hle
     simp only[List.length_cons]at hle
     obtain⟨⟨u0,l⟩,m,c,hb,p⟩:=zI7 (u:=u) (o:=o+k) hO qG
     rw[e1,e2,Nat.zero_add]at l m c p
     have x:=zBK (P:=P) (w:=w) (a:=⟨g,o+k,none⟩) (hu u qJ) l m
     obtain⟨b,y,i,j⟩:=ih (k+1) _ _ (fun z hz=>hu z (by simp[hz])) c qN
     refine⟨b,by simp[storeCells,jx,x,y],?_,p.trans j⟩
     have:yc (cs.set (o+k) u) (o+(k+1)) us=yc cs (o+k) (u::us):=by
       unfold yc
       have d:o+k<cs.length:=by omega
       have e1:(cs.set (o+k) u).take (o+(k+1))=cs.take (o+k)++[u]:=by
         rw[show o+(k+1)=(o+k)+1 by omega,List.take_set,List.take_succ_eq_append_getElem d,List.set_append_right _ _ qN]
         simp[Nat.min_eq_left (Nat.le_of_lt d)]
       have e2:(cs.set (o+k) u).drop (o+(k+1)+us.length)=cs.drop (o+k+(us.length+1)):=by
         rw[List.drop_set_of_lt qG]
         congr 1
         omega
       rw[e1,e2];simp
     rwa [this]at i
 obtain⟨b,q1,q2,q3⟩:=key vs 0 w cs hv ⟨hl, .inr ⟨g,cap,f,rfl,q,h1,h2,r,s,t⟩⟩ qG
 exact⟨b,q1,q2,O,q3⟩
theorem zKA{α:Type}{g:α→List Value}(c:∀ x,(g x).length=1){l:List α}{k:Nat}{a:α}:(l.set k a).flatMap g=(l.flatMap g).set k ((g a).headD default):=by
 induction l generalizing k with
 |nil=>simp
 |cons b l ih=>
   have hb:=c b
   have d:=c a
   match hgb:g b,hga:g a,hb,d with
   | [x],[y],_,_=>
     cases k with
     |zero=>simp[hgb,hga]
     |succ k=>simp only[List.set_cons_succ,List.flatMap_cons,hgb,List.cons_append,List.nil_append,ih,hga]
section
variable {P:Program} {n:Nat} {ops:Array Oper} {N R:K} {X:List (Nat×K)} {f:Nat→Value} {rest:List Oper} {w0:World} {S:List Nat} {L:List Res}
variable {d:Nat} {ty:TypeId} {p:String} {af:Array Edge} {x y:Operand} {t e:TypeId}
theorem zP1(i o:Nat){off sz m:Nat}{v u:Value}{cs:List Value}(l:ev f x= .pointer (some ⟨xw v,off,none⟩))(ho:off=yr v+o)(q:ev f y=u)(h:L[i]?=some (Res.vec e sz v m cs))(j:jm P t=some 1)(hv:cell1 u=true)(a:o<cs.length)
   (k:CL P n ops rest N f (Own w0 S (L.set i (Res.vec e sz v m (cs.set o u))))):CL P n ops (⟨none, .store t x y,ty,p,af,none⟩::rest) N f (Own w0 S L):=by
 intro w hw
 simp only[jm,Option.map_eq_some_iff]at j
 obtain⟨i0,b,c⟩:=j
 obtain⟨⟨u0,r⟩,s,z,hb,hk⟩:=zI7 (u:=u) (hw.holds i _ h) a
 subst ho
 have d:=zBC (P:=P) b c (w:=w) hv r s
 have h1:=hw.frame1 (r':=Res.vec e sz v m (cs.set o u)) (E:=[]) h (Own.mk1 (by show Keep (xK v) _ _;rw[hb];exact hk) z (fun b' g=> .inl g))
 refine zBj (w':=w.setCell ⟨xw v,yr v+o,none⟩ u) ?_<|k _ (by simpa using h1)
 simp[execOp,l,q,Instr.storeAt,Instr.sureAddr,d]
theorem zSW(i o:Nat){off sz m:Nat}{v:Value}{cs vs:List Value}(q:ev f x= .pointer (some ⟨xw v,off,none⟩))(ho:off=yr v+o)(r:ev f y= .agg vs.toArray)(h:L[i]?=some (Res.vec e sz v m cs))(j:jm P t=some vs.length)(hv:∀ u∈vs,cell1 u=true)(a:o+vs.length≤cs.length)
   (k:CL P n ops rest N f (Own w0 S (L.set i (Res.vec e sz v m (yc cs o vs))))) (hp:0<vs.length:=by decide):CL P n ops (⟨none, .store t x y,ty,p,af,none⟩::rest) N f (Own w0 S L):=by
 intro w hw
 simp only[jm,Option.map_eq_some_iff]at j
 obtain⟨i0,b,c⟩:=j
 obtain⟨l,d,s,hb,z⟩:=zDn (P:=P) (hw.holds i _ h) hv a hp
 subst ho
 have h1:=hw.frame1 (r':=Res.vec e sz v m (yc cs o vs)) (E:=[]) h (Own.mk1 (by show Keep (xK v) _ _;rw[hb];exact z) s (fun b' g=> .inl g))
 refine zBj (w':=l) ?_<|k _ (by simpa using h1)
 simp[execOp,q,r,Instr.storeAt,Instr.sureAddr,storeVar,sizeOf,typeInfo,b,c,Value.cells,d]
theorem zTs{α:Type}{g:α→List Value}{xs:List α}(k j:Nat)(a:α){off:Nat}{v u:Value}(d:L[k]?=some (Res.vec e 1 v xs.length (xs.flatMap g)))(b:∀ x,(g x).length=1)(h:ev f x= .pointer (some ⟨xw v,off,none⟩))(ho:off=yr v+j)(i:ev f y=u)(l:g a=[u])(m:cell1 u=true)(q:j<xs.length)(o:jm P t=some 1)
   (c:CL P n ops rest N f (Own w0 S (L.set k (Res.vec e 1 v (xs.set j a).length ((xs.set j a).flatMap g))))):CL P n ops (⟨none, .store t x y,ty,p,af,none⟩::rest) N f (Own w0 S L):=by
 refine zP1 k j h ho i d o m (by rw[jc b];omega) ?_
 rw[zKA b,l,List.length_set]at c
 exact c
theorem zK0{α:Type}{g:α→List Value}{xs:List α}(k j:Nat)(a:α){off:Nat}{v u:Value}(b:L[k]?=some (Res.vec e 1 v xs.length (xs.flatMap g)))(c:∀ x,(g x).length=1)(d:ev f x= .pointer (some ⟨xw v,off,none⟩))(ho:off=yr v+j)(h:ev f y=u)(i:g a=[u])(l:cell1 u=true)(m:j<xs.length)
 (o:CL P n ops rest N f (Own w0 S (L.set k (Res.vec e 1 v (xs.set j a).length ((xs.set j a).flatMap g))))) (q:jm P t=some 1:=by kernel_rfl):CL P n ops (⟨none, .store t x y,ty,p,af,none⟩::rest) N f (Own w0 S L):=zTs k j a b c d ho h i l m q o
end
def arrSz(P:Program)(t:TypeId):Option (Nat×Nat):=match P.underlying t with|some (.array n e)=>(P.info? e).map fun i=>(n,i.size)|_=>none
section
variable {P:Program} {n:Nat} {ops:Array Oper} {N R:K} {X:List (Nat×K)} {f:Nat→Value} {A:World→Prop} {rest:List Oper}
variable {d:Nat} {ty:TypeId} {p:String} {af:Array Edge} {x y:Operand} {t e:TypeId}
end
theorem zQi{P:Program}{n:Nat}{x y:Code}{M R:K}{X:List (Nat×K)}{f:Nat→Value}{w0:World}{S:List Nat}{L0:List Res}{α0 α1 α2 α3 α4 α5:Type}(c:α0→α1→α2→α3→α4→α5→List (Nat×Value))(Φ:α0→α1→α2→α3→α4→α5→Prop)(L:α0→α1→α2→α3→α4→α5→List Res)
   (d:C P n x (fun f w=>∃ (a0:α0) (a:α1) (b:α2) (a3:α3) (a4:α4) (a5:α5),Agr f (c a0 a b a3 a4 a5)∧Φ a0 a b a3 a4 a5∧Own w0 S (L a0 a b a3 a4 a5) w) R X f (Own w0 S L0))
   (e:∀ (a0:α0) (a:α1) (b:α2) (a3:α3) (a4:α4) (a5:α5) (g:Nat→Value),Φ a0 a b a3 a4 a5→C P n y M R X (zAR g (c a0 a b a3 a4 a5)) (Own w0 S (L a0 a b a3 a4 a5))):C P n (.seq x y) M R X f (Own w0 S L0):=
 zAE (α0×α1×α2×α3×α4×α5) (fun s=>c s.1 s.2.1 s.2.2.1 s.2.2.2.1 s.2.2.2.2.1 s.2.2.2.2.2) (fun s=>Φ s.1 s.2.1 s.2.2.1 s.2.2.2.1 s.2.2.2.2.1 s.2.2.2.2.2) (fun s=>L s.1 s.2.1 s.2.2.1 s.2.2.2.1 s.2.2.2.2.1 s.2.2.2.2.2) (fun w i=>kJ (d w i) fun f w ⟨a0,a,b,a3,a4,a5,h1,h2,h3⟩=>⟨(a0,a,b,a3,a4,a5),h1,h2,h3⟩) (fun s g h=>e s.1 s.2.1 s.2.2.1 s.2.2.2.1 s.2.2.2.2.1 s.2.2.2.2.2 g h)
theorem zLb{P:Program}{n:Nat}{x y:Code}{M R:K}{X:List (Nat×K)}{f:Nat→Value}{w0:World}{S:List Nat}{L0:List Res}{α0 α1 α2 α3 α4 α5 α6:Type}(d:α0→α1→α2→α3→α4→α5→α6→List (Nat×Value))(Φ:α0→α1→α2→α3→α4→α5→α6→Prop)(L:α0→α1→α2→α3→α4→α5→α6→List Res)
   (e:C P n x (fun f w=>∃ (a0:α0) (a:α1) (b:α2) (a3:α3) (a4:α4) (a5:α5) (c:α6),Agr f (d a0 a b a3 a4 a5 c)∧Φ a0 a b a3 a4 a5 c∧Own w0 S (L a0 a b a3 a4 a5 c) w) R X f (Own w0 S L0))
   (i:∀ (a0:α0) (a:α1) (b:α2) (a3:α3) (a4:α4) (a5:α5) (c:α6) (g:Nat→Value),Φ a0 a b a3 a4 a5 c→C P n y M R X (zAR g (d a0 a b a3 a4 a5 c)) (Own w0 S (L a0 a b a3 a4 a5 c))):C P n (.seq x y) M R X f (Own w0 S L0):=
 zAE (α0×α1×α2×α3×α4×α5×α6) (fun s=>d s.1 s.2.1 s.2.2.1 s.2.2.2.1 s.2.2.2.2.1 s.2.2.2.2.2.1 s.2.2.2.2.2.2) (fun s=>Φ s.1 s.2.1 s.2.2.1 s.2.2.2.1 s.2.2.2.2.1 s.2.2.2.2.2.1 s.2.2.2.2.2.2) (fun s=>L s.1 s.2.1 s.2.2.1 s.2.2.2.1 s.2.2.2.2.1 s.2.2.2.2.2.1 s.2.2.2.2.2.2) (fun w j=>kJ (e w j) fun f w ⟨a0,a,b,a3,a4,a5,c,h1,h2,h3⟩=>⟨(a0,a,b,a3,a4,a5,c),h1,h2,h3⟩) (fun s g h=>i s.1 s.2.1 s.2.2.1 s.2.2.2.1 s.2.2.2.2.1 s.2.2.2.2.2.1 s.2.2.2.2.2.2 g h)
theorem zPL{P:Program}{n:Nat}{cc:Code}{M R:K}{X:List (Nat×K)}{f:Nat→Value}{w0:World}{S:List Nat}{L0:List Res}{α0 α1 α2 α3 α4 α5 α6:Type}(o:α0→α1→α2→α3→α4→α5→α6→List (Nat×Value))(Φ:α0→α1→α2→α3→α4→α5→α6→Prop)(L:α0→α1→α2→α3→α4→α5→α6→List Res)(μ:α0→α1→α2→α3→α4→α5→α6→Nat)
   (t:∀ w,Own w0 S L0 w→∃ (a0:α0) (k:α1) (l:α2) (a3:α3) (a4:α4) (a5:α5) (m:α6),Agr f (o a0 k l a3 a4 a5 m)∧Φ a0 k l a3 a4 a5 m∧Own w0 S (L a0 k l a3 a4 a5 m) w)
   (round:∀ (a0:α0) (k:α1) (l:α2) (a3:α3) (a4:α4) (a5:α5) (m:α6) (g:Nat→Value),Φ a0 k l a3 a4 a5 m→C P n cc (fun q r=>∃ (a:α0) (b:α1) (c:α2) (d:α3) (e:α4) (i:α5) (j:α6),Agr q (o a b c d e i j)∧Φ a b c d e i j∧Own w0 S (L a b c d e i j) r∧μ a b c d e i j<μ a0 k l a3 a4 a5 m) R X (zAR g (o a0 k l a3 a4 a5 m)) (Own w0 S (L a0 k l a3 a4 a5 m))):C P n (.loop cc) M R X f (Own w0 S L0):=
 zAP (α0×α1×α2×α3×α4×α5×α6) (fun s=>o s.1 s.2.1 s.2.2.1 s.2.2.2.1 s.2.2.2.2.1 s.2.2.2.2.2.1 s.2.2.2.2.2.2) (fun s=>Φ s.1 s.2.1 s.2.2.1 s.2.2.2.1 s.2.2.2.2.1 s.2.2.2.2.2.1 s.2.2.2.2.2.2) (fun s=>L s.1 s.2.1 s.2.2.1 s.2.2.2.1 s.2.2.2.2.1 s.2.2.2.2.2.1 s.2.2.2.2.2.2) (fun s=>μ s.1 s.2.1 s.2.2.1 s.2.2.2.1 s.2.2.2.2.1 s.2.2.2.2.2.1 s.2.2.2.2.2.2) (fun w p=>let ⟨a0,k,l,a3,a4,a5,m,h1,h2,h3⟩:=t w p;⟨(a0,k,l,a3,a4,a5,m),h1,h2,h3⟩)
   (fun s g h w p=>kJ (round s.1 s.2.1 s.2.2.1 s.2.2.2.1 s.2.2.2.2.1 s.2.2.2.2.2.1 s.2.2.2.2.2.2 g h w p) fun q r ⟨a,b,c,d,e,i,j,h1,h2,h3,h4⟩=>⟨(a,b,c,d,e,i,j),h1,h2,h3,h4⟩)
theorem zK8{P:Program}{n:Nat}{cc:Code}{M R:K}{X:List (Nat×K)}{f:Nat→Value}{w0:World}{S:List Nat}{L0:List Res}{α0 α1 α2 α3 α4 α5 α6 α7 α8 α9 α10:Type}(x:α0→α1→α2→α3→α4→α5→α6→α7→α8→α9→α10→List (Nat×Value))(Φ:α0→α1→α2→α3→α4→α5→α6→α7→α8→α9→α10→Prop)(L:α0→α1→α2→α3→α4→α5→α6→α7→α8→α9→α10→List Res)(μ:α0→α1→α2→α3→α4→α5→α6→α7→α8→α9→α10→Nat)
   (h0:∀ w,Own w0 S L0 w→∃ (a0:α0) (q:α1) (r:α2) (a3:α3) (a4:α4) (a5:α5) (t:α6) (u:α7) (v:α8) (a9:α9) (a:α10),Agr f (x a0 q r a3 a4 a5 t u v a9 a)∧Φ a0 q r a3 a4 a5 t u v a9 a∧Own w0 S (L a0 q r a3 a4 a5 t u v a9 a) w)
   (round:∀ (a0:α0) (q:α1) (r:α2) (a3:α3) (a4:α4) (a5:α5) (t:α6) (u:α7) (v:α8) (a9:α9) (a:α10) (g:Nat→Value),Φ a0 q r a3 a4 a5 t u v a9 a→C P n cc (fun z w'=>∃ (c:α0) (d:α1) (e:α2) (i:α3) (j:α4) (k:α5) (l:α6) (m:α7) (o:α8) (p:α9) (b:α10),Agr z (x c d e i j k l m o p b)∧Φ c d e i j k l m o p b∧Own w0 S (L c d e i j k l m o p b) w'∧μ c d e i j k l m o p b<μ a0 q r a3 a4 a5 t u v a9 a) R X (zAR g (x a0 q r a3 a4 a5 t u v a9 a)) (Own w0 S (L a0 q r a3 a4 a5 t u v a9 a))):C P n (.loop cc) M R X f (Own w0 S L0):=
 zAP (α0×α1×α2×α3×α4×α5×α6×α7×α8×α9×α10) (fun s=>x s.1 s.2.1 s.2.2.1 s.2.2.2.1 s.2.2.2.2.1 s.2.2.2.2.2.1 s.2.2.2.2.2.2.1 s.2.2.2.2.2.2.2.1 s.2.2.2.2.2.2.2.2.1 s.2.2.2.2.2.2.2.2.2.1 s.2.2.2.2.2.2.2.2.2.2) (fun s=>Φ s.1 s.2.1 s.2.2.1 s.2.2.2.1 s.2.2.2.2.1 s.2.2.2.2.2.1 s.2.2.2.2.2.2.1 s.2.2.2.2.2.2.2.1 s.2.2.2.2.2.2.2.2.1 s.2.2.2.2.2.2.2.2.2.1 s.2.2.2.2.2.2.2.2.2.2) (fun s=>L s.1 s.2.1 s.2.2.1 s.2.2.2.1 s.2.2.2.2.1 s.2.2.2.2.2.1 s.2.2.2.2.2.2.1 s.2.2.2.2.2.2.2.1 s.2.2.2.2.2.2.2.2.1 s.2.2.2.2.2.2.2.2.2.1 s.2.2.2.2.2.2.2.2.2.2) (fun s=>μ s.1 s.2.1 s.2.2.1 s.2.2.2.1 s.2.2.2.2.1 s.2.2.2.2.2.1 s.2.2.2.2.2.2.1 s.2.2.2.2.2.2.2.1 s.2.2.2.2.2.2.2.2.1 s.2.2.2.2.2.2.2.2.2.1 s.2.2.2.2.2.2.2.2.2.2) (fun w y=>let ⟨a0,q,r,a3,a4,a5,t,u,v,a9,a,h1,h2,h3⟩:=h0 w y;⟨(a0,q,r,a3,a4,a5,t,u,v,a9,a),h1,h2,h3⟩)
   (fun s g h w y=>kJ (round s.1 s.2.1 s.2.2.1 s.2.2.2.1 s.2.2.2.2.1 s.2.2.2.2.2.1 s.2.2.2.2.2.2.1 s.2.2.2.2.2.2.2.1 s.2.2.2.2.2.2.2.2.1 s.2.2.2.2.2.2.2.2.2.1 s.2.2.2.2.2.2.2.2.2.2 g h w y) fun z w' ⟨c,d,e,i,j,k,l,m,o,p,b,h1,h2,h3,h4⟩=>⟨(c,d,e,i,j,k,l,m,o,p,b),h1,h2,h3,h4⟩)
open Go.ChangeMaps (setBlock)
section
variable {κ:Type} [DecidableEq κ] {P:Program} {kt vt t:TypeId} {ke:κ→Value}
def Res.rng(ke:κ→Value)(b r:Nat)(kv todo:List (κ×Value)):Res where
 fp:=[b,r]
 φ w:=∃ es clock since seen c0,w.heap[b]?=some (.map es clock)∧w.heap[r]?=some (.mapIter (some b) since seen c0)∧es.toList.map (fun e=>(e.key,e.val))=kv.map (fun p=>(ke p.1,p.2))∧js es clock∧
   (∀ e∈es.toList,e.born<since)∧(since≤c0∧since≤clock)∧(leftOf es seen).toList.map (fun e=>(e.key,e.val))=todo.map (fun p=>(ke p.1,p.2))
 st w w' h hb:=by
   obtain⟨es,clock,since,seen,c0,h1,h2,h3⟩:=h
   exact⟨es,clock,since,seen,c0,by rw[hb b qJ];exact h1,by rw[hb r qJ];exact h2,h3⟩
 lt w h b' hb':=by
   obtain⟨es,clock,since,seen,c0,h1,h2,h3⟩:=h
   simp at hb'
   rcases hb' with rfl|rfl
   · exact(Array.getElem?_eq_some_iff.1 h1).1
   exact(Array.getElem?_eq_some_iff.1 h2).1
def Res.rnl(ke:κ→Value)(b r:Nat)(kv todo:List (κ×Value))(k:κ)(v:Value):Res where
 fp:=[b,r]
 φ w:=∃ (es:Array MapEntry) (clock since:Nat) (seen:Array Nat) (e:MapEntry),w.heap[b]?=some (.map es clock)∧w.heap[r]?=some (.mapIter (some b) since (seen.push e.born) clock)∧es.toList.map (fun e=>(e.key,e.val))=kv.map (fun p=>(ke p.1,p.2))∧js es clock∧
   (∀ e∈es.toList,e.born<since)∧since≤clock∧(leftOf es (seen.push e.born)).toList.map (fun e=>(e.key,e.val))=todo.map (fun p=>(ke p.1,p.2))∧e∈es.toList∧e.key=ke k∧e.val=v
 st w w' h hb:=by
   obtain⟨es,clock,since,seen,e,h1,h2,h3⟩:=h
   exact⟨es,clock,since,seen,e,by rw[hb b qJ];exact h1,by rw[hb r qJ];exact h2,h3⟩
 lt w h b' hb':=by
   obtain⟨es,clock,since,seen,e,h1,h2,h3⟩:=h
   simp at hb'
   rcases hb' with rfl|rfl
   · exact(Array.getElem?_eq_some_iff.1 h1).1
   exact(Array.getElem?_eq_some_iff.1 h2).1
theorem zOc{w:World}{b r:Nat}{kv todo:List (κ×Value)}{k:κ}{v:Value}(h:(Res.rnl ke b r kv todo k v).φ w):(Res.rng ke b r kv todo).φ w:=by
 obtain⟨es,a,since,c,e,h1,h2,f,g,i,d,j,_⟩:=h
 exact⟨es,a,since,_,a,h1,h2,f,g,i,⟨d,d⟩,j⟩
theorem zPD{w:World}{b r:Nat}{kv todo:List (κ×Value)}(h:(Res.rng ke b r kv todo).φ w):(Res.map ke b kv).φ w:=by
 obtain⟨es,a,since,c,f,h1,h2,d,e,g⟩:=h
 exact⟨es,a,h1,d,e⟩
theorem zGV(es:Array MapEntry):leftOf es #[]=es:=by simp[leftOf]
theorem zFw{es:Array MapEntry}{seen:Array Nat}{e:MapEntry}{s t:List MapEntry}(h:(leftOf es seen).toList=s++e::t)(c:(es.toList.map (·.born)).Nodup):(leftOf es (seen.push e.born)).toList=s++t:=by
 have h1:(leftOf es (seen.push e.born)).toList=(leftOf es seen).toList.filter fun x=>x.born !=e.born:=by
   simp only[leftOf,Array.toList_filter,List.filter_filter]
   congr 1
   funext x
   simp[Array.contains_push,Bool.and_comm]
   by_cases a:x.born=e.born<;>simp[a]
 have h2:((leftOf es seen).toList.map (·.born)).Nodup:=by
   refine c.sublist (List.Sublist.map _ ?_)
   simp only[leftOf,Array.toList_filter]
   exact List.filter_sublist
 rw[h1,h]
 rw[h,List.map_append,List.map_cons,List.nodup_append]at h2
 obtain⟨f,b,d⟩:=h2
 rw[List.nodup_cons]at b
 rw[List.filter_append,List.filter_cons_of_neg qJ]
 congr 1
 · refine List.filter_eq_self.2 fun x a=> ?_
   have:=d x.born (List.mem_map_of_mem a) e.born qJ
   simpa using this
 refine List.filter_eq_self.2 fun x a=> ?_
 have:x.born≠e.born:=fun h=>b.1 (h▸List.mem_map_of_mem a)
 simpa using this
variable {n:Nat} {ops:Array Oper} {N:K} {f:Nat→Value} {rest:List Oper} {d:Nat} {ty:TypeId} {p:String} {af:Array Edge} {x y z:Operand} {w0:World} {S:List Nat} {L:List Res} {A:World→Prop}
theorem zO0(i:Nat){b:Nat}{kv:List (κ×Value)}(h:kU P t=some (kt,vt))(j:ev f x= .map (some b))(e:L[i]?=some (Res.map ke b kv))(l:Nat.blt d n=true)
   (k:∀ r,CL P n ops rest N (upd f d (.pointer (some ⟨r,0,none⟩))) (Own w0 S (L.set i (Res.rng ke b r kv kv)))):
   CL P n ops (⟨some d, .range t x,ty,p,af,none⟩::rest) N f (Own w0 S L):=by
 intro w hw
 obtain⟨es,a,h1,h2,g⟩:=hw.holds i _ e
 have hb:b<w.heap.size:=hw.lt e b (by simp[Res.map])
 have e1:=x3 (P:=P) h1
 have m:=hw.frame1 (r':=Res.rng ke b w.heap.size kv kv) (E:=[]) e (Own.mk1 (w':=w.alloc (.mapIter (some b) a #[] a)) ⟨rfl,rfl,rfl,by simp,fun k o _=>heap_alloc_old w _ o⟩
   ⟨es,a,a,#[],a,by rw[heap_alloc_old w _ hb];exact h1,heap_alloc_new w _,h2,g,g.1,⟨Nat.le_refl _,Nat.le_refl _⟩,by rw[zGV];exact h2⟩ (fun q c=>by
     simp only[Res.rng,List.mem_cons,List.not_mem_nil,or_false]at c
     rcases c with rfl|rfl
     · left;simp[Res.map]
     right;exact Nat.le_refl _))
 refine xc (w':=w.alloc (.mapIter (some b) a #[] a)) ?_ l (k w.heap.size _ (by simpa using m))
 simp[execOp,j,Instr.range,zp (xM h),e1,newObj,Sem.run]
theorem zN6{i b r:Nat}{kv todo:List (κ×Value)}{w:World}(y:Own w0 S L w)(z:L[i]?=some (Res.rng ke b r kv todo))(ty:TypeId):
   (todo=[]∧(Instr.next (.pointer (some ⟨r,0,none⟩)) false ty).run P w= .ok (.tuple #[yC]) w)∨
   ∃ l1 k v l2 w',todo=l1++(k,v)::l2∧(Instr.next (.pointer (some ⟨r,0,none⟩)) false ty).run P w= .ok (.tuple #[xx,ke k,v]) w'∧Own w0 S (L.set i (Res.rnl ke b r kv (l1++l2) k v)) w':=by
 obtain⟨es,c,since,a,c0,h1,h2,h3,h4,h5,h6,j⟩:=y.holds i _ z
 rcases run_next_at (P:=P) w ty r b since c0 a es c h2 h1 h5 h6.1 with⟨h8,h9⟩|⟨e,he,l,d,g⟩
 · left
   refine⟨?_,h9⟩
   have:(leftOf es a).toList.length=0:=by simpa using h8
   have m:=congrArg List.length j
   simp only[List.length_map]at m
   exact List.eq_nil_of_length_eq_zero qG
 right
 obtain⟨s,t,f⟩:=List.append_of_mem he
 rw[f,List.map_append,List.map_cons]at j
 obtain⟨l1,a0,ht,n,o⟩:=List.map_eq_append_iff.1 j.symm
 obtain⟨q,l2,rfl,h,p⟩:=List.map_eq_cons_iff.1 o
 obtain⟨k,v⟩:=q
 simp only[Prod.mk.injEq]at h
 have u:b≠r:=by rintro rfl;rw[h1]at h2;cases h2
 have hr:r<w.heap.size:=(Array.getElem?_eq_some_iff.1 h2).1
 refine⟨l1,k,v,l2,setBlock l r (.mapIter (some b) since (a.push e.born) c),ht,by rw[g,h.1,h.2],?_⟩
 have hh:l.heap=w.heap:=by rcases d with rfl|rfl<;>rfl
 have hO:=y.frame1 (r':=Res.rnl ke b r kv (l1++l2) k v) (E:=[]) z (Own.mk1 (w':=setBlock l r (.mapIter (some b) since (a.push e.born) c)) ⟨?_,?_,?_,?_,fun k hk hS=> ?_⟩
   ⟨es,c,since,a,e,?_,?_,h3,h4,h5,h6.2,?_,?_,h.1.symm,h.2.symm⟩ (fun b' x=> .inl x))
 · simpa using hO
 · rcases d with rfl|rfl<;>rfl
 · rcases d with rfl|rfl<;>rfl
 · rcases d with rfl|rfl<;>rfl
 · simp[setBlock,hh]
 · simp only[Res.rng,List.mem_cons,List.not_mem_nil,or_false,not_or]at hS
   simp only[setBlock,hh,Array.getElem?_setIfInBounds_ne (Ne.symm hS.2)]
 · simp only[setBlock,hh,Array.getElem?_setIfInBounds_ne (Ne.symm u)];exact h1
 · simp[setBlock,hh,Array.getElem?_setIfInBounds_self,hr]
 · rw[zFw f h4.2,List.map_append,List.map_append,n,p]
 have:e∈(leftOf es a).toList:=by rw[f];simp
 simp only[leftOf,Array.toList_filter]at this
 exact(List.mem_filter.1 this).1
theorem zRO(i:Nat){b r:Nat}{kv todo:List (κ×Value)}(e:ev f x= .pointer (some ⟨r,0,none⟩))(h:L[i]?=some (Res.rng ke b r kv todo))(g:Nat.blt d n=true)
   (k0:todo=[]→CL P n ops rest N (upd f d (.tuple #[yC])) (Own w0 S L))
   (k1:∀ l1 k v l2,todo=l1++(k,v)::l2→CL P n ops rest N (upd f d (.tuple #[xx,ke k,v])) (Own w0 S (L.set i (Res.rnl ke b r kv (l1++l2) k v)))):
   CL P n ops (⟨some d, .next x false,ty,p,af,none⟩::rest) N f (Own w0 S L):=by
 intro w hw
 rcases zN6 (P:=P) hw h ty with⟨j,a⟩|⟨l1,k,v,l2,c,l,a,m⟩
 · exact xc (w':=w) (by simp[execOp,e,a]) g (k0 j _ hw)
 exact xc (w':=c) (by simp[execOp,e,a]) g (k1 l1 k v l2 l _ m)
theorem Own.rnlEnd{w:World}(i:Nat){b r:Nat}{kv todo:List (κ×Value)}{k:κ}{v:Value}(h:Own w0 S L w)(a:L[i]?=some (Res.rnl ke b r kv todo k v)):Own w0 S (L.set i (Res.rng ke b r kv todo)) w:=
 h.turn a zOc (by simp[Res.rnl,Res.rng])
theorem zOj(i:Nat){b r:Nat}{kv todo:List (κ×Value)}{k:κ}{v:Value}(l:ev f x= .pointer (some ⟨r,0,none⟩))(h:L[i]?=some (Res.rnl ke b r kv todo k v))(m:Nat.blt d n=true)
   (o:CL P n ops rest N (upd f d (.tuple #[ke k,v])) (Own w0 S (L.set i (Res.rng ke b r kv todo)))):
   CL P n ops (⟨some d, .entry x,ty,p,af,none⟩::rest) N f (Own w0 S L):=by
 intro w hw
 obtain⟨es,a,since,c,e,h1,h2,u,q,y,z,h7,s,t,g⟩:=hw.holds i _ h
 have j:=run_entry_at (P:=P) w r b since c es a e h2 h1 s q.2
 rw[t,g]at j
 exact xc (w':=w) (by simp[execOp,l,j]) m (o _ (hw.rnlEnd i h))
theorem Own.rngEnd{w:World}(i:Nat){b r:Nat}{kv todo:List (κ×Value)}(h:Own w0 S L w)(a:L[i]?=some (Res.rng ke b r kv todo)):Own w0 S (L.set i (Res.map ke b kv)) w:=
 h.turn a zPD (by simp[Res.map,Res.rng])
theorem zOw(i:Nat){b:Nat}{kv:List (κ×Value)}{k:κ}{u:TypeId}(K:KeyL P kt ke)(c:kU P t=some (kt,vt))(d:ev f x= .map (some b))(e:ev f y=ke k)(g:L[i]?=some (Res.map ke b kv))
   (h:CL P n ops rest N f (Own w0 S (L.set i (Res.map ke b (zA7 k kv))))):CL P n ops (⟨none, .call ⟨.builtin .delete,#[x,y],#[t,u]⟩,ty,p,af,none⟩::rest) N f (Own w0 S L):=by
 intro w hw
 obtain⟨a,j,l⟩:=zKX (ty:=ty) (u:=u) (k:=k) K c hw g
 refine zFL (w':=a) (v:= .tuple #[]) ?_ (h _ l)
 simp[execOp,resolve,invoke,builtin,d,e,j]
theorem zKV(K:KeyL P kt ke)(ht:kU P t=some (kt,vt)){i b r:Nat}{kv todo:List (κ×Value)}{k:κ}{w:World}{u:TypeId}(hw:Own w0 S L w)(hL:L[i]?=some (Res.rng ke b r kv todo))(hk:∀ q∈todo,q.1≠k):
   ∃ w',(Builtin.delete_ #[t,u] ty #[.map (some b),ke k]).run P w= .ok (.tuple #[]) w'∧Own w0 S (L.set i (Res.rng ke b r (zA7 k kv) todo)) w':=by
 obtain⟨es,c,since,a,c0,h1,h2,m,n,h5,h6,s⟩:=hw.holds i _ hL
 have e1:=x3 (P:=P) h1
 have e2:=j6 K es.isEmpty k w
 have e3:=zAn K k m w
 have v:b≠r:=by rintro rfl;rw[h1]at h2;cases h2
 have x:b<w.heap.size:=(Array.getElem?_eq_some_iff.1 h1).1
 have fin:∀ (es':Array MapEntry) (kv':List (κ×Value)),es'.toList.map (fun e=>(e.key,e.val))=kv'.map (fun p=>(ke p.1,p.2))→js es' c→(∀ e∈es'.toList,e.born<since)→(leftOf es' a).toList.map (fun e=>(e.key,e.val))=todo.map (fun p=>(ke p.1,p.2))→
     Own w0 S (L.set i (Res.rng ke b r kv' todo)) {w with heap:=w.heap.setIfInBounds b (.map es' c)}:=by
   intro es' kv' q1 q2 q3 q4
   have hO:=hw.frame1 (r':=Res.rng ke b r kv' todo) (E:=[]) hL (Own.mk1 (w':={w with heap:=w.heap.setIfInBounds b (.map es' c)}) ⟨rfl,rfl,rfl,by simp,fun k hk hS=> ?_⟩
     ⟨es',c,since,a,c0,by simp[Array.getElem?_setIfInBounds_self,x],by simp only[Array.getElem?_setIfInBounds_ne v];exact h2,q1,q2,q3,h6,q4⟩ (fun b' y=> .inl y))
   · simpa using hO
   simp only[Res.rng,List.mem_cons,List.not_mem_nil,or_false,not_or]at hS
   simp only[Array.getElem?_setIfInBounds_ne (Ne.symm hS.1)]
 cases hi:kc k kv 0 with
 |none=>
   refine⟨_,?_,fin es (zA7 k kv) (by simp[zA7,hi,m]) n h5 s⟩
   simp[Builtin.delete_,zp (xM ht),e1,e2,e3,hi,kM (P:=P) h1]
 |some q=>
   obtain⟨j,u'⟩:=q
   obtain⟨_,z⟩:=zAy hi
   simp only[Nat.sub_zero]at z
   have g:j<es.toList.length:=by
     have hl:=congrArg List.length m
     simp only[List.length_map]at hl
     rw[hl];exact(List.getElem?_eq_some_iff.1 z).1
   have a0:j<es.size:=by simpa using g
   have d:(es.eraseIdxIfInBounds j).toList=es.toList.eraseIdx j:=by
     simp[Array.eraseIdxIfInBounds,a0]
   have a1:(es.toList[j]).key=ke k:=by
     have:=congrArg (·[j]?) m
     simp only[List.getElem?_map,z,Option.map_some,List.getElem?_eq_getElem g]at this
     simpa using congrArg (fun o=>o.map Prod.fst) this
   have h:(es.toList.eraseIdx j).filter (fun e=> !a.contains e.born)=es.toList.filter (fun e=> !a.contains e.born):=by
     rw[List.eraseIdx_eq_take_drop_succ]
     have h0:es.toList=es.toList.take j++es.toList[j]::es.toList.drop (j+1):=by
       rw[←List.drop_eq_getElem_cons g,List.take_append_drop]
     have h9:(!a.contains (es.toList[j]).born)=false:=by
       cases hc:(!a.contains (es.toList[j]).born)with
       |false=>rfl
       |true=>
         exfalso
         have hm:es.toList[j]∈(leftOf es a).toList:=by
           simp only[leftOf,Array.toList_filter]
           exact List.mem_filter.2 ⟨List.getElem_mem g,hc⟩
         have a2:((es.toList[j]).key,(es.toList[j]).val)∈todo.map (fun p=>(ke p.1,p.2)):=by
           rw[←s];exact List.mem_map_of_mem (f:=fun e:MapEntry=>(e.key,e.val)) hm
         obtain⟨q,hq,l⟩:=List.mem_map.1 a2
         simp only[Prod.mk.injEq]at l
         exact hk q hq (K.inj (l.1.trans a1))
     conv=>rhs;rw[h0]
     rw[List.filter_append,List.filter_append,List.filter_cons_of_neg (by rw[h9];simp)]
   refine⟨_,?_,fin (es.eraseIdxIfInBounds j) (zA7 k kv) ?_ ⟨?_,?_⟩ ?_ ?_⟩
   · simp[Builtin.delete_,zp (xM ht),e1,e2,e3,hi,kM (P:=P) h1]
   · rw[d]
     simp only[zA7,hi]
     rw[kq,kq,m]
   · rw[d];exact fun e l=>n.1 e (List.mem_of_mem_eraseIdx l)
   · rw[d,kq];exact n.2.sublist (List.eraseIdx_sublist _ _)
   · rw[d];exact fun e l=>h5 e (List.mem_of_mem_eraseIdx l)
   simp only[leftOf,Array.toList_filter,d,h]
   simpa only[leftOf,Array.toList_filter]using s
theorem zOJ(i:Nat){b r:Nat}{kv todo:List (κ×Value)}{k:κ}{u:TypeId}(K:KeyL P kt ke)(c:kU P t=some (kt,vt))(d:ev f x= .map (some b))(e:ev f y=ke k)(g:L[i]?=some (Res.rng ke b r kv todo))(h:∀ q∈todo,q.1≠k)
   (j:CL P n ops rest N f (Own w0 S (L.set i (Res.rng ke b r (zA7 k kv) todo)))):CL P n ops (⟨none, .call ⟨.builtin .delete,#[x,y],#[t,u]⟩,ty,p,af,none⟩::rest) N f (Own w0 S L):=by
 intro w hw
 obtain⟨a,l,m⟩:=zKV (ty:=ty) (u:=u) (k:=k) K c hw g h
 refine zFL (w':=a) (v:= .tuple #[]) ?_ (j _ m)
 simp[execOp,resolve,invoke,builtin,d,e,l]
end
section
variable {κ α:Type} [DecidableEq κ]
def zl(k:κ):List (κ×α)→Option α
 | []=>none
 |(x,v)::r=>if k=x then some v else zl k r
def yZ(k:κ)(v:α):List (κ×α)→List (κ×α)
 | []=>[(k,v)]
 |(x,u)::r=>if k=x then(k,v)::r else(x,u)::yZ k v r
def zAF(k:κ):List (κ×α)→List (κ×α)
 | []=>[]
 |(x,u)::r=>if k=x then r else(x,u)::zAF k r
def vA(ve:α→Value)(kv:List (κ×α)):List (κ×Value):=kv.map fun p=>(p.1,ve p.2)
theorem zL2(ve:α→Value)(k:κ):∀ (kv:List (κ×α)) (i:Nat),(kc k (vA ve kv) i).map (·.2)=(zl k kv).map ve
 | [],i=>rfl
 |(x,u)::r,i=>by
   simp only[vA,List.map_cons,kc,zl]
   by_cases h:k=x
   · simp[h]
   simp only[h,if_false];exact zL2 ve k r (i+1)
theorem zKa(ve:α→Value)(k:κ)(kv:List (κ×α)):zH8 k (vA ve kv)=(zl k kv).map ve:=zL2 ve k kv 0
theorem zBN(k:κ):∀ (kv:List (κ×Value)) (i:Nat),kc k kv (i+1)=(kc k kv i).map fun q=>(q.1+1,q.2)
 | [],i=>rfl
 |(x,u)::r,i=>by
   simp only[kc]
   by_cases h:k=x
   · simp[h]
   simp only[h,if_false];exact zBN k r (i+1)
theorem zG4(k:κ)(v:Value)(x:κ)(u:Value)(kv:List (κ×Value)):zEE k v ((x,u)::kv)=if k=x then(k,v)::kv else(x,u)::zEE k v kv:=by
 unfold zEE
 simp only[kc]
 by_cases h:k=x
 · simp[h]
 simp only[h,if_false,zBN k kv 0]
 cases kc k kv 0<;>simp
theorem zHB(k:κ)(x:κ)(u:Value)(kv:List (κ×Value)):zA7 k ((x,u)::kv)=if k=x then kv else(x,u)::zA7 k kv:=by
 unfold zA7
 simp only[kc]
 by_cases h:k=x
 · simp[h]
 simp only[h,if_false,zBN k kv 0]
 cases kc k kv 0<;>simp
theorem zKh(ve:α→Value)(k:κ)(v:α):∀ kv:List (κ×α),zEE k (ve v) (vA ve kv)=vA ve (yZ k v kv)
 | []=>rfl
 |(x,u)::r=>by
   have a:=zKh ve k v r
   simp only[vA,List.map_cons]at a ⊢
   rw[zG4,a]
   by_cases h:k=x
   · simp[yZ,h]
   simp[yZ,h]
theorem zHV(ve:α→Value)(k:κ):∀ kv:List (κ×α),zA7 k (vA ve kv)=vA ve (zAF k kv)
 | []=>rfl
 |(x,u)::r=>by
   have a:=zHV ve k r
   simp only[vA,List.map_cons]at a ⊢
   rw[zHB,a]
   by_cases h:k=x
   · simp[zAF,h]
   simp[zAF,h]
def Res.mp(ke:κ→Value)(ve:α→Value)(b:Nat)(kv:List (κ×α)):Res:=Res.map ke b (vA ve kv)
def Res.rg(ke:κ→Value)(ve:α→Value)(b r:Nat)(kv todo:List (κ×α)):Res:=Res.rng ke b r (vA ve kv) (vA ve todo)
def Res.rl(ke:κ→Value)(ve:α→Value)(b r:Nat)(kv todo:List (κ×α))(k:κ)(a:α):Res:=Res.rnl ke b r (vA ve kv) (vA ve todo) k (ve a)
variable {P:Program} {kt vt t:TypeId} {ke:κ→Value} {ve:α→Value}
variable {n:Nat} {ops:Array Oper} {N:K} {f:Nat→Value} {rest:List Oper} {d:Nat} {ty:TypeId} {p:String} {af:Array Edge} {x y z:Operand} {w0:World} {S:List Nat} {L:List Res} {A:World→Prop}
theorem xl(ke:κ→Value)(ve:α→Value){o:Option Operand}(ho:o=none)(a:Nat.blt d n=true)(k:∀ b,CL P n ops rest N (upd f d (.map (some b))) (Own w0 S (L++[Res.mp ke ve b ([]:List (κ×α))]))):
 CL P n ops (⟨some d, .makeMap t o,ty,p,af,none⟩::rest) N f (Own w0 S L):=zOC ke ho a k
theorem zG6{b:Nat}{kv:List (κ×α)}{k:κ}{zv:α}(K:KeyL P kt ke)(a:kU P t=some (kt,vt))(c:x2 P vt=some (ve zv))(e:ev f x= .map (some b))(g:ev f y=ke k)(i:∀ w,A w→(Res.mp ke ve b kv).φ w):
   RV P f ⟨some d, .lookup t x y true,ty,p,af,none⟩ A (.tuple #[ve ((zl k kv).getD zv), .bool (zl k kv).isSome]):=by
 have:=zTu (P:=P) (f:=f) (d:=d) (ty:=ty) (p:=p) (af:=af) (x:=x) (y:=y) (t:=t) (zKa ve k kv) K a c e g i
 cases h:zl k kv<;>simpa [h]using this
theorem zF7{b:Nat}{kv:List (κ×α)}{k:κ}{zv:α}(K:KeyL P kt ke)(a:kU P t=some (kt,vt))(c:x2 P vt=some (ve zv))(e:ev f x= .map (some b))(g:ev f y=ke k)(i:∀ w,A w→(Res.mp ke ve b kv).φ w):
   RV P f ⟨some d, .lookup t x y false,ty,p,af,none⟩ A (ve ((zl k kv).getD zv)):=by
 have:=zUb (P:=P) (f:=f) (d:=d) (ty:=ty) (p:=p) (af:=af) (x:=x) (y:=y) (t:=t) (zKa ve k kv) K a c e g i
 cases h:zl k kv<;>simpa [h]using this
theorem zPZ(ke:κ→Value)(ve:α→Value){b:Nat}{kv:List (κ×α)}(a:kU P t=some (kt,vt))(c:ev f x= .map (some b))(e:∀ w,A w→(Res.mp ke ve b kv).φ w):
   RV P f ⟨some d, .call ⟨.builtin .len,#[x],#[t]⟩,ty,p,af,none⟩ A (.int .i64 kv.length):=by
 have:=zRe (P:=P) (f:=f) (d:=d) (ty:=ty) (p:=p) (af:=af) (x:=x) (t:=t) a c e
 simpa [vA]using this
theorem zD4{b:Nat}{kv:List (κ×α)}{k:κ}{zv:α}(K:KeyL P kt ke)(a:kU P t=some (kt,vt))(c:x2 P vt=some (ve zv))(e:ev f x= .map (some b))(g:ev f y=ke k)(h:∀ w,A w→(Res.mp ke ve b kv).φ w)(i:Nat.blt d n=true)
 (j:CL P n ops rest N (upd f d (.tuple #[ve ((zl k kv).getD zv), .bool (zl k kv).isSome])) A):CL P n ops (⟨some d, .lookup t x y true,ty,p,af,none⟩::rest) N f A:=yN i (zG6 K a c e g h) j
theorem zQE{b:Nat}{kv:List (κ×α)}{k:κ}{zv:α}(K:KeyL P kt ke)(a:kU P t=some (kt,vt))(c:x2 P vt=some (ve zv))(e:ev f x= .map (some b))(g:ev f y=ke k)(h:∀ w,A w→(Res.mp ke ve b kv).φ w)(i:Nat.blt d n=true)
 (j:CL P n ops rest N (upd f d (ve ((zl k kv).getD zv))) A):CL P n ops (⟨some d, .lookup t x y false,ty,p,af,none⟩::rest) N f A:=yN i (zF7 K a c e g h) j
theorem zDC(ke:κ→Value)(ve:α→Value){b:Nat}{kv:List (κ×α)}(a:kU P t=some (kt,vt))(c:ev f x= .map (some b))(e:∀ w,A w→(Res.mp ke ve b kv).φ w)(g:Nat.blt d n=true)
 (h:CL P n ops rest N (upd f d (.int .i64 kv.length)) A):CL P n ops (⟨some d, .call ⟨.builtin .len,#[x],#[t]⟩,ty,p,af,none⟩::rest) N f A:=yN g (zPZ ke ve a c e) h
theorem jC(i:Nat){b:Nat}{kv:List (κ×α)}{k:κ}{v:α}(K:KeyL P kt ke)(a:kU P t=some (kt,vt))(c:ev f x= .map (some b))(d:ev f y=ke k)(e:ev f z=ve v)(g:L[i]?=some (Res.mp ke ve b kv))
   (h:CL P n ops rest N f (Own w0 S (L.set i (Res.mp ke ve b (yZ k v kv))))):CL P n ops (⟨none, .mapUpdate t x y z,ty,p,af,none⟩::rest) N f (Own w0 S L):=
 zSr i K a c d e g (by rw[zKh];exact h)
theorem zDW(i:Nat){b:Nat}{kv:List (κ×α)}{k:κ}{u:TypeId}(K:KeyL P kt ke)(a:kU P t=some (kt,vt))(c:ev f x= .map (some b))(d:ev f y=ke k)(e:L[i]?=some (Res.mp ke ve b kv))
   (g:CL P n ops rest N f (Own w0 S (L.set i (Res.mp ke ve b (zAF k kv))))):CL P n ops (⟨none, .call ⟨.builtin .delete,#[x,y],#[t,u]⟩,ty,p,af,none⟩::rest) N f (Own w0 S L):=
 zOw i K a c d e (by rw[zHV];exact g)
theorem jU(i:Nat){b:Nat}{kv:List (κ×α)}(a:kU P t=some (kt,vt))(c:ev f x= .map (some b))(e:L[i]?=some (Res.mp ke ve b kv))(g:Nat.blt d n=true)
 (k:∀ r,CL P n ops rest N (upd f d (.pointer (some ⟨r,0,none⟩))) (Own w0 S (L.set i (Res.rg ke ve b r kv kv)))):
 CL P n ops (⟨some d, .range t x,ty,p,af,none⟩::rest) N f (Own w0 S L):=zO0 i a c e g k
theorem zLe{ve:α→Value}{todo:List (κ×α)}{l1 l2:List (κ×Value)}{k:κ}{v:Value}(h:vA ve todo=l1++(k,v)::l2):∃ b a c,todo=b++(k,a)::c∧l1=vA ve b∧v=ve a∧l2=vA ve c:=by
 obtain⟨b,e,h1,h2,f⟩:=List.map_eq_append_iff.1 h
 obtain⟨q,c,rfl,d,g⟩:=List.map_eq_cons_iff.1 f
 obtain⟨i,a⟩:=q
 simp only[Prod.mk.injEq]at d
 obtain⟨rfl,rfl⟩:=d
 exact⟨b,a,c,h1,h2.symm,O,g.symm⟩
theorem zAD(i:Nat){b r:Nat}{kv todo:List (κ×α)}(g:ev f x= .pointer (some ⟨r,0,none⟩))(j:L[i]?=some (Res.rg ke ve b r kv todo))(m:Nat.blt d n=true)
   (k0:todo=[]→CL P n ops rest N (upd f d (.tuple #[yC])) (Own w0 S L))
   (k1:∀ l1 k v l2,todo=l1++(k,v)::l2→CL P n ops rest N (upd f d (.tuple #[xx,ke k,ve v])) (Own w0 S (L.set i (Res.rl ke ve b r kv (l1++l2) k v)))):
   CL P n ops (⟨some d, .next x false,ty,p,af,none⟩::rest) N f (Own w0 S L):=by
 refine zRO i g j m (fun h=>k0 (by cases todo with|nil=>rfl|cons a l=>simp[vA]at h)) (fun l1 k v l2 h=> ?_)
 obtain⟨c,a,e,h1,rfl,rfl,rfl⟩:=zLe h
 have:=k1 c k a e h1
 rw[show vA ve c++vA ve e=vA ve (c++e)by simp[vA]]
 exact this
theorem ja(i:Nat){b r:Nat}{kv todo:List (κ×α)}{k:κ}{a:α}(c:ev f x= .pointer (some ⟨r,0,none⟩))(e:L[i]?=some (Res.rl ke ve b r kv todo k a))(g:Nat.blt d n=true)
 (h:CL P n ops rest N (upd f d (.tuple #[ke k,ve a])) (Own w0 S (L.set i (Res.rg ke ve b r kv todo)))):
 CL P n ops (⟨some d, .entry x,ty,p,af,none⟩::rest) N f (Own w0 S L):=zOj i c e g h
theorem zMd(i:Nat){b r:Nat}{kv todo:List (κ×α)}{k:κ}{u:TypeId}(K:KeyL P kt ke)(c:kU P t=some (kt,vt))(d:ev f x= .map (some b))(e:ev f y=ke k)(g:L[i]?=some (Res.rg ke ve b r kv todo))(h:∀ q∈todo,q.1≠k)
   (j:CL P n ops rest N f (Own w0 S (L.set i (Res.rg ke ve b r (zAF k kv) todo)))):CL P n ops (⟨none, .call ⟨.builtin .delete,#[x,y],#[t,u]⟩,ty,p,af,none⟩::rest) N f (Own w0 S L):=
 zOJ i K c d e g (by rintro q l;obtain⟨a,m,rfl⟩:=List.mem_map.1 l;exact h a m) (by rw[zHV];exact j)
theorem Own.rgEnd{w:World}(i:Nat){b r:Nat}{kv todo:List (κ×α)}(h:Own w0 S L w)(a:L[i]?=some (Res.rg ke ve b r kv todo)):Own w0 S (L.set i (Res.mp ke ve b kv)) w:=h.rngEnd i a
end
end Go.Sc
