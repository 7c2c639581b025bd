import Derived.Test.YtkkeknmkipkbmaaGreatCfW
import Derived.Test.YtkkeknmkipkbmaaGreatCoD
set_option linter.unusedSectionVars false
set_option linter.unusedSimpArgs false
set_option linter.unusedVariables false
set_option maxRecDepth 10000
namespace Go.Proofs.YtkkeknmkipkbmaaGreat
open Go Go.Sc Go.Proofs
abbrev PeerO:=Option PeerP
def PeerO.cells:PeerO→List Value
  |none=>[.pointer none]
  |some q=>PeerP.cells q
theorem PeerO.one(a:PeerO):(PeerO.cells a).length=1:=by cases a<;>rfl
theorem PeerO.all(ps:List PeerP):(ps.map some).flatMap PeerO.cells=ps.flatMap PeerP.cells:=by rw[List.flatMap_map];rfl
def yg(F:ConfA)(q:PeerP):Bool:=decide (F.ok∧(q.2.id∈F.vs∨q.2.id∈F.ls))
theorem zHx{F:ConfA}{q:PeerP}(h:¬(F.ok∧(q.2.id∈F.vs∨q.2.id∈F.ls))):yg F q=false:=decide_eq_false h
theorem zC5{F:ConfA}{q:PeerP}(h:F.ok∧(q.2.id∈F.vs∨q.2.id∈F.ls)):yg F q=true:=decide_eq_true h
theorem zAa{α:Type}[Inhabited α]{p:α→Bool}{l:List α}{j:Nat}(hj:j<l.length):(l.take (j+1)).filter p=(l.take j).filter p++if p (zG l j)then [zG l j]else []:=by
  rw[zt hj,List.filter_append]
  cases h:p (zG l j)<;>simp[h]
theorem zK4{S:List Nat}(pb:Nat)(p:PeerM)(fb:Nat)(fa fw:Value)(F:ConfA)(w:World)(hf:F.vs.length≤1000∧F.ls.length≤1000)(hin:Own w S [Res.row fb 35 [fa,fw],vI fa F.vs,vI fw F.ls] w)(hpb:Rd w S (x4 pb p)):Rets Tryz.prog 93 #[pt pb,pt fb] w fun u_ w'=>u_= .bool (decide (¬(F.ok∧(p.id∈F.vs∨p.id∈F.ls))))∧Own w S [Res.row fb 35 [fa,fw],vI fa F.vs,vI fw F.ls] w':=by
  refine zW Tryz.func93 O Tryz.ntmps93 hin ?_
  refine zB (zI O (zA (zN (zg [0,1,2] O qM qN (fun w' hw hS=>zC 0 O (x8 (cs:=[fa,fw]) 0 O O) hS (zC 1 O zT hS (zC 2 O (zQ O) hS (zC 3 O (zH (o:=0) O) hS (zC 4 O (zAA (v:=Vi p.id) O (hpb.φ.cell O) (hpb.far _ (List.mem_singleton.2 O)) qN) hS (zK 5 O hw (a_call O O (fun w' hw=>(zBr ({vv:=fa,vs:=F.vs,lv:=fw,ls:=F.ls}:ConfD) p.id w' qP ⟨(hw.qp 1 O),(hw.qp 2 O)⟩).mono ?_))))))))))))
  rintro _ w1 ⟨rfl,hO⟩
  refine O3 ?_ (hw.qi hO)
  refine zE [0,1,2] O qM (fun w' hw hS=>zC 6 O (xc (q:=({vv:=fa,vs:=F.vs,lv:=fw,ls:=F.ls}:ConfD).ok∧(p.id∈({vv:=fa,vs:=F.vs,lv:=fw,ls:=F.ls}:ConfD).vs∨p.id∈({vv:=fa,vs:=F.vs,lv:=fw,ls:=F.ls}:ConfD).ls)) O) hS (zC 7 O yO hS (zU ?_)))
  refine Oc3 ?_ hw
  exact zV (z6 (v:= .bool (decide (¬(({vv:=fa,vs:=F.vs,lv:=fw,ls:=F.ls}:ConfD).ok∧(p.id∈({vv:=fa,vs:=F.vs,lv:=fw,ls:=F.ls}:ConfD).vs∨p.id∈({vv:=fa,vs:=F.vs,lv:=fw,ls:=F.ls}:ConfD).ls))))) O O (fun w' hw=>⟨O,hw⟩))
theorem zHJ{S:List Nat}(v:Value)(ps:List PeerP)(fb:Nat)(fa fw:Value)(F:ConfA)(w:World)(hf:F.vs.length≤1000∧F.ls.length≤1000)(hl:ps.length≤1000)(hin:Own w S [vP v ps,sP ps,Res.row fb 35 [fa,fw],vI fa F.vs,vI fw F.ls] w):Rets Tryz.prog 141 #[v, .func (.func 93) #[] #[pt fb]] w fun u_ w'=>∃ (i:Int),u_=Vi i∧((∃ k:Nat,i=k∧k<ps.length∧yg F (zG ps k)=false∧(ps.take k).filter (yg F)=ps.take k)∨(i= -1∧ps.filter (yg F)=ps))∧Own w S [vP v ps,sP ps,Res.row fb 35 [fa,fw],vI fa F.vs,vI fw F.ls] w':=by
  refine zW Tryz.func141 O Tryz.ntmps141 hin ?_
  refine zB (zI O (zA (zN (zB (zD O (zo (pV 0 O) O O (zD O (zA (zX ?_)))))))))
  refine xN (fun(k:Nat)=>[(0,v),(1, .func (.func 93) #[] #[pt fb]),(7,Vj ps.length),(8,Vj k)]) (fun(k:Nat)=>k≤ps.length∧(ps.take k).filter (yg F)=ps.take k) (fun(k:Nat)=>[vP v ps,sP ps,Res.row fb 35 [fa,fw],vI fa F.vs,vI fw F.ls]) (fun(k:Nat)=>ps.length - k) (fun w' hw=>⟨0,⟨O,O,O,O,trivial⟩,⟨by omega,by simp⟩,hw⟩) (fun k g hΦ=> ?_)
  refine zB (yG O O O (zA (zN (zY O (fun c1=> ?_) (fun c1=> ?_)))))
  ·refine zO (zN (zX (zB (zD O (zI O (zA (zB (zD O (zD O (zD O (zi (pV 0 O) 1 k O O O V O (yF (pV 0 O) 1 k 0 (fun _=>O) O O V O O ?_))))))))))))
   refine yW (fst:=[]) (cap:=[pt fb]) O qN O O (fun w' hw=>(zK4 ((zG ps k).1) ((zG ps k).2) fb fa fw _ w' qO (hw.give [2,3,4] O qM) (PeerP.rdm 1 O qT [2,3,4] O O hw)).mono ?_)
   rintro _ w1 ⟨rfl,hO⟩
   refine O5 ?_ (hw.qg [2,3,4] O hO)
   refine zA (zY O (fun c2=> ?_) (fun c2=> ?_))
   ·refine zB (zD O (zI O (zA ?_)))
    exact zV (z6 (v:=Vj k) O O (fun w' hw=>⟨k,O, .inl ⟨k,O,by omega,zHx c2,hΦ.2⟩,hw⟩))
   have hc2:=Decidable.not_not.1 c2
   refine zO (zS (zp O O (zq V) O (zD O ?_)))
   exact zd (fun w' hw=>⟨k+1,⟨O,O,O,O,trivial⟩,⟨by omega,by rw[zAa V,zC5 hc2,hΦ.2,zt V];rfl⟩,hw,V⟩)
  refine yA O (zB (zI O (zA ?_)))
  exact zV (z6 (v:=Vi (-1)) O O (fun w' hw=>⟨-1,O, .inr ⟨O,by have h:=hΦ.2;rwa [List.take_of_length_le V]at h⟩,hw⟩))
theorem zFS{α:Type}[Inhabited α]{l cl:List α}{j:Nat}(h:cl.drop j=l.drop j):zG cl j=zG l j:=by
  have:=congrArg (fun q=>zG q 0) h
  simpa [ka]using this
theorem zIh{α:Type}{cl:List α}{i:Nat}{x:α}(hi:i<cl.length):(cl.set i x).take (i+1)=cl.take i++[x]:=by
  rw[List.take_add_one,List.take_set_of_le (Nat.le_refl _)];simp[hi]
theorem zJO{α:Type}{cl:List α}{i j:Nat}{x:α}(hi:i<j):(cl.set i x).drop j=cl.drop j:=by rw[List.drop_set,if_pos hi]
theorem zDH{α:Type}{l cl:List α}{j:Nat}(h:cl.drop j=l.drop j):cl.drop (j+1)=l.drop (j+1):=by rw[←List.drop_drop,←List.drop_drop,h]
section
variable {P:Program} {n:Nat} {ops:Array Oper} {N R:K} {X:List (Nat×K)} {f:Nat→Value} {rest:List Oper} {w0:World} {S:List Nat} {L:List Res}
variable {d:Nat} {ty:TypeId} {p:String} {af:Array Edge} {x y:Operand} {t e:TypeId}
theorem zPb{T:TypeId}{v:Value}{l:List PeerP}(i k:Nat)(hx:ev f x=yy v k l.length 1)(hL:L[i]?=some (Res.vec T 1 v l.length (l.flatMap PeerP.cells)))(ht:P.underlying t=some (.slice T))(hz:(P.info? T).bind (·.zero)=some (.pointer none))(hk:k≤l.length)
    (kk:∀ cc:List PeerO,cc.length=l.length→cc.take k=(l.take k).map some→CL P n ops rest N f (Own w0 S (L.set i (Res.vec T 1 v cc.length (cc.flatMap PeerO.cells))))):CL P n ops (⟨none, .call ⟨.builtin .clear,#[x],#[t]⟩,ty,p,af,none⟩::rest) N f (Own w0 S L):=by
  refine zKt (g:=PeerO.cells) PeerO.one (z0:=none) O (l:=l.map some) i k (by rw[List.length_map];exact hx) (by rw[List.length_map,PeerO.all];exact hL) ht hz O O (by rw[List.length_map];exact hk) ?_
  intro cc h1 h2
  exact kk cc (by rw[h1,List.length_map]) (by rw[h2,List.map_take])
end
theorem zGy{S:List Nat}(v:Value)(ps:List PeerP)(fb:Nat)(fa fw:Value)(F:ConfA)(w:World)(hf:F.vs.length≤1000∧F.ls.length≤1000)(hl:ps.length≤1000)(hin:Own w S [vP v ps,sP ps,Res.row fb 35 [fa,fw],vI fa F.vs,vI fw F.ls] w):Rets Tryz.prog 92 #[v, .func (.func 93) #[] #[pt fb]] w fun u_ w'=>∃ (r:Value),u_=r∧Own w S [vP r (ps.filter (yg F)),sP (ps.filter (yg F)),Res.row fb 35 [fa,fw],vI fa F.vs,vI fw F.ls] w':=by
  refine zW Tryz.func92 O Tryz.ntmps92 hin ?_
  refine zB (zI O (zA (zB (zD O (zD O (a_call O O (fun w' hw=>(zHJ v ps fb fa fw _ w' qO qO (hw.give [0,1,2,3,4] O qM)).mono ?_)))))))
  rintro _ w1 ⟨i1_,rfl,hf1_2,hO⟩
  refine O5 ?_ (hw.qg [0,1,2,3,4] O hO)
  refine zI O (zA (zN (zB (zD O (yQ O O O (zA (zY O (fun c1=> ?_) (fun c1=> ?_))))))))
  ·refine zB (zD O (zI O (zA ?_)))
   exact zV (z6 (v:=v) O O (fun w' hw=>⟨v,O,by have h:=hf1_2.elim (fun⟨k,h1,_⟩=>absurd (h1▸c1:(k:Int)= -1) V) (fun h=>h.2);rw[h];exact hw⟩))
  obtain⟨k,hik,hk1,hk2,hk3⟩:=hf1_2.resolve_right (fun h=>c1 h.1)
  refine zO (zN (zB (zD O (zp O O (zq V) O (zI O (zA (zX ?_)))))))
  refine xi (fun(i:Nat) (j:Nat) (cl:List PeerP)=>[(0,v),(1, .func (.func 93) #[] #[pt fb]),(5,Vj i),(6,Vj j)]) (fun(i:Nat) (j:Nat) (cl:List PeerP)=>(i<j∧j≤ps.length∧cl.length=ps.length)∧cl.take i=(ps.take j).filter (yg F)∧cl.drop j=ps.drop j) (fun(i:Nat) (j:Nat) (cl:List PeerP)=>[vP v cl,sP ps,Res.row fb 35 [fa,fw],vI fa F.vs,vI fw F.ls]) (fun(i:Nat) (j:Nat) (cl:List PeerP)=>ps.length - j) (fun w' hw=>⟨k,k+1,ps,⟨O,O,(congrArg (Value.int .i64) hik),(congrArg (Value.int .i64) (show i1_+1=((k+1:Nat):Int)by omega)),trivial⟩,⟨⟨by omega,by omega,O⟩,by rw[zAa hk1,hk3,hk2];simp,O⟩,hw⟩) (fun i j cl g hΦ=> ?_)
  refine zN (zB (zD O (zD O (zo (pV 0 O) O O (yG O O O (zA (zY O (fun c2=> ?_) (fun c2=> ?_))))))))
  ·have hnj:=zFS hΦ.2.2
   refine zO (zN (zX (yt (fun(pb:Nat)=>[(0,v),(1, .func (.func 93) #[] #[pt fb]),(5,Vj i),(6,Vj j),(7,pt pb)]) (fun(pb:Nat)=>pb=(zG ps j).1) (fun(pb:Nat)=>[vP v cl,sP ps,Res.row fb 35 [fa,fw],vI fa F.vs,vI fw F.ls]) ?_ (fun pb g hΦ=> ?_))))
   ·refine zS (zD O (zD O (zi (pV 0 O) 1 j O O O V O (yF (pV 0 O) 1 j 0 (fun _=>O) O O V O O (zI O ?_)))))
    exact zd (fun w' hw=>⟨(zG cl j).1,⟨O,O,O,O,O,trivial⟩,(by rw[hnj]),hw⟩)
   subst hΦ
   refine zB (zD O (zD O (yW (fst:=[]) (cap:=[pt fb]) O qN O O (fun w' hw=>(zK4 ((zG ps j).1) ((zG ps j).2) fb fa fw _ w' qO (hw.give [2,3,4] O qM) (PeerP.rdm 1 O qT [2,3,4] O O hw)).mono ?_))))
   rintro _ w1 ⟨rfl,hO⟩
   refine O5 ?_ (hw.qg [2,3,4] O hO)
   refine y7 (q:=¬(F.ok∧(((zG ps j).2).id∈F.vs∨((zG ps j).2).id∈F.ls))) O O (zA (zY O (fun c3=> ?_) (fun c3=> ?_)))
   ·have hc3:=Decidable.not_not.1 c3
    refine zB (zD O (zD O (zD O (zi (pV 0 O) 1 i O O O V O (yp 0 i (zG ps j) O (fun _=>O) O V O O O V (zA (zS (zD O (zp O O (zq V) O (zI O (zA (zS ?_))))))))))))
    refine zD O (zp O O (zq V) O (zI O ?_))
    exact zd (fun w' hw=>⟨i+1,j+1,cl.set i (zG ps j),⟨O,O,O,O,trivial⟩,⟨⟨by omega,by omega,by rw[List.length_set];omega⟩,by rw[zIh V,zAa V,if_pos (zC5 hc3),hΦ.2.1],by rw[zJO V];exact zDH hΦ.2.2⟩,hw,V⟩)
   have hc3:=Decidable.not_not.1 c3
   refine zO (zS (zD O (zp O O (zq V) O (zI O ?_))))
   exact zd (fun w' hw=>⟨i,j+1,cl,⟨O,O,O,O,trivial⟩,⟨⟨by omega,by omega,by omega⟩,by rw[zAa V,zHx hc3];simp[hΦ.2.1],zDH hΦ.2.2⟩,hw,V⟩)
  refine yA O (zB (zD O (zD O (k8 (pV 0 O) 1 i cl.length qN O ⟨_,O⟩ O V V O (zPb (T:=160) (v:=v) (l:=cl) 0 i O O qN qN V (fun cc hcl1 hcl2=>zA (zB (zD O (zD O (k8 (pV 0 O) 1 0 i qN O O ⟨_,O⟩ V V O (zI O (zA ?_))))))))))))
  exact zV (z6 (v:=(yy v 0 i 1)) O O (fun w' hw=>⟨(yy v 0 i 1),O,by have h:=hw.cutL PeerO.one 0 i rfl V;rw[show cc.take i=(ps.filter (yg F)).map some by rw[hcl2,hΦ.2.1,List.take_of_length_le V],PeerO.all,List.length_map]at h;exact h.qK 1 List.filter_sublist rfl⟩))
theorem zI5(x y:Int)(w:World):Rets Tryz.prog 99 #[Vi x,Vi y] w fun u_ w'=>∃ (i:Int),u_=Vi i∧Own w [] [] w':=by
  refine zW Tryz.func99 O Tryz.ntmps99 (Own.start w) ?_
  refine zB (zI O (zA (zB (zD O (a_call O O (fun w' hw=>(zL7 x w').mono ?_))))))
  rintro _ w1 ⟨rfl,hO⟩
  refine O0 ?_ (hw.qi hO)
  refine zI O (zA (zB (zD O (a_call O O (fun w' hw=>(zL7 y w').mono ?_)))))
  rintro _ w1 ⟨rfl,hO⟩
  refine O0 ?_ (hw.qi hO)
  refine zI O (zA (zN (zB (zD O (zA (xt O (zO (zN (zB (zD O (zA (xt O ?_))))))))))))
  refine zO (zN (zB (zD O (zD O (yG O O O (zA (zY O (fun c3=> ?_) (fun c3=> ?_))))))))
  ·refine zB (zI O (zA ?_))
   exact zV (z6 (v:=Vi (-1)) O O (fun w' hw=>⟨-1,O,hw.drop⟩))
  refine zO (zN (zB (zD O (zD O (y0 O O O (zA (zY O (fun c4=> ?_) (fun c4=> ?_))))))))
  ·refine zB (zI O (zA ?_))
   exact zV (z6 (v:=Vi 1) O O (fun w' hw=>⟨1,O,hw.drop⟩))
  refine zO (zB (zI O (zA ?_)))
  exact zV (z6 (v:=Vi 0) O O (fun w' hw=>⟨0,O,hw.drop⟩))
theorem zOU(pb:Nat)(p:PeerM)(qb:Nat)(q:PeerM)(w:World)(hpb:Rd w [] (x4 pb p))(hqb:Rd w [] (x4 qb q)):Rets Tryz.prog 98 #[pt pb,pt qb] w fun u_ w'=>∃ (i:Int),u_=Vi i∧Own w [] [] w':=by
  refine zW Tryz.func98 O Tryz.ntmps98 (Own.start w) ?_
  refine zB (zI O (zA (zN (zg [] O qM qN (fun w' hw hS=>zC 0 O zT hS (zC 1 O (zQ O) hS (zC 2 O (zH (o:=0) O) hS (zC 3 O (zAA (v:=Vi p.id) O (hpb.φ.cell O) (hpb.far _ (List.mem_singleton.2 O)) qN) hS (zC 4 O zT hS (zC 5 O (zQ O) hS (zC 6 O (zH (o:=0) O) hS (zC 7 O (zAA (v:=Vi q.id) O (hqb.φ.cell O) (hqb.far _ (List.mem_singleton.2 O)) qN) hS ?_))))))))))))
  refine zK 8 O hw (a_call O O (fun w' hw=>(zI5 p.id q.id w').mono ?_))
  rintro _ w1 ⟨i1_,rfl,hO⟩
  refine O0 ?_ (hw.qi hO)
  refine zE [] O qM (fun w' hw hS=>zC 9 O yO hS (zU ?_))
  refine Oc0 ?_ hw
  exact zV (z6 (v:=Vi i1_) O O (fun w' hw=>⟨i1_,O,hw.drop⟩))
theorem zG6{q:List PeerP}{i j:Nat}(hi:i<q.length)(hj:j<q.length):(swp q i j).Perm q:=by
  classical
  letI:SO PeerP:=⟨fun _ _=>False,fun _ _=>inferInstance,by intros;simp_all,by intros;simp_all⟩
  exact zGK hi hj
theorem zGh{S:List Nat}(v:Value)(ps:List PeerP)(n:Nat)(w:World)(hn:n≤ps.length)(hl:ps.length≤1000)(hin:Own w S [vP v ps,sP ps] w):Rets Tryz.prog 179 #[v,Vj 0,Vj n, .func (.func 98) #[] #[]] w fun u_ w'=>∃ (qs:List PeerP),u_= .tuple #[]∧qs.Perm ps∧Own w S [vP v qs,sP qs] w':=by
  refine zW Tryz.func179 O Tryz.ntmps179 hin ?_
  refine zB (zD O (zp O O (zq V) O (zI O (zA (zX ?_)))))
  refine yw (fun(i:Nat) (m:List PeerP)=>[(0,v),(1,Vj 0),(2,Vj n),(3, .func (.func 98) #[] #[]),(8,Vj i)]) (fun(i:Nat) (m:List PeerP)=>(1≤i∧(i≤n∨i=1))∧m.Perm ps) (fun(i:Nat) (m:List PeerP)=>[vP v m,sP m]) (fun(i:Nat) (m:List PeerP)=>n+1 - i) (fun w' hw=>⟨1,ps,⟨O,O,O,O,O,trivial⟩,⟨⟨by omega, .inr O⟩,List.Perm.refl _⟩,hw⟩) (fun i m g hΦ=> ?_)
  have hml:=hΦ.2.length_eq
  have hi1:=hΦ.1
  have hS1:=hΦ.2
  refine zN (zB (zD O (zD O (yG O O O (zA (zY O (fun c1=> ?_) (fun c1=> ?_)))))))
  ·refine zO (zN (zX (zB (zD O (zI O (zA (zX ?_)))))))
   refine yw (fun(j:Nat) (q:List PeerP)=>[(0,v),(1,Vj 0),(2,Vj n),(3, .func (.func 98) #[] #[]),(8,Vj i),(9,Vj j)]) (fun(j:Nat) (q:List PeerP)=>(j≤i)∧q.Perm ps) (fun(j:Nat) (q:List PeerP)=>[vP v q,sP q]) (fun(j:Nat) (q:List PeerP)=>j) (fun w' hw=>⟨i,m,⟨O,O,O,O,O,O,trivial⟩,⟨by omega,hS1⟩,hw⟩) (fun j q g hΦ=> ?_)
   have hql:=hΦ.2.length_eq
   have hj1:=hΦ.1
   have hS2:=hΦ.2
   refine zN (zN (zg [0,1] O qM qN (fun w' hw hS=>zC 0 O zT hS (zC 1 O zT hS (zC 2 O (zCU O O) hS (zC 3 O zT hS ?_))))))
   by_cases g4_3:((0:Nat):Int)<((j:Nat):Int)
   ·refine zk 4 O O (gT g4_3) zT hS (zk 5 O O (gT g4_3) zT hS (zk 6 O O (gT g4_3) zT hS (zk 7 O O (gT g4_3) (y8 (pV 0 O) 1 j O O O V) hS (zk 8 O O (gT g4_3) (x9 (pV 0 O) 1 j 0 (fun _=>O) O O V O) hS (zk 9 O O (gT g4_3) zT hS (zk 10 O O (gT g4_3) zT hS (zk 11 O O (gT g4_3) (xy (c:=((j - 1:Nat):Int)) O O (zCG V V)) hS (zk 12 O O (gT g4_3) (y8 (pV 0 O) 1 (j - 1) O O O V) hS (zk 13 O O (gT g4_3) (x9 (pV 0 O) 1 (j - 1) 0 (fun _=>O) O O V O) hS (zK 14 O hw (zR O (gT g4_3) (yW (fst:=[]) (cap:=[]) O qN O O (fun w' hw=> ?_)))))))))))))
    refine(zOU ((zG q j).1) ((zG q j).2) ((zG q (j - 1)).1) ((zG q (j - 1)).2) w' (PeerP.rd0 1 O qT hw) (PeerP.rd0 1 O qT hw)).mono ?_
    rintro _ w1 ⟨i1_,rfl,hO⟩
    refine O2 ?_ (hw.qi hO)
    refine zE [0,1] O qM (fun w' hw hS=>zk 15 O O (gT g4_3) (zDR O O) hS (zC 16 O (yl (gT g4_3)) hS (zU ?_)))
    refine Oc2 ?_ hw
    refine zY O (fun c2=> ?_) (fun c2=> ?_)
    ·refine zO (yt (fun(nl:List PeerP)=>[(0,v),(1,Vj 0),(2,Vj n),(3, .func (.func 98) #[] #[]),(8,Vj i),(9,Vj j)]) (fun(nl:List PeerP)=>nl=swp q j (j - 1)) (fun(nl:List PeerP)=>[vP v nl,sP nl]) ?_ (fun nl g hΦ=> ?_))
     ·refine zX (zg [1] O qM qN (fun w' hw hS=>zC 0 O zT hS (zC 1 O zT hS (zC 2 O zT hS (zC 3 O zT hS (zC 4 O (xy (c:=((j - 1:Nat):Int)) O O (zCG V V)) hS (zC 5 O zT hS (zC 6 O zT hS (zC 7 O (xy (c:=((j - 1:Nat):Int)) O O (zCG V V)) hS (zC 10 O zT hS (zC 11 O zT hS (zu 8 12 ?_ ?_))))))))))))
      ·refine zm 8 O hw (zi (pV 0 O) 1 (j - 1) O O O V O (zE [1] O qM (fun w' hw hS=>zu 9 12 ?_ ?_)))
       ·refine zm 9 O hw (yF (pV 0 O) 1 (j - 1) 0 (fun _=>O) O O V O O (zE [1] O qM (fun w' hw hS=>zK 12 O hw (zi (pV 0 O) 1 j O O O V O (zE [1] O qM (fun w' hw hS=>zK 13 O hw (yF (pV 0 O) 1 j 0 (fun _=>O) O O V O O (zE [1] O qM (fun w' hw hS=>zK 14 O hw (zi (pV 0 O) 1 j O O O V O (zE [1] O qM (fun w' hw hS=>zK 15 O hw ?_))))))))))))
        refine yp 0 j (zG q (j - 1)) O (fun _=>O) O V O O O V (zE [1] O qM (fun w' hw hS=>zK 16 O hw (zi (pV 0 O) 1 (j - 1) O O O qU O (zE [1] O qM (fun w' hw hS=>zK 17 O hw (yp 0 (j - 1) (zG q j) O (fun _=>O) O V O O O qU (zE [1] O qM (fun w' hw hS=>zU ?_))))))))
        exact⟨swp q j (j - 1),⟨O,O,O,O,O,O,trivial⟩,O,(hw.starPerm 1 ((zG6 V V).symm.map PeerP.dres) O)⟩
       refine zm 12 O hw (zi (pV 0 O) 1 j O O O V O (zE [1] O qM (fun w' hw hS=>zu 9 13 ?_ ?_)))
       ·refine zm 9 O hw (yF (pV 0 O) 1 (j - 1) 0 (fun _=>O) O O V O O (zE [1] O qM (fun w' hw hS=>zK 13 O hw (yF (pV 0 O) 1 j 0 (fun _=>O) O O V O O (zE [1] O qM (fun w' hw hS=>zK 14 O hw (zi (pV 0 O) 1 j O O O V O (zE [1] O qM (fun w' hw hS=>zK 15 O hw (yp 0 j (zG q (j - 1)) O (fun _=>O) O V O O O V (zE [1] O qM (fun w' hw hS=>zK 16 O hw ?_))))))))))))
        refine zi (pV 0 O) 1 (j - 1) O O O qU O (zE [1] O qM (fun w' hw hS=>zK 17 O hw (yp 0 (j - 1) (zG q j) O (fun _=>O) O V O O O qU (zE [1] O qM (fun w' hw hS=>zU ?_)))))
        exact⟨swp q j (j - 1),⟨O,O,O,O,O,O,trivial⟩,O,(hw.starPerm 1 ((zG6 V V).symm.map PeerP.dres) O)⟩
       refine zm 13 O hw (yF (pV 0 O) 1 j 0 (fun _=>O) O O V O O (zE [1] O qM (fun w' hw hS=>zK 9 O hw (yF (pV 0 O) 1 (j - 1) 0 (fun _=>O) O O V O O (zE [1] O qM (fun w' hw hS=>zK 14 O hw (zi (pV 0 O) 1 j O O O V O (zE [1] O qM (fun w' hw hS=>zK 15 O hw (yp 0 j (zG q (j - 1)) O (fun _=>O) O V O O O V (zE [1] O qM (fun w' hw hS=>zK 16 O hw ?_))))))))))))
       refine zi (pV 0 O) 1 (j - 1) O O O qU O (zE [1] O qM (fun w' hw hS=>zK 17 O hw (yp 0 (j - 1) (zG q j) O (fun _=>O) O V O O O qU (zE [1] O qM (fun w' hw hS=>zU ?_)))))
       exact⟨swp q j (j - 1),⟨O,O,O,O,O,O,trivial⟩,O,(hw.starPerm 1 ((zG6 V V).symm.map PeerP.dres) O)⟩
      refine zm 12 O hw (zi (pV 0 O) 1 j O O O V O (zE [1] O qM (fun w' hw hS=>zu 8 13 ?_ ?_)))
      ·refine zm 8 O hw (zi (pV 0 O) 1 (j - 1) O O O V O (zE [1] O qM (fun w' hw hS=>zu 9 13 ?_ ?_)))
       ·refine zm 9 O hw (yF (pV 0 O) 1 (j - 1) 0 (fun _=>O) O O V O O (zE [1] O qM (fun w' hw hS=>zK 13 O hw (yF (pV 0 O) 1 j 0 (fun _=>O) O O V O O (zE [1] O qM (fun w' hw hS=>zK 14 O hw (zi (pV 0 O) 1 j O O O V O (zE [1] O qM (fun w' hw hS=>zK 15 O hw (yp 0 j (zG q (j - 1)) O (fun _=>O) O V O O O V (zE [1] O qM (fun w' hw hS=>zK 16 O hw ?_))))))))))))
        refine zi (pV 0 O) 1 (j - 1) O O O qU O (zE [1] O qM (fun w' hw hS=>zK 17 O hw (yp 0 (j - 1) (zG q j) O (fun _=>O) O V O O O qU (zE [1] O qM (fun w' hw hS=>zU ?_)))))
        exact⟨swp q j (j - 1),⟨O,O,O,O,O,O,trivial⟩,O,(hw.starPerm 1 ((zG6 V V).symm.map PeerP.dres) O)⟩
       refine zm 13 O hw (yF (pV 0 O) 1 j 0 (fun _=>O) O O V O O (zE [1] O qM (fun w' hw hS=>zK 9 O hw (yF (pV 0 O) 1 (j - 1) 0 (fun _=>O) O O V O O (zE [1] O qM (fun w' hw hS=>zK 14 O hw (zi (pV 0 O) 1 j O O O V O (zE [1] O qM (fun w' hw hS=>zK 15 O hw (yp 0 j (zG q (j - 1)) O (fun _=>O) O V O O O V (zE [1] O qM (fun w' hw hS=>zK 16 O hw ?_))))))))))))
       refine zi (pV 0 O) 1 (j - 1) O O O qU O (zE [1] O qM (fun w' hw hS=>zK 17 O hw (yp 0 (j - 1) (zG q j) O (fun _=>O) O V O O O qU (zE [1] O qM (fun w' hw hS=>zU ?_)))))
       exact⟨swp q j (j - 1),⟨O,O,O,O,O,O,trivial⟩,O,(hw.starPerm 1 ((zG6 V V).symm.map PeerP.dres) O)⟩
      refine zm 13 O hw (yF (pV 0 O) 1 j 0 (fun _=>O) O O V O O (zE [1] O qM (fun w' hw hS=>zK 8 O hw (zi (pV 0 O) 1 (j - 1) O O O V O (zE [1] O qM (fun w' hw hS=>zK 9 O hw (yF (pV 0 O) 1 (j - 1) 0 (fun _=>O) O O V O O (zE [1] O qM (fun w' hw hS=>zK 14 O hw (zi (pV 0 O) 1 j O O O V O (zE [1] O qM (fun w' hw hS=>zK 15 O hw ?_))))))))))))
      refine yp 0 j (zG q (j - 1)) O (fun _=>O) O V O O O V (zE [1] O qM (fun w' hw hS=>zK 16 O hw (zi (pV 0 O) 1 (j - 1) O O O qU O (zE [1] O qM (fun w' hw hS=>zK 17 O hw (yp 0 (j - 1) (zG q j) O (fun _=>O) O V O O O qU (zE [1] O qM (fun w' hw hS=>zU ?_))))))))
      exact⟨swp q j (j - 1),⟨O,O,O,O,O,O,trivial⟩,O,(hw.starPerm 1 ((zG6 V V).symm.map PeerP.dres) O)⟩
     have hn2:=hΦ
     refine zS (zD O (kI (c:=((j - 1:Nat):Int)) O O (zCG V V) O (zI O ?_)))
     exact zd (fun w' hw=>⟨j - 1,nl,⟨O,O,O,O,O,O,trivial⟩,⟨by omega,by rw[hn2];exact(zG6 V V).trans hS2⟩,hw,V⟩)
    refine yA O (zS (zD O (zp O O (zq V) O (zI O ?_))))
    exact zd (fun w' hw=>⟨i+1,q,⟨O,O,O,O,O,trivial⟩,⟨⟨by omega, .inl V⟩,hS2⟩,hw,V⟩)
   refine zb 4 O O (gF g4_3) O hS (zb 5 O O (gF g4_3) O hS (zb 6 O O (gF g4_3) O hS (zb 7 O O (gF g4_3) O hS (zb 8 O O (gF g4_3) O hS (zb 9 O O (gF g4_3) O hS (zb 10 O O (gF g4_3) O hS (zb 11 O O (gF g4_3) O hS (zb 12 O O (gF g4_3) O hS (zb 13 O O (gF g4_3) O hS (zb 14 O O (gF g4_3) O hS (zb 15 O O (gF g4_3) O hS (zC 16 O (yS (gF g4_3)) hS ?_))))))))))))
   refine zU ?_
   refine Oc2 ?_ hw
   refine xt O (yA O (zS (zD O (zp O O (zq V) O (zI O ?_)))))
   exact zd (fun w' hw=>⟨i+1,q,⟨O,O,O,O,O,trivial⟩,⟨⟨by omega, .inl V⟩,hS2⟩,hw,V⟩)
  exact kh O (yJ O (fun w' hw=>⟨m,O,hS1,hw⟩))
theorem zG9{S:List Nat}(v:Value)(ps:List PeerP)(n:Nat)(lim:Int)(w:World)(hn:n≤12)(hln:n≤ps.length)(hl:ps.length≤1000)(hin:Own w S [vP v ps,sP ps] w):Rets Tryz.prog 142 #[v,Vj 0,Vj n,Vi lim, .func (.func 98) #[] #[]] w fun u_ w'=>∃ (qs:List PeerP),u_= .tuple #[]∧qs.Perm ps∧Own w S [vP v qs,sP qs] w':=by
  refine zW Tryz.func142 O Tryz.ntmps142 hin ?_
  refine zB (zI O (zA (zB (zI O (zA (zX ?_))))))
  refine xN (fun(k:Nat)=>[(0,v),(1,Vj 0),(2,Vj n),(3,Vi lim),(4, .func (.func 98) #[] #[]),(10, .bool true),(11, .bool true)]) (fun(k:Nat)=>k=1) (fun(k:Nat)=>[vP v ps,sP ps]) (fun(k:Nat)=>0) (fun w' hw=>⟨1,⟨O,O,O,O,O,O,O,trivial⟩,O,hw⟩) (fun k g hΦ=> ?_)
  refine zX (zB (zD O (zD O (kI (c:=((n:Nat):Int)) O O (zq V) O (zI O (zA (zN (zB (zD O (xp O O O (zA (zY O (fun c1=> ?_) (fun c1=> ?_)))))))))))))
  ·refine zB (zD O (zD O (zD O (zD O (a_call O O (fun w' hw=>(zGh v ps n w' qO qO (hw.give [0,1] O qM)).mono ?_))))))
   rintro _ w1 ⟨qs1_,rfl,hf4_4,hO⟩
   refine O2 ?_ (hw.qg [0,1] O hO)
   refine zA ?_
   exact zV (yJ O (fun w' hw=>⟨qs1_,O,hf4_4,hw⟩))
  exact absurd c1 V
theorem zF7{S:List Nat}(v:Value)(ps:List PeerP)(w:World)(hl:ps.length≤12)(hin:Own w S [vP v ps,sP ps] w):Rets Tryz.prog 97 #[v, .func (.func 98) #[] #[]] w fun u_ w'=>∃ (qs:List PeerP),u_= .tuple #[]∧qs.Perm ps∧Own w S [vP v qs,sP qs] w':=by
  refine zW Tryz.func97 O Tryz.ntmps97 hin ?_
  refine zB (zD O (zo (pV 0 O) O O (zI O (zA (zS (zD O (zD O (zD O (xo qN O (xO V) O ?_ qN)))))))))
  refine a_call O O (fun w' hw=>(zKQ ps.length w' qO).mono ?_)
  rintro _ w1 ⟨rfl,hO⟩
  refine O2 ?_ (hw.qi hO)
  refine zD O (a_call O O (fun w' hw=>(zG9 v ps ps.length (((z9 ps.length):Nat):Int) w' qO qO qO (hw.give [0,1] O qM)).mono ?_))
  rintro _ w1 ⟨qs1_,rfl,hf1_6,hO⟩
  refine O2 ?_ (hw.qg [0,1] O hO)
  exact zd (yJ O (fun w' hw=>⟨qs1_,O,hf1_6,hw⟩))
end Go.Proofs.YtkkeknmkipkbmaaGreat
