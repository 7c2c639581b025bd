import Derived.Test.YtkkeknmkipkbmaaGreatCfW
import Derived.Test.YtkkeknmkipkbmaaGreatCoD
import Derived.Test.YtkkeknmkipkbmaaGreatCoL
set_option linter.unusedSectionVars false
set_option linter.unusedSimpArgs false
set_option linter.unusedVariables false
set_option maxRecDepth 10000
namespace Go.Proofs.YtkkeknmkipkbmaaGreat
open Go Go.Sc Go.Proofs
abbrev PeerO:=Option PeerP
def PeerO.cells:PeerO→List Value
  |none=>[.pointer none]
  |some q=>PeerP.cells q
theorem PeerO.one(a:PeerO):(PeerO.cells a).length=1:=by cases a<;>rfl
theorem PeerO.all(ps:List PeerP):(ps.map some).flatMap PeerO.cells=ps.flatMap PeerP.cells:=by rw[List.flatMap_map];rfl
def yl(F:ConfA)(q:PeerP):Bool:=decide (F.ok∧(q.2.id∈F.vs∨q.2.id∈F.ls))
theorem zIO{F:ConfA}{q:PeerP}(h:¬(F.ok∧(q.2.id∈F.vs∨q.2.id∈F.ls))):yl F q=false:=decide_eq_false h
theorem zDq{F:ConfA}{q:PeerP}(h:F.ok∧(q.2.id∈F.vs∨q.2.id∈F.ls)):yl F q=true:=decide_eq_true h
theorem zAs{α:Type}[Inhabited α]{p:α→Bool}{l:List α}{j:Nat}(hj:j<l.length):(l.take (j+1)).filter p=(l.take j).filter p++if p (zG l j)then [zG l j]else []:=by
  rw[zu hj,List.filter_append]
  cases h:p (zG l j)<;>simp[h]
theorem zKk{S:List Nat}(pb:Nat)(p:PeerM)(fb:Nat)(fa fw:Value)(F:ConfA)(w:World)(hf:F.vs.length≤1000∧F.ls.length≤1000)(hin:Own w S [Res.row fb 35 [fa,fw],vI fa F.vs,vI fw F.ls] w)(hpb:Rd w S (kF pb p)):Rets Tryz.prog 93 #[pt pb,pt fb] w fun u_ w'=>u_= .bool (decide (¬(F.ok∧(p.id∈F.vs∨p.id∈F.ls))))∧Own w S [Res.row fb 35 [fa,fw],vI fa F.vs,vI fw F.ls] w':=by
  refine zW Tryz.func93 O Tryz.ntmps93 hin ?_
  refine zC (zI O (zA (zP (ze [0,1,2] O qM qN (fun w' hw hS=>zB 0 O (x1 (cs:=[fa,fw]) 0 O O) hS (zB 1 O zS hS (zB 2 O (zO O) hS (zB 3 O (zH (o:=0) O) hS (zB 4 O (zAJ (v:=Vi p.id) O (hpb.φ.cell O) (hpb.far _ (List.mem_singleton.2 O)) qN) hS (zJ 5 O hw (a_call O O (fun w' hw=>(zBw ({vv:=fa,vs:=F.vs,lv:=fw,ls:=F.ls}:ConfD) p.id w' qP ⟨(hw.qq 1 O),(hw.qq 2 O)⟩).mono ?_))))))))))))
  rintro _ w1 ⟨rfl,hO⟩
  refine O3 ?_ (hw.qi hO)
  refine zE [0,1,2] O qM (fun w' hw hS=>zB 6 O (xr (q:=({vv:=fa,vs:=F.vs,lv:=fw,ls:=F.ls}:ConfD).ok∧(p.id∈({vv:=fa,vs:=F.vs,lv:=fw,ls:=F.ls}:ConfD).vs∨p.id∈({vv:=fa,vs:=F.vs,lv:=fw,ls:=F.ls}:ConfD).ls)) O) hS (zB 7 O yO hS (zT ?_)))
  refine Oc3 ?_ hw
  exact zU (z9 (v:= .bool (decide (¬(({vv:=fa,vs:=F.vs,lv:=fw,ls:=F.ls}:ConfD).ok∧(p.id∈({vv:=fa,vs:=F.vs,lv:=fw,ls:=F.ls}:ConfD).vs∨p.id∈({vv:=fa,vs:=F.vs,lv:=fw,ls:=F.ls}:ConfD).ls))))) O O (fun w' hw=>⟨O,hw⟩))
theorem zHV{S:List Nat}(v:Value)(ps:List PeerP)(fb:Nat)(fa fw:Value)(F:ConfA)(w:World)(hf:F.vs.length≤1000∧F.ls.length≤1000)(hl:ps.length≤1000)(hin:Own w S [vP v ps,sP ps,Res.row fb 35 [fa,fw],vI fa F.vs,vI fw F.ls] w):Rets Tryz.prog 141 #[v, .func (.func 93) #[] #[pt fb]] w fun u_ w'=>∃ (i:Int),u_=Vi i∧((∃ k:Nat,i=k∧k<ps.length∧yl F (zG ps k)=false∧(ps.take k).filter (yl F)=ps.take k)∨(i= -1∧ps.filter (yl F)=ps))∧Own w S [vP v ps,sP ps,Res.row fb 35 [fa,fw],vI fa F.vs,vI fw F.ls] w':=by
  refine zW Tryz.func141 O Tryz.ntmps141 hin ?_
  refine zC (zI O (zA (zP (zC (zD O (zp (pV 0 O) O O (zD O (zA (zZ ?_)))))))))
  refine xT (fun(k:Nat)=>[(0,v),(1, .func (.func 93) #[] #[pt fb]),(7,Vj ps.length),(8,Vj k)]) (fun(k:Nat)=>k≤ps.length∧(ps.take k).filter (yl F)=ps.take k) (fun(k:Nat)=>[vP v ps,sP ps,Res.row fb 35 [fa,fw],vI fa F.vs,vI fw F.ls]) (fun(k:Nat)=>ps.length - k) (fun w' hw=>⟨0,⟨O,O,O,O,trivial⟩,⟨by omega,by simp⟩,hw⟩) (fun k g hΦ=> ?_)
  refine zC (yI O O O (zA (zP (za O (fun c1=> ?_) (fun c1=> ?_)))))
  ·refine zQ (zP (zZ (zC (zD O (zI O (zA (zC (zD O (zD O (zD O (zk (pV 0 O) 1 k O O O V O (yH (pV 0 O) 1 k 0 (fun _=>O) O O V O O ?_))))))))))))
   refine yV (fst:=[]) (cap:=[pt fb]) O qN O O (fun w' hw=>(zKk ((zG ps k).1) ((zG ps k).2) fb fa fw _ w' qO (hw.give [2,3,4] O qM) (PeerP.rdm 1 O qT [2,3,4] O O hw)).mono ?_)
   rintro _ w1 ⟨rfl,hO⟩
   refine O5 ?_ (hw.qh [2,3,4] O hO)
   refine zA (za O (fun c2=> ?_) (fun c2=> ?_))
   ·refine zC (zD O (zI O (zA ?_)))
    exact zU (z9 (v:=Vj k) O O (fun w' hw=>⟨k,O, .inl ⟨k,O,by omega,zIO c2,hΦ.2⟩,hw⟩))
   have hc2:=Decidable.not_not.1 c2
   refine zQ (zV (zt O O (zr V) O (zD O ?_)))
   exact zg (fun w' hw=>⟨k+1,⟨O,O,O,O,trivial⟩,⟨by omega,by rw[zAs V,zDq hc2,hΦ.2,zu V];rfl⟩,hw,V⟩)
  refine yF O (zC (zI O (zA ?_)))
  exact zU (z9 (v:=Vi (-1)) O O (fun w' hw=>⟨-1,O, .inr ⟨O,by have h:=hΦ.2;rwa [List.take_of_length_le V]at h⟩,hw⟩))
theorem zFh{α:Type}[Inhabited α]{l cl:List α}{j:Nat}(h:cl.drop j=l.drop j):zG cl j=zG l j:=by
  have:=congrArg (fun q=>zG q 0) h
  simpa [kg]using this
theorem zJS{α:Type}{cl:List α}{i:Nat}{x:α}(hi:i<cl.length):(cl.set i x).take (i+1)=cl.take i++[x]:=by
  rw[List.take_add_one,List.take_set_of_le (Nat.le_refl _)];simp[hi]
theorem zJZ{α:Type}{cl:List α}{i j:Nat}{x:α}(hi:i<j):(cl.set i x).drop j=cl.drop j:=by rw[List.drop_set,if_pos hi]
theorem zDK{α:Type}{l cl:List α}{j:Nat}(h:cl.drop j=l.drop j):cl.drop (j+1)=l.drop (j+1):=by rw[←List.drop_drop,←List.drop_drop,h]
section
variable {P:Program} {n:Nat} {ops:Array Oper} {N R:K} {X:List (Nat×K)} {f:Nat→Value} {rest:List Oper} {w0:World} {S:List Nat} {L:List Res}
variable {d:Nat} {ty:TypeId} {p:String} {af:Array Edge} {x y:Operand} {t e:TypeId}
theorem zP7{T:TypeId}{v:Value}{l:List PeerP}(i k:Nat)(hx:ev f x=y3 v k l.length 1)(hL:L[i]?=some (Res.vec T 1 v l.length (l.flatMap PeerP.cells)))(ht:P.underlying t=some (.slice T))(hz:(P.info? T).bind (·.zero)=some (.pointer none))(hk:k≤l.length)
    (kk:∀ cc:List PeerO,cc.length=l.length→cc.take k=(l.take k).map some→CL P n ops rest N f (Own w0 S (L.set i (Res.vec T 1 v cc.length (cc.flatMap PeerO.cells))))):CL P n ops (⟨none, .call ⟨.builtin .clear,#[x],#[t]⟩,ty,p,af,none⟩::rest) N f (Own w0 S L):=by
  refine zMD (g:=PeerO.cells) PeerO.one (z0:=none) O (l:=l.map some) i k (by rw[List.length_map];exact hx) (by rw[List.length_map,PeerO.all];exact hL) ht hz O O (by rw[List.length_map];exact hk) ?_
  intro cc h1 h2
  exact kk cc (by rw[h1,List.length_map]) (by rw[h2,List.map_take])
end
theorem zHv{S:List Nat}(v:Value)(ps:List PeerP)(fb:Nat)(fa fw:Value)(F:ConfA)(w:World)(hf:F.vs.length≤1000∧F.ls.length≤1000)(hl:ps.length≤1000)(hin:Own w S [vP v ps,sP ps,Res.row fb 35 [fa,fw],vI fa F.vs,vI fw F.ls] w):Rets Tryz.prog 92 #[v, .func (.func 93) #[] #[pt fb]] w fun u_ w'=>∃ (r:Value),u_=r∧Own w S [vP r (ps.filter (yl F)),sP (ps.filter (yl F)),Res.row fb 35 [fa,fw],vI fa F.vs,vI fw F.ls] w':=by
  refine zW Tryz.func92 O Tryz.ntmps92 hin ?_
  refine zC (zI O (zA (zC (zD O (zD O (a_call O O (fun w' hw=>(zHV v ps fb fa fw _ w' qO qO (hw.give [0,1,2,3,4] O qM)).mono ?_)))))))
  rintro _ w1 ⟨i1_,rfl,hf1_2,hO⟩
  refine O5 ?_ (hw.qh [0,1,2,3,4] O hO)
  refine zI O (zA (zP (zC (zD O (yR O O O (zA (za O (fun c1=> ?_) (fun c1=> ?_))))))))
  ·refine zC (zD O (zI O (zA ?_)))
   exact zU (z9 (v:=v) O O (fun w' hw=>⟨v,O,by have h:=hf1_2.elim (fun⟨k,h1,_⟩=>absurd (h1▸c1:(k:Int)= -1) V) (fun h=>h.2);rw[h];exact hw⟩))
  obtain⟨k,hik,hk1,hk2,hk3⟩:=hf1_2.resolve_right (fun h=>c1 h.1)
  refine zQ (zP (zC (zD O (zt O O (zr V) O (zI O (zA (zZ ?_)))))))
  refine x3 (fun(i:Nat) (j:Nat) (cl:List PeerP)=>[(0,v),(1, .func (.func 93) #[] #[pt fb]),(5,Vj i),(6,Vj j)]) (fun(i:Nat) (j:Nat) (cl:List PeerP)=>(i<j∧j≤ps.length∧cl.length=ps.length)∧cl.take i=(ps.take j).filter (yl F)∧cl.drop j=ps.drop j) (fun(i:Nat) (j:Nat) (cl:List PeerP)=>[vP v cl,sP ps,Res.row fb 35 [fa,fw],vI fa F.vs,vI fw F.ls]) (fun(i:Nat) (j:Nat) (cl:List PeerP)=>ps.length - j) (fun w' hw=>⟨k,k+1,ps,⟨O,O,(congrArg (Value.int .i64) hik),(congrArg (Value.int .i64) (show i1_+1=((k+1:Nat):Int)by omega)),trivial⟩,⟨⟨by omega,by omega,O⟩,by rw[zAs hk1,hk3,hk2];simp,O⟩,hw⟩) (fun i j cl g hΦ=> ?_)
  refine zP (zC (zD O (zD O (zp (pV 0 O) O O (yI O O O (zA (za O (fun c2=> ?_) (fun c2=> ?_))))))))
  ·have hnj:=zFh hΦ.2.2
   refine zQ (zP (zZ (yt (fun(pb:Nat)=>[(0,v),(1, .func (.func 93) #[] #[pt fb]),(5,Vj i),(6,Vj j),(7,pt pb)]) (fun(pb:Nat)=>pb=(zG ps j).1) (fun(pb:Nat)=>[vP v cl,sP ps,Res.row fb 35 [fa,fw],vI fa F.vs,vI fw F.ls]) ?_ (fun pb g hΦ=> ?_))))
   ·refine zV (zD O (zD O (zk (pV 0 O) 1 j O O O V O (yH (pV 0 O) 1 j 0 (fun _=>O) O O V O O (zI O ?_)))))
    exact zg (fun w' hw=>⟨(zG cl j).1,⟨O,O,O,O,O,trivial⟩,(by rw[hnj]),hw⟩)
   subst hΦ
   refine zC (zD O (zD O (yV (fst:=[]) (cap:=[pt fb]) O qN O O (fun w' hw=>(zKk ((zG ps j).1) ((zG ps j).2) fb fa fw _ w' qO (hw.give [2,3,4] O qM) (PeerP.rdm 1 O qT [2,3,4] O O hw)).mono ?_))))
   rintro _ w1 ⟨rfl,hO⟩
   refine O5 ?_ (hw.qh [2,3,4] O hO)
   refine xB (q:=¬(F.ok∧(((zG ps j).2).id∈F.vs∨((zG ps j).2).id∈F.ls))) O O (zA (za O (fun c3=> ?_) (fun c3=> ?_)))
   ·have hc3:=Decidable.not_not.1 c3
    refine zC (zD O (zD O (zD O (zk (pV 0 O) 1 i O O O V O (yu 0 i (zG ps j) O (fun _=>O) O V O O O V (zA (zV (zD O (zt O O (zr V) O (zI O (zA (zV ?_))))))))))))
    refine zD O (zt O O (zr V) O (zI O ?_))
    exact zg (fun w' hw=>⟨i+1,j+1,cl.set i (zG ps j),⟨O,O,O,O,trivial⟩,⟨⟨by omega,by omega,by rw[List.length_set];omega⟩,by rw[zJS V,zAs V,if_pos (zDq hc3),hΦ.2.1],by rw[zJZ V];exact zDK hΦ.2.2⟩,hw,V⟩)
   have hc3:=Decidable.not_not.1 c3
   refine zQ (zV (zD O (zt O O (zr V) O (zI O ?_))))
   exact zg (fun w' hw=>⟨i,j+1,cl,⟨O,O,O,O,trivial⟩,⟨⟨by omega,by omega,by omega⟩,by rw[zAs V,zIO hc3];simp[hΦ.2.1],zDK hΦ.2.2⟩,hw,V⟩)
  refine yF O (zC (zD O (zD O (kW (pV 0 O) 1 i cl.length qN O ⟨_,O⟩ O V V O (zP7 (T:=160) (v:=v) (l:=cl) 0 i O O qN qN V (fun cc hcl1 hcl2=>zA (zC (zD O (zD O (kW (pV 0 O) 1 0 i qN O O ⟨_,O⟩ V V O (zI O (zA ?_))))))))))))
  exact zU (z9 (v:=(y3 v 0 i 1)) O O (fun w' hw=>⟨(y3 v 0 i 1),O,by have h:=hw.cutL PeerO.one 0 i rfl V;rw[show cc.take i=(ps.filter (yl F)).map some by rw[hcl2,hΦ.2.1,List.take_of_length_le V],PeerO.all,List.length_map]at h;exact h.qK 1 List.filter_sublist rfl⟩))
theorem zKH(x y:Int)(w:World):Rets Tryz.prog 99 #[Vi x,Vi y] w fun u_ w'=>∃ (i:Int),u_=Vi i∧Own w [] [] w':=by
  refine zW Tryz.func99 O Tryz.ntmps99 (Own.start w) ?_
  refine zC (zI O (zA (zC (zD O (a_call O O (fun w' hw=>(zMu x w').mono ?_))))))
  rintro _ w1 ⟨rfl,hO⟩
  refine O0 ?_ (hw.qi hO)
  refine zI O (zA (zC (zD O (a_call O O (fun w' hw=>(zMu y w').mono ?_)))))
  rintro _ w1 ⟨rfl,hO⟩
  refine O0 ?_ (hw.qi hO)
  refine zI O (zA (zP (zC (zD O (zA (xx O (zQ (zP (zC (zD O (zA (xx O ?_))))))))))))
  refine zQ (zP (zC (zD O (zD O (yI O O O (zA (za O (fun c3=> ?_) (fun c3=> ?_))))))))
  ·refine zC (zI O (zA ?_))
   exact zU (z9 (v:=Vi (-1)) O O (fun w' hw=>⟨-1,O,hw.drop⟩))
  refine zQ (zP (zC (zD O (zD O (yx O O O (zA (za O (fun c4=> ?_) (fun c4=> ?_))))))))
  ·refine zC (zI O (zA ?_))
   exact zU (z9 (v:=Vi 1) O O (fun w' hw=>⟨1,O,hw.drop⟩))
  refine zQ (zC (zI O (zA ?_)))
  exact zU (z9 (v:=Vi 0) O O (fun w' hw=>⟨0,O,hw.drop⟩))
theorem zOs(pb:Nat)(p:PeerM)(qb:Nat)(q:PeerM)(w:World)(hpb:Rd w [] (kF pb p))(hqb:Rd w [] (kF qb q)):Rets Tryz.prog 98 #[pt pb,pt qb] w fun u_ w'=>∃ (i:Int),u_=Vi i∧Own w [] [] w':=by
  refine zW Tryz.func98 O Tryz.ntmps98 (Own.start w) ?_
  refine zC (zI O (zA (zP (ze [] O qM qN (fun w' hw hS=>zB 0 O zS hS (zB 1 O (zO O) hS (zB 2 O (zH (o:=0) O) hS (zB 3 O (zAJ (v:=Vi p.id) O (hpb.φ.cell O) (hpb.far _ (List.mem_singleton.2 O)) qN) hS (zB 4 O zS hS (zB 5 O (zO O) hS (zB 6 O (zH (o:=0) O) hS (zB 7 O (zAJ (v:=Vi q.id) O (hqb.φ.cell O) (hqb.far _ (List.mem_singleton.2 O)) qN) hS ?_))))))))))))
  refine zJ 8 O hw (a_call O O (fun w' hw=>(zKH p.id q.id w').mono ?_))
  rintro _ w1 ⟨i1_,rfl,hO⟩
  refine O0 ?_ (hw.qi hO)
  refine zE [] O qM (fun w' hw hS=>zB 9 O yO hS (zT ?_))
  refine Oc0 ?_ hw
  exact zU (z9 (v:=Vi i1_) O O (fun w' hw=>⟨i1_,O,hw.drop⟩))
theorem zHr{q:List PeerP}{i j:Nat}(hi:i<q.length)(hj:j<q.length):(swp q i j).Perm q:=by
  classical
  letI:SO PeerP:=⟨fun _ _=>False,fun _ _=>inferInstance,by intros;simp_all,by intros;simp_all⟩
  exact zGU hi hj
theorem zHw{S:List Nat}(v:Value)(ps:List PeerP)(n:Nat)(w:World)(hn:n≤ps.length)(hl:ps.length≤1000)(hin:Own w S [vP v ps,sP ps] w):Rets Tryz.prog 179 #[v,Vj 0,Vj n, .func (.func 98) #[] #[]] w fun u_ w'=>∃ (qs:List PeerP),u_= .tuple #[]∧qs.Perm ps∧Own w S [vP v qs,sP qs] w':=by
  refine zW Tryz.func179 O Tryz.ntmps179 hin ?_
  refine zC (zD O (zt O O (zr V) O (zI O (zA (zZ ?_)))))
  refine y7 (fun(i:Nat) (m:List PeerP)=>[(0,v),(1,Vj 0),(2,Vj n),(3, .func (.func 98) #[] #[]),(8,Vj i)]) (fun(i:Nat) (m:List PeerP)=>(1≤i∧(i≤n∨i=1))∧m.Perm ps) (fun(i:Nat) (m:List PeerP)=>[vP v m,sP m]) (fun(i:Nat) (m:List PeerP)=>n+1 - i) (fun w' hw=>⟨1,ps,⟨O,O,O,O,O,trivial⟩,⟨⟨by omega, .inr O⟩,List.Perm.refl _⟩,hw⟩) (fun i m g hΦ=> ?_)
  have hml:=hΦ.2.length_eq
  have hi1:=hΦ.1
  have hS1:=hΦ.2
  refine zP (zC (zD O (zD O (yI O O O (zA (za O (fun c1=> ?_) (fun c1=> ?_)))))))
  ·refine zQ (zP (zZ (zC (zD O (zI O (zA (zZ ?_)))))))
   refine y7 (fun(j:Nat) (q:List PeerP)=>[(0,v),(1,Vj 0),(2,Vj n),(3, .func (.func 98) #[] #[]),(8,Vj i),(9,Vj j)]) (fun(j:Nat) (q:List PeerP)=>(j≤i)∧q.Perm ps) (fun(j:Nat) (q:List PeerP)=>[vP v q,sP q]) (fun(j:Nat) (q:List PeerP)=>j) (fun w' hw=>⟨i,m,⟨O,O,O,O,O,O,trivial⟩,⟨by omega,hS1⟩,hw⟩) (fun j q g hΦ=> ?_)
   have hql:=hΦ.2.length_eq
   have hj1:=hΦ.1
   have hS2:=hΦ.2
   refine zP (zP (ze [0,1] O qM qN (fun w' hw hS=>zB 0 O zS hS (zB 1 O zS hS (zB 2 O (zCe O O) hS (zB 3 O zS hS ?_))))))
   by_cases g4_3:((0:Nat):Int)<((j:Nat):Int)
   ·refine zf 4 O O (gT g4_3) zS hS (zf 5 O O (gT g4_3) zS hS (zf 6 O O (gT g4_3) zS hS (zf 7 O O (gT g4_3) (yz (pV 0 O) 1 j O O O V) hS (zf 8 O O (gT g4_3) (x0 (pV 0 O) 1 j 0 (fun _=>O) O O V O) hS (zf 9 O O (gT g4_3) zS hS (zf 10 O O (gT g4_3) zS hS (zf 11 O O (gT g4_3) (xl (c:=((j - 1:Nat):Int)) O O (zCN V V)) hS (zf 12 O O (gT g4_3) (yz (pV 0 O) 1 (j - 1) O O O V) hS (zf 13 O O (gT g4_3) (x0 (pV 0 O) 1 (j - 1) 0 (fun _=>O) O O V O) hS (zJ 14 O hw (zR O (gT g4_3) (yV (fst:=[]) (cap:=[]) O qN O O (fun w' hw=> ?_)))))))))))))
    refine(zOs ((zG q j).1) ((zG q j).2) ((zG q (j - 1)).1) ((zG q (j - 1)).2) w' (PeerP.rd0 1 O qT hw) (PeerP.rd0 1 O qT hw)).mono ?_
    rintro _ w1 ⟨i1_,rfl,hO⟩
    refine O2 ?_ (hw.qi hO)
    refine zE [0,1] O qM (fun w' hw hS=>zf 15 O O (gT g4_3) (zBi O O) hS (zB 16 O (yf (gT g4_3)) hS (zT ?_)))
    refine Oc2 ?_ hw
    refine za O (fun c2=> ?_) (fun c2=> ?_)
    ·refine zQ (yt (fun(nl:List PeerP)=>[(0,v),(1,Vj 0),(2,Vj n),(3, .func (.func 98) #[] #[]),(8,Vj i),(9,Vj j)]) (fun(nl:List PeerP)=>nl=swp q j (j - 1)) (fun(nl:List PeerP)=>[vP v nl,sP nl]) ?_ (fun nl g hΦ=> ?_))
     ·refine zZ (ze [1] O qM qN (fun w' hw hS=>zB 0 O zS hS (zB 1 O zS hS (zB 2 O zS hS (zB 3 O zS hS (zB 4 O (xl (c:=((j - 1:Nat):Int)) O O (zCN V V)) hS (zB 5 O zS hS (zB 6 O zS hS (zB 7 O (xl (c:=((j - 1:Nat):Int)) O O (zCN V V)) hS (zB 10 O zS hS (zB 11 O zS hS (zq 8 12 ?_ ?_))))))))))))
      ·refine zl 8 O hw (zk (pV 0 O) 1 (j - 1) O O O V O (zE [1] O qM (fun w' hw hS=>zq 9 12 ?_ ?_)))
       ·refine zl 9 O hw (yH (pV 0 O) 1 (j - 1) 0 (fun _=>O) O O V O O (zE [1] O qM (fun w' hw hS=>zJ 12 O hw (zk (pV 0 O) 1 j O O O V O (zE [1] O qM (fun w' hw hS=>zJ 13 O hw (yH (pV 0 O) 1 j 0 (fun _=>O) O O V O O (zE [1] O qM (fun w' hw hS=>zJ 14 O hw (zk (pV 0 O) 1 j O O O V O (zE [1] O qM (fun w' hw hS=>zJ 15 O hw ?_))))))))))))
        refine yu 0 j (zG q (j - 1)) O (fun _=>O) O V O O O V (zE [1] O qM (fun w' hw hS=>zJ 16 O hw (zk (pV 0 O) 1 (j - 1) O O O qU O (zE [1] O qM (fun w' hw hS=>zJ 17 O hw (yu 0 (j - 1) (zG q j) O (fun _=>O) O V O O O qU (zE [1] O qM (fun w' hw hS=>zT ?_))))))))
        exact⟨swp q j (j - 1),⟨O,O,O,O,O,O,trivial⟩,O,(hw.starPerm 1 ((zHr V V).symm.map PeerP.dres) O)⟩
       refine zl 12 O hw (zk (pV 0 O) 1 j O O O V O (zE [1] O qM (fun w' hw hS=>zq 9 13 ?_ ?_)))
       ·refine zl 9 O hw (yH (pV 0 O) 1 (j - 1) 0 (fun _=>O) O O V O O (zE [1] O qM (fun w' hw hS=>zJ 13 O hw (yH (pV 0 O) 1 j 0 (fun _=>O) O O V O O (zE [1] O qM (fun w' hw hS=>zJ 14 O hw (zk (pV 0 O) 1 j O O O V O (zE [1] O qM (fun w' hw hS=>zJ 15 O hw (yu 0 j (zG q (j - 1)) O (fun _=>O) O V O O O V (zE [1] O qM (fun w' hw hS=>zJ 16 O hw ?_))))))))))))
        refine zk (pV 0 O) 1 (j - 1) O O O qU O (zE [1] O qM (fun w' hw hS=>zJ 17 O hw (yu 0 (j - 1) (zG q j) O (fun _=>O) O V O O O qU (zE [1] O qM (fun w' hw hS=>zT ?_)))))
        exact⟨swp q j (j - 1),⟨O,O,O,O,O,O,trivial⟩,O,(hw.starPerm 1 ((zHr V V).symm.map PeerP.dres) O)⟩
       refine zl 13 O hw (yH (pV 0 O) 1 j 0 (fun _=>O) O O V O O (zE [1] O qM (fun w' hw hS=>zJ 9 O hw (yH (pV 0 O) 1 (j - 1) 0 (fun _=>O) O O V O O (zE [1] O qM (fun w' hw hS=>zJ 14 O hw (zk (pV 0 O) 1 j O O O V O (zE [1] O qM (fun w' hw hS=>zJ 15 O hw (yu 0 j (zG q (j - 1)) O (fun _=>O) O V O O O V (zE [1] O qM (fun w' hw hS=>zJ 16 O hw ?_))))))))))))
       refine zk (pV 0 O) 1 (j - 1) O O O qU O (zE [1] O qM (fun w' hw hS=>zJ 17 O hw (yu 0 (j - 1) (zG q j) O (fun _=>O) O V O O O qU (zE [1] O qM (fun w' hw hS=>zT ?_)))))
       exact⟨swp q j (j - 1),⟨O,O,O,O,O,O,trivial⟩,O,(hw.starPerm 1 ((zHr V V).symm.map PeerP.dres) O)⟩
      refine zl 12 O hw (zk (pV 0 O) 1 j O O O V O (zE [1] O qM (fun w' hw hS=>zq 8 13 ?_ ?_)))
      ·refine zl 8 O hw (zk (pV 0 O) 1 (j - 1) O O O V O (zE [1] O qM (fun w' hw hS=>zq 9 13 ?_ ?_)))
       ·refine zl 9 O hw (yH (pV 0 O) 1 (j - 1) 0 (fun _=>O) O O V O O (zE [1] O qM (fun w' hw hS=>zJ 13 O hw (yH (pV 0 O) 1 j 0 (fun _=>O) O O V O O (zE [1] O qM (fun w' hw hS=>zJ 14 O hw (zk (pV 0 O) 1 j O O O V O (zE [1] O qM (fun w' hw hS=>zJ 15 O hw (yu 0 j (zG q (j - 1)) O (fun _=>O) O V O O O V (zE [1] O qM (fun w' hw hS=>zJ 16 O hw ?_))))))))))))
        refine zk (pV 0 O) 1 (j - 1) O O O qU O (zE [1] O qM (fun w' hw hS=>zJ 17 O hw (yu 0 (j - 1) (zG q j) O (fun _=>O) O V O O O qU (zE [1] O qM (fun w' hw hS=>zT ?_)))))
        exact⟨swp q j (j - 1),⟨O,O,O,O,O,O,trivial⟩,O,(hw.starPerm 1 ((zHr V V).symm.map PeerP.dres) O)⟩
       refine zl 13 O hw (yH (pV 0 O) 1 j 0 (fun _=>O) O O V O O (zE [1] O qM (fun w' hw hS=>zJ 9 O hw (yH (pV 0 O) 1 (j - 1) 0 (fun _=>O) O O V O O (zE [1] O qM (fun w' hw hS=>zJ 14 O hw (zk (pV 0 O) 1 j O O O V O (zE [1] O qM (fun w' hw hS=>zJ 15 O hw (yu 0 j (zG q (j - 1)) O (fun _=>O) O V O O O V (zE [1] O qM (fun w' hw hS=>zJ 16 O hw ?_))))))))))))
       refine zk (pV 0 O) 1 (j - 1) O O O qU O (zE [1] O qM (fun w' hw hS=>zJ 17 O hw (yu 0 (j - 1) (zG q j) O (fun _=>O) O V O O O qU (zE [1] O qM (fun w' hw hS=>zT ?_)))))
       exact⟨swp q j (j - 1),⟨O,O,O,O,O,O,trivial⟩,O,(hw.starPerm 1 ((zHr V V).symm.map PeerP.dres) O)⟩
      refine zl 13 O hw (yH (pV 0 O) 1 j 0 (fun _=>O) O O V O O (zE [1] O qM (fun w' hw hS=>zJ 8 O hw (zk (pV 0 O) 1 (j - 1) O O O V O (zE [1] O qM (fun w' hw hS=>zJ 9 O hw (yH (pV 0 O) 1 (j - 1) 0 (fun _=>O) O O V O O (zE [1] O qM (fun w' hw hS=>zJ 14 O hw (zk (pV 0 O) 1 j O O O V O (zE [1] O qM (fun w' hw hS=>zJ 15 O hw ?_))))))))))))
      refine yu 0 j (zG q (j - 1)) O (fun _=>O) O V O O O V (zE [1] O qM (fun w' hw hS=>zJ 16 O hw (zk (pV 0 O) 1 (j - 1) O O O qU O (zE [1] O qM (fun w' hw hS=>zJ 17 O hw (yu 0 (j - 1) (zG q j) O (fun _=>O) O V O O O qU (zE [1] O qM (fun w' hw hS=>zT ?_))))))))
      exact⟨swp q j (j - 1),⟨O,O,O,O,O,O,trivial⟩,O,(hw.starPerm 1 ((zHr V V).symm.map PeerP.dres) O)⟩
     have hn2:=hΦ
     refine zV (zD O (x8 (c:=((j - 1:Nat):Int)) O O (zCN V V) O (zI O ?_)))
     exact zg (fun w' hw=>⟨j - 1,nl,⟨O,O,O,O,O,O,trivial⟩,⟨by omega,by rw[hn2];exact(zHr V V).trans hS2⟩,hw,V⟩)
    refine yF O (zV (zD O (zt O O (zr V) O (zI O ?_))))
    exact zg (fun w' hw=>⟨i+1,q,⟨O,O,O,O,O,trivial⟩,⟨⟨by omega, .inl V⟩,hS2⟩,hw,V⟩)
   refine zX 4 O O (gF g4_3) O hS (zX 5 O O (gF g4_3) O hS (zX 6 O O (gF g4_3) O hS (zX 7 O O (gF g4_3) O hS (zX 8 O O (gF g4_3) O hS (zX 9 O O (gF g4_3) O hS (zX 10 O O (gF g4_3) O hS (zX 11 O O (gF g4_3) O hS (zX 12 O O (gF g4_3) O hS (zX 13 O O (gF g4_3) O hS (zX 14 O O (gF g4_3) O hS (zX 15 O O (gF g4_3) O hS (zB 16 O (yM (gF g4_3)) hS ?_))))))))))))
   refine zT ?_
   refine Oc2 ?_ hw
   refine xx O (yF O (zV (zD O (zt O O (zr V) O (zI O ?_)))))
   exact zg (fun w' hw=>⟨i+1,q,⟨O,O,O,O,O,trivial⟩,⟨⟨by omega, .inl V⟩,hS2⟩,hw,V⟩)
  exact kw O (yQ O (fun w' hw=>⟨m,O,hS1,hw⟩))
theorem zHT{S:List Nat}(v:Value)(ps:List PeerP)(n:Nat)(lim:Int)(w:World)(hn:n≤12)(hln:n≤ps.length)(hl:ps.length≤1000)(hin:Own w S [vP v ps,sP ps] w):Rets Tryz.prog 142 #[v,Vj 0,Vj n,Vi lim, .func (.func 98) #[] #[]] w fun u_ w'=>∃ (qs:List PeerP),u_= .tuple #[]∧qs.Perm ps∧Own w S [vP v qs,sP qs] w':=by
  refine zW Tryz.func142 O Tryz.ntmps142 hin ?_
  refine zC (zI O (zA (zC (zI O (zA (zZ ?_))))))
  refine xT (fun(k:Nat)=>[(0,v),(1,Vj 0),(2,Vj n),(3,Vi lim),(4, .func (.func 98) #[] #[]),(10, .bool true),(11, .bool true)]) (fun(k:Nat)=>k=1) (fun(k:Nat)=>[vP v ps,sP ps]) (fun(k:Nat)=>0) (fun w' hw=>⟨1,⟨O,O,O,O,O,O,O,trivial⟩,O,hw⟩) (fun k g hΦ=> ?_)
  refine zZ (zC (zD O (zD O (x8 (c:=((n:Nat):Int)) O O (zr V) O (zI O (zA (zP (zC (zD O (x6 O O O (zA (za O (fun c1=> ?_) (fun c1=> ?_)))))))))))))
  ·refine zC (zD O (zD O (zD O (zD O (a_call O O (fun w' hw=>(zHw v ps n w' qO qO (hw.give [0,1] O qM)).mono ?_))))))
   rintro _ w1 ⟨qs1_,rfl,hf4_4,hO⟩
   refine O2 ?_ (hw.qh [0,1] O hO)
   refine zA ?_
   exact zU (yQ O (fun w' hw=>⟨qs1_,O,hf4_4,hw⟩))
  exact absurd c1 V
theorem zGJ{S:List Nat}(v:Value)(ps:List PeerP)(w:World)(hl:ps.length≤12)(hin:Own w S [vP v ps,sP ps] w):Rets Tryz.prog 97 #[v, .func (.func 98) #[] #[]] w fun u_ w'=>∃ (qs:List PeerP),u_= .tuple #[]∧qs.Perm ps∧Own w S [vP v qs,sP qs] w':=by
  refine zW Tryz.func97 O Tryz.ntmps97 hin ?_
  refine zC (zD O (zp (pV 0 O) O O (zI O (zA (zV (zD O (zD O (zD O (xt qN O (xA V) O ?_ qN)))))))))
  refine a_call O O (fun w' hw=>(zKr ps.length w' qO).mono ?_)
  rintro _ w1 ⟨rfl,hO⟩
  refine O2 ?_ (hw.qi hO)
  refine zD O (a_call O O (fun w' hw=>(zHT v ps ps.length (((yD ps.length):Nat):Int) w' qO qO qO (hw.give [0,1] O qM)).mono ?_))
  rintro _ w1 ⟨qs1_,rfl,hf1_6,hO⟩
  refine O2 ?_ (hw.qh [0,1] O hO)
  exact zg (yQ O (fun w' hw=>⟨qs1_,O,hf1_6,hw⟩))
abbrev zCB(α:Type):=List UInt8→Nat→Option (α×Nat)
def Rt{α:Type}(p:zCB α)(x:α)(e:List UInt8):Prop:=∀ pre s:List UInt8,p (pre++e++s) pre.length=some (x,(pre++e).length)
theorem Rt.pure{α:Type}(x:α):Rt (jq x) x []:=fun pre s=>by simp[jq]
theorem Rt.bind{α β:Type}{p:zCB α}{q:α→zCB β}{x:α}{y:β}{e f:List UInt8}(h1:Rt p x e)(h2:Rt (q x) y f):Rt (jO p q) y (e++f):=fun pre s=>by
  have a1:=h1 pre (f++s)
  have a2:=h2 (pre++e) s
  simp only[jO]
  rw[show pre++(e++f)++s=pre++e++(f++s)by simp,a1]
  simp only[Option.bind_some]
  rw[show pre++e++(f++s)=pre++e++f++s by simp,a2]
  simp
theorem Rt.map{α β:Type}{p:zCB α}{x:α}{e:List UInt8}(h:Rt p x e)(g:α→β):Rt (jO p fun v=>jq (g v)) (g x) e:=by
  have:=h.bind (q:=fun v=>jq (g v)) (Rt.pure (g x));rwa [List.append_nil]at this
theorem Rt.rep{α:Type}[Inhabited α]{p:zCB α}{l:List α}{enc:α→List UInt8}(h:∀ x∈l,Rt p x (enc x)):Rt (zE1 p l.length) l (l.flatMap enc):=by
  have key:∀ k,k≤l.length→Rt (zE1 p k) (l.take k) ((l.take k).flatMap enc):=by
    intro k
    induction k with
    |zero=>intro _;rw[List.take_zero];exact Rt.pure []
    |succ k ih=>
      intro hk
      rw[zu V,List.flatMap_append]
      have h2:=(h (zG l k) (zd V)).map (l.take k++[·])
      have:=(ih V).bind (q:=fun l=>jO p fun x=>jq (l++[x])) h2
      simp only[List.flatMap_cons,List.flatMap_nil,List.append_nil]
      exact this
  have:=key l.length (Nat.le_refl _)
  rwa [List.take_length]at this
theorem zFI{α:Type}[Inhabited α]{l m:List α}{j:Nat}(h:j<l.length):zG (l++m) j=zG l j:=by
  simp[zG,List.getElem?_append_left h]
theorem zDV:∀ (l:List UInt8) (n:Nat),l.foldl (fun n c=>n*256+c.toNat) n=n*256 ^ l.length+beN l
  | [],n=>by simp[beN]
  |c::l,n=>by
    have h1:=zDV l (n*256+c.toNat)
    have h2:=zDV l (0*256+c.toNat)
    simp only[beN,List.foldl_cons,List.length_cons]at *
    rw[h1,h2,Nat.pow_succ,Nat.add_mul,Nat.mul_assoc,Nat.mul_comm 256];simp only[Nat.zero_mul,Nat.zero_add];omega
theorem zMq(c:UInt8)(l:List UInt8):beN (c::l)=c.toNat*256 ^ l.length+beN l:=by
  have:=zDV l (0*256+c.toNat)
  simp only[beN,List.foldl_cons,Nat.zero_mul,Nat.zero_add]at *
  exact this
theorem zM6(k:Nat):2 ^ (8*k)=256 ^ k:=by rw[Nat.pow_mul]
theorem zK8(n:Nat):∀ k,beN (be n k)=n%256 ^ k
  |0=>by simp[be,beN,Nat.mod_one]
  |k+1=>by
    rw[be,zMq,zAf,zK8 n k,zM6,Nat.pow_succ,Nat.mod_mul]
    have:(UInt8.ofNat (n / 256 ^ k)).toNat=n / 256 ^ k%256:=by simp
    rw[this,Nat.mul_comm,Nat.add_comm]
theorem zDL(n:Nat):n<256 ^ yU n:=by
  have h1:=zCU n
  have:2 ^ yD n≤2 ^ (8*yU n):=Nat.pow_le_pow_right V (by unfold yU;omega)
  rw[zM6]at this;omega
theorem zFc{n k:Nat}(h:yU n=k+1):0<n / 256 ^ k∧n / 256 ^ k<256:=by
  have h0:0<n:=by
    rcases Nat.eq_zero_or_pos n with rfl|h0
    · simp[yU,yD]at h
    exact h0
  have h1:=zAb h0
  have h2:256 ^ k≤n:=by
    rw[←zM6]
    refine Nat.le_trans (Nat.pow_le_pow_right V ?_) h1
    unfold yU at h;omega
  have h3:=zDL n
  rw[h,Nat.pow_succ]at h3
  have hp:0<256 ^ k:=Nat.pow_pos V
  exact⟨Nat.div_pos h2 hp,(Nat.div_lt_iff_lt_mul hp).2 V⟩
theorem zJq{n:Nat}(h:n<18446744073709551616)(s:List UInt8):zBf (num n++s)=some (n,(num n).length):=by
  have h8:=zA9 h
  have hl:=zDd n
  have e0:zG (num n++s) 0=UInt8.ofNat (yU n):=rfl
  have e1:(UInt8.ofNat (yU n)).toNat=yU n:=by simp;omega
  unfold zBf
  rw[e0,e1,if_neg (by simp[hl]),if_neg,if_neg (by simp[hl];omega)]
  · rw[List.take_append_of_le_length V,List.take_of_length_le V]
    have:(num n).drop 1=be n (yU n):=rfl
    rw[this,zK8,Nat.mod_eq_of_lt (zDL n),hl];simp[Nat.add_comm]
  rintro(h|⟨⟨_,h3⟩,h4⟩)
  · omega
  obtain⟨k,hk⟩:∃ k,yU n=k+1:=⟨yU n - 1,by omega⟩
  obtain⟨a1,a2⟩:=zFc hk
  have e2:zG (num n++s) 1=UInt8.ofNat (n / 2 ^ (8*k)):=by
    rw[zFI V]
    show zG (UInt8.ofNat (yU n)::be n (yU n)) 1=_
    rw[hk];rfl
  rw[e2,zM6]at h4
  simp at h4;omega
theorem zPU{n:Nat}(h:n<18446744073709551616):Rt zBT n (num n):=fun pre s=>by
  unfold zBT
  rw[List.append_assoc,List.drop_left,zJq h];simp
theorem zIh{n most:Nat}(h:n<18446744073709551616)(hm:n≤most):Rt (zA5 most) n (num n):=fun pre s=>by
  simp only[zA5,zPU h pre s,Option.bind_some];rw[if_neg V]
theorem zOz{a:Int}{most:Nat}(h0:0≤a)(hm:a≤most)(hs:most<18446744073709551616):Rt (zKQ most) a (num (u64 a)):=by
  have e:u64 a=a.toNat:=by unfold u64;omega
  have h:=(zIh (n:=a.toNat) (most:=most) V V).map (fun n:Nat=>(n:Int))
  rw[Int.toNat_of_nonneg h0]at h
  rw[e];exact h
theorem zLm{l:List Int}(hl:l.length≤16)(h:∀ x∈l,0≤x∧x≤16):Rt zKB l (zCm l):=by
  have h1:=Rt.rep (p:=zKQ 16) (enc:=fun x=>num (u64 x)) (fun x hx=>zOz (h x hx).1 (h x hx).2 qM)
  have h2:=(zIh (n:=l.length) (most:=16) V hl).bind (q:=fun n=>zE1 (zKQ 16) n) h1
  have e:zCm l=num l.length++l.flatMap fun x=>num (u64 x):=by
    simp only[zCm,yK,List.flatMap_cons,zIk (show l.length<18446744073709551616 by omega),List.flatMap_map]
  rw[e];exact h2
theorem zNX{c:ConfA}(hv:c.vs.length≤16∧∀ x∈c.vs,0≤x∧x≤16)(hl:c.ls.length≤16∧∀ x∈c.ls,0≤x∧x≤16):Rt zH3 c c.enc:=by
  have h:=(zLm hv.1 hv.2).bind (q:=fun vs=>jO zKB fun ls=>jq (⟨vs,ls⟩:ConfA)) ((zLm hl.1 hl.2).map fun ls=>(⟨c.vs,ls⟩:ConfA))
  exact h
theorem zJp{α:Type}{p:zCB α}{ok:α→Prop}[DecidablePred ok]{x:α}{e:List UInt8}(h:Rt p x e)(hx:ok x):zAy p ok e=some x:=by
  have h:=h [] []
  simp only[List.append_nil,List.nil_append,List.length_nil]at h
  simp only[zAy,h,Option.bind_some];rw[if_pos ⟨trivial,hx⟩]
theorem zKo{p q a b:Int→Bool}:∀ {l:List Int},l.length<((l.filter p).filter a).length+((l.filter q).filter b).length→∃ x∈l,p x=true∧q x=true∧a x=true∧b x=true
  | [],h=>by simp at h
  |x::l,h=>by
    by_cases hx:p x=true∧q x=true∧a x=true∧b x=true
    · exact⟨x,List.mem_cons_self ..,hx⟩
    have:l.length<((l.filter p).filter a).length+((l.filter q).filter b).length:=by
      rw[List.filter_filter,List.filter_filter]at h ⊢
      simp only[List.filter_cons,List.length_cons]at h
      cases hp:p x<;>cases hq:q x<;>cases ha:a x<;>cases hb:b x<;>simp[hp,hq,ha,hb]at h hx<;>omega
    obtain⟨y,hy,hy'⟩:=zKo this
    exact⟨y,List.mem_cons_of_mem _ hy,hy'⟩
theorem zDJ{n:Int}{l:List Int}(q:n∉l):xg l n=l:=List.filter_eq_self.2 fun x hx=>by simp;exact fun e=>q (e▸hx)
theorem zDP(a n:Int)(l:List Int):xg (a::l) n=if a=n then xg l n else a::xg l n:=by
  unfold xg
  rw[List.filter_cons]
  by_cases h:a=n<;>simp[h]
theorem zK3{l:List Int}{n:Int}(h:n∉l):xg (xe l n) n=l:=by
  induction l with
  |nil=>simp[xe,xg]
  |cons a l ih=>
    have hna:¬ a=n:=fun q=>h (by rw[q];exact List.mem_cons_self ..)
    have hnl:n∉l:=fun q=>h (List.mem_cons_of_mem _ q)
    unfold xe
    split
    · rw[zDP,if_pos rfl,zDJ h]
    rw[zDP,if_neg hna,ih hnl]
theorem zDT{l:List Int}{n:Int}(hs:l.Pairwise (· < ·)):l.length≤(xg l n).length+1:=by
  induction l with
  |nil=>simp
  |cons a l ih=>
    have:=ih (List.pairwise_cons.1 hs).2
    rw[zDP]
    by_cases h:a=n
    · rw[if_pos h,zDJ (fun q=>by have:=(List.pairwise_cons.1 hs).1 n q;omega)];simp
    rw[if_neg h];simp only[List.length_cons];omega
theorem zAo(l:List Int):l.filter (fun _=>true)=l:=List.filter_eq_self.2 fun _ _=>rfl
theorem zLZ{k:Int}{c:ConfD}{id:Int}{vs ls:List Int}(hok:c.ok)(h:chg k c.a id=(⟨vs,ls⟩,0)):∃ (u:List Int) (p q:Int→Bool),c.vs=u.filter p∧vs=u.filter q∧u.length≤c.vs.length+1∧u.length≤vs.length+1∧(u.length≤c.vs.length∨u.length≤vs.length):=by
  have hlt:=hok.1.1.1.lt
  unfold chg at h
  rw[if_neg (fun q=>q hok)]at h
  split at h; · cases h
  split at h
  · split at h; · cases h
    cases h;exact⟨c.vs,fun _=>true,fun _=>true,(zAo _).symm,(zAo _).symm,by omega,Nat.le_succ _, .inl (Nat.le_refl _)⟩
  split at h
  · split at h
    · rename_i hl
      cases h
      have hn:id∉c.vs:=fun q=>hok.2 id q hl
      have hw:=jC c.vs id
      exact⟨xe c.vs id,fun x=>decide (x≠id),fun _=>true,(zK3 hn).symm,(zAo _).symm,V,by show _≤(xe c.vs id).length+1;omega, .inr (Nat.le_refl _)⟩
    cases h
  split at h; · cases h
  split at h; · cases h
  cases h
  exact⟨c.vs,fun _=>true,fun x=>decide (x≠id),(zAo _).symm,O,by omega,zDT hlt,by omega⟩
theorem zQq{vs ws a b:List Int}{u:List Int}{p q:Int→Bool}(hv:vs=u.filter p)(hw:ws=u.filter q)(h1:u.length≤vs.length+1)(h2:u.length≤ws.length+1)(h3:u.length≤vs.length∨u.length≤ws.length)(ha:vs.length<2*cnt vs a)(hb:ws.length<2*cnt ws b):∃ x∈vs,x∈a∧x∈b:=by
  unfold cnt at ha hb
  have:u.length<((u.filter p).filter (fun x=>decide (x∈a))).length+((u.filter q).filter (fun x=>decide (x∈b))).length:=by rw[←hv,←hw];omega
  obtain⟨x,hx,hp,hq,h4,h5⟩:=zKo this
  exact⟨x,by rw[hv];exact List.mem_filter.2 ⟨hx,hp⟩,by simpa using h4,by simpa using h5⟩
theorem zH5(l:List Int)(n:Int):(xg l n).length≤l.length:=List.length_filter_le _ _
theorem zOQ{k:Int}{c:ConfD}{id e:Int}{vs ls:List Int}(h:chg k c.a id=(⟨vs,ls⟩,e)):vs.length≤c.vs.length+1∧ls.length≤c.ls.length+1:=by
  have h1:=zH5 c.vs id
  have h2:=zH5 c.ls id
  have h3:=jC c.vs id
  have h4:=jC c.ls id
  have hz:∀ {q:ConfA×Int},q=(⟨vs,ls⟩,e)→(q.1.vs.length≤c.vs.length+1∧q.1.ls.length≤c.ls.length+1)→vs.length≤c.vs.length+1∧ls.length≤c.ls.length+1:=by rintro _ rfl q;exact q
  refine hz h ?_
  unfold chg
  repeat' split
  all_goals simp only[ConfD.a,List.length_nil];omega
theorem zMp{k:Int}{c:ConfD}{id:Int}{r:ConfA}(h:chg k c.a id=(r,0)):c.ok:=by
  refine Decidable.byContradiction fun q=> ?_
  rw[zI1 (c:=c.a) q]at h
  cases h
theorem zGA{k:Int}{c:ConfD}{id:Int}{vs ls:List Int}(h:chg k c.a id=(⟨vs,ls⟩,0)):ConfA.ok ⟨vs,ls⟩∧(∀ x,x≠id→((x∈c.vs↔x∈vs)∧(x∈c.ls↔x∈ls)))∧¬((id∈c.vs↔id∈vs)∧((id∈c.vs∨id∈c.ls)↔(id∈vs∨id∈ls))):=by
  have hok:=zMp h
  unfold chg at h
  rw[if_neg (fun q=>q hok)]at h
  split at h; · cases h
  rename_i hid
  have hid:1≤id∧id≤16:=Decidable.not_not.1 hid
  have hcl:c.a.ls=c.ls:=rfl
  have hcv:c.a.vs=c.vs:=rfl
  rw[hcl,hcv]at h
  split at h
  · split at h; · cases h
    rename_i hn
    have hn1:id∉c.vs:=fun q=>hn (.inl q)
    have hn2:id∉c.ls:=fun q=>hn (.inr q)
    cases h
    refine⟨⟨⟨⟨hok.1.1.1,zDw hok.1.1.2 hn2 hid⟩,hok.1.2⟩,fun v hv q=> ?_⟩,fun x hx=>⟨Iff.rfl,?_⟩,fun q=>hn (q.2.2 (.inr (withR_mem.2 (.inr O))))⟩
    · rcases withR_mem.1 q with h|h
      · exact hok.2 v hv h
      exact hn1 (h▸hv)
    rw[withR_mem];exact⟨.inl,fun q=>q.elim (fun q=>q) (fun q=>absurd q hx)⟩
  split at h
  · split at h
    · rename_i hl
      have hn:id∉c.vs:=fun q=>hok.2 id q hl
      cases h
      refine⟨⟨⟨⟨zDw hok.1.1.1 hn hid,zCR hok.1.1.2⟩,by have:=jC c.vs id;show 0<(xe c.vs id).length;omega⟩,fun v hv q=> ?_⟩,fun x hx=>⟨?_,?_⟩,fun q=>hn (q.1.2 (withR_mem.2 (.inr O)))⟩
      · rcases withR_mem.1 hv with h|h
        · exact hok.2 v h (del_mem.1 q).1
        exact(del_mem.1 q).2 h
      · rw[withR_mem];exact⟨.inl,fun q=>q.elim (fun q=>q) (fun q=>absurd q hx)⟩
      rw[del_mem];exact⟨fun q=>⟨q,hx⟩,fun q=>q.1⟩
    cases h
  split at h; · cases h
  rename_i hme
  have hme:=Decidable.not_not.1 hme
  split at h; · cases h
  rename_i hone
  cases h
  have hlt:=hok.1.1.1.lt
  refine⟨⟨⟨⟨zCR hok.1.1.1,zCR hok.1.1.2⟩,?_⟩,fun v hv q=>hok.2 v (del_mem.1 hv).1 (del_mem.1 q).1⟩,fun x hx=>⟨?_,?_⟩,fun q=> ?_⟩
  · show 0<(xg c.vs id).length
    have h3:0<c.vs.length:=hok.1.2
    by_cases hm:id∈c.vs
    · have h1:=zDT (n:=id) hlt
      have h2:c.vs.length≠1:=fun q=>hone ⟨hm,q⟩
      omega
    rw[zDJ hm];exact h3
  · rw[del_mem];exact⟨fun q=>⟨q,hx⟩,fun q=>q.1⟩
  · rw[del_mem];exact⟨fun q=>⟨q,hx⟩,fun q=>q.1⟩
  exact(q.2.1 hme).elim (fun q=>(del_mem.1 q).2 rfl) (fun q=>(del_mem.1 q).2 rfl)
theorem zC1{F:ConfA}(h:F.ok):xN F.enc=some F:=zJp (zNX (Rises.few' h.1.1.1) (Rises.few' h.1.1.2)) h
theorem zFR{k:Int}{c F:ConfA}{id:Int}(h:chg k c id=(F,0)):F.ok∧c.ok:=by
  have h1:chg k (ConfD.mk (.slice none 0 0) c.vs (.slice none 0 0) c.ls).a id=(⟨F.vs,F.ls⟩,0):=h
  exact⟨(zGA h1).1,zMp h1⟩
theorem zMi{k:Int}{c F:ConfA}{id:Int}(h:chg k c id=(F,0)):F.vs.length≤c.vs.length+1∧F.ls.length≤c.ls.length+1:=zOQ (c:=ConfD.mk (.slice none 0 0) c.vs (.slice none 0 0) c.ls) (h:chg k _ id=(⟨F.vs,F.ls⟩,0))
theorem zCF{vs:List Int}{E:List EntA}{x:EntA}{F:ConfA}(hk:x.kind=3)(hi:x.index=E.length+1)(hd:xN x.data=some F):zc vs (E++[x])=F:=by
  unfold zc y9
  have h1:zAM (E++[x]).length x=true:=by unfold zAM;rw[List.length_append];exact decide_eq_true ⟨hk,by rw[hi];exact Nat.le_refl _⟩
  rw[List.reverse_append,List.reverse_singleton,List.singleton_append,List.find?_cons,h1]
  show(xN x.data).getD _=F
  rw[hd];rfl
theorem zFZ{F:ConfA}(h:F.ok):F.enc.length≤4096:=by
  have h1:=ConfD.enc_le (c:=⟨.slice none 0 0,F.vs, .slice none 0 0,F.ls⟩)
  have h2:=(Rises.few' h.1.1.1).1
  have h3:=(Rises.few' h.1.1.2).1
  have h1:F.enc.length≤9*(F.vs.length+F.ls.length+2):=h1
  omega
end Go.Proofs.YtkkeknmkipkbmaaGreat
