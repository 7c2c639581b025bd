import Derived.Test.YtkkeknmkipkbmaaGreatFwG
import Derived.Test.YtkkeknmkipkbmaaGreatSrtB
import Derived.Test.YtkkeknmkipkbmaaGreatConfB
set_option linter.unusedSectionVars false
set_option linter.unusedSimpArgs false
set_option linter.unusedVariables false
set_option maxRecDepth 10000
namespace Go.Proofs.YtkkeknmkipkbmaaGreat
open Go Go.Sc Go.Proofs
instance:SO Int:=⟨fun a b=>a<b,fun a b=>inferInstance,fun h k=>by omega,fun h k=>by omega⟩
theorem ole_int{a b:Int}:ky a b↔a≤b:=Int.not_lt
theorem zQf(x:Nat)(w:World):Rets Tryz.prog 231 #[Vn x] w fun u_ w'=>u_= .bool false∧Own w [] [] w':=by
  refine zW Tryz.func231 O Tryz.ntmps231 (Own.start w) ?_
  refine zB (zI O (zA (zB (zD O (zD O (xn O O O (zI O (zA ?_))))))))
  exact zV (z6 (v:= .bool (decide (((x:Nat):Int)≠((x:Nat):Int)))) O O (fun w' hw=>⟨qQ,hw.drop⟩))
theorem zOK(x y:Nat)(w:World):Rets Tryz.prog 215 #[Vn x,Vn y] w fun u_ w'=>u_= .bool (decide (olt x y))∧Own w [] [] w':=by
  refine zW Tryz.func215 O Tryz.ntmps215 (Own.start w) ?_
  refine zB (zI O (zA (zB (zD O (a_call O O (fun w' hw=>(zQf x w').mono ?_))))))
  rintro _ w1 ⟨rfl,hO⟩
  refine O0 ?_ (hw.qi hO)
  refine zD O (zAs O O O O (zAs O O O O (zAs O O O O (js O O (zD O (zR O O (zD O (zR O O (zD O (zR O O (yG O O O (js O O ?_))))))))))))
  refine zI O (zA ?_)
  exact zV (z6 (v:= .bool (decide (((x:Nat):Int)<((y:Nat):Int)))) O O (fun w' hw=>⟨(by congr 1;exact decide_eq_decide.2 (Int.ofNat_lt)),hw.drop⟩))
theorem _root_.Go.Sc.qU{p:Prop}(h:p:=by simp only[List.length_set];omega):p:=h
theorem zJZ{S:List Nat}(v:Value)(l:List Nat)(a b:Nat)(w:World)(ha:a≤b)(hb:b≤l.length)(hl:zf l.length)(hin:Own w S [Res.vec 22 1 v l.length (l.flatMap U1)] w):Rets Tryz.prog 209 #[v,Vj a,Vj b] w fun u_ w'=>∃ (l':List Nat),u_= .tuple #[]∧Same a b l l'∧Up a b l'∧Own w S [Res.vec 22 1 v l'.length (l'.flatMap U1)] w':=by
  refine zW Tryz.func209 O Tryz.ntmps209 hin ?_
  refine zB (zD O (zp O O (zq V) O (zI O (zA (zX ?_)))))
  refine yw (fun(i:Nat) (m:List Nat)=>[(0,v),(1,Vj a),(2,Vj b),(6,Vj i)]) (fun(i:Nat) (m:List Nat)=>(a+1≤i∧(i≤b∨i=a+1))∧Same a b l m∧Up a i m) (fun(i:Nat) (m:List Nat)=>[Res.vec 22 1 v m.length (m.flatMap U1)]) (fun(i:Nat) (m:List Nat)=>b+1 - i) (fun w' hw=>⟨a+1,l,⟨O,O,O,O,trivial⟩,⟨⟨by omega, .inr O⟩,Same.refl _ _ _,Up.one V⟩,hw⟩) (fun i m g hΦ=> ?_)
  have hml:=hΦ.2.1.len
  have hi1:=hΦ.1
  have hU:=hΦ.2.2
  have hS1:=hΦ.2.1
  refine zN (zB (zD O (zD O (yG O O O (zA (zY O (fun c1=> ?_) (fun c1=> ?_)))))))
  ·refine zO (zN (zX (zB (zD O (zI O (zA (zX ?_)))))))
   refine yw (fun(j:Nat) (q:List Nat)=>[(0,v),(1,Vj a),(2,Vj b),(6,Vj i),(7,Vj j)]) (fun(j:Nat) (q:List Nat)=>(a≤j∧j≤i)∧Same a b l q∧Ins a i j q) (fun(j:Nat) (q:List Nat)=>[Res.vec 22 1 v q.length (q.flatMap U1)]) (fun(j:Nat) (q:List Nat)=>j) (fun w' hw=>⟨i,m,⟨O,O,O,O,O,trivial⟩,⟨⟨by omega,by omega⟩,hS1,Ins.start hU⟩,hw⟩) (fun j q g hΦ=> ?_)
   have hql:=hΦ.2.1.len
   have hj1:=hΦ.1
   have hS2:=hΦ.2.1
   have hI2:=hΦ.2.2
   refine zN (zN (zg [0] O qM qN (fun w' hw hS=>zC 0 O zT hS (zC 1 O zT hS (zC 2 O (zCU O O) hS (zC 3 O zT hS ?_))))))
   by_cases g4_3:((a:Nat):Int)<((j:Nat):Int)
   ·refine zk 4 O O (gT g4_3) zT hS (zk 5 O O (gT g4_3) zT hS (zk 6 O O (gT g4_3) (y8 (pV 0 O) 1 j O O O V) hS (zk 7 O O (gT g4_3) (x9 (pV 0 O) 1 j 0 (fun _=>O) O O V O) hS (zk 8 O O (gT g4_3) zT hS (zk 9 O O (gT g4_3) zT hS (zk 10 O O (gT g4_3) (xy (c:=((j - 1:Nat):Int)) O O (zCG V V)) hS (zk 11 O O (gT g4_3) (y8 (pV 0 O) 1 (j - 1) O O O V) hS (zk 12 O O (gT g4_3) (x9 (pV 0 O) 1 (j - 1) 0 (fun _=>O) O O V O) hS (zK 13 O hw (zR O (gT g4_3) (a_call O O (fun w' hw=>(zOK (zG q j) (zG q (j - 1)) w').mono ?_))))))))))))
    rintro _ w1 ⟨rfl,hO⟩
    refine O1 ?_ (hw.qi hO)
    refine zE [0] O qM (fun w' hw hS=>zC 14 O (yl (gT g4_3)) hS (zU ?_))
    refine Oc1 ?_ hw
    refine zY O (fun c2=> ?_) (fun c2=> ?_)
    ·refine zO (yt (fun(n:List Nat)=>[(0,v),(1,Vj a),(2,Vj b),(6,Vj i),(7,Vj j)]) (fun(n:List Nat)=>n=swp q j (j - 1)) (fun(n:List Nat)=>[Res.vec 22 1 v n.length (n.flatMap U1)]) ?_ (fun n g hΦ=> ?_))
     ·refine zX (zg [] O qM qN (fun w' hw hS=>zC 0 O zT hS (zC 1 O zT hS (zC 2 O zT hS (zC 3 O zT hS (zC 4 O (xy (c:=((j - 1:Nat):Int)) O O (zCG V V)) hS (zC 5 O zT hS (zC 6 O zT hS (zC 7 O (xy (c:=((j - 1:Nat):Int)) O O (zCG V V)) hS (zC 10 O zT hS (zC 11 O zT hS (zu 8 12 ?_ ?_))))))))))))
      ·refine zm 8 O hw (zi (pV 0 O) 1 (j - 1) O O O V O (zE [] O qM (fun w' hw hS=>zu 9 12 ?_ ?_)))
       ·refine zm 9 O hw (yF (pV 0 O) 1 (j - 1) 0 (fun _=>O) O O V O O (yj 12 O (zi (pV 0 O) 1 j O O O V O (yj 13 O (yF (pV 0 O) 1 j 0 (fun _=>O) O O V O O (yj 14 O (zi (pV 0 O) 1 j O O O V O (yj 15 O ?_))))))))
        refine yp 0 j (zG q (j - 1)) O (fun _=>O) O V O O O V (yj 16 O (zi (pV 0 O) 1 (j - 1) O O O qU O (yj 17 O (yp 0 (j - 1) (zG q j) O (fun _=>O) O V O O O qU (zE [] O qM (fun w' hw hS=>zU ?_))))))
        exact⟨swp q j (j - 1),⟨O,O,O,O,O,trivial⟩,O,hw⟩
       refine zm 12 O hw (zi (pV 0 O) 1 j O O O V O (zE [] O qM (fun w' hw hS=>zu 9 13 ?_ ?_)))
       ·refine zm 9 O hw (yF (pV 0 O) 1 (j - 1) 0 (fun _=>O) O O V O O (yj 13 O (yF (pV 0 O) 1 j 0 (fun _=>O) O O V O O (yj 14 O (zi (pV 0 O) 1 j O O O V O (yj 15 O (yp 0 j (zG q (j - 1)) O (fun _=>O) O V O O O V (yj 16 O ?_))))))))
        refine zi (pV 0 O) 1 (j - 1) O O O qU O (yj 17 O (yp 0 (j - 1) (zG q j) O (fun _=>O) O V O O O qU (zE [] O qM (fun w' hw hS=>zU ?_))))
        exact⟨swp q j (j - 1),⟨O,O,O,O,O,trivial⟩,O,hw⟩
       refine zm 13 O hw (yF (pV 0 O) 1 j 0 (fun _=>O) O O V O O (yj 9 O (yF (pV 0 O) 1 (j - 1) 0 (fun _=>O) O O V O O (yj 14 O (zi (pV 0 O) 1 j O O O V O (yj 15 O (yp 0 j (zG q (j - 1)) O (fun _=>O) O V O O O V (yj 16 O ?_))))))))
       refine zi (pV 0 O) 1 (j - 1) O O O qU O (yj 17 O (yp 0 (j - 1) (zG q j) O (fun _=>O) O V O O O qU (zE [] O qM (fun w' hw hS=>zU ?_))))
       exact⟨swp q j (j - 1),⟨O,O,O,O,O,trivial⟩,O,hw⟩
      refine zm 12 O hw (zi (pV 0 O) 1 j O O O V O (zE [] O qM (fun w' hw hS=>zu 8 13 ?_ ?_)))
      ·refine zm 8 O hw (zi (pV 0 O) 1 (j - 1) O O O V O (zE [] O qM (fun w' hw hS=>zu 9 13 ?_ ?_)))
       ·refine zm 9 O hw (yF (pV 0 O) 1 (j - 1) 0 (fun _=>O) O O V O O (yj 13 O (yF (pV 0 O) 1 j 0 (fun _=>O) O O V O O (yj 14 O (zi (pV 0 O) 1 j O O O V O (yj 15 O (yp 0 j (zG q (j - 1)) O (fun _=>O) O V O O O V (yj 16 O ?_))))))))
        refine zi (pV 0 O) 1 (j - 1) O O O qU O (yj 17 O (yp 0 (j - 1) (zG q j) O (fun _=>O) O V O O O qU (zE [] O qM (fun w' hw hS=>zU ?_))))
        exact⟨swp q j (j - 1),⟨O,O,O,O,O,trivial⟩,O,hw⟩
       refine zm 13 O hw (yF (pV 0 O) 1 j 0 (fun _=>O) O O V O O (yj 9 O (yF (pV 0 O) 1 (j - 1) 0 (fun _=>O) O O V O O (yj 14 O (zi (pV 0 O) 1 j O O O V O (yj 15 O (yp 0 j (zG q (j - 1)) O (fun _=>O) O V O O O V (yj 16 O ?_))))))))
       refine zi (pV 0 O) 1 (j - 1) O O O qU O (yj 17 O (yp 0 (j - 1) (zG q j) O (fun _=>O) O V O O O qU (zE [] O qM (fun w' hw hS=>zU ?_))))
       exact⟨swp q j (j - 1),⟨O,O,O,O,O,trivial⟩,O,hw⟩
      refine zm 13 O hw (yF (pV 0 O) 1 j 0 (fun _=>O) O O V O O (yj 8 O (zi (pV 0 O) 1 (j - 1) O O O V O (yj 9 O (yF (pV 0 O) 1 (j - 1) 0 (fun _=>O) O O V O O (yj 14 O (zi (pV 0 O) 1 j O O O V O (yj 15 O ?_))))))))
      refine yp 0 j (zG q (j - 1)) O (fun _=>O) O V O O O V (yj 16 O (zi (pV 0 O) 1 (j - 1) O O O qU O (yj 17 O (yp 0 (j - 1) (zG q j) O (fun _=>O) O V O O O qU (zE [] O qM (fun w' hw hS=>zU ?_))))))
      exact⟨swp q j (j - 1),⟨O,O,O,O,O,trivial⟩,O,hw⟩
     have hn:=hΦ
     refine zS (zD O (kI (c:=((j - 1:Nat):Int)) O O (zCG V V) O (zI O ?_)))
     exact zd (fun w' hw=>⟨j - 1,n,⟨O,O,O,O,O,trivial⟩,⟨⟨by omega,by omega⟩,by rw[hn];exact hS2.then_swp ⟨by omega,by omega⟩ ⟨by omega,by omega⟩ hb,by rw[hn];exact hI2.step V V V c2⟩,hw,V⟩)
    refine yA O (zS (zD O (zp O O (zq V) O (zI O ?_))))
    exact zd (fun w' hw=>⟨i+1,q,⟨O,O,O,O,trivial⟩,⟨⟨by omega, .inl V⟩,hS2,hI2.done (fun _=>c2)⟩,hw,V⟩)
   refine zb 4 O O (gF g4_3) O hS (zb 5 O O (gF g4_3) O hS (zb 6 O O (gF g4_3) O hS (zb 7 O O (gF g4_3) O hS (zb 8 O O (gF g4_3) O hS (zb 9 O O (gF g4_3) O hS (zb 10 O O (gF g4_3) O hS (zb 11 O O (gF g4_3) O hS (zb 12 O O (gF g4_3) O hS (zb 13 O O (gF g4_3) O hS (zC 14 O (yS (gF g4_3)) hS (zU ?_)))))))))))
   refine Oc1 ?_ hw
   refine xt O (yA O (zS (zD O (zp O O (zq V) O (zI O ?_)))))
   exact zd (fun w' hw=>⟨i+1,q,⟨O,O,O,O,trivial⟩,⟨⟨by omega, .inl V⟩,hS2,hI2.done (fun h=>absurd h V)⟩,hw,V⟩)
  exact kh O (yJ O (fun w' hw=>⟨m,O,hS1,(fun k h1 h2=>hU k h1 V),hw⟩))
theorem zPo{S:List Nat}(v:Value)(l:List Nat)(n:Nat)(lim:Int)(w:World)(hn:n≤12)(hln:n≤l.length)(hl:zf l.length)(hin:Own w S [Res.vec 22 1 v l.length (l.flatMap U1)] w):Rets Tryz.prog 197 #[v,Vj 0,Vj n,Vi lim] w fun u_ w'=>∃ (l':List Nat),u_= .tuple #[]∧Same 0 n l l'∧Up 0 n l'∧Own w S [Res.vec 22 1 v l'.length (l'.flatMap U1)] w':=by
  refine zW Tryz.func197 O Tryz.ntmps197 hin ?_
  refine zB (zI O (zA (zB (zI O (zA (zX ?_))))))
  refine xN (fun(k:Nat)=>[(0,v),(1,Vj 0),(2,Vj n),(3,Vi lim),(8, .bool true),(9, .bool true)]) (fun(k:Nat)=>k=1) (fun(k:Nat)=>[Res.vec 22 1 v l.length (l.flatMap U1)]) (fun(k:Nat)=>0) (fun w' hw=>⟨1,⟨O,O,O,O,O,O,trivial⟩,O,hw⟩) (fun k g hΦ=> ?_)
  refine zX (zB (zD O (zD O (kI (c:=((n:Nat):Int)) O O (zq V) O (zI O (zA (zN (zB (zD O (xp O O O (zA (zY O (fun c1=> ?_) (fun c1=> ?_)))))))))))))
  ·refine zB (zD O (zD O (zD O (a_call O O (fun w' hw=>(zJZ v l 0 n w' V V ‹_› (hw.give [0] O qM)).mono ?_)))))
   rintro _ w1 ⟨l'1_,rfl,hf4_3,hf4_3_1,hO⟩
   refine O1 ?_ (hw.qg [0] O hO)
   refine zA ?_
   exact zV (yJ O (fun w' hw=>⟨l'1_,O,hf4_3,hf4_3_1,hw⟩))
  exact absurd c1 V
theorem zOr{S:List Nat}(v:Value)(l:List Nat)(w:World)(hl:l.length≤12)(hin:Own w S [Res.vec 22 1 v l.length (l.flatMap U1)] w):Rets Tryz.prog 164 #[v] w fun u_ w'=>∃ (l':List Nat),u_= .tuple #[]∧l'.Perm l∧l'.Pairwise (fun x y=>ky x y)∧Own w S [Res.vec 22 1 v l'.length (l'.flatMap U1)] w':=by
  refine zW Tryz.func164 O Tryz.ntmps164 hin ?_
  refine zB (zD O (zo (pV 0 O) O O (zI O (zA (zS (zD O (zD O (zD O (xo qN O (xO V) O ?_ qN)))))))))
  refine a_call O O (fun w' hw=>(zKQ l.length w' V).mono ?_)
  rintro _ w1 ⟨rfl,hO⟩
  refine O1 ?_ (hw.qi hO)
  refine a_call O O (fun w' hw=>(zPo v l l.length (((z9 l.length):Nat):Int) w' qO qO qP (hw.give [0] O qM)).mono ?_)
  rintro _ w1 ⟨l'1_,rfl,hf1_5,hf1_5_1,hO⟩
  refine O1 ?_ (hw.qg [0] O hO)
  exact zd (yJ O (fun w' hw=>⟨l'1_,O,hf1_5.perm,zCN hf1_5 hf1_5_1,hw⟩))
theorem zIb(sb:Nat)(v:Value)(l:List Nat)(hl:zf l.length):zL6 Tryz.prog 165 [.pointer (some ⟨sb,0,none⟩)] (fun x:Nat=>Value.int .u64 (x:Nat)) (fun xs=>xs=l) l.length [Res.row sb 42 [v],Res.vec 22 1 v l.length (l.flatMap U1)]:=by
  intro ly J L0 w Y hJ hin
  refine xz (args:=[.func (.yield ly) #[] #[], .pointer (some ⟨sb,0,none⟩)]) Tryz.func165 O Tryz.ntmps165 O (show Own w (y2 ([Res.row sb 42 [v],Res.vec 22 1 v l.length (l.flatMap U1)]++L0)) (Res.row sb 42 [v]::Res.vec 22 1 v l.length (l.flatMap U1)::L0) w from hin) ?_
  refine zB (zL 0 (v:=v) O O O O (zo (pV 1 O) O O (zD O (zA (zX ?_)))))
  refine yw (fun(k:Nat) (Lr:List Res)=>[(0, .func (.yield ly) #[] #[]),(5,v),(6,Vj l.length),(7,Vj k)]) (fun(k:Nat) (Lr:List Res)=>k≤l.length∧J (l.take k) Lr) (fun(k:Nat) (Lr:List Res)=>(Res.row sb 42 [v]::Res.vec 22 1 v l.length (l.flatMap U1)::Lr)) (fun(k:Nat) (Lr:List Res)=>l.length - k) (fun w' hw=>⟨0,L0,⟨O,O,O,O,trivial⟩,⟨Nat.zero_le _,by simpa using hJ⟩,hw⟩) (fun k Lr g hΦ=> ?_)
  have hk:=hΦ.1
  have hJk:=hΦ.2
  refine zB (yG O O O (zA (zN (zY O (fun c1=> ?_) (fun c1=> ?_)))))
  ·refine zO (zN (zX (zB (zi (pV 1 O) 1 k O O O V O (yF (pV 1 O) 1 k 0 (fun _=>O) O O V O O (zI O (zA (zEo ?_))))))))
   refine kX O zT ?_
   refine kX O zT ?_
   refine zHh [Res.row sb 42 [v],Res.vec 22 1 v l.length (l.flatMap U1)] (zG l k) Y O O hJk (by rw[List.length_take];omega) O (fun Ly1_ hJLy1_=> ?_)
   refine kX O (zEL (b:=true) O) ?_
   refine zMR ?_
   refine xt O (zO (zS (zp O O (zq V) O (zD O ?_))))
   exact zd (fun w' hw=>⟨k+1,Ly1_,⟨O,O,O,O,trivial⟩,⟨by omega,by rw[zt V];exact hJLy1_⟩,hw,V⟩)
  exact kh O (yJ O (fun w' hw=>⟨l,Lr,O,(by have h:=hJk;rwa [List.take_of_length_le V]at h),hw⟩))
theorem zO8{S:List Nat}(v:Value)(l:List Nat)(w:World)(hin:Own w S [Res.vec 22 1 v l.length (l.flatMap U1)] w):Rets Tryz.prog 121 #[v] w fun u_ w'=>∃ (b:Nat),u_= .func (.func 165) #[] #[.pointer (some ⟨b,0,none⟩)]∧Own w S [Res.vec 22 1 v l.length (l.flatMap U1),Res.row b 42 [v]] w':=by
  refine zW Tryz.func121 O Tryz.ntmps121 hin ?_
  refine zB ?_
  refine zP (fun w' hw=>Own.qh (i:=0) O hw) (fun hc1_=> ?_)
  refine zGt O hc1_ O (fun b1=>zI O (zA (zB (zB9 (va:=[]) (vb:=[.pointer (some ⟨b1,0,none⟩)]) O O O (zI O (zA ?_))))))
  exact zV (z6 (v:= .func (.func 165) #[] #[.pointer (some ⟨b1,0,none⟩)]) O O (fun w' hw=>⟨b1,O,hw⟩))
theorem zKJ{Sx:List Nat→Prop}{N:Nat}{Ls:List Res}(sg:FuncId)(lb:List Value)(hcall:kE Tryz.prog sg=true)(hseq:zL6 Tryz.prog sg lb (fun x=>Vn x) Sx N Ls)(hN:N≤1000000000)(w:World)(hin:Own w (y2 Ls) Ls w):Rets Tryz.prog 196 #[.slice none 0 0, .func (.func sg) #[] lb.toArray] w fun u_ w'=>∃ (v:Value) (xs:List Nat),u_=v∧Sx xs∧Own w (y2 Ls) (Ls++[Res.vec 22 1 v xs.length (xs.flatMap U1)]) w':=by
  refine zD6 (args:=[.slice none 0 0, .func (.func sg) #[] lb.toArray]) Tryz.func196 O Tryz.ntmps196 O O O (show Own w (y2 Ls) Ls w from hin) ?_
  refine z3 O O (fun b=> ?_)
  refine zI O ?_
  refine zd (fun w1 hw=> ?_)
  refine(?_:CL _ _ _ _ _ _ (Own w (y2 Ls) (Ls++[Res.row b 42 [.slice none 0 0]]))) w1 hw
  refine zD O ?_
  refine zd (fun w2 hw=> ?_)
  have hw2:=zl hw 22 1
  rw[List.append_assoc]at hw2
  refine zIV (enc:=(fun x=>Vn x)) (p:=7) (q:=5) (Ju:=fun pre L=>∃ v,L=[Res.row b 42 [v],Res.vec 22 1 v pre.length (pre.flatMap U1)]) O hcall hseq ⟨.slice none 0 0,O⟩ hw2 O O O ?_ ?_ ?_
  · intro x w
    exact(zI O (zd (fun w' hw'=>⟨O,hw'⟩)):CL _ _ _ _ _ _ (fun w'=>w'=w)) w O
  · rintro pre x L w ⟨v,rfl⟩ hlen
    refine zL 0 (v:=v) O O O O ?_
    refine zD O ?_
    refine zy (e:=22) (sz:=1) (vs:=[Vn x]) qN O O qR qM O (fun b10=> ?_)
    refine z7 (g:=U1) (sz:=1) (by':=8) (fun _=>O) (l:=pre) (l':=[x]) qZ 1 qN O O O (fun w' hw'=>Vec.sl (Own.holds hw' 2 _ O)) qO qM O (fun v11=> ?_)
    refine zP (fun w' hw=>Own.qh (i:=1) O hw) (fun hc1_=> ?_)
    refine zn (cs:=[v]) 0 O O O hc1_ O ?_
    exact zd (fun w' hw=>⟨_,⟨_,O⟩,hw.sel [0,1] O qM⟩)
  rintro xs L' D w' hS ⟨v,rfl⟩ hO a ha
  have hO2:=hO.perm (List.Perm.cons _ (List.perm_append_comm))
  refine zMK (v:=v) O ?_ hO2 (fun w'' hO3=>⟨v,xs,O,hS,?_⟩) a ha
  · exact kX rfl (zLv 1 (v:=v) rfl rfl rfl qN) (kX rfl yO (zN5 (fun w' hw=>⟨rfl,hw⟩)))
  exact(Own.tail hO3).perm (List.perm_append_comm (l₁:=[_]))
theorem zHW{S:List Nat}(b:Nat)(v:Value)(l:List Nat)(w:World)(hl:l.length≤1000000000)(hin:Own w S [Res.row b 42 [v],Res.vec 22 1 v l.length (l.flatMap U1)] w):Rets Tryz.prog 163 #[.func (.func 165) #[] #[.pointer (some ⟨b,0,none⟩)]] w fun u_ w'=>∃ (v':Value) (l':List Nat),u_=v'∧l'=l∧Own w S [Res.row b 42 [v],Res.vec 22 1 v l.length (l.flatMap U1),Res.vec 22 1 v' l'.length (l'.flatMap U1)] w':=by
  refine zW Tryz.func163 O Tryz.ntmps163 hin ?_
  refine zB (zI O (zA (zB (zD O (a_call O O (fun w' hw=>(zKJ 165 [.pointer (some ⟨b,0,none⟩)] qN (zIb b v l (by first|assumption|omega)) V w' (hw.give [0,1] O qM)).mono ?_))))))
  rintro v1_ w1 ⟨_,xs2_,rfl,hf1_1,hO⟩
  refine O3 ?_ (hw.qg [0,1] O hO)
  refine zI O (zA ?_)
  exact zV (z6 (v:=v1_) O O (fun w' hw=>⟨v1_,xs2_,O,hf1_1,hw⟩))
theorem zJG{S:List Nat}(b:Nat)(v:Value)(l:List Nat)(w:World)(hl:l.length≤12)(hin:Own w S [Res.row b 42 [v],Res.vec 22 1 v l.length (l.flatMap U1)] w):Rets Tryz.prog 120 #[.func (.func 165) #[] #[.pointer (some ⟨b,0,none⟩)]] w fun u_ w'=>∃ (v':Value) (l':List Nat),u_=v'∧l'.Perm l∧l'.Pairwise (fun x y=>ky x y)∧Own w S [Res.row b 42 [v],Res.vec 22 1 v l.length (l.flatMap U1),Res.vec 22 1 v' l'.length (l'.flatMap U1)] w':=by
  refine zW Tryz.func120 O Tryz.ntmps120 hin ?_
  refine zB (zI O (zA (zB (zD O (a_call O O (fun w' hw=>(zHW b v l w' V (hw.give [0,1] O qM)).mono ?_))))))
  rintro v'1_ w1 ⟨_,l'2_,rfl,hf1_1,hO⟩
  have hl1:l'2_.length=l.length:=by rw[hf1_1]
  refine O3 ?_ (hw.qg [0,1] O hO)
  refine zI O (zA (zB (zD O (a_call O O (fun w' hw=>(zOr v'1_ l'2_ w' V (hw.give [2] O qM)).mono ?_)))))
  rintro _ w1 ⟨l'3_,rfl,hf2_1,hf2_1_1,hO⟩
  refine O3 ?_ (hw.qg [2] O hO)
  refine zA (zB (zD O (zI O (zA ?_))))
  exact zV (z6 (v:=v'1_) O O (fun w' hw=>⟨v'1_,l'3_,O,(by rw[←hf1_1];exact hf2_1),hf2_1_1,hw⟩))
theorem zL7(x:Int)(w:World):Rets Tryz.prog 144 #[Vi x] w fun u_ w'=>u_= .bool false∧Own w [] [] w':=by
  refine zW Tryz.func144 O Tryz.ntmps144 (Own.start w) ?_
  refine zB (zI O (zA (zB (zD O (zD O (xn O O O (zI O (zA ?_))))))))
  exact zV (z6 (v:= .bool (decide (x≠x))) O O (fun w' hw=>⟨qQ,hw.drop⟩))
theorem zPL(x y:Int)(w:World):Rets Tryz.prog 225 #[Vi x,Vi y] w fun u_ w'=>u_= .bool (decide (olt x y))∧Own w [] [] w':=by
  refine zW Tryz.func225 O Tryz.ntmps225 (Own.start w) ?_
  refine zB (zI O (zA (zB (zD O (a_call O O (fun w' hw=>(zL7 x w').mono ?_))))))
  rintro _ w1 ⟨rfl,hO⟩
  refine O0 ?_ (hw.qi hO)
  refine zD O (zAs O O O O (zAs O O O O (zAs O O O O (js O O (zD O (zR O O (zD O (zR O O (zD O (zR O O (yG O O O (js O O ?_))))))))))))
  refine zI O (zA ?_)
  exact zV (z6 (v:= .bool (decide (x<y))) O O (fun w' hw=>⟨O,hw.drop⟩))
theorem zIm{S:List Nat}(v:Value)(l:List Int)(a b:Nat)(w:World)(ha:a≤b)(hb:b≤l.length)(hl:zf l.length)(hin:Own w S [Res.vec 3 1 v l.length (l.flatMap I1)] w):Rets Tryz.prog 219 #[v,Vj a,Vj b] w fun u_ w'=>∃ (l':List Int),u_= .tuple #[]∧Same a b l l'∧Up a b l'∧Own w S [Res.vec 3 1 v l'.length (l'.flatMap I1)] w':=by
  refine zW Tryz.func219 O Tryz.ntmps219 hin ?_
  refine zB (zD O (zp O O (zq V) O (zI O (zA (zX ?_)))))
  refine yw (fun(i:Nat) (m:List Int)=>[(0,v),(1,Vj a),(2,Vj b),(6,Vj i)]) (fun(i:Nat) (m:List Int)=>(a+1≤i∧(i≤b∨i=a+1))∧Same a b l m∧Up a i m) (fun(i:Nat) (m:List Int)=>[Res.vec 3 1 v m.length (m.flatMap I1)]) (fun(i:Nat) (m:List Int)=>b+1 - i) (fun w' hw=>⟨a+1,l,⟨O,O,O,O,trivial⟩,⟨⟨by omega, .inr O⟩,Same.refl _ _ _,Up.one V⟩,hw⟩) (fun i m g hΦ=> ?_)
  have hml:=hΦ.2.1.len
  have hi1:=hΦ.1
  have hU:=hΦ.2.2
  have hS1:=hΦ.2.1
  refine zN (zB (zD O (zD O (yG O O O (zA (zY O (fun c1=> ?_) (fun c1=> ?_)))))))
  ·refine zO (zN (zX (zB (zD O (zI O (zA (zX ?_)))))))
   refine yw (fun(j:Nat) (q:List Int)=>[(0,v),(1,Vj a),(2,Vj b),(6,Vj i),(7,Vj j)]) (fun(j:Nat) (q:List Int)=>(a≤j∧j≤i)∧Same a b l q∧Ins a i j q) (fun(j:Nat) (q:List Int)=>[Res.vec 3 1 v q.length (q.flatMap I1)]) (fun(j:Nat) (q:List Int)=>j) (fun w' hw=>⟨i,m,⟨O,O,O,O,O,trivial⟩,⟨⟨by omega,by omega⟩,hS1,Ins.start hU⟩,hw⟩) (fun j q g hΦ=> ?_)
   have hql:=hΦ.2.1.len
   have hj1:=hΦ.1
   have hS2:=hΦ.2.1
   have hI2:=hΦ.2.2
   refine zN (zN (zg [0] O qM qN (fun w' hw hS=>zC 0 O zT hS (zC 1 O zT hS (zC 2 O (zCU O O) hS (zC 3 O zT hS ?_))))))
   by_cases g4_3:((a:Nat):Int)<((j:Nat):Int)
   ·refine zk 4 O O (gT g4_3) zT hS (zk 5 O O (gT g4_3) zT hS (zk 6 O O (gT g4_3) (y8 (pV 0 O) 1 j O O O V) hS (zk 7 O O (gT g4_3) (x9 (pV 0 O) 1 j 0 (fun _=>O) O O V O) hS (zk 8 O O (gT g4_3) zT hS (zk 9 O O (gT g4_3) zT hS (zk 10 O O (gT g4_3) (xy (c:=((j - 1:Nat):Int)) O O (zCG V V)) hS (zk 11 O O (gT g4_3) (y8 (pV 0 O) 1 (j - 1) O O O V) hS (zk 12 O O (gT g4_3) (x9 (pV 0 O) 1 (j - 1) 0 (fun _=>O) O O V O) hS (zK 13 O hw (zR O (gT g4_3) (a_call O O (fun w' hw=>(zPL (zG q j) (zG q (j - 1)) w').mono ?_))))))))))))
    rintro _ w1 ⟨rfl,hO⟩
    refine O1 ?_ (hw.qi hO)
    refine zE [0] O qM (fun w' hw hS=>zC 14 O (yl (gT g4_3)) hS (zU ?_))
    refine Oc1 ?_ hw
    refine zY O (fun c2=> ?_) (fun c2=> ?_)
    ·refine zO (yt (fun(n:List Int)=>[(0,v),(1,Vj a),(2,Vj b),(6,Vj i),(7,Vj j)]) (fun(n:List Int)=>n=swp q j (j - 1)) (fun(n:List Int)=>[Res.vec 3 1 v n.length (n.flatMap I1)]) ?_ (fun n g hΦ=> ?_))
     ·refine zX (zg [] O qM qN (fun w' hw hS=>zC 0 O zT hS (zC 1 O zT hS (zC 2 O zT hS (zC 3 O zT hS (zC 4 O (xy (c:=((j - 1:Nat):Int)) O O (zCG V V)) hS (zC 5 O zT hS (zC 6 O zT hS (zC 7 O (xy (c:=((j - 1:Nat):Int)) O O (zCG V V)) hS (zC 10 O zT hS (zC 11 O zT hS (zu 8 12 ?_ ?_))))))))))))
      ·refine zm 8 O hw (zi (pV 0 O) 1 (j - 1) O O O V O (zE [] O qM (fun w' hw hS=>zu 9 12 ?_ ?_)))
       ·refine zm 9 O hw (yF (pV 0 O) 1 (j - 1) 0 (fun _=>O) O O V O O (yj 12 O (zi (pV 0 O) 1 j O O O V O (yj 13 O (yF (pV 0 O) 1 j 0 (fun _=>O) O O V O O (yj 14 O (zi (pV 0 O) 1 j O O O V O (yj 15 O ?_))))))))
        refine yp 0 j (zG q (j - 1)) O (fun _=>O) O V O O O V (yj 16 O (zi (pV 0 O) 1 (j - 1) O O O qU O (yj 17 O (yp 0 (j - 1) (zG q j) O (fun _=>O) O V O O O qU (zE [] O qM (fun w' hw hS=>zU ?_))))))
        exact⟨swp q j (j - 1),⟨O,O,O,O,O,trivial⟩,O,hw⟩
       refine zm 12 O hw (zi (pV 0 O) 1 j O O O V O (zE [] O qM (fun w' hw hS=>zu 9 13 ?_ ?_)))
       ·refine zm 9 O hw (yF (pV 0 O) 1 (j - 1) 0 (fun _=>O) O O V O O (yj 13 O (yF (pV 0 O) 1 j 0 (fun _=>O) O O V O O (yj 14 O (zi (pV 0 O) 1 j O O O V O (yj 15 O (yp 0 j (zG q (j - 1)) O (fun _=>O) O V O O O V (yj 16 O ?_))))))))
        refine zi (pV 0 O) 1 (j - 1) O O O qU O (yj 17 O (yp 0 (j - 1) (zG q j) O (fun _=>O) O V O O O qU (zE [] O qM (fun w' hw hS=>zU ?_))))
        exact⟨swp q j (j - 1),⟨O,O,O,O,O,trivial⟩,O,hw⟩
       refine zm 13 O hw (yF (pV 0 O) 1 j 0 (fun _=>O) O O V O O (yj 9 O (yF (pV 0 O) 1 (j - 1) 0 (fun _=>O) O O V O O (yj 14 O (zi (pV 0 O) 1 j O O O V O (yj 15 O (yp 0 j (zG q (j - 1)) O (fun _=>O) O V O O O V (yj 16 O ?_))))))))
       refine zi (pV 0 O) 1 (j - 1) O O O qU O (yj 17 O (yp 0 (j - 1) (zG q j) O (fun _=>O) O V O O O qU (zE [] O qM (fun w' hw hS=>zU ?_))))
       exact⟨swp q j (j - 1),⟨O,O,O,O,O,trivial⟩,O,hw⟩
      refine zm 12 O hw (zi (pV 0 O) 1 j O O O V O (zE [] O qM (fun w' hw hS=>zu 8 13 ?_ ?_)))
      ·refine zm 8 O hw (zi (pV 0 O) 1 (j - 1) O O O V O (zE [] O qM (fun w' hw hS=>zu 9 13 ?_ ?_)))
       ·refine zm 9 O hw (yF (pV 0 O) 1 (j - 1) 0 (fun _=>O) O O V O O (yj 13 O (yF (pV 0 O) 1 j 0 (fun _=>O) O O V O O (yj 14 O (zi (pV 0 O) 1 j O O O V O (yj 15 O (yp 0 j (zG q (j - 1)) O (fun _=>O) O V O O O V (yj 16 O ?_))))))))
        refine zi (pV 0 O) 1 (j - 1) O O O qU O (yj 17 O (yp 0 (j - 1) (zG q j) O (fun _=>O) O V O O O qU (zE [] O qM (fun w' hw hS=>zU ?_))))
        exact⟨swp q j (j - 1),⟨O,O,O,O,O,trivial⟩,O,hw⟩
       refine zm 13 O hw (yF (pV 0 O) 1 j 0 (fun _=>O) O O V O O (yj 9 O (yF (pV 0 O) 1 (j - 1) 0 (fun _=>O) O O V O O (yj 14 O (zi (pV 0 O) 1 j O O O V O (yj 15 O (yp 0 j (zG q (j - 1)) O (fun _=>O) O V O O O V (yj 16 O ?_))))))))
       refine zi (pV 0 O) 1 (j - 1) O O O qU O (yj 17 O (yp 0 (j - 1) (zG q j) O (fun _=>O) O V O O O qU (zE [] O qM (fun w' hw hS=>zU ?_))))
       exact⟨swp q j (j - 1),⟨O,O,O,O,O,trivial⟩,O,hw⟩
      refine zm 13 O hw (yF (pV 0 O) 1 j 0 (fun _=>O) O O V O O (yj 8 O (zi (pV 0 O) 1 (j - 1) O O O V O (yj 9 O (yF (pV 0 O) 1 (j - 1) 0 (fun _=>O) O O V O O (yj 14 O (zi (pV 0 O) 1 j O O O V O (yj 15 O ?_))))))))
      refine yp 0 j (zG q (j - 1)) O (fun _=>O) O V O O O V (yj 16 O (zi (pV 0 O) 1 (j - 1) O O O qU O (yj 17 O (yp 0 (j - 1) (zG q j) O (fun _=>O) O V O O O qU (zE [] O qM (fun w' hw hS=>zU ?_))))))
      exact⟨swp q j (j - 1),⟨O,O,O,O,O,trivial⟩,O,hw⟩
     have hn:=hΦ
     refine zS (zD O (kI (c:=((j - 1:Nat):Int)) O O (zCG V V) O (zI O ?_)))
     exact zd (fun w' hw=>⟨j - 1,n,⟨O,O,O,O,O,trivial⟩,⟨⟨by omega,by omega⟩,by rw[hn];exact hS2.then_swp ⟨by omega,by omega⟩ ⟨by omega,by omega⟩ hb,by rw[hn];exact hI2.step V V V c2⟩,hw,V⟩)
    refine yA O (zS (zD O (zp O O (zq V) O (zI O ?_))))
    exact zd (fun w' hw=>⟨i+1,q,⟨O,O,O,O,trivial⟩,⟨⟨by omega, .inl V⟩,hS2,hI2.done (fun _=>c2)⟩,hw,V⟩)
   refine zb 4 O O (gF g4_3) O hS (zb 5 O O (gF g4_3) O hS (zb 6 O O (gF g4_3) O hS (zb 7 O O (gF g4_3) O hS (zb 8 O O (gF g4_3) O hS (zb 9 O O (gF g4_3) O hS (zb 10 O O (gF g4_3) O hS (zb 11 O O (gF g4_3) O hS (zb 12 O O (gF g4_3) O hS (zb 13 O O (gF g4_3) O hS (zC 14 O (yS (gF g4_3)) hS (zU ?_)))))))))))
   refine Oc1 ?_ hw
   refine xt O (yA O (zS (zD O (zp O O (zq V) O (zI O ?_)))))
   exact zd (fun w' hw=>⟨i+1,q,⟨O,O,O,O,trivial⟩,⟨⟨by omega, .inl V⟩,hS2,hI2.done (fun h=>absurd h V)⟩,hw,V⟩)
  exact kh O (yJ O (fun w' hw=>⟨m,O,hS1,(fun k h1 h2=>hU k h1 V),hw⟩))
theorem zPp{S:List Nat}(v:Value)(l:List Int)(n:Nat)(lim:Int)(w:World)(hn:n≤12)(hln:n≤l.length)(hl:zf l.length)(hin:Own w S [Res.vec 3 1 v l.length (l.flatMap I1)] w):Rets Tryz.prog 208 #[v,Vj 0,Vj n,Vi lim] w fun u_ w'=>∃ (l':List Int),u_= .tuple #[]∧Same 0 n l l'∧Up 0 n l'∧Own w S [Res.vec 3 1 v l'.length (l'.flatMap I1)] w':=by
  refine zW Tryz.func208 O Tryz.ntmps208 hin ?_
  refine zB (zI O (zA (zB (zI O (zA (zX ?_))))))
  refine xN (fun(k:Nat)=>[(0,v),(1,Vj 0),(2,Vj n),(3,Vi lim),(8, .bool true),(9, .bool true)]) (fun(k:Nat)=>k=1) (fun(k:Nat)=>[Res.vec 3 1 v l.length (l.flatMap I1)]) (fun(k:Nat)=>0) (fun w' hw=>⟨1,⟨O,O,O,O,O,O,trivial⟩,O,hw⟩) (fun k g hΦ=> ?_)
  refine zX (zB (zD O (zD O (kI (c:=((n:Nat):Int)) O O (zq V) O (zI O (zA (zN (zB (zD O (xp O O O (zA (zY O (fun c1=> ?_) (fun c1=> ?_)))))))))))))
  ·refine zB (zD O (zD O (zD O (a_call O O (fun w' hw=>(zIm v l 0 n w' V V ‹_› (hw.give [0] O qM)).mono ?_)))))
   rintro _ w1 ⟨l'1_,rfl,hf4_3,hf4_3_1,hO⟩
   refine O1 ?_ (hw.qg [0] O hO)
   refine zA ?_
   exact zV (yJ O (fun w' hw=>⟨l'1_,O,hf4_3,hf4_3_1,hw⟩))
  exact absurd c1 V
theorem zL2{S:List Nat}(v:Value)(l:List Int)(w:World)(hl:l.length≤12)(hin:Own w S [Res.vec 3 1 v l.length (l.flatMap I1)] w):Rets Tryz.prog 193 #[v] w fun u_ w'=>∃ (l':List Int),u_= .tuple #[]∧l'.Perm l∧l'.Pairwise (fun x y=>ky x y)∧Own w S [Res.vec 3 1 v l'.length (l'.flatMap I1)] w':=by
  refine zW Tryz.func193 O Tryz.ntmps193 hin ?_
  refine zB (zD O (zo (pV 0 O) O O (zI O (zA (zS (zD O (zD O (zD O (xo qN O (xO V) O ?_ qN)))))))))
  refine a_call O O (fun w' hw=>(zKQ l.length w' V).mono ?_)
  rintro _ w1 ⟨rfl,hO⟩
  refine O1 ?_ (hw.qi hO)
  refine a_call O O (fun w' hw=>(zPp v l l.length (((z9 l.length):Nat):Int) w' qO qO qP (hw.give [0] O qM)).mono ?_)
  rintro _ w1 ⟨l'1_,rfl,hf1_5,hf1_5_1,hO⟩
  refine O1 ?_ (hw.qg [0] O hO)
  exact zd (yJ O (fun w' hw=>⟨l'1_,O,hf1_5.perm,zCN hf1_5 hf1_5_1,hw⟩))
theorem zIu(sb:Nat)(v:Value)(l:List Int)(hl:zf l.length):zL6 Tryz.prog 194 [.pointer (some ⟨sb,0,none⟩)] (fun x:Int=>Value.int .i64 x) (fun xs=>xs=l) l.length [Res.row sb 33 [v],Res.vec 3 1 v l.length (l.flatMap I1)]:=by
  intro ly J L0 w Y hJ hin
  refine xz (args:=[.func (.yield ly) #[] #[], .pointer (some ⟨sb,0,none⟩)]) Tryz.func194 O Tryz.ntmps194 O (show Own w (y2 ([Res.row sb 33 [v],Res.vec 3 1 v l.length (l.flatMap I1)]++L0)) (Res.row sb 33 [v]::Res.vec 3 1 v l.length (l.flatMap I1)::L0) w from hin) ?_
  refine zB (zL 0 (v:=v) O O O O (zo (pV 1 O) O O (zD O (zA (zX ?_)))))
  refine yw (fun(k:Nat) (Lr:List Res)=>[(0, .func (.yield ly) #[] #[]),(5,v),(6,Vj l.length),(7,Vj k)]) (fun(k:Nat) (Lr:List Res)=>k≤l.length∧J (l.take k) Lr) (fun(k:Nat) (Lr:List Res)=>(Res.row sb 33 [v]::Res.vec 3 1 v l.length (l.flatMap I1)::Lr)) (fun(k:Nat) (Lr:List Res)=>l.length - k) (fun w' hw=>⟨0,L0,⟨O,O,O,O,trivial⟩,⟨Nat.zero_le _,by simpa using hJ⟩,hw⟩) (fun k Lr g hΦ=> ?_)
  have hk:=hΦ.1
  have hJk:=hΦ.2
  refine zB (yG O O O (zA (zN (zY O (fun c1=> ?_) (fun c1=> ?_)))))
  ·refine zO (zN (zX (zB (zi (pV 1 O) 1 k O O O V O (yF (pV 1 O) 1 k 0 (fun _=>O) O O V O O (zI O (zA (zEo ?_))))))))
   refine kX O zT ?_
   refine kX O zT ?_
   refine zHh [Res.row sb 33 [v],Res.vec 3 1 v l.length (l.flatMap I1)] (zG l k) Y O O hJk (by rw[List.length_take];omega) O (fun Ly1_ hJLy1_=> ?_)
   refine kX O (zEL (b:=true) O) ?_
   refine zMR ?_
   refine xt O (zO (zS (zp O O (zq V) O (zD O ?_))))
   exact zd (fun w' hw=>⟨k+1,Ly1_,⟨O,O,O,O,trivial⟩,⟨by omega,by rw[zt V];exact hJLy1_⟩,hw,V⟩)
  exact kh O (yJ O (fun w' hw=>⟨l,Lr,O,(by have h:=hJk;rwa [List.take_of_length_le V]at h),hw⟩))
theorem zOd{S:List Nat}(v:Value)(l:List Int)(w:World)(hin:Own w S [Res.vec 3 1 v l.length (l.flatMap I1)] w):Rets Tryz.prog 161 #[v] w fun u_ w'=>∃ (b:Nat),u_= .func (.func 194) #[] #[.pointer (some ⟨b,0,none⟩)]∧Own w S [Res.vec 3 1 v l.length (l.flatMap I1),Res.row b 33 [v]] w':=by
  refine zW Tryz.func161 O Tryz.ntmps161 hin ?_
  refine zB ?_
  refine zP (fun w' hw=>Own.qh (i:=0) O hw) (fun hc1_=> ?_)
  refine zGt O hc1_ O (fun b1=>zI O (zA (zB (zB9 (va:=[]) (vb:=[.pointer (some ⟨b1,0,none⟩)]) O O O (zI O (zA ?_))))))
  exact zV (z6 (v:= .func (.func 194) #[] #[.pointer (some ⟨b1,0,none⟩)]) O O (fun w' hw=>⟨b1,O,hw⟩))
theorem zJ9{Sx:List Int→Prop}{N:Nat}{Ls:List Res}(sg:FuncId)(lb:List Value)(hcall:kE Tryz.prog sg=true)(hseq:zL6 Tryz.prog sg lb (fun x=>Vi x) Sx N Ls)(hN:N≤1000000000)(w:World)(hin:Own w (y2 Ls) Ls w):Rets Tryz.prog 207 #[.slice none 0 0, .func (.func sg) #[] lb.toArray] w fun u_ w'=>∃ (v:Value) (xs:List Int),u_=v∧Sx xs∧Own w (y2 Ls) (Ls++[Res.vec 3 1 v xs.length (xs.flatMap I1)]) w':=by
  refine zD6 (args:=[.slice none 0 0, .func (.func sg) #[] lb.toArray]) Tryz.func207 O Tryz.ntmps207 O O O (show Own w (y2 Ls) Ls w from hin) ?_
  refine z3 O O (fun b=> ?_)
  refine zI O ?_
  refine zd (fun w1 hw=> ?_)
  refine(?_:CL _ _ _ _ _ _ (Own w (y2 Ls) (Ls++[Res.row b 33 [.slice none 0 0]]))) w1 hw
  refine zD O ?_
  refine zd (fun w2 hw=> ?_)
  have hw2:=zl hw 3 1
  rw[List.append_assoc]at hw2
  refine zIV (enc:=(fun x=>Vi x)) (p:=7) (q:=5) (Ju:=fun pre L=>∃ v,L=[Res.row b 33 [v],Res.vec 3 1 v pre.length (pre.flatMap I1)]) O hcall hseq ⟨.slice none 0 0,O⟩ hw2 O O O ?_ ?_ ?_
  · intro x w
    exact(zI O (zd (fun w' hw'=>⟨O,hw'⟩)):CL _ _ _ _ _ _ (fun w'=>w'=w)) w O
  · rintro pre x L w ⟨v,rfl⟩ hlen
    refine zL 0 (v:=v) O O O O ?_
    refine zD O ?_
    refine zy (e:=3) (sz:=1) (vs:=[Vi x]) qN O O qR qM O (fun b10=> ?_)
    refine z7 (g:=I1) (sz:=1) (by':=8) (fun _=>O) (l:=pre) (l':=[x]) qV 1 qN O O O (fun w' hw'=>Vec.sl (Own.holds hw' 2 _ O)) qO qM O (fun v11=> ?_)
    refine zP (fun w' hw=>Own.qh (i:=1) O hw) (fun hc1_=> ?_)
    refine zn (cs:=[v]) 0 O O O hc1_ O ?_
    exact zd (fun w' hw=>⟨_,⟨_,O⟩,hw.sel [0,1] O qM⟩)
  rintro xs L' D w' hS ⟨v,rfl⟩ hO a ha
  have hO2:=hO.perm (List.Perm.cons _ (List.perm_append_comm))
  refine zMK (v:=v) O ?_ hO2 (fun w'' hO3=>⟨v,xs,O,hS,?_⟩) a ha
  · exact kX rfl (zLv 1 (v:=v) rfl rfl rfl qN) (kX rfl yO (zN5 (fun w' hw=>⟨rfl,hw⟩)))
  exact(Own.tail hO3).perm (List.perm_append_comm (l₁:=[_]))
theorem zHG{S:List Nat}(b:Nat)(v:Value)(l:List Int)(w:World)(hl:l.length≤1000000000)(hin:Own w S [Res.row b 33 [v],Res.vec 3 1 v l.length (l.flatMap I1)] w):Rets Tryz.prog 192 #[.func (.func 194) #[] #[.pointer (some ⟨b,0,none⟩)]] w fun u_ w'=>∃ (v':Value) (l':List Int),u_=v'∧l'=l∧Own w S [Res.row b 33 [v],Res.vec 3 1 v l.length (l.flatMap I1),Res.vec 3 1 v' l'.length (l'.flatMap I1)] w':=by
  refine zW Tryz.func192 O Tryz.ntmps192 hin ?_
  refine zB (zI O (zA (zB (zD O (a_call O O (fun w' hw=>(zJ9 194 [.pointer (some ⟨b,0,none⟩)] qN (zIu b v l (by first|assumption|omega)) V w' (hw.give [0,1] O qM)).mono ?_))))))
  rintro v1_ w1 ⟨_,xs2_,rfl,hf1_1,hO⟩
  refine O3 ?_ (hw.qg [0,1] O hO)
  refine zI O (zA ?_)
  exact zV (z6 (v:=v1_) O O (fun w' hw=>⟨v1_,xs2_,O,hf1_1,hw⟩))
theorem zJ1{S:List Nat}(b:Nat)(v:Value)(l:List Int)(w:World)(hl:l.length≤12)(hin:Own w S [Res.row b 33 [v],Res.vec 3 1 v l.length (l.flatMap I1)] w):Rets Tryz.prog 160 #[.func (.func 194) #[] #[.pointer (some ⟨b,0,none⟩)]] w fun u_ w'=>∃ (v':Value) (l':List Int),u_=v'∧l'.Perm l∧l'.Pairwise (fun x y=>ky x y)∧Own w S [Res.row b 33 [v],Res.vec 3 1 v l.length (l.flatMap I1),Res.vec 3 1 v' l'.length (l'.flatMap I1)] w':=by
  refine zW Tryz.func160 O Tryz.ntmps160 hin ?_
  refine zB (zI O (zA (zB (zD O (a_call O O (fun w' hw=>(zHG b v l w' V (hw.give [0,1] O qM)).mono ?_))))))
  rintro v'1_ w1 ⟨_,l'2_,rfl,hf1_1,hO⟩
  have hl1:l'2_.length=l.length:=by rw[hf1_1]
  refine O3 ?_ (hw.qg [0,1] O hO)
  refine zI O (zA (zB (zD O (a_call O O (fun w' hw=>(zL2 v'1_ l'2_ w' V (hw.give [2] O qM)).mono ?_)))))
  rintro _ w1 ⟨l'3_,rfl,hf2_1,hf2_1_1,hO⟩
  refine O3 ?_ (hw.qg [2] O hO)
  refine zA (zB (zD O (zI O (zA ?_))))
  exact zV (z6 (v:=v'1_) O O (fun w' hw=>⟨v'1_,l'3_,O,(by rw[←hf1_1];exact hf2_1),hf2_1_1,hw⟩))
def cge(l:List Nat)(x:Nat):Nat:=(l.filter fun y=>decide (x≤y)).length
def cgt(l:List Nat)(x:Nat):Nat:=(l.filter fun y=>decide (x<y)).length
def zD3(l:List Nat)(x:Nat):Prop:=l.length<2*cge l x
instance (l:List Nat)(x:Nat):Decidable (zD3 l x):=inferInstanceAs (Decidable (_<_))
theorem zK7{l m:List Nat}(h:l.Perm m)(x:Nat):cge l x=cge m x:=(h.filter _).length_eq
theorem zKx{l m:List Nat}(h:l.Perm m)(x:Nat):cgt l x=cgt m x:=(h.filter _).length_eq
theorem zHy{s:List Nat}(h:s.Pairwise fun x y=>ky x y){i j:Nat}(hij:i≤j)(hj:j<s.length):zG s i≤zG s j:=by
  by_cases e:i=j
  · rw[e];exact Nat.le_refl _
  have:=List.pairwise_iff_getElem.1 h i j V hj V
  have e1:=nth_eq (List.getElem?_eq_getElem (show i<s.length by omega))
  have e2:=nth_eq (List.getElem?_eq_getElem hj)
  rw[e1,e2]
  exact ole_nat.1 this
theorem zPA{s:List Nat}(h:s.Pairwise fun x y=>ky x y){q:Nat}(hq:q<s.length):s.length≤q+cge s (zG s q):=by
  have hd:∀ y∈s.drop q,decide (zG s q≤y)=true:=by
    intro y hy
    obtain⟨k,hk⟩:=List.mem_iff_getElem?.1 hy
    rw[List.getElem?_drop]at hk
    have hlt:=(List.getElem?_eq_some_iff.1 hk).1
    rw[←nth_eq hk]
    exact decide_eq_true (zHy h V hlt)
  have e:cge s (zG s q)=cge (s.take q) (zG s q)+cge (s.drop q) (zG s q):=by
    unfold cge
    rw[←List.length_append,←List.filter_append,List.take_append_drop]
  have e2:cge (s.drop q) (zG s q)=s.length - q:=by
    unfold cge
    rw[List.filter_eq_self.2 hd,List.length_drop]
  omega
theorem zOi{s:List Nat}(h:s.Pairwise fun x y=>ky x y){q:Nat}(hq:q<s.length):cgt s (zG s q)+(q+1)≤s.length:=by
  have ht:∀ y∈s.take (q+1),¬(decide (zG s q<y)=true):=by
    intro y hy
    obtain⟨k,hk⟩:=List.mem_iff_getElem?.1 hy
    have hlt:=(List.getElem?_eq_some_iff.1 hk).1
    rw[List.length_take]at hlt
    rw[List.getElem?_take,if_pos V]at hk
    rw[←nth_eq hk]
    have:=zHy h (show k≤q by omega) hq
    simp;omega
  have e:cgt s (zG s q)=cgt (s.take (q+1)) (zG s q)+cgt (s.drop (q+1)) (zG s q):=by
    unfold cgt
    rw[←List.length_append,←List.filter_append,List.take_append_drop]
  have e2:cgt (s.take (q+1)) (zG s q)=0:=by
    unfold cgt
    rw[List.filter_eq_nil_iff.2 ht];rfl
  have e3:cgt (s.drop (q+1)) (zG s q)≤s.length - (q+1):=by
    unfold cgt
    refine Nat.le_trans (List.length_filter_le _ _) ?_
    rw[List.length_drop];exact Nat.le_refl _
  omega
theorem zJx{l s:List Nat}(hp:s.Perm l)(h:s.Pairwise fun x y=>ky x y)(h0:0<l.length):zD3 l (zG s ((l.length - 1) / 2))∧2*cgt l (zG s ((l.length - 1) / 2))≤l.length∧zG s ((l.length - 1) / 2)∈l:=by
  have hl:=hp.length_eq
  have h1:=zPA h (q:=(l.length - 1) / 2) V
  have h2:=zOi h (q:=(l.length - 1) / 2) V
  rw[zK7 hp]at h1
  rw[zKx hp]at h2
  refine⟨?_,?_,hp.mem_iff.1 (ze V)⟩
  · unfold zD3;omega
  omega
theorem zNl{l:List Nat}{m b:Nat}(h:m<b):cge l b≤cgt l m:=by
  unfold cge cgt
  refine(List.Sublist.length_le ?_)
  have:l.filter (fun y=>decide (b≤y))=(l.filter fun y=>decide (m<y)).filter fun y=>decide (b≤y):=by
    rw[List.filter_filter]
    congr 1
    funext y
    by_cases q:b≤y
    · simp[q];omega
    simp[q]
  rw[this]
  exact List.filter_sublist
def jg(c:ConfD)(l:List Nat)(n:Nat)(e:Int):Prop:=
  (¬ c.ok→n=0∧e=2)∧(c.ok→l.length≠c.vs.length→n=0∧e=1)∧(c.ok→l.length=c.vs.length→e=0∧zD3 l n∧2*cgt l n≤l.length∧n∈l)
theorem zFQ{c:ConfD}{l:List Nat}(h:yB c.ok≠0):jg c l 0 (yB c.ok):=
  have hn:¬ c.ok:=fun q=>h (errOf_zero.2 q)
  ⟨fun _=>⟨rfl,ju hn⟩,fun q=>absurd q hn,fun q=>absurd q hn⟩
theorem zFd{c:ConfD}{l:List Nat}(h:¬ yB c.ok≠0)(h2:((l.length:Nat):Int)≠((c.vs.length:Nat):Int)):jg c l 0 1:=
  have hn:c.ok:=errOf_zero.1 (Decidable.not_not.1 h)
  ⟨fun q=>absurd hn q,fun _ _=>⟨rfl,rfl⟩,fun _ q=>absurd q V⟩
theorem zCK{c:ConfD}{l:List Nat}(h:¬ yB c.ok≠0)(h2:¬((l.length:Nat):Int)≠((c.vs.length:Nat):Int)):0<l.length:=by
  have hn:c.ok:=errOf_zero.1 (Decidable.not_not.1 h)
  have:=hn.1.2
  omega
theorem zGk{c:ConfD}{l s:List Nat}(h:¬ yB c.ok≠0)(h2:¬((l.length:Nat):Int)≠((c.vs.length:Nat):Int))(hp:s.Perm l)(hs:s.Pairwise fun x y=>ky x y):jg c l (zG s ((s.length - 1) / 2)) 0:=by
  have hn:c.ok:=errOf_zero.1 (Decidable.not_not.1 h)
  have h0:=zCK h h2
  have:=zJx hp hs h0
  rw[hp.length_eq]
  exact⟨fun q=>absurd hn q,fun _ q=>absurd q V,fun _ _=>⟨O,this⟩⟩
theorem zEd{S:List Nat}(c:ConfD)(v:Value)(l:List Nat)(w:World)(hf:c.few)(hl:l.length≤12)(hin:Own w S [Res.vec 22 1 v l.length (l.flatMap U1)] w)(rd_c:ConfD.rd c w S):Rets Tryz.prog 76 #[.agg (ConfD.cells c).toArray,v] w fun u_ w'=>∃ (n:Nat) (e:Int),u_= .tuple #[Vn n,Vi e]∧jg c l n e∧Own w S [Res.vec 22 1 v l.length (l.flatMap U1)] w':=by
  refine zW Tryz.func76 O Tryz.ntmps76 hin ?_
  refine zB (z3 O O (fun b2=>zI O (zI O (zA (zN (zB (yI (cs:=(ConfD.cells c)) 1 O O O (a_call O O (fun w' hw=>(zBY c w' ‹_› (rd_c.at0 hw)).mono ?_)))))))))
  rintro _ w1 ⟨rfl,hO⟩
  refine O2 ?_ (hw.qi hO)
  refine zI O (zA (zB (zD O (xn O O O (zA (zY O (fun c1=> ?_) (fun c1=> ?_)))))))
  ·refine zB (zD O (zI O (zI O (zA ?_))))
   exact zV (x1 (v:=Vn 0) (v':=Vi (yB c.ok)) O O O (fun w' hw=>⟨0,yB c.ok,O,zFQ c1,hw.sel [0] O qM⟩))
  refine zO (zN (zB (zD O (zo (pV 0 O) O O (zJ (o:=0) O O (zL 1 (v:=c.vv) O O O O (zo (pR rd_c.vv) O O (xn O O O (zA (zY O (fun c2=> ?_) (fun c2=> ?_)))))))))))
  ·refine zB (zI O (zI O (zA ?_)))
   exact zV (x1 (v:=Vn 0) (v':=Vi 1) O O O (fun w' hw=>⟨0,1,O,zFd c1 c2,hw.sel [0] O qM⟩))
  refine zO (zB (zD O (a_call O O (fun w' hw=>(zO8 v l w' (hw.give [0] O qM)).mono ?_))))
  rintro _ w1 ⟨b1_,rfl,hO⟩
  refine O3 ?_ (hw.qg [0] O hO)
  refine a_call O O (fun w' hw=>(zJG b1_ v l w' V (hw.give [2,1] O qM)).mono ?_)
  rintro v'2_ w1 ⟨_,l'3_,rfl,hf6_2,hf6_2_1,hO⟩
  have hsl:=hf6_2.length_eq
  have h0:=zCK c1 c2
  refine O4 ?_ (hw.qg [2,1] O hO)
  refine zI O (zA (zB (zD O (zD O (zo (pV 3 O) O O (kI (c:=((l'3_.length - 1:Nat):Int)) O O (zCG V V) O (zOI (c:=(((l'3_.length - 1) / 2:Nat):Int)) O O qM (qui (b:=2) V) O (zi (pV 3 O) 1 ((l'3_.length - 1) / 2) O O O V O (yF (pV 3 O) 1 ((l'3_.length - 1) / 2) 0 (fun _=>O) O O V O O (zI O (zI O (zA ?_))))))))))))
  exact zV (x1 (v:=Vn (zG l'3_ ((l'3_.length - 1) / 2))) (v':=Vi 0) O O O (fun w' hw=>⟨(zG l'3_ ((l'3_.length - 1) / 2)),0,O,zGk c1 c2 hf6_2 hf6_2_1,hw.sel [2] O qM⟩))
def xT(l:List Nat):Nat:=(l.filter fun n=>decide (zD3 l n)).foldl max 0
theorem zJC{l:List Nat}{n:Nat}:∀ {a:Nat},a≤n→(∀ m∈l,m≤n)→(a=n∨n∈l)→l.foldl max a=n:=by
  induction l with
  |nil=>intro a _ _ h;simpa using h
  |cons b l ih=>
    intro a ha hl h
    have hb:=hl b qQ
    refine ih V (fun m hm=>hl m (List.mem_cons_of_mem _ hm)) ?_
    rcases h with h|h
    · left;omega
    rcases List.mem_cons.1 h with h|h
    · left;omega
    exact .inr h
theorem zJQ{l:List Nat}{n:Nat}(h:zD3 l n∧2*cgt l n≤l.length∧n∈l):xT l=n:=by
  refine zJC (Nat.zero_le _) (fun m hm=> ?_) (.inr (List.mem_filter.2 ⟨h.2.2,decide_eq_true h.1⟩))
  have h2:=of_decide_eq_true (List.mem_filter.1 hm).2
  by_cases q:m≤n
  · exact q
  have:=zNl (l:=l) (show n<m by omega)
  unfold zD3 at h2;omega
end Go.Proofs.YtkkeknmkipkbmaaGreat
