import Derived.Test.YtkkeknmkipkbmaaGreatFwG
import Derived.Test.YtkkeknmkipkbmaaGreatSrtB
import Derived.Test.YtkkeknmkipkbmaaGreatConfB
set_option linter.unusedSectionVars false
set_option linter.unusedSimpArgs false
set_option linter.unusedVariables false
set_option maxRecDepth 10000
namespace Go.Proofs.YtkkeknmkipkbmaaGreat
open Go Go.Sc Go.Proofs
instance:SO Int:=⟨fun a b=>a<b,fun a b=>inferInstance,fun h k=>by omega,fun h k=>by omega⟩
theorem ole_int{a b:Int}:jE a b↔a≤b:=Int.not_lt
theorem zQH(x:Nat)(w:World):Rets Tryz.prog 231 #[Vn x] w fun u_ w'=>u_= .bool false∧Own w [] [] w':=by
  refine zW Tryz.func231 O Tryz.ntmps231 (Own.start w) ?_
  refine zC (zI O (zA (zC (zD O (zD O (xn O O O (zI O (zA ?_))))))))
  exact zU (z9 (v:= .bool (decide (((x:Nat):Int)≠((x:Nat):Int)))) O O (fun w' hw=>⟨qQ,hw.drop⟩))
theorem zPN(x y:Nat)(w:World):Rets Tryz.prog 215 #[Vn x,Vn y] w fun u_ w'=>u_= .bool (decide (olt x y))∧Own w [] [] w':=by
  refine zW Tryz.func215 O Tryz.ntmps215 (Own.start w) ?_
  refine zC (zI O (zA (zC (zD O (a_call O O (fun w' hw=>(zQH x w').mono ?_))))))
  rintro _ w1 ⟨rfl,hO⟩
  refine O0 ?_ (hw.qi hO)
  refine zD O (zAz O O O O (zAz O O O O (zAz O O O O (j8 O O (zD O (zR O O (zD O (zR O O (zD O (zR O O (yI O O O (j8 O O ?_))))))))))))
  refine zI O (zA ?_)
  exact zU (z9 (v:= .bool (decide (((x:Nat):Int)<((y:Nat):Int)))) O O (fun w' hw=>⟨(by congr 1;exact decide_eq_decide.2 (Int.ofNat_lt)),hw.drop⟩))
theorem _root_.Go.Sc.qU{p:Prop}(h:p:=by simp only[List.length_set];omega):p:=h
theorem zJi{S:List Nat}(v:Value)(l:List Nat)(a b:Nat)(w:World)(ha:a≤b)(hb:b≤l.length)(hl:zi l.length)(hin:Own w S [Res.vec 22 1 v l.length (l.flatMap U1)] w):Rets Tryz.prog 209 #[v,Vj a,Vj b] w fun u_ w'=>∃ (l':List Nat),u_= .tuple #[]∧Same a b l l'∧Up a b l'∧Own w S [Res.vec 22 1 v l'.length (l'.flatMap U1)] w':=by
  refine zW Tryz.func209 O Tryz.ntmps209 hin ?_
  refine zC (zD O (zt O O (zr V) O (zI O (zA (zZ ?_)))))
  refine y7 (fun(i:Nat) (m:List Nat)=>[(0,v),(1,Vj a),(2,Vj b),(6,Vj i)]) (fun(i:Nat) (m:List Nat)=>(a+1≤i∧(i≤b∨i=a+1))∧Same a b l m∧Up a i m) (fun(i:Nat) (m:List Nat)=>[Res.vec 22 1 v m.length (m.flatMap U1)]) (fun(i:Nat) (m:List Nat)=>b+1 - i) (fun w' hw=>⟨a+1,l,⟨O,O,O,O,trivial⟩,⟨⟨by omega, .inr O⟩,Same.refl _ _ _,Up.one V⟩,hw⟩) (fun i m g hΦ=> ?_)
  have hml:=hΦ.2.1.len
  have hi1:=hΦ.1
  have hU:=hΦ.2.2
  have hS1:=hΦ.2.1
  refine zP (zC (zD O (zD O (yI O O O (zA (za O (fun c1=> ?_) (fun c1=> ?_)))))))
  ·refine zQ (zP (zZ (zC (zD O (zI O (zA (zZ ?_)))))))
   refine y7 (fun(j:Nat) (q:List Nat)=>[(0,v),(1,Vj a),(2,Vj b),(6,Vj i),(7,Vj j)]) (fun(j:Nat) (q:List Nat)=>(a≤j∧j≤i)∧Same a b l q∧Ins a i j q) (fun(j:Nat) (q:List Nat)=>[Res.vec 22 1 v q.length (q.flatMap U1)]) (fun(j:Nat) (q:List Nat)=>j) (fun w' hw=>⟨i,m,⟨O,O,O,O,O,trivial⟩,⟨⟨by omega,by omega⟩,hS1,Ins.start hU⟩,hw⟩) (fun j q g hΦ=> ?_)
   have hql:=hΦ.2.1.len
   have hj1:=hΦ.1
   have hS2:=hΦ.2.1
   have hI2:=hΦ.2.2
   refine zP (zP (ze [0] O qM qN (fun w' hw hS=>zB 0 O zS hS (zB 1 O zS hS (zB 2 O (zCe O O) hS (zB 3 O zS hS ?_))))))
   by_cases g4_3:((a:Nat):Int)<((j:Nat):Int)
   ·refine zf 4 O O (gT g4_3) zS hS (zf 5 O O (gT g4_3) zS hS (zf 6 O O (gT g4_3) (yz (pV 0 O) 1 j O O O V) hS (zf 7 O O (gT g4_3) (x0 (pV 0 O) 1 j 0 (fun _=>O) O O V O) hS (zf 8 O O (gT g4_3) zS hS (zf 9 O O (gT g4_3) zS hS (zf 10 O O (gT g4_3) (xl (c:=((j - 1:Nat):Int)) O O (zCN V V)) hS (zf 11 O O (gT g4_3) (yz (pV 0 O) 1 (j - 1) O O O V) hS (zf 12 O O (gT g4_3) (x0 (pV 0 O) 1 (j - 1) 0 (fun _=>O) O O V O) hS (zJ 13 O hw (zR O (gT g4_3) (a_call O O (fun w' hw=>(zPN (zG q j) (zG q (j - 1)) w').mono ?_))))))))))))
    rintro _ w1 ⟨rfl,hO⟩
    refine O1 ?_ (hw.qi hO)
    refine zE [0] O qM (fun w' hw hS=>zB 14 O (yf (gT g4_3)) hS (zT ?_))
    refine Oc1 ?_ hw
    refine za O (fun c2=> ?_) (fun c2=> ?_)
    ·refine zQ (yt (fun(n:List Nat)=>[(0,v),(1,Vj a),(2,Vj b),(6,Vj i),(7,Vj j)]) (fun(n:List Nat)=>n=swp q j (j - 1)) (fun(n:List Nat)=>[Res.vec 22 1 v n.length (n.flatMap U1)]) ?_ (fun n g hΦ=> ?_))
     ·refine zZ (ze [] O qM qN (fun w' hw hS=>zB 0 O zS hS (zB 1 O zS hS (zB 2 O zS hS (zB 3 O zS hS (zB 4 O (xl (c:=((j - 1:Nat):Int)) O O (zCN V V)) hS (zB 5 O zS hS (zB 6 O zS hS (zB 7 O (xl (c:=((j - 1:Nat):Int)) O O (zCN V V)) hS (zB 10 O zS hS (zB 11 O zS hS (zq 8 12 ?_ ?_))))))))))))
      ·refine zl 8 O hw (zk (pV 0 O) 1 (j - 1) O O O V O (zE [] O qM (fun w' hw hS=>zq 9 12 ?_ ?_)))
       ·refine zl 9 O hw (yH (pV 0 O) 1 (j - 1) 0 (fun _=>O) O O V O O (yo 12 O (zk (pV 0 O) 1 j O O O V O (yo 13 O (yH (pV 0 O) 1 j 0 (fun _=>O) O O V O O (yo 14 O (zk (pV 0 O) 1 j O O O V O (yo 15 O ?_))))))))
        refine yu 0 j (zG q (j - 1)) O (fun _=>O) O V O O O V (yo 16 O (zk (pV 0 O) 1 (j - 1) O O O qU O (yo 17 O (yu 0 (j - 1) (zG q j) O (fun _=>O) O V O O O qU (zE [] O qM (fun w' hw hS=>zT ?_))))))
        exact⟨swp q j (j - 1),⟨O,O,O,O,O,trivial⟩,O,hw⟩
       refine zl 12 O hw (zk (pV 0 O) 1 j O O O V O (zE [] O qM (fun w' hw hS=>zq 9 13 ?_ ?_)))
       ·refine zl 9 O hw (yH (pV 0 O) 1 (j - 1) 0 (fun _=>O) O O V O O (yo 13 O (yH (pV 0 O) 1 j 0 (fun _=>O) O O V O O (yo 14 O (zk (pV 0 O) 1 j O O O V O (yo 15 O (yu 0 j (zG q (j - 1)) O (fun _=>O) O V O O O V (yo 16 O ?_))))))))
        refine zk (pV 0 O) 1 (j - 1) O O O qU O (yo 17 O (yu 0 (j - 1) (zG q j) O (fun _=>O) O V O O O qU (zE [] O qM (fun w' hw hS=>zT ?_))))
        exact⟨swp q j (j - 1),⟨O,O,O,O,O,trivial⟩,O,hw⟩
       refine zl 13 O hw (yH (pV 0 O) 1 j 0 (fun _=>O) O O V O O (yo 9 O (yH (pV 0 O) 1 (j - 1) 0 (fun _=>O) O O V O O (yo 14 O (zk (pV 0 O) 1 j O O O V O (yo 15 O (yu 0 j (zG q (j - 1)) O (fun _=>O) O V O O O V (yo 16 O ?_))))))))
       refine zk (pV 0 O) 1 (j - 1) O O O qU O (yo 17 O (yu 0 (j - 1) (zG q j) O (fun _=>O) O V O O O qU (zE [] O qM (fun w' hw hS=>zT ?_))))
       exact⟨swp q j (j - 1),⟨O,O,O,O,O,trivial⟩,O,hw⟩
      refine zl 12 O hw (zk (pV 0 O) 1 j O O O V O (zE [] O qM (fun w' hw hS=>zq 8 13 ?_ ?_)))
      ·refine zl 8 O hw (zk (pV 0 O) 1 (j - 1) O O O V O (zE [] O qM (fun w' hw hS=>zq 9 13 ?_ ?_)))
       ·refine zl 9 O hw (yH (pV 0 O) 1 (j - 1) 0 (fun _=>O) O O V O O (yo 13 O (yH (pV 0 O) 1 j 0 (fun _=>O) O O V O O (yo 14 O (zk (pV 0 O) 1 j O O O V O (yo 15 O (yu 0 j (zG q (j - 1)) O (fun _=>O) O V O O O V (yo 16 O ?_))))))))
        refine zk (pV 0 O) 1 (j - 1) O O O qU O (yo 17 O (yu 0 (j - 1) (zG q j) O (fun _=>O) O V O O O qU (zE [] O qM (fun w' hw hS=>zT ?_))))
        exact⟨swp q j (j - 1),⟨O,O,O,O,O,trivial⟩,O,hw⟩
       refine zl 13 O hw (yH (pV 0 O) 1 j 0 (fun _=>O) O O V O O (yo 9 O (yH (pV 0 O) 1 (j - 1) 0 (fun _=>O) O O V O O (yo 14 O (zk (pV 0 O) 1 j O O O V O (yo 15 O (yu 0 j (zG q (j - 1)) O (fun _=>O) O V O O O V (yo 16 O ?_))))))))
       refine zk (pV 0 O) 1 (j - 1) O O O qU O (yo 17 O (yu 0 (j - 1) (zG q j) O (fun _=>O) O V O O O qU (zE [] O qM (fun w' hw hS=>zT ?_))))
       exact⟨swp q j (j - 1),⟨O,O,O,O,O,trivial⟩,O,hw⟩
      refine zl 13 O hw (yH (pV 0 O) 1 j 0 (fun _=>O) O O V O O (yo 8 O (zk (pV 0 O) 1 (j - 1) O O O V O (yo 9 O (yH (pV 0 O) 1 (j - 1) 0 (fun _=>O) O O V O O (yo 14 O (zk (pV 0 O) 1 j O O O V O (yo 15 O ?_))))))))
      refine yu 0 j (zG q (j - 1)) O (fun _=>O) O V O O O V (yo 16 O (zk (pV 0 O) 1 (j - 1) O O O qU O (yo 17 O (yu 0 (j - 1) (zG q j) O (fun _=>O) O V O O O qU (zE [] O qM (fun w' hw hS=>zT ?_))))))
      exact⟨swp q j (j - 1),⟨O,O,O,O,O,trivial⟩,O,hw⟩
     have hn:=hΦ
     refine zV (zD O (x8 (c:=((j - 1:Nat):Int)) O O (zCN V V) O (zI O ?_)))
     exact zg (fun w' hw=>⟨j - 1,n,⟨O,O,O,O,O,trivial⟩,⟨⟨by omega,by omega⟩,by rw[hn];exact hS2.then_swp ⟨by omega,by omega⟩ ⟨by omega,by omega⟩ hb,by rw[hn];exact hI2.step V V V c2⟩,hw,V⟩)
    refine yF O (zV (zD O (zt O O (zr V) O (zI O ?_))))
    exact zg (fun w' hw=>⟨i+1,q,⟨O,O,O,O,trivial⟩,⟨⟨by omega, .inl V⟩,hS2,hI2.done (fun _=>c2)⟩,hw,V⟩)
   refine zX 4 O O (gF g4_3) O hS (zX 5 O O (gF g4_3) O hS (zX 6 O O (gF g4_3) O hS (zX 7 O O (gF g4_3) O hS (zX 8 O O (gF g4_3) O hS (zX 9 O O (gF g4_3) O hS (zX 10 O O (gF g4_3) O hS (zX 11 O O (gF g4_3) O hS (zX 12 O O (gF g4_3) O hS (zX 13 O O (gF g4_3) O hS (zB 14 O (yM (gF g4_3)) hS (zT ?_)))))))))))
   refine Oc1 ?_ hw
   refine xx O (yF O (zV (zD O (zt O O (zr V) O (zI O ?_)))))
   exact zg (fun w' hw=>⟨i+1,q,⟨O,O,O,O,trivial⟩,⟨⟨by omega, .inl V⟩,hS2,hI2.done (fun h=>absurd h V)⟩,hw,V⟩)
  exact kw O (yQ O (fun w' hw=>⟨m,O,hS1,(fun k h1 h2=>hU k h1 V),hw⟩))
theorem zQ7{S:List Nat}(v:Value)(l:List Nat)(n:Nat)(lim:Int)(w:World)(hn:n≤12)(hln:n≤l.length)(hl:zi l.length)(hin:Own w S [Res.vec 22 1 v l.length (l.flatMap U1)] w):Rets Tryz.prog 197 #[v,Vj 0,Vj n,Vi lim] w fun u_ w'=>∃ (l':List Nat),u_= .tuple #[]∧Same 0 n l l'∧Up 0 n l'∧Own w S [Res.vec 22 1 v l'.length (l'.flatMap U1)] w':=by
  refine zW Tryz.func197 O Tryz.ntmps197 hin ?_
  refine zC (zI O (zA (zC (zI O (zA (zZ ?_))))))
  refine xT (fun(k:Nat)=>[(0,v),(1,Vj 0),(2,Vj n),(3,Vi lim),(8, .bool true),(9, .bool true)]) (fun(k:Nat)=>k=1) (fun(k:Nat)=>[Res.vec 22 1 v l.length (l.flatMap U1)]) (fun(k:Nat)=>0) (fun w' hw=>⟨1,⟨O,O,O,O,O,O,trivial⟩,O,hw⟩) (fun k g hΦ=> ?_)
  refine zZ (zC (zD O (zD O (x8 (c:=((n:Nat):Int)) O O (zr V) O (zI O (zA (zP (zC (zD O (x6 O O O (zA (za O (fun c1=> ?_) (fun c1=> ?_)))))))))))))
  ·refine zC (zD O (zD O (zD O (a_call O O (fun w' hw=>(zJi v l 0 n w' V V ‹_› (hw.give [0] O qM)).mono ?_)))))
   rintro _ w1 ⟨l'1_,rfl,hf4_3,hf4_3_1,hO⟩
   refine O1 ?_ (hw.qh [0] O hO)
   refine zA ?_
   exact zU (yQ O (fun w' hw=>⟨l'1_,O,hf4_3,hf4_3_1,hw⟩))
  exact absurd c1 V
theorem zOi{S:List Nat}(v:Value)(l:List Nat)(w:World)(hl:l.length≤12)(hin:Own w S [Res.vec 22 1 v l.length (l.flatMap U1)] w):Rets Tryz.prog 164 #[v] w fun u_ w'=>∃ (l':List Nat),u_= .tuple #[]∧l'.Perm l∧l'.Pairwise (fun x y=>jE x y)∧Own w S [Res.vec 22 1 v l'.length (l'.flatMap U1)] w':=by
  refine zW Tryz.func164 O Tryz.ntmps164 hin ?_
  refine zC (zD O (zp (pV 0 O) O O (zI O (zA (zV (zD O (zD O (zD O (xt qN O (xA V) O ?_ qN)))))))))
  refine a_call O O (fun w' hw=>(zKr l.length w' V).mono ?_)
  rintro _ w1 ⟨rfl,hO⟩
  refine O1 ?_ (hw.qi hO)
  refine a_call O O (fun w' hw=>(zQ7 v l l.length (((yD l.length):Nat):Int) w' qO qO qP (hw.give [0] O qM)).mono ?_)
  rintro _ w1 ⟨l'1_,rfl,hf1_5,hf1_5_1,hO⟩
  refine O1 ?_ (hw.qh [0] O hO)
  exact zg (yQ O (fun w' hw=>⟨l'1_,O,hf1_5.perm,zCb hf1_5 hf1_5_1,hw⟩))
theorem zJc(sb:Nat)(v:Value)(l:List Nat)(hl:zi l.length):zLj Tryz.prog 165 [.pointer (some ⟨sb,0,none⟩)] (fun x:Nat=>Value.int .u64 (x:Nat)) (fun xs=>xs=l) l.length [Res.row sb 42 [v],Res.vec 22 1 v l.length (l.flatMap U1)]:=by
  intro ly J L0 w Y hJ hin
  refine kC (args:=[.func (.yield ly) #[] #[], .pointer (some ⟨sb,0,none⟩)]) Tryz.func165 O Tryz.ntmps165 O (show Own w (y1 ([Res.row sb 42 [v],Res.vec 22 1 v l.length (l.flatMap U1)]++L0)) (Res.row sb 42 [v]::Res.vec 22 1 v l.length (l.flatMap U1)::L0) w from hin) ?_
  refine zC (zM 0 (v:=v) O O O O (zp (pV 1 O) O O (zD O (zA (zZ ?_)))))
  refine y7 (fun(k:Nat) (Lr:List Res)=>[(0, .func (.yield ly) #[] #[]),(5,v),(6,Vj l.length),(7,Vj k)]) (fun(k:Nat) (Lr:List Res)=>k≤l.length∧J (l.take k) Lr) (fun(k:Nat) (Lr:List Res)=>(Res.row sb 42 [v]::Res.vec 22 1 v l.length (l.flatMap U1)::Lr)) (fun(k:Nat) (Lr:List Res)=>l.length - k) (fun w' hw=>⟨0,L0,⟨O,O,O,O,trivial⟩,⟨Nat.zero_le _,by simpa using hJ⟩,hw⟩) (fun k Lr g hΦ=> ?_)
  have hk:=hΦ.1
  have hJk:=hΦ.2
  refine zC (yI O O O (zA (zP (za O (fun c1=> ?_) (fun c1=> ?_)))))
  ·refine zQ (zP (zZ (zC (zk (pV 1 O) 1 k O O O V O (yH (pV 1 O) 1 k 0 (fun _=>O) O O V O O (zI O (zA (zFS ?_))))))))
   refine ku O zS ?_
   refine ku O zS ?_
   refine zIJ [Res.row sb 42 [v],Res.vec 22 1 v l.length (l.flatMap U1)] (zG l k) Y O O hJk (by rw[List.length_take];omega) O (fun Ly1_ hJLy1_=> ?_)
   refine ku O (zDx (b:=true) O) ?_
   refine zKe ?_
   refine xx O (zQ (zV (zt O O (zr V) O (zD O ?_))))
   exact zg (fun w' hw=>⟨k+1,Ly1_,⟨O,O,O,O,trivial⟩,⟨by omega,by rw[zu V];exact hJLy1_⟩,hw,V⟩)
  exact kw O (yQ O (fun w' hw=>⟨l,Lr,O,(by have h:=hJk;rwa [List.take_of_length_le V]at h),hw⟩))
theorem zOu{S:List Nat}(v:Value)(l:List Nat)(w:World)(hin:Own w S [Res.vec 22 1 v l.length (l.flatMap U1)] w):Rets Tryz.prog 121 #[v] w fun u_ w'=>∃ (b:Nat),u_= .func (.func 165) #[] #[.pointer (some ⟨b,0,none⟩)]∧Own w S [Res.vec 22 1 v l.length (l.flatMap U1),Res.row b 42 [v]] w':=by
  refine zW Tryz.func121 O Tryz.ntmps121 hin ?_
  refine zC ?_
  refine zN (fun w' hw=>Own.qg (i:=0) O hw) (fun hc1_=> ?_)
  refine zHs O hc1_ O (fun b1=>zI O (zA (zC (zBX (va:=[]) (vb:=[.pointer (some ⟨b1,0,none⟩)]) O O O (zI O (zA ?_))))))
  exact zU (z9 (v:= .func (.func 165) #[] #[.pointer (some ⟨b1,0,none⟩)]) O O (fun w' hw=>⟨b1,O,hw⟩))
theorem zMa{Sx:List Nat→Prop}{N:Nat}{Ls:List Res}(sg:FuncId)(lb:List Value)(hcall:kS Tryz.prog sg=true)(hseq:zLj Tryz.prog sg lb (fun x=>Vn x) Sx N Ls)(hN:N≤1000000000)(w:World)(hin:Own w (y1 Ls) Ls w):Rets Tryz.prog 196 #[.slice none 0 0, .func (.func sg) #[] lb.toArray] w fun u_ w'=>∃ (v:Value) (xs:List Nat),u_=v∧Sx xs∧Own w (y1 Ls) (Ls++[Res.vec 22 1 v xs.length (xs.flatMap U1)]) w':=by
  refine zEe (args:=[.slice none 0 0, .func (.func sg) #[] lb.toArray]) Tryz.func196 O Tryz.ntmps196 O O O (show Own w (y1 Ls) Ls w from hin) ?_
  refine z8 O O (fun b=> ?_)
  refine zI O ?_
  refine zg (fun w1 hw=> ?_)
  refine(?_:CL _ _ _ _ _ _ (Own w (y1 Ls) (Ls++[Res.row b 42 [.slice none 0 0]]))) w1 hw
  refine zD O ?_
  refine zg (fun w2 hw=> ?_)
  have hw2:=zm hw 22 1
  rw[List.append_assoc]at hw2
  refine zH1 (enc:=(fun x=>Vn x)) (p:=7) (q:=5) (Ju:=fun pre L=>∃ v,L=[Res.row b 42 [v],Res.vec 22 1 v pre.length (pre.flatMap U1)]) O hcall hseq ⟨.slice none 0 0,O⟩ hw2 O O O ?_ ?_ ?_
  · intro x w
    exact(zI O (zg (fun w' hw'=>⟨O,hw'⟩)):CL _ _ _ _ _ _ (fun w'=>w'=w)) w O
  · rintro pre x L w ⟨v,rfl⟩ hlen
    refine zM 0 (v:=v) O O O O ?_
    refine zD O ?_
    refine zx (e:=22) (sz:=1) (vs:=[Vn x]) qN O O qR qM O (fun b10=> ?_)
    refine zy (g:=U1) (sz:=1) (by':=8) (fun _=>O) (l:=pre) (l':=[x]) qZ 1 qN O O O (fun w' hw'=>Vec.sl (Own.holds hw' 2 _ O)) qO qM O (fun v11=> ?_)
    refine zN (fun w' hw=>Own.qg (i:=1) O hw) (fun hc1_=> ?_)
    refine zn (cs:=[v]) 0 O O O hc1_ O ?_
    exact zg (fun w' hw=>⟨_,⟨_,O⟩,hw.sel [0,1] O qM⟩)
  rintro xs L' D w' hS ⟨v,rfl⟩ hO a ha
  have hO2:=hO.perm (List.Perm.cons _ (List.perm_append_comm))
  refine zMU (v:=v) O ?_ hO2 (fun w'' hO3=>⟨v,xs,O,hS,?_⟩) a ha
  · exact ku rfl (zLw 1 (v:=v) rfl rfl rfl qN) (ku rfl yO (zOT (fun w' hw=>⟨rfl,hw⟩)))
  exact(Own.tail hO3).perm (List.perm_append_comm (l₁:=[_]))
theorem zHH{S:List Nat}(b:Nat)(v:Value)(l:List Nat)(w:World)(hl:l.length≤1000000000)(hin:Own w S [Res.row b 42 [v],Res.vec 22 1 v l.length (l.flatMap U1)] w):Rets Tryz.prog 163 #[.func (.func 165) #[] #[.pointer (some ⟨b,0,none⟩)]] w fun u_ w'=>∃ (v':Value) (l':List Nat),u_=v'∧l'=l∧Own w S [Res.row b 42 [v],Res.vec 22 1 v l.length (l.flatMap U1),Res.vec 22 1 v' l'.length (l'.flatMap U1)] w':=by
  refine zW Tryz.func163 O Tryz.ntmps163 hin ?_
  refine zC (zI O (zA (zC (zD O (a_call O O (fun w' hw=>(zMa 165 [.pointer (some ⟨b,0,none⟩)] qN (zJc b v l (by first|assumption|omega)) V w' (hw.give [0,1] O qM)).mono ?_))))))
  rintro v1_ w1 ⟨_,xs2_,rfl,hf1_1,hO⟩
  refine O3 ?_ (hw.qh [0,1] O hO)
  refine zI O (zA ?_)
  exact zU (z9 (v:=v1_) O O (fun w' hw=>⟨v1_,xs2_,O,hf1_1,hw⟩))
theorem zJo{S:List Nat}(b:Nat)(v:Value)(l:List Nat)(w:World)(hl:l.length≤12)(hin:Own w S [Res.row b 42 [v],Res.vec 22 1 v l.length (l.flatMap U1)] w):Rets Tryz.prog 120 #[.func (.func 165) #[] #[.pointer (some ⟨b,0,none⟩)]] w fun u_ w'=>∃ (v':Value) (l':List Nat),u_=v'∧l'.Perm l∧l'.Pairwise (fun x y=>jE x y)∧Own w S [Res.row b 42 [v],Res.vec 22 1 v l.length (l.flatMap U1),Res.vec 22 1 v' l'.length (l'.flatMap U1)] w':=by
  refine zW Tryz.func120 O Tryz.ntmps120 hin ?_
  refine zC (zI O (zA (zC (zD O (a_call O O (fun w' hw=>(zHH b v l w' V (hw.give [0,1] O qM)).mono ?_))))))
  rintro v'1_ w1 ⟨_,l'2_,rfl,hf1_1,hO⟩
  have hl1:l'2_.length=l.length:=by rw[hf1_1]
  refine O3 ?_ (hw.qh [0,1] O hO)
  refine zI O (zA (zC (zD O (a_call O O (fun w' hw=>(zOi v'1_ l'2_ w' V (hw.give [2] O qM)).mono ?_)))))
  rintro _ w1 ⟨l'3_,rfl,hf2_1,hf2_1_1,hO⟩
  refine O3 ?_ (hw.qh [2] O hO)
  refine zA (zC (zD O (zI O (zA ?_))))
  exact zU (z9 (v:=v'1_) O O (fun w' hw=>⟨v'1_,l'3_,O,(by rw[←hf1_1];exact hf2_1),hf2_1_1,hw⟩))
theorem zMu(x:Int)(w:World):Rets Tryz.prog 144 #[Vi x] w fun u_ w'=>u_= .bool false∧Own w [] [] w':=by
  refine zW Tryz.func144 O Tryz.ntmps144 (Own.start w) ?_
  refine zC (zI O (zA (zC (zD O (zD O (xn O O O (zI O (zA ?_))))))))
  exact zU (z9 (v:= .bool (decide (x≠x))) O O (fun w' hw=>⟨qQ,hw.drop⟩))
theorem zPf(x y:Int)(w:World):Rets Tryz.prog 225 #[Vi x,Vi y] w fun u_ w'=>u_= .bool (decide (olt x y))∧Own w [] [] w':=by
  refine zW Tryz.func225 O Tryz.ntmps225 (Own.start w) ?_
  refine zC (zI O (zA (zC (zD O (a_call O O (fun w' hw=>(zMu x w').mono ?_))))))
  rintro _ w1 ⟨rfl,hO⟩
  refine O0 ?_ (hw.qi hO)
  refine zD O (zAz O O O O (zAz O O O O (zAz O O O O (j8 O O (zD O (zR O O (zD O (zR O O (zD O (zR O O (yI O O O (j8 O O ?_))))))))))))
  refine zI O (zA ?_)
  exact zU (z9 (v:= .bool (decide (x<y))) O O (fun w' hw=>⟨O,hw.drop⟩))
theorem zJU{S:List Nat}(v:Value)(l:List Int)(a b:Nat)(w:World)(ha:a≤b)(hb:b≤l.length)(hl:zi l.length)(hin:Own w S [Res.vec 3 1 v l.length (l.flatMap I1)] w):Rets Tryz.prog 219 #[v,Vj a,Vj b] w fun u_ w'=>∃ (l':List Int),u_= .tuple #[]∧Same a b l l'∧Up a b l'∧Own w S [Res.vec 3 1 v l'.length (l'.flatMap I1)] w':=by
  refine zW Tryz.func219 O Tryz.ntmps219 hin ?_
  refine zC (zD O (zt O O (zr V) O (zI O (zA (zZ ?_)))))
  refine y7 (fun(i:Nat) (m:List Int)=>[(0,v),(1,Vj a),(2,Vj b),(6,Vj i)]) (fun(i:Nat) (m:List Int)=>(a+1≤i∧(i≤b∨i=a+1))∧Same a b l m∧Up a i m) (fun(i:Nat) (m:List Int)=>[Res.vec 3 1 v m.length (m.flatMap I1)]) (fun(i:Nat) (m:List Int)=>b+1 - i) (fun w' hw=>⟨a+1,l,⟨O,O,O,O,trivial⟩,⟨⟨by omega, .inr O⟩,Same.refl _ _ _,Up.one V⟩,hw⟩) (fun i m g hΦ=> ?_)
  have hml:=hΦ.2.1.len
  have hi1:=hΦ.1
  have hU:=hΦ.2.2
  have hS1:=hΦ.2.1
  refine zP (zC (zD O (zD O (yI O O O (zA (za O (fun c1=> ?_) (fun c1=> ?_)))))))
  ·refine zQ (zP (zZ (zC (zD O (zI O (zA (zZ ?_)))))))
   refine y7 (fun(j:Nat) (q:List Int)=>[(0,v),(1,Vj a),(2,Vj b),(6,Vj i),(7,Vj j)]) (fun(j:Nat) (q:List Int)=>(a≤j∧j≤i)∧Same a b l q∧Ins a i j q) (fun(j:Nat) (q:List Int)=>[Res.vec 3 1 v q.length (q.flatMap I1)]) (fun(j:Nat) (q:List Int)=>j) (fun w' hw=>⟨i,m,⟨O,O,O,O,O,trivial⟩,⟨⟨by omega,by omega⟩,hS1,Ins.start hU⟩,hw⟩) (fun j q g hΦ=> ?_)
   have hql:=hΦ.2.1.len
   have hj1:=hΦ.1
   have hS2:=hΦ.2.1
   have hI2:=hΦ.2.2
   refine zP (zP (ze [0] O qM qN (fun w' hw hS=>zB 0 O zS hS (zB 1 O zS hS (zB 2 O (zCe O O) hS (zB 3 O zS hS ?_))))))
   by_cases g4_3:((a:Nat):Int)<((j:Nat):Int)
   ·refine zf 4 O O (gT g4_3) zS hS (zf 5 O O (gT g4_3) zS hS (zf 6 O O (gT g4_3) (yz (pV 0 O) 1 j O O O V) hS (zf 7 O O (gT g4_3) (x0 (pV 0 O) 1 j 0 (fun _=>O) O O V O) hS (zf 8 O O (gT g4_3) zS hS (zf 9 O O (gT g4_3) zS hS (zf 10 O O (gT g4_3) (xl (c:=((j - 1:Nat):Int)) O O (zCN V V)) hS (zf 11 O O (gT g4_3) (yz (pV 0 O) 1 (j - 1) O O O V) hS (zf 12 O O (gT g4_3) (x0 (pV 0 O) 1 (j - 1) 0 (fun _=>O) O O V O) hS (zJ 13 O hw (zR O (gT g4_3) (a_call O O (fun w' hw=>(zPf (zG q j) (zG q (j - 1)) w').mono ?_))))))))))))
    rintro _ w1 ⟨rfl,hO⟩
    refine O1 ?_ (hw.qi hO)
    refine zE [0] O qM (fun w' hw hS=>zB 14 O (yf (gT g4_3)) hS (zT ?_))
    refine Oc1 ?_ hw
    refine za O (fun c2=> ?_) (fun c2=> ?_)
    ·refine zQ (yt (fun(n:List Int)=>[(0,v),(1,Vj a),(2,Vj b),(6,Vj i),(7,Vj j)]) (fun(n:List Int)=>n=swp q j (j - 1)) (fun(n:List Int)=>[Res.vec 3 1 v n.length (n.flatMap I1)]) ?_ (fun n g hΦ=> ?_))
     ·refine zZ (ze [] O qM qN (fun w' hw hS=>zB 0 O zS hS (zB 1 O zS hS (zB 2 O zS hS (zB 3 O zS hS (zB 4 O (xl (c:=((j - 1:Nat):Int)) O O (zCN V V)) hS (zB 5 O zS hS (zB 6 O zS hS (zB 7 O (xl (c:=((j - 1:Nat):Int)) O O (zCN V V)) hS (zB 10 O zS hS (zB 11 O zS hS (zq 8 12 ?_ ?_))))))))))))
      ·refine zl 8 O hw (zk (pV 0 O) 1 (j - 1) O O O V O (zE [] O qM (fun w' hw hS=>zq 9 12 ?_ ?_)))
       ·refine zl 9 O hw (yH (pV 0 O) 1 (j - 1) 0 (fun _=>O) O O V O O (yo 12 O (zk (pV 0 O) 1 j O O O V O (yo 13 O (yH (pV 0 O) 1 j 0 (fun _=>O) O O V O O (yo 14 O (zk (pV 0 O) 1 j O O O V O (yo 15 O ?_))))))))
        refine yu 0 j (zG q (j - 1)) O (fun _=>O) O V O O O V (yo 16 O (zk (pV 0 O) 1 (j - 1) O O O qU O (yo 17 O (yu 0 (j - 1) (zG q j) O (fun _=>O) O V O O O qU (zE [] O qM (fun w' hw hS=>zT ?_))))))
        exact⟨swp q j (j - 1),⟨O,O,O,O,O,trivial⟩,O,hw⟩
       refine zl 12 O hw (zk (pV 0 O) 1 j O O O V O (zE [] O qM (fun w' hw hS=>zq 9 13 ?_ ?_)))
       ·refine zl 9 O hw (yH (pV 0 O) 1 (j - 1) 0 (fun _=>O) O O V O O (yo 13 O (yH (pV 0 O) 1 j 0 (fun _=>O) O O V O O (yo 14 O (zk (pV 0 O) 1 j O O O V O (yo 15 O (yu 0 j (zG q (j - 1)) O (fun _=>O) O V O O O V (yo 16 O ?_))))))))
        refine zk (pV 0 O) 1 (j - 1) O O O qU O (yo 17 O (yu 0 (j - 1) (zG q j) O (fun _=>O) O V O O O qU (zE [] O qM (fun w' hw hS=>zT ?_))))
        exact⟨swp q j (j - 1),⟨O,O,O,O,O,trivial⟩,O,hw⟩
       refine zl 13 O hw (yH (pV 0 O) 1 j 0 (fun _=>O) O O V O O (yo 9 O (yH (pV 0 O) 1 (j - 1) 0 (fun _=>O) O O V O O (yo 14 O (zk (pV 0 O) 1 j O O O V O (yo 15 O (yu 0 j (zG q (j - 1)) O (fun _=>O) O V O O O V (yo 16 O ?_))))))))
       refine zk (pV 0 O) 1 (j - 1) O O O qU O (yo 17 O (yu 0 (j - 1) (zG q j) O (fun _=>O) O V O O O qU (zE [] O qM (fun w' hw hS=>zT ?_))))
       exact⟨swp q j (j - 1),⟨O,O,O,O,O,trivial⟩,O,hw⟩
      refine zl 12 O hw (zk (pV 0 O) 1 j O O O V O (zE [] O qM (fun w' hw hS=>zq 8 13 ?_ ?_)))
      ·refine zl 8 O hw (zk (pV 0 O) 1 (j - 1) O O O V O (zE [] O qM (fun w' hw hS=>zq 9 13 ?_ ?_)))
       ·refine zl 9 O hw (yH (pV 0 O) 1 (j - 1) 0 (fun _=>O) O O V O O (yo 13 O (yH (pV 0 O) 1 j 0 (fun _=>O) O O V O O (yo 14 O (zk (pV 0 O) 1 j O O O V O (yo 15 O (yu 0 j (zG q (j - 1)) O (fun _=>O) O V O O O V (yo 16 O ?_))))))))
        refine zk (pV 0 O) 1 (j - 1) O O O qU O (yo 17 O (yu 0 (j - 1) (zG q j) O (fun _=>O) O V O O O qU (zE [] O qM (fun w' hw hS=>zT ?_))))
        exact⟨swp q j (j - 1),⟨O,O,O,O,O,trivial⟩,O,hw⟩
       refine zl 13 O hw (yH (pV 0 O) 1 j 0 (fun _=>O) O O V O O (yo 9 O (yH (pV 0 O) 1 (j - 1) 0 (fun _=>O) O O V O O (yo 14 O (zk (pV 0 O) 1 j O O O V O (yo 15 O (yu 0 j (zG q (j - 1)) O (fun _=>O) O V O O O V (yo 16 O ?_))))))))
       refine zk (pV 0 O) 1 (j - 1) O O O qU O (yo 17 O (yu 0 (j - 1) (zG q j) O (fun _=>O) O V O O O qU (zE [] O qM (fun w' hw hS=>zT ?_))))
       exact⟨swp q j (j - 1),⟨O,O,O,O,O,trivial⟩,O,hw⟩
      refine zl 13 O hw (yH (pV 0 O) 1 j 0 (fun _=>O) O O V O O (yo 8 O (zk (pV 0 O) 1 (j - 1) O O O V O (yo 9 O (yH (pV 0 O) 1 (j - 1) 0 (fun _=>O) O O V O O (yo 14 O (zk (pV 0 O) 1 j O O O V O (yo 15 O ?_))))))))
      refine yu 0 j (zG q (j - 1)) O (fun _=>O) O V O O O V (yo 16 O (zk (pV 0 O) 1 (j - 1) O O O qU O (yo 17 O (yu 0 (j - 1) (zG q j) O (fun _=>O) O V O O O qU (zE [] O qM (fun w' hw hS=>zT ?_))))))
      exact⟨swp q j (j - 1),⟨O,O,O,O,O,trivial⟩,O,hw⟩
     have hn:=hΦ
     refine zV (zD O (x8 (c:=((j - 1:Nat):Int)) O O (zCN V V) O (zI O ?_)))
     exact zg (fun w' hw=>⟨j - 1,n,⟨O,O,O,O,O,trivial⟩,⟨⟨by omega,by omega⟩,by rw[hn];exact hS2.then_swp ⟨by omega,by omega⟩ ⟨by omega,by omega⟩ hb,by rw[hn];exact hI2.step V V V c2⟩,hw,V⟩)
    refine yF O (zV (zD O (zt O O (zr V) O (zI O ?_))))
    exact zg (fun w' hw=>⟨i+1,q,⟨O,O,O,O,trivial⟩,⟨⟨by omega, .inl V⟩,hS2,hI2.done (fun _=>c2)⟩,hw,V⟩)
   refine zX 4 O O (gF g4_3) O hS (zX 5 O O (gF g4_3) O hS (zX 6 O O (gF g4_3) O hS (zX 7 O O (gF g4_3) O hS (zX 8 O O (gF g4_3) O hS (zX 9 O O (gF g4_3) O hS (zX 10 O O (gF g4_3) O hS (zX 11 O O (gF g4_3) O hS (zX 12 O O (gF g4_3) O hS (zX 13 O O (gF g4_3) O hS (zB 14 O (yM (gF g4_3)) hS (zT ?_)))))))))))
   refine Oc1 ?_ hw
   refine xx O (yF O (zV (zD O (zt O O (zr V) O (zI O ?_)))))
   exact zg (fun w' hw=>⟨i+1,q,⟨O,O,O,O,trivial⟩,⟨⟨by omega, .inl V⟩,hS2,hI2.done (fun h=>absurd h V)⟩,hw,V⟩)
  exact kw O (yQ O (fun w' hw=>⟨m,O,hS1,(fun k h1 h2=>hU k h1 V),hw⟩))
theorem zQG{S:List Nat}(v:Value)(l:List Int)(n:Nat)(lim:Int)(w:World)(hn:n≤12)(hln:n≤l.length)(hl:zi l.length)(hin:Own w S [Res.vec 3 1 v l.length (l.flatMap I1)] w):Rets Tryz.prog 208 #[v,Vj 0,Vj n,Vi lim] w fun u_ w'=>∃ (l':List Int),u_= .tuple #[]∧Same 0 n l l'∧Up 0 n l'∧Own w S [Res.vec 3 1 v l'.length (l'.flatMap I1)] w':=by
  refine zW Tryz.func208 O Tryz.ntmps208 hin ?_
  refine zC (zI O (zA (zC (zI O (zA (zZ ?_))))))
  refine xT (fun(k:Nat)=>[(0,v),(1,Vj 0),(2,Vj n),(3,Vi lim),(8, .bool true),(9, .bool true)]) (fun(k:Nat)=>k=1) (fun(k:Nat)=>[Res.vec 3 1 v l.length (l.flatMap I1)]) (fun(k:Nat)=>0) (fun w' hw=>⟨1,⟨O,O,O,O,O,O,trivial⟩,O,hw⟩) (fun k g hΦ=> ?_)
  refine zZ (zC (zD O (zD O (x8 (c:=((n:Nat):Int)) O O (zr V) O (zI O (zA (zP (zC (zD O (x6 O O O (zA (za O (fun c1=> ?_) (fun c1=> ?_)))))))))))))
  ·refine zC (zD O (zD O (zD O (a_call O O (fun w' hw=>(zJU v l 0 n w' V V ‹_› (hw.give [0] O qM)).mono ?_)))))
   rintro _ w1 ⟨l'1_,rfl,hf4_3,hf4_3_1,hO⟩
   refine O1 ?_ (hw.qh [0] O hO)
   refine zA ?_
   exact zU (yQ O (fun w' hw=>⟨l'1_,O,hf4_3,hf4_3_1,hw⟩))
  exact absurd c1 V
theorem zK6{S:List Nat}(v:Value)(l:List Int)(w:World)(hl:l.length≤12)(hin:Own w S [Res.vec 3 1 v l.length (l.flatMap I1)] w):Rets Tryz.prog 193 #[v] w fun u_ w'=>∃ (l':List Int),u_= .tuple #[]∧l'.Perm l∧l'.Pairwise (fun x y=>jE x y)∧Own w S [Res.vec 3 1 v l'.length (l'.flatMap I1)] w':=by
  refine zW Tryz.func193 O Tryz.ntmps193 hin ?_
  refine zC (zD O (zp (pV 0 O) O O (zI O (zA (zV (zD O (zD O (zD O (xt qN O (xA V) O ?_ qN)))))))))
  refine a_call O O (fun w' hw=>(zKr l.length w' V).mono ?_)
  rintro _ w1 ⟨rfl,hO⟩
  refine O1 ?_ (hw.qi hO)
  refine a_call O O (fun w' hw=>(zQG v l l.length (((yD l.length):Nat):Int) w' qO qO qP (hw.give [0] O qM)).mono ?_)
  rintro _ w1 ⟨l'1_,rfl,hf1_5,hf1_5_1,hO⟩
  refine O1 ?_ (hw.qh [0] O hO)
  exact zg (yQ O (fun w' hw=>⟨l'1_,O,hf1_5.perm,zCb hf1_5 hf1_5_1,hw⟩))
theorem zJK(sb:Nat)(v:Value)(l:List Int)(hl:zi l.length):zLj Tryz.prog 194 [.pointer (some ⟨sb,0,none⟩)] (fun x:Int=>Value.int .i64 x) (fun xs=>xs=l) l.length [Res.row sb 33 [v],Res.vec 3 1 v l.length (l.flatMap I1)]:=by
  intro ly J L0 w Y hJ hin
  refine kC (args:=[.func (.yield ly) #[] #[], .pointer (some ⟨sb,0,none⟩)]) Tryz.func194 O Tryz.ntmps194 O (show Own w (y1 ([Res.row sb 33 [v],Res.vec 3 1 v l.length (l.flatMap I1)]++L0)) (Res.row sb 33 [v]::Res.vec 3 1 v l.length (l.flatMap I1)::L0) w from hin) ?_
  refine zC (zM 0 (v:=v) O O O O (zp (pV 1 O) O O (zD O (zA (zZ ?_)))))
  refine y7 (fun(k:Nat) (Lr:List Res)=>[(0, .func (.yield ly) #[] #[]),(5,v),(6,Vj l.length),(7,Vj k)]) (fun(k:Nat) (Lr:List Res)=>k≤l.length∧J (l.take k) Lr) (fun(k:Nat) (Lr:List Res)=>(Res.row sb 33 [v]::Res.vec 3 1 v l.length (l.flatMap I1)::Lr)) (fun(k:Nat) (Lr:List Res)=>l.length - k) (fun w' hw=>⟨0,L0,⟨O,O,O,O,trivial⟩,⟨Nat.zero_le _,by simpa using hJ⟩,hw⟩) (fun k Lr g hΦ=> ?_)
  have hk:=hΦ.1
  have hJk:=hΦ.2
  refine zC (yI O O O (zA (zP (za O (fun c1=> ?_) (fun c1=> ?_)))))
  ·refine zQ (zP (zZ (zC (zk (pV 1 O) 1 k O O O V O (yH (pV 1 O) 1 k 0 (fun _=>O) O O V O O (zI O (zA (zFS ?_))))))))
   refine ku O zS ?_
   refine ku O zS ?_
   refine zIJ [Res.row sb 33 [v],Res.vec 3 1 v l.length (l.flatMap I1)] (zG l k) Y O O hJk (by rw[List.length_take];omega) O (fun Ly1_ hJLy1_=> ?_)
   refine ku O (zDx (b:=true) O) ?_
   refine zKe ?_
   refine xx O (zQ (zV (zt O O (zr V) O (zD O ?_))))
   exact zg (fun w' hw=>⟨k+1,Ly1_,⟨O,O,O,O,trivial⟩,⟨by omega,by rw[zu V];exact hJLy1_⟩,hw,V⟩)
  exact kw O (yQ O (fun w' hw=>⟨l,Lr,O,(by have h:=hJk;rwa [List.take_of_length_le V]at h),hw⟩))
theorem zPd{S:List Nat}(v:Value)(l:List Int)(w:World)(hin:Own w S [Res.vec 3 1 v l.length (l.flatMap I1)] w):Rets Tryz.prog 161 #[v] w fun u_ w'=>∃ (b:Nat),u_= .func (.func 194) #[] #[.pointer (some ⟨b,0,none⟩)]∧Own w S [Res.vec 3 1 v l.length (l.flatMap I1),Res.row b 33 [v]] w':=by
  refine zW Tryz.func161 O Tryz.ntmps161 hin ?_
  refine zC ?_
  refine zN (fun w' hw=>Own.qg (i:=0) O hw) (fun hc1_=> ?_)
  refine zHs O hc1_ O (fun b1=>zI O (zA (zC (zBX (va:=[]) (vb:=[.pointer (some ⟨b1,0,none⟩)]) O O O (zI O (zA ?_))))))
  exact zU (z9 (v:= .func (.func 194) #[] #[.pointer (some ⟨b1,0,none⟩)]) O O (fun w' hw=>⟨b1,O,hw⟩))
theorem zMF{Sx:List Int→Prop}{N:Nat}{Ls:List Res}(sg:FuncId)(lb:List Value)(hcall:kS Tryz.prog sg=true)(hseq:zLj Tryz.prog sg lb (fun x=>Vi x) Sx N Ls)(hN:N≤1000000000)(w:World)(hin:Own w (y1 Ls) Ls w):Rets Tryz.prog 207 #[.slice none 0 0, .func (.func sg) #[] lb.toArray] w fun u_ w'=>∃ (v:Value) (xs:List Int),u_=v∧Sx xs∧Own w (y1 Ls) (Ls++[Res.vec 3 1 v xs.length (xs.flatMap I1)]) w':=by
  refine zEe (args:=[.slice none 0 0, .func (.func sg) #[] lb.toArray]) Tryz.func207 O Tryz.ntmps207 O O O (show Own w (y1 Ls) Ls w from hin) ?_
  refine z8 O O (fun b=> ?_)
  refine zI O ?_
  refine zg (fun w1 hw=> ?_)
  refine(?_:CL _ _ _ _ _ _ (Own w (y1 Ls) (Ls++[Res.row b 33 [.slice none 0 0]]))) w1 hw
  refine zD O ?_
  refine zg (fun w2 hw=> ?_)
  have hw2:=zm hw 3 1
  rw[List.append_assoc]at hw2
  refine zH1 (enc:=(fun x=>Vi x)) (p:=7) (q:=5) (Ju:=fun pre L=>∃ v,L=[Res.row b 33 [v],Res.vec 3 1 v pre.length (pre.flatMap I1)]) O hcall hseq ⟨.slice none 0 0,O⟩ hw2 O O O ?_ ?_ ?_
  · intro x w
    exact(zI O (zg (fun w' hw'=>⟨O,hw'⟩)):CL _ _ _ _ _ _ (fun w'=>w'=w)) w O
  · rintro pre x L w ⟨v,rfl⟩ hlen
    refine zM 0 (v:=v) O O O O ?_
    refine zD O ?_
    refine zx (e:=3) (sz:=1) (vs:=[Vi x]) qN O O qR qM O (fun b10=> ?_)
    refine zy (g:=I1) (sz:=1) (by':=8) (fun _=>O) (l:=pre) (l':=[x]) qV 1 qN O O O (fun w' hw'=>Vec.sl (Own.holds hw' 2 _ O)) qO qM O (fun v11=> ?_)
    refine zN (fun w' hw=>Own.qg (i:=1) O hw) (fun hc1_=> ?_)
    refine zn (cs:=[v]) 0 O O O hc1_ O ?_
    exact zg (fun w' hw=>⟨_,⟨_,O⟩,hw.sel [0,1] O qM⟩)
  rintro xs L' D w' hS ⟨v,rfl⟩ hO a ha
  have hO2:=hO.perm (List.Perm.cons _ (List.perm_append_comm))
  refine zMU (v:=v) O ?_ hO2 (fun w'' hO3=>⟨v,xs,O,hS,?_⟩) a ha
  · exact ku rfl (zLw 1 (v:=v) rfl rfl rfl qN) (ku rfl yO (zOT (fun w' hw=>⟨rfl,hw⟩)))
  exact(Own.tail hO3).perm (List.perm_append_comm (l₁:=[_]))
theorem zG3{S:List Nat}(b:Nat)(v:Value)(l:List Int)(w:World)(hl:l.length≤1000000000)(hin:Own w S [Res.row b 33 [v],Res.vec 3 1 v l.length (l.flatMap I1)] w):Rets Tryz.prog 192 #[.func (.func 194) #[] #[.pointer (some ⟨b,0,none⟩)]] w fun u_ w'=>∃ (v':Value) (l':List Int),u_=v'∧l'=l∧Own w S [Res.row b 33 [v],Res.vec 3 1 v l.length (l.flatMap I1),Res.vec 3 1 v' l'.length (l'.flatMap I1)] w':=by
  refine zW Tryz.func192 O Tryz.ntmps192 hin ?_
  refine zC (zI O (zA (zC (zD O (a_call O O (fun w' hw=>(zMF 194 [.pointer (some ⟨b,0,none⟩)] qN (zJK b v l (by first|assumption|omega)) V w' (hw.give [0,1] O qM)).mono ?_))))))
  rintro v1_ w1 ⟨_,xs2_,rfl,hf1_1,hO⟩
  refine O3 ?_ (hw.qh [0,1] O hO)
  refine zI O (zA ?_)
  exact zU (z9 (v:=v1_) O O (fun w' hw=>⟨v1_,xs2_,O,hf1_1,hw⟩))
theorem zJm{S:List Nat}(b:Nat)(v:Value)(l:List Int)(w:World)(hl:l.length≤12)(hin:Own w S [Res.row b 33 [v],Res.vec 3 1 v l.length (l.flatMap I1)] w):Rets Tryz.prog 160 #[.func (.func 194) #[] #[.pointer (some ⟨b,0,none⟩)]] w fun u_ w'=>∃ (v':Value) (l':List Int),u_=v'∧l'.Perm l∧l'.Pairwise (fun x y=>jE x y)∧Own w S [Res.row b 33 [v],Res.vec 3 1 v l.length (l.flatMap I1),Res.vec 3 1 v' l'.length (l'.flatMap I1)] w':=by
  refine zW Tryz.func160 O Tryz.ntmps160 hin ?_
  refine zC (zI O (zA (zC (zD O (a_call O O (fun w' hw=>(zG3 b v l w' V (hw.give [0,1] O qM)).mono ?_))))))
  rintro v'1_ w1 ⟨_,l'2_,rfl,hf1_1,hO⟩
  have hl1:l'2_.length=l.length:=by rw[hf1_1]
  refine O3 ?_ (hw.qh [0,1] O hO)
  refine zI O (zA (zC (zD O (a_call O O (fun w' hw=>(zK6 v'1_ l'2_ w' V (hw.give [2] O qM)).mono ?_)))))
  rintro _ w1 ⟨l'3_,rfl,hf2_1,hf2_1_1,hO⟩
  refine O3 ?_ (hw.qh [2] O hO)
  refine zA (zC (zD O (zI O (zA ?_))))
  exact zU (z9 (v:=v'1_) O O (fun w' hw=>⟨v'1_,l'3_,O,(by rw[←hf1_1];exact hf2_1),hf2_1_1,hw⟩))
def cge(l:List Nat)(x:Nat):Nat:=(l.filter fun y=>decide (x≤y)).length
def cgt(l:List Nat)(x:Nat):Nat:=(l.filter fun y=>decide (x<y)).length
def zED(l:List Nat)(x:Nat):Prop:=l.length<2*cge l x
instance (l:List Nat)(x:Nat):Decidable (zED l x):=inferInstanceAs (Decidable (_<_))
theorem zLK{l m:List Nat}(h:l.Perm m)(x:Nat):cge l x=cge m x:=(h.filter _).length_eq
theorem zLz{l m:List Nat}(h:l.Perm m)(x:Nat):cgt l x=cgt m x:=(h.filter _).length_eq
theorem zIS{s:List Nat}(h:s.Pairwise fun x y=>jE x y){i j:Nat}(hij:i≤j)(hj:j<s.length):zG s i≤zG s j:=by
  by_cases e:i=j
  · rw[e];exact Nat.le_refl _
  have:=List.pairwise_iff_getElem.1 h i j V hj V
  have e1:=nth_eq (List.getElem?_eq_getElem (show i<s.length by omega))
  have e2:=nth_eq (List.getElem?_eq_getElem hj)
  rw[e1,e2]
  exact ole_nat.1 this
theorem zPh{s:List Nat}(h:s.Pairwise fun x y=>jE x y){q:Nat}(hq:q<s.length):s.length≤q+cge s (zG s q):=by
  have hd:∀ y∈s.drop q,decide (zG s q≤y)=true:=by
    intro y hy
    obtain⟨k,hk⟩:=List.mem_iff_getElem?.1 hy
    rw[List.getElem?_drop]at hk
    have hlt:=(List.getElem?_eq_some_iff.1 hk).1
    rw[←nth_eq hk]
    exact decide_eq_true (zIS h V hlt)
  have e:cge s (zG s q)=cge (s.take q) (zG s q)+cge (s.drop q) (zG s q):=by
    unfold cge
    rw[←List.length_append,←List.filter_append,List.take_append_drop]
  have e2:cge (s.drop q) (zG s q)=s.length - q:=by
    unfold cge
    rw[List.filter_eq_self.2 hd,List.length_drop]
  omega
theorem zPQ{s:List Nat}(h:s.Pairwise fun x y=>jE x y){q:Nat}(hq:q<s.length):cgt s (zG s q)+(q+1)≤s.length:=by
  have ht:∀ y∈s.take (q+1),¬(decide (zG s q<y)=true):=by
    intro y hy
    obtain⟨k,hk⟩:=List.mem_iff_getElem?.1 hy
    have hlt:=(List.getElem?_eq_some_iff.1 hk).1
    rw[List.length_take]at hlt
    rw[List.getElem?_take,if_pos V]at hk
    rw[←nth_eq hk]
    have:=zIS h (show k≤q by omega) hq
    simp;omega
  have e:cgt s (zG s q)=cgt (s.take (q+1)) (zG s q)+cgt (s.drop (q+1)) (zG s q):=by
    unfold cgt
    rw[←List.length_append,←List.filter_append,List.take_append_drop]
  have e2:cgt (s.take (q+1)) (zG s q)=0:=by
    unfold cgt
    rw[List.filter_eq_nil_iff.2 ht];rfl
  have e3:cgt (s.drop (q+1)) (zG s q)≤s.length - (q+1):=by
    unfold cgt
    refine Nat.le_trans (List.length_filter_le _ _) ?_
    rw[List.length_drop];exact Nat.le_refl _
  omega
theorem zI4{l s:List Nat}(hp:s.Perm l)(h:s.Pairwise fun x y=>jE x y)(h0:0<l.length):zED l (zG s ((l.length - 1) / 2))∧2*cgt l (zG s ((l.length - 1) / 2))≤l.length∧zG s ((l.length - 1) / 2)∈l:=by
  have hl:=hp.length_eq
  have h1:=zPh h (q:=(l.length - 1) / 2) V
  have h2:=zPQ h (q:=(l.length - 1) / 2) V
  rw[zLK hp]at h1
  rw[zLz hp]at h2
  refine⟨?_,?_,hp.mem_iff.1 (zd V)⟩
  · unfold zED;omega
  omega
theorem zNG{l:List Nat}{m b:Nat}(h:m<b):cge l b≤cgt l m:=by
  unfold cge cgt
  refine(List.Sublist.length_le ?_)
  have:l.filter (fun y=>decide (b≤y))=(l.filter fun y=>decide (m<y)).filter fun y=>decide (b≤y):=by
    rw[List.filter_filter]
    congr 1
    funext y
    by_cases q:b≤y
    · simp[q];omega
    simp[q]
  rw[this]
  exact List.filter_sublist
def jt(c:ConfD)(l:List Nat)(n:Nat)(e:Int):Prop:=
  (¬ c.ok→n=0∧e=2)∧(c.ok→l.length≠c.vs.length→n=0∧e=1)∧(c.ok→l.length=c.vs.length→e=0∧zED l n∧2*cgt l n≤l.length∧n∈l)
theorem zGc{c:ConfD}{l:List Nat}(h:yE c.ok≠0):jt c l 0 (yE c.ok):=
  have hn:¬ c.ok:=fun q=>h (errOf_zero.2 q)
  ⟨fun _=>⟨rfl,j7 hn⟩,fun q=>absurd q hn,fun q=>absurd q hn⟩
theorem zGn{c:ConfD}{l:List Nat}(h:¬ yE c.ok≠0)(h2:((l.length:Nat):Int)≠((c.vs.length:Nat):Int)):jt c l 0 1:=
  have hn:c.ok:=errOf_zero.1 (Decidable.not_not.1 h)
  ⟨fun q=>absurd hn q,fun _ _=>⟨rfl,rfl⟩,fun _ q=>absurd q V⟩
theorem zCd{c:ConfD}{l:List Nat}(h:¬ yE c.ok≠0)(h2:¬((l.length:Nat):Int)≠((c.vs.length:Nat):Int)):0<l.length:=by
  have hn:c.ok:=errOf_zero.1 (Decidable.not_not.1 h)
  have:=hn.1.2
  omega
theorem zHy{c:ConfD}{l s:List Nat}(h:¬ yE c.ok≠0)(h2:¬((l.length:Nat):Int)≠((c.vs.length:Nat):Int))(hp:s.Perm l)(hs:s.Pairwise fun x y=>jE x y):jt c l (zG s ((s.length - 1) / 2)) 0:=by
  have hn:c.ok:=errOf_zero.1 (Decidable.not_not.1 h)
  have h0:=zCd h h2
  have:=zI4 hp hs h0
  rw[hp.length_eq]
  exact⟨fun q=>absurd hn q,fun _ q=>absurd q V,fun _ _=>⟨O,this⟩⟩
theorem zEk{S:List Nat}(c:ConfD)(v:Value)(l:List Nat)(w:World)(hf:c.few)(hl:l.length≤12)(hin:Own w S [Res.vec 22 1 v l.length (l.flatMap U1)] w)(rd_c:ConfD.rd c w S):Rets Tryz.prog 76 #[.agg (ConfD.cells c).toArray,v] w fun u_ w'=>∃ (n:Nat) (e:Int),u_= .tuple #[Vn n,Vi e]∧jt c l n e∧Own w S [Res.vec 22 1 v l.length (l.flatMap U1)] w':=by
  refine zW Tryz.func76 O Tryz.ntmps76 hin ?_
  refine zC (z8 O O (fun b2=>zI O (zI O (zA (zP (zC (yL (cs:=(ConfD.cells c)) 1 O O O (a_call O O (fun w' hw=>(zBl c w' ‹_› (rd_c.at0 hw)).mono ?_)))))))))
  rintro _ w1 ⟨rfl,hO⟩
  refine O2 ?_ (hw.qi hO)
  refine zI O (zA (zC (zD O (xn O O O (zA (za O (fun c1=> ?_) (fun c1=> ?_)))))))
  ·refine zC (zD O (zI O (zI O (zA ?_))))
   exact zU (xz (v:=Vn 0) (v':=Vi (yE c.ok)) O O O (fun w' hw=>⟨0,yE c.ok,O,zGc c1,hw.sel [0] O qM⟩))
  refine zQ (zP (zC (zD O (zp (pV 0 O) O O (zK (o:=0) O O (zM 1 (v:=c.vv) O O O O (zp (pR rd_c.vv) O O (xn O O O (zA (za O (fun c2=> ?_) (fun c2=> ?_)))))))))))
  ·refine zC (zI O (zI O (zA ?_)))
   exact zU (xz (v:=Vn 0) (v':=Vi 1) O O O (fun w' hw=>⟨0,1,O,zGn c1 c2,hw.sel [0] O qM⟩))
  refine zQ (zC (zD O (a_call O O (fun w' hw=>(zOu v l w' (hw.give [0] O qM)).mono ?_))))
  rintro _ w1 ⟨b1_,rfl,hO⟩
  refine O3 ?_ (hw.qh [0] O hO)
  refine a_call O O (fun w' hw=>(zJo b1_ v l w' V (hw.give [2,1] O qM)).mono ?_)
  rintro v'2_ w1 ⟨_,l'3_,rfl,hf6_2,hf6_2_1,hO⟩
  have hsl:=hf6_2.length_eq
  have h0:=zCd c1 c2
  refine O4 ?_ (hw.qh [2,1] O hO)
  refine zI O (zA (zC (zD O (zD O (zp (pV 3 O) O O (x8 (c:=((l'3_.length - 1:Nat):Int)) O O (zCN V V) O (zL6 (c:=(((l'3_.length - 1) / 2:Nat):Int)) O O qM (qui (b:=2) V) O (zk (pV 3 O) 1 ((l'3_.length - 1) / 2) O O O V O (yH (pV 3 O) 1 ((l'3_.length - 1) / 2) 0 (fun _=>O) O O V O O (zI O (zI O (zA ?_))))))))))))
  exact zU (xz (v:=Vn (zG l'3_ ((l'3_.length - 1) / 2))) (v':=Vi 0) O O O (fun w' hw=>⟨(zG l'3_ ((l'3_.length - 1) / 2)),0,O,zHy c1 c2 hf6_2 hf6_2_1,hw.sel [2] O qM⟩))
def xY(l:List Nat):Nat:=(l.filter fun n=>decide (zED l n)).foldl max 0
theorem zJG{l:List Nat}{n:Nat}:∀ {a:Nat},a≤n→(∀ m∈l,m≤n)→(a=n∨n∈l)→l.foldl max a=n:=by
  induction l with
  |nil=>intro a _ _ h;simpa using h
  |cons b l ih=>
    intro a ha hl h
    have hb:=hl b qQ
    refine ih V (fun m hm=>hl m (List.mem_cons_of_mem _ hm)) ?_
    rcases h with h|h
    · left;omega
    rcases List.mem_cons.1 h with h|h
    · left;omega
    exact .inr h
theorem zI9{l:List Nat}{n:Nat}(h:zED l n∧2*cgt l n≤l.length∧n∈l):xY l=n:=by
  refine zJG (Nat.zero_le _) (fun m hm=> ?_) (.inr (List.mem_filter.2 ⟨h.2.2,decide_eq_true h.1⟩))
  have h2:=of_decide_eq_true (List.mem_filter.1 hm).2
  by_cases q:m≤n
  · exact q
  have:=zNG (l:=l) (show n<m by omega)
  unfold zED at h2;omega
end Go.Proofs.YtkkeknmkipkbmaaGreat
