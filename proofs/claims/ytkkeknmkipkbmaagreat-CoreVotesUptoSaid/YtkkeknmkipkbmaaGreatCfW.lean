import Derived.Test.YtkkeknmkipkbmaaGreatEnc
import Derived.Test.YtkkeknmkipkbmaaGreatCoS
import Derived.Test.YtkkeknmkipkbmaaGreatFwW
set_option linter.unusedSectionVars false
set_option linter.unusedSimpArgs false
set_option linter.unusedVariables false
set_option maxRecDepth 10000
namespace Go.Proofs.YtkkeknmkipkbmaaGreat
open Go Go.Sc Go.Proofs
def xq:List Int→Int→List Int
  | [],n=>[n]
  |a::l,n=>if n<a then n::a::l else a::xq l n
def xW(l:List Int)(n:Int):List Int:=l.filter fun x=>decide (x≠n)
theorem jn(n:Int):∀ (l:List Int),(xq l n).Perm (l++[n])
  | []=>by simp[xq]
  |a::l=>by
    unfold xq
    split
    · exact List.perm_append_comm (l₁:=[n]) (l₂:=a::l)
    exact(jn n l).cons a
theorem withR_mem{l:List Int}{n x:Int}:x∈xq l n↔x∈l∨x=n:=by rw[(jn n l).mem_iff];simp
theorem jo(l:List Int)(n:Int):(xq l n).length=l.length+1:=by rw[(jn n l).length_eq];simp
theorem zC8{n:Int}:∀ {l:List Int},l.Pairwise (· < ·)→n∉l→(xq l n).Pairwise (· < ·)
  | [],_,_=>by simp[xq]
  |a::l,h,hn=>by
    rw[List.pairwise_cons]at h
    simp only[List.mem_cons,not_or]at hn
    unfold xq
    split
    · rename_i c
      refine List.pairwise_cons.2 ⟨fun x hx=> ?_,List.pairwise_cons.2 h⟩
      rcases List.mem_cons.1 hx with rfl|hx
      · exact c
      have:=h.1 x hx;omega
    refine List.pairwise_cons.2 ⟨fun x hx=> ?_,zC8 h.2 hn.2⟩
    rcases withR_mem.1 hx with hx|rfl
    · exact h.1 x hx
    omega
theorem zIm{l:List Int}{n:Int}(h:l.Pairwise (· < ·))(hn:n∉l):((l++[n]).mergeSort fun x y=>decide (x≤y))=xq l n:=by
  have h1:((l++[n]).mergeSort fun x y=>decide (x≤y)).Pairwise (fun a b=>decide (a≤b)=true):=List.pairwise_mergeSort (by intro a b c;simp;omega) (by intro a b;simp;omega) _
  have h2:=(zC8 h hn).imp (S:=fun a b=>decide (a≤b)=true) (fun{a b} q=>by simp;omega)
  exact List.Perm.eq_of_pairwise (le:=fun a b=>decide (a≤b)=true) (fun a b _ _ p q=>by simp at p q;omega) h1 h2 ((List.mergeSort_perm _ _).trans (jn n l).symm)
theorem Rises.lt{l:List Int}(h:Rises l):l.Pairwise (· < ·):=(List.pairwise_cons.1 h.1).2
theorem Rises.pos{l:List Int}(h:Rises l):∀ x∈l,1≤x∧x≤16:=fun x hx=>⟨by have:=(List.pairwise_cons.1 h.1).1 x hx;omega,h.2 x hx⟩
theorem zCX{l:List Int}{n:Int}(h:Rises l)(hn:n∉l)(h1:1≤n∧n≤16):Rises (xq l n):=by
  refine⟨List.pairwise_cons.2 ⟨fun x hx=> ?_,zC8 h.lt hn⟩,fun x hx=> ?_⟩
  · rcases withR_mem.1 hx with hx|rfl
    · have:=h.pos x hx;omega
    omega
  rcases withR_mem.1 hx with hx|rfl
  · exact h.2 x hx
  exact h1.2
theorem zBa{l:List Int}{n:Int}(h:Rises l):Rises (xW l n):=
  ⟨List.pairwise_cons.2 ⟨fun x hx=>(List.pairwise_cons.1 h.1).1 x (List.mem_filter.1 hx).1,h.lt.sublist List.filter_sublist⟩,fun x hx=>h.2 x (List.mem_filter.1 hx).1⟩
theorem del_mem{l:List Int}{n x:Int}:x∈xW l n↔x∈l∧x≠n:=by simp[xW]
def chg(kind:Int)(c:ConfA)(id:Int):ConfA×Int:=
  if ¬ c.ok then(⟨[],[]⟩,2)
  else if ¬(1≤id∧id≤16)then(⟨[],[]⟩,1)
  else if kind=1 then(if id∈c.vs∨id∈c.ls then(⟨[],[]⟩,9)else(⟨c.vs,xq c.ls id⟩,0))
  else if kind=2 then(if id∈c.ls then(⟨xq c.vs id,xW c.ls id⟩,0)else(⟨[],[]⟩,8))
  else if ¬(id∈c.vs∨id∈c.ls)then(⟨[],[]⟩,8)
  else if id∈c.vs∧c.vs.length=1 then(⟨[],[]⟩,15)
  else(⟨xW c.vs id,xW c.ls id⟩,0)
theorem zDG(n:Int)(ib:Nat)(id:Int)(w:World)(hib:Rd w [] (Res.row ib 3 [Vi id])):Rets Tryz.prog 201 #[Vi n, .pointer (some ⟨ib,0,none⟩)] w fun u_ w'=>u_= .bool (decide (n=id))∧Own w [] [] w':=by
  refine zW Tryz.func201 O Tryz.ntmps201 (Own.start w) ?_
  refine zB (zI O (zA (zB (zD O (kC (v:=Vi id) O (hib.φ.cell O) (hib.far _ qV) qM O (yS O O O (zI O (zA ?_))))))))
  exact zT (z5 (v:= .bool (decide (n=id))) O O (fun w' hw=>⟨O,hw.drop⟩))
theorem zEn(v:Value)(l:List Int)(ib:Nat)(id:Int)(w:World)(hl:zf l.length)(hib:Rd w [] (Res.row ib 3 [Vi id]))(hv:Rd w [] (Res.sl v l.length (l.flatMap I1))):Rets Tryz.prog 191 #[v, .func (.func 201) #[] #[.pointer (some ⟨ib,0,none⟩)]] w fun u_ w'=>∃ (i:Int),u_=Vi i∧((∃ k:Nat,i=k∧k<l.length∧zG l k=id∧xW (l.take k) id=l.take k)∨(i= -1∧xW l id=l))∧Own w [] [] w':=by
  refine zW Tryz.func191 O Tryz.ntmps191 (Own.start w) ?_
  refine zB (zI O (zA (zN (zB (zD O (zq (pR hv) O O (zD O (zA (zX ?_)))))))))
  refine xQ (fun(k:Nat)=>[(0,v),(1, .func (.func 201) #[] #[.pointer (some ⟨ib,0,none⟩)]),(7,Vj l.length),(8,Vj k)]) (fun(k:Nat)=>k≤l.length∧xW (l.take k) id=l.take k) (fun(k:Nat)=>[]) (fun(k:Nat)=>l.length - k) (fun w' hw=>⟨0,⟨O,O,O,O,trivial⟩,⟨Nat.zero_le _,by simp[xW]⟩,hw⟩) (fun k g hΦ=> ?_)
  refine zB (yH O O O (zA (zN (zY O (fun c1=> ?_) (fun c1=> ?_)))))
  ·refine zO (zN (zX (zB (zD O (zI O (zA (zB (zD O (zD O (zD O (zh (pR hv) 1 k O O O V O (yF (pR hv) 1 k 0 (fun _=>O) O O V O O ?_))))))))))))
   refine yU (fst:=[]) (cap:=[.pointer (some ⟨ib,0,none⟩)]) O qM O O (fun w' hw=>(zDG (zG l k) ib id w' (hw.rd0 hib)).mono ?_)
   rintro _ w1 ⟨rfl,hO⟩
   refine O0 ?_ (hw.qi hO)
   refine zA (zY O (fun c2=> ?_) (fun c2=> ?_))
   ·refine zB (zD O (zI O (zA ?_)))
    exact zT (z5 (v:=Vj k) O O (fun w' hw=>⟨k,O, .inl ⟨k,O,by omega,c2,hΦ.2⟩,hw.drop⟩))
   refine zO (zR (zr O O (zu V) O (zD O ?_)))
   exact ze (fun w' hw=>⟨k+1,⟨O,O,O,O,trivial⟩,⟨by omega,by rw[zt V,xW,List.filter_append];have h:=hΦ.2;unfold xW at h;rw[h];simp[c2]⟩,hw,V⟩)
  refine yB O (zB (zI O (zA ?_)))
  exact zT (z5 (v:=Vi (-1)) O O (fun w' hw=>⟨-1,O, .inr ⟨O,by have h:=hΦ.2;rwa [List.take_of_length_le V]at h⟩,hw.drop⟩))
theorem zIU{l:List Int}{n x:Int}:xW (l++[x]) n=xW l n++if x=n then []else [x]:=by
  unfold xW;rw[List.filter_append];by_cases h:x=n<;>simp[h]
theorem zBg{l:List Int}{j:Nat}{n:Int}(hj:j<l.length):xW (l.take (j+1)) n=xW (l.take j) n++if zG l j=n then []else [zG l j]:=by rw[zt hj,zIU]
theorem zFe{l cl:List Int}{j:Nat}(h:cl.drop j=l.drop j):zG cl j=zG l j:=by
  have:=congrArg (fun q=>zG q 0) h
  simpa [kS]using this
theorem zKk{cl:List Int}{i:Nat}{x:Int}(hi:i<cl.length):(cl.set i x).take (i+1)=cl.take i++[x]:=by
  rw[List.take_add_one,List.take_set_of_le (Nat.le_refl _)];simp[hi]
theorem zK8{cl:List Int}{i j:Nat}{x:Int}(hi:i<j):(cl.set i x).drop j=cl.drop j:=by rw[List.drop_set,if_pos hi]
theorem zEB{l cl:List Int}{j:Nat}(h:cl.drop j=l.drop j):cl.drop (j+1)=l.drop (j+1):=by rw[←List.drop_drop,←List.drop_drop,h]
theorem zIT{S:List Nat}(v:Value)(l:List Int)(ib:Nat)(id:Int)(w:World)(hl:zf l.length)(hin:Own w S [Res.vec 3 1 v l.length (l.flatMap I1)] w)(hib:Rd w S (Res.row ib 3 [Vi id])):Rets Tryz.prog 200 #[v, .func (.func 201) #[] #[.pointer (some ⟨ib,0,none⟩)]] w fun u_ w'=>∃ (r:Value),u_=r∧Own w S [Res.vec 3 1 r (xW l id).length ((xW l id).flatMap I1)] w':=by
  refine zW Tryz.func200 O Tryz.ntmps200 hin ?_
  refine zB (zI O (zA (zB (zD O (zD O (a_call O O (fun w' hw=>(zEn v l ib id w' qO (hw.rd0 hib) (hw.qp 0 O)).mono ?_)))))))
  rintro _ w1 ⟨i1_,rfl,hf1_2,hO⟩
  refine O1 ?_ (hw.qi hO)
  refine zI O (zA (zN (zB (zD O (yS O O O (zA (zY O (fun c1=> ?_) (fun c1=> ?_))))))))
  ·refine zB (zD O (zI O (zA ?_)))
   exact zT (z5 (v:=v) O O (fun w' hw=>⟨v,O,by have h:=hf1_2.elim (fun⟨k,h1,_⟩=>absurd (h1▸c1:(k:Int)= -1) V) (fun h=>h.2);rw[h];exact hw⟩))
  obtain⟨k,hik,hk1,hk2,hk3⟩:=hf1_2.resolve_right (fun h=>c1 h.1)
  refine zO (zN (zB (zD O (zr O O (zu V) O (zI O (zA (zX ?_)))))))
  refine xi (fun(i:Nat) (j:Nat) (cl:List Int)=>[(0,v),(1, .func (.func 201) #[] #[.pointer (some ⟨ib,0,none⟩)]),(5,Vj i),(6,Vj j)]) (fun(i:Nat) (j:Nat) (cl:List Int)=>(i<j∧j≤l.length∧cl.length=l.length)∧cl.take i=xW (l.take j) id∧cl.drop j=l.drop j) (fun(i:Nat) (j:Nat) (cl:List Int)=>[Res.vec 3 1 v cl.length (cl.flatMap I1)]) (fun(i:Nat) (j:Nat) (cl:List Int)=>l.length - j) (fun w' hw=>⟨k,k+1,l,⟨O,O,(congrArg (Value.int .i64) hik),(congrArg (Value.int .i64) (show i1_+1=((k+1:Nat):Int)by omega)),trivial⟩,⟨⟨by omega,by omega,O⟩,by rw[zBg hk1,hk3,if_pos hk2,List.append_nil],O⟩,hw⟩) (fun i j cl g hΦ=> ?_)
  refine zN (zB (zD O (zD O (zq (pV 0 O) O O (yH O O O (zA (zY O (fun c2=> ?_) (fun c2=> ?_))))))))
  ·have hnj:=zFe hΦ.2.2
   refine zO (zN (zX (zB (zD O (zD O (zh (pV 0 O) 1 j O O O V O (yF (pV 0 O) 1 j 0 (fun _=>O) O O V O O (zI O (zA (zB (zD O (zD O ?_))))))))))))
   refine yU (fst:=[]) (cap:=[.pointer (some ⟨ib,0,none⟩)]) O qM O O (fun w' hw=>(zDG (zG cl j) ib id w' (hw.rd0 hib)).mono ?_)
   rintro _ w1 ⟨rfl,hO⟩
   refine O1 ?_ (hw.qi hO)
   refine y2 (q:=(zG cl j)=id) O O (zA (zY O (fun c3=> ?_) (fun c3=> ?_)))
   ·refine zB (zD O (zD O (zD O (zh (pV 0 O) 1 i O O O V O (ym 0 i (zG cl j) O (fun _=>O) O V O O O V (zA (zR (zD O (zr O O (zu V) O (zI O (zA (zR ?_))))))))))))
    refine zD O (zr O O (zu V) O (zI O ?_))
    exact ze (fun w' hw=>⟨i+1,j+1,cl.set i (zG cl j),⟨O,O,O,O,trivial⟩,⟨⟨by omega,by omega,by rw[List.length_set];omega⟩,by rw[zKk V,zBg V,←hnj,if_neg c3,hΦ.2.1],by rw[zK8 V];exact zEB hΦ.2.2⟩,hw,V⟩)
   refine zO (zR (zD O (zr O O (zu V) O (zI O ?_))))
   exact ze (fun w' hw=>⟨i,j+1,cl,⟨O,O,O,O,trivial⟩,⟨⟨by omega,by omega,by omega⟩,by rw[zBg V,←hnj,if_pos (Decidable.not_not.1 c3),List.append_nil,hΦ.2.1],zEB hΦ.2.2⟩,hw,V⟩)
  refine yB O (zB (zD O (zD O (kq (pV 0 O) 1 i cl.length qM O ⟨_,O⟩ O V V O (zJU (g:=I1) (fun _=>O) (z0:=0) O (T:=3) (v:=v) (l:=cl) 0 i O O qM qM O O V (fun cc hcl1 hcl2=>zA (zB (zD O (zD O (kq (pV 0 O) 1 0 i qM O O ⟨_,O⟩ V V O (zI O (zA ?_))))))))))))
  exact zT (z5 (v:=(yx v 0 i 1)) O O (fun w' hw=>⟨(yx v 0 i 1),O,by have h:=hw.cutL (fun _=>rfl) 0 i rfl V;have e:cc.take i=xW l id:=(by rw[hcl2,hΦ.2.1,List.take_of_length_le V]);rw[e]at h;exact h⟩))
theorem zE2{l l':List Int}{id:Int}(hs:l.Pairwise (· < ·))(hn:id∉l)(h:l'.Perm (l++[id]))(h2:l'.Pairwise (fun x y=>jA x y)):l'=xq l id:=by
  rw[←zIm hs hn]
  have h3:((l++[id]).mergeSort fun x y=>decide (x≤y)).Pairwise (fun a b=>decide (a≤b)=true):=List.pairwise_mergeSort (by intro a b c;simp;omega) (by intro a b;simp;omega) _
  refine List.Perm.eq_of_pairwise (le:=fun a b=>decide (a≤b)=true) (fun a b _ _ p q=>by simp at p q;omega) (h2.imp fun q=>by simpa using ole_int.1 q) h3 (h.trans (List.mergeSort_perm _ _).symm)
theorem zKg(v:Value)(l:List Int)(id:Int)(w:World)(hl:l.length≤11)(hs:l.Pairwise (· < ·))(hn:id∉l)(hv:Rd w [] (Res.sl v l.length (l.flatMap I1))):Rets Tryz.prog 177 #[v,Vi id] w fun u_ w'=>∃ (r:Value),u_=r∧Own w [] [Res.vec 3 1 r (xq l id).length ((xq l id).flatMap I1)] w':=by
  refine zW Tryz.func177 O Tryz.ntmps177 (Own.start w) ?_
  refine zB (zI O (zA (zB (zD O (a_call O O (fun w' hw=>(zBF v l w' qO (hw.rd0 hv)).mono ?_))))))
  rintro r1_ w1 ⟨_,rfl,hO⟩
  refine O1 ?_ (hw.qi hO)
  refine zD O (zy (e:=3) (sz:=1) (vs:=[Vi id]) qM O O qQ qL O (fun b9=>z8 (g:=I1) (sz:=1) (by':=8) (fun _=>O) (l:=l) (l':=[id]) qU 0 qM O O O (fun w' hw'=>Vec.sl (Own.holds hw' 1 _ O)) qN qL O (fun v10=>zI O (zA (zB (zD O (a_call O O (fun w' hw=>(zJ5 v10 (l++[id]) w' qR (hw.give [0] O qL)).mono ?_))))))))
  rintro _ w1 ⟨l'2_,rfl,hf2_1,hf2_1_1,hO⟩
  refine O2 ?_ (hw.qg [0] O hO)
  refine zA (zB (zD O (zI O (zA ?_))))
  exact zT (z5 (v:=v10) O O (fun w' hw=>⟨v10,O,by have h:=hw.one 1 rfl;rw[zE2 hs hn hf2_1 hf2_1_1]at h;exact h⟩))
theorem zBj(v:Value)(l:List Int)(id:Int)(w:World)(hl:zf l.length)(hv:Rd w [] (Res.sl v l.length (l.flatMap I1))):Rets Tryz.prog 178 #[v,Vi id] w fun u_ w'=>∃ (r:Value),u_=r∧Own w [] [Res.vec 3 1 r (xW l id).length ((xW l id).flatMap I1)] w':=by
  refine zW Tryz.func178 O Tryz.ntmps178 (Own.start w) ?_
  refine zB (z4 O O (fun b3=>zI O (zA (zB (zD O (a_call O O (fun w' hw=>(zBF v l w' qO (hw.rd0 hv)).mono ?_)))))))
  rintro r1_ w1 ⟨_,rfl,hO⟩
  refine O2 ?_ (hw.qi hO)
  refine zBi (va:=[]) (vb:=[.pointer (some ⟨b3,0,none⟩)]) O O O (a_call O O (fun w' hw=>(zIT r1_ l b3 id w' qO (hw.give [1] O qL) (hw.rdRes 0 O [1] O O)).mono ?_))
  rintro r2_ w1 ⟨_,rfl,hO⟩
  refine O2 ?_ (hw.qg [1] O hO)
  refine zI O (zA ?_)
  exact zT (z5 (v:=r2_) O O (fun w' hw=>⟨r2_,O,hw.sel [1] O qL⟩))
def ConfA.mem(c:ConfA)(id:Int):Prop:=id∈c.vs∨id∈c.ls
theorem Rises.few'{l:List Int}(h:Rises l):l.length≤16∧∀ x∈l,0≤x∧x≤16:=by
  have key:∀ k,k≤l.length→∀ j,j<k→(j:Int)+1≤zG l j:=by
    intro k
    induction k with
    |zero=>intro _ j hj;omega
    |succ k ih=>
      intro hk j hj
      have hs:=(zAl (k:=k) V (h.take k)).1 (h.take (k+1))
      by_cases e:j=k
      · subst e
        rcases Nat.eq_zero_or_pos j with rfl|hp
        · simpa using hs.2.1
        have:=ih V (j - 1) V;have:=hs.2.2 hp;omega
      exact ih V j V
  constructor
  · rcases Nat.eq_zero_or_pos l.length with h0|h0
    · omega
    have h1:=key l.length (Nat.le_refl _) (l.length - 1) V
    have h2:=h.2 _ (zd (l:=l) (j:=l.length - 1) V)
    omega
  intro x hx
  refine⟨?_,h.2 x hx⟩
  have:=h.1
  rw[List.pairwise_cons]at this
  have:=this.1 x hx;omega
theorem zHU{k:Int}{c:ConfA}{id:Int}(h:¬ c.ok):chg k c id=(⟨[],[]⟩,2):=if_pos h
theorem zL8{k:Int}{c:ConfA}{id:Int}(h:c.ok)(h1:¬(1≤id∧id≤16)):chg k c id=(⟨[],[]⟩,1):=by unfold chg;rw[if_neg (by simpa using h),if_pos h1]
theorem zMr{c:ConfD}{id:Int}(h:c.ok)(h1:1≤id∧id≤16):chg 1 c.a id=if id∈c.vs∨id∈c.ls then(⟨[],[]⟩,9)else(⟨c.vs,xq c.ls id⟩,0):=by
  have h:c.a.ok:=h
  unfold chg;rw[if_neg (by simpa using h),if_neg (by simpa using h1),if_pos rfl];rfl
theorem zMp{c:ConfD}{id:Int}(h:c.ok)(h1:1≤id∧id≤16):chg 2 c.a id=if id∈c.ls then(⟨xq c.vs id,xW c.ls id⟩,0)else(⟨[],[]⟩,8):=by
  have h:c.a.ok:=h
  unfold chg;rw[if_neg (by simpa using h),if_neg (by simpa using h1),if_neg qL,if_pos rfl];rfl
theorem zKs{k:Int}{c:ConfD}{id:Int}(h:c.ok)(h1:1≤id∧id≤16)(hk:k≠1)(hk2:k≠2):chg k c.a id=if ¬(id∈c.vs∨id∈c.ls)then(⟨[],[]⟩,8)else if id∈c.vs∧c.vs.length=1 then(⟨[],[]⟩,15)else(⟨xW c.vs id,xW c.ls id⟩,0):=by
  have h:c.a.ok:=h
  unfold chg;rw[if_neg (by simpa using h),if_neg (by simpa using h1),if_neg hk,if_neg hk2];rfl
def jk(p:Prop)[Decidable p](id:Int):Int:=if ¬ p then 2 else if ¬(1≤id∧id≤16)then 1 else 0
theorem zKx{p:Prop}[Decidable p]{id:Int}(h:z9 p≠0):z9 p=jk p id:=by
  have hp:¬ p:=fun q=>h (jE q)
  rw[jj hp];unfold jk;rw[if_pos hp]
theorem zJa{p:Prop}[Decidable p]{id:Int}(h:¬ z9 p≠0)(h1:¬(1≤id∧id≤16)):1=jk p id:=by
  have hp:p:=errOf_zero.1 (Decidable.not_not.1 h)
  unfold jk;rw[if_neg (by simpa using hp),if_pos h1]
theorem zHD{p:Prop}[Decidable p]{id:Int}(hp:p)(h1:1≤id∧id≤16):jk p id=0:=by
  unfold jk;rw[if_neg (by simpa using hp),if_neg (by simpa using h1)]
theorem zBc{p:Prop}[Decidable p]{id:Int}(h:¬ jk p id≠0):p∧1≤id∧id≤16:=by
  have h:=Decidable.not_not.1 h
  unfold jk at h
  by_cases hp:p
  · by_cases h1:1≤id∧id≤16
    · exact⟨hp,h1⟩
    rw[if_neg (by simpa using hp),if_pos h1]at h;cases h
  rw[if_pos hp]at h;cases h
theorem zEH{k:Int}{c:ConfD}{id:Int}(h:jk c.ok id≠0):chg k c.a id=(⟨[],[]⟩,jk c.ok id):=by
  by_cases hp:c.ok
  · by_cases h1:1≤id∧id≤16
    · exact absurd (zHD hp h1) h
    rw[zL8 (c:=c.a) hp h1];unfold jk;rw[if_neg (by simpa using hp),if_pos h1]
  rw[zHU (c:=c.a) hp];unfold jk;rw[if_pos hp]
theorem zHh{l:List Int}{x:Int}(h:l.length=1):x∈l↔zG l 0=x:=by
  match l,h with
  | [a],_=>simp[zG];exact eq_comm
theorem zC9(c:ConfD)(id:Int)(w:World)(hf:c.few)(rd_c:ConfD.rd c w []):Rets Tryz.prog 176 #[.agg (ConfD.cells c).toArray,Vi id] w fun u_ w'=>u_=Vi (jk c.ok id)∧Own w [] [] w':=by
  refine zW Tryz.func176 O Tryz.ntmps176 (Own.start w) ?_
  refine zB (z4 O O (fun b2=>zI O (zA (zN (zB (yI (cs:=(ConfD.cells c)) 0 O O O (a_call O O (fun w' hw=>(zA3 c w' ‹_› (rd_c.at0 hw)).mono ?_))))))))
  rintro _ w1 ⟨rfl,hO⟩
  refine O1 ?_ (hw.qi hO)
  refine zI O (zA (zB (zD O (xa O O O (zA (zY O (fun c1=> ?_) (fun c1=> ?_)))))))
  ·refine zB (zD O (zI O (zA ?_)))
   exact zT (z5 (v:=Vi (z9 c.ok)) O O (fun w' hw=>⟨(by congr 1;exact zKx c1),hw.drop⟩))
  refine zO (zN (zB (zD O (yH O O O (zD O (yk (q:=id<1) 2 2 [15,14] (16<id) O O O O O O trivial O (fun h4_2=> ?_) (fun g4_5=> ?_)))))))
  ·refine zS O (gF h4_2) (zD O (zS O (gF h4_2) (yz O O O ?_)))
   exact yP O (fun _ hw=>hw)
  refine zA (zY O (fun c2=> ?_) (fun c2=> ?_))
  ·refine zB (zI O (zA ?_))
   exact zT (z5 (v:=Vi 1) O O (fun w' hw=>⟨(by congr 1;exact zJa c1 V),hw.drop⟩))
  refine zO (zB (zI O (zA ?_)))
  exact zT (z5 (v:=Vi 0) O O (fun w' hw=>⟨(by congr 1;exact(zHD (errOf_zero.1 (Decidable.not_not.1 c1)) V).symm),hw.drop⟩))
theorem zLi(c:ConfD)(id:Int)(w:World)(hf:c.few)(h11:c.vs.length≤11∧c.ls.length≤11)(rd_c:ConfD.rd c w []):Rets Tryz.prog 137 #[.agg (ConfD.cells c).toArray,Vi id] w fun u_ w'=>∃ (a:Value) (vs:List Int) (b:Value) (ls:List Int) (e:Int),u_= .tuple #[.agg #[a,b],Vi e]∧chg 1 c.a id=(⟨vs,ls⟩,e)∧Own w [] [Res.vec 3 1 a vs.length (vs.flatMap I1),Res.vec 3 1 b ls.length (ls.flatMap I1)] w':=by
  have hc:=hf.wf
  have hv:=hf.vs
  have hl:=hf.ls
  refine zW Tryz.func137 O Tryz.ntmps137 (Own.start w) ?_
  refine zB (z4 O O (fun b2=>yE (v:= .agg #[.slice none 0 0, .slice none 0 0]) qM O (fun b4=>zI O (zA (zN (zB (yI (cs:=(ConfD.cells c)) 0 O O O (zD O (a_call O O (fun w' hw=>(zC9 c id w' ‹_› (rd_c.at0 hw)).mono ?_))))))))))
  rintro _ w1 ⟨rfl,hO⟩
  refine O2 ?_ (hw.qi hO)
  refine zI O (zA (zB (zD O (xa O O O (zA (zY O (fun c1=> ?_) (fun c1=> ?_)))))))
  ·refine zB (yc (cs:=[.slice none 0 0, .slice none 0 0]) (z:=[.slice none 0 0, .slice none 0 0]) (pl:=[(0,1),(1,1)]) qM qM O (zD O (zp 1 O O O (xO O) O (zI O (zA ?_)))))
   exact zT (xj (cs:=[.slice none 0 0, .slice none 0 0]) (v:=Vi (jk c.ok id)) O O O qM (Own.qq (i:=1) O) (fun w' hw=>⟨.slice none 0 0,[], .slice none 0 0,[],(jk c.ok id),O,zEH c1,(zl (zl hw 3 1) 3 1).sel [2,3] O qL⟩))
  obtain⟨hok,hid⟩:=zBc c1
  refine zO (zN (zB (yI (cs:=(ConfD.cells c)) 0 O O O (zD O (a_call O O (fun w' hw=>(zBO c id w' ‹_› (rd_c.at0 hw)).mono ?_))))))
  rintro _ w1 ⟨rfl,hO⟩
  refine O2 ?_ (hw.qi hO)
  refine zA (zY O (fun c2=> ?_) (fun c2=> ?_))
  ·refine zB (yc (cs:=[.slice none 0 0, .slice none 0 0]) (z:=[.slice none 0 0, .slice none 0 0]) (pl:=[(0,1),(1,1)]) qM qM O (zp 1 O O O (xO O) O (zI O (zA ?_))))
   exact zT (xj (cs:=[.slice none 0 0, .slice none 0 0]) (v:=Vi 9) O O O qM (Own.qq (i:=1) O) (fun w' hw=>⟨.slice none 0 0,[], .slice none 0 0,[],9,O,(by rw[zMr hok hid,if_pos c2.2]),(zl (zl hw 3 1) 3 1).sel [2,3] O qL⟩))
  refine zO (zN (zi [0] O qL qM (fun w' hw hS=>zC 0 O (zH (o:=0) O) hS (zC 1 O (za 0 (v:=c.vv) O O O) hS (zC 3 O (zH (o:=1) O) hS (zC 4 O (za 0 (v:=c.lv) O O O) hS (zC 5 O zU hS (zK 2 O hw (a_call O O (fun w' hw=>(zBF c.vv c.vs w' qO (hw.rd0 rd_c.vv)).mono ?_))))))))))
  rintro r1_ w1 ⟨_,rfl,hO⟩
  refine O3 ?_ (hw.qi hO)
  refine zE [0] O qL (fun w' hw hS=>zK 6 O hw (a_call O O (fun w' hw=>(zKg c.lv c.ls id w' h11.2 hok.1.1.2.lt (fun h=>c2 ⟨hok, .inr h⟩) (hw.rd0 rd_c.lv)).mono ?_)))
  rintro r2_ w1 ⟨_,rfl,hO⟩
  refine O4 ?_ (hw.qi hO)
  refine zE [0] O qL (fun w' hw hS=>zK 7 O hw ?_)
  refine zP (fun w' hw=>Own.qh (i:=2) O hw) (fun hc3_=> ?_)
  refine zP (fun w' hw=>Own.qh (i:=3) O hw) (fun hc4_=> ?_)
  refine jJ (cs:=[r1_,r2_]) (z:=[.slice none 0 0, .slice none 0 0]) (pl:=[(0,1),(1,1)]) qM ⟨hc3_,hc4_,trivial⟩ qM O (zE [0] O qL (fun w' hw hS=>zK 8 O hw (zp 1 O O O (zF hc3_ (zF hc4_ zk)) O (zE [0] O qL (fun w' hw hS=>zC 9 O yN hS (zV ?_))))))
  refine Oc4 ?_ hw
  exact zT (xj (cs:=[r1_,r2_]) (v:=Vi 0) O O O qM (Own.qq (i:=1) O) (fun w' hw=>⟨r1_,c.vs,r2_,(xq c.ls id),0,O,(by rw[zMr hok hid,if_neg (fun h=>c2 ⟨hok,h⟩)]),hw.sel [2,3] O qL⟩))
theorem zNh(c:ConfD)(id:Int)(w:World)(hf:c.few)(h11:c.vs.length≤11∧c.ls.length≤11)(rd_c:ConfD.rd c w []):Rets Tryz.prog 138 #[.agg (ConfD.cells c).toArray,Vi id] w fun u_ w'=>∃ (a:Value) (vs:List Int) (b:Value) (ls:List Int) (e:Int),u_= .tuple #[.agg #[a,b],Vi e]∧chg 2 c.a id=(⟨vs,ls⟩,e)∧Own w [] [Res.vec 3 1 a vs.length (vs.flatMap I1),Res.vec 3 1 b ls.length (ls.flatMap I1)] w':=by
  have hc:=hf.wf
  have hv:=hf.vs
  have hl:=hf.ls
  refine zW Tryz.func138 O Tryz.ntmps138 (Own.start w) ?_
  refine zB (z4 O O (fun b2=>yE (v:= .agg #[.slice none 0 0, .slice none 0 0]) qM O (fun b4=>zI O (zA (zN (zB (yI (cs:=(ConfD.cells c)) 0 O O O (zD O (a_call O O (fun w' hw=>(zC9 c id w' ‹_› (rd_c.at0 hw)).mono ?_))))))))))
  rintro _ w1 ⟨rfl,hO⟩
  refine O2 ?_ (hw.qi hO)
  refine zI O (zA (zB (zD O (xa O O O (zA (zY O (fun c1=> ?_) (fun c1=> ?_)))))))
  ·refine zB (yc (cs:=[.slice none 0 0, .slice none 0 0]) (z:=[.slice none 0 0, .slice none 0 0]) (pl:=[(0,1),(1,1)]) qM qM O (zD O (zp 1 O O O (xO O) O (zI O (zA ?_)))))
   exact zT (xj (cs:=[.slice none 0 0, .slice none 0 0]) (v:=Vi (jk c.ok id)) O O O qM (Own.qq (i:=1) O) (fun w' hw=>⟨.slice none 0 0,[], .slice none 0 0,[],(jk c.ok id),O,zEH c1,(zl (zl hw 3 1) 3 1).sel [2,3] O qL⟩))
  obtain⟨hok,hid⟩:=zBc c1
  refine zO (zN (zB (zJ (o:=1) O O (zL 0 (v:=c.lv) O O O O (zD O (a_call O O (fun w' hw=>(kT c.lv c.ls id w' qO (hw.rd0 rd_c.lv)).mono ?_)))))))
  rintro _ w1 ⟨rfl,hO⟩
  refine O2 ?_ (hw.qi hO)
  refine y2 (q:=id∈c.ls) O O (zA (zY O (fun c2=> ?_) (fun c2=> ?_)))
  ·refine zB (yc (cs:=[.slice none 0 0, .slice none 0 0]) (z:=[.slice none 0 0, .slice none 0 0]) (pl:=[(0,1),(1,1)]) qM qM O (zp 1 O O O (xO O) O (zI O (zA ?_))))
   exact zT (xj (cs:=[.slice none 0 0, .slice none 0 0]) (v:=Vi 8) O O O qM (Own.qq (i:=1) O) (fun w' hw=>⟨.slice none 0 0,[], .slice none 0 0,[],8,O,(by rw[zMp hok hid,if_neg c2]),(zl (zl hw 3 1) 3 1).sel [2,3] O qL⟩))
  refine zO (zN (zi [0] O qL qM (fun w' hw hS=>zC 0 O (zH (o:=0) O) hS (zC 1 O (za 0 (v:=c.vv) O O O) hS (zC 2 O zU hS (zC 4 O (zH (o:=1) O) hS (zC 5 O (za 0 (v:=c.lv) O O O) hS (zC 6 O zU hS (zK 3 O hw (a_call O O (fun w' hw=>(zKg c.vv c.vs id w' h11.1 hok.1.1.1.lt (fun h=>hok.2 id h (Decidable.not_not.1 c2)) (hw.rd0 rd_c.vv)).mono ?_)))))))))))
  rintro r1_ w1 ⟨_,rfl,hO⟩
  refine O3 ?_ (hw.qi hO)
  refine zE [0] O qL (fun w' hw hS=>zK 7 O hw (a_call O O (fun w' hw=>(zBj c.lv c.ls id w' qO (hw.rd0 rd_c.lv)).mono ?_)))
  rintro r2_ w1 ⟨_,rfl,hO⟩
  refine O4 ?_ (hw.qi hO)
  refine zE [0] O qL (fun w' hw hS=>zK 8 O hw ?_)
  refine zP (fun w' hw=>Own.qh (i:=2) O hw) (fun hc3_=> ?_)
  refine zP (fun w' hw=>Own.qh (i:=3) O hw) (fun hc4_=> ?_)
  refine jJ (cs:=[r1_,r2_]) (z:=[.slice none 0 0, .slice none 0 0]) (pl:=[(0,1),(1,1)]) qM ⟨hc3_,hc4_,trivial⟩ qM O (zE [0] O qL (fun w' hw hS=>zK 9 O hw (zp 1 O O O (zF hc3_ (zF hc4_ zk)) O (zE [0] O qL (fun w' hw hS=>zC 10 O yN hS (zV ?_))))))
  refine Oc4 ?_ hw
  exact zT (xj (cs:=[r1_,r2_]) (v:=Vi 0) O O O qM (Own.qq (i:=1) O) (fun w' hw=>⟨r1_,(xq c.vs id),r2_,(xW c.ls id),0,O,(by rw[zMp hok hid,if_pos (Decidable.not_not.1 c2)]),hw.sel [2,3] O qL⟩))
theorem zLo(c:ConfD)(id:Int)(w:World)(hf:c.few)(rd_c:ConfD.rd c w []):Rets Tryz.prog 139 #[.agg (ConfD.cells c).toArray,Vi id] w fun u_ w'=>∃ (a:Value) (vs:List Int) (b:Value) (ls:List Int) (e:Int),u_= .tuple #[.agg #[a,b],Vi e]∧chg 3 c.a id=(⟨vs,ls⟩,e)∧Own w [] [Res.vec 3 1 a vs.length (vs.flatMap I1),Res.vec 3 1 b ls.length (ls.flatMap I1)] w':=by
  have hc:=hf.wf
  have hv:=hf.vs
  have hl:=hf.ls
  refine zW Tryz.func139 O Tryz.ntmps139 (Own.start w) ?_
  refine zB (z4 O O (fun b2=>yE (v:= .agg #[.slice none 0 0, .slice none 0 0]) qM O (fun b4=>zI O (zA (zN (zB (yI (cs:=(ConfD.cells c)) 0 O O O (zD O (a_call O O (fun w' hw=>(zC9 c id w' ‹_› (rd_c.at0 hw)).mono ?_))))))))))
  rintro _ w1 ⟨rfl,hO⟩
  refine O2 ?_ (hw.qi hO)
  refine zI O (zA (zB (zD O (xa O O O (zA (zY O (fun c1=> ?_) (fun c1=> ?_)))))))
  ·refine zB (yc (cs:=[.slice none 0 0, .slice none 0 0]) (z:=[.slice none 0 0, .slice none 0 0]) (pl:=[(0,1),(1,1)]) qM qM O (zD O (zp 1 O O O (xO O) O (zI O (zA ?_)))))
   exact zT (xj (cs:=[.slice none 0 0, .slice none 0 0]) (v:=Vi (jk c.ok id)) O O O qM (Own.qq (i:=1) O) (fun w' hw=>⟨.slice none 0 0,[], .slice none 0 0,[],(jk c.ok id),O,zEH c1,(zl (zl hw 3 1) 3 1).sel [2,3] O qL⟩))
  obtain⟨hok,hid⟩:=zBc c1
  refine zO (zN (zX (zB (yI (cs:=(ConfD.cells c)) 0 O O O (zD O (a_call O O (fun w' hw=>(zBO c id w' ‹_› (rd_c.at0 hw)).mono ?_)))))))
  rintro _ w1 ⟨rfl,hO⟩
  refine O2 ?_ (hw.qi hO)
  refine y2 (q:=c.ok∧(id∈c.vs∨id∈c.ls)) O O (zI O (zA (zY O (fun c2=> ?_) (fun c2=> ?_))))
  ·refine zB (yc (cs:=[.slice none 0 0, .slice none 0 0]) (z:=[.slice none 0 0, .slice none 0 0]) (pl:=[(0,1),(1,1)]) qM qM O (zp 1 O O O (xO O) O (zI O (zA ?_))))
   exact zT (xj (cs:=[.slice none 0 0, .slice none 0 0]) (v:=Vi 8) O O O qM (Own.qq (i:=1) O) (fun w' hw=>⟨.slice none 0 0,[], .slice none 0 0,[],8,O,(by rw[zKs hok hid qL qL,if_pos (fun h=>c2 ⟨hok,h⟩)]),(zl (zl hw 3 1) 3 1).sel [2,3] O qL⟩))
  have hme:id∈c.vs∨id∈c.ls:=(Decidable.not_not.1 c2).2
  refine zB (zJ (o:=0) O O (zL 0 (v:=c.vv) O O O O (zq (pR rd_c.vv) O O (yS O O O (zD O (yO (q:=((c.vs.length:Nat):Int)=1) 6 4 [31,30,29,28,27,26] ((zG c.vs 0)=id) O O O O O O trivial O (fun h6_4=> ?_) (fun g6_11=> ?_)))))))
  ·refine zS O (gT h6_4) (zJ (o:=0) O O (zS O (gT h6_4) (zL 0 (v:=c.vv) O O O O (zS O (gT h6_4) (zh (pR rd_c.vv) 1 0 O O O V O (zS O (gT h6_4) (yF (pR rd_c.vv) 1 0 0 (fun _=>O) O V V O O (zS O (gT h6_4) (zD O (zS O (gT h6_4) (yS O O O ?_)))))))))))
   exact yP O (fun _ hw=>hw)
  refine zI O (zA (zY O (fun c3=> ?_) (fun c3=> ?_)))
  ·refine zB (yc (cs:=[.slice none 0 0, .slice none 0 0]) (z:=[.slice none 0 0, .slice none 0 0]) (pl:=[(0,1),(1,1)]) qM qM O (zp 1 O O O (xO O) O (zI O (zA ?_))))
   exact zT (xj (cs:=[.slice none 0 0, .slice none 0 0]) (v:=Vi 15) O O O qM (Own.qq (i:=1) O) (fun w' hw=>⟨.slice none 0 0,[], .slice none 0 0,[],15,O,(by rw[zKs hok hid qL qL,if_neg (fun h=>h hme),if_pos ⟨(zHh V).2 c3.2,show c.vs.length=1 by omega⟩]),(zl (zl hw 3 1) 3 1).sel [2,3] O qL⟩))
  refine zO (zN (zi [0] O qL qM (fun w' hw hS=>zC 0 O (zH (o:=0) O) hS (zC 1 O (za 0 (v:=c.vv) O O O) hS (zC 2 O zU hS (zC 4 O (zH (o:=1) O) hS (zC 5 O (za 0 (v:=c.lv) O O O) hS (zC 6 O zU hS (zK 3 O hw (a_call O O (fun w' hw=>(zBj c.vv c.vs id w' qO (hw.rd0 rd_c.vv)).mono ?_)))))))))))
  rintro r1_ w1 ⟨_,rfl,hO⟩
  refine O3 ?_ (hw.qi hO)
  refine zE [0] O qL (fun w' hw hS=>zK 7 O hw (a_call O O (fun w' hw=>(zBj c.lv c.ls id w' qO (hw.rd0 rd_c.lv)).mono ?_)))
  rintro r2_ w1 ⟨_,rfl,hO⟩
  refine O4 ?_ (hw.qi hO)
  refine zE [0] O qL (fun w' hw hS=>zK 8 O hw ?_)
  refine zP (fun w' hw=>Own.qh (i:=2) O hw) (fun hc3_=> ?_)
  refine zP (fun w' hw=>Own.qh (i:=3) O hw) (fun hc4_=> ?_)
  refine jJ (cs:=[r1_,r2_]) (z:=[.slice none 0 0, .slice none 0 0]) (pl:=[(0,1),(1,1)]) qM ⟨hc3_,hc4_,trivial⟩ qM O (zE [0] O qL (fun w' hw hS=>zK 9 O hw (zp 1 O O O (zF hc3_ (zF hc4_ zk)) O (zE [0] O qL (fun w' hw hS=>zC 10 O yN hS (zV ?_))))))
  refine Oc4 ?_ hw
  exact zT (xj (cs:=[r1_,r2_]) (v:=Vi 0) O O O qM (Own.qq (i:=1) O) (fun w' hw=>⟨r1_,(xW c.vs id),r2_,(xW c.ls id),0,O,(by rw[zKs hok hid qL qL,if_neg (fun h=>h hme),if_neg (fun h=>c3 ⟨by have:c.vs.length=1:=h.2;omega,(zHh h.2).1 h.1⟩)]),hw.sel [2,3] O qL⟩))
end Go.Proofs.YtkkeknmkipkbmaaGreat
