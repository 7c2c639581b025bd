import Derived.Test.YthpoddkmhfhboaaGreatDoorIn
set_option linter.unusedSimpArgs false
set_option linter.unusedVariables false
set_option maxRecDepth 10000
namespace Go.Proofs.YthpoddkmhfhboaaGreatDoor
open Go.Sc
theorem BytesPost.yes{p:Option (List UInt8×Nat)}{d:List UInt8}{k:Nat}{e:Int}(h:BytesPost p d k e)(a:e=0):p=some (d,k):=by
 rcases h with h|h
 · exact h.2
 exact absurd a h.1
theorem BytesPost.no{p:Option (List UInt8×Nat)}{d:List UInt8}{k:Nat}{e:Int}(h:BytesPost p d k e)(a:e≠0):p=none:=by
 rcases h with h|h
 · exact absurd h.1 a
 exact h.2
def zJR{α:Type}(p:List UInt8→Nat→Option (α×Nat)):Nat→List UInt8→Nat→Option (List α×Nat)
 |0=>xZ []
 |k+1=>yp (zJR p k) fun l=>yp p fun x=>xZ (l++[x])
theorem RdS.snoc{α:Type}{p:List UInt8→Nat→Option (α×Nat)}{b:List UInt8}{a a1 a2 k:Nat}{bad bad1 bad2:Bool}{l:List α}{x:α}(h1:RdS (zJR p k) b a bad l a1 bad1)(h2:RdS p b a1 bad1 x a2 bad2):RdS (zJR p (k+1)) b a bad (l++[x]) a2 bad2:=
 h1.bind (h2.map (l++[·]))
def zGI(most:Nat):List UInt8→Nat→Option (Int×Nat):=yp (j9 most) fun n=>xZ (n:Int)
def zNd:List UInt8→Nat→Option (List Int×Nat):=yp (j9 16) fun n=>zJR (zGI 16) n
theorem zPP{b:List UInt8}{a a1 a2 n k:Nat}{bad bad1 bad2:Bool}{l:List Int}(h1:RdS (j9 16) b a bad n a1 bad1)(h2:RdS (zJR (zGI 16) k) b a1 bad1 l a2 bad2)(e:k=n):RdS zNd b a bad l a2 bad2:=by
 subst e;exact h1.bind h2
theorem zGB{S:List Nat}(o:Nat)(v:Value)(b:List UInt8)(a:Nat)(bad:Bool)(w:World)(hl:zg b.length)(p:a≤b.length)(m:Own w S [Res.row o 470 [v,Vj a, .bool bad]] w)(hb:Rd w S (Res.sl v b.length (b.map vb))):Rets Tryz.prog 282 #[.pointer (some ⟨o,0,none⟩)] w fun x j=>∃ (r:Value) (d:List UInt8) (q:Nat) (k:Bool),x=r∧RdS jE b a bad d q k∧d.length≤b.length∧Own w S [Res.row o 470 [v,Vj q, .bool k],Res.vec 5 1 r d.length (d.map vb)] j:=by
 refine zO Tryz.func282 O Tryz.ntmps282 m (zB (zF O (zA (zK (zB (zC O (zV O O (zI (o:=2) O O (zJ 0 (v:= .bool bad) O O O O (zA (jJ O (fun s=> ?_) (fun s=> ?_))))))))))))
 ·refine zB (zF O (zA (zP (zm (v:=zW) O O (fun j g=>⟨.slice none 0 0,[],a,bad,O,RdS.badly s p,qJ,zq g 5 1⟩)))))
 refine zN (zK (zd [0] O V qF (fun j g e=>zD 0 O za e (zD 1 O (zY O) e (zD 2 O (zL (o:=0) O) e (zD 3 O (zZ 0 (v:=v) O O O) e (zD 4 O za e (zD 5 O (zY O) e (zD 6 O (zL (o:=1) O) e (zD 7 O (zZ 0 (v:=Vj a) O O O) e (zM 8 O g (zG O O (fun j g=>((zOt v b a j qI qH (g.rd0 hb)).mono ?_))))))))))))))
 rintro _ y ⟨h,n,i,l,rfl,c,z⟩
 refine(?_:CL _ _ _ _ _ _ (Own w S [_,_])) y (g.qb z)
 refine zE [0] O V (fun j g e=>zD 9 O za e (zD 10 O (yG (vs:=[h,Vj i,Vi l]) O O) e (zD 11 O (yG (vs:=[h,Vj i,Vi l]) O O) e (zD 12 O (yG (vs:=[h,Vj i,Vi l]) O O) e (zD 13 O yB e (zD 14 O yB e (zD 15 O yB e (zX ((?_:C _ _ _ _ _ _ _ (Own w S [_,_])) _ g)))))))))
 refine zK (zB (zC O (yf O O O (zA (zT O (fun u=> ?_) (fun u=> ?_))))))
 ·refine zB (zC O (zV O O (zI (o:=2) O O (zi (cs:=[v,Vj a, .bool bad]) 0 O O O O O (zA (zB (zF O (zA (zP (zm (v:=zW) O O (fun j g=>⟨.slice none 0 0,[],a,true,O,RdS.fail p fun _=>c.no u,qJ,zq (g.one 0 O) 5 1⟩)))))))))))
 refine zN (zB (zC O (zC O (zV O O (zI (o:=1) O O (zi (cs:=[v,Vj a, .bool bad]) 0 O O O O O (zA (zB (zC O (zF O (zA (zP (zm (v:=h) O O (fun j g=>⟨h,n,i,bad,O,RdS.done (zCt (c.yes qG)).1 (c.yes qG),(zCt (c.yes qG)).2,g⟩))))))))))))))
theorem _root_.Go.Sc.qO{p:Prop}(h:p:=by simp[cell1,I1]):p:=h
theorem zIW{S:List Nat}(o:Nat)(v:Value)(b:List UInt8)(a:Nat)(bad:Bool)(w:World)(hl:zg b.length)(ha:a≤b.length)(a3:Own w S [Res.row o 470 [v,Vj a, .bool bad]] w)(hb:Rd w S (Res.sl v b.length (b.map vb))):Rets Tryz.prog 426 #[.pointer (some ⟨o,0,none⟩)] w fun u_ j=>∃ (r:Value) (l:List Int) (a':Nat) (p:Bool),u_=r∧RdS zNd b a bad l a' p∧l.length≤16∧Own w S [Res.row o 470 [v,Vj a', .bool p],Res.vec 3 1 r l.length (l.flatMap I1)] j:=by
 refine zO Tryz.func426 O Tryz.ntmps426 a3 (zB (zF O (zA (zB (zF O (zA (zK (zB (zC O (zG O O (fun j h=>(j3 o v b a bad 16 j qI qH qH (h.give [0] O V) (h.rdTo hb [0] O)).mono ?_)))))))))))
 rintro _ w1 ⟨u,q,d,rfl,i,z,hO⟩
 refine fq [0] O h hO (zC O (zA (zU (zAz (fun(k:Nat) (lv:Value) (l:List Int) (s:Nat) (c:Bool)=>[(0, .pointer (some ⟨o,0,none⟩)),(3,lv),(5,Vj u),(6,Vj k)]) (fun(k:Nat) (lv:Value) (l:List Int) (s:Nat) (c:Bool)=>(k≤u∧l.length=k)∧RdS (zJR (zGI 16) k) b q d l s c) (fun(k:Nat) (lv:Value) (l:List Int) (s:Nat) (c:Bool)=>[Res.row o 470 [v,Vj s, .bool c],Res.vec 3 1 lv l.length (l.flatMap I1)]) (fun(k:Nat) (lv:Value) (l:List Int) (s:Nat) (c:Bool)=>u - k) (fun j h=>⟨0,zW,[],q,d,⟨O,O,O,O,trivial⟩,⟨⟨Nat.zero_le _,O⟩,RdS.pure _ i.le⟩,zq h 3 1⟩) (fun k lv l s c g hΦ=> ?_)))))
 have a7:=hΦ.2.le
 have a4:=hΦ.1.2
 refine zB (zu O O O (zA (zK (zT O (fun c1=> ?_) (fun c1=> ?_)))))
 ·refine zN (zK (zU (ze (zC O (zC O (zG O O (fun j h=>(j3 o v b s c 16 j qI qH qH (h.give [0] O V) (h.rdTo hb [0] O)).mono ?_)))))))
  rintro _ w1 ⟨x,a0,m,rfl,y,a1,hO⟩
  refine fq [0] O h hO (yH (e:=3) (sz:=1) (vs:=[Vj x]) qF O O qL V O (fun a8=>yF (g:=I1) (sz:=1) (by':=8) (fun _=>O) (l:=l) (l':=[((x:Nat):Int)]) qO 0 qF O O O (fun j a5=>Vec.sl (Own.holds a5 2 _ O)) qH V O (fun a6=>zF O (zA (ze (zr O O (zt qG) O (zC O (zx (fun j h=>⟨k+1,a6,l++[((x:Nat):Int)],a0,m,⟨O,O,O,O,trivial⟩,⟨⟨by omega,by simp[a4]⟩,hΦ.2.snoc (RdS.map (fun n:Nat=>(n:Int)) y)⟩,h.sel [1,0] O V,qG⟩)))))))))
 refine zw O (zB (zC O (zF O (zA (zP (zm (v:=lv) O O (fun j h=>⟨lv,l,s,c,O,zPP i hΦ.2 qG,qG,h⟩)))))))
structure ConfD where
 vv:Value
 vs:List Int
 lv:Value
 ls:List Int
def ConfD.cells(x:ConfD):List Value:=[x.vv,x.lv]
structure ConfD.rd(x:ConfD)(w:World)(S:List Nat):Prop where
 vv:Rd w S (Res.sl x.vv x.vs.length (x.vs.flatMap I1))
 lv:Rd w S (Res.sl x.lv x.ls.length (x.ls.flatMap I1))
theorem ConfD.rd.at0{x:ConfD}{w0 w:World}{S:List Nat}{L:List Res}(h:x.rd w0 S)(a:Own w0 S L w):x.rd w []:=⟨a.rd0 h.vv,a.rd0 h.lv⟩
theorem ConfD.rd.at{x:ConfD}{w0 w:World}{S:List Nat}{L Lin:List Res}(h:x.rd w0 S)(a:Own w0 S L w)(m:List Nat)(b:m.mapM (fun i=>L[i]?)=some Lin):x.rd w (xL Lin):=⟨a.rdTo h.vv m b,a.rdTo h.lv m b⟩
def Rises(l:List Int):Prop:=(0::l).Pairwise (· < ·)∧∀ x∈l,x≤16
instance (l:List Int):Decidable (Rises l):=inferInstanceAs (Decidable (_∧_))
theorem Rises.take{l:List Int}(h:Rises l)(k:Nat):Rises (l.take k):=
 ⟨by have:=h.1.take (i:=k+1);simpa using this,fun x a=>h.2 x (List.mem_of_mem_take a)⟩
theorem zG3{l:List Int}{x:Int}:Rises (l++[x])↔Rises l∧x≤16∧1≤x∧∀ y∈l,y<x:=by
 unfold Rises
 rw[←List.cons_append,List.pairwise_append]
 simp only[List.mem_append,List.mem_cons,List.not_mem_nil,or_false,List.pairwise_cons,List.Pairwise.nil]
 constructor
 · rintro⟨⟨h1,_,c⟩,d⟩
   exact⟨⟨h1,fun x f=>d x (.inl f)⟩,d _ (.inr O),by have:=c 0 (.inl rfl) x rfl;omega,fun y e=>c y (.inr e) x O⟩
 rintro⟨⟨h1,h2⟩,c,d,g⟩
 refine⟨⟨h1,⟨by simp,trivial⟩,?_⟩,?_⟩
 · rintro a (rfl|h) b rfl
   · omega
   exact g a h
 rintro y (e|rfl)
 · exact h2 y e
 exact c
theorem zDP{l:List Int}{k:Nat}(d:k<l.length)(h:Rises (l.take k)):Rises (l.take (k+1))↔zc l k≤16∧1≤zc l k∧(0<k→zc l (k - 1)<zc l k):=by
 rw[yl d,zG3]
 constructor
 · rintro⟨_,h1,h2,a⟩
   refine⟨h1,h2,fun g=>a _ ?_⟩
   rw[List.mem_iff_getElem?]
   exact⟨k - 1,by rw[List.getElem?_take,if_pos qG];exact y8 qG⟩
 rintro⟨h1,h2,a⟩
 refine⟨h,h1,h2,fun y f=> ?_⟩
 obtain⟨i,hi⟩:=List.mem_iff_getElem?.1 f
 rw[List.getElem?_take]at hi
 split at hi
 · rename_i hik
   have e:=jY hi
   by_cases hlast:i=k - 1
   · subst hlast;rw[←e];exact a qG
   have j:=a qG
   have b:=h.1
   rw[List.pairwise_cons]at b
   have c:=List.pairwise_iff_getElem.1 b.2 i (k - 1) qN qN qG
   rw[List.getElem_take,List.getElem_take]at c
   have e1:=jY (List.getElem?_eq_getElem (l:=l) (i:=i) qG)
   have e2:=jY (List.getElem?_eq_getElem (l:=l) (i:=k - 1) qG)
   rw[←e1,←e2,e]at c
   omega
 cases hi
theorem zKE{l:List Int}{k:Nat}(b:k<l.length)(h:¬(zc l k≤16∧1≤zc l k∧(0<k→zc l (k - 1)<zc l k))):¬ Rises l:=fun a=>h ((zDP b (a.take k)).1 (a.take (k+1)))
theorem zJY:Rises []:=⟨by simp,by simp⟩
theorem zDr(v:Value)(l:List Int)(w:World)(hl:zg l.length)(hv:Rd w [] (Res.sl v l.length (l.flatMap I1))):Rets Tryz.prog 420 #[v] w fun o e=>o= .bool (decide (Rises l))∧Own w [] [] e:=by
 refine zO Tryz.func420 O Tryz.ntmps420 (Own.start w) (zB (zF O (zA (zK (zB (zC O (zn (pR hv) O O (zC O (zA (zU (yQ (fun(k:Nat)=>[(0,v),(5,v),(6,Vj l.length),(7,Vj k)]) (fun(k:Nat)=>k≤l.length∧Rises (l.take k)) (fun(k:Nat)=>[]) (fun(k:Nat)=>l.length - k) (fun e c=>⟨0,⟨O,O,O,O,trivial⟩,⟨Nat.zero_le _,by simpa using zJY⟩,c⟩) (fun k g m=>(zB (zu O O O (zA (zK (zT O (fun p=> ?_) (fun p=> ?_))))))))))))))))))
 ·refine zN (zK (zU (zB (zC O (yL (pR hv) 1 k O O O qG O (xC (pR hv) 1 k 0 (fun _=>O) O O qG O O (zF O (zF O (zA (zB (zC O (zu O O O (zC O (yP (q:=(zc l k)<1) 2 2 [16,15] (16<(zc l k)) O O O O O O trivial O (fun d=> ?_) (fun n=> ?_)))))))))))))))
  ·refine zQ O (gF d) (zC O (zQ O (gF d) (yY O O O (z8 O (fun _ c=>c)))))
  refine zC O (yP (q:=((zc l k)<1)∨(16<(zc l k))) 11 6 [29,28,27,26,25,24,23,22,21,20,19] ((0<((k:Nat):Int))∧((zc l k)≤(zc l (k - 1)))) O O O O O O trivial O (fun b=> ?_) (fun i=> ?_))
  ·refine zQ O (gF b) (zC O (zQ O (gF b) (yY O O O (zQ O (gF b) (zC O (yA (q:=0<((k:Nat):Int)) 7 9 [28,27,26,25,24,23,22] ((zc l k)≤(zc l (k - 1))) O O O O O O ⟨_,O,O,gF b⟩ O (fun a=> ?_) (fun j=> ?_)))))))
   ·refine zQ O (gT a) (zC O (zQ O (gT a) (zC O (zQ O (gT a) (zC O (zQ O (gT a) (y9 O O (zt qG) O (zQ O (gT a) (yL (pR hv) 1 (k - 1) O O qG qG O (zQ O (gT a) (xC (pR hv) 1 (k - 1) 0 (fun _=>O) O O qG O O (zQ O (gT a) (yx O O O (z8 O (fun _ c=>c)))))))))))))))
   exact z8 O (fun _ c=>c)
  refine zA (zT O (fun r=> ?_) (fun r=> ?_))
  ·refine zB (zF O (zA (zP (zm (v:=yC) O O (fun e c=>⟨(by rw[decide_eq_false];exact zKE (k:=k) qG qG),c.drop⟩)))))
  refine zN (ze (zr O O (zt qG) O (zC O (zx (fun e c=>⟨k+1,⟨O,O,O,O,trivial⟩,⟨by omega,(zDP qG m.2).2 qG⟩,c,qG⟩)))))
 refine zw O (zB (zF O (zA (zP (zm (v:=xx) O O (fun e c=>⟨(by rw[decide_eq_true];have h:=m.2;rwa [List.take_of_length_le qG]at h),c.drop⟩))))))
structure ConfD.wf(x:ConfD):Prop where
 vs:zg x.vs.length
 ls:zg x.ls.length
def ConfD.ok(x:ConfD):Prop:=((Rises x.vs∧Rises x.ls)∧0<x.vs.length)∧∀ v∈x.vs,v∉x.ls
instance (x:ConfD):Decidable x.ok:=inferInstanceAs (Decidable ((_∧_)∧_))
theorem zLN(v:Value)(l:List Int)(n:Int)(w:World)(hl:zg l.length)(hv:Rd w [] (Res.sl v l.length (l.flatMap I1))):Rets Tryz.prog 411 #[v,Vi n] w fun j b=>∃ (i:Int),j=Vi i∧(0≤i↔n∈l)∧Own w [] [] b:=by
 refine zO Tryz.func411 O Tryz.ntmps411 (Own.start w) (zB (zF O (zA (zK (zB (zC O (zn (pR hv) O O (zC O (zA (zU (yQ (fun(k:Nat)=>[(0,v),(1,Vi n),(7,Vj l.length),(8,Vj k)]) (fun(k:Nat)=>k≤l.length∧n∉l.take k) (fun(k:Nat)=>[]) (fun(k:Nat)=>l.length - k) (fun b a=>⟨0,⟨O,O,O,O,trivial⟩,⟨Nat.zero_le _,by simp⟩,a⟩) (fun k g d=>(zB (zu O O O (zA (zK (zT O (fun m=> ?_) (fun m=> ?_))))))))))))))))))
 ·refine zN (zK (zU (zB (zC O (zF O (zA (zB (zC O (zC O (zC O (yL (pR hv) 1 k O O O qG O (xC (pR hv) 1 k 0 (fun _=>O) O O qG O O (yT O O O (zA (zT O (fun c=> ?_) (fun c=> ?_))))))))))))))))
  ·refine zB (zC O (zF O (zA (zP (zm (v:=Vj k) O O (fun b a=>⟨k,O,⟨fun _=>c▸zy qG,fun _=>by omega⟩,a.drop⟩))))))
  refine zN (ze (zr O O (zt qG) O (zC O (zx (fun b a=>⟨k+1,⟨O,O,O,O,trivial⟩,⟨by omega,by rw[yl qG];simp;exact⟨d.2,fun e=>c e⟩⟩,a,qG⟩)))))
 refine zw O (zB (zF O (zA (zP (zm (v:=Vi (-1)) O O (fun b a=>⟨-1,O,⟨fun h=>by omega,fun h=>by have h2:=d.2;rw[List.take_of_length_le qG]at h2;exact absurd h h2⟩,a.drop⟩))))))
theorem zBB(v:Value)(l:List Int)(n:Int)(w:World)(hl:zg l.length)(hv:Rd w [] (Res.sl v l.length (l.flatMap I1))):Rets Tryz.prog 269 #[v,Vi n] w fun e a=>e= .bool (decide (n∈l))∧Own w [] [] a:=by
 refine zO Tryz.func269 O Tryz.ntmps269 (Own.start w) (zB (zF O (zA (zB (zC O (zC O (zG O O (fun a b=>(zLN v l n a qI (b.rd0 hv)).mono ?_))))))))
 rintro _ g ⟨c,rfl,d,h⟩
 refine(?_:CL _ _ _ _ _ _ (Own w [] [])) g (b.qb h)
 refine xJ O O O (zF O (zA (zP (zm (v:= .bool (decide (0≤c))) O O (fun a b=>⟨(by congr 1;exact decide_eq_decide.2 qG),b.drop⟩)))))
theorem _root_.Go.Sc.qM{p:Prop}(h:p:=by simp[Res.row]):p:=h
theorem zE1(n:Int)(cb:Nat)(c:ConfD)(w:World)(g:c.wf)(a:Rd w [] (Res.row cb 178 (ConfD.cells c)))(b:ConfD.rd c w []):Rets Tryz.prog 422 #[Vi n, .pointer (some ⟨cb,0,none⟩)] w fun h d=>h= .bool (decide (n∈c.ls))∧Own w [] [] d:=by
 have hv:=g.vs
 have hl:=g.ls
 refine zO Tryz.func422 O Tryz.ntmps422 (Own.start w) (zB (zF O (zA (zB (zI (o:=1) O O (zAT (v:=c.lv) O (a.φ.cell O) (a.far _ qM) qF O (zC O (zG O O (fun d e=>(zBB c.lv c.ls n d qI (e.rd0 b.lv)).mono ?_)))))))))
 rintro _ i ⟨rfl,j⟩
 refine(?_:CL _ _ _ _ _ _ (Own w [] [])) i (e.qb j)
 refine zF O (zA (zP (zm (v:= .bool (decide (n∈c.ls))) O O (fun d e=>⟨O,e.drop⟩))))
theorem zFe(v:Value)(l:List Int)(cb:Nat)(c:ConfD)(w:World)(hl:zg l.length)(s:c.wf)(e:Rd w [] (Res.row cb 178 (ConfD.cells c)))(d:ConfD.rd c w [])(hv:Rd w [] (Res.sl v l.length (l.flatMap I1))):Rets Tryz.prog 493 #[v, .func (.func 422) #[] #[.pointer (some ⟨cb,0,none⟩)]] w fun n b=>∃ (i:Int),n=Vi i∧(0≤i↔∃ q∈l,q∈c.ls)∧Own w [] [] b:=by
 refine zO Tryz.func493 O Tryz.ntmps493 (Own.start w) (zB (zF O (zA (zK (zB (zC O (zn (pR hv) O O (zC O (zA (zU (yQ (fun(k:Nat)=>[(0,v),(1, .func (.func 422) #[] #[.pointer (some ⟨cb,0,none⟩)]),(7,Vj l.length),(8,Vj k)]) (fun(k:Nat)=>k≤l.length∧∀ v∈l.take k,v∉c.ls) (fun(k:Nat)=>[]) (fun(k:Nat)=>l.length - k) (fun b a=>⟨0,⟨O,O,O,O,trivial⟩,⟨Nat.zero_le _,by simp⟩,a⟩) (fun k g m=>(zB (zu O O O (zA (zK (zT O (fun o=> ?_) (fun o=> ?_))))))))))))))))))
 ·refine zN (zK (zU (zB (zC O (zF O (zA (zB (zC O (zC O (zC O (yL (pR hv) 1 k O O O qG O (xC (pR hv) 1 k 0 (fun _=>O) O O qG O O (yM (fst:=[]) (cap:=[.pointer (some ⟨cb,0,none⟩)]) O qF O O (fun b a=>(zE1 (zc l k) cb c b ‹_› (a.rd0 e) (d.at0 a)).mono ?_))))))))))))))
  rintro _ p ⟨rfl,r⟩
  refine(?_:CL _ _ _ _ _ _ (Own w [] [])) p (a.qb r)
  refine zA (zT O (fun j=> ?_) (fun j=> ?_))
  ·refine zB (zC O (zF O (zA (zP (zm (v:=Vj k) O O (fun b a=>⟨k,O,⟨fun _=>⟨_,zy qG,j⟩,fun _=>by omega⟩,a.drop⟩))))))
  refine zN (ze (zr O O (zt qG) O (zC O (zx (fun b a=>⟨k+1,⟨O,O,O,O,trivial⟩,⟨by omega,by rw[yl qG];intro v hv;rcases List.mem_append.1 hv with h|h;exact m.2 v h;simp at h;rw[h];exact j⟩,a,qG⟩)))))
 refine zw O (zB (zF O (zA (zP (zm (v:=Vi (-1)) O O (fun b a=>⟨-1,O,⟨fun h=>by omega,fun⟨v,h,h'⟩=>by have h2:=m.2;rw[List.take_of_length_le qG]at h2;exact absurd h' (h2 v h)⟩,a.drop⟩))))))
theorem zCG(v:Value)(l:List Int)(cb:Nat)(c:ConfD)(w:World)(hl:zg l.length)(m:c.wf)(e:Rd w [] (Res.row cb 178 (ConfD.cells c)))(b:ConfD.rd c w [])(hv:Rd w [] (Res.sl v l.length (l.flatMap I1))):Rets Tryz.prog 421 #[v, .func (.func 422) #[] #[.pointer (some ⟨cb,0,none⟩)]] w fun i d=>i= .bool (decide (∃ q∈l,q∈c.ls))∧Own w [] [] d:=by
 refine zO Tryz.func421 O Tryz.ntmps421 (Own.start w) (zB (zF O (zA (zB (zC O (zC O (zG O O (fun d a=>(zFe v l cb c d qI ‹_› (a.rd0 e) (b.at0 a) (a.rd0 hv)).mono ?_))))))))
 rintro _ j ⟨g,rfl,h,k⟩
 refine(?_:CL _ _ _ _ _ _ (Own w [] [])) j (a.qb k)
 refine xJ O O O (zF O (zA (zP (zm (v:= .bool (decide (0≤g))) O O (fun d a=>⟨(by congr 1;exact decide_eq_decide.2 qG),a.drop⟩)))))
theorem jd(c:ConfD)(w:World)(p:c.wf)(d:ConfD.rd c w []):Rets Tryz.prog 419 #[.agg (ConfD.cells c).toArray] w fun t i=>t= .bool (decide c.ok)∧Own w [] [] i:=by
 have hv:=p.vs
 have hl:=p.ls
 refine zO Tryz.func419 O Tryz.ntmps419 (Own.start w) (zB (zj O O (fun r=>zF O (zA (zB (zI (o:=0) O O (zJ 0 (v:=c.vv) O O O O (zG O O (fun i b=>(zDr c.vv c.vs i qI (b.rd0 d.vv)).mono ?_)))))))))
 rintro _ k ⟨rfl,l⟩
 refine(?_:CL _ _ _ _ _ _ (Own w [] [_])) k (b.qb l)
 refine zC O (yA (q:=Rises c.vs) 3 3 [9,8,7] (Rises c.ls) O O O O O O trivial O (fun g=> ?_) (fun s=> ?_))
 ·refine zQ O (gT g) (zI (o:=1) O O (zQ O (gT g) (zJ 0 (v:=c.lv) O O O O (zQ O (gT g) (zG O O (fun i b=>(zDr c.lv c.ls i qI (b.rd0 d.lv)).mono ?_))))))
  rintro _ k ⟨rfl,l⟩
  refine(?_:CL _ _ _ _ _ _ (Own w [] [_])) k (b.qb l)
  exact z8 O (fun _ b=>b)
 refine zC O (yA (q:=(Rises c.vs)∧(Rises c.ls)) 4 8 [15,14,13,12] (0<((c.vs.length:Nat):Int)) O O O O O O trivial O (fun e=> ?_) (fun m=> ?_))
 ·refine zQ O (gT e) (zI (o:=0) O O (zQ O (gT e) (zJ 0 (v:=c.vv) O O O O (zQ O (gT e) (zn (pR d.vv) O O (zQ O (gT e) (yY O O O (z8 O (fun _ b=>b)))))))))
 refine zC O (yA (q:=((Rises c.vs)∧(Rises c.ls))∧(0<((c.vs.length:Nat):Int))) 5 14 [22,21,20,19,18] (¬(∃ q∈c.vs,q∈c.ls)) O O O O O O trivial O (fun a=> ?_) (fun n=> ?_))
 ·refine zQ O (gT a) (zI (o:=0) O O (zQ O (gT a) (zJ 0 (v:=c.vv) O O O O (zQ O (gT a) (j7 (va:=[]) (vb:=[.pointer (some ⟨r,0,none⟩)]) O O O (zQ O (gT a) (zG O O (fun i b=>(zCG c.vv c.vs r c i qI ‹_› (b.rdRes0 0 O) (d.at0 b) (b.rd0 d.vv)).mono ?_))))))))
  rintro _ k ⟨rfl,l⟩
  refine(?_:CL _ _ _ _ _ _ (Own w [] [_])) k (b.qb l)
  refine zQ O (gT a) (xQ (q:=∃ q∈c.vs,q∈c.ls) O O (z8 O (fun _ b=>b)))
 refine zF O (zA (zP (zm (v:= .bool (decide ((((Rises c.vs)∧(Rises c.ls))∧(0<((c.vs.length:Nat):Int)))∧(¬(∃ q∈c.vs,q∈c.ls))))) O O (fun i b=>⟨(by congr 1;exact decide_eq_decide.2 (by unfold ConfD.ok;exact⟨fun h=>⟨⟨h.1.1,by have:=h.1.2;omega⟩,fun v hv j=>h.2 ⟨v,hv,j⟩⟩,fun h=>⟨⟨h.1.1,by have:=h.1.2;omega⟩,fun⟨v,hv,j⟩=>h.2 v hv j⟩⟩)),b.drop⟩))))
def ConfD.enc(c:ConfD):List UInt8:=zE9 c.vs++zE9 c.ls
structure ConfD.few(c:ConfD):Prop where
 vs:c.vs.length≤1000000000
 ls:c.ls.length≤1000000000
theorem ConfD.few.wf{c:ConfD}(h:c.few):c.wf:=⟨by have:=h.vs;show _≤_;omega,by have:=h.ls;show _≤_;omega⟩
theorem zNT{ns:List Int}:∀ n∈ns.map u64,n<18446744073709551616:=fun n b=>by obtain⟨a,_,rfl⟩:=List.mem_map.1 b;exact ya a
theorem zAc(ns:List Int):(zE9 ns).length≤9*(ns.length+1):=by
 have:=yS (ns:=u64 ns.length::ns.map u64) (by intro n hn;rcases List.mem_cons.1 hn with rfl|h;exact ya _;exact zNT n h)
 simpa [zE9]using this
theorem y4(v:Value)(l:List Int)(w:World)(hl:zg l.length)(hv:Rd w [] (Res.sl v l.length (l.flatMap I1))):Rets Tryz.prog 233 #[v] w fun i b=>∃ (r:Value),i=r∧Own w [] [Res.vec 3 1 r l.length (l.flatMap I1)] b:=by
 refine zO Tryz.func233 O Tryz.ntmps233 (Own.start w) (zB (zF O (zA (zK (zB (zC O (zAu (len:=l.length) (cs:=(l.flatMap I1)) qF O O (fun b a=>Own.rd hv a) O (zA (jJ O (fun d=> ?_) (fun d=> ?_))))))))))
 ·refine zB (zF O (zA (zP (zm (v:=zW) O O (fun b c=>⟨.slice none 0 0,O,by obtain⟨_,j⟩:=Sl.isNil hv.φ d;rw[List.eq_nil_of_length_eq_zero j];exact zq c 3 1⟩)))))
 refine zN (zB (yH (e:=3) (sz:=1) (vs:=[]) qF O O qL V O (fun k=>zC O (yF (g:=I1) (sz:=1) (by':=8) (fun _=>O) (l:=[]) (l':=l) qO 0 qF O O O (fun b a=>Own.rd hv a) qH V O (fun h=>zF O (zA (zP (zm (v:=h) O O (fun b c=>⟨h,O,c⟩)))))))))
theorem zCk{S:List Nat}(o:Nat)(l:Value)(bs:List UInt8)(c:ConfD)(w:World)(hb:bs.length+9*(c.vs.length+c.ls.length+2)≤100000000000)(i:Own w S [Res.bv o yy l bs] w)(b:ConfD.rd c w S):Rets Tryz.prog 423 #[.pointer (some ⟨o,0,none⟩), .agg (ConfD.cells c).toArray] w fun m g=>∃ (j:Value),m= .tuple #[]∧Own w S [Res.bv o yy j (bs++c.enc)] g:=by
 have p:=zAc c.vs
 refine zO Tryz.func423 O Tryz.ntmps423 i (zB (zj O O (fun q=>zA (zB (zC O (zI (o:=0) O O (zJ 1 (v:=c.vv) O O O O (zG O O (fun g a=>(zPy o _ _ c.vv c.vs g qH (a.give [0] O V) (a.rdTo b.vv [0] O)).mono ?_)))))))))
 rintro _ n ⟨d,rfl,k⟩
 refine fq [0] O a k (zA (ze (zC O (zI (o:=1) O O (zJ 0 (v:=c.lv) O O O O (zG O O (fun g a=>(zPy o d (bs++zE9 c.vs) c.lv c.ls g qK (a.give [1] O V) (a.rdTo b.lv [1] O)).mono ?_)))))))
 rintro _ n ⟨e,rfl,k⟩
 refine fq [1] O a k (zx (yq O (fun g a=>⟨e,O,by have h:=a.one 1 rfl;simpa [ConfD.enc]using h⟩)))
theorem zFG(w:World):Rets Tryz.prog 287 #[] w fun b a=>b= .agg #[.func (.func 419) #[] #[], .func (.func 423) #[] #[], .func (.func 425) #[] #[]]∧Own w [] [] a:=by
 refine zO Tryz.func287 O Tryz.ntmps287 (Own.start w) (zB (zk (v:= .agg #[.nilFunc, .nilFunc, .nilFunc]) qF O (fun d=>zA (zB (yJ (cs:=[.func (.func 419) #[] #[], .func (.func 423) #[] #[], .func (.func 425) #[] #[]]) (z:=[.nilFunc, .nilFunc, .nilFunc]) (pl:=[(0,1),(1,1),(2,1)]) qF qF O (zf 0 O O O (zz O) O (zA (zP (xg (cs:=[.func (.func 419) #[] #[], .func (.func 423) #[] #[], .func (.func 425) #[] #[]]) O O qF (Own.qd (i:=0) O) (fun a c=>⟨O,c.drop⟩))))))))))
theorem zGO(c:ConfD)(w:World)(k:c.few)(g:ConfD.rd c w []):Rets Tryz.prog 332 #[.agg #[.func (.func 419) #[] #[], .func (.func 423) #[] #[], .func (.func 425) #[] #[]], .agg (ConfD.cells c).toArray] w fun s d=>∃ (r:Value),s= .tuple #[r,Vi (yI c.ok)]∧Own w [] [Res.vec 5 1 r (if c.ok then c.enc else []).length ((if c.ok then c.enc else []).map vb)] d:=by
 have u:=k.wf
 have hv:=k.vs
 have hl:=k.ls
 refine zO Tryz.func332 O Tryz.ntmps332 (Own.start w) (zB (zj O O (fun m=>zj O O (fun n=>zF O (zF O (zA (zK (zB (zI (o:=0) O O (zJ 0 (v:= .func (.func 419) #[] #[]) O O O O (z6 (cs:=(ConfD.cells c)) 1 O O O (yM (fst:=[]) (cap:=[]) O qF O O (fun d b=>(jd c d ‹_› (g.at0 b)).mono ?_)))))))))))))
 rintro _ p ⟨rfl,l⟩
 refine(?_:CL _ _ _ _ _ _ (Own w [] [_,_])) p (b.qb l)
 refine xQ (q:=c.ok) O O (zA (zT O (fun h=> ?_) (fun h=> ?_)))
 ·refine zB (zF O (zF O (zA (zP (yg (v:=zW) (v':=Vi 2) O O O (fun d b=>⟨.slice none 0 0,(by rw[jr h]),by rw[if_neg h];exact(zq b T8 1).one 2 rfl⟩))))))
 refine zN (zB (yJ (cs:=[zW]) (z:=[zW]) (pl:=[(0,1)]) qF qF O (zj O O (fun e=>zF O (zA (zB (zI (o:=1) O O (zJ 0 (v:= .func (.func 423) #[] #[]) O O O O (zC O (z6 (cs:=(ConfD.cells c)) 1 O O O (kC [Res.row m 479 [.func (.func 419) #[] #[], .func (.func 423) #[] #[], .func (.func 425) #[] #[]],Res.row n 178 (ConfD.cells c),Res.bv e yy zW ([]:List UInt8)] (fun d b=>(zq b T8 1).joinBv (i:=2) (j:=3) V O O) (yM (fst:=[]) (cap:=[]) O qF O O (fun d b=>(zCk e zW ([]:List UInt8) c d qK (b.give [2] O V) (g.at b [2] O)).mono ?_)))))))))))))
 rintro _ p ⟨a,rfl,l⟩
 refine fq [2] O b l (zA (zB (zC O (zV O O (zI (o:=0) O O (kC [Res.row m 479 [.func (.func 419) #[] #[], .func (.func 423) #[] #[], .func (.func 425) #[] #[]],Res.row n 178 (ConfD.cells c),Res.row e yy [a],Res.vec 5 1 a (([]:List UInt8)++c.enc).length ((([]:List UInt8)++c.enc).map vb)] (fun d b=>b.splitBv (i:=2) (o:=e) (T:=yy) (v:=a) (bs:=(([]:List UInt8)++c.enc)) O) (zJ 2 (v:=a) O O O O (zF O (zF O (zA (zP (yg (v:=a) (v':=Vi 0) O O O (fun d b=>⟨a,(by rw[xp (Decidable.not_not.1 h)]),by rw[if_pos (Decidable.not_not.1 h)];exact b.one 3 rfl⟩)))))))))))))
theorem zJj(c:ConfD)(w:World)(k:c.few)(g:ConfD.rd c w []):Rets Tryz.prog 182 #[.agg (ConfD.cells c).toArray] w fun j b=>∃ (r:Value),j= .tuple #[r,Vi (yI c.ok)]∧Own w [] [Res.vec 5 1 r (if c.ok then c.enc else []).length ((if c.ok then c.enc else []).map vb)] b:=by
 refine zO Tryz.func182 O Tryz.ntmps182 (Own.start w) (zB (zj O O (fun l=>zF O (zF O (zA (zK (zd [0] O V qF (fun b a e=>zD 1 O (xG (cs:=(ConfD.cells c)) 0 O O) e (zM 0 O a (zG O O (fun b a=>(zFG b).mono ?_)))))))))))
 rintro _ h ⟨rfl,i⟩
 refine(?_:CL _ _ _ _ _ _ (Own w [] [_])) h (a.qb i)
 refine zE [0] O V (fun b a e=>zM 2 O a (zG O O (fun b a=>(zGO c b ‹_› (g.at0 a)).mono ?_)))
 rintro _ h ⟨d,rfl,i⟩
 refine(?_:CL _ _ _ _ _ _ (Own w [] [_,_])) h (a.qb i)
 refine zE [0] O V (fun b a e=>zD 3 O (yG (vs:=[d,Vi (yI c.ok)]) O O) e (zD 4 O (yG (vs:=[d,Vi (yI c.ok)]) O O) e (zD 5 O yB e (zD 6 O yB e (zX ((?_:C _ _ _ _ _ _ _ (Own w [] [_,_])) _ a))))))
 exact zP (yg (v:=d) (v':=Vi (yI c.ok)) O O O (fun b a=>⟨d,O,a.sel [1] O V⟩))
theorem zE4(c:ConfD)(w:World)(j:c.few)(a:ConfD.rd c w []):Rets Tryz.prog 268 #[.agg (ConfD.cells c).toArray] w fun g d=>g=Vi (yI c.ok)∧Own w [] [] d:=by
 refine zO Tryz.func268 O Tryz.ntmps268 (Own.start w) (zB (zj O O (fun k=>zF O (zA (zB (z6 (cs:=(ConfD.cells c)) 0 O O O (zG O O (fun d e=>(zJj c d ‹_› (a.at0 e)).mono ?_))))))))
 rintro _ h ⟨b,rfl,i⟩
 refine(?_:CL _ _ _ _ _ _ (Own w [] [_,_])) h (e.qb i)
 refine zC O (zb (vs:=[b,Vi (yI c.ok)]) O O O (zb (vs:=[b,Vi (yI c.ok)]) O O O (zF O (zF O (zA (zB (zC O (zF O (zA (zP (zm (v:=Vi (yI c.ok)) O O (fun d e=>⟨O,e.drop⟩))))))))))))
theorem zCp(v:Value)(l:List Int)(n:Int)(w:World)(hl:zg l.length)(hv:Rd w [] (Res.sl v l.length (l.flatMap I1))):Rets Tryz.prog 269 #[v,Vi n] w fun a b=>a= .bool (decide (n∈l))∧Own w [] [] b:=by
 exact zBB v l n w hl hv
theorem zO7(c:ConfD)(id:Int)(w:World)(k:c.few)(d:ConfD.rd c w []):Rets Tryz.prog 142 #[.agg (ConfD.cells c).toArray,Vi id] w fun l e=>l= .bool (decide (c.ok∧id∈c.vs))∧Own w [] [] e:=by
 have i:=k.wf
 have hv:=i.vs
 have hl:=i.ls
 refine zO Tryz.func142 O Tryz.ntmps142 (Own.start w) (zB (zj O O (fun m=>zF O (zA (zB (z6 (cs:=(ConfD.cells c)) 0 O O O (zG O O (fun e b=>(zE4 c e ‹_› (d.at0 b)).mono ?_))))))))
 rintro _ g ⟨rfl,h⟩
 refine(?_:CL _ _ _ _ _ _ (Own w [] [_])) g (b.qb h)
 refine yT O O O (zC O (yA (q:=(yI c.ok)=0) 4 3 [12,11,10,9] (id∈c.vs) O O O O O O trivial O (fun a=> ?_) (fun j=> ?_)))
 ·refine zQ O (gT a) (zI (o:=0) O O (zQ O (gT a) (zJ 0 (v:=c.vv) O O O O (zQ O (gT a) (zC O (zQ O (gT a) (zG O O (fun e b=>(zCp c.vv c.vs id e qI (b.rd0 d.vv)).mono ?_))))))))
  rintro _ g ⟨rfl,h⟩
  refine(?_:CL _ _ _ _ _ _ (Own w [] [_])) g (b.qb h)
  exact z8 O (fun _ b=>b)
 refine zF O (zA (zP (zm (v:= .bool (decide (((yI c.ok)=0)∧(id∈c.vs)))) O O (fun e b=>⟨(by congr 1;exact decide_eq_decide.2 (by rw[errOf_zero])),b.drop⟩))))
def cnt(vs ids:List Int):Nat:=(vs.filter (· ∈ids)).length
theorem zQS(vs a:List Int):cnt vs a≤vs.length:=List.length_filter_le _ _
theorem zF0(vs a:List Int)(x:Int):cnt (vs++[x]) a=cnt vs a+if x∈a then 1 else 0:=by
 unfold cnt
 rw[List.filter_append,List.length_append]
 by_cases h:x∈a<;>simp[List.filter_cons,h]
def ConfD.qu(c:ConfD)(ids:List Int):Prop:=c.ok∧c.vs.length<2*cnt c.vs ids
instance (c:ConfD)(ids:List Int):Decidable (c.qu ids):=inferInstanceAs (Decidable (_∧_))
theorem zCB(c:ConfD)(v:Value)(a:List Int)(w:World)(p:c.few)(r:zg a.length)(hi:Rd w [] (Res.sl v a.length (a.flatMap I1)))(d:ConfD.rd c w []):Rets Tryz.prog 265 #[.agg (ConfD.cells c).toArray,v] w fun u h=>u= .bool (decide (c.qu a))∧Own w [] [] h:=by
 have x:=p.wf
 have hv:=p.vs
 have hl:=x.ls
 refine zO Tryz.func265 O Tryz.ntmps265 (Own.start w) (zB (zj O O (fun s=>zF O (zA (zB (zF O (zA (zK (zB (zI (o:=0) O O (zJ 0 (v:=c.vv) O O O O (zn (pR d.vv) O O (zC O (zA (zU (yQ (fun(k:Nat)=>[(1,v),(2, .pointer (some ⟨s,0,none⟩)),(5,Vj (cnt (c.vs.take k) a)),(9,c.vv),(10,Vj c.vs.length),(11,Vj k)]) (fun(k:Nat)=>k≤c.vs.length) (fun(k:Nat)=>[Res.row s 178 (ConfD.cells c)]) (fun(k:Nat)=>c.vs.length - k) (fun h e=>⟨0,⟨O,O,O,O,O,O,trivial⟩,Nat.zero_le _,e⟩) (fun k g y=> ?_)))))))))))))))))
 have i:=zQS (c.vs.take k) a
 have z:(c.vs.take k).length≤k:=by simp;omega
 have a0:=y
 refine zB (zu O O O (zA (zK (zT O (fun c1=> ?_) (fun c1=> ?_)))))
 ·refine zN (zK (zU (zB (yL (pR d.vv) 1 k O O O qG O (xC (pR d.vv) 1 k 0 (fun _=>O) O O qG O O (zF O (zA (zB (zC O (zC O (zG O O (fun h e=>(zCp v a (zc c.vs k) h qI (e.rd0 hi)).mono ?_))))))))))))
  rintro _ j ⟨rfl,l⟩
  refine(?_:CL _ _ _ _ _ _ (Own w [] [_])) j (e.qb l)
  refine zA (zT O (fun m=> ?_) (fun m=> ?_))
  ·have e2:cnt (c.vs.take (k+1)) a=cnt (c.vs.take k) a+1:=by have:=zF0 (c.vs.take k) a (zc c.vs k);rw[if_pos m]at this;rw[yl qG];exact this
   refine ze (zC O (zr O O (zt qG) O (zF O (zA (ze (zr O O (zt qG) O (zC O (zx (fun h e=>⟨k+1,⟨O,O,by rw[e2];rfl,O,O,O,trivial⟩,qG,e,qG⟩)))))))))
  have e2:cnt (c.vs.take (k+1)) a=cnt (c.vs.take k) a:=by have:=zF0 (c.vs.take k) a (zc c.vs k);rw[if_neg m]at this;rw[yl qG];exact this
  refine zN (ze (zr O O (zt qG) O (zC O (zx (fun h e=>⟨k+1,⟨O,O,by rw[e2];rfl,O,O,O,trivial⟩,qG,e,qG⟩)))))
 refine zw O (zB (z6 (cs:=(ConfD.cells c)) 0 O O O (zG O O (fun h e=>(zE4 c h ‹_› (d.at0 e)).mono ?_))))
 rintro _ j ⟨rfl,l⟩
 refine(?_:CL _ _ _ _ _ _ (Own w [] [_])) j (e.qb l)
 refine yT O O O (zC O (yA (q:=(yI c.ok)=0) 6 3 [30,29,28,27,26,25] (((c.vs.length:Nat):Int)<((2*(cnt (c.vs.take k) a):Nat):Int)) O O O O O O trivial O (fun b=> ?_) (fun n=> ?_)))
 ·refine zQ O (gT b) (zC O (zQ O (gT b) (zAU O O (zt qG) O (zQ O (gT b) (zI (o:=0) O O (zQ O (gT b) (zJ 0 (v:=c.vv) O O O O (zQ O (gT b) (zn (pR d.vv) O O (zQ O (gT b) (yY O O O (z8 O (fun _ e=>e)))))))))))))
 refine zF O (zA (zP (zm (v:= .bool (decide (((yI c.ok)=0)∧(((c.vs.length:Nat):Int)<((2*(cnt (c.vs.take k) a):Nat):Int))))) O O (fun h e=>⟨(by congr 1;exact decide_eq_decide.2 (by unfold ConfD.qu;rw[errOf_zero,List.take_of_length_le qG];rw[List.take_of_length_le qG]at i;exact and_congr_right fun _=>by omega)),e.drop⟩))))
structure ConfA where
 vs:List Int
 ls:List Int
 deriving DecidableEq
def ConfD.a(c:ConfD):ConfA:=⟨c.vs,c.ls⟩
def ConfA.ok(x:ConfA):Prop:=((Rises x.vs∧Rises x.ls)∧0<x.vs.length)∧∀ v∈x.vs,v∉x.ls
instance (x:ConfA):Decidable x.ok:=inferInstanceAs (Decidable ((_∧_)∧_))
def zP8:List UInt8→Nat→Option (ConfA×Nat):=yp zNd fun vs=>yp zNd fun ls=>xZ ⟨vs,ls⟩
def whole{α:Type}(p:List UInt8→Nat→Option (α×Nat))(ok:α→Prop)[DecidablePred ok](b:List UInt8):Option α:=(p b 0).bind fun q=>if q.2=b.length∧ok q.1 then some q.1 else none
def ValPost{α:Type}(d:Option α)(x z:α)(e:Int):Prop:=(e=0∧d=some x)∨(e=4∧d=none∧x=z)
instance:DecidablePred ConfA.ok:=fun x=>inferInstance
def zAJ(b:List UInt8):Option ConfA:=whole zP8 ConfA.ok b
theorem zA0{α:Type}{p:List UInt8→Nat→Option (α×Nat)}{ok:α→Prop}[DecidablePred ok]{b:List UInt8}{x:α}{a:Nat}{bad:Bool}(h:RdS p b 0 false x a bad)(hb:bad=false)(d:a=b.length)(c:ok x):whole p ok b=some x:=by
 obtain⟨_,h2⟩:=h.good hb
 simp only[whole,h2,Option.bind_some]
 rw[if_pos ⟨d,c⟩]
theorem zBi{α:Type}{p:List UInt8→Nat→Option (α×Nat)}{ok:α→Prop}[DecidablePred ok]{b:List UInt8}{x:α}{a:Nat}{bad:Bool}(h:RdS p b 0 false x a bad)(d:bad=false→a=b.length→¬ ok x):whole p ok b=none:=by
 cases hp:p b 0 with
 |none=>simp only[whole,hp,Option.bind_none]
 |some q=>
   obtain⟨h1,h2,e⟩:=h.ok q.1 q.2 rfl hp
   simp only[whole,hp,Option.bind_some]
   rw[if_neg]
   rintro⟨f,c⟩
   rw[←h2]at c
   exact d h1 (e.trans f) c
theorem zHX{S:List Nat}(o:Nat)(v:Value)(b:List UInt8)(a:Nat)(bad:Bool)(w:World)(hl:zg b.length)(ha:a≤b.length)(x:Own w S [Res.row o 470 [v,Vj a, .bool bad]] w)(hb:Rd w S (Res.sl v b.length (b.map vb))):Rets Tryz.prog 425 #[.pointer (some ⟨o,0,none⟩)] w fun u_ l=>∃ (r1:Value) (l1:List Int) (r2:Value) (l2:List Int) (a':Nat) (m:Bool),u_= .agg #[r1,r2]∧RdS zP8 b a bad (⟨l1,l2⟩:ConfA) a' m∧l1.length≤16∧l2.length≤16∧Own w S [Res.row o 470 [v,Vj a', .bool m],Res.vec 3 1 r1 l1.length (l1.flatMap I1),Res.vec 3 1 r2 l2.length (l2.flatMap I1)] l:=by
 refine zO Tryz.func425 O Tryz.ntmps425 x (zB (zk (v:= .agg #[zW,zW]) qF O (fun b2=>zA (zB (zC O (zG O O (fun l c=>(zIW o v b a bad l qI qH (c.give [0] O V) (c.rdTo hb [0] O)).mono ?_)))))))
 rintro q w1 ⟨_,y,s,j,rfl,d,e,hO⟩
 have a1:=d.le
 refine fq [0] O c hO (zC O (zG O O (fun l c=>(zIW o v b s j l qI qH (c.give [1] O V) (c.rdTo hb [1] O)).mono ?_)))
 rintro r w1 ⟨_,a0,u,k,rfl,g,h,hO⟩
 refine fq [1] O c hO (zS (fun l c=>Own.qa (i:=1) O c) (fun n=>(zS (fun l c=>Own.qa (i:=3) O c) (fun p=>(xP (cs:=[q,r]) (z:=[zW,zW]) (pl:=[(0,1),(1,1)]) qF ⟨n,p,trivial⟩ qF O (zf 0 O O O (zH n (zH p zh)) O (zA (zP (xg (cs:=[q,r]) O O qF (Own.qd (i:=0) O) (fun l c=>⟨q,y,r,a0,u,k,O,d.bind (g.bind (RdS.pure _ g.le)),e,h,c.sel [2,1,3] O V⟩))))))))))
theorem zGW(v:Value)(b:List UInt8)(w:World)(hl:zg b.length)(hb:Rd w [] (Res.sl v b.length (b.map vb))):Rets Tryz.prog 437 #[.agg #[.func (.func 419) #[] #[], .func (.func 423) #[] #[], .func (.func 425) #[] #[]],v] w fun u_ u=>∃ (r1:Value) (l1:List Int) (r2:Value) (l2:List Int) (e:Int),u_= .tuple #[.agg #[r1,r2],Vi e]∧ValPost (zAJ b) (⟨l1,l2⟩:ConfA) ⟨[],[]⟩ e∧l1.length≤16∧l2.length≤16∧Own w [] [Res.vec 3 1 r1 l1.length (l1.flatMap I1),Res.vec 3 1 r2 l2.length (l2.flatMap I1)] u:=by
 refine zO Tryz.func437 O Tryz.ntmps437 (Own.start w) (zB (zj O O (fun b2=>zk (v:= .agg #[zW,zW]) qF O (fun b4=>zF O (zA (zB (zC O (xP (cs:=[v,Vi 0,yC]) (z:=[zW,Vi 0,yC]) (pl:=[(0,1),(1,1),(2,1)]) qF ⟨(Sl.cell1 (Rd.φ hb)),trivial⟩ qF O (zj O O (fun a0=>zF O (zA (zB (zI (o:=2) O O (zJ 0 (v:= .func (.func 425) #[] #[]) O O O O (zC O (yM (fst:=[]) (cap:=[]) O qF O O (fun u k=>(zHX a0 v b 0 false u qI qH (k.give [2] O V) (k.rdTo hb [2] O)).mono ?_)))))))))))))))))
 rintro _ w1 ⟨c,l,d,m,n,a,rfl,p,r,s,hO⟩
 refine fq [2] O k hO (zS (fun u k=>Own.qa (i:=3) O k) (fun x=>(zS (fun u k=>Own.qa (i:=4) O k) (fun y=>(zf 1 O O O (zH x (zH y zh)) O (zA (zK (zB (zC O (zV O O (zI (o:=2) O O (zJ 2 (v:= .bool a) O O O O (zC O (yP (q:=a=true) 7 4 [26,25,24,23,22,21,20] (((n:Nat):Int)≠((b.length:Nat):Int)) O O (y2 _) O O O trivial O (fun g=> ?_) (fun a1=> ?_)))))))))))))))
 ·refine zQ O (bF g) (zC O (zQ O (bF g) (zV O O (zQ O (bF g) (zI (o:=1) O O (zQ O (bF g) (zJ 2 (v:=Vj n) O O O O (zQ O (bF g) (zC O (zQ O (bF g) (zn (pR hb) O O (zQ O (bF g) (yf O O O (z8 O (fun _ k=>k)))))))))))))))
 refine zC O (yP (q:=(a=true)∨(((n:Nat):Int)≠((b.length:Nat):Int))) 5 13 [33,32,31,30,29] (¬(({vv:=c,vs:=l,lv:=d,ls:=m}:ConfD).ok)) O O O O O O trivial O (fun j=> ?_) (fun a2=> ?_))
 ·refine zQ O (gF j) (zI (o:=0) O O (zQ O (gF j) (zJ 0 (v:= .func (.func 419) #[] #[]) O O O O (zQ O (gF j) (z6 (cs:=[c,d]) 1 O O O (zQ O (gF j) (yM (fst:=[]) (cap:=[]) O qF O O (fun u k=>(jd ({vv:=c,vs:=l,lv:=d,ls:=m}:ConfD) u qI ⟨(k.qj 3 O),(k.qj 4 O)⟩).mono ?_))))))))
  rintro _ w1 ⟨rfl,hO⟩
  refine(?_:CL _ _ _ _ _ _ (Own w [] [_,_,_,_,_])) w1 (k.qb hO)
  refine zQ O (gF j) (xQ (q:=({vv:=c,vs:=l,lv:=d,ls:=m}:ConfD).ok) O O (z8 O (fun _ k=>k)))
 refine zA (zT O (fun c1=> ?_) (fun c1=> ?_))
 ·refine zB (zk (v:= .agg #[zW,zW]) qF O (fun b7=>zA (zB (z6 (cs:=[zW,zW]) 5 O O O (zf 1 O O O (zz O) O (zF O (zA (zP (yk (cs:=[zW,zW]) (v:=Vi 4) O O O qF (Own.qd (i:=1) O) (fun u k=>⟨.slice none 0 0,[],zW,[],4,O, .inr ⟨O,zBi p (fun h1 h2 h3=>c1.elim (fun h=>h.elim (fun h=>by rw[h1]at h;cases h) (fun h=>h qG)) (fun h=>h h3)),O⟩,qJ,qJ,zq (zq k.drop 3 1) 3 1⟩))))))))))
 refine zN (zB (z6 (cs:=[c,d]) 1 O O O (zf 1 O O O (zH x (zH y zh)) O (zF O (zA (zP (yk (cs:=[c,d]) (v:=Vi 0) O O O qF (Own.qd (i:=1) O) (fun u k=>⟨c,l,d,m,0,O, .inl ⟨O,zA0 p (by cases h:a;rfl;exact absurd (.inl (.inl h)) c1) (by have:¬(n:Int)≠b.length:=fun h=>c1 (.inl (.inr h));omega) (Decidable.not_not.1 fun h=>c1 (.inr h))⟩,r,s,k.sel [3,4] O V⟩))))))))
theorem zGf(v:Value)(b:List UInt8)(w:World)(hl:zg b.length)(hb:Rd w [] (Res.sl v b.length (b.map vb))):Rets Tryz.prog 311 #[v] w fun u k=>∃ (r1:Value) (l1:List Int) (s:Value) (l2:List Int) (e:Int),u= .tuple #[.agg #[r1,s],Vi e]∧ValPost (zAJ b) (⟨l1,l2⟩:ConfA) ⟨[],[]⟩ e∧l1.length≤16∧l2.length≤16∧Own w [] [Res.vec 3 1 r1 l1.length (l1.flatMap I1),Res.vec 3 1 s l2.length (l2.flatMap I1)] k:=by
 refine zO Tryz.func311 O Tryz.ntmps311 (Own.start w) (zB (zk (v:= .agg #[zW,zW]) qF O (fun x=>zF O (zA (zB (zG O O (fun k h=>(zFG k).mono ?_)))))))
 rintro _ q ⟨rfl,r⟩
 refine(?_:CL _ _ _ _ _ _ (Own w [] [_])) q (h.qb r)
 refine zC O (zG O O (fun k h=>(zGW v b k qI (h.rd0 hb)).mono ?_))
 rintro _ q ⟨a,m,c,n,j,rfl,l,d,g,r⟩
 refine(?_:CL _ _ _ _ _ _ (Own w [] [_,_,_])) q (h.qb r)
 refine zb (vs:=[.agg #[a,c],Vi j]) O O O (zb (vs:=[.agg #[a,c],Vi j]) O O O (zS (fun k h=>Own.qa (i:=1) O h) (fun o=>(zS (fun k h=>Own.qa (i:=2) O h) (fun p=>(zf 0 O O O (zH o (zH p zh)) O (zF O (zA (zP (yk (cs:=[a,c]) (v:=Vi j) O O O qF (Own.qd (i:=0) O) (fun k h=>⟨a,m,c,n,j,O,l,d,g,h.sel [1,2] O V⟩)))))))))))
structure RefPost{α:Type}(d:Option α)(x:α)(f:Bool):Prop where
 yes:f=true→d=some x
 no:f=false→d=none
end Go.Proofs.YthpoddkmhfhboaaGreatDoor
