import Derived.Test.YtmpaljnacfidaaaGreatDoorFwJS
import Derived.Test.YtmpaljnacfidaaaGreatDoorIn
import Derived.Test.YtmpaljnacfidaaaGreatDoorFw3
set_option linter.unusedSectionVars false
set_option linter.unusedSimpArgs false
set_option linter.unusedVariables false
set_option maxRecDepth 10000
namespace Go.Proofs.YtmpaljnacfidaaaGreatDoor
open Go Go.Sc Go.Proofs
def zFQ(upto:Nat)(x:EntA):Bool:=decide (x.kind=3∧x.index≤upto)
def zAN(vs0:List Int)(es:List EntA)(upto:Nat):ConfA×Nat:=
  match es.reverse.find? (zFQ upto)with
  |some x=>((j8 x.data).getD ⟨[],[]⟩,x.index)
  |none=>(⟨vs0,[]⟩,0)
theorem zJh{α:Type}[Inhabited α]{l:List α}{p:α→Bool}{m:Nat}(b:m<l.length)(h:∀ j,j<m→p (zf l (l.length - 1 - j))=false)(d:p (zf l (l.length - 1 - m))=true):l.reverse.find? p=some (zf l (l.length - 1 - m)):=by
  have a:∀ j (c:j<l.length),l.reverse[j]?=some (zf l (l.length - 1 - j)):=fun j c=>by rw[List.getElem?_reverse qE];exact xO qE
  rw[List.find?_eq_some_iff_getElem]
  refine⟨d,m,by simpa using b,?_,fun j c=> ?_⟩
  · have:=a m b;rw[List.getElem?_eq_getElem (by simpa using b)]at this;exact Option.some.inj this
  have e:=a j qE;rw[List.getElem?_eq_getElem qL]at e;rw[Option.some.inj e,h j c];rfl
theorem zJG{α:Type}[Inhabited α]{l:List α}{p:α→Bool}(h:∀ j,j<l.length→p (zf l (l.length - 1 - j))=false):l.reverse.find? p=none:=by
  rw[List.find?_eq_none]
  intro x hx
  obtain⟨i,hi⟩:=List.mem_iff_getElem?.1 (List.mem_reverse.1 hx)
  have hl:i<l.length:=(List.getElem?_eq_some_iff.1 hi).1
  have:=h (l.length - 1 - i) qE
  rw[show l.length - 1 - (l.length - 1 - i)=i by omega,jd hi]at this
  rw[this];simp
theorem zIt(sb:Nat)(v:Value)(l:List EntD)(hl:zg l.length):zOt Tryz.prog 496 [pt sb] (fun x:Int×EntD=>Value.int .i64 x.1) (fun x:Int×EntD=>Value.agg (EntD.cells x.2).toArray) (fun a (x:Int×EntD)=>a.length<l.length∧x.2=zf l (l.length - 1 - a.length)) (fun p=>p.length=l.length) [Res.row sb 62 [v],vE v l]:=by
  intro ly J Jx L0 w Y hJ hin
  refine xq (args:=[.func (.yield ly) #[] #[],pt sb]) Tryz.func496 O Tryz.ntmps496 O (show Own w (xH ([Res.row sb 62 [v],vE v l]++L0)) (Res.row sb 62 [v]::vE v l::L0) w from hin) (zB (zJ 0 (v:=v) O O O O (zo (pV 1 O) O O (y5 O O (zt qE) O (zG O (zA (zU (xt (fun(k:Nat) (a:List (Int×EntD)) (Lr:List Res)=>[(0, .func (.yield ly) #[] #[]),(1,pt sb),(3,Vi (((k:Nat):Int) - 1))]) (fun(k:Nat) (a:List (Int×EntD)) (Lr:List Res)=>(k≤l.length∧a.length+k=l.length)∧J a Lr) (fun(k:Nat) (a:List (Int×EntD)) (Lr:List Res)=>(Res.row sb 62 [v]::vE v l::Lr)) (fun(k:Nat) (a:List (Int×EntD)) (Lr:List Res)=>k) (fun m i=>⟨l.length,[],L0,⟨O,O,O,trivial⟩,⟨⟨Nat.le_refl _,by simp⟩,hJ⟩,i⟩) (fun k a Lr g o=> ?_)))))))))
  have r:=o.1
  have j:=o.2
  refine zK (zB (zC O (xE O O O (zA (zT O (fun q=> ?_) (fun q=> ?_))))))
  ·refine zN (zK (zU (zCm (xx O za (xx O za (xx O (zZ 0 (v:=v) O O O) (xx O za (xx O (kN (pV 1 O) 5 (k - 1) O O qE qE) (xx O (zCw (pV 1 O) 5 (k - 1) (off:=yk v+(k - 1)*5) (fun _=>O) O O qE) (zMF [Res.row sb 62 [v],vE v l] (((k:Nat):Int) - 1,zf l (k - 1)) Y O O O j ⟨by omega,by show zf l (k - 1)=zf l _;congr 1;omega⟩ O (fun c Ly1_ d=>(xx O (zD6 (b:=c) O) (zIV (ku O (fun n=> ?_) (fun n=> ?_)))))))))))))))
   ·exact zP (yl O (fun m i=>⟨false,a++[(((k:Nat):Int) - 1,zf l (k - 1))],Ly1_,(by have e:c=false:=(by simpa using n);have h:=d;rwa [if_neg (by rw[e];simp)]at h),i⟩))
   refine zN (zd (zC O (y5 O O (zt qE) O (zG O (zw (fun m i=>⟨k - 1,a++[(((k:Nat):Int) - 1,zf l (k - 1))],Ly1_,⟨O,O,(by show Value.int .i64 _=Value.int .i64 _;congr 1;omega),trivial⟩,⟨⟨by omega,by simp;omega⟩,(by have e:c=true:=(by simpa using n);have h:=d;rwa [if_pos e]at h)⟩,i,qE⟩))))))
  exact xz O (yl O (fun m i=>⟨true,a,Lr,⟨by omega,j⟩,i⟩))
theorem zPS{S:List Nat}(v:Value)(l:List EntD)(w:World)(c:Own w S [vE v l] w):Rets Tryz.prog 431 #[v] w fun h d=>∃ (b:Nat),h= .func (.func 496) #[] #[pt b]∧Own w S [vE v l,Res.row b 62 [v]] d:=by
  refine zO Tryz.func431 O Tryz.ntmps431 c (zB (zS (fun d e=>Own.qa (i:=0) O e) (fun a=>(zGb O a O (fun g=>zG O (zA (zB (zAX (va:=[]) (vb:=[pt g]) O O O (zG O (zA (zP (zn (v:= .func (.func 496) #[] #[pt g]) O O (fun d e=>⟨g,O,e⟩)))))))))))))
theorem zF6(c:ConfD)(w:World)(hv:c.vs.length≤10000000)(hl:c.ls.length≤10000000)(d:ConfD.rd c w []):Rets Tryz.prog 276 #[.agg (ConfD.cells c).toArray] w fun p b=>∃ (cv n:Value),p= .agg #[cv,n]∧Own w [] [vI cv c.vs,vI n c.ls] b:=by
  refine zO Tryz.func276 O Tryz.ntmps276 (Own.start w) (zB (zj O O (fun q=>zk (v:= .agg #[zW,zW]) qD O (fun r=>zA (zK (zc [0] O V qD (fun b a e=>zD 0 O (zL (o:=0) O) e (zD 1 O (zZ 0 (v:=c.vv) O O O) e (zD 3 O (zL (o:=1) O) e (zD 4 O (zZ 0 (v:=c.lv) O O O) e (zM 2 O a (zH O O (fun b a=>(y0 c.vv c.vs b qG (a.rd0 d.vv)).mono ?_)))))))))))))
  rintro j l ⟨_,rfl,m⟩
  refine(?_:CL _ _ _ _ _ _ (Own w [] [_,_,_])) l (a.qb m)
  refine zE [0] O V (fun b a e=>zM 5 O a (zH O O (fun b a=>(y0 c.lv c.ls b qG (a.rd0 d.lv)).mono ?_)))
  rintro k l ⟨_,rfl,m⟩
  refine(?_:CL _ _ _ _ _ _ (Own w [] [_,_,_,_])) l (a.qb m)
  refine zE [0] O V (fun b a e=>zM 6 O a (zS (fun b a=>Own.qa (i:=2) O a) (fun g=>(zS (fun b a=>Own.qa (i:=3) O a) (fun h=>(xK (cs:=[j,k]) (z:=[zW,zW]) (pl:=[(0,1),(1,1)]) qD ⟨g,h,trivial⟩ qD O (zE [0] O V (fun b a e=>zM 7 O a (ze 1 O O O (zF g (zF h zh)) O (zE [0] O V (fun b a e=>zY ((?_:C _ _ _ _ _ _ _ (Own w [] [_,_,_,_])) _ a))))))))))))
  exact zP (xc (cs:=[j,k]) O O qD (Own.qc (i:=1) O) (fun b a=>⟨j,k,O,a.sel [2,3] O V⟩))
theorem zFW{es rs:List EntD}{e:Int}(hl:es.length≤1000000)(a:(LG 0 0 es).fromE (0+1) 1073741824=(rs.map EntD.toEntA,e)):rs.map EntD.toEntA=es.map EntD.toEntA:=by
  rw[LG.fromE_eq,if_neg qE,if_neg qE,if_neg qE]at a
  have e1:=congrArg Prod.fst a
  have e1:((es.map EntD.toEntA).drop (0+1 - 0 - 1)).take (1073741824:Int).toNat=rs.map EntD.toEntA:=e1
  rw[←e1,List.drop_zero,List.take_of_length_le qL]
theorem zOi{rs:List EntD}{j:Nat}(h:j<rs.length):zf (rs.map EntD.toEntA) j=(zf rs j).toEntA:=jd (by rw[List.getElem?_map,xO h];rfl)
theorem zSP{rs:List EntD}{upto:Nat}{pre:List (Int×EntD)}{x:Int×EntD}(a:∀ j,j<pre.length→zFQ upto (zf rs (rs.length - 1 - j)).toEntA=false)(b:pre.length<rs.length∧x.2=zf rs (rs.length - 1 - pre.length))(h:¬(x.2.kind=3∧x.2.index≤upto)):∀ j,j<(pre++[x]).length→zFQ upto (zf rs (rs.length - 1 - j)).toEntA=false:=by
  intro j hj
  by_cases hj2:j<pre.length
  · exact a j hj2
  rw[show j=pre.length by simp at hj;omega,←b.2]
  exact decide_eq_false h
theorem zMo{vs0:List Int}{rs:List EntD}{upto:Nat}{pre:List (Int×EntD)}{x:Int×EntD}{F:ConfA}{e:Int}(b:∀ j,j<pre.length→zFQ upto (zf rs (rs.length - 1 - j)).toEntA=false)(a:pre.length<rs.length∧x.2=zf rs (rs.length - 1 - pre.length))(h:x.2.kind=3∧x.2.index≤upto)(hv:ValPost (j8 x.2.data) F ⟨[],[]⟩ e):(F,x.2.index)=zAN vs0 (rs.map EntD.toEntA) upto:=by
  unfold zAN
  rw[zJh (m:=pre.length) (by simpa using a.1) (fun j c=>by rw[List.length_map,zOi qE];exact b j c) (by rw[List.length_map,zOi qE,←a.2];exact decide_eq_true h)]
  rw[List.length_map,zOi qE,←a.2]
  show(F,x.2.index)=((j8 x.2.data).getD ⟨[],[]⟩,x.2.index)
  rcases hv with⟨_,hv⟩|⟨_,hv,rfl⟩<;>rw[hv]<;>rfl
theorem zMU{vs0:List Int}{rs:List EntD}{upto n:Nat}(c:n=rs.length)(a:∀ j,j<n→zFQ upto (zf rs (rs.length - 1 - j)).toEntA=false):((⟨vs0,[]⟩:ConfA),0)=zAN vs0 (rs.map EntD.toEntA) upto:=by
  unfold zAN
  rw[zJG (fun j b=>by rw[List.length_map]at b ⊢;rw[zOi qE];exact a j qE)]
theorem zHM{S:List Nat}(cb jb:Nat)(t:TimD)(a:StA)(r:RolD)(b:StB)(lead yv out:Value)(qd:Nat)(lv:Value)(es:List EntD)(d:Nat)(w:World)(hg:(LG 0 0 es).good)(hl:es.length≤1000000)(aq:b.vs.length≤1000)(ak:Own w S [xZ cb t lead a r b yv jb qd out,Res.nl b lv es] w):Rets Tryz.prog 305 #[pt cb,Vn d] w fun u_ k=>∃ (cv cw:Value) (F:ConfA) (I:Nat),u_= .tuple #[.agg #[cv,cw],Vn I]∧(F,I)=zAN b.vs (es.map EntD.toEntA) d∧Own w S [xZ cb t lead a r b yv jb qd out,Res.nl b lv es,vI cv F.vs,vI cw F.ls] k:=by
  refine zJW (args:=[pt cb,Vn d]) (A:=Own w S [xZ cb t lead a r b yv jb qd out,Res.nl b lv es]) Tryz.func305 O Tryz.ntmps305 O ak (zd (zj O O (fun b3=>zk (v:= .agg #[zW,zW]) qD O (fun y=>zk (v:=Vn 0) qD O (fun z=>zw (fun u e=>((?_:C _ _ _ _ _ _ _ (Own w S [_,_,_,_,_])) u e)))))))
  refine zc [0,1,2,3,4] O V qD (fun k e g=>zD 0 O za g (zD 1 O (zX O) g (zD 2 O (zL (o:=29) O) g (zD 3 O (zZ 0 (v:=pt b.lb) O O O) g (zD 4 O za g (zD 5 O (zX O) g (zD 6 O (zL (o:=24) O) g (zD 7 O (zL (o:=0) O) g (zD 8 O (zZ 0 (v:=Vn 0) O O O) g (zD 9 O (xL O O (yp qE)) g (zM 10 O e (zH O O (fun k e=>((zFE b.lb 0 0 lv es (0+1) 1073741824 k qF ‹_› (e.qq 1 0 O O) (e.qr 1 1 O O) (EntD.rd.qq 1 2 O O e)).mono ?_))))))))))))))
  rintro _ u ⟨a0,c,ad,rfl,a5,hO⟩
  have a1:=zFW hl a5
  have ar:c.length=es.length:=(by simpa using congrArg List.length a1)
  refine(?_:CL _ _ _ _ _ _ (Own w S [_,_,_,_,_,_,_])) u (e.qb hO)
  refine zE [0,1,2,3,4] O V (fun k e g=>zD 11 O za g (zD 12 O (yD (vs:=[a0,Vi ad]) O O) g (zD 13 O (yD (vs:=[a0,Vi ad]) O O) g (zD 14 O z7 g (zD 15 O z7 g (zY ?_))))))
  skip
  refine(?_:C _ _ _ _ _ _ _ (Own w S [_,_,_,_,_,_,_])) k e
  refine zd (zC O (zH O O (fun k e=>(zPS a0 c k (e.give [5] O V)).mono ?_)))
  rintro _ u ⟨al,rfl,hO⟩
  refine fq [5] O e hO (zw (fun u e=>(zMM (e1:=fun x:Int×EntD=>Value.int .i64 x.1) (e2:=fun x:Int×EntD=>Value.agg (EntD.cells x.2).toArray) (Q:=fun m (x:Int×EntD)=>m.length<c.length∧x.2=zf c (c.length - 1 - m.length)) (Sx:=fun xs=>xs.length=c.length) (Ls:=[Res.row al 62 [a0],vE a0 c]) (Lu:=[xZ cb t lead a r b yv jb qd out,Res.nl b lv es,Res.row b3 31 [Vn d],Res.row y 211 [zW,zW],Res.row z 31 [Vn 0],sE c]) (Ju:=fun m L=>L=[xZ cb t lead a r b yv jb qd out,Res.nl b lv es,Res.row b3 31 [Vn d],Res.row y 211 [zW,zW],Res.row z 31 [Vn 0],sE c]∧(∀ j,j<m.length→zFQ d (zf c (c.length - 1 - j)).toEntA=false)) (Jx:=fun m L=>∃ (cv cw:Value) (F:ConfA) (i:Nat),L=[xZ cb t lead a r b yv jb qd out,Res.row y 211 [cv,cw],Res.row z 31 [Vn i],Res.nl b lv es,vI cv F.vs,vI cw F.ls]∧(F,i)=zAN b.vs (es.map EntD.toEntA) d) (Mid:=fun m x f' L=>∃ b9:Nat,Agr f' [(3,pt b3),(4,pt y),(5,pt z),(9,pt b9)]∧L=[xZ cb t lead a r b yv jb qd out,Res.nl b lv es,Res.row b3 31 [Vn d],Res.row y 211 [zW,zW],Res.row z 31 [Vn 0],sE c,Res.row b9 130 (EntD.cells x.2)]∧(∀ j,j<m.length→zFQ d (zf c (c.length - 1 - j)).toEntA=false)) O qD (zIt _ _ _ (by simp only[zg];omega)) ⟨O,(fun j h=>by cases h)⟩ (e.sel [7,6,0,1,2,3,4,5] O V) O O O ?_ ?_ ?_ ?_)))
  ·rintro m x L w ⟨rfl,hJ⟩ hQ
   have a2:x.2∈c:=by rw[hQ.2];exact zx qE
   have aa:x.2.toEntA∈es.map EntD.toEntA:=a1▸List.mem_map_of_mem a2
   have am:x.2.data.length≤4096:=(folA.ok hg.fol _ aa).1.2.2.2
   refine zk (v:= .agg #[Vn 0,Vn 0,Vi 0,Vi 0,zW]) qD O (fun b9=>(zS (fun k e=>Sl.cell1 (Rd.φ ((EntD.rd.star0 5 O e _ a2).dv))) (fun ae=>(ze 6 O O O (zF O (zF O (zF O (zF O (zF ae zh))))) O (zw (fun k e=>⟨_,⟨b9,⟨O,O,O,O,trivial⟩,O,hJ⟩,e⟩))))))
  ·rintro l m x f' L w ⟨b9,hA,rfl,hJ⟩ hQ e
   rw[←zBq hA]
   have a2:x.2∈c:=by rw[hQ.2];exact zx qE
   have aa:x.2.toEntA∈es.map EntD.toEntA:=a1▸List.mem_map_of_mem a2
   have am:x.2.data.length≤4096:=(folA.ok hg.fol _ aa).1.2.2.2
   refine zJ8 O ((?_:CL _ _ _ _ _ _ (Own w (xH [xZ cb t lead a r b yv jb qd out,Res.nl b lv es,Res.row b3 31 [Vn d],Res.row y 211 [zW,zW],Res.row z 31 [Vn 0],sE c,Res.row b9 130 (EntD.cells x.2)]) [xZ cb t lead a r b yv jb qd out,Res.nl b lv es,Res.row b3 31 [Vn d],Res.row y 211 [zW,zW],Res.row z 31 [Vn 0],sE c,Res.row b9 130 (EntD.cells x.2)])) w e)
   refine zI (o:=2) O O (zJ 6 (v:=Vi x.2.kind) O O O O (yR O O O (zC O (yA (q:=x.2.kind=3) 4 3 [37,36,35,34] (((x.2.index:Nat):Int)≤((d:Nat):Int)) O O O O O O trivial O (fun s=> ?_) (fun ap=> ?_)))))
   ·refine zQ O (gT s) (zI (o:=0) O O (zQ O (gT s) (zJ 6 (v:=Vn x.2.index) O O O O (zQ O (gT s) (zJ 2 (v:=Vn d) O O O O (zQ O (gT s) (yq O O O (z8 O (fun _ e=>e)))))))))
   refine zw (fun u e=>zRL O (fun c1=> ?_) (fun c1=> ?_))
   ·refine zJ8 O ((?_:CL _ _ _ _ _ _ (Own w (xH [xZ cb t lead a r b yv jb qd out,Res.nl b lv es,Res.row b3 31 [Vn d],Res.row y 211 [zW,zW],Res.row z 31 [Vn 0],sE c,Res.row b9 130 (EntD.cells x.2)]) [xZ cb t lead a r b yv jb qd out,Res.nl b lv es,Res.row b3 31 [Vn d],Res.row y 211 [zW,zW],Res.row z 31 [Vn 0],sE c,Res.row b9 130 (EntD.cells x.2)])) u e)
    refine zI (o:=4) O O (zJ 6 (v:=x.2.dv) O O O O (zH O O (fun k e=>(zFf x.2.dv x.2.data k qG ((EntD.rd.star0 5 O e _ a2).dv)).mono ?_)))
    rintro _ u ⟨n,a6,p,a7,af,rfl,ab,ag,ah,hO⟩
    refine(?_:CL _ _ _ _ _ _ (Own w (xH [xZ cb t lead a r b yv jb qd out,Res.nl b lv es,Res.row b3 31 [Vn d],Res.row y 211 [zW,zW],Res.row z 31 [Vn 0],sE c,Res.row b9 130 (EntD.cells x.2)]) [xZ cb t lead a r b yv jb qd out,Res.nl b lv es,Res.row b3 31 [Vn d],Res.row y 211 [zW,zW],Res.row z 31 [Vn 0],sE c,Res.row b9 130 (EntD.cells x.2),vI n a6,vI p a7])) u (e.qb hO)
    refine zC O (zb (vs:=[.agg #[n,p],Vi af]) O O O (zb (vs:=[.agg #[n,p],Vi af]) O O O (zk (v:= .agg #[zW,zW]) qD O (fun au=>(zS (fun k e=>Own.qa (i:=7) O e) (fun a8=>(zS (fun k e=>Own.qa (i:=8) O e) (fun a9=>(ze 9 O O O (zF a8 (zF a9 zh)) O (zG O (zw (fun w2 e=>zNd [0,2,6,7,8,9] O V O qD (fun k e g=> ?_) e))))))))))))
    refine zD 0 O (xB (cs:=[n,p]) 5 O O) g (zD 1 O (zL (o:=0) O) g (zD 2 O (zZ 2 (v:=Vn x.2.index) O O O) g (zM 3 O e (ze 3 O O O (zF a8 (zF a9 zh)) O (zE [0,2,6,7,8,9] O V (fun k e g=>zM 4 O e (zi (cs:=[Vn 0]) 4 O O O O O (zE [0,2,6,7,8,9] O V (fun k e g=>zY (zQW ⟨_,⟨n,p,(⟨a6,a7⟩:ConfA),x.2.index,O,a1▸zMo hJ hQ ⟨c1.1,by omega⟩ ab⟩,e.sel [0,3,4,1,7,8] O V⟩))))))))))
   exact zMa ⟨_,⟨O,zSP hJ hQ (fun q=>c1 ⟨q.1,by omega⟩)⟩,e.sel [0,1,2,3,4,5] O V⟩
  ·rintro xs L' D u g ⟨rfl,hJ⟩ hO a_ an
   refine zN3 O qD O ?_ hO a_ an
   refine zC O (zV O O (zI (o:=24) O O (zI (o:=2) O O (xC 3 [b.vv,b.wv] O O (ye 26 O) qD O (zH O O (fun k e=>(zF6 ({vv:=b.vv,vs:=b.vs,lv:=b.wv,ls:=[]}:ConfD) k qG qG ⟨(e.qr 4 3 O O),(e.qr 4 4 O O)⟩).mono ?_))))))
   rintro _ u ⟨a3,a4,rfl,hO⟩
   refine(?_:CL _ _ _ _ _ _ (Own w S [_,_,_,_,_,_,_,_,_,_,_])) u (e.qb hO)
   refine zS (fun k e=>Own.qa (i:=9) O e) (fun ai=>(zS (fun k e=>Own.qa (i:=10) O e) (fun aj=>(ze 6 O O O (zF ai (zF aj zh)) O (zi (cs:=[Vn 0]) 7 O O O O O (zw (fun k e=>⟨_,[a3,a4],Vn 0,y,z,5,6,⟨O,O⟩,⟨by rfl,by rfl⟩,by kernel_rfl,e,fun ao ac=>⟨a3,a4,(⟨b.vs,[]⟩:ConfA),0,O,a1▸zMU g hJ,ac.sel [2,3,8,9] O V⟩⟩)))))))
  rintro xs L' D u ⟨cv,cw,F,i,rfl,hX⟩ hO
  exact zKo (cs:=[cv,cw]) (v:=Vn i) (j4:=3) (j5:=4) O qD O O O O qD hO (fun ao ac=>⟨cv,cw,F,i,O,hX,ac.sel [2,5,6,7] O V⟩)
end Go.Proofs.YtmpaljnacfidaaaGreatDoor
