import Derived.Test.YtkkeknmkipkbmaaGreatFwJ
import Derived.Test.YtkkeknmkipkbmaaGreatFwJS
set_option linter.unusedSectionVars false
set_option linter.unusedSimpArgs false
set_option linter.unusedVariables false
set_option maxRecDepth 10000
namespace Go.Proofs.YtkkeknmkipkbmaaGreat
open Go Go.Sc Go.Proofs
def zAq(upto:Nat)(x:EntA):Bool:=decide (x.kind=3∧x.index≤upto)
def xL(vs0:List Int)(es:List EntA)(upto:Nat):ConfA×Nat:=
  match es.reverse.find? (zAq upto)with
  |some x=>((xG x.data).getD ⟨[],[]⟩,x.index)
  |none=>(⟨vs0,[]⟩,0)
theorem zIY{α:Type}[Inhabited α]{l:List α}{p:α→Bool}{m:Nat}(hm:m<l.length)(h:∀ j,j<m→p (zG l (l.length - 1 - j))=false)(hx:p (zG l (l.length - 1 - m))=true):l.reverse.find? p=some (zG l (l.length - 1 - m)):=by
  have at_:∀ j (hj:j<l.length),l.reverse[j]?=some (zG l (l.length - 1 - j)):=fun j hj=>by rw[List.getElem?_reverse V];exact xA V
  rw[List.find?_eq_some_iff_getElem]
  refine⟨hx,m,by simpa using hm,?_,fun j hj=> ?_⟩
  · have:=at_ m hm;rw[List.getElem?_eq_getElem (by simpa using hm)]at this;exact Option.some.inj this
  have e:=at_ j V;rw[List.getElem?_eq_getElem qW]at e;rw[Option.some.inj e,h j hj];rfl
theorem zIZ{α:Type}[Inhabited α]{l:List α}{p:α→Bool}(h:∀ j,j<l.length→p (zG l (l.length - 1 - j))=false):l.reverse.find? p=none:=by
  rw[List.find?_eq_none]
  intro x hx
  obtain⟨i,hi⟩:=List.mem_iff_getElem?.1 (List.mem_reverse.1 hx)
  have hl:i<l.length:=(List.getElem?_eq_some_iff.1 hi).1
  have:=h (l.length - 1 - i) V
  rw[show l.length - 1 - (l.length - 1 - i)=i by omega,xI hi]at this
  rw[this];simp
theorem zHx(sb:Nat)(v:Value)(l:List EntD)(hl:zf l.length):zMo Tryz.prog 158 [pt sb] (fun x:Int×EntD=>Value.int .i64 x.1) (fun x:Int×EntD=>Value.agg (EntD.cells x.2).toArray) (fun pre (x:Int×EntD)=>pre.length<l.length∧x.2=zG l (l.length - 1 - pre.length)) (fun xs=>xs.length=l.length) [Res.row sb 57 [v],vE v l]:=by
  intro ly J Jx L0 w Y hJ hin
  refine xo (args:=[.func (.yield ly) #[] #[],pt sb]) Tryz.func158 O Tryz.ntmps158 O (show Own w (y1 ([Res.row sb 57 [v],vE v l]++L0)) (Res.row sb 57 [v]::vE v l::L0) w from hin) ?_
  refine zB (zL 0 (v:=v) O O O O (zq (pV 1 O) O O (x5 O O (zu V) O (zI O (zA (zX ?_))))))
  refine xi (fun(k:Nat) (pre:List (Int×EntD)) (Lr:List Res)=>[(0, .func (.yield ly) #[] #[]),(1,pt sb),(3,Vi (((k:Nat):Int) - 1))]) (fun(k:Nat) (pre:List (Int×EntD)) (Lr:List Res)=>(k≤l.length∧pre.length+k=l.length)∧J pre Lr) (fun(k:Nat) (pre:List (Int×EntD)) (Lr:List Res)=>(Res.row sb 57 [v]::vE v l::Lr)) (fun(k:Nat) (pre:List (Int×EntD)) (Lr:List Res)=>k) (fun w' hw=>⟨l.length,[],L0,⟨O,O,O,trivial⟩,⟨⟨Nat.le_refl _,by simp⟩,hJ⟩,hw⟩) (fun k pre Lr g hΦ=> ?_)
  have hk:=hΦ.1
  have hJk:=hΦ.2
  refine zN (zB (zD O (kE O O O (zA (zY O (fun c1=> ?_) (fun c1=> ?_))))))
  ·refine zO (zN (zX (zEe ?_)))
   refine kM O zU ?_
   refine kM O zU ?_
   refine kM O (za 0 (v:=v) O O O) ?_
   refine kM O zU ?_
   refine kM O (xV (pV 1 O) 5 (k - 1) O O V V) ?_
   refine kM O (zNt (pV 1 O) 5 (k - 1) (off:=xM v+(k - 1)*5) (fun _=>O) O O V) ?_
   refine zKe [Res.row sb 57 [v],vE v l] (((k:Nat):Int) - 1,zG l (k - 1)) Y O O O hJk ⟨by omega,by show zG l (k - 1)=zG l _;congr 1;omega⟩ O (fun rLy1_ Ly1_ hJLy1_=> ?_)
   refine kM O (zDs (b:=rLy1_) O) ?_
   refine zJ3 ?_
   refine zAc O (fun c2=> ?_) (fun c2=> ?_)
   ·exact zT (yJ O (fun w' hw=>⟨false,pre++[(((k:Nat):Int) - 1,zG l (k - 1))],Ly1_,(by have e:rLy1_=false:=(by simpa using c2);have h:=hJLy1_;rwa [if_neg (by rw[e];simp)]at h),hw⟩))
   refine zO (zR (zD O (x5 O O (zu V) O (zI O ?_))))
   exact ze (fun w' hw=>⟨k - 1,pre++[(((k:Nat):Int) - 1,zG l (k - 1))],Ly1_,⟨O,O,(by show Value.int .i64 _=Value.int .i64 _;congr 1;omega),trivial⟩,⟨⟨by omega,by simp;omega⟩,(by have e:rLy1_=true:=(by simpa using c2);have h:=hJLy1_;rwa [if_pos e]at h)⟩,hw,V⟩)
  exact kX O (yJ O (fun w' hw=>⟨true,pre,Lr,⟨by omega,hJk⟩,hw⟩))
theorem zM7{S:List Nat}(v:Value)(l:List EntD)(w:World)(hin:Own w S [vE v l] w):Rets Tryz.prog 117 #[v] w fun u_ w'=>∃ (b:Nat),u_= .func (.func 158) #[] #[pt b]∧Own w S [vE v l,Res.row b 57 [v]] w':=by
  refine zW Tryz.func117 O Tryz.ntmps117 hin ?_
  refine zB ?_
  refine zP (fun w' hw=>Own.qh (i:=0) O hw) (fun hc1_=> ?_)
  refine zFz O hc1_ O (fun b1=>zI O (zA (zB (zBi (va:=[]) (vb:=[pt b1]) O O O (zI O (zA ?_))))))
  exact zT (z5 (v:= .func (.func 158) #[] #[pt b1]) O O (fun w' hw=>⟨b1,O,hw⟩))
theorem zFj(c:ConfD)(w:World)(hv:c.vs.length≤10000000)(hl:c.ls.length≤10000000)(rd_c:ConfD.rd c w []):Rets Tryz.prog 68 #[.agg (ConfD.cells c).toArray] w fun u_ w'=>∃ (cv cw:Value),u_= .agg #[cv,cw]∧Own w [] [vI cv c.vs,vI cw c.ls] w':=by
  refine zW Tryz.func68 O Tryz.ntmps68 (Own.start w) ?_
  refine zB (z4 O O (fun b1=>yE (v:= .agg #[.slice none 0 0, .slice none 0 0]) qM O (fun b2=>zA (zN (zi [0] O qL qM (fun w' hw hS=>zC 0 O (zH (o:=0) O) hS (zC 1 O (za 0 (v:=c.vv) O O O) hS (zC 3 O (zH (o:=1) O) hS (zC 4 O (za 0 (v:=c.lv) O O O) hS (zK 2 O hw (a_call O O (fun w' hw=>(zBF c.vv c.vs w' qO (hw.rd0 rd_c.vv)).mono ?_))))))))))))
  rintro r1_ w1 ⟨_,rfl,hO⟩
  refine O3 ?_ (hw.qi hO)
  refine zE [0] O qL (fun w' hw hS=>zK 5 O hw (a_call O O (fun w' hw=>(zBF c.lv c.ls w' qO (hw.rd0 rd_c.lv)).mono ?_)))
  rintro r2_ w1 ⟨_,rfl,hO⟩
  refine O4 ?_ (hw.qi hO)
  refine zE [0] O qL (fun w' hw hS=>zK 6 O hw ?_)
  refine zP (fun w' hw=>Own.qh (i:=2) O hw) (fun hc3_=> ?_)
  refine zP (fun w' hw=>Own.qh (i:=3) O hw) (fun hc4_=> ?_)
  refine jJ (cs:=[r1_,r2_]) (z:=[.slice none 0 0, .slice none 0 0]) (pl:=[(0,1),(1,1)]) qM ⟨hc3_,hc4_,trivial⟩ qM O (zE [0] O qL (fun w' hw hS=>zK 7 O hw (zp 1 O O O (zF hc3_ (zF hc4_ zk)) O (zE [0] O qL (fun w' hw hS=>zV ?_)))))
  refine Oc4 ?_ hw
  exact zT (jV (cs:=[r1_,r2_]) O O qM (Own.qq (i:=1) O) (fun w' hw=>⟨r1_,r2_,O,hw.sel [2,3] O qL⟩))
theorem zJR{es rs:List EntD}{e:Int}(hl:es.length≤1000000)(hf:(LG 0 0 es).fromE (0+1) 1073741824=(rs.map EntD.toEntA,e)):rs.map EntD.toEntA=es.map EntD.toEntA:=by
  rw[LG.fromE_eq,if_neg V,if_neg V,if_neg V]at hf
  have e1:=congrArg Prod.fst hf
  have e1:((es.map EntD.toEntA).drop (0+1 - 0 - 1)).take (1073741824:Int).toNat=rs.map EntD.toEntA:=e1
  rw[←e1,List.drop_zero,List.take_of_length_le qW]
theorem zLw{rs:List EntD}{j:Nat}(h:j<rs.length):zG (rs.map EntD.toEntA) j=(zG rs j).toEntA:=xI (by rw[List.getElem?_map,xA h];rfl)
theorem zOL{rs:List EntD}{upto:Nat}{pre:List (Int×EntD)}{x:Int×EntD}(hJ:∀ j,j<pre.length→zAq upto (zG rs (rs.length - 1 - j)).toEntA=false)(hQ:pre.length<rs.length∧x.2=zG rs (rs.length - 1 - pre.length))(h:¬(x.2.kind=3∧x.2.index≤upto)):∀ j,j<(pre++[x]).length→zAq upto (zG rs (rs.length - 1 - j)).toEntA=false:=by
  intro j hj
  by_cases hj2:j<pre.length
  · exact hJ j hj2
  rw[show j=pre.length by simp at hj;omega,←hQ.2]
  exact decide_eq_false h
theorem zLV{vs0:List Int}{rs:List EntD}{upto:Nat}{pre:List (Int×EntD)}{x:Int×EntD}{F:ConfA}{e:Int}(hJ:∀ j,j<pre.length→zAq upto (zG rs (rs.length - 1 - j)).toEntA=false)(hQ:pre.length<rs.length∧x.2=zG rs (rs.length - 1 - pre.length))(h:x.2.kind=3∧x.2.index≤upto)(hv:ValPost (xG x.2.data) F ⟨[],[]⟩ e):(F,x.2.index)=xL vs0 (rs.map EntD.toEntA) upto:=by
  unfold xL
  rw[zIY (m:=pre.length) (by simpa using hQ.1) (fun j hj=>by rw[List.length_map,zLw V];exact hJ j hj) (by rw[List.length_map,zLw V,←hQ.2];exact decide_eq_true h)]
  rw[List.length_map,zLw V,←hQ.2]
  show(F,x.2.index)=((xG x.2.data).getD ⟨[],[]⟩,x.2.index)
  rcases hv with⟨_,hv⟩|⟨_,hv,rfl⟩<;>rw[hv]<;>rfl
theorem zLz{vs0:List Int}{rs:List EntD}{upto n:Nat}(hn:n=rs.length)(hJ:∀ j,j<n→zAq upto (zG rs (rs.length - 1 - j)).toEntA=false):((⟨vs0,[]⟩:ConfA),0)=xL vs0 (rs.map EntD.toEntA) upto:=by
  unfold xL
  rw[zIZ (fun j hj=>by rw[List.length_map]at hj ⊢;rw[zLw V];exact hJ j V)]
theorem zCa{S:List Nat}(cb jb:Nat)(t:TimD)(a:StA)(r:RolD)(b:StB)(lead yv out:Value)(qd:Nat)(lv:Value)(es:List EntD)(upto:Nat)(w:World)(hg:(LG 0 0 es).good)(hl:es.length≤1000000)(hvl:b.vs.length≤1000)(hin:Own w S [z3 cb t lead a r b yv jb qd out,Res.nl b lv es] w):Rets Tryz.prog 73 #[pt cb,Vn upto] w fun u_ w'=>∃ (cv cw:Value) (F:ConfA) (I:Nat),u_= .tuple #[.agg #[cv,cw],Vn I]∧(F,I)=xL b.vs (es.map EntD.toEntA) upto∧Own w S [z3 cb t lead a r b yv jb qd out,Res.nl b lv es,vI cv F.vs,vI cw F.ls] w':=by
  refine zIK (args:=[pt cb,Vn upto]) (A:=Own w S [z3 cb t lead a r b yv jb qd out,Res.nl b lv es]) Tryz.func73 O Tryz.ntmps73 O hin ?_
  refine zR (z4 O O (fun b3=>yE (v:= .agg #[.slice none 0 0, .slice none 0 0]) qM O (fun b4=>yE (v:=Vn 0) qM O (fun b5=>ze (fun w1 hw=> ?_)))))
  refine Oc5 ?_ hw
  refine zi [0,1,2,3,4] O qL qM (fun w' hw hS=>zC 0 O zU hS (zC 1 O (zQ O) hS (zC 2 O (zH (o:=29) O) hS (zC 3 O (za 0 (v:=pt b.lb) O O O) hS (zC 4 O zU hS (zC 5 O (zQ O) hS (zC 6 O (zH (o:=24) O) hS (zC 7 O (zH (o:=0) O) hS (zC 8 O (za 0 (v:=Vn 0) O O O) hS (zC 9 O (yo O O (xN V)) hS (zK 10 O hw (a_call O O (fun w' hw=> ?_)))))))))))))
  refine(zJr b.lb 0 0 lv es (0+1) 1073741824 w' V ‹_› (hw.qE 1 0 O O) (hw.qG 1 1 O O) (EntD.rd.qE 1 2 O O hw)).mono ?_
  rintro _ w1 ⟨r1_,rs2_,e3_,rfl,hf1_10,hO⟩
  have hrs:=zJR hl hf1_10
  have hrl:rs2_.length=es.length:=(by simpa using congrArg List.length hrs)
  refine O7 ?_ (hw.qi hO)
  refine zE [0,1,2,3,4] O qL (fun w' hw hS=>zC 11 O zU hS (zC 12 O (yT (vs:=[r1_,Vi e3_]) O O) hS (zC 13 O (yT (vs:=[r1_,Vi e3_]) O O) hS (zC 14 O yN hS (zC 15 O yN hS (zV ?_))))))
  skip
  refine(?_:C _ _ _ _ _ _ _ (Own w S [_,_,_,_,_,_,_])) w' hw
  refine zR (zD O (a_call O O (fun w' hw=>(zM7 r1_ rs2_ w' (hw.give [5] O qL)).mono ?_)))
  rintro _ w1 ⟨b4_,rfl,hO⟩
  refine O8 ?_ (hw.qg [5] O hO)
  refine ze (fun w1 hw=> ?_)
  refine zKj (e1:=fun x:Int×EntD=>Value.int .i64 x.1) (e2:=fun x:Int×EntD=>Value.agg (EntD.cells x.2).toArray) (Q:=fun pre (x:Int×EntD)=>pre.length<rs2_.length∧x.2=zG rs2_ (rs2_.length - 1 - pre.length)) (Sx:=fun xs=>xs.length=rs2_.length) (Ls:=[Res.row b4_ 57 [r1_],vE r1_ rs2_]) (Lu:=[z3 cb t lead a r b yv jb qd out,Res.nl b lv es,Res.row b3 22 [Vn upto],Res.row b4 35 [.slice none 0 0, .slice none 0 0],Res.row b5 22 [Vn 0],sE rs2_]) (Ju:=fun pre L=>L=[z3 cb t lead a r b yv jb qd out,Res.nl b lv es,Res.row b3 22 [Vn upto],Res.row b4 35 [.slice none 0 0, .slice none 0 0],Res.row b5 22 [Vn 0],sE rs2_]∧(∀ j,j<pre.length→zAq upto (zG rs2_ (rs2_.length - 1 - j)).toEntA=false)) (Jx:=fun pre L=>∃ (cv cw:Value) (F:ConfA) (i:Nat),L=[z3 cb t lead a r b yv jb qd out,Res.row b4 35 [cv,cw],Res.row b5 22 [Vn i],Res.nl b lv es,vI cv F.vs,vI cw F.ls]∧(F,i)=xL b.vs (es.map EntD.toEntA) upto) (Mid:=fun pre x f' L=>∃ b9:Nat,Agr f' [(3,pt b3),(4,pt b4),(5,pt b5),(9,pt b9)]∧L=[z3 cb t lead a r b yv jb qd out,Res.nl b lv es,Res.row b3 22 [Vn upto],Res.row b4 35 [.slice none 0 0, .slice none 0 0],Res.row b5 22 [Vn 0],sE rs2_,Res.row b9 81 (EntD.cells x.2)]∧(∀ j,j<pre.length→zAq upto (zG rs2_ (rs2_.length - 1 - j)).toEntA=false)) O qM (zHx _ _ _ (by simp only[zf];omega)) ⟨O,(fun j h=>by cases h)⟩ (hw.sel [7,6,0,1,2,3,4,5] O qL) O O O ?_ ?_ ?_ ?_
  ·rintro pre x L w ⟨rfl,hJ⟩ hQ
   have hxm:x.2∈rs2_:=by rw[hQ.2];exact zd V
   have hxa:x.2.toEntA∈es.map EntD.toEntA:=hrs▸List.mem_map_of_mem hxm
   have hxl:x.2.data.length≤4096:=(folA.ok hg.fol _ hxa).1.2.2.2
   refine yE (v:= .agg #[Vn 0,Vn 0,Vi 0,Vi 0, .slice none 0 0]) qM O (fun b9=> ?_)
   refine zP (fun w' hw=>Sl.cell1 (Rd.φ ((EntD.rd.star0 5 O hw _ hxm).dv))) (fun hc1_=> ?_)
   refine zp 6 O O O (zF O (zF O (zF O (zF O (zF hc1_ zk))))) O ?_
   exact ze (fun w' hw=>⟨_,⟨b9,⟨O,O,O,O,trivial⟩,O,hJ⟩,hw⟩)
  ·rintro l pre x f' L w ⟨b9,hA,rfl,hJ⟩ hQ hw
   rw[←zA9 hA]
   have hxm:x.2∈rs2_:=by rw[hQ.2];exact zd V
   have hxa:x.2.toEntA∈es.map EntD.toEntA:=hrs▸List.mem_map_of_mem hxm
   have hxl:x.2.data.length≤4096:=(folA.ok hg.fol _ hxa).1.2.2.2
   refine zJJ O ((?_:CL _ _ _ _ _ _ (Own w (y1 [z3 cb t lead a r b yv jb qd out,Res.nl b lv es,Res.row b3 22 [Vn upto],Res.row b4 35 [.slice none 0 0, .slice none 0 0],Res.row b5 22 [Vn 0],sE rs2_,Res.row b9 81 (EntD.cells x.2)]) [z3 cb t lead a r b yv jb qd out,Res.nl b lv es,Res.row b3 22 [Vn upto],Res.row b4 35 [.slice none 0 0, .slice none 0 0],Res.row b5 22 [Vn 0],sE rs2_,Res.row b9 81 (EntD.cells x.2)])) w hw)
   refine zJ (o:=2) O O (zL 6 (v:=Vi x.2.kind) O O O O (yS O O O (zD O (yO (q:=x.2.kind=3) 4 3 [37,36,35,34] (((x.2.index:Nat):Int)≤((upto:Nat):Int)) O O O O O O trivial O (fun h4_3=> ?_) (fun g4_8=> ?_)))))
   ·refine zS O (gT h4_3) (zJ (o:=0) O O (zS O (gT h4_3) (zL 6 (v:=Vn x.2.index) O O O O (zS O (gT h4_3) (zL 2 (v:=Vn upto) O O O O (zS O (gT h4_3) (xk O O O ?_)))))))
    exact yP O (fun _ hw=>hw)
   refine ze (fun w1 hw=>zNX O (fun c1=> ?_) (fun c1=> ?_))
   ·refine zJJ O ((?_:CL _ _ _ _ _ _ (Own w (y1 [z3 cb t lead a r b yv jb qd out,Res.nl b lv es,Res.row b3 22 [Vn upto],Res.row b4 35 [.slice none 0 0, .slice none 0 0],Res.row b5 22 [Vn 0],sE rs2_,Res.row b9 81 (EntD.cells x.2)]) [z3 cb t lead a r b yv jb qd out,Res.nl b lv es,Res.row b3 22 [Vn upto],Res.row b4 35 [.slice none 0 0, .slice none 0 0],Res.row b5 22 [Vn 0],sE rs2_,Res.row b9 81 (EntD.cells x.2)])) w1 hw)
    refine zJ (o:=4) O O (zL 6 (v:=x.2.dv) O O O O (a_call O O (fun w' hw=>(zFF x.2.dv x.2.data w' qO ((EntD.rd.star0 5 O hw _ hxm).dv)).mono ?_)))
    rintro _ w1 ⟨r15_,l16_,r27_,l28_,e9_,rfl,hf5_2,hf5_2_1,hf5_2_2,hO⟩
    refine(?_:CL _ _ _ _ _ _ (Own w (y1 [z3 cb t lead a r b yv jb qd out,Res.nl b lv es,Res.row b3 22 [Vn upto],Res.row b4 35 [.slice none 0 0, .slice none 0 0],Res.row b5 22 [Vn 0],sE rs2_,Res.row b9 81 (EntD.cells x.2)]) [z3 cb t lead a r b yv jb qd out,Res.nl b lv es,Res.row b3 22 [Vn upto],Res.row b4 35 [.slice none 0 0, .slice none 0 0],Res.row b5 22 [Vn 0],sE rs2_,Res.row b9 81 (EntD.cells x.2),vI r15_ l16_,vI r27_ l28_])) w1 (hw.qi hO)
    refine zD O (yD (vs:=[.agg #[r15_,r27_],Vi e9_]) O O O (yD (vs:=[.agg #[r15_,r27_],Vi e9_]) O O O (yE (v:= .agg #[.slice none 0 0, .slice none 0 0]) qM O (fun b10=> ?_))))
    refine zP (fun w' hw=>Own.qh (i:=7) O hw) (fun hc2_=> ?_)
    refine zP (fun w' hw=>Own.qh (i:=8) O hw) (fun hc3_=> ?_)
    refine zp 9 O O O (zF hc2_ (zF hc3_ zk)) O (zI O (ze (fun w2 hw=>zMJ [0,2,6,7,8,9] O qL O qM (fun w' hw hS=> ?_) hw)))
    refine zC 0 O (xy (cs:=[r15_,r27_]) 5 O O) hS (zC 1 O (zH (o:=0) O) hS (zC 2 O (za 2 (v:=Vn x.2.index) O O O) hS (zK 3 O hw (zp 3 O O O (zF hc2_ (zF hc3_ zk)) O (zE [0,2,6,7,8,9] O qL (fun w' hw hS=>zK 4 O hw (zn (cs:=[Vn 0]) 4 O O O O O (zE [0,2,6,7,8,9] O qL (fun w' hw hS=>zV ?_)))))))))
    exact zNu ⟨_,⟨r15_,r27_,(⟨l16_,l28_⟩:ConfA),x.2.index,O,hrs▸zLV hJ hQ ⟨c1.1,by omega⟩ hf5_2⟩,hw.sel [0,3,4,1,7,8] O qL⟩
   exact zL5 ⟨_,⟨O,zOL hJ hQ (fun q=>c1 ⟨q.1,by omega⟩)⟩,hw.sel [0,1,2,3,4,5] O qL⟩
  ·rintro xs L' D w1 hS ⟨rfl,hJ⟩ hO a_ ha_
   refine zL9 O qM O ?_ hO a_ ha_
   refine zD O (zb O O (zJ (o:=24) O O (zJ (o:=2) O O (j3 3 [b.vv,b.wv] O O (kH 26 O) qM O (a_call O O (fun w' hw=>(zFj ({vv:=b.vv,vs:=b.vs,lv:=b.wv,ls:=[]}:ConfD) w' qO qO ⟨(hw.qG 4 3 O O),(hw.qG 4 4 O O)⟩).mono ?_))))))
   rintro _ w1 ⟨cv10_,cw11_,rfl,hO⟩
   refine O11 ?_ (hw.qi hO)
   refine zP (fun w' hw=>Own.qh (i:=9) O hw) (fun hc4_=> ?_)
   refine zP (fun w' hw=>Own.qh (i:=10) O hw) (fun hc5_=> ?_)
   refine zp 6 O O O (zF hc4_ (zF hc5_ zk)) O (zn (cs:=[Vn 0]) 7 O O O O O ?_)
   exact ze (fun w' hw=>⟨_,[cv10_,cw11_],Vn 0,b4,b5,5,6,⟨O,O⟩,⟨by rfl,by rfl⟩,by kernel_rfl,hw,fun w'' hO2=>⟨cv10_,cw11_,(⟨b.vs,[]⟩:ConfA),0,O,hrs▸zLz hS hJ,hO2.sel [2,3,8,9] O qL⟩⟩)
  rintro xs L' D w1 ⟨cv,cw,F,i,rfl,hX⟩ hO
  exact zJN (cs:=[cv,cw]) (v:=Vn i) (j4:=3) (j5:=4) O qM O O O O qM hO (fun w'' hO2=>⟨cv,cw,F,i,O,hX,hO2.sel [2,5,6,7] O qL⟩)
end Go.Proofs.YtkkeknmkipkbmaaGreat
