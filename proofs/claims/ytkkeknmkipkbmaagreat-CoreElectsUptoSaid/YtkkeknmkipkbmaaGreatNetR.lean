import Derived.Test.YtkkeknmkipkbmaaGreatNetB
set_option linter.unusedSectionVars false
set_option linter.unusedSimpArgs false
set_option linter.unusedVariables false
set_option maxRecDepth 10000
namespace Go.Proofs.YtkkeknmkipkbmaaGreat
open Go Go.Sc Go.Proofs
theorem zMz{l m:List UInt8}:((⟨l.toArray⟩:ByteArray)=⟨m.toArray⟩)↔l=m:=by
  constructor
  · intro h;have:=congrArg (fun b:ByteArray=>b.data.toList) h;simpa using this
  intro h;rw[h]
theorem entA_eq{x y:EntA}:x=y↔(((((x.index:Nat):Int)=((y.index:Nat):Int)∧((x.term:Nat):Int)=((y.term:Nat):Int))∧x.kind=y.kind)∧x.delta=y.delta)∧(⟨x.data.toArray⟩:ByteArray)=⟨y.data.toArray⟩:=by
  rw[zMz];cases x;cases y;simp only[EntA.mk.injEq,Int.ofNat_inj,and_assoc]
theorem zJO(x y:EntD)(w:World)(hx:x.data.length≤1000000000)(hy:y.data.length≤1000000000)(rd_x:EntD.rd x w [])(rd_y:EntD.rd y w []):Rets Tryz.prog 55 #[.agg (EntD.cells x).toArray, .agg (EntD.cells y).toArray] w fun u_ w'=>u_= .bool (decide (x.toEntA=y.toEntA))∧Own w [] [] w':=by
  refine zW Tryz.func55 O Tryz.ntmps55 (Own.start w) ?_
  refine zB (z3 O O (fun b2=>z3 O O (fun b3=>zI O (zA (zB (zJ (o:=0) O O (zM 0 (v:=Vn x.index) O O O O (zJ (o:=0) O O (zM 1 (v:=Vn y.index) O O O O (yQ O O O (zD O (yK (q:=((x.index:Nat):Int)=((y.index:Nat):Int)) 5 5 [15,14,13,12,11] (((x.term:Nat):Int)=((y.term:Nat):Int)) O O O O O O trivial O (fun h1_5=> ?_) (fun g1_11=> ?_)))))))))))))
  ·refine zR O (gT h1_5) (zJ (o:=1) O O (zR O (gT h1_5) (zM 0 (v:=Vn x.term) O O O O (zR O (gT h1_5) (zJ (o:=1) O O (zR O (gT h1_5) (zM 1 (v:=Vn y.term) O O O O (zR O (gT h1_5) (yQ O O O ?_)))))))))
   exact yP O (fun _ hw=>hw)
  refine zD O (yK (q:=(((x.index:Nat):Int)=((y.index:Nat):Int))∧(((x.term:Nat):Int)=((y.term:Nat):Int))) 5 12 [22,21,20,19,18] (x.kind=y.kind) O O O O O O trivial O (fun h1_12=> ?_) (fun g1_18=> ?_))
  ·refine zR O (gT h1_12) (zJ (o:=2) O O (zR O (gT h1_12) (zM 0 (v:=Vi x.kind) O O O O (zR O (gT h1_12) (zJ (o:=2) O O (zR O (gT h1_12) (zM 1 (v:=Vi y.kind) O O O O (zR O (gT h1_12) (yQ O O O ?_)))))))))
   exact yP O (fun _ hw=>hw)
  refine zD O (yK (q:=((((x.index:Nat):Int)=((y.index:Nat):Int))∧(((x.term:Nat):Int)=((y.term:Nat):Int)))∧(x.kind=y.kind)) 5 19 [29,28,27,26,25] (x.delta=y.delta) O O O O O O trivial O (fun h1_19=> ?_) (fun g1_25=> ?_))
  ·refine zR O (gT h1_19) (zJ (o:=3) O O (zR O (gT h1_19) (zM 0 (v:=Vi x.delta) O O O O (zR O (gT h1_19) (zJ (o:=3) O O (zR O (gT h1_19) (zM 1 (v:=Vi y.delta) O O O O (zR O (gT h1_19) (yQ O O O ?_)))))))))
   exact yP O (fun _ hw=>hw)
  refine zD O (yK (q:=(((((x.index:Nat):Int)=((y.index:Nat):Int))∧(((x.term:Nat):Int)=((y.term:Nat):Int)))∧(x.kind=y.kind))∧(x.delta=y.delta)) 7 26 [38,37,36,35,34,33,32] ((⟨x.data.toArray⟩:ByteArray)=(⟨y.data.toArray⟩:ByteArray)) O O O O O O trivial O (fun h1_26=> ?_) (fun g1_34=> ?_))
  ·refine zR O (gT h1_26) (zJ (o:=4) O O (zR O (gT h1_26) (zM 0 (v:=x.dv) O O O O (zR O (gT h1_26) (zNv (bs:=x.data) qN qN O (fun w' hw'=>Own.rd rd_x.dv hw') O (zR O (gT h1_26) (zJ (o:=4) O O (zR O (gT h1_26) (zM 1 (v:=y.dv) O O O O (zR O (gT h1_26) (zNv (bs:=y.data) qN qN O (fun w' hw'=>Own.rd rd_y.dv hw') O (zR O (gT h1_26) ?_))))))))))))
   refine zPt O O O ?_
   exact yP O (fun _ hw=>hw)
  refine zI O (zA ?_)
  exact zU (z6 (v:= .bool (decide (((((((x.index:Nat):Int)=((y.index:Nat):Int))∧(((x.term:Nat):Int)=((y.term:Nat):Int)))∧(x.kind=y.kind))∧(x.delta=y.delta))∧((⟨x.data.toArray⟩:ByteArray)=(⟨y.data.toArray⟩:ByteArray))))) O O (fun w' hw=>⟨(by congr 1;exact decide_eq_decide.2 (by exact entA_eq.symm)),hw.drop⟩))
theorem zOj{S:List Nat}(cb jb:Nat)(t:TimD)(a:StA)(r:RolD)(b:StB)(yv lead:Value)(qd:Nat)(lv:Value)(es:List EntD)(w:World)(hg:(LG 0 0 es).good)(hl:es.length≤100000)(hin:Own w S [z4 cb t lead a r b yv jb qd (.pointer none),Res.nl b lv es] w):Rets Tryz.prog 21 #[pt cb] w fun u_ w'=>∃ (lb:Nat) (lv':Value) (es':List EntD),u_=pt lb∧es'.map EntD.toEntA=es.map EntD.toEntA∧Own w S [z4 cb t lead a r b yv jb qd (.pointer none),Res.nl b lv es,Res.row lb 144 [Vn 0,Vn 0,lv'],vE lv' es',sE es'] w':=by
  refine zW Tryz.func21 O Tryz.ntmps21 hin ?_
  refine zB (zI O (zA (zN (zB (zD O (xa qN O O O (zA (xr O (zO (zB (zD O (zb O O ?_))))))))))))
  refine zJ (o:=29) O O (zM 0 (v:=pt b.lb) O O O O ?_)
  refine z2 [z4 cb t lead a r b yv jb qd (.pointer none),Res.row b.lb 144 [Vn 0,Vn 0,lv],vE lv es,sE es,vI b.vv b.vs,vI b.wv ([]:List Int)] (fun w' hw=>hw.qn 1 O) ?_
  refine a_call O O (fun w' hw=>(zOG b.lb 0 0 lv es w' qO ‹_› (hw.give [1,2,3] O qM)).mono ?_)
  rintro _ w1 ⟨b1_,lv'2_,es'3_,rfl,hf3_4,hO⟩
  refine O9 ?_ (hw.qg [1,2,3] O hO)
  refine zI O (zA ?_)
  exact zU (z6 (v:=pt b1_) O O (fun w' hw=>⟨b1_,lv'2_,es'3_,O,hf3_4,(hw.qo [3,4,5,1,2] O qM).sel [0,4,1,2,3] O qM⟩))
theorem zBe{α:Type}[Inhabited α]{l:List α}{k:Nat}(hk:k<l.length):l.set k (zG l k)=l:=by
  refine List.ext_getElem? fun i=> ?_
  rw[List.getElem?_set]
  split
  · rename_i e;subst e;exact(ya hk).symm
  rfl
theorem zQU(ns:List CorD)(k pb:Nat)(w:World)(hk:k<ns.length)(hpb:(zG ns k).cb=pb)(hok:(zG ns k).ok)(hin:Own w (y0 [Res.star (ns.map CorD.dres)]) [Res.star (ns.map CorD.dres)] w):Rets Tryz.prog 21 #[pt pb] w fun u_ w'=>∃ (lb:Nat) (lv':Value) (es':List EntD),u_=pt lb∧es'.map EntD.toEntA=(zG ns k).n.a.E∧Own w (y0 [Res.star (ns.map CorD.dres)]) [Res.star (ns.map CorD.dres),Res.row lb 144 [Vn 0,Vn 0,lv'],vE lv' es',sE es'] w':=by
  subst hpb
  have h0:=hin.qI 0 k hk rfl
  have hn:=hok.n
  refine(zOj (zG ns k).cb (zG ns k).jb (zG ns k).n.t (zG ns k).a (zG ns k).n.r (zG ns k).b (zG ns k).n.yv (xG (zG ns k).n.y) (zG ns k).qd (zG ns k).n.lv (zG ns k).n.es w hn.good hn.len' (((h0.give [0] O qM).qn 0 O).give [0,1] O qM)).mono ?_
  rintro _ w1 ⟨lb,lv',es',rfl,hf,hO⟩
  have h2:=((h0.give [0] rfl qM).qn 0 rfl).qg [0,1] rfl hO
  have h3:=(h0.qg [0] rfl ((h2.qo [2,3,0,1] rfl qM).sel [3,0,1,2] rfl qM)).qL 1 0 k (zG ns k) hk qM rfl rfl
  rw[zBe hk]at h3
  exact⟨lb,lv',es',O,hf,h3.sel [3,0,1,2] O qM⟩
theorem zNi(ns:List CorD)(k pb:Nat)(w:World)(hk:k<ns.length)(hpb:(zG ns k).cb=pb)(hin:Own w (y0 [Res.star (ns.map CorD.dres)]) [Res.star (ns.map CorD.dres)] w):Rets Tryz.prog 13 #[pt pb] w fun u_ w'=>u_= .tuple #[.agg #[Vn ((zG ns k).n.t.term),Vi ((zG ns k).n.t.qD)],Vi ((zG ns k).n.r.qq),Vi ((zG ns k).n.r.who),Vn ((zG ns k).n.r.qc)]∧Own w (y0 [Res.star (ns.map CorD.dres)]) [Res.star (ns.map CorD.dres)] w':=by
  subst hpb
  have h0:=hin.qI 0 k hk rfl
  refine(zIS (zG ns k).cb (zG ns k).jb (zG ns k).n.t (zG ns k).a (zG ns k).n.r (zG ns k).b (xG (zG ns k).n.y) (zG ns k).n.yv (.pointer none) (zG ns k).qd w (((h0.give [0] O qM).qn 0 O).give [0] O qM)).mono ?_
  rintro _ w1 ⟨rfl,hO⟩
  have h2:=((h0.give [0] rfl qM).qn 0 rfl).qg [0] rfl hO
  have h3:=(h0.qg [0] rfl (h2.qo [3,0,1,2] rfl qM)).qL 1 0 k (zG ns k) hk qM rfl rfl
  rw[zBe hk]at h3
  exact⟨O,h3.sel [0] O qM⟩
structure RightP(N:Nat)(Ld:Nat→Int→Prop)(Sf:List EntA)(X:NetD):Prop where
  fn:∀ T i j,Ld T i→Ld T j→i=j
  ld:∀ i,i<N→(zG X.ns i).n.r.qq=4→Ld (zG X.ns i).n.t.term (i:Int)
  sf:∀ i,i<N→(zG X.ns i).n.r.qc≤Sf.length∧(zG X.ns i).n.a.E.take (zG X.ns i).n.r.qc=Sf.take (zG X.ns i).n.r.qc
def kf(Sf:List EntA)(safe:List EntD):Prop:=safe.length≤Sf.length∧safe.map EntD.toEntA=Sf.take safe.length
def kw(Ld:Nat→Int→Prop)(leads:List (Nat×Int)):Prop:=∀ T j,jG T leads=some j→Ld T j
theorem zFG{κ α:Type}[DecidableEq κ]{k j:κ}{v:α}:∀ {l:List (κ×α)},jG j (zDu k v l)=if j=k then some v else jG j l
  | []=>by simp[zDu,jG]
  |(x,u)::r=>by
    have ih:=zFG (k:=k) (j:=j) (v:=v) (l:=r)
    unfold zDu
    by_cases h:k=x
    · subst h
      rw[if_pos rfl];unfold jG
      by_cases e:j=k<;>simp[e]
    rw[if_neg h];unfold jG
    rw[ih]
    by_cases e:j=x
    · rw[if_pos e,if_pos e,if_neg (fun q=>h (q.symm.trans e))]
    rw[if_neg e,if_neg e]
theorem zJY{Ld:Nat→Int→Prop}{leads:List (Nat×Int)}{T:Nat}{i:Int}(h:kw Ld leads)(hi:Ld T i):kw Ld (zDu T i leads):=by
  intro U j hj
  rw[zFG]at hj
  split at hj
  · rename_i e;cases hj;rw[e];exact hi
  exact h U j hj
theorem zJ4{N:Nat}{Ld:Nat→Int→Prop}{Sf:List EntA}{X:NetD}{leads:List (Nat×Int)}{i T:Nat}(hR:RightP N Ld Sf X)(h:kw Ld leads)(hi:Ld T (i:Int)):¬((jG T leads).isSome=true∧(jG T leads).getD 0≠(i:Int)):=by
  rintro⟨h1,h2⟩
  cases hg:jG T leads with
  |none=>rw[hg]at h1;cases h1
  |some j=>rw[hg]at h2;exact h2 (hR.fn T j i (h T j hg) hi)
theorem zPf{es rs:List EntD}{e:Int}(hl:es.length≤100000)(hf:(LG 0 0 es).fromE 1 4611686018427387904=(rs.map EntD.toEntA,e)):e=0∧rs.map EntD.toEntA=es.map EntD.toEntA:=by
  rw[LG.fromE_eq,if_neg V,if_neg V,if_neg V]at hf
  have e1:((es.map EntD.toEntA).drop (1 - 0 - 1)).take (4611686018427387904:Int).toNat=rs.map EntD.toEntA:=congrArg Prod.fst hf
  exact⟨(congrArg Prod.snd hf).symm,by rw[←e1,List.drop_zero,List.take_of_length_le qX]⟩
theorem zH0{Sf:List EntA}{safe rs:List EntD}{c k:Nat}(hS:kf Sf safe)(hc:(rs.map EntD.toEntA).take c=Sf.take c)(hcl:c≤rs.length)(hk:k<c):(zG rs k).toEntA=zG Sf k∧k<Sf.length:=by
  have h1:(rs.map EntD.toEntA)[k]?=Sf[k]?:=by
    have h:=congrArg (fun l:List EntA=>l[k]?) hc
    simpa [List.getElem?_take,hk]using h
  rw[List.getElem?_map,ya V]at h1
  exact⟨(nth_eq h1.symm).symm,(List.getElem?_eq_some_iff.1 h1.symm).1⟩
theorem zI9{Sf:List EntA}{safe rs:List EntD}{c:Nat}(hS:kf Sf safe)(hc:(rs.map EntD.toEntA).take c=Sf.take c)(hcl:c≤rs.length)(hk:safe.length<c):kf Sf (safe++[zG rs safe.length]):=by
  obtain⟨h1,h2⟩:=zH0 hS hc hcl hk
  refine⟨by rw[List.length_append];show safe.length+1≤_;omega,?_⟩
  rw[List.map_append,hS.2,List.length_append]
  show _++[(zG rs safe.length).toEntA]=Sf.take (safe.length+1)
  rw[zr h2,h1]
theorem zFi{Sf:List EntA}{safe rs:List EntD}{c k m:Nat}(hS:kf Sf safe)(hc:(rs.map EntD.toEntA).take c=Sf.take c)(hcl:c≤rs.length)(hk:k<c)(he:(k:Int)=(safe.length:Int))(hm:m≤safe.length):(k+1≤c∧k+1≤(safe++[zG rs k]).length)∧kf Sf (safe++[zG rs k])∧m≤(safe++[zG rs k]).length:=by
  have e:k=safe.length:=by omega
  subst e
  exact⟨⟨hk,by simp⟩,zI9 hS hc hcl hk,by rw[List.length_append];omega⟩
theorem zKX{Sf:List EntA}{safe:List EntD}{k:Nat}(hS:kf Sf safe)(hk:k<safe.length):(zG safe k).toEntA=zG Sf k:=by
  have h:(safe.map EntD.toEntA)[k]?=Sf[k]?:=by rw[hS.2,List.getElem?_take,if_pos hk]
  rw[List.getElem?_map,ya hk]at h
  exact(nth_eq h.symm).symm
theorem zIY{α:Type}{l:List α}{k:Nat}:(l.drop (k+1)).Sublist (l.drop k):=by
  rw[←List.drop_drop];exact List.drop_sublist _ _
theorem zDa{α:Type}[Inhabited α]{l:List α}{k i:Nat}(h1:k≤i)(h2:i<l.length):zG l i∈l.drop k:=List.mem_iff_getElem?.2 ⟨i - k,by rw[List.getElem?_drop,show k+(i - k)=i by omega];exact ya h2⟩
theorem _root_.Go.Sc.Own.elOn{α:Type}[Inhabited α]{g:α→Res}{w0 w:World}{S:List Nat}{L:List Res}{ms ns:List α}{k:Nat}(i j:Nat)(hij:i≠j)(hk:k<ms.length)(h1:L[i]?=some (Res.star (ns.map g)))(h2:L[j]?=some (Res.star ((ms.drop k).map g)))(h:Own w0 S L w):Own w0 S (yi [i,j] 0 L++[Res.star ((ns++[zG ms k]).map g),Res.star ((ms.drop (k+1)).map g)]) w:=by
  have hq: [i,j].mapM (fun i=>L[i]?)=some [Res.star (ns.map g),Res.star ((ms.drop k).map g)]:=by simp[h1,h2]
  refine h.qg [i,j] hq ?_
  have h3:=(h.give [i,j] hq (by simp[hij])).qn 1 rfl
  rw[jj hk,List.map_cons]at h3
  have h3:Own w (y0 [Res.star (ns.map g),Res.star (g (zG ms k)::(ms.drop (k+1)).map g)]) ([Res.star (ns.map g),g (zG ms k)]++(ms.drop (k+1)).map g) w:=h3
  have h4:=h3.shutEnd
  have h5:=h4.qJ (x:=zG ms k) 0 1 qM rfl rfl
  rw[jj hk,List.map_cons]
  exact h5
theorem zNZ{S:List Nat}(N:Nat)(Ld:Nat→Int→Prop)(Sf:List EntA)(xb:Nat)(X:NetD)(leads:List (Nat×Int))(w:World)(hN:1≤N∧N≤5)(hX:X.st N)(hOk:NetOk N X.a)(hR:RightP N Ld Sf X)(hS:kf Sf X.safe)(hL:kw Ld leads)(hSl:Sf.length≤100000)(hin:Own w S [Res.row xb 73 (NetD.cells X),Res.vec 27 1 X.nv X.cbs.length (X.cbs.flatMap CP),Res.star (X.ns.map CorD.dres),Res.mp ekU ekI X.mb leads,vE X.sv X.safe,sE X.safe] w):Rets Tryz.prog 20 #[pt xb] w fun u_ w'=>∃ (leads':List (Nat×Int)) (sv':Value) (safe':List EntD),u_= .bool true∧kf Sf safe'∧kw Ld leads'∧X.safe.length≤safe'.length∧safe'.length≤Sf.length∧Own w S [Res.row xb 73 (NetD.cells ({X with sv:=sv',safe:=safe'}:NetD)),Res.vec 27 1 X.nv X.cbs.length (X.cbs.flatMap CP),Res.star (X.ns.map CorD.dres),Res.mp ekU ekI X.mb leads',vE sv' safe',sE safe'] w':=by
  have hcl:X.cbs.length=N:=by rw[hX.cbs,List.length_map,hX.len]
  have hnl:=hX.len
  refine zW Tryz.func20 O Tryz.ntmps20 hin ?_
  refine zB (zI O (zA (zN (zB (zI O (zA (zX ?_)))))))
  refine zM0 (fun(i:Nat) (leads':List (Nat×Int)) (sv':Value) (safe':List EntD)=>[(0,pt xb),(3,Vj i)]) (fun(i:Nat) (leads':List (Nat×Int)) (sv':Value) (safe':List EntD)=>(i≤N∧X.safe.length≤safe'.length)∧kf Sf safe'∧kw Ld leads') (fun(i:Nat) (leads':List (Nat×Int)) (sv':Value) (safe':List EntD)=>[Res.row xb 73 (NetD.cells ({X with sv:=sv',safe:=safe'}:NetD)),Res.vec 27 1 X.nv X.cbs.length (X.cbs.flatMap CP),Res.star (X.ns.map CorD.dres),Res.mp ekU ekI X.mb leads',vE sv' safe',sE safe']) (fun(i:Nat) (leads':List (Nat×Int)) (sv':Value) (safe':List EntD)=>N - i) (fun w' hw=>⟨0,leads,X.sv,X.safe,⟨O,O,trivial⟩,⟨⟨by omega,by omega⟩,hS,hL⟩,hw⟩) (fun i leads' sv' safe' g hΦ=> ?_)
  have hLd:=hΦ.2.2
  have hSf:=hΦ.2.1
  have hle:=hΦ.1.2
  refine zN (zB (zD O (zD O (zb O O (zJ (o:=0) O O (zM 0 (v:=X.nv) O O O O (zo (pV 1 O) O O (yH O O O (zA (zY O (fun c1=> ?_) (fun c1=> ?_)))))))))))
  ·have hi:i<N:=by omega
   have hok:=hX.ok hOk hN.2 hi
   have hsf:=hR.sf i hi
   have hcm:=hok.n.hcl'
   have hln:=hok.n.len'
   refine zO (zN (zX (zB (zD O (zb O O (zJ (o:=0) O O (zM 0 (v:=X.nv) O O O O (zD O (zi (pV 1 O) 1 i O O O V O (yE (pV 1 O) 1 i 0 (fun _=>O) O O V O O (a_call O O (fun w' hw=>(zNi X.ns i (zG X.cbs i) w' V (hX.cb V) (hw.give [2] O qM)).mono ?_))))))))))))
   rintro _ w1 ⟨rfl,hO⟩
   refine O6 ?_ (hw.qg [2] O hO)
   refine zD O (z8 (vs:=[.agg #[Vn ((zG X.ns i).n.t.term),Vi ((zG X.ns i).n.t.qD)],Vi ((zG X.ns i).n.r.qq),Vi ((zG X.ns i).n.r.who),Vn ((zG X.ns i).n.r.qc)]) O O O (z8 (vs:=[.agg #[Vn ((zG X.ns i).n.t.term),Vi ((zG X.ns i).n.t.qD)],Vi ((zG X.ns i).n.r.qq),Vi ((zG X.ns i).n.r.who),Vn ((zG X.ns i).n.r.qc)]) O O O (z8 (vs:=[.agg #[Vn ((zG X.ns i).n.t.term),Vi ((zG X.ns i).n.t.qD)],Vi ((zG X.ns i).n.r.qq),Vi ((zG X.ns i).n.r.who),Vn ((zG X.ns i).n.r.qc)]) O O O (z8 (vs:=[.agg #[Vn ((zG X.ns i).n.t.term),Vi ((zG X.ns i).n.t.qD)],Vi ((zG X.ns i).n.r.qq),Vi ((zG X.ns i).n.r.who),Vn ((zG X.ns i).n.r.qc)]) O O O (yF (v:= .agg #[Vn 0,Vi 0]) qN O (fun b4=>zq 6 O O O (xQ O) O (zI O (zI O (zI O (zA (yu (fun(leads2:List (Nat×Int))=>[(0,pt xb),(3,Vj i),(7,Vn ((zG X.ns i).n.r.qc))]) (fun(leads2:List (Nat×Int))=>kw Ld leads2) (fun(leads2:List (Nat×Int))=>[Res.row xb 73 (NetD.cells ({X with sv:=sv',safe:=safe'}:NetD)),Res.vec 27 1 X.nv X.cbs.length (X.cbs.flatMap CP),Res.star (X.ns.map CorD.dres),Res.mp ekU ekI X.mb leads2,vE sv' safe',sE safe']) ?_ (fun leads2 g hΦ=> ?_))))))))))))
   ·refine zB (zD O (yQ O O O (zA (zY O (fun c2=> ?_) (fun c2=> ?_)))))
    ·refine yY qN qN (zL O zS (zL O (zQ O) (zL O (zH (o:=3) O) (zL O (zZ 0 (v:= .map (some X.mb)) O O O) (zL O (zH (o:=0) O) (zL O (zZ 6 (v:=Vn ((zG X.ns i).n.t.term)) O O O) (zL O (zOq (k:=(zG X.ns i).n.t.term) (kv:=leads') (zv:=0) zPk zNl zOa O O (fun w' hw'=>Own.holds hw' 2 _ O)) (zL O zS (zL O (yT (vs:=[Vi ((jG ((zG X.ns i).n.t.term) leads').getD 0), .bool ((jG ((zG X.ns i).n.t.term) leads').isSome)]) O O) (zL O (yT (vs:=[Vi ((jG ((zG X.ns i).n.t.term) leads').getD 0), .bool ((jG ((zG X.ns i).n.t.term) leads').isSome)]) O O) (zL O yO (zL O yO ?_))))))))))))
     refine xk (zN (zB (zD O (zD O (yK (q:=((jG ((zG X.ns i).n.t.term) leads').isSome)=true) 3 1 [52,51,50] (((jG ((zG X.ns i).n.t.term) leads').getD 0)≠((i:Nat):Int)) O O (xX _) O O O trivial O (fun h7_1=> ?_) (fun g7_5=> ?_))))))
     ·refine zR O (bT h7_1) (zD O (zR O (bT h7_1) (zD O (zR O (bT h7_1) (xm O O O ?_)))))
      exact yP O (fun _ hw=>hw)
     refine zA (zY O (fun c3=> ?_) (fun c3=> ?_))
     ·exact absurd c3 (zJ4 hR hLd (hR.ld i hi c2))
     refine zO (zh [0,1,3,6] O qM qN (fun w' hw hS=>zC 0 O zS hS (zC 1 O (zQ O) hS (zC 2 O (zH (o:=3) O) hS (zC 3 O (zZ 0 (v:= .map (some X.mb)) O O O) hS (zC 4 O (zH (o:=0) O) hS (zC 5 O (zZ 3 (v:=Vn ((zG X.ns i).n.t.term)) O O O) hS (zC 6 O zS hS (zK 7 O hw (zO8 2 (k:=(zG X.ns i).n.t.term) (v:=((i:Nat):Int)) zPk zNl O O O O (zF [0,1,3,6] O qM (fun w' hw hS=>zV ?_))))))))))))
     exact⟨zDu (zG X.ns i).n.t.term ((i:Nat):Int) leads',⟨O,O,O,trivial⟩,zJY hLd (hR.ld i hi c2),hw.sel [0,1,5,2,3,4] O qM⟩
    exact yc (fun w' hw=>⟨leads',⟨O,O,O,trivial⟩,hLd,hw.sel [0,1,5,2,3,4] O qM⟩)
   have hLd2:=hΦ
   refine zB (zD O (zb O O (zJ (o:=0) O O (zM 0 (v:=X.nv) O O O O (zD O (zi (pV 1 O) 1 i O O O V O (yE (pV 1 O) 1 i 0 (fun _=>O) O O V O O (a_call O O (fun w' hw=>(zQU X.ns i (zG X.cbs i) w' V (hX.cb V) (hX.ok hOk hN.2 V) (hw.give [2] O qM)).mono ?_)))))))))
   rintro _ w1 ⟨lb1_,lv'2_,es'3_,rfl,hf10_7,hO⟩
   have hel:es'3_.length=(zG X.ns i).n.es.length:=by have h:=congrArg List.length hf10_7;rw[List.length_map]at h;rw[h];exact List.length_map _
   have hge:(LG 0 0 es'3_).good:=by show(LogA.mk 0 0 (es'3_.map EntD.toEntA)).good;rw[hf10_7];exact hok.n.good
   refine O9 ?_ (hw.qg [2] O hO)
   refine zI O (zA (zB (zD O (a_call O O (fun w' hw=>(zHM lb1_ 0 0 lv'2_ es'3_ 1 4611686018427387904 w' V hge (hw.rdRes0 6 O) (hw.qp 7 O) (EntD.rd.star0 8 O hw)).mono ?_)))))
   rintro _ w1 ⟨r4_,rs5_,e6_,rfl,hf11_1,hO⟩
   obtain⟨he0,hrs⟩:=zPf V hf11_1
   have hrl:rs5_.length=(zG X.ns i).n.es.length:=by have h:=congrArg List.length hrs;rw[List.length_map,List.length_map]at h;omega
   have hrc:(rs5_.map EntD.toEntA).take (zG X.ns i).n.r.qc=Sf.take (zG X.ns i).n.r.qc:=by rw[hrs,hf10_7];exact hsf.2
   refine O11 ?_ (hw.qi hO)
   refine zD O (z8 (vs:=[r4_,Vi e6_]) O O O (z8 (vs:=[r4_,Vi e6_]) O O O (zI O (zI O (zA (zN (zB (zD O (xm O O O (zD O (yn (q:=e6_≠0) 5 2 [81,80,79,78,77] (((rs5_.length:Nat):Int)<(((zG X.ns i).n.r.qc:Nat):Int)) O O O O O O trivial O (fun h12_2=> ?_) (fun g12_8=> ?_))))))))))))
   ·refine zR O (gF h12_2) (zD O (zR O (gF h12_2) (zD O (zR O (gF h12_2) (zo (pV 9 O) O O (zR O (gF h12_2) (xo qN O (xK V) O ?_ qN)))))))
    refine zR O (gF h12_2) (yx O O O ?_)
    exact yP O (fun _ hw=>hw)
   refine zA (zY O (fun c4=> ?_) (fun c4=> ?_))
   ·exact absurd c4 V
   refine zO (zB (zI O (zA (zX ?_))))
   refine xj (fun(k:Nat) (sv2:Value) (safe2:List EntD)=>[(0,pt xb),(3,Vj i),(7,Vn ((zG X.ns i).n.r.qc)),(11,r4_),(13,Vj k)]) (fun(k:Nat) (sv2:Value) (safe2:List EntD)=>(k≤(zG X.ns i).n.r.qc∧k≤safe2.length)∧kf Sf safe2∧X.safe.length≤safe2.length) (fun(k:Nat) (sv2:Value) (safe2:List EntD)=>[Res.row xb 73 (NetD.cells ({X with sv:=sv2,safe:=safe2}:NetD)),Res.vec 27 1 X.nv X.cbs.length (X.cbs.flatMap CP),Res.star (X.ns.map CorD.dres),Res.mp ekU ekI X.mb leads2,vE sv2 safe2,sE safe2,vE r4_ rs5_,sE (rs5_.drop k)]) (fun(k:Nat) (sv2:Value) (safe2:List EntD)=>(zG X.ns i).n.r.qc - k) (fun w' hw=>⟨0,sv',safe',⟨O,O,O,O,O,trivial⟩,⟨⟨by omega,by omega⟩,hSf,hle⟩,hw.sel [0,1,5,2,3,4,9,10] O qM⟩) (fun k sv2 safe2 g hΦ=> ?_)
   have hk1:=hΦ.1
   have hS2:=hΦ.2.1
   have hl2:=hΦ.2.2
   have hS2l:=hS2.1
   refine zN (zB (zD O (zD O (xo qN O (zt V) O ?_ qN))))
   refine yH O O O (zA (zY O (fun c5=> ?_) (fun c5=> ?_)))
   ·refine zO (zN (zX (zB (zD O (zD O (zb O O (zJ (o:=4) O O (zM 0 (v:=sv2) O O O O (zo (pV 4 O) O O (yQ O O O (zA (zY O (fun c6=> ?_) (fun c6=> ?_)))))))))))))
    ·refine zh [1,3,6] O qM qN (fun w' hw hS=>zC 0 O zS hS (zC 1 O zS hS (zC 2 O (zQ O) hS (zC 3 O (zH (o:=4) O) hS (zC 5 O zS hS (zC 6 O zS hS (zC 7 O (xO (pV 2 O) 5 k O O O V) hS (zC 8 O (zE5 (pV 2 O) 5 k (off:=xJ r4_+k*5) (fun _=>O) O O V) hS (zu 4 9 ?_ ?_)))))))))
     ·refine zm 4 O hw (zM 0 (v:=sv2) O O O O (zF [1,3,6] O qM (fun w' hw hS=>zK 9 O hw (zy (e:=81) (sz:=5) (vs:=[.agg (EntD.cells (zG rs5_ k)).toArray]) qN O O wg qM O (fun b105=>zF [1,3,6] O qM (fun w' hw hS=>zK 10 O hw ?_))))))
      refine zP (fun w' hw=>Sl.cell1 (Rd.φ (EntD.rd.star0 7 O hw _ (zDa (l:=rs5_) (k:=k) (i:=k) V V)).dv)) (fun hc4_=> ?_)
      refine z7 (g:=EntD.cells) (sz:=5) (by':=56) (fun _=>O) (l:=safe2) (l':=[(zG rs5_ k)]) (all_cons ((zE O (zE O (zE O (zE O (zE hc4_ zj)))))) qQ) 4 qN O O O (fun w' hw'=>Vec.sl (Own.holds hw' 8 _ O)) qO qM O (fun v106=>zF [1,3,6] O qM (fun w' hw hS=>zC 11 O (zQ O) hS (zC 12 O (zH (o:=4) O) hS (zK 13 O hw ?_))))
      refine zP (fun w' hw=>Own.qh (i:=4) O hw) (fun hc5_=> ?_)
      refine zn (cs:=(NetD.cells ({X with sv:=sv2,safe:=safe2}:NetD))) 0 O O O hc5_ O (zF [1,3,6] O qM (fun w' hw hS=>zV ?_))
      refine Oc9 ?_ hw
      refine zT (zD O (zp O O (zt V) O (zI O ?_)))
      exact ze (fun w' hw=>⟨k+1,v106,safe2++[zG rs5_ k],⟨O,O,O,O,O,trivial⟩,zFi hS2 hrc V V c6 hl2,(hw.elOn (g:=EntD.dres) 5 7 qM V O O).sel [0,1,2,3,4,7,5,8] O qM,V⟩)
     refine zm 9 O hw (zy (e:=81) (sz:=5) (vs:=[.agg (EntD.cells (zG rs5_ k)).toArray]) qN O O wg qM O (fun b105=>zF [1,3,6] O qM (fun w' hw hS=>zK 4 O hw (zM 0 (v:=sv2) O O O O (zF [1,3,6] O qM (fun w' hw hS=>zK 10 O hw ?_))))))
     refine zP (fun w' hw=>Sl.cell1 (Rd.φ (EntD.rd.star0 7 O hw _ (zDa (l:=rs5_) (k:=k) (i:=k) V V)).dv)) (fun hc6_=> ?_)
     refine z7 (g:=EntD.cells) (sz:=5) (by':=56) (fun _=>O) (l:=safe2) (l':=[(zG rs5_ k)]) (all_cons ((zE O (zE O (zE O (zE O (zE hc6_ zj)))))) qQ) 4 qN O O O (fun w' hw'=>Vec.sl (Own.holds hw' 8 _ O)) qO qM O (fun v106=>zF [1,3,6] O qM (fun w' hw hS=>zC 11 O (zQ O) hS (zC 12 O (zH (o:=4) O) hS (zK 13 O hw ?_))))
     refine zP (fun w' hw=>Own.qh (i:=4) O hw) (fun hc7_=> ?_)
     refine zn (cs:=(NetD.cells ({X with sv:=sv2,safe:=safe2}:NetD))) 0 O O O hc7_ O (zF [1,3,6] O qM (fun w' hw hS=>zV ?_))
     refine Oc9 ?_ hw
     refine zT (zD O (zp O O (zt V) O (zI O ?_)))
     exact ze (fun w' hw=>⟨k+1,v106,safe2++[zG rs5_ k],⟨O,O,O,O,O,trivial⟩,zFi hS2 hrc V V c6 hl2,(hw.elOn (g:=EntD.dres) 5 7 qM V O O).sel [0,1,2,3,4,7,5,8] O qM,V⟩)
    have hsg:=zKX hS2 (k:=k) V
    have hsa:=zH0 hS2 hrc (k:=k) V V
    have hdr:(zG rs5_ k).data.length≤1000000000:=by have h:=(hok.n.good.fol.ok ((zG rs5_ k).toEntA) (by show _∈(zG X.ns i).n.a.E;rw[←hf10_7,←hrs];exact List.mem_map_of_mem (zd V))).1.2.2.2;exact Nat.le_trans h qM
    have hds:(zG safe2 k).data.length≤1000000000:=by have h:=hsg.trans hsa.1.symm;have h2:=congrArg (fun e:EntA=>e.data.length) h;exact Nat.le_trans (Nat.le_of_eq h2) hdr
    refine zN (zh [0,1,3,4,6] O qM qN (fun w' hw hS=>zC 0 O zS hS (zC 1 O (zQ O) hS (zC 2 O (zH (o:=4) O) hS (zC 3 O (zZ 0 (v:=sv2) O O O) hS (zC 4 O zS hS (zC 5 O (xO (pV 3 O) 5 k O O O V) hS (zC 6 O (zE5 (pV 3 O) 5 k (off:=xJ sv2+k*5) (fun _=>O) O O V) hS (zC 7 O zS hS (zC 8 O zS hS (zC 9 O (xO (pV 4 O) 5 k O O O V) hS (zC 10 O (zE5 (pV 4 O) 5 k (off:=xJ r4_+k*5) (fun _=>O) O O V) hS ?_))))))))))))
    refine zK 11 O hw (a_call O O (fun w' hw=>(zJO (zG safe2 k) (zG rs5_ k) w' hds hdr (EntD.rd.star0 5 O hw _ (zd V)) (EntD.rd.star0 7 O hw _ (zDa (l:=rs5_) (k:=k) (i:=k) V V))).mono ?_))
    rintro _ w1 ⟨rfl,hO⟩
    refine O8 ?_ (hw.qi hO)
    refine zF [0,1,3,4,6] O qM (fun w' hw hS=>zC 12 O (xf (q:=(zG safe2 k).toEntA=(zG rs5_ k).toEntA) O) hS (zV ?_))
    refine Oc8 ?_ hw
    refine zY O (fun c7=> ?_) (fun c7=> ?_)
    ·exact absurd (hsg.trans hsa.1.symm) c7
    refine zO (zT (zD O (zp O O (zt V) O (zI O ?_))))
    exact ze (fun w' hw=>⟨k+1,sv2,safe2,⟨O,O,O,O,O,trivial⟩,⟨⟨by omega,by omega⟩,hS2,hl2⟩,hw.qK (g:=EntD.dres) 7 zIY O,V⟩)
   refine yC O (zT (zD O (zp O O (zt V) O (zI O ?_))))
   exact ze (fun w' hw=>⟨i+1,leads2,sv2,safe2,⟨O,O,trivial⟩,⟨⟨by omega,by omega⟩,hS2,hLd2⟩,hw.sel [0,1,2,3,4,5] O qM,V⟩)
  refine yC O (zB (zI O (zA ?_)))
  exact zU (z6 (v:= .bool true) O O (fun w' hw=>⟨leads',sv',safe',O,hSf,hLd,hle,hSf.1,hw⟩))
end Go.Proofs.YtkkeknmkipkbmaaGreat
