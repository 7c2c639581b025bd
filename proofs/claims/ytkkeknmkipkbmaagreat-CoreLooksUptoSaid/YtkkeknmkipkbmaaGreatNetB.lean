import Derived.Test.YtkkeknmkipkbmaaGreatBytes
import Derived.Test.YtkkeknmkipkbmaaGreatNetS
import Derived.Test.YtkkeknmkipkbmaaGreatFwX
import Derived.Laws.Externs
set_option linter.unusedSectionVars false
set_option linter.unusedSimpArgs false
set_option linter.unusedVariables false
set_option maxRecDepth 10000
namespace Go.Proofs.YtkkeknmkipkbmaaGreat
open Go Go.Sc Go.Proofs Go.RowKit Go.ChangeShapes Go.WideShapes
theorem zLy{α:Type}(l:List α):(l.map fun _=>1).sum=l.length:=by induction l<;>simp_all;omega
theorem zPO(W:World):RdA Tryz.prog W 68 MovD.cells MovD.ok (fun _=>1):=by
  have h:=RdA.struct (W:=W) (tot:=5) Tryz.underlying68 qN
    (RdF.cons (sz:=1) rfl qN (RdA.i64 Tryz.underlying3) (RdF.cons (sz:=1) rfl qN (RdA.i64 Tryz.underlying3)
      (RdF.cons (sz:=1) rfl qN (RdA.i64 Tryz.underlying2) (RdF.cons (sz:=1) rfl qN (RdA.u64 Tryz.underlying22)
        (RdF.cons (sz:=1) rfl qN (RdA.i64 Tryz.underlying3) (RdF.nil rfl))))))
  exact h.map (fun p=>⟨p.1,p.2.1,p.2.2.1,p.2.2.2.1,p.2.2.2.2.1⟩) (fun _=>O) (fun _ h=>⟨h.2.1,h.2.2.1,h.2.2.2.1⟩) (fun _ _=>by omega)
theorem zNZ(W:World):RdA Tryz.prog W 62 (fun p:Value×List MovD=>[p.1]) (fun p=>Rd W [] (Res.sl p.1 p.2.length (p.2.flatMap MovD.cells))∧∀ a∈p.2,a.ok) (fun p=>p.2.length+1):=
  (RdA.slice (sz:=5) Tryz.underlying62 qN qM (fun _=>rfl) (zPO W)).map id (fun _=>rfl) (fun p h=>⟨Rd.of h.1,h.2⟩) (fun p _=>by rw[zLy];exact Nat.le_refl _)
end Go.Proofs.YtkkeknmkipkbmaaGreat
set_option linter.unusedVariables false
set_option linter.unusedSectionVars false
namespace Go.Sc
def isMapT(P:Program)(t:TypeId):Bool:=match P.underlying t with|some (.map _ _)=>true|_=>false
section
variable {κ α:Type} [DecidableEq κ] {P:Program} {kt vt t t':TypeId} {ke:κ→Value} {ve:α→Value}
variable {n:Nat} {ops:Array Oper} {N:K} {f:Nat→Value} {rest:List Oper} {d:Nat} {ty:TypeId} {p:String} {af:Array Edge} {x y z:Operand} {w0:World} {S:List Nat} {L:List Res} {A:World→Prop}
end
end Go.Sc
set_option linter.unusedVariables false
set_option maxRecDepth 10000
namespace Go.Proofs.YtkkeknmkipkbmaaGreat
open Go Go.Sc Go.Proofs
def ekU(n:Nat):Value:= .int .u64 n
def ekI(n:Int):Value:= .int .i64 n
theorem zQa:KeyL Tryz.prog 22 ekU:=zLW qN
theorem zOS:zFg Tryz.prog 71=some (22,3):=by kernel_rfl
theorem zPH:zBj Tryz.prog 3=some (ekI 0):=by kernel_rfl
theorem zJa{N:Nat}(h:N≤5):Rises (y5 N):=by
  have:N=0∨N=1∨N=2∨N=3∨N=4∨N=5:=by omega
  rcases this with rfl|rfl|rfl|rfl|rfl|rfl<;>exact⟨by decide,by decide⟩
theorem zLH(k:Nat):y5 (k+1)=y5 k++[((k:Nat):Int)+1]:=by unfold y5;rw[List.range_succ,List.map_append];rfl
def js(i:Nat):NodA:={t:={term:=0,qD:=0,now:=0,qA:=0,due:=0+(10+((((i+1)*7)%(Int.toNat 9+1):Nat):Int)),qE:=0,qz:=0,gd:=0,qC:=0},r:=⟨1,0,0⟩,E:=[],ld:=none,yes:=[]}
structure NetD.beg(N j mb:Nat)(X:NetD):Prop where
  len:X.ns.length=j
  cbs:X.cbs=X.ns.map CorD.cb
  tsl:X.ts.length=j
  ts:∀ t∈X.ts,t=0
  con:∀ i,i<j→(zG X.ns i).a=aN i∧(zG X.ns i).b.vs=y5 N
  a:X.ns.map (fun c=>c.n.a)=(List.range j).map js
  way:X.way=[]∧X.wv= .slice none 0 0
  mv:X.mb=mb∧X.sv= .slice none 0 0∧X.safe=[]
theorem zKd{α:Type}[Inhabited α]{l:List α}{x:α}{i:Nat}(h:i<l.length+1):zG (l++[x]) i=if i<l.length then zG l i else x:=by
  split
  · rename_i q;exact zFI q
  have:i=l.length:=by omega
  subst this;simp[zG]
theorem NetD.beg.snoc{N j mb:Nat}{X:NetD}(h:X.beg N j mb){c:CorD}{nv tv:Value}(h1:c.a=aN j)(h2:c.b.vs=y5 N)(h3:c.n.a=js j):({X with nv:=nv,cbs:=X.cbs++[c.cb],ns:=X.ns++[c],tv:=tv,ts:=X.ts++[0]}:NetD).beg N (j+1) mb:=by
  refine⟨by show(X.ns++[c]).length=_;rw[List.length_append,h.len];rfl,by show X.cbs++[c.cb]=(X.ns++[c]).map CorD.cb;rw[h.cbs,List.map_append];rfl,by show(X.ts++[0]).length=_;rw[List.length_append,h.tsl];rfl,?_,?_,?_,h.way,h.mv⟩
  · intro t ht
    rcases List.mem_append.1 ht with q|q
    · exact h.ts t q
    exact List.mem_singleton.1 q
  · intro i hi
    show(zG (X.ns++[c]) i).a=_∧(zG (X.ns++[c]) i).b.vs=_
    rw[zKd (by rw[h.len];omega)]
    split
    · rename_i q;exact h.con i (by rw[h.len]at q;exact q)
    rename_i q
    have:i=j:=by rw[h.len]at q;omega
    subst this;exact⟨h1,h2⟩
  show(X.ns++[c]).map (fun c=>c.n.a)=_
  rw[List.map_append,h.a,List.range_succ,List.map_append]
  show _++[c.n.a]=_++[js j]
  rw[h3]
theorem NetD.beg.st{N mb:Nat}{X:NetD}(h:X.beg N N mb):X.st N∧X.a=⟨(List.range N).map js,[]⟩:=
  ⟨⟨h.len,h.cbs,h.tsl,fun t ht=>by rw[h.ts t ht];omega,h.con⟩,by unfold NetD.a;rw[h.a,h.way.1];rfl⟩
theorem zOL(N:Nat)(w:World)(hN:1≤N∧N≤5):Rets Tryz.prog 18 #[Vj N, .agg #[Vi 0,Vi 0,Vi 0,Vi 0,Vi 10,Vi 9,Vi 3,Vi 0,Vi 0,Vi 0]] w fun u_ w'=>∃ (xb mb:Nat) (X:NetD),u_=pt xb∧X.st N∧X.a=⟨(List.range N).map js,[]⟩∧X.mb=mb∧X.sv= .slice none 0 0∧X.safe=[]∧Own w [] [Res.row xb 73 (NetD.cells X),Res.vec 27 1 X.nv X.cbs.length (X.cbs.flatMap CP),Res.star (X.ns.map CorD.dres),vT X.tv X.ts,vM X.wv X.way,sM X.way,Res.mp ekU ekI mb ([]:List (Nat×Int))] w':=by
  refine zW Tryz.func18 O Tryz.ntmps18 (Own.start w) ?_
  refine zC (z8 O O (fun b3=>zI O (zA (zC (zLn (α:=Int) ekU ekI O O (fun m11=>yh (cs:=[.slice none 0 0, .slice none 0 0, .slice none 0 0, .map (some m11), .slice none 0 0]) (z:=[.slice none 0 0, .slice none 0 0, .slice none 0 0, .map none, .slice none 0 0]) (pl:=[(0,1),(1,1),(2,1),(3,1),(4,1)]) qN qN O (z8 O O (fun b13=>zI O (zA (zC (yh (cs:=[Vn 0,Vn 0, .slice none 0 0, .slice none 0 0, .slice none 0 0]) (z:=[Vn 0,Vn 0, .slice none 0 0, .slice none 0 0, .slice none 0 0]) (pl:=[(0,1),(1,1),(2,2),(4,1)]) qN qN O (yC (v:= .agg #[Vn 0,Vn 0, .slice none 0 0, .slice none 0 0, .slice none 0 0]) qN O (fun b6=> ?_)))))))))))))
  refine zo 3 O O O (xO O) O (zA (zP (zC (zI O (zA (zZ ?_))))))
  refine y7 (fun(k:Nat) (v:Value)=>[(0,Vj N),(3,pt b3),(5,pt b13),(6,pt b6),(7,Vj (k+1))]) (fun(k:Nat) (v:Value)=>k≤N) (fun(k:Nat) (v:Value)=>[Res.row b3 25 [Vi 0,Vi 0,Vi 0,Vi 0,Vi 10,Vi 9,Vi 3,Vi 0,Vi 0,Vi 0],Res.mp ekU ekI m11 ([]:List (Nat×Int)),Res.row b13 73 [.slice none 0 0, .slice none 0 0, .slice none 0 0, .map (some m11), .slice none 0 0],Res.row b6 38 [Vn 0,Vn 0,v, .slice none 0 0, .slice none 0 0],vI v (y5 k)]) (fun(k:Nat) (v:Value)=>N - k) (fun w' hw=>⟨0, .slice none 0 0,⟨O,O,O,O,O,trivial⟩,V,zm hw 3 1⟩) (fun k v g hΦ=> ?_)
  have hvl:=zCu (N:=k)
  refine zP (zC (zD O (zD O (x6 O O O (zA (za O (fun c1=> ?_) (fun c1=> ?_)))))))
  ·refine zQ (zP (zZ (zV (zK (o:=2) O O (zK (o:=0) O O (zM 3 (v:=v) O O O O (zD O (zx (e:=3) (sz:=1) (vs:=[Vj (k+1)]) qN O O qR qM O (fun b24=>zy (g:=I1) (sz:=1) (by':=8) (fun _=>O) (l:=(y5 k)) (l':=[((k+1:Nat):Int)]) qV 4 qN O O O (fun w' hw'=>Vec.sl (Own.holds hw' 5 _ O)) qO qM O (fun v25=>zK (o:=2) O O (zK (o:=0) O O ?_)))))))))))
   refine zN (fun w' hw=>Own.qg (i:=4) O hw) (fun hc1_=> ?_)
   refine zn (cs:=[Vn 0,Vn 0,v, .slice none 0 0, .slice none 0 0]) 3 O O O hc1_ O (zA (zV (zD O (zt O O (zr V) O (zI O ?_)))))
   exact zg (fun w' hw=>⟨k+1,v25,⟨O,O,O,O,O,trivial⟩,V,(by rw[zLH];exact hw.sel [0,1,2,3,4] rfl qM),V⟩)
  refine yF O (zP (zC (zI O (zA (zZ ?_)))))
  refine y7 (fun(j:Nat) (X:NetD)=>[(0,Vj N),(3,pt b3),(5,pt b13),(6,pt b6),(8,Vj (j+1))]) (fun(j:Nat) (X:NetD)=>j≤N∧X.beg N j m11) (fun(j:Nat) (X:NetD)=>[Res.row b3 25 [Vi 0,Vi 0,Vi 0,Vi 0,Vi 10,Vi 9,Vi 3,Vi 0,Vi 0,Vi 0],Res.mp ekU ekI m11 ([]:List (Nat×Int)),Res.row b13 73 (NetD.cells X),Res.row b6 38 [Vn 0,Vn 0,v, .slice none 0 0, .slice none 0 0],vI v (y5 k),Res.vec 27 1 X.nv X.cbs.length (X.cbs.flatMap CP),Res.star (X.ns.map CorD.dres),vT X.tv X.ts,vM X.wv X.way,sM X.way]) (fun(j:Nat) (X:NetD)=>N - j) (fun w' hw=>⟨0,⟨.slice none 0 0,[],[], .slice none 0 0,[], .slice none 0 0,[],m11, .slice none 0 0,[]⟩,⟨O,O,O,O,O,trivial⟩,⟨by omega,⟨O,O,O,(fun t ht=>by cases ht),(fun i hi=>absurd hi V),O,⟨O,O⟩,⟨O,O,O⟩⟩⟩,((zm ((zm ((zm hw 27 1).qG) 2 1)) 59 14).qG.sel [0,1,2,3,4,5,6,7,8,9] O qM)⟩) (fun j X g hΦ=> ?_)
  have hkN:k=N:=by omega
  have hvk:=zCu (N:=k)
  have hB:=hΦ.2
  have hnl:=hB.len
  have hcl:X.cbs.length=j:=by rw[hB.cbs,List.length_map,hnl]
  have htl:=hB.tsl
  refine zP (zC (zD O (zD O (x6 O O O (zA (za O (fun c2=> ?_) (fun c2=> ?_)))))))
  ·refine zQ (zP (zZ (zP (ze [0,1,2,3,4,5,7,8] O qM qN (fun w' hw hS=>zB 0 O zS hS (zB 1 O (zA1 (cs:=[Vn 0,Vi 0]) (z:=[Vn 0,Vi 0]) (pl:=[(0,1),(1,1)]) qN qN) hS (zB 2 O (x1 (cs:=[Vn 0,Vn 0,v, .slice none 0 0, .slice none 0 0]) 3 O O) hS (zB 4 O (x1 0 O O) hS (zB 5 O zS hS (zB 6 O (zRC O O (zr V)) hS (zB 7 O (x7 qN O (xA V) qN) hS (zJ 3 O hw ?_))))))))))))
   refine a_call O O (fun w' hw=>(zJn ({index:=0,term:=0,conf:=({vv:=v,vs:=(y5 k),lv:= .slice none 0 0,ls:=[]}:ConfD),dv:= .slice none 0 0,data:=[]}:ShtD) w' ⟨by show(0:Nat)<_;decide,by show(0:Nat)<_;decide,⟨by show(y5 k).length≤_;omega,by show(0:Nat)≤_;decide⟩,by show(0:Nat)≤_;decide⟩ ⟨⟨(hw.qq 4 O),Rd.nil⟩,Rd.nil⟩).mono ?_)
   rintro _ w1 ⟨a1_,b2_,c3_,rfl,hO⟩
   refine(?_:CL _ _ _ _ _ _ (Own w [] [Res.row b3 25 [Vi 0,Vi 0,Vi 0,Vi 0,Vi 10,Vi 9,Vi 3,Vi 0,Vi 0,Vi 0],Res.mp ekU ekI m11 ([]:List (Nat×Int)),Res.row b13 73 (NetD.cells X),Res.row b6 38 [Vn 0,Vn 0,v, .slice none 0 0, .slice none 0 0],vI v (y5 k),Res.vec 27 1 X.nv X.cbs.length (X.cbs.flatMap CP),Res.star (X.ns.map CorD.dres),vT X.tv X.ts,vM X.wv X.way,sM X.way,vI a1_ (({index:=0,term:=0,conf:=({vv:=v,vs:=(y5 k),lv:= .slice none 0 0,ls:=[]}:ConfD),dv:= .slice none 0 0,data:=[]}:ShtD).conf.vs),vI b2_ (({index:=0,term:=0,conf:=({vv:=v,vs:=(y5 k),lv:= .slice none 0 0,ls:=[]}:ConfD),dv:= .slice none 0 0,data:=[]}:ShtD).conf.ls),vY c3_ (({index:=0,term:=0,conf:=({vv:=v,vs:=(y5 k),lv:= .slice none 0 0,ls:=[]}:ConfD),dv:= .slice none 0 0,data:=[]}:ShtD).data)])) w1 (hw.qi hO)
   refine zE [0,1,2,3,4,5,7,8] O qM (fun w' hw hS=>zJ 8 O hw (a_call O O (fun w' hw=>(zQc ((j+1:Nat):Int) 0 10 9 3 a1_ (({index:=0,term:=0,conf:=({vv:=v,vs:=(y5 k),lv:= .slice none 0 0,ls:=[]}:ConfD),dv:= .slice none 0 0,data:=[]}:ShtD).conf.vs) ((j+1)*7) b2_ c3_ w' qO qO qO qO qO (by rw[hkN];exact zJa hN.2) (by show 0<(y5 k).length;omega) (by show(y5 k).length≤_;omega) qO (hw.qq 10 O) (hw.qq 11 O) (hw.qq 12 O)).mono ?_)))
   rintro _ w1 ⟨cb4_,jb5_,b6_,n7_,rfl,hf10_8,hf10_8_1,hO⟩
   have hcn:=hf10_8
   have hcb:=hf10_8_1
   refine(?_:CL _ _ _ _ _ _ (Own w [] [Res.row b3 25 [Vi 0,Vi 0,Vi 0,Vi 0,Vi 10,Vi 9,Vi 3,Vi 0,Vi 0,Vi 0],Res.mp ekU ekI m11 ([]:List (Nat×Int)),Res.row b13 73 (NetD.cells X),Res.row b6 38 [Vn 0,Vn 0,v, .slice none 0 0, .slice none 0 0],vI v (y5 k),Res.vec 27 1 X.nv X.cbs.length (X.cbs.flatMap CP),Res.star (X.ns.map CorD.dres),vT X.tv X.ts,vM X.wv X.way,sM X.way,vI a1_ (({index:=0,term:=0,conf:=({vv:=v,vs:=(y5 k),lv:= .slice none 0 0,ls:=[]}:ConfD),dv:= .slice none 0 0,data:=[]}:ShtD).conf.vs),vI b2_ (({index:=0,term:=0,conf:=({vv:=v,vs:=(y5 k),lv:= .slice none 0 0,ls:=[]}:ConfD),dv:= .slice none 0 0,data:=[]}:ShtD).conf.ls),vY c3_ (({index:=0,term:=0,conf:=({vv:=v,vs:=(y5 k),lv:= .slice none 0 0,ls:=[]}:ConfD),dv:= .slice none 0 0,data:=[]}:ShtD).data),Res.cn cb4_ jb5_ ({id:=((j+1:Nat):Int),nodes:=0,voters:=0,edges:=0,rho:=0,base:=10,spread:=9,beat:=3,disk:=0,post:=0,keep:=0}:StA) b6_ ((j+1)*7) n7_])) w1 (hw.qi hO)
   refine zE [0,1,2,3,4,5,7,8] O qM (fun w' hw hS=>zB 9 O zS hS (zB 10 O (yT (vs:=[pt cb4_,Vi 0]) O O) hS (zB 11 O (yT (vs:=[pt cb4_,Vi 0]) O O) hS (zB 12 O yO hS (zB 13 O yO hS (zT ?_))))))
   refine(?_:C _ _ _ _ _ _ _ (Own w [] [Res.row b3 25 [Vi 0,Vi 0,Vi 0,Vi 0,Vi 10,Vi 9,Vi 3,Vi 0,Vi 0,Vi 0],Res.mp ekU ekI m11 ([]:List (Nat×Int)),Res.row b13 73 (NetD.cells X),Res.row b6 38 [Vn 0,Vn 0,v, .slice none 0 0, .slice none 0 0],vI v (y5 k),Res.vec 27 1 X.nv X.cbs.length (X.cbs.flatMap CP),Res.star (X.ns.map CorD.dres),vT X.tv X.ts,vM X.wv X.way,sM X.way,vI a1_ (({index:=0,term:=0,conf:=({vv:=v,vs:=(y5 k),lv:= .slice none 0 0,ls:=[]}:ConfD),dv:= .slice none 0 0,data:=[]}:ShtD).conf.vs),vI b2_ (({index:=0,term:=0,conf:=({vv:=v,vs:=(y5 k),lv:= .slice none 0 0,ls:=[]}:ConfD),dv:= .slice none 0 0,data:=[]}:ShtD).conf.ls),vY c3_ (({index:=0,term:=0,conf:=({vv:=v,vs:=(y5 k),lv:= .slice none 0 0,ls:=[]}:ConfD),dv:= .slice none 0 0,data:=[]}:ShtD).data),Res.cn cb4_ jb5_ ({id:=((j+1:Nat):Int),nodes:=0,voters:=0,edges:=0,rho:=0,base:=10,spread:=9,beat:=3,disk:=0,post:=0,keep:=0}:StA) b6_ ((j+1)*7) n7_])) _ hw
   refine zP (zC (zD O (xn O O O (zD O (yj (q:=0≠0) 2 2 [49,48] (false=true) O O O O O O trivial O (fun h11_2=> ?_) (fun g11_5=> ?_))))))
   ·refine zR O (gF h11_2) (zD O (zR O (gF h11_2) (xf qN O O O ?_)))
    exact yN (xC _) (fun _ hw=>hw)
   refine zA (za O (fun c3=> ?_) (fun c3=> ?_))
   ·exact absurd c3 qQ
   refine zQ (zC (zD O (zD O (zb O O (zK (o:=0) O O (zM 2 (v:=X.nv) O O O O (zD O (zx (e:=27) (sz:=1) (vs:=[pt cb4_]) qN O O (by simp[Value.cells,pt]) qM O (fun b57=>zy (g:=CP) (sz:=1) (by':=8) (fun _=>O) (l:=X.cbs) (l':=[cb4_]) (by simp[cell1,CP,pt]) 5 qN O O O (fun w' hw'=>Vec.sl (Own.holds hw' 14 _ O)) qO qM O (fun v58=>zb O O (zK (o:=0) O O ?_)))))))))))
   refine zN (fun w' hw=>Own.qg (i:=5) O hw) (fun hc2_=> ?_)
   refine zn (cs:=(NetD.cells X)) 2 O O O hc2_ O (zA (zV (zD O (zD O (zb O O (zK (o:=1) O O (zM 2 (v:=X.tv) O O O O (zx (e:=2) (sz:=1) (vs:=[Vi 0]) qN O O qR qM O (fun b66=>zy (g:=I1) (sz:=1) (by':=8) (fun _=>O) (l:=X.ts) (l':=[0]) qV 7 qN O O O (fun w' hw'=>Vec.sl (Own.holds hw' 15 _ O)) qO qM O (fun v67=>zb O O (zK (o:=1) O O ?_)))))))))))
   refine zN (fun w' hw=>Own.qg (i:=7) O hw) (fun hc3_=> ?_)
   refine zn 2 O O O hc3_ O (zA (zV (zD O (zt O O (zr V) O (zI O ?_)))))
   exact zg (fun w' hw=>⟨j+1,({X with nv:=v58,cbs:=X.cbs++[cb4_],ns:=X.ns++[⟨cb4_,jb5_,aN j,b6_,(j+1)*7,n7_⟩],tv:=v67,ts:=X.ts++[0]}:NetD),⟨O,O,O,O,O,trivial⟩,⟨by omega,hB.snoc (c:=⟨cb4_,jb5_,aN j,b6_,(j+1)*7,n7_⟩) O (hcb.trans (by rw[hkN])) hcn⟩,((hw.qJ (g:=CorD.dres) (x:=⟨cb4_,jb5_,aN j,b6_,(j+1)*7,n7_⟩) 6 13 qM O O).sel [0,1,2,3,4,5,6,7,8,9] O qM),V⟩)
  have hjN:j=N:=by omega
  refine yF O (zC (zD O (zI O (zA ?_))))
  exact zU (z9 (v:=pt b13) O O (fun w' hw=>⟨b13,m11,X,O,(hjN▸hB).st.1,(hjN▸hB).st.2,hB.mv.1,hB.mv.2.1,hB.mv.2.2,hw.sel [2,5,6,7,8,9,1] O qM⟩))
end Go.Proofs.YtkkeknmkipkbmaaGreat
