import Derived.Test.YtmpaljnacfidaaaGreatDoorNodA
import Derived.Test.YtmpaljnacfidaaaGreatDoorIn
import Derived.Test.YtmpaljnacfidaaaGreatDoorFw3
set_option linter.unusedSectionVars false
set_option linter.unusedSimpArgs false
set_option linter.unusedVariables false
set_option maxRecDepth 10000
namespace Go.Proofs.YtmpaljnacfidaaaGreatDoor
open Go Go.Sc Go.Proofs
theorem zRl{S:List Nat}(nb cb gb c stb:Nat)(st:SetD)(av ov tv fv:Value)(w:World)(a:Own w S [Res.row nb 139 [pt cb,pt gb,av,Vn c,pt stb,Vi st.nodes,Vi st.voters,Vi st.edges,Vi st.rho,Vi st.base,Vi st.spread,Vi st.beat,Vi st.disk,Vi st.post,Vi st.keep,zu,ov,tv,fv]] w):Rets Tryz.prog 103 #[pt nb] w fun e d=>e=xl∧Own w S [Res.row nb 139 [pt cb,pt gb,av,Vn c,pt stb,Vi st.nodes,Vi st.voters,Vi st.edges,Vi st.rho,Vi st.base,Vi st.spread,Vi st.beat,Vi st.disk,Vi st.post,Vi st.keep,zu,ov,tv,fv]] d:=by
  refine zO Tryz.func103 O Tryz.ntmps103 a (zB (zG O (zA (zB (zC O (zAA qD O O O (zC O (zQ O O (zC O (zQ O O (zV O O (zQ O O (zI (o:=15) O O (zQ O O (zJ 0 (v:=zu) O O O O (zQ O O (xi (b:=false) O O (zCp O O (zG O (zA (zP (zn (v:=xl) O O (fun d g=>⟨O,g⟩)))))))))))))))))))))))
theorem zJl{S:List Nat}(nb cb gb h stb:Nat)(st:SetD)(av ov tv fv:Value)(s:LgD)(w:World)(g:Own w S [Res.row nb 139 [pt cb,pt gb,av,Vn h,pt stb,Vi st.nodes,Vi st.voters,Vi st.edges,Vi st.rho,Vi st.base,Vi st.spread,Vi st.beat,Vi st.disk,Vi st.post,Vi st.keep,zu,ov,tv,fv],Res.lg gb s] w):Rets Tryz.prog 23 #[pt nb] w fun k d=>∃ (i:Nat) (j:LgD),k=pt i∧j.idx=s.idx∧Own w S [Res.row nb 139 [pt cb,pt gb,av,Vn h,pt stb,Vi st.nodes,Vi st.voters,Vi st.edges,Vi st.rho,Vi st.base,Vi st.spread,Vi st.beat,Vi st.disk,Vi st.post,Vi st.keep,zu,ov,tv,fv],Res.lg gb s,Res.lg i j] d:=by
  refine zO Tryz.func23 O Tryz.ntmps23 g (zB (zG O (zA (zK (zB (zC O (yF qD O O O (zA (yT O (zN (zB (zC O (zV O O (zI (o:=0) O O (zI (o:=1) O O (zJ 0 (v:=pt gb) O O O O (zH O O (fun d e=>(zHm gb _ d (e.give [1] O V)).mono ?_))))))))))))))))))
  rintro _ m ⟨a,c,rfl,b,l⟩
  refine fq [1] O e l (zG O (zA (zP (zn (v:=pt a) O O (fun d e=>⟨a,c,O,b,e⟩)))))
theorem zI6(st:SetD)(w:World)(hv:st.voters=1):Rets Tryz.prog 93 #[.agg (SetD.cells st).toArray] w fun u b=>∃ (cv:Value),u= .agg #[Vn 0,Vn 0,cv,zW,zW]∧Own w [] [vI cv [1]] b:=by
  refine zO Tryz.func93 O Tryz.ntmps93 (Own.start w) (zB (zj O O (fun p=>zk (v:= .agg #[Vn 0,Vn 0,zW,zW,zW]) qD O (fun q=>zA (zB (zk (v:= .agg #[zW,zW]) qD O (fun r=>zA (zK (zB (zG O (zA (zU (xt (fun(k:Nat) (cv:Value) (vs:List Int)=>[(1,pt p),(2,pt q),(3,pt r),(4,Vi (((k:Nat):Int)+1))]) (fun(k:Nat) (cv:Value) (vs:List Int)=>k≤1∧vs=List.replicate k 1) (fun(k:Nat) (cv:Value) (vs:List Int)=>[Res.row p 26 (SetD.cells st),Res.row q 213 [Vn 0,Vn 0,zW,zW,zW],Res.row r 211 [cv,zW],vI cv vs]) (fun(k:Nat) (cv:Value) (vs:List Int)=>1 - k) (fun b a=>⟨0,zW,[],⟨O,O,O,O,trivial⟩,⟨Nat.zero_le _,O⟩,(zq a 3 1)⟩) (fun k cv vs g s=> ?_))))))))))))))
  have x:=s.1
  have c:=s.2
  have y:vs.length=k:=by rw[c];simp
  refine zK (zB (zC O (zI (o:=1) O O (zJ 0 (v:=Vi st.voters) O O O O (yq O O O (zA (zT O (fun c1=> ?_) (fun c1=> ?_))))))))
  ·have d:k=0:=by omega
   refine zN (zK (zU (zd (zI (o:=0) O O (zJ 2 (v:=cv) O O O O (zC O (yC (e:=3) (sz:=1) (vs:=[Vi (((k:Nat):Int)+1)]) qD O O qJ V O (fun a0=>yE (g:=I1) (sz:=1) (by':=8) (fun _=>O) (l:=vs) (l':=[((k:Nat):Int)+1]) qP 3 qD O O O (fun b m=>Vec.sl (Own.holds m 4 _ O)) qF V O (fun n=>zI (o:=0) O O (zS (fun b a=>Own.qa (i:=3) O a) (fun h=>(zi (cs:=[cv,zW]) 2 O O O h O (zA (zd (zC O (zr O O (zt qE) O (zG O (zw (fun b a=>⟨k+1,n,vs++[((k:Nat):Int)+1],⟨O,O,O,(by show Value.int .i64 _=Value.int .i64 _;first|rfl|(congr 1;omega)),trivial⟩,⟨by omega,by rw[c,d];rfl⟩,a.sel [0,1,2,3] O V,qE⟩)))))))))))))))))))
  have d:k=1:=by omega
  have hF:vs=[1]:=by rw[c,d];rfl
  refine zz O (zB (z1 (cs:=[cv,zW]) 2 O O O (xK (cs:=[Vn 0,Vn 0,cv,zW,zW]) (z:=[Vn 0,Vn 0,zW,zW,zW]) (pl:=[(0,1),(1,1),(2,2),(4,1)]) qD ⟨trivial,trivial⟩ qD O (zS (fun b a=>Own.qa (i:=3) O a) (fun j=>(ze 1 O O O (zF O (zF O (zF j (zF O (zF O zh))))) O (zA (zP (xc (cs:=[Vn 0,Vn 0,cv,zW,zW]) O O qD (Own.qc (i:=1) O) (fun b a=>⟨cv,O,(by cases hF;exact a.sel [3] rfl V)⟩))))))))))
theorem zJ3(rho:Int)(w:World):Rets Tryz.prog 47 #[.agg #[Vi 1,Vi 1,Vi 2,Vi rho,Vi 12,Vi 20,Vi 4,Vi 1048576,Vi 400,Vi 0]] w fun u_ w'=>u_= .bool (decide (0≤rho∧rho≤500000))∧Own w [] [] w':=by
  refine zO Tryz.func47 O Tryz.ntmps47 (Own.start w) (zB (zj O O (fun b1=>zG O (zA (zB (zI (o:=0) O O (zJ 0 (v:=Vi 1) O O O O (xE O O O (zC O (yA (q:=1≤1) 3 3 [9,8,7] (1≤16) O O O O O O trivial O (fun t=> ?_) (fun ab=> ?_)))))))))))
  ·refine zQ O (gT t) (zI (o:=0) O O (zQ O (gT t) (zJ 0 (v:=Vi 1) O O O O (zQ O (gT t) (yq O O O (z8 O (fun _ d=>d)))))))
  refine zC O (yA (q:=(1≤1)∧(1≤16)) 3 8 [14,13,12] (1≤1) O O O O O O trivial O (fun u=> ?_) (fun x=> ?_))
  ·refine zQ O (gT u) (zI (o:=1) O O (zQ O (gT u) (zJ 0 (v:=Vi 1) O O O O (zQ O (gT u) (xE O O O (z8 O (fun _ d=>d)))))))
  refine zC O (yA (q:=((1≤1)∧(1≤16))∧(1≤1)) 5 13 [21,20,19,18,17] (1≤1) O O O O O O trivial O (fun e=> ?_) (fun y=> ?_))
  ·refine zQ O (gT e) (zI (o:=1) O O (zQ O (gT e) (zJ 0 (v:=Vi 1) O O O O (zQ O (gT e) (zI (o:=0) O O (zQ O (gT e) (zJ 0 (v:=Vi 1) O O O O (zQ O (gT e) (yq O O O (z8 O (fun _ d=>d)))))))))))
  refine zC O (yA (q:=(((1≤1)∧(1≤16))∧(1≤1))∧(1≤1)) 3 20 [26,25,24] (0≤2) O O O O O O trivial O (fun g=> ?_) (fun z=> ?_))
  ·refine zQ O (gT g) (zI (o:=2) O O (zQ O (gT g) (zJ 0 (v:=Vi 2) O O O O (zQ O (gT g) (xE O O O (z8 O (fun _ d=>d)))))))
  refine zC O (yA (q:=((((1≤1)∧(1≤16))∧(1≤1))∧(1≤1))∧(0≤2)) 3 25 [31,30,29] (2≤16) O O O O O O trivial O (fun i=> ?_) (fun a0=> ?_))
  ·refine zQ O (gT i) (zI (o:=2) O O (zQ O (gT i) (zJ 0 (v:=Vi 2) O O O O (zQ O (gT i) (yq O O O (z8 O (fun _ d=>d)))))))
  refine zC O (yA (q:=(((((1≤1)∧(1≤16))∧(1≤1))∧(1≤1))∧(0≤2))∧(2≤16)) 3 30 [36,35,34] (0≤1048576) O O O O O O trivial O (fun j=> ?_) (fun a1=> ?_))
  ·refine zQ O (gT j) (zI (o:=7) O O (zQ O (gT j) (zJ 0 (v:=Vi 1048576) O O O O (zQ O (gT j) (xE O O O (z8 O (fun _ d=>d)))))))
  refine zC O (yA (q:=((((((1≤1)∧(1≤16))∧(1≤1))∧(1≤1))∧(0≤2))∧(2≤16))∧(0≤1048576)) 3 35 [41,40,39] (1048576≤4194304) O O O O O O trivial O (fun k=> ?_) (fun a2=> ?_))
  ·refine zQ O (gT k) (zI (o:=7) O O (zQ O (gT k) (zJ 0 (v:=Vi 1048576) O O O O (zQ O (gT k) (yq O O O (z8 O (fun _ d=>d)))))))
  refine zC O (yA (q:=(((((((1≤1)∧(1≤16))∧(1≤1))∧(1≤1))∧(0≤2))∧(2≤16))∧(0≤1048576))∧(1048576≤4194304)) 3 40 [46,45,44] (0≤400) O O O O O O trivial O (fun l=> ?_) (fun a3=> ?_))
  ·refine zQ O (gT l) (zI (o:=8) O O (zQ O (gT l) (zJ 0 (v:=Vi 400) O O O O (zQ O (gT l) (xE O O O (z8 O (fun _ d=>d)))))))
  refine zC O (yA (q:=((((((((1≤1)∧(1≤16))∧(1≤1))∧(1≤1))∧(0≤2))∧(2≤16))∧(0≤1048576))∧(1048576≤4194304))∧(0≤400)) 3 45 [51,50,49] (400≤4096) O O O O O O trivial O (fun m=> ?_) (fun a4=> ?_))
  ·refine zQ O (gT m) (zI (o:=8) O O (zQ O (gT m) (zJ 0 (v:=Vi 400) O O O O (zQ O (gT m) (yq O O O (z8 O (fun _ d=>d)))))))
  refine zC O (yA (q:=(((((((((1≤1)∧(1≤16))∧(1≤1))∧(1≤1))∧(0≤2))∧(2≤16))∧(0≤1048576))∧(1048576≤4194304))∧(0≤400))∧(400≤4096)) 3 50 [56,55,54] (0≤0) O O O O O O trivial O (fun n=> ?_) (fun a5=> ?_))
  ·refine zQ O (gT n) (zI (o:=9) O O (zQ O (gT n) (zJ 0 (v:=Vi 0) O O O O (zQ O (gT n) (xE O O O (z8 O (fun _ d=>d)))))))
  refine zC O (yA (q:=((((((((((1≤1)∧(1≤16))∧(1≤1))∧(1≤1))∧(0≤2))∧(2≤16))∧(0≤1048576))∧(1048576≤4194304))∧(0≤400))∧(400≤4096))∧(0≤0)) 3 55 [61,60,59] (0≤4096) O O O O O O trivial O (fun p=> ?_) (fun a6=> ?_))
  ·refine zQ O (gT p) (zI (o:=9) O O (zQ O (gT p) (zJ 0 (v:=Vi 0) O O O O (zQ O (gT p) (yq O O O (z8 O (fun _ d=>d)))))))
  refine zC O (yA (q:=(((((((((((1≤1)∧(1≤16))∧(1≤1))∧(1≤1))∧(0≤2))∧(2≤16))∧(0≤1048576))∧(1048576≤4194304))∧(0≤400))∧(400≤4096))∧(0≤0))∧(0≤4096)) 3 60 [66,65,64] (0≤rho) O O O O O O trivial O (fun r=> ?_) (fun a7=> ?_))
  ·refine zQ O (gT r) (zI (o:=3) O O (zQ O (gT r) (zJ 0 (v:=Vi rho) O O O O (zQ O (gT r) (xE O O O (z8 O (fun _ d=>d)))))))
  refine zC O (yA (q:=((((((((((((1≤1)∧(1≤16))∧(1≤1))∧(1≤1))∧(0≤2))∧(2≤16))∧(0≤1048576))∧(1048576≤4194304))∧(0≤400))∧(400≤4096))∧(0≤0))∧(0≤4096))∧(0≤rho)) 3 65 [71,70,69] (rho≤500000) O O O O O O trivial O (fun s=> ?_) (fun a8=> ?_))
  ·refine zQ O (gT s) (zI (o:=3) O O (zQ O (gT s) (zJ 0 (v:=Vi rho) O O O O (zQ O (gT s) (yq O O O (z8 O (fun _ d=>d)))))))
  refine zC O (yA (q:=(((((((((((((1≤1)∧(1≤16))∧(1≤1))∧(1≤1))∧(0≤2))∧(2≤16))∧(0≤1048576))∧(1048576≤4194304))∧(0≤400))∧(400≤4096))∧(0≤0))∧(0≤4096))∧(0≤rho))∧(rho≤500000)) 8 70 [81,80,79,78,77,76,75,74] (1≤((min (min 12 20) 4:Nat):Int)) O O O O O O trivial O (fun a=> ?_) (fun a9=> ?_))
  ·refine zQ O (gT a) (zI (o:=4) O O (zQ O (gT a) (zJ 0 (v:=Vi 12) O O O O (zQ O (gT a) (zI (o:=5) O O (zQ O (gT a) (zJ 0 (v:=Vi 20) O O O O (zQ O (gT a) (zI (o:=6) O O (zQ O (gT a) (zJ 0 (v:=Vi 4) O O O O (zQ O (gT a) (zKx (c:=((min (min 12 20) 4:Nat):Int)) O O O (zR4 _ _ _) O (zQ O (gT a) (xE O O O (z8 O (fun _ d=>d)))))))))))))))))
  refine zC O (yA (q:=((((((((((((((1≤1)∧(1≤16))∧(1≤1))∧(1≤1))∧(0≤2))∧(2≤16))∧(0≤1048576))∧(1048576≤4194304))∧(0≤400))∧(400≤4096))∧(0≤0))∧(0≤4096))∧(0≤rho))∧(rho≤500000))∧(1≤((min (min 12 20) 4:Nat):Int))) 8 80 [91,90,89,88,87,86,85,84] (((max (max 12 20) 4:Nat):Int)≤1073741824) O O O O O O trivial O (fun b=> ?_) (fun aa=> ?_))
  ·refine zQ O (gT b) (zI (o:=4) O O (zQ O (gT b) (zJ 0 (v:=Vi 12) O O O O (zQ O (gT b) (zI (o:=5) O O (zQ O (gT b) (zJ 0 (v:=Vi 20) O O O O (zQ O (gT b) (zI (o:=6) O O (zQ O (gT b) (zJ 0 (v:=Vi 4) O O O O (zQ O (gT b) (zKb (c:=((max (max 12 20) 4:Nat):Int)) O O O (zSY _ _ _) O (zQ O (gT b) (yq O O O (z8 O (fun _ d=>d)))))))))))))))))
  refine zG O (zA (zP (zn (v:= .bool (decide ((((((((((((((((1≤1)∧(1≤16))∧(1≤1))∧(1≤1))∧(0≤2))∧(2≤16))∧(0≤1048576))∧(1048576≤4194304))∧(0≤400))∧(400≤4096))∧(0≤0))∧(0≤4096))∧(0≤rho))∧(rho≤500000))∧(1≤((min (min 12 20) 4:Nat):Int)))∧(((max (max 12 20) 4:Nat):Int)≤1073741824)))) O O (fun w' d=>⟨(by congr 1;exact decide_eq_decide.2 (by constructor<;>intro h<;>simp at h ⊢ <;>omega)),d.drop⟩))))
theorem zLt(v:Value)(l:List WaiD)(w:World)(hl:l.length≤1000000000)(hv:Rd w [] (Res.sl v l.length (l.flatMap WaiD.cells))):Rets Tryz.prog 283 #[v] w fun i b=>∃ (r:Value),i=r∧Own w [] [Res.vec 334 7 r l.length (l.flatMap WaiD.cells)] b:=by
  refine zO Tryz.func283 O Tryz.ntmps283 (Own.start w) (zB (zG O (zA (zK (zB (zC O (zAg (len:=l.length) (cs:=(l.flatMap WaiD.cells)) qD O O (fun b a=>Own.rd hv a) O (zA (ku O (fun d=> ?_) (fun d=> ?_))))))))))
  ·refine zB (zG O (zA (zP (zn (v:=zW) O O (fun b c=>⟨.slice none 0 0,O,by obtain⟨_,j⟩:=Sl.isNil hv.φ d;rw[List.eq_nil_of_length_eq_zero j];exact zq c 334 7⟩)))))
  refine zN (zB (yC (e:=334) (sz:=7) (vs:=[]) qD O O (by simp[Value.cells,WaiD.cells]) V O (fun k=>zC O (yE (g:=WaiD.cells) (sz:=7) (by':=64) (fun _=>O) (l:=[]) (l':=l) (by simp[cell1,WaiD.cells,vu]) 0 qD O O O (fun b a=>Own.rd hv a) qF V O (fun h=>zG O (zA (zP (zn (v:=h) O O (fun b c=>⟨h,O,c⟩)))))))))
theorem zIL{S:List Nat}(cb gb p:Nat)(av:Value)(a:StA)(x:AlD)(k:Nat)(s:LgD)(w:World)(g:AlF a x∨AlL a x k)(hl:x.es.length≤800)(hk:k≤1000)(a1:Own w S [Res.al cb a x,Res.lg gb s,Res.vec 334 7 av ([]:List WaiD).length (([]:List WaiD).flatMap WaiD.cells)] w):Rets Tryz.prog 162 #[.agg #[pt cb,pt gb,av,Vn p]] w fun u_ d=>∃ (q r:Nat) (u:Value) (y:CqD) (s2:LgD),u_= .agg #[pt q,pt r,u,Vn p]∧y.t=x.t∧y.b.vs=[1]∧Own w S [Res.al cb a x,Res.lg gb s,Res.vec 334 7 av ([]:List WaiD).length (([]:List WaiD).flatMap WaiD.cells),Res.cq q a y,Res.lg r s2,Res.vec 334 7 u ([]:List WaiD).length (([]:List WaiD).flatMap WaiD.cells)] d:=by
  refine zO Tryz.func162 O Tryz.ntmps162 a1 (zB (zj O O (fun b1=>zk (v:= .agg #[.pointer none, .pointer none,zW,Vn 0]) qD O (fun b2=>zA (zK (zc [0,1,2,3] O V qD (fun d c g=>zD 0 O (zL (o:=0) O) g (zD 1 O (zZ 3 (v:=pt cb) O O O) g (zD 3 O (zL (o:=1) O) g (zD 4 O (zZ 3 (v:=pt gb) O O O) g (zD 6 O (zL (o:=2) O) g (zD 7 O (zZ 3 (v:=av) O O O) g (zD 9 O (zL (o:=3) O) g (zD 10 O (zZ 3 (v:=Vn p) O O O) g (zM 2 O c (zH O O (fun d c=>(zNI cb _ _ _ d ‹_› qF qF (c.give [0] O V)).mono ?_)))))))))))))))))
  rintro _ w1 ⟨e,a2,rfl,m,h,hO⟩
  refine fq [0] O c hO (zE [4,0,1,2] O V (fun d c g=>zM 5 O c (zH O O (fun d c=>(zHm gb _ d (c.give [0] O V)).mono ?_))))
  rintro _ w1 ⟨j,a0,rfl,a3,hO⟩
  refine fq [0] O c hO (zE [3,5,0,1] O V (fun d c g=>zM 8 O c (zH O O (fun d c=>(zLt av [] d qF (c.qh 0 O)).mono ?_))))
  rintro n w1 ⟨_,rfl,hO⟩
  refine(?_:CL _ _ _ _ _ _ (Own w S [_,_,_,_,_,_,_,_])) w1 (c.qb hO)
  refine zE [3,5,0,1] O V (fun d c g=>zM 11 O c (zS (fun d c=>Own.qa (i:=7) O c) (fun l=>(xK (cs:=[pt e,pt j,n,Vn p]) (z:=[.pointer none, .pointer none,zW,Vn 0]) (pl:=[(0,1),(1,1),(2,1),(3,1)]) qD ⟨O,O,l,O,trivial⟩ qD O (zE [3,5,0,1] O V (fun d c g=>zM 12 O c (ze 2 O O O (zF O (zF O (zF l (zF O zh)))) O (zE [3,5,0,1] O V (fun d c g=>zY ((?_:C _ _ _ _ _ _ _ (Own w S [_,_,_,_,_,_,_,_])) _ c))))))))))
  exact zP (xc (cs:=[pt e,pt j,n,Vn p]) O O qD (Own.qc (i:=2) O) (fun d c=>⟨e,j,n,a2,a0,O,m,h,c.sel [3,5,0,4,6,7] O V⟩))
end Go.Proofs.YtmpaljnacfidaaaGreatDoor
