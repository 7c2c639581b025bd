import Derived.Test.YtkkeknmkipkbmaaGreatCoV
set_option linter.unusedSectionVars false
set_option linter.unusedSimpArgs false
set_option linter.unusedVariables false
set_option maxRecDepth 10000
namespace Go.Proofs.YtkkeknmkipkbmaaGreat
open Go Go.Sc Go.Proofs
def a3(rho:Int):StA:={id:=1,nodes:=0,voters:=0,edges:=0,rho:=rho,base:=100,spread:=9,beat:=3,disk:=0,post:=0,keep:=0}
def t0:TimD:={term:=0,qD:=0,now:=0,qz:=0,due:=100,qC:=0,qw:=0,gd:=0,qA:=0}
def n0:NodA:={t:=t0,r:=⟨1,0,0⟩,E:=[],ld:=none,yes:=[]}
def n1:NodA:={t:={t0 with now:=100,due:=200},r:=⟨2,0,0⟩,E:=[],ld:=none,yes:=[1]}
def m2:MsgA:=⟨2,2,1,1,0,0,0,0,true,[],⟨[],[]⟩,0,[]⟩
def n2:NodA:={t:={t0 with term:=1,qD:=1,now:=100,due:=200},r:=⟨3,0,0⟩,E:=[],ld:=none,yes:=[1]}
def m3:MsgA:=⟨4,2,1,1,0,0,0,0,true,[],⟨[],[]⟩,0,[]⟩
def p3(id:Int):PeerM:={id:=id,next:=1,qy:=0,round:=0,qv:=1,off:=0,opn:=false,told:=false,asked:=false}
def l3:LdD:={pv:= .slice none 0 0,qa:=[(0,p3 2),(0,p3 3)],av:= .slice none 0 0,qe:=[],rv:= .slice none 0 0,qf:=[100],sure:=0,kv:= .slice none 0 0,qj:=[],give:=0,qB:=false}
def n3:NodA:={t:={t0 with term:=1,qD:=1,now:=100,due:=200,qA:=100,qw:=100,qC:=100},r:=⟨4,1,0⟩,E:=[zB5 0 1],ld:=some l3,yes:=[]}
def m5:MsgA:=⟨6,3,1,1,1,0,0,1,true,[],⟨[],[]⟩,0,[]⟩
def p5:PeerM:={id:=3,next:=2,qy:=1,round:=1,qv:=0,off:=0,opn:=true,told:=true,asked:=false}
def l5:LdD:={l3 with qa:=[(0,p3 2),(0,p5)],qe:=[3],sure:=1}
def n5:NodA:={n3 with t:={t0 with term:=1,qD:=1,now:=100,qz:=100,due:=200,qA:=100,qw:=100,qC:=100},r:=⟨4,1,1⟩,ld:=some l5}
def p7:PeerM:={id:=3,next:=2,qy:=1,round:=1,qv:=0,off:=0,opn:=true,told:=false,asked:=false}
def l7(now:Int):LdD:={l5 with qa:=[(0,p3 2),(0,p7)],qf:=[100,now],qj:=[⟨2,1,2⟩]}
def n7(now:Int):NodA:={n5 with t:={n5.t with now:=now,qC:=now},ld:=some (l7 now)}
def m8:MsgA:=⟨6,3,1,1,1,0,0,2,true,[],⟨[],[]⟩,0,[]⟩
def p8:PeerM:={id:=3,next:=2,qy:=1,round:=2,qv:=0,off:=0,opn:=true,told:=true,asked:=false}
def aA:StA:={id:=1,nodes:=0,voters:=0,edges:=0,rho:=0,base:=10,spread:=5,beat:=2,disk:=0,post:=0,keep:=0}
def nA:NodA:={n0 with t:={t0 with due:=10}}
theorem zOn:jH aA [1] []=[]:=by
  unfold jH
  rw[show(zc [1] []).vs++(zc [1] []).ls=[1]from rfl,←zG8 (List.Perm.refl [1]) qP]
  rfl
theorem zOZ:(y6 aA [1] 10 0 nA).1.r=⟨4,1,1⟩:=by
  have h1:y6 aA [1] 10 0 nA=zAb (jB aA [1] {nA with t:={t0 with term:=1,qD:=1,now:=10,due:=20},r:=⟨3,0,0⟩,yes:=[1]}):=rfl
  rw[h1]
  unfold jB
  dsimp only[nA,n0]
  rw[zOn]
  rfl
theorem zIw(w:World):Rets Tryz.prog 9 #[] w fun u_ w'=>u_= .agg #[Vi 0,Vi 0,Vi 0,Vi 0,Vi 10,Vi 9,Vi 3,Vi 0,Vi 0,Vi 0]∧Own w [] [] w':=by
  refine zW Tryz.func9 O Tryz.ntmps9 (Own.start w) ?_
  refine zB (yE (v:= .agg #[Vi 0,Vi 0,Vi 0,Vi 0,Vi 0,Vi 0,Vi 0,Vi 0,Vi 0,Vi 0]) qM O (fun b0=>zA (zB (yc (cs:=[Vi 0,Vi 0,Vi 0,Vi 0,Vi 10,Vi 9,Vi 3,Vi 0,Vi 0,Vi 0]) (z:=[Vi 0,Vi 0,Vi 0,Vi 0,Vi 0,Vi 0,Vi 0,Vi 0,Vi 0,Vi 0]) (pl:=[(0,1),(1,1),(2,1),(3,1),(4,1),(5,1),(6,1),(7,1),(8,1),(9,1)]) qM qM O (zp 0 O O O (xO O) O (zA ?_))))))
  exact zT (jV (cs:=[Vi 0,Vi 0,Vi 0,Vi 0,Vi 10,Vi 9,Vi 3,Vi 0,Vi 0,Vi 0]) O O qM (Own.qq (i:=0) O) (fun w' hw=>⟨O,hw.drop⟩))
theorem zIP(w:World):Rets Tryz.prog 11 #[] w fun u_ w'=>u_= .bool true∧Own w [] [] w':=by
  refine zW Tryz.func11 O Tryz.ntmps11 (Own.start w) ?_
  refine zB (zI O (zA (zB (yc (cs:=[Vn 0,Vi 0]) (z:=[Vn 0,Vi 0]) (pl:=[(0,1),(1,1)]) qM qM O (zy (e:=3) (sz:=1) (vs:=[Vi 1]) qM O O qQ qL O (fun b9=>yc (cs:=[(.slice (some ⟨b9,0,none⟩) 1 1), .slice none 0 0]) (z:=[.slice none 0 0, .slice none 0 0]) (pl:=[(0,1),(1,1)]) qM qM O (yc (cs:=[Vn 0,Vn 0,(.slice (some ⟨b9,0,none⟩) 1 1), .slice none 0 0, .slice none 0 0]) (z:=[Vn 0,Vn 0, .slice none 0 0, .slice none 0 0, .slice none 0 0]) (pl:=[(0,1),(1,1),(2,2),(4,1)]) qM qM O (yc (cs:=[Vi 0,Vi 0,Vi 0,Vi 0,Vi 10,Vi 5,Vi 2,Vi 0,Vi 0,Vi 0]) (z:=[Vi 0,Vi 0,Vi 0,Vi 0,Vi 0,Vi 0,Vi 0,Vi 0,Vi 0,Vi 0]) (pl:=[(0,1),(1,1),(2,1),(3,1),(4,1),(5,1),(6,1),(7,1),(8,1),(9,1)]) qM qM O (a_call O O (fun w' hw=>(zLG 1 0 10 5 2 (.slice (some ⟨b9,0,none⟩) 1 1) [1] 0 (.slice none 0 0) (.slice none 0 0) w' qN qN qN qN qN ⟨by simp,by simp⟩ qR qR qN (hw.qp 0 O) Rd.nil Rd.nil).mono ?_))))))))))
  rintro _ w1 ⟨cb1_,jb2_,b3_,lv4_,es5_,rfl,hf1_5,hf1_5_1,hO⟩
  have he:=List.eq_nil_of_length_eq_zero hf1_5
  have hv:=hf1_5_1
  have hcf:zc b3_.vs (es5_.map EntD.toEntA)=⟨[1],[]⟩:=by rw[he,hv];rfl
  refine O5 ?_ (hw.qi hO)
  refine zD O (yD (vs:=[pt cb1_,Vi 0]) O O O (yD (vs:=[pt cb1_,Vi 0]) O O O (zI O (zI O (zA (zN (zB (zD O (xa O O O (zD O (yk (q:=0≠0) 2 2 [20,19] (false=true) O O O O O O trivial O (fun h2_2=> ?_) (fun g2_5=> ?_))))))))))))
  ·refine zS O (gF h2_2) (zD O (zS O (gF h2_2) (xm qM O O O ?_)))
   exact yP (xT _) (fun _ hw=>hw)
  refine zA (zY O (fun c1=> ?_) (fun c1=> ?_))
  ·exact absurd c1 qP
  refine zO (zB (zD O (a_call O O (fun w' hw=>(zDt cb1_ jb2_ ({term:=0,qD:=0,now:=0,qz:=0,due:=0+(10+((0%(Int.toNat 5+1):Nat):Int)),qC:=0,qw:=0,gd:=0,qA:=0}:TimD) ({id:=1,nodes:=0,voters:=0,edges:=0,rho:=0,base:=10,spread:=5,beat:=2,disk:=0,post:=0,keep:=0}:StA) ({qt:=1,who:=0,qc:=0}:RolD) b3_ (.slice none 0 0) 0 lv4_ es5_ none [] 10 0 w' (by rw[he];exact⟨Nat.zero_le _,Nat.zero_le _,trivial⟩) (by rw[he];exact Nat.zero_le _) (by rw[hv];decide) (by rw[hcf];decide) ⟨⟨fun h=>absurd (show(1:Int)=3 from h) qL,by decide⟩,(by rw[he];decide),by decide,by decide,⟨fun h=>absurd (show(1:Int)=4 from h) qL,fun h=>by cases h⟩,(fun q h=>by cases h),Nat.zero_le _⟩ ⟨by decide,by decide,by decide,by decide,by decide⟩ qN qN qO qO (hw.give [1,2,3,4] O qL)).mono ?_))))
  rintro _ w1 ⟨n6_,o7_,x8_,rfl,hf4_1,hf4_1_1,hf4_1_2,hf4_1_3,hO⟩
  have hs:n6_.r=⟨4,1,1⟩:=by have h:=congrArg (fun q:NodA×OutA=>q.1.r) hf4_1;rw[he,hv]at h;exact h.trans zOZ
  refine O9 ?_ (hw.qg [1,2,3,4] O hO)
  refine zA (zB (zD O (a_call O O (fun w' hw=>(zME cb1_ jb2_ n6_.t ({id:=1,nodes:=0,voters:=0,edges:=0,rho:=0,base:=10,spread:=5,beat:=2,disk:=0,post:=0,keep:=0}:StA) n6_.r b3_ (xF n6_.y) n6_.yv (.pointer none) 0 w' (hw.give [1] O qL)).mono ?_))))
  rintro _ w1 ⟨rfl,hO⟩
  refine O9 ?_ (hw.qg [1] O hO)
  refine zD O (yD (vs:=[.agg #[Vn n6_.t.term,Vi n6_.t.qD],Vi n6_.r.qt,Vi n6_.r.who,Vn n6_.r.qc]) O O O (yD (vs:=[.agg #[Vn n6_.t.term,Vi n6_.t.qD],Vi n6_.r.qt,Vi n6_.r.who,Vn n6_.r.qc]) O O O (yD (vs:=[.agg #[Vn n6_.t.term,Vi n6_.t.qD],Vi n6_.r.qt,Vi n6_.r.who,Vn n6_.r.qc]) O O O (yD (vs:=[.agg #[Vn n6_.t.term,Vi n6_.t.qD],Vi n6_.r.qt,Vi n6_.r.who,Vn n6_.r.qc]) O O O (yE (v:= .agg #[Vn 0,Vi 0]) qM O (fun b3=>zp 9 O O O (xO O) O (zI O (zI O (zI O (zA (zB (zD O ?_))))))))))))
  refine yS O O O (zD O (yO (q:=n6_.r.qt=4) 2 2 [35,34] (n6_.r.who=1) O O O O O O trivial O (fun h6_2=> ?_) (fun g6_5=> ?_)))
  ·refine zS O (gT h6_2) (zD O (zS O (gT h6_2) (yS O O O ?_)))
   exact yP O (fun _ hw=>hw)
  refine zD O (yO (q:=(n6_.r.qt=4)∧(n6_.r.who=1)) 2 6 [39,38] (((n6_.r.qc:Nat):Int)=((1:Nat):Int)) O O O O O O trivial O (fun h6_6=> ?_) (fun g6_9=> ?_))
  ·refine zS O (gT h6_6) (zD O (zS O (gT h6_6) (yS O O O ?_)))
   exact yP O (fun _ hw=>hw)
  refine zI O (zA ?_)
  exact zT (z5 (v:= .bool (decide (((n6_.r.qt=4)∧(n6_.r.who=1))∧(((n6_.r.qc:Nat):Int)=((1:Nat):Int))))) O O (fun w' hw=>⟨(by rw[hs];rfl),hw.drop⟩))
theorem zOf{l:LdD}(h:l.er.bd):l.bd:=by
  have hp:∀ p∈l.qa,((0,p.2):PeerP)∈l.er.qa:=fun p hp=>List.mem_map_of_mem (f:=fun q:PeerP=>((0:Nat),q.2)) hp
  exact⟨by have:=h.qa;rwa [show l.er.qa.length=l.qa.length from zBk]at this,fun p q=>h.each (0,p.2) (hp p q),fun p q=>h.round (0,p.2) (hp p q),h.qf,h.qj,h.qe⟩
structure NodA.ok(vs0:List Int)(A:NodA):Prop where
  htm:(A.r.qt=3→1≤A.t.term)∧A.t.term≤4611686018427387904
  good:(LogA.mk 0 0 A.E).good
  len:A.E.length≤100000
  hen:(LogA.mk 0 0 A.E).end_≤A.t.term
  hn:0≤A.t.now∧A.t.now≤1000000000000000
  hh:0≤A.t.qz∧A.t.qz≤1000000000000000
  hbt:0≤A.t.qC∧A.t.qC≤1000000000000000
  hck:0≤A.t.qw∧A.t.qw≤1000000000000000
  hro:A.r.qt=4↔A.ld.isSome=true
  hld:∀ l,A.ld=some l→l.bd
  hy:A.yes.length≤1000
  hcm:1≤((zc vs0 A.E).vs++(zc vs0 A.E).ls).length∧((zc vs0 A.E).vs++(zc vs0 A.E).ls).length≤12
  hcl:A.r.qc≤A.E.length
theorem NodA.ok.hand{vs0:List Int}{n:NdD}(h:n.a.ok vs0):HandOk n.t n.r n.y n.yes (LG 0 0 n.es).end_:=
  ⟨h.htm,h.hen,h.hn,h.hh,h.hro.trans (by unfold NdD.a;rw[Option.isSome_map]),fun q hq=>zOf (h.hld q.2.er (by unfold NdD.a;rw[hq];rfl)),h.hy⟩
theorem NodA.ok.len'{vs0:List Int}{n:NdD}(h:n.a.ok vs0):n.es.length≤100000:=by have:=h.len;unfold NdD.a at this;rwa [List.length_map]at this
theorem NodA.ok.hcl'{vs0:List Int}{n:NdD}(h:n.a.ok vs0):n.r.qc≤n.es.length:=by have:=h.hcl;unfold NdD.a at this;rwa [List.length_map]at this
def Res.cn(cb jb:Nat)(a:StA)(b:StB)(qd:Nat)(n:NdD):Res:=Res.star [z3 cb n.t (xF n.y) a n.r b n.yv jb qd (.pointer none),Res.nl b n.lv n.es,Res.lo n.y,vI n.yv n.yes]
theorem zOu(cb jb:Nat)(a:StA)(b:StB)(qd:Nat)(n:NdD)(now:Int)(dr:Nat)(w:World)(ha:a.ok)(hvl:b.vs.length≤12)(hk:n.a.ok b.vs)(hnw:0≤now∧now≤1000000000000000)(hd:dr<18446744073709551616)(hin:Own w (y1 [Res.cn cb jb a b qd n]) [Res.cn cb jb a b qd n] w):Rets Tryz.prog 12 #[pt cb,Vi now,Vn dr] w fun u_ w'=>∃ (n':NdD) (o:OutD) (x:OutA),u_= .agg (OutD.cells o).toArray∧(n'.a,x)=y6 a b.vs now dr n.a∧o.qk.map MsgD.a=x.ms∧o.qx=x.qx∧o.qr=x.qr∧Own w (y1 [Res.cn cb jb a b qd n]) [Res.cn cb jb a b dr n',vM o.mv o.qk,sM o.qk,vR o.rv o.qx,vU o.xv o.qr] w':=by
  refine(zDt cb jb n.t a n.r b n.yv qd n.lv n.es n.y n.yes now dr w hk.good hk.len' hvl hk.hcm hk.hand ha hnw hd hk.hbt hk.hck (hin.qn 0 O)).mono ?_
  rintro _ w1 ⟨n',o,x,rfl,hf,h1,h2,h3,hO⟩
  exact⟨n',o,x,O,hf,h1,h2,h3,(hO.qo [0,1,2,3] O qL).sel [4,0,1,2,3] O qL⟩
theorem zOz(cb jb:Nat)(a:StA)(b:StB)(qd:Nat)(n:NdD)(m:MsgD)(now:Int)(dr:Nat)(w:World)(ha:a.ok)(hvl:b.vs.length≤12)(hk:n.a.ok b.vs)(hnw:0≤now∧now≤1000000000000000)(hd:dr<18446744073709551616)(hm:m.wf)(hmk:m.kind≠7∧m.kind≠8)(hin:Own w (y1 [Res.cn cb jb a b qd n]) [Res.cn cb jb a b qd n] w)(rd_m:MsgD.rd m w (y1 [Res.cn cb jb a b qd n])):Rets Tryz.prog 16 #[pt cb, .agg (MsgD.cells m).toArray,Vi now,Vn dr] w fun u_ w'=>∃ (n':NdD) (dr':Nat) (o:OutD) (x:OutA),u_= .agg (OutD.cells o).toArray∧(n'.a,x)=zBJ a b.vs now dr m.a n.a∧o.qk.map MsgD.a=x.ms∧o.qx=x.qx∧o.qr=x.qr∧Own w (y1 [Res.cn cb jb a b qd n]) [Res.cn cb jb a b dr' n',vM o.mv o.qk,sM o.qk,vR o.rv o.qx,vU o.xv o.qr] w':=by
  refine(zNO cb jb n.t a n.r b n.yv qd n.lv n.es n.y n.yes m now dr w hk.good hk.len' hvl hk.hcm hk.hand ha hnw hm hd hmk (hin.qn 0 O) rd_m).mono ?_
  rintro _ w1 ⟨n',dr',o,x,rfl,hf,h1,h2,h3,hO⟩
  exact⟨n',dr',o,x,O,hf,h1,h2,h3,(hO.qo [0,1,2,3] O qL).sel [4,0,1,2,3] O qL⟩
theorem zOy(ci cr bs sp bt:Int)(vv:Value)(vs:List Int)(qd:Nat)(lv0 dv0:Value)(w:World)(hid:1≤ci∧ci≤16)(hr:0≤cr∧cr≤500000)(hb1:1≤bs∧bs≤1000000)(hb2:1≤sp∧sp≤1000000)(hb3:1≤bt∧bt≤1000000)(hvs:Rises vs)(hvn:0<vs.length)(hvl:vs.length≤16)(hd:qd<18446744073709551616)(hvv:Rd w [] (Res.sl vv vs.length (vs.flatMap I1)))(hlv0:Rd w [] (Res.sl lv0 nI.length (nI.flatMap I1)))(hdv0:Rd w [] (Res.sl dv0 nB.length (nB.map vb))):Rets Tryz.prog 10 #[Vi ci, .agg #[Vn 0,Vi 0], .agg #[Vn 0,Vn 0,vv,lv0,dv0], .slice none 0 0, .agg #[Vi 0,Vi 0,Vi 0,Vi cr,Vi bs,Vi sp,Vi bt,Vi 0,Vi 0,Vi 0],Vi 0,Vn qd] w fun u_ w'=>∃ (cb jb:Nat) (b:StB) (n:NdD),u_= .tuple #[pt cb,Vi 0]∧n.a={t:={term:=0,qD:=0,now:=0,qz:=0,due:=0+(bs+((qd%(Int.toNat sp+1):Nat):Int)),qC:=0,qw:=0,gd:=0,qA:=0},r:=⟨1,0,0⟩,E:=[],ld:=none,yes:=[]}∧b.vs=vs∧Own w [] [Res.cn cb jb ({id:=ci,nodes:=0,voters:=0,edges:=0,rho:=cr,base:=bs,spread:=sp,beat:=bt,disk:=0,post:=0,keep:=0}:StA) b qd n] w':=by
  refine(zLG ci cr bs sp bt vv vs qd lv0 dv0 w hid hr hb1 hb2 hb3 hvs hvn hvl hd hvv hlv0 hdv0).mono ?_
  rintro _ w1 ⟨cb,jb,b,lv,es,rfl,he,hb,hO⟩
  exact⟨cb,jb,b,⟨{term:=0,qD:=0,now:=0,qz:=0,due:=0+(bs+((qd%(Int.toNat sp+1):Nat):Int)),qC:=0,qw:=0,gd:=0,qA:=0},⟨1,0,0⟩,lv,es,none, .slice none 0 0,[]⟩,O,by unfold NdD.a;rw[List.eq_nil_of_length_eq_zero he];rfl,hb,hO.toStar⟩
end Go.Proofs.YtkkeknmkipkbmaaGreat
