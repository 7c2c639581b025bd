import Derived.Test.YtkkeknmkipkbmaaGreatFwX
import Derived.Test.YtkkeknmkipkbmaaGreatConfB
import Derived.Test.YtkkeknmkipkbmaaGreatCoT
set_option linter.unusedSectionVars false
set_option linter.unusedSimpArgs false
set_option linter.unusedVariables false
set_option maxRecDepth 10000
namespace Go.Proofs.YtkkeknmkipkbmaaGreat
open Go Go.Sc Go.Proofs
theorem zCY{P:Program}{n:Nat}{fn:Func}{R:Value→World→Prop}{A:World→Prop}{f:Nat→Value}{t0 t1 t2:Tmp}{T:TypeId}{b:Nat}{cs:List Value}{v0 v2:Value}(hr:fn.results= #[.tmp t0, .cell t1 T, .tmp t2])(h0:f t0=v0)(h1:f t1= .pointer (some ⟨b,0,none⟩))(h2:f t2=v2)
    (ht:jm P T=some cs.length) (hc:∀ w,A w→∀ i u,cs[i]?=some u→w.cell? ⟨b,0+i,none⟩=some u) (h:∀ w,A w→R (.tuple #[v0, .agg cs.toArray,v2]) w):∀ w,A w→zCp P fn n R f w:=
  fun w hw=>⟨_,fun a ha=>by
    have:=xU (P:=P) ht (hc w hw)
    simp[results,hr,ha.get,h0,h1,h2,asAddr,this],h w hw⟩
def zEH(t rho:Int):Prop:=((t<0∨1099511627776<t)∨rho<0)∨500000<rho
instance (t rho:Int):Decidable (zEH t rho):=inferInstanceAs (Decidable (((_∨_)∨_)∨_))
def shr(t rho:Int):Int:=t*1000000 / (1000000+rho)
def kp(t rho:Int):Int×Int:=if zEH t rho then(0,1)else(shr t rho,0)
def kx(t rho:Int):Int×Int:=if(kp t rho).2≠0 then(0,(kp t rho).2)else kp (kp t rho).1 rho
theorem zPX{t rho:Int}(h:¬ zEH t rho):0≤shr t rho∧shr t rho≤t:=by
  unfold zEH at h
  unfold shr
  refine⟨Int.ediv_nonneg V V,?_⟩
  refine Int.ediv_le_of_le_mul V ?_
  rw[Int.mul_add]
  have:0≤t*rho:=Int.mul_nonneg V V
  omega
theorem zNO{t rho:Int}(h:¬ zEH t rho):IntKind.i64.wrap ((t*1000000).tdiv (1000000+rho))=shr t rho:=by
  have h1:=zPX h
  have h2:(t*1000000).tdiv (1000000+rho)=shr t rho:=by unfold zEH at h;rw[Int.tdiv_eq_ediv_of_nonneg V];rfl
  unfold zEH at h
  rw[h2];exact zr V
theorem zQ5(t rho:Int)(w:World):Rets Tryz.prog 123 #[Vi t,Vi rho] w fun u_ w'=>u_= .bool (decide (zEH t rho))∧Own w [] [] w':=by
  refine zW Tryz.func123 O Tryz.ntmps123 (Own.start w) ?_
  refine zC (zI O (zA (zC (zD O (yI O O O (zD O (yj (q:=t<0) 2 2 [9,8] (1099511627776<t) O O O O O O trivial O (fun h1_2=> ?_) (fun g1_5=> ?_))))))))
  ·refine zR O (gF h1_2) (zD O (zR O (gF h1_2) (yx O O O ?_)))
   exact yN O (fun _ hw=>hw)
  refine zD O (yj (q:=(t<0)∨(1099511627776<t)) 2 6 [13,12] (rho<0) O O O O O O trivial O (fun h1_6=> ?_) (fun g1_9=> ?_))
  ·refine zR O (gF h1_6) (zD O (zR O (gF h1_6) (yI O O O ?_)))
   exact yN O (fun _ hw=>hw)
  refine zD O (yj (q:=((t<0)∨(1099511627776<t))∨(rho<0)) 2 10 [17,16] (500000<rho) O O O O O O trivial O (fun h1_10=> ?_) (fun g1_13=> ?_))
  ·refine zR O (gF h1_10) (zD O (zR O (gF h1_10) (yx O O O ?_)))
   exact yN O (fun _ hw=>hw)
  refine zI O (zA ?_)
  exact zU (z9 (v:= .bool (decide ((((t<0)∨(1099511627776<t))∨(rho<0))∨(500000<rho)))) O O (fun w' hw=>⟨O,hw.drop⟩))
theorem zGm(t rho:Int)(w:World):Rets Tryz.prog 80 #[Vi t,Vi rho] w fun u_ w'=>u_= .tuple #[Vi ((kp t rho).1),Vi ((kp t rho).2)]∧Own w [] [] w':=by
  refine zW Tryz.func80 O Tryz.ntmps80 (Own.start w) ?_
  refine zC (zI O (zI O (zA (zP (zC (zD O (zD O (a_call O O (fun w' hw=>(zQ5 t rho w').mono ?_)))))))))
  rintro _ w1 ⟨rfl,hO⟩
  refine O0 ?_ (hw.qi hO)
  refine zA (za O (fun c1=> ?_) (fun c1=> ?_))
  ·refine zC (zI O (zI O (zA ?_)))
   exact zU (xz (v:=Vi 0) (v':=Vi 1) O O O (fun w' hw=>⟨(by unfold kp;rw[if_pos c1]),hw.drop⟩))
  have hb:¬ zEH t rho:=c1
  unfold zEH at c1
  refine zQ (zC (zD O (zKf O O (zr V) O (zD O (zt O O (zr V) O (zL6 (c:=shr t rho) O O V (zNO hb) O (zI O (zI O (zA ?_)))))))))
  exact zU (xz (v:=Vi (shr t rho)) (v':=Vi 0) O O O (fun w' hw=>⟨(by unfold kp;rw[if_neg hb]),hw.drop⟩))
theorem zNM(t rho:Int)(w:World):Rets Tryz.prog 44 #[Vi t,Vi rho] w fun u_ w'=>u_= .tuple #[Vi ((kx t rho).1),Vi ((kx t rho).2)]∧Own w [] [] w':=by
  refine zW Tryz.func44 O Tryz.ntmps44 (Own.start w) ?_
  refine zC (zI O (zI O (zA (zC (zD O (zD O (a_call O O (fun w' hw=>(zGm t rho w').mono ?_))))))))
  rintro _ w1 ⟨rfl,hO⟩
  refine O0 ?_ (hw.qi hO)
  refine zD O (yA (vs:=[Vi ((kp t rho).1),Vi ((kp t rho).2)]) O O O (yA (vs:=[Vi ((kp t rho).1),Vi ((kp t rho).2)]) O O O (zI O (zI O (zA (zP (zC (zD O (xn O O O (zA (za O (fun c1=> ?_) (fun c1=> ?_))))))))))))
  ·refine zC (zD O (zI O (zI O (zA ?_))))
   exact zU (xz (v:=Vi 0) (v':=Vi ((kp t rho).2)) O O O (fun w' hw=>⟨(by unfold kx;rw[if_pos c1]),hw.drop⟩))
  refine zQ (zC (zD O (zD O (a_call O O (fun w' hw=>(zGm ((kp t rho).1) rho w').mono ?_)))))
  rintro _ w1 ⟨rfl,hO⟩
  refine O0 ?_ (hw.qi hO)
  refine yA (vs:=[Vi ((kp ((kp t rho).1) rho).1),Vi ((kp ((kp t rho).1) rho).2)]) O O O (yA (vs:=[Vi ((kp ((kp t rho).1) rho).1),Vi ((kp ((kp t rho).1) rho).2)]) O O O (zI O (zI O (zA ?_))))
  exact zU (xz (v:=Vi ((kp ((kp t rho).1) rho).1)) (v':=Vi ((kp ((kp t rho).1) rho).2)) O O O (fun w' hw=>⟨(by unfold kx;rw[if_neg c1]),hw.drop⟩))
def zEb(a:StA)(vs0:List Int)(id:Nat)(lazy:Bool)(n:NodA)(l:LdD):NodA×OutA:=
  if(zc vs0 n.E).qv [a.id]∨(lazy=true∧l.qB=false∧n.t.now - n.t.qA<(kx a.base a.rho).1)then(n,⟨[],[⟨id,n.r.qc⟩],[]⟩)
  else zBA (zGY a vs0 n {l with qj:=l.qj++[⟨id,n.r.qc,l.qd.length+1⟩]})
def zAY(a:StA)(vs0:List Int)(id:Nat)(lazy:Bool)(now:Int)(n0:NodA):(NodA×OutA)×Int:=
  if n0.r.qp≠4 then((k8 now n0,⟨[],[],[]⟩),14)
  else if ¬(LogA.mk 0 0 n0.E).fits n0.r.qc n0.t.term then((k8 now n0,⟨[],[],[]⟩),15)
  else match n0.ld with
    |some l=>(zEb a vs0 id lazy (k8 now n0) l,0)
    |none=>((k8 now n0,⟨[],[],[]⟩),0)
theorem zOr{S:List Nat}(cb jb:Nat)(t:TimD)(a:StA)(r:RolD)(b:StB)(yv:Value)(qe:Nat)(lv:Value)(es:List EntD)(y:Option (Nat×LdD))(yes:List Int)(id:Nat)(lazy:Bool)(now:Int)(w:World)(hg:(LG 0 0 es).good)(hl:es.length≤100000)(hvl:b.vs.length≤12)(hcm:1≤((zc b.vs (es.map EntD.toEntA)).vs++(zc b.vs (es.map EntD.toEntA)).ls).length∧((zc b.vs (es.map EntD.toEntA)).vs++(zc b.vs (es.map EntD.toEntA)).ls).length≤12)(hH:HandOk t r y yes (LG 0 0 es).end_)(ha:a.ok)(hnw:0≤now∧now≤1000000000000000)(hcl:r.qc≤es.length)(hin:Own w S [z7 cb t (xF y) a r b yv jb qe (.pointer none),Res.nl b lv es,Res.lo y,vI yv yes] w):Rets Tryz.prog 15 #[pt cb,Vn id, .bool lazy,Vi now] w fun u_ w'=>∃ (n:NdD) (o:OutD) (x:OutA) (e:Int),u_= .tuple #[.agg (OutD.cells o).toArray,Vi e]∧((n.a,x),e)=zAY a b.vs id lazy now {t:=t,r:=r,E:=es.map EntD.toEntA,ld:=y.map fun q=>q.2.er,yes:=yes}∧o.qk.map MsgD.a=x.ms∧o.qw=x.qw∧o.qt=x.qt∧Own w S [z7 cb n.t (xF n.y) a n.r b n.yv jb qe (.pointer none),Res.nl b n.lv n.es,Res.lo n.y,vI n.yv n.yes,vM o.mv o.qk,sM o.qk,vR o.rv o.qw,vU o.xv o.qt] w':=by
  have hHt:=hH.htm
  have hHn:=hH.hn
  have hHh:=hH.hh
  have hlb:=(LG.le hg).1
  refine zW Tryz.func15 O Tryz.ntmps15 hin ?_
  refine zC (yC (v:= .agg #[.slice none 0 0, .bool false, .slice none 0 0, .slice none 0 0]) qN O (fun b8=>zI O (zA (zP (zC (zD O (xf qN O O O (zA (xx O (zQ (zC (zD O ?_))))))))))))
  refine zD O (zD O (zb O O (zK (o:=32) O O (zM 0 (v:=Vn qe) O O O O (a_call O O (fun w' hw=>(zAd cb jb t a r b (xF y) yv (.pointer none) qe now qe w' (hw.give [0] O qM)).mono ?_))))))
  rintro _ w1 ⟨ob1_,rfl,hO⟩
  refine O6 ?_ (hw.qh [0] O hO)
  refine zA (zP (zZ (zC (zD O (zb O O (zK (o:=21) O O (zM 4 (v:=Vi r.qp) O O O O (xn O O O (zI O (zA (za O (fun c2=> ?_) (fun c2=> ?_))))))))))))
  ·refine zC (zD O (a_call O O (fun w' hw=>(kf cb jb ({t with now:=max t.now now}:TimD) a r b (xF y) yv qe ob1_ outZ w' (hw.give [4,5] O qM)).mono ?_)))
   rintro _ w1 ⟨rfl,hO⟩
   refine O9 ?_ (hw.qh [4,5] O hO)
   refine zo 3 O O O (xO O) O (zI O (zA ?_))
   exact zU (xj (cs:=(OutD.cells outZ)) (v:=Vi 14) O O O qN (Own.qr (i:=3) O) (fun w' hw=>⟨({t:=({t with now:=max t.now now}:TimD),r:=r,lv:=lv,es:=es,y:=y,yv:=yv,yes:=yes}:NdD),outZ,⟨[],[],[]⟩,14,O,(by unfold zAY;dsimp only;rw[if_pos c2];rfl),O,O,O,hw.sel [4,0,1,2,5,6,7,8] O qM⟩))
  have hr4:=Decidable.not_not.1 c2
  obtain⟨⟨ld,l⟩,rfl⟩:=Option.isSome_iff_exists.1 (hH.hro.1 hr4)
  have hb:l.bd:=hH.hld _ rfl
  have hb1:=hb.qd
  have hb2:=hb.qj
  refine zC (zD O (a_call O O (fun w' hw=>(zIt cb jb ({t with now:=max t.now now}:TimD) a r b (pt ld) yv (pt ob1_) qe _ _ w' ‹_› qO qO qO (hw.give [4,0] O qM)).mono ?_)))
  rintro _ w1 ⟨rfl,hO⟩
  refine O6 ?_ (hw.qh [4,0] O hO)
  refine xB (q:=(LG 0 0 es).fits r.qc ({t with now:=max t.now now}:TimD).term) O O (zI O (zA (za O (fun c3=> ?_) (fun c3=> ?_))))
  ·refine zC (zD O (a_call O O (fun w' hw=>(kf cb jb ({t with now:=max t.now now}:TimD) a r b (pt ld) yv qe ob1_ outZ w' (hw.give [4,3] O qM)).mono ?_)))
   rintro _ w1 ⟨rfl,hO⟩
   refine O9 ?_ (hw.qh [4,3] O hO)
   refine zo 2 O O O (xO O) O (zI O (zA ?_))
   exact zU (xj (cs:=(OutD.cells outZ)) (v:=Vi 15) O O O qN (Own.qr (i:=2) O) (fun w' hw=>⟨({t:=({t with now:=max t.now now}:TimD),r:=r,lv:=lv,es:=es,y:=some (ld,l),yv:=yv,yes:=yes}:NdD),outZ,⟨[],[],[]⟩,15,O,(by unfold zAY;dsimp only;rw[if_neg c2,if_pos (show ¬(LogA.mk 0 0 (es.map EntD.toEntA)).fits r.qc t.term from c3)];rfl),O,O,O,hw.sel [4,3,0,1,5,6,7,8] O qM⟩))
  have h3:¬ ¬(LogA.mk 0 0 (es.map EntD.toEntA)).fits r.qc t.term:=c3
  refine zQ (zC (zD O (zD O (zb O O (zK (o:=23) O O (zM 4 (v:=Vn r.qc) O O O O (yh (cs:=[Vn id,Vn r.qc]) (z:=[Vn 0,Vn 0]) (pl:=[(0,1),(1,1)]) qN qN O (yC (v:= .agg #[Vn 0,Vn 0]) qN O (fun b10=>zo 6 O O O (xO O) O (zA (zP (ze [0,1,2,3,4,5,6] O qM qN (fun w' hw hS=> ?_)))))))))))))
  refine zB 0 O zS hS (zB 1 O (zO O) hS (zB 2 O (zH (o:=11) O) hS (zB 3 O (zH (o:=4) O) hS (zB 4 O (zY 4 (v:=Vi a.base) O O O) hS (zB 5 O zS hS (zB 6 O (zO O) hS (zB 7 O (zH (o:=11) O) hS (zB 8 O (zH (o:=3) O) hS (zB 9 O (zY 4 (v:=Vi a.rho) O O O) hS (zJ 10 O hw (a_call O O (fun w' hw=>(zNM a.base a.rho w').mono ?_))))))))))))
  rintro _ w1 ⟨rfl,hO⟩
  refine O7 ?_ (hw.qi hO)
  refine zE [0,1,2,3,4,5,6] O qM (fun w' hw hS=>zB 11 O zS hS (zB 12 O (yT (vs:=[Vi ((kx a.base a.rho).1),Vi ((kx a.base a.rho).2)]) O O) hS (zB 13 O (yT (vs:=[Vi ((kx a.base a.rho).1),Vi ((kx a.base a.rho).2)]) O O) hS (zB 14 O yO hS (zB 15 O yO hS (zT ?_))))))
  refine Oc7 ?_ hw
  refine jl (fun(n:NdD) (o':OutD) (x:OutA)=>[(0,pt cb),(8,pt b8)]) (fun(n:NdD) (o':OutD) (x:OutA)=>(n.a,x)=zEb a b.vs id lazy (k8 now {t:=t,r:=r,E:=es.map EntD.toEntA,ld:=some l.er,yes:=yes}) l.er∧(o'.qk.map MsgD.a=x.ms∧o'.qw=x.qw)∧o'.qt=x.qt) (fun(n:NdD) (o':OutD) (x:OutA)=>[z7 cb n.t (xF n.y) a n.r b n.yv jb qe (pt ob1_),Res.nl b n.lv n.es,Res.lo n.y,vI n.yv n.yes,Res.ou ob1_ o',Res.row b8 44 [.slice none 0 0, .bool false, .slice none 0 0, .slice none 0 0]]) ?_ (fun n o' x g hΦ=> ?_)
  ·refine yt (fun(gg:Bool)=>[(0,pt cb),(8,pt b8),(10,pt b10),(86, .bool gg)]) (fun(gg:Bool)=>gg=true↔(zc b.vs (es.map EntD.toEntA)).qv [a.id]∨(lazy=true∧l.er.qB=false∧max t.now now - t.qA<(kx a.base a.rho).1)) (fun(gg:Bool)=>[Res.ld ld l,vI yv yes,Res.row b8 44 [.slice none 0 0, .bool false, .slice none 0 0, .slice none 0 0],Res.ou ob1_ outZ,z7 cb ({t with now:=max t.now now}:TimD) (pt ld) a r b yv jb qe (pt ob1_),Res.nl b lv es,Res.row b10 53 [Vn id,Vn r.qc]]) ?_ (fun gg g hΦ=> ?_)
   ·refine ze [0,1,2,3,4,5,6] O qM qN (fun w' hw hS=>zB 0 O zS hS (zJ 1 O hw (a_call O O (fun w' hw=>(zBe cb jb ({t with now:=max t.now now}:TimD) a r b (pt ld) yv (pt ob1_) qe _ _ w' ‹_› qO qO (hw.give [4,5] O qM)).mono ?_))))
    rintro _ w1 ⟨rfl,hO⟩
    refine O7 ?_ (hw.qh [4,5] O hO)
    refine zE [0,1,2,3,5,6,4] O qM (fun w' hw hS=>zB 2 O zS hS ?_)
    by_cases g10_2:(zc b.vs (es.map EntD.toEntA)).qv [a.id]
    ·refine zX 3 O O (gT g10_2) O hS (zX 4 O O (gT g10_2) O hS (y0 5 O O O hS (y0 6 O O O hS (y0 7 O O O hS (y0 8 O O O hS (y0 9 O O O hS (y0 10 O O O hS (y0 11 O O O hS (y0 12 O O O hS (zX 13 O O (gT g10_2) O hS (zX 14 O O (gT g10_2) O hS (y0 15 O O O hS ?_))))))))))))
     refine y0 16 O O O hS (y0 17 O O O hS (y0 18 O O O hS (y0 19 O O O hS (y0 20 O O O hS (y0 21 O O O hS (y0 22 O O O hS (y0 23 O O O hS (y0 24 O O O hS (y0 25 O O O hS (y0 26 O O O hS (y0 27 O O O hS (zX 28 O O (gT g10_2) O hS ?_))))))))))))
     refine zB 29 O (yf (gT g10_2)) hS (zT ?_)
     exact⟨true,⟨O,O,O,O,trivial⟩,⟨fun _=> .inl g10_2,fun _=>O⟩,hw.sel [0,1,2,3,5,6,4] O qM⟩
    refine zf 3 O O (gF g10_2) zS hS (zf 4 O O (gF g10_2) zS hS ?_)
    by_cases g10_4:lazy=true
    ·refine zf 5 O O (bT g10_4) zS hS (zf 6 O O (bT g10_4) (zO O) hS (zf 7 O O (bT g10_4) (zH (o:=9) O) hS (zf 8 O O (bT g10_4) (zY 4 (v:=pt ld) O O O) hS (zf 9 O O (bT g10_4) (zO O) hS (zf 10 O O (bT g10_4) (zH (o:=6) O) hS (zf 11 O O (bT g10_4) (jz (v:= .bool l.qB) 0 0 6 O O O O qN) hS (zf 12 O O (bT g10_4) (zDx (b:=l.qB) O) hS (zf 13 O O (gF g10_2) (yf (bT g10_4)) hS (zf 14 O O (gF g10_2) zS hS ?_)))))))))
     by_cases g10_14:(!l.qB)=true
     ·refine zf 15 O O (bT g10_14) zS hS (zf 16 O O (bT g10_14) (zO O) hS (zf 17 O O (bT g10_14) (zH (o:=2) O) hS (zf 18 O O (bT g10_14) (zH (o:=0) O) hS (zf 19 O O (bT g10_14) (zY 4 (v:=Vi (max t.now now)) O O O) hS (zf 20 O O (bT g10_14) zS hS (zf 21 O O (bT g10_14) (zO O) hS (zf 22 O O (bT g10_14) (zH (o:=2) O) hS (zf 23 O O (bT g10_14) (zH (o:=1) O) hS (zf 24 O O (bT g10_14) (zY 4 (v:=Vi t.qA) O O O) hS (zf 25 O O (bT g10_14) (xl O O (zr V)) hS (zf 26 O O (bT g10_14) zS hS (zf 27 O O (bT g10_14) (zBi O O) hS ?_))))))))))))
      refine zf 28 O O (gF g10_2) (yf (bT g10_14)) hS (zB 29 O (yM (gF g10_2)) hS (zT ?_))
      exact⟨decide (max t.now now - t.qA<(kx a.base a.rho).1),⟨O,O,O,O,trivial⟩,⟨fun h=> .inr ⟨g10_4,(show l.qB=false by simpa using g10_14),of_decide_eq_true h⟩,fun h=>decide_eq_true (h.resolve_left g10_2).2.2⟩,hw.sel [0,1,2,3,5,6,4] O qM⟩
     refine zX 15 O O (bF g10_14) O hS (zX 16 O O (bF g10_14) O hS (zX 17 O O (bF g10_14) O hS (zX 18 O O (bF g10_14) O hS (zX 19 O O (bF g10_14) O hS (zX 20 O O (bF g10_14) O hS (zX 21 O O (bF g10_14) O hS (zX 22 O O (bF g10_14) O hS (zX 23 O O (bF g10_14) O hS (zX 24 O O (bF g10_14) O hS (zX 25 O O (bF g10_14) O hS (zX 26 O O (bF g10_14) O hS (zX 27 O O (bF g10_14) O hS ?_))))))))))))
     refine zf 28 O O (gF g10_2) (yM (bF g10_14)) hS (zB 29 O (yM (gF g10_2)) hS (zT ?_))
     exact⟨false,⟨O,O,O,O,trivial⟩,⟨fun h=>absurd h qM,fun h=>absurd (show(!l.qB)=true by rw[show l.qB=false from(h.resolve_left g10_2).2.1];rfl) g10_14⟩,hw.sel [0,1,2,3,5,6,4] O qM⟩
    refine zX 5 O O (bF g10_4) O hS (zX 6 O O (bF g10_4) O hS (zX 7 O O (bF g10_4) O hS (zX 8 O O (bF g10_4) O hS (zX 9 O O (bF g10_4) O hS (zX 10 O O (bF g10_4) O hS (zX 11 O O (bF g10_4) O hS (zX 12 O O (bF g10_4) O hS (zf 13 O O (gF g10_2) (yM (bF g10_4)) hS (zf 14 O O (gF g10_2) zS hS (zX 15 O O O O hS (zX 16 O O O O hS (zX 17 O O O O hS ?_))))))))))))
    refine zX 18 O O O O hS (zX 19 O O O O hS (zX 20 O O O O hS (zX 21 O O O O hS (zX 22 O O O O hS (zX 23 O O O O hS (zX 24 O O O O hS (zX 25 O O O O hS (zX 26 O O O O hS (zX 27 O O O O hS (zf 28 O O (gF g10_2) (yM O) hS (zB 29 O (yM (gF g10_2)) hS (zT ?_))))))))))))
    exact⟨false,⟨O,O,O,O,trivial⟩,⟨fun h=>absurd h qM,fun h=>absurd (h.resolve_left g10_2).1 g10_4⟩,hw.sel [0,1,2,3,5,6,4] O qM⟩
   have hgg:=hΦ
   refine zAu O (fun c4=> ?_) (fun c4=> ?_)
   ·refine ze [0,1,2,4,5,6] O qM qN (fun w' hw hS=>zB 0 O zS hS (zB 1 O (zO O) hS (zB 2 O (zH (o:=33) O) hS (zB 3 O (zY 3 (v:=pt ob1_) O O O) hS (zB 4 O zS hS (zB 5 O (zO O) hS (zB 6 O (zH (o:=33) O) hS (zB 7 O (zY 3 (v:=pt ob1_) O O O) hS (zB 8 O (zO O) hS (zB 9 O (zH (o:=2) O) hS (zB 11 O (x1 (cs:=[Vn id,Vn r.qc]) 5 O O) hS (zq 10 12 ?_ ?_))))))))))))
    ·refine zl 10 O hw (z6 (v:= .slice none 0 0) 3 0 2 O O O O qN O (zE [0,1,2,4,5,6] O qM (fun w' hw hS=>zJ 12 O hw (zx (e:=53) (sz:=2) (vs:=[.agg #[Vn id,Vn r.qc]]) qN O O wo qM O (fun b99=>zE [0,1,2,4,5,6] O qM (fun w' hw hS=>zJ 13 O hw ?_))))))
     refine zF3 53 2 ?_
     refine zy (g:=RdyD.cells) (sz:=2) (by':=16) (fun _=>O) (l:=[]) (l':=[({id:=id,index:=r.qc}:RdyD)]) wq 8 qN O O O (fun w' hw'=>Vec.sl (Own.holds hw' 7 _ O)) qO qM O (fun v100=>zE [0,1,2,4,5,6] O qM (fun w' hw hS=>zB 14 O (zO O) hS (zB 15 O (zH (o:=2) O) hS (zJ 16 O hw ?_))))
     refine z4 [Res.ld ld l,vI yv yes,Res.row b8 44 [.slice none 0 0, .bool false, .slice none 0 0, .slice none 0 0],z7 cb ({t with now:=max t.now now}:TimD) (pt ld) a r b yv jb qe (pt ob1_),Res.nl b lv es,Res.row b10 53 [Vn id,Vn r.qc],vR (.slice (some ⟨b99,0,none⟩) 1 1) [({id:=id,index:=r.qc}:RdyD)],vR v100 [({id:=id,index:=r.qc}:RdyD)],zAt ob1_ outZ,vM (.slice none 0 0) ([]:List MsgD),sM ([]:List MsgD),vR (.slice none 0 0) ([]:List RdyD),vU (.slice none 0 0) ([]:List Nat)] (fun w' hw=>hw.qn 3 O) ?_
     refine zN (fun w' hw=>Own.qg (i:=7) O hw) (fun hc2_=> ?_)
     refine zn (cs:=(OutD.cells outZ)) 8 O O O hc2_ O (zE [0,1,2,3,4,5] O qM (fun w' hw hS=>zT ?_))
     exact⟨({t:=({t with now:=max t.now now}:TimD),r:=r,lv:=lv,es:=es,y:=some (ld,l),yv:=yv,yes:=yes}:NdD),({mv:= .slice none 0 0,qk:=[],shot:=false,rv:=v100,qw:=[({id:=id,index:=r.qc}:RdyD)],xv:= .slice none 0 0,qt:=[]}:OutD),⟨[],[⟨id,r.qc⟩],[]⟩,⟨O,O,trivial⟩,⟨by unfold zEb k8;dsimp only;rw[if_pos (hgg.1 c4)];rfl,⟨O,O⟩,O⟩,(hw.qo [8,9,10,7,12] O qM).sel [3,4,0,1,8,2] O qM⟩
    refine zl 12 O hw (zx (e:=53) (sz:=2) (vs:=[.agg #[Vn id,Vn r.qc]]) qN O O wo qM O (fun b99=>zE [0,1,2,4,5,6] O qM (fun w' hw hS=>zJ 10 O hw (z6 (v:= .slice none 0 0) 3 0 2 O O O O qN O (zE [0,1,2,4,5,6] O qM (fun w' hw hS=>zJ 13 O hw ?_))))))
    refine zF3 53 2 ?_
    refine zy (g:=RdyD.cells) (sz:=2) (by':=16) (fun _=>O) (l:=[]) (l':=[({id:=id,index:=r.qc}:RdyD)]) wq 8 qN O O O (fun w' hw'=>Vec.sl (Own.holds hw' 7 _ O)) qO qM O (fun v100=>zE [0,1,2,4,5,6] O qM (fun w' hw hS=>zB 14 O (zO O) hS (zB 15 O (zH (o:=2) O) hS (zJ 16 O hw ?_))))
    refine z4 [Res.ld ld l,vI yv yes,Res.row b8 44 [.slice none 0 0, .bool false, .slice none 0 0, .slice none 0 0],z7 cb ({t with now:=max t.now now}:TimD) (pt ld) a r b yv jb qe (pt ob1_),Res.nl b lv es,Res.row b10 53 [Vn id,Vn r.qc],vR (.slice (some ⟨b99,0,none⟩) 1 1) [({id:=id,index:=r.qc}:RdyD)],vR v100 [({id:=id,index:=r.qc}:RdyD)],zAt ob1_ outZ,vM (.slice none 0 0) ([]:List MsgD),sM ([]:List MsgD),vR (.slice none 0 0) ([]:List RdyD),vU (.slice none 0 0) ([]:List Nat)] (fun w' hw=>hw.qn 3 O) ?_
    refine zN (fun w' hw=>Own.qg (i:=7) O hw) (fun hc3_=> ?_)
    refine zn (cs:=(OutD.cells outZ)) 8 O O O hc3_ O (zE [0,1,2,3,4,5] O qM (fun w' hw hS=>zT ?_))
    exact⟨({t:=({t with now:=max t.now now}:TimD),r:=r,lv:=lv,es:=es,y:=some (ld,l),yv:=yv,yes:=yes}:NdD),({mv:= .slice none 0 0,qk:=[],shot:=false,rv:=v100,qw:=[({id:=id,index:=r.qc}:RdyD)],xv:= .slice none 0 0,qt:=[]}:OutD),⟨[],[⟨id,r.qc⟩],[]⟩,⟨O,O,trivial⟩,⟨by unfold zEb k8;dsimp only;rw[if_pos (hgg.1 c4)];rfl,⟨O,O⟩,O⟩,(hw.qo [8,9,10,7,12] O qM).sel [3,4,0,1,8,2] O qM⟩
   have hng:¬((zc b.vs (es.map EntD.toEntA)).qv [a.id]∨(lazy=true∧l.er.qB=false∧max t.now now - t.qA<(kx a.base a.rho).1)):=fun q=>by rw[hgg.2 q]at c4;cases c4
   refine yt (fun(kv':Value)=>[(0,pt cb),(8,pt b8)]) (fun(kv':Value)=>True) (fun(kv':Value)=>[z7 cb ({t with now:=max t.now now}:TimD) (pt ld) a r b yv jb qe (pt ob1_),Res.nl b lv es,Res.ld ld ({l with kv:=kv',qj:=l.qj++[({id:=id,index:=r.qc,round:=l.qd.length+1}:LookM)]}:LdD),Res.ou ob1_ outZ,vI yv yes,Res.row b8 44 [.slice none 0 0, .bool false, .slice none 0 0, .slice none 0 0]]) ?_ (fun kv' g hΦ=> ?_)
   ·refine ze [1,2,3,4,5,6] O qM qN (fun w' hw hS=>zB 0 O zS hS (zB 1 O (zO O) hS (zB 2 O (zH (o:=9) O) hS (zB 3 O (zY 3 (v:=pt ld) O O O) hS (zB 4 O zS hS (zB 5 O (zO O) hS (zB 6 O (zH (o:=9) O) hS (zB 7 O (zY 3 (v:=pt ld) O O O) hS (zB 8 O (zO O) hS (zB 9 O (zH (o:=4) O) hS (zB 11 O (x1 (cs:=[Vn id,Vn r.qc]) 5 O O) hS (zB 12 O zS hS ?_))))))))))))
    refine zB 13 O (zO O) hS (zB 14 O (zH (o:=9) O) hS (zB 15 O (zY 3 (v:=pt ld) O O O) hS (zB 16 O (zO O) hS (zB 17 O (zH (o:=2) O) hS (zq 10 18 ?_ ?_)))))
    ·refine zl 10 O hw (z6 (v:=l.kv) 0 0 4 O O O O qN O (zE [1,2,3,4,5,6] O qM (fun w' hw hS=>zJ 18 O hw (z6 (v:=l.rv) 0 0 2 O O O O qN O (zE [1,2,3,4,5,6] O qM (fun w' hw hS=>zJ 19 O hw (zp (pC 0 4 O O) O O (zE [1,2,3,4,5,6] O qM (fun w' hw hS=>zB 20 O (x7 qN O (xA V) qN) hS (zB 21 O (yr O O (xA V)) hS (zB 22 O (zA1 (cs:=[Vn id,Vn r.qc,Vn (l.qd.length+1)]) (z:=[Vn 0,Vn 0,Vn 0]) (pl:=[(0,2),(2,1)]) qN qN) hS (zJ 23 O hw ?_))))))))))))
     refine zx (e:=116) (sz:=3) (vs:=[.agg #[Vn id,Vn r.qc,Vn (l.qd.length+1)]]) qN O O wm qM O (fun b126=>zE [1,2,3,4,5,6] O qM (fun w' hw hS=>zJ 24 O hw ?_))
     refine z4 [vI yv yes,Res.row b8 44 [.slice none 0 0, .bool false, .slice none 0 0, .slice none 0 0],Res.ou ob1_ outZ,z7 cb ({t with now:=max t.now now}:TimD) (pt ld) a r b yv jb qe (pt ob1_),Res.nl b lv es,Res.row b10 53 [Vn id,Vn r.qc],vL (.slice (some ⟨b126,0,none⟩) 1 1) [({id:=id,index:=r.qc,round:=l.qd.length+1}:LookM)],yP ld l,vP l.pv l.qa,sP l.qa,vI l.av l.qf,vT l.rv l.qd,vL l.kv l.qj] (fun w' hw=>hw.qn 0 O) ?_
     refine zy (g:=LookM.cells) (sz:=3) (by':=24) (fun _=>O) (l:=l.qj) (l':=[({id:=id,index:=r.qc,round:=l.qd.length+1}:LookM)]) wn 12 qN O O O (fun w' hw'=>Vec.sl (Own.holds hw' 6 _ O)) qO qM O (fun v127=>zE [0,1,2,3,4,5] O qM (fun w' hw hS=>zB 25 O (zO O) hS (zB 26 O (zH (o:=4) O) hS (zJ 27 O hw ?_))))
     refine zN (fun w' hw=>Own.qg (i:=12) O hw) (fun hc4_=> ?_)
     refine zn (cs:=(LdD.cells l)) 7 O O O hc4_ O (zE [0,1,2,3,4,5] O qM (fun w' hw hS=>zT ?_))
     exact⟨v127,⟨O,O,trivial⟩,trivial,(hw.qo [7,8,9,10,11,12] O qM).sel [3,4,7,2,0,1] O qM⟩
    refine zl 18 O hw (z6 (v:=l.rv) 0 0 2 O O O O qN O (zE [1,2,3,4,5,6] O qM (fun w' hw hS=>zq 10 19 ?_ ?_)))
    ·refine zl 10 O hw (z6 (v:=l.kv) 0 0 4 O O O O qN O (zE [1,2,3,4,5,6] O qM (fun w' hw hS=>zJ 19 O hw (zp (pC 0 4 O O) O O (zE [1,2,3,4,5,6] O qM (fun w' hw hS=>zB 20 O (x7 qN O (xA V) qN) hS (zB 21 O (yr O O (xA V)) hS (zB 22 O (zA1 (cs:=[Vn id,Vn r.qc,Vn (l.qd.length+1)]) (z:=[Vn 0,Vn 0,Vn 0]) (pl:=[(0,2),(2,1)]) qN qN) hS (zJ 23 O hw (zx (e:=116) (sz:=3) (vs:=[.agg #[Vn id,Vn r.qc,Vn (l.qd.length+1)]]) qN O O wm qM O (fun b126=>zE [1,2,3,4,5,6] O qM (fun w' hw hS=>zJ 24 O hw ?_))))))))))))
     refine z4 [vI yv yes,Res.row b8 44 [.slice none 0 0, .bool false, .slice none 0 0, .slice none 0 0],Res.ou ob1_ outZ,z7 cb ({t with now:=max t.now now}:TimD) (pt ld) a r b yv jb qe (pt ob1_),Res.nl b lv es,Res.row b10 53 [Vn id,Vn r.qc],vL (.slice (some ⟨b126,0,none⟩) 1 1) [({id:=id,index:=r.qc,round:=l.qd.length+1}:LookM)],yP ld l,vP l.pv l.qa,sP l.qa,vI l.av l.qf,vT l.rv l.qd,vL l.kv l.qj] (fun w' hw=>hw.qn 0 O) ?_
     refine zy (g:=LookM.cells) (sz:=3) (by':=24) (fun _=>O) (l:=l.qj) (l':=[({id:=id,index:=r.qc,round:=l.qd.length+1}:LookM)]) wn 12 qN O O O (fun w' hw'=>Vec.sl (Own.holds hw' 6 _ O)) qO qM O (fun v127=>zE [0,1,2,3,4,5] O qM (fun w' hw hS=>zB 25 O (zO O) hS (zB 26 O (zH (o:=4) O) hS (zJ 27 O hw ?_))))
     refine zN (fun w' hw=>Own.qg (i:=12) O hw) (fun hc5_=> ?_)
     refine zn (cs:=(LdD.cells l)) 7 O O O hc5_ O (zE [0,1,2,3,4,5] O qM (fun w' hw hS=>zT ?_))
     exact⟨v127,⟨O,O,trivial⟩,trivial,(hw.qo [7,8,9,10,11,12] O qM).sel [3,4,7,2,0,1] O qM⟩
    refine zl 19 O hw (zp (pC 0 4 O O) O O (zE [1,2,3,4,5,6] O qM (fun w' hw hS=>zB 20 O (x7 qN O (xA V) qN) hS (zB 21 O (yr O O (xA V)) hS (zB 22 O (zA1 (cs:=[Vn id,Vn r.qc,Vn (l.qd.length+1)]) (z:=[Vn 0,Vn 0,Vn 0]) (pl:=[(0,2),(2,1)]) qN qN) hS (zq 10 23 ?_ ?_))))))
    ·refine zl 10 O hw (z6 (v:=l.kv) 0 0 4 O O O O qN O (zE [1,2,3,4,5,6] O qM (fun w' hw hS=>zJ 23 O hw (zx (e:=116) (sz:=3) (vs:=[.agg #[Vn id,Vn r.qc,Vn (l.qd.length+1)]]) qN O O wm qM O (fun b126=>zE [1,2,3,4,5,6] O qM (fun w' hw hS=>zJ 24 O hw ?_))))))
     refine z4 [vI yv yes,Res.row b8 44 [.slice none 0 0, .bool false, .slice none 0 0, .slice none 0 0],Res.ou ob1_ outZ,z7 cb ({t with now:=max t.now now}:TimD) (pt ld) a r b yv jb qe (pt ob1_),Res.nl b lv es,Res.row b10 53 [Vn id,Vn r.qc],vL (.slice (some ⟨b126,0,none⟩) 1 1) [({id:=id,index:=r.qc,round:=l.qd.length+1}:LookM)],yP ld l,vP l.pv l.qa,sP l.qa,vI l.av l.qf,vT l.rv l.qd,vL l.kv l.qj] (fun w' hw=>hw.qn 0 O) ?_
     refine zy (g:=LookM.cells) (sz:=3) (by':=24) (fun _=>O) (l:=l.qj) (l':=[({id:=id,index:=r.qc,round:=l.qd.length+1}:LookM)]) wn 12 qN O O O (fun w' hw'=>Vec.sl (Own.holds hw' 6 _ O)) qO qM O (fun v127=>zE [0,1,2,3,4,5] O qM (fun w' hw hS=>zB 25 O (zO O) hS (zB 26 O (zH (o:=4) O) hS (zJ 27 O hw ?_))))
     refine zN (fun w' hw=>Own.qg (i:=12) O hw) (fun hc6_=> ?_)
     refine zn (cs:=(LdD.cells l)) 7 O O O hc6_ O (zE [0,1,2,3,4,5] O qM (fun w' hw hS=>zT ?_))
     exact⟨v127,⟨O,O,trivial⟩,trivial,(hw.qo [7,8,9,10,11,12] O qM).sel [3,4,7,2,0,1] O qM⟩
    refine zl 23 O hw (zx (e:=116) (sz:=3) (vs:=[.agg #[Vn id,Vn r.qc,Vn (l.qd.length+1)]]) qN O O wm qM O (fun b126=>zE [1,2,3,4,5,6] O qM (fun w' hw hS=>zJ 10 O hw (z6 (v:=l.kv) 0 0 4 O O O O qN O (zE [1,2,3,4,5,6] O qM (fun w' hw hS=>zJ 24 O hw ?_))))))
    refine z4 [vI yv yes,Res.row b8 44 [.slice none 0 0, .bool false, .slice none 0 0, .slice none 0 0],Res.ou ob1_ outZ,z7 cb ({t with now:=max t.now now}:TimD) (pt ld) a r b yv jb qe (pt ob1_),Res.nl b lv es,Res.row b10 53 [Vn id,Vn r.qc],vL (.slice (some ⟨b126,0,none⟩) 1 1) [({id:=id,index:=r.qc,round:=l.qd.length+1}:LookM)],yP ld l,vP l.pv l.qa,sP l.qa,vI l.av l.qf,vT l.rv l.qd,vL l.kv l.qj] (fun w' hw=>hw.qn 0 O) ?_
    refine zy (g:=LookM.cells) (sz:=3) (by':=24) (fun _=>O) (l:=l.qj) (l':=[({id:=id,index:=r.qc,round:=l.qd.length+1}:LookM)]) wn 12 qN O O O (fun w' hw'=>Vec.sl (Own.holds hw' 6 _ O)) qO qM O (fun v127=>zE [0,1,2,3,4,5] O qM (fun w' hw hS=>zB 25 O (zO O) hS (zB 26 O (zH (o:=4) O) hS (zJ 27 O hw ?_))))
    refine zN (fun w' hw=>Own.qg (i:=12) O hw) (fun hc7_=> ?_)
    refine zn (cs:=(LdD.cells l)) 7 O O O hc7_ O (zE [0,1,2,3,4,5] O qM (fun w' hw hS=>zT ?_))
    exact⟨v127,⟨O,O,trivial⟩,trivial,(hw.qo [7,8,9,10,11,12] O qM).sel [3,4,7,2,0,1] O qM⟩
   refine zV (zD O (a_call O O (fun w' hw=>(zHF cb jb ({t with now:=max t.now now}:TimD) a r b yv qe _ _ ld ({l with kv:=kv',qj:=l.qj++[({id:=id,index:=r.qc,round:=l.qd.length+1}:LookM)]}:LdD) ob1_ outZ w' ‹_› qO qO hb.qa (Nat.zero_le _) hb.each hb.qd (hw.give [0,1,2,3] O qM)).mono ?_)))
   rintro _ w1 ⟨mv'2_,rv'3_,ms4_,rfl,hf13_1,hO⟩
   refine O6 ?_ (hw.qh [0,1,2,3] O hO)
   exact zg (fun w' hw=>⟨({t:={t with now:=max t.now now,qE:=max t.now now},r:=r,lv:=lv,es:=es,y:=some (ld,({l with kv:=kv',qj:=l.qj++[({id:=id,index:=r.qc,round:=l.qd.length+1}:LookM)],qa:=l.qa.map fun q=>(q.1,yG (es.map EntD.toEntA) q.2),rv:=rv'3_,qd:=l.qd++[max t.now now],sure:=if(zc b.vs (es.map EntD.toEntA)).qv [a.id]then l.qd.length+1 else l.sure}:LdD)),yv:=yv,yes:=yes}:NdD),({outZ with mv:=mv'2_,qk:=outZ.qk++ms4_}:OutD),⟨ms4_.map MsgD.a,[],[]⟩,⟨O,O,trivial⟩,⟨by unfold zEb k8;dsimp only;rw[if_neg hng,hf13_1];exact j2 (zIM (t2:={t with now:=max t.now now}) (l3:={l with kv:=kv',qj:=l.qj++[({id:=id,index:=r.qc,round:=l.qd.length+1}:LookM)]})),⟨O,O⟩,O⟩,hw.sel [2,3,4,0,5,1] O qM⟩)
  have hI:=hΦ
  refine zC (zD O (a_call O O (fun w' hw=>(kf cb jb n.t a n.r b (xF n.y) n.yv qe ob1_ o' w' (hw.give [0,4] O qM)).mono ?_)))
  rintro _ w1 ⟨rfl,hO⟩
  refine O9 ?_ (hw.qh [0,4] O hO)
  refine zN (fun w' hw=>Own.qg (i:=5) O hw) (fun hc8_=> ?_)
  refine zN (fun w' hw=>Own.qg (i:=7) O hw) (fun hc9_=> ?_)
  refine zN (fun w' hw=>Own.qg (i:=8) O hw) (fun hc10_=> ?_)
  refine zo 3 O O O (zF hc8_ (zF O (zF hc9_ (zF hc10_ zh)))) O (zI O (zA ?_))
  exact zU (xj (cs:=(OutD.cells o')) (v:=Vi 0) O O O qN (Own.qr (i:=3) O) (fun w' hw=>⟨n,o',x,0,O,(by unfold zAY;dsimp only;rw[if_neg c2,if_neg h3,hI.1];rfl),hI.2.1.1,hI.2.1.2,hI.2.2,hw.sel [4,0,1,2,5,6,7,8] O qM⟩))
end Go.Proofs.YtkkeknmkipkbmaaGreat
