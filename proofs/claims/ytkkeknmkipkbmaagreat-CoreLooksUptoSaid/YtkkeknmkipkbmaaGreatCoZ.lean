import Derived.Test.YtkkeknmkipkbmaaGreatCnd
set_option linter.unusedSectionVars false
set_option linter.unusedSimpArgs false
set_option linter.unusedVariables false
set_option maxRecDepth 10000
namespace Go.Proofs.YtkkeknmkipkbmaaGreat
open Go Go.Sc Go.Proofs
def zNd(es:Nat)(t:TimD)(kind:Int)(data:List UInt8):EntA:=⟨es+1,t.term,kind,min (t.now - t.qC) 1099511627776,data⟩
def zFu(a:StA)(vs0:List Int)(e:EntA)(n:NodA)(l:LdD):NodA×OutA:=
  let E:=n.E++[e]
  let c:=yY a n.t.term vs0 E l.qa n.r.qc
  zBA ({n with t:={n.t with qC:=n.t.now},r:={n.r with qc:=c},E:=E,ld:=some {l with qa:=l.qa.map fun q=>(q.1,yq E q.2)}},jR (fun p=>xM a n.t.term c l.qd.length E p false) l.qa)
def zCX(a:StA)(vs0:List Int)(to:Int)(n:NodA)(l:LdD):NodA×OutA:=
  if to=a.id∨¬((zc vs0 n.E).ok∧to∈(zc vs0 n.E).vs)then(n,⟨[],[],[]⟩)
  else if l.give≠0 then(n,⟨[],[],[]⟩)
  else match ya l.qa to with
  |none=>(n,⟨[],[],[]⟩)
  |some k=>({n with t:={n.t with gd:=n.t.now+a.base},ld:=some {l with give:=to,qB:=if y6 ({l with give:=to}:LdD) (zG l.qa k).2 n.E.length true then true else l.qB}},⟨if y6 ({l with give:=to}:LdD) (zG l.qa k).2 n.E.length true then [one a 9 (zG l.qa k).2.id n.t.term false]else [],[],[]⟩)
def zDQ(a:StA)(vs0:List Int)(to now:Int)(n0:NodA):NodA×OutA:=match n0.ld with
  |none=>(k8 now n0,⟨[],[],[]⟩)
  |some l=>zCX a vs0 to (k8 now n0) l
theorem PeerIs.there{ps:List PeerP}{id:Int}{pv:Option Addr}(h:PeerIs ps id pv)(hs:(ya ps id).isSome=true):∃ k,k<ps.length∧pv=Option.some ⟨(zG ps k).1,0,Option.none⟩∧(zG ps k).2.id=id∧ya ps id=Option.some k:=by
  rcases h with⟨_,h⟩|h
  · rw[h]at hs;cases hs
  exact h
theorem zFb{t:TimD}{n:Nat}{data:List UInt8}{kind:Int}(hl:n≤1000000)(ht:1≤t.term∧t.term≤4611686018427387904)(hd:data.length≤4096)(hn:0≤t.qC∧t.qC≤t.now)(hk:if kind=1 then data.length=0 else if kind=3 then(xN data).isSome=true else kind=2):(zNd n t kind data).ok:=by
  refine⟨⟨⟨by show 1≤n+1;omega,ht.1⟩,⟨by show n+1≤_;omega,ht.2⟩,⟨by show(0:Int)≤min _ _;omega,by show min _ (1099511627776:Int)≤_;omega⟩,hd⟩,hk⟩
theorem zId{a:StA}{vs0:List Int}{t2:TimD}{r:RolD}{lv yv:Value}{es es':List EntD}{e:EntA}{ld:Nat}{l:LdD}{yes:List Int}{x:Option LdD}{ms:List MsgD}(hE:es'.map EntD.toEntA=es.map EntD.toEntA++[e])
    (hm:ms.map MsgD.a=jR (fun p=>xM a t2.term (yY a t2.term vs0 (es'.map EntD.toEntA) l.qa r.qc) l.qd.length (es'.map EntD.toEntA) p false) l.qa):
    ((({t:={t2 with qC:=t2.now},r:={r with qc:=yY a t2.term vs0 (es'.map EntD.toEntA) l.qa r.qc},lv:=lv,es:=es',y:=some (ld,{l with qa:=l.qa.map fun q=>(q.1,yq (es'.map EntD.toEntA) q.2)}),yv:=yv,yes:=yes}:NdD).a,(⟨ms.map MsgD.a,[],[]⟩:OutA)):NodA×OutA)=zFu a vs0 e {t:=t2,r:=r,E:=es.map EntD.toEntA,ld:=x,yes:=yes} l.er:=by
  unfold zFu NdD.a LdD.er
  dsimp only
  rw[←hE,zCO,zFD,Option.map_some,zGw,hm];rfl
theorem zNx{a:StA}{to:Int}{t2:TimD}{r:RolD}{lv yv:Value}{es:List EntD}{ld j:Nat}{l:LdD}{yes:List Int}:
    ((({t:=t2,r:=r,lv:=lv,es:=es,y:=some (ld,({l with give:=to,qB:=if y6 ({l with give:=to}:LdD) (zG l.qa j).2 es.length true then true else l.qB}:LdD)),yv:=yv,yes:=yes}:NdD).a,(⟨(if y6 ({l with give:=to}:LdD) (zG l.qa j).2 es.length true then [yg a t2.term (yw 9 0 (zG l.qa j).2.id 0 0 0 0 0 false (.slice none 0 0) [])]else []).map MsgD.a,[],[]⟩:OutA)):NodA×OutA)=
    ({t:=t2,r:=r,E:=es.map EntD.toEntA,ld:=some {l.er with give:=to,qB:=if y6 ({l.er with give:=to}:LdD) (zG l.er.qa j).2 (es.map EntD.toEntA).length true then true else l.er.qB},yes:=yes},⟨if y6 ({l.er with give:=to}:LdD) (zG l.er.qa j).2 (es.map EntD.toEntA).length true then [one a 9 (zG l.er.qa j).2.id t2.term false]else [],[],[]⟩):=by
  rw[show(zG l.er.qa j).2=(zG l.qa j).2 from zDf,List.length_map]
  by_cases hp:y6 ({l with give:=to}:LdD) (zG l.qa j).2 es.length true
  · rw[if_pos hp,if_pos hp,if_pos (show y6 ({l.er with give:=to}:LdD) (zG l.qa j).2 es.length true from hp),if_pos (show y6 ({l.er with give:=to}:LdD) (zG l.qa j).2 es.length true from hp),zOW qM];rfl
  rw[if_neg hp,if_neg hp,if_neg (show ¬ y6 ({l.er with give:=to}:LdD) (zG l.qa j).2 es.length true from hp),if_neg (show ¬ y6 ({l.er with give:=to}:LdD) (zG l.qa j).2 es.length true from hp)];rfl
def zCi(a:StA)(vs0:List Int)(data:List UInt8)(n:NodA)(l:LdD):NodA×OutA:=
  if 4096<data.length then(n,⟨[],[],[]⟩)
  else if l.give≠0∨min (n.r.qc+4096) 4611686018427387904≤n.E.length then(n,⟨[],[],[]⟩)
  else zFu a vs0 (zNd n.E.length n.t 2 data) n l
def jF(a:StA)(vs0:List Int)(data:List UInt8)(now:Int)(n0:NodA):NodA×OutA:=match n0.ld with
  |none=>(k8 now n0,⟨[],[],[]⟩)
  |some l=>zCi a vs0 data (k8 now n0) l
theorem zKM{S:List Nat}(cb jb:Nat)(t:TimD)(a:StA)(r:RolD)(b:StB)(yv:Value)(qe:Nat)(lv:Value)(es:List EntD)(y:Option (Nat×LdD))(yes:List Int)(xv:Value)(data:List UInt8)(now:Int)(w:World)(hg:(LG 0 0 es).good)(hl:es.length≤100000)(hvl:b.vs.length≤12)(hcm:1≤((zc b.vs (es.map EntD.toEntA)).vs++(zc b.vs (es.map EntD.toEntA)).ls).length∧((zc b.vs (es.map EntD.toEntA)).vs++(zc b.vs (es.map EntD.toEntA)).ls).length≤12)(hH:HandOk t r y yes (LG 0 0 es).end_)(ha:a.ok)(hnw:0≤now∧now≤1000000000000000)(hcl:r.qc≤es.length)(hst:0≤t.qC∧t.qC≤t.now)(htm1:r.qp=4→1≤t.term)(hdl:data.length≤1000000000)(hin:Own w S [z7 cb t (xF y) a r b yv jb qe (.pointer none),Res.nl b lv es,Res.lo y,vI yv yes] w)(hxv:Rd w S (Res.sl xv data.length (data.map vb))):Rets Tryz.prog 14 #[pt cb,xv,Vi now] w fun u_ w'=>∃ (n:NdD) (o:OutD) (x:OutA) (at_:Nat) (e:Int),u_= .tuple #[Vn at_, .agg (OutD.cells o).toArray,Vi e]∧(n.a,x)=jF a b.vs data now {t:=t,r:=r,E:=es.map EntD.toEntA,ld:=y.map fun q=>q.2.er,yes:=yes}∧o.qk.map MsgD.a=x.ms∧o.qw=x.qw∧o.qt=x.qt∧Own w S [z7 cb n.t (xF n.y) a n.r b n.yv jb qe (.pointer none),Res.nl b n.lv n.es,Res.lo n.y,vI n.yv n.yes,vM o.mv o.qk,sM o.qk,vR o.rv o.qw,vU o.xv o.qt] w':=by
  have hHt:=hH.htm
  have hHn:=hH.hn
  have hlb:=(LG.le hg).1
  refine zW Tryz.func14 O Tryz.ntmps14 hin ?_
  refine zC (zI O (yC (v:= .agg #[.slice none 0 0, .bool false, .slice none 0 0, .slice none 0 0]) qN O (fun b7=>zI O (zA (zP (zC (zD O (xf qN O O O (zA (xx O (zQ (zC ?_))))))))))))
  refine zD O (zD O (zD O (zb O O (zK (o:=32) O O (zM 0 (v:=Vn qe) O O O O (a_call O O (fun w' hw=>(zAd cb jb t a r b (xF y) yv (.pointer none) qe now qe w' (hw.give [0] O qM)).mono ?_)))))))
  rintro _ w1 ⟨ob1_,rfl,hO⟩
  refine O6 ?_ (hw.qh [0] O hO)
  refine zA (zC (zD O (zb O O (zK (o:=29) O O (zM 4 (v:=pt b.lb) O O O O (a_call O O (fun w' hw=>(kV b.lb 0 0 lv es w' qP qO (hw.qF 0 0 O O) (hw.qH 0 1 O O) (EntD.rd.qF 0 2 O O hw)).mono ?_)))))))
  rintro _ w1 ⟨rfl,hO⟩
  refine O6 ?_ (hw.qi hO)
  refine zD O (yA (vs:=[Vn (0+es.length),Vn ((LG 0 0 es).end_)]) O O O (yA (vs:=[Vn (0+es.length),Vn ((LG 0 0 es).end_)]) O O O (zI O (zI O (zA (zP (zZ (zC (zD O (zb O O (zK (o:=21) O O (zM 4 (v:=Vi r.qp) O O O O ?_))))))))))))
  refine xn O O O (zI O (zA (za O (fun c2=> ?_) (fun c2=> ?_))))
  ·refine zC (zD O (a_call O O (fun w' hw=>(kf cb jb ({t with now:=max t.now now}:TimD) a r b (xF y) yv qe ob1_ outZ w' (hw.give [4,5] O qM)).mono ?_)))
   rintro _ w1 ⟨rfl,hO⟩
   refine O9 ?_ (hw.qh [4,5] O hO)
   refine zI O (zo 3 O O O (xO O) O (zI O (zA ?_)))
   exact zU (zCY (cs:=(OutD.cells outZ)) (v0:=Vn 0) (v2:=Vi 14) O O O O qN (Own.qr (i:=3) O) (fun w' hw=>⟨({t:=({t with now:=max t.now now}:TimD),r:=r,lv:=lv,es:=es,y:=y,yv:=yv,yes:=yes}:NdD),outZ,⟨[],[],[]⟩,0,14,O,(by obtain rfl:=zCl hH.hro c2;rfl),O,O,O,hw.sel [4,0,1,2,5,6,7,8] O qM⟩))
  have hr4:=Decidable.not_not.1 c2
  obtain⟨⟨ld,l⟩,rfl⟩:=Option.isSome_iff_exists.1 (hH.hro.1 hr4)
  have hb:l.bd:=hH.hld _ rfl
  refine zC (zD O (zp (pR hxv) O O (yx O O O (zI O (zA (za O (fun c3=> ?_) (fun c3=> ?_)))))))
  ·refine zC (zD O (a_call O O (fun w' hw=>(kf cb jb ({t with now:=max t.now now}:TimD) a r b (pt ld) yv qe ob1_ outZ w' (hw.give [4,5] O qM)).mono ?_)))
   rintro _ w1 ⟨rfl,hO⟩
   refine O9 ?_ (hw.qh [4,5] O hO)
   refine zI O (zo 3 O O O (xO O) O (zI O (zA ?_)))
   exact zU (zCY (cs:=(OutD.cells outZ)) (v0:=Vn 0) (v2:=Vi 7) O O O O qN (Own.qr (i:=3) O) (fun w' hw=>⟨({t:=({t with now:=max t.now now}:TimD),r:=r,lv:=lv,es:=es,y:=some (ld,l),yv:=yv,yes:=yes}:NdD),outZ,⟨[],[],[]⟩,0,7,O,(by show _=zCi a b.vs data (k8 now {t:=t,r:=r,E:=es.map EntD.toEntA,ld:=some l.er,yes:=yes}) l.er;unfold zCi k8;dsimp only;rw[if_pos (show 4096<data.length by omega)];rfl),O,O,O,hw.sel [4,0,1,2,5,6,7,8] O qM⟩))
  refine zC (zD O (zb O O (zK (o:=9) O O (zM 4 (v:=pt ld) O O O O (zb O O (zK (o:=5) O O (z6 (v:=Vi l.give) 1 0 5 O O O O qN O (xn O O O (zD O (yj (q:=l.give≠0) 8 8 [61,60,59,58,57,56,55,54] (((min (r.qc+4096) 4611686018427387904:Nat):Int)≤((0+es.length:Nat):Int)) O O O O O O trivial O (fun h9_8=> ?_) (fun g9_17=> ?_)))))))))))
  ·refine zR O (gF h9_8) (zD O (zR O (gF h9_8) (zD O (zR O (gF h9_8) (zb O O (zR O (gF h9_8) (zK (o:=23) O O (zR O (gF h9_8) (zM 4 (v:=Vn r.qc) O O O O (zR O (gF h9_8) (zt O O (xA V) O (zR O (gF h9_8) ?_))))))))))))
   refine zOe (c:=((min (r.qc+4096) 4611686018427387904:Nat):Int)) O O (zNc _ _) O (zR O (gF h9_8) (kK O O O ?_))
   exact yN O (fun _ hw=>hw)
  refine zI O (zA (za O (fun c4=> ?_) (fun c4=> ?_)))
  ·have hc4:l.er.give≠0∨min (r.qc+4096) 4611686018427387904≤(es.map EntD.toEntA).length:=by rw[List.length_map];rcases c4 with h|h;exact .inl h;exact .inr (by have h2:=Int.ofNat_le.1 h;rwa [Nat.zero_add]at h2)
   refine zC (zD O (a_call O O (fun w' hw=>(kf cb jb ({t with now:=max t.now now}:TimD) a r b (pt ld) yv qe ob1_ outZ w' (hw.give [4,5] O qM)).mono ?_)))
   rintro _ w1 ⟨rfl,hO⟩
   refine O9 ?_ (hw.qh [4,5] O hO)
   refine zI O (zo 3 O O O (xO O) O (zI O (zA ?_)))
   exact zU (zCY (cs:=(OutD.cells outZ)) (v0:=Vn 0) (v2:=Vi 15) O O O O qN (Own.qr (i:=3) O) (fun w' hw=>⟨({t:=({t with now:=max t.now now}:TimD),r:=r,lv:=lv,es:=es,y:=some (ld,l),yv:=yv,yes:=yes}:NdD),outZ,⟨[],[],[]⟩,0,15,O,(by show _=zCi a b.vs data (k8 now {t:=t,r:=r,E:=es.map EntD.toEntA,ld:=some l.er,yes:=yes}) l.er;unfold zCi k8;dsimp only;rw[if_neg (show ¬ 4096<data.length by omega),if_pos hc4];rfl),O,O,O,hw.sel [4,0,1,2,5,6,7,8] O qM⟩))
  have hc4:¬(l.er.give≠0∨min (r.qc+4096) 4611686018427387904≤(es.map EntD.toEntA).length):=by rw[List.length_map];exact fun q=>c4 (by rcases q with h|h;exact .inl h;exact .inr (Int.ofNat_le.2 (by rw[Nat.zero_add];exact h)))
  refine zQ (zC (zD O (zD O (a_call O O (fun w' hw=>(zB1 xv data w' qP (hw.rd0 hxv)).mono ?_)))))
  rintro r2_ w1 ⟨_,rfl,hO⟩
  refine O7 ?_ (hw.qi hO)
  refine a_call O O (fun w' hw=>(zHz cb jb ({t with now:=max t.now now}:TimD) a r b (pt ld) yv (pt ob1_) qe _ _ 2 r2_ data w' ‹_› qO qO (by show 0≤max t.now now∧max t.now now≤_;omega) qP hdl qP (hw.give [4,0] O qM) (hw.rdVec 6 O [4,0] O O)).mono ?_)
  rintro _ w1 ⟨lv'3_,es'4_,rfl,hf11_3,hO⟩
  obtain⟨hg2,hE2⟩:=zG1 hg (zFb (t:={t with now:=max t.now now}) (n:=es.length) (data:=data) (kind:=2) V ⟨htm1 hr4,hHt.2⟩ V ⟨hst.1,by show t.qC≤max t.now now;omega⟩ rfl) rfl hH.hen hf11_3
  have hcf:zc b.vs (es'4_.map EntD.toEntA)=zc b.vs (es.map EntD.toEntA):=by rw[hE2];exact zAc hg.fol (by show(2:Int)≠3;decide)
  have hl2:es'4_.length=es.length+1:=by have h:=congrArg List.length hE2;rw[List.length_map,List.length_append,List.length_map]at h;exact h
  refine O7 ?_ (hw.qh [4,0] O hO)
  refine zI O (zA (zC (zD O (a_call O O (fun w' hw=>(zC0 cb jb ({t with now:=max t.now now,qC:=max t.now now}:TimD) a r b yv (pt ob1_) qe lv'3_ es'4_ ld _ w' hg2 V qO (by have:=hb.qa;omega) (by rw[hcf];rw[List.length_append]at hcm;omega) (fun p hp=>(hb.each p hp).qy) (hw.give [5,6,0] O qM)).mono ?_)))))
  rintro _ w1 ⟨rfl,hO⟩
  refine O7 ?_ (hw.qh [5,6,0] O hO)
  refine zA (jl (fun(n:NdD) (o':OutD) (x:OutA)=>[(0,pt cb),(7,pt b7),(11,Vn (es.length+1))]) (fun(n:NdD) (o':OutD) (x:OutA)=>(n.a,x)=jF a b.vs data now {t:=t,r:=r,E:=es.map EntD.toEntA,ld:=some l.er,yes:=yes}∧(o'.qk.map MsgD.a=x.ms∧o'.qw=x.qw)∧o'.qt=x.qt) (fun(n:NdD) (o':OutD) (x:OutA)=>[z7 cb n.t (xF n.y) a n.r b n.yv jb qe (pt ob1_),Res.nl b n.lv n.es,Res.lo n.y,vI n.yv n.yes,Res.ou ob1_ o',Res.row b7 44 [.slice none 0 0, .bool false, .slice none 0 0, .slice none 0 0]]) ?_ (fun n o' x g hΦ=> ?_))
  ·refine zV (zD O (a_call O O (fun w' hw=>(zEZ cb jb ({t with now:=max t.now now,qC:=max t.now now}:TimD) a ({r with qc:=yY a ({t with now:=max t.now now,qC:=max t.now now}:TimD).term b.vs (es'4_.map EntD.toEntA) l.qa r.qc}:RolD) b yv qe lv'3_ es'4_ ld _ ob1_ outZ w' hg2 V qO hb.qa (Nat.zero_le _) hb.each (by have:=hb.qd;omega) (hw.give [4,5,6,2] O qM)).mono ?_)))
   rintro _ w1 ⟨mv'5_,ms6_,rfl,hf13_1,hO⟩
   refine O7 ?_ (hw.qh [4,5,6,2] O hO)
   exact zg (fun w' hw=>⟨({t:=({t with now:=max t.now now,qC:=max t.now now}:TimD),r:=({r with qc:=yY a t.term b.vs (es'4_.map EntD.toEntA) l.qa r.qc}:RolD),lv:=lv'3_,es:=es'4_,y:=some (ld,({l with qa:=l.qa.map fun q=>(q.1,yq (es'4_.map EntD.toEntA) q.2)}:LdD)),yv:=yv,yes:=yes}:NdD),({outZ with mv:=mv'5_,qk:=outZ.qk++ms6_}:OutD),⟨ms6_.map MsgD.a,[],[]⟩,⟨O,O,O,trivial⟩,⟨by show _=zCi a b.vs data (k8 now {t:=t,r:=r,E:=es.map EntD.toEntA,ld:=some l.er,yes:=yes}) l.er;unfold zCi k8;dsimp only;rw[if_neg (show ¬ 4096<data.length by omega),if_neg hc4,List.length_map];exact zId (t2:={t with now:=max t.now now}) hE2 hf13_1,⟨O,O⟩,O⟩,hw.sel [3,4,5,0,6,1] O qM⟩)
  have hI:=hΦ
  refine zC (zD O (zD O (a_call O O (fun w' hw=>(kf cb jb n.t a n.r b (xF n.y) n.yv qe ob1_ o' w' (hw.give [0,4] O qM)).mono ?_))))
  rintro _ w1 ⟨rfl,hO⟩
  refine O9 ?_ (hw.qh [0,4] O hO)
  refine zI O ?_
  refine zN (fun w' hw=>Own.qg (i:=5) O hw) (fun hc1_=> ?_)
  refine zN (fun w' hw=>Own.qg (i:=7) O hw) (fun hc2_=> ?_)
  refine zN (fun w' hw=>Own.qg (i:=8) O hw) (fun hc3_=> ?_)
  refine zo 3 O O O (zF hc1_ (zF O (zF hc2_ (zF hc3_ zh)))) O (zI O (zA ?_))
  exact zU (zCY (cs:=(OutD.cells o')) (v0:=Vn (es.length+1)) (v2:=Vi 0) O O O O qN (Own.qr (i:=3) O) (fun w' hw=>⟨n,o',x,es.length+1,0,O,hI.1,hI.2.1.1,hI.2.1.2,hI.2.2,hw.sel [4,0,1,2,5,6,7,8] O qM⟩))
theorem zPA{S:List Nat}(cb jb:Nat)(t:TimD)(a:StA)(r:RolD)(b:StB)(yv:Value)(qe:Nat)(lv:Value)(es:List EntD)(y:Option (Nat×LdD))(yes:List Int)(to:Int)(now:Int)(w:World)(hg:(LG 0 0 es).good)(hl:es.length≤100000)(hvl:b.vs.length≤12)(hcm:1≤((zc b.vs (es.map EntD.toEntA)).vs++(zc b.vs (es.map EntD.toEntA)).ls).length∧((zc b.vs (es.map EntD.toEntA)).vs++(zc b.vs (es.map EntD.toEntA)).ls).length≤12)(hH:HandOk t r y yes (LG 0 0 es).end_)(ha:a.ok)(hnw:0≤now∧now≤1000000000000000)(hpm:∀ q,y=some q→∀ v∈(zc b.vs (es.map EntD.toEntA)).vs,v≠a.id→(ya q.2.qa v).isSome=true)(hin:Own w S [z7 cb t (xF y) a r b yv jb qe (.pointer none),Res.nl b lv es,Res.lo y,vI yv yes] w):Rets Tryz.prog 53 #[pt cb,Vi to,Vi now] w fun u_ w'=>∃ (n:NdD) (o:OutD) (x:OutA) (e:Int),u_= .tuple #[.agg (OutD.cells o).toArray,Vi e]∧(n.a,x)=zDQ a b.vs to now {t:=t,r:=r,E:=es.map EntD.toEntA,ld:=y.map fun q=>q.2.er,yes:=yes}∧o.qk.map MsgD.a=x.ms∧o.qw=x.qw∧o.qt=x.qt∧Own w S [z7 cb n.t (xF n.y) a n.r b n.yv jb qe (.pointer none),Res.nl b n.lv n.es,Res.lo n.y,vI n.yv n.yes,vM o.mv o.qk,sM o.qk,vR o.rv o.qw,vU o.xv o.qt] w':=by
  have hHt:=hH.htm
  have hHn:=hH.hn
  have hlb:=(LG.le hg).1
  refine zW Tryz.func53 O Tryz.ntmps53 hin ?_
  refine zC (yC (v:= .agg #[.slice none 0 0, .bool false, .slice none 0 0, .slice none 0 0]) qN O (fun b6=>zI O (zA (zP (zC (zD O (xf qN O O O (zA (xx O (zQ (zC (zD O ?_))))))))))))
  refine zD O (zD O (zb O O (zK (o:=32) O O (zM 0 (v:=Vn qe) O O O O (a_call O O (fun w' hw=>(zAd cb jb t a r b (xF y) yv (.pointer none) qe now qe w' (hw.give [0] O qM)).mono ?_))))))
  rintro _ w1 ⟨ob1_,rfl,hO⟩
  refine O6 ?_ (hw.qh [0] O hO)
  refine zA (zP (zZ (zC (zD O (zb O O (zK (o:=21) O O (zM 4 (v:=Vi r.qp) O O O O (xn O O O (zI O (zA (za O (fun c2=> ?_) (fun c2=> ?_))))))))))))
  ·refine zC (zD O (a_call O O (fun w' hw=>(kf cb jb ({t with now:=max t.now now}:TimD) a r b (xF y) yv qe ob1_ outZ w' (hw.give [4,5] O qM)).mono ?_)))
   rintro _ w1 ⟨rfl,hO⟩
   refine O9 ?_ (hw.qh [4,5] O hO)
   refine zo 3 O O O (xO O) O (zI O (zA ?_))
   exact zU (xj (cs:=(OutD.cells outZ)) (v:=Vi 14) O O O qN (Own.qr (i:=3) O) (fun w' hw=>⟨({t:=({t with now:=max t.now now}:TimD),r:=r,lv:=lv,es:=es,y:=y,yv:=yv,yes:=yes}:NdD),outZ,⟨[],[],[]⟩,14,O,(by obtain rfl:=zCl hH.hro c2;rfl),O,O,O,hw.sel [4,0,1,2,5,6,7,8] O qM⟩))
  have hr4:=Decidable.not_not.1 c2
  obtain⟨⟨ld,l⟩,rfl⟩:=Option.isSome_iff_exists.1 (hH.hro.1 hr4)
  have hb:l.bd:=hH.hld _ rfl
  have hbp:=hb.qa
  have hbb:=ha.base
  refine zC (zD O (zD O (zb O O (zK (o:=10) O O (zM 4 (v:=Vi a.id) O O O O (yR O O O (zD O (yj (q:=to=a.id) 5 6 [38,37,36,35,34] (¬((zc b.vs (es.map EntD.toEntA)).ok∧to∈(zc b.vs (es.map EntD.toEntA)).vs)) O O O O O O trivial O (fun h6_6=> ?_) (fun g6_12=> ?_)))))))))
  ·refine zR O (gF h6_6) (zD O (zR O (gF h6_6) (a_call O O (fun w' hw=>(xq cb jb ({t with now:=max t.now now}:TimD) a r b (pt ld) yv (pt ob1_) qe _ _ w' ‹_› qO qO (hw.give [4,0] O qM)).mono ?_))))
   rintro _ w1 ⟨cv2_,cw3_,F4_,rfl,hf6_8,hO⟩
   have hFl:F4_.vs.length≤1000∧F4_.ls.length≤1000:=by rw[hf6_8];exact yi V
   refine O8 ?_ (hw.qh [4,0] O hO)
   refine zR O (gF h6_6) (zD O (zR O (gF h6_6) (a_call O O (fun w' hw=>(zBY ({vv:=cv2_,vs:=F4_.vs,lv:=cw3_,ls:=F4_.ls}:ConfD) to w' qP ⟨(hw.qq 6 O),(hw.qq 7 O)⟩).mono ?_))))
   rintro _ w1 ⟨rfl,hO⟩
   refine O8 ?_ (hw.qi hO)
   refine zR O (gF h6_6) (xB (q:=({vv:=cv2_,vs:=F4_.vs,lv:=cw3_,ls:=F4_.ls}:ConfD).ok∧to∈({vv:=cv2_,vs:=F4_.vs,lv:=cw3_,ls:=F4_.ls}:ConfD).vs) O O ?_)
   exact yN (show Value.bool (decide _)=Value.bool (decide _)by congr 1;rw[decide_eq_decide,←hf6_8];exact Iff.rfl) (fun _ hw=>hw.sel [5,0,1,2,4,3] O qM)
  refine zI O (zA (za O (fun c3=> ?_) (fun c3=> ?_)))
  ·have hc3:to=a.id∨¬((zc b.vs (es.map EntD.toEntA)).ok∧to∈(zc b.vs (es.map EntD.toEntA)).vs):=c3
   refine zC (zD O (a_call O O (fun w' hw=>(kf cb jb ({t with now:=max t.now now}:TimD) a r b (pt ld) yv qe ob1_ outZ w' (hw.give [4,5] O qM)).mono ?_)))
   rintro _ w1 ⟨rfl,hO⟩
   refine O9 ?_ (hw.qh [4,5] O hO)
   refine zo 3 O O O (xO O) O (zI O (zA ?_))
   exact zU (xj (cs:=(OutD.cells outZ)) (v:=Vi 8) O O O qN (Own.qr (i:=3) O) (fun w' hw=>⟨({t:=({t with now:=max t.now now}:TimD),r:=r,lv:=lv,es:=es,y:=some (ld,l),yv:=yv,yes:=yes}:NdD),outZ,⟨[],[],[]⟩,8,O,(by show _=zCX a b.vs to (k8 now {t:=t,r:=r,E:=es.map EntD.toEntA,ld:=some l.er,yes:=yes}) l.er;unfold zCX k8;dsimp only;rw[if_pos hc3];rfl),O,O,O,hw.sel [4,0,1,2,5,6,7,8] O qM⟩))
  have hc3:¬(to=a.id∨¬((zc b.vs (es.map EntD.toEntA)).ok∧to∈(zc b.vs (es.map EntD.toEntA)).vs)):=c3
  have hp3:=hpm _ rfl to (Decidable.byContradiction fun q=>hc3 (.inr fun z=>q z.2)) fun q=>hc3 (.inl q)
  refine zC (zD O (zb O O (zK (o:=9) O O (zM 4 (v:=pt ld) O O O O (zb O O (zK (o:=5) O O (z6 (v:=Vi l.give) 1 0 5 O O O O qN O (xn O O O (zI O (zA (za O (fun c4=> ?_) (fun c4=> ?_))))))))))))
  ·refine zC (zD O (a_call O O (fun w' hw=>(kf cb jb ({t with now:=max t.now now}:TimD) a r b (pt ld) yv qe ob1_ outZ w' (hw.give [4,5] O qM)).mono ?_)))
   rintro _ w1 ⟨rfl,hO⟩
   refine O9 ?_ (hw.qh [4,5] O hO)
   refine zo 3 O O O (xO O) O (zI O (zA ?_))
   exact zU (xj (cs:=(OutD.cells outZ)) (v:=Vi 15) O O O qN (Own.qr (i:=3) O) (fun w' hw=>⟨({t:=({t with now:=max t.now now}:TimD),r:=r,lv:=lv,es:=es,y:=some (ld,l),yv:=yv,yes:=yes}:NdD),outZ,⟨[],[],[]⟩,15,O,(by show _=zCX a b.vs to (k8 now {t:=t,r:=r,E:=es.map EntD.toEntA,ld:=some l.er,yes:=yes}) l.er;unfold zCX k8;dsimp only;rw[if_neg hc3,if_pos (show l.er.give≠0 from c4)];rfl),O,O,O,hw.sel [4,0,1,2,5,6,7,8] O qM⟩))
  refine zQ (zBD ([(0,pt cb),(1,Vi to),(6,pt b6)]) (True) ([Res.nl b lv es,vI yv yes,Res.row b6 44 [.slice none 0 0, .bool false, .slice none 0 0, .slice none 0 0],z7 cb ({t with now:=max t.now now,gd:=(max t.now now)+a.base}:TimD) (pt ld) a r b yv jb qe (pt ob1_),Res.ou ob1_ outZ,yP ld ({l with give:=to}:LdD),vP l.pv l.qa,sP l.qa,vI l.av l.qf,vT l.rv l.qd,vL l.kv l.qj]) ?_ (fun g hΦ=> ?_))
  ·refine ze [0,2,3,5] O qM qN (fun w' hw hS=>zB 0 O zS hS (zB 1 O (zO O) hS (zB 2 O (zH (o:=9) O) hS (zB 4 O zS hS (zB 5 O zS hS (zB 6 O zS hS (zB 7 O (zO O) hS (zB 8 O (zH (o:=2) O) hS (zB 9 O (zH (o:=0) O) hS (zB 11 O zS hS (zB 12 O (zO O) hS (zB 13 O (zH (o:=11) O) hS ?_))))))))))))
   refine zB 14 O (zH (o:=4) O) hS (zIK (i:=3) (j:=10) (k:=15) qN ?_ ?_ ?_)
   ·refine zl 3 O hw (zM 4 (v:=pt ld) O O O O (zE [0,2,3,5] O qM (fun w' hw hS=>zq 10 15 ?_ ?_)))
    ·refine zl 10 O hw (zM 4 (v:=Vi (max t.now now)) O O O O (zE [0,2,3,5] O qM (fun w' hw hS=>zJ 15 O hw (zM 4 (v:=Vi a.base) O O O O (zE [0,2,3,5] O qM (fun w' hw hS=>zB 16 O (yr O O (zr V)) hS (zB 17 O (zO O) hS (zB 18 O (zH (o:=5) O) hS (zJ 19 O hw ?_)))))))))
     refine z4 [Res.nl b lv es,vI yv yes,Res.row b6 44 [.slice none 0 0, .bool false, .slice none 0 0, .slice none 0 0],z7 cb ({t with now:=max t.now now}:TimD) (pt ld) a r b yv jb qe (pt ob1_),Res.ou ob1_ outZ,yP ld l,vP l.pv l.qa,sP l.qa,vI l.av l.qf,vT l.rv l.qd,vL l.kv l.qj] (fun w' hw=>hw.qn 1 O) ?_
     refine zn (cs:=(LdD.cells l)) 5 O O O O O (zE [0,1,2,4] O qM (fun w' hw hS=>zB 20 O (zO O) hS (zB 21 O (zH (o:=2) O) hS (zB 22 O (zH (o:=5) O) hS (zJ 23 O hw (zn 3 O O O O O (zE [0,1,2,4] O qM (fun w' hw hS=>zT ?_))))))))
     exact⟨⟨O,O,O,trivial⟩,trivial,hw⟩
    refine zl 15 O hw (zM 4 (v:=Vi a.base) O O O O (zE [0,2,3,5] O qM (fun w' hw hS=>zJ 10 O hw (zM 4 (v:=Vi (max t.now now)) O O O O (zE [0,2,3,5] O qM (fun w' hw hS=>zB 16 O (yr O O (zr V)) hS (zB 17 O (zO O) hS (zB 18 O (zH (o:=5) O) hS (zJ 19 O hw ?_)))))))))
    refine z4 [Res.nl b lv es,vI yv yes,Res.row b6 44 [.slice none 0 0, .bool false, .slice none 0 0, .slice none 0 0],z7 cb ({t with now:=max t.now now}:TimD) (pt ld) a r b yv jb qe (pt ob1_),Res.ou ob1_ outZ,yP ld l,vP l.pv l.qa,sP l.qa,vI l.av l.qf,vT l.rv l.qd,vL l.kv l.qj] (fun w' hw=>hw.qn 1 O) ?_
    refine zn (cs:=(LdD.cells l)) 5 O O O O O (zE [0,1,2,4] O qM (fun w' hw hS=>zB 20 O (zO O) hS (zB 21 O (zH (o:=2) O) hS (zB 22 O (zH (o:=5) O) hS (zJ 23 O hw (zn 3 O O O O O (zE [0,1,2,4] O qM (fun w' hw hS=>zT ?_))))))))
    exact⟨⟨O,O,O,trivial⟩,trivial,hw⟩
   ·refine zl 10 O hw (zM 4 (v:=Vi (max t.now now)) O O O O (zE [0,2,3,5] O qM (fun w' hw hS=>zq 3 15 ?_ ?_)))
    ·refine zl 3 O hw (zM 4 (v:=pt ld) O O O O (zE [0,2,3,5] O qM (fun w' hw hS=>zJ 15 O hw (zM 4 (v:=Vi a.base) O O O O (zE [0,2,3,5] O qM (fun w' hw hS=>zB 16 O (yr O O (zr V)) hS (zB 17 O (zO O) hS (zB 18 O (zH (o:=5) O) hS (zJ 19 O hw ?_)))))))))
     refine z4 [Res.nl b lv es,vI yv yes,Res.row b6 44 [.slice none 0 0, .bool false, .slice none 0 0, .slice none 0 0],z7 cb ({t with now:=max t.now now}:TimD) (pt ld) a r b yv jb qe (pt ob1_),Res.ou ob1_ outZ,yP ld l,vP l.pv l.qa,sP l.qa,vI l.av l.qf,vT l.rv l.qd,vL l.kv l.qj] (fun w' hw=>hw.qn 1 O) ?_
     refine zn (cs:=(LdD.cells l)) 5 O O O O O (zE [0,1,2,4] O qM (fun w' hw hS=>zB 20 O (zO O) hS (zB 21 O (zH (o:=2) O) hS (zB 22 O (zH (o:=5) O) hS (zJ 23 O hw (zn 3 O O O O O (zE [0,1,2,4] O qM (fun w' hw hS=>zT ?_))))))))
     exact⟨⟨O,O,O,trivial⟩,trivial,hw⟩
    refine zl 15 O hw (zM 4 (v:=Vi a.base) O O O O (zE [0,2,3,5] O qM (fun w' hw hS=>zB 16 O (yr O O (zr V)) hS (zJ 3 O hw (zM 4 (v:=pt ld) O O O O (zE [0,2,3,5] O qM (fun w' hw hS=>zB 17 O (zO O) hS (zB 18 O (zH (o:=5) O) hS (zJ 19 O hw ?_)))))))))
    refine z4 [Res.nl b lv es,vI yv yes,Res.row b6 44 [.slice none 0 0, .bool false, .slice none 0 0, .slice none 0 0],z7 cb ({t with now:=max t.now now}:TimD) (pt ld) a r b yv jb qe (pt ob1_),Res.ou ob1_ outZ,yP ld l,vP l.pv l.qa,sP l.qa,vI l.av l.qf,vT l.rv l.qd,vL l.kv l.qj] (fun w' hw=>hw.qn 1 O) ?_
    refine zn (cs:=(LdD.cells l)) 5 O O O O O (zE [0,1,2,4] O qM (fun w' hw hS=>zB 20 O (zO O) hS (zB 21 O (zH (o:=2) O) hS (zB 22 O (zH (o:=5) O) hS (zJ 23 O hw (zn 3 O O O O O (zE [0,1,2,4] O qM (fun w' hw hS=>zT ?_))))))))
    exact⟨⟨O,O,O,trivial⟩,trivial,hw⟩
   refine zl 15 O hw (zM 4 (v:=Vi a.base) O O O O (zE [0,2,3,5] O qM (fun w' hw hS=>zq 3 10 ?_ ?_)))
   ·refine zl 3 O hw (zM 4 (v:=pt ld) O O O O (zE [0,2,3,5] O qM (fun w' hw hS=>zJ 10 O hw (zM 4 (v:=Vi (max t.now now)) O O O O (zE [0,2,3,5] O qM (fun w' hw hS=>zB 16 O (yr O O (zr V)) hS (zB 17 O (zO O) hS (zB 18 O (zH (o:=5) O) hS (zJ 19 O hw ?_)))))))))
    refine z4 [Res.nl b lv es,vI yv yes,Res.row b6 44 [.slice none 0 0, .bool false, .slice none 0 0, .slice none 0 0],z7 cb ({t with now:=max t.now now}:TimD) (pt ld) a r b yv jb qe (pt ob1_),Res.ou ob1_ outZ,yP ld l,vP l.pv l.qa,sP l.qa,vI l.av l.qf,vT l.rv l.qd,vL l.kv l.qj] (fun w' hw=>hw.qn 1 O) ?_
    refine zn (cs:=(LdD.cells l)) 5 O O O O O (zE [0,1,2,4] O qM (fun w' hw hS=>zB 20 O (zO O) hS (zB 21 O (zH (o:=2) O) hS (zB 22 O (zH (o:=5) O) hS (zJ 23 O hw (zn 3 O O O O O (zE [0,1,2,4] O qM (fun w' hw hS=>zT ?_))))))))
    exact⟨⟨O,O,O,trivial⟩,trivial,hw⟩
   refine zl 10 O hw (zM 4 (v:=Vi (max t.now now)) O O O O (zE [0,2,3,5] O qM (fun w' hw hS=>zB 16 O (yr O O (zr V)) hS (zJ 3 O hw (zM 4 (v:=pt ld) O O O O (zE [0,2,3,5] O qM (fun w' hw hS=>zB 17 O (zO O) hS (zB 18 O (zH (o:=5) O) hS (zJ 19 O hw ?_)))))))))
   refine z4 [Res.nl b lv es,vI yv yes,Res.row b6 44 [.slice none 0 0, .bool false, .slice none 0 0, .slice none 0 0],z7 cb ({t with now:=max t.now now}:TimD) (pt ld) a r b yv jb qe (pt ob1_),Res.ou ob1_ outZ,yP ld l,vP l.pv l.qa,sP l.qa,vI l.av l.qf,vT l.rv l.qd,vL l.kv l.qj] (fun w' hw=>hw.qn 1 O) ?_
   refine zn (cs:=(LdD.cells l)) 5 O O O O O (zE [0,1,2,4] O qM (fun w' hw hS=>zB 20 O (zO O) hS (zB 21 O (zH (o:=2) O) hS (zB 22 O (zH (o:=5) O) hS (zJ 23 O hw (zn 3 O O O O O (zE [0,1,2,4] O qM (fun w' hw hS=>zT ?_))))))))
   exact⟨⟨O,O,O,trivial⟩,trivial,hw⟩
  refine jl (fun(n:NdD) (o':OutD) (x:OutA)=>[(0,pt cb),(6,pt b6)]) (fun(n:NdD) (o':OutD) (x:OutA)=>(n.a,x)=zDQ a b.vs to now {t:=t,r:=r,E:=es.map EntD.toEntA,ld:=some l.er,yes:=yes}∧(o'.qk.map MsgD.a=x.ms∧o'.qw=x.qw)∧o'.qt=x.qt) (fun(n:NdD) (o':OutD) (x:OutA)=>[z7 cb n.t (xF n.y) a n.r b n.yv jb qe (pt ob1_),Res.nl b n.lv n.es,Res.lo n.y,vI n.yv n.yes,Res.ou ob1_ o',Res.row b6 44 [.slice none 0 0, .bool false, .slice none 0 0, .slice none 0 0]]) ?_ (fun n o' x g hΦ=> ?_)
  ·refine zV (zD O (zD O (zD O ?_)))
   refine z4 [Res.nl b lv es,vI yv yes,Res.row b6 44 [.slice none 0 0, .bool false, .slice none 0 0, .slice none 0 0],z7 cb ({t with now:=max t.now now,gd:=(max t.now now)+a.base}:TimD) (pt ld) a r b yv jb qe (pt ob1_),Res.ou ob1_ outZ,Res.ld ld ({l with give:=to}:LdD)] (fun w' hw=>(hw.qo [5,6,7,8,9,10] O qM)) ?_
   refine a_call O O (fun w' hw=>(zDj cb jb ({t with now:=max t.now now,gd:=(max t.now now)+a.base}:TimD) a r b yv (pt ob1_) qe ld ({l with give:=to}:LdD) to w' qP (hw.give [3,5] O qM)).mono ?_)
   rintro _ w1 ⟨pv5_,rfl,hf11_3,hO⟩
   obtain⟨j,hj,rfl,hji,hix⟩:=PeerIs.there hf11_3 hp3
   refine O6 ?_ (hw.qh [3,5] O hO)
   refine a_call O O (fun w' hw=>(zLv cb jb ({t with now:=max t.now now,gd:=(max t.now now)+a.base}:TimD) a r b yv qe _ _ ld ({l with give:=to}:LdD) ob1_ outZ j true w' ‹_› qO qO hj (Nat.zero_le _) (hw.give [4,0,5,3] O qM)).mono ?_)
   rintro _ w1 ⟨mv'6_,rfl,hO⟩
   refine O6 ?_ (hw.qh [4,0,5,3] O hO)
   exact zg (fun w' hw=>⟨({t:=({t with now:=max t.now now,gd:=max t.now now+a.base}:TimD),r:=r,lv:=lv,es:=es,y:=some (ld,({l with give:=to,qB:=if y6 ({l with give:=to}:LdD) (zG l.qa j).2 es.length true then true else l.qB}:LdD)),yv:=yv,yes:=yes}:NdD),({outZ with mv:=mv'6_,qk:=outZ.qk++(if y6 ({l with give:=to}:LdD) (zG l.qa j).2 es.length true then [yg a t.term (yw 9 0 (zG l.qa j).2.id 0 0 0 0 0 false (.slice none 0 0) [])]else [])}:OutD),⟨(if y6 ({l with give:=to}:LdD) (zG l.qa j).2 es.length true then [yg a t.term (yw 9 0 (zG l.qa j).2.id 0 0 0 0 0 false (.slice none 0 0) [])]else []).map MsgD.a,[],[]⟩,⟨O,O,trivial⟩,⟨by show _=zCX a b.vs to (k8 now {t:=t,r:=r,E:=es.map EntD.toEntA,ld:=some l.er,yes:=yes}) l.er;unfold zCX k8;dsimp only;rw[if_neg hc3,if_neg (show ¬ l.er.give≠0 from c4)];rw[show ya l.er.qa to=some j from peerIx_er.trans hix];exact zNx (t2:={t with now:=max t.now now,gd:=max t.now now+a.base}),⟨O,O⟩,O⟩,hw.sel [2,3,4,0,5,1] O qM⟩)
  have hI:=hΦ
  refine zC (zD O (a_call O O (fun w' hw=>(kf cb jb n.t a n.r b (xF n.y) n.yv qe ob1_ o' w' (hw.give [0,4] O qM)).mono ?_)))
  rintro _ w1 ⟨rfl,hO⟩
  refine O9 ?_ (hw.qh [0,4] O hO)
  refine zN (fun w' hw=>Own.qg (i:=5) O hw) (fun hc1_=> ?_)
  refine zN (fun w' hw=>Own.qg (i:=7) O hw) (fun hc2_=> ?_)
  refine zN (fun w' hw=>Own.qg (i:=8) O hw) (fun hc3_=> ?_)
  refine zo 3 O O O (zF hc1_ (zF O (zF hc2_ (zF hc3_ zh)))) O (zI O (zA ?_))
  exact zU (xj (cs:=(OutD.cells o')) (v:=Vi 0) O O O qN (Own.qr (i:=3) O) (fun w' hw=>⟨n,o',x,0,O,hI.1,hI.2.1.1,hI.2.1.2,hI.2.2,hw.sel [4,0,1,2,5,6,7,8] O qM⟩))
end Go.Proofs.YtkkeknmkipkbmaaGreat
