import Derived.Test.YtkkeknmkipkbmaaGreatCnd
set_option linter.unusedSectionVars false
set_option linter.unusedSimpArgs false
set_option linter.unusedVariables false
set_option maxRecDepth 10000
namespace Go.Proofs.YtkkeknmkipkbmaaGreat
open Go Go.Sc Go.Proofs
def zM1(es:Nat)(t:TimD)(kind:Int)(data:List UInt8):EntA:=⟨es+1,t.term,kind,min (t.now - t.qB) 1099511627776,data⟩
def zGD(a:StA)(vs0:List Int)(e:EntA)(n:NodA)(l:LdD):NodA×OutA:=
  let E:=n.E++[e]
  let c:=yU a n.t.term vs0 E l.qa n.r.qc
  zAx ({n with t:={n.t with qB:=n.t.now},r:={n.r with qc:=c},E:=E,ld:=some {l with qa:=l.qa.map fun q=>(q.1,ym E q.2)}},jK (fun p=>xF a n.t.term c l.qf.length E p false) l.qa)
def zCP(a:StA)(vs0:List Int)(to:Int)(n:NodA)(l:LdD):NodA×OutA:=
  if to=a.id∨¬((zc vs0 n.E).ok∧to∈(zc vs0 n.E).vs)then(n,⟨[],[],[]⟩)
  else if l.give≠0 then(n,⟨[],[],[]⟩)
  else match yV l.qa to with
  |none=>(n,⟨[],[],[]⟩)
  |some k=>({n with t:={n.t with gd:=n.t.now+a.base},ld:=some {l with give:=to,qC:=if y3 ({l with give:=to}:LdD) (zG l.qa k).2 n.E.length true then true else l.qC}},⟨if y3 ({l with give:=to}:LdD) (zG l.qa k).2 n.E.length true then [one a 9 (zG l.qa k).2.id n.t.term false]else [],[],[]⟩)
def zDV(a:StA)(vs0:List Int)(to now:Int)(n0:NodA):NodA×OutA:=match n0.ld with
  |none=>(jW now n0,⟨[],[],[]⟩)
  |some l=>zCP a vs0 to (jW now n0) l
theorem PeerIs.there{ps:List PeerP}{id:Int}{pv:Option Addr}(h:PeerIs ps id pv)(hs:(yV ps id).isSome=true):∃ k,k<ps.length∧pv=Option.some ⟨(zG ps k).1,0,Option.none⟩∧(zG ps k).2.id=id∧yV ps id=Option.some k:=by
  rcases h with⟨_,h⟩|h
  · rw[h]at hs;cases hs
  exact h
theorem zEk{t:TimD}{n:Nat}{data:List UInt8}{kind:Int}(hl:n≤1000000)(ht:1≤t.term∧t.term≤4611686018427387904)(hd:data.length≤4096)(hn:0≤t.qB∧t.qB≤t.now)(hk:if kind=1 then data.length=0 else if kind=3 then(xH data).isSome=true else kind=2):(zM1 n t kind data).ok:=by
  refine⟨⟨⟨by show 1≤n+1;omega,ht.1⟩,⟨by show n+1≤_;omega,ht.2⟩,⟨by show(0:Int)≤min _ _;omega,by show min _ (1099511627776:Int)≤_;omega⟩,hd⟩,hk⟩
theorem zHp{a:StA}{vs0:List Int}{t2:TimD}{r:RolD}{lv yv:Value}{es es':List EntD}{e:EntA}{ld:Nat}{l:LdD}{yes:List Int}{x:Option LdD}{ms:List MsgD}(hE:es'.map EntD.toEntA=es.map EntD.toEntA++[e])
    (hm:ms.map MsgD.a=jK (fun p=>xF a t2.term (yU a t2.term vs0 (es'.map EntD.toEntA) l.qa r.qc) l.qf.length (es'.map EntD.toEntA) p false) l.qa):
    ((({t:={t2 with qB:=t2.now},r:={r with qc:=yU a t2.term vs0 (es'.map EntD.toEntA) l.qa r.qc},lv:=lv,es:=es',y:=some (ld,{l with qa:=l.qa.map fun q=>(q.1,ym (es'.map EntD.toEntA) q.2)}),yv:=yv,yes:=yes}:NdD).a,(⟨ms.map MsgD.a,[],[]⟩:OutA)):NodA×OutA)=zGD a vs0 e {t:=t2,r:=r,E:=es.map EntD.toEntA,ld:=x,yes:=yes} l.er:=by
  unfold zGD NdD.a LdD.er
  dsimp only
  rw[←hE,zB6,zEh,Option.map_some,zGm,hm];rfl
theorem zMf{a:StA}{to:Int}{t2:TimD}{r:RolD}{lv yv:Value}{es:List EntD}{ld j:Nat}{l:LdD}{yes:List Int}:
    ((({t:=t2,r:=r,lv:=lv,es:=es,y:=some (ld,({l with give:=to,qC:=if y3 ({l with give:=to}:LdD) (zG l.qa j).2 es.length true then true else l.qC}:LdD)),yv:=yv,yes:=yes}:NdD).a,(⟨(if y3 ({l with give:=to}:LdD) (zG l.qa j).2 es.length true then [yd a t2.term (yo 9 0 (zG l.qa j).2.id 0 0 0 0 0 false (.slice none 0 0) [])]else []).map MsgD.a,[],[]⟩:OutA)):NodA×OutA)=
    ({t:=t2,r:=r,E:=es.map EntD.toEntA,ld:=some {l.er with give:=to,qC:=if y3 ({l.er with give:=to}:LdD) (zG l.er.qa j).2 (es.map EntD.toEntA).length true then true else l.er.qC},yes:=yes},⟨if y3 ({l.er with give:=to}:LdD) (zG l.er.qa j).2 (es.map EntD.toEntA).length true then [one a 9 (zG l.er.qa j).2.id t2.term false]else [],[],[]⟩):=by
  rw[show(zG l.er.qa j).2=(zG l.qa j).2 from zDS,List.length_map]
  by_cases hp:y3 ({l with give:=to}:LdD) (zG l.qa j).2 es.length true
  · rw[if_pos hp,if_pos hp,if_pos (show y3 ({l.er with give:=to}:LdD) (zG l.qa j).2 es.length true from hp),if_pos (show y3 ({l.er with give:=to}:LdD) (zG l.qa j).2 es.length true from hp),zOA qM];rfl
  rw[if_neg hp,if_neg hp,if_neg (show ¬ y3 ({l.er with give:=to}:LdD) (zG l.qa j).2 es.length true from hp),if_neg (show ¬ y3 ({l.er with give:=to}:LdD) (zG l.qa j).2 es.length true from hp)];rfl
def zCL(a:StA)(vs0:List Int)(data:List UInt8)(n:NodA)(l:LdD):NodA×OutA:=
  if 4096<data.length then(n,⟨[],[],[]⟩)
  else if l.give≠0∨min (n.r.qc+4096) 4611686018427387904≤n.E.length then(n,⟨[],[],[]⟩)
  else zGD a vs0 (zM1 n.E.length n.t 2 data) n l
def k7(a:StA)(vs0:List Int)(data:List UInt8)(now:Int)(n0:NodA):NodA×OutA:=match n0.ld with
  |none=>(jW now n0,⟨[],[],[]⟩)
  |some l=>zCL a vs0 data (jW now n0) l
theorem zJR{S:List Nat}(cb jb:Nat)(t:TimD)(a:StA)(r:RolD)(b:StB)(yv:Value)(qd:Nat)(lv:Value)(es:List EntD)(y:Option (Nat×LdD))(yes:List Int)(xv:Value)(data:List UInt8)(now:Int)(w:World)(hg:(LG 0 0 es).good)(hl:es.length≤100000)(hvl:b.vs.length≤12)(hcm:1≤((zc b.vs (es.map EntD.toEntA)).vs++(zc b.vs (es.map EntD.toEntA)).ls).length∧((zc b.vs (es.map EntD.toEntA)).vs++(zc b.vs (es.map EntD.toEntA)).ls).length≤12)(hH:HandOk t r y yes (LG 0 0 es).end_)(ha:a.ok)(hnw:0≤now∧now≤1000000000000000)(hcl:r.qc≤es.length)(hst:0≤t.qB∧t.qB≤t.now)(htm1:r.qr=4→1≤t.term)(hdl:data.length≤1000000000)(hin:Own w S [z4 cb t (xJ y) a r b yv jb qd (.pointer none),Res.nl b lv es,Res.lo y,vI yv yes] w)(hxv:Rd w S (Res.sl xv data.length (data.map vb))):Rets Tryz.prog 14 #[pt cb,xv,Vi now] w fun u_ w'=>∃ (n:NdD) (o:OutD) (x:OutA) (at_:Nat) (e:Int),u_= .tuple #[Vn at_, .agg (OutD.cells o).toArray,Vi e]∧(n.a,x)=k7 a b.vs data now {t:=t,r:=r,E:=es.map EntD.toEntA,ld:=y.map fun q=>q.2.er,yes:=yes}∧o.qj.map MsgD.a=x.ms∧o.qx=x.qx∧o.qq=x.qq∧Own w S [z4 cb n.t (xJ n.y) a n.r b n.yv jb qd (.pointer none),Res.nl b n.lv n.es,Res.lo n.y,vI n.yv n.yes,vM o.mv o.qj,sM o.qj,vR o.rv o.qx,vU o.xv o.qq] w':=by
  have hHt:=hH.htm
  have hHn:=hH.hn
  have hlb:=(LG.le hg).1
  refine zW Tryz.func14 O Tryz.ntmps14 hin ?_
  refine zB (zI O (yE (v:= .agg #[.slice none 0 0, .bool false, .slice none 0 0, .slice none 0 0]) qN O (fun b7=>zI O (zA (zN (zB (zD O (xf qN O O O (zA (xt O (zO (zB ?_))))))))))))
  refine zD O (zD O (zD O (za O O (zJ (o:=32) O O (zL 0 (v:=Vn qd) O O O O (a_call O O (fun w' hw=>(zBd cb jb t a r b (xJ y) yv (.pointer none) qd now qd w' (hw.give [0] O qM)).mono ?_)))))))
  rintro _ w1 ⟨ob1_,rfl,hO⟩
  refine O6 ?_ (hw.qg [0] O hO)
  refine zA (zB (zD O (za O O (zJ (o:=29) O O (zL 4 (v:=pt b.lb) O O O O (a_call O O (fun w' hw=>(kG b.lb 0 0 lv es w' qP qO (hw.qF 0 0 O O) (hw.qH 0 1 O O) (EntD.rd.qF 0 2 O O hw)).mono ?_)))))))
  rintro _ w1 ⟨rfl,hO⟩
  refine O6 ?_ (hw.qi hO)
  refine zD O (z8 (vs:=[Vn (0+es.length),Vn ((LG 0 0 es).end_)]) O O O (z8 (vs:=[Vn (0+es.length),Vn ((LG 0 0 es).end_)]) O O O (zI O (zI O (zA (zN (zX (zB (zD O (za O O (zJ (o:=21) O O (zL 4 (v:=Vi r.qr) O O O O ?_))))))))))))
  refine xn O O O (zI O (zA (zY O (fun c2=> ?_) (fun c2=> ?_))))
  ·refine zB (zD O (a_call O O (fun w' hw=>(jR cb jb ({t with now:=max t.now now}:TimD) a r b (xJ y) yv qd ob1_ outZ w' (hw.give [4,5] O qM)).mono ?_)))
   rintro _ w1 ⟨rfl,hO⟩
   refine O9 ?_ (hw.qg [4,5] O hO)
   refine zI O (zr 3 O O O (xQ O) O (zI O (zA ?_)))
   exact zV (zCQ (cs:=(OutD.cells outZ)) (v0:=Vn 0) (v2:=Vi 14) O O O O qN (Own.qt (i:=3) O) (fun w' hw=>⟨({t:=({t with now:=max t.now now}:TimD),r:=r,lv:=lv,es:=es,y:=y,yv:=yv,yes:=yes}:NdD),outZ,⟨[],[],[]⟩,0,14,O,(by obtain rfl:=zCR hH.hro c2;rfl),O,O,O,hw.sel [4,0,1,2,5,6,7,8] O qM⟩))
  have hr4:=Decidable.not_not.1 c2
  obtain⟨⟨ld,l⟩,rfl⟩:=Option.isSome_iff_exists.1 (hH.hro.1 hr4)
  have hb:l.bd:=hH.hld _ rfl
  refine zB (zD O (zo (pR hxv) O O (y0 O O O (zI O (zA (zY O (fun c3=> ?_) (fun c3=> ?_)))))))
  ·refine zB (zD O (a_call O O (fun w' hw=>(jR cb jb ({t with now:=max t.now now}:TimD) a r b (pt ld) yv qd ob1_ outZ w' (hw.give [4,5] O qM)).mono ?_)))
   rintro _ w1 ⟨rfl,hO⟩
   refine O9 ?_ (hw.qg [4,5] O hO)
   refine zI O (zr 3 O O O (xQ O) O (zI O (zA ?_)))
   exact zV (zCQ (cs:=(OutD.cells outZ)) (v0:=Vn 0) (v2:=Vi 7) O O O O qN (Own.qt (i:=3) O) (fun w' hw=>⟨({t:=({t with now:=max t.now now}:TimD),r:=r,lv:=lv,es:=es,y:=some (ld,l),yv:=yv,yes:=yes}:NdD),outZ,⟨[],[],[]⟩,0,7,O,(by show _=zCL a b.vs data (jW now {t:=t,r:=r,E:=es.map EntD.toEntA,ld:=some l.er,yes:=yes}) l.er;unfold zCL jW;dsimp only;rw[if_pos (show 4096<data.length by omega)];rfl),O,O,O,hw.sel [4,0,1,2,5,6,7,8] O qM⟩))
  refine zB (zD O (za O O (zJ (o:=9) O O (zL 4 (v:=pt ld) O O O O (za O O (zJ (o:=5) O O (yC (v:=Vi l.give) 1 0 5 O O O O qN O (xn O O O (zD O (yn (q:=l.give≠0) 8 8 [61,60,59,58,57,56,55,54] (((min (r.qc+4096) 4611686018427387904:Nat):Int)≤((0+es.length:Nat):Int)) O O O O O O trivial O (fun h9_8=> ?_) (fun g9_17=> ?_)))))))))))
  ·refine zR O (gF h9_8) (zD O (zR O (gF h9_8) (zD O (zR O (gF h9_8) (za O O (zR O (gF h9_8) (zJ (o:=23) O O (zR O (gF h9_8) (zL 4 (v:=Vn r.qc) O O O O (zR O (gF h9_8) (zp O O (xO V) O (zR O (gF h9_8) ?_))))))))))))
   refine zN4 (c:=((min (r.qc+4096) 4611686018427387904:Nat):Int)) O O (zNJ _ _) O (zR O (gF h9_8) (kM O O O ?_))
   exact yP O (fun _ hw=>hw)
  refine zI O (zA (zY O (fun c4=> ?_) (fun c4=> ?_)))
  ·have hc4:l.er.give≠0∨min (r.qc+4096) 4611686018427387904≤(es.map EntD.toEntA).length:=by rw[List.length_map];rcases c4 with h|h;exact .inl h;exact .inr (by have h2:=Int.ofNat_le.1 h;rwa [Nat.zero_add]at h2)
   refine zB (zD O (a_call O O (fun w' hw=>(jR cb jb ({t with now:=max t.now now}:TimD) a r b (pt ld) yv qd ob1_ outZ w' (hw.give [4,5] O qM)).mono ?_)))
   rintro _ w1 ⟨rfl,hO⟩
   refine O9 ?_ (hw.qg [4,5] O hO)
   refine zI O (zr 3 O O O (xQ O) O (zI O (zA ?_)))
   exact zV (zCQ (cs:=(OutD.cells outZ)) (v0:=Vn 0) (v2:=Vi 15) O O O O qN (Own.qt (i:=3) O) (fun w' hw=>⟨({t:=({t with now:=max t.now now}:TimD),r:=r,lv:=lv,es:=es,y:=some (ld,l),yv:=yv,yes:=yes}:NdD),outZ,⟨[],[],[]⟩,0,15,O,(by show _=zCL a b.vs data (jW now {t:=t,r:=r,E:=es.map EntD.toEntA,ld:=some l.er,yes:=yes}) l.er;unfold zCL jW;dsimp only;rw[if_neg (show ¬ 4096<data.length by omega),if_pos hc4];rfl),O,O,O,hw.sel [4,0,1,2,5,6,7,8] O qM⟩))
  have hc4:¬(l.er.give≠0∨min (r.qc+4096) 4611686018427387904≤(es.map EntD.toEntA).length):=by rw[List.length_map];exact fun q=>c4 (by rcases q with h|h;exact .inl h;exact .inr (Int.ofNat_le.2 (by rw[Nat.zero_add];exact h)))
  refine zO (zB (zD O (zD O (a_call O O (fun w' hw=>(zBT xv data w' qP (hw.rd0 hxv)).mono ?_)))))
  rintro r2_ w1 ⟨_,rfl,hO⟩
  refine O7 ?_ (hw.qi hO)
  refine a_call O O (fun w' hw=>(zHS cb jb ({t with now:=max t.now now}:TimD) a r b (pt ld) yv (pt ob1_) qd _ _ 2 r2_ data w' ‹_› qO qO (by show 0≤max t.now now∧max t.now now≤_;omega) qP hdl qP (hw.give [4,0] O qM) (hw.rdVec 6 O [4,0] O O)).mono ?_)
  rintro _ w1 ⟨lv'3_,es'4_,rfl,hf11_3,hO⟩
  obtain⟨hg2,hE2⟩:=zHY hg (zEk (t:={t with now:=max t.now now}) (n:=es.length) (data:=data) (kind:=2) V ⟨htm1 hr4,hHt.2⟩ V ⟨hst.1,by show t.qB≤max t.now now;omega⟩ rfl) rfl hH.hen hf11_3
  have hcf:zc b.vs (es'4_.map EntD.toEntA)=zc b.vs (es.map EntD.toEntA):=by rw[hE2];exact zAd hg.fol (by show(2:Int)≠3;decide)
  have hl2:es'4_.length=es.length+1:=by have h:=congrArg List.length hE2;rw[List.length_map,List.length_append,List.length_map]at h;exact h
  refine O7 ?_ (hw.qg [4,0] O hO)
  refine zI O (zA (zB (zD O (a_call O O (fun w' hw=>(zCg cb jb ({t with now:=max t.now now,qB:=max t.now now}:TimD) a r b yv (pt ob1_) qd lv'3_ es'4_ ld _ w' hg2 V qO (by have:=hb.qa;omega) (by rw[hcf];rw[List.length_append]at hcm;omega) (fun p hp=>(hb.each p hp).qy) (hw.give [5,6,0] O qM)).mono ?_)))))
  rintro _ w1 ⟨rfl,hO⟩
  refine O7 ?_ (hw.qg [5,6,0] O hO)
  refine zA (j1 (fun(n:NdD) (o':OutD) (x:OutA)=>[(0,pt cb),(7,pt b7),(11,Vn (es.length+1))]) (fun(n:NdD) (o':OutD) (x:OutA)=>(n.a,x)=k7 a b.vs data now {t:=t,r:=r,E:=es.map EntD.toEntA,ld:=some l.er,yes:=yes}∧(o'.qj.map MsgD.a=x.ms∧o'.qx=x.qx)∧o'.qq=x.qq) (fun(n:NdD) (o':OutD) (x:OutA)=>[z4 cb n.t (xJ n.y) a n.r b n.yv jb qd (pt ob1_),Res.nl b n.lv n.es,Res.lo n.y,vI n.yv n.yes,Res.ou ob1_ o',Res.row b7 44 [.slice none 0 0, .bool false, .slice none 0 0, .slice none 0 0]]) ?_ (fun n o' x g hΦ=> ?_))
  ·refine zS (zD O (a_call O O (fun w' hw=>(zEJ cb jb ({t with now:=max t.now now,qB:=max t.now now}:TimD) a ({r with qc:=yU a ({t with now:=max t.now now,qB:=max t.now now}:TimD).term b.vs (es'4_.map EntD.toEntA) l.qa r.qc}:RolD) b yv qd lv'3_ es'4_ ld _ ob1_ outZ w' hg2 V qO hb.qa (Nat.zero_le _) hb.each (by have:=hb.qf;omega) (hw.give [4,5,6,2] O qM)).mono ?_)))
   rintro _ w1 ⟨mv'5_,ms6_,rfl,hf13_1,hO⟩
   refine O7 ?_ (hw.qg [4,5,6,2] O hO)
   exact zd (fun w' hw=>⟨({t:=({t with now:=max t.now now,qB:=max t.now now}:TimD),r:=({r with qc:=yU a t.term b.vs (es'4_.map EntD.toEntA) l.qa r.qc}:RolD),lv:=lv'3_,es:=es'4_,y:=some (ld,({l with qa:=l.qa.map fun q=>(q.1,ym (es'4_.map EntD.toEntA) q.2)}:LdD)),yv:=yv,yes:=yes}:NdD),({outZ with mv:=mv'5_,qj:=outZ.qj++ms6_}:OutD),⟨ms6_.map MsgD.a,[],[]⟩,⟨O,O,O,trivial⟩,⟨by show _=zCL a b.vs data (jW now {t:=t,r:=r,E:=es.map EntD.toEntA,ld:=some l.er,yes:=yes}) l.er;unfold zCL jW;dsimp only;rw[if_neg (show ¬ 4096<data.length by omega),if_neg hc4,List.length_map];exact zHp (t2:={t with now:=max t.now now}) hE2 hf13_1,⟨O,O⟩,O⟩,hw.sel [3,4,5,0,6,1] O qM⟩)
  have hI:=hΦ
  refine zB (zD O (zD O (a_call O O (fun w' hw=>(jR cb jb n.t a n.r b (xJ n.y) n.yv qd ob1_ o' w' (hw.give [0,4] O qM)).mono ?_))))
  rintro _ w1 ⟨rfl,hO⟩
  refine O9 ?_ (hw.qg [0,4] O hO)
  refine zI O ?_
  refine zP (fun w' hw=>Own.qh (i:=5) O hw) (fun hc1_=> ?_)
  refine zP (fun w' hw=>Own.qh (i:=7) O hw) (fun hc2_=> ?_)
  refine zP (fun w' hw=>Own.qh (i:=8) O hw) (fun hc3_=> ?_)
  refine zr 3 O O O (zF hc1_ (zF O (zF hc2_ (zF hc3_ zj)))) O (zI O (zA ?_))
  exact zV (zCQ (cs:=(OutD.cells o')) (v0:=Vn (es.length+1)) (v2:=Vi 0) O O O O qN (Own.qt (i:=3) O) (fun w' hw=>⟨n,o',x,es.length+1,0,O,hI.1,hI.2.1.1,hI.2.1.2,hI.2.2,hw.sel [4,0,1,2,5,6,7,8] O qM⟩))
theorem zPY{S:List Nat}(cb jb:Nat)(t:TimD)(a:StA)(r:RolD)(b:StB)(yv:Value)(qd:Nat)(lv:Value)(es:List EntD)(y:Option (Nat×LdD))(yes:List Int)(to:Int)(now:Int)(w:World)(hg:(LG 0 0 es).good)(hl:es.length≤100000)(hvl:b.vs.length≤12)(hcm:1≤((zc b.vs (es.map EntD.toEntA)).vs++(zc b.vs (es.map EntD.toEntA)).ls).length∧((zc b.vs (es.map EntD.toEntA)).vs++(zc b.vs (es.map EntD.toEntA)).ls).length≤12)(hH:HandOk t r y yes (LG 0 0 es).end_)(ha:a.ok)(hnw:0≤now∧now≤1000000000000000)(hpm:∀ q,y=some q→∀ v∈(zc b.vs (es.map EntD.toEntA)).vs,v≠a.id→(yV q.2.qa v).isSome=true)(hin:Own w S [z4 cb t (xJ y) a r b yv jb qd (.pointer none),Res.nl b lv es,Res.lo y,vI yv yes] w):Rets Tryz.prog 53 #[pt cb,Vi to,Vi now] w fun u_ w'=>∃ (n:NdD) (o:OutD) (x:OutA) (e:Int),u_= .tuple #[.agg (OutD.cells o).toArray,Vi e]∧(n.a,x)=zDV a b.vs to now {t:=t,r:=r,E:=es.map EntD.toEntA,ld:=y.map fun q=>q.2.er,yes:=yes}∧o.qj.map MsgD.a=x.ms∧o.qx=x.qx∧o.qq=x.qq∧Own w S [z4 cb n.t (xJ n.y) a n.r b n.yv jb qd (.pointer none),Res.nl b n.lv n.es,Res.lo n.y,vI n.yv n.yes,vM o.mv o.qj,sM o.qj,vR o.rv o.qx,vU o.xv o.qq] w':=by
  have hHt:=hH.htm
  have hHn:=hH.hn
  have hlb:=(LG.le hg).1
  refine zW Tryz.func53 O Tryz.ntmps53 hin ?_
  refine zB (yE (v:= .agg #[.slice none 0 0, .bool false, .slice none 0 0, .slice none 0 0]) qN O (fun b6=>zI O (zA (zN (zB (zD O (xf qN O O O (zA (xt O (zO (zB (zD O ?_))))))))))))
  refine zD O (zD O (za O O (zJ (o:=32) O O (zL 0 (v:=Vn qd) O O O O (a_call O O (fun w' hw=>(zBd cb jb t a r b (xJ y) yv (.pointer none) qd now qd w' (hw.give [0] O qM)).mono ?_))))))
  rintro _ w1 ⟨ob1_,rfl,hO⟩
  refine O6 ?_ (hw.qg [0] O hO)
  refine zA (zN (zX (zB (zD O (za O O (zJ (o:=21) O O (zL 4 (v:=Vi r.qr) O O O O (xn O O O (zI O (zA (zY O (fun c2=> ?_) (fun c2=> ?_))))))))))))
  ·refine zB (zD O (a_call O O (fun w' hw=>(jR cb jb ({t with now:=max t.now now}:TimD) a r b (xJ y) yv qd ob1_ outZ w' (hw.give [4,5] O qM)).mono ?_)))
   rintro _ w1 ⟨rfl,hO⟩
   refine O9 ?_ (hw.qg [4,5] O hO)
   refine zr 3 O O O (xQ O) O (zI O (zA ?_))
   exact zV (xx (cs:=(OutD.cells outZ)) (v:=Vi 14) O O O qN (Own.qt (i:=3) O) (fun w' hw=>⟨({t:=({t with now:=max t.now now}:TimD),r:=r,lv:=lv,es:=es,y:=y,yv:=yv,yes:=yes}:NdD),outZ,⟨[],[],[]⟩,14,O,(by obtain rfl:=zCR hH.hro c2;rfl),O,O,O,hw.sel [4,0,1,2,5,6,7,8] O qM⟩))
  have hr4:=Decidable.not_not.1 c2
  obtain⟨⟨ld,l⟩,rfl⟩:=Option.isSome_iff_exists.1 (hH.hro.1 hr4)
  have hb:l.bd:=hH.hld _ rfl
  have hbp:=hb.qa
  have hbb:=ha.base
  refine zB (zD O (zD O (za O O (zJ (o:=10) O O (zL 4 (v:=Vi a.id) O O O O (yQ O O O (zD O (yn (q:=to=a.id) 5 6 [38,37,36,35,34] (¬((zc b.vs (es.map EntD.toEntA)).ok∧to∈(zc b.vs (es.map EntD.toEntA)).vs)) O O O O O O trivial O (fun h6_6=> ?_) (fun g6_12=> ?_)))))))))
  ·refine zR O (gF h6_6) (zD O (zR O (gF h6_6) (a_call O O (fun w' hw=>(xe cb jb ({t with now:=max t.now now}:TimD) a r b (pt ld) yv (pt ob1_) qd _ _ w' ‹_› qO qO (hw.give [4,0] O qM)).mono ?_))))
   rintro _ w1 ⟨cv2_,cw3_,F4_,rfl,hf6_8,hO⟩
   have hFl:F4_.vs.length≤1000∧F4_.ls.length≤1000:=by rw[hf6_8];exact yf V
   refine O8 ?_ (hw.qg [4,0] O hO)
   refine zR O (gF h6_6) (zD O (zR O (gF h6_6) (a_call O O (fun w' hw=>(zBo ({vv:=cv2_,vs:=F4_.vs,lv:=cw3_,ls:=F4_.ls}:ConfD) to w' qP ⟨(hw.qp 6 O),(hw.qp 7 O)⟩).mono ?_))))
   rintro _ w1 ⟨rfl,hO⟩
   refine O8 ?_ (hw.qi hO)
   refine zR O (gF h6_6) (y7 (q:=({vv:=cv2_,vs:=F4_.vs,lv:=cw3_,ls:=F4_.ls}:ConfD).ok∧to∈({vv:=cv2_,vs:=F4_.vs,lv:=cw3_,ls:=F4_.ls}:ConfD).vs) O O ?_)
   exact yP (show Value.bool (decide _)=Value.bool (decide _)by congr 1;rw[decide_eq_decide,←hf6_8];exact Iff.rfl) (fun _ hw=>hw.sel [5,0,1,2,4,3] O qM)
  refine zI O (zA (zY O (fun c3=> ?_) (fun c3=> ?_)))
  ·have hc3:to=a.id∨¬((zc b.vs (es.map EntD.toEntA)).ok∧to∈(zc b.vs (es.map EntD.toEntA)).vs):=c3
   refine zB (zD O (a_call O O (fun w' hw=>(jR cb jb ({t with now:=max t.now now}:TimD) a r b (pt ld) yv qd ob1_ outZ w' (hw.give [4,5] O qM)).mono ?_)))
   rintro _ w1 ⟨rfl,hO⟩
   refine O9 ?_ (hw.qg [4,5] O hO)
   refine zr 3 O O O (xQ O) O (zI O (zA ?_))
   exact zV (xx (cs:=(OutD.cells outZ)) (v:=Vi 8) O O O qN (Own.qt (i:=3) O) (fun w' hw=>⟨({t:=({t with now:=max t.now now}:TimD),r:=r,lv:=lv,es:=es,y:=some (ld,l),yv:=yv,yes:=yes}:NdD),outZ,⟨[],[],[]⟩,8,O,(by show _=zCP a b.vs to (jW now {t:=t,r:=r,E:=es.map EntD.toEntA,ld:=some l.er,yes:=yes}) l.er;unfold zCP jW;dsimp only;rw[if_pos hc3];rfl),O,O,O,hw.sel [4,0,1,2,5,6,7,8] O qM⟩))
  have hc3:¬(to=a.id∨¬((zc b.vs (es.map EntD.toEntA)).ok∧to∈(zc b.vs (es.map EntD.toEntA)).vs)):=c3
  have hp3:=hpm _ rfl to (Decidable.byContradiction fun q=>hc3 (.inr fun z=>q z.2)) fun q=>hc3 (.inl q)
  refine zB (zD O (za O O (zJ (o:=9) O O (zL 4 (v:=pt ld) O O O O (za O O (zJ (o:=5) O O (yC (v:=Vi l.give) 1 0 5 O O O O qN O (xn O O O (zI O (zA (zY O (fun c4=> ?_) (fun c4=> ?_))))))))))))
  ·refine zB (zD O (a_call O O (fun w' hw=>(jR cb jb ({t with now:=max t.now now}:TimD) a r b (pt ld) yv qd ob1_ outZ w' (hw.give [4,5] O qM)).mono ?_)))
   rintro _ w1 ⟨rfl,hO⟩
   refine O9 ?_ (hw.qg [4,5] O hO)
   refine zr 3 O O O (xQ O) O (zI O (zA ?_))
   exact zV (xx (cs:=(OutD.cells outZ)) (v:=Vi 15) O O O qN (Own.qt (i:=3) O) (fun w' hw=>⟨({t:=({t with now:=max t.now now}:TimD),r:=r,lv:=lv,es:=es,y:=some (ld,l),yv:=yv,yes:=yes}:NdD),outZ,⟨[],[],[]⟩,15,O,(by show _=zCP a b.vs to (jW now {t:=t,r:=r,E:=es.map EntD.toEntA,ld:=some l.er,yes:=yes}) l.er;unfold zCP jW;dsimp only;rw[if_neg hc3,if_pos (show l.er.give≠0 from c4)];rfl),O,O,O,hw.sel [4,0,1,2,5,6,7,8] O qM⟩))
  refine zO (zA2 ([(0,pt cb),(1,Vi to),(6,pt b6)]) (True) ([Res.nl b lv es,vI yv yes,Res.row b6 44 [.slice none 0 0, .bool false, .slice none 0 0, .slice none 0 0],z4 cb ({t with now:=max t.now now,gd:=(max t.now now)+a.base}:TimD) (pt ld) a r b yv jb qd (pt ob1_),Res.ou ob1_ outZ,yN ld ({l with give:=to}:LdD),vP l.pv l.qa,sP l.qa,vI l.av l.qe,vT l.rv l.qf,vL l.kv l.qk]) ?_ (fun g hΦ=> ?_))
  ·refine zg [0,2,3,5] O qM qN (fun w' hw hS=>zC 0 O zT hS (zC 1 O (zQ O) hS (zC 2 O (zH (o:=9) O) hS (zC 4 O zT hS (zC 5 O zT hS (zC 6 O zT hS (zC 7 O (zQ O) hS (zC 8 O (zH (o:=2) O) hS (zC 9 O (zH (o:=0) O) hS (zC 11 O zT hS (zC 12 O (zQ O) hS (zC 13 O (zH (o:=11) O) hS ?_))))))))))))
   refine zC 14 O (zH (o:=4) O) hS (zHm (i:=3) (j:=10) (k:=15) qN ?_ ?_ ?_)
   ·refine zm 3 O hw (zL 4 (v:=pt ld) O O O O (zE [0,2,3,5] O qM (fun w' hw hS=>zu 10 15 ?_ ?_)))
    ·refine zm 10 O hw (zL 4 (v:=Vi (max t.now now)) O O O O (zE [0,2,3,5] O qM (fun w' hw hS=>zK 15 O hw (zL 4 (v:=Vi a.base) O O O O (zE [0,2,3,5] O qM (fun w' hw hS=>zC 16 O (yq O O (zq V)) hS (zC 17 O (zQ O) hS (zC 18 O (zH (o:=5) O) hS (zK 19 O hw ?_)))))))))
     refine z2 [Res.nl b lv es,vI yv yes,Res.row b6 44 [.slice none 0 0, .bool false, .slice none 0 0, .slice none 0 0],z4 cb ({t with now:=max t.now now}:TimD) (pt ld) a r b yv jb qd (pt ob1_),Res.ou ob1_ outZ,yN ld l,vP l.pv l.qa,sP l.qa,vI l.av l.qe,vT l.rv l.qf,vL l.kv l.qk] (fun w' hw=>hw.qn 1 O) ?_
     refine zn (cs:=(LdD.cells l)) 5 O O O O O (zE [0,1,2,4] O qM (fun w' hw hS=>zC 20 O (zQ O) hS (zC 21 O (zH (o:=2) O) hS (zC 22 O (zH (o:=5) O) hS (zK 23 O hw (zn 3 O O O O O (zE [0,1,2,4] O qM (fun w' hw hS=>zU ?_))))))))
     exact⟨⟨O,O,O,trivial⟩,trivial,hw⟩
    refine zm 15 O hw (zL 4 (v:=Vi a.base) O O O O (zE [0,2,3,5] O qM (fun w' hw hS=>zK 10 O hw (zL 4 (v:=Vi (max t.now now)) O O O O (zE [0,2,3,5] O qM (fun w' hw hS=>zC 16 O (yq O O (zq V)) hS (zC 17 O (zQ O) hS (zC 18 O (zH (o:=5) O) hS (zK 19 O hw ?_)))))))))
    refine z2 [Res.nl b lv es,vI yv yes,Res.row b6 44 [.slice none 0 0, .bool false, .slice none 0 0, .slice none 0 0],z4 cb ({t with now:=max t.now now}:TimD) (pt ld) a r b yv jb qd (pt ob1_),Res.ou ob1_ outZ,yN ld l,vP l.pv l.qa,sP l.qa,vI l.av l.qe,vT l.rv l.qf,vL l.kv l.qk] (fun w' hw=>hw.qn 1 O) ?_
    refine zn (cs:=(LdD.cells l)) 5 O O O O O (zE [0,1,2,4] O qM (fun w' hw hS=>zC 20 O (zQ O) hS (zC 21 O (zH (o:=2) O) hS (zC 22 O (zH (o:=5) O) hS (zK 23 O hw (zn 3 O O O O O (zE [0,1,2,4] O qM (fun w' hw hS=>zU ?_))))))))
    exact⟨⟨O,O,O,trivial⟩,trivial,hw⟩
   ·refine zm 10 O hw (zL 4 (v:=Vi (max t.now now)) O O O O (zE [0,2,3,5] O qM (fun w' hw hS=>zu 3 15 ?_ ?_)))
    ·refine zm 3 O hw (zL 4 (v:=pt ld) O O O O (zE [0,2,3,5] O qM (fun w' hw hS=>zK 15 O hw (zL 4 (v:=Vi a.base) O O O O (zE [0,2,3,5] O qM (fun w' hw hS=>zC 16 O (yq O O (zq V)) hS (zC 17 O (zQ O) hS (zC 18 O (zH (o:=5) O) hS (zK 19 O hw ?_)))))))))
     refine z2 [Res.nl b lv es,vI yv yes,Res.row b6 44 [.slice none 0 0, .bool false, .slice none 0 0, .slice none 0 0],z4 cb ({t with now:=max t.now now}:TimD) (pt ld) a r b yv jb qd (pt ob1_),Res.ou ob1_ outZ,yN ld l,vP l.pv l.qa,sP l.qa,vI l.av l.qe,vT l.rv l.qf,vL l.kv l.qk] (fun w' hw=>hw.qn 1 O) ?_
     refine zn (cs:=(LdD.cells l)) 5 O O O O O (zE [0,1,2,4] O qM (fun w' hw hS=>zC 20 O (zQ O) hS (zC 21 O (zH (o:=2) O) hS (zC 22 O (zH (o:=5) O) hS (zK 23 O hw (zn 3 O O O O O (zE [0,1,2,4] O qM (fun w' hw hS=>zU ?_))))))))
     exact⟨⟨O,O,O,trivial⟩,trivial,hw⟩
    refine zm 15 O hw (zL 4 (v:=Vi a.base) O O O O (zE [0,2,3,5] O qM (fun w' hw hS=>zC 16 O (yq O O (zq V)) hS (zK 3 O hw (zL 4 (v:=pt ld) O O O O (zE [0,2,3,5] O qM (fun w' hw hS=>zC 17 O (zQ O) hS (zC 18 O (zH (o:=5) O) hS (zK 19 O hw ?_)))))))))
    refine z2 [Res.nl b lv es,vI yv yes,Res.row b6 44 [.slice none 0 0, .bool false, .slice none 0 0, .slice none 0 0],z4 cb ({t with now:=max t.now now}:TimD) (pt ld) a r b yv jb qd (pt ob1_),Res.ou ob1_ outZ,yN ld l,vP l.pv l.qa,sP l.qa,vI l.av l.qe,vT l.rv l.qf,vL l.kv l.qk] (fun w' hw=>hw.qn 1 O) ?_
    refine zn (cs:=(LdD.cells l)) 5 O O O O O (zE [0,1,2,4] O qM (fun w' hw hS=>zC 20 O (zQ O) hS (zC 21 O (zH (o:=2) O) hS (zC 22 O (zH (o:=5) O) hS (zK 23 O hw (zn 3 O O O O O (zE [0,1,2,4] O qM (fun w' hw hS=>zU ?_))))))))
    exact⟨⟨O,O,O,trivial⟩,trivial,hw⟩
   refine zm 15 O hw (zL 4 (v:=Vi a.base) O O O O (zE [0,2,3,5] O qM (fun w' hw hS=>zu 3 10 ?_ ?_)))
   ·refine zm 3 O hw (zL 4 (v:=pt ld) O O O O (zE [0,2,3,5] O qM (fun w' hw hS=>zK 10 O hw (zL 4 (v:=Vi (max t.now now)) O O O O (zE [0,2,3,5] O qM (fun w' hw hS=>zC 16 O (yq O O (zq V)) hS (zC 17 O (zQ O) hS (zC 18 O (zH (o:=5) O) hS (zK 19 O hw ?_)))))))))
    refine z2 [Res.nl b lv es,vI yv yes,Res.row b6 44 [.slice none 0 0, .bool false, .slice none 0 0, .slice none 0 0],z4 cb ({t with now:=max t.now now}:TimD) (pt ld) a r b yv jb qd (pt ob1_),Res.ou ob1_ outZ,yN ld l,vP l.pv l.qa,sP l.qa,vI l.av l.qe,vT l.rv l.qf,vL l.kv l.qk] (fun w' hw=>hw.qn 1 O) ?_
    refine zn (cs:=(LdD.cells l)) 5 O O O O O (zE [0,1,2,4] O qM (fun w' hw hS=>zC 20 O (zQ O) hS (zC 21 O (zH (o:=2) O) hS (zC 22 O (zH (o:=5) O) hS (zK 23 O hw (zn 3 O O O O O (zE [0,1,2,4] O qM (fun w' hw hS=>zU ?_))))))))
    exact⟨⟨O,O,O,trivial⟩,trivial,hw⟩
   refine zm 10 O hw (zL 4 (v:=Vi (max t.now now)) O O O O (zE [0,2,3,5] O qM (fun w' hw hS=>zC 16 O (yq O O (zq V)) hS (zK 3 O hw (zL 4 (v:=pt ld) O O O O (zE [0,2,3,5] O qM (fun w' hw hS=>zC 17 O (zQ O) hS (zC 18 O (zH (o:=5) O) hS (zK 19 O hw ?_)))))))))
   refine z2 [Res.nl b lv es,vI yv yes,Res.row b6 44 [.slice none 0 0, .bool false, .slice none 0 0, .slice none 0 0],z4 cb ({t with now:=max t.now now}:TimD) (pt ld) a r b yv jb qd (pt ob1_),Res.ou ob1_ outZ,yN ld l,vP l.pv l.qa,sP l.qa,vI l.av l.qe,vT l.rv l.qf,vL l.kv l.qk] (fun w' hw=>hw.qn 1 O) ?_
   refine zn (cs:=(LdD.cells l)) 5 O O O O O (zE [0,1,2,4] O qM (fun w' hw hS=>zC 20 O (zQ O) hS (zC 21 O (zH (o:=2) O) hS (zC 22 O (zH (o:=5) O) hS (zK 23 O hw (zn 3 O O O O O (zE [0,1,2,4] O qM (fun w' hw hS=>zU ?_))))))))
   exact⟨⟨O,O,O,trivial⟩,trivial,hw⟩
  refine j1 (fun(n:NdD) (o':OutD) (x:OutA)=>[(0,pt cb),(6,pt b6)]) (fun(n:NdD) (o':OutD) (x:OutA)=>(n.a,x)=zDV a b.vs to now {t:=t,r:=r,E:=es.map EntD.toEntA,ld:=some l.er,yes:=yes}∧(o'.qj.map MsgD.a=x.ms∧o'.qx=x.qx)∧o'.qq=x.qq) (fun(n:NdD) (o':OutD) (x:OutA)=>[z4 cb n.t (xJ n.y) a n.r b n.yv jb qd (pt ob1_),Res.nl b n.lv n.es,Res.lo n.y,vI n.yv n.yes,Res.ou ob1_ o',Res.row b6 44 [.slice none 0 0, .bool false, .slice none 0 0, .slice none 0 0]]) ?_ (fun n o' x g hΦ=> ?_)
  ·refine zS (zD O (zD O (zD O ?_)))
   refine z2 [Res.nl b lv es,vI yv yes,Res.row b6 44 [.slice none 0 0, .bool false, .slice none 0 0, .slice none 0 0],z4 cb ({t with now:=max t.now now,gd:=(max t.now now)+a.base}:TimD) (pt ld) a r b yv jb qd (pt ob1_),Res.ou ob1_ outZ,Res.ld ld ({l with give:=to}:LdD)] (fun w' hw=>(hw.qo [5,6,7,8,9,10] O qM)) ?_
   refine a_call O O (fun w' hw=>(zDM cb jb ({t with now:=max t.now now,gd:=(max t.now now)+a.base}:TimD) a r b yv (pt ob1_) qd ld ({l with give:=to}:LdD) to w' qP (hw.give [3,5] O qM)).mono ?_)
   rintro _ w1 ⟨pv5_,rfl,hf11_3,hO⟩
   obtain⟨j,hj,rfl,hji,hix⟩:=PeerIs.there hf11_3 hp3
   refine O6 ?_ (hw.qg [3,5] O hO)
   refine a_call O O (fun w' hw=>(zL5 cb jb ({t with now:=max t.now now,gd:=(max t.now now)+a.base}:TimD) a r b yv qd _ _ ld ({l with give:=to}:LdD) ob1_ outZ j true w' ‹_› qO qO hj (Nat.zero_le _) (hw.give [4,0,5,3] O qM)).mono ?_)
   rintro _ w1 ⟨mv'6_,rfl,hO⟩
   refine O6 ?_ (hw.qg [4,0,5,3] O hO)
   exact zd (fun w' hw=>⟨({t:=({t with now:=max t.now now,gd:=max t.now now+a.base}:TimD),r:=r,lv:=lv,es:=es,y:=some (ld,({l with give:=to,qC:=if y3 ({l with give:=to}:LdD) (zG l.qa j).2 es.length true then true else l.qC}:LdD)),yv:=yv,yes:=yes}:NdD),({outZ with mv:=mv'6_,qj:=outZ.qj++(if y3 ({l with give:=to}:LdD) (zG l.qa j).2 es.length true then [yd a t.term (yo 9 0 (zG l.qa j).2.id 0 0 0 0 0 false (.slice none 0 0) [])]else [])}:OutD),⟨(if y3 ({l with give:=to}:LdD) (zG l.qa j).2 es.length true then [yd a t.term (yo 9 0 (zG l.qa j).2.id 0 0 0 0 0 false (.slice none 0 0) [])]else []).map MsgD.a,[],[]⟩,⟨O,O,trivial⟩,⟨by show _=zCP a b.vs to (jW now {t:=t,r:=r,E:=es.map EntD.toEntA,ld:=some l.er,yes:=yes}) l.er;unfold zCP jW;dsimp only;rw[if_neg hc3,if_neg (show ¬ l.er.give≠0 from c4)];rw[show yV l.er.qa to=some j from peerIx_er.trans hix];exact zMf (t2:={t with now:=max t.now now,gd:=max t.now now+a.base}),⟨O,O⟩,O⟩,hw.sel [2,3,4,0,5,1] O qM⟩)
  have hI:=hΦ
  refine zB (zD O (a_call O O (fun w' hw=>(jR cb jb n.t a n.r b (xJ n.y) n.yv qd ob1_ o' w' (hw.give [0,4] O qM)).mono ?_)))
  rintro _ w1 ⟨rfl,hO⟩
  refine O9 ?_ (hw.qg [0,4] O hO)
  refine zP (fun w' hw=>Own.qh (i:=5) O hw) (fun hc1_=> ?_)
  refine zP (fun w' hw=>Own.qh (i:=7) O hw) (fun hc2_=> ?_)
  refine zP (fun w' hw=>Own.qh (i:=8) O hw) (fun hc3_=> ?_)
  refine zr 3 O O O (zF hc1_ (zF O (zF hc2_ (zF hc3_ zj)))) O (zI O (zA ?_))
  exact zV (xx (cs:=(OutD.cells o')) (v:=Vi 0) O O O qN (Own.qt (i:=3) O) (fun w' hw=>⟨n,o',x,0,O,hI.1,hI.2.1.1,hI.2.1.2,hI.2.2,hw.sel [4,0,1,2,5,6,7,8] O qM⟩))
end Go.Proofs.YtkkeknmkipkbmaaGreat
