import Derived.Test.YtkkeknmkipkbmaaGreatCoR
set_option linter.unusedSectionVars false
set_option linter.unusedSimpArgs false
set_option linter.unusedVariables false
set_option maxRecDepth 10000
namespace Go.Proofs.YtkkeknmkipkbmaaGreat
open Go Go.Sc Go.Proofs
def zGP(a:StA)(vs0:List Int)(n:NodA)(l:LdD):NodA×List MsgA:=
  ({n with t:={n.t with qE:=n.t.now},ld:=some {l with qa:=l.qa.map (fun q=>(q.1,yD n.E q.2)),qf:=l.qf++[n.t.now],sure:=if(zc vs0 n.E).qv [a.id]then l.qf.length+1 else l.sure}},jK (jv a n.t.term n.r.qc (l.qf.length+1) n.E) l.qa)
def zCp(a:StA)(vs0:List Int)(n:NodA)(l:LdD):NodA×OutA:=
  let l1:=if n.t.gd≤n.t.now then{l with give:=0}else l
  if n.t.qE+a.beat≤n.t.now then zAx (zGP a vs0 n l1)else({n with ld:=some l1},⟨[],[],[]⟩)
def kS(a:StA)(vs0:List Int)(qd:Nat)(n:NodA)(l:LdD):NodA×OutA:=
  let t1:=if(zc vs0 n.E).qv [a.id]then{n.t with qA:=n.t.now}else n.t
  if n.t.qz+a.base≤n.t.now then
    if ¬(zc vs0 n.E).qv (l.qe++[a.id])then({n with t:={t1 with due:=n.t.now+yz a qd},r:=⟨1,0,n.r.qc⟩,ld:=none,yes:=[]},⟨[],[],l.qk.map LookM.id⟩)
    else zCp a vs0 {n with t:={t1 with qz:=n.t.now}} {l with qe:=[]}
  else zCp a vs0 {n with t:=t1} l
theorem zNy{a:StA}{vs0:List Int}{t2:TimD}{r:RolD}{lv yv rv:Value}{es:List EntD}{ld:Nat}{l3:LdD}{yes:List Int}{x:Option LdD}:((({t:={t2 with qE:=t2.now},r:=r,lv:=lv,es:=es,y:=some (ld,{l3 with qa:=l3.qa.map fun q=>(q.1,yD (es.map EntD.toEntA) q.2),rv:=rv,qf:=l3.qf++[t2.now],sure:=if(zc vs0 (es.map EntD.toEntA)).qv [a.id]then l3.qf.length+1 else l3.sure}),yv:=yv,yes:=yes}:NdD).a,jK (jv a t2.term r.qc (l3.qf.length+1) (es.map EntD.toEntA)) l3.qa):NodA×List MsgA)=zGP a vs0 {t:=t2,r:=r,E:=es.map EntD.toEntA,ld:=x,yes:=yes} l3.er:=by
  unfold zGP NdD.a LdD.er
  dsimp only
  rw[zEh,Option.map_some,zGm]
theorem zLT{S:List Nat}(cb jb:Nat)(t:TimD)(a:StA)(r:RolD)(b:StB)(yv:Value)(qd:Nat)(lv:Value)(es:List EntD)(ob:Nat)(o:OutD)(ld:Nat)(l:LdD)(yes:List Int)(w:World)(hg:(LG 0 0 es).good)(hl:es.length≤100000)(hvl:b.vs.length≤12)(hn:0≤t.now∧t.now≤1000000000000000)(hbt:0≤t.qE∧t.qE≤1000000000000000)(hck:0≤t.qz∧t.qz≤1000000000000000)(ho:o.qj.length≤1000)(hlo:o.qq.length=0)(ha:a.ok)(hd:qd<18446744073709551616)(hb:l.bd)(hin:Own w S [z4 cb t (pt ld) a r b yv jb qd (pt ob),Res.nl b lv es,Res.ld ld l,Res.ou ob o,vI yv yes] w):Rets Tryz.prog 34 #[pt cb] w fun u_ w'=>∃ (n:NdD) (o':OutD) (x:OutA),u_= .tuple #[]∧(n.a,x)=kS a b.vs qd {t:=t,r:=r,E:=es.map EntD.toEntA,ld:=some l.er,yes:=yes} l.er∧o'.qj.map MsgD.a=o.qj.map MsgD.a++x.ms∧o'.qx=o.qx++x.qx∧o'.qq=x.qq∧Own w S [z4 cb n.t (xJ n.y) a n.r b n.yv jb qd (pt ob),Res.nl b n.lv n.es,Res.lo n.y,vI n.yv n.yes,Res.ou ob o'] w':=by
  have hbp:=hb.qa
  have hba:=hb.qe
  have hbr:=hb.qf
  have hbk:=hb.qk
  have hw1:=jD (qd:=qd) ha
  have hbs:=ha.base
  have hbe:=ha.beat
  have hlb:=(LG.le hg).1
  refine zW Tryz.func34 O Tryz.ntmps34 hin ?_
  refine yt (fun(t1:TimD)=>[(0,pt cb)]) (fun(t1:TimD)=>t1=if(zc b.vs (es.map EntD.toEntA)).qv [a.id]then{t with qA:=t.now}else t) (fun(t1:TimD)=>[z4 cb t1 (pt ld) a r b yv jb qd (pt ob),Res.nl b lv es,Res.ld ld l,Res.ou ob o,vI yv yes]) ?_ (fun t1 g hΦ=> ?_)
  ·refine zB (zD O (a_call O O (fun w' hw=>(zCd cb jb t a r b (pt ld) yv (pt ob) qd _ _ w' ‹_› qO qO (hw.give [0,1] O qM)).mono ?_)))
   rintro _ w1 ⟨rfl,hO⟩
   refine O5 ?_ (hw.qg [0,1] O hO)
   refine zA (zY O (fun c1=> ?_) (fun c1=> ?_))
   ·refine zS (zD O (zD O (za O O (zJ (o:=2) O O (zJ (o:=0) O O (zL 3 (v:=Vi t.now) O O O O (za O O (zJ (o:=2) O O (zJ (o:=1) O O (zn 3 O O O O O ?_))))))))))
    exact zd (fun w' hw=>⟨({t with qA:=t.now}:TimD),⟨O,trivial⟩,(if_pos c1).symm,hw.sel [3,4,0,1,2] O qM⟩)
   exact yc (fun w' hw=>⟨t,⟨O,trivial⟩,(if_neg c1).symm,hw.sel [3,4,0,1,2] O qM⟩)
  have ht1:=hΦ
  have e1:(t1.now=t.now∧t1.qz=t.qz)∧t1.qE=t.qE:=by rw[ht1];split<;>exact⟨⟨rfl,rfl⟩,rfl⟩
  refine j7 (fun(t2:TimD) (l2:LdD)=>[(0,pt cb)]) (fun(t2:TimD) (l2:LdD)=>kS a b.vs qd {t:=t,r:=r,E:=es.map EntD.toEntA,ld:=some l.er,yes:=yes} l.er=zCp a b.vs {t:=t2,r:=r,E:=es.map EntD.toEntA,ld:=some l.er,yes:=yes} l2.er∧(t2.now=t.now∧t2.qE=t.qE)∧l2.bd) (fun(t2:TimD) (l2:LdD)=>[z4 cb t2 (pt ld) a r b yv jb qd (pt ob),Res.nl b lv es,Res.ld ld l2,Res.ou ob o,vI yv yes]) ?_ (fun t2 l2 g hΦ=> ?_)
  ·refine yX qN qN (zM O zT (zM O (zQ O) (zM O (zH (o:=2) O) (zM O (zH (o:=0) O) (zM O (zZ 0 (v:=Vi t1.now) O O O) (zM O zT (zM O (zQ O) (zM O (zH (o:=2) O) (zM O (zH (o:=4) O) (zM O (zZ 0 (v:=Vi t1.qz) O O O) (zM O zT (zM O (zQ O) ?_))))))))))))
   refine zM O (zH (o:=11) O) (zM O (zH (o:=4) O) (zM O (zZ 0 (v:=Vi a.base) O O O) (zM O (yq O O (zq V)) (zM O (zIY O O) (xk (zY O (fun c2=> ?_) (fun c2=> ?_)))))))
   ·have hc2:t.qz+a.base≤t.now:=by omega
    refine zN (yt (fun(zz:Bool)=>[(0,pt cb),(46, .bool zz)]) (fun(zz:Bool)=>zz=true↔¬(zc b.vs (es.map EntD.toEntA)).qv (l.qe++[a.id])) (fun(zz:Bool)=>[z4 cb t1 (pt ld) a r b yv jb qd (pt ob),Res.nl b lv es,Res.ld ld l,Res.ou ob o,vI yv yes]) ?_ (fun zz g hΦ=> ?_))
    ·refine zg [0,1,3,4] O qM qN (fun w' hw hS=>zC 0 O zT hS (zC 2 O zT hS (zC 3 O (zQ O) hS (zC 4 O (zH (o:=9) O) hS (zC 5 O (zZ 0 (v:=pt ld) O O O) hS (zC 6 O (zQ O) hS (zC 7 O (zH (o:=1) O) hS (zC 9 O zT hS (zC 10 O (zQ O) hS (zC 11 O (zH (o:=10) O) hS (zC 12 O (zZ 0 (v:=Vi a.id) O O O) hS (zHm (i:=1) (j:=8) (k:=13) qN ?_ ?_ ?_))))))))))))
     ·refine zm 1 O hw (a_call O O (fun w' hw=>(xe cb jb t1 a r b (pt ld) yv (pt ob) qd _ _ w' ‹_› qO qO (hw.give [0,1] O qM)).mono ?_))
      rintro _ w1 ⟨cv1_,cw2_,F3_,rfl,hf3_1,hO⟩
      have hFl:F3_.vs.length≤1000∧F3_.ls.length≤1000:=by rw[hf3_1];exact yf V
      refine O7 ?_ (hw.qg [0,1] O hO)
      refine zE [3,4,1,2] O qM (fun w' hw hS=>zu 8 13 ?_ ?_)
      ·refine zm 8 O hw (yC (v:=l.av) 0 0 1 O O O O qN O (zE [3,4,1,2] O qM (fun w' hw hS=>zK 13 O hw (zy (e:=3) (sz:=1) (vs:=[Vi a.id]) qN O O qR qM O (fun b43=>zE [3,4,1,2] O qM (fun w' hw hS=>zK 14 O hw ?_))))))
       refine z2 [Res.ou ob o,vI yv yes,z4 cb t1 (pt ld) a r b yv jb qd (pt ob),Res.nl b lv es,vI cv1_ F3_.vs,vI cw2_ F3_.ls,vI (.slice (some ⟨b43,0,none⟩) 1 1) [a.id],yN ld l,vP l.pv l.qa,sP l.qa,vI l.av l.qe,vT l.rv l.qf,vL l.kv l.qk] (fun w' hw=>hw.qn 0 O) ?_
       refine zAc (g:=I1) (sz:=1) (by':=8) (fun _=>O) (l:=l.qe) (l':=[a.id]) qV 10 qN O O O (fun w' hw'=>Vec.sl (Own.holds hw' 6 _ O)) qO qM qQ O (fun v44 hb44_ hk44_=> ?_) (fun v44=> ?_)
       ·refine zE [2,3,0,1] O qM (fun w' hw hS=>zK 15 O hw (a_call O O (fun w' hw=>(y6 ({vv:=cv1_,vs:=F3_.vs,lv:=cw2_,ls:=F3_.ls}:ConfD) v44 (l.qe++[a.id]) w' qP qP (hw.qp 10 O) ⟨(hw.qp 4 O),(hw.qp 5 O)⟩).mono ?_)))
        rintro _ w1 ⟨rfl,hO⟩
        refine O13 ?_ (hw.qi hO)
        refine zE [2,3,0,1] O qM (fun w' hw hS=>zC 16 O (xc (q:=({vv:=cv1_,vs:=F3_.vs,lv:=cw2_,ls:=F3_.ls}:ConfD).qv (l.qe++[a.id])) O) hS (zU ?_))
        exact⟨decide (¬(zc b.vs (es.map EntD.toEntA)).qv (l.qe++[a.id])),⟨O,(congrArg Value.bool (decide_eq_decide.2 (by rw[←hf3_1];exact Iff.rfl))),trivial⟩,decide_eq_true_iff,((Own.vecBack 10 hb44_ hk44_ O hw).qo [7,8,9,10,11,12] O qM).sel [2,3,7,0,1] O qM⟩
       refine zE [2,3,0,1] O qM (fun w' hw hS=>zK 15 O hw (a_call O O (fun w' hw=>(y6 ({vv:=cv1_,vs:=F3_.vs,lv:=cw2_,ls:=F3_.ls}:ConfD) v44 (l.qe++[a.id]) w' qP qP (hw.qp 13 O) ⟨(hw.qp 4 O),(hw.qp 5 O)⟩).mono ?_)))
       rintro _ w1 ⟨rfl,hO⟩
       refine O14 ?_ (hw.qi hO)
       refine zE [2,3,0,1] O qM (fun w' hw hS=>zC 16 O (xc (q:=({vv:=cv1_,vs:=F3_.vs,lv:=cw2_,ls:=F3_.ls}:ConfD).qv (l.qe++[a.id])) O) hS (zU ?_))
       exact⟨decide (¬(zc b.vs (es.map EntD.toEntA)).qv (l.qe++[a.id])),⟨O,(congrArg Value.bool (decide_eq_decide.2 (by rw[←hf3_1];exact Iff.rfl))),trivial⟩,decide_eq_true_iff,(hw.qo [7,8,9,10,11,12] O qM).sel [2,3,8,0,1] O qM⟩
      refine zm 13 O hw (zy (e:=3) (sz:=1) (vs:=[Vi a.id]) qN O O qR qM O (fun b43=>zE [3,4,1,2] O qM (fun w' hw hS=>zK 8 O hw (yC (v:=l.av) 0 0 1 O O O O qN O (zE [3,4,1,2] O qM (fun w' hw hS=>zK 14 O hw ?_))))))
      refine z2 [Res.ou ob o,vI yv yes,z4 cb t1 (pt ld) a r b yv jb qd (pt ob),Res.nl b lv es,vI cv1_ F3_.vs,vI cw2_ F3_.ls,vI (.slice (some ⟨b43,0,none⟩) 1 1) [a.id],yN ld l,vP l.pv l.qa,sP l.qa,vI l.av l.qe,vT l.rv l.qf,vL l.kv l.qk] (fun w' hw=>hw.qn 0 O) ?_
      refine zAc (g:=I1) (sz:=1) (by':=8) (fun _=>O) (l:=l.qe) (l':=[a.id]) qV 10 qN O O O (fun w' hw'=>Vec.sl (Own.holds hw' 6 _ O)) qO qM qQ O (fun v44 hb44_ hk44_=> ?_) (fun v44=> ?_)
      ·refine zE [2,3,0,1] O qM (fun w' hw hS=>zK 15 O hw (a_call O O (fun w' hw=>(y6 ({vv:=cv1_,vs:=F3_.vs,lv:=cw2_,ls:=F3_.ls}:ConfD) v44 (l.qe++[a.id]) w' qP qP (hw.qp 10 O) ⟨(hw.qp 4 O),(hw.qp 5 O)⟩).mono ?_)))
       rintro _ w1 ⟨rfl,hO⟩
       refine O13 ?_ (hw.qi hO)
       refine zE [2,3,0,1] O qM (fun w' hw hS=>zC 16 O (xc (q:=({vv:=cv1_,vs:=F3_.vs,lv:=cw2_,ls:=F3_.ls}:ConfD).qv (l.qe++[a.id])) O) hS (zU ?_))
       exact⟨decide (¬(zc b.vs (es.map EntD.toEntA)).qv (l.qe++[a.id])),⟨O,(congrArg Value.bool (decide_eq_decide.2 (by rw[←hf3_1];exact Iff.rfl))),trivial⟩,decide_eq_true_iff,((Own.vecBack 10 hb44_ hk44_ O hw).qo [7,8,9,10,11,12] O qM).sel [2,3,7,0,1] O qM⟩
      refine zE [2,3,0,1] O qM (fun w' hw hS=>zK 15 O hw (a_call O O (fun w' hw=>(y6 ({vv:=cv1_,vs:=F3_.vs,lv:=cw2_,ls:=F3_.ls}:ConfD) v44 (l.qe++[a.id]) w' qP qP (hw.qp 13 O) ⟨(hw.qp 4 O),(hw.qp 5 O)⟩).mono ?_)))
      rintro _ w1 ⟨rfl,hO⟩
      refine O14 ?_ (hw.qi hO)
      refine zE [2,3,0,1] O qM (fun w' hw hS=>zC 16 O (xc (q:=({vv:=cv1_,vs:=F3_.vs,lv:=cw2_,ls:=F3_.ls}:ConfD).qv (l.qe++[a.id])) O) hS (zU ?_))
      exact⟨decide (¬(zc b.vs (es.map EntD.toEntA)).qv (l.qe++[a.id])),⟨O,(congrArg Value.bool (decide_eq_decide.2 (by rw[←hf3_1];exact Iff.rfl))),trivial⟩,decide_eq_true_iff,(hw.qo [7,8,9,10,11,12] O qM).sel [2,3,8,0,1] O qM⟩
     ·refine zm 8 O hw (yC (v:=l.av) 2 0 1 O O O O qN O (zE [0,1,3,4] O qM (fun w' hw hS=>zu 1 13 ?_ ?_)))
      ·refine zm 1 O hw (a_call O O (fun w' hw=>(xe cb jb t1 a r b (pt ld) yv (pt ob) qd _ _ w' ‹_› qO qO (hw.give [0,1] O qM)).mono ?_))
       rintro _ w1 ⟨cv4_,cw5_,F6_,rfl,hf3_1,hO⟩
       have hFl:F6_.vs.length≤1000∧F6_.ls.length≤1000:=by rw[hf3_1];exact yf V
       refine O7 ?_ (hw.qg [0,1] O hO)
       refine zE [3,4,1,2] O qM (fun w' hw hS=>zK 13 O hw (zy (e:=3) (sz:=1) (vs:=[Vi a.id]) qN O O qR qM O (fun b43=>zE [3,4,1,2] O qM (fun w' hw hS=>zK 14 O hw ?_))))
       refine z2 [Res.ou ob o,vI yv yes,z4 cb t1 (pt ld) a r b yv jb qd (pt ob),Res.nl b lv es,vI cv4_ F6_.vs,vI cw5_ F6_.ls,vI (.slice (some ⟨b43,0,none⟩) 1 1) [a.id],yN ld l,vP l.pv l.qa,sP l.qa,vI l.av l.qe,vT l.rv l.qf,vL l.kv l.qk] (fun w' hw=>hw.qn 0 O) ?_
       refine zAc (g:=I1) (sz:=1) (by':=8) (fun _=>O) (l:=l.qe) (l':=[a.id]) qV 10 qN O O O (fun w' hw'=>Vec.sl (Own.holds hw' 6 _ O)) qO qM qQ O (fun v44 hb44_ hk44_=> ?_) (fun v44=> ?_)
       ·refine zE [2,3,0,1] O qM (fun w' hw hS=>zK 15 O hw (a_call O O (fun w' hw=>(y6 ({vv:=cv4_,vs:=F6_.vs,lv:=cw5_,ls:=F6_.ls}:ConfD) v44 (l.qe++[a.id]) w' qP qP (hw.qp 10 O) ⟨(hw.qp 4 O),(hw.qp 5 O)⟩).mono ?_)))
        rintro _ w1 ⟨rfl,hO⟩
        refine O13 ?_ (hw.qi hO)
        refine zE [2,3,0,1] O qM (fun w' hw hS=>zC 16 O (xc (q:=({vv:=cv4_,vs:=F6_.vs,lv:=cw5_,ls:=F6_.ls}:ConfD).qv (l.qe++[a.id])) O) hS (zU ?_))
        exact⟨decide (¬(zc b.vs (es.map EntD.toEntA)).qv (l.qe++[a.id])),⟨O,(congrArg Value.bool (decide_eq_decide.2 (by rw[←hf3_1];exact Iff.rfl))),trivial⟩,decide_eq_true_iff,((Own.vecBack 10 hb44_ hk44_ O hw).qo [7,8,9,10,11,12] O qM).sel [2,3,7,0,1] O qM⟩
       refine zE [2,3,0,1] O qM (fun w' hw hS=>zK 15 O hw (a_call O O (fun w' hw=>(y6 ({vv:=cv4_,vs:=F6_.vs,lv:=cw5_,ls:=F6_.ls}:ConfD) v44 (l.qe++[a.id]) w' qP qP (hw.qp 13 O) ⟨(hw.qp 4 O),(hw.qp 5 O)⟩).mono ?_)))
       rintro _ w1 ⟨rfl,hO⟩
       refine O14 ?_ (hw.qi hO)
       refine zE [2,3,0,1] O qM (fun w' hw hS=>zC 16 O (xc (q:=({vv:=cv4_,vs:=F6_.vs,lv:=cw5_,ls:=F6_.ls}:ConfD).qv (l.qe++[a.id])) O) hS (zU ?_))
       exact⟨decide (¬(zc b.vs (es.map EntD.toEntA)).qv (l.qe++[a.id])),⟨O,(congrArg Value.bool (decide_eq_decide.2 (by rw[←hf3_1];exact Iff.rfl))),trivial⟩,decide_eq_true_iff,(hw.qo [7,8,9,10,11,12] O qM).sel [2,3,8,0,1] O qM⟩
      refine zm 13 O hw (zy (e:=3) (sz:=1) (vs:=[Vi a.id]) qN O O qR qM O (fun b43=>zE [0,1,3,4] O qM (fun w' hw hS=>zK 1 O hw (a_call O O (fun w' hw=>(xe cb jb t1 a r b (pt ld) yv (pt ob) qd _ _ w' ‹_› qO qO (hw.give [0,1] O qM)).mono ?_)))))
      rintro _ w1 ⟨cv7_,cw8_,F9_,rfl,hf3_1,hO⟩
      have hFl:F9_.vs.length≤1000∧F9_.ls.length≤1000:=by rw[hf3_1];exact yf V
      refine O8 ?_ (hw.qg [0,1] O hO)
      refine zE [4,5,1,2] O qM (fun w' hw hS=>zK 14 O hw ?_)
      refine z2 [Res.ou ob o,vI yv yes,vI (.slice (some ⟨b43,0,none⟩) 1 1) [a.id],z4 cb t1 (pt ld) a r b yv jb qd (pt ob),Res.nl b lv es,vI cv7_ F9_.vs,vI cw8_ F9_.ls,yN ld l,vP l.pv l.qa,sP l.qa,vI l.av l.qe,vT l.rv l.qf,vL l.kv l.qk] (fun w' hw=>hw.qn 0 O) ?_
      refine zAc (g:=I1) (sz:=1) (by':=8) (fun _=>O) (l:=l.qe) (l':=[a.id]) qV 10 qN O O O (fun w' hw'=>Vec.sl (Own.holds hw' 2 _ O)) qO qM qQ O (fun v44 hb44_ hk44_=> ?_) (fun v44=> ?_)
      ·refine zE [3,4,0,1] O qM (fun w' hw hS=>zK 15 O hw (a_call O O (fun w' hw=>(y6 ({vv:=cv7_,vs:=F9_.vs,lv:=cw8_,ls:=F9_.ls}:ConfD) v44 (l.qe++[a.id]) w' qP qP (hw.qp 10 O) ⟨(hw.qp 5 O),(hw.qp 6 O)⟩).mono ?_)))
       rintro _ w1 ⟨rfl,hO⟩
       refine O13 ?_ (hw.qi hO)
       refine zE [3,4,0,1] O qM (fun w' hw hS=>zC 16 O (xc (q:=({vv:=cv7_,vs:=F9_.vs,lv:=cw8_,ls:=F9_.ls}:ConfD).qv (l.qe++[a.id])) O) hS (zU ?_))
       exact⟨decide (¬(zc b.vs (es.map EntD.toEntA)).qv (l.qe++[a.id])),⟨O,(congrArg Value.bool (decide_eq_decide.2 (by rw[←hf3_1];exact Iff.rfl))),trivial⟩,decide_eq_true_iff,((Own.vecBack 10 hb44_ hk44_ O hw).qo [7,8,9,10,11,12] O qM).sel [3,4,7,0,1] O qM⟩
      refine zE [3,4,0,1] O qM (fun w' hw hS=>zK 15 O hw (a_call O O (fun w' hw=>(y6 ({vv:=cv7_,vs:=F9_.vs,lv:=cw8_,ls:=F9_.ls}:ConfD) v44 (l.qe++[a.id]) w' qP qP (hw.qp 13 O) ⟨(hw.qp 5 O),(hw.qp 6 O)⟩).mono ?_)))
      rintro _ w1 ⟨rfl,hO⟩
      refine O14 ?_ (hw.qi hO)
      refine zE [3,4,0,1] O qM (fun w' hw hS=>zC 16 O (xc (q:=({vv:=cv7_,vs:=F9_.vs,lv:=cw8_,ls:=F9_.ls}:ConfD).qv (l.qe++[a.id])) O) hS (zU ?_))
      exact⟨decide (¬(zc b.vs (es.map EntD.toEntA)).qv (l.qe++[a.id])),⟨O,(congrArg Value.bool (decide_eq_decide.2 (by rw[←hf3_1];exact Iff.rfl))),trivial⟩,decide_eq_true_iff,(hw.qo [7,8,9,10,11,12] O qM).sel [3,4,8,0,1] O qM⟩
     refine zm 13 O hw (zy (e:=3) (sz:=1) (vs:=[Vi a.id]) qN O O qR qM O (fun b43=>zE [0,1,3,4] O qM (fun w' hw hS=>zu 1 8 ?_ ?_)))
     ·refine zm 1 O hw (a_call O O (fun w' hw=>(xe cb jb t1 a r b (pt ld) yv (pt ob) qd _ _ w' ‹_› qO qO (hw.give [0,1] O qM)).mono ?_))
      rintro _ w1 ⟨cv10_,cw11_,F12_,rfl,hf3_1,hO⟩
      have hFl:F12_.vs.length≤1000∧F12_.ls.length≤1000:=by rw[hf3_1];exact yf V
      refine O8 ?_ (hw.qg [0,1] O hO)
      refine zE [4,5,1,2] O qM (fun w' hw hS=>zK 8 O hw (yC (v:=l.av) 0 0 1 O O O O qN O (zE [4,5,1,2] O qM (fun w' hw hS=>zK 14 O hw ?_))))
      refine z2 [Res.ou ob o,vI yv yes,vI (.slice (some ⟨b43,0,none⟩) 1 1) [a.id],z4 cb t1 (pt ld) a r b yv jb qd (pt ob),Res.nl b lv es,vI cv10_ F12_.vs,vI cw11_ F12_.ls,yN ld l,vP l.pv l.qa,sP l.qa,vI l.av l.qe,vT l.rv l.qf,vL l.kv l.qk] (fun w' hw=>hw.qn 0 O) ?_
      refine zAc (g:=I1) (sz:=1) (by':=8) (fun _=>O) (l:=l.qe) (l':=[a.id]) qV 10 qN O O O (fun w' hw'=>Vec.sl (Own.holds hw' 2 _ O)) qO qM qQ O (fun v44 hb44_ hk44_=> ?_) (fun v44=> ?_)
      ·refine zE [3,4,0,1] O qM (fun w' hw hS=>zK 15 O hw (a_call O O (fun w' hw=>(y6 ({vv:=cv10_,vs:=F12_.vs,lv:=cw11_,ls:=F12_.ls}:ConfD) v44 (l.qe++[a.id]) w' qP qP (hw.qp 10 O) ⟨(hw.qp 5 O),(hw.qp 6 O)⟩).mono ?_)))
       rintro _ w1 ⟨rfl,hO⟩
       refine O13 ?_ (hw.qi hO)
       refine zE [3,4,0,1] O qM (fun w' hw hS=>zC 16 O (xc (q:=({vv:=cv10_,vs:=F12_.vs,lv:=cw11_,ls:=F12_.ls}:ConfD).qv (l.qe++[a.id])) O) hS (zU ?_))
       exact⟨decide (¬(zc b.vs (es.map EntD.toEntA)).qv (l.qe++[a.id])),⟨O,(congrArg Value.bool (decide_eq_decide.2 (by rw[←hf3_1];exact Iff.rfl))),trivial⟩,decide_eq_true_iff,((Own.vecBack 10 hb44_ hk44_ O hw).qo [7,8,9,10,11,12] O qM).sel [3,4,7,0,1] O qM⟩
      refine zE [3,4,0,1] O qM (fun w' hw hS=>zK 15 O hw (a_call O O (fun w' hw=>(y6 ({vv:=cv10_,vs:=F12_.vs,lv:=cw11_,ls:=F12_.ls}:ConfD) v44 (l.qe++[a.id]) w' qP qP (hw.qp 13 O) ⟨(hw.qp 5 O),(hw.qp 6 O)⟩).mono ?_)))
      rintro _ w1 ⟨rfl,hO⟩
      refine O14 ?_ (hw.qi hO)
      refine zE [3,4,0,1] O qM (fun w' hw hS=>zC 16 O (xc (q:=({vv:=cv10_,vs:=F12_.vs,lv:=cw11_,ls:=F12_.ls}:ConfD).qv (l.qe++[a.id])) O) hS (zU ?_))
      exact⟨decide (¬(zc b.vs (es.map EntD.toEntA)).qv (l.qe++[a.id])),⟨O,(congrArg Value.bool (decide_eq_decide.2 (by rw[←hf3_1];exact Iff.rfl))),trivial⟩,decide_eq_true_iff,(hw.qo [7,8,9,10,11,12] O qM).sel [3,4,8,0,1] O qM⟩
     refine zm 8 O hw (yC (v:=l.av) 2 0 1 O O O O qN O (zE [0,1,3,4] O qM (fun w' hw hS=>zK 1 O hw (a_call O O (fun w' hw=>(xe cb jb t1 a r b (pt ld) yv (pt ob) qd _ _ w' ‹_› qO qO (hw.give [0,1] O qM)).mono ?_)))))
     rintro _ w1 ⟨cv13_,cw14_,F15_,rfl,hf3_1,hO⟩
     have hFl:F15_.vs.length≤1000∧F15_.ls.length≤1000:=by rw[hf3_1];exact yf V
     refine O8 ?_ (hw.qg [0,1] O hO)
     refine zE [4,5,1,2] O qM (fun w' hw hS=>zK 14 O hw ?_)
     refine z2 [Res.ou ob o,vI yv yes,vI (.slice (some ⟨b43,0,none⟩) 1 1) [a.id],z4 cb t1 (pt ld) a r b yv jb qd (pt ob),Res.nl b lv es,vI cv13_ F15_.vs,vI cw14_ F15_.ls,yN ld l,vP l.pv l.qa,sP l.qa,vI l.av l.qe,vT l.rv l.qf,vL l.kv l.qk] (fun w' hw=>hw.qn 0 O) ?_
     refine zAc (g:=I1) (sz:=1) (by':=8) (fun _=>O) (l:=l.qe) (l':=[a.id]) qV 10 qN O O O (fun w' hw'=>Vec.sl (Own.holds hw' 2 _ O)) qO qM qQ O (fun v44 hb44_ hk44_=> ?_) (fun v44=> ?_)
     ·refine zE [3,4,0,1] O qM (fun w' hw hS=>zK 15 O hw (a_call O O (fun w' hw=>(y6 ({vv:=cv13_,vs:=F15_.vs,lv:=cw14_,ls:=F15_.ls}:ConfD) v44 (l.qe++[a.id]) w' qP qP (hw.qp 10 O) ⟨(hw.qp 5 O),(hw.qp 6 O)⟩).mono ?_)))
      rintro _ w1 ⟨rfl,hO⟩
      refine O13 ?_ (hw.qi hO)
      refine zE [3,4,0,1] O qM (fun w' hw hS=>zC 16 O (xc (q:=({vv:=cv13_,vs:=F15_.vs,lv:=cw14_,ls:=F15_.ls}:ConfD).qv (l.qe++[a.id])) O) hS (zU ?_))
      exact⟨decide (¬(zc b.vs (es.map EntD.toEntA)).qv (l.qe++[a.id])),⟨O,(congrArg Value.bool (decide_eq_decide.2 (by rw[←hf3_1];exact Iff.rfl))),trivial⟩,decide_eq_true_iff,((Own.vecBack 10 hb44_ hk44_ O hw).qo [7,8,9,10,11,12] O qM).sel [3,4,7,0,1] O qM⟩
     refine zE [3,4,0,1] O qM (fun w' hw hS=>zK 15 O hw (a_call O O (fun w' hw=>(y6 ({vv:=cv13_,vs:=F15_.vs,lv:=cw14_,ls:=F15_.ls}:ConfD) v44 (l.qe++[a.id]) w' qP qP (hw.qp 13 O) ⟨(hw.qp 5 O),(hw.qp 6 O)⟩).mono ?_)))
     rintro _ w1 ⟨rfl,hO⟩
     refine O14 ?_ (hw.qi hO)
     refine zE [3,4,0,1] O qM (fun w' hw hS=>zC 16 O (xc (q:=({vv:=cv13_,vs:=F15_.vs,lv:=cw14_,ls:=F15_.ls}:ConfD).qv (l.qe++[a.id])) O) hS (zU ?_))
     exact⟨decide (¬(zc b.vs (es.map EntD.toEntA)).qv (l.qe++[a.id])),⟨O,(congrArg Value.bool (decide_eq_decide.2 (by rw[←hf3_1];exact Iff.rfl))),trivial⟩,decide_eq_true_iff,(hw.qo [7,8,9,10,11,12] O qM).sel [3,4,8,0,1] O qM⟩
    have hz:=hΦ
    refine zA0 O (fun c3=> ?_) (fun c3=> ?_)
    ·have hq:=hz.1 c3
     refine zB (zD O (a_call O O (fun w' hw=>(zBI cb jb t1 a r b yv qd 0 ld _ ob _ w' qO qO (hw.give [0,2,3] O qM)).mono ?_)))
     rintro _ w1 ⟨xw16_,rfl,hO⟩
     refine O4 ?_ (hw.qg [0,2,3] O hO)
     refine zA (zN (zg [0,1,3] O qM qN (fun w' hw hS=>zC 0 O zT hS (zC 1 O zT hS (zC 2 O (zQ O) hS (zC 3 O (zH (o:=2) O) hS (zC 4 O (zH (o:=0) O) hS (zC 6 O zT hS (zu 5 7 ?_ ?_)))))))))
     ·refine zm 5 O hw (zL 2 (v:=Vi t1.now) O O O O (zE [0,1,3] O qM (fun w' hw hS=>zK 7 O hw (a_call O O (fun w' hw=>(kf cb jb t1 a ({qr:=1,who:=0,qc:=r.qc}:RolD) b (.pointer none) (.slice none 0 0) (pt ob) qd w' ‹_› qO (hw.give [2] O qM)).mono ?_)))))
      rintro _ w1 ⟨rfl,hO⟩
      refine O4 ?_ (hw.qg [2] O hO)
      refine zE [0,1,2] O qM (fun w' hw hS=>zC 8 O (yq O O (zq V)) hS (zC 9 O (zQ O) hS (zC 10 O (zH (o:=2) O) hS (zC 11 O (zH (o:=2) O) hS (zK 12 O hw (zn 3 O O O O O (zE [0,1,2] O qM (fun w' hw hS=>zU ?_))))))))
      refine Oc4 ?_ hw
      exact zV (yJ O (fun w' hw=>⟨({t:={t1 with due:=t1.now+yz a qd},r:=⟨1,0,r.qc⟩,lv:=lv,es:=es,y:=none,yv:= .slice none 0 0,yes:=[]}:NdD),({o with xv:=xw16_,qq:=l.qk.map LookM.id}:OutD),⟨[],[],l.qk.map LookM.id⟩,O,(by unfold kS;dsimp only;rw[←ht1,if_pos hc2,if_pos (show ¬(zc b.vs (es.map EntD.toEntA)).qv (l.er.qe++[a.id])from hq),←e1.1.1];rfl),(List.append_nil _).symm,(List.append_nil _).symm,O,(zl (Own.qG hw) 3 1).sel [3,0,4,5,2] O qM⟩))
     refine zm 7 O hw (a_call O O (fun w' hw=>(kf cb jb t1 a ({qr:=1,who:=0,qc:=r.qc}:RolD) b (.pointer none) (.slice none 0 0) (pt ob) qd w' ‹_› qO (hw.give [2] O qM)).mono ?_))
     rintro _ w1 ⟨rfl,hO⟩
     refine O4 ?_ (hw.qg [2] O hO)
     refine zE [0,1,2] O qM (fun w' hw hS=>zK 5 O hw (zL 3 (v:=Vi t1.now) O O O O (zE [0,1,2] O qM (fun w' hw hS=>zC 8 O (yq O O (zq V)) hS (zC 9 O (zQ O) hS (zC 10 O (zH (o:=2) O) hS (zC 11 O (zH (o:=2) O) hS (zK 12 O hw (zn 3 O O O O O (zE [0,1,2] O qM (fun w' hw hS=>zU ?_)))))))))))
     refine Oc4 ?_ hw
     exact zV (yJ O (fun w' hw=>⟨({t:={t1 with due:=t1.now+yz a qd},r:=⟨1,0,r.qc⟩,lv:=lv,es:=es,y:=none,yv:= .slice none 0 0,yes:=[]}:NdD),({o with xv:=xw16_,qq:=l.qk.map LookM.id}:OutD),⟨[],[],l.qk.map LookM.id⟩,O,(by unfold kS;dsimp only;rw[←ht1,if_pos hc2,if_pos (show ¬(zc b.vs (es.map EntD.toEntA)).qv (l.er.qe++[a.id])from hq),←e1.1.1];rfl),(List.append_nil _).symm,(List.append_nil _).symm,O,(zl (Own.qG hw) 3 1).sel [3,0,4,5,2] O qM⟩))
    have hq:¬ ¬(zc b.vs (es.map EntD.toEntA)).qv (l.qe++[a.id]):=fun q=>by rw[hz.2 q]at c3;cases c3
    refine zO (zg [1,3,4] O qM qN (fun w' hw hS=>zC 0 O zT hS (zC 1 O zT hS (zC 2 O (zQ O) hS (zC 3 O (zH (o:=9) O) hS (zC 5 O zT hS (zC 6 O (zQ O) hS (zC 7 O (zH (o:=2) O) hS (zC 8 O (zH (o:=0) O) hS (zu 4 9 ?_ ?_))))))))))
    ·refine zm 4 O hw (zL 0 (v:=pt ld) O O O O (zE [1,3,4] O qM (fun w' hw hS=>zK 9 O hw (zL 0 (v:=Vi t1.now) O O O O (zE [1,3,4] O qM (fun w' hw hS=>zC 10 O (zQ O) hS (zC 11 O (zH (o:=2) O) hS (zC 12 O (zH (o:=4) O) hS (zK 13 O hw (zn 0 O O O O O (zE [1,3,4] O qM (fun w' hw hS=>zC 14 O (zQ O) hS ?_))))))))))))
     refine zC 15 O (zH (o:=1) O) hS (zK 16 O hw ?_)
     refine z2 [z4 cb ({t1 with qz:=t1.now}:TimD) (pt ld) a r b yv jb qd (pt ob),Res.nl b lv es,Res.ou ob o,vI yv yes,yN ld l,vP l.pv l.qa,sP l.qa,vI l.av l.qe,vT l.rv l.qf,vL l.kv l.qk] (fun w' hw=>hw.qn 2 O) ?_
     refine zn (cs:=(LdD.cells l)) 4 O O O O O (zE [1,2,3] O qM (fun w' hw hS=>zU ?_))
     exact⟨({t1 with qz:=t1.now}:TimD),({l with av:= .slice none 0 0,qe:=[]}:LdD),⟨O,trivial⟩,⟨by unfold kS;dsimp only;rw[←ht1,if_pos hc2,if_neg (show ¬ ¬(zc b.vs (es.map EntD.toEntA)).qv (l.er.qe++[a.id])from hq),←e1.1.1];rfl,⟨e1.1.1,e1.2⟩,⟨hb.qa,hb.each,hb.round,hb.qf,hb.qk,Nat.zero_le _⟩⟩,((zl hw 3 1).qo [4,5,6,10,8,9] O qM).sel [0,1,5,2,3] O qM⟩
    refine zm 9 O hw (zL 0 (v:=Vi t1.now) O O O O (zE [1,3,4] O qM (fun w' hw hS=>zK 4 O hw (zL 0 (v:=pt ld) O O O O (zE [1,3,4] O qM (fun w' hw hS=>zC 10 O (zQ O) hS (zC 11 O (zH (o:=2) O) hS (zC 12 O (zH (o:=4) O) hS (zK 13 O hw (zn 0 O O O O O (zE [1,3,4] O qM (fun w' hw hS=>zC 14 O (zQ O) hS ?_))))))))))))
    refine zC 15 O (zH (o:=1) O) hS (zK 16 O hw ?_)
    refine z2 [z4 cb ({t1 with qz:=t1.now}:TimD) (pt ld) a r b yv jb qd (pt ob),Res.nl b lv es,Res.ou ob o,vI yv yes,yN ld l,vP l.pv l.qa,sP l.qa,vI l.av l.qe,vT l.rv l.qf,vL l.kv l.qk] (fun w' hw=>hw.qn 2 O) ?_
    refine zn (cs:=(LdD.cells l)) 4 O O O O O (zE [1,2,3] O qM (fun w' hw hS=>zU ?_))
    exact⟨({t1 with qz:=t1.now}:TimD),({l with av:= .slice none 0 0,qe:=[]}:LdD),⟨O,trivial⟩,⟨by unfold kS;dsimp only;rw[←ht1,if_pos hc2,if_neg (show ¬ ¬(zc b.vs (es.map EntD.toEntA)).qv (l.er.qe++[a.id])from hq),←e1.1.1];rfl,⟨e1.1.1,e1.2⟩,⟨hb.qa,hb.each,hb.round,hb.qf,hb.qk,Nat.zero_le _⟩⟩,((zl hw 3 1).qo [4,5,6,10,8,9] O qM).sel [0,1,5,2,3] O qM⟩
   have hc2:¬ t.qz+a.base≤t.now:=by omega
   exact yc (fun w' hw=>⟨t1,l,⟨O,trivial⟩,⟨by unfold kS;dsimp only;rw[←ht1,if_neg hc2],⟨e1.1.1,e1.2⟩,hb⟩,hw⟩)
  obtain⟨h7,e7,hb2⟩:=hΦ
  have hb2p:=hb2.qa
  have hb2r:=hb2.qf
  refine yt (fun(l3:LdD)=>[(0,pt cb)]) (fun(l3:LdD)=>l3=if t2.gd≤t2.now then{l2 with give:=0}else l2) (fun(l3:LdD)=>[z4 cb t2 (pt ld) a r b yv jb qd (pt ob),Res.nl b lv es,Res.ld ld l3,Res.ou ob o,vI yv yes]) ?_ (fun l3 g hΦ=> ?_)
  ·refine yX qN qN (zM O zT (zM O (zQ O) (zM O (zH (o:=2) O) (zM O (zH (o:=0) O) (zM O (zZ 0 (v:=Vi t2.now) O O O) (zM O zT (zM O (zQ O) (zM O (zH (o:=2) O) (zM O (zH (o:=5) O) (zM O (zZ 0 (v:=Vi t2.gd) O O O) (zM O (zIY O O) (xk ?_))))))))))))
   refine zY O (fun c4=> ?_) (fun c4=> ?_)
   ·refine zS (zD O (za O O (zJ (o:=9) O O (zL 0 (v:=pt ld) O O O O (za O O (zJ (o:=5) O O ?_))))))
    refine z2 [z4 cb t2 (pt ld) a r b yv jb qd (pt ob),Res.nl b lv es,Res.ou ob o,vI yv yes,yN ld l2,vP l2.pv l2.qa,sP l2.qa,vI l2.av l2.qe,vT l2.rv l2.qf,vL l2.kv l2.qk] (fun w' hw=>hw.qn 2 O) ?_
    refine zn (cs:=(LdD.cells l2)) 4 O O O O O ?_
    exact zd (fun w' hw=>⟨({l2 with give:=0}:LdD),⟨O,trivial⟩,(if_pos c4).symm,(hw.qo [4,5,6,7,8,9] O qM).sel [0,1,4,2,3] O qM⟩)
   exact yc (fun w' hw=>⟨l2,⟨O,trivial⟩,(if_neg c4).symm,hw⟩)
  have h3:=hΦ
  have hb3:l3.bd:=by rw[h3];split;exact⟨hb2.qa,hb2.each,hb2.round,hb2.qf,hb2.qk,hb2.qe⟩;exact hb2
  have hb3p:=hb3.qa
  have hb3r:=hb3.qf
  have h3e:(if t2.gd≤t2.now then{l2.er with give:=0}else l2.er)=l3.er:=by rw[h3];split<;>rfl
  refine yX qN qN (zM O zT (zM O (zQ O) (zM O (zH (o:=2) O) (zM O (zH (o:=0) O) (zM O (zZ 0 (v:=Vi t2.now) O O O) (zM O zT (zM O (zQ O) (zM O (zH (o:=2) O) (zM O (zH (o:=3) O) (zM O (zZ 0 (v:=Vi t2.qE) O O O) (zM O zT (zM O (zQ O) ?_))))))))))))
  refine zM O (zH (o:=11) O) (zM O (zH (o:=6) O) (zM O (zZ 0 (v:=Vi a.beat) O O O) (zM O (yq O O (zq V)) (zM O (zIY O O) (xk (zY O (fun c5=> ?_) (fun c5=> ?_)))))))
  ·refine zS (zD O (a_call O O (fun w' hw=>(zLc cb jb t2 a r b yv qd _ _ ld l3 ob _ w' ‹_› qO qO hb3p qO hb3.each hb3r (hw.give [0,1,2,3] O qM)).mono ?_)))
   rintro _ w1 ⟨mv'17_,rv'18_,ms19_,rfl,hf10_1,hO⟩
   refine O5 ?_ (hw.qg [0,1,2,3] O hO)
   exact zd (yJ O (fun w' hw=>⟨({t:={t2 with qE:=t2.now},r:=r,lv:=lv,es:=es,y:=some (ld,({l3 with qa:=l3.qa.map fun q=>(q.1,yD (es.map EntD.toEntA) q.2),rv:=rv'18_,qf:=l3.qf++[t2.now],sure:=if(zc b.vs (es.map EntD.toEntA)).qv [a.id]then l3.qf.length+1 else l3.sure}:LdD)),yv:=yv,yes:=yes}:NdD),({o with mv:=mv'17_,qj:=o.qj++ms19_}:OutD),⟨ms19_.map MsgD.a,[],[]⟩,O,(by rw[h7];unfold zCp;dsimp only;rw[h3e,if_pos c5,hf10_1];exact zAY zNy),List.map_append,(List.append_nil _).symm,(List.eq_nil_of_length_eq_zero hlo),hw.sel [1,2,3,0,4] O qM⟩))
  exact yc (yJ O (fun w' hw=>⟨({t:=t2,r:=r,lv:=lv,es:=es,y:=some (ld,l3),yv:=yv,yes:=yes}:NdD),o,⟨[],[],[]⟩,O,(by rw[h7];unfold zCp;dsimp only;rw[h3e,if_neg c5];rfl),(List.append_nil _).symm,(List.append_nil _).symm,(List.eq_nil_of_length_eq_zero hlo),hw.sel [0,1,2,4,3] O qM⟩))
def xC(a:StA)(vs0:List Int)(now:Int)(qd:Nat)(n0:NodA):NodA×OutA:=
  let n:=jW now n0
  if n.r.qr=4 then match n.ld with
    |some l=>kS a vs0 qd n l
    |none=>(n,⟨[],[],[]⟩)
  else if n.t.due≤n.t.now then
    let n1:={n with t:={n.t with due:=n.t.now+yz a qd}}
    if((zc vs0 n.E).ok∧a.id∈(zc vs0 n.E).vs)∧n.t.term<4611686018427387904 then zAx (zJl a vs0 qd n1)else(n1,⟨[],[],[]⟩)
  else(n,⟨[],[],[]⟩)
theorem zEH{S:List Nat}(cb jb:Nat)(t:TimD)(a:StA)(r:RolD)(b:StB)(yv:Value)(qd:Nat)(lv:Value)(es:List EntD)(y:Option (Nat×LdD))(yes:List Int)(now:Int)(dr:Nat)(w:World)(hg:(LG 0 0 es).good)(hl:es.length≤100000)(hvl:b.vs.length≤12)(hcm:1≤((zc b.vs (es.map EntD.toEntA)).vs++(zc b.vs (es.map EntD.toEntA)).ls).length∧((zc b.vs (es.map EntD.toEntA)).vs++(zc b.vs (es.map EntD.toEntA)).ls).length≤12)(hH:HandOk t r y yes (LG 0 0 es).end_)(ha:a.ok)(hnw:0≤now∧now≤1000000000000000)(hd:dr<18446744073709551616)(hbt:0≤t.qE∧t.qE≤1000000000000000)(hck:0≤t.qz∧t.qz≤1000000000000000)(hin:Own w S [z4 cb t (xJ y) a r b yv jb qd (.pointer none),Res.nl b lv es,Res.lo y,vI yv yes] w):Rets Tryz.prog 12 #[pt cb,Vi now,Vn dr] w fun u_ w'=>∃ (n:NdD) (o:OutD) (x:OutA),u_= .agg (OutD.cells o).toArray∧(n.a,x)=xC a b.vs now dr {t:=t,r:=r,E:=es.map EntD.toEntA,ld:=y.map fun q=>q.2.er,yes:=yes}∧o.qj.map MsgD.a=x.ms∧o.qx=x.qx∧o.qq=x.qq∧Own w S [z4 cb n.t (xJ n.y) a n.r b n.yv jb dr (.pointer none),Res.nl b n.lv n.es,Res.lo n.y,vI n.yv n.yes,vM o.mv o.qj,sM o.qj,vR o.rv o.qx,vU o.xv o.qq] w':=by
  have hHt:=hH.htm
  have hHn:=hH.hn
  have hw1:=jD (qd:=dr) ha
  have hlb:=(LG.le hg).1
  refine zW Tryz.func12 O Tryz.ntmps12 hin ?_
  refine zB (yE (v:= .agg #[.slice none 0 0, .bool false, .slice none 0 0, .slice none 0 0]) qN O (fun b6=>zA (zN (zB (zD O (xf qN O O O (zA (xt O (zO (zB (zD O (zD O ?_))))))))))))
  refine zD O (a_call O O (fun w' hw=>(zBd cb jb t a r b (xJ y) yv (.pointer none) qd now dr w' (hw.give [0] O qM)).mono ?_))
  rintro _ w1 ⟨ob1_,rfl,hO⟩
  refine O6 ?_ (hw.qg [0] O hO)
  refine zA (j1 (fun(n:NdD) (o':OutD) (x:OutA)=>[(0,pt cb),(6,pt b6)]) (fun(n:NdD) (o':OutD) (x:OutA)=>(n.a,x)=xC a b.vs now dr {t:=t,r:=r,E:=es.map EntD.toEntA,ld:=y.map fun q=>q.2.er,yes:=yes}∧(o'.qj.map MsgD.a=x.ms∧o'.qx=x.qx)∧o'.qq=x.qq) (fun(n:NdD) (o':OutD) (x:OutA)=>[z4 cb n.t (xJ n.y) a n.r b n.yv jb dr (pt ob1_),Res.nl b n.lv n.es,Res.lo n.y,vI n.yv n.yes,Res.ou ob1_ o',Res.row b6 44 [.slice none 0 0, .bool false, .slice none 0 0, .slice none 0 0]]) ?_ (fun n o' x g hΦ=> ?_))
  ·refine zB (zD O (za O O (zJ (o:=21) O O (zL 4 (v:=Vi r.qr) O O O O (yQ O O O (zA (zY O (fun c2=> ?_) (fun c2=> ?_))))))))
   ·obtain⟨⟨ld,l⟩,rfl⟩:=Option.isSome_iff_exists.1 (hH.hro.1 c2)
    have hb:=hH.hld _ rfl
    refine zS (zD O (a_call O O (fun w' hw=>(zLT cb jb ({t with now:=max t.now now}:TimD) a r b yv dr _ _ ob1_ outZ ld _ yes w' ‹_› qO qO (by show 0≤max t.now now∧max t.now now≤_;omega) hbt hck (Nat.zero_le _) O ‹_› qO hb (hw.give [4,0,1,5,2] O qM)).mono ?_)))
    rintro _ w1 ⟨n2_,o'3_,x4_,rfl,hf5_1,hf5_1_1,hf5_1_2,hf5_1_3,hO⟩
    refine O6 ?_ (hw.qg [4,0,1,5,2] O hO)
    exact zd (fun w' hw=>⟨n2_,o'3_,x4_,⟨O,O,trivial⟩,⟨by unfold xC;dsimp only[jW];rw[if_pos c2];exact hf5_1,⟨hf5_1_1.trans (List.nil_append _),hf5_1_2.trans (List.nil_append _)⟩,hf5_1_3⟩,hw.sel [1,2,3,4,5,0] O qM⟩)
   obtain rfl:=zCR hH.hro c2
   refine yX qN qN (zM O zT (zM O (zQ O) (zM O (zH (o:=2) O) (zM O (zH (o:=0) O) (zM O (zZ 4 (v:=Vi (max t.now now)) O O O) (zM O zT (zM O (zQ O) (zM O (zH (o:=2) O) (zM O (zH (o:=2) O) (zM O (zZ 4 (v:=Vi t.due) O O O) (zM O (zIY O O) (xk ?_))))))))))))
   refine zY O (fun c3=> ?_) (fun c3=> ?_)
   ·refine zA2 ([(0,pt cb),(6,pt b6)]) (True) ([z4 cb ({t with now:=max t.now now,due:=max t.now now+yz a dr}:TimD) (.pointer none) a r b yv jb dr (pt ob1_),Res.nl b lv es,Res.lo none,vI yv yes,Res.ou ob1_ outZ,Res.row b6 44 [.slice none 0 0, .bool false, .slice none 0 0, .slice none 0 0]]) ?_ (fun g hΦ=> ?_)
    ·refine zg [0,1,2,3,5] O qM qN (fun w' hw hS=>zC 0 O zT hS (zC 1 O zT hS (zC 2 O (zQ O) hS (zC 3 O (zH (o:=2) O) hS (zC 4 O (zH (o:=0) O) hS (zC 6 O zT hS (zu 5 7 ?_ ?_)))))))
     ·refine zm 5 O hw (zL 4 (v:=Vi (max t.now now)) O O O O (zE [0,1,2,3,5] O qM (fun w' hw hS=>zK 7 O hw (a_call O O (fun w' hw=>(kf cb jb ({t with now:=max t.now now}:TimD) a r b (.pointer none) yv (pt ob1_) dr w' ‹_› qO (hw.give [4] O qM)).mono ?_)))))
      rintro _ w1 ⟨rfl,hO⟩
      refine O6 ?_ (hw.qg [4] O hO)
      refine zE [0,1,2,3,4] O qM (fun w' hw hS=>zC 8 O (yq O O (zq V)) hS (zC 9 O (zQ O) hS (zC 10 O (zH (o:=2) O) hS (zC 11 O (zH (o:=2) O) hS (zK 12 O hw (zn 5 O O O O O (zE [0,1,2,3,4] O qM (fun w' hw hS=>zU ?_))))))))
      exact⟨⟨O,O,trivial⟩,trivial,hw.sel [5,0,1,2,4,3] O qM⟩
     refine zm 7 O hw (a_call O O (fun w' hw=>(kf cb jb ({t with now:=max t.now now}:TimD) a r b (.pointer none) yv (pt ob1_) dr w' ‹_› qO (hw.give [4] O qM)).mono ?_))
     rintro _ w1 ⟨rfl,hO⟩
     refine O6 ?_ (hw.qg [4] O hO)
     refine zE [0,1,2,3,4] O qM (fun w' hw hS=>zK 5 O hw (zL 5 (v:=Vi (max t.now now)) O O O O (zE [0,1,2,3,4] O qM (fun w' hw hS=>zC 8 O (yq O O (zq V)) hS (zC 9 O (zQ O) hS (zC 10 O (zH (o:=2) O) hS (zC 11 O (zH (o:=2) O) hS (zK 12 O hw (zn 5 O O O O O (zE [0,1,2,3,4] O qM (fun w' hw hS=>zU ?_)))))))))))
     exact⟨⟨O,O,trivial⟩,trivial,hw.sel [5,0,1,2,4,3] O qM⟩
    refine zN (zg [0,1,2,3,4,5] O qM qN (fun w' hw hS=>zC 0 O zT hS (zC 2 O zT hS (zC 3 O (zQ O) hS (zC 4 O (zH (o:=10) O) hS (zC 5 O (zZ 0 (v:=Vi a.id) O O O) hS (zK 1 O hw (a_call O O (fun w' hw=>(xe cb jb ({t with now:=max t.now now,due:=max t.now now+yz a dr}:TimD) a r b (.pointer none) yv (pt ob1_) dr _ _ w' ‹_› qO qO (hw.give [0,1] O qM)).mono ?_)))))))))
    rintro _ w1 ⟨cv5_,cw6_,F7_,rfl,hf8_1,hO⟩
    have hFl:F7_.vs.length≤1000∧F7_.ls.length≤1000:=by rw[hf8_1];exact yf V
    refine O8 ?_ (hw.qg [0,1] O hO)
    refine zE [4,5,0,1,2,3] O qM (fun w' hw hS=>zK 6 O hw (a_call O O (fun w' hw=>(zBo ({vv:=cv5_,vs:=F7_.vs,lv:=cw6_,ls:=F7_.ls}:ConfD) a.id w' qP ⟨(hw.qp 6 O),(hw.qp 7 O)⟩).mono ?_)))
    rintro _ w1 ⟨rfl,hO⟩
    refine O8 ?_ (hw.qi hO)
    refine zE [4,5,0,1,2,3] O qM (fun w' hw hS=>zC 7 O zT hS ?_)
    by_cases g8_7:({vv:=cv5_,vs:=F7_.vs,lv:=cw6_,ls:=F7_.ls}:ConfD).ok∧a.id∈({vv:=cv5_,vs:=F7_.vs,lv:=cw6_,ls:=F7_.ls}:ConfD).vs
    ·refine zk 8 O O (gT g8_7) zT hS (zk 9 O O (gT g8_7) (zQ O) hS (zk 10 O O (gT g8_7) (zH (o:=0) O) hS (zk 11 O O (gT g8_7) (zH (o:=0) O) hS (zk 12 O O (gT g8_7) (zZ 0 (v:=Vn t.term) O O O) hS (zk 13 O O (gT g8_7) (zDR O O) hS (zC 14 O (yl (gT g8_7)) hS (zU ?_)))))))
     refine Oc8 ?_ hw
     refine zY O (fun c4=> ?_) (fun c4=> ?_)
     ·have hq:(zc b.vs (es.map EntD.toEntA)).ok∧a.id∈(zc b.vs (es.map EntD.toEntA)).vs:=by rw[←hf8_1];exact g8_7
      refine zS (zD O (a_call O O (fun w' hw=>(zQd cb jb ({t with now:=max t.now now,due:=max t.now now+yz a dr}:TimD) a r b yv dr _ _ ob1_ outZ yes w' ‹_› qO qO qS qP hH.hen (by show 0≤max t.now now∧max t.now now≤_;omega) (Nat.zero_le _) ‹_› qO (hw.give [4,5,2] O qM)).mono ?_)))
      rintro _ w1 ⟨n8_,mv'9_,ms10_,rfl,hf9_1,hO⟩
      refine O10 ?_ (hw.qg [4,5,2] O hO)
      exact zd (fun w' hw=>⟨n8_,({outZ with mv:=mv'9_,qj:=outZ.qj++ms10_}:OutD),⟨ms10_.map MsgD.a,[],[]⟩,⟨O,O,trivial⟩,⟨by unfold xC;dsimp only[jW];rw[if_neg c2,if_pos c3,if_pos ⟨hq,by omega⟩];exact zAY hf9_1,⟨O,O⟩,O⟩,hw.sel [5,6,7,8,9,2] O qM⟩)
     exact yc (fun w' hw=>⟨({t:=({t with now:=max t.now now,due:=max t.now now+yz a dr}:TimD),r:=r,lv:=lv,es:=es,y:=none,yv:=yv,yes:=yes}:NdD),outZ,⟨[],[],[]⟩,⟨O,O,trivial⟩,⟨by unfold xC;dsimp only[jW];rw[if_neg c2,if_pos c3,if_neg (fun q=>c4 (by have h:=q.2;omega))];rfl,⟨O,O⟩,O⟩,hw.sel [4,5,0,1,2,3] O qM⟩)
    refine zb 8 O O (gF g8_7) O hS (zb 9 O O (gF g8_7) O hS (zb 10 O O (gF g8_7) O hS (zb 11 O O (gF g8_7) O hS (zb 12 O O (gF g8_7) O hS (zb 13 O O (gF g8_7) O hS (zC 14 O (yS (gF g8_7)) hS (zU ?_)))))))
    refine Oc8 ?_ hw
    refine xt O ?_
    exact yc (fun w' hw=>⟨({t:=({t with now:=max t.now now,due:=max t.now now+yz a dr}:TimD),r:=r,lv:=lv,es:=es,y:=none,yv:=yv,yes:=yes}:NdD),outZ,⟨[],[],[]⟩,⟨O,O,trivial⟩,⟨by unfold xC;dsimp only[jW];rw[if_neg c2,if_pos c3,if_neg (fun q=>g8_7 (by have h:=q.1;rw[←hf8_1]at h;exact h))];rfl,⟨O,O⟩,O⟩,hw.sel [4,5,0,1,2,3] O qM⟩)
   exact yc (fun w' hw=>⟨({t:=({t with now:=max t.now now}:TimD),r:=r,lv:=lv,es:=es,y:=none,yv:=yv,yes:=yes}:NdD),outZ,⟨[],[],[]⟩,⟨O,O,trivial⟩,⟨by unfold xC;dsimp only[jW];rw[if_neg c2,if_neg c3];rfl,⟨O,O⟩,O⟩,hw.sel [4,0,1,2,5,3] O qM⟩)
  have hI:=hΦ
  refine zB (zD O (a_call O O (fun w' hw=>(jR cb jb n.t a n.r b (xJ n.y) n.yv dr ob1_ o' w' (hw.give [0,4] O qM)).mono ?_)))
  rintro _ w1 ⟨rfl,hO⟩
  refine O9 ?_ (hw.qg [0,4] O hO)
  refine zP (fun w' hw=>Own.qh (i:=5) O hw) (fun hc1_=> ?_)
  refine zP (fun w' hw=>Own.qh (i:=7) O hw) (fun hc2_=> ?_)
  refine zP (fun w' hw=>Own.qh (i:=8) O hw) (fun hc3_=> ?_)
  refine zr 3 O O O (zF hc1_ (zF O (zF hc2_ (zF hc3_ zj)))) O (zA ?_)
  exact zV (jj (cs:=(OutD.cells o')) O O qN (Own.qt (i:=3) O) (fun w' hw=>⟨n,o',x,O,hI.1,hI.2.1.1,hI.2.1.2,hI.2.2,hw.sel [4,0,1,2,5,6,7,8] O qM⟩))
end Go.Proofs.YtkkeknmkipkbmaaGreat
