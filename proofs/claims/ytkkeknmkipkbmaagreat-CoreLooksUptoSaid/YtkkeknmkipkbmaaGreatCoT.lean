import Derived.Test.YtkkeknmkipkbmaaGreatCoR
set_option linter.unusedSectionVars false
set_option linter.unusedSimpArgs false
set_option linter.unusedVariables false
set_option maxRecDepth 10000
namespace Go.Proofs.YtkkeknmkipkbmaaGreat
open Go Go.Sc Go.Proofs
def zGY(a:StA)(vs0:List Int)(n:NodA)(l:LdD):NodA×List MsgA:=
  ({n with t:={n.t with qE:=n.t.now},ld:=some {l with qa:=l.qa.map (fun q=>(q.1,yG n.E q.2)),qd:=l.qd++[n.t.now],sure:=if(zc vs0 n.E).qv [a.id]then l.qd.length+1 else l.sure}},jR (zAI a n.t.term n.r.qc (l.qd.length+1) n.E) l.qa)
def zDA(a:StA)(vs0:List Int)(n:NodA)(l:LdD):NodA×OutA:=
  let l1:=if n.t.gd≤n.t.now then{l with give:=0}else l
  if n.t.qE+a.beat≤n.t.now then zBA (zGY a vs0 n l1)else({n with ld:=some l1},⟨[],[],[]⟩)
def kc(a:StA)(vs0:List Int)(qe:Nat)(n:NodA)(l:LdD):NodA×OutA:=
  let t1:=if(zc vs0 n.E).qv [a.id]then{n.t with qA:=n.t.now}else n.t
  if n.t.qz+a.base≤n.t.now then
    if ¬(zc vs0 n.E).qv (l.qf++[a.id])then({n with t:={t1 with due:=n.t.now+y4 a qe},r:=⟨1,0,n.r.qc⟩,ld:=none,yes:=[]},⟨[],[],l.qj.map LookM.id⟩)
    else zDA a vs0 {n with t:={t1 with qz:=n.t.now}} {l with qf:=[]}
  else zDA a vs0 {n with t:=t1} l
theorem zIM{a:StA}{vs0:List Int}{t2:TimD}{r:RolD}{lv yv rv:Value}{es:List EntD}{ld:Nat}{l3:LdD}{yes:List Int}{x:Option LdD}:((({t:={t2 with qE:=t2.now},r:=r,lv:=lv,es:=es,y:=some (ld,{l3 with qa:=l3.qa.map fun q=>(q.1,yG (es.map EntD.toEntA) q.2),rv:=rv,qd:=l3.qd++[t2.now],sure:=if(zc vs0 (es.map EntD.toEntA)).qv [a.id]then l3.qd.length+1 else l3.sure}),yv:=yv,yes:=yes}:NdD).a,jR (zAI a t2.term r.qc (l3.qd.length+1) (es.map EntD.toEntA)) l3.qa):NodA×List MsgA)=zGY a vs0 {t:=t2,r:=r,E:=es.map EntD.toEntA,ld:=x,yes:=yes} l3.er:=by
  unfold zGY NdD.a LdD.er
  dsimp only
  rw[zFD,Option.map_some,zGw]
theorem zL7{S:List Nat}(cb jb:Nat)(t:TimD)(a:StA)(r:RolD)(b:StB)(yv:Value)(qe:Nat)(lv:Value)(es:List EntD)(ob:Nat)(o:OutD)(ld:Nat)(l:LdD)(yes:List Int)(w:World)(hg:(LG 0 0 es).good)(hl:es.length≤100000)(hvl:b.vs.length≤12)(hn:0≤t.now∧t.now≤1000000000000000)(hbt:0≤t.qE∧t.qE≤1000000000000000)(hck:0≤t.qz∧t.qz≤1000000000000000)(ho:o.qk.length≤1000)(hlo:o.qt.length=0)(ha:a.ok)(hd:qe<18446744073709551616)(hb:l.bd)(hin:Own w S [z7 cb t (pt ld) a r b yv jb qe (pt ob),Res.nl b lv es,Res.ld ld l,Res.ou ob o,vI yv yes] w):Rets Tryz.prog 34 #[pt cb] w fun u_ w'=>∃ (n:NdD) (o':OutD) (x:OutA),u_= .tuple #[]∧(n.a,x)=kc a b.vs qe {t:=t,r:=r,E:=es.map EntD.toEntA,ld:=some l.er,yes:=yes} l.er∧o'.qk.map MsgD.a=o.qk.map MsgD.a++x.ms∧o'.qw=o.qw++x.qw∧o'.qt=x.qt∧Own w S [z7 cb n.t (xF n.y) a n.r b n.yv jb qe (pt ob),Res.nl b n.lv n.es,Res.lo n.y,vI n.yv n.yes,Res.ou ob o'] w':=by
  have hbp:=hb.qa
  have hba:=hb.qf
  have hbr:=hb.qd
  have hbk:=hb.qj
  have hw1:=jL (qe:=qe) ha
  have hbs:=ha.base
  have hbe:=ha.beat
  have hlb:=(LG.le hg).1
  refine zW Tryz.func34 O Tryz.ntmps34 hin ?_
  refine yt (fun(t1:TimD)=>[(0,pt cb)]) (fun(t1:TimD)=>t1=if(zc b.vs (es.map EntD.toEntA)).qv [a.id]then{t with qA:=t.now}else t) (fun(t1:TimD)=>[z7 cb t1 (pt ld) a r b yv jb qe (pt ob),Res.nl b lv es,Res.ld ld l,Res.ou ob o,vI yv yes]) ?_ (fun t1 g hΦ=> ?_)
  ·refine zC (zD O (a_call O O (fun w' hw=>(zBe cb jb t a r b (pt ld) yv (pt ob) qe _ _ w' ‹_› qO qO (hw.give [0,1] O qM)).mono ?_)))
   rintro _ w1 ⟨rfl,hO⟩
   refine O5 ?_ (hw.qh [0,1] O hO)
   refine zA (za O (fun c1=> ?_) (fun c1=> ?_))
   ·refine zV (zD O (zD O (zb O O (zK (o:=2) O O (zK (o:=0) O O (zM 3 (v:=Vi t.now) O O O O (zb O O (zK (o:=2) O O (zK (o:=1) O O (zn 3 O O O O O ?_))))))))))
    exact zg (fun w' hw=>⟨({t with qA:=t.now}:TimD),⟨O,trivial⟩,(if_pos c1).symm,hw.sel [3,4,0,1,2] O qM⟩)
   exact yZ (fun w' hw=>⟨t,⟨O,trivial⟩,(if_neg c1).symm,hw.sel [3,4,0,1,2] O qM⟩)
  have ht1:=hΦ
  have e1:(t1.now=t.now∧t1.qz=t.qz)∧t1.qE=t.qE:=by rw[ht1];split<;>exact⟨⟨rfl,rfl⟩,rfl⟩
  refine j9 (fun(t2:TimD) (l2:LdD)=>[(0,pt cb)]) (fun(t2:TimD) (l2:LdD)=>kc a b.vs qe {t:=t,r:=r,E:=es.map EntD.toEntA,ld:=some l.er,yes:=yes} l.er=zDA a b.vs {t:=t2,r:=r,E:=es.map EntD.toEntA,ld:=some l.er,yes:=yes} l2.er∧(t2.now=t.now∧t2.qE=t.qE)∧l2.bd) (fun(t2:TimD) (l2:LdD)=>[z7 cb t2 (pt ld) a r b yv jb qe (pt ob),Res.nl b lv es,Res.ld ld l2,Res.ou ob o,vI yv yes]) ?_ (fun t2 l2 g hΦ=> ?_)
  ·refine yb qN qN (zL O zS (zL O (zO O) (zL O (zH (o:=2) O) (zL O (zH (o:=0) O) (zL O (zY 0 (v:=Vi t1.now) O O O) (zL O zS (zL O (zO O) (zL O (zH (o:=2) O) (zL O (zH (o:=4) O) (zL O (zY 0 (v:=Vi t1.qz) O O O) (zL O zS (zL O (zO O) ?_))))))))))))
   refine zL O (zH (o:=11) O) (zL O (zH (o:=4) O) (zL O (zY 0 (v:=Vi a.base) O O O) (zL O (yr O O (zr V)) (zL O (zIo O O) (xi (za O (fun c2=> ?_) (fun c2=> ?_)))))))
   ·have hc2:t.qz+a.base≤t.now:=by omega
    refine zP (yt (fun(zz:Bool)=>[(0,pt cb),(46, .bool zz)]) (fun(zz:Bool)=>zz=true↔¬(zc b.vs (es.map EntD.toEntA)).qv (l.qf++[a.id])) (fun(zz:Bool)=>[z7 cb t1 (pt ld) a r b yv jb qe (pt ob),Res.nl b lv es,Res.ld ld l,Res.ou ob o,vI yv yes]) ?_ (fun zz g hΦ=> ?_))
    ·refine ze [0,1,3,4] O qM qN (fun w' hw hS=>zB 0 O zS hS (zB 2 O zS hS (zB 3 O (zO O) hS (zB 4 O (zH (o:=9) O) hS (zB 5 O (zY 0 (v:=pt ld) O O O) hS (zB 6 O (zO O) hS (zB 7 O (zH (o:=1) O) hS (zB 9 O zS hS (zB 10 O (zO O) hS (zB 11 O (zH (o:=10) O) hS (zB 12 O (zY 0 (v:=Vi a.id) O O O) hS (zIK (i:=1) (j:=8) (k:=13) qN ?_ ?_ ?_))))))))))))
     ·refine zl 1 O hw (a_call O O (fun w' hw=>(xq cb jb t1 a r b (pt ld) yv (pt ob) qe _ _ w' ‹_› qO qO (hw.give [0,1] O qM)).mono ?_))
      rintro _ w1 ⟨cv1_,cw2_,F3_,rfl,hf3_1,hO⟩
      have hFl:F3_.vs.length≤1000∧F3_.ls.length≤1000:=by rw[hf3_1];exact yi V
      refine O7 ?_ (hw.qh [0,1] O hO)
      refine zE [3,4,1,2] O qM (fun w' hw hS=>zq 8 13 ?_ ?_)
      ·refine zl 8 O hw (z6 (v:=l.av) 0 0 1 O O O O qN O (zE [3,4,1,2] O qM (fun w' hw hS=>zJ 13 O hw (zx (e:=3) (sz:=1) (vs:=[Vi a.id]) qN O O qR qM O (fun b43=>zE [3,4,1,2] O qM (fun w' hw hS=>zJ 14 O hw ?_))))))
       refine z4 [Res.ou ob o,vI yv yes,z7 cb t1 (pt ld) a r b yv jb qe (pt ob),Res.nl b lv es,vI cv1_ F3_.vs,vI cw2_ F3_.ls,vI (.slice (some ⟨b43,0,none⟩) 1 1) [a.id],yP ld l,vP l.pv l.qa,sP l.qa,vI l.av l.qf,vT l.rv l.qd,vL l.kv l.qj] (fun w' hw=>hw.qn 0 O) ?_
       refine zAp (g:=I1) (sz:=1) (by':=8) (fun _=>O) (l:=l.qf) (l':=[a.id]) qV 10 qN O O O (fun w' hw'=>Vec.sl (Own.holds hw' 6 _ O)) qO qM qQ O (fun v44 hb44_ hk44_=> ?_) (fun v44=> ?_)
       ·refine zE [2,3,0,1] O qM (fun w' hw hS=>zJ 15 O hw (a_call O O (fun w' hw=>(xD ({vv:=cv1_,vs:=F3_.vs,lv:=cw2_,ls:=F3_.ls}:ConfD) v44 (l.qf++[a.id]) w' qP qP (hw.qq 10 O) ⟨(hw.qq 4 O),(hw.qq 5 O)⟩).mono ?_)))
        rintro _ w1 ⟨rfl,hO⟩
        refine O13 ?_ (hw.qi hO)
        refine zE [2,3,0,1] O qM (fun w' hw hS=>zB 16 O (xr (q:=({vv:=cv1_,vs:=F3_.vs,lv:=cw2_,ls:=F3_.ls}:ConfD).qv (l.qf++[a.id])) O) hS (zT ?_))
        exact⟨decide (¬(zc b.vs (es.map EntD.toEntA)).qv (l.qf++[a.id])),⟨O,(congrArg Value.bool (decide_eq_decide.2 (by rw[←hf3_1];exact Iff.rfl))),trivial⟩,decide_eq_true_iff,((Own.vecBack 10 hb44_ hk44_ O hw).qo [7,8,9,10,11,12] O qM).sel [2,3,7,0,1] O qM⟩
       refine zE [2,3,0,1] O qM (fun w' hw hS=>zJ 15 O hw (a_call O O (fun w' hw=>(xD ({vv:=cv1_,vs:=F3_.vs,lv:=cw2_,ls:=F3_.ls}:ConfD) v44 (l.qf++[a.id]) w' qP qP (hw.qq 13 O) ⟨(hw.qq 4 O),(hw.qq 5 O)⟩).mono ?_)))
       rintro _ w1 ⟨rfl,hO⟩
       refine O14 ?_ (hw.qi hO)
       refine zE [2,3,0,1] O qM (fun w' hw hS=>zB 16 O (xr (q:=({vv:=cv1_,vs:=F3_.vs,lv:=cw2_,ls:=F3_.ls}:ConfD).qv (l.qf++[a.id])) O) hS (zT ?_))
       exact⟨decide (¬(zc b.vs (es.map EntD.toEntA)).qv (l.qf++[a.id])),⟨O,(congrArg Value.bool (decide_eq_decide.2 (by rw[←hf3_1];exact Iff.rfl))),trivial⟩,decide_eq_true_iff,(hw.qo [7,8,9,10,11,12] O qM).sel [2,3,8,0,1] O qM⟩
      refine zl 13 O hw (zx (e:=3) (sz:=1) (vs:=[Vi a.id]) qN O O qR qM O (fun b43=>zE [3,4,1,2] O qM (fun w' hw hS=>zJ 8 O hw (z6 (v:=l.av) 0 0 1 O O O O qN O (zE [3,4,1,2] O qM (fun w' hw hS=>zJ 14 O hw ?_))))))
      refine z4 [Res.ou ob o,vI yv yes,z7 cb t1 (pt ld) a r b yv jb qe (pt ob),Res.nl b lv es,vI cv1_ F3_.vs,vI cw2_ F3_.ls,vI (.slice (some ⟨b43,0,none⟩) 1 1) [a.id],yP ld l,vP l.pv l.qa,sP l.qa,vI l.av l.qf,vT l.rv l.qd,vL l.kv l.qj] (fun w' hw=>hw.qn 0 O) ?_
      refine zAp (g:=I1) (sz:=1) (by':=8) (fun _=>O) (l:=l.qf) (l':=[a.id]) qV 10 qN O O O (fun w' hw'=>Vec.sl (Own.holds hw' 6 _ O)) qO qM qQ O (fun v44 hb44_ hk44_=> ?_) (fun v44=> ?_)
      ·refine zE [2,3,0,1] O qM (fun w' hw hS=>zJ 15 O hw (a_call O O (fun w' hw=>(xD ({vv:=cv1_,vs:=F3_.vs,lv:=cw2_,ls:=F3_.ls}:ConfD) v44 (l.qf++[a.id]) w' qP qP (hw.qq 10 O) ⟨(hw.qq 4 O),(hw.qq 5 O)⟩).mono ?_)))
       rintro _ w1 ⟨rfl,hO⟩
       refine O13 ?_ (hw.qi hO)
       refine zE [2,3,0,1] O qM (fun w' hw hS=>zB 16 O (xr (q:=({vv:=cv1_,vs:=F3_.vs,lv:=cw2_,ls:=F3_.ls}:ConfD).qv (l.qf++[a.id])) O) hS (zT ?_))
       exact⟨decide (¬(zc b.vs (es.map EntD.toEntA)).qv (l.qf++[a.id])),⟨O,(congrArg Value.bool (decide_eq_decide.2 (by rw[←hf3_1];exact Iff.rfl))),trivial⟩,decide_eq_true_iff,((Own.vecBack 10 hb44_ hk44_ O hw).qo [7,8,9,10,11,12] O qM).sel [2,3,7,0,1] O qM⟩
      refine zE [2,3,0,1] O qM (fun w' hw hS=>zJ 15 O hw (a_call O O (fun w' hw=>(xD ({vv:=cv1_,vs:=F3_.vs,lv:=cw2_,ls:=F3_.ls}:ConfD) v44 (l.qf++[a.id]) w' qP qP (hw.qq 13 O) ⟨(hw.qq 4 O),(hw.qq 5 O)⟩).mono ?_)))
      rintro _ w1 ⟨rfl,hO⟩
      refine O14 ?_ (hw.qi hO)
      refine zE [2,3,0,1] O qM (fun w' hw hS=>zB 16 O (xr (q:=({vv:=cv1_,vs:=F3_.vs,lv:=cw2_,ls:=F3_.ls}:ConfD).qv (l.qf++[a.id])) O) hS (zT ?_))
      exact⟨decide (¬(zc b.vs (es.map EntD.toEntA)).qv (l.qf++[a.id])),⟨O,(congrArg Value.bool (decide_eq_decide.2 (by rw[←hf3_1];exact Iff.rfl))),trivial⟩,decide_eq_true_iff,(hw.qo [7,8,9,10,11,12] O qM).sel [2,3,8,0,1] O qM⟩
     ·refine zl 8 O hw (z6 (v:=l.av) 2 0 1 O O O O qN O (zE [0,1,3,4] O qM (fun w' hw hS=>zq 1 13 ?_ ?_)))
      ·refine zl 1 O hw (a_call O O (fun w' hw=>(xq cb jb t1 a r b (pt ld) yv (pt ob) qe _ _ w' ‹_› qO qO (hw.give [0,1] O qM)).mono ?_))
       rintro _ w1 ⟨cv4_,cw5_,F6_,rfl,hf3_1,hO⟩
       have hFl:F6_.vs.length≤1000∧F6_.ls.length≤1000:=by rw[hf3_1];exact yi V
       refine O7 ?_ (hw.qh [0,1] O hO)
       refine zE [3,4,1,2] O qM (fun w' hw hS=>zJ 13 O hw (zx (e:=3) (sz:=1) (vs:=[Vi a.id]) qN O O qR qM O (fun b43=>zE [3,4,1,2] O qM (fun w' hw hS=>zJ 14 O hw ?_))))
       refine z4 [Res.ou ob o,vI yv yes,z7 cb t1 (pt ld) a r b yv jb qe (pt ob),Res.nl b lv es,vI cv4_ F6_.vs,vI cw5_ F6_.ls,vI (.slice (some ⟨b43,0,none⟩) 1 1) [a.id],yP ld l,vP l.pv l.qa,sP l.qa,vI l.av l.qf,vT l.rv l.qd,vL l.kv l.qj] (fun w' hw=>hw.qn 0 O) ?_
       refine zAp (g:=I1) (sz:=1) (by':=8) (fun _=>O) (l:=l.qf) (l':=[a.id]) qV 10 qN O O O (fun w' hw'=>Vec.sl (Own.holds hw' 6 _ O)) qO qM qQ O (fun v44 hb44_ hk44_=> ?_) (fun v44=> ?_)
       ·refine zE [2,3,0,1] O qM (fun w' hw hS=>zJ 15 O hw (a_call O O (fun w' hw=>(xD ({vv:=cv4_,vs:=F6_.vs,lv:=cw5_,ls:=F6_.ls}:ConfD) v44 (l.qf++[a.id]) w' qP qP (hw.qq 10 O) ⟨(hw.qq 4 O),(hw.qq 5 O)⟩).mono ?_)))
        rintro _ w1 ⟨rfl,hO⟩
        refine O13 ?_ (hw.qi hO)
        refine zE [2,3,0,1] O qM (fun w' hw hS=>zB 16 O (xr (q:=({vv:=cv4_,vs:=F6_.vs,lv:=cw5_,ls:=F6_.ls}:ConfD).qv (l.qf++[a.id])) O) hS (zT ?_))
        exact⟨decide (¬(zc b.vs (es.map EntD.toEntA)).qv (l.qf++[a.id])),⟨O,(congrArg Value.bool (decide_eq_decide.2 (by rw[←hf3_1];exact Iff.rfl))),trivial⟩,decide_eq_true_iff,((Own.vecBack 10 hb44_ hk44_ O hw).qo [7,8,9,10,11,12] O qM).sel [2,3,7,0,1] O qM⟩
       refine zE [2,3,0,1] O qM (fun w' hw hS=>zJ 15 O hw (a_call O O (fun w' hw=>(xD ({vv:=cv4_,vs:=F6_.vs,lv:=cw5_,ls:=F6_.ls}:ConfD) v44 (l.qf++[a.id]) w' qP qP (hw.qq 13 O) ⟨(hw.qq 4 O),(hw.qq 5 O)⟩).mono ?_)))
       rintro _ w1 ⟨rfl,hO⟩
       refine O14 ?_ (hw.qi hO)
       refine zE [2,3,0,1] O qM (fun w' hw hS=>zB 16 O (xr (q:=({vv:=cv4_,vs:=F6_.vs,lv:=cw5_,ls:=F6_.ls}:ConfD).qv (l.qf++[a.id])) O) hS (zT ?_))
       exact⟨decide (¬(zc b.vs (es.map EntD.toEntA)).qv (l.qf++[a.id])),⟨O,(congrArg Value.bool (decide_eq_decide.2 (by rw[←hf3_1];exact Iff.rfl))),trivial⟩,decide_eq_true_iff,(hw.qo [7,8,9,10,11,12] O qM).sel [2,3,8,0,1] O qM⟩
      refine zl 13 O hw (zx (e:=3) (sz:=1) (vs:=[Vi a.id]) qN O O qR qM O (fun b43=>zE [0,1,3,4] O qM (fun w' hw hS=>zJ 1 O hw (a_call O O (fun w' hw=>(xq cb jb t1 a r b (pt ld) yv (pt ob) qe _ _ w' ‹_› qO qO (hw.give [0,1] O qM)).mono ?_)))))
      rintro _ w1 ⟨cv7_,cw8_,F9_,rfl,hf3_1,hO⟩
      have hFl:F9_.vs.length≤1000∧F9_.ls.length≤1000:=by rw[hf3_1];exact yi V
      refine O8 ?_ (hw.qh [0,1] O hO)
      refine zE [4,5,1,2] O qM (fun w' hw hS=>zJ 14 O hw ?_)
      refine z4 [Res.ou ob o,vI yv yes,vI (.slice (some ⟨b43,0,none⟩) 1 1) [a.id],z7 cb t1 (pt ld) a r b yv jb qe (pt ob),Res.nl b lv es,vI cv7_ F9_.vs,vI cw8_ F9_.ls,yP ld l,vP l.pv l.qa,sP l.qa,vI l.av l.qf,vT l.rv l.qd,vL l.kv l.qj] (fun w' hw=>hw.qn 0 O) ?_
      refine zAp (g:=I1) (sz:=1) (by':=8) (fun _=>O) (l:=l.qf) (l':=[a.id]) qV 10 qN O O O (fun w' hw'=>Vec.sl (Own.holds hw' 2 _ O)) qO qM qQ O (fun v44 hb44_ hk44_=> ?_) (fun v44=> ?_)
      ·refine zE [3,4,0,1] O qM (fun w' hw hS=>zJ 15 O hw (a_call O O (fun w' hw=>(xD ({vv:=cv7_,vs:=F9_.vs,lv:=cw8_,ls:=F9_.ls}:ConfD) v44 (l.qf++[a.id]) w' qP qP (hw.qq 10 O) ⟨(hw.qq 5 O),(hw.qq 6 O)⟩).mono ?_)))
       rintro _ w1 ⟨rfl,hO⟩
       refine O13 ?_ (hw.qi hO)
       refine zE [3,4,0,1] O qM (fun w' hw hS=>zB 16 O (xr (q:=({vv:=cv7_,vs:=F9_.vs,lv:=cw8_,ls:=F9_.ls}:ConfD).qv (l.qf++[a.id])) O) hS (zT ?_))
       exact⟨decide (¬(zc b.vs (es.map EntD.toEntA)).qv (l.qf++[a.id])),⟨O,(congrArg Value.bool (decide_eq_decide.2 (by rw[←hf3_1];exact Iff.rfl))),trivial⟩,decide_eq_true_iff,((Own.vecBack 10 hb44_ hk44_ O hw).qo [7,8,9,10,11,12] O qM).sel [3,4,7,0,1] O qM⟩
      refine zE [3,4,0,1] O qM (fun w' hw hS=>zJ 15 O hw (a_call O O (fun w' hw=>(xD ({vv:=cv7_,vs:=F9_.vs,lv:=cw8_,ls:=F9_.ls}:ConfD) v44 (l.qf++[a.id]) w' qP qP (hw.qq 13 O) ⟨(hw.qq 5 O),(hw.qq 6 O)⟩).mono ?_)))
      rintro _ w1 ⟨rfl,hO⟩
      refine O14 ?_ (hw.qi hO)
      refine zE [3,4,0,1] O qM (fun w' hw hS=>zB 16 O (xr (q:=({vv:=cv7_,vs:=F9_.vs,lv:=cw8_,ls:=F9_.ls}:ConfD).qv (l.qf++[a.id])) O) hS (zT ?_))
      exact⟨decide (¬(zc b.vs (es.map EntD.toEntA)).qv (l.qf++[a.id])),⟨O,(congrArg Value.bool (decide_eq_decide.2 (by rw[←hf3_1];exact Iff.rfl))),trivial⟩,decide_eq_true_iff,(hw.qo [7,8,9,10,11,12] O qM).sel [3,4,8,0,1] O qM⟩
     refine zl 13 O hw (zx (e:=3) (sz:=1) (vs:=[Vi a.id]) qN O O qR qM O (fun b43=>zE [0,1,3,4] O qM (fun w' hw hS=>zq 1 8 ?_ ?_)))
     ·refine zl 1 O hw (a_call O O (fun w' hw=>(xq cb jb t1 a r b (pt ld) yv (pt ob) qe _ _ w' ‹_› qO qO (hw.give [0,1] O qM)).mono ?_))
      rintro _ w1 ⟨cv10_,cw11_,F12_,rfl,hf3_1,hO⟩
      have hFl:F12_.vs.length≤1000∧F12_.ls.length≤1000:=by rw[hf3_1];exact yi V
      refine O8 ?_ (hw.qh [0,1] O hO)
      refine zE [4,5,1,2] O qM (fun w' hw hS=>zJ 8 O hw (z6 (v:=l.av) 0 0 1 O O O O qN O (zE [4,5,1,2] O qM (fun w' hw hS=>zJ 14 O hw ?_))))
      refine z4 [Res.ou ob o,vI yv yes,vI (.slice (some ⟨b43,0,none⟩) 1 1) [a.id],z7 cb t1 (pt ld) a r b yv jb qe (pt ob),Res.nl b lv es,vI cv10_ F12_.vs,vI cw11_ F12_.ls,yP ld l,vP l.pv l.qa,sP l.qa,vI l.av l.qf,vT l.rv l.qd,vL l.kv l.qj] (fun w' hw=>hw.qn 0 O) ?_
      refine zAp (g:=I1) (sz:=1) (by':=8) (fun _=>O) (l:=l.qf) (l':=[a.id]) qV 10 qN O O O (fun w' hw'=>Vec.sl (Own.holds hw' 2 _ O)) qO qM qQ O (fun v44 hb44_ hk44_=> ?_) (fun v44=> ?_)
      ·refine zE [3,4,0,1] O qM (fun w' hw hS=>zJ 15 O hw (a_call O O (fun w' hw=>(xD ({vv:=cv10_,vs:=F12_.vs,lv:=cw11_,ls:=F12_.ls}:ConfD) v44 (l.qf++[a.id]) w' qP qP (hw.qq 10 O) ⟨(hw.qq 5 O),(hw.qq 6 O)⟩).mono ?_)))
       rintro _ w1 ⟨rfl,hO⟩
       refine O13 ?_ (hw.qi hO)
       refine zE [3,4,0,1] O qM (fun w' hw hS=>zB 16 O (xr (q:=({vv:=cv10_,vs:=F12_.vs,lv:=cw11_,ls:=F12_.ls}:ConfD).qv (l.qf++[a.id])) O) hS (zT ?_))
       exact⟨decide (¬(zc b.vs (es.map EntD.toEntA)).qv (l.qf++[a.id])),⟨O,(congrArg Value.bool (decide_eq_decide.2 (by rw[←hf3_1];exact Iff.rfl))),trivial⟩,decide_eq_true_iff,((Own.vecBack 10 hb44_ hk44_ O hw).qo [7,8,9,10,11,12] O qM).sel [3,4,7,0,1] O qM⟩
      refine zE [3,4,0,1] O qM (fun w' hw hS=>zJ 15 O hw (a_call O O (fun w' hw=>(xD ({vv:=cv10_,vs:=F12_.vs,lv:=cw11_,ls:=F12_.ls}:ConfD) v44 (l.qf++[a.id]) w' qP qP (hw.qq 13 O) ⟨(hw.qq 5 O),(hw.qq 6 O)⟩).mono ?_)))
      rintro _ w1 ⟨rfl,hO⟩
      refine O14 ?_ (hw.qi hO)
      refine zE [3,4,0,1] O qM (fun w' hw hS=>zB 16 O (xr (q:=({vv:=cv10_,vs:=F12_.vs,lv:=cw11_,ls:=F12_.ls}:ConfD).qv (l.qf++[a.id])) O) hS (zT ?_))
      exact⟨decide (¬(zc b.vs (es.map EntD.toEntA)).qv (l.qf++[a.id])),⟨O,(congrArg Value.bool (decide_eq_decide.2 (by rw[←hf3_1];exact Iff.rfl))),trivial⟩,decide_eq_true_iff,(hw.qo [7,8,9,10,11,12] O qM).sel [3,4,8,0,1] O qM⟩
     refine zl 8 O hw (z6 (v:=l.av) 2 0 1 O O O O qN O (zE [0,1,3,4] O qM (fun w' hw hS=>zJ 1 O hw (a_call O O (fun w' hw=>(xq cb jb t1 a r b (pt ld) yv (pt ob) qe _ _ w' ‹_› qO qO (hw.give [0,1] O qM)).mono ?_)))))
     rintro _ w1 ⟨cv13_,cw14_,F15_,rfl,hf3_1,hO⟩
     have hFl:F15_.vs.length≤1000∧F15_.ls.length≤1000:=by rw[hf3_1];exact yi V
     refine O8 ?_ (hw.qh [0,1] O hO)
     refine zE [4,5,1,2] O qM (fun w' hw hS=>zJ 14 O hw ?_)
     refine z4 [Res.ou ob o,vI yv yes,vI (.slice (some ⟨b43,0,none⟩) 1 1) [a.id],z7 cb t1 (pt ld) a r b yv jb qe (pt ob),Res.nl b lv es,vI cv13_ F15_.vs,vI cw14_ F15_.ls,yP ld l,vP l.pv l.qa,sP l.qa,vI l.av l.qf,vT l.rv l.qd,vL l.kv l.qj] (fun w' hw=>hw.qn 0 O) ?_
     refine zAp (g:=I1) (sz:=1) (by':=8) (fun _=>O) (l:=l.qf) (l':=[a.id]) qV 10 qN O O O (fun w' hw'=>Vec.sl (Own.holds hw' 2 _ O)) qO qM qQ O (fun v44 hb44_ hk44_=> ?_) (fun v44=> ?_)
     ·refine zE [3,4,0,1] O qM (fun w' hw hS=>zJ 15 O hw (a_call O O (fun w' hw=>(xD ({vv:=cv13_,vs:=F15_.vs,lv:=cw14_,ls:=F15_.ls}:ConfD) v44 (l.qf++[a.id]) w' qP qP (hw.qq 10 O) ⟨(hw.qq 5 O),(hw.qq 6 O)⟩).mono ?_)))
      rintro _ w1 ⟨rfl,hO⟩
      refine O13 ?_ (hw.qi hO)
      refine zE [3,4,0,1] O qM (fun w' hw hS=>zB 16 O (xr (q:=({vv:=cv13_,vs:=F15_.vs,lv:=cw14_,ls:=F15_.ls}:ConfD).qv (l.qf++[a.id])) O) hS (zT ?_))
      exact⟨decide (¬(zc b.vs (es.map EntD.toEntA)).qv (l.qf++[a.id])),⟨O,(congrArg Value.bool (decide_eq_decide.2 (by rw[←hf3_1];exact Iff.rfl))),trivial⟩,decide_eq_true_iff,((Own.vecBack 10 hb44_ hk44_ O hw).qo [7,8,9,10,11,12] O qM).sel [3,4,7,0,1] O qM⟩
     refine zE [3,4,0,1] O qM (fun w' hw hS=>zJ 15 O hw (a_call O O (fun w' hw=>(xD ({vv:=cv13_,vs:=F15_.vs,lv:=cw14_,ls:=F15_.ls}:ConfD) v44 (l.qf++[a.id]) w' qP qP (hw.qq 13 O) ⟨(hw.qq 5 O),(hw.qq 6 O)⟩).mono ?_)))
     rintro _ w1 ⟨rfl,hO⟩
     refine O14 ?_ (hw.qi hO)
     refine zE [3,4,0,1] O qM (fun w' hw hS=>zB 16 O (xr (q:=({vv:=cv13_,vs:=F15_.vs,lv:=cw14_,ls:=F15_.ls}:ConfD).qv (l.qf++[a.id])) O) hS (zT ?_))
     exact⟨decide (¬(zc b.vs (es.map EntD.toEntA)).qv (l.qf++[a.id])),⟨O,(congrArg Value.bool (decide_eq_decide.2 (by rw[←hf3_1];exact Iff.rfl))),trivial⟩,decide_eq_true_iff,(hw.qo [7,8,9,10,11,12] O qM).sel [3,4,8,0,1] O qM⟩
    have hz:=hΦ
    refine zAu O (fun c3=> ?_) (fun c3=> ?_)
    ·have hq:=hz.1 c3
     refine zC (zD O (a_call O O (fun w' hw=>(zBb cb jb t1 a r b yv qe 0 ld _ ob _ w' qO qO (hw.give [0,2,3] O qM)).mono ?_)))
     rintro _ w1 ⟨xw16_,rfl,hO⟩
     refine O4 ?_ (hw.qh [0,2,3] O hO)
     refine zA (zP (ze [0,1,3] O qM qN (fun w' hw hS=>zB 0 O zS hS (zB 1 O zS hS (zB 2 O (zO O) hS (zB 3 O (zH (o:=2) O) hS (zB 4 O (zH (o:=0) O) hS (zB 6 O zS hS (zq 5 7 ?_ ?_)))))))))
     ·refine zl 5 O hw (zM 2 (v:=Vi t1.now) O O O O (zE [0,1,3] O qM (fun w' hw hS=>zJ 7 O hw (a_call O O (fun w' hw=>(k0 cb jb t1 a ({qp:=1,who:=0,qc:=r.qc}:RolD) b (.pointer none) (.slice none 0 0) (pt ob) qe w' ‹_› qO (hw.give [2] O qM)).mono ?_)))))
      rintro _ w1 ⟨rfl,hO⟩
      refine O4 ?_ (hw.qh [2] O hO)
      refine zE [0,1,2] O qM (fun w' hw hS=>zB 8 O (yr O O (zr V)) hS (zB 9 O (zO O) hS (zB 10 O (zH (o:=2) O) hS (zB 11 O (zH (o:=2) O) hS (zJ 12 O hw (zn 3 O O O O O (zE [0,1,2] O qM (fun w' hw hS=>zT ?_))))))))
      refine Oc4 ?_ hw
      exact zU (yQ O (fun w' hw=>⟨({t:={t1 with due:=t1.now+y4 a qe},r:=⟨1,0,r.qc⟩,lv:=lv,es:=es,y:=none,yv:= .slice none 0 0,yes:=[]}:NdD),({o with xv:=xw16_,qt:=l.qj.map LookM.id}:OutD),⟨[],[],l.qj.map LookM.id⟩,O,(by unfold kc;dsimp only;rw[←ht1,if_pos hc2,if_pos (show ¬(zc b.vs (es.map EntD.toEntA)).qv (l.er.qf++[a.id])from hq),←e1.1.1];rfl),(List.append_nil _).symm,(List.append_nil _).symm,O,(zm (Own.qG hw) 3 1).sel [3,0,4,5,2] O qM⟩))
     refine zl 7 O hw (a_call O O (fun w' hw=>(k0 cb jb t1 a ({qp:=1,who:=0,qc:=r.qc}:RolD) b (.pointer none) (.slice none 0 0) (pt ob) qe w' ‹_› qO (hw.give [2] O qM)).mono ?_))
     rintro _ w1 ⟨rfl,hO⟩
     refine O4 ?_ (hw.qh [2] O hO)
     refine zE [0,1,2] O qM (fun w' hw hS=>zJ 5 O hw (zM 3 (v:=Vi t1.now) O O O O (zE [0,1,2] O qM (fun w' hw hS=>zB 8 O (yr O O (zr V)) hS (zB 9 O (zO O) hS (zB 10 O (zH (o:=2) O) hS (zB 11 O (zH (o:=2) O) hS (zJ 12 O hw (zn 3 O O O O O (zE [0,1,2] O qM (fun w' hw hS=>zT ?_)))))))))))
     refine Oc4 ?_ hw
     exact zU (yQ O (fun w' hw=>⟨({t:={t1 with due:=t1.now+y4 a qe},r:=⟨1,0,r.qc⟩,lv:=lv,es:=es,y:=none,yv:= .slice none 0 0,yes:=[]}:NdD),({o with xv:=xw16_,qt:=l.qj.map LookM.id}:OutD),⟨[],[],l.qj.map LookM.id⟩,O,(by unfold kc;dsimp only;rw[←ht1,if_pos hc2,if_pos (show ¬(zc b.vs (es.map EntD.toEntA)).qv (l.er.qf++[a.id])from hq),←e1.1.1];rfl),(List.append_nil _).symm,(List.append_nil _).symm,O,(zm (Own.qG hw) 3 1).sel [3,0,4,5,2] O qM⟩))
    have hq:¬ ¬(zc b.vs (es.map EntD.toEntA)).qv (l.qf++[a.id]):=fun q=>by rw[hz.2 q]at c3;cases c3
    refine zQ (ze [1,3,4] O qM qN (fun w' hw hS=>zB 0 O zS hS (zB 1 O zS hS (zB 2 O (zO O) hS (zB 3 O (zH (o:=9) O) hS (zB 5 O zS hS (zB 6 O (zO O) hS (zB 7 O (zH (o:=2) O) hS (zB 8 O (zH (o:=0) O) hS (zq 4 9 ?_ ?_))))))))))
    ·refine zl 4 O hw (zM 0 (v:=pt ld) O O O O (zE [1,3,4] O qM (fun w' hw hS=>zJ 9 O hw (zM 0 (v:=Vi t1.now) O O O O (zE [1,3,4] O qM (fun w' hw hS=>zB 10 O (zO O) hS (zB 11 O (zH (o:=2) O) hS (zB 12 O (zH (o:=4) O) hS (zJ 13 O hw (zn 0 O O O O O (zE [1,3,4] O qM (fun w' hw hS=>zB 14 O (zO O) hS ?_))))))))))))
     refine zB 15 O (zH (o:=1) O) hS (zJ 16 O hw ?_)
     refine z4 [z7 cb ({t1 with qz:=t1.now}:TimD) (pt ld) a r b yv jb qe (pt ob),Res.nl b lv es,Res.ou ob o,vI yv yes,yP ld l,vP l.pv l.qa,sP l.qa,vI l.av l.qf,vT l.rv l.qd,vL l.kv l.qj] (fun w' hw=>hw.qn 2 O) ?_
     refine zn (cs:=(LdD.cells l)) 4 O O O O O (zE [1,2,3] O qM (fun w' hw hS=>zT ?_))
     exact⟨({t1 with qz:=t1.now}:TimD),({l with av:= .slice none 0 0,qf:=[]}:LdD),⟨O,trivial⟩,⟨by unfold kc;dsimp only;rw[←ht1,if_pos hc2,if_neg (show ¬ ¬(zc b.vs (es.map EntD.toEntA)).qv (l.er.qf++[a.id])from hq),←e1.1.1];rfl,⟨e1.1.1,e1.2⟩,⟨hb.qa,hb.each,hb.round,hb.qd,hb.qj,Nat.zero_le _⟩⟩,((zm hw 3 1).qo [4,5,6,10,8,9] O qM).sel [0,1,5,2,3] O qM⟩
    refine zl 9 O hw (zM 0 (v:=Vi t1.now) O O O O (zE [1,3,4] O qM (fun w' hw hS=>zJ 4 O hw (zM 0 (v:=pt ld) O O O O (zE [1,3,4] O qM (fun w' hw hS=>zB 10 O (zO O) hS (zB 11 O (zH (o:=2) O) hS (zB 12 O (zH (o:=4) O) hS (zJ 13 O hw (zn 0 O O O O O (zE [1,3,4] O qM (fun w' hw hS=>zB 14 O (zO O) hS ?_))))))))))))
    refine zB 15 O (zH (o:=1) O) hS (zJ 16 O hw ?_)
    refine z4 [z7 cb ({t1 with qz:=t1.now}:TimD) (pt ld) a r b yv jb qe (pt ob),Res.nl b lv es,Res.ou ob o,vI yv yes,yP ld l,vP l.pv l.qa,sP l.qa,vI l.av l.qf,vT l.rv l.qd,vL l.kv l.qj] (fun w' hw=>hw.qn 2 O) ?_
    refine zn (cs:=(LdD.cells l)) 4 O O O O O (zE [1,2,3] O qM (fun w' hw hS=>zT ?_))
    exact⟨({t1 with qz:=t1.now}:TimD),({l with av:= .slice none 0 0,qf:=[]}:LdD),⟨O,trivial⟩,⟨by unfold kc;dsimp only;rw[←ht1,if_pos hc2,if_neg (show ¬ ¬(zc b.vs (es.map EntD.toEntA)).qv (l.er.qf++[a.id])from hq),←e1.1.1];rfl,⟨e1.1.1,e1.2⟩,⟨hb.qa,hb.each,hb.round,hb.qd,hb.qj,Nat.zero_le _⟩⟩,((zm hw 3 1).qo [4,5,6,10,8,9] O qM).sel [0,1,5,2,3] O qM⟩
   have hc2:¬ t.qz+a.base≤t.now:=by omega
   exact yZ (fun w' hw=>⟨t1,l,⟨O,trivial⟩,⟨by unfold kc;dsimp only;rw[←ht1,if_neg hc2],⟨e1.1.1,e1.2⟩,hb⟩,hw⟩)
  obtain⟨h7,e7,hb2⟩:=hΦ
  have hb2p:=hb2.qa
  have hb2r:=hb2.qd
  refine yt (fun(l3:LdD)=>[(0,pt cb)]) (fun(l3:LdD)=>l3=if t2.gd≤t2.now then{l2 with give:=0}else l2) (fun(l3:LdD)=>[z7 cb t2 (pt ld) a r b yv jb qe (pt ob),Res.nl b lv es,Res.ld ld l3,Res.ou ob o,vI yv yes]) ?_ (fun l3 g hΦ=> ?_)
  ·refine yb qN qN (zL O zS (zL O (zO O) (zL O (zH (o:=2) O) (zL O (zH (o:=0) O) (zL O (zY 0 (v:=Vi t2.now) O O O) (zL O zS (zL O (zO O) (zL O (zH (o:=2) O) (zL O (zH (o:=5) O) (zL O (zY 0 (v:=Vi t2.gd) O O O) (zL O (zIo O O) (xi ?_))))))))))))
   refine za O (fun c4=> ?_) (fun c4=> ?_)
   ·refine zV (zD O (zb O O (zK (o:=9) O O (zM 0 (v:=pt ld) O O O O (zb O O (zK (o:=5) O O ?_))))))
    refine z4 [z7 cb t2 (pt ld) a r b yv jb qe (pt ob),Res.nl b lv es,Res.ou ob o,vI yv yes,yP ld l2,vP l2.pv l2.qa,sP l2.qa,vI l2.av l2.qf,vT l2.rv l2.qd,vL l2.kv l2.qj] (fun w' hw=>hw.qn 2 O) ?_
    refine zn (cs:=(LdD.cells l2)) 4 O O O O O ?_
    exact zg (fun w' hw=>⟨({l2 with give:=0}:LdD),⟨O,trivial⟩,(if_pos c4).symm,(hw.qo [4,5,6,7,8,9] O qM).sel [0,1,4,2,3] O qM⟩)
   exact yZ (fun w' hw=>⟨l2,⟨O,trivial⟩,(if_neg c4).symm,hw⟩)
  have h3:=hΦ
  have hb3:l3.bd:=by rw[h3];split;exact⟨hb2.qa,hb2.each,hb2.round,hb2.qd,hb2.qj,hb2.qf⟩;exact hb2
  have hb3p:=hb3.qa
  have hb3r:=hb3.qd
  have h3e:(if t2.gd≤t2.now then{l2.er with give:=0}else l2.er)=l3.er:=by rw[h3];split<;>rfl
  refine yb qN qN (zL O zS (zL O (zO O) (zL O (zH (o:=2) O) (zL O (zH (o:=0) O) (zL O (zY 0 (v:=Vi t2.now) O O O) (zL O zS (zL O (zO O) (zL O (zH (o:=2) O) (zL O (zH (o:=3) O) (zL O (zY 0 (v:=Vi t2.qE) O O O) (zL O zS (zL O (zO O) ?_))))))))))))
  refine zL O (zH (o:=11) O) (zL O (zH (o:=6) O) (zL O (zY 0 (v:=Vi a.beat) O O O) (zL O (yr O O (zr V)) (zL O (zIo O O) (xi (za O (fun c5=> ?_) (fun c5=> ?_)))))))
  ·refine zV (zD O (a_call O O (fun w' hw=>(zHF cb jb t2 a r b yv qe _ _ ld l3 ob _ w' ‹_› qO qO hb3p qO hb3.each hb3r (hw.give [0,1,2,3] O qM)).mono ?_)))
   rintro _ w1 ⟨mv'17_,rv'18_,ms19_,rfl,hf10_1,hO⟩
   refine O5 ?_ (hw.qh [0,1,2,3] O hO)
   exact zg (yQ O (fun w' hw=>⟨({t:={t2 with qE:=t2.now},r:=r,lv:=lv,es:=es,y:=some (ld,({l3 with qa:=l3.qa.map fun q=>(q.1,yG (es.map EntD.toEntA) q.2),rv:=rv'18_,qd:=l3.qd++[t2.now],sure:=if(zc b.vs (es.map EntD.toEntA)).qv [a.id]then l3.qd.length+1 else l3.sure}:LdD)),yv:=yv,yes:=yes}:NdD),({o with mv:=mv'17_,qk:=o.qk++ms19_}:OutD),⟨ms19_.map MsgD.a,[],[]⟩,O,(by rw[h7];unfold zDA;dsimp only;rw[h3e,if_pos c5,hf10_1];exact j2 zIM),List.map_append,(List.append_nil _).symm,(List.eq_nil_of_length_eq_zero hlo),hw.sel [1,2,3,0,4] O qM⟩))
  exact yZ (yQ O (fun w' hw=>⟨({t:=t2,r:=r,lv:=lv,es:=es,y:=some (ld,l3),yv:=yv,yes:=yes}:NdD),o,⟨[],[],[]⟩,O,(by rw[h7];unfold zDA;dsimp only;rw[h3e,if_neg c5];rfl),(List.append_nil _).symm,(List.append_nil _).symm,(List.eq_nil_of_length_eq_zero hlo),hw.sel [0,1,2,4,3] O qM⟩))
def xJ(a:StA)(vs0:List Int)(now:Int)(qe:Nat)(n0:NodA):NodA×OutA:=
  let n:=k8 now n0
  if n.r.qp=4 then match n.ld with
    |some l=>kc a vs0 qe n l
    |none=>(n,⟨[],[],[]⟩)
  else if n.t.due≤n.t.now then
    let n1:={n with t:={n.t with due:=n.t.now+y4 a qe}}
    if((zc vs0 n.E).ok∧a.id∈(zc vs0 n.E).vs)∧n.t.term<4611686018427387904 then zBA (zKP a vs0 qe n1)else(n1,⟨[],[],[]⟩)
  else(n,⟨[],[],[]⟩)
theorem zEo{S:List Nat}(cb jb:Nat)(t:TimD)(a:StA)(r:RolD)(b:StB)(yv:Value)(qe:Nat)(lv:Value)(es:List EntD)(y:Option (Nat×LdD))(yes:List Int)(now:Int)(dr:Nat)(w:World)(hg:(LG 0 0 es).good)(hl:es.length≤100000)(hvl:b.vs.length≤12)(hcm:1≤((zc b.vs (es.map EntD.toEntA)).vs++(zc b.vs (es.map EntD.toEntA)).ls).length∧((zc b.vs (es.map EntD.toEntA)).vs++(zc b.vs (es.map EntD.toEntA)).ls).length≤12)(hH:HandOk t r y yes (LG 0 0 es).end_)(ha:a.ok)(hnw:0≤now∧now≤1000000000000000)(hd:dr<18446744073709551616)(hbt:0≤t.qE∧t.qE≤1000000000000000)(hck:0≤t.qz∧t.qz≤1000000000000000)(hin:Own w S [z7 cb t (xF y) a r b yv jb qe (.pointer none),Res.nl b lv es,Res.lo y,vI yv yes] w):Rets Tryz.prog 12 #[pt cb,Vi now,Vn dr] w fun u_ w'=>∃ (n:NdD) (o:OutD) (x:OutA),u_= .agg (OutD.cells o).toArray∧(n.a,x)=xJ a b.vs now dr {t:=t,r:=r,E:=es.map EntD.toEntA,ld:=y.map fun q=>q.2.er,yes:=yes}∧o.qk.map MsgD.a=x.ms∧o.qw=x.qw∧o.qt=x.qt∧Own w S [z7 cb n.t (xF n.y) a n.r b n.yv jb dr (.pointer none),Res.nl b n.lv n.es,Res.lo n.y,vI n.yv n.yes,vM o.mv o.qk,sM o.qk,vR o.rv o.qw,vU o.xv o.qt] w':=by
  have hHt:=hH.htm
  have hHn:=hH.hn
  have hw1:=jL (qe:=dr) ha
  have hlb:=(LG.le hg).1
  refine zW Tryz.func12 O Tryz.ntmps12 hin ?_
  refine zC (yC (v:= .agg #[.slice none 0 0, .bool false, .slice none 0 0, .slice none 0 0]) qN O (fun b6=>zA (zP (zC (zD O (xf qN O O O (zA (xx O (zQ (zC (zD O (zD O ?_))))))))))))
  refine zD O (a_call O O (fun w' hw=>(zAd cb jb t a r b (xF y) yv (.pointer none) qe now dr w' (hw.give [0] O qM)).mono ?_))
  rintro _ w1 ⟨ob1_,rfl,hO⟩
  refine O6 ?_ (hw.qh [0] O hO)
  refine zA (jl (fun(n:NdD) (o':OutD) (x:OutA)=>[(0,pt cb),(6,pt b6)]) (fun(n:NdD) (o':OutD) (x:OutA)=>(n.a,x)=xJ a b.vs now dr {t:=t,r:=r,E:=es.map EntD.toEntA,ld:=y.map fun q=>q.2.er,yes:=yes}∧(o'.qk.map MsgD.a=x.ms∧o'.qw=x.qw)∧o'.qt=x.qt) (fun(n:NdD) (o':OutD) (x:OutA)=>[z7 cb n.t (xF n.y) a n.r b n.yv jb dr (pt ob1_),Res.nl b n.lv n.es,Res.lo n.y,vI n.yv n.yes,Res.ou ob1_ o',Res.row b6 44 [.slice none 0 0, .bool false, .slice none 0 0, .slice none 0 0]]) ?_ (fun n o' x g hΦ=> ?_))
  ·refine zC (zD O (zb O O (zK (o:=21) O O (zM 4 (v:=Vi r.qp) O O O O (yR O O O (zA (za O (fun c2=> ?_) (fun c2=> ?_))))))))
   ·obtain⟨⟨ld,l⟩,rfl⟩:=Option.isSome_iff_exists.1 (hH.hro.1 c2)
    have hb:=hH.hld _ rfl
    refine zV (zD O (a_call O O (fun w' hw=>(zL7 cb jb ({t with now:=max t.now now}:TimD) a r b yv dr _ _ ob1_ outZ ld _ yes w' ‹_› qO qO (by show 0≤max t.now now∧max t.now now≤_;omega) hbt hck (Nat.zero_le _) O ‹_› qO hb (hw.give [4,0,1,5,2] O qM)).mono ?_)))
    rintro _ w1 ⟨n2_,o'3_,x4_,rfl,hf5_1,hf5_1_1,hf5_1_2,hf5_1_3,hO⟩
    refine O6 ?_ (hw.qh [4,0,1,5,2] O hO)
    exact zg (fun w' hw=>⟨n2_,o'3_,x4_,⟨O,O,trivial⟩,⟨by unfold xJ;dsimp only[k8];rw[if_pos c2];exact hf5_1,⟨hf5_1_1.trans (List.nil_append _),hf5_1_2.trans (List.nil_append _)⟩,hf5_1_3⟩,hw.sel [1,2,3,4,5,0] O qM⟩)
   obtain rfl:=zCl hH.hro c2
   refine yb qN qN (zL O zS (zL O (zO O) (zL O (zH (o:=2) O) (zL O (zH (o:=0) O) (zL O (zY 4 (v:=Vi (max t.now now)) O O O) (zL O zS (zL O (zO O) (zL O (zH (o:=2) O) (zL O (zH (o:=2) O) (zL O (zY 4 (v:=Vi t.due) O O O) (zL O (zIo O O) (xi ?_))))))))))))
   refine za O (fun c3=> ?_) (fun c3=> ?_)
   ·refine zBD ([(0,pt cb),(6,pt b6)]) (True) ([z7 cb ({t with now:=max t.now now,due:=max t.now now+y4 a dr}:TimD) (.pointer none) a r b yv jb dr (pt ob1_),Res.nl b lv es,Res.lo none,vI yv yes,Res.ou ob1_ outZ,Res.row b6 44 [.slice none 0 0, .bool false, .slice none 0 0, .slice none 0 0]]) ?_ (fun g hΦ=> ?_)
    ·refine ze [0,1,2,3,5] O qM qN (fun w' hw hS=>zB 0 O zS hS (zB 1 O zS hS (zB 2 O (zO O) hS (zB 3 O (zH (o:=2) O) hS (zB 4 O (zH (o:=0) O) hS (zB 6 O zS hS (zq 5 7 ?_ ?_)))))))
     ·refine zl 5 O hw (zM 4 (v:=Vi (max t.now now)) O O O O (zE [0,1,2,3,5] O qM (fun w' hw hS=>zJ 7 O hw (a_call O O (fun w' hw=>(k0 cb jb ({t with now:=max t.now now}:TimD) a r b (.pointer none) yv (pt ob1_) dr w' ‹_› qO (hw.give [4] O qM)).mono ?_)))))
      rintro _ w1 ⟨rfl,hO⟩
      refine O6 ?_ (hw.qh [4] O hO)
      refine zE [0,1,2,3,4] O qM (fun w' hw hS=>zB 8 O (yr O O (zr V)) hS (zB 9 O (zO O) hS (zB 10 O (zH (o:=2) O) hS (zB 11 O (zH (o:=2) O) hS (zJ 12 O hw (zn 5 O O O O O (zE [0,1,2,3,4] O qM (fun w' hw hS=>zT ?_))))))))
      exact⟨⟨O,O,trivial⟩,trivial,hw.sel [5,0,1,2,4,3] O qM⟩
     refine zl 7 O hw (a_call O O (fun w' hw=>(k0 cb jb ({t with now:=max t.now now}:TimD) a r b (.pointer none) yv (pt ob1_) dr w' ‹_› qO (hw.give [4] O qM)).mono ?_))
     rintro _ w1 ⟨rfl,hO⟩
     refine O6 ?_ (hw.qh [4] O hO)
     refine zE [0,1,2,3,4] O qM (fun w' hw hS=>zJ 5 O hw (zM 5 (v:=Vi (max t.now now)) O O O O (zE [0,1,2,3,4] O qM (fun w' hw hS=>zB 8 O (yr O O (zr V)) hS (zB 9 O (zO O) hS (zB 10 O (zH (o:=2) O) hS (zB 11 O (zH (o:=2) O) hS (zJ 12 O hw (zn 5 O O O O O (zE [0,1,2,3,4] O qM (fun w' hw hS=>zT ?_)))))))))))
     exact⟨⟨O,O,trivial⟩,trivial,hw.sel [5,0,1,2,4,3] O qM⟩
    refine zP (ze [0,1,2,3,4,5] O qM qN (fun w' hw hS=>zB 0 O zS hS (zB 2 O zS hS (zB 3 O (zO O) hS (zB 4 O (zH (o:=10) O) hS (zB 5 O (zY 0 (v:=Vi a.id) O O O) hS (zJ 1 O hw (a_call O O (fun w' hw=>(xq cb jb ({t with now:=max t.now now,due:=max t.now now+y4 a dr}:TimD) a r b (.pointer none) yv (pt ob1_) dr _ _ w' ‹_› qO qO (hw.give [0,1] O qM)).mono ?_)))))))))
    rintro _ w1 ⟨cv5_,cw6_,F7_,rfl,hf8_1,hO⟩
    have hFl:F7_.vs.length≤1000∧F7_.ls.length≤1000:=by rw[hf8_1];exact yi V
    refine O8 ?_ (hw.qh [0,1] O hO)
    refine zE [4,5,0,1,2,3] O qM (fun w' hw hS=>zJ 6 O hw (a_call O O (fun w' hw=>(zBY ({vv:=cv5_,vs:=F7_.vs,lv:=cw6_,ls:=F7_.ls}:ConfD) a.id w' qP ⟨(hw.qq 6 O),(hw.qq 7 O)⟩).mono ?_)))
    rintro _ w1 ⟨rfl,hO⟩
    refine O8 ?_ (hw.qi hO)
    refine zE [4,5,0,1,2,3] O qM (fun w' hw hS=>zB 7 O zS hS ?_)
    by_cases g8_7:({vv:=cv5_,vs:=F7_.vs,lv:=cw6_,ls:=F7_.ls}:ConfD).ok∧a.id∈({vv:=cv5_,vs:=F7_.vs,lv:=cw6_,ls:=F7_.ls}:ConfD).vs
    ·refine zf 8 O O (gT g8_7) zS hS (zf 9 O O (gT g8_7) (zO O) hS (zf 10 O O (gT g8_7) (zH (o:=0) O) hS (zf 11 O O (gT g8_7) (zH (o:=0) O) hS (zf 12 O O (gT g8_7) (zY 0 (v:=Vn t.term) O O O) hS (zf 13 O O (gT g8_7) (zBi O O) hS (zB 14 O (yf (gT g8_7)) hS (zT ?_)))))))
     refine Oc8 ?_ hw
     refine za O (fun c4=> ?_) (fun c4=> ?_)
     ·have hq:(zc b.vs (es.map EntD.toEntA)).ok∧a.id∈(zc b.vs (es.map EntD.toEntA)).vs:=by rw[←hf8_1];exact g8_7
      refine zV (zD O (a_call O O (fun w' hw=>(zQh cb jb ({t with now:=max t.now now,due:=max t.now now+y4 a dr}:TimD) a r b yv dr _ _ ob1_ outZ yes w' ‹_› qO qO qS qP hH.hen (by show 0≤max t.now now∧max t.now now≤_;omega) (Nat.zero_le _) ‹_› qO (hw.give [4,5,2] O qM)).mono ?_)))
      rintro _ w1 ⟨n8_,mv'9_,ms10_,rfl,hf9_1,hO⟩
      refine O10 ?_ (hw.qh [4,5,2] O hO)
      exact zg (fun w' hw=>⟨n8_,({outZ with mv:=mv'9_,qk:=outZ.qk++ms10_}:OutD),⟨ms10_.map MsgD.a,[],[]⟩,⟨O,O,trivial⟩,⟨by unfold xJ;dsimp only[k8];rw[if_neg c2,if_pos c3,if_pos ⟨hq,by omega⟩];exact j2 hf9_1,⟨O,O⟩,O⟩,hw.sel [5,6,7,8,9,2] O qM⟩)
     exact yZ (fun w' hw=>⟨({t:=({t with now:=max t.now now,due:=max t.now now+y4 a dr}:TimD),r:=r,lv:=lv,es:=es,y:=none,yv:=yv,yes:=yes}:NdD),outZ,⟨[],[],[]⟩,⟨O,O,trivial⟩,⟨by unfold xJ;dsimp only[k8];rw[if_neg c2,if_pos c3,if_neg (fun q=>c4 (by have h:=q.2;omega))];rfl,⟨O,O⟩,O⟩,hw.sel [4,5,0,1,2,3] O qM⟩)
    refine zX 8 O O (gF g8_7) O hS (zX 9 O O (gF g8_7) O hS (zX 10 O O (gF g8_7) O hS (zX 11 O O (gF g8_7) O hS (zX 12 O O (gF g8_7) O hS (zX 13 O O (gF g8_7) O hS (zB 14 O (yM (gF g8_7)) hS (zT ?_)))))))
    refine Oc8 ?_ hw
    refine xx O ?_
    exact yZ (fun w' hw=>⟨({t:=({t with now:=max t.now now,due:=max t.now now+y4 a dr}:TimD),r:=r,lv:=lv,es:=es,y:=none,yv:=yv,yes:=yes}:NdD),outZ,⟨[],[],[]⟩,⟨O,O,trivial⟩,⟨by unfold xJ;dsimp only[k8];rw[if_neg c2,if_pos c3,if_neg (fun q=>g8_7 (by have h:=q.1;rw[←hf8_1]at h;exact h))];rfl,⟨O,O⟩,O⟩,hw.sel [4,5,0,1,2,3] O qM⟩)
   exact yZ (fun w' hw=>⟨({t:=({t with now:=max t.now now}:TimD),r:=r,lv:=lv,es:=es,y:=none,yv:=yv,yes:=yes}:NdD),outZ,⟨[],[],[]⟩,⟨O,O,trivial⟩,⟨by unfold xJ;dsimp only[k8];rw[if_neg c2,if_neg c3];rfl,⟨O,O⟩,O⟩,hw.sel [4,0,1,2,5,3] O qM⟩)
  have hI:=hΦ
  refine zC (zD O (a_call O O (fun w' hw=>(kf cb jb n.t a n.r b (xF n.y) n.yv dr ob1_ o' w' (hw.give [0,4] O qM)).mono ?_)))
  rintro _ w1 ⟨rfl,hO⟩
  refine O9 ?_ (hw.qh [0,4] O hO)
  refine zN (fun w' hw=>Own.qg (i:=5) O hw) (fun hc1_=> ?_)
  refine zN (fun w' hw=>Own.qg (i:=7) O hw) (fun hc2_=> ?_)
  refine zN (fun w' hw=>Own.qg (i:=8) O hw) (fun hc3_=> ?_)
  refine zo 3 O O O (zF hc1_ (zF O (zF hc2_ (zF hc3_ zh)))) O (zA ?_)
  exact zU (jp (cs:=(OutD.cells o')) O O qN (Own.qr (i:=3) O) (fun w' hw=>⟨n,o',x,O,hI.1,hI.2.1.1,hI.2.1.2,hI.2.2,hw.sel [4,0,1,2,5,6,7,8] O qM⟩))
end Go.Proofs.YtkkeknmkipkbmaaGreat
