import Derived.Test.YtkkeknmkipkbmaaGreatFwX
import Derived.Test.YtkkeknmkipkbmaaGreatConfA
import Derived.Test.YtkkeknmkipkbmaaGreatCoT
import Derived.Test.YtkkeknmkipkbmaaGreatIn
import Derived.Test.YtkkeknmkipkbmaaGreatEnc2
set_option linter.unusedSectionVars false
set_option linter.unusedSimpArgs false
set_option linter.unusedVariables false
set_option maxRecDepth 10000
namespace Go.Proofs.YtkkeknmkipkbmaaGreat
open Go Go.Sc Go.Proofs
theorem zCQ{P:Program}{n:Nat}{fn:Func}{R:Value→World→Prop}{A:World→Prop}{f:Nat→Value}{t0 t1 t2:Tmp}{T:TypeId}{b:Nat}{cs:List Value}{v0 v2:Value}(hr:fn.results= #[.tmp t0, .cell t1 T, .tmp t2])(h0:f t0=v0)(h1:f t1= .pointer (some ⟨b,0,none⟩))(h2:f t2=v2)
    (ht:jZ P T=some cs.length) (hc:∀ w,A w→∀ i u,cs[i]?=some u→w.cell? ⟨b,0+i,none⟩=some u) (h:∀ w,A w→R (.tuple #[v0, .agg cs.toArray,v2]) w):∀ w,A w→zCa P fn n R f w:=
  fun w hw=>⟨_,fun a ha=>by
    have:=xM (P:=P) ht (hc w hw)
    simp[results,hr,ha.get,h0,h1,h2,asAddr,this],h w hw⟩
def zQb(t rho:Int):Prop:=((t<0∨1099511627776<t)∨rho<0)∨500000<rho
instance (t rho:Int):Decidable (zQb t rho):=inferInstanceAs (Decidable (((_∨_)∨_)∨_))
def shr(t rho:Int):Int:=t*1000000 / (1000000+rho)
def zMc(t rho:Int):Int×Int:=if zQb t rho then(0,1)else(shr t rho,0)
def zOM(t rho:Int):Int×Int:=if(zMc t rho).2≠0 then(0,(zMc t rho).2)else zMc (zMc t rho).1 rho
def zPt(a:StA)(vs0:List Int)(id:Nat)(lazy:Bool)(n:NodA)(l:LdD):NodA×OutA:=
  if(zc vs0 n.E).qv [a.id]∨(lazy=true∧l.qC=false∧n.t.now - n.t.qA<(zOM a.base a.rho).1)then(n,⟨[],[⟨id,n.r.qc⟩],[]⟩)
  else zAx (zGP a vs0 n {l with qk:=l.qk++[⟨id,n.r.qc,l.qf.length+1⟩]})
def ReadF(a:StA)(vs0:List Int)(id:Nat)(lazy:Bool)(now:Int)(n0:NodA):(NodA×OutA)×Int:=
  if n0.r.qr≠4 then((jW now n0,⟨[],[],[]⟩),14)
  else if ¬(LogA.mk 0 0 n0.E).fits n0.r.qc n0.t.term then((jW now n0,⟨[],[],[]⟩),15)
  else match n0.ld with
    |some l=>(zPt a vs0 id lazy (jW now n0) l,0)
    |none=>((jW now n0,⟨[],[],[]⟩),0)
theorem zQe(x:ShtD)(w:World)(hv:x.conf.vs.length≤10000000)(hl:x.conf.ls.length≤10000000)(hd:x.data.length≤1000000000)(rd_x:ShtD.rd x w []):Rets Tryz.prog 30 #[.agg (ShtD.cells x).toArray] w fun u_ w'=>∃ (cv cw r:Value),u_= .agg #[Vn x.index,Vn x.term,cv,cw,r]∧Own w [] [vI cv x.conf.vs,vI cw x.conf.ls,vY r x.data] w':=by
  refine zW Tryz.func30 O Tryz.ntmps30 (Own.start w) ?_
  refine zB (z3 O O (fun b1=>yE (v:= .agg #[Vn 0,Vn 0, .slice none 0 0, .slice none 0 0, .slice none 0 0]) qN O (fun b2=>zA (zB (zJ (o:=2) O O (zAJ 0 (ConfD.cells x.conf) O O (kF 2 O) qN O (a_call O O (fun w' hw=>(zGQ x.conf w' qO qO (rd_x.conf.at0 hw)).mono ?_))))))))
  rintro _ w1 ⟨cv1_,cw2_,rfl,hO⟩
  refine O4 ?_ (hw.qi hO)
  refine zJ (o:=2) O O ?_
  refine zP (fun w' hw=>Own.qh (i:=2) O hw) (fun hc1_=> ?_)
  refine zP (fun w' hw=>Own.qh (i:=3) O hw) (fun hc2_=> ?_)
  refine zr 0 O O O (zF hc1_ (zF hc2_ zj)) O (zA (zB (zJ (o:=4) O O (zL 0 (v:=x.dv) O O O O (a_call O O (fun w' hw=>(zBT x.dv x.data w' qP (hw.rd0 rd_x.dv)).mono ?_))))))
  rintro r3_ w1 ⟨_,rfl,hO⟩
  refine O5 ?_ (hw.qi hO)
  refine zJ (o:=4) O O ?_
  refine zP (fun w' hw=>Own.qh (i:=4) O hw) (fun hc3_=> ?_)
  refine zn (cs:=[Vn x.index,Vn x.term,cv1_,cw2_,x.dv]) 0 O O O hc3_ O (zA (zB (yI (cs:=[Vn x.index,Vn x.term,cv1_,cw2_,r3_]) 0 O O O (zr 1 O O O (zF O (zF O (zF hc1_ (zF hc2_ (zF hc3_ zj))))) O (zA ?_)))))
  exact zV (jj (cs:=[Vn x.index,Vn x.term,cv1_,cw2_,r3_]) O O qN (Own.qt (i:=1) O) (fun w' hw=>⟨cv1_,cw2_,r3_,O,hw.sel [2,3,4] O qM⟩))
theorem zJr(w:World):Rets Tryz.prog 31 #[] w fun u_ w'=>∃ (b:Nat),u_=pt b∧Own w [] [Res.row b 150 [Vn 0,Vn 0, .slice none 0 0]] w':=by
  refine zW Tryz.func31 O Tryz.ntmps31 (Own.start w) ?_
  refine zB (zI O (zA (zB (ye (cs:=[Vn 0,Vn 0, .slice none 0 0]) (z:=[Vn 0,Vn 0, .slice none 0 0]) (pl:=[(0,2),(2,1)]) qN qN O (z3 O O (fun b2=>zI O (zA ?_)))))))
  exact zV (z6 (v:=pt b2) O O (fun w' hw=>⟨b2,O,hw⟩))
theorem zIG{S:List Nat}(cb:Nat)(a0 a1 a2 a3 a4 a5 a6 a7 a8 a9 b0 b1 b2 b3 b4 b5 b6 b7 b8 b9 d0 d1 d2 d3 d4 d5 d6 d7 d8 d9 e0:Value)(bs sp:Int)(qd:Nat)(w:World)(hs:1≤sp∧sp≤1073741824)(hb:1≤bs∧bs≤1073741824)(hd:qd<18446744073709551616)(hin:Own w S [Res.row cb 101 [a0,a1,a2,a3,a4,a5,a6,a7,a8,a9,b0,b1,b2,b3,b4,Vi bs,Vi sp,b5,b6,b7,b8,b9,d0,d1,d2,d3,d4,d5,d6,d7,d8,d9,Vn qd,e0]] w):Rets Tryz.prog 32 #[pt cb] w fun u_ w'=>u_=Vi (bs+((qd%(Int.toNat sp+1):Nat):Int))∧Own w S [Res.row cb 101 [a0,a1,a2,a3,a4,a5,a6,a7,a8,a9,b0,b1,b2,b3,b4,Vi bs,Vi sp,b5,b6,b7,b8,b9,d0,d1,d2,d3,d4,d5,d6,d7,d8,d9,Vn qd,e0]] w':=by
  have hu:u64 (sp+1)=Int.toNat sp+1:=by unfold u64;omega
  have hm:qd%u64 (sp+1)<u64 (sp+1):=Nat.mod_lt qd V
  have hm2:qd%u64 (sp+1)≤1073741824:=by omega
  refine zW Tryz.func32 O Tryz.ntmps32 hin ?_
  refine zB (zI O (zA (yX qN qN (zM O zT (zM O (zQ O) (zM O (zH (o:=11) O) (zM O (zH (o:=4) O) (zM O (zZ 0 (v:=Vi bs) O O O) (zM O zT (zM O (zQ O) (zM O (zH (o:=32) O) (zM O (zZ 0 (v:=Vn qd) O O O) ?_))))))))))))
  refine zM O zT (zM O (zQ O) (zM O (zH (o:=11) O) (zM O (zH (o:=5) O) (zM O (zZ 0 (v:=Vi sp) O O O) (zM O (yq O O (zq V)) (zM O (kV qN O (jH _) qN) (zM O (zFg (c:=((qd%(u64 (sp+1)):Nat):Int)) O O V O) (zM O (kV qN O (zq V) qN) (zM O (yq O O (zq V)) (zM O yO (xk ?_)))))))))))
  exact zV (z6 (v:=Vi (bs+((qd%(u64 (sp+1)):Nat):Int))) O O (fun w' hw=>⟨(by rw[hu]),hw⟩))
theorem zMn{id rho mn mx:Int}(hid:1≤id∧id≤16)(hr:0≤rho∧rho≤500000)(h1:1≤mn)(h2:mx≤1000000):¬((((((id<1∨16<id)∨(0:Nat)<0)∨rho<0)∨500000<rho)∨mn<1)∨1073741824<mx):=by omega
abbrev nI:List Int:=[]
abbrev nB:List UInt8:=[]
theorem zIe(id rho bs sp bt:Int)(vv:Value)(vs:List Int)(qd:Nat)(lv0 dv0:Value)(w:World)(hid:1≤id∧id≤16)(hr:0≤rho∧rho≤500000)(hb1:1≤bs∧bs≤1000000)(hb2:1≤sp∧sp≤1000000)(hb3:1≤bt∧bt≤1000000)(hvs:Rises vs)(hvn:0<vs.length)(hvl:vs.length≤16)(hd:qd<18446744073709551616)(hvv:Rd w [] (Res.sl vv vs.length (vs.flatMap I1)))(hlv0:Rd w [] (Res.sl lv0 nI.length (nI.flatMap I1)))(hdv0:Rd w [] (Res.sl dv0 nB.length (nB.map vb))):Rets Tryz.prog 10 #[Vi id, .agg #[Vn 0,Vi 0], .agg #[Vn 0,Vn 0,vv,lv0,dv0], .slice none 0 0, .agg #[Vi 0,Vi 0,Vi 0,Vi rho,Vi bs,Vi sp,Vi bt,Vi 0,Vi 0,Vi 0],Vi 0,Vn qd] w fun u_ w'=>∃ (cb lb jb:Nat) (cv cw dv lv:Value) (es:List EntD),u_= .tuple #[pt cb,Vi 0]∧es.length=0∧Own w [] [Res.row cb 101 [Vn 0,Vi 0,Vi 0,Vi 0,Vi (0+(bs+((qd%(Int.toNat sp+1):Nat):Int))),Vi 0,Vi 0,Vi 0,Vi 0, .pointer none,Vi id,Vi 0,Vi 0,Vi 0,Vi rho,Vi bs,Vi sp,Vi bt,Vi 0,Vi 0,Vi 0,Vi 1,Vi 0,Vn 0,Vn 0,Vn 0,cv,cw,dv,pt lb, .slice none 0 0,pt jb,Vn qd, .pointer none],vI cv vs,vI cw ([]:List Int),Res.row lb 144 [Vn 0,Vn 0,lv],vE lv es,sE es,Res.row jb 150 [Vn 0,Vn 0, .slice none 0 0]] w':=by
  have hm:qd%(Int.toNat sp+1)<Int.toNat sp+1:=Nat.mod_lt _ V
  have hR0:Rises ([]:List Int):=⟨by simp,by simp⟩
  have hko:(({vs:=vs,ls:=[]}:ConfA)).ok:=⟨⟨⟨hvs,hR0⟩,hvn⟩,fun v _ h=>by cases h⟩
  refine zW Tryz.func10 O Tryz.ntmps10 (Own.start w) ?_
  refine zB (z3 O O (fun b8=>z3 O O (fun b9=>z3 O O (fun b11=>zI O (zI O (zA (zN (zB (zD O (yG O O O (zD O (yn (q:=id<1) 2 2 [31,30] (16<id) O O O O O O trivial O (fun h1_2=> ?_) (fun g1_5=> ?_)))))))))))))
  ·refine zR O (gF h1_2) (zD O (zR O (gF h1_2) (y0 O O O ?_)))
   exact yP O (fun _ hw=>hw)
  refine zD O (yn (q:=(id<1)∨(16<id)) 2 6 [35,34] (0<0) O O O O O O trivial O (fun h1_6=> ?_) (fun g1_9=> ?_))
  ·refine zR O (gF h1_6) (zD O (zR O (gF h1_6) (yG O O O ?_)))
   exact yP O (fun _ hw=>hw)
  refine zD O (yn (q:=((id<1)∨(16<id))∨(0<0)) 3 10 [40,39,38] (rho<0) O O O O O O trivial O (fun h1_10=> ?_) (fun g1_14=> ?_))
  ·refine zR O (gF h1_10) (zJ (o:=3) O O (zR O (gF h1_10) (zL 2 (v:=Vi rho) O O O O (zR O (gF h1_10) (yG O O O ?_)))))
   exact yP O (fun _ hw=>hw)
  refine zD O (yn (q:=(((id<1)∨(16<id))∨(0<0))∨(rho<0)) 3 15 [45,44,43] (500000<rho) O O O O O O trivial O (fun h1_15=> ?_) (fun g1_19=> ?_))
  ·refine zR O (gF h1_15) (zJ (o:=3) O O (zR O (gF h1_15) (zL 2 (v:=Vi rho) O O O O (zR O (gF h1_15) (y0 O O O ?_)))))
   exact yP O (fun _ hw=>hw)
  refine zD O (yn (q:=((((id<1)∨(16<id))∨(0<0))∨(rho<0))∨(500000<rho)) 8 20 [55,54,53,52,51,50,49,48] ((min (min bs sp) bt)<1) O O O O O O trivial O (fun h1_20=> ?_) (fun g1_29=> ?_))
  ·refine zR O (gF h1_20) (zJ (o:=4) O O (zR O (gF h1_20) (zL 2 (v:=Vi bs) O O O O (zR O (gF h1_20) (zJ (o:=5) O O (zR O (gF h1_20) (zL 2 (v:=Vi sp) O O O O (zR O (gF h1_20) (zJ (o:=6) O O (zR O (gF h1_20) (zL 2 (v:=Vi bt) O O O O (zR O (gF h1_20) ?_))))))))))))
   refine zPM (c:=min (min bs sp) bt) O O O (zQN _ _ _) O (zR O (gF h1_20) (yG O O O ?_))
   exact yP O (fun _ hw=>hw)
  refine zD O (yn (q:=(((((id<1)∨(16<id))∨(0<0))∨(rho<0))∨(500000<rho))∨((min (min bs sp) bt)<1)) 8 30 [65,64,63,62,61,60,59,58] (1073741824<(max (max bs sp) bt)) O O O O O O trivial O (fun h1_30=> ?_) (fun g1_39=> ?_))
  ·refine zR O (gF h1_30) (zJ (o:=4) O O (zR O (gF h1_30) (zL 2 (v:=Vi bs) O O O O (zR O (gF h1_30) (zJ (o:=5) O O (zR O (gF h1_30) (zL 2 (v:=Vi sp) O O O O (zR O (gF h1_30) (zJ (o:=6) O O (zR O (gF h1_30) (zL 2 (v:=Vi bt) O O O O (zR O (gF h1_30) ?_))))))))))))
   refine zPP (c:=max (max bs sp) bt) O O O (zOF _ _ _) O (zR O (gF h1_30) (y0 O O O ?_))
   exact yP O (fun _ hw=>hw)
  refine zA (zY O (fun c1=> ?_) (fun c1=> ?_))
  ·exact absurd c1 (zMn hid hr (Int.le_min.2 ⟨Int.le_min.2 ⟨hb1.1,hb2.1⟩,hb3.1⟩) (Int.max_le.2 ⟨Int.max_le.2 ⟨hb1.2,hb2.2⟩,hb3.2⟩))
  refine zO (zB (yI (cs:=[Vn 0,Vi 0]) 0 O O O (a_call O O (fun w' hw=>(zJv ({term:=0,qD:=0}:HrdD) w' qP).mono ?_))))
  rintro _ w1 ⟨r1_,rfl,hO⟩
  have hk:({term:=0,qD:=0}:HrdD).ok:=⟨by decide,by decide⟩
  refine O4 ?_ (hw.qi hO)
  refine zD O (z8 (vs:=[r1_,Vi (yB ({term:=0,qD:=0}:HrdD).ok)]) O O O (z8 (vs:=[r1_,Vi (yB ({term:=0,qD:=0}:HrdD).ok)]) O O O (zI O (zI O (zA (zB (yI (cs:=[Vn 0,Vn 0,vv,lv0,dv0]) 1 O O O (a_call O O (fun w' hw=>(zJN ({index:=0,term:=0,conf:=({vv:=vv,vs:=vs,lv:=lv0,ls:=nI}:ConfD),dv:=dv0,data:=nB}:ShtD) w' ⟨by show(0:Nat)<_;decide,by show(0:Nat)<_;decide,⟨by show vs.length≤_;omega,by show(0:Nat)≤_;decide⟩,by show(0:Nat)≤_;decide⟩ ⟨⟨(hw.rd0 hvv),(hw.rd0 hlv0)⟩,(hw.rd0 hdv0)⟩).mono ?_)))))))))
  rintro _ w1 ⟨r2_,rfl,hO⟩
  have sk:({index:=0,term:=0,conf:=({vv:=vv,vs:=vs,lv:=lv0,ls:=[]}:ConfD),dv:=dv0,data:=[]}:ShtD).a.ok:=⟨⟨⟨⟨hko,by show 0≤32768;decide⟩,by show(0:Nat)=0↔(0:Nat)=0;exact Iff.rfl⟩,by show(0:Nat)≤_;decide⟩,by show(0:Nat)≤_;decide⟩
  refine O5 ?_ (hw.qi hO)
  refine zD O (z8 (vs:=[r2_,Vi (yB ({index:=0,term:=0,conf:=({vv:=vv,vs:=vs,lv:=lv0,ls:=nI}:ConfD),dv:=dv0,data:=nB}:ShtD).a.ok)]) O O O (z8 (vs:=[r2_,Vi (yB ({index:=0,term:=0,conf:=({vv:=vv,vs:=vs,lv:=lv0,ls:=nI}:ConfD),dv:=dv0,data:=nB}:ShtD).a.ok)]) O O O (zI O (zI O (zA (zN (zB (zD O (xn O O O (zD O (yn (q:=(yB ({term:=0,qD:=0}:HrdD).ok)≠0) 2 2 [81,80] ((yB ({index:=0,term:=0,conf:=({vv:=vv,vs:=vs,lv:=lv0,ls:=nI}:ConfD),dv:=dv0,data:=nB}:ShtD).a.ok)≠0) O O O O O O trivial O (fun h5_2=> ?_) (fun g5_5=> ?_))))))))))))
  ·refine zR O (gF h5_2) (zD O (zR O (gF h5_2) (xn O O O ?_)))
   exact yP O (fun _ hw=>hw)
  refine zD O (yn (q:=((yB ({term:=0,qD:=0}:HrdD).ok)≠0)∨((yB ({index:=0,term:=0,conf:=({vv:=vv,vs:=vs,lv:=lv0,ls:=nI}:ConfD),dv:=dv0,data:=nB}:ShtD).a.ok)≠0)) 5 6 [88,87,86,85,84] (((0:Nat):Int)<((0:Nat):Int)) O O O O O O trivial O (fun h5_6=> ?_) (fun g5_12=> ?_))
  ·refine zR O (gF h5_6) (zJ (o:=0) O O (zR O (gF h5_6) (zL 0 (v:=Vn 0) O O O O (zR O (gF h5_6) (zJ (o:=1) O O (zR O (gF h5_6) (zL 1 (v:=Vn 0) O O O O (zR O (gF h5_6) (yG O O O ?_)))))))))
   exact yP O (fun _ hw=>hw)
  refine zD O (yn (q:=(((yB ({term:=0,qD:=0}:HrdD).ok)≠0)∨((yB ({index:=0,term:=0,conf:=({vv:=vv,vs:=vs,lv:=lv0,ls:=nI}:ConfD),dv:=dv0,data:=nB}:ShtD).a.ok)≠0))∨(((0:Nat):Int)<((0:Nat):Int))) 3 13 [93,92,91] (((4611686018427387904:Nat):Int)<((0:Nat):Int)) O O O O O O trivial O (fun h5_13=> ?_) (fun g5_17=> ?_))
  ·refine zR O (gF h5_13) (zJ (o:=0) O O (zR O (gF h5_13) (zL 0 (v:=Vn 0) O O O O (zR O (gF h5_13) (y0 O O O ?_)))))
   exact yP O (fun _ hw=>hw)
  refine zA (zY O (fun c2=> ?_) (fun c2=> ?_))
  ·exact absurd c2 (by rw[jM hk,jM sk];omega)
  refine zO (zB (zJ (o:=0) O O (zL 1 (v:=Vn 0) O O O O (zJ (o:=1) O O (zL 1 (v:=Vn 0) O O O O (a_call O O (fun w' hw=>(zP8 0 0 w' qO qO).mono ?_)))))))
  rintro _ w1 ⟨b3_,rfl,hO⟩
  refine O8 ?_ (hw.qi hO)
  refine zI O (zA (zN (zB (zD O (zJ (o:=0) O O (zL 1 (v:=Vn 0) O O O O (zJ (o:=1) O O (zL 1 (v:=Vn 0) O O O O (zD O (a_call O O (fun w' hw=>(zDv b3_ 0 0 (.slice none 0 0) [] 0 0 (.slice none 0 0) [] w' qO (⟨Nat.zero_le _,Nat.zero_le _,trivial⟩:(LG 0 0 ([]:List EntD)).good) (fun e he=>by cases he) qO (hw.give [5,6,7] O qM) Rd.nil (fun p hp=>by cases hp)).mono ?_)))))))))))
  rintro _ w1 ⟨lv'4_,es'5_,x6_,y7_,e8_,rfl,hf8_6,hf8_6_1,hO⟩
  have hen:es'5_.length=0:=by have h:(es'5_.map EntD.toEntA).length=0:=congrArg (fun q:LogA=>q.l.length) hf8_6;simpa using h
  have hes:es'5_=[]:=List.eq_nil_of_length_eq_zero hen
  have he0:e8_=0:=(congrArg (fun q:Nat×Nat×Int=>q.2.2) hf8_6_1).symm
  refine O8 ?_ (hw.qg [5,6,7] O hO)
  refine zD O (z8 (vs:=[Vn x6_,Vn y7_,Vi e8_]) O O O (z8 (vs:=[Vn x6_,Vn y7_,Vi e8_]) O O O (z8 (vs:=[Vn x6_,Vn y7_,Vi e8_]) O O O (zI O (zI O (zI O (zA (zB (zD O (xn O O O (zA (zY O (fun c3=> ?_) (fun c3=> ?_)))))))))))))
  ·exact absurd he0 c3
  refine zO (zN (zB (zD O (a_call O O (fun w' hw=>(kG b3_ 0 0 lv'4_ es'5_ w' qP qO (hw.rdRes0 5 O) (hw.qp 6 O) (EntD.rd.star0 7 O hw)).mono ?_)))))
  rintro _ w1 ⟨rfl,hO⟩
  refine O8 ?_ (hw.qi hO)
  refine zD O (z8 (vs:=[Vn (0+es'5_.length),Vn ((LG 0 0 es'5_).end_)]) O O O (z8 (vs:=[Vn (0+es'5_.length),Vn ((LG 0 0 es'5_).end_)]) O O O (zI O (zI O (zA (zB (zD O (zJ (o:=0) O O (zL 0 (v:=Vn 0) O O O O (y0 O O O (zA (zY O (fun c4=> ?_) (fun c4=> ?_)))))))))))))
  ·exact absurd c4 (by rw[hes];show ¬((0:Nat):Int)<((0:Nat):Int);omega)
  refine zO (zN (zg [0,1,2,3,4,5,6] O qM qN (fun w' hw hS=>zC 0 O (x8 (cs:=[Vn 0,Vi 0]) 0 O O) hS (zC 1 O zT hS (zC 2 O (x8 2 O O) hS (zC 3 O (zH (o:=0) O) hS (zC 4 O (zZ 1 (v:=Vn 0) O O O) hS (zC 5 O (x8 (cs:=[Vn 0,Vn 0,vv,lv0,dv0]) 1 O O) hS (zC 7 O zT hS (zC 9 O zT hS (zK 6 O hw (a_call O O (fun w' hw=> ?_)))))))))))))
  refine(zQe ({index:=0,term:=0,conf:=({vv:=vv,vs:=vs,lv:=lv0,ls:=nI}:ConfD),dv:=dv0,data:=nB}:ShtD) w' qP qP qP ⟨⟨(hw.rd0 hvv),(hw.rd0 hlv0)⟩,(hw.rd0 hdv0)⟩).mono ?_
  rintro _ w1 ⟨cv9_,cw10_,r11_,rfl,hO⟩
  refine O11 ?_ (hw.qi hO)
  refine zE [0,1,2,3,4,5,6] O qM (fun w' hw hS=>zK 8 O hw (a_call O O (fun w' hw=>(zJr w').mono ?_)))
  rintro _ w1 ⟨b12_,rfl,hO⟩
  refine O12 ?_ (hw.qi hO)
  refine zE [0,1,2,3,4,5,6] O qM (fun w' hw hS=>zC 10 O (zKR (cs:=[Vn 0,Vi 0,Vi 0,Vi 0,Vi 0,Vi 0,Vi 0,Vi 0,Vi 0, .pointer none,Vi id,Vi 0,Vi 0,Vi 0,Vi rho,Vi bs,Vi sp,Vi bt,Vi 0,Vi 0,Vi 0,Vi 1,Vi 0,Vn 0,Vn (({index:=0,term:=0,conf:=({vv:=vv,vs:=vs,lv:=lv0,ls:=nI}:ConfD),dv:=dv0,data:=nB}:ShtD).index),Vn (({index:=0,term:=0,conf:=({vv:=vv,vs:=vs,lv:=lv0,ls:=nI}:ConfD),dv:=dv0,data:=nB}:ShtD).term),cv9_,cw10_,r11_,pt b3_, .slice none 0 0,pt b12_,Vn qd, .pointer none]) (z:=[Vn 0,Vi 0,Vi 0,Vi 0,Vi 0,Vi 0,Vi 0,Vi 0,Vi 0, .pointer none,Vi 0,Vi 0,Vi 0,Vi 0,Vi 0,Vi 0,Vi 0,Vi 0,Vi 0,Vi 0,Vi 0,Vi 0,Vi 0,Vn 0,Vn 0,Vn 0, .slice none 0 0, .slice none 0 0, .slice none 0 0, .pointer none, .slice none 0 0, .pointer none,Vn 0, .pointer none]) (pl:=[(0,2),(2,7),(9,1),(10,1),(11,10),(21,1),(22,1),(23,1),(24,5),(29,1),(30,1),(31,1),(32,1),(33,1)]) qN ⟨trivial,O,trivial,O,O,trivial,O,O,O,trivial⟩ qN) hS (zK 11 O hw (z3 O O (fun b133=>zE [0,1,2,3,4,5,6] O qM (fun w' hw hS=>zC 12 O yO hS (zU ?_))))))
  refine Oc13 ?_ hw
  refine zB (zD O (zD O (zD O (zD O (ye (cs:=[Vi 0,Vi 0,Vi 0,Vi 0,Vi 0,Vi 0,Vi 0]) (z:=[Vi 0,Vi 0,Vi 0,Vi 0,Vi 0,Vi 0,Vi 0]) (pl:=[(0,1),(1,1),(2,1),(3,1),(4,1),(5,1),(6,1)]) qN qN O (za O O (zJ (o:=2) O O (zr 12 O O O (xQ O) O (zA (zN (zg [0,1,2,3,4,5,6,8,9,10,11] O qM qN (fun w' hw hS=>zC 0 O zT hS ?_))))))))))))
  refine zC 1 O (zQ O) hS (zC 2 O (zH (o:=2) O) hS (zC 3 O (zH (o:=2) O) hS (zC 5 O zT hS (zu 4 6 ?_ ?_))))
  ·refine zm 4 O hw (zL 12 (v:=Vi 0) O O O O (zE [0,1,2,3,4,5,6,8,9,10,11] O qM (fun w' hw hS=>zK 6 O hw (a_call O O (fun w' hw=>(zIG b133 (Vn 0) (Vi 0) (Vi 0) (Vi 0) (Vi 0) (Vi 0) (Vi 0) (Vi 0) (Vi 0) (.pointer none) (Vi id) (Vi 0) (Vi 0) (Vi 0) (Vi rho) (Vi bt) (Vi 0) (Vi 0) (Vi 0) (Vi 1) (Vi 0) (Vn 0) (Vn (({index:=0,term:=0,conf:=({vv:=vv,vs:=vs,lv:=lv0,ls:=nI}:ConfD),dv:=dv0,data:=nB}:ShtD).index)) (Vn (({index:=0,term:=0,conf:=({vv:=vv,vs:=vs,lv:=lv0,ls:=nI}:ConfD),dv:=dv0,data:=nB}:ShtD).term)) cv9_ cw10_ r11_ (pt b3_) (.slice none 0 0) (pt b12_) (.pointer none) bs sp qd w' qO qO qO (hw.give [12] O qM)).mono ?_)))))
   rintro _ w1 ⟨rfl,hO⟩
   refine O13 ?_ (hw.qg [12] O hO)
   refine zE [0,1,2,3,4,5,6,8,9,10,11] O qM (fun w' hw hS=>zC 7 O (yq O O (zq V)) hS (zC 8 O (zQ O) hS (zC 9 O (zH (o:=2) O) hS (zC 10 O (zH (o:=2) O) hS (zK 11 O hw (zn 12 O O O O O (zE [0,1,2,3,4,5,6,8,9,10,11] O qM (fun w' hw hS=>zU ?_))))))))
   refine Oc13 ?_ hw
   refine zB (zD O (zI O (zI O (zA ?_))))
   exact zV (x1 (v:=pt b133) (v':=Vi 0) O O O (fun w' hw=>⟨b133,b3_,b12_,cv9_,cw10_,r11_,lv'4_,es'5_,O,hen,hw.sel [12,8,9,5,6,7,11] O qM⟩))
  refine zm 6 O hw (a_call O O (fun w' hw=>(zIG b133 (Vn 0) (Vi 0) (Vi 0) (Vi 0) (Vi 0) (Vi 0) (Vi 0) (Vi 0) (Vi 0) (.pointer none) (Vi id) (Vi 0) (Vi 0) (Vi 0) (Vi rho) (Vi bt) (Vi 0) (Vi 0) (Vi 0) (Vi 1) (Vi 0) (Vn 0) (Vn (({index:=0,term:=0,conf:=({vv:=vv,vs:=vs,lv:=lv0,ls:=nI}:ConfD),dv:=dv0,data:=nB}:ShtD).index)) (Vn (({index:=0,term:=0,conf:=({vv:=vv,vs:=vs,lv:=lv0,ls:=nI}:ConfD),dv:=dv0,data:=nB}:ShtD).term)) cv9_ cw10_ r11_ (pt b3_) (.slice none 0 0) (pt b12_) (.pointer none) bs sp qd w' qO qO qO (hw.give [12] O qM)).mono ?_))
  rintro _ w1 ⟨rfl,hO⟩
  refine O13 ?_ (hw.qg [12] O hO)
  refine zE [0,1,2,3,4,5,6,8,9,10,11] O qM (fun w' hw hS=>zK 4 O hw (zL 12 (v:=Vi 0) O O O O (zE [0,1,2,3,4,5,6,8,9,10,11] O qM (fun w' hw hS=>zC 7 O (yq O O (zq V)) hS (zC 8 O (zQ O) hS (zC 9 O (zH (o:=2) O) hS (zC 10 O (zH (o:=2) O) hS (zK 11 O hw (zn 12 O O O O O (zE [0,1,2,3,4,5,6,8,9,10,11] O qM (fun w' hw hS=>zU ?_)))))))))))
  refine Oc13 ?_ hw
  refine zB (zD O (zI O (zI O (zA ?_))))
  exact zV (x1 (v:=pt b133) (v':=Vi 0) O O O (fun w' hw=>⟨b133,b3_,b12_,cv9_,cw10_,r11_,lv'4_,es'5_,O,hen,hw.sel [12,8,9,5,6,7,11] O qM⟩))
theorem zKq(ci cr bs sp bt:Int)(vv:Value)(vs:List Int)(qd:Nat)(lv0 dv0:Value)(w:World)(hid:1≤ci∧ci≤16)(hr:0≤cr∧cr≤500000)(hb1:1≤bs∧bs≤1000000)(hb2:1≤sp∧sp≤1000000)(hb3:1≤bt∧bt≤1000000)(hvs:Rises vs)(hvn:0<vs.length)(hvl:vs.length≤16)(hd:qd<18446744073709551616)(hvv:Rd w [] (Res.sl vv vs.length (vs.flatMap I1)))(hlv0:Rd w [] (Res.sl lv0 nI.length (nI.flatMap I1)))(hdv0:Rd w [] (Res.sl dv0 nB.length (nB.map vb))):Rets Tryz.prog 10 #[Vi ci, .agg #[Vn 0,Vi 0], .agg #[Vn 0,Vn 0,vv,lv0,dv0], .slice none 0 0, .agg #[Vi 0,Vi 0,Vi 0,Vi cr,Vi bs,Vi sp,Vi bt,Vi 0,Vi 0,Vi 0],Vi 0,Vn qd] w fun u_ w'=>∃ (cb jb:Nat) (b:StB) (lv:Value) (es:List EntD),u_= .tuple #[pt cb,Vi 0]∧es.length=0∧b.vs=vs∧Own w [] [z4 cb ({term:=0,qD:=0,now:=0,qA:=0,due:=0+(bs+((qd%(Int.toNat sp+1):Nat):Int)),qE:=0,qz:=0,gd:=0,qB:=0}:TimD) (.pointer none) ({id:=ci,nodes:=0,voters:=0,edges:=0,rho:=cr,base:=bs,spread:=sp,beat:=bt,disk:=0,post:=0,keep:=0}:StA) ({qr:=1,who:=0,qc:=0}:RolD) b (.slice none 0 0) jb qd (.pointer none),Res.nl b lv es,Res.lo none,vI (.slice none 0 0) ([]:List Int)] w':=by
  refine(zIe ci cr bs sp bt vv vs qd lv0 dv0 w hid hr hb1 hb2 hb3 hvs hvn hvl hd hvv hlv0 hdv0).mono ?_
  rintro _ w1 ⟨cb,lb,jb,cv,cw,dv,lv,es,rfl,he,hO⟩
  exact⟨cb,jb,⟨cv,vs,cw,dv,lb⟩,lv,es,O,he,O,(zl ((hO.qo [3,4,5,1,2] O qM).qG) 3 1).sel [0,2,3,4] O qM⟩
def a3(rho:Int):StA:={id:=1,nodes:=0,voters:=0,edges:=0,rho:=rho,base:=100,spread:=9,beat:=3,disk:=0,post:=0,keep:=0}
def t0:TimD:={term:=0,qD:=0,now:=0,qA:=0,due:=100,qE:=0,qz:=0,gd:=0,qB:=0}
def n0:NodA:={t:=t0,r:=⟨1,0,0⟩,E:=[],ld:=none,yes:=[]}
def n1:NodA:={t:={t0 with now:=100,due:=200},r:=⟨2,0,0⟩,E:=[],ld:=none,yes:=[1]}
def m2:MsgA:=⟨2,2,1,1,0,0,0,0,true,[],⟨[],[]⟩,0,[]⟩
def n2:NodA:={t:={t0 with term:=1,qD:=1,now:=100,due:=200},r:=⟨3,0,0⟩,E:=[],ld:=none,yes:=[1]}
def m3:MsgA:=⟨4,2,1,1,0,0,0,0,true,[],⟨[],[]⟩,0,[]⟩
def p3(id:Int):PeerM:={id:=id,next:=1,qy:=0,round:=0,qw:=1,off:=0,opn:=false,told:=false,asked:=false}
def l3:LdD:={pv:= .slice none 0 0,qa:=[(0,p3 2),(0,p3 3)],av:= .slice none 0 0,qe:=[],rv:= .slice none 0 0,qf:=[100],sure:=0,kv:= .slice none 0 0,qk:=[],give:=0,qC:=false}
def n3:NodA:={t:={t0 with term:=1,qD:=1,now:=100,due:=200,qB:=100,qz:=100,qE:=100},r:=⟨4,1,0⟩,E:=[zAg 0 1],ld:=some l3,yes:=[]}
def m5:MsgA:=⟨6,3,1,1,1,0,0,1,true,[],⟨[],[]⟩,0,[]⟩
def p5:PeerM:={id:=3,next:=2,qy:=1,round:=1,qw:=0,off:=0,opn:=true,told:=true,asked:=false}
def l5:LdD:={l3 with qa:=[(0,p3 2),(0,p5)],qe:=[3],sure:=1}
def n5:NodA:={n3 with t:={t0 with term:=1,qD:=1,now:=100,qA:=100,due:=200,qB:=100,qz:=100,qE:=100},r:=⟨4,1,1⟩,ld:=some l5}
def p7:PeerM:={id:=3,next:=2,qy:=1,round:=1,qw:=0,off:=0,opn:=true,told:=false,asked:=false}
def l7(now:Int):LdD:={l5 with qa:=[(0,p3 2),(0,p7)],qf:=[100,now],qk:=[⟨2,1,2⟩]}
def n7(now:Int):NodA:={n5 with t:={n5.t with now:=now,qE:=now},ld:=some (l7 now)}
def m8:MsgA:=⟨6,3,1,1,1,0,0,2,true,[],⟨[],[]⟩,0,[]⟩
def p8:PeerM:={id:=3,next:=2,qy:=1,round:=2,qw:=0,off:=0,opn:=true,told:=true,asked:=false}
def aA:StA:={id:=1,nodes:=0,voters:=0,edges:=0,rho:=0,base:=10,spread:=5,beat:=2,disk:=0,post:=0,keep:=0}
def nA:NodA:={n0 with t:={t0 with due:=10}}
theorem zPv:jS aA [1] []=[]:=by
  unfold jS
  rw[show(zc [1] []).vs++(zc [1] []).ls=[1]from rfl,←zHu (List.Perm.refl [1]) qQ]
  rfl
theorem zQO:(xC aA [1] 10 0 nA).1.r=⟨4,1,1⟩:=by
  have h1:xC aA [1] 10 0 nA=zAx (jO aA [1] {nA with t:={t0 with term:=1,qD:=1,now:=10,due:=20},r:=⟨3,0,0⟩,yes:=[1]}):=rfl
  rw[h1]
  unfold jO
  dsimp only[nA,n0]
  rw[zPv]
  rfl
theorem zJf(w:World):Rets Tryz.prog 9 #[] w fun u_ w'=>u_= .agg #[Vi 0,Vi 0,Vi 0,Vi 0,Vi 10,Vi 9,Vi 3,Vi 0,Vi 0,Vi 0]∧Own w [] [] w':=by
  refine zW Tryz.func9 O Tryz.ntmps9 (Own.start w) ?_
  refine zB (yE (v:= .agg #[Vi 0,Vi 0,Vi 0,Vi 0,Vi 0,Vi 0,Vi 0,Vi 0,Vi 0,Vi 0]) qN O (fun b0=>zA (zB (ye (cs:=[Vi 0,Vi 0,Vi 0,Vi 0,Vi 10,Vi 9,Vi 3,Vi 0,Vi 0,Vi 0]) (z:=[Vi 0,Vi 0,Vi 0,Vi 0,Vi 0,Vi 0,Vi 0,Vi 0,Vi 0,Vi 0]) (pl:=[(0,1),(1,1),(2,1),(3,1),(4,1),(5,1),(6,1),(7,1),(8,1),(9,1)]) qN qN O (zr 0 O O O (xQ O) O (zA ?_))))))
  exact zV (jj (cs:=[Vi 0,Vi 0,Vi 0,Vi 0,Vi 10,Vi 9,Vi 3,Vi 0,Vi 0,Vi 0]) O O qN (Own.qt (i:=0) O) (fun w' hw=>⟨O,hw.drop⟩))
theorem zJq(w:World):Rets Tryz.prog 11 #[] w fun u_ w'=>u_= .bool true∧Own w [] [] w':=by
  refine zW Tryz.func11 O Tryz.ntmps11 (Own.start w) ?_
  refine zB (zI O (zA (zB (ye (cs:=[Vn 0,Vi 0]) (z:=[Vn 0,Vi 0]) (pl:=[(0,1),(1,1)]) qN qN O (zy (e:=3) (sz:=1) (vs:=[Vi 1]) qN O O qR qM O (fun b9=>ye (cs:=[(.slice (some ⟨b9,0,none⟩) 1 1), .slice none 0 0]) (z:=[.slice none 0 0, .slice none 0 0]) (pl:=[(0,1),(1,1)]) qN qN O (ye (cs:=[Vn 0,Vn 0,(.slice (some ⟨b9,0,none⟩) 1 1), .slice none 0 0, .slice none 0 0]) (z:=[Vn 0,Vn 0, .slice none 0 0, .slice none 0 0, .slice none 0 0]) (pl:=[(0,1),(1,1),(2,2),(4,1)]) qN qN O (ye (cs:=[Vi 0,Vi 0,Vi 0,Vi 0,Vi 10,Vi 5,Vi 2,Vi 0,Vi 0,Vi 0]) (z:=[Vi 0,Vi 0,Vi 0,Vi 0,Vi 0,Vi 0,Vi 0,Vi 0,Vi 0,Vi 0]) (pl:=[(0,1),(1,1),(2,1),(3,1),(4,1),(5,1),(6,1),(7,1),(8,1),(9,1)]) qN qN O (a_call O O (fun w' hw=>(zKq 1 0 10 5 2 (.slice (some ⟨b9,0,none⟩) 1 1) [1] 0 (.slice none 0 0) (.slice none 0 0) w' qO qO qO qO qO ⟨by simp,by simp⟩ qS qS qO (hw.qp 0 O) Rd.nil Rd.nil).mono ?_))))))))))
  rintro _ w1 ⟨cb1_,jb2_,b3_,lv4_,es5_,rfl,hf1_5,hf1_5_1,hO⟩
  have he:=List.eq_nil_of_length_eq_zero hf1_5
  have hv:=hf1_5_1
  have hcf:zc b3_.vs (es5_.map EntD.toEntA)=⟨[1],[]⟩:=by rw[he,hv];rfl
  refine O5 ?_ (hw.qi hO)
  refine zD O (z8 (vs:=[pt cb1_,Vi 0]) O O O (z8 (vs:=[pt cb1_,Vi 0]) O O O (zI O (zI O (zA (zN (zB (zD O (xn O O O (zD O (yn (q:=0≠0) 2 2 [20,19] (false=true) O O O O O O trivial O (fun h2_2=> ?_) (fun g2_5=> ?_))))))))))))
  ·refine zR O (gF h2_2) (zD O (zR O (gF h2_2) (xf qN O O O ?_)))
   exact yP (xZ _) (fun _ hw=>hw)
  refine zA (zY O (fun c1=> ?_) (fun c1=> ?_))
  ·exact absurd c1 qQ
  refine zO (zB (zD O (a_call O O (fun w' hw=>(zEH cb1_ jb2_ ({term:=0,qD:=0,now:=0,qA:=0,due:=0+(10+((0%(Int.toNat 5+1):Nat):Int)),qE:=0,qz:=0,gd:=0,qB:=0}:TimD) ({id:=1,nodes:=0,voters:=0,edges:=0,rho:=0,base:=10,spread:=5,beat:=2,disk:=0,post:=0,keep:=0}:StA) ({qr:=1,who:=0,qc:=0}:RolD) b3_ (.slice none 0 0) 0 lv4_ es5_ none [] 10 0 w' (by rw[he];exact⟨Nat.zero_le _,Nat.zero_le _,trivial⟩) (by rw[he];exact Nat.zero_le _) (by rw[hv];decide) (by rw[hcf];decide) ⟨⟨fun h=>absurd (show(1:Int)=3 from h) qM,by decide⟩,(by rw[he];decide),by decide,by decide,⟨fun h=>absurd (show(1:Int)=4 from h) qM,fun h=>by cases h⟩,(fun q h=>by cases h),Nat.zero_le _⟩ ⟨by decide,by decide,by decide,by decide,by decide⟩ qO qO qP qP (hw.give [1,2,3,4] O qM)).mono ?_))))
  rintro _ w1 ⟨n6_,o7_,x8_,rfl,hf4_1,hf4_1_1,hf4_1_2,hf4_1_3,hO⟩
  have hs:n6_.r=⟨4,1,1⟩:=by have h:=congrArg (fun q:NodA×OutA=>q.1.r) hf4_1;rw[he,hv]at h;exact h.trans zQO
  refine O9 ?_ (hw.qg [1,2,3,4] O hO)
  refine zA (zB (zD O (a_call O O (fun w' hw=>(zHg cb1_ jb2_ n6_.t ({id:=1,nodes:=0,voters:=0,edges:=0,rho:=0,base:=10,spread:=5,beat:=2,disk:=0,post:=0,keep:=0}:StA) n6_.r b3_ (xJ n6_.y) n6_.yv (.pointer none) 0 w' (hw.give [1] O qM)).mono ?_))))
  rintro _ w1 ⟨rfl,hO⟩
  refine O9 ?_ (hw.qg [1] O hO)
  refine zD O (z8 (vs:=[.agg #[Vn n6_.t.term,Vi n6_.t.qD],Vi n6_.r.qr,Vi n6_.r.who,Vn n6_.r.qc]) O O O (z8 (vs:=[.agg #[Vn n6_.t.term,Vi n6_.t.qD],Vi n6_.r.qr,Vi n6_.r.who,Vn n6_.r.qc]) O O O (z8 (vs:=[.agg #[Vn n6_.t.term,Vi n6_.t.qD],Vi n6_.r.qr,Vi n6_.r.who,Vn n6_.r.qc]) O O O (z8 (vs:=[.agg #[Vn n6_.t.term,Vi n6_.t.qD],Vi n6_.r.qr,Vi n6_.r.who,Vn n6_.r.qc]) O O O (yE (v:= .agg #[Vn 0,Vi 0]) qN O (fun b3=>zr 9 O O O (xQ O) O (zI O (zI O (zI O (zA (zB (zD O ?_))))))))))))
  refine yQ O O O (zD O (yK (q:=n6_.r.qr=4) 2 2 [35,34] (n6_.r.who=1) O O O O O O trivial O (fun h6_2=> ?_) (fun g6_5=> ?_)))
  ·refine zR O (gT h6_2) (zD O (zR O (gT h6_2) (yQ O O O ?_)))
   exact yP O (fun _ hw=>hw)
  refine zD O (yK (q:=(n6_.r.qr=4)∧(n6_.r.who=1)) 2 6 [39,38] (((n6_.r.qc:Nat):Int)=((1:Nat):Int)) O O O O O O trivial O (fun h6_6=> ?_) (fun g6_9=> ?_))
  ·refine zR O (gT h6_6) (zD O (zR O (gT h6_6) (yQ O O O ?_)))
   exact yP O (fun _ hw=>hw)
  refine zI O (zA ?_)
  exact zV (z6 (v:= .bool (decide (((n6_.r.qr=4)∧(n6_.r.who=1))∧(((n6_.r.qc:Nat):Int)=((1:Nat):Int))))) O O (fun w' hw=>⟨(by rw[hs];rfl),hw.drop⟩))
theorem zPk{l:LdD}(h:l.er.bd):l.bd:=by
  have hp:∀ p∈l.qa,((0,p.2):PeerP)∈l.er.qa:=fun p hp=>List.mem_map_of_mem (f:=fun q:PeerP=>((0:Nat),q.2)) hp
  exact⟨by have:=h.qa;rwa [show l.er.qa.length=l.qa.length from zB3]at this,fun p q=>h.each (0,p.2) (hp p q),fun p q=>h.round (0,p.2) (hp p q),h.qf,h.qk,h.qe⟩
structure NodA.ok(vs0:List Int)(A:NodA):Prop where
  htm:(A.r.qr=3→1≤A.t.term)∧A.t.term≤4611686018427387904
  good:(LogA.mk 0 0 A.E).good
  len:A.E.length≤100000
  hen:(LogA.mk 0 0 A.E).end_≤A.t.term
  hn:0≤A.t.now∧A.t.now≤1000000000000000
  hh:0≤A.t.qA∧A.t.qA≤1000000000000000
  hbt:0≤A.t.qE∧A.t.qE≤1000000000000000
  hck:0≤A.t.qz∧A.t.qz≤1000000000000000
  hro:A.r.qr=4↔A.ld.isSome=true
  hld:∀ l,A.ld=some l→l.bd
  hy:A.yes.length≤1000
  hcm:1≤((zc vs0 A.E).vs++(zc vs0 A.E).ls).length∧((zc vs0 A.E).vs++(zc vs0 A.E).ls).length≤12
  hcl:A.r.qc≤A.E.length
theorem NodA.ok.hand{vs0:List Int}{n:NdD}(h:n.a.ok vs0):HandOk n.t n.r n.y n.yes (LG 0 0 n.es).end_:=
  ⟨h.htm,h.hen,h.hn,h.hh,h.hro.trans (by unfold NdD.a;rw[Option.isSome_map]),fun q hq=>zPk (h.hld q.2.er (by unfold NdD.a;rw[hq];rfl)),h.hy⟩
theorem NodA.ok.len'{vs0:List Int}{n:NdD}(h:n.a.ok vs0):n.es.length≤100000:=by have:=h.len;unfold NdD.a at this;rwa [List.length_map]at this
theorem NodA.ok.hcl'{vs0:List Int}{n:NdD}(h:n.a.ok vs0):n.r.qc≤n.es.length:=by have:=h.hcl;unfold NdD.a at this;rwa [List.length_map]at this
def Res.cn(cb jb:Nat)(a:StA)(b:StB)(qd:Nat)(n:NdD):Res:=Res.star [z4 cb n.t (xJ n.y) a n.r b n.yv jb qd (.pointer none),Res.nl b n.lv n.es,Res.lo n.y,vI n.yv n.yes]
theorem zQE(cb jb:Nat)(a:StA)(b:StB)(qd:Nat)(n:NdD)(now:Int)(dr:Nat)(w:World)(ha:a.ok)(hvl:b.vs.length≤12)(hk:n.a.ok b.vs)(hnw:0≤now∧now≤1000000000000000)(hd:dr<18446744073709551616)(hin:Own w (y2 [Res.cn cb jb a b qd n]) [Res.cn cb jb a b qd n] w):Rets Tryz.prog 12 #[pt cb,Vi now,Vn dr] w fun u_ w'=>∃ (n':NdD) (o:OutD) (x:OutA),u_= .agg (OutD.cells o).toArray∧(n'.a,x)=xC a b.vs now dr n.a∧o.qj.map MsgD.a=x.ms∧o.qx=x.qx∧o.qq=x.qq∧Own w (y2 [Res.cn cb jb a b qd n]) [Res.cn cb jb a b dr n',vM o.mv o.qj,sM o.qj,vR o.rv o.qx,vU o.xv o.qq] w':=by
  refine(zEH cb jb n.t a n.r b n.yv qd n.lv n.es n.y n.yes now dr w hk.good hk.len' hvl hk.hcm hk.hand ha hnw hd hk.hbt hk.hck (hin.qn 0 O)).mono ?_
  rintro _ w1 ⟨n',o,x,rfl,hf,h1,h2,h3,hO⟩
  exact⟨n',o,x,O,hf,h1,h2,h3,(hO.qo [0,1,2,3] O qM).sel [4,0,1,2,3] O qM⟩
theorem zPz(cb jb:Nat)(a:StA)(b:StB)(qd:Nat)(n:NdD)(m:MsgD)(now:Int)(dr:Nat)(w:World)(ha:a.ok)(hvl:b.vs.length≤12)(hk:n.a.ok b.vs)(hnw:0≤now∧now≤1000000000000000)(hd:dr<18446744073709551616)(hm:m.wf)(hmk:m.kind≠7∧m.kind≠8)(hin:Own w (y2 [Res.cn cb jb a b qd n]) [Res.cn cb jb a b qd n] w)(rd_m:MsgD.rd m w (y2 [Res.cn cb jb a b qd n])):Rets Tryz.prog 16 #[pt cb, .agg (MsgD.cells m).toArray,Vi now,Vn dr] w fun u_ w'=>∃ (n':NdD) (dr':Nat) (o:OutD) (x:OutA),u_= .agg (OutD.cells o).toArray∧(n'.a,x)=zBX a b.vs now dr m.a n.a∧o.qj.map MsgD.a=x.ms∧o.qx=x.qx∧o.qq=x.qq∧Own w (y2 [Res.cn cb jb a b qd n]) [Res.cn cb jb a b dr' n',vM o.mv o.qj,sM o.qj,vR o.rv o.qx,vU o.xv o.qq] w':=by
  refine(zOW cb jb n.t a n.r b n.yv qd n.lv n.es n.y n.yes m now dr w hk.good hk.len' hvl hk.hcm hk.hand ha hnw hm hd hmk (hin.qn 0 O) rd_m).mono ?_
  rintro _ w1 ⟨n',dr',o,x,rfl,hf,h1,h2,h3,hO⟩
  exact⟨n',dr',o,x,O,hf,h1,h2,h3,(hO.qo [0,1,2,3] O qM).sel [4,0,1,2,3] O qM⟩
theorem zP6(ci cr bs sp bt:Int)(vv:Value)(vs:List Int)(qd:Nat)(lv0 dv0:Value)(w:World)(hid:1≤ci∧ci≤16)(hr:0≤cr∧cr≤500000)(hb1:1≤bs∧bs≤1000000)(hb2:1≤sp∧sp≤1000000)(hb3:1≤bt∧bt≤1000000)(hvs:Rises vs)(hvn:0<vs.length)(hvl:vs.length≤16)(hd:qd<18446744073709551616)(hvv:Rd w [] (Res.sl vv vs.length (vs.flatMap I1)))(hlv0:Rd w [] (Res.sl lv0 nI.length (nI.flatMap I1)))(hdv0:Rd w [] (Res.sl dv0 nB.length (nB.map vb))):Rets Tryz.prog 10 #[Vi ci, .agg #[Vn 0,Vi 0], .agg #[Vn 0,Vn 0,vv,lv0,dv0], .slice none 0 0, .agg #[Vi 0,Vi 0,Vi 0,Vi cr,Vi bs,Vi sp,Vi bt,Vi 0,Vi 0,Vi 0],Vi 0,Vn qd] w fun u_ w'=>∃ (cb jb:Nat) (b:StB) (n:NdD),u_= .tuple #[pt cb,Vi 0]∧n.a={t:={term:=0,qD:=0,now:=0,qA:=0,due:=0+(bs+((qd%(Int.toNat sp+1):Nat):Int)),qE:=0,qz:=0,gd:=0,qB:=0},r:=⟨1,0,0⟩,E:=[],ld:=none,yes:=[]}∧b.vs=vs∧Own w [] [Res.cn cb jb ({id:=ci,nodes:=0,voters:=0,edges:=0,rho:=cr,base:=bs,spread:=sp,beat:=bt,disk:=0,post:=0,keep:=0}:StA) b qd n] w':=by
  refine(zKq ci cr bs sp bt vv vs qd lv0 dv0 w hid hr hb1 hb2 hb3 hvs hvn hvl hd hvv hlv0 hdv0).mono ?_
  rintro _ w1 ⟨cb,jb,b,lv,es,rfl,he,hb,hO⟩
  exact⟨cb,jb,b,⟨{term:=0,qD:=0,now:=0,qA:=0,due:=0+(bs+((qd%(Int.toNat sp+1):Nat):Int)),qE:=0,qz:=0,gd:=0,qB:=0},⟨1,0,0⟩,lv,es,none, .slice none 0 0,[]⟩,O,by unfold NdD.a;rw[List.eq_nil_of_length_eq_zero he];rfl,hb,hO.toStar⟩
end Go.Proofs.YtkkeknmkipkbmaaGreat
