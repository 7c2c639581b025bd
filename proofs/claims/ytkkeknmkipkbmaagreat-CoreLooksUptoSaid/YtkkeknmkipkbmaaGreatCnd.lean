import Derived.Test.YtkkeknmkipkbmaaGreatCoU
import Derived.Test.YtkkeknmkipkbmaaGreatIn
import Derived.Test.YtkkeknmkipkbmaaGreatEnc2
set_option linter.unusedSectionVars false
set_option linter.unusedSimpArgs false
set_option linter.unusedVariables false
set_option maxRecDepth 10000
namespace Go.Proofs.YtkkeknmkipkbmaaGreat
open Go Go.Sc Go.Proofs
theorem zQI(x:ShtD)(w:World)(hv:x.conf.vs.length≤10000000)(hl:x.conf.ls.length≤10000000)(hd:x.data.length≤1000000000)(rd_x:ShtD.rd x w []):Rets Tryz.prog 30 #[.agg (ShtD.cells x).toArray] w fun u_ w'=>∃ (cv cw r:Value),u_= .agg #[Vn x.index,Vn x.term,cv,cw,r]∧Own w [] [vI cv x.conf.vs,vI cw x.conf.ls,vY r x.data] w':=by
  refine zW Tryz.func30 O Tryz.ntmps30 (Own.start w) ?_
  refine zC (z8 O O (fun b1=>yC (v:= .agg #[Vn 0,Vn 0, .slice none 0 0, .slice none 0 0, .slice none 0 0]) qN O (fun b2=>zA (zC (zK (o:=2) O O (zAZ 0 (ConfD.cells x.conf) O O (kN 2 O) qN O (a_call O O (fun w' hw=>(zFt x.conf w' qO qO (rd_x.conf.at0 hw)).mono ?_))))))))
  rintro _ w1 ⟨cv1_,cw2_,rfl,hO⟩
  refine O4 ?_ (hw.qi hO)
  refine zK (o:=2) O O ?_
  refine zN (fun w' hw=>Own.qg (i:=2) O hw) (fun hc1_=> ?_)
  refine zN (fun w' hw=>Own.qg (i:=3) O hw) (fun hc2_=> ?_)
  refine zo 0 O O O (zF hc1_ (zF hc2_ zh)) O (zA (zC (zK (o:=4) O O (zM 0 (v:=x.dv) O O O O (a_call O O (fun w' hw=>(zB1 x.dv x.data w' qP (hw.rd0 rd_x.dv)).mono ?_))))))
  rintro r3_ w1 ⟨_,rfl,hO⟩
  refine O5 ?_ (hw.qi hO)
  refine zK (o:=4) O O ?_
  refine zN (fun w' hw=>Own.qg (i:=4) O hw) (fun hc3_=> ?_)
  refine zn (cs:=[Vn x.index,Vn x.term,cv1_,cw2_,x.dv]) 0 O O O hc3_ O (zA (zC (yL (cs:=[Vn x.index,Vn x.term,cv1_,cw2_,r3_]) 0 O O O (zo 1 O O O (zF O (zF O (zF hc1_ (zF hc2_ (zF hc3_ zh))))) O (zA ?_)))))
  exact zU (jp (cs:=[Vn x.index,Vn x.term,cv1_,cw2_,r3_]) O O qN (Own.qr (i:=1) O) (fun w' hw=>⟨cv1_,cw2_,r3_,O,hw.sel [2,3,4] O qM⟩))
theorem zKG(w:World):Rets Tryz.prog 31 #[] w fun u_ w'=>∃ (b:Nat),u_=pt b∧Own w [] [Res.row b 150 [Vn 0,Vn 0, .slice none 0 0]] w':=by
  refine zW Tryz.func31 O Tryz.ntmps31 (Own.start w) ?_
  refine zC (zI O (zA (zC (yh (cs:=[Vn 0,Vn 0, .slice none 0 0]) (z:=[Vn 0,Vn 0, .slice none 0 0]) (pl:=[(0,2),(2,1)]) qN qN O (z8 O O (fun b2=>zI O (zA ?_)))))))
  exact zU (z9 (v:=pt b2) O O (fun w' hw=>⟨b2,O,hw⟩))
theorem zIE{S:List Nat}(cb:Nat)(a0 a1 a2 a3 a4 a5 a6 a7 a8 a9 b0 b1 b2 b3 b4 b5 b6 b7 b8 b9 d0 d1 d2 d3 d4 d5 d6 d7 d8 d9 e0:Value)(bs sp:Int)(qe:Nat)(w:World)(hs:1≤sp∧sp≤1073741824)(hb:1≤bs∧bs≤1073741824)(hd:qe<18446744073709551616)(hin:Own w S [Res.row cb 101 [a0,a1,a2,a3,a4,a5,a6,a7,a8,a9,b0,b1,b2,b3,b4,Vi bs,Vi sp,b5,b6,b7,b8,b9,d0,d1,d2,d3,d4,d5,d6,d7,d8,d9,Vn qe,e0]] w):Rets Tryz.prog 32 #[pt cb] w fun u_ w'=>u_=Vi (bs+((qe%(Int.toNat sp+1):Nat):Int))∧Own w S [Res.row cb 101 [a0,a1,a2,a3,a4,a5,a6,a7,a8,a9,b0,b1,b2,b3,b4,Vi bs,Vi sp,b5,b6,b7,b8,b9,d0,d1,d2,d3,d4,d5,d6,d7,d8,d9,Vn qe,e0]] w':=by
  have hu:u64 (sp+1)=Int.toNat sp+1:=by unfold u64;omega
  have hm:qe%u64 (sp+1)<u64 (sp+1):=Nat.mod_lt qe V
  have hm2:qe%u64 (sp+1)≤1073741824:=by omega
  refine zW Tryz.func32 O Tryz.ntmps32 hin ?_
  refine zC (zI O (zA (yb qN qN (zL O zS (zL O (zO O) (zL O (zH (o:=11) O) (zL O (zH (o:=4) O) (zL O (zY 0 (v:=Vi bs) O O O) (zL O zS (zL O (zO O) (zL O (zH (o:=32) O) (zL O (zY 0 (v:=Vn qe) O O O) ?_))))))))))))
  refine zL O zS (zL O (zO O) (zL O (zH (o:=11) O) (zL O (zH (o:=5) O) (zL O (zY 0 (v:=Vi sp) O O O) (zL O (yr O O (zr V)) (zL O (x7 qN O (jM _) qN) (zL O (zD5 (c:=((qe%(u64 (sp+1)):Nat):Int)) O O V O) (zL O (x7 qN O (zr V) qN) (zL O (yr O O (zr V)) (zL O yO (xi ?_)))))))))))
  exact zU (z9 (v:=Vi (bs+((qe%(u64 (sp+1)):Nat):Int))) O O (fun w' hw=>⟨(by rw[hu]),hw⟩))
theorem zON{id rho mn mx:Int}(hid:1≤id∧id≤16)(hr:0≤rho∧rho≤500000)(h1:1≤mn)(h2:mx≤1000000):¬((((((id<1∨16<id)∨(0:Nat)<0)∨rho<0)∨500000<rho)∨mn<1)∨1073741824<mx):=by omega
abbrev nI:List Int:=[]
abbrev nB:List UInt8:=[]
theorem zJg(id rho bs sp bt:Int)(vv:Value)(vs:List Int)(qe:Nat)(lv0 dv0:Value)(w:World)(hid:1≤id∧id≤16)(hr:0≤rho∧rho≤500000)(hb1:1≤bs∧bs≤1000000)(hb2:1≤sp∧sp≤1000000)(hb3:1≤bt∧bt≤1000000)(hvs:Rises vs)(hvn:0<vs.length)(hvl:vs.length≤16)(hd:qe<18446744073709551616)(hvv:Rd w [] (Res.sl vv vs.length (vs.flatMap I1)))(hlv0:Rd w [] (Res.sl lv0 nI.length (nI.flatMap I1)))(hdv0:Rd w [] (Res.sl dv0 nB.length (nB.map vb))):Rets Tryz.prog 10 #[Vi id, .agg #[Vn 0,Vi 0], .agg #[Vn 0,Vn 0,vv,lv0,dv0], .slice none 0 0, .agg #[Vi 0,Vi 0,Vi 0,Vi rho,Vi bs,Vi sp,Vi bt,Vi 0,Vi 0,Vi 0],Vi 0,Vn qe] w fun u_ w'=>∃ (cb lb jb:Nat) (cv cw dv lv:Value) (es:List EntD),u_= .tuple #[pt cb,Vi 0]∧es.length=0∧Own w [] [Res.row cb 101 [Vn 0,Vi 0,Vi 0,Vi 0,Vi (0+(bs+((qe%(Int.toNat sp+1):Nat):Int))),Vi 0,Vi 0,Vi 0,Vi 0, .pointer none,Vi id,Vi 0,Vi 0,Vi 0,Vi rho,Vi bs,Vi sp,Vi bt,Vi 0,Vi 0,Vi 0,Vi 1,Vi 0,Vn 0,Vn 0,Vn 0,cv,cw,dv,pt lb, .slice none 0 0,pt jb,Vn qe, .pointer none],vI cv vs,vI cw ([]:List Int),Res.row lb 144 [Vn 0,Vn 0,lv],vE lv es,sE es,Res.row jb 150 [Vn 0,Vn 0, .slice none 0 0]] w':=by
  have hm:qe%(Int.toNat sp+1)<Int.toNat sp+1:=Nat.mod_lt _ V
  have hR0:Rises ([]:List Int):=⟨by simp,by simp⟩
  have hko:(({vs:=vs,ls:=[]}:ConfA)).ok:=⟨⟨⟨hvs,hR0⟩,hvn⟩,fun v _ h=>by cases h⟩
  refine zW Tryz.func10 O Tryz.ntmps10 (Own.start w) ?_
  refine zC (z8 O O (fun b8=>z8 O O (fun b9=>z8 O O (fun b11=>zI O (zI O (zA (zP (zC (zD O (yI O O O (zD O (yj (q:=id<1) 2 2 [31,30] (16<id) O O O O O O trivial O (fun h1_2=> ?_) (fun g1_5=> ?_)))))))))))))
  ·refine zR O (gF h1_2) (zD O (zR O (gF h1_2) (yx O O O ?_)))
   exact yN O (fun _ hw=>hw)
  refine zD O (yj (q:=(id<1)∨(16<id)) 2 6 [35,34] (0<0) O O O O O O trivial O (fun h1_6=> ?_) (fun g1_9=> ?_))
  ·refine zR O (gF h1_6) (zD O (zR O (gF h1_6) (yI O O O ?_)))
   exact yN O (fun _ hw=>hw)
  refine zD O (yj (q:=((id<1)∨(16<id))∨(0<0)) 3 10 [40,39,38] (rho<0) O O O O O O trivial O (fun h1_10=> ?_) (fun g1_14=> ?_))
  ·refine zR O (gF h1_10) (zK (o:=3) O O (zR O (gF h1_10) (zM 2 (v:=Vi rho) O O O O (zR O (gF h1_10) (yI O O O ?_)))))
   exact yN O (fun _ hw=>hw)
  refine zD O (yj (q:=(((id<1)∨(16<id))∨(0<0))∨(rho<0)) 3 15 [45,44,43] (500000<rho) O O O O O O trivial O (fun h1_15=> ?_) (fun g1_19=> ?_))
  ·refine zR O (gF h1_15) (zK (o:=3) O O (zR O (gF h1_15) (zM 2 (v:=Vi rho) O O O O (zR O (gF h1_15) (yx O O O ?_)))))
   exact yN O (fun _ hw=>hw)
  refine zD O (yj (q:=((((id<1)∨(16<id))∨(0<0))∨(rho<0))∨(500000<rho)) 8 20 [55,54,53,52,51,50,49,48] ((min (min bs sp) bt)<1) O O O O O O trivial O (fun h1_20=> ?_) (fun g1_29=> ?_))
  ·refine zR O (gF h1_20) (zK (o:=4) O O (zR O (gF h1_20) (zM 2 (v:=Vi bs) O O O O (zR O (gF h1_20) (zK (o:=5) O O (zR O (gF h1_20) (zM 2 (v:=Vi sp) O O O O (zR O (gF h1_20) (zK (o:=6) O O (zR O (gF h1_20) (zM 2 (v:=Vi bt) O O O O (zR O (gF h1_20) ?_))))))))))))
   refine zO8 (c:=min (min bs sp) bt) O O O (zQ8 _ _ _) O (zR O (gF h1_20) (yI O O O ?_))
   exact yN O (fun _ hw=>hw)
  refine zD O (yj (q:=(((((id<1)∨(16<id))∨(0<0))∨(rho<0))∨(500000<rho))∨((min (min bs sp) bt)<1)) 8 30 [65,64,63,62,61,60,59,58] (1073741824<(max (max bs sp) bt)) O O O O O O trivial O (fun h1_30=> ?_) (fun g1_39=> ?_))
  ·refine zR O (gF h1_30) (zK (o:=4) O O (zR O (gF h1_30) (zM 2 (v:=Vi bs) O O O O (zR O (gF h1_30) (zK (o:=5) O O (zR O (gF h1_30) (zM 2 (v:=Vi sp) O O O O (zR O (gF h1_30) (zK (o:=6) O O (zR O (gF h1_30) (zM 2 (v:=Vi bt) O O O O (zR O (gF h1_30) ?_))))))))))))
   refine zPE (c:=max (max bs sp) bt) O O O (zOc _ _ _) O (zR O (gF h1_30) (yx O O O ?_))
   exact yN O (fun _ hw=>hw)
  refine zA (za O (fun c1=> ?_) (fun c1=> ?_))
  ·exact absurd c1 (zON hid hr (Int.le_min.2 ⟨Int.le_min.2 ⟨hb1.1,hb2.1⟩,hb3.1⟩) (Int.max_le.2 ⟨Int.max_le.2 ⟨hb1.2,hb2.2⟩,hb3.2⟩))
  refine zQ (zC (yL (cs:=[Vn 0,Vi 0]) 0 O O O (a_call O O (fun w' hw=>(zJ6 ({term:=0,qD:=0}:HrdD) w' qP).mono ?_))))
  rintro _ w1 ⟨r1_,rfl,hO⟩
  have hk:({term:=0,qD:=0}:HrdD).ok:=⟨by decide,by decide⟩
  refine O4 ?_ (hw.qi hO)
  refine zD O (yA (vs:=[r1_,Vi (yE ({term:=0,qD:=0}:HrdD).ok)]) O O O (yA (vs:=[r1_,Vi (yE ({term:=0,qD:=0}:HrdD).ok)]) O O O (zI O (zI O (zA (zC (yL (cs:=[Vn 0,Vn 0,vv,lv0,dv0]) 1 O O O (a_call O O (fun w' hw=>(zJA ({index:=0,term:=0,conf:=({vv:=vv,vs:=vs,lv:=lv0,ls:=nI}:ConfD),dv:=dv0,data:=nB}:ShtD) w' ⟨by show(0:Nat)<_;decide,by show(0:Nat)<_;decide,⟨by show vs.length≤_;omega,by show(0:Nat)≤_;decide⟩,by show(0:Nat)≤_;decide⟩ ⟨⟨(hw.rd0 hvv),(hw.rd0 hlv0)⟩,(hw.rd0 hdv0)⟩).mono ?_)))))))))
  rintro _ w1 ⟨r2_,rfl,hO⟩
  have sk:({index:=0,term:=0,conf:=({vv:=vv,vs:=vs,lv:=lv0,ls:=[]}:ConfD),dv:=dv0,data:=[]}:ShtD).a.ok:=⟨⟨⟨⟨hko,by show 0≤32768;decide⟩,by show(0:Nat)=0↔(0:Nat)=0;exact Iff.rfl⟩,by show(0:Nat)≤_;decide⟩,by show(0:Nat)≤_;decide⟩
  refine O5 ?_ (hw.qi hO)
  refine zD O (yA (vs:=[r2_,Vi (yE ({index:=0,term:=0,conf:=({vv:=vv,vs:=vs,lv:=lv0,ls:=nI}:ConfD),dv:=dv0,data:=nB}:ShtD).a.ok)]) O O O (yA (vs:=[r2_,Vi (yE ({index:=0,term:=0,conf:=({vv:=vv,vs:=vs,lv:=lv0,ls:=nI}:ConfD),dv:=dv0,data:=nB}:ShtD).a.ok)]) O O O (zI O (zI O (zA (zP (zC (zD O (xn O O O (zD O (yj (q:=(yE ({term:=0,qD:=0}:HrdD).ok)≠0) 2 2 [81,80] ((yE ({index:=0,term:=0,conf:=({vv:=vv,vs:=vs,lv:=lv0,ls:=nI}:ConfD),dv:=dv0,data:=nB}:ShtD).a.ok)≠0) O O O O O O trivial O (fun h5_2=> ?_) (fun g5_5=> ?_))))))))))))
  ·refine zR O (gF h5_2) (zD O (zR O (gF h5_2) (xn O O O ?_)))
   exact yN O (fun _ hw=>hw)
  refine zD O (yj (q:=((yE ({term:=0,qD:=0}:HrdD).ok)≠0)∨((yE ({index:=0,term:=0,conf:=({vv:=vv,vs:=vs,lv:=lv0,ls:=nI}:ConfD),dv:=dv0,data:=nB}:ShtD).a.ok)≠0)) 5 6 [88,87,86,85,84] (((0:Nat):Int)<((0:Nat):Int)) O O O O O O trivial O (fun h5_6=> ?_) (fun g5_12=> ?_))
  ·refine zR O (gF h5_6) (zK (o:=0) O O (zR O (gF h5_6) (zM 0 (v:=Vn 0) O O O O (zR O (gF h5_6) (zK (o:=1) O O (zR O (gF h5_6) (zM 1 (v:=Vn 0) O O O O (zR O (gF h5_6) (yI O O O ?_)))))))))
   exact yN O (fun _ hw=>hw)
  refine zD O (yj (q:=(((yE ({term:=0,qD:=0}:HrdD).ok)≠0)∨((yE ({index:=0,term:=0,conf:=({vv:=vv,vs:=vs,lv:=lv0,ls:=nI}:ConfD),dv:=dv0,data:=nB}:ShtD).a.ok)≠0))∨(((0:Nat):Int)<((0:Nat):Int))) 3 13 [93,92,91] (((4611686018427387904:Nat):Int)<((0:Nat):Int)) O O O O O O trivial O (fun h5_13=> ?_) (fun g5_17=> ?_))
  ·refine zR O (gF h5_13) (zK (o:=0) O O (zR O (gF h5_13) (zM 0 (v:=Vn 0) O O O O (zR O (gF h5_13) (yx O O O ?_)))))
   exact yN O (fun _ hw=>hw)
  refine zA (za O (fun c2=> ?_) (fun c2=> ?_))
  ·exact absurd c2 (by rw[jY hk,jY sk];omega)
  refine zQ (zC (zK (o:=0) O O (zM 1 (v:=Vn 0) O O O O (zK (o:=1) O O (zM 1 (v:=Vn 0) O O O O (a_call O O (fun w' hw=>(zQg 0 0 w' qO qO).mono ?_)))))))
  rintro _ w1 ⟨b3_,rfl,hO⟩
  refine O8 ?_ (hw.qi hO)
  refine zI O (zA (zP (zC (zD O (zK (o:=0) O O (zM 1 (v:=Vn 0) O O O O (zK (o:=1) O O (zM 1 (v:=Vn 0) O O O O (zD O (a_call O O (fun w' hw=>(zDW b3_ 0 0 (.slice none 0 0) [] 0 0 (.slice none 0 0) [] w' qO (⟨Nat.zero_le _,Nat.zero_le _,trivial⟩:(LG 0 0 ([]:List EntD)).good) (fun e he=>by cases he) qO (hw.give [5,6,7] O qM) Rd.nil (fun p hp=>by cases hp)).mono ?_)))))))))))
  rintro _ w1 ⟨lv'4_,es'5_,x6_,y7_,e8_,rfl,hf8_6,hf8_6_1,hO⟩
  have hen:es'5_.length=0:=by have h:(es'5_.map EntD.toEntA).length=0:=congrArg (fun q:LogA=>q.l.length) hf8_6;simpa using h
  have hes:es'5_=[]:=List.eq_nil_of_length_eq_zero hen
  have he0:e8_=0:=(congrArg (fun q:Nat×Nat×Int=>q.2.2) hf8_6_1).symm
  refine O8 ?_ (hw.qh [5,6,7] O hO)
  refine zD O (yA (vs:=[Vn x6_,Vn y7_,Vi e8_]) O O O (yA (vs:=[Vn x6_,Vn y7_,Vi e8_]) O O O (yA (vs:=[Vn x6_,Vn y7_,Vi e8_]) O O O (zI O (zI O (zI O (zA (zC (zD O (xn O O O (zA (za O (fun c3=> ?_) (fun c3=> ?_)))))))))))))
  ·exact absurd he0 c3
  refine zQ (zP (zC (zD O (a_call O O (fun w' hw=>(kV b3_ 0 0 lv'4_ es'5_ w' qP qO (hw.rdRes0 5 O) (hw.qq 6 O) (EntD.rd.star0 7 O hw)).mono ?_)))))
  rintro _ w1 ⟨rfl,hO⟩
  refine O8 ?_ (hw.qi hO)
  refine zD O (yA (vs:=[Vn (0+es'5_.length),Vn ((LG 0 0 es'5_).end_)]) O O O (yA (vs:=[Vn (0+es'5_.length),Vn ((LG 0 0 es'5_).end_)]) O O O (zI O (zI O (zA (zC (zD O (zK (o:=0) O O (zM 0 (v:=Vn 0) O O O O (yx O O O (zA (za O (fun c4=> ?_) (fun c4=> ?_)))))))))))))
  ·exact absurd c4 (by rw[hes];show ¬((0:Nat):Int)<((0:Nat):Int);omega)
  refine zQ (zP (ze [0,1,2,3,4,5,6] O qM qN (fun w' hw hS=>zB 0 O (x1 (cs:=[Vn 0,Vi 0]) 0 O O) hS (zB 1 O zS hS (zB 2 O (x1 2 O O) hS (zB 3 O (zH (o:=0) O) hS (zB 4 O (zY 1 (v:=Vn 0) O O O) hS (zB 5 O (x1 (cs:=[Vn 0,Vn 0,vv,lv0,dv0]) 1 O O) hS (zB 7 O zS hS (zB 9 O zS hS (zJ 6 O hw (a_call O O (fun w' hw=> ?_)))))))))))))
  refine(zQI ({index:=0,term:=0,conf:=({vv:=vv,vs:=vs,lv:=lv0,ls:=nI}:ConfD),dv:=dv0,data:=nB}:ShtD) w' qP qP qP ⟨⟨(hw.rd0 hvv),(hw.rd0 hlv0)⟩,(hw.rd0 hdv0)⟩).mono ?_
  rintro _ w1 ⟨cv9_,cw10_,r11_,rfl,hO⟩
  refine O11 ?_ (hw.qi hO)
  refine zE [0,1,2,3,4,5,6] O qM (fun w' hw hS=>zJ 8 O hw (a_call O O (fun w' hw=>(zKG w').mono ?_)))
  rintro _ w1 ⟨b12_,rfl,hO⟩
  refine O12 ?_ (hw.qi hO)
  refine zE [0,1,2,3,4,5,6] O qM (fun w' hw hS=>zB 10 O (zMC (cs:=[Vn 0,Vi 0,Vi 0,Vi 0,Vi 0,Vi 0,Vi 0,Vi 0,Vi 0, .pointer none,Vi id,Vi 0,Vi 0,Vi 0,Vi rho,Vi bs,Vi sp,Vi bt,Vi 0,Vi 0,Vi 0,Vi 1,Vi 0,Vn 0,Vn (({index:=0,term:=0,conf:=({vv:=vv,vs:=vs,lv:=lv0,ls:=nI}:ConfD),dv:=dv0,data:=nB}:ShtD).index),Vn (({index:=0,term:=0,conf:=({vv:=vv,vs:=vs,lv:=lv0,ls:=nI}:ConfD),dv:=dv0,data:=nB}:ShtD).term),cv9_,cw10_,r11_,pt b3_, .slice none 0 0,pt b12_,Vn qe, .pointer none]) (z:=[Vn 0,Vi 0,Vi 0,Vi 0,Vi 0,Vi 0,Vi 0,Vi 0,Vi 0, .pointer none,Vi 0,Vi 0,Vi 0,Vi 0,Vi 0,Vi 0,Vi 0,Vi 0,Vi 0,Vi 0,Vi 0,Vi 0,Vi 0,Vn 0,Vn 0,Vn 0, .slice none 0 0, .slice none 0 0, .slice none 0 0, .pointer none, .slice none 0 0, .pointer none,Vn 0, .pointer none]) (pl:=[(0,2),(2,7),(9,1),(10,1),(11,10),(21,1),(22,1),(23,1),(24,5),(29,1),(30,1),(31,1),(32,1),(33,1)]) qN ⟨trivial,O,trivial,O,O,trivial,O,O,O,trivial⟩ qN) hS (zJ 11 O hw (z8 O O (fun b133=>zE [0,1,2,3,4,5,6] O qM (fun w' hw hS=>zB 12 O yO hS (zT ?_))))))
  refine Oc13 ?_ hw
  refine zC (zD O (zD O (zD O (zD O (yh (cs:=[Vi 0,Vi 0,Vi 0,Vi 0,Vi 0,Vi 0,Vi 0]) (z:=[Vi 0,Vi 0,Vi 0,Vi 0,Vi 0,Vi 0,Vi 0]) (pl:=[(0,1),(1,1),(2,1),(3,1),(4,1),(5,1),(6,1)]) qN qN O (zb O O (zK (o:=2) O O (zo 12 O O O (xO O) O (zA (zP (ze [0,1,2,3,4,5,6,8,9,10,11] O qM qN (fun w' hw hS=>zB 0 O zS hS ?_))))))))))))
  refine zB 1 O (zO O) hS (zB 2 O (zH (o:=2) O) hS (zB 3 O (zH (o:=2) O) hS (zB 5 O zS hS (zq 4 6 ?_ ?_))))
  ·refine zl 4 O hw (zM 12 (v:=Vi 0) O O O O (zE [0,1,2,3,4,5,6,8,9,10,11] O qM (fun w' hw hS=>zJ 6 O hw (a_call O O (fun w' hw=>(zIE b133 (Vn 0) (Vi 0) (Vi 0) (Vi 0) (Vi 0) (Vi 0) (Vi 0) (Vi 0) (Vi 0) (.pointer none) (Vi id) (Vi 0) (Vi 0) (Vi 0) (Vi rho) (Vi bt) (Vi 0) (Vi 0) (Vi 0) (Vi 1) (Vi 0) (Vn 0) (Vn (({index:=0,term:=0,conf:=({vv:=vv,vs:=vs,lv:=lv0,ls:=nI}:ConfD),dv:=dv0,data:=nB}:ShtD).index)) (Vn (({index:=0,term:=0,conf:=({vv:=vv,vs:=vs,lv:=lv0,ls:=nI}:ConfD),dv:=dv0,data:=nB}:ShtD).term)) cv9_ cw10_ r11_ (pt b3_) (.slice none 0 0) (pt b12_) (.pointer none) bs sp qe w' qO qO qO (hw.give [12] O qM)).mono ?_)))))
   rintro _ w1 ⟨rfl,hO⟩
   refine O13 ?_ (hw.qh [12] O hO)
   refine zE [0,1,2,3,4,5,6,8,9,10,11] O qM (fun w' hw hS=>zB 7 O (yr O O (zr V)) hS (zB 8 O (zO O) hS (zB 9 O (zH (o:=2) O) hS (zB 10 O (zH (o:=2) O) hS (zJ 11 O hw (zn 12 O O O O O (zE [0,1,2,3,4,5,6,8,9,10,11] O qM (fun w' hw hS=>zT ?_))))))))
   refine Oc13 ?_ hw
   refine zC (zD O (zI O (zI O (zA ?_))))
   exact zU (xz (v:=pt b133) (v':=Vi 0) O O O (fun w' hw=>⟨b133,b3_,b12_,cv9_,cw10_,r11_,lv'4_,es'5_,O,hen,hw.sel [12,8,9,5,6,7,11] O qM⟩))
  refine zl 6 O hw (a_call O O (fun w' hw=>(zIE b133 (Vn 0) (Vi 0) (Vi 0) (Vi 0) (Vi 0) (Vi 0) (Vi 0) (Vi 0) (Vi 0) (.pointer none) (Vi id) (Vi 0) (Vi 0) (Vi 0) (Vi rho) (Vi bt) (Vi 0) (Vi 0) (Vi 0) (Vi 1) (Vi 0) (Vn 0) (Vn (({index:=0,term:=0,conf:=({vv:=vv,vs:=vs,lv:=lv0,ls:=nI}:ConfD),dv:=dv0,data:=nB}:ShtD).index)) (Vn (({index:=0,term:=0,conf:=({vv:=vv,vs:=vs,lv:=lv0,ls:=nI}:ConfD),dv:=dv0,data:=nB}:ShtD).term)) cv9_ cw10_ r11_ (pt b3_) (.slice none 0 0) (pt b12_) (.pointer none) bs sp qe w' qO qO qO (hw.give [12] O qM)).mono ?_))
  rintro _ w1 ⟨rfl,hO⟩
  refine O13 ?_ (hw.qh [12] O hO)
  refine zE [0,1,2,3,4,5,6,8,9,10,11] O qM (fun w' hw hS=>zJ 4 O hw (zM 12 (v:=Vi 0) O O O O (zE [0,1,2,3,4,5,6,8,9,10,11] O qM (fun w' hw hS=>zB 7 O (yr O O (zr V)) hS (zB 8 O (zO O) hS (zB 9 O (zH (o:=2) O) hS (zB 10 O (zH (o:=2) O) hS (zJ 11 O hw (zn 12 O O O O O (zE [0,1,2,3,4,5,6,8,9,10,11] O qM (fun w' hw hS=>zT ?_)))))))))))
  refine Oc13 ?_ hw
  refine zC (zD O (zI O (zI O (zA ?_))))
  exact zU (xz (v:=pt b133) (v':=Vi 0) O O O (fun w' hw=>⟨b133,b3_,b12_,cv9_,cw10_,r11_,lv'4_,es'5_,O,hen,hw.sel [12,8,9,5,6,7,11] O qM⟩))
theorem zLM(ci cr bs sp bt:Int)(vv:Value)(vs:List Int)(qe:Nat)(lv0 dv0:Value)(w:World)(hid:1≤ci∧ci≤16)(hr:0≤cr∧cr≤500000)(hb1:1≤bs∧bs≤1000000)(hb2:1≤sp∧sp≤1000000)(hb3:1≤bt∧bt≤1000000)(hvs:Rises vs)(hvn:0<vs.length)(hvl:vs.length≤16)(hd:qe<18446744073709551616)(hvv:Rd w [] (Res.sl vv vs.length (vs.flatMap I1)))(hlv0:Rd w [] (Res.sl lv0 nI.length (nI.flatMap I1)))(hdv0:Rd w [] (Res.sl dv0 nB.length (nB.map vb))):Rets Tryz.prog 10 #[Vi ci, .agg #[Vn 0,Vi 0], .agg #[Vn 0,Vn 0,vv,lv0,dv0], .slice none 0 0, .agg #[Vi 0,Vi 0,Vi 0,Vi cr,Vi bs,Vi sp,Vi bt,Vi 0,Vi 0,Vi 0],Vi 0,Vn qe] w fun u_ w'=>∃ (cb jb:Nat) (b:StB) (lv:Value) (es:List EntD),u_= .tuple #[pt cb,Vi 0]∧es.length=0∧b.vs=vs∧Own w [] [z7 cb ({term:=0,qD:=0,now:=0,qA:=0,due:=0+(bs+((qe%(Int.toNat sp+1):Nat):Int)),qE:=0,qz:=0,gd:=0,qC:=0}:TimD) (.pointer none) ({id:=ci,nodes:=0,voters:=0,edges:=0,rho:=cr,base:=bs,spread:=sp,beat:=bt,disk:=0,post:=0,keep:=0}:StA) ({qp:=1,who:=0,qc:=0}:RolD) b (.slice none 0 0) jb qe (.pointer none),Res.nl b lv es,Res.lo none,vI (.slice none 0 0) ([]:List Int)] w':=by
  refine(zJg ci cr bs sp bt vv vs qe lv0 dv0 w hid hr hb1 hb2 hb3 hvs hvn hvl hd hvv hlv0 hdv0).mono ?_
  rintro _ w1 ⟨cb,lb,jb,cv,cw,dv,lv,es,rfl,he,hO⟩
  exact⟨cb,jb,⟨cv,vs,cw,dv,lb⟩,lv,es,O,he,O,(zm ((hO.qo [3,4,5,1,2] O qM).qG) 3 1).sel [0,2,3,4] O qM⟩
def a3(rho:Int):StA:={id:=1,nodes:=0,voters:=0,edges:=0,rho:=rho,base:=100,spread:=9,beat:=3,disk:=0,post:=0,keep:=0}
def t0:TimD:={term:=0,qD:=0,now:=0,qA:=0,due:=100,qE:=0,qz:=0,gd:=0,qC:=0}
def n0:NodA:={t:=t0,r:=⟨1,0,0⟩,E:=[],ld:=none,yes:=[]}
def n1:NodA:={t:={t0 with now:=100,due:=200},r:=⟨2,0,0⟩,E:=[],ld:=none,yes:=[1]}
def m2:MsgA:=⟨2,2,1,1,0,0,0,0,true,[],⟨[],[]⟩,0,[]⟩
def n2:NodA:={t:={t0 with term:=1,qD:=1,now:=100,due:=200},r:=⟨3,0,0⟩,E:=[],ld:=none,yes:=[1]}
def m3:MsgA:=⟨4,2,1,1,0,0,0,0,true,[],⟨[],[]⟩,0,[]⟩
def p3(id:Int):PeerM:={id:=id,next:=1,qy:=0,round:=0,qx:=1,off:=0,opn:=false,told:=false,asked:=false}
def l3:LdD:={pv:= .slice none 0 0,qa:=[(0,p3 2),(0,p3 3)],av:= .slice none 0 0,qf:=[],rv:= .slice none 0 0,qd:=[100],sure:=0,kv:= .slice none 0 0,qj:=[],give:=0,qB:=false}
def n3:NodA:={t:={t0 with term:=1,qD:=1,now:=100,due:=200,qC:=100,qz:=100,qE:=100},r:=⟨4,1,0⟩,E:=[zAv 0 1],ld:=some l3,yes:=[]}
def m5:MsgA:=⟨6,3,1,1,1,0,0,1,true,[],⟨[],[]⟩,0,[]⟩
def p5:PeerM:={id:=3,next:=2,qy:=1,round:=1,qx:=0,off:=0,opn:=true,told:=true,asked:=false}
def l5:LdD:={l3 with qa:=[(0,p3 2),(0,p5)],qf:=[3],sure:=1}
def n5:NodA:={n3 with t:={t0 with term:=1,qD:=1,now:=100,qA:=100,due:=200,qC:=100,qz:=100,qE:=100},r:=⟨4,1,1⟩,ld:=some l5}
def p7:PeerM:={id:=3,next:=2,qy:=1,round:=1,qx:=0,off:=0,opn:=true,told:=false,asked:=false}
def l7(now:Int):LdD:={l5 with qa:=[(0,p3 2),(0,p7)],qd:=[100,now],qj:=[⟨2,1,2⟩]}
def n7(now:Int):NodA:={n5 with t:={n5.t with now:=now,qE:=now},ld:=some (l7 now)}
def m8:MsgA:=⟨6,3,1,1,1,0,0,2,true,[],⟨[],[]⟩,0,[]⟩
def p8:PeerM:={id:=3,next:=2,qy:=1,round:=2,qx:=0,off:=0,opn:=true,told:=true,asked:=false}
def aA:StA:={id:=1,nodes:=0,voters:=0,edges:=0,rho:=0,base:=10,spread:=5,beat:=2,disk:=0,post:=0,keep:=0}
def nA:NodA:={n0 with t:={t0 with due:=10}}
theorem zQN:jZ aA [1] []=[]:=by
  unfold jZ
  rw[show(zc [1] []).vs++(zc [1] []).ls=[1]from rfl,←zIT (List.Perm.refl [1]) qQ]
  rfl
theorem zQr:(xJ aA [1] 10 0 nA).1.r=⟨4,1,1⟩:=by
  have h1:xJ aA [1] 10 0 nA=zBA (ja aA [1] {nA with t:={t0 with term:=1,qD:=1,now:=10,due:=20},r:=⟨3,0,0⟩,yes:=[1]}):=rfl
  rw[h1]
  unfold ja
  dsimp only[nA,n0]
  rw[zQN]
  rfl
theorem zJy(w:World):Rets Tryz.prog 9 #[] w fun u_ w'=>u_= .agg #[Vi 0,Vi 0,Vi 0,Vi 0,Vi 10,Vi 9,Vi 3,Vi 0,Vi 0,Vi 0]∧Own w [] [] w':=by
  refine zW Tryz.func9 O Tryz.ntmps9 (Own.start w) ?_
  refine zC (yC (v:= .agg #[Vi 0,Vi 0,Vi 0,Vi 0,Vi 0,Vi 0,Vi 0,Vi 0,Vi 0,Vi 0]) qN O (fun b0=>zA (zC (yh (cs:=[Vi 0,Vi 0,Vi 0,Vi 0,Vi 10,Vi 9,Vi 3,Vi 0,Vi 0,Vi 0]) (z:=[Vi 0,Vi 0,Vi 0,Vi 0,Vi 0,Vi 0,Vi 0,Vi 0,Vi 0,Vi 0]) (pl:=[(0,1),(1,1),(2,1),(3,1),(4,1),(5,1),(6,1),(7,1),(8,1),(9,1)]) qN qN O (zo 0 O O O (xO O) O (zA ?_))))))
  exact zU (jp (cs:=[Vi 0,Vi 0,Vi 0,Vi 0,Vi 10,Vi 9,Vi 3,Vi 0,Vi 0,Vi 0]) O O qN (Own.qr (i:=0) O) (fun w' hw=>⟨O,hw.drop⟩))
theorem zJB(w:World):Rets Tryz.prog 11 #[] w fun u_ w'=>u_= .bool true∧Own w [] [] w':=by
  refine zW Tryz.func11 O Tryz.ntmps11 (Own.start w) ?_
  refine zC (zI O (zA (zC (yh (cs:=[Vn 0,Vi 0]) (z:=[Vn 0,Vi 0]) (pl:=[(0,1),(1,1)]) qN qN O (zx (e:=3) (sz:=1) (vs:=[Vi 1]) qN O O qR qM O (fun b9=>yh (cs:=[(.slice (some ⟨b9,0,none⟩) 1 1), .slice none 0 0]) (z:=[.slice none 0 0, .slice none 0 0]) (pl:=[(0,1),(1,1)]) qN qN O (yh (cs:=[Vn 0,Vn 0,(.slice (some ⟨b9,0,none⟩) 1 1), .slice none 0 0, .slice none 0 0]) (z:=[Vn 0,Vn 0, .slice none 0 0, .slice none 0 0, .slice none 0 0]) (pl:=[(0,1),(1,1),(2,2),(4,1)]) qN qN O (yh (cs:=[Vi 0,Vi 0,Vi 0,Vi 0,Vi 10,Vi 5,Vi 2,Vi 0,Vi 0,Vi 0]) (z:=[Vi 0,Vi 0,Vi 0,Vi 0,Vi 0,Vi 0,Vi 0,Vi 0,Vi 0,Vi 0]) (pl:=[(0,1),(1,1),(2,1),(3,1),(4,1),(5,1),(6,1),(7,1),(8,1),(9,1)]) qN qN O (a_call O O (fun w' hw=>(zLM 1 0 10 5 2 (.slice (some ⟨b9,0,none⟩) 1 1) [1] 0 (.slice none 0 0) (.slice none 0 0) w' qO qO qO qO qO ⟨by simp,by simp⟩ qS qS qO (hw.qq 0 O) Rd.nil Rd.nil).mono ?_))))))))))
  rintro _ w1 ⟨cb1_,jb2_,b3_,lv4_,es5_,rfl,hf1_5,hf1_5_1,hO⟩
  have he:=List.eq_nil_of_length_eq_zero hf1_5
  have hv:=hf1_5_1
  have hcf:zc b3_.vs (es5_.map EntD.toEntA)=⟨[1],[]⟩:=by rw[he,hv];rfl
  refine O5 ?_ (hw.qi hO)
  refine zD O (yA (vs:=[pt cb1_,Vi 0]) O O O (yA (vs:=[pt cb1_,Vi 0]) O O O (zI O (zI O (zA (zP (zC (zD O (xn O O O (zD O (yj (q:=0≠0) 2 2 [20,19] (false=true) O O O O O O trivial O (fun h2_2=> ?_) (fun g2_5=> ?_))))))))))))
  ·refine zR O (gF h2_2) (zD O (zR O (gF h2_2) (xf qN O O O ?_)))
   exact yN (xC _) (fun _ hw=>hw)
  refine zA (za O (fun c1=> ?_) (fun c1=> ?_))
  ·exact absurd c1 qQ
  refine zQ (zC (zD O (a_call O O (fun w' hw=>(zEo cb1_ jb2_ ({term:=0,qD:=0,now:=0,qA:=0,due:=0+(10+((0%(Int.toNat 5+1):Nat):Int)),qE:=0,qz:=0,gd:=0,qC:=0}:TimD) ({id:=1,nodes:=0,voters:=0,edges:=0,rho:=0,base:=10,spread:=5,beat:=2,disk:=0,post:=0,keep:=0}:StA) ({qp:=1,who:=0,qc:=0}:RolD) b3_ (.slice none 0 0) 0 lv4_ es5_ none [] 10 0 w' (by rw[he];exact⟨Nat.zero_le _,Nat.zero_le _,trivial⟩) (by rw[he];exact Nat.zero_le _) (by rw[hv];decide) (by rw[hcf];decide) ⟨⟨fun h=>absurd (show(1:Int)=3 from h) qM,by decide⟩,(by rw[he];decide),by decide,by decide,⟨fun h=>absurd (show(1:Int)=4 from h) qM,fun h=>by cases h⟩,(fun q h=>by cases h),Nat.zero_le _⟩ ⟨by decide,by decide,by decide,by decide,by decide⟩ qO qO qP qP (hw.give [1,2,3,4] O qM)).mono ?_))))
  rintro _ w1 ⟨n6_,o7_,x8_,rfl,hf4_1,hf4_1_1,hf4_1_2,hf4_1_3,hO⟩
  have hs:n6_.r=⟨4,1,1⟩:=by have h:=congrArg (fun q:NodA×OutA=>q.1.r) hf4_1;rw[he,hv]at h;exact h.trans zQr
  refine O9 ?_ (hw.qh [1,2,3,4] O hO)
  refine zA (zC (zD O (a_call O O (fun w' hw=>(zH8 cb1_ jb2_ n6_.t ({id:=1,nodes:=0,voters:=0,edges:=0,rho:=0,base:=10,spread:=5,beat:=2,disk:=0,post:=0,keep:=0}:StA) n6_.r b3_ (xF n6_.y) n6_.yv (.pointer none) 0 w' (hw.give [1] O qM)).mono ?_))))
  rintro _ w1 ⟨rfl,hO⟩
  refine O9 ?_ (hw.qh [1] O hO)
  refine zD O (yA (vs:=[.agg #[Vn n6_.t.term,Vi n6_.t.qD],Vi n6_.r.qp,Vi n6_.r.who,Vn n6_.r.qc]) O O O (yA (vs:=[.agg #[Vn n6_.t.term,Vi n6_.t.qD],Vi n6_.r.qp,Vi n6_.r.who,Vn n6_.r.qc]) O O O (yA (vs:=[.agg #[Vn n6_.t.term,Vi n6_.t.qD],Vi n6_.r.qp,Vi n6_.r.who,Vn n6_.r.qc]) O O O (yA (vs:=[.agg #[Vn n6_.t.term,Vi n6_.t.qD],Vi n6_.r.qp,Vi n6_.r.who,Vn n6_.r.qc]) O O O (yC (v:= .agg #[Vn 0,Vi 0]) qN O (fun b3=>zo 9 O O O (xO O) O (zI O (zI O (zI O (zA (zC (zD O ?_))))))))))))
  refine yR O O O (zD O (yJ (q:=n6_.r.qp=4) 2 2 [35,34] (n6_.r.who=1) O O O O O O trivial O (fun h6_2=> ?_) (fun g6_5=> ?_)))
  ·refine zR O (gT h6_2) (zD O (zR O (gT h6_2) (yR O O O ?_)))
   exact yN O (fun _ hw=>hw)
  refine zD O (yJ (q:=(n6_.r.qp=4)∧(n6_.r.who=1)) 2 6 [39,38] (((n6_.r.qc:Nat):Int)=((1:Nat):Int)) O O O O O O trivial O (fun h6_6=> ?_) (fun g6_9=> ?_))
  ·refine zR O (gT h6_6) (zD O (zR O (gT h6_6) (yR O O O ?_)))
   exact yN O (fun _ hw=>hw)
  refine zI O (zA ?_)
  exact zU (z9 (v:= .bool (decide (((n6_.r.qp=4)∧(n6_.r.who=1))∧(((n6_.r.qc:Nat):Int)=((1:Nat):Int))))) O O (fun w' hw=>⟨(by rw[hs];rfl),hw.drop⟩))
theorem zQJ{l:LdD}(h:l.er.bd):l.bd:=by
  have hp:∀ p∈l.qa,((0,p.2):PeerP)∈l.er.qa:=fun p hp=>List.mem_map_of_mem (f:=fun q:PeerP=>((0:Nat),q.2)) hp
  exact⟨by have:=h.qa;rwa [show l.er.qa.length=l.qa.length from zCE]at this,fun p q=>h.each (0,p.2) (hp p q),fun p q=>h.round (0,p.2) (hp p q),h.qd,h.qj,h.qf⟩
structure NodA.ok(vs0:List Int)(A:NodA):Prop where
  htm:(A.r.qp=3→1≤A.t.term)∧A.t.term≤4611686018427387904
  good:(LogA.mk 0 0 A.E).good
  len:A.E.length≤100000
  hen:(LogA.mk 0 0 A.E).end_≤A.t.term
  hn:0≤A.t.now∧A.t.now≤1000000000000000
  hh:0≤A.t.qA∧A.t.qA≤1000000000000000
  hbt:0≤A.t.qE∧A.t.qE≤1000000000000000
  hck:0≤A.t.qz∧A.t.qz≤1000000000000000
  hro:A.r.qp=4↔A.ld.isSome=true
  hld:∀ l,A.ld=some l→l.bd
  hy:A.yes.length≤1000
  hcm:1≤((zc vs0 A.E).vs++(zc vs0 A.E).ls).length∧((zc vs0 A.E).vs++(zc vs0 A.E).ls).length≤12
  hcl:A.r.qc≤A.E.length
theorem NodA.ok.hand{vs0:List Int}{n:NdD}(h:n.a.ok vs0):HandOk n.t n.r n.y n.yes (LG 0 0 n.es).end_:=
  ⟨h.htm,h.hen,h.hn,h.hh,h.hro.trans (by unfold NdD.a;rw[Option.isSome_map]),fun q hq=>zQJ (h.hld q.2.er (by unfold NdD.a;rw[hq];rfl)),h.hy⟩
theorem NodA.ok.len'{vs0:List Int}{n:NdD}(h:n.a.ok vs0):n.es.length≤100000:=by have:=h.len;unfold NdD.a at this;rwa [List.length_map]at this
theorem NodA.ok.hcl'{vs0:List Int}{n:NdD}(h:n.a.ok vs0):n.r.qc≤n.es.length:=by have:=h.hcl;unfold NdD.a at this;rwa [List.length_map]at this
def Res.cn(cb jb:Nat)(a:StA)(b:StB)(qe:Nat)(n:NdD):Res:=Res.star [z7 cb n.t (xF n.y) a n.r b n.yv jb qe (.pointer none),Res.nl b n.lv n.es,Res.lo n.y,vI n.yv n.yes]
theorem zQn(cb jb:Nat)(a:StA)(b:StB)(qe:Nat)(n:NdD)(now:Int)(dr:Nat)(w:World)(ha:a.ok)(hvl:b.vs.length≤12)(hk:n.a.ok b.vs)(hnw:0≤now∧now≤1000000000000000)(hd:dr<18446744073709551616)(hin:Own w (y1 [Res.cn cb jb a b qe n]) [Res.cn cb jb a b qe n] w):Rets Tryz.prog 12 #[pt cb,Vi now,Vn dr] w fun u_ w'=>∃ (n':NdD) (o:OutD) (x:OutA),u_= .agg (OutD.cells o).toArray∧(n'.a,x)=xJ a b.vs now dr n.a∧o.qk.map MsgD.a=x.ms∧o.qw=x.qw∧o.qt=x.qt∧Own w (y1 [Res.cn cb jb a b qe n]) [Res.cn cb jb a b dr n',vM o.mv o.qk,sM o.qk,vR o.rv o.qw,vU o.xv o.qt] w':=by
  refine(zEo cb jb n.t a n.r b n.yv qe n.lv n.es n.y n.yes now dr w hk.good hk.len' hvl hk.hcm hk.hand ha hnw hd hk.hbt hk.hck (hin.qn 0 O)).mono ?_
  rintro _ w1 ⟨n',o,x,rfl,hf,h1,h2,h3,hO⟩
  exact⟨n',o,x,O,hf,h1,h2,h3,(hO.qo [0,1,2,3] O qM).sel [4,0,1,2,3] O qM⟩
theorem zQt(cb jb:Nat)(a:StA)(b:StB)(qe:Nat)(n:NdD)(m:MsgD)(now:Int)(dr:Nat)(w:World)(ha:a.ok)(hvl:b.vs.length≤12)(hk:n.a.ok b.vs)(hnw:0≤now∧now≤1000000000000000)(hd:dr<18446744073709551616)(hm:m.wf)(hmk:m.kind≠7∧m.kind≠8)(hin:Own w (y1 [Res.cn cb jb a b qe n]) [Res.cn cb jb a b qe n] w)(rd_m:MsgD.rd m w (y1 [Res.cn cb jb a b qe n])):Rets Tryz.prog 16 #[pt cb, .agg (MsgD.cells m).toArray,Vi now,Vn dr] w fun u_ w'=>∃ (n':NdD) (dr':Nat) (o:OutD) (x:OutA),u_= .agg (OutD.cells o).toArray∧(n'.a,x)=zA3 a b.vs now dr m.a n.a∧o.qk.map MsgD.a=x.ms∧o.qw=x.qw∧o.qt=x.qt∧Own w (y1 [Res.cn cb jb a b qe n]) [Res.cn cb jb a b dr' n',vM o.mv o.qk,sM o.qk,vR o.rv o.qw,vU o.xv o.qt] w':=by
  refine(zO6 cb jb n.t a n.r b n.yv qe n.lv n.es n.y n.yes m now dr w hk.good hk.len' hvl hk.hcm hk.hand ha hnw hm hd hmk (hin.qn 0 O) rd_m).mono ?_
  rintro _ w1 ⟨n',dr',o,x,rfl,hf,h1,h2,h3,hO⟩
  exact⟨n',dr',o,x,O,hf,h1,h2,h3,(hO.qo [0,1,2,3] O qM).sel [4,0,1,2,3] O qM⟩
theorem zPm(cb jb:Nat)(a:StA)(b:StB)(qe:Nat)(n:NdD)(id:Nat)(lazy:Bool)(now:Int)(w:World)(ha:a.ok)(hvl:b.vs.length≤12)(hk:n.a.ok b.vs)(hnw:0≤now∧now≤1000000000000000)(hin:Own w (y1 [Res.cn cb jb a b qe n]) [Res.cn cb jb a b qe n] w):Rets Tryz.prog 15 #[pt cb,Vn id, .bool lazy,Vi now] w fun u_ w'=>∃ (n':NdD) (o:OutD) (x:OutA) (e:Int),u_= .tuple #[.agg (OutD.cells o).toArray,Vi e]∧((n'.a,x),e)=zAY a b.vs id lazy now n.a∧o.qk.map MsgD.a=x.ms∧o.qw=x.qw∧o.qt=x.qt∧Own w (y1 [Res.cn cb jb a b qe n]) [Res.cn cb jb a b qe n',vM o.mv o.qk,sM o.qk,vR o.rv o.qw,vU o.xv o.qt] w':=by
  refine(zOr cb jb n.t a n.r b n.yv qe n.lv n.es n.y n.yes id lazy now w hk.good hk.len' hvl hk.hcm hk.hand ha hnw hk.hcl' (hin.qn 0 O)).mono ?_
  rintro _ w1 ⟨n',o,x,e,rfl,hf,h1,h2,h3,hO⟩
  exact⟨n',o,x,e,O,hf,h1,h2,h3,(hO.qo [0,1,2,3] O qM).sel [4,0,1,2,3] O qM⟩
theorem zQc(ci cr bs sp bt:Int)(vv:Value)(vs:List Int)(qe:Nat)(lv0 dv0:Value)(w:World)(hid:1≤ci∧ci≤16)(hr:0≤cr∧cr≤500000)(hb1:1≤bs∧bs≤1000000)(hb2:1≤sp∧sp≤1000000)(hb3:1≤bt∧bt≤1000000)(hvs:Rises vs)(hvn:0<vs.length)(hvl:vs.length≤16)(hd:qe<18446744073709551616)(hvv:Rd w [] (Res.sl vv vs.length (vs.flatMap I1)))(hlv0:Rd w [] (Res.sl lv0 nI.length (nI.flatMap I1)))(hdv0:Rd w [] (Res.sl dv0 nB.length (nB.map vb))):Rets Tryz.prog 10 #[Vi ci, .agg #[Vn 0,Vi 0], .agg #[Vn 0,Vn 0,vv,lv0,dv0], .slice none 0 0, .agg #[Vi 0,Vi 0,Vi 0,Vi cr,Vi bs,Vi sp,Vi bt,Vi 0,Vi 0,Vi 0],Vi 0,Vn qe] w fun u_ w'=>∃ (cb jb:Nat) (b:StB) (n:NdD),u_= .tuple #[pt cb,Vi 0]∧n.a={t:={term:=0,qD:=0,now:=0,qA:=0,due:=0+(bs+((qe%(Int.toNat sp+1):Nat):Int)),qE:=0,qz:=0,gd:=0,qC:=0},r:=⟨1,0,0⟩,E:=[],ld:=none,yes:=[]}∧b.vs=vs∧Own w [] [Res.cn cb jb ({id:=ci,nodes:=0,voters:=0,edges:=0,rho:=cr,base:=bs,spread:=sp,beat:=bt,disk:=0,post:=0,keep:=0}:StA) b qe n] w':=by
  refine(zLM ci cr bs sp bt vv vs qe lv0 dv0 w hid hr hb1 hb2 hb3 hvs hvn hvl hd hvv hlv0 hdv0).mono ?_
  rintro _ w1 ⟨cb,jb,b,lv,es,rfl,he,hb,hO⟩
  exact⟨cb,jb,b,⟨{term:=0,qD:=0,now:=0,qA:=0,due:=0+(bs+((qe%(Int.toNat sp+1):Nat):Int)),qE:=0,qz:=0,gd:=0,qC:=0},⟨1,0,0⟩,lv,es,none, .slice none 0 0,[]⟩,O,by unfold NdD.a;rw[List.eq_nil_of_length_eq_zero he];rfl,hb,hO.toStar⟩
end Go.Proofs.YtkkeknmkipkbmaaGreat
