import Derived.Test.YtkkeknmkipkbmaaGreatFwX
import Derived.Test.YtkkeknmkipkbmaaGreatConfA
import Derived.Test.YtkkeknmkipkbmaaGreatCoT
import Derived.Test.YtkkeknmkipkbmaaGreatIn
import Derived.Test.YtkkeknmkipkbmaaGreatEnc2
set_option linter.unusedSectionVars false
set_option linter.unusedSimpArgs false
set_option linter.unusedVariables false
set_option maxRecDepth 10000
namespace Go.Proofs.YtkkeknmkipkbmaaGreat
open Go Go.Sc Go.Proofs
theorem zB0{P:Program}{n:Nat}{fn:Func}{R:Value→World→Prop}{A:World→Prop}{f:Nat→Value}{t0 t1 t2:Tmp}{T:TypeId}{b:Nat}{cs:List Value}{v0 v2:Value}(hr:fn.results= #[.tmp t0, .cell t1 T, .tmp t2])(h0:f t0=v0)(h1:f t1= .pointer (some ⟨b,0,none⟩))(h2:f t2=v2)
    (ht:jQ P T=some cs.length) (hc:∀ w,A w→∀ i u,cs[i]?=some u→w.cell? ⟨b,0+i,none⟩=some u) (h:∀ w,A w→R (.tuple #[v0, .agg cs.toArray,v2]) w):∀ w,A w→zB6 P fn n R f w:=
  fun w hw=>⟨_,fun a ha=>by
    have:=xH (P:=P) ht (hc w hw)
    simp[results,hr,ha.get,h0,h1,h2,asAddr,this],h w hw⟩
def zOG(t rho:Int):Prop:=((t<0∨1099511627776<t)∨rho<0)∨500000<rho
instance (t rho:Int):Decidable (zOG t rho):=inferInstanceAs (Decidable (((_∨_)∨_)∨_))
def shr(t rho:Int):Int:=t*1000000 / (1000000+rho)
def zLy(t rho:Int):Int×Int:=if zOG t rho then(0,1)else(shr t rho,0)
def zN0(t rho:Int):Int×Int:=if(zLy t rho).2≠0 then(0,(zLy t rho).2)else zLy (zLy t rho).1 rho
def zOq(a:StA)(vs0:List Int)(id:Nat)(lazy:Bool)(n:NodA)(l:LdD):NodA×OutA:=
  if(zc vs0 n.E).qu [a.id]∨(lazy=true∧l.qB=false∧n.t.now - n.t.qz<(zN0 a.base a.rho).1)then(n,⟨[],[⟨id,n.r.qc⟩],[]⟩)
  else zAb (zEo a vs0 n {l with qj:=l.qj++[⟨id,n.r.qc,l.qf.length+1⟩]})
def ReadF(a:StA)(vs0:List Int)(id:Nat)(lazy:Bool)(now:Int)(n0:NodA):(NodA×OutA)×Int:=
  if n0.r.qt≠4 then((jO now n0,⟨[],[],[]⟩),14)
  else if ¬(LogA.mk 0 0 n0.E).fits n0.r.qc n0.t.term then((jO now n0,⟨[],[],[]⟩),15)
  else match n0.ld with
    |some l=>(zOq a vs0 id lazy (jO now n0) l,0)
    |none=>((jO now n0,⟨[],[],[]⟩),0)
theorem zON(x:ShtD)(w:World)(hv:x.conf.vs.length≤10000000)(hl:x.conf.ls.length≤10000000)(hd:x.data.length≤1000000000)(rd_x:ShtD.rd x w []):Rets Tryz.prog 30 #[.agg (ShtD.cells x).toArray] w fun u_ w'=>∃ (cv cw r:Value),u_= .agg #[Vn x.index,Vn x.term,cv,cw,r]∧Own w [] [vI cv x.conf.vs,vI cw x.conf.ls,vY r x.data] w':=by
  refine zW Tryz.func30 O Tryz.ntmps30 (Own.start w) ?_
  refine zB (z4 O O (fun b1=>yE (v:= .agg #[Vn 0,Vn 0, .slice none 0 0, .slice none 0 0, .slice none 0 0]) qM O (fun b2=>zA (zB (zJ (o:=2) O O (j3 0 (ConfD.cells x.conf) O O (kH 2 O) qM O (a_call O O (fun w' hw=>(zFj x.conf w' qN qN (rd_x.conf.at0 hw)).mono ?_))))))))
  rintro _ w1 ⟨cv1_,cw2_,rfl,hO⟩
  refine O4 ?_ (hw.qi hO)
  refine zJ (o:=2) O O ?_
  refine zP (fun w' hw=>Own.qh (i:=2) O hw) (fun hc1_=> ?_)
  refine zP (fun w' hw=>Own.qh (i:=3) O hw) (fun hc2_=> ?_)
  refine zp 0 O O O (zF hc1_ (zF hc2_ zk)) O (zA (zB (zJ (o:=4) O O (zL 0 (v:=x.dv) O O O O (a_call O O (fun w' hw=>(zA8 x.dv x.data w' qO (hw.rd0 rd_x.dv)).mono ?_))))))
  rintro r3_ w1 ⟨_,rfl,hO⟩
  refine O5 ?_ (hw.qi hO)
  refine zJ (o:=4) O O ?_
  refine zP (fun w' hw=>Own.qh (i:=4) O hw) (fun hc3_=> ?_)
  refine zn (cs:=[Vn x.index,Vn x.term,cv1_,cw2_,x.dv]) 0 O O O hc3_ O (zA (zB (yI (cs:=[Vn x.index,Vn x.term,cv1_,cw2_,r3_]) 0 O O O (zp 1 O O O (zF O (zF O (zF hc1_ (zF hc2_ (zF hc3_ zk))))) O (zA ?_)))))
  exact zT (jV (cs:=[Vn x.index,Vn x.term,cv1_,cw2_,r3_]) O O qM (Own.qq (i:=1) O) (fun w' hw=>⟨cv1_,cw2_,r3_,O,hw.sel [2,3,4] O qL⟩))
theorem zIp(w:World):Rets Tryz.prog 31 #[] w fun u_ w'=>∃ (b:Nat),u_=pt b∧Own w [] [Res.row b 150 [Vn 0,Vn 0, .slice none 0 0]] w':=by
  refine zW Tryz.func31 O Tryz.ntmps31 (Own.start w) ?_
  refine zB (zI O (zA (zB (yc (cs:=[Vn 0,Vn 0, .slice none 0 0]) (z:=[Vn 0,Vn 0, .slice none 0 0]) (pl:=[(0,2),(2,1)]) qM qM O (z4 O O (fun b2=>zI O (zA ?_)))))))
  exact zT (z5 (v:=pt b2) O O (fun w' hw=>⟨b2,O,hw⟩))
theorem zHo{S:List Nat}(cb:Nat)(a0 a1 a2 a3 a4 a5 a6 a7 a8 a9 b0 b1 b2 b3 b4 b5 b6 b7 b8 b9 d0 d1 d2 d3 d4 d5 d6 d7 d8 d9 e0:Value)(bs sp:Int)(qd:Nat)(w:World)(hs:1≤sp∧sp≤1073741824)(hb:1≤bs∧bs≤1073741824)(hd:qd<18446744073709551616)(hin:Own w S [Res.row cb 101 [a0,a1,a2,a3,a4,a5,a6,a7,a8,a9,b0,b1,b2,b3,b4,Vi bs,Vi sp,b5,b6,b7,b8,b9,d0,d1,d2,d3,d4,d5,d6,d7,d8,d9,Vn qd,e0]] w):Rets Tryz.prog 32 #[pt cb] w fun u_ w'=>u_=Vi (bs+((qd%(Int.toNat sp+1):Nat):Int))∧Own w S [Res.row cb 101 [a0,a1,a2,a3,a4,a5,a6,a7,a8,a9,b0,b1,b2,b3,b4,Vi bs,Vi sp,b5,b6,b7,b8,b9,d0,d1,d2,d3,d4,d5,d6,d7,d8,d9,Vn qd,e0]] w':=by
  have hu:u64 (sp+1)=Int.toNat sp+1:=by unfold u64;omega
  have hm:qd%u64 (sp+1)<u64 (sp+1):=Nat.mod_lt qd V
  have hm2:qd%u64 (sp+1)≤1073741824:=by omega
  refine zW Tryz.func32 O Tryz.ntmps32 hin ?_
  refine zB (zI O (zA (yZ qM qM (zM O zU (zM O (zQ O) (zM O (zH (o:=11) O) (zM O (zH (o:=4) O) (zM O (za 0 (v:=Vi bs) O O O) (zM O zU (zM O (zQ O) (zM O (zH (o:=32) O) (zM O (za 0 (v:=Vn qd) O O O) ?_))))))))))))
  refine zM O zU (zM O (zQ O) (zM O (zH (o:=11) O) (zM O (zH (o:=5) O) (zM O (za 0 (v:=Vi sp) O O O) (zM O (yo O O (zu V)) (zM O (kN qM O (ko _) qM) (zM O (zE6 (c:=((qd%(u64 (sp+1)):Nat):Int)) O O V O) (zM O (kN qM O (zu V) qM) (zM O (yo O O (zu V)) (zM O yN (xe ?_)))))))))))
  exact zT (z5 (v:=Vi (bs+((qd%(u64 (sp+1)):Nat):Int))) O O (fun w' hw=>⟨(by rw[hu]),hw⟩))
theorem zMZ{id rho mn mx:Int}(hid:1≤id∧id≤16)(hr:0≤rho∧rho≤500000)(h1:1≤mn)(h2:mx≤1000000):¬((((((id<1∨16<id)∨(0:Nat)<0)∨rho<0)∨500000<rho)∨mn<1)∨1073741824<mx):=by omega
abbrev nI:List Int:=[]
abbrev nB:List UInt8:=[]
theorem zHs(id rho bs sp bt:Int)(vv:Value)(vs:List Int)(qd:Nat)(lv0 dv0:Value)(w:World)(hid:1≤id∧id≤16)(hr:0≤rho∧rho≤500000)(hb1:1≤bs∧bs≤1000000)(hb2:1≤sp∧sp≤1000000)(hb3:1≤bt∧bt≤1000000)(hvs:Rises vs)(hvn:0<vs.length)(hvl:vs.length≤16)(hd:qd<18446744073709551616)(hvv:Rd w [] (Res.sl vv vs.length (vs.flatMap I1)))(hlv0:Rd w [] (Res.sl lv0 nI.length (nI.flatMap I1)))(hdv0:Rd w [] (Res.sl dv0 nB.length (nB.map vb))):Rets Tryz.prog 10 #[Vi id, .agg #[Vn 0,Vi 0], .agg #[Vn 0,Vn 0,vv,lv0,dv0], .slice none 0 0, .agg #[Vi 0,Vi 0,Vi 0,Vi rho,Vi bs,Vi sp,Vi bt,Vi 0,Vi 0,Vi 0],Vi 0,Vn qd] w fun u_ w'=>∃ (cb lb jb:Nat) (cv cw dv lv:Value) (es:List EntD),u_= .tuple #[pt cb,Vi 0]∧es.length=0∧Own w [] [Res.row cb 101 [Vn 0,Vi 0,Vi 0,Vi 0,Vi (0+(bs+((qd%(Int.toNat sp+1):Nat):Int))),Vi 0,Vi 0,Vi 0,Vi 0, .pointer none,Vi id,Vi 0,Vi 0,Vi 0,Vi rho,Vi bs,Vi sp,Vi bt,Vi 0,Vi 0,Vi 0,Vi 1,Vi 0,Vn 0,Vn 0,Vn 0,cv,cw,dv,pt lb, .slice none 0 0,pt jb,Vn qd, .pointer none],vI cv vs,vI cw ([]:List Int),Res.row lb 144 [Vn 0,Vn 0,lv],vE lv es,sE es,Res.row jb 150 [Vn 0,Vn 0, .slice none 0 0]] w':=by
  have hm:qd%(Int.toNat sp+1)<Int.toNat sp+1:=Nat.mod_lt _ V
  have hR0:Rises ([]:List Int):=⟨by simp,by simp⟩
  have hko:(({vs:=vs,ls:=[]}:ConfA)).ok:=⟨⟨⟨hvs,hR0⟩,hvn⟩,fun v _ h=>by cases h⟩
  refine zW Tryz.func10 O Tryz.ntmps10 (Own.start w) ?_
  refine zB (z4 O O (fun b8=>z4 O O (fun b9=>z4 O O (fun b11=>zI O (zI O (zA (zN (zB (zD O (yH O O O (zD O (yk (q:=id<1) 2 2 [31,30] (16<id) O O O O O O trivial O (fun h1_2=> ?_) (fun g1_5=> ?_)))))))))))))
  ·refine zS O (gF h1_2) (zD O (zS O (gF h1_2) (yz O O O ?_)))
   exact yP O (fun _ hw=>hw)
  refine zD O (yk (q:=(id<1)∨(16<id)) 2 6 [35,34] (0<0) O O O O O O trivial O (fun h1_6=> ?_) (fun g1_9=> ?_))
  ·refine zS O (gF h1_6) (zD O (zS O (gF h1_6) (yH O O O ?_)))
   exact yP O (fun _ hw=>hw)
  refine zD O (yk (q:=((id<1)∨(16<id))∨(0<0)) 3 10 [40,39,38] (rho<0) O O O O O O trivial O (fun h1_10=> ?_) (fun g1_14=> ?_))
  ·refine zS O (gF h1_10) (zJ (o:=3) O O (zS O (gF h1_10) (zL 2 (v:=Vi rho) O O O O (zS O (gF h1_10) (yH O O O ?_)))))
   exact yP O (fun _ hw=>hw)
  refine zD O (yk (q:=(((id<1)∨(16<id))∨(0<0))∨(rho<0)) 3 15 [45,44,43] (500000<rho) O O O O O O trivial O (fun h1_15=> ?_) (fun g1_19=> ?_))
  ·refine zS O (gF h1_15) (zJ (o:=3) O O (zS O (gF h1_15) (zL 2 (v:=Vi rho) O O O O (zS O (gF h1_15) (yz O O O ?_)))))
   exact yP O (fun _ hw=>hw)
  refine zD O (yk (q:=((((id<1)∨(16<id))∨(0<0))∨(rho<0))∨(500000<rho)) 8 20 [55,54,53,52,51,50,49,48] ((min (min bs sp) bt)<1) O O O O O O trivial O (fun h1_20=> ?_) (fun g1_29=> ?_))
  ·refine zS O (gF h1_20) (zJ (o:=4) O O (zS O (gF h1_20) (zL 2 (v:=Vi bs) O O O O (zS O (gF h1_20) (zJ (o:=5) O O (zS O (gF h1_20) (zL 2 (v:=Vi sp) O O O O (zS O (gF h1_20) (zJ (o:=6) O O (zS O (gF h1_20) (zL 2 (v:=Vi bt) O O O O (zS O (gF h1_20) ?_))))))))))))
   refine zNB (c:=min (min bs sp) bt) O O O (zOU _ _ _) O (zS O (gF h1_20) (yH O O O ?_))
   exact yP O (fun _ hw=>hw)
  refine zD O (yk (q:=(((((id<1)∨(16<id))∨(0<0))∨(rho<0))∨(500000<rho))∨((min (min bs sp) bt)<1)) 8 30 [65,64,63,62,61,60,59,58] (1073741824<(max (max bs sp) bt)) O O O O O O trivial O (fun h1_30=> ?_) (fun g1_39=> ?_))
  ·refine zS O (gF h1_30) (zJ (o:=4) O O (zS O (gF h1_30) (zL 2 (v:=Vi bs) O O O O (zS O (gF h1_30) (zJ (o:=5) O O (zS O (gF h1_30) (zL 2 (v:=Vi sp) O O O O (zS O (gF h1_30) (zJ (o:=6) O O (zS O (gF h1_30) (zL 2 (v:=Vi bt) O O O O (zS O (gF h1_30) ?_))))))))))))
   refine zNz (c:=max (max bs sp) bt) O O O (zMm _ _ _) O (zS O (gF h1_30) (yz O O O ?_))
   exact yP O (fun _ hw=>hw)
  refine zA (zY O (fun c1=> ?_) (fun c1=> ?_))
  ·exact absurd c1 (zMZ hid hr (Int.le_min.2 ⟨Int.le_min.2 ⟨hb1.1,hb2.1⟩,hb3.1⟩) (Int.max_le.2 ⟨Int.max_le.2 ⟨hb1.2,hb2.2⟩,hb3.2⟩))
  refine zO (zB (yI (cs:=[Vn 0,Vi 0]) 0 O O O (a_call O O (fun w' hw=>(zIQ ({term:=0,qD:=0}:HrdD) w' qO).mono ?_))))
  rintro _ w1 ⟨r1_,rfl,hO⟩
  have hk:({term:=0,qD:=0}:HrdD).ok:=⟨by decide,by decide⟩
  refine O4 ?_ (hw.qi hO)
  refine zD O (yD (vs:=[r1_,Vi (z9 ({term:=0,qD:=0}:HrdD).ok)]) O O O (yD (vs:=[r1_,Vi (z9 ({term:=0,qD:=0}:HrdD).ok)]) O O O (zI O (zI O (zA (zB (yI (cs:=[Vn 0,Vn 0,vv,lv0,dv0]) 1 O O O (a_call O O (fun w' hw=>(zH1 ({index:=0,term:=0,conf:=({vv:=vv,vs:=vs,lv:=lv0,ls:=nI}:ConfD),dv:=dv0,data:=nB}:ShtD) w' ⟨by show(0:Nat)<_;decide,by show(0:Nat)<_;decide,⟨by show vs.length≤_;omega,by show(0:Nat)≤_;decide⟩,by show(0:Nat)≤_;decide⟩ ⟨⟨(hw.rd0 hvv),(hw.rd0 hlv0)⟩,(hw.rd0 hdv0)⟩).mono ?_)))))))))
  rintro _ w1 ⟨r2_,rfl,hO⟩
  have sk:({index:=0,term:=0,conf:=({vv:=vv,vs:=vs,lv:=lv0,ls:=[]}:ConfD),dv:=dv0,data:=[]}:ShtD).a.ok:=⟨⟨⟨⟨hko,by show 0≤32768;decide⟩,by show(0:Nat)=0↔(0:Nat)=0;exact Iff.rfl⟩,by show(0:Nat)≤_;decide⟩,by show(0:Nat)≤_;decide⟩
  refine O5 ?_ (hw.qi hO)
  refine zD O (yD (vs:=[r2_,Vi (z9 ({index:=0,term:=0,conf:=({vv:=vv,vs:=vs,lv:=lv0,ls:=nI}:ConfD),dv:=dv0,data:=nB}:ShtD).a.ok)]) O O O (yD (vs:=[r2_,Vi (z9 ({index:=0,term:=0,conf:=({vv:=vv,vs:=vs,lv:=lv0,ls:=nI}:ConfD),dv:=dv0,data:=nB}:ShtD).a.ok)]) O O O (zI O (zI O (zA (zN (zB (zD O (xa O O O (zD O (yk (q:=(z9 ({term:=0,qD:=0}:HrdD).ok)≠0) 2 2 [81,80] ((z9 ({index:=0,term:=0,conf:=({vv:=vv,vs:=vs,lv:=lv0,ls:=nI}:ConfD),dv:=dv0,data:=nB}:ShtD).a.ok)≠0) O O O O O O trivial O (fun h5_2=> ?_) (fun g5_5=> ?_))))))))))))
  ·refine zS O (gF h5_2) (zD O (zS O (gF h5_2) (xa O O O ?_)))
   exact yP O (fun _ hw=>hw)
  refine zD O (yk (q:=((z9 ({term:=0,qD:=0}:HrdD).ok)≠0)∨((z9 ({index:=0,term:=0,conf:=({vv:=vv,vs:=vs,lv:=lv0,ls:=nI}:ConfD),dv:=dv0,data:=nB}:ShtD).a.ok)≠0)) 5 6 [88,87,86,85,84] (((0:Nat):Int)<((0:Nat):Int)) O O O O O O trivial O (fun h5_6=> ?_) (fun g5_12=> ?_))
  ·refine zS O (gF h5_6) (zJ (o:=0) O O (zS O (gF h5_6) (zL 0 (v:=Vn 0) O O O O (zS O (gF h5_6) (zJ (o:=1) O O (zS O (gF h5_6) (zL 1 (v:=Vn 0) O O O O (zS O (gF h5_6) (yH O O O ?_)))))))))
   exact yP O (fun _ hw=>hw)
  refine zD O (yk (q:=(((z9 ({term:=0,qD:=0}:HrdD).ok)≠0)∨((z9 ({index:=0,term:=0,conf:=({vv:=vv,vs:=vs,lv:=lv0,ls:=nI}:ConfD),dv:=dv0,data:=nB}:ShtD).a.ok)≠0))∨(((0:Nat):Int)<((0:Nat):Int))) 3 13 [93,92,91] (((4611686018427387904:Nat):Int)<((0:Nat):Int)) O O O O O O trivial O (fun h5_13=> ?_) (fun g5_17=> ?_))
  ·refine zS O (gF h5_13) (zJ (o:=0) O O (zS O (gF h5_13) (zL 0 (v:=Vn 0) O O O O (zS O (gF h5_13) (yz O O O ?_)))))
   exact yP O (fun _ hw=>hw)
  refine zA (zY O (fun c2=> ?_) (fun c2=> ?_))
  ·exact absurd c2 (by rw[jE hk,jE sk];omega)
  refine zO (zB (zJ (o:=0) O O (zL 1 (v:=Vn 0) O O O O (zJ (o:=1) O O (zL 1 (v:=Vn 0) O O O O (a_call O O (fun w' hw=>(zOc 0 0 w' qN qN).mono ?_)))))))
  rintro _ w1 ⟨b3_,rfl,hO⟩
  refine O8 ?_ (hw.qi hO)
  refine zI O (zA (zN (zB (zD O (zJ (o:=0) O O (zL 1 (v:=Vn 0) O O O O (zJ (o:=1) O O (zL 1 (v:=Vn 0) O O O O (zD O (a_call O O (fun w' hw=>(zDJ b3_ 0 0 (.slice none 0 0) [] 0 0 (.slice none 0 0) [] w' qN (⟨Nat.zero_le _,Nat.zero_le _,trivial⟩:(LG 0 0 ([]:List EntD)).good) (fun e he=>by cases he) qN (hw.give [5,6,7] O qL) Rd.nil (fun p hp=>by cases hp)).mono ?_)))))))))))
  rintro _ w1 ⟨lv'4_,es'5_,x6_,y7_,e8_,rfl,hf8_6,hf8_6_1,hO⟩
  have hen:es'5_.length=0:=by have h:(es'5_.map EntD.toEntA).length=0:=congrArg (fun q:LogA=>q.l.length) hf8_6;simpa using h
  have hes:es'5_=[]:=List.eq_nil_of_length_eq_zero hen
  have he0:e8_=0:=(congrArg (fun q:Nat×Nat×Int=>q.2.2) hf8_6_1).symm
  refine O8 ?_ (hw.qg [5,6,7] O hO)
  refine zD O (yD (vs:=[Vn x6_,Vn y7_,Vi e8_]) O O O (yD (vs:=[Vn x6_,Vn y7_,Vi e8_]) O O O (yD (vs:=[Vn x6_,Vn y7_,Vi e8_]) O O O (zI O (zI O (zI O (zA (zB (zD O (xa O O O (zA (zY O (fun c3=> ?_) (fun c3=> ?_)))))))))))))
  ·exact absurd he0 c3
  refine zO (zN (zB (zD O (a_call O O (fun w' hw=>(x8 b3_ 0 0 lv'4_ es'5_ w' qO qN (hw.rdRes0 5 O) (hw.qp 6 O) (EntD.rd.star0 7 O hw)).mono ?_)))))
  rintro _ w1 ⟨rfl,hO⟩
  refine O8 ?_ (hw.qi hO)
  refine zD O (yD (vs:=[Vn (0+es'5_.length),Vn ((LG 0 0 es'5_).end_)]) O O O (yD (vs:=[Vn (0+es'5_.length),Vn ((LG 0 0 es'5_).end_)]) O O O (zI O (zI O (zA (zB (zD O (zJ (o:=0) O O (zL 0 (v:=Vn 0) O O O O (yz O O O (zA (zY O (fun c4=> ?_) (fun c4=> ?_)))))))))))))
  ·exact absurd c4 (by rw[hes];show ¬((0:Nat):Int)<((0:Nat):Int);omega)
  refine zO (zN (zi [0,1,2,3,4,5,6] O qL qM (fun w' hw hS=>zC 0 O (xy (cs:=[Vn 0,Vi 0]) 0 O O) hS (zC 1 O zU hS (zC 2 O (xy 2 O O) hS (zC 3 O (zH (o:=0) O) hS (zC 4 O (za 1 (v:=Vn 0) O O O) hS (zC 5 O (xy (cs:=[Vn 0,Vn 0,vv,lv0,dv0]) 1 O O) hS (zC 7 O zU hS (zC 9 O zU hS (zK 6 O hw (a_call O O (fun w' hw=> ?_)))))))))))))
  refine(zON ({index:=0,term:=0,conf:=({vv:=vv,vs:=vs,lv:=lv0,ls:=nI}:ConfD),dv:=dv0,data:=nB}:ShtD) w' qO qO qO ⟨⟨(hw.rd0 hvv),(hw.rd0 hlv0)⟩,(hw.rd0 hdv0)⟩).mono ?_
  rintro _ w1 ⟨cv9_,cw10_,r11_,rfl,hO⟩
  refine O11 ?_ (hw.qi hO)
  refine zE [0,1,2,3,4,5,6] O qL (fun w' hw hS=>zK 8 O hw (a_call O O (fun w' hw=>(zIp w').mono ?_)))
  rintro _ w1 ⟨b12_,rfl,hO⟩
  refine O12 ?_ (hw.qi hO)
  refine zE [0,1,2,3,4,5,6] O qL (fun w' hw hS=>zC 10 O (zJy (cs:=[Vn 0,Vi 0,Vi 0,Vi 0,Vi 0,Vi 0,Vi 0,Vi 0,Vi 0, .pointer none,Vi id,Vi 0,Vi 0,Vi 0,Vi rho,Vi bs,Vi sp,Vi bt,Vi 0,Vi 0,Vi 0,Vi 1,Vi 0,Vn 0,Vn (({index:=0,term:=0,conf:=({vv:=vv,vs:=vs,lv:=lv0,ls:=nI}:ConfD),dv:=dv0,data:=nB}:ShtD).index),Vn (({index:=0,term:=0,conf:=({vv:=vv,vs:=vs,lv:=lv0,ls:=nI}:ConfD),dv:=dv0,data:=nB}:ShtD).term),cv9_,cw10_,r11_,pt b3_, .slice none 0 0,pt b12_,Vn qd, .pointer none]) (z:=[Vn 0,Vi 0,Vi 0,Vi 0,Vi 0,Vi 0,Vi 0,Vi 0,Vi 0, .pointer none,Vi 0,Vi 0,Vi 0,Vi 0,Vi 0,Vi 0,Vi 0,Vi 0,Vi 0,Vi 0,Vi 0,Vi 0,Vi 0,Vn 0,Vn 0,Vn 0, .slice none 0 0, .slice none 0 0, .slice none 0 0, .pointer none, .slice none 0 0, .pointer none,Vn 0, .pointer none]) (pl:=[(0,2),(2,7),(9,1),(10,1),(11,10),(21,1),(22,1),(23,1),(24,5),(29,1),(30,1),(31,1),(32,1),(33,1)]) qM ⟨trivial,O,trivial,O,O,trivial,O,O,O,trivial⟩ qM) hS (zK 11 O hw (z4 O O (fun b133=>zE [0,1,2,3,4,5,6] O qL (fun w' hw hS=>zC 12 O yN hS (zV ?_))))))
  refine Oc13 ?_ hw
  refine zB (zD O (zD O (zD O (zD O (yc (cs:=[Vi 0,Vi 0,Vi 0,Vi 0,Vi 0,Vi 0,Vi 0]) (z:=[Vi 0,Vi 0,Vi 0,Vi 0,Vi 0,Vi 0,Vi 0]) (pl:=[(0,1),(1,1),(2,1),(3,1),(4,1),(5,1),(6,1)]) qM qM O (zb O O (zJ (o:=2) O O (zp 12 O O O (xO O) O (zA (zN (zi [0,1,2,3,4,5,6,8,9,10,11] O qL qM (fun w' hw hS=>zC 0 O zU hS ?_))))))))))))
  refine zC 1 O (zQ O) hS (zC 2 O (zH (o:=2) O) hS (zC 3 O (zH (o:=2) O) hS (zC 5 O zU hS (zw 4 6 ?_ ?_))))
  ·refine zm 4 O hw (zL 12 (v:=Vi 0) O O O O (zE [0,1,2,3,4,5,6,8,9,10,11] O qL (fun w' hw hS=>zK 6 O hw (a_call O O (fun w' hw=>(zHo b133 (Vn 0) (Vi 0) (Vi 0) (Vi 0) (Vi 0) (Vi 0) (Vi 0) (Vi 0) (Vi 0) (.pointer none) (Vi id) (Vi 0) (Vi 0) (Vi 0) (Vi rho) (Vi bt) (Vi 0) (Vi 0) (Vi 0) (Vi 1) (Vi 0) (Vn 0) (Vn (({index:=0,term:=0,conf:=({vv:=vv,vs:=vs,lv:=lv0,ls:=nI}:ConfD),dv:=dv0,data:=nB}:ShtD).index)) (Vn (({index:=0,term:=0,conf:=({vv:=vv,vs:=vs,lv:=lv0,ls:=nI}:ConfD),dv:=dv0,data:=nB}:ShtD).term)) cv9_ cw10_ r11_ (pt b3_) (.slice none 0 0) (pt b12_) (.pointer none) bs sp qd w' qN qN qN (hw.give [12] O qL)).mono ?_)))))
   rintro _ w1 ⟨rfl,hO⟩
   refine O13 ?_ (hw.qg [12] O hO)
   refine zE [0,1,2,3,4,5,6,8,9,10,11] O qL (fun w' hw hS=>zC 7 O (yo O O (zu V)) hS (zC 8 O (zQ O) hS (zC 9 O (zH (o:=2) O) hS (zC 10 O (zH (o:=2) O) hS (zK 11 O hw (zn 12 O O O O O (zE [0,1,2,3,4,5,6,8,9,10,11] O qL (fun w' hw hS=>zV ?_))))))))
   refine Oc13 ?_ hw
   refine zB (zD O (zI O (zI O (zA ?_))))
   exact zT (xu (v:=pt b133) (v':=Vi 0) O O O (fun w' hw=>⟨b133,b3_,b12_,cv9_,cw10_,r11_,lv'4_,es'5_,O,hen,hw.sel [12,8,9,5,6,7,11] O qL⟩))
  refine zm 6 O hw (a_call O O (fun w' hw=>(zHo b133 (Vn 0) (Vi 0) (Vi 0) (Vi 0) (Vi 0) (Vi 0) (Vi 0) (Vi 0) (Vi 0) (.pointer none) (Vi id) (Vi 0) (Vi 0) (Vi 0) (Vi rho) (Vi bt) (Vi 0) (Vi 0) (Vi 0) (Vi 1) (Vi 0) (Vn 0) (Vn (({index:=0,term:=0,conf:=({vv:=vv,vs:=vs,lv:=lv0,ls:=nI}:ConfD),dv:=dv0,data:=nB}:ShtD).index)) (Vn (({index:=0,term:=0,conf:=({vv:=vv,vs:=vs,lv:=lv0,ls:=nI}:ConfD),dv:=dv0,data:=nB}:ShtD).term)) cv9_ cw10_ r11_ (pt b3_) (.slice none 0 0) (pt b12_) (.pointer none) bs sp qd w' qN qN qN (hw.give [12] O qL)).mono ?_))
  rintro _ w1 ⟨rfl,hO⟩
  refine O13 ?_ (hw.qg [12] O hO)
  refine zE [0,1,2,3,4,5,6,8,9,10,11] O qL (fun w' hw hS=>zK 4 O hw (zL 12 (v:=Vi 0) O O O O (zE [0,1,2,3,4,5,6,8,9,10,11] O qL (fun w' hw hS=>zC 7 O (yo O O (zu V)) hS (zC 8 O (zQ O) hS (zC 9 O (zH (o:=2) O) hS (zC 10 O (zH (o:=2) O) hS (zK 11 O hw (zn 12 O O O O O (zE [0,1,2,3,4,5,6,8,9,10,11] O qL (fun w' hw hS=>zV ?_)))))))))))
  refine Oc13 ?_ hw
  refine zB (zD O (zI O (zI O (zA ?_))))
  exact zT (xu (v:=pt b133) (v':=Vi 0) O O O (fun w' hw=>⟨b133,b3_,b12_,cv9_,cw10_,r11_,lv'4_,es'5_,O,hen,hw.sel [12,8,9,5,6,7,11] O qL⟩))
theorem zLG(ci cr bs sp bt:Int)(vv:Value)(vs:List Int)(qd:Nat)(lv0 dv0:Value)(w:World)(hid:1≤ci∧ci≤16)(hr:0≤cr∧cr≤500000)(hb1:1≤bs∧bs≤1000000)(hb2:1≤sp∧sp≤1000000)(hb3:1≤bt∧bt≤1000000)(hvs:Rises vs)(hvn:0<vs.length)(hvl:vs.length≤16)(hd:qd<18446744073709551616)(hvv:Rd w [] (Res.sl vv vs.length (vs.flatMap I1)))(hlv0:Rd w [] (Res.sl lv0 nI.length (nI.flatMap I1)))(hdv0:Rd w [] (Res.sl dv0 nB.length (nB.map vb))):Rets Tryz.prog 10 #[Vi ci, .agg #[Vn 0,Vi 0], .agg #[Vn 0,Vn 0,vv,lv0,dv0], .slice none 0 0, .agg #[Vi 0,Vi 0,Vi 0,Vi cr,Vi bs,Vi sp,Vi bt,Vi 0,Vi 0,Vi 0],Vi 0,Vn qd] w fun u_ w'=>∃ (cb jb:Nat) (b:StB) (lv:Value) (es:List EntD),u_= .tuple #[pt cb,Vi 0]∧es.length=0∧b.vs=vs∧Own w [] [z3 cb ({term:=0,qD:=0,now:=0,qz:=0,due:=0+(bs+((qd%(Int.toNat sp+1):Nat):Int)),qC:=0,qw:=0,gd:=0,qA:=0}:TimD) (.pointer none) ({id:=ci,nodes:=0,voters:=0,edges:=0,rho:=cr,base:=bs,spread:=sp,beat:=bt,disk:=0,post:=0,keep:=0}:StA) ({qt:=1,who:=0,qc:=0}:RolD) b (.slice none 0 0) jb qd (.pointer none),Res.nl b lv es,Res.lo none,vI (.slice none 0 0) ([]:List Int)] w':=by
  refine(zHs ci cr bs sp bt vv vs qd lv0 dv0 w hid hr hb1 hb2 hb3 hvs hvn hvl hd hvv hlv0 hdv0).mono ?_
  rintro _ w1 ⟨cb,lb,jb,cv,cw,dv,lv,es,rfl,he,hO⟩
  exact⟨cb,jb,⟨cv,vs,cw,dv,lb⟩,lv,es,O,he,O,(zl ((hO.qo [3,4,5,1,2] O qL).qF) 3 1).sel [0,2,3,4] O qL⟩
end Go.Proofs.YtkkeknmkipkbmaaGreat
