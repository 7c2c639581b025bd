import Derived.Test.YtkkeknmkipkbmaaGreatConfB
import Derived.Test.YtkkeknmkipkbmaaGreatIn
set_option linter.unusedSectionVars false
set_option linter.unusedSimpArgs false
set_option linter.unusedVariables false
set_option maxRecDepth 10000
namespace Go.Proofs.YtkkeknmkipkbmaaGreat
open Go Go.Sc Go.Proofs
structure ConfA where
  vs:List Int
  ls:List Int
  deriving DecidableEq
def ConfD.a(c:ConfD):ConfA:=⟨c.vs,c.ls⟩
def ConfA.ok(x:ConfA):Prop:=((Rises x.vs∧Rises x.ls)∧0<x.vs.length)∧∀ v∈x.vs,v∉x.ls
instance (x:ConfA):Decidable x.ok:=inferInstanceAs (Decidable ((_∧_)∧_))
def zH3:List UInt8→Nat→Option (ConfA×Nat):=jO zKB fun vs=>jO zKB fun ls=>jq ⟨vs,ls⟩
def zAy{α:Type}(p:List UInt8→Nat→Option (α×Nat))(ok:α→Prop)[DecidablePred ok](b:List UInt8):Option α:=(p b 0).bind fun q=>if q.2=b.length∧ok q.1 then some q.1 else none
def ValPost{α:Type}(d:Option α)(x z:α)(e:Int):Prop:=(e=0∧d=some x)∨(e=4∧d=none∧x=z)
instance:DecidablePred ConfA.ok:=fun x=>inferInstance
def xN(b:List UInt8):Option ConfA:=zAy zH3 ConfA.ok b
theorem zKK{α:Type}{p:List UInt8→Nat→Option (α×Nat)}{ok:α→Prop}[DecidablePred ok]{b:List UInt8}{x:α}{a:Nat}{bad:Bool}(h:RdS p b 0 false x a bad)(hb:bad=false)(ha:a=b.length)(hok:ok x):zAy p ok b=some x:=by
  obtain⟨_,h2⟩:=h.good hb
  simp only[zAy,h2,Option.bind_some]
  rw[if_pos ⟨ha,hok⟩]
theorem zGK{α:Type}{p:List UInt8→Nat→Option (α×Nat)}{ok:α→Prop}[DecidablePred ok]{b:List UInt8}{x:α}{a:Nat}{bad:Bool}(h:RdS p b 0 false x a bad)(hn:bad=false→a=b.length→¬ ok x):zAy p ok b=none:=by
  cases hp:p b 0 with
  |none=>simp only[zAy,hp,Option.bind_none]
  |some q=>
    obtain⟨h1,h2,h3⟩:=h.ok q.1 q.2 rfl hp
    simp only[zAy,hp,Option.bind_some]
    rw[if_neg]
    rintro⟨h4,h5⟩
    rw[←h2]at h5
    exact hn h1 (h3.trans h4) h5
theorem zHo{S:List Nat}(o:Nat)(v:Value)(b:List UInt8)(a:Nat)(bad:Bool)(w:World)(hl:zi b.length)(ha:a≤b.length)(hin:Own w S [Res.row o 231 [v,Vj a, .bool bad]] w)(hb:Rd w S (Res.sl v b.length (b.map vb))):Rets Tryz.prog 153 #[.pointer (some ⟨o,0,none⟩)] w fun u_ w'=>∃ (r1:Value) (l1:List Int) (r2:Value) (l2:List Int) (a':Nat) (bad':Bool),u_= .agg #[r1,r2]∧RdS zH3 b a bad (⟨l1,l2⟩:ConfA) a' bad'∧l1.length≤16∧l2.length≤16∧Own w S [Res.row o 231 [v,Vj a', .bool bad'],Res.vec 3 1 r1 l1.length (l1.flatMap I1),Res.vec 3 1 r2 l2.length (l2.flatMap I1)] w':=by
  refine zW Tryz.func153 O Tryz.ntmps153 hin ?_
  refine zC (yC (v:= .agg #[.slice none 0 0, .slice none 0 0]) qN O (fun b2=>zA (zC (zD O (a_call O O (fun w' hw=>(zI2 o v b a bad w' ‹_› V (hw.give [0] O qM) (hw.rdTo hb [0] O)).mono ?_))))))
  rintro r1_ w1 ⟨_,l2_,a'3_,bad'4_,rfl,hf1_1,hf1_1_1,hO⟩
  have hq1:=hf1_1.le
  refine O3 ?_ (hw.qh [0] O hO)
  refine zD O (a_call O O (fun w' hw=>(zI2 o v b a'3_ bad'4_ w' ‹_› V (hw.give [1] O qM) (hw.rdTo hb [1] O)).mono ?_))
  rintro r5_ w1 ⟨_,l6_,a'7_,bad'8_,rfl,hf1_3,hf1_3_1,hO⟩
  refine O4 ?_ (hw.qh [1] O hO)
  refine zN (fun w' hw=>Own.qg (i:=1) O hw) (fun hc1_=> ?_)
  refine zN (fun w' hw=>Own.qg (i:=3) O hw) (fun hc2_=> ?_)
  refine jK (cs:=[r1_,r5_]) (z:=[.slice none 0 0, .slice none 0 0]) (pl:=[(0,1),(1,1)]) qN ⟨hc1_,hc2_,trivial⟩ qN O (zo 0 O O O (zF hc1_ (zF hc2_ zh)) O (zA ?_))
  exact zU (jp (cs:=[r1_,r5_]) O O qN (Own.qr (i:=0) O) (fun w' hw=>⟨r1_,l2_,r5_,l6_,a'7_,bad'8_,O,hf1_1.bind (hf1_3.bind (RdS.pure _ hf1_3.le)),hf1_1_1,hf1_3_1,hw.sel [2,1,3] O qM⟩))
theorem _root_.Go.Sc.qP{p:Prop}(h:p:=by first|assumption|omega|(simp<;>omega)|(constructor<;>(first|omega|(simp only[zi];omega)|(simp<;>omega)))):p:=h
theorem zFr(v:Value)(b:List UInt8)(w:World)(hl:zi b.length)(hb:Rd w [] (Res.sl v b.length (b.map vb))):Rets Tryz.prog 159 #[.agg #[.func (.func 147) #[] #[], .func (.func 151) #[] #[], .func (.func 153) #[] #[]],v] w fun u_ w'=>∃ (r1:Value) (l1:List Int) (r2:Value) (l2:List Int) (e:Int),u_= .tuple #[.agg #[r1,r2],Vi e]∧ValPost (xN b) (⟨l1,l2⟩:ConfA) ⟨[],[]⟩ e∧l1.length≤16∧l2.length≤16∧Own w [] [Res.vec 3 1 r1 l1.length (l1.flatMap I1),Res.vec 3 1 r2 l2.length (l2.flatMap I1)] w':=by
  refine zW Tryz.func159 O Tryz.ntmps159 (Own.start w) ?_
  refine zC (z8 O O (fun b2=>yC (v:= .agg #[.slice none 0 0, .slice none 0 0]) qN O (fun b4=>zI O (zA (zC (zD O (jK (cs:=[v,Vi 0, .bool false]) (z:=[.slice none 0 0,Vi 0, .bool false]) (pl:=[(0,1),(1,1),(2,1)]) qN ⟨(Sl.cell1 (Rd.φ hb)),trivial⟩ qN O (z8 O O (fun b10=>zI O (zA (zC (zK (o:=2) O O ?_))))))))))))
  refine zM 0 (v:= .func (.func 153) #[] #[]) O O O O (zD O (yV (fst:=[]) (cap:=[]) O qN O O (fun w' hw=>(zHo b10 v b 0 false w' ‹_› V (hw.give [2] O qM) (hw.rdTo hb [2] O)).mono ?_)))
  rintro _ w1 ⟨r11_,l12_,r23_,l24_,a'5_,bad'6_,rfl,hf2_3,hf2_3_1,hf2_3_2,hO⟩
  refine O5 ?_ (hw.qh [2] O hO)
  refine zN (fun w' hw=>Own.qg (i:=3) O hw) (fun hc1_=> ?_)
  refine zN (fun w' hw=>Own.qg (i:=4) O hw) (fun hc2_=> ?_)
  refine zo 1 O O O (zF hc1_ (zF hc2_ zh)) O (zA (zP (zC (zD O (zb O O (zK (o:=2) O O (zM 2 (v:= .bool bad'6_) O O O O (zD O (yj (q:=bad'6_=true) 7 4 [26,25,24,23,22,21,20] (((a'5_:Nat):Int)≠((b.length:Nat):Int)) O O (xC _) O O O trivial O (fun h3_4=> ?_) (fun g3_12=> ?_))))))))))
  ·refine zR O (bF h3_4) (zD O (zR O (bF h3_4) (zb O O (zR O (bF h3_4) (zK (o:=1) O O (zR O (bF h3_4) (zM 2 (v:=Vj a'5_) O O O O (zR O (bF h3_4) (zD O (zR O (bF h3_4) (zp (pR hb) O O (zR O (bF h3_4) ?_))))))))))))
   refine xn O O O ?_
   exact yN O (fun _ hw=>hw)
  refine zD O (yj (q:=(bad'6_=true)∨(((a'5_:Nat):Int)≠((b.length:Nat):Int))) 5 13 [33,32,31,30,29] (¬(({vv:=r11_,vs:=l12_,lv:=r23_,ls:=l24_}:ConfD).ok)) O O O O O O trivial O (fun h3_13=> ?_) (fun g3_19=> ?_))
  ·refine zR O (gF h3_13) (zK (o:=0) O O (zR O (gF h3_13) (zM 0 (v:= .func (.func 147) #[] #[]) O O O O (zR O (gF h3_13) (yL (cs:=[r11_,r23_]) 1 O O O (zR O (gF h3_13) (yV (fst:=[]) (cap:=[]) O qN O O (fun w' hw=>(kT ({vv:=r11_,vs:=l12_,lv:=r23_,ls:=l24_}:ConfD) w' qP ⟨(hw.qq 3 O),(hw.qq 4 O)⟩).mono ?_))))))))
   rintro _ w1 ⟨rfl,hO⟩
   refine O5 ?_ (hw.qi hO)
   refine zR O (gF h3_13) (xB (q:=({vv:=r11_,vs:=l12_,lv:=r23_,ls:=l24_}:ConfD).ok) O O ?_)
   exact yN O (fun _ hw=>hw)
  refine zA (za O (fun c1=> ?_) (fun c1=> ?_))
  ·refine zC (yC (v:= .agg #[.slice none 0 0, .slice none 0 0]) qN O (fun b7=>zA (zC (yL (cs:=[.slice none 0 0, .slice none 0 0]) 5 O O O (zo 1 O O O (xO O) O (zI O (zA ?_)))))))
   exact zU (xj (cs:=[.slice none 0 0, .slice none 0 0]) (v:=Vi 4) O O O qN (Own.qr (i:=1) O) (fun w' hw=>⟨.slice none 0 0,[], .slice none 0 0,[],4,O, .inr ⟨O,zGK hf2_3 (fun h1 h2 h3=>c1.elim (fun h=>h.elim (fun h=>by rw[h1]at h;cases h) (fun h=>h V)) (fun h=>h h3)),O⟩,qQ,qQ,zm (zm hw.drop 3 1) 3 1⟩))
  refine zQ (zC (yL (cs:=[r11_,r23_]) 1 O O O (zo 1 O O O (zF hc1_ (zF hc2_ zh)) O (zI O (zA ?_)))))
  exact zU (xj (cs:=[r11_,r23_]) (v:=Vi 0) O O O qN (Own.qr (i:=1) O) (fun w' hw=>⟨r11_,l12_,r23_,l24_,0,O, .inl ⟨O,zKK hf2_3 (by cases h:bad'6_;rfl;exact absurd (.inl (.inl h)) c1) (by have:¬(a'5_:Int)≠b.length:=fun h=>c1 (.inl (.inr h));omega) (Decidable.not_not.1 fun h=>c1 (.inr h))⟩,hf2_3_1,hf2_3_2,hw.sel [3,4] O qM⟩))
theorem zF7(v:Value)(b:List UInt8)(w:World)(hl:zi b.length)(hb:Rd w [] (Res.sl v b.length (b.map vb))):Rets Tryz.prog 118 #[v] w fun u_ w'=>∃ (r1:Value) (l1:List Int) (r2:Value) (l2:List Int) (e:Int),u_= .tuple #[.agg #[r1,r2],Vi e]∧ValPost (xN b) (⟨l1,l2⟩:ConfA) ⟨[],[]⟩ e∧l1.length≤16∧l2.length≤16∧Own w [] [Res.vec 3 1 r1 l1.length (l1.flatMap I1),Res.vec 3 1 r2 l2.length (l2.flatMap I1)] w':=by
  refine zW Tryz.func118 O Tryz.ntmps118 (Own.start w) ?_
  refine zC (yC (v:= .agg #[.slice none 0 0, .slice none 0 0]) qN O (fun b2=>zI O (zA (zC (a_call O O (fun w' hw=>(zCw w').mono ?_))))))
  rintro _ w1 ⟨rfl,hO⟩
  refine O1 ?_ (hw.qi hO)
  refine zD O (a_call O O (fun w' hw=>(zFr v b w' ‹_› (hw.rd0 hb)).mono ?_))
  rintro _ w1 ⟨r11_,l12_,r23_,l24_,e5_,rfl,hf1_2,hf1_2_1,hf1_2_2,hO⟩
  refine O3 ?_ (hw.qi hO)
  refine yA (vs:=[.agg #[r11_,r23_],Vi e5_]) O O O (yA (vs:=[.agg #[r11_,r23_],Vi e5_]) O O O ?_)
  refine zN (fun w' hw=>Own.qg (i:=1) O hw) (fun hc1_=> ?_)
  refine zN (fun w' hw=>Own.qg (i:=2) O hw) (fun hc2_=> ?_)
  refine zo 0 O O O (zF hc1_ (zF hc2_ zh)) O (zI O (zA ?_))
  exact zU (xj (cs:=[r11_,r23_]) (v:=Vi e5_) O O O qN (Own.qr (i:=0) O) (fun w' hw=>⟨r11_,l12_,r23_,l24_,e5_,O,hf1_2,hf1_2_1,hf1_2_2,hw.sel [1,2] O qM⟩))
structure RefPost{α:Type}(d:Option α)(x:α)(f:Bool):Prop where
  yes:f=true→d=some x
  no:f=false→d=none
theorem RefPost.off{α:Type}{p:List UInt8→Nat→Option (α×Nat)}{ok:α→Prop}[DecidablePred ok]{b:List UInt8}{x:α}{a:Nat}{bad:Bool}(h:RdS p b 0 false x a bad)(hw:¬(bad=false∧a=b.length)):RefPost (zAy p ok b) x false:=
  ⟨fun q=>(by cases q),fun _=>zGK h fun h1 h2 _=>hw ⟨h1,h2⟩⟩
def pv(p:Value×List UInt8):List Value:=[p.1]
abbrev BsRd(p:Value×List UInt8)(w:World)(S:List Nat):Prop:=Rd w S (Res.sl p.1 p.2.length (p.2.map vb))
theorem BsRd.at0{p:Value×List UInt8}{w0 w:World}{S:List Nat}{L:List Res}(h:BsRd p w0 S)(hw:Own w0 S L w):BsRd p w []:=hw.rd0 h
theorem BsRd.at{p:Value×List UInt8}{w0 w:World}{S:List Nat}{L Lin:List Res}(h:BsRd p w0 S)(hw:Own w0 S L w)(m:List Nat)(hm:m.mapM (fun i=>L[i]?)=some Lin):BsRd p w (y1 Lin):=hw.rdTo h m hm
def kJ(ps:List (Value×List UInt8)):List UInt8:=ps.flatMap fun p=>dat p.2
theorem zHh(v:Value)(bs:List UInt8)(lv:Value)(ps:List (Value×List UInt8))(w:World)(hb:bs.length+(kJ ps).length≤100000000000)(hn:zi ps.length)(hv:Rd w [] (Res.sl v bs.length (bs.map vb)))(hl:Rd w [] (Res.sl lv ps.length (ps.flatMap pv)))(all_hl:∀ p∈ps,BsRd p w []):Rets Tryz.prog 155 #[v,lv] w fun u_ w'=>∃ (r:Value),u_=r∧Own w [] [Res.vec 5 1 r (bs++kJ ps).length ((bs++kJ ps).map vb)] w':=by
  have hbl:bs.length≤100000000000:=by omega
  refine zW Tryz.func155 O Tryz.ntmps155 (Own.start w) ?_
  refine zC (zI O (zA (zC (zD O (a_call O O (fun w' hw=>(zB1 v bs w' qP (hw.rd0 hv)).mono ?_))))))
  rintro r1_ w1 ⟨_,rfl,hO⟩
  refine O1 ?_ (hw.qi hO)
  refine zI O (zA (zP (zC (zD O (zp (pR hl) O O (zD O (zA (zZ ?_))))))))
  refine y7 (fun(k:Nat) (o:Value)=>[(5,o),(10,lv),(11,Vj ps.length),(12,Vj k)]) (fun(k:Nat) (o:Value)=>k≤ps.length) (fun(k:Nat) (o:Value)=>[Res.vec 5 1 o (bs++kJ (ps.take k)).length ((bs++kJ (ps.take k)).map vb)]) (fun(k:Nat) (o:Value)=>ps.length - k) (fun w' hw=>⟨0,r1_,⟨O,O,O,O,trivial⟩,Nat.zero_le _,by simpa [kJ]using hw⟩) (fun k o g hΦ=> ?_)
  have hle:=xk (fun p:Value×List UInt8=>dat p.2) ps (k+1)
  refine zC (yI O O O (zA (zP (za O (fun c1=> ?_) (fun c1=> ?_)))))
  ·rw[zu V,List.flatMap_append]at hle
   simp only[List.length_append,List.flatMap_cons,List.flatMap_nil,List.append_nil,dat]at hle
   have hcl:(kJ (ps.take k)).length+((num (zG ps k).2.length).length+(zG ps k).2.length)≤(kJ ps).length:=hle
   refine zQ (zP (zZ (zC (zk (pR hl) 1 k O O O V O (yH (pR hl) 1 k 0 (fun _=>O) O O V O O (zI O (zA (zV (zD O (zD O (zp (pR (all_hl _ (zd V))) O O (xt qN O (xA V) O ?_ qN))))))))))))
   refine a_call O O (fun w' hw=>(zFn o (bs++kJ (ps.take k)) (((zG ps k).2).length) w' qO qS (hw.qq 0 O)).mono ?_)
   rintro r2_ w1 ⟨_,rfl,hO⟩
   refine O2 ?_ (hw.qi hO)
   refine zD O (zDN (l:=((bs++kJ (ps.take k))++num (((zG ps k).2).length))) (l':=(zG ps k).2) 1 qN O O O (fun w' hw'=>Own.rd (all_hl _ (zd V)) hw') qO O (fun v22=>zI O (zA (zV (zt O O (zr V) O (zD O ?_))))))
   exact zg (fun w' hw=>⟨k+1,v22,⟨O,O,O,O,trivial⟩,V,by rw[zu V];have h:=hw.one 1 rfl;simpa [kJ,dat]using h,V⟩)
  refine yF O (zC (zD O (zI O (zA ?_))))
  exact zU (z9 (v:=o) O O (fun w' hw=>⟨o,O,by rw[List.take_of_length_le V]at hw;exact hw⟩))
theorem zHA{S:List Nat}(o:Nat)(sl:Value)(bs:List UInt8)(lv:Value)(ps:List (Value×List UInt8))(w:World)(hb:bs.length+(kJ ps).length≤100000000000)(hn:zi ps.length)(hin:Own w S [Res.bv o xP sl bs] w)(hl:Rd w S (Res.sl lv ps.length (ps.flatMap pv)))(all_hl:∀ p∈ps,BsRd p w S):Rets Tryz.prog 110 #[.pointer (some ⟨o,0,none⟩),lv] w fun u_ w'=>∃ (sl':Value),u_= .tuple #[]∧Own w S [Res.bv o xP sl' (bs++kJ ps)] w':=by
  refine zW Tryz.func110 O Tryz.ntmps110 hin ?_
  refine zV (zD O (zD O (zb O O (zK (o:=0) O O ?_))))
  refine z4 [Res.row o xP [sl],Res.vec 5 1 sl bs.length (bs.map vb)] (fun w' hw=>hw.splitBv (i:=0) (o:=o) (T:=xP) (v:=sl) (bs:=bs) O) ?_
  refine zM 0 (v:=sl) O O O O (zD O (a_call O O (fun w' hw=>(zHh sl bs lv ps w' V ‹_› (hw.qq 1 O) (hw.rd0 hl) (fun p hp=>BsRd.at0 (all_hl p hp) hw)).mono ?_)))
  rintro r1_ w1 ⟨_,rfl,hO⟩
  refine O3 ?_ (hw.qi hO)
  refine zb O O (zK (o:=0) O O ?_)
  refine zN (fun w' hw=>Own.qg (i:=2) O hw) (fun hc1_=> ?_)
  refine zn (cs:=[sl]) 0 O O O hc1_ O ?_
  exact zg (yQ O (fun w' hw=>⟨r1_,O,(hw.joinBv (i:=0) (j:=2) (o:=o) (T:=xP) (v:=r1_) (bs:=bs++kJ ps) qM O O).one 0 O⟩))
structure EntA where
  index:Nat
  term:Nat
  kind:Int
  delta:Int
  data:List UInt8
  deriving DecidableEq,Inhabited
structure EntD extends EntA where
  dv:Value
  deriving Inhabited
structure EntA.wf(x:EntA):Prop where
  index:x.index<18446744073709551616
  term:x.term<18446744073709551616
  data:x.data.length≤1000000000
def EntD.cells(x:EntD):List Value:=[.int .u64 x.index, .int .u64 x.term, .int .i64 x.kind, .int .i64 x.delta,x.dv]
structure EntD.rd(x:EntD)(w:World)(S:List Nat):Prop where
  dv:Rd w S (Res.sl x.dv x.data.length (x.data.map vb))
theorem EntD.rd.at0{x:EntD}{w0 w:World}{S:List Nat}{L:List Res}(h:x.rd w0 S)(hw:Own w0 S L w):x.rd w []:=⟨hw.rd0 h.dv⟩
theorem EntD.rd.at{x:EntD}{w0 w:World}{S:List Nat}{L Lin:List Res}(h:x.rd w0 S)(hw:Own w0 S L w)(m:List Nat)(hm:m.mapM (fun i=>L[i]?)=some Lin):x.rd w (y1 Lin):=⟨hw.rdTo h.dv m hm⟩
def EntD.dres(x:EntD):Res:=Res.vec 5 1 x.dv x.data.length (x.data.map vb)
theorem EntD.dres_rd{x:EntD}{w:World}{S:List Nat}(h:Rd w S x.dres):x.rd w S:=⟨h.sub Vec.sl zAU⟩
theorem EntD.rd.star0{es:List EntD}{w0 w:World}{S:List Nat}{L:List Res}(j:Nat)(hL:L[j]?=some (Res.star (es.map EntD.dres)))(h:Own w0 S L w):∀ p∈es,p.rd w []:=fun p hp=>EntD.dres_rd (h.star0 j hL _ (List.mem_map_of_mem hp))
theorem EntD.rd.star{es:List EntD}{w0 w:World}{S:List Nat}{L Lin:List Res}(j:Nat)(hL:L[j]?=some (Res.star (es.map EntD.dres)))(m:List Nat)(hm:m.mapM (fun i=>L[i]?)=some Lin)(hj:m.any (Nat.beq j)=false)(h:Own w0 S L w):∀ p∈es,p.rd w (y1 Lin):=fun p hp=>EntD.dres_rd (h.star j hL m hm hj _ (List.mem_map_of_mem hp))
def EntA.ok(x:EntA):Prop:=((1≤x.index∧1≤x.term)∧(x.index≤4611686018427387904∧x.term≤4611686018427387904)∧(0≤x.delta∧x.delta≤1099511627776)∧x.data.length≤4096)∧
  if x.kind=1 then x.data.length=0 else if x.kind=3 then(xN x.data).isSome=true else x.kind=2
instance (x:EntA):Decidable x.ok:=by unfold EntA.ok;infer_instance
def EntA.enc(x:EntA):List UInt8:=yK [x.index,x.term,u64 x.kind,u64 x.delta]++dat x.data
theorem EntA.enc_le{x:EntA}(h:x.wf):x.enc.length≤x.data.length+60:=by
  have h1:=yS (ns:=[x.index,x.term,u64 x.kind,u64 x.delta]) (by have:=h.index;have:=h.term;simp[xR, *])
  have h2:=zAE x.data (by have:=h.data;omega)
  simp only[EntA.enc,List.length_append,List.length_cons,List.length_nil]at *
  omega
theorem ValPost.iff{α:Type}{d:Option α}{x z:α}{e:Int}(h:ValPost d x z e):e=0↔d.isSome=true:=by
  rcases h with⟨rfl,h⟩|⟨rfl,h,_⟩<;>simp[h]
theorem RefPost.iff{α:Type}{d:Option α}{x:α}{f:Bool}(h:RefPost d x f):f=true↔d.isSome=true:=by
  cases f with
  |true=>simp[h.yes rfl]
  |false=>simp[h.no rfl]
theorem zD4(x:EntD)(w:World)(hx:x.wf)(rd_x:EntD.rd x w []):Rets Tryz.prog 166 #[.agg (EntD.cells x).toArray] w fun u_ w'=>u_= .bool (decide x.ok)∧Own w [] [] w':=by
  have hd:=hx.data
  have h1:=hx.index
  have h2:=hx.term
  refine zW Tryz.func166 O Tryz.ntmps166 (Own.start w) ?_
  refine zC (z8 O O (fun b1=>zI O (zA (zP (zC (zK (o:=0) O O (zM 0 (v:=Vn x.index) O O O O (yI O O O (zD O (yj (q:=((x.index:Nat):Int)<((1:Nat):Int)) 3 3 [11,10,9] (((x.term:Nat):Int)<((1:Nat):Int)) O O O O O O trivial O (fun h1_3=> ?_) (fun g1_7=> ?_)))))))))))
  ·refine zR O (gF h1_3) (zK (o:=1) O O (zR O (gF h1_3) (zM 0 (v:=Vn x.term) O O O O (zR O (gF h1_3) (yI O O O ?_)))))
   exact yN O (fun _ hw=>hw)
  refine zD O (yj (q:=(((x.index:Nat):Int)<((1:Nat):Int))∨(((x.term:Nat):Int)<((1:Nat):Int))) 6 8 [19,18,17,16,15,14] (((4611686018427387904:Nat):Int)<((max x.index x.term:Nat):Int)) O O O O O O trivial O (fun h1_8=> ?_) (fun g1_15=> ?_))
  ·refine zR O (gF h1_8) (zK (o:=0) O O (zR O (gF h1_8) (zM 0 (v:=Vn x.index) O O O O (zR O (gF h1_8) (zK (o:=1) O O (zR O (gF h1_8) (zM 0 (v:=Vn x.term) O O O O (zR O (gF h1_8) (zD9 (c:=((max x.index x.term:Nat):Int)) O O (zFE _ _) O (zR O (gF h1_8) (yx O O O ?_)))))))))))
   exact yN O (fun _ hw=>hw)
  refine zD O (yj (q:=((((x.index:Nat):Int)<((1:Nat):Int))∨(((x.term:Nat):Int)<((1:Nat):Int)))∨(((4611686018427387904:Nat):Int)<((max x.index x.term:Nat):Int))) 3 16 [24,23,22] (x.delta<0) O O O O O O trivial O (fun h1_16=> ?_) (fun g1_20=> ?_))
  ·refine zR O (gF h1_16) (zK (o:=3) O O (zR O (gF h1_16) (zM 0 (v:=Vi x.delta) O O O O (zR O (gF h1_16) (yI O O O ?_)))))
   exact yN O (fun _ hw=>hw)
  refine zD O (yj (q:=(((((x.index:Nat):Int)<((1:Nat):Int))∨(((x.term:Nat):Int)<((1:Nat):Int)))∨(((4611686018427387904:Nat):Int)<((max x.index x.term:Nat):Int)))∨(x.delta<0)) 3 21 [29,28,27] (1099511627776<x.delta) O O O O O O trivial O (fun h1_21=> ?_) (fun g1_25=> ?_))
  ·refine zR O (gF h1_21) (zK (o:=3) O O (zR O (gF h1_21) (zM 0 (v:=Vi x.delta) O O O O (zR O (gF h1_21) (yx O O O ?_)))))
   exact yN O (fun _ hw=>hw)
  refine zD O (yj (q:=((((((x.index:Nat):Int)<((1:Nat):Int))∨(((x.term:Nat):Int)<((1:Nat):Int)))∨(((4611686018427387904:Nat):Int)<((max x.index x.term:Nat):Int)))∨(x.delta<0))∨(1099511627776<x.delta)) 4 26 [35,34,33,32] (4096<((x.data.length:Nat):Int)) O O O O O O trivial O (fun h1_26=> ?_) (fun g1_31=> ?_))
  ·refine zR O (gF h1_26) (zK (o:=4) O O (zR O (gF h1_26) (zM 0 (v:=x.dv) O O O O (zR O (gF h1_26) (zp (pR rd_x.dv) O O (zR O (gF h1_26) (yx O O O ?_)))))))
   exact yN O (fun _ hw=>hw)
  refine zA (za O (fun c1=> ?_) (fun c1=> ?_))
  ·refine zC (zI O (zA ?_))
   exact zU (z9 (v:= .bool false) O O (fun w' hw=>⟨(by rw[decide_eq_false];rintro⟨h,_⟩;omega),hw.drop⟩))
  refine zQ (zP (zC (zK (o:=2) O O (zM 0 (v:=Vi x.kind) O O O O (zA (zZ (zC (yR O O O (zI O (zA (za O (fun c2=> ?_) (fun c2=> ?_))))))))))))
  ·refine zC (zK (o:=4) O O (zM 0 (v:=x.dv) O O O O (zp (pR rd_x.dv) O O (yR O O O (zI O (zA ?_))))))
   exact zU (z9 (v:= .bool (decide (((x.data.length:Nat):Int)=0))) O O (fun w' hw=>⟨(by congr 1;exact decide_eq_decide.2 (by unfold EntA.ok;rw[if_pos c2];exact⟨fun h=>⟨by omega,by omega⟩,fun h=>by have:=h.2;omega⟩)),hw.drop⟩))
  refine zC (yR O O O (zI O (zA (za O (fun c3=> ?_) (fun c3=> ?_)))))
  ·refine zC (zK (o:=4) O O (zM 0 (v:=x.dv) O O O O (a_call O O (fun w' hw=>(zF7 x.dv x.data w' qP (hw.rd0 rd_x.dv)).mono ?_))))
   rintro _ w1 ⟨r11_,l12_,r23_,l24_,e5_,rfl,hf7_2,hf7_2_1,hf7_2_2,hO⟩
   refine O3 ?_ (hw.qi hO)
   refine zD O (yA (vs:=[.agg #[r11_,r23_],Vi e5_]) O O O (yA (vs:=[.agg #[r11_,r23_],Vi e5_]) O O O (yC (v:= .agg #[.slice none 0 0, .slice none 0 0]) qN O (fun b3=> ?_))))
   refine zN (fun w' hw=>Own.qg (i:=1) O hw) (fun hc1_=> ?_)
   refine zN (fun w' hw=>Own.qg (i:=2) O hw) (fun hc2_=> ?_)
   refine zo 3 O O O (zF hc1_ (zF hc2_ zh)) O (zI O (zA (zC (zD O (yR O O O (zI O (zA ?_)))))))
   exact zU (z9 (v:= .bool (decide (e5_=0))) O O (fun w' hw=>⟨(by congr 1;exact decide_eq_decide.2 (by unfold EntA.ok;rw[if_neg c2,if_pos c3,←hf7_2.iff];exact⟨fun h=>⟨by omega,h⟩,fun h=>h.2⟩)),hw.drop⟩))
  refine zQ (zC (zK (o:=2) O O (zM 0 (v:=Vi x.kind) O O O O (yR O O O (zI O (zA ?_))))))
  exact zU (z9 (v:= .bool (decide (x.kind=2))) O O (fun w' hw=>⟨(by congr 1;exact decide_eq_decide.2 (by unfold EntA.ok;rw[if_neg c2,if_neg c3];exact⟨fun h=>⟨by omega,h⟩,fun h=>h.2⟩)),hw.drop⟩))
theorem zDn{S:List Nat}(o:Nat)(sl:Value)(bs:List UInt8)(x:EntD)(w:World)(hx:x.wf)(hb:bs.length+x.enc.length≤10000000000)(hin:Own w S [Res.bv o xP sl bs] w)(rd_x:EntD.rd x w S):Rets Tryz.prog 167 #[.pointer (some ⟨o,0,none⟩), .agg (EntD.cells x).toArray] w fun u_ w'=>∃ (sl':Value),u_= .tuple #[]∧Own w S [Res.bv o xP sl' (bs++x.enc)] w':=by
  have hd:=hx.data
  have h1:=hx.index
  have h2:=hx.term
  have he:x.enc.length=(yK [x.index,x.term,u64 x.kind,u64 x.delta]).length+(dat x.data).length:=by simp[EntA.enc]
  refine zW Tryz.func167 O Tryz.ntmps167 hin ?_
  refine zC (z8 O O (fun b3=>zA (zC (zD O (zK (o:=0) O O (zM 1 (v:=Vn x.index) O O O O (zK (o:=1) O O (zM 1 (v:=Vn x.term) O O O O (zK (o:=2) O O (zM 1 (v:=Vi x.kind) O O O O (xt qN O (jM _) O ?_ qN)))))))))))
  refine zK (o:=3) O O (zM 1 (v:=Vi x.delta) O O O O (xt qN O (jM _) O ?_ qN))
  refine zx (e:=22) (sz:=1) (vs:=[Vn x.index,Vn x.term,Vn (u64 x.kind),Vn (u64 x.delta)]) qN O O qR qM O (fun b15=>a_call O O (fun w' hw=>(zBB o _ _ (.slice (some ⟨b15,0,none⟩) 4 4) [x.index,x.term,u64 x.kind,u64 x.delta] w' wg qS (hw.give [0] O qM) (hw.rdVec 2 O [0] O O)).mono ?_))
  rintro _ w1 ⟨sl'1_,rfl,hO⟩
  refine O3 ?_ (hw.qh [0] O hO)
  refine zA (zV (zD O (zK (o:=4) O O (zM 0 (v:=x.dv) O O O O (zE5 (e:=36) (vs:=[x.dv]) qN O O (zF (Sl.cell1 (Rd.φ rd_x.dv)) zh) qM O (fun b20=>a_call O O (fun w' hw=>(zHA o sl'1_ (bs++yK [x.index,x.term,u64 x.kind,u64 x.delta]) (.slice (some ⟨b20,0,none⟩) 1 1) [(x.dv,x.data)] w' (by simp[kJ];omega) (by show 1≤_;omega) (hw.give [2] O qM) (hw.rdVec 3 O [2] O O) (all_cons (hw.rdTo rd_x.dv [2] O) (fun p hp=>by cases hp))).mono ?_)))))))
  rintro _ w1 ⟨sl'2_,rfl,hO⟩
  refine O4 ?_ (hw.qh [2] O hO)
  exact zg (yQ O (fun w' hw=>⟨sl'2_,O,by have h:=hw.one 3 rfl;simpa [EntA.enc,kJ]using h⟩))
theorem zEu(w:World):Rets Tryz.prog 124 #[] w fun u_ w'=>u_= .agg #[.func (.func 166) #[] #[], .func (.func 167) #[] #[], .func (.func 168) #[] #[]]∧Own w [] [] w':=by
  refine zW Tryz.func124 O Tryz.ntmps124 (Own.start w) ?_
  refine zC (yC (v:= .agg #[.nilFunc, .nilFunc, .nilFunc]) qN O (fun b0=>zA (zC (yh (cs:=[.func (.func 166) #[] #[], .func (.func 167) #[] #[], .func (.func 168) #[] #[]]) (z:=[.nilFunc, .nilFunc, .nilFunc]) (pl:=[(0,1),(1,1),(2,1)]) qN qN O (zo 0 O O O (xO O) O (zA ?_))))))
  exact zU (jp (cs:=[.func (.func 166) #[] #[], .func (.func 167) #[] #[], .func (.func 168) #[] #[]]) O O qN (Own.qr (i:=0) O) (fun w' hw=>⟨O,hw.drop⟩))
theorem zG0(x:EntD)(w:World)(hx:x.wf)(rd_x:EntD.rd x w []):Rets Tryz.prog 157 #[.agg #[.func (.func 166) #[] #[], .func (.func 167) #[] #[], .func (.func 168) #[] #[]], .agg (EntD.cells x).toArray] w fun u_ w'=>∃ (r:Value),u_= .tuple #[r,Vi (yE x.ok)]∧Own w [] [Res.vec 5 1 r (if x.ok then x.enc else []).length ((if x.ok then x.enc else []).map vb)] w':=by
  have hd:=hx.data
  have hl:=EntA.enc_le hx
  refine zW Tryz.func157 O Tryz.ntmps157 (Own.start w) ?_
  refine zC (z8 O O (fun b2=>z8 O O (fun b3=>zI O (zI O (zA (zP (zC (zK (o:=0) O O (zM 0 (v:= .func (.func 166) #[] #[]) O O O O (yL (cs:=(EntD.cells x)) 1 O O O (yV (fst:=[]) (cap:=[]) O qN O O (fun w' hw=>(zD4 x w' ‹_› (rd_x.at0 hw)).mono ?_))))))))))))
  rintro _ w1 ⟨rfl,hO⟩
  refine O2 ?_ (hw.qi hO)
  refine xB (q:=x.ok) O O (zA (za O (fun c1=> ?_) (fun c1=> ?_)))
  ·refine zC (zI O (zI O (zA ?_)))
   exact zU (xz (v:= .slice none 0 0) (v':=Vi 2) O O O (fun w' hw=>⟨.slice none 0 0,(by rw[j7 c1]),by rw[if_neg c1];exact(zm hw T8 1).one 2 rfl⟩))
  refine zQ (zC (yh (cs:=[.slice none 0 0]) (z:=[.slice none 0 0]) (pl:=[(0,1)]) qN qN O (z8 O O (fun b13=>zI O (zA (zC (zK (o:=1) O O (zM 0 (v:= .func (.func 167) #[] #[]) O O O O (zD O (yL (cs:=(EntD.cells x)) 1 O O O ?_))))))))))
  refine z4 [Res.row b2 218 [.func (.func 166) #[] #[], .func (.func 167) #[] #[], .func (.func 168) #[] #[]],Res.row b3 81 (EntD.cells x),Res.bv b13 xP (.slice none 0 0) ([]:List UInt8)] (fun w' hw=>(zm hw T8 1).joinBv (i:=2) (j:=3) qM O O) ?_
  refine yV (fst:=[]) (cap:=[]) O qN O O (fun w' hw=>(zDn b13 (.slice none 0 0) ([]:List UInt8) x w' ‹_› qS (hw.give [2] O qM) (rd_x.at hw [2] O)).mono ?_)
  rintro _ w1 ⟨sl'1_,rfl,hO⟩
  refine O3 ?_ (hw.qh [2] O hO)
  refine zA (zC (zD O (zb O O (zK (o:=0) O O ?_))))
  refine z4 [Res.row b2 218 [.func (.func 166) #[] #[], .func (.func 167) #[] #[], .func (.func 168) #[] #[]],Res.row b3 81 (EntD.cells x),Res.row b13 xP [sl'1_],Res.vec 5 1 sl'1_ (([]:List UInt8)++x.enc).length ((([]:List UInt8)++x.enc).map vb)] (fun w' hw=>hw.splitBv (i:=2) (o:=b13) (T:=xP) (v:=sl'1_) (bs:=(([]:List UInt8)++x.enc)) O) ?_
  refine zM 2 (v:=sl'1_) O O O O (zI O (zI O (zA ?_)))
  exact zU (xz (v:=sl'1_) (v':=Vi 0) O O O (fun w' hw=>⟨sl'1_,(by rw[jY (Decidable.not_not.1 c1)]),by rw[if_pos (Decidable.not_not.1 c1)];exact hw.one 3 rfl⟩))
theorem zHQ(x:EntD)(w:World)(hx:x.wf)(rd_x:EntD.rd x w []):Rets Tryz.prog 113 #[.agg (EntD.cells x).toArray] w fun u_ w'=>∃ (r:Value),u_= .tuple #[r,Vi (yE x.ok)]∧Own w [] [Res.vec 5 1 r (if x.ok then x.enc else []).length ((if x.ok then x.enc else []).map vb)] w':=by
  refine zW Tryz.func113 O Tryz.ntmps113 (Own.start w) ?_
  refine zC (z8 O O (fun b1=>zI O (zI O (zA (zP (ze [0] O qM qN (fun w' hw hS=>zB 1 O (x1 (cs:=(EntD.cells x)) 0 O O) hS (zJ 0 O hw (a_call O O (fun w' hw=>(zEu w').mono ?_))))))))))
  rintro _ w1 ⟨rfl,hO⟩
  refine O1 ?_ (hw.qi hO)
  refine zE [0] O qM (fun w' hw hS=>zJ 2 O hw (a_call O O (fun w' hw=>(zG0 x w' ‹_› (rd_x.at0 hw)).mono ?_)))
  rintro _ w1 ⟨r1_,rfl,hO⟩
  refine O2 ?_ (hw.qi hO)
  refine zE [0] O qM (fun w' hw hS=>zB 3 O (yT (vs:=[r1_,Vi (yE x.ok)]) O O) hS (zB 4 O (yT (vs:=[r1_,Vi (yE x.ok)]) O O) hS (zB 5 O yO hS (zB 6 O yO hS (zT ?_)))))
  refine Oc2 ?_ hw
  exact zU (xz (v:=r1_) (v':=Vi (yE x.ok)) O O O (fun w' hw=>⟨r1_,O,hw.sel [1] O qM⟩))
end Go.Proofs.YtkkeknmkipkbmaaGreat
