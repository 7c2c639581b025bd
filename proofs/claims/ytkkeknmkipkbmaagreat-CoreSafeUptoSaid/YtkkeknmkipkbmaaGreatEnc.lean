import Derived.Test.YtkkeknmkipkbmaaGreatConfA
import Derived.Test.YtkkeknmkipkbmaaGreatConfB
import Derived.Test.YtkkeknmkipkbmaaGreatIn
set_option linter.unusedSectionVars false
set_option linter.unusedSimpArgs false
set_option linter.unusedVariables false
set_option maxRecDepth 10000
namespace Go.Proofs.YtkkeknmkipkbmaaGreat
open Go Go.Sc Go.Proofs
structure ConfA where
  vs:List Int
  ls:List Int
  deriving DecidableEq
def ConfD.a(c:ConfD):ConfA:=⟨c.vs,c.ls⟩
def ConfA.ok(x:ConfA):Prop:=((Rises x.vs∧Rises x.ls)∧0<x.vs.length)∧∀ v∈x.vs,v∉x.ls
instance (x:ConfA):Decidable x.ok:=inferInstanceAs (Decidable ((_∧_)∧_))
def zHz:List UInt8→Nat→Option (ConfA×Nat):=jE zJJ fun vs=>jE zJJ fun ls=>jn ⟨vs,ls⟩
def zAl{α:Type}(p:List UInt8→Nat→Option (α×Nat))(ok:α→Prop)[DecidablePred ok](b:List UInt8):Option α:=(p b 0).bind fun q=>if q.2=b.length∧ok q.1 then some q.1 else none
def ValPost{α:Type}(d:Option α)(x z:α)(e:Int):Prop:=(e=0∧d=some x)∨(e=4∧d=none∧x=z)
instance:DecidablePred ConfA.ok:=fun x=>inferInstance
def xH(b:List UInt8):Option ConfA:=zAl zHz ConfA.ok b
theorem zJX{α:Type}{p:List UInt8→Nat→Option (α×Nat)}{ok:α→Prop}[DecidablePred ok]{b:List UInt8}{x:α}{a:Nat}{bad:Bool}(h:RdS p b 0 false x a bad)(hb:bad=false)(ha:a=b.length)(hok:ok x):zAl p ok b=some x:=by
  obtain⟨_,h2⟩:=h.good hb
  simp only[zAl,h2,Option.bind_some]
  rw[if_pos ⟨ha,hok⟩]
theorem zF2{α:Type}{p:List UInt8→Nat→Option (α×Nat)}{ok:α→Prop}[DecidablePred ok]{b:List UInt8}{x:α}{a:Nat}{bad:Bool}(h:RdS p b 0 false x a bad)(hn:bad=false→a=b.length→¬ ok x):zAl p ok b=none:=by
  cases hp:p b 0 with
  |none=>simp only[zAl,hp,Option.bind_none]
  |some q=>
    obtain⟨h1,h2,h3⟩:=h.ok q.1 q.2 rfl hp
    simp only[zAl,hp,Option.bind_some]
    rw[if_neg]
    rintro⟨h4,h5⟩
    rw[←h2]at h5
    exact hn h1 (h3.trans h4) h5
theorem zGl{S:List Nat}(o:Nat)(v:Value)(b:List UInt8)(a:Nat)(bad:Bool)(w:World)(hl:zf b.length)(ha:a≤b.length)(hin:Own w S [Res.row o 231 [v,Vj a, .bool bad]] w)(hb:Rd w S (Res.sl v b.length (b.map vb))):Rets Tryz.prog 153 #[.pointer (some ⟨o,0,none⟩)] w fun u_ w'=>∃ (r1:Value) (l1:List Int) (r2:Value) (l2:List Int) (a':Nat) (bad':Bool),u_= .agg #[r1,r2]∧RdS zHz b a bad (⟨l1,l2⟩:ConfA) a' bad'∧l1.length≤16∧l2.length≤16∧Own w S [Res.row o 231 [v,Vj a', .bool bad'],Res.vec 3 1 r1 l1.length (l1.flatMap I1),Res.vec 3 1 r2 l2.length (l2.flatMap I1)] w':=by
  refine zW Tryz.func153 O Tryz.ntmps153 hin ?_
  refine zB (yE (v:= .agg #[.slice none 0 0, .slice none 0 0]) qN O (fun b2=>zA (zB (zD O (a_call O O (fun w' hw=>(zHe o v b a bad w' ‹_› V (hw.give [0] O qM) (hw.rdTo hb [0] O)).mono ?_))))))
  rintro r1_ w1 ⟨_,l2_,a'3_,bad'4_,rfl,hf1_1,hf1_1_1,hO⟩
  have hq1:=hf1_1.le
  refine O3 ?_ (hw.qg [0] O hO)
  refine zD O (a_call O O (fun w' hw=>(zHe o v b a'3_ bad'4_ w' ‹_› V (hw.give [1] O qM) (hw.rdTo hb [1] O)).mono ?_))
  rintro r5_ w1 ⟨_,l6_,a'7_,bad'8_,rfl,hf1_3,hf1_3_1,hO⟩
  refine O4 ?_ (hw.qg [1] O hO)
  refine zP (fun w' hw=>Own.qh (i:=1) O hw) (fun hc1_=> ?_)
  refine zP (fun w' hw=>Own.qh (i:=3) O hw) (fun hc2_=> ?_)
  refine k0 (cs:=[r1_,r5_]) (z:=[.slice none 0 0, .slice none 0 0]) (pl:=[(0,1),(1,1)]) qN ⟨hc1_,hc2_,trivial⟩ qN O (zr 0 O O O (zF hc1_ (zF hc2_ zj)) O (zA ?_))
  exact zV (jj (cs:=[r1_,r5_]) O O qN (Own.qt (i:=0) O) (fun w' hw=>⟨r1_,l2_,r5_,l6_,a'7_,bad'8_,O,hf1_1.bind (hf1_3.bind (RdS.pure _ hf1_3.le)),hf1_1_1,hf1_3_1,hw.sel [2,1,3] O qM⟩))
theorem _root_.Go.Sc.qP{p:Prop}(h:p:=by first|assumption|omega|(simp<;>omega)|(constructor<;>(first|omega|(simp only[zf];omega)|(simp<;>omega)))):p:=h
theorem zF0(v:Value)(b:List UInt8)(w:World)(hl:zf b.length)(hb:Rd w [] (Res.sl v b.length (b.map vb))):Rets Tryz.prog 159 #[.agg #[.func (.func 147) #[] #[], .func (.func 151) #[] #[], .func (.func 153) #[] #[]],v] w fun u_ w'=>∃ (r1:Value) (l1:List Int) (r2:Value) (l2:List Int) (e:Int),u_= .tuple #[.agg #[r1,r2],Vi e]∧ValPost (xH b) (⟨l1,l2⟩:ConfA) ⟨[],[]⟩ e∧l1.length≤16∧l2.length≤16∧Own w [] [Res.vec 3 1 r1 l1.length (l1.flatMap I1),Res.vec 3 1 r2 l2.length (l2.flatMap I1)] w':=by
  refine zW Tryz.func159 O Tryz.ntmps159 (Own.start w) ?_
  refine zB (z3 O O (fun b2=>yE (v:= .agg #[.slice none 0 0, .slice none 0 0]) qN O (fun b4=>zI O (zA (zB (zD O (k0 (cs:=[v,Vi 0, .bool false]) (z:=[.slice none 0 0,Vi 0, .bool false]) (pl:=[(0,1),(1,1),(2,1)]) qN ⟨(Sl.cell1 (Rd.φ hb)),trivial⟩ qN O (z3 O O (fun b10=>zI O (zA (zB (zJ (o:=2) O O ?_))))))))))))
  refine zL 0 (v:= .func (.func 153) #[] #[]) O O O O (zD O (yW (fst:=[]) (cap:=[]) O qN O O (fun w' hw=>(zGl b10 v b 0 false w' ‹_› V (hw.give [2] O qM) (hw.rdTo hb [2] O)).mono ?_)))
  rintro _ w1 ⟨r11_,l12_,r23_,l24_,a'5_,bad'6_,rfl,hf2_3,hf2_3_1,hf2_3_2,hO⟩
  refine O5 ?_ (hw.qg [2] O hO)
  refine zP (fun w' hw=>Own.qh (i:=3) O hw) (fun hc1_=> ?_)
  refine zP (fun w' hw=>Own.qh (i:=4) O hw) (fun hc2_=> ?_)
  refine zr 1 O O O (zF hc1_ (zF hc2_ zj)) O (zA (zN (zB (zD O (za O O (zJ (o:=2) O O (zL 2 (v:= .bool bad'6_) O O O O (zD O (yn (q:=bad'6_=true) 7 4 [26,25,24,23,22,21,20] (((a'5_:Nat):Int)≠((b.length:Nat):Int)) O O (xZ _) O O O trivial O (fun h3_4=> ?_) (fun g3_12=> ?_))))))))))
  ·refine zR O (bF h3_4) (zD O (zR O (bF h3_4) (za O O (zR O (bF h3_4) (zJ (o:=1) O O (zR O (bF h3_4) (zL 2 (v:=Vj a'5_) O O O O (zR O (bF h3_4) (zD O (zR O (bF h3_4) (zo (pR hb) O O (zR O (bF h3_4) ?_))))))))))))
   refine xn O O O ?_
   exact yP O (fun _ hw=>hw)
  refine zD O (yn (q:=(bad'6_=true)∨(((a'5_:Nat):Int)≠((b.length:Nat):Int))) 5 13 [33,32,31,30,29] (¬(({vv:=r11_,vs:=l12_,lv:=r23_,ls:=l24_}:ConfD).ok)) O O O O O O trivial O (fun h3_13=> ?_) (fun g3_19=> ?_))
  ·refine zR O (gF h3_13) (zJ (o:=0) O O (zR O (gF h3_13) (zL 0 (v:= .func (.func 147) #[] #[]) O O O O (zR O (gF h3_13) (yI (cs:=[r11_,r23_]) 1 O O O (zR O (gF h3_13) (yW (fst:=[]) (cap:=[]) O qN O O (fun w' hw=>(kJ ({vv:=r11_,vs:=l12_,lv:=r23_,ls:=l24_}:ConfD) w' qP ⟨(hw.qp 3 O),(hw.qp 4 O)⟩).mono ?_))))))))
   rintro _ w1 ⟨rfl,hO⟩
   refine O5 ?_ (hw.qi hO)
   refine zR O (gF h3_13) (y7 (q:=({vv:=r11_,vs:=l12_,lv:=r23_,ls:=l24_}:ConfD).ok) O O ?_)
   exact yP O (fun _ hw=>hw)
  refine zA (zY O (fun c1=> ?_) (fun c1=> ?_))
  ·refine zB (yE (v:= .agg #[.slice none 0 0, .slice none 0 0]) qN O (fun b7=>zA (zB (yI (cs:=[.slice none 0 0, .slice none 0 0]) 5 O O O (zr 1 O O O (xQ O) O (zI O (zA ?_)))))))
   exact zV (xx (cs:=[.slice none 0 0, .slice none 0 0]) (v:=Vi 4) O O O qN (Own.qt (i:=1) O) (fun w' hw=>⟨.slice none 0 0,[], .slice none 0 0,[],4,O, .inr ⟨O,zF2 hf2_3 (fun h1 h2 h3=>c1.elim (fun h=>h.elim (fun h=>by rw[h1]at h;cases h) (fun h=>h V)) (fun h=>h h3)),O⟩,qQ,qQ,zl (zl hw.drop 3 1) 3 1⟩))
  refine zO (zB (yI (cs:=[r11_,r23_]) 1 O O O (zr 1 O O O (zF hc1_ (zF hc2_ zj)) O (zI O (zA ?_)))))
  exact zV (xx (cs:=[r11_,r23_]) (v:=Vi 0) O O O qN (Own.qt (i:=1) O) (fun w' hw=>⟨r11_,l12_,r23_,l24_,0,O, .inl ⟨O,zJX hf2_3 (by cases h:bad'6_;rfl;exact absurd (.inl (.inl h)) c1) (by have:¬(a'5_:Int)≠b.length:=fun h=>c1 (.inl (.inr h));omega) (Decidable.not_not.1 fun h=>c1 (.inr h))⟩,hf2_3_1,hf2_3_2,hw.sel [3,4] O qM⟩))
theorem zFP(v:Value)(b:List UInt8)(w:World)(hl:zf b.length)(hb:Rd w [] (Res.sl v b.length (b.map vb))):Rets Tryz.prog 118 #[v] w fun u_ w'=>∃ (r1:Value) (l1:List Int) (r2:Value) (l2:List Int) (e:Int),u_= .tuple #[.agg #[r1,r2],Vi e]∧ValPost (xH b) (⟨l1,l2⟩:ConfA) ⟨[],[]⟩ e∧l1.length≤16∧l2.length≤16∧Own w [] [Res.vec 3 1 r1 l1.length (l1.flatMap I1),Res.vec 3 1 r2 l2.length (l2.flatMap I1)] w':=by
  refine zW Tryz.func118 O Tryz.ntmps118 (Own.start w) ?_
  refine zB (yE (v:= .agg #[.slice none 0 0, .slice none 0 0]) qN O (fun b2=>zI O (zA (zB (a_call O O (fun w' hw=>(zCf w').mono ?_))))))
  rintro _ w1 ⟨rfl,hO⟩
  refine O1 ?_ (hw.qi hO)
  refine zD O (a_call O O (fun w' hw=>(zF0 v b w' ‹_› (hw.rd0 hb)).mono ?_))
  rintro _ w1 ⟨r11_,l12_,r23_,l24_,e5_,rfl,hf1_2,hf1_2_1,hf1_2_2,hO⟩
  refine O3 ?_ (hw.qi hO)
  refine z8 (vs:=[.agg #[r11_,r23_],Vi e5_]) O O O (z8 (vs:=[.agg #[r11_,r23_],Vi e5_]) O O O ?_)
  refine zP (fun w' hw=>Own.qh (i:=1) O hw) (fun hc1_=> ?_)
  refine zP (fun w' hw=>Own.qh (i:=2) O hw) (fun hc2_=> ?_)
  refine zr 0 O O O (zF hc1_ (zF hc2_ zj)) O (zI O (zA ?_))
  exact zV (xx (cs:=[r11_,r23_]) (v:=Vi e5_) O O O qN (Own.qt (i:=0) O) (fun w' hw=>⟨r11_,l12_,r23_,l24_,e5_,O,hf1_2,hf1_2_1,hf1_2_2,hw.sel [1,2] O qM⟩))
structure RefPost{α:Type}(d:Option α)(x:α)(f:Bool):Prop where
  yes:f=true→d=some x
  no:f=false→d=none
theorem RefPost.off{α:Type}{p:List UInt8→Nat→Option (α×Nat)}{ok:α→Prop}[DecidablePred ok]{b:List UInt8}{x:α}{a:Nat}{bad:Bool}(h:RdS p b 0 false x a bad)(hw:¬(bad=false∧a=b.length)):RefPost (zAl p ok b) x false:=
  ⟨fun q=>(by cases q),fun _=>zF2 h fun h1 h2 _=>hw ⟨h1,h2⟩⟩
def pv(p:Value×List UInt8):List Value:=[p.1]
abbrev BsRd(p:Value×List UInt8)(w:World)(S:List Nat):Prop:=Rd w S (Res.sl p.1 p.2.length (p.2.map vb))
theorem BsRd.at0{p:Value×List UInt8}{w0 w:World}{S:List Nat}{L:List Res}(h:BsRd p w0 S)(hw:Own w0 S L w):BsRd p w []:=hw.rd0 h
theorem BsRd.at{p:Value×List UInt8}{w0 w:World}{S:List Nat}{L Lin:List Res}(h:BsRd p w0 S)(hw:Own w0 S L w)(m:List Nat)(hm:m.mapM (fun i=>L[i]?)=some Lin):BsRd p w (y2 Lin):=hw.rdTo h m hm
def x5(ps:List (Value×List UInt8)):List UInt8:=ps.flatMap fun p=>dat p.2
theorem zGr(v:Value)(bs:List UInt8)(lv:Value)(ps:List (Value×List UInt8))(w:World)(hb:bs.length+(x5 ps).length≤100000000000)(hn:zf ps.length)(hv:Rd w [] (Res.sl v bs.length (bs.map vb)))(hl:Rd w [] (Res.sl lv ps.length (ps.flatMap pv)))(all_hl:∀ p∈ps,BsRd p w []):Rets Tryz.prog 155 #[v,lv] w fun u_ w'=>∃ (r:Value),u_=r∧Own w [] [Res.vec 5 1 r (bs++x5 ps).length ((bs++x5 ps).map vb)] w':=by
  have hbl:bs.length≤100000000000:=by omega
  refine zW Tryz.func155 O Tryz.ntmps155 (Own.start w) ?_
  refine zB (zI O (zA (zB (zD O (a_call O O (fun w' hw=>(zBT v bs w' qP (hw.rd0 hv)).mono ?_))))))
  rintro r1_ w1 ⟨_,rfl,hO⟩
  refine O1 ?_ (hw.qi hO)
  refine zI O (zA (zN (zB (zD O (zo (pR hl) O O (zD O (zA (zX ?_))))))))
  refine yw (fun(k:Nat) (o:Value)=>[(5,o),(10,lv),(11,Vj ps.length),(12,Vj k)]) (fun(k:Nat) (o:Value)=>k≤ps.length) (fun(k:Nat) (o:Value)=>[Res.vec 5 1 o (bs++x5 (ps.take k)).length ((bs++x5 (ps.take k)).map vb)]) (fun(k:Nat) (o:Value)=>ps.length - k) (fun w' hw=>⟨0,r1_,⟨O,O,O,O,trivial⟩,Nat.zero_le _,by simpa [x5]using hw⟩) (fun k o g hΦ=> ?_)
  have hle:=xa (fun p:Value×List UInt8=>dat p.2) ps (k+1)
  refine zB (yG O O O (zA (zN (zY O (fun c1=> ?_) (fun c1=> ?_)))))
  ·rw[zt V,List.flatMap_append]at hle
   simp only[List.length_append,List.flatMap_cons,List.flatMap_nil,List.append_nil,dat]at hle
   have hcl:(x5 (ps.take k)).length+((num (zG ps k).2.length).length+(zG ps k).2.length)≤(x5 ps).length:=hle
   refine zO (zN (zX (zB (zi (pR hl) 1 k O O O V O (yF (pR hl) 1 k 0 (fun _=>O) O O V O O (zI O (zA (zS (zD O (zD O (zo (pR (all_hl _ (ze V))) O O (xo qN O (xO V) O ?_ qN))))))))))))
   refine a_call O O (fun w' hw=>(zGS o (bs++x5 (ps.take k)) (((zG ps k).2).length) w' qO qS (hw.qp 0 O)).mono ?_)
   rintro r2_ w1 ⟨_,rfl,hO⟩
   refine O2 ?_ (hw.qi hO)
   refine zD O (zDN (l:=((bs++x5 (ps.take k))++num (((zG ps k).2).length))) (l':=(zG ps k).2) 1 qN O O O (fun w' hw'=>Own.rd (all_hl _ (ze V)) hw') qO O (fun v22=>zI O (zA (zS (zp O O (zq V) O (zD O ?_))))))
   exact zd (fun w' hw=>⟨k+1,v22,⟨O,O,O,O,trivial⟩,V,by rw[zt V];have h:=hw.one 1 rfl;simpa [x5,dat]using h,V⟩)
  refine yA O (zB (zD O (zI O (zA ?_))))
  exact zV (z6 (v:=o) O O (fun w' hw=>⟨o,O,by rw[List.take_of_length_le V]at hw;exact hw⟩))
theorem zHc{S:List Nat}(o:Nat)(sl:Value)(bs:List UInt8)(lv:Value)(ps:List (Value×List UInt8))(w:World)(hb:bs.length+(x5 ps).length≤100000000000)(hn:zf ps.length)(hin:Own w S [Res.bv o xI sl bs] w)(hl:Rd w S (Res.sl lv ps.length (ps.flatMap pv)))(all_hl:∀ p∈ps,BsRd p w S):Rets Tryz.prog 110 #[.pointer (some ⟨o,0,none⟩),lv] w fun u_ w'=>∃ (sl':Value),u_= .tuple #[]∧Own w S [Res.bv o xI sl' (bs++x5 ps)] w':=by
  refine zW Tryz.func110 O Tryz.ntmps110 hin ?_
  refine zS (zD O (zD O (za O O (zJ (o:=0) O O ?_))))
  refine z2 [Res.row o xI [sl],Res.vec 5 1 sl bs.length (bs.map vb)] (fun w' hw=>hw.splitBv (i:=0) (o:=o) (T:=xI) (v:=sl) (bs:=bs) O) ?_
  refine zL 0 (v:=sl) O O O O (zD O (a_call O O (fun w' hw=>(zGr sl bs lv ps w' V ‹_› (hw.qp 1 O) (hw.rd0 hl) (fun p hp=>BsRd.at0 (all_hl p hp) hw)).mono ?_)))
  rintro r1_ w1 ⟨_,rfl,hO⟩
  refine O3 ?_ (hw.qi hO)
  refine za O O (zJ (o:=0) O O ?_)
  refine zP (fun w' hw=>Own.qh (i:=2) O hw) (fun hc1_=> ?_)
  refine zn (cs:=[sl]) 0 O O O hc1_ O ?_
  exact zd (yJ O (fun w' hw=>⟨r1_,O,(hw.joinBv (i:=0) (j:=2) (o:=o) (T:=xI) (v:=r1_) (bs:=bs++x5 ps) qM O O).one 0 O⟩))
structure EntA where
  index:Nat
  term:Nat
  kind:Int
  delta:Int
  data:List UInt8
  deriving DecidableEq,Inhabited
structure EntD extends EntA where
  dv:Value
  deriving Inhabited
structure EntA.wf(x:EntA):Prop where
  index:x.index<18446744073709551616
  term:x.term<18446744073709551616
  data:x.data.length≤1000000000
def EntD.cells(x:EntD):List Value:=[.int .u64 x.index, .int .u64 x.term, .int .i64 x.kind, .int .i64 x.delta,x.dv]
structure EntD.rd(x:EntD)(w:World)(S:List Nat):Prop where
  dv:Rd w S (Res.sl x.dv x.data.length (x.data.map vb))
theorem EntD.rd.at0{x:EntD}{w0 w:World}{S:List Nat}{L:List Res}(h:x.rd w0 S)(hw:Own w0 S L w):x.rd w []:=⟨hw.rd0 h.dv⟩
theorem EntD.rd.at{x:EntD}{w0 w:World}{S:List Nat}{L Lin:List Res}(h:x.rd w0 S)(hw:Own w0 S L w)(m:List Nat)(hm:m.mapM (fun i=>L[i]?)=some Lin):x.rd w (y2 Lin):=⟨hw.rdTo h.dv m hm⟩
def EntD.dres(x:EntD):Res:=Res.vec 5 1 x.dv x.data.length (x.data.map vb)
theorem EntD.dres_rd{x:EntD}{w:World}{S:List Nat}(h:Rd w S x.dres):x.rd w S:=⟨h.sub Vec.sl zAK⟩
theorem EntD.rd.star0{es:List EntD}{w0 w:World}{S:List Nat}{L:List Res}(j:Nat)(hL:L[j]?=some (Res.star (es.map EntD.dres)))(h:Own w0 S L w):∀ p∈es,p.rd w []:=fun p hp=>EntD.dres_rd (h.star0 j hL _ (List.mem_map_of_mem hp))
theorem EntD.rd.star{es:List EntD}{w0 w:World}{S:List Nat}{L Lin:List Res}(j:Nat)(hL:L[j]?=some (Res.star (es.map EntD.dres)))(m:List Nat)(hm:m.mapM (fun i=>L[i]?)=some Lin)(hj:m.any (Nat.beq j)=false)(h:Own w0 S L w):∀ p∈es,p.rd w (y2 Lin):=fun p hp=>EntD.dres_rd (h.star j hL m hm hj _ (List.mem_map_of_mem hp))
def EntA.ok(x:EntA):Prop:=((1≤x.index∧1≤x.term)∧(x.index≤4611686018427387904∧x.term≤4611686018427387904)∧(0≤x.delta∧x.delta≤1099511627776)∧x.data.length≤4096)∧
  if x.kind=1 then x.data.length=0 else if x.kind=3 then(xH x.data).isSome=true else x.kind=2
instance (x:EntA):Decidable x.ok:=by unfold EntA.ok;infer_instance
def EntA.enc(x:EntA):List UInt8:=yH [x.index,x.term,u64 x.kind,u64 x.delta]++dat x.data
theorem EntA.enc_le{x:EntA}(h:x.wf):x.enc.length≤x.data.length+60:=by
  have h1:=yL (ns:=[x.index,x.term,u64 x.kind,u64 x.delta]) (by have:=h.index;have:=h.term;simp[xK, *])
  have h2:=jt x.data (by have:=h.data;omega)
  simp only[EntA.enc,List.length_append,List.length_cons,List.length_nil]at *
  omega
theorem ValPost.iff{α:Type}{d:Option α}{x z:α}{e:Int}(h:ValPost d x z e):e=0↔d.isSome=true:=by
  rcases h with⟨rfl,h⟩|⟨rfl,h,_⟩<;>simp[h]
theorem RefPost.iff{α:Type}{d:Option α}{x:α}{f:Bool}(h:RefPost d x f):f=true↔d.isSome=true:=by
  cases f with
  |true=>simp[h.yes rfl]
  |false=>simp[h.no rfl]
theorem zDc(x:EntD)(w:World)(hx:x.wf)(rd_x:EntD.rd x w []):Rets Tryz.prog 166 #[.agg (EntD.cells x).toArray] w fun u_ w'=>u_= .bool (decide x.ok)∧Own w [] [] w':=by
  have hd:=hx.data
  have h1:=hx.index
  have h2:=hx.term
  refine zW Tryz.func166 O Tryz.ntmps166 (Own.start w) ?_
  refine zB (z3 O O (fun b1=>zI O (zA (zN (zB (zJ (o:=0) O O (zL 0 (v:=Vn x.index) O O O O (yG O O O (zD O (yn (q:=((x.index:Nat):Int)<((1:Nat):Int)) 3 3 [11,10,9] (((x.term:Nat):Int)<((1:Nat):Int)) O O O O O O trivial O (fun h1_3=> ?_) (fun g1_7=> ?_)))))))))))
  ·refine zR O (gF h1_3) (zJ (o:=1) O O (zR O (gF h1_3) (zL 0 (v:=Vn x.term) O O O O (zR O (gF h1_3) (yG O O O ?_)))))
   exact yP O (fun _ hw=>hw)
  refine zD O (yn (q:=(((x.index:Nat):Int)<((1:Nat):Int))∨(((x.term:Nat):Int)<((1:Nat):Int))) 6 8 [19,18,17,16,15,14] (((4611686018427387904:Nat):Int)<((max x.index x.term:Nat):Int)) O O O O O O trivial O (fun h1_8=> ?_) (fun g1_15=> ?_))
  ·refine zR O (gF h1_8) (zJ (o:=0) O O (zR O (gF h1_8) (zL 0 (v:=Vn x.index) O O O O (zR O (gF h1_8) (zJ (o:=1) O O (zR O (gF h1_8) (zL 0 (v:=Vn x.term) O O O O (zR O (gF h1_8) (zDs (c:=((max x.index x.term:Nat):Int)) O O (zEs _ _) O (zR O (gF h1_8) (y0 O O O ?_)))))))))))
   exact yP O (fun _ hw=>hw)
  refine zD O (yn (q:=((((x.index:Nat):Int)<((1:Nat):Int))∨(((x.term:Nat):Int)<((1:Nat):Int)))∨(((4611686018427387904:Nat):Int)<((max x.index x.term:Nat):Int))) 3 16 [24,23,22] (x.delta<0) O O O O O O trivial O (fun h1_16=> ?_) (fun g1_20=> ?_))
  ·refine zR O (gF h1_16) (zJ (o:=3) O O (zR O (gF h1_16) (zL 0 (v:=Vi x.delta) O O O O (zR O (gF h1_16) (yG O O O ?_)))))
   exact yP O (fun _ hw=>hw)
  refine zD O (yn (q:=(((((x.index:Nat):Int)<((1:Nat):Int))∨(((x.term:Nat):Int)<((1:Nat):Int)))∨(((4611686018427387904:Nat):Int)<((max x.index x.term:Nat):Int)))∨(x.delta<0)) 3 21 [29,28,27] (1099511627776<x.delta) O O O O O O trivial O (fun h1_21=> ?_) (fun g1_25=> ?_))
  ·refine zR O (gF h1_21) (zJ (o:=3) O O (zR O (gF h1_21) (zL 0 (v:=Vi x.delta) O O O O (zR O (gF h1_21) (y0 O O O ?_)))))
   exact yP O (fun _ hw=>hw)
  refine zD O (yn (q:=((((((x.index:Nat):Int)<((1:Nat):Int))∨(((x.term:Nat):Int)<((1:Nat):Int)))∨(((4611686018427387904:Nat):Int)<((max x.index x.term:Nat):Int)))∨(x.delta<0))∨(1099511627776<x.delta)) 4 26 [35,34,33,32] (4096<((x.data.length:Nat):Int)) O O O O O O trivial O (fun h1_26=> ?_) (fun g1_31=> ?_))
  ·refine zR O (gF h1_26) (zJ (o:=4) O O (zR O (gF h1_26) (zL 0 (v:=x.dv) O O O O (zR O (gF h1_26) (zo (pR rd_x.dv) O O (zR O (gF h1_26) (y0 O O O ?_)))))))
   exact yP O (fun _ hw=>hw)
  refine zA (zY O (fun c1=> ?_) (fun c1=> ?_))
  ·refine zB (zI O (zA ?_))
   exact zV (z6 (v:= .bool false) O O (fun w' hw=>⟨(by rw[decide_eq_false];rintro⟨h,_⟩;omega),hw.drop⟩))
  refine zO (zN (zB (zJ (o:=2) O O (zL 0 (v:=Vi x.kind) O O O O (zA (zX (zB (yQ O O O (zI O (zA (zY O (fun c2=> ?_) (fun c2=> ?_))))))))))))
  ·refine zB (zJ (o:=4) O O (zL 0 (v:=x.dv) O O O O (zo (pR rd_x.dv) O O (yQ O O O (zI O (zA ?_))))))
   exact zV (z6 (v:= .bool (decide (((x.data.length:Nat):Int)=0))) O O (fun w' hw=>⟨(by congr 1;exact decide_eq_decide.2 (by unfold EntA.ok;rw[if_pos c2];exact⟨fun h=>⟨by omega,by omega⟩,fun h=>by have:=h.2;omega⟩)),hw.drop⟩))
  refine zB (yQ O O O (zI O (zA (zY O (fun c3=> ?_) (fun c3=> ?_)))))
  ·refine zB (zJ (o:=4) O O (zL 0 (v:=x.dv) O O O O (a_call O O (fun w' hw=>(zFP x.dv x.data w' qP (hw.rd0 rd_x.dv)).mono ?_))))
   rintro _ w1 ⟨r11_,l12_,r23_,l24_,e5_,rfl,hf7_2,hf7_2_1,hf7_2_2,hO⟩
   refine O3 ?_ (hw.qi hO)
   refine zD O (z8 (vs:=[.agg #[r11_,r23_],Vi e5_]) O O O (z8 (vs:=[.agg #[r11_,r23_],Vi e5_]) O O O (yE (v:= .agg #[.slice none 0 0, .slice none 0 0]) qN O (fun b3=> ?_))))
   refine zP (fun w' hw=>Own.qh (i:=1) O hw) (fun hc1_=> ?_)
   refine zP (fun w' hw=>Own.qh (i:=2) O hw) (fun hc2_=> ?_)
   refine zr 3 O O O (zF hc1_ (zF hc2_ zj)) O (zI O (zA (zB (zD O (yQ O O O (zI O (zA ?_)))))))
   exact zV (z6 (v:= .bool (decide (e5_=0))) O O (fun w' hw=>⟨(by congr 1;exact decide_eq_decide.2 (by unfold EntA.ok;rw[if_neg c2,if_pos c3,←hf7_2.iff];exact⟨fun h=>⟨by omega,h⟩,fun h=>h.2⟩)),hw.drop⟩))
  refine zO (zB (zJ (o:=2) O O (zL 0 (v:=Vi x.kind) O O O O (yQ O O O (zI O (zA ?_))))))
  exact zV (z6 (v:= .bool (decide (x.kind=2))) O O (fun w' hw=>⟨(by congr 1;exact decide_eq_decide.2 (by unfold EntA.ok;rw[if_neg c2,if_neg c3];exact⟨fun h=>⟨by omega,h⟩,fun h=>h.2⟩)),hw.drop⟩))
theorem zC0{S:List Nat}(o:Nat)(sl:Value)(bs:List UInt8)(x:EntD)(w:World)(hx:x.wf)(hb:bs.length+x.enc.length≤10000000000)(hin:Own w S [Res.bv o xI sl bs] w)(rd_x:EntD.rd x w S):Rets Tryz.prog 167 #[.pointer (some ⟨o,0,none⟩), .agg (EntD.cells x).toArray] w fun u_ w'=>∃ (sl':Value),u_= .tuple #[]∧Own w S [Res.bv o xI sl' (bs++x.enc)] w':=by
  have hd:=hx.data
  have h1:=hx.index
  have h2:=hx.term
  have he:x.enc.length=(yH [x.index,x.term,u64 x.kind,u64 x.delta]).length+(dat x.data).length:=by simp[EntA.enc]
  refine zW Tryz.func167 O Tryz.ntmps167 hin ?_
  refine zB (z3 O O (fun b3=>zA (zB (zD O (zJ (o:=0) O O (zL 1 (v:=Vn x.index) O O O O (zJ (o:=1) O O (zL 1 (v:=Vn x.term) O O O O (zJ (o:=2) O O (zL 1 (v:=Vi x.kind) O O O O (xo qN O (jH _) O ?_ qN)))))))))))
  refine zJ (o:=3) O O (zL 1 (v:=Vi x.delta) O O O O (xo qN O (jH _) O ?_ qN))
  refine zy (e:=22) (sz:=1) (vs:=[Vn x.index,Vn x.term,Vn (u64 x.kind),Vn (u64 x.delta)]) qN O O qR qM O (fun b15=>a_call O O (fun w' hw=>(zAt o _ _ (.slice (some ⟨b15,0,none⟩) 4 4) [x.index,x.term,u64 x.kind,u64 x.delta] w' wg qS (hw.give [0] O qM) (hw.rdVec 2 O [0] O O)).mono ?_))
  rintro _ w1 ⟨sl'1_,rfl,hO⟩
  refine O3 ?_ (hw.qg [0] O hO)
  refine zA (zS (zD O (zJ (o:=4) O O (zL 0 (v:=x.dv) O O O O (zFC (e:=36) (vs:=[x.dv]) qN O O (zF (Sl.cell1 (Rd.φ rd_x.dv)) zj) qM O (fun b20=>a_call O O (fun w' hw=>(zHc o sl'1_ (bs++yH [x.index,x.term,u64 x.kind,u64 x.delta]) (.slice (some ⟨b20,0,none⟩) 1 1) [(x.dv,x.data)] w' (by simp[x5];omega) (by show 1≤_;omega) (hw.give [2] O qM) (hw.rdVec 3 O [2] O O) (all_cons (hw.rdTo rd_x.dv [2] O) (fun p hp=>by cases hp))).mono ?_)))))))
  rintro _ w1 ⟨sl'2_,rfl,hO⟩
  refine O4 ?_ (hw.qg [2] O hO)
  exact zd (yJ O (fun w' hw=>⟨sl'2_,O,by have h:=hw.one 3 rfl;simpa [EntA.enc,x5]using h⟩))
theorem zEc(w:World):Rets Tryz.prog 124 #[] w fun u_ w'=>u_= .agg #[.func (.func 166) #[] #[], .func (.func 167) #[] #[], .func (.func 168) #[] #[]]∧Own w [] [] w':=by
  refine zW Tryz.func124 O Tryz.ntmps124 (Own.start w) ?_
  refine zB (yE (v:= .agg #[.nilFunc, .nilFunc, .nilFunc]) qN O (fun b0=>zA (zB (ye (cs:=[.func (.func 166) #[] #[], .func (.func 167) #[] #[], .func (.func 168) #[] #[]]) (z:=[.nilFunc, .nilFunc, .nilFunc]) (pl:=[(0,1),(1,1),(2,1)]) qN qN O (zr 0 O O O (xQ O) O (zA ?_))))))
  exact zV (jj (cs:=[.func (.func 166) #[] #[], .func (.func 167) #[] #[], .func (.func 168) #[] #[]]) O O qN (Own.qt (i:=0) O) (fun w' hw=>⟨O,hw.drop⟩))
theorem zHO(x:EntD)(w:World)(hx:x.wf)(rd_x:EntD.rd x w []):Rets Tryz.prog 157 #[.agg #[.func (.func 166) #[] #[], .func (.func 167) #[] #[], .func (.func 168) #[] #[]], .agg (EntD.cells x).toArray] w fun u_ w'=>∃ (r:Value),u_= .tuple #[r,Vi (yB x.ok)]∧Own w [] [Res.vec 5 1 r (if x.ok then x.enc else []).length ((if x.ok then x.enc else []).map vb)] w':=by
  have hd:=hx.data
  have hl:=EntA.enc_le hx
  refine zW Tryz.func157 O Tryz.ntmps157 (Own.start w) ?_
  refine zB (z3 O O (fun b2=>z3 O O (fun b3=>zI O (zI O (zA (zN (zB (zJ (o:=0) O O (zL 0 (v:= .func (.func 166) #[] #[]) O O O O (yI (cs:=(EntD.cells x)) 1 O O O (yW (fst:=[]) (cap:=[]) O qN O O (fun w' hw=>(zDc x w' ‹_› (rd_x.at0 hw)).mono ?_))))))))))))
  rintro _ w1 ⟨rfl,hO⟩
  refine O2 ?_ (hw.qi hO)
  refine y7 (q:=x.ok) O O (zA (zY O (fun c1=> ?_) (fun c1=> ?_)))
  ·refine zB (zI O (zI O (zA ?_)))
   exact zV (x1 (v:= .slice none 0 0) (v':=Vi 2) O O O (fun w' hw=>⟨.slice none 0 0,(by rw[ju c1]),by rw[if_neg c1];exact(zl hw T8 1).one 2 rfl⟩))
  refine zO (zB (ye (cs:=[.slice none 0 0]) (z:=[.slice none 0 0]) (pl:=[(0,1)]) qN qN O (z3 O O (fun b13=>zI O (zA (zB (zJ (o:=1) O O (zL 0 (v:= .func (.func 167) #[] #[]) O O O O (zD O (yI (cs:=(EntD.cells x)) 1 O O O ?_))))))))))
  refine z2 [Res.row b2 218 [.func (.func 166) #[] #[], .func (.func 167) #[] #[], .func (.func 168) #[] #[]],Res.row b3 81 (EntD.cells x),Res.bv b13 xI (.slice none 0 0) ([]:List UInt8)] (fun w' hw=>(zl hw T8 1).joinBv (i:=2) (j:=3) qM O O) ?_
  refine yW (fst:=[]) (cap:=[]) O qN O O (fun w' hw=>(zC0 b13 (.slice none 0 0) ([]:List UInt8) x w' ‹_› qS (hw.give [2] O qM) (rd_x.at hw [2] O)).mono ?_)
  rintro _ w1 ⟨sl'1_,rfl,hO⟩
  refine O3 ?_ (hw.qg [2] O hO)
  refine zA (zB (zD O (za O O (zJ (o:=0) O O ?_))))
  refine z2 [Res.row b2 218 [.func (.func 166) #[] #[], .func (.func 167) #[] #[], .func (.func 168) #[] #[]],Res.row b3 81 (EntD.cells x),Res.row b13 xI [sl'1_],Res.vec 5 1 sl'1_ (([]:List UInt8)++x.enc).length ((([]:List UInt8)++x.enc).map vb)] (fun w' hw=>hw.splitBv (i:=2) (o:=b13) (T:=xI) (v:=sl'1_) (bs:=(([]:List UInt8)++x.enc)) O) ?_
  refine zL 2 (v:=sl'1_) O O O O (zI O (zI O (zA ?_)))
  exact zV (x1 (v:=sl'1_) (v':=Vi 0) O O O (fun w' hw=>⟨sl'1_,(by rw[jM (Decidable.not_not.1 c1)]),by rw[if_pos (Decidable.not_not.1 c1)];exact hw.one 3 rfl⟩))
theorem zGz(x:EntD)(w:World)(hx:x.wf)(rd_x:EntD.rd x w []):Rets Tryz.prog 113 #[.agg (EntD.cells x).toArray] w fun u_ w'=>∃ (r:Value),u_= .tuple #[r,Vi (yB x.ok)]∧Own w [] [Res.vec 5 1 r (if x.ok then x.enc else []).length ((if x.ok then x.enc else []).map vb)] w':=by
  refine zW Tryz.func113 O Tryz.ntmps113 (Own.start w) ?_
  refine zB (z3 O O (fun b1=>zI O (zI O (zA (zN (zg [0] O qM qN (fun w' hw hS=>zC 1 O (x8 (cs:=(EntD.cells x)) 0 O O) hS (zK 0 O hw (a_call O O (fun w' hw=>(zEc w').mono ?_))))))))))
  rintro _ w1 ⟨rfl,hO⟩
  refine O1 ?_ (hw.qi hO)
  refine zE [0] O qM (fun w' hw hS=>zK 2 O hw (a_call O O (fun w' hw=>(zHO x w' ‹_› (rd_x.at0 hw)).mono ?_)))
  rintro _ w1 ⟨r1_,rfl,hO⟩
  refine O2 ?_ (hw.qi hO)
  refine zE [0] O qM (fun w' hw hS=>zC 3 O (yT (vs:=[r1_,Vi (yB x.ok)]) O O) hS (zC 4 O (yT (vs:=[r1_,Vi (yB x.ok)]) O O) hS (zC 5 O yO hS (zC 6 O yO hS (zU ?_)))))
  refine Oc2 ?_ hw
  exact zV (x1 (v:=r1_) (v':=Vi (yB x.ok)) O O O (fun w' hw=>⟨r1_,O,hw.sel [1] O qM⟩))
end Go.Proofs.YtkkeknmkipkbmaaGreat
