import Derived.Test.YtkkeknmkipkbmaaGreatIn
import Derived.Test.YtkkeknmkipkbmaaGreatConfA
set_option linter.unusedSectionVars false
set_option linter.unusedSimpArgs false
set_option linter.unusedVariables false
set_option maxRecDepth 10000
namespace Go.Proofs.YtkkeknmkipkbmaaGreat
open Go Go.Sc Go.Proofs
def ConfD.enc(c:ConfD):List UInt8:=zCZ c.vs++zCZ c.ls
structure ConfD.few(c:ConfD):Prop where
  vs:c.vs.length≤1000000000
  ls:c.ls.length≤1000000000
theorem ConfD.few.wf{c:ConfD}(h:c.few):c.wf:=⟨by have:=h.vs;show _≤_;omega,by have:=h.ls;show _≤_;omega⟩
theorem zNH{ns:List Int}:∀ n∈ns.map u64,n<18446744073709551616:=fun n hn=>by obtain⟨a,_,rfl⟩:=List.mem_map.1 hn;exact xK a
theorem zAC(ns:List Int):(zCZ ns).length≤9*(ns.length+1):=by
  have:=yL (ns:=u64 ns.length::ns.map u64) (by intro n hn;rcases List.mem_cons.1 hn with rfl|h;exact xK _;exact zNH n h)
  simpa [zCZ]using this
theorem zBe(v:Value)(l:List Int)(w:World)(hl:zf l.length)(hv:Rd w [] (Res.sl v l.length (l.flatMap I1))):Rets Tryz.prog 115 #[v] w fun u_ w'=>∃ (r:Value),u_=r∧Own w [] [Res.vec 3 1 r l.length (l.flatMap I1)] w':=by
  refine zW Tryz.func115 O Tryz.ntmps115 (Own.start w) ?_
  refine zB (zI O (zA (zN (zB (zD O (zFL (len:=l.length) (cs:=(l.flatMap I1)) qN O O (fun w' hw'=>Own.rd hv hw') O (zA (zA0 O (fun c1=> ?_) (fun c1=> ?_)))))))))
  ·refine zB (zI O (zA ?_))
   exact zV (z6 (v:= .slice none 0 0) O O (fun w' hw=>⟨.slice none 0 0,O,by obtain⟨_,h0⟩:=Sl.isNil hv.φ c1;rw[List.eq_nil_of_length_eq_zero h0];exact zl hw 3 1⟩))
  refine zO (zB (zy (e:=3) (sz:=1) (vs:=[]) qN O O qR qM O (fun b5=>zD O (z7 (g:=I1) (sz:=1) (by':=8) (fun _=>O) (l:=[]) (l':=l) qV 0 qN O O O (fun w' hw'=>Own.rd hv hw') qO qM O (fun v7=>zI O (zA ?_))))))
  exact zV (z6 (v:=v7) O O (fun w' hw=>⟨v7,O,hw⟩))
theorem zEP(c:ConfD)(w:World)(hc:c.wf)(rd_c:ConfD.rd c w []):Rets Tryz.prog 59 #[.agg (ConfD.cells c).toArray] w fun u_ w'=>∃ (a:Value) (b:Value),u_= .agg #[a,b]∧Own w [] [Res.vec 3 1 a c.vs.length (c.vs.flatMap I1),Res.vec 3 1 b c.ls.length (c.ls.flatMap I1)] w':=by
  have hv:=hc.vs
  have hl:=hc.ls
  refine zW Tryz.func59 O Tryz.ntmps59 (Own.start w) ?_
  refine zB (z3 O O (fun b1=>yE (v:= .agg #[.slice none 0 0, .slice none 0 0]) qN O (fun b2=>zA (zN (zg [0] O qM qN (fun w' hw hS=>zC 1 O (zH (o:=0) O) hS (zC 2 O (zZ 0 (v:=c.vv) O O O) hS (zC 5 O (zH (o:=1) O) hS (zC 6 O (zZ 0 (v:=c.lv) O O O) hS (zu 0 4 ?_ ?_))))))))))
  ·refine zm 0 O hw (zy (e:=3) (sz:=1) (vs:=[]) qN O O qR qM O (fun b3=>zE [0] O qM (fun w' hw hS=>zu 3 4 ?_ ?_)))
   ·refine zm 3 O hw (z7 (g:=I1) (sz:=1) (by':=8) (fun _=>O) (l:=[]) (l':=c.vs) qV 2 qN O O O (fun w' hw'=>Own.rd rd_c.vv hw') qO qM O (fun v6=>zE [0] O qM (fun w' hw hS=>zK 4 O hw (zy (e:=3) (sz:=1) (vs:=[]) qN O O qR qM O (fun b7=>zE [0] O qM (fun w' hw hS=>zK 7 O hw (z7 (g:=I1) (sz:=1) (by':=8) (fun _=>O) (l:=[]) (l':=c.ls) qV 3 qN O O O (fun w' hw'=>Own.rd rd_c.lv hw') qO qM O (fun v10=>zE [0] O qM (fun w' hw hS=>zK 8 O hw ?_)))))))))
    refine zP (fun w' hw=>Own.qh (i:=2) O hw) (fun hc3_=> ?_)
    refine zP (fun w' hw=>Own.qh (i:=3) O hw) (fun hc4_=> ?_)
    refine k0 (cs:=[v6,v10]) (z:=[.slice none 0 0, .slice none 0 0]) (pl:=[(0,1),(1,1)]) qN ⟨hc3_,hc4_,trivial⟩ qN O (zE [0] O qM (fun w' hw hS=>zK 9 O hw (zr 1 O O O (zF hc3_ (zF hc4_ zj)) O (zE [0] O qM (fun w' hw hS=>zU ?_)))))
    refine Oc4 ?_ hw
    exact zV (jj (cs:=[v6,v10]) O O qN (Own.qt (i:=1) O) (fun w' hw=>⟨v6,v10,O,hw.sel [2,3] O qM⟩))
   refine zm 4 O hw (zy (e:=3) (sz:=1) (vs:=[]) qN O O qR qM O (fun b7=>zE [0] O qM (fun w' hw hS=>zK 3 O hw (z7 (g:=I1) (sz:=1) (by':=8) (fun _=>O) (l:=[]) (l':=c.vs) qV 2 qN O O O (fun w' hw'=>Own.rd rd_c.vv hw') qO qM O (fun v6=>zE [0] O qM (fun w' hw hS=>zK 7 O hw (z7 (g:=I1) (sz:=1) (by':=8) (fun _=>O) (l:=[]) (l':=c.ls) qV 3 qN O O O (fun w' hw'=>Own.rd rd_c.lv hw') qO qM O (fun v10=>zE [0] O qM (fun w' hw hS=>zK 8 O hw ?_)))))))))
   refine zP (fun w' hw=>Own.qh (i:=2) O hw) (fun hc5_=> ?_)
   refine zP (fun w' hw=>Own.qh (i:=3) O hw) (fun hc6_=> ?_)
   refine k0 (cs:=[v6,v10]) (z:=[.slice none 0 0, .slice none 0 0]) (pl:=[(0,1),(1,1)]) qN ⟨hc5_,hc6_,trivial⟩ qN O (zE [0] O qM (fun w' hw hS=>zK 9 O hw (zr 1 O O O (zF hc5_ (zF hc6_ zj)) O (zE [0] O qM (fun w' hw hS=>zU ?_)))))
   refine Oc4 ?_ hw
   exact zV (jj (cs:=[v6,v10]) O O qN (Own.qt (i:=1) O) (fun w' hw=>⟨v6,v10,O,hw.sel [2,3] O qM⟩))
  refine zm 4 O hw (zy (e:=3) (sz:=1) (vs:=[]) qN O O qR qM O (fun b7=>zE [0] O qM (fun w' hw hS=>zK 0 O hw (zy (e:=3) (sz:=1) (vs:=[]) qN O O qR qM O (fun b3=>zE [0] O qM (fun w' hw hS=>zK 3 O hw (z7 (g:=I1) (sz:=1) (by':=8) (fun _=>O) (l:=[]) (l':=c.vs) qV 3 qN O O O (fun w' hw'=>Own.rd rd_c.vv hw') qO qM O (fun v6=>zE [0] O qM (fun w' hw hS=>zK 7 O hw (z7 (g:=I1) (sz:=1) (by':=8) (fun _=>O) (l:=[]) (l':=c.ls) qV 2 qN O O O (fun w' hw'=>Own.rd rd_c.lv hw') qO qM O (fun v10=>zE [0] O qM (fun w' hw hS=>zK 8 O hw ?_))))))))))))
  refine zP (fun w' hw=>Own.qh (i:=3) O hw) (fun hc7_=> ?_)
  refine zP (fun w' hw=>Own.qh (i:=2) O hw) (fun hc8_=> ?_)
  refine k0 (cs:=[v6,v10]) (z:=[.slice none 0 0, .slice none 0 0]) (pl:=[(0,1),(1,1)]) qN ⟨hc7_,hc8_,trivial⟩ qN O (zE [0] O qM (fun w' hw hS=>zK 9 O hw (zr 1 O O O (zF hc7_ (zF hc8_ zj)) O (zE [0] O qM (fun w' hw hS=>zU ?_)))))
  refine Oc4 ?_ hw
  exact zV (jj (cs:=[v6,v10]) O O qN (Own.qt (i:=1) O) (fun w' hw=>⟨v6,v10,O,hw.sel [3,2] O qM⟩))
theorem zAD{S:List Nat}(o:Nat)(sl:Value)(bs:List UInt8)(c:ConfD)(w:World)(hb:bs.length+9*(c.vs.length+c.ls.length+2)≤100000000000)(hin:Own w S [Res.bv o xI sl bs] w)(rd_c:ConfD.rd c w S):Rets Tryz.prog 151 #[.pointer (some ⟨o,0,none⟩), .agg (ConfD.cells c).toArray] w fun u_ w'=>∃ (sl':Value),u_= .tuple #[]∧Own w S [Res.bv o xI sl' (bs++c.enc)] w':=by
  have h0:=zAC c.vs
  refine zW Tryz.func151 O Tryz.ntmps151 hin ?_
  refine zB (z3 O O (fun b3=>zA (zB (zD O (zJ (o:=0) O O (zL 1 (v:=c.vv) O O O O (a_call O O (fun w' hw=>(zOD o _ _ c.vv c.vs w' V (hw.give [0] O qM) (hw.rdTo rd_c.vv [0] O)).mono ?_))))))))
  rintro _ w1 ⟨sl'1_,rfl,hO⟩
  refine O2 ?_ (hw.qg [0] O hO)
  refine zA (zS (zD O (zJ (o:=1) O O (zL 0 (v:=c.lv) O O O O (a_call O O (fun w' hw=>(zOD o sl'1_ (bs++zCZ c.vs) c.lv c.ls w' qS (hw.give [1] O qM) (hw.rdTo rd_c.lv [1] O)).mono ?_))))))
  rintro _ w1 ⟨sl'2_,rfl,hO⟩
  refine O2 ?_ (hw.qg [1] O hO)
  exact zd (yJ O (fun w' hw=>⟨sl'2_,O,by have h:=hw.one 1 rfl;simpa [ConfD.enc]using h⟩))
theorem zCf(w:World):Rets Tryz.prog 107 #[] w fun u_ w'=>u_= .agg #[.func (.func 147) #[] #[], .func (.func 151) #[] #[], .func (.func 153) #[] #[]]∧Own w [] [] w':=by
  refine zW Tryz.func107 O Tryz.ntmps107 (Own.start w) ?_
  refine zB (yE (v:= .agg #[.nilFunc, .nilFunc, .nilFunc]) qN O (fun b0=>zA (zB (ye (cs:=[.func (.func 147) #[] #[], .func (.func 151) #[] #[], .func (.func 153) #[] #[]]) (z:=[.nilFunc, .nilFunc, .nilFunc]) (pl:=[(0,1),(1,1),(2,1)]) qN qN O (zr 0 O O O (xQ O) O (zA ?_))))))
  exact zV (jj (cs:=[.func (.func 147) #[] #[], .func (.func 151) #[] #[], .func (.func 153) #[] #[]]) O O qN (Own.qt (i:=0) O) (fun w' hw=>⟨O,hw.drop⟩))
theorem zGG(c:ConfD)(w:World)(hf:c.few)(rd_c:ConfD.rd c w []):Rets Tryz.prog 140 #[.agg #[.func (.func 147) #[] #[], .func (.func 151) #[] #[], .func (.func 153) #[] #[]], .agg (ConfD.cells c).toArray] w fun u_ w'=>∃ (r:Value),u_= .tuple #[r,Vi (yB c.ok)]∧Own w [] [Res.vec 5 1 r (if c.ok then c.enc else []).length ((if c.ok then c.enc else []).map vb)] w':=by
  have hc:=hf.wf
  have hv:=hf.vs
  have hl:=hf.ls
  refine zW Tryz.func140 O Tryz.ntmps140 (Own.start w) ?_
  refine zB (z3 O O (fun b2=>z3 O O (fun b3=>zI O (zI O (zA (zN (zB (zJ (o:=0) O O (zL 0 (v:= .func (.func 147) #[] #[]) O O O O (yI (cs:=(ConfD.cells c)) 1 O O O (yW (fst:=[]) (cap:=[]) O qN O O (fun w' hw=>(kJ c w' ‹_› (rd_c.at0 hw)).mono ?_))))))))))))
  rintro _ w1 ⟨rfl,hO⟩
  refine O2 ?_ (hw.qi hO)
  refine y7 (q:=c.ok) O O (zA (zY O (fun c1=> ?_) (fun c1=> ?_)))
  ·refine zB (zI O (zI O (zA ?_)))
   exact zV (x1 (v:= .slice none 0 0) (v':=Vi 2) O O O (fun w' hw=>⟨.slice none 0 0,(by rw[ju c1]),by rw[if_neg c1];exact(zl hw T8 1).one 2 rfl⟩))
  refine zO (zB (ye (cs:=[.slice none 0 0]) (z:=[.slice none 0 0]) (pl:=[(0,1)]) qN qN O (z3 O O (fun b13=>zI O (zA (zB (zJ (o:=1) O O (zL 0 (v:= .func (.func 151) #[] #[]) O O O O (zD O (yI (cs:=(ConfD.cells c)) 1 O O O ?_))))))))))
  refine z2 [Res.row b2 193 [.func (.func 147) #[] #[], .func (.func 151) #[] #[], .func (.func 153) #[] #[]],Res.row b3 35 (ConfD.cells c),Res.bv b13 xI (.slice none 0 0) ([]:List UInt8)] (fun w' hw=>(zl hw T8 1).joinBv (i:=2) (j:=3) qM O O) ?_
  refine yW (fst:=[]) (cap:=[]) O qN O O (fun w' hw=>(zAD b13 (.slice none 0 0) ([]:List UInt8) c w' qS (hw.give [2] O qM) (rd_c.at hw [2] O)).mono ?_)
  rintro _ w1 ⟨sl'1_,rfl,hO⟩
  refine O3 ?_ (hw.qg [2] O hO)
  refine zA (zB (zD O (za O O (zJ (o:=0) O O ?_))))
  refine z2 [Res.row b2 193 [.func (.func 147) #[] #[], .func (.func 151) #[] #[], .func (.func 153) #[] #[]],Res.row b3 35 (ConfD.cells c),Res.row b13 xI [sl'1_],Res.vec 5 1 sl'1_ (([]:List UInt8)++c.enc).length ((([]:List UInt8)++c.enc).map vb)] (fun w' hw=>hw.splitBv (i:=2) (o:=b13) (T:=xI) (v:=sl'1_) (bs:=(([]:List UInt8)++c.enc)) O) ?_
  refine zL 2 (v:=sl'1_) O O O O (zI O (zI O (zA ?_)))
  exact zV (x1 (v:=sl'1_) (v':=Vi 0) O O O (fun w' hw=>⟨sl'1_,(by rw[jM (Decidable.not_not.1 c1)]),by rw[if_pos (Decidable.not_not.1 c1)];exact hw.one 3 rfl⟩))
theorem zEB(c:ConfD)(w:World)(hf:c.few)(rd_c:ConfD.rd c w []):Rets Tryz.prog 91 #[.agg (ConfD.cells c).toArray] w fun u_ w'=>∃ (r:Value),u_= .tuple #[r,Vi (yB c.ok)]∧Own w [] [Res.vec 5 1 r (if c.ok then c.enc else []).length ((if c.ok then c.enc else []).map vb)] w':=by
  refine zW Tryz.func91 O Tryz.ntmps91 (Own.start w) ?_
  refine zB (z3 O O (fun b1=>zI O (zI O (zA (zN (zg [0] O qM qN (fun w' hw hS=>zC 1 O (x8 (cs:=(ConfD.cells c)) 0 O O) hS (zK 0 O hw (a_call O O (fun w' hw=>(zCf w').mono ?_))))))))))
  rintro _ w1 ⟨rfl,hO⟩
  refine O1 ?_ (hw.qi hO)
  refine zE [0] O qM (fun w' hw hS=>zK 2 O hw (a_call O O (fun w' hw=>(zGG c w' ‹_› (rd_c.at0 hw)).mono ?_)))
  rintro _ w1 ⟨r1_,rfl,hO⟩
  refine O2 ?_ (hw.qi hO)
  refine zE [0] O qM (fun w' hw hS=>zC 3 O (yT (vs:=[r1_,Vi (yB c.ok)]) O O) hS (zC 4 O (yT (vs:=[r1_,Vi (yB c.ok)]) O O) hS (zC 5 O yO hS (zC 6 O yO hS (zU ?_)))))
  refine Oc2 ?_ hw
  exact zV (x1 (v:=r1_) (v':=Vi (yB c.ok)) O O O (fun w' hw=>⟨r1_,O,hw.sel [1] O qM⟩))
theorem zBY(c:ConfD)(w:World)(hf:c.few)(rd_c:ConfD.rd c w []):Rets Tryz.prog 71 #[.agg (ConfD.cells c).toArray] w fun u_ w'=>u_=Vi (yB c.ok)∧Own w [] [] w':=by
  refine zW Tryz.func71 O Tryz.ntmps71 (Own.start w) ?_
  refine zB (z3 O O (fun b1=>zI O (zA (zB (yI (cs:=(ConfD.cells c)) 0 O O O (a_call O O (fun w' hw=>(zEB c w' ‹_› (rd_c.at0 hw)).mono ?_)))))))
  rintro _ w1 ⟨r1_,rfl,hO⟩
  refine O2 ?_ (hw.qi hO)
  refine zD O (z8 (vs:=[r1_,Vi (yB c.ok)]) O O O (z8 (vs:=[r1_,Vi (yB c.ok)]) O O O (zI O (zI O (zA (zB (zD O (zI O (zA ?_)))))))))
  exact zV (z6 (v:=Vi (yB c.ok)) O O (fun w' hw=>⟨O,hw.drop⟩))
theorem kY(v:Value)(l:List Int)(n:Int)(w:World)(hl:zf l.length)(hv:Rd w [] (Res.sl v l.length (l.flatMap I1))):Rets Tryz.prog 72 #[v,Vi n] w fun u_ w'=>u_= .bool (decide (n∈l))∧Own w [] [] w':=by
  exact zAn v l n w hl hv
theorem zBo(c:ConfD)(id:Int)(w:World)(hf:c.few)(rd_c:ConfD.rd c w []):Rets Tryz.prog 35 #[.agg (ConfD.cells c).toArray,Vi id] w fun u_ w'=>u_= .bool (decide (c.ok∧id∈c.vs))∧Own w [] [] w':=by
  have hc:=hf.wf
  have hv:=hc.vs
  have hl:=hc.ls
  refine zW Tryz.func35 O Tryz.ntmps35 (Own.start w) ?_
  refine zB (z3 O O (fun b2=>zI O (zA (zB (yI (cs:=(ConfD.cells c)) 0 O O O (a_call O O (fun w' hw=>(zBY c w' ‹_› (rd_c.at0 hw)).mono ?_)))))))
  rintro _ w1 ⟨rfl,hO⟩
  refine O1 ?_ (hw.qi hO)
  refine yQ O O O (zD O (yK (q:=(yB c.ok)=0) 4 3 [12,11,10,9] (id∈c.vs) O O O O O O trivial O (fun h1_3=> ?_) (fun g1_8=> ?_)))
  ·refine zR O (gT h1_3) (zJ (o:=0) O O (zR O (gT h1_3) (zL 0 (v:=c.vv) O O O O (zR O (gT h1_3) (zD O (zR O (gT h1_3) (a_call O O (fun w' hw=>(kY c.vv c.vs id w' ‹_› (hw.rd0 rd_c.vv)).mono ?_))))))))
   rintro _ w1 ⟨rfl,hO⟩
   refine O1 ?_ (hw.qi hO)
   exact yP O (fun _ hw=>hw)
  refine zI O (zA ?_)
  exact zV (z6 (v:= .bool (decide (((yB c.ok)=0)∧(id∈c.vs)))) O O (fun w' hw=>⟨(by congr 1;exact decide_eq_decide.2 (by rw[errOf_zero])),hw.drop⟩))
theorem zBr(c:ConfD)(id:Int)(w:World)(hf:c.few)(rd_c:ConfD.rd c w []):Rets Tryz.prog 94 #[.agg (ConfD.cells c).toArray,Vi id] w fun u_ w'=>u_= .bool (decide (c.ok∧(id∈c.vs∨id∈c.ls)))∧Own w [] [] w':=by
  have hc:=hf.wf
  have hv:=hc.vs
  have hl:=hc.ls
  refine zW Tryz.func94 O Tryz.ntmps94 (Own.start w) ?_
  refine zB (z3 O O (fun b2=>zI O (zA (zB (yI (cs:=(ConfD.cells c)) 0 O O O (zD O (a_call O O (fun w' hw=>(zBo c id w' ‹_› (rd_c.at0 hw)).mono ?_))))))))
  rintro _ w1 ⟨rfl,hO⟩
  refine O1 ?_ (hw.qi hO)
  refine zD O (yn (q:=c.ok∧id∈c.vs) 9 3 [17,16,15,14,13,12,11,10,9] (((yB c.ok)=0)∧(id∈c.ls)) O O O O O O trivial O (fun h1_3=> ?_) (fun g1_13=> ?_))
  ·refine zR O (gF h1_3) (yI (cs:=(ConfD.cells c)) 0 O O O (zR O (gF h1_3) (a_call O O (fun w' hw=>(zBY c w' ‹_› (rd_c.at0 hw)).mono ?_))))
   rintro _ w1 ⟨rfl,hO⟩
   refine O1 ?_ (hw.qi hO)
   refine zR O (gF h1_3) (yQ O O O (zR O (gF h1_3) (zD O (yK (q:=(yB c.ok)=0) 4 7 [16,15,14,13] (id∈c.ls) O O O O O O ⟨_,O,O,gF h1_3⟩ O (fun h1_7=> ?_) (fun g1_12=> ?_)))))
   ·refine zR O (gT h1_7) (zJ (o:=1) O O (zR O (gT h1_7) (zL 0 (v:=c.lv) O O O O (zR O (gT h1_7) (zD O (zR O (gT h1_7) (a_call O O (fun w' hw=>(kY c.lv c.ls id w' ‹_› (hw.rd0 rd_c.lv)).mono ?_))))))))
    rintro _ w1 ⟨rfl,hO⟩
    refine O1 ?_ (hw.qi hO)
    exact yP O (fun _ hw=>hw)
   exact yP O (fun _ hw=>hw)
  refine zI O (zA ?_)
  exact zV (z6 (v:= .bool (decide ((c.ok∧id∈c.vs)∨(((yB c.ok)=0)∧(id∈c.ls))))) O O (fun w' hw=>⟨(by congr 1;exact decide_eq_decide.2 (by rw[errOf_zero];exact⟨fun h=>h.elim (fun h=>⟨h.1, .inl h.2⟩) fun h=>⟨h.1, .inr h.2⟩,fun h=>h.2.elim (fun q=> .inl ⟨h.1,q⟩) fun q=> .inr ⟨h.1,q⟩⟩)),hw.drop⟩))
def cnt(vs ids:List Int):Nat:=(vs.filter (· ∈ids)).length
theorem zPS(vs ids:List Int):cnt vs ids≤vs.length:=List.length_filter_le _ _
theorem zFm(vs ids:List Int)(x:Int):cnt (vs++[x]) ids=cnt vs ids+if x∈ids then 1 else 0:=by
  unfold cnt
  rw[List.filter_append,List.length_append]
  by_cases h:x∈ids<;>simp[List.filter_cons,h]
def ConfD.qv(c:ConfD)(ids:List Int):Prop:=c.ok∧c.vs.length<2*cnt c.vs ids
instance (c:ConfD)(ids:List Int):Decidable (c.qv ids):=inferInstanceAs (Decidable (_∧_))
theorem y6(c:ConfD)(v:Value)(ids:List Int)(w:World)(hf:c.few)(hids:zf ids.length)(hi:Rd w [] (Res.sl v ids.length (ids.flatMap I1)))(rd_c:ConfD.rd c w []):Rets Tryz.prog 69 #[.agg (ConfD.cells c).toArray,v] w fun u_ w'=>u_= .bool (decide (c.qv ids))∧Own w [] [] w':=by
  have hc:=hf.wf
  have hv:=hf.vs
  have hl:=hc.ls
  refine zW Tryz.func69 O Tryz.ntmps69 (Own.start w) ?_
  refine zB (z3 O O (fun b2=>zI O (zA (zB (zI O (zA (zN (zB (zJ (o:=0) O O (zL 0 (v:=c.vv) O O O O (zo (pR rd_c.vv) O O (zD O ?_))))))))))))
  refine zA (zX ?_)
  refine xN (fun(k:Nat)=>[(1,v),(2, .pointer (some ⟨b2,0,none⟩)),(5,Vj (cnt (c.vs.take k) ids)),(9,c.vv),(10,Vj c.vs.length),(11,Vj k)]) (fun(k:Nat)=>k≤c.vs.length) (fun(k:Nat)=>[Res.row b2 35 (ConfD.cells c)]) (fun(k:Nat)=>c.vs.length - k) (fun w' hw=>⟨0,⟨O,O,O,O,O,O,trivial⟩,Nat.zero_le _,hw⟩) (fun k g hΦ=> ?_)
  have hcl:=zPS (c.vs.take k) ids
  have hkl:(c.vs.take k).length≤k:=by simp;omega
  have htk:=hΦ
  refine zB (yG O O O (zA (zN (zY O (fun c1=> ?_) (fun c1=> ?_)))))
  ·refine zO (zN (zX (zB (zi (pR rd_c.vv) 1 k O O O V O (yF (pR rd_c.vv) 1 k 0 (fun _=>O) O O V O O (zI O (zA (zB (zD O (zD O (a_call O O (fun w' hw=>(kY v ids (zG c.vs k) w' ‹_› (hw.rd0 hi)).mono ?_))))))))))))
   rintro _ w1 ⟨rfl,hO⟩
   refine O1 ?_ (hw.qi hO)
   refine zA (zY O (fun c2=> ?_) (fun c2=> ?_))
   ·have e2:cnt (c.vs.take (k+1)) ids=cnt (c.vs.take k) ids+1:=by have:=zFm (c.vs.take k) ids (zG c.vs k);rw[if_pos c2]at this;rw[zt V];exact this
    refine zS (zD O (zp O O (zq V) O (zI O (zA (zS (zp O O (zq V) O (zD O ?_)))))))
    exact zd (fun w' hw=>⟨k+1,⟨O,O,by rw[e2];rfl,O,O,O,trivial⟩,V,hw,V⟩)
   have e2:cnt (c.vs.take (k+1)) ids=cnt (c.vs.take k) ids:=by have:=zFm (c.vs.take k) ids (zG c.vs k);rw[if_neg c2]at this;rw[zt V];exact this
   refine zO (zS (zp O O (zq V) O (zD O ?_)))
   exact zd (fun w' hw=>⟨k+1,⟨O,O,by rw[e2];rfl,O,O,O,trivial⟩,V,hw,V⟩)
  refine yA O (zB (yI (cs:=(ConfD.cells c)) 0 O O O (a_call O O (fun w' hw=>(zBY c w' ‹_› (rd_c.at0 hw)).mono ?_))))
  rintro _ w1 ⟨rfl,hO⟩
  refine O1 ?_ (hw.qi hO)
  refine yQ O O O (zD O (yK (q:=(yB c.ok)=0) 6 3 [30,29,28,27,26,25] (((c.vs.length:Nat):Int)<((2*(cnt (c.vs.take k) ids):Nat):Int)) O O O O O O trivial O (fun h8_3=> ?_) (fun g8_10=> ?_)))
  ·refine zR O (gT h8_3) (zD O (zR O (gT h8_3) (zLu O O (zq V) O (zR O (gT h8_3) (zJ (o:=0) O O (zR O (gT h8_3) (zL 0 (v:=c.vv) O O O O (zR O (gT h8_3) (zo (pR rd_c.vv) O O (zR O (gT h8_3) (y0 O O O ?_)))))))))))
   exact yP O (fun _ hw=>hw)
  refine zI O (zA ?_)
  exact zV (z6 (v:= .bool (decide (((yB c.ok)=0)∧(((c.vs.length:Nat):Int)<((2*(cnt (c.vs.take k) ids):Nat):Int))))) O O (fun w' hw=>⟨(by congr 1;exact decide_eq_decide.2 (by unfold ConfD.qv;rw[errOf_zero,List.take_of_length_le V];rw[List.take_of_length_le V]at hcl;exact and_congr_right fun _=>by omega)),hw.drop⟩))
end Go.Proofs.YtkkeknmkipkbmaaGreat