import Derived.Test.YtkkeknmkipkbmaaGreatEnc
set_option linter.unusedSectionVars false
set_option linter.unusedSimpArgs false
set_option linter.unusedVariables false
set_option maxRecDepth 10000
namespace Go.Proofs.YtkkeknmkipkbmaaGreat
open Go Go.Sc Go.Proofs
theorem _root_.Go.Sc.wi{p:Prop}(h:p:=by simp[Value.cells,EntD.cells]):p:=h
theorem zIf(v:Value)(l:List EntD)(w:World)(hl:l.length≤10000000)(hd:∀ x∈l,x.data.length≤1000000000)(hv:Rd w [] (Res.sl v l.length (l.flatMap EntD.cells)))(all_hv:∀ p∈l,EntD.rd p w []):Rets Tryz.prog 58 #[v] w fun u_ w'=>∃ (r:Value) (es:List EntD),u_=r∧es.map EntD.toEntA=l.map EntD.toEntA∧Own w [] [Res.vec 81 5 r es.length (es.flatMap EntD.cells),Res.star (es.map EntD.dres)] w':=by
  refine zW Tryz.func58 O Tryz.ntmps58 (Own.start w) ?_
  refine zB (zI O (zA (zB (zI O (zA (zN (zB (zI O (zA (zX ?_))))))))))
  refine xi (fun(k:Nat) (lv:Value) (es:List EntD)=>[(0,v),(3,lv),(4,Vj k)]) (fun(k:Nat) (lv:Value) (es:List EntD)=>k≤l.length∧es.map EntD.toEntA=(l.take k).map EntD.toEntA) (fun(k:Nat) (lv:Value) (es:List EntD)=>[Res.vec 81 5 lv es.length (es.flatMap EntD.cells),Res.star (es.map EntD.dres)]) (fun(k:Nat) (lv:Value) (es:List EntD)=>l.length - k) (fun w' hw=>⟨0, .slice none 0 0,[],⟨O,O,O,trivial⟩,⟨Nat.zero_le _,O⟩,(zl hw 81 5).qG⟩) (fun k lv es g hΦ=> ?_)
  have hlen:es.length=min k l.length:=by have:=congrArg List.length hΦ.2;simpa using this
  refine zN (zB (zD O (zD O (zo (pR hv) O O (yG O O O (zA (zY O (fun c1=> ?_) (fun c1=> ?_))))))))
  ·have hnd:=hd _ (ze (l:=l) (j:=k) V)
   refine zO (zN (zX (zB (zD O (zD O (zi (pR hv) 5 k O O O V O (kP (pR hv) 5 k (off:=xE v+k*5) (fun _=>O) O O V O (yE (v:= .agg #[Vn 0,Vn 0,Vi 0,Vi 0, .slice none 0 0]) qN O (fun b5=>zr 2 O O O (zF O (zF O (zF O (zF O (zF (Sl.cell1 (Rd.φ ((all_hv _ (ze V)).dv))) zj))))) O (zA (zB (zy (e:=5) (sz:=1) (vs:=[]) qN O O qR qM O (fun b16=> ?_)))))))))))))
   refine zJ (o:=4) O O (zL 2 (v:=(zG l k).dv) O O O O (zDN (l:=([]:List UInt8)) (l':=(zG l k).data) 3 qN O O O (fun w' hw'=>Own.rd ((all_hv _ (ze V)).dv) hw') qO O (fun v19=>zJ (o:=4) O O ?_)))
   refine zP (fun w' hw=>Own.qh (i:=3) O hw) (fun hc1_=> ?_)
   refine zn (cs:=(EntD.cells (zG l k))) 2 O O O hc1_ O (zA (zS (zD O (yI 2 O O O (zy (e:=81) (sz:=5) (vs:=[.agg #[Vn ((zG l k).index),Vn ((zG l k).term),Vi ((zG l k).kind),Vi ((zG l k).delta),v19]]) qN O O wi qM O (fun b23=>z7 (g:=EntD.cells) (sz:=5) (by':=56) (fun _=>O) (l:=es) (l':=[({(zG l k)with dv:=v19}:EntD)]) (all_cons ((zF O (zF O (zF O (zF O (zF hc1_ zj)))))) qQ) 0 qN O O O (fun w' hw'=>Vec.sl (Own.holds hw' 4 _ O)) qO qM O (fun v24=>zI O (zA (zS (zD O (zp O O (zq V) O (zI O ?_))))))))))))
   exact zd (fun w' hw=>⟨k+1,v24,es++[({(zG l k)with dv:=v19}:EntD)],⟨O,O,O,trivial⟩,⟨by omega,by rw[List.map_append,zt V,List.map_append,hΦ.2];rfl⟩,((hw.qJ (x:=({(zG l k)with dv:=v19}:EntD)) 1 3 qM O O).sel [0,1] O qM),V⟩)
  refine yA O (zB (zD O (zI O (zA ?_))))
  exact zV (z6 (v:=lv) O O (fun w' hw=>⟨lv,es,O,by rw[hΦ.2,List.take_of_length_le V],hw⟩))
structure ShtA where
  index:Nat
  term:Nat
  conf:ConfA
  data:List UInt8
  deriving DecidableEq
structure ShtD where
  index:Nat
  term:Nat
  conf:ConfD
  dv:Value
  data:List UInt8
def ShtD.a(x:ShtD):ShtA:=⟨x.index,x.term,x.conf.a,x.data⟩
structure ShtD.wf(x:ShtD):Prop where
  index:x.index<18446744073709551616
  term:x.term<18446744073709551616
  conf:x.conf.few
  data:x.data.length≤1000000000
def ShtD.cells(x:ShtD):List Value:=[.int .u64 x.index, .int .u64 x.term]++(x.conf.cells++[x.dv])
structure ShtD.rd(x:ShtD)(w:World)(S:List Nat):Prop where
  conf:x.conf.rd w S
  dv:Rd w S (Res.sl x.dv x.data.length (x.data.map vb))
theorem ShtD.rd.at0{x:ShtD}{w0 w:World}{S:List Nat}{L:List Res}(h:x.rd w0 S)(hw:Own w0 S L w):x.rd w []:=⟨h.conf.at0 hw,hw.rd0 h.dv⟩
theorem ShtD.rd.at{x:ShtD}{w0 w:World}{S:List Nat}{L Lin:List Res}(h:x.rd w0 S)(hw:Own w0 S L w)(m:List Nat)(hm:m.mapM (fun i=>L[i]?)=some Lin):x.rd w (y2 Lin):=⟨h.conf.at hw m hm,hw.rdTo h.dv m hm⟩
def ShtA.ok(x:ShtA):Prop:=(((x.conf.ok∧x.data.length≤32768)∧(x.index=0↔x.term=0))∧x.index≤4611686018427387904)∧x.term≤4611686018427387904
instance (x:ShtA):Decidable x.ok:=inferInstanceAs (Decidable ((((_∧_)∧_)∧_)∧_))
def ConfA.enc(c:ConfA):List UInt8:=zCZ c.vs++zCZ c.ls
def ShtA.enc(x:ShtA):List UInt8:=yH [x.index,x.term]++x.conf.enc++dat x.data
theorem ConfD.enc_le{c:ConfD}:c.enc.length≤9*(c.vs.length+c.ls.length+2):=by
  have h1:=zAC c.vs
  have h2:=zAC c.ls
  simp only[ConfD.enc,List.length_append];omega
theorem ShtD.enc_le{x:ShtD}(h:x.wf):x.a.enc.length≤x.data.length+9*(x.conf.vs.length+x.conf.ls.length+2)+40:=by
  have h1:=yL (ns:=[x.index,x.term]) (by have:=h.index;have:=h.term;simp[*])
  have h2:=jt x.data (by have:=h.data;omega)
  have h3:x.a.conf.enc.length≤_:=x.conf.enc_le
  have e:x.a.enc.length=(yH [x.index,x.term]).length+x.a.conf.enc.length+(dat x.data).length:=by simp[ShtA.enc,ShtD.a];omega
  simp only[List.length_cons,List.length_nil]at h1
  omega
def confsC:List Value:=[.func (.func 147) #[] #[], .func (.func 151) #[] #[], .func (.func 153) #[] #[]]
theorem zGg(x:ShtD)(cb:Nat)(w:World)(hx:x.wf)(hcb:Rd w [] (Res.row cb 193 [.func (.func 147) #[] #[], .func (.func 151) #[] #[], .func (.func 153) #[] #[]]))(rd_x:ShtD.rd x w []):Rets Tryz.prog 108 #[.agg (ShtD.cells x).toArray, .pointer (some ⟨cb,0,none⟩)] w fun u_ w'=>u_= .bool (decide x.a.ok)∧Own w [] [] w':=by
  have hd:=hx.data
  have hf:=hx.conf
  have hc:=hx.conf.wf
  refine zW Tryz.func108 O Tryz.ntmps108 (Own.start w) ?_
  refine zB (z3 O O (fun b2=>zI O (zA (zB (zJ (o:=0) O O (kL (v:= .func (.func 147) #[] #[]) O (hcb.φ.cell O) (hcb.far _ qW) qN O (zJ (o:=2) O O (zAJ 0 (ConfD.cells x.conf) O O (kF 2 O) qN O (yW (fst:=[]) (cap:=[]) O qN O O (fun w' hw=>(kJ x.conf w' ‹_› (rd_x.conf.at0 hw)).mono ?_))))))))))
  rintro _ w1 ⟨rfl,hO⟩
  refine O1 ?_ (hw.qi hO)
  refine zD O (yK (q:=x.conf.ok) 4 5 [13,12,11,10] (((x.data.length:Nat):Int)≤32768) O O O O O O trivial O (fun h1_5=> ?_) (fun g1_10=> ?_))
  ·refine zR O (gT h1_5) (zJ (o:=4) O O (zR O (gT h1_5) (zL 0 (v:=x.dv) O O O O (zR O (gT h1_5) (zo (pR rd_x.dv) O O (zR O (gT h1_5) (xp O O O ?_)))))))
   exact yP O (fun _ hw=>hw)
  refine zD O (yK (q:=x.conf.ok∧(((x.data.length:Nat):Int)≤32768)) 7 11 [22,21,20,19,18,17,16] ((((x.index:Nat):Int)=((0:Nat):Int))↔(((x.term:Nat):Int)=((0:Nat):Int))) O O O O O O trivial O (fun h1_11=> ?_) (fun g1_19=> ?_))
  ·refine zR O (gT h1_11) (zJ (o:=0) O O (zR O (gT h1_11) (zL 0 (v:=Vn x.index) O O O O (zR O (gT h1_11) (yQ O O O (zR O (gT h1_11) (zJ (o:=1) O O (zR O (gT h1_11) (zL 0 (v:=Vn x.term) O O O O (zR O (gT h1_11) (yQ O O O (zR O (gT h1_11) ?_))))))))))))
   refine zPc qN O O O ?_
   exact yP O (fun _ hw=>hw)
  refine zD O (yK (q:=(x.conf.ok∧(((x.data.length:Nat):Int)≤32768))∧((((x.index:Nat):Int)=((0:Nat):Int))↔(((x.term:Nat):Int)=((0:Nat):Int)))) 6 20 [30,29,28,27,26,25] (((max x.index x.term:Nat):Int)≤((4611686018427387904:Nat):Int)) O O O O O O trivial O (fun h1_20=> ?_) (fun g1_27=> ?_))
  ·refine zR O (gT h1_20) (zJ (o:=0) O O (zR O (gT h1_20) (zL 0 (v:=Vn x.index) O O O O (zR O (gT h1_20) (zJ (o:=1) O O (zR O (gT h1_20) (zL 0 (v:=Vn x.term) O O O O (zR O (gT h1_20) (zDs (c:=((max x.index x.term:Nat):Int)) O O (zEs _ _) O (zR O (gT h1_20) (xp O O O ?_)))))))))))
   exact yP O (fun _ hw=>hw)
  refine zI O (zA ?_)
  exact zV (z6 (v:= .bool (decide (((x.conf.ok∧(((x.data.length:Nat):Int)≤32768))∧((((x.index:Nat):Int)=((0:Nat):Int))↔(((x.term:Nat):Int)=((0:Nat):Int))))∧(((max x.index x.term:Nat):Int)≤((4611686018427387904:Nat):Int))))) O O (fun w' hw=>⟨(by congr 1;exact decide_eq_decide.2 (by unfold ShtA.ok ShtD.a;dsimp only;exact⟨fun h=>⟨⟨⟨⟨h.1.1.1,by have:=h.1.1.2;omega⟩,by have:=h.1.2;omega⟩,by have:=h.2;omega⟩,by have:=h.2;omega⟩,fun h=>⟨⟨⟨h.1.1.1.1,by have:=h.1.1.1.2;omega⟩,by have:=h.1.1.2;omega⟩,by have:=h.1.2;have:=h.2;omega⟩⟩)),hw.drop⟩))
theorem zG2{S:List Nat}(o:Nat)(sl:Value)(bs:List UInt8)(x:ShtD)(cb:Nat)(w:World)(hx:x.wf)(hb:bs.length+x.a.enc.length≤50000000000)(hin:Own w S [Res.bv o xI sl bs] w)(hcb:Rd w S (Res.row cb 193 [.func (.func 147) #[] #[], .func (.func 151) #[] #[], .func (.func 153) #[] #[]]))(rd_x:ShtD.rd x w S):Rets Tryz.prog 109 #[.pointer (some ⟨o,0,none⟩), .agg (ShtD.cells x).toArray, .pointer (some ⟨cb,0,none⟩)] w fun u_ w'=>∃ (sl':Value),u_= .tuple #[]∧Own w S [Res.bv o xI sl' (bs++x.a.enc)] w':=by
  have hd:=hx.data
  have h1:=hx.index
  have h2:=hx.term
  have hv:=hx.conf.vs
  have hl:=hx.conf.ls
  have hce:=x.conf.enc_le
  have he:x.a.enc.length=(yH [x.index,x.term]).length+x.conf.enc.length+(dat x.data).length:=by simp[ShtA.enc,ShtD.a,ConfD.enc,ConfA.enc,ConfD.a];omega
  refine zW Tryz.func109 O Tryz.ntmps109 hin ?_
  refine zB (z3 O O (fun b4=>zA (zB (zD O (zJ (o:=0) O O (zL 1 (v:=Vn x.index) O O O O (zJ (o:=1) O O (zL 1 (v:=Vn x.term) O O O O (zy (e:=22) (sz:=1) (vs:=[Vn x.index,Vn x.term]) qN O O qR qM O (fun b10=>a_call O O (fun w' hw=>(zAt o _ _ (.slice (some ⟨b10,0,none⟩) 2 2) [x.index,x.term] w' wg qS (hw.give [0] O qM) (hw.rdVec 2 O [0] O O)).mono ?_)))))))))))
  rintro _ w1 ⟨sl'1_,rfl,hO⟩
  refine O3 ?_ (hw.qg [0] O hO)
  refine zA (zB (zJ (o:=1) O O (kL (v:= .func (.func 151) #[] #[]) O (hcb.φ.cell O) (hcb.far _ qW) qN O (zD O (zJ (o:=2) O O (zAJ 0 (ConfD.cells x.conf) O O (kF 2 O) qN O (yW (fst:=[]) (cap:=[]) O qN O O (fun w' hw=>(zAD o sl'1_ (bs++yH [x.index,x.term]) x.conf w' qS (hw.give [2] O qM) (rd_x.conf.at hw [2] O)).mono ?_))))))))
  rintro _ w1 ⟨sl'2_,rfl,hO⟩
  refine O3 ?_ (hw.qg [2] O hO)
  refine zA (zS (zD O (zJ (o:=4) O O (zL 0 (v:=x.dv) O O O O (zFC (e:=36) (vs:=[x.dv]) qN O O (zF (Sl.cell1 (Rd.φ rd_x.dv)) zj) qM O (fun b21=>a_call O O (fun w' hw=>(zHc o sl'2_ ((bs++yH [x.index,x.term])++x.conf.enc) (.slice (some ⟨b21,0,none⟩) 1 1) [(x.dv,x.data)] w' (by simp[x5];omega) (by show 1≤_;omega) (hw.give [2] O qM) (hw.rdVec 3 O [2] O O) (all_cons (hw.rdTo rd_x.dv [2] O) (fun p hp=>by cases hp))).mono ?_)))))))
  rintro _ w1 ⟨sl'3_,rfl,hO⟩
  refine O4 ?_ (hw.qg [2] O hO)
  exact zd (yJ O (fun w' hw=>⟨sl'3_,O,by have h:=hw.one 3 rfl;simpa [ShtA.enc,ShtD.a,ConfD.enc,ConfA.enc,ConfD.a,x5]using h⟩))
theorem zNp(w:World):Rets Tryz.prog 62 #[] w fun u_ w'=>∃ (cb:Nat),u_= .agg #[.func (.func 108) #[] #[.pointer (some ⟨cb,0,none⟩)], .func (.func 109) #[] #[.pointer (some ⟨cb,0,none⟩)], .func (.func 111) #[] #[.pointer (some ⟨cb,0,none⟩)]]∧Own w [] [Res.row cb 193 [.func (.func 147) #[] #[], .func (.func 151) #[] #[], .func (.func 153) #[] #[]]] w':=by
  refine zW Tryz.func62 O Tryz.ntmps62 (Own.start w) ?_
  refine zB (yE (v:= .agg #[.nilFunc, .nilFunc, .nilFunc]) qN O (fun b0=>zA (zB (a_call O O (fun w' hw=>(zCf w').mono ?_)))))
  rintro _ w1 ⟨rfl,hO⟩
  refine O1 ?_ (hw.qi hO)
  refine yE (v:= .agg #[.nilFunc, .nilFunc, .nilFunc]) qN O (fun b1=>zr 1 O O O (xQ O) O (zA (zB (zB9 (va:=[]) (vb:=[.pointer (some ⟨b1,0,none⟩)]) O O O (zB9 (va:=[]) (vb:=[.pointer (some ⟨b1,0,none⟩)]) O O O (zB9 (va:=[]) (vb:=[.pointer (some ⟨b1,0,none⟩)]) O O O (ye (cs:=[.func (.func 108) #[] #[.pointer (some ⟨b1,0,none⟩)], .func (.func 109) #[] #[.pointer (some ⟨b1,0,none⟩)], .func (.func 111) #[] #[.pointer (some ⟨b1,0,none⟩)]]) (z:=[.nilFunc, .nilFunc, .nilFunc]) (pl:=[(0,1),(1,1),(2,1)]) qN qN O (zr 0 O O O (xQ O) O (zA ?_)))))))))
  exact zV (jj (cs:=[.func (.func 108) #[] #[.pointer (some ⟨b1,0,none⟩)], .func (.func 109) #[] #[.pointer (some ⟨b1,0,none⟩)], .func (.func 111) #[] #[.pointer (some ⟨b1,0,none⟩)]]) O O qN (Own.qt (i:=0) O) (fun w' hw=>⟨b1,O,hw.sel [1] O qM⟩))
theorem zG4(x:ShtD)(cb:Nat)(w:World)(hx:x.wf)(hcb:Rd w [] (Res.row cb 193 [.func (.func 147) #[] #[], .func (.func 151) #[] #[], .func (.func 153) #[] #[]]))(rd_x:ShtD.rd x w []):Rets Tryz.prog 63 #[.agg #[.func (.func 108) #[] #[.pointer (some ⟨cb,0,none⟩)], .func (.func 109) #[] #[.pointer (some ⟨cb,0,none⟩)], .func (.func 111) #[] #[.pointer (some ⟨cb,0,none⟩)]], .agg (ShtD.cells x).toArray] w fun u_ w'=>∃ (r:Value),u_= .tuple #[r,Vi (yB x.a.ok)]∧Own w [] [Res.vec 5 1 r (if x.a.ok then x.a.enc else []).length ((if x.a.ok then x.a.enc else []).map vb)] w':=by
  have hd:=hx.data
  have hle:=ShtD.enc_le hx
  have hv:=hx.conf.vs
  have hl:=hx.conf.ls
  refine zW Tryz.func63 O Tryz.ntmps63 (Own.start w) ?_
  refine zB (z3 O O (fun b2=>z3 O O (fun b3=>zI O (zI O (zA (zN (zB (zJ (o:=0) O O (zL 0 (v:= .func (.func 108) #[] #[.pointer (some ⟨cb,0,none⟩)]) O O O O (yI (cs:=(ShtD.cells x)) 1 O O O (yW (fst:=[]) (cap:=[.pointer (some ⟨cb,0,none⟩)]) O qN O O (fun w' hw=>(zGg x cb w' ‹_› (hw.rd0 hcb) (rd_x.at0 hw)).mono ?_))))))))))))
  rintro _ w1 ⟨rfl,hO⟩
  refine O2 ?_ (hw.qi hO)
  refine y7 (q:=x.a.ok) O O (zA (zY O (fun c1=> ?_) (fun c1=> ?_)))
  ·refine zB (zI O (zI O (zA ?_)))
   exact zV (x1 (v:= .slice none 0 0) (v':=Vi 2) O O O (fun w' hw=>⟨.slice none 0 0,(by rw[ju c1]),by rw[if_neg c1];exact(zl hw T8 1).one 2 rfl⟩))
  refine zO (zB (ye (cs:=[.slice none 0 0]) (z:=[.slice none 0 0]) (pl:=[(0,1)]) qN qN O (z3 O O (fun b13=>zI O (zA (zB (zJ (o:=1) O O (zL 0 (v:= .func (.func 109) #[] #[.pointer (some ⟨cb,0,none⟩)]) O O O O (zD O (yI (cs:=(ShtD.cells x)) 1 O O O ?_))))))))))
  refine z2 [Res.row b2 139 [.func (.func 108) #[] #[.pointer (some ⟨cb,0,none⟩)], .func (.func 109) #[] #[.pointer (some ⟨cb,0,none⟩)], .func (.func 111) #[] #[.pointer (some ⟨cb,0,none⟩)]],Res.row b3 38 (ShtD.cells x),Res.bv b13 xI (.slice none 0 0) ([]:List UInt8)] (fun w' hw=>(zl hw T8 1).joinBv (i:=2) (j:=3) qM O O) ?_
  refine yW (fst:=[]) (cap:=[.pointer (some ⟨cb,0,none⟩)]) O qN O O (fun w' hw=>(zG2 b13 (.slice none 0 0) ([]:List UInt8) x cb w' ‹_› qS (hw.give [2] O qM) (hw.rdTo hcb [2] O) (rd_x.at hw [2] O)).mono ?_)
  rintro _ w1 ⟨sl'1_,rfl,hO⟩
  refine O3 ?_ (hw.qg [2] O hO)
  refine zA (zB (zD O (za O O (zJ (o:=0) O O ?_))))
  refine z2 [Res.row b2 139 [.func (.func 108) #[] #[.pointer (some ⟨cb,0,none⟩)], .func (.func 109) #[] #[.pointer (some ⟨cb,0,none⟩)], .func (.func 111) #[] #[.pointer (some ⟨cb,0,none⟩)]],Res.row b3 38 (ShtD.cells x),Res.row b13 xI [sl'1_],Res.vec 5 1 sl'1_ (([]:List UInt8)++x.a.enc).length ((([]:List UInt8)++x.a.enc).map vb)] (fun w' hw=>hw.splitBv (i:=2) (o:=b13) (T:=xI) (v:=sl'1_) (bs:=(([]:List UInt8)++x.a.enc)) O) ?_
  refine zL 2 (v:=sl'1_) O O O O (zI O (zI O (zA ?_)))
  exact zV (x1 (v:=sl'1_) (v':=Vi 0) O O O (fun w' hw=>⟨sl'1_,(by rw[jM (Decidable.not_not.1 c1)]),by rw[if_pos (Decidable.not_not.1 c1)];exact hw.one 3 rfl⟩))
theorem zJN(x:ShtD)(w:World)(hx:x.wf)(rd_x:ShtD.rd x w []):Rets Tryz.prog 26 #[.agg (ShtD.cells x).toArray] w fun u_ w'=>∃ (r:Value),u_= .tuple #[r,Vi (yB x.a.ok)]∧Own w [] [Res.vec 5 1 r (if x.a.ok then x.a.enc else []).length ((if x.a.ok then x.a.enc else []).map vb)] w':=by
  refine zW Tryz.func26 O Tryz.ntmps26 (Own.start w) ?_
  refine zB (z3 O O (fun b1=>zI O (zI O (zA (zN (zg [0] O qM qN (fun w' hw hS=>zC 1 O (x8 (cs:=(ShtD.cells x)) 0 O O) hS (zK 0 O hw (a_call O O (fun w' hw=>(zNp w').mono ?_))))))))))
  rintro _ w1 ⟨cb1_,rfl,hO⟩
  refine O2 ?_ (hw.qi hO)
  refine zE [0] O qM (fun w' hw hS=>zK 2 O hw (a_call O O (fun w' hw=>(zG4 x cb1_ w' ‹_› (hw.rdRes0 1 O) (rd_x.at0 hw)).mono ?_)))
  rintro _ w1 ⟨r2_,rfl,hO⟩
  refine O3 ?_ (hw.qi hO)
  refine zE [0] O qM (fun w' hw hS=>zC 3 O (yT (vs:=[r2_,Vi (yB x.a.ok)]) O O) hS (zC 4 O (yT (vs:=[r2_,Vi (yB x.a.ok)]) O O) hS (zC 5 O yO hS (zC 6 O yO hS (zU ?_)))))
  refine Oc3 ?_ hw
  exact zV (x1 (v:=r2_) (v':=Vi (yB x.a.ok)) O O O (fun w' hw=>⟨r2_,O,hw.sel [2] O qM⟩))
theorem zI4(x:ShtD)(w:World)(hx:x.wf)(rd_x:ShtD.rd x w []):Rets Tryz.prog 50 #[.agg (ShtD.cells x).toArray] w fun u_ w'=>∃ (a:Value) (b:Value) (c:Value),u_= .agg #[Vn x.index,Vn x.term,a,b,c]∧Own w [] [Res.vec 3 1 a x.conf.vs.length (x.conf.vs.flatMap I1),Res.vec 3 1 b x.conf.ls.length (x.conf.ls.flatMap I1),Res.vec 5 1 c x.data.length (x.data.map vb)] w':=by
  have hd:=hx.data
  have hc:=hx.conf.wf
  refine zW Tryz.func50 O Tryz.ntmps50 (Own.start w) ?_
  refine zB (z3 O O (fun b1=>yE (v:= .agg #[Vn 0,Vn 0, .slice none 0 0, .slice none 0 0, .slice none 0 0]) qN O (fun b2=>zA (zB (zJ (o:=2) O O (zAJ 0 (ConfD.cells x.conf) O O (kF 2 O) qN O (a_call O O (fun w' hw=>(zEP x.conf w' ‹_› (rd_x.conf.at0 hw)).mono ?_))))))))
  rintro _ w1 ⟨a1_,b2_,rfl,hO⟩
  refine O4 ?_ (hw.qi hO)
  refine zJ (o:=2) O O ?_
  refine zP (fun w' hw=>Own.qh (i:=2) O hw) (fun hc1_=> ?_)
  refine zP (fun w' hw=>Own.qh (i:=3) O hw) (fun hc2_=> ?_)
  refine zr 0 O O O (zF hc1_ (zF hc2_ zj)) O (zA (zB (zy (e:=5) (sz:=1) (vs:=[]) qN O O qR qM O (fun b7=>zJ (o:=4) O O (zL 0 (v:=x.dv) O O O O (zDN (l:=([]:List UInt8)) (l':=x.data) 4 qN O O O (fun w' hw'=>Own.rd rd_x.dv hw') qO O (fun v10=>zJ (o:=4) O O ?_)))))))
  refine zP (fun w' hw=>Own.qh (i:=4) O hw) (fun hc3_=> ?_)
  refine zn (cs:=[Vn x.index,Vn x.term,a1_,b2_,x.dv]) 0 O O O hc3_ O (zA (zB (yI (cs:=[Vn x.index,Vn x.term,a1_,b2_,v10]) 0 O O O (zr 1 O O O (zF O (zF O (zF hc1_ (zF hc2_ (zF hc3_ zj))))) O (zA ?_)))))
  exact zV (jj (cs:=[Vn x.index,Vn x.term,a1_,b2_,v10]) O O qN (Own.qt (i:=1) O) (fun w' hw=>⟨a1_,b2_,v10,O,hw.sel [2,3,4] O qM⟩))
structure HrdD where
  term:Nat
  qD:Int
  deriving DecidableEq
def HrdD.cells(x:HrdD):List Value:=[.int .u64 x.term, .int .i64 x.qD]
def HrdD.ok(x:HrdD):Prop:=0≤x.qD∧x.qD≤16
instance (x:HrdD):Decidable x.ok:=inferInstanceAs (Decidable (_∧_))
def HrdD.enc(x:HrdD):List UInt8:=yH [x.term,u64 x.qD]
theorem zHR(x:HrdD)(w:World):Rets Tryz.prog 101 #[.agg (HrdD.cells x).toArray] w fun u_ w'=>u_= .bool (decide x.ok)∧Own w [] [] w':=by
  refine zW Tryz.func101 O Tryz.ntmps101 (Own.start w) ?_
  refine zB (z3 O O (fun b1=>zI O (zA (zB (zJ (o:=1) O O (zL 0 (v:=Vi x.qD) O O O O (kM O O O (zD O (yK (q:=0≤x.qD) 3 3 [9,8,7] (x.qD≤16) O O O O O O trivial O (fun h1_3=> ?_) (fun g1_7=> ?_))))))))))
  ·refine zR O (gT h1_3) (zJ (o:=1) O O (zR O (gT h1_3) (zL 0 (v:=Vi x.qD) O O O O (zR O (gT h1_3) (xp O O O ?_)))))
   exact yP O (fun _ hw=>hw)
  refine zI O (zA ?_)
  exact zV (z6 (v:= .bool (decide ((0≤x.qD)∧(x.qD≤16)))) O O (fun w' hw=>⟨O,hw.drop⟩))
theorem zGv{S:List Nat}(o:Nat)(sl:Value)(bs:List UInt8)(x:HrdD)(w:World)(hb:bs.length≤10000000000)(hx:x.term<18446744073709551616)(hin:Own w S [Res.bv o xI sl bs] w):Rets Tryz.prog 102 #[.pointer (some ⟨o,0,none⟩), .agg (HrdD.cells x).toArray] w fun u_ w'=>∃ (sl':Value),u_= .tuple #[]∧Own w S [Res.bv o xI sl' (bs++x.enc)] w':=by
  refine zW Tryz.func102 O Tryz.ntmps102 hin ?_
  refine zB (z3 O O (fun b3=>zA (zS (zD O (zJ (o:=0) O O (zL 1 (v:=Vn x.term) O O O O (zJ (o:=1) O O (zL 1 (v:=Vi x.qD) O O O O (xo qN O (jH _) O ?_ qN)))))))))
  refine zy (e:=22) (sz:=1) (vs:=[Vn x.term,Vn (u64 x.qD)]) qN O O qR qM O (fun b10=>a_call O O (fun w' hw=>(zAt o _ _ (.slice (some ⟨b10,0,none⟩) 2 2) [x.term,u64 x.qD] w' wg qS (hw.give [0] O qM) (hw.rdVec 2 O [0] O O)).mono ?_))
  rintro _ w1 ⟨sl'1_,rfl,hO⟩
  refine O3 ?_ (hw.qg [0] O hO)
  exact zd (yJ O (fun w' hw=>⟨sl'1_,O,hw.sel [2] O qM⟩))
theorem zM9(w:World):Rets Tryz.prog 60 #[] w fun u_ w'=>u_= .agg #[.func (.func 101) #[] #[], .func (.func 102) #[] #[], .func (.func 104) #[] #[]]∧Own w [] [] w':=by
  refine zW Tryz.func60 O Tryz.ntmps60 (Own.start w) ?_
  refine zB (yE (v:= .agg #[.nilFunc, .nilFunc, .nilFunc]) qN O (fun b0=>zA (zB (ye (cs:=[.func (.func 101) #[] #[], .func (.func 102) #[] #[], .func (.func 104) #[] #[]]) (z:=[.nilFunc, .nilFunc, .nilFunc]) (pl:=[(0,1),(1,1),(2,1)]) qN qN O (zr 0 O O O (xQ O) O (zA ?_))))))
  exact zV (jj (cs:=[.func (.func 101) #[] #[], .func (.func 102) #[] #[], .func (.func 104) #[] #[]]) O O qN (Own.qt (i:=0) O) (fun w' hw=>⟨O,hw.drop⟩))
theorem zGd(x:HrdD)(w:World)(hx:x.term<18446744073709551616):Rets Tryz.prog 61 #[.agg #[.func (.func 101) #[] #[], .func (.func 102) #[] #[], .func (.func 104) #[] #[]], .agg (HrdD.cells x).toArray] w fun u_ w'=>∃ (r:Value),u_= .tuple #[r,Vi (yB x.ok)]∧Own w [] [Res.vec 5 1 r (if x.ok then x.enc else []).length ((if x.ok then x.enc else []).map vb)] w':=by
  refine zW Tryz.func61 O Tryz.ntmps61 (Own.start w) ?_
  refine zB (z3 O O (fun b2=>z3 O O (fun b3=>zI O (zI O (zA (zN (zB (zJ (o:=0) O O (zL 0 (v:= .func (.func 101) #[] #[]) O O O O (yI (cs:=(HrdD.cells x)) 1 O O O (yW (fst:=[]) (cap:=[]) O qN O O (fun w' hw=>(zHR x w').mono ?_))))))))))))
  rintro _ w1 ⟨rfl,hO⟩
  refine O2 ?_ (hw.qi hO)
  refine y7 (q:=x.ok) O O (zA (zY O (fun c1=> ?_) (fun c1=> ?_)))
  ·refine zB (zI O (zI O (zA ?_)))
   exact zV (x1 (v:= .slice none 0 0) (v':=Vi 2) O O O (fun w' hw=>⟨.slice none 0 0,(by rw[ju c1]),by rw[if_neg c1];exact(zl hw T8 1).one 2 rfl⟩))
  refine zO (zB (ye (cs:=[.slice none 0 0]) (z:=[.slice none 0 0]) (pl:=[(0,1)]) qN qN O (z3 O O (fun b13=>zI O (zA (zB (zJ (o:=1) O O (zL 0 (v:= .func (.func 102) #[] #[]) O O O O (zD O (yI (cs:=(HrdD.cells x)) 1 O O O ?_))))))))))
  refine z2 [Res.row b2 133 [.func (.func 101) #[] #[], .func (.func 102) #[] #[], .func (.func 104) #[] #[]],Res.row b3 32 (HrdD.cells x),Res.bv b13 xI (.slice none 0 0) ([]:List UInt8)] (fun w' hw=>(zl hw T8 1).joinBv (i:=2) (j:=3) qM O O) ?_
  refine yW (fst:=[]) (cap:=[]) O qN O O (fun w' hw=>(zGv b13 (.slice none 0 0) ([]:List UInt8) x w' qS qO (hw.give [2] O qM)).mono ?_)
  rintro _ w1 ⟨sl'1_,rfl,hO⟩
  refine O3 ?_ (hw.qg [2] O hO)
  refine zA (zB (zD O (za O O (zJ (o:=0) O O ?_))))
  refine z2 [Res.row b2 133 [.func (.func 101) #[] #[], .func (.func 102) #[] #[], .func (.func 104) #[] #[]],Res.row b3 32 (HrdD.cells x),Res.row b13 xI [sl'1_],Res.vec 5 1 sl'1_ (([]:List UInt8)++x.enc).length ((([]:List UInt8)++x.enc).map vb)] (fun w' hw=>hw.splitBv (i:=2) (o:=b13) (T:=xI) (v:=sl'1_) (bs:=(([]:List UInt8)++x.enc)) O) ?_
  refine zL 2 (v:=sl'1_) O O O O (zI O (zI O (zA ?_)))
  exact zV (x1 (v:=sl'1_) (v':=Vi 0) O O O (fun w' hw=>⟨sl'1_,(by rw[jM (Decidable.not_not.1 c1)]),by rw[if_pos (Decidable.not_not.1 c1)];exact hw.one 3 rfl⟩))
theorem zJv(x:HrdD)(w:World)(hx:x.term<18446744073709551616):Rets Tryz.prog 25 #[.agg (HrdD.cells x).toArray] w fun u_ w'=>∃ (r:Value),u_= .tuple #[r,Vi (yB x.ok)]∧Own w [] [Res.vec 5 1 r (if x.ok then x.enc else []).length ((if x.ok then x.enc else []).map vb)] w':=by
  refine zW Tryz.func25 O Tryz.ntmps25 (Own.start w) ?_
  refine zB (z3 O O (fun b1=>zI O (zI O (zA (zN (zg [0] O qM qN (fun w' hw hS=>zC 1 O (x8 (cs:=(HrdD.cells x)) 0 O O) hS (zK 0 O hw (a_call O O (fun w' hw=>(zM9 w').mono ?_))))))))))
  rintro _ w1 ⟨rfl,hO⟩
  refine O1 ?_ (hw.qi hO)
  refine zE [0] O qM (fun w' hw hS=>zK 2 O hw (a_call O O (fun w' hw=>(zGd x w' V).mono ?_)))
  rintro _ w1 ⟨r1_,rfl,hO⟩
  refine O2 ?_ (hw.qi hO)
  refine zE [0] O qM (fun w' hw hS=>zC 3 O (yT (vs:=[r1_,Vi (yB x.ok)]) O O) hS (zC 4 O (yT (vs:=[r1_,Vi (yB x.ok)]) O O) hS (zC 5 O yO hS (zC 6 O yO hS (zU ?_)))))
  refine Oc2 ?_ hw
  exact zV (x1 (v:=r1_) (v':=Vi (yB x.ok)) O O O (fun w' hw=>⟨r1_,O,hw.sel [1] O qM⟩))
end Go.Proofs.YtkkeknmkipkbmaaGreat
