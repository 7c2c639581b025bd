import Derived.Test.YtkkeknmkipkbmaaGreatEnc
set_option linter.unusedSectionVars false
set_option linter.unusedSimpArgs false
set_option linter.unusedVariables false
set_option maxRecDepth 10000
namespace Go.Proofs.YtkkeknmkipkbmaaGreat
open Go Go.Sc Go.Proofs
theorem _root_.Go.Sc.wi{p:Prop}(h:p:=by simp[Value.cells,EntD.cells]):p:=h
theorem zJ3(v:Value)(l:List EntD)(w:World)(hl:l.length≤10000000)(hd:∀ x∈l,x.data.length≤1000000000)(hv:Rd w [] (Res.sl v l.length (l.flatMap EntD.cells)))(all_hv:∀ p∈l,EntD.rd p w []):Rets Tryz.prog 58 #[v] w fun u_ w'=>∃ (r:Value) (es:List EntD),u_=r∧es.map EntD.toEntA=l.map EntD.toEntA∧Own w [] [Res.vec 81 5 r es.length (es.flatMap EntD.cells),Res.star (es.map EntD.dres)] w':=by
  refine zW Tryz.func58 O Tryz.ntmps58 (Own.start w) ?_
  refine zC (zI O (zA (zC (zI O (zA (zP (zC (zI O (zA (zZ ?_))))))))))
  refine x3 (fun(k:Nat) (lv:Value) (es:List EntD)=>[(0,v),(3,lv),(4,Vj k)]) (fun(k:Nat) (lv:Value) (es:List EntD)=>k≤l.length∧es.map EntD.toEntA=(l.take k).map EntD.toEntA) (fun(k:Nat) (lv:Value) (es:List EntD)=>[Res.vec 81 5 lv es.length (es.flatMap EntD.cells),Res.star (es.map EntD.dres)]) (fun(k:Nat) (lv:Value) (es:List EntD)=>l.length - k) (fun w' hw=>⟨0, .slice none 0 0,[],⟨O,O,O,trivial⟩,⟨Nat.zero_le _,O⟩,(zm hw 81 5).qG⟩) (fun k lv es g hΦ=> ?_)
  have hlen:es.length=min k l.length:=by have:=congrArg List.length hΦ.2;simpa using this
  refine zP (zC (zD O (zD O (zp (pR hv) O O (yI O O O (zA (za O (fun c1=> ?_) (fun c1=> ?_))))))))
  ·have hnd:=hd _ (zd (l:=l) (j:=k) V)
   refine zQ (zP (zZ (zC (zD O (zD O (zk (pR hv) 5 k O O O V O (kP (pR hv) 5 k (off:=xH v+k*5) (fun _=>O) O O V O (yC (v:= .agg #[Vn 0,Vn 0,Vi 0,Vi 0, .slice none 0 0]) qN O (fun b5=>zo 2 O O O (zF O (zF O (zF O (zF O (zF (Sl.cell1 (Rd.φ ((all_hv _ (zd V)).dv))) zh))))) O (zA (zC (zx (e:=5) (sz:=1) (vs:=[]) qN O O qR qM O (fun b16=> ?_)))))))))))))
   refine zK (o:=4) O O (zM 2 (v:=(zG l k).dv) O O O O (zDN (l:=([]:List UInt8)) (l':=(zG l k).data) 3 qN O O O (fun w' hw'=>Own.rd ((all_hv _ (zd V)).dv) hw') qO O (fun v19=>zK (o:=4) O O ?_)))
   refine zN (fun w' hw=>Own.qg (i:=3) O hw) (fun hc1_=> ?_)
   refine zn (cs:=(EntD.cells (zG l k))) 2 O O O hc1_ O (zA (zV (zD O (yL 2 O O O (zx (e:=81) (sz:=5) (vs:=[.agg #[Vn ((zG l k).index),Vn ((zG l k).term),Vi ((zG l k).kind),Vi ((zG l k).delta),v19]]) qN O O wi qM O (fun b23=>zy (g:=EntD.cells) (sz:=5) (by':=56) (fun _=>O) (l:=es) (l':=[({(zG l k)with dv:=v19}:EntD)]) (all_cons ((zF O (zF O (zF O (zF O (zF hc1_ zh)))))) qQ) 0 qN O O O (fun w' hw'=>Vec.sl (Own.holds hw' 4 _ O)) qO qM O (fun v24=>zI O (zA (zV (zD O (zt O O (zr V) O (zI O ?_))))))))))))
   exact zg (fun w' hw=>⟨k+1,v24,es++[({(zG l k)with dv:=v19}:EntD)],⟨O,O,O,trivial⟩,⟨by omega,by rw[List.map_append,zu V,List.map_append,hΦ.2];rfl⟩,((hw.qJ (x:=({(zG l k)with dv:=v19}:EntD)) 1 3 qM O O).sel [0,1] O qM),V⟩)
  refine yF O (zC (zD O (zI O (zA ?_))))
  exact zU (z9 (v:=lv) O O (fun w' hw=>⟨lv,es,O,by rw[hΦ.2,List.take_of_length_le V],hw⟩))
structure ShtA where
  index:Nat
  term:Nat
  conf:ConfA
  data:List UInt8
  deriving DecidableEq
structure ShtD where
  index:Nat
  term:Nat
  conf:ConfD
  dv:Value
  data:List UInt8
def ShtD.a(x:ShtD):ShtA:=⟨x.index,x.term,x.conf.a,x.data⟩
structure ShtD.wf(x:ShtD):Prop where
  index:x.index<18446744073709551616
  term:x.term<18446744073709551616
  conf:x.conf.few
  data:x.data.length≤1000000000
def ShtD.cells(x:ShtD):List Value:=[.int .u64 x.index, .int .u64 x.term]++(x.conf.cells++[x.dv])
structure ShtD.rd(x:ShtD)(w:World)(S:List Nat):Prop where
  conf:x.conf.rd w S
  dv:Rd w S (Res.sl x.dv x.data.length (x.data.map vb))
theorem ShtD.rd.at0{x:ShtD}{w0 w:World}{S:List Nat}{L:List Res}(h:x.rd w0 S)(hw:Own w0 S L w):x.rd w []:=⟨h.conf.at0 hw,hw.rd0 h.dv⟩
theorem ShtD.rd.at{x:ShtD}{w0 w:World}{S:List Nat}{L Lin:List Res}(h:x.rd w0 S)(hw:Own w0 S L w)(m:List Nat)(hm:m.mapM (fun i=>L[i]?)=some Lin):x.rd w (y1 Lin):=⟨h.conf.at hw m hm,hw.rdTo h.dv m hm⟩
def ShtA.ok(x:ShtA):Prop:=(((x.conf.ok∧x.data.length≤32768)∧(x.index=0↔x.term=0))∧x.index≤4611686018427387904)∧x.term≤4611686018427387904
instance (x:ShtA):Decidable x.ok:=inferInstanceAs (Decidable ((((_∧_)∧_)∧_)∧_))
def ConfA.enc(c:ConfA):List UInt8:=zCm c.vs++zCm c.ls
def ShtA.enc(x:ShtA):List UInt8:=yK [x.index,x.term]++x.conf.enc++dat x.data
theorem ConfD.enc_le{c:ConfD}:c.enc.length≤9*(c.vs.length+c.ls.length+2):=by
  have h1:=zAS c.vs
  have h2:=zAS c.ls
  simp only[ConfD.enc,List.length_append];omega
theorem ShtD.enc_le{x:ShtD}(h:x.wf):x.a.enc.length≤x.data.length+9*(x.conf.vs.length+x.conf.ls.length+2)+40:=by
  have h1:=yS (ns:=[x.index,x.term]) (by have:=h.index;have:=h.term;simp[*])
  have h2:=zAE x.data (by have:=h.data;omega)
  have h3:x.a.conf.enc.length≤_:=x.conf.enc_le
  have e:x.a.enc.length=(yK [x.index,x.term]).length+x.a.conf.enc.length+(dat x.data).length:=by simp[ShtA.enc,ShtD.a];omega
  simp only[List.length_cons,List.length_nil]at h1
  omega
def confsC:List Value:=[.func (.func 147) #[] #[], .func (.func 151) #[] #[], .func (.func 153) #[] #[]]
theorem zHd(x:ShtD)(cb:Nat)(w:World)(hx:x.wf)(hcb:Rd w [] (Res.row cb 193 [.func (.func 147) #[] #[], .func (.func 151) #[] #[], .func (.func 153) #[] #[]]))(rd_x:ShtD.rd x w []):Rets Tryz.prog 108 #[.agg (ShtD.cells x).toArray, .pointer (some ⟨cb,0,none⟩)] w fun u_ w'=>u_= .bool (decide x.a.ok)∧Own w [] [] w':=by
  have hd:=hx.data
  have hf:=hx.conf
  have hc:=hx.conf.wf
  refine zW Tryz.func108 O Tryz.ntmps108 (Own.start w) ?_
  refine zC (z8 O O (fun b2=>zI O (zA (zC (zK (o:=0) O O (kQ (v:= .func (.func 147) #[] #[]) O (hcb.φ.cell O) (hcb.far _ qW) qN O (zK (o:=2) O O (zAZ 0 (ConfD.cells x.conf) O O (kN 2 O) qN O (yV (fst:=[]) (cap:=[]) O qN O O (fun w' hw=>(kT x.conf w' ‹_› (rd_x.conf.at0 hw)).mono ?_))))))))))
  rintro _ w1 ⟨rfl,hO⟩
  refine O1 ?_ (hw.qi hO)
  refine zD O (yJ (q:=x.conf.ok) 4 5 [13,12,11,10] (((x.data.length:Nat):Int)≤32768) O O O O O O trivial O (fun h1_5=> ?_) (fun g1_10=> ?_))
  ·refine zR O (gT h1_5) (zK (o:=4) O O (zR O (gT h1_5) (zM 0 (v:=x.dv) O O O O (zR O (gT h1_5) (zp (pR rd_x.dv) O O (zR O (gT h1_5) (x6 O O O ?_)))))))
   exact yN O (fun _ hw=>hw)
  refine zD O (yJ (q:=x.conf.ok∧(((x.data.length:Nat):Int)≤32768)) 7 11 [22,21,20,19,18,17,16] ((((x.index:Nat):Int)=((0:Nat):Int))↔(((x.term:Nat):Int)=((0:Nat):Int))) O O O O O O trivial O (fun h1_11=> ?_) (fun g1_19=> ?_))
  ·refine zR O (gT h1_11) (zK (o:=0) O O (zR O (gT h1_11) (zM 0 (v:=Vn x.index) O O O O (zR O (gT h1_11) (yR O O O (zR O (gT h1_11) (zK (o:=1) O O (zR O (gT h1_11) (zM 0 (v:=Vn x.term) O O O O (zR O (gT h1_11) (yR O O O (zR O (gT h1_11) ?_))))))))))))
   refine zP2 qN O O O ?_
   exact yN O (fun _ hw=>hw)
  refine zD O (yJ (q:=(x.conf.ok∧(((x.data.length:Nat):Int)≤32768))∧((((x.index:Nat):Int)=((0:Nat):Int))↔(((x.term:Nat):Int)=((0:Nat):Int)))) 6 20 [30,29,28,27,26,25] (((max x.index x.term:Nat):Int)≤((4611686018427387904:Nat):Int)) O O O O O O trivial O (fun h1_20=> ?_) (fun g1_27=> ?_))
  ·refine zR O (gT h1_20) (zK (o:=0) O O (zR O (gT h1_20) (zM 0 (v:=Vn x.index) O O O O (zR O (gT h1_20) (zK (o:=1) O O (zR O (gT h1_20) (zM 0 (v:=Vn x.term) O O O O (zR O (gT h1_20) (zD9 (c:=((max x.index x.term:Nat):Int)) O O (zFE _ _) O (zR O (gT h1_20) (x6 O O O ?_)))))))))))
   exact yN O (fun _ hw=>hw)
  refine zI O (zA ?_)
  exact zU (z9 (v:= .bool (decide (((x.conf.ok∧(((x.data.length:Nat):Int)≤32768))∧((((x.index:Nat):Int)=((0:Nat):Int))↔(((x.term:Nat):Int)=((0:Nat):Int))))∧(((max x.index x.term:Nat):Int)≤((4611686018427387904:Nat):Int))))) O O (fun w' hw=>⟨(by congr 1;exact decide_eq_decide.2 (by unfold ShtA.ok ShtD.a;dsimp only;exact⟨fun h=>⟨⟨⟨⟨h.1.1.1,by have:=h.1.1.2;omega⟩,by have:=h.1.2;omega⟩,by have:=h.2;omega⟩,by have:=h.2;omega⟩,fun h=>⟨⟨⟨h.1.1.1.1,by have:=h.1.1.1.2;omega⟩,by have:=h.1.1.2;omega⟩,by have:=h.1.2;have:=h.2;omega⟩⟩)),hw.drop⟩))
theorem zHt{S:List Nat}(o:Nat)(sl:Value)(bs:List UInt8)(x:ShtD)(cb:Nat)(w:World)(hx:x.wf)(hb:bs.length+x.a.enc.length≤50000000000)(hin:Own w S [Res.bv o xP sl bs] w)(hcb:Rd w S (Res.row cb 193 [.func (.func 147) #[] #[], .func (.func 151) #[] #[], .func (.func 153) #[] #[]]))(rd_x:ShtD.rd x w S):Rets Tryz.prog 109 #[.pointer (some ⟨o,0,none⟩), .agg (ShtD.cells x).toArray, .pointer (some ⟨cb,0,none⟩)] w fun u_ w'=>∃ (sl':Value),u_= .tuple #[]∧Own w S [Res.bv o xP sl' (bs++x.a.enc)] w':=by
  have hd:=hx.data
  have h1:=hx.index
  have h2:=hx.term
  have hv:=hx.conf.vs
  have hl:=hx.conf.ls
  have hce:=x.conf.enc_le
  have he:x.a.enc.length=(yK [x.index,x.term]).length+x.conf.enc.length+(dat x.data).length:=by simp[ShtA.enc,ShtD.a,ConfD.enc,ConfA.enc,ConfD.a];omega
  refine zW Tryz.func109 O Tryz.ntmps109 hin ?_
  refine zC (z8 O O (fun b4=>zA (zC (zD O (zK (o:=0) O O (zM 1 (v:=Vn x.index) O O O O (zK (o:=1) O O (zM 1 (v:=Vn x.term) O O O O (zx (e:=22) (sz:=1) (vs:=[Vn x.index,Vn x.term]) qN O O qR qM O (fun b10=>a_call O O (fun w' hw=>(zBB o _ _ (.slice (some ⟨b10,0,none⟩) 2 2) [x.index,x.term] w' wg qS (hw.give [0] O qM) (hw.rdVec 2 O [0] O O)).mono ?_)))))))))))
  rintro _ w1 ⟨sl'1_,rfl,hO⟩
  refine O3 ?_ (hw.qh [0] O hO)
  refine zA (zC (zK (o:=1) O O (kQ (v:= .func (.func 151) #[] #[]) O (hcb.φ.cell O) (hcb.far _ qW) qN O (zD O (zK (o:=2) O O (zAZ 0 (ConfD.cells x.conf) O O (kN 2 O) qN O (yV (fst:=[]) (cap:=[]) O qN O O (fun w' hw=>(zAW o sl'1_ (bs++yK [x.index,x.term]) x.conf w' qS (hw.give [2] O qM) (rd_x.conf.at hw [2] O)).mono ?_))))))))
  rintro _ w1 ⟨sl'2_,rfl,hO⟩
  refine O3 ?_ (hw.qh [2] O hO)
  refine zA (zV (zD O (zK (o:=4) O O (zM 0 (v:=x.dv) O O O O (zE5 (e:=36) (vs:=[x.dv]) qN O O (zF (Sl.cell1 (Rd.φ rd_x.dv)) zh) qM O (fun b21=>a_call O O (fun w' hw=>(zHA o sl'2_ ((bs++yK [x.index,x.term])++x.conf.enc) (.slice (some ⟨b21,0,none⟩) 1 1) [(x.dv,x.data)] w' (by simp[kJ];omega) (by show 1≤_;omega) (hw.give [2] O qM) (hw.rdVec 3 O [2] O O) (all_cons (hw.rdTo rd_x.dv [2] O) (fun p hp=>by cases hp))).mono ?_)))))))
  rintro _ w1 ⟨sl'3_,rfl,hO⟩
  refine O4 ?_ (hw.qh [2] O hO)
  exact zg (yQ O (fun w' hw=>⟨sl'3_,O,by have h:=hw.one 3 rfl;simpa [ShtA.enc,ShtD.a,ConfD.enc,ConfA.enc,ConfD.a,kJ]using h⟩))
theorem zM9(w:World):Rets Tryz.prog 62 #[] w fun u_ w'=>∃ (cb:Nat),u_= .agg #[.func (.func 108) #[] #[.pointer (some ⟨cb,0,none⟩)], .func (.func 109) #[] #[.pointer (some ⟨cb,0,none⟩)], .func (.func 111) #[] #[.pointer (some ⟨cb,0,none⟩)]]∧Own w [] [Res.row cb 193 [.func (.func 147) #[] #[], .func (.func 151) #[] #[], .func (.func 153) #[] #[]]] w':=by
  refine zW Tryz.func62 O Tryz.ntmps62 (Own.start w) ?_
  refine zC (yC (v:= .agg #[.nilFunc, .nilFunc, .nilFunc]) qN O (fun b0=>zA (zC (a_call O O (fun w' hw=>(zCw w').mono ?_)))))
  rintro _ w1 ⟨rfl,hO⟩
  refine O1 ?_ (hw.qi hO)
  refine yC (v:= .agg #[.nilFunc, .nilFunc, .nilFunc]) qN O (fun b1=>zo 1 O O O (xO O) O (zA (zC (zBX (va:=[]) (vb:=[.pointer (some ⟨b1,0,none⟩)]) O O O (zBX (va:=[]) (vb:=[.pointer (some ⟨b1,0,none⟩)]) O O O (zBX (va:=[]) (vb:=[.pointer (some ⟨b1,0,none⟩)]) O O O (yh (cs:=[.func (.func 108) #[] #[.pointer (some ⟨b1,0,none⟩)], .func (.func 109) #[] #[.pointer (some ⟨b1,0,none⟩)], .func (.func 111) #[] #[.pointer (some ⟨b1,0,none⟩)]]) (z:=[.nilFunc, .nilFunc, .nilFunc]) (pl:=[(0,1),(1,1),(2,1)]) qN qN O (zo 0 O O O (xO O) O (zA ?_)))))))))
  exact zU (jp (cs:=[.func (.func 108) #[] #[.pointer (some ⟨b1,0,none⟩)], .func (.func 109) #[] #[.pointer (some ⟨b1,0,none⟩)], .func (.func 111) #[] #[.pointer (some ⟨b1,0,none⟩)]]) O O qN (Own.qr (i:=0) O) (fun w' hw=>⟨b1,O,hw.sel [1] O qM⟩))
theorem zG7(x:ShtD)(cb:Nat)(w:World)(hx:x.wf)(hcb:Rd w [] (Res.row cb 193 [.func (.func 147) #[] #[], .func (.func 151) #[] #[], .func (.func 153) #[] #[]]))(rd_x:ShtD.rd x w []):Rets Tryz.prog 63 #[.agg #[.func (.func 108) #[] #[.pointer (some ⟨cb,0,none⟩)], .func (.func 109) #[] #[.pointer (some ⟨cb,0,none⟩)], .func (.func 111) #[] #[.pointer (some ⟨cb,0,none⟩)]], .agg (ShtD.cells x).toArray] w fun u_ w'=>∃ (r:Value),u_= .tuple #[r,Vi (yE x.a.ok)]∧Own w [] [Res.vec 5 1 r (if x.a.ok then x.a.enc else []).length ((if x.a.ok then x.a.enc else []).map vb)] w':=by
  have hd:=hx.data
  have hle:=ShtD.enc_le hx
  have hv:=hx.conf.vs
  have hl:=hx.conf.ls
  refine zW Tryz.func63 O Tryz.ntmps63 (Own.start w) ?_
  refine zC (z8 O O (fun b2=>z8 O O (fun b3=>zI O (zI O (zA (zP (zC (zK (o:=0) O O (zM 0 (v:= .func (.func 108) #[] #[.pointer (some ⟨cb,0,none⟩)]) O O O O (yL (cs:=(ShtD.cells x)) 1 O O O (yV (fst:=[]) (cap:=[.pointer (some ⟨cb,0,none⟩)]) O qN O O (fun w' hw=>(zHd x cb w' ‹_› (hw.rd0 hcb) (rd_x.at0 hw)).mono ?_))))))))))))
  rintro _ w1 ⟨rfl,hO⟩
  refine O2 ?_ (hw.qi hO)
  refine xB (q:=x.a.ok) O O (zA (za O (fun c1=> ?_) (fun c1=> ?_)))
  ·refine zC (zI O (zI O (zA ?_)))
   exact zU (xz (v:= .slice none 0 0) (v':=Vi 2) O O O (fun w' hw=>⟨.slice none 0 0,(by rw[j7 c1]),by rw[if_neg c1];exact(zm hw T8 1).one 2 rfl⟩))
  refine zQ (zC (yh (cs:=[.slice none 0 0]) (z:=[.slice none 0 0]) (pl:=[(0,1)]) qN qN O (z8 O O (fun b13=>zI O (zA (zC (zK (o:=1) O O (zM 0 (v:= .func (.func 109) #[] #[.pointer (some ⟨cb,0,none⟩)]) O O O O (zD O (yL (cs:=(ShtD.cells x)) 1 O O O ?_))))))))))
  refine z4 [Res.row b2 139 [.func (.func 108) #[] #[.pointer (some ⟨cb,0,none⟩)], .func (.func 109) #[] #[.pointer (some ⟨cb,0,none⟩)], .func (.func 111) #[] #[.pointer (some ⟨cb,0,none⟩)]],Res.row b3 38 (ShtD.cells x),Res.bv b13 xP (.slice none 0 0) ([]:List UInt8)] (fun w' hw=>(zm hw T8 1).joinBv (i:=2) (j:=3) qM O O) ?_
  refine yV (fst:=[]) (cap:=[.pointer (some ⟨cb,0,none⟩)]) O qN O O (fun w' hw=>(zHt b13 (.slice none 0 0) ([]:List UInt8) x cb w' ‹_› qS (hw.give [2] O qM) (hw.rdTo hcb [2] O) (rd_x.at hw [2] O)).mono ?_)
  rintro _ w1 ⟨sl'1_,rfl,hO⟩
  refine O3 ?_ (hw.qh [2] O hO)
  refine zA (zC (zD O (zb O O (zK (o:=0) O O ?_))))
  refine z4 [Res.row b2 139 [.func (.func 108) #[] #[.pointer (some ⟨cb,0,none⟩)], .func (.func 109) #[] #[.pointer (some ⟨cb,0,none⟩)], .func (.func 111) #[] #[.pointer (some ⟨cb,0,none⟩)]],Res.row b3 38 (ShtD.cells x),Res.row b13 xP [sl'1_],Res.vec 5 1 sl'1_ (([]:List UInt8)++x.a.enc).length ((([]:List UInt8)++x.a.enc).map vb)] (fun w' hw=>hw.splitBv (i:=2) (o:=b13) (T:=xP) (v:=sl'1_) (bs:=(([]:List UInt8)++x.a.enc)) O) ?_
  refine zM 2 (v:=sl'1_) O O O O (zI O (zI O (zA ?_)))
  exact zU (xz (v:=sl'1_) (v':=Vi 0) O O O (fun w' hw=>⟨sl'1_,(by rw[jY (Decidable.not_not.1 c1)]),by rw[if_pos (Decidable.not_not.1 c1)];exact hw.one 3 rfl⟩))
theorem zJA(x:ShtD)(w:World)(hx:x.wf)(rd_x:ShtD.rd x w []):Rets Tryz.prog 26 #[.agg (ShtD.cells x).toArray] w fun u_ w'=>∃ (r:Value),u_= .tuple #[r,Vi (yE x.a.ok)]∧Own w [] [Res.vec 5 1 r (if x.a.ok then x.a.enc else []).length ((if x.a.ok then x.a.enc else []).map vb)] w':=by
  refine zW Tryz.func26 O Tryz.ntmps26 (Own.start w) ?_
  refine zC (z8 O O (fun b1=>zI O (zI O (zA (zP (ze [0] O qM qN (fun w' hw hS=>zB 1 O (x1 (cs:=(ShtD.cells x)) 0 O O) hS (zJ 0 O hw (a_call O O (fun w' hw=>(zM9 w').mono ?_))))))))))
  rintro _ w1 ⟨cb1_,rfl,hO⟩
  refine O2 ?_ (hw.qi hO)
  refine zE [0] O qM (fun w' hw hS=>zJ 2 O hw (a_call O O (fun w' hw=>(zG7 x cb1_ w' ‹_› (hw.rdRes0 1 O) (rd_x.at0 hw)).mono ?_)))
  rintro _ w1 ⟨r2_,rfl,hO⟩
  refine O3 ?_ (hw.qi hO)
  refine zE [0] O qM (fun w' hw hS=>zB 3 O (yT (vs:=[r2_,Vi (yE x.a.ok)]) O O) hS (zB 4 O (yT (vs:=[r2_,Vi (yE x.a.ok)]) O O) hS (zB 5 O yO hS (zB 6 O yO hS (zT ?_)))))
  refine Oc3 ?_ hw
  exact zU (xz (v:=r2_) (v':=Vi (yE x.a.ok)) O O O (fun w' hw=>⟨r2_,O,hw.sel [2] O qM⟩))
theorem zJn(x:ShtD)(w:World)(hx:x.wf)(rd_x:ShtD.rd x w []):Rets Tryz.prog 50 #[.agg (ShtD.cells x).toArray] w fun u_ w'=>∃ (a:Value) (b:Value) (c:Value),u_= .agg #[Vn x.index,Vn x.term,a,b,c]∧Own w [] [Res.vec 3 1 a x.conf.vs.length (x.conf.vs.flatMap I1),Res.vec 3 1 b x.conf.ls.length (x.conf.ls.flatMap I1),Res.vec 5 1 c x.data.length (x.data.map vb)] w':=by
  have hd:=hx.data
  have hc:=hx.conf.wf
  refine zW Tryz.func50 O Tryz.ntmps50 (Own.start w) ?_
  refine zC (z8 O O (fun b1=>yC (v:= .agg #[Vn 0,Vn 0, .slice none 0 0, .slice none 0 0, .slice none 0 0]) qN O (fun b2=>zA (zC (zK (o:=2) O O (zAZ 0 (ConfD.cells x.conf) O O (kN 2 O) qN O (a_call O O (fun w' hw=>(zEx x.conf w' ‹_› (rd_x.conf.at0 hw)).mono ?_))))))))
  rintro _ w1 ⟨a1_,b2_,rfl,hO⟩
  refine O4 ?_ (hw.qi hO)
  refine zK (o:=2) O O ?_
  refine zN (fun w' hw=>Own.qg (i:=2) O hw) (fun hc1_=> ?_)
  refine zN (fun w' hw=>Own.qg (i:=3) O hw) (fun hc2_=> ?_)
  refine zo 0 O O O (zF hc1_ (zF hc2_ zh)) O (zA (zC (zx (e:=5) (sz:=1) (vs:=[]) qN O O qR qM O (fun b7=>zK (o:=4) O O (zM 0 (v:=x.dv) O O O O (zDN (l:=([]:List UInt8)) (l':=x.data) 4 qN O O O (fun w' hw'=>Own.rd rd_x.dv hw') qO O (fun v10=>zK (o:=4) O O ?_)))))))
  refine zN (fun w' hw=>Own.qg (i:=4) O hw) (fun hc3_=> ?_)
  refine zn (cs:=[Vn x.index,Vn x.term,a1_,b2_,x.dv]) 0 O O O hc3_ O (zA (zC (yL (cs:=[Vn x.index,Vn x.term,a1_,b2_,v10]) 0 O O O (zo 1 O O O (zF O (zF O (zF hc1_ (zF hc2_ (zF hc3_ zh))))) O (zA ?_)))))
  exact zU (jp (cs:=[Vn x.index,Vn x.term,a1_,b2_,v10]) O O qN (Own.qr (i:=1) O) (fun w' hw=>⟨a1_,b2_,v10,O,hw.sel [2,3,4] O qM⟩))
structure HrdD where
  term:Nat
  qD:Int
  deriving DecidableEq
def HrdD.cells(x:HrdD):List Value:=[.int .u64 x.term, .int .i64 x.qD]
def HrdD.ok(x:HrdD):Prop:=0≤x.qD∧x.qD≤16
instance (x:HrdD):Decidable x.ok:=inferInstanceAs (Decidable (_∧_))
def HrdD.enc(x:HrdD):List UInt8:=yK [x.term,u64 x.qD]
theorem zHJ(x:HrdD)(w:World):Rets Tryz.prog 101 #[.agg (HrdD.cells x).toArray] w fun u_ w'=>u_= .bool (decide x.ok)∧Own w [] [] w':=by
  refine zW Tryz.func101 O Tryz.ntmps101 (Own.start w) ?_
  refine zC (z8 O O (fun b1=>zI O (zA (zC (zK (o:=1) O O (zM 0 (v:=Vi x.qD) O O O O (kK O O O (zD O (yJ (q:=0≤x.qD) 3 3 [9,8,7] (x.qD≤16) O O O O O O trivial O (fun h1_3=> ?_) (fun g1_7=> ?_))))))))))
  ·refine zR O (gT h1_3) (zK (o:=1) O O (zR O (gT h1_3) (zM 0 (v:=Vi x.qD) O O O O (zR O (gT h1_3) (x6 O O O ?_)))))
   exact yN O (fun _ hw=>hw)
  refine zI O (zA ?_)
  exact zU (z9 (v:= .bool (decide ((0≤x.qD)∧(x.qD≤16)))) O O (fun w' hw=>⟨O,hw.drop⟩))
theorem zHB{S:List Nat}(o:Nat)(sl:Value)(bs:List UInt8)(x:HrdD)(w:World)(hb:bs.length≤10000000000)(hx:x.term<18446744073709551616)(hin:Own w S [Res.bv o xP sl bs] w):Rets Tryz.prog 102 #[.pointer (some ⟨o,0,none⟩), .agg (HrdD.cells x).toArray] w fun u_ w'=>∃ (sl':Value),u_= .tuple #[]∧Own w S [Res.bv o xP sl' (bs++x.enc)] w':=by
  refine zW Tryz.func102 O Tryz.ntmps102 hin ?_
  refine zC (z8 O O (fun b3=>zA (zV (zD O (zK (o:=0) O O (zM 1 (v:=Vn x.term) O O O O (zK (o:=1) O O (zM 1 (v:=Vi x.qD) O O O O (xt qN O (jM _) O ?_ qN)))))))))
  refine zx (e:=22) (sz:=1) (vs:=[Vn x.term,Vn (u64 x.qD)]) qN O O qR qM O (fun b10=>a_call O O (fun w' hw=>(zBB o _ _ (.slice (some ⟨b10,0,none⟩) 2 2) [x.term,u64 x.qD] w' wg qS (hw.give [0] O qM) (hw.rdVec 2 O [0] O O)).mono ?_))
  rintro _ w1 ⟨sl'1_,rfl,hO⟩
  refine O3 ?_ (hw.qh [0] O hO)
  exact zg (yQ O (fun w' hw=>⟨sl'1_,O,hw.sel [2] O qM⟩))
theorem zOG(w:World):Rets Tryz.prog 60 #[] w fun u_ w'=>u_= .agg #[.func (.func 101) #[] #[], .func (.func 102) #[] #[], .func (.func 104) #[] #[]]∧Own w [] [] w':=by
  refine zW Tryz.func60 O Tryz.ntmps60 (Own.start w) ?_
  refine zC (yC (v:= .agg #[.nilFunc, .nilFunc, .nilFunc]) qN O (fun b0=>zA (zC (yh (cs:=[.func (.func 101) #[] #[], .func (.func 102) #[] #[], .func (.func 104) #[] #[]]) (z:=[.nilFunc, .nilFunc, .nilFunc]) (pl:=[(0,1),(1,1),(2,1)]) qN qN O (zo 0 O O O (xO O) O (zA ?_))))))
  exact zU (jp (cs:=[.func (.func 101) #[] #[], .func (.func 102) #[] #[], .func (.func 104) #[] #[]]) O O qN (Own.qr (i:=0) O) (fun w' hw=>⟨O,hw.drop⟩))
theorem zHx(x:HrdD)(w:World)(hx:x.term<18446744073709551616):Rets Tryz.prog 61 #[.agg #[.func (.func 101) #[] #[], .func (.func 102) #[] #[], .func (.func 104) #[] #[]], .agg (HrdD.cells x).toArray] w fun u_ w'=>∃ (r:Value),u_= .tuple #[r,Vi (yE x.ok)]∧Own w [] [Res.vec 5 1 r (if x.ok then x.enc else []).length ((if x.ok then x.enc else []).map vb)] w':=by
  refine zW Tryz.func61 O Tryz.ntmps61 (Own.start w) ?_
  refine zC (z8 O O (fun b2=>z8 O O (fun b3=>zI O (zI O (zA (zP (zC (zK (o:=0) O O (zM 0 (v:= .func (.func 101) #[] #[]) O O O O (yL (cs:=(HrdD.cells x)) 1 O O O (yV (fst:=[]) (cap:=[]) O qN O O (fun w' hw=>(zHJ x w').mono ?_))))))))))))
  rintro _ w1 ⟨rfl,hO⟩
  refine O2 ?_ (hw.qi hO)
  refine xB (q:=x.ok) O O (zA (za O (fun c1=> ?_) (fun c1=> ?_)))
  ·refine zC (zI O (zI O (zA ?_)))
   exact zU (xz (v:= .slice none 0 0) (v':=Vi 2) O O O (fun w' hw=>⟨.slice none 0 0,(by rw[j7 c1]),by rw[if_neg c1];exact(zm hw T8 1).one 2 rfl⟩))
  refine zQ (zC (yh (cs:=[.slice none 0 0]) (z:=[.slice none 0 0]) (pl:=[(0,1)]) qN qN O (z8 O O (fun b13=>zI O (zA (zC (zK (o:=1) O O (zM 0 (v:= .func (.func 102) #[] #[]) O O O O (zD O (yL (cs:=(HrdD.cells x)) 1 O O O ?_))))))))))
  refine z4 [Res.row b2 133 [.func (.func 101) #[] #[], .func (.func 102) #[] #[], .func (.func 104) #[] #[]],Res.row b3 32 (HrdD.cells x),Res.bv b13 xP (.slice none 0 0) ([]:List UInt8)] (fun w' hw=>(zm hw T8 1).joinBv (i:=2) (j:=3) qM O O) ?_
  refine yV (fst:=[]) (cap:=[]) O qN O O (fun w' hw=>(zHB b13 (.slice none 0 0) ([]:List UInt8) x w' qS qO (hw.give [2] O qM)).mono ?_)
  rintro _ w1 ⟨sl'1_,rfl,hO⟩
  refine O3 ?_ (hw.qh [2] O hO)
  refine zA (zC (zD O (zb O O (zK (o:=0) O O ?_))))
  refine z4 [Res.row b2 133 [.func (.func 101) #[] #[], .func (.func 102) #[] #[], .func (.func 104) #[] #[]],Res.row b3 32 (HrdD.cells x),Res.row b13 xP [sl'1_],Res.vec 5 1 sl'1_ (([]:List UInt8)++x.enc).length ((([]:List UInt8)++x.enc).map vb)] (fun w' hw=>hw.splitBv (i:=2) (o:=b13) (T:=xP) (v:=sl'1_) (bs:=(([]:List UInt8)++x.enc)) O) ?_
  refine zM 2 (v:=sl'1_) O O O O (zI O (zI O (zA ?_)))
  exact zU (xz (v:=sl'1_) (v':=Vi 0) O O O (fun w' hw=>⟨sl'1_,(by rw[jY (Decidable.not_not.1 c1)]),by rw[if_pos (Decidable.not_not.1 c1)];exact hw.one 3 rfl⟩))
theorem zJ6(x:HrdD)(w:World)(hx:x.term<18446744073709551616):Rets Tryz.prog 25 #[.agg (HrdD.cells x).toArray] w fun u_ w'=>∃ (r:Value),u_= .tuple #[r,Vi (yE x.ok)]∧Own w [] [Res.vec 5 1 r (if x.ok then x.enc else []).length ((if x.ok then x.enc else []).map vb)] w':=by
  refine zW Tryz.func25 O Tryz.ntmps25 (Own.start w) ?_
  refine zC (z8 O O (fun b1=>zI O (zI O (zA (zP (ze [0] O qM qN (fun w' hw hS=>zB 1 O (x1 (cs:=(HrdD.cells x)) 0 O O) hS (zJ 0 O hw (a_call O O (fun w' hw=>(zOG w').mono ?_))))))))))
  rintro _ w1 ⟨rfl,hO⟩
  refine O1 ?_ (hw.qi hO)
  refine zE [0] O qM (fun w' hw hS=>zJ 2 O hw (a_call O O (fun w' hw=>(zHx x w' V).mono ?_)))
  rintro _ w1 ⟨r1_,rfl,hO⟩
  refine O2 ?_ (hw.qi hO)
  refine zE [0] O qM (fun w' hw hS=>zB 3 O (yT (vs:=[r1_,Vi (yE x.ok)]) O O) hS (zB 4 O (yT (vs:=[r1_,Vi (yE x.ok)]) O O) hS (zB 5 O yO hS (zB 6 O yO hS (zT ?_)))))
  refine Oc2 ?_ hw
  exact zU (xz (v:=r1_) (v':=Vi (yE x.ok)) O O O (fun w' hw=>⟨r1_,O,hw.sel [1] O qM⟩))
end Go.Proofs.YtkkeknmkipkbmaaGreat
