import Derived.Test.YtkkeknmkipkbmaaGreatFwU
import Derived.Test.YtkkeknmkipkbmaaGreatEnc2
set_option linter.unusedSectionVars false
set_option linter.unusedSimpArgs false
set_option linter.unusedVariables false
set_option maxRecDepth 10000
namespace Go.Proofs.YtkkeknmkipkbmaaGreat
open Go Go.Sc Go.Proofs
abbrev LG(i t:Nat)(es:List EntD):LogA:=⟨i,t,es.map EntD.toEntA⟩
theorem LG.last_eq{i t:Nat}{es:List EntD}:(LG i t es).last=i+es.length:=by simp[LogA.last]
theorem LG.le{i t:Nat}{es:List EntD}(h:(LG i t es).good):i+es.length≤4611686018427387904∧t≤4611686018427387904∧(LG i t es).end_≤4611686018427387904:=⟨LG.last_eq▸h.last_le,h.t,h.end_le⟩
theorem zFX{es:List EntD}{k:Nat}(h:k<es.length):zG (es.map EntD.toEntA) k=(zG es k).toEntA:=kY h
theorem LG.data{i t:Nat}{es:List EntD}(h:(LG i t es).good):∀ e∈es,e.data.length≤4096:=fun e he=>(h.fol.ok _ (List.mem_map_of_mem (f:=EntD.toEntA) he)).1.2.2.2
theorem LG.termE_eq{i t k:Nat}{es:List EntD}:(LG i t es).termE k=if k<i then(0,13)else if k=i then(t,0)else if k≤i+es.length then((zG (es.map EntD.toEntA) (k - i - 1)).term,0)else(0,8):=by
  unfold LogA.termE;rw[LG.last_eq]
theorem LG.term_lo{i t k:Nat}{es:List EntD}(h:k<i):(LG i t es).termE k=(0,13):=if_pos h
theorem LG.term_at{i t k:Nat}{es:List EntD}(h:k=i):(LG i t es).termE k=(t,0):=by
  rw[LG.termE_eq,if_neg V,if_pos h]
theorem LG.term_in{i t k j:Nat}{es:List EntD}(h:i<k)(h2:k≤i+es.length)(hj:j=k - i - 1):(LG i t es).termE k=((zG es j).term,0):=by
  rw[LG.termE_eq,if_neg V,if_neg V,if_pos h2,←hj,zFX V]
theorem LG.term_hi{i t k:Nat}{es:List EntD}(h:i+es.length<k):(LG i t es).termE k=(0,8):=by
  rw[LG.termE_eq,if_neg V,if_neg V,if_neg V]
theorem LG.fromE_eq{i t k:Nat}{n:Int}{es:List EntD}:(LG i t es).fromE k n=if k≤i then([],13)else if i+es.length+1<k then([],8)else if n<0 then([],1)else(((es.map EntD.toEntA).drop (k - i - 1)).take n.toNat,0):=by
  unfold LogA.fromE;rw[LG.last_eq]
theorem LG.end_eq{i t x:Nat}{e:Int}{es:List EntD}(h:(LG i t es).termE (i+es.length)=(x,e)):x=(LG i t es).end_:=by
  by_cases hl:es.length=0
  · rw[LG.term_at V]at h
    cases h
    unfold LogA.end_;rw[List.eq_nil_of_length_eq_zero hl];rfl
  rw[LG.term_in (j:=es.length - 1) V V V]at h
  cases h
  unfold LogA.end_;rw[zBs (by simpa using(by omega:0<es.length)),List.length_map,zFX V]
theorem EntD.c1all{l:List EntD}{w:World}{S:List Nat}(h:∀ p∈l,EntD.rd p w S):∀ x∈l,∀ v∈EntD.cells x,cell1 v=true:=by
  intro x hx v hv
  simp only[EntD.cells,List.mem_cons,List.not_mem_nil,or_false]at hv
  rcases hv with rfl|rfl|rfl|rfl|rfl
  · rfl
  · rfl
  · rfl
  · rfl
  exact Sl.cell1 (Rd.φ (h x hx).dv)
theorem zMS{i t k u n:Nat}{es:List EntD}(hn:0<n)(hl:n≤es.length)(h:(zG es (n - 1)).index≤k∧(zG es (n - 1)).term≤u):(LG i t es).hintN k u n=((zG es (n - 1)).index,(zG es (n - 1)).term):=by
  obtain⟨n,rfl⟩:∃ q,n=q+1:=⟨n - 1,by omega⟩
  simp only[Nat.add_sub_cancel]at h ⊢
  unfold LogA.hintN;rw[zFX V,if_pos h]
theorem zJd{i t k u n:Nat}{es:List EntD}(hn:0<n)(hl:n≤es.length)(h:¬((zG es (n - 1)).index≤k∧(zG es (n - 1)).term≤u)):(LG i t es).hintN k u n=(LG i t es).hintN k u (n - 1):=by
  obtain⟨n,rfl⟩:∃ q,n=q+1:=⟨n - 1,by omega⟩
  simp only[Nat.add_sub_cancel]at h ⊢
  rw[LogA.hintN,zFX V,if_neg h]
theorem zJu{i t k u n:Nat}{es:List EntD}(h:(LG i t es).hint k u=(LG i t es).hintN k u n)(hn:n=0):(LG i t es).hint k u=(i,t):=by rw[h,hn];rfl
theorem zBv{i t k j u:Nat}{m:List EntD}(hk:k<m.length)(h:folA i t ((m.take k).map EntD.toEntA))(hj:j=jQ i ((m.take k).map EntD.toEntA))(hu:u=xm t ((m.take k).map EntD.toEntA)):
    (folA i t ((m.take (k+1)).map EntD.toEntA)↔(zG m k).ok∧(zG m k).index=j+1∧u≤(zG m k).term)∧((zG m k).index=j+1→(zG m k).index=jQ i ((m.take (k+1)).map EntD.toEntA))∧(zG m k).term=xm t ((m.take (k+1)).map EntD.toEntA):=by
  rw[zu hk,List.map_append,List.map_cons,List.map_nil,folA.snoc,zAg]
  refine⟨⟨fun q=>⟨q.2.1,by rw[hj];exact q.2.2.1,by rw[hu];exact q.2.2.2⟩,fun q=>⟨h,q.1,by rw[←hj];exact q.2.1,by rw[←hu];exact q.2.2⟩⟩,fun q=> ?_,O⟩
  rw[q,hj];simp only[jQ,List.length_append,List.length_cons,List.length_nil];omega
theorem zPk{i t k j u:Nat}{m:List EntD}(hk:k<m.length)(h:folA i t ((m.take k).map EntD.toEntA))(hj:j=jQ i ((m.take k).map EntD.toEntA))(hu:u=xm t ((m.take k).map EntD.toEntA))(hn:¬((zG m k).ok∧(zG m k).index=j+1∧u≤(zG m k).term)):¬ folA i t (m.map EntD.toEntA):=by
  intro q
  apply hn
  rw[←(zBv hk h hj hu).1,List.map_take]
  exact q.take _
theorem zHf{i t index term k:Nat}{es m:List EntD}(hm:folA index term (m.map EntD.toEntA))(hf:(LG i t es).fits index term)(hk:k<m.length)(h1:∀ e∈m.take k,(LG i t es).fits e.index e.term)(h2:¬(LG i t es).fits (zG m k).index (zG m k).term):
    (LG i t es).kn (m.map EntD.toEntA)=k∧(zG m k).index=index+k+1∧i≤index+k∧index+k≤i+es.length:=by
  have hkn:(LG i t es).kn (m.map EntD.toEntA)=k:=(LG i t es).kn_of qX (fun e he=>by
    rw[←List.map_take]at he;obtain⟨x,hx,rfl⟩:=List.mem_map.1 he;exact h1 x hx) (fun _=>by rw[zFX hk];exact h2)
  have h3:=hm.idx k (by simpa using hk)
  rw[zFX hk]at h3
  have h4:=(LogA.fits_end (zFa hm hf)).1
  rw[hkn,LG.last_eq]at h4
  have e:jQ index ((m.map EntD.toEntA).take k)=index+k:=by unfold jQ;simp;omega
  rw[e]at h4
  exact⟨hkn,h3,h4⟩
theorem zIF{i t index term k:Nat}{es m es':List EntD}(hm:folA index term (m.map EntD.toEntA))(hf:(LG i t es).fits index term)(hk:k<m.length)(h1:∀ e∈m.take k,(LG i t es).fits e.index e.term)(h2:¬(LG i t es).fits (zG m k).index (zG m k).term)
    (he:es'.map EntD.toEntA=(es.map EntD.toEntA).take ((zG m k).index - i - 1)++(m.map EntD.toEntA).drop k):LG i t es'=(LG i t es).append index term (m.map EntD.toEntA)∧(LG i t es).ans index term (m.map EntD.toEntA)=(index+m.length,(zG m k).index,0):=by
  have h:=(zHf hm hf hk h1 h2).1
  constructor
  · unfold LogA.append LogA.put
    rw[if_pos ⟨hm,hf⟩,h,if_pos (by simpa using hk),zFX hk,←he]
  unfold LogA.ans LogA.put0
  rw[if_pos hm,if_pos hf,h,if_pos (by simpa using hk),zFX hk,List.length_map]
theorem zIg{i t index term k:Nat}{es m:List EntD}(hm:folA index term (m.map EntD.toEntA))(hf:(LG i t es).fits index term)(hk:k<m.length)(h1:∀ e∈m.take k,(LG i t es).fits e.index e.term)(h2:¬(LG i t es).fits (zG m k).index (zG m k).term):(LG i t es).ans index term (m.map EntD.toEntA)=(index+m.length,(zG m k).index,0):=by
  have h:=(zHf hm hf hk h1 h2).1
  unfold LogA.ans LogA.put0
  rw[if_pos hm,if_pos hf,h,if_pos (by simpa using hk),zFX hk,List.length_map]
theorem put_none{i t index term:Nat}{es m:List EntD}(hm:folA index term (m.map EntD.toEntA))(hf:(LG i t es).fits index term)(h1:∀ e∈m,(LG i t es).fits e.index e.term):
    LG i t es=(LG i t es).append index term (m.map EntD.toEntA)∧(LG i t es).ans index term (m.map EntD.toEntA)=(index+m.length,0,0):=by
  have h:=LogA.put_same (x:=LG i t es) (m:=m.map EntD.toEntA) (fun e he=>by obtain⟨x,hx,rfl⟩:=List.mem_map.1 he;exact h1 x hx)
  constructor
  · unfold LogA.append;rw[if_pos ⟨hm,hf⟩,h.1]
  unfold LogA.ans;rw[if_pos hm,if_pos hf,h.2,List.length_map]
theorem zFl{x:LogA}{index term:Nat}{m:List EntA}(h:¬ folA index term m):x=x.append index term m∧x.ans index term m=(0,0,2):=
  ⟨by unfold LogA.append;rw[if_neg fun q=>h q.1],by unfold LogA.ans;rw[if_neg h]⟩
theorem zIf{x:LogA}{index term:Nat}{m:List EntA}(hm:folA index term m)(h:¬ x.fits index term):x=x.append index term m∧x.ans index term m=(0,0,12):=
  ⟨by unfold LogA.append;rw[if_neg fun q=>h q.2],by unfold LogA.ans;rw[if_pos hm,if_neg h]⟩
theorem zQg(i t:Nat)(w:World)(hi:i≤4611686018427387904)(ht:t≤4611686018427387904):Rets Tryz.prog 27 #[Vn i,Vn t] w fun u_ w'=>∃ (b:Nat),u_= .pointer (some ⟨b,0,none⟩)∧Own w [] [Res.row b 144 [Vn i,Vn t,(.slice none 0 0)],Res.vec 81 5 (.slice none 0 0) ([]:List EntD).length (([]:List EntD).flatMap EntD.cells),Res.star (([]:List EntD).map EntD.dres)] w':=by
  refine zW Tryz.func27 O Tryz.ntmps27 (Own.start w) ?_
  refine zC (zI O (zA (zP (zC (zD O (zD O (zD9 (c:=((max i t:Nat):Int)) O O (zFE _ _) O (yx O O O (zA (za O (fun c1=> ?_) (fun c1=> ?_)))))))))))
  ·exact absurd c1 V
  refine zQ (zC (zD O (zD O (yh (cs:=[Vn i,Vn t]) (z:=[Vn 0,Vn 0]) (pl:=[(0,1),(1,1)]) qN qN O (yh (cs:=[Vn i,Vn t, .slice none 0 0]) (z:=[Vn 0,Vn 0, .slice none 0 0]) (pl:=[(0,2),(2,1)]) qN qN O (z8 O O (fun b13=>zI O (zA ?_))))))))
  exact zU (z9 (v:= .pointer (some ⟨b13,0,none⟩)) O O (fun w' hw=>⟨b13,O,(zm hw 81 5).qG⟩))
theorem zB2(lb i t:Nat)(lv:Value)(es:List EntD)(w:World)(hb:i+es.length≤4611686018427387904)(hlb:Rd w [] (Res.row lb 144 [Vn i,Vn t,lv]))(hlv:Rd w [] (Res.sl lv es.length (es.flatMap EntD.cells)))(all_hlv:∀ p∈es,EntD.rd p w []):Rets Tryz.prog 67 #[.pointer (some ⟨lb,0,none⟩)] w fun u_ w'=>u_=Vn (i+es.length)∧Own w [] [] w':=by
  refine zW Tryz.func67 O Tryz.ntmps67 (Own.start w) ?_
  refine zC (zI O (zA (yb qN qN (zL O zS (zL O (zO O) (zL O (zH (o:=0) O) (zL O (zH (o:=0) O) (zL O (zAJ (v:=Vn i) O (hlb.φ.cell O) (hlb.far _ qW) qN) (zL O zS (zL O (zO O) (zL O (zH (o:=2) O) (zL O (zAJ (v:=lv) O (hlb.φ.cell O) (hlb.far _ qW) qN) ?_))))))))))))
  refine zL O (zAA (pR hlv) O) (zL O (x7 qN O (xA V) qN) (zL O (yr O O (xA V)) (zL O yO (xi ?_))))
  exact zU (z9 (v:=Vn (i+es.length)) O O (fun w' hw=>⟨O,hw.drop⟩))
theorem zG2(lb i t:Nat)(lv:Value)(es:List EntD)(k:Nat)(w:World)(hl:zi es.length)(hb:i+es.length≤4611686018427387904)(hk:k<18446744073709551616)(hlb:Rd w [] (Res.row lb 144 [Vn i,Vn t,lv]))(hlv:Rd w [] (Res.sl lv es.length (es.flatMap EntD.cells)))(all_hlv:∀ p∈es,EntD.rd p w []):Rets Tryz.prog 57 #[.pointer (some ⟨lb,0,none⟩),Vn k] w fun u_ w'=>∃ (x:Nat) (e:Int),u_= .tuple #[Vn x,Vi e]∧(LG i t es).termE k=(x,e)∧Own w [] [] w':=by
  refine zW Tryz.func57 O Tryz.ntmps57 (Own.start w) ?_
  refine zC (zI O (zI O (zA (zP (zZ (zC (zD O (xf qN O O O (zI O (zA (xx O (zC ?_))))))))))))
  refine zD O (zD O (zb O O (zK (o:=0) O O (zK (o:=0) O O (kQ (v:=Vn i) O (hlb.φ.cell O) (hlb.far _ qW) qN O (yI O O O (zI O (zA (za O (fun c2=> ?_) (fun c2=> ?_))))))))))
  ·refine zC (zI O (zI O (zA ?_)))
   exact zU (xz (v:=Vn 0) (v':=Vi 13) O O O (fun w' hw=>⟨0,13,O,LG.term_lo V,hw.drop⟩))
  refine zC (zD O (zD O (a_call O O (fun w' hw=>(zB2 lb i t lv es w' V (hw.rd0 hlb) (hw.rd0 hlv) (fun p hp=>EntD.rd.at0 (all_hlv p hp) hw)).mono ?_))))
  rintro _ w1 ⟨rfl,hO⟩
  refine O0 ?_ (hw.qi hO)
  refine yx O O O (zI O (zA (za O (fun c3=> ?_) (fun c3=> ?_))))
  ·refine zC (zI O (zI O (zA ?_)))
   exact zU (xz (v:=Vn 0) (v':=Vi 8) O O O (fun w' hw=>⟨0,8,O,LG.term_hi V,hw.drop⟩))
  refine zC (zD O (zD O (zb O O (zK (o:=0) O O (zK (o:=0) O O (kQ (v:=Vn i) O (hlb.φ.cell O) (hlb.far _ qW) qN O (yR O O O (zI O (zA (za O (fun c4=> ?_) (fun c4=> ?_)))))))))))
  ·refine zC (zD O (zb O O (zK (o:=0) O O (zK (o:=1) O O (kQ (v:=Vn t) O (hlb.φ.cell O) (hlb.far _ qW) qN O (zI O (zI O (zA ?_))))))))
   exact zU (xz (v:=Vn t) (v':=Vi 0) O O O (fun w' hw=>⟨t,0,O,LG.term_at V,hw.drop⟩))
  refine zQ (yb qN qN (zL O zS (zL O (zO O) (zL O (zH (o:=2) O) (zL O (zAJ (v:=lv) O (hlb.φ.cell O) (hlb.far _ qW) qN) (zL O zS (zL O zS (zL O (zO O) (zL O (zH (o:=0) O) (zL O (zH (o:=0) O) (zL O (zAJ (v:=Vn i) O (hlb.φ.cell O) (hlb.far _ qW) qN) (zL O (xl (c:=((k - i:Nat):Int)) O O (ws V V)) ?_))))))))))))
  refine zL O (xl (c:=((k - i - 1:Nat):Int)) O O (ws (a:=k - i) (b:=1) V V)) (zL O (yz (pR hlv) 5 (k - i - 1) O O O V) (zL O (zH (o:=1) O) (zL O (x0 (pR hlv) 5 (k - i - 1) 1 (off:=xH lv+(k - i - 1)*5+1) (fun _=>O) O V V O) (zL O yO (zL O yO (xi ?_))))))
  exact zU (xz (v:=Vn ((zG es (k - i - 1)).term)) (v':=Vi 0) O O O (fun w' hw=>⟨(zG es (k - i - 1)).term,0,O,LG.term_in V V O,hw.drop⟩))
theorem kV(lb i t:Nat)(lv:Value)(es:List EntD)(w:World)(hl:zi es.length)(hb:i+es.length≤4611686018427387904)(hlb:Rd w [] (Res.row lb 144 [Vn i,Vn t,lv]))(hlv:Rd w [] (Res.sl lv es.length (es.flatMap EntD.cells)))(all_hlv:∀ p∈es,EntD.rd p w []):Rets Tryz.prog 29 #[.pointer (some ⟨lb,0,none⟩)] w fun u_ w'=>u_= .tuple #[Vn (i+es.length),Vn ((LG i t es).end_)]∧Own w [] [] w':=by
  refine zW Tryz.func29 O Tryz.ntmps29 (Own.start w) ?_
  refine zC (zI O (zI O (zA (zP (zC (zD O (xf qN O O O (zA (xx O (zQ (zC (zD O ?_))))))))))))
  refine zD O (a_call O O (fun w' hw=>(zB2 lb i t lv es w' V (hw.rd0 hlb) (hw.rd0 hlv) (fun p hp=>EntD.rd.at0 (all_hlv p hp) hw)).mono ?_))
  rintro _ w1 ⟨rfl,hO⟩
  refine O0 ?_ (hw.qi hO)
  refine a_call O O (fun w' hw=>(zG2 lb i t lv es (i+es.length) w' ‹_› V V (hw.rd0 hlb) (hw.rd0 hlv) (fun p hp=>EntD.rd.at0 (all_hlv p hp) hw)).mono ?_)
  rintro _ w1 ⟨x1_,e2_,rfl,hf3_3,hO⟩
  refine O0 ?_ (hw.qi hO)
  refine zD O (yA (vs:=[Vn x1_,Vi e2_]) O O O (yA (vs:=[Vn x1_,Vi e2_]) O O O (zI O (zI O (zA (zC (zD O (a_call O O (fun w' hw=>(zB2 lb i t lv es w' V (hw.rd0 hlb) (hw.rd0 hlv) (fun p hp=>EntD.rd.at0 (all_hlv p hp) hw)).mono ?_)))))))))
  rintro _ w1 ⟨rfl,hO⟩
  refine O0 ?_ (hw.qi hO)
  refine zD O (zI O (zI O (zA ?_)))
  exact zU (xz (v:=Vn (i+es.length)) (v':=Vn x1_) O O O (fun w' hw=>⟨(by rw[LG.end_eq hf3_3]),hw.drop⟩))
theorem zCz(lb i t:Nat)(lv:Value)(es:List EntD)(k u:Nat)(w:World)(hl:zi es.length)(hb:i+es.length≤4611686018427387904)(hk:k<18446744073709551616)(hlb:Rd w [] (Res.row lb 144 [Vn i,Vn t,lv]))(hlv:Rd w [] (Res.sl lv es.length (es.flatMap EntD.cells)))(all_hlv:∀ p∈es,EntD.rd p w []):Rets Tryz.prog 22 #[.pointer (some ⟨lb,0,none⟩),Vn k,Vn u] w fun u_ w'=>u_= .bool (decide ((LG i t es).fits k u))∧Own w [] [] w':=by
  refine zW Tryz.func22 O Tryz.ntmps22 (Own.start w) ?_
  refine zC (zI O (zA (zC (zD O (zD O (a_call O O (fun w' hw=>(zG2 lb i t lv es k w' ‹_› V V (hw.rd0 hlb) (hw.rd0 hlv) (fun p hp=>EntD.rd.at0 (all_hlv p hp) hw)).mono ?_)))))))
  rintro _ w1 ⟨x1_,e2_,rfl,hf1_2,hO⟩
  refine O0 ?_ (hw.qi hO)
  refine zD O (yA (vs:=[Vn x1_,Vi e2_]) O O O (yA (vs:=[Vn x1_,Vi e2_]) O O O (zI O (zI O (zA (zC (zD O (yR O O O (zD O (yJ (q:=e2_=0) 3 2 [20,19,18] (((x1_:Nat):Int)=((u:Nat):Int)) O O O O O O trivial O (fun h2_2=> ?_) (fun g2_6=> ?_)))))))))))
  ·refine zR O (gT h2_2) (zD O (zR O (gT h2_2) (zD O (zR O (gT h2_2) (yR O O O ?_)))))
   exact yN O (fun _ hw=>hw)
  refine zI O (zA ?_)
  exact zU (z9 (v:= .bool (decide ((e2_=0)∧(((x1_:Nat):Int)=((u:Nat):Int))))) O O (fun w' hw=>⟨(by congr 1;exact decide_eq_decide.2 (by unfold LogA.fits;rw[hf1_2];exact⟨fun h=>⟨h.1,by have:=h.2;dsimp only;omega⟩,fun h=>⟨h.1,by have:=h.2;dsimp only at this;omega⟩⟩)),hw.drop⟩))
theorem zEz(lb i t:Nat)(lv:Value)(es:List EntD)(k u:Nat)(w:World)(hl:zi es.length)(hb:i+es.length≤4611686018427387904)(hlb:Rd w [] (Res.row lb 144 [Vn i,Vn t,lv]))(hlv:Rd w [] (Res.sl lv es.length (es.flatMap EntD.cells)))(all_hlv:∀ p∈es,EntD.rd p w []):Rets Tryz.prog 83 #[.pointer (some ⟨lb,0,none⟩),Vn k,Vn u] w fun u_ w'=>u_= .bool (decide ((LG i t es).fresh k u))∧Own w [] [] w':=by
  refine zW Tryz.func83 O Tryz.ntmps83 (Own.start w) ?_
  refine zC (zI O (zA (zP (zC (zD O (xf qN O O O (zA (xx O (zQ (zC (zD O (a_call O O (fun w' hw=> ?_)))))))))))))
  refine(kV lb i t lv es w' ‹_› V (hw.rd0 hlb) (hw.rd0 hlv) (fun p hp=>EntD.rd.at0 (all_hlv p hp) hw)).mono ?_
  rintro _ w1 ⟨rfl,hO⟩
  refine O0 ?_ (hw.qi hO)
  refine zD O (yA (vs:=[Vn (i+es.length),Vn ((LG i t es).end_)]) O O O (yA (vs:=[Vn (i+es.length),Vn ((LG i t es).end_)]) O O O (zI O (zI O (zA (zC (zD O (zD O (yx O O O (zD O (yj (q:=(((LG i t es).end_:Nat):Int)<((u:Nat):Int)) 8 3 [27,26,25,24,23,22,21,20] ((((u:Nat):Int)=(((LG i t es).end_:Nat):Int))∧(((i+es.length:Nat):Int)≤((k:Nat):Int))) O O O O O O trivial O (fun h4_3=> ?_) (fun g4_12=> ?_))))))))))))
  ·refine zR O (gF h4_3) (zD O (zR O (gF h4_3) (zD O (zR O (gF h4_3) (yR O O O (zR O (gF h4_3) (zD O (yJ (q:=((u:Nat):Int)=(((LG i t es).end_:Nat):Int)) 3 7 [26,25,24] (((i+es.length:Nat):Int)≤((k:Nat):Int)) O O O O O O ⟨_,O,O,gF h4_3⟩ O (fun h4_7=> ?_) (fun g4_11=> ?_)))))))))
   ·refine zR O (gT h4_7) (zD O (zR O (gT h4_7) (zD O (zR O (gT h4_7) (kK O O O ?_)))))
    exact yN O (fun _ hw=>hw)
   exact yN O (fun _ hw=>hw)
  refine zI O (zA ?_)
  exact zU (z9 (v:= .bool (decide (((((LG i t es).end_:Nat):Int)<((u:Nat):Int))∨((((u:Nat):Int)=(((LG i t es).end_:Nat):Int))∧(((i+es.length:Nat):Int)≤((k:Nat):Int)))))) O O (fun w' hw=>⟨(by congr 1;exact decide_eq_decide.2 (by unfold LogA.fresh;rw[LG.last_eq];omega)),hw.drop⟩))
theorem zGi(v:Value)(l:List EntD)(w:World)(hl:l.length≤100000000000)(hv:Rd w [] (Res.sl v l.length (l.flatMap EntD.cells)))(all_hv:∀ p∈l,EntD.rd p w []):Rets Tryz.prog 65 #[v] w fun u_ w'=>∃ (r:Value),u_=r∧Own w [] [Res.vec 81 5 r l.length (l.flatMap EntD.cells)] w':=by
  refine zW Tryz.func65 O Tryz.ntmps65 (Own.start w) ?_
  refine zC (zI O (zA (zP (zC (zD O (zE8 (len:=l.length) (cs:=(l.flatMap EntD.cells)) qN O O (fun w' hw'=>Own.rd hv hw') O (zA (zAu O (fun c1=> ?_) (fun c1=> ?_)))))))))
  ·refine zC (zI O (zA ?_))
   exact zU (z9 (v:= .slice none 0 0) O O (fun w' hw=>⟨.slice none 0 0,O,by obtain⟨_,h0⟩:=Sl.isNil hv.φ c1;rw[List.eq_nil_of_length_eq_zero h0];exact zm hw 81 5⟩))
  refine zQ (zC (zx (e:=81) (sz:=5) (vs:=[]) qN O O wi qM O (fun b5=>zD O (zy (g:=EntD.cells) (sz:=5) (by':=56) (fun _=>O) (l:=[]) (l':=l) (EntD.c1all all_hv) 0 qN O O O (fun w' hw'=>Own.rd hv hw') qO qM O (fun v7=>zI O (zA ?_))))))
  exact zU (z9 (v:=v7) O O (fun w' hw=>⟨v7,O,hw⟩))
theorem zLg(x:EntD)(w:World)(hx:x.data.length≤1000000000)(rd_x:EntD.rd x w []):Rets Tryz.prog 114 #[.agg (EntD.cells x).toArray] w fun u_ w'=>∃ (r:Value),u_= .agg #[Vn x.index,Vn x.term,Vi x.kind,Vi x.delta,r]∧Own w [] [Res.vec 5 1 r x.data.length (x.data.map vb)] w':=by
  refine zW Tryz.func114 O Tryz.ntmps114 (Own.start w) ?_
  refine zC (z8 O O (fun b1=>yC (v:= .agg #[Vn 0,Vn 0,Vi 0,Vi 0, .slice none 0 0]) qN O (fun b2=>zA (zC (zK (o:=4) O O (zM 0 (v:=x.dv) O O O O (a_call O O (fun w' hw=>(zB1 x.dv x.data w' qP (hw.rd0 rd_x.dv)).mono ?_))))))))
  rintro r1_ w1 ⟨_,rfl,hO⟩
  refine O3 ?_ (hw.qi hO)
  refine zK (o:=4) O O ?_
  refine zN (fun w' hw=>Own.qg (i:=2) O hw) (fun hc1_=> ?_)
  refine zn (cs:=(EntD.cells x)) 0 O O O hc1_ O (zA (zC (yL (cs:=[Vn x.index,Vn x.term,Vi x.kind,Vi x.delta,r1_]) 0 O O O (zo 1 O O O (zF O (zF O (zF O (zF O (zF hc1_ zh))))) O (zA ?_)))))
  exact zU (jp (cs:=[Vn x.index,Vn x.term,Vi x.kind,Vi x.delta,r1_]) O O qN (Own.qr (i:=1) O) (fun w' hw=>⟨r1_,O,hw.sel [2] O qM⟩))
theorem zB0(v:Value)(l:List EntD)(w:World)(hl:l.length≤100000000000)(hd:∀ x∈l,x.data.length≤1000000000)(hv:Rd w [] (Res.sl v l.length (l.flatMap EntD.cells)))(all_hv:∀ p∈l,EntD.rd p w []):Rets Tryz.prog 66 #[v] w fun u_ w'=>∃ (r:Value) (es:List EntD),u_=r∧es.map EntD.toEntA=l.map EntD.toEntA∧Own w [] [Res.vec 81 5 r es.length (es.flatMap EntD.cells),Res.star (es.map EntD.dres)] w':=by
  refine zW Tryz.func66 O Tryz.ntmps66 (Own.start w) ?_
  refine zC (zI O (zA (zC (zI O (zA (zP (zC (zD O (zp (pR hv) O O (zD O (zA (zZ ?_))))))))))))
  refine x3 (fun(k:Nat) (lv:Value) (es:List EntD)=>[(3,lv),(6,v),(7,Vj l.length),(8,Vj k)]) (fun(k:Nat) (lv:Value) (es:List EntD)=>k≤l.length∧es.map EntD.toEntA=(l.take k).map EntD.toEntA) (fun(k:Nat) (lv:Value) (es:List EntD)=>[Res.vec 81 5 lv es.length (es.flatMap EntD.cells),Res.star (es.map EntD.dres)]) (fun(k:Nat) (lv:Value) (es:List EntD)=>l.length - k) (fun w' hw=>⟨0, .slice none 0 0,[],⟨O,O,O,O,trivial⟩,⟨Nat.zero_le _,O⟩,(zm hw 81 5).qG⟩) (fun k lv es g hΦ=> ?_)
  have hlen:es.length=min k l.length:=by have:=congrArg List.length hΦ.2;simpa using this
  refine zC (yI O O O (zA (zP (za O (fun c1=> ?_) (fun c1=> ?_)))))
  ·have hnd:=hd _ (zd (l:=l) (j:=k) V)
   refine zQ (zP (zZ (zC (zk (pR hv) 5 k O O O V O (kP (pR hv) 5 k (off:=xH v+k*5) (fun _=>O) O O V O (yC (v:= .agg #[Vn 0,Vn 0,Vi 0,Vi 0, .slice none 0 0]) qN O (fun b5=>zo 2 O O O (zF O (zF O (zF O (zF O (zF (Sl.cell1 (Rd.φ ((all_hv _ (zd V)).dv))) zh))))) O (zA (zV (zD O (yL (cs:=(EntD.cells (zG l k))) 2 O O O (a_call O O (fun w' hw=> ?_)))))))))))))
   refine(zLg (zG l k) w' V ((all_hv _ (zd V)).at0 hw)).mono ?_
   rintro _ w1 ⟨r1_,rfl,hO⟩
   refine O4 ?_ (hw.qi hO)
   refine zx (e:=81) (sz:=5) (vs:=[.agg #[Vn ((zG l k).index),Vn ((zG l k).term),Vi ((zG l k).kind),Vi ((zG l k).delta),r1_]]) qN O O wi qM O (fun b15=> ?_)
   refine zN (fun w' hw=>Own.qg (i:=3) O hw) (fun hc1_=> ?_)
   refine zy (g:=EntD.cells) (sz:=5) (by':=56) (fun _=>O) (l:=es) (l':=[({(zG l k)with dv:=r1_}:EntD)]) (all_cons ((zF O (zF O (zF O (zF O (zF hc1_ zh)))))) qQ) 0 qN O O O (fun w' hw'=>Vec.sl (Own.holds hw' 4 _ O)) qO qM O (fun v16=>zI O (zA (zV (zt O O (zr V) O (zD O ?_)))))
   exact zg (fun w' hw=>⟨k+1,v16,es++[({(zG l k)with dv:=r1_}:EntD)],⟨O,O,O,O,trivial⟩,⟨by omega,by rw[List.map_append,zu V,List.map_append,hΦ.2];rfl⟩,((hw.qJ (x:=({(zG l k)with dv:=r1_}:EntD)) 1 3 qM O O).sel [0,1] O qM),V⟩)
  refine yF O (zC (zD O (zI O (zA ?_))))
  exact zU (z9 (v:=lv) O O (fun w' hw=>⟨lv,es,O,by rw[hΦ.2,List.take_of_length_le V],hw⟩))
theorem zHp(lb i t:Nat)(lv:Value)(es:List EntD)(k:Nat)(n:Int)(w:World)(hl:es.length≤100000000000)(hg:(LG i t es).good)(hlb:Rd w [] (Res.row lb 144 [Vn i,Vn t,lv]))(hlv:Rd w [] (Res.sl lv es.length (es.flatMap EntD.cells)))(all_hlv:∀ p∈es,EntD.rd p w []):Rets Tryz.prog 54 #[.pointer (some ⟨lb,0,none⟩),Vn k,Vi n] w fun u_ w'=>∃ (r:Value) (rs:List EntD) (e:Int),u_= .tuple #[r,Vi e]∧(LG i t es).fromE k n=(rs.map EntD.toEntA,e)∧Own w [] [Res.vec 81 5 r rs.length (rs.flatMap EntD.cells),Res.star (rs.map EntD.dres)] w':=by
  have hb:=(LG.le hg).1
  refine zW Tryz.func54 O Tryz.ntmps54 (Own.start w) ?_
  refine zC (zI O (zI O (zA (zP (zZ (zC (zD O (xf qN O O O (zD O (zR O O (zD O (zR O O ?_))))))))))))
  refine yI O O O (zR O O (zD O (yJ (q:=n<0) 7 5 [22,21,20,19,18,17,16] (((i:Nat):Int)<((k:Nat):Int)) O O O O O O ⟨_,O,O,O⟩ O (fun h1_5=> ?_) (fun g1_13=> ?_))))
  ·refine zR O (gT h1_5) (zD O (zR O (gT h1_5) (zD O (zR O (gT h1_5) (zb O O (zR O (gT h1_5) (zK (o:=0) O O (zR O (gT h1_5) (zK (o:=0) O O (zR O (gT h1_5) (kQ (v:=Vn i) O (hlb.φ.cell O) (hlb.far _ qW) qN O (zR O (gT h1_5) ?_))))))))))))
   refine yx O O O ?_
   exact yN O (fun _ hw=>hw)
  refine zR O O (zD O (yJ (q:=(n<0)∧(((i:Nat):Int)<((k:Nat):Int))) 5 14 [29,28,27,26,25] (((k:Nat):Int)≤(((i+es.length)+1:Nat):Int)) O O O O O O ⟨_,O,O,O⟩ O (fun h1_14=> ?_) (fun g1_20=> ?_)))
  ·refine zR O (gT h1_14) (zD O (zR O (gT h1_14) (zD O (zR O (gT h1_14) (a_call O O (fun w' hw=>(zB2 lb i t lv es w' V (hw.rd0 hlb) (hw.rd0 hlv) (fun p hp=>EntD.rd.at0 (all_hlv p hp) hw)).mono ?_))))))
   rintro _ w1 ⟨rfl,hO⟩
   refine O0 ?_ (hw.qi hO)
   refine zR O (gT h1_14) (zt O O (xA V) O (zR O (gT h1_14) (x6 O O O ?_)))
   exact yN O (fun _ hw=>hw)
  refine j8 O O (zI O (zA (za O (fun c1=> ?_) (fun c1=> ?_))))
  ·refine zC (zI O (zI O (zA ?_)))
   exact zU (xz (v:= .slice none 0 0) (v':=Vi 1) O O O (fun w' hw=>⟨.slice none 0 0,[],1,O,by rw[LG.fromE_eq,if_neg V,if_neg V,if_pos V];rfl,(Own.qG (zm hw 81 5))⟩))
  refine zC (zD O (zD O (zb O O (zK (o:=0) O O (zK (o:=0) O O (kQ (v:=Vn i) O (hlb.φ.cell O) (hlb.far _ qW) qN O (x6 O O O (zI O (zA (za O (fun c2=> ?_) (fun c2=> ?_)))))))))))
  ·refine zC (zI O (zI O (zA ?_)))
   exact zU (xz (v:= .slice none 0 0) (v':=Vi 13) O O O (fun w' hw=>⟨.slice none 0 0,[],13,O,by rw[LG.fromE_eq,if_pos V];rfl,(Own.qG (zm hw 81 5))⟩))
  refine zC (zD O (zD O (a_call O O (fun w' hw=>(zB2 lb i t lv es w' V (hw.rd0 hlb) (hw.rd0 hlv) (fun p hp=>EntD.rd.at0 (all_hlv p hp) hw)).mono ?_))))
  rintro _ w1 ⟨rfl,hO⟩
  refine O0 ?_ (hw.qi hO)
  refine zt O O (xA V) O (yx O O O (zI O (zA (za O (fun c3=> ?_) (fun c3=> ?_)))))
  ·refine zC (zI O (zI O (zA ?_)))
   exact zU (xz (v:= .slice none 0 0) (v':=Vi 8) O O O (fun w' hw=>⟨.slice none 0 0,[],8,O,by rw[LG.fromE_eq,if_neg V,if_pos V];rfl,(Own.qG (zm hw 81 5))⟩))
  refine zQ (yb qN qN (zL O zS (zL O (zO O) (zL O (zH (o:=2) O) (zL O (zAJ (v:=lv) O (hlb.φ.cell O) (hlb.far _ qW) qN) (zL O zS (zL O zS (zL O (zO O) (zL O (zH (o:=0) O) (zL O (zH (o:=0) O) (zL O (zAJ (v:=Vn i) O (hlb.φ.cell O) (hlb.far _ qW) qN) (zL O (xl (c:=((k - i:Nat):Int)) O O (ws V V)) ?_))))))))))))
  refine zL O (xl (c:=((k - i - 1:Nat):Int)) O O (ws (a:=k - i) (b:=1) V V)) (zL O (zDC (pR hlv) 5 (k - i - 1) es.length qN O ⟨_,O⟩ O V V) ?_)
  have hs1_:=Rd.dropL_f (g:=EntD.cells) (xs:=es) (sz:=5) (fun _=>rfl) hlv (l:=k - i - 1) V
  refine zL O yO (xi (zC (zD O (zD O (zD O (zp (pR hs1_) O O (zOe (c:=min n (((es.drop (k - i - 1)).length:Nat):Int)) O O (zQu _ _) O (kW (pR hs1_) 5 0 ((min n (((es.drop (k - i - 1)).length:Nat):Int)).toNat) qN O O ⟨_,(show Value.int .i64 _=Value.int .i64 _ by congr 1;omega)⟩ V V O ?_))))))))
  have hs2_:=Rd.subL_f (g:=EntD.cells) (xs:=(es.drop (k - i - 1))) (sz:=5) (fun _=>rfl) hs1_ (l:=0) (h:=(min n (((es.drop (k - i - 1)).length:Nat):Int)).toNat) V V
  refine a_call O O (fun w' hw=>(zB0 (y3 (y3 lv (k - i - 1) es.length 5) 0 ((min n (((es.drop (k - i - 1)).length:Nat):Int)).toNat) 5) (((es.drop (k - i - 1)).take ((min n (((es.drop (k - i - 1)).length:Nat):Int)).toNat)).drop 0) w' qS (fun e he=>by have:=LG.data hg e (List.mem_of_mem_drop (List.mem_of_mem_take (List.mem_of_mem_drop he)));omega) (hw.rd0 hs2_) (jn (zC7 (jn (fun p hp=>EntD.rd.at0 (all_hlv p hp) hw))))).mono ?_)
  rintro r3_ w1 ⟨_,es4_,rfl,hf8_6,hO⟩
  refine O2 ?_ (hw.qi hO)
  refine zI O (zI O (zA ?_))
  exact zU (xz (v:=r3_) (v':=Vi 0) O O O (fun w' hw=>⟨r3_,es4_,0,O,by rw[LG.fromE_eq,if_neg V,if_neg V,if_neg V,hf8_6,List.drop_zero,List.map_take,List.map_drop];congr 1;rw[List.take_eq_take_iff];simp;omega,hw⟩))
theorem zK1(i t:Nat)(v:Value)(m:List EntD)(w:World)(hl:zi m.length)(hx:∀ e∈m,e.wf)(hi:i<18446744073709551616)(hv:Rd w [] (Res.sl v m.length (m.flatMap EntD.cells)))(all_hv:∀ p∈m,EntD.rd p w []):Rets Tryz.prog 64 #[.agg #[Vn i,Vn t],v] w fun u_ w'=>u_= .bool (decide (folA i t (m.map EntD.toEntA)))∧Own w [] [] w':=by
  refine zW Tryz.func64 O Tryz.ntmps64 (Own.start w) ?_
  refine zC (z8 O O (fun b2=>zI O (zA (zP (zC (zD O (zp (pR hv) O O (zD O (zA (zZ ?_))))))))))
  refine x3 (fun(k:Nat) (j:Nat) (u:Nat)=>[(2, .pointer (some ⟨b2,0,none⟩)),(9,v),(10,Vj m.length),(11,Vj k)]) (fun(k:Nat) (j:Nat) (u:Nat)=>(k≤m.length∧j<18446744073709551616)∧folA i t ((m.take k).map EntD.toEntA)∧j=jQ i ((m.take k).map EntD.toEntA)∧u=xm t ((m.take k).map EntD.toEntA)) (fun(k:Nat) (j:Nat) (u:Nat)=>[Res.row b2 142 [Vn j,Vn u]]) (fun(k:Nat) (j:Nat) (u:Nat)=>m.length - k) (fun w' hw=>⟨0,i,t,⟨O,O,O,O,trivial⟩,⟨⟨Nat.zero_le _,hi⟩,trivial,O,O⟩,hw⟩) (fun k j u g hΦ=> ?_)
  refine zC (yI O O O (zA (zP (za O (fun c1=> ?_) (fun c1=> ?_)))))
  ·refine zQ (zP (zZ (zC (zk (pR hv) 5 k O O O V O (kP (pR hv) 5 k (off:=xH v+k*5) (fun _=>O) O O V O (yC (v:= .agg #[Vn 0,Vn 0,Vi 0,Vi 0, .slice none 0 0]) qN O (fun b6=>zo 1 O O O (zF O (zF O (zF O (zF O (zF (Sl.cell1 (Rd.φ ((all_hv _ (zd V)).dv))) zh))))) O (zA (zP (zC (yL (cs:=(EntD.cells (zG m k))) 1 O O O (a_call O O (fun w' hw=> ?_)))))))))))))
   refine(zHQ (zG m k) w' (hx _ (zd V)) ((all_hv _ (zd V)).at0 hw)).mono ?_
   rintro _ w1 ⟨r1_,rfl,hO⟩
   refine O3 ?_ (hw.qi hO)
   refine zD O (yA (vs:=[r1_,Vi (yE (zG m k).ok)]) O O O (yA (vs:=[r1_,Vi (yE (zG m k).ok)]) O O O (zI O (zI O (zA (zC (zD O (xn O O O (zD O (yj (q:=(yE (zG m k).ok)≠0) 6 2 [28,27,26,25,24,23] ((((zG m k).index:Nat):Int)≠(((j+1)%18446744073709551616:Nat):Int)) O O O O O O trivial O (fun h5_2=> ?_) (fun g5_9=> ?_)))))))))))
   ·refine zR O (gF h5_2) (zK (o:=0) O O (zR O (gF h5_2) (zM 1 (v:=Vn ((zG m k).index)) O O O O (zR O (gF h5_2) (zK (o:=0) O O (zR O (gF h5_2) (zM 0 (v:=Vn j) O O O O (zR O (gF h5_2) (zt (c:=(((j+1)%18446744073709551616:Nat):Int)) O O (zRL _ _) O (zR O (gF h5_2) (xn O O O ?_)))))))))))
    exact yN O (fun _ hw=>hw)
   refine zD O (yj (q:=((yE (zG m k).ok)≠0)∨((((zG m k).index:Nat):Int)≠(((j+1)%18446744073709551616:Nat):Int))) 5 10 [35,34,33,32,31] ((((zG m k).term:Nat):Int)<((u:Nat):Int)) O O O O O O trivial O (fun h5_10=> ?_) (fun g5_16=> ?_))
   ·refine zR O (gF h5_10) (zK (o:=1) O O (zR O (gF h5_10) (zM 1 (v:=Vn ((zG m k).term)) O O O O (zR O (gF h5_10) (zK (o:=1) O O (zR O (gF h5_10) (zM 0 (v:=Vn u) O O O O (zR O (gF h5_10) (yI O O O ?_)))))))))
    exact yN O (fun _ hw=>hw)
   refine zA (za O (fun c2=> ?_) (fun c2=> ?_))
   ·refine zC (zI O (zA ?_))
    exact zU (z9 (v:= .bool false) O O (fun w' hw=>⟨(by rw[decide_eq_false];exact zPk V hΦ.2.1 hΦ.2.2.1 hΦ.2.2.2 (fun q=>by have q1:=q.1.1;have q2:=errOf_zero.2 q.1;have q3:=q1.2.1.1;omega)),hw.drop⟩))
   have hok:=errOf_zero.1 (show yE (zG m k).ok=0 by omega)
   have hok1:=hok.1.1.1
   refine zQ (zV (zK (o:=0) O O (zM 1 (v:=Vn ((zG m k).index)) O O O O (zK (o:=1) O O (zM 1 (v:=Vn ((zG m k).term)) O O O O (yh (cs:=[Vn ((zG m k).index),Vn ((zG m k).term)]) (z:=[Vn 0,Vn 0]) (pl:=[(0,1),(1,1)]) qN qN O (zo 0 O O O (xO O) O (zA (zV (zt O O (zr V) O (zD O ?_)))))))))))
   exact zg (fun w' hw=>⟨k+1,(zG m k).index,(zG m k).term,⟨O,O,O,O,trivial⟩,⟨⟨by omega,(hx _ (zd V)).index⟩,(zBv V hΦ.2.1 hΦ.2.2.1 hΦ.2.2.2).1.2 ⟨errOf_zero.1 V,by omega,by omega⟩,(zBv V hΦ.2.1 hΦ.2.2.1 hΦ.2.2.2).2.1 V,(zBv V hΦ.2.1 hΦ.2.2.1 hΦ.2.2.2).2.2⟩,hw.sel [0] O qM,V⟩)
  refine yF O (zC (zI O (zA ?_)))
  exact zU (z9 (v:= .bool true) O O (fun w' hw=>⟨(by rw[decide_eq_true];have h:=hΦ.2.1;rwa [List.take_of_length_le V]at h),hw.drop⟩))
theorem zDW{S:List Nat}(lb i t:Nat)(lv:Value)(es:List EntD)(index term:Nat)(v:Value)(m:List EntD)(w:World)(hl:es.length+m.length≤100000000000)(hg:(LG i t es).good)(hx:∀ e∈m,e.wf)(hi:index<18446744073709551616)(hin:Own w S [Res.row lb 144 [Vn i,Vn t,lv],Res.vec 81 5 lv es.length (es.flatMap EntD.cells),Res.star (es.map EntD.dres)] w)(hv:Rd w S (Res.sl v m.length (m.flatMap EntD.cells)))(all_hv:∀ p∈m,EntD.rd p w S):Rets Tryz.prog 28 #[.pointer (some ⟨lb,0,none⟩),Vn index,Vn term,v] w fun u_ w'=>∃ (lv':Value) (es':List EntD) (x:Nat) (y:Nat) (e:Int),u_= .tuple #[Vn x,Vn y,Vi e]∧LG i t es'=(LG i t es).append index term (m.map EntD.toEntA)∧(LG i t es).ans index term (m.map EntD.toEntA)=(x,y,e)∧Own w S [Res.row lb 144 [Vn i,Vn t,lv'],Res.vec 81 5 lv' es'.length (es'.flatMap EntD.cells),Res.star (es'.map EntD.dres)] w':=by
  have hb:=(LG.le hg).1
  refine zW Tryz.func28 O Tryz.ntmps28 hin ?_
  refine zC (zI O (zI O (zI O (zA (zP (zZ (zC (zD O (xf qN O O O (zI O (zA (xx O ?_))))))))))))
  refine zC (zD O (zD O (yh (cs:=[Vn index,Vn term]) (z:=[Vn 0,Vn 0]) (pl:=[(0,1),(1,1)]) qN qN O (zD O (a_call O O (fun w' hw=>(zK1 index term v m w' qP ‹_› qO (hw.rd0 hv) (fun p hp=>EntD.rd.at0 (all_hv p hp) hw)).mono ?_))))))
  rintro _ w1 ⟨rfl,hO⟩
  refine O3 ?_ (hw.qi hO)
  refine xB (q:=folA index term (m.map EntD.toEntA)) O O (zI O (zA (za O (fun c2=> ?_) (fun c2=> ?_))))
  ·refine zC (zI O (zI O (zI O (zA ?_))))
   exact zU (zFV (v:=Vn 0) (v':=Vn 0) (v'':=Vi 2) O O O O (fun w' hw=>⟨lv,es,0,0,2,O,(zFl c2).1,(zFl c2).2,hw⟩))
  refine zC (zD O (zD O (zD O (a_call O O (fun w' hw=>(zCz lb i t lv es index term w' qP qO qO (hw.rdRes0 0 O) (hw.qq 1 O) (EntD.rd.star0 2 O hw)).mono ?_)))))
  rintro _ w1 ⟨rfl,hO⟩
  refine O3 ?_ (hw.qi hO)
  refine xB (q:=(LG i t es).fits index term) O O (zI O (zA (za O (fun c3=> ?_) (fun c3=> ?_))))
  ·refine zC (zI O (zI O (zI O (zA ?_))))
   exact zU (zFV (v:=Vn 0) (v':=Vn 0) (v'':=Vi 12) O O O O (fun w' hw=>⟨lv,es,0,0,12,O,(zIf (Decidable.not_not.1 c2) c3).1,(zIf (Decidable.not_not.1 c2) c3).2,hw⟩))
  have hi3:=(LogA.fits_end (Decidable.not_not.1 c3)).1
  rw[LG.last_eq]at hi3
  have hi3':i≤index:=hi3.1
  refine zQ (zP (zC (zD O (zp (pR hv) O O (zD O (zA (zZ ?_)))))))
  refine xT (fun(k:Nat)=>[(0, .pointer (some ⟨lb,0,none⟩)),(1,Vn index),(3,v),(9,Vn 0),(29,v),(30,Vj m.length),(31,Vj k)]) (fun(k:Nat)=>k≤m.length∧∀ e∈m.take k,(LG i t es).fits e.index e.term) (fun(k:Nat)=>[Res.row lb 144 [Vn i,Vn t,lv],Res.vec 81 5 lv es.length (es.flatMap EntD.cells),Res.star (es.map EntD.dres)]) (fun(k:Nat)=>m.length - k) (fun w' hw=>⟨0,⟨O,O,O,O,O,O,O,trivial⟩,⟨Nat.zero_le _,by simp⟩,hw⟩) (fun k g hΦ=> ?_)
  refine zC (yI O O O (zA (zP (za O (fun c4=> ?_) (fun c4=> ?_)))))
  ·have hxk:=(hx _ (zd (l:=m) (j:=k) V)).index
   refine zQ (zP (zZ (zC (zD O (zk (pR hv) 5 k O O O V O (kP (pR hv) 5 k (off:=xH v+k*5) (fun _=>O) O O V O (yC (v:= .agg #[Vn 0,Vn 0,Vi 0,Vi 0, .slice none 0 0]) qN O (fun b12=>zI O (zo 3 O O O (zF O (zF O (zF O (zF O (zF (Sl.cell1 (Rd.φ ((all_hv _ (zd V)).dv))) zh))))) O (zA (zP (zC ?_))))))))))))
   refine zD O (zK (o:=0) O O (zM 3 (v:=Vn ((zG m k).index)) O O O O (zK (o:=1) O O (zM 3 (v:=Vn ((zG m k).term)) O O O O (a_call O O (fun w' hw=>(zCz lb i t lv es ((zG m k).index) ((zG m k).term) w' qP qO qO (hw.rdRes0 0 O) (hw.qq 1 O) (EntD.rd.star0 2 O hw)).mono ?_))))))
   rintro _ w1 ⟨rfl,hO⟩
   refine O4 ?_ (hw.qi hO)
   refine zA (za O (fun c5=> ?_) (fun c5=> ?_))
   ·refine yF O (zV (zt O O (zr V) O (zD O ?_)))
    exact zg (fun w' hw=>⟨k+1,⟨O,O,O,O,O,O,O,trivial⟩,⟨by omega,by rw[zu V];intro v hv;rcases List.mem_append.1 hv with h|h;exact hΦ.2 v h;simp at h;rw[h];exact c5⟩,hw.sel [0,1,2] O qM,V⟩)
   have hm:=Decidable.not_not.1 c2
   have hf:=Decidable.not_not.1 c3
   have hp:=zHf hm hf V hΦ.2 c5
   refine zQ (zP (ze [1,3] O qM qN (fun w' hw hS=>zB 0 O zS hS (zB 1 O zS hS (zB 2 O (zO O) hS (zB 3 O (zH (o:=2) O) hS (zB 5 O (zH (o:=0) O) hS (zB 6 O (zY 1 (v:=Vn ((zG m k).index)) O O O) hS (zB 7 O zS hS (zB 8 O (zO O) hS (zB 9 O (zH (o:=0) O) hS (zB 10 O (zH (o:=0) O) hS ?_))))))))))))
   refine zB 16 O zS hS (zB 17 O zS hS ?_)
   have hs1_:=Rd.dropL_f (g:=EntD.cells) (xs:=m) (sz:=5) (fun _=>rfl) hv (l:=k) V
   refine zB 18 O (zDC (pR hv) 5 k m.length qN O ⟨_,O⟩ O V V) hS (zq 4 11 ?_ ?_)
   ·refine zl 4 O hw (zM 0 (v:=lv) O O O O (zE [1,3] O qM (fun w' hw hS=>zJ 11 O hw (zM 0 (v:=Vn i) O O O O (zE [1,3] O qM (fun w' hw hS=>zB 12 O (xl (c:=(((zG m k).index - i:Nat):Int)) O O (ws V V)) hS (zB 13 O (xl (c:=(((zG m k).index - i - 1:Nat):Int)) O O (ws (a:=(zG m k).index - i) (b:=1) V V)) hS (zB 14 O (zDC (pV 0 O) 5 0 ((zG m k).index - i - 1) qN O O ⟨_,O⟩ V V) hS (zJ 15 O hw (a_call O O (fun w' hw=>(zGi (y3 lv 0 ((zG m k).index - i - 1) 5) ((es.take ((zG m k).index - i - 1)).drop 0) w' qS (Rd.subL_f (g:=EntD.cells) (xs:=es) (sz:=5) (fun _=>O) (hw.qq 1 O) (l:=0) (h:=(zG m k).index - i - 1) V V) (jn (zC7 (EntD.rd.star0 2 O hw)))).mono ?_)))))))))))
    rintro r3_ w1 ⟨_,rfl,hO⟩
    refine O5 ?_ (hw.qi hO)
    refine zE [1,3] O qM (fun w' hw hS=>zJ 19 O hw (a_call O O (fun w' hw=>(zB0 (y3 v k m.length 5) (m.drop k) w' qS (fun x hx'=>(hx x (List.mem_of_mem_drop hx')).data) (hw.rd0 hs1_) (jn (fun p hp=>EntD.rd.at0 (all_hv p hp) hw))).mono ?_)))
    rintro r4_ w1 ⟨_,es5_,rfl,hf11_19,hO⟩
    have hl5:=congrArg List.length hf11_19;simp only[List.length_map,List.length_drop]at hl5
    refine O7 ?_ (hw.qi hO)
    refine zE [1,3] O qM (fun w' hw hS=>zJ 20 O hw ?_)
    refine zN (fun w' hw=>EntD.c1all (EntD.rd.star0 6 O hw)) (fun hc3_=> ?_)
    refine zy (g:=EntD.cells) (sz:=5) (by':=56) (fun _=>O) (l:=((es.take ((zG m k).index - i - 1)).drop 0)) (l':=es5_) hc3_ 4 qN O O O (fun w' hw'=>Vec.sl (Own.holds hw' 5 _ O)) qO qM O (fun v62=>zE [1,3] O qM (fun w' hw hS=>zB 21 O (zO O) hS (zB 22 O (zH (o:=2) O) hS (zJ 23 O hw ?_))))
    refine zN (fun w' hw=>Own.qg (i:=4) O hw) (fun hc4_=> ?_)
    refine zn (cs:=[Vn i,Vn t,lv]) 0 O O O hc4_ O (zE [1,3] O qM (fun w' hw hS=>zT ?_))
    refine Oc7 ?_ hw
    refine zC (zK (o:=0) O O (zM 3 (v:=Vn ((zG m k).index)) O O O O (zI O (zA (yF O (zC (zD O (zD O (zp (pR hv) O O (xt qN O (xA V) O ?_ qN))))))))))
    refine zt O O (xA V) O (zD O (zI O (zI O (zI O (zA ?_)))))
    exact zU (zFV (v:=Vn (index+m.length)) (v':=Vn ((zG m k).index)) (v'':=Vi 0) O O O O (fun w' hw=>⟨v62,((es.take ((zG m k).index - i - 1)).drop 0)++es5_,index+m.length,(zG m k).index,0,O,(zIF hm hf V hΦ.2 c5 (by rw[List.map_append,List.drop_zero,hf11_19,List.map_take,List.map_drop])).1,zIg hm hf V hΦ.2 c5,((((hw.starTake 2 ((zG m k).index - i - 1) O).starDrop 2 0 O).starApp 2 6 qM O O).sel [0,4,2] O qM)⟩))
   refine zl 11 O hw (zM 0 (v:=Vn i) O O O O (zE [1,3] O qM (fun w' hw hS=>zB 12 O (xl (c:=(((zG m k).index - i:Nat):Int)) O O (ws V V)) hS (zB 13 O (xl (c:=(((zG m k).index - i - 1:Nat):Int)) O O (ws (a:=(zG m k).index - i) (b:=1) V V)) hS (zJ 4 O hw (zM 0 (v:=lv) O O O O (zE [1,3] O qM (fun w' hw hS=>zB 14 O (zDC (pV 0 O) 5 0 ((zG m k).index - i - 1) qN O O ⟨_,O⟩ V V) hS (zJ 15 O hw (a_call O O (fun w' hw=>(zGi (y3 lv 0 ((zG m k).index - i - 1) 5) ((es.take ((zG m k).index - i - 1)).drop 0) w' qS (Rd.subL_f (g:=EntD.cells) (xs:=es) (sz:=5) (fun _=>O) (hw.qq 1 O) (l:=0) (h:=(zG m k).index - i - 1) V V) (jn (zC7 (EntD.rd.star0 2 O hw)))).mono ?_)))))))))))
   rintro r7_ w1 ⟨_,rfl,hO⟩
   refine O5 ?_ (hw.qi hO)
   refine zE [1,3] O qM (fun w' hw hS=>zJ 19 O hw (a_call O O (fun w' hw=>(zB0 (y3 v k m.length 5) (m.drop k) w' qS (fun x hx'=>(hx x (List.mem_of_mem_drop hx')).data) (hw.rd0 hs1_) (jn (fun p hp=>EntD.rd.at0 (all_hv p hp) hw))).mono ?_)))
   rintro r8_ w1 ⟨_,es9_,rfl,hf11_19,hO⟩
   have hl5:=congrArg List.length hf11_19;simp only[List.length_map,List.length_drop]at hl5
   refine O7 ?_ (hw.qi hO)
   refine zE [1,3] O qM (fun w' hw hS=>zJ 20 O hw ?_)
   refine zN (fun w' hw=>EntD.c1all (EntD.rd.star0 6 O hw)) (fun hc5_=> ?_)
   refine zy (g:=EntD.cells) (sz:=5) (by':=56) (fun _=>O) (l:=((es.take ((zG m k).index - i - 1)).drop 0)) (l':=es9_) hc5_ 4 qN O O O (fun w' hw'=>Vec.sl (Own.holds hw' 5 _ O)) qO qM O (fun v62=>zE [1,3] O qM (fun w' hw hS=>zB 21 O (zO O) hS (zB 22 O (zH (o:=2) O) hS (zJ 23 O hw ?_))))
   refine zN (fun w' hw=>Own.qg (i:=4) O hw) (fun hc6_=> ?_)
   refine zn (cs:=[Vn i,Vn t,lv]) 0 O O O hc6_ O (zE [1,3] O qM (fun w' hw hS=>zT ?_))
   refine Oc7 ?_ hw
   refine zC (zK (o:=0) O O (zM 3 (v:=Vn ((zG m k).index)) O O O O (zI O (zA (yF O (zC (zD O (zD O (zp (pR hv) O O (xt qN O (xA V) O ?_ qN))))))))))
   refine zt O O (xA V) O (zD O (zI O (zI O (zI O (zA ?_)))))
   exact zU (zFV (v:=Vn (index+m.length)) (v':=Vn ((zG m k).index)) (v'':=Vi 0) O O O O (fun w' hw=>⟨v62,((es.take ((zG m k).index - i - 1)).drop 0)++es9_,index+m.length,(zG m k).index,0,O,(zIF hm hf V hΦ.2 c5 (by rw[List.map_append,List.drop_zero,hf11_19,List.map_take,List.map_drop])).1,zIg hm hf V hΦ.2 c5,((((hw.starTake 2 ((zG m k).index - i - 1) O).starDrop 2 0 O).starApp 2 6 qM O O).sel [0,4,2] O qM)⟩))
  refine yF O (zC (zD O (zD O (zp (pR hv) O O (xt qN O (xA V) O ?_ qN)))))
  refine zt O O (xA V) O (zD O (zI O (zI O (zI O (zA ?_)))))
  exact zU (zFV (v:=Vn (index+m.length)) (v':=Vn 0) (v'':=Vi 0) O O O O (fun w' hw=>⟨lv,es,index+m.length,0,0,O,(put_none (Decidable.not_not.1 c2) (Decidable.not_not.1 c3) (by have h:=hΦ.2;rwa [List.take_of_length_le V]at h)).1,(put_none (Decidable.not_not.1 c2) (Decidable.not_not.1 c3) (by have h:=hΦ.2;rwa [List.take_of_length_le V]at h)).2,hw⟩))
theorem zKY(lb i t:Nat)(lv:Value)(es:List EntD)(k u:Nat)(w:World)(hl:zi es.length)(hlb:Rd w [] (Res.row lb 144 [Vn i,Vn t,lv]))(hlv:Rd w [] (Res.sl lv es.length (es.flatMap EntD.cells)))(all_hlv:∀ p∈es,EntD.rd p w []):Rets Tryz.prog 172 #[.pointer (some ⟨lb,0,none⟩),Vn k,Vn u] w fun u_ w'=>∃ (x:Nat) (y:Nat),u_= .tuple #[Vn x,Vn y]∧(LG i t es).hint k u=(x,y)∧Own w [] [] w':=by
  refine zW Tryz.func172 O Tryz.ntmps172 (Own.start w) ?_
  refine zC (zI O (zI O (zA (zP (zC (zD O (xf qN O O O (zA (xx O (zQ (zP (zC ?_))))))))))))
  refine zD O (zb O O (zK (o:=2) O O (kQ (v:=lv) O (hlb.φ.cell O) (hlb.far _ qW) qN O (zp (pR hlv) O O (x8 O O (zr V) O (zI O (zA (zZ ?_))))))))
  refine xT (fun(k':Nat)=>[(0, .pointer (some ⟨lb,0,none⟩)),(1,Vn k),(2,Vn u),(8,Vi ((k':Int) - 1))]) (fun(k':Nat)=>k'≤es.length∧(LG i t es).hint k u=(LG i t es).hintN k u k') (fun(k':Nat)=>[]) (fun(k':Nat)=>k') (fun w' hw=>⟨es.length,⟨O,O,O,O,trivial⟩,⟨Nat.le_refl _,by unfold LogA.hint;rw[List.length_map]⟩,hw⟩) (fun k' g hΦ=> ?_)
  refine zP (zC (zD O (kK O O O (zA (za O (fun c2=> ?_) (fun c2=> ?_))))))
  ·refine zQ (zP (zZ (zC (zD O (zb O O (zK (o:=2) O O (kQ (v:=lv) O (hlb.φ.cell O) (hlb.far _ qW) qN O (zD O (zk (pR hlv) 5 (k' - 1) O O V V O (kP (pR hlv) 5 (k' - 1) (off:=xH lv+(k' - 1)*5) (fun _=>O) O O V O (yC (v:= .agg #[Vn 0,Vn 0,Vi 0,Vi 0, .slice none 0 0]) qN O (fun b9=>zo 0 O O O (zF O (zF O (zF O (zF O (zF (Sl.cell1 (Rd.φ ((all_hlv _ (zd V)).dv))) zh))))) O ?_))))))))))))
   refine zA (zC (zK (o:=0) O O (zM 0 (v:=Vn ((zG es (k' - 1)).index)) O O O O (zD O (x6 O O O (zD O (yJ (q:=(((zG es (k' - 1)).index:Nat):Int)≤((k:Nat):Int)) 4 4 [37,36,35,34] ((((zG es (k' - 1)).term:Nat):Int)≤((u:Nat):Int)) O O O O O O trivial O (fun h7_4=> ?_) (fun g7_9=> ?_))))))))
   ·refine zR O (gT h7_4) (zK (o:=1) O O (zR O (gT h7_4) (zM 0 (v:=Vn ((zG es (k' - 1)).term)) O O O O (zR O (gT h7_4) (zD O (zR O (gT h7_4) (x6 O O O ?_)))))))
    exact yN O (fun _ hw=>hw)
   refine zA (za O (fun c3=> ?_) (fun c3=> ?_))
   ·refine yb qN qN (zL O (zH (o:=0) O) (zL O (zY 0 (v:=Vn ((zG es (k' - 1)).index)) O O O) (zL O (zH (o:=1) O) (zL O (zY 0 (v:=Vn ((zG es (k' - 1)).term)) O O O) (zL O yO (zL O yO (xi ?_)))))))
    exact zU (xz (v:=Vn ((zG es (k' - 1)).index)) (v':=Vn ((zG es (k' - 1)).term)) O O O (fun w' hw=>⟨(zG es (k' - 1)).index,(zG es (k' - 1)).term,O,by rw[hΦ.2,zMS V hΦ.1 V],hw.drop⟩))
   refine zQ (zV (zD O (x8 O O (zr V) O (zI O ?_))))
   exact zg (fun w' hw=>⟨k' - 1,⟨O,O,O,(congrArg (Value.int .i64) (show(((k':Int) - 1) - 1)=(((k' - 1:Nat):Int) - 1)by omega)),trivial⟩,⟨by omega,by rw[hΦ.2,zJd V hΦ.1 V]⟩,hw.sel [] O qM,V⟩)
  refine yF O (yb qN qN (zL O zS (zL O (zO O) (zL O (zH (o:=0) O) (zL O (zH (o:=0) O) (zL O (zAJ (v:=Vn i) O (hlb.φ.cell O) (hlb.far _ qW) qN) (zL O zS (zL O (zO O) (zL O (zH (o:=0) O) (zL O (zH (o:=1) O) (zL O (zAJ (v:=Vn t) O (hlb.φ.cell O) (hlb.far _ qW) qN) (zL O yO ?_))))))))))))
  refine zL O yO (xi ?_)
  exact zU (xz (v:=Vn i) (v':=Vn t) O O O (fun w' hw=>⟨i,t,O,zJu hΦ.2 V,hw.drop⟩))
theorem zPv{S:List Nat}(lb i t:Nat)(lv:Value)(es:List EntD)(w:World)(hl:es.length≤100000000000)(hg:(LG i t es).good)(hin:Own w S [Res.row lb 144 [Vn i,Vn t,lv],Res.vec 81 5 lv es.length (es.flatMap EntD.cells),Res.star (es.map EntD.dres)] w):Rets Tryz.prog 56 #[.pointer (some ⟨lb,0,none⟩)] w fun u_ w'=>∃ (b:Nat) (lv':Value) (es':List EntD),u_= .pointer (some ⟨b,0,none⟩)∧es'.map EntD.toEntA=es.map EntD.toEntA∧Own w S [Res.row lb 144 [Vn i,Vn t,lv],Res.vec 81 5 lv es.length (es.flatMap EntD.cells),Res.star (es.map EntD.dres),Res.row b 144 [Vn i,Vn t,lv'],Res.vec 81 5 lv' es'.length (es'.flatMap EntD.cells),Res.star (es'.map EntD.dres)] w':=by
  refine zW Tryz.func56 O Tryz.ntmps56 hin ?_
  refine zC (zI O (zA (zP (zC (zD O (xf qN O O O (zA (xx O (zQ (zP (ze [0,1] O qM qN (fun w' hw hS=>zB 0 O zS hS ?_))))))))))))
  refine zB 1 O (zO O) hS (zB 2 O (zH (o:=0) O) hS (zB 3 O (zE9 0 [Vn i,Vn t] O O (kN 0 O) qN) hS (zB 4 O zS hS (zB 5 O (zO O) hS (zB 6 O (zH (o:=2) O) hS (zB 7 O (zY 0 (v:=lv) O O O) hS (zJ 8 O hw (a_call O O (fun w' hw=>(zB0 lv es w' V (fun e he=>by have:=LG.data hg e he;omega) (hw.qq 1 O) (EntD.rd.star0 2 O hw)).mono ?_)))))))))
  rintro r1_ w1 ⟨_,es2_,rfl,hf3_8,hO⟩
  refine O5 ?_ (hw.qi hO)
  refine zE [0,1] O qM (fun w' hw hS=>zJ 9 O hw ?_)
  refine zN (fun w' hw=>Own.qg (i:=3) O hw) (fun hc1_=> ?_)
  refine jK (cs:=[Vn i,Vn t,r1_]) (z:=[Vn 0,Vn 0, .slice none 0 0]) (pl:=[(0,2),(2,1)]) qN ⟨trivial,hc1_,trivial⟩ qN O (zE [0,1] O qM (fun w' hw hS=>zJ 10 O hw (z8 O O (fun b15=>zE [0,1] O qM (fun w' hw hS=>zB 11 O yO hS (zT ?_))))))
  refine Oc6 ?_ hw
  exact zU (z9 (v:= .pointer (some ⟨b15,0,none⟩)) O O (fun w' hw=>⟨b15,r1_,es2_,O,hf3_8,hw.sel [0,1,2,5,3,4] O qM⟩))
end Go.Proofs.YtkkeknmkipkbmaaGreat
