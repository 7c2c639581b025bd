import Derived.Test.YtmpaljnacfidaaaGreatDoorRlogA
import Derived.Test.YtmpaljnacfidaaaGreatDoorFwN
import Derived.Test.YtmpaljnacfidaaaGreatDoorFwR
import Derived.Test.YtmpaljnacfidaaaGreatDoorFw3
set_option linter.unusedSectionVars false
set_option linter.unusedSimpArgs false
set_option linter.unusedVariables false
set_option maxRecDepth 10000
namespace Go.Proofs.YtmpaljnacfidaaaGreatDoor
open Go Go.Sc Go.Proofs
abbrev LG(i t:Nat)(es:List EntD):LogA:=⟨i,t,es.map EntD.toEntA⟩
theorem LG.last_eq{i t:Nat}{es:List EntD}:(LG i t es).last=i+es.length:=by simp[LogA.last]
theorem LG.le{i t:Nat}{es:List EntD}(h:(LG i t es).good):i+es.length≤4611686018427387904∧t≤4611686018427387904∧(LG i t es).end_≤4611686018427387904:=⟨LG.last_eq▸h.last_le,h.t,h.end_le⟩
theorem zFY{es:List EntD}{k:Nat}(h:k<es.length):zf (es.map EntD.toEntA) k=(zf es k).toEntA:=j2 h
theorem LG.data{i t:Nat}{es:List EntD}(h:(LG i t es).good):∀ e∈es,e.data.length≤4096:=fun e a=>(h.fol.ok _ (List.mem_map_of_mem (f:=EntD.toEntA) a)).1.2.2.2
theorem LG.termE_eq{i t k:Nat}{es:List EntD}:(LG i t es).termE k=if k<i then(0,13)else if k=i then(t,0)else if k≤i+es.length then((zf (es.map EntD.toEntA) (k - i - 1)).term,0)else(0,8):=by
  unfold LogA.termE;rw[LG.last_eq]
theorem LG.term_lo{i t k:Nat}{es:List EntD}(h:k<i):(LG i t es).termE k=(0,13):=if_pos h
theorem LG.term_at{i t k:Nat}{es:List EntD}(h:k=i):(LG i t es).termE k=(t,0):=by
  rw[LG.termE_eq,if_neg qE,if_pos h]
theorem LG.term_in{i t k j:Nat}{es:List EntD}(h:i<k)(h2:k≤i+es.length)(a:j=k - i - 1):(LG i t es).termE k=((zf es j).term,0):=by
  rw[LG.termE_eq,if_neg qE,if_neg qE,if_pos h2,←a,zFY qE]
theorem LG.term_hi{i t k:Nat}{es:List EntD}(h:i+es.length<k):(LG i t es).termE k=(0,8):=by
  rw[LG.termE_eq,if_neg qE,if_neg qE,if_neg qE]
theorem LG.fromE_eq{i t k:Nat}{n:Int}{es:List EntD}:(LG i t es).fromE k n=if k≤i then([],13)else if i+es.length+1<k then([],8)else if n<0 then([],1)else(((es.map EntD.toEntA).drop (k - i - 1)).take n.toNat,0):=by
  unfold LogA.fromE;rw[LG.last_eq]
theorem LG.end_eq{i t x:Nat}{e:Int}{es:List EntD}(h:(LG i t es).termE (i+es.length)=(x,e)):x=(LG i t es).end_:=by
  by_cases hl:es.length=0
  · rw[LG.term_at qE]at h
    cases h
    unfold LogA.end_;rw[List.eq_nil_of_length_eq_zero hl];rfl
  rw[LG.term_in (j:=es.length - 1) qE qE qE]at h
  cases h
  unfold LogA.end_;rw[zBW (by simpa using(by omega:0<es.length)),List.length_map,zFY qE]
theorem EntD.c1all{l:List EntD}{w:World}{S:List Nat}(h:∀ p∈l,EntD.rd p w S):∀ x∈l,∀ v∈EntD.cells x,cell1 v=true:=by
  intro x hx v hv
  simp only[EntD.cells,List.mem_cons,List.not_mem_nil,or_false]at hv
  rcases hv with rfl|rfl|rfl|rfl|rfl
  · rfl
  · rfl
  · rfl
  · rfl
  exact Sl.cell1 (Rd.φ (h x hx).dv)
theorem zBX{i t k j u:Nat}{m:List EntD}(c:k<m.length)(h:folA i t ((m.take k).map EntD.toEntA))(a:j=jw i ((m.take k).map EntD.toEntA))(b:u=j0 t ((m.take k).map EntD.toEntA)):
    (folA i t ((m.take (k+1)).map EntD.toEntA)↔(zf m k).ok∧(zf m k).index=j+1∧u≤(zf m k).term)∧((zf m k).index=j+1→(zf m k).index=jw i ((m.take (k+1)).map EntD.toEntA))∧(zf m k).term=j0 t ((m.take (k+1)).map EntD.toEntA):=by
  rw[yj c,List.map_append,List.map_cons,List.map_nil,folA.snoc,zDz]
  refine⟨⟨fun q=>⟨q.2.1,by rw[a];exact q.2.2.1,by rw[b];exact q.2.2.2⟩,fun q=>⟨h,q.1,by rw[←a];exact q.2.1,by rw[←b];exact q.2.2⟩⟩,fun q=> ?_,O⟩
  rw[q,a];simp only[jw,List.length_append,List.length_cons,List.length_nil];omega
theorem zQc{i t k j u:Nat}{m:List EntD}(a:k<m.length)(h:folA i t ((m.take k).map EntD.toEntA))(b:j=jw i ((m.take k).map EntD.toEntA))(c:u=j0 t ((m.take k).map EntD.toEntA))(d:¬((zf m k).ok∧(zf m k).index=j+1∧u≤(zf m k).term)):¬ folA i t (m.map EntD.toEntA):=by
  intro q
  apply d
  rw[←(zBX a h b c).1,List.map_take]
  exact q.take _
theorem zGY{i t index term k:Nat}{es m:List EntD}(d:folA index term (m.map EntD.toEntA))(h:(LG i t es).fits index term)(b:k<m.length)(h1:∀ e∈m.take k,(LG i t es).fits e.index e.term)(h2:¬(LG i t es).fits (zf m k).index (zf m k).term):
    (LG i t es).kn (m.map EntD.toEntA)=k∧(zf m k).index=index+k+1∧i≤index+k∧index+k≤i+es.length:=by
  have a:(LG i t es).kn (m.map EntD.toEntA)=k:=(LG i t es).kn_of qL (fun e f=>by
    rw[←List.map_take]at f;obtain⟨x,j,rfl⟩:=List.mem_map.1 f;exact h1 x j) (fun _=>by rw[zFY b];exact h2)
  have g:=d.idx k (by simpa using b)
  rw[zFY b]at g
  have c:=(LogA.fits_end (zII d h)).1
  rw[a,LG.last_eq]at c
  have e:jw index ((m.map EntD.toEntA).take k)=index+k:=by unfold jw;simp;omega
  rw[e]at c
  exact⟨a,g,c⟩
theorem zH9{i t index term k:Nat}{es m es':List EntD}(b:folA index term (m.map EntD.toEntA))(c:(LG i t es).fits index term)(a:k<m.length)(h1:∀ e∈m.take k,(LG i t es).fits e.index e.term)(h2:¬(LG i t es).fits (zf m k).index (zf m k).term)
    (d:es'.map EntD.toEntA=(es.map EntD.toEntA).take ((zf m k).index - i - 1)++(m.map EntD.toEntA).drop k):LG i t es'=(LG i t es).append index term (m.map EntD.toEntA)∧(LG i t es).ans index term (m.map EntD.toEntA)=(index+m.length,(zf m k).index,0):=by
  have h:=(zGY b c a h1 h2).1
  constructor
  · unfold LogA.append LogA.put
    rw[if_pos ⟨b,c⟩,h,if_pos (by simpa using a),zFY a,←d]
  unfold LogA.ans LogA.put0
  rw[if_pos b,if_pos c,h,if_pos (by simpa using a),zFY a,List.length_map]
theorem zIJ{i t index term k:Nat}{es m:List EntD}(b:folA index term (m.map EntD.toEntA))(c:(LG i t es).fits index term)(a:k<m.length)(h1:∀ e∈m.take k,(LG i t es).fits e.index e.term)(h2:¬(LG i t es).fits (zf m k).index (zf m k).term):(LG i t es).ans index term (m.map EntD.toEntA)=(index+m.length,(zf m k).index,0):=by
  have h:=(zGY b c a h1 h2).1
  unfold LogA.ans LogA.put0
  rw[if_pos b,if_pos c,h,if_pos (by simpa using a),zFY a,List.length_map]
theorem put_none{i t index term:Nat}{es m:List EntD}(a:folA index term (m.map EntD.toEntA))(b:(LG i t es).fits index term)(h1:∀ e∈m,(LG i t es).fits e.index e.term):
    LG i t es=(LG i t es).append index term (m.map EntD.toEntA)∧(LG i t es).ans index term (m.map EntD.toEntA)=(index+m.length,0,0):=by
  have h:=LogA.put_same (x:=LG i t es) (m:=m.map EntD.toEntA) (fun e c=>by obtain⟨x,d,rfl⟩:=List.mem_map.1 c;exact h1 x d)
  constructor
  · unfold LogA.append;rw[if_pos ⟨a,b⟩,h.1]
  unfold LogA.ans;rw[if_pos a,if_pos b,h.2,List.length_map]
theorem zFP{x:LogA}{index term:Nat}{m:List EntA}(h:¬ folA index term m):x=x.append index term m∧x.ans index term m=(0,0,2):=
  ⟨by unfold LogA.append;rw[if_neg fun q=>h q.1],by unfold LogA.ans;rw[if_neg h]⟩
theorem zHk{x:LogA}{index term:Nat}{m:List EntA}(a:folA index term m)(h:¬ x.fits index term):x=x.append index term m∧x.ans index term m=(0,0,12):=
  ⟨by unfold LogA.append;rw[if_neg fun q=>h q.2],by unfold LogA.ans;rw[if_pos a,if_neg h]⟩
theorem zSd(i t:Nat)(w:World)(hi:i≤4611686018427387904)(j:t≤4611686018427387904):Rets Tryz.prog 151 #[Vn i,Vn t] w fun g d=>∃ (b:Nat),g= .pointer (some ⟨b,0,none⟩)∧Own w [] [Res.row b 457 [Vn i,Vn t,zW],Res.vec 130 5 zW ([]:List EntD).length (([]:List EntD).flatMap EntD.cells),Res.star (([]:List EntD).map EntD.dres)] d:=by
  refine zO Tryz.func151 O Tryz.ntmps151 (Own.start w) (zB (zG O (zA (zK (zB (zC O (zC O (zCP (c:=((max i t:Nat):Int)) O O (zJu _ _) O (yU O O O (zA (zT O (fun e=> ?_) (fun e=> ?_))))))))))))
  ·exact absurd e qE
  refine zN (zB (zC O (zC O (yG (cs:=[Vn i,Vn t]) (z:=[Vn 0,Vn 0]) (pl:=[(0,1),(1,1)]) qD qD O (yG (cs:=[Vn i,Vn t,zW]) (z:=[Vn 0,Vn 0,zW]) (pl:=[(0,2),(2,1)]) qD qD O (zj O O (fun a=>zG O (zA (zP (zn (v:= .pointer (some ⟨a,0,none⟩)) O O (fun d h=>⟨a,O,(zq h 130 5).qn⟩)))))))))))
theorem zPy(lb i t:Nat)(lv:Value)(es:List EntD)(w:World)(a:Rd w [] (Res.row lb 457 [Vn i,Vn t,lv]))(d:Rd w [] (Res.sl lv es.length (es.flatMap EntD.cells)))(b:∀ p∈es,EntD.rd p w []):Rets Tryz.prog 419 #[.pointer (some ⟨lb,0,none⟩)] w fun e c=>e= .tuple #[Vn i,Vn t]∧Own w [] [] c:=by
  refine zO Tryz.func419 O Tryz.ntmps419 (Own.start w) (zB (zG O (zG O (zA (zK (zB (zC O (yF qD O O O (zA (yT O (zN (yZ qD qD (zR O za (zR O (zX O) (zR O (zL (o:=0) O) (zR O (zL (o:=0) O) (zR O (zA3 (v:=Vn i) O (a.φ.cell O) (a.far _ qK) qD) (zR O za (zR O (zX O) (zR O (zL (o:=0) O) (zR O (zL (o:=1) O) (zR O (zA3 (v:=Vn t) O (a.φ.cell O) (a.far _ qK) qD) (zR O z7 (zR O z7 (xP (zP (yg (v:=Vn i) (v':=Vn t) O O O (fun c g=>⟨O,g.drop⟩))))))))))))))))))))))))))))
theorem zBm(lb i t:Nat)(lv:Value)(es:List EntD)(w:World)(hb:i+es.length≤4611686018427387904)(a:Rd w [] (Res.row lb 457 [Vn i,Vn t,lv]))(c:Rd w [] (Res.sl lv es.length (es.flatMap EntD.cells)))(b:∀ p∈es,EntD.rd p w []):Rets Tryz.prog 275 #[.pointer (some ⟨lb,0,none⟩)] w fun e d=>e=Vn (i+es.length)∧Own w [] [] d:=by
  refine zO Tryz.func275 O Tryz.ntmps275 (Own.start w) (zB (zG O (zA (yZ qD qD (zR O za (zR O (zX O) (zR O (zL (o:=0) O) (zR O (zL (o:=0) O) (zR O (zA3 (v:=Vn i) O (a.φ.cell O) (a.far _ qK) qD) (zR O za (zR O (zX O) (zR O (zL (o:=2) O) (zR O (zA3 (v:=lv) O (a.φ.cell O) (a.far _ qK) qD) (zR O (kM (pR c) O) (zR O (kP qD O (yp qE) qD) (zR O (xL O O (yp qE)) (zR O z7 (xP (zP (zn (v:=Vn (i+es.length)) O O (fun d g=>⟨O,g.drop⟩)))))))))))))))))))))
theorem _root_.Go.Sc.qM{p:Prop}(h:p:=by first|rfl|omega):p:=h
theorem zKa(lb i t:Nat)(lv:Value)(es:List EntD)(k:Nat)(w:World)(hl:zg es.length)(hb:i+es.length≤4611686018427387904)(y:k<18446744073709551616)(d:Rd w [] (Res.row lb 457 [Vn i,Vn t,lv]))(j:Rd w [] (Res.sl lv es.length (es.flatMap EntD.cells)))(h:∀ p∈es,EntD.rd p w []):Rets Tryz.prog 199 #[.pointer (some ⟨lb,0,none⟩),Vn k] w fun m l=>∃ (x:Nat) (e:Int),m= .tuple #[Vn x,Vi e]∧(LG i t es).termE k=(x,e)∧Own w [] [] l:=by
  refine zO Tryz.func199 O Tryz.ntmps199 (Own.start w) (zB (zG O (zG O (zA (zK (zU (zB (zC O (yF qD O O O (zG O (zA (yT O (zB (zC O (zC O (zV O O (zI (o:=0) O O (zI (o:=0) O O (zAF (v:=Vn i) O (d.φ.cell O) (d.far _ qK) qD O (zy O O O (zG O (zA (zT O (fun n=> ?_) (fun n=> ?_))))))))))))))))))))))))
  ·refine zB (zG O (zG O (zA (zP (yg (v:=Vn 0) (v':=Vi 13) O O O (fun l g=>⟨0,13,O,LG.term_lo qE,g.drop⟩))))))
  refine zB (zC O (zC O (zH O O (fun l g=>(zBm lb i t lv es l qF (g.rd0 d) (g.rd0 j) (fun p hp=>EntD.rd.at0 (h p hp) g)).mono ?_))))
  rintro _ q ⟨rfl,r⟩
  refine(?_:CL _ _ _ _ _ _ (Own w [] [])) q (g.qb r)
  refine yU O O O (zG O (zA (zT O (fun s=> ?_) (fun s=> ?_))))
  ·refine zB (zG O (zG O (zA (zP (yg (v:=Vn 0) (v':=Vi 8) O O O (fun l g=>⟨0,8,O,LG.term_hi qE,g.drop⟩))))))
  refine zB (zC O (zC O (zV O O (zI (o:=0) O O (zI (o:=0) O O (zAF (v:=Vn i) O (d.φ.cell O) (d.far _ qK) qD O (yR O O O (zG O (zA (zT O (fun u=> ?_) (fun u=> ?_)))))))))))
  ·refine zB (zC O (zV O O (zI (o:=0) O O (zI (o:=1) O O (zAF (v:=Vn t) O (d.φ.cell O) (d.far _ qK) qD O (zG O (zG O (zA (zP (yg (v:=Vn t) (v':=Vi 0) O O O (fun l g=>⟨t,0,O,LG.term_at qE,g.drop⟩)))))))))))
  refine zN (yZ qD qD (zR O za (zR O (zX O) (zR O (zL (o:=2) O) (zR O (zA3 (v:=lv) O (d.φ.cell O) (d.far _ qK) qD) (zR O za (zR O za (zR O (zX O) (zR O (zL (o:=0) O) (zR O (zL (o:=0) O) (zR O (zA3 (v:=Vn i) O (d.φ.cell O) (d.far _ qK) qD) (zR O (jO (c:=((k - i:Nat):Int)) O O (ws qE qE)) (zR O (jO (c:=((k - i - 1:Nat):Int)) O O (ws (a:=k - i) (b:=1) qE qE)) (zR O (kN (pR j) 5 (k - i - 1) O O O qE) (zR O (zL (o:=1) O) (zR O (zBy (pR j) 5 (k - i - 1) 1 (off:=yk lv+(k - i - 1)*5+1) (fun _=>O) O qM qE O) (zR O z7 (zR O z7 (xP (zP (yg (v:=Vn ((zf es (k - i - 1)).term)) (v':=Vi 0) O O O (fun l g=>⟨(zf es (k - i - 1)).term,0,O,LG.term_in qE qE O,g.drop⟩))))))))))))))))))))))
theorem zC3(lb i t:Nat)(lv:Value)(es:List EntD)(w:World)(hl:zg es.length)(hb:i+es.length≤4611686018427387904)(d:Rd w [] (Res.row lb 457 [Vn i,Vn t,lv]))(e:Rd w [] (Res.sl lv es.length (es.flatMap EntD.cells)))(a:∀ p∈es,EntD.rd p w []):Rets Tryz.prog 153 #[.pointer (some ⟨lb,0,none⟩)] w fun m c=>m= .tuple #[Vn (i+es.length),Vn ((LG i t es).end_)]∧Own w [] [] c:=by
  refine zO Tryz.func153 O Tryz.ntmps153 (Own.start w) (zB (zG O (zG O (zA (zK (zB (zC O (yF qD O O O (zA (yT O (zN (zB (zC O (zC O (zH O O (fun c b=>(zBm lb i t lv es c qF (b.rd0 d) (b.rd0 e) (fun p hp=>EntD.rd.at0 (a p hp) b)).mono ?_))))))))))))))))
  rintro _ j ⟨rfl,k⟩
  refine(?_:CL _ _ _ _ _ _ (Own w [] [])) j (b.qb k)
  refine zH O O (fun c b=>(zKa lb i t lv es (i+es.length) c qG qF qF (b.rd0 d) (b.rd0 e) (fun p hp=>EntD.rd.at0 (a p hp) b)).mono ?_)
  rintro _ j ⟨g,l,rfl,h,k⟩
  refine(?_:CL _ _ _ _ _ _ (Own w [] [])) j (b.qb k)
  refine zC O (zb (vs:=[Vn g,Vi l]) O O O (zb (vs:=[Vn g,Vi l]) O O O (zG O (zG O (zA (zB (zC O (zH O O (fun c b=>(zBm lb i t lv es c qF (b.rd0 d) (b.rd0 e) (fun p hp=>EntD.rd.at0 (a p hp) b)).mono ?_)))))))))
  rintro _ j ⟨rfl,k⟩
  refine(?_:CL _ _ _ _ _ _ (Own w [] [])) j (b.qb k)
  refine zC O (zG O (zG O (zA (zP (yg (v:=Vn (i+es.length)) (v':=Vn g) O O O (fun c b=>⟨(by rw[LG.end_eq h]),b.drop⟩))))))
theorem zE0(lb i t:Nat)(lv:Value)(es:List EntD)(k u:Nat)(w:World)(hl:zg es.length)(hb:i+es.length≤4611686018427387904)(x:k<18446744073709551616)(l:Rd w [] (Res.row lb 457 [Vn i,Vn t,lv]))(m:Rd w [] (Res.sl lv es.length (es.flatMap EntD.cells)))(a:∀ p∈es,EntD.rd p w []):Rets Tryz.prog 272 #[.pointer (some ⟨lb,0,none⟩),Vn k,Vn u] w fun o j=>o= .bool (decide ((LG i t es).fits k u))∧Own w [] [] j:=by
  refine zO Tryz.func272 O Tryz.ntmps272 (Own.start w) (zB (zG O (zA (zB (zC O (zC O (zH O O (fun j e=>(zKa lb i t lv es k j qG qF qF (e.rd0 l) (e.rd0 m) (fun p hp=>EntD.rd.at0 (a p hp) e)).mono ?_))))))))
  rintro _ r ⟨c,d,rfl,g,s⟩
  refine(?_:CL _ _ _ _ _ _ (Own w [] [])) r (e.qb s)
  refine zC O (zb (vs:=[Vn c,Vi d]) O O O (zb (vs:=[Vn c,Vi d]) O O O (zG O (zG O (zA (zB (zC O (yR O O O (zC O (yA (q:=d=0) 3 2 [20,19,18] (((c:Nat):Int)=((u:Nat):Int)) O O O O O O trivial O (fun b=> ?_) (fun n=> ?_)))))))))))
  ·refine zQ O (gT b) (zC O (zQ O (gT b) (zC O (zQ O (gT b) (yR O O O (z8 O (fun _ e=>e)))))))
  refine zG O (zA (zP (zn (v:= .bool (decide ((d=0)∧(((c:Nat):Int)=((u:Nat):Int))))) O O (fun j e=>⟨(by congr 1;exact decide_eq_decide.2 (by unfold LogA.fits;rw[g];exact⟨fun h=>⟨h.1,by have:=h.2;dsimp only;omega⟩,fun h=>⟨h.1,by have:=h.2;dsimp only at this;omega⟩⟩)),e.drop⟩))))
theorem _root_.Go.Sc.qQ{p:Prop}(h:p:=by simp[Value.cells,EntD.cells]):p:=h
theorem zC5(v:Value)(l:List EntD)(w:World)(hl:l.length≤100000000000)(hv:Rd w [] (Res.sl v l.length (l.flatMap EntD.cells)))(a:∀ p∈l,EntD.rd p w []):Rets Tryz.prog 273 #[v] w fun j c=>∃ (r:Value),j=r∧Own w [] [Res.vec 130 5 r l.length (l.flatMap EntD.cells)] c:=by
  refine zO Tryz.func273 O Tryz.ntmps273 (Own.start w) (zB (zG O (zA (zK (zB (zC O (zAg (len:=l.length) (cs:=(l.flatMap EntD.cells)) qD O O (fun c b=>Own.rd hv b) O (zA (ku O (fun h=> ?_) (fun h=> ?_))))))))))
  ·refine zB (zG O (zA (zP (zn (v:=zW) O O (fun c d=>⟨.slice none 0 0,O,by obtain⟨_,k⟩:=Sl.isNil hv.φ h;rw[List.eq_nil_of_length_eq_zero k];exact zq d 130 5⟩)))))
  refine zN (zB (yC (e:=130) (sz:=5) (vs:=[]) qD O O qQ V O (fun m=>zC O (yE (g:=EntD.cells) (sz:=5) (by':=56) (fun _=>O) (l:=[]) (l':=l) (EntD.c1all a) 0 qD O O O (fun c b=>Own.rd hv b) qF V O (fun i=>zG O (zA (zP (zn (v:=i) O O (fun c d=>⟨i,O,d⟩)))))))))
theorem zKE(x:EntD)(w:World)(k:x.data.length≤1000000000)(d:EntD.rd x w []):Rets Tryz.prog 416 #[.agg (EntD.cells x).toArray] w fun g e=>∃ (r:Value),g= .agg #[Vn x.index,Vn x.term,Vi x.kind,Vi x.delta,r]∧Own w [] [Res.vec 5 1 r x.data.length (x.data.map vb)] e:=by
  refine zO Tryz.func416 O Tryz.ntmps416 (Own.start w) (zB (zj O O (fun l=>zk (v:= .agg #[Vn 0,Vn 0,Vi 0,Vi 0,zW]) qD O (fun m=>zA (zB (zI (o:=4) O O (zJ 0 (v:=x.dv) O O O O (zH O O (fun e c=>(yu x.dv x.data e qG (c.rd0 d.dv)).mono ?_)))))))))
  rintro b h ⟨_,rfl,j⟩
  refine(?_:CL _ _ _ _ _ _ (Own w [] [_,_,_])) h (c.qb j)
  refine zI (o:=4) O O (zS (fun e c=>Own.qa (i:=2) O c) (fun a=>(zi (cs:=(EntD.cells x)) 0 O O O a O (zA (zB (z1 (cs:=[Vn x.index,Vn x.term,Vi x.kind,Vi x.delta,b]) 0 O O O (ze 1 O O O (zF O (zF O (zF O (zF O (zF a zh))))) O (zA (zP (xc (cs:=[Vn x.index,Vn x.term,Vi x.kind,Vi x.delta,b]) O O qD (Own.qc (i:=1) O) (fun e c=>⟨b,O,c.sel [2] O V⟩)))))))))))
theorem zBT(v:Value)(l:List EntD)(w:World)(hl:l.length≤100000000000)(s:∀ x∈l,x.data.length≤1000000000)(hv:Rd w [] (Res.sl v l.length (l.flatMap EntD.cells)))(a:∀ p∈l,EntD.rd p w []):Rets Tryz.prog 274 #[v] w fun u d=>∃ (r:Value) (es:List EntD),u=r∧es.map EntD.toEntA=l.map EntD.toEntA∧Own w [] [Res.vec 130 5 r es.length (es.flatMap EntD.cells),Res.star (es.map EntD.dres)] d:=by
  refine zO Tryz.func274 O Tryz.ntmps274 (Own.start w) (zB (zG O (zA (zB (zG O (zA (zK (zB (zC O (zo (pR hv) O O (zC O (zA (zU (xt (fun(k:Nat) (lv:Value) (es:List EntD)=>[(3,lv),(6,v),(7,Vj l.length),(8,Vj k)]) (fun(k:Nat) (lv:Value) (es:List EntD)=>k≤l.length∧es.map EntD.toEntA=(l.take k).map EntD.toEntA) (fun(k:Nat) (lv:Value) (es:List EntD)=>[Res.vec 130 5 lv es.length (es.flatMap EntD.cells),Res.star (es.map EntD.dres)]) (fun(k:Nat) (lv:Value) (es:List EntD)=>l.length - k) (fun d b=>⟨0,zW,[],⟨O,O,O,O,trivial⟩,⟨Nat.zero_le _,O⟩,(zq b 130 5).qn⟩) (fun k lv es g m=> ?_)))))))))))))))
  have q:es.length=min k l.length:=by have:=congrArg List.length m.2;simpa using this
  refine zB (zy O O O (zA (zK (zT O (fun y=> ?_) (fun y=> ?_)))))
  ·have z:=s _ (zx (l:=l) (j:=k) qE)
   refine zN (zK (zU (zB (yH (pR hv) 5 k O O O qE O (jC (pR hv) 5 k (off:=yk v+k*5) (fun _=>O) O O qE O (zk (v:= .agg #[Vn 0,Vn 0,Vi 0,Vi 0,zW]) qD O (fun b5=>ze 2 O O O (zF O (zF O (zF O (zF O (zF (Sl.cell1 (Rd.φ ((a _ (zx qE)).dv))) zh))))) O (zA (zd (zC O (z1 (cs:=(EntD.cells (zf l k))) 2 O O O (zH O O (fun d b=>((zKE (zf l k) d qF ((a _ (zx qE)).at0 b)).mono ?_))))))))))))))
   rintro _ w1 ⟨c,rfl,hO⟩
   refine(?_:CL _ _ _ _ _ _ (Own w [] [_,_,_,_])) w1 (b.qb hO)
   refine yC (e:=130) (sz:=5) (vs:=[.agg #[Vn ((zf l k).index),Vn ((zf l k).term),Vi ((zf l k).kind),Vi ((zf l k).delta),c]]) qD O O qQ V O (fun a0=>(zS (fun d b=>Own.qa (i:=3) O b) (fun h=>(yE (g:=EntD.cells) (sz:=5) (by':=56) (fun _=>O) (l:=es) (l':=[({(zf l k)with dv:=c}:EntD)]) (all_cons ((zF O (zF O (zF O (zF O (zF h zh)))))) qH) 0 qD O O O (fun d n=>Vec.sl (Own.holds n 4 _ O)) qF V O (fun o=>zG O (zA (zd (zr O O (zt qE) O (zC O (zw (fun d b=>⟨k+1,o,es++[({(zf l k)with dv:=c}:EntD)],⟨O,O,O,O,trivial⟩,⟨by omega,by rw[List.map_append,yj qE,List.map_append,m.2];rfl⟩,((b.qw (x:=({(zf l k)with dv:=c}:EntD)) 1 3 V O O).sel [0,1] O V),qE⟩)))))))))))
  refine zz O (zB (zC O (zG O (zA (zP (zn (v:=lv) O O (fun d b=>⟨lv,es,O,by rw[m.2,List.take_of_length_le qE],b⟩)))))))
theorem zFE(lb i t:Nat)(lv:Value)(es:List EntD)(k:Nat)(n:Int)(w:World)(hl:es.length≤100000000000)(hg:(LG i t es).good)(u:Rd w [] (Res.row lb 457 [Vn i,Vn t,lv]))(z:Rd w [] (Res.sl lv es.length (es.flatMap EntD.cells)))(j:∀ p∈es,EntD.rd p w []):Rets Tryz.prog 293 #[.pointer (some ⟨lb,0,none⟩),Vn k,Vi n] w fun u_ x=>∃ (r:Value) (rs:List EntD) (e:Int),u_= .tuple #[r,Vi e]∧(LG i t es).fromE k n=(rs.map EntD.toEntA,e)∧Own w [] [Res.vec 130 5 r rs.length (rs.flatMap EntD.cells),Res.star (rs.map EntD.dres)] x:=by
  have hb:=(LG.le hg).1
  refine zO Tryz.func293 O Tryz.ntmps293 (Own.start w) (zB (zG O (zG O (zA (zK (zU (zB (zC O (yF qD O O O (zC O (zQ O O (zC O (zQ O O (zy O O O (zQ O O (zC O (yA (q:=n<0) 7 5 [22,21,20,19,18,17,16] (((i:Nat):Int)<((k:Nat):Int)) O O O O O O ⟨_,O,O,O⟩ O (fun m=> ?_) (fun a4=> ?_))))))))))))))))))
  ·refine zQ O (gT m) (zC O (zQ O (gT m) (zC O (zQ O (gT m) (zV O O (zQ O (gT m) (zI (o:=0) O O (zQ O (gT m) (zI (o:=0) O O (zQ O (gT m) (zAF (v:=Vn i) O (u.φ.cell O) (u.far _ qK) qD O (zQ O (gT m) (yU O O O (z8 O (fun _ d=>d)))))))))))))))
  refine zQ O O (zC O (yA (q:=(n<0)∧(((i:Nat):Int)<((k:Nat):Int))) 5 14 [29,28,27,26,25] (((k:Nat):Int)≤(((i+es.length)+1:Nat):Int)) O O O O O O ⟨_,O,O,O⟩ O (fun s=> ?_) (fun a5=> ?_)))
  ·refine zQ O (gT s) (zC O (zQ O (gT s) (zC O (zQ O (gT s) (zH O O (fun x d=>(zBm lb i t lv es x qF (d.rd0 u) (d.rd0 z) (fun p hp=>EntD.rd.at0 (j p hp) d)).mono ?_))))))
   rintro _ w1 ⟨rfl,hO⟩
   refine O0 ?_ (d.qb hO)
   refine zQ O (gT s) (zr O O (yp qE) O (zQ O (gT s) (yq O O O (z8 O (fun _ d=>d)))))
  refine y2 O O (zG O (zA (zT O (fun c1=> ?_) (fun c1=> ?_))))
  ·refine zB (zG O (zG O (zA (zP (yg (v:=zW) (v':=Vi 1) O O O (fun x d=>⟨.slice none 0 0,[],1,O,by rw[LG.fromE_eq,if_neg qE,if_neg qE,if_pos qE];rfl,(Own.qn (zq d 130 5))⟩))))))
  refine zB (zC O (zC O (zV O O (zI (o:=0) O O (zI (o:=0) O O (zAF (v:=Vn i) O (u.φ.cell O) (u.far _ qK) qD O (yq O O O (zG O (zA (zT O (fun c2=> ?_) (fun c2=> ?_)))))))))))
  ·refine zB (zG O (zG O (zA (zP (yg (v:=zW) (v':=Vi 13) O O O (fun x d=>⟨.slice none 0 0,[],13,O,by rw[LG.fromE_eq,if_pos qE];rfl,(Own.qn (zq d 130 5))⟩))))))
  refine zB (zC O (zC O (zH O O (fun x d=>(zBm lb i t lv es x qF (d.rd0 u) (d.rd0 z) (fun p hp=>EntD.rd.at0 (j p hp) d)).mono ?_))))
  rintro _ w1 ⟨rfl,hO⟩
  refine O0 ?_ (d.qb hO)
  refine zr O O (yp qE) O (yU O O O (zG O (zA (zT O (fun c3=> ?_) (fun c3=> ?_)))))
  ·refine zB (zG O (zG O (zA (zP (yg (v:=zW) (v':=Vi 8) O O O (fun x d=>⟨.slice none 0 0,[],8,O,by rw[LG.fromE_eq,if_neg qE,if_pos qE];rfl,(Own.qn (zq d 130 5))⟩))))))
  refine zN (yZ qD qD (zR O za (zR O (zX O) (zR O (zL (o:=2) O) (zR O (zA3 (v:=lv) O (u.φ.cell O) (u.far _ qK) qD) (zR O za (zR O za (zR O (zX O) (zR O (zL (o:=0) O) (zR O (zL (o:=0) O) (zR O (zA3 (v:=Vn i) O (u.φ.cell O) (u.far _ qK) qD) (zR O (jO (c:=((k - i:Nat):Int)) O O (ws qE qE)) (zR O (jO (c:=((k - i - 1:Nat):Int)) O O (ws (a:=k - i) (b:=1) qE qE)) (zR O (zAO (pR z) 5 (k - i - 1) es.length qD O ⟨_,O⟩ O qE qE) ?_))))))))))))))
  have y:=Rd.dropL_f (g:=EntD.cells) (xs:=es) (sz:=5) (fun _=>rfl) z (l:=k - i - 1) qE
  refine zR O z7 (xP (zB (zC O (zC O (zC O (zo (pR y) O O (zO2 (c:=min n (((es.drop (k - i - 1)).length:Nat):Int)) O O (zSb _ _) O (zBE (pR y) 5 0 ((min n (((es.drop (k - i - 1)).length:Nat):Int)).toNat) qD O O ⟨_,(show Value.int .i64 _=Value.int .i64 _ by congr 1;omega)⟩ qE qE O ?_))))))))
  have a1:=Rd.subL_f (g:=EntD.cells) (xs:=(es.drop (k - i - 1))) (sz:=5) (fun _=>rfl) y (l:=0) (h:=(min n (((es.drop (k - i - 1)).length:Nat):Int)).toNat) qE qE
  refine zH O O (fun x d=>(zBT (xa (xa lv (k - i - 1) es.length 5) 0 ((min n (((es.drop (k - i - 1)).length:Nat):Int)).toNat) 5) (((es.drop (k - i - 1)).take ((min n (((es.drop (k - i - 1)).length:Nat):Int)).toNat)).drop 0) x qI (fun e he=>by have:=LG.data hg e (List.mem_of_mem_drop (List.mem_of_mem_take (List.mem_of_mem_drop he)));omega) (d.rd0 a1) (jM (zDW (jM (fun p hp=>EntD.rd.at0 (j p hp) d))))).mono ?_)
  rintro a2 w1 ⟨_,a3,rfl,a0,hO⟩
  refine(?_:CL _ _ _ _ _ _ (Own w [] [_,_])) w1 (d.qb hO)
  refine zG O (zG O (zA (zP (yg (v:=a2) (v':=Vi 0) O O O (fun x d=>⟨a2,a3,0,O,by rw[LG.fromE_eq,if_neg qE,if_neg qE,if_neg qE,a0,List.drop_zero,List.map_take,List.map_drop];congr 1;rw[List.take_eq_take_iff];simp;omega,d⟩)))))
theorem zKf(i t:Nat)(v:Value)(m:List EntD)(w:World)(hl:zg m.length)(hx:∀ e∈m,e.wf)(hi:i<18446744073709551616)(hv:Rd w [] (Res.sl v m.length (m.flatMap EntD.cells)))(d:∀ p∈m,EntD.rd p w []):Rets Tryz.prog 271 #[.agg #[Vn i,Vn t],v] w fun u_ r=>u_= .bool (decide (folA i t (m.map EntD.toEntA)))∧Own w [] [] r:=by
  refine zO Tryz.func271 O Tryz.ntmps271 (Own.start w) (zB (zj O O (fun b2=>zG O (zA (zK (zB (zC O (zo (pR hv) O O (zC O (zA (zU (xt (fun(k:Nat) (j:Nat) (u:Nat)=>[(2, .pointer (some ⟨b2,0,none⟩)),(9,v),(10,Vj m.length),(11,Vj k)]) (fun(k:Nat) (j:Nat) (u:Nat)=>(k≤m.length∧j<18446744073709551616)∧folA i t ((m.take k).map EntD.toEntA)∧j=jw i ((m.take k).map EntD.toEntA)∧u=j0 t ((m.take k).map EntD.toEntA)) (fun(k:Nat) (j:Nat) (u:Nat)=>[Res.row b2 455 [Vn j,Vn u]]) (fun(k:Nat) (j:Nat) (u:Nat)=>m.length - k) (fun r l=>⟨0,i,t,⟨O,O,O,O,trivial⟩,⟨⟨Nat.zero_le _,hi⟩,trivial,O,O⟩,l⟩) (fun k j u g n=>(zB (zy O O O (zA (zK (zT O (fun c1=> ?_) (fun c1=> ?_)))))))))))))))))))
  ·refine zN (zK (zU (zB (yH (pR hv) 5 k O O O qE O (jC (pR hv) 5 k (off:=yk v+k*5) (fun _=>O) O O qE O (zk (v:= .agg #[Vn 0,Vn 0,Vi 0,Vi 0,zW]) qD O (fun b6=>ze 1 O O O (zF O (zF O (zF O (zF O (zF (Sl.cell1 (Rd.φ ((d _ (zx qE)).dv))) zh))))) O (zA (zK (zB (z1 (cs:=(EntD.cells (zf m k))) 1 O O O (zH O O (fun r l=>((zBO (zf m k) r (hx _ (zx qE)) ((d _ (zx qE)).at0 l)).mono ?_))))))))))))))
   rintro _ w1 ⟨s,rfl,hO⟩
   refine(?_:CL _ _ _ _ _ _ (Own w [] [_,_,_])) w1 (l.qb hO)
   refine zC O (zb (vs:=[s,Vi (yB (zf m k).ok)]) O O O (zb (vs:=[s,Vi (yB (zf m k).ok)]) O O O (zG O (zG O (zA (zB (zC O (yd O O O (zC O (yK (q:=(yB (zf m k).ok)≠0) 6 2 [28,27,26,25,24,23] ((((zf m k).index:Nat):Int)≠(((j+1)%18446744073709551616:Nat):Int)) O O O O O O trivial O (fun b=> ?_) (fun a0=> ?_)))))))))))
   ·refine zQ O (gF b) (zI (o:=0) O O (zQ O (gF b) (zJ 1 (v:=Vn ((zf m k).index)) O O O O (zQ O (gF b) (zI (o:=0) O O (zQ O (gF b) (zJ 0 (v:=Vn j) O O O O (zQ O (gF b) (zr (c:=(((j+1)%18446744073709551616:Nat):Int)) O O (zTV _ _) O (zQ O (gF b) (yd O O O (z8 O (fun _ l=>l)))))))))))))
   refine zC O (yK (q:=((yB (zf m k).ok)≠0)∨((((zf m k).index:Nat):Int)≠(((j+1)%18446744073709551616:Nat):Int))) 5 10 [35,34,33,32,31] ((((zf m k).term:Nat):Int)<((u:Nat):Int)) O O O O O O trivial O (fun a=> ?_) (fun x=> ?_))
   ·refine zQ O (gF a) (zI (o:=1) O O (zQ O (gF a) (zJ 1 (v:=Vn ((zf m k).term)) O O O O (zQ O (gF a) (zI (o:=1) O O (zQ O (gF a) (zJ 0 (v:=Vn u) O O O O (zQ O (gF a) (zy O O O (z8 O (fun _ l=>l)))))))))))
   refine zA (zT O (fun c2=> ?_) (fun c2=> ?_))
   ·refine zB (zG O (zA (zP (zn (v:=zu) O O (fun r l=>⟨(by rw[decide_eq_false];exact zQc qE n.2.1 n.2.2.1 n.2.2.2 (fun q=>by have q1:=q.1.1;have q2:=errOf_zero.2 q.1;have q3:=q1.2.1.1;omega)),l.drop⟩)))))
   have y:=errOf_zero.1 (show yB (zf m k).ok=0 by omega)
   have a1:=y.1.1.1
   refine zN (zd (zI (o:=0) O O (zJ 1 (v:=Vn ((zf m k).index)) O O O O (zI (o:=1) O O (zJ 1 (v:=Vn ((zf m k).term)) O O O O (yG (cs:=[Vn ((zf m k).index),Vn ((zf m k).term)]) (z:=[Vn 0,Vn 0]) (pl:=[(0,1),(1,1)]) qD qD O (ze 0 O O O (z6 O) O (zA (zd (zr O O (zt qE) O (zC O (zw (fun r l=>⟨k+1,(zf m k).index,(zf m k).term,⟨O,O,O,O,trivial⟩,⟨⟨by omega,(hx _ (zx qE)).index⟩,(zBX qE n.2.1 n.2.2.1 n.2.2.2).1.2 ⟨errOf_zero.1 qE,by omega,by omega⟩,(zBX qE n.2.1 n.2.2.1 n.2.2.2).2.1 qE,(zBX qE n.2.1 n.2.2.1 n.2.2.2).2.2⟩,l.sel [0] O V,qE⟩)))))))))))))
  refine zz O (zB (zG O (zA (zP (zn (v:=xl) O O (fun r l=>⟨(by rw[decide_eq_true];have h:=n.2.1;rwa [List.take_of_length_le qE]at h),l.drop⟩))))))
theorem zFq{S:List Nat}(lb i t:Nat)(lv:Value)(es:List EntD)(index term:Nat)(v:Value)(m:List EntD)(w:World)(hl:es.length+m.length≤100000000000)(hg:(LG i t es).good)(hx:∀ e∈m,e.wf)(hi:index<18446744073709551616)(ae:Own w S [Res.row lb 457 [Vn i,Vn t,lv],Res.vec 130 5 lv es.length (es.flatMap EntD.cells),Res.star (es.map EntD.dres)] w)(hv:Rd w S (Res.sl v m.length (m.flatMap EntD.cells)))(u:∀ p∈m,EntD.rd p w S):Rets Tryz.prog 152 #[.pointer (some ⟨lb,0,none⟩),Vn index,Vn term,v] w fun u_ n=>∃ (a8:Value) (a0:List EntD) (x:Nat) (y:Nat) (e:Int),u_= .tuple #[Vn x,Vn y,Vi e]∧LG i t a0=(LG i t es).append index term (m.map EntD.toEntA)∧(LG i t es).ans index term (m.map EntD.toEntA)=(x,y,e)∧Own w S [Res.row lb 457 [Vn i,Vn t,a8],Res.vec 130 5 a8 a0.length (a0.flatMap EntD.cells),Res.star (a0.map EntD.dres)] n:=by
  have hb:=(LG.le hg).1
  refine zO Tryz.func152 O Tryz.ntmps152 ae (zB (zG O (zG O (zG O (zA (zK (zU (zB (zC O (yF qD O O O (zG O (zA (yT O (zB (zC O (zC O (yG (cs:=[Vn index,Vn term]) (z:=[Vn 0,Vn 0]) (pl:=[(0,1),(1,1)]) qD qD O (zC O (zH O O (fun n d=>(zKf index term v m n qG ‹_› qF (d.rd0 hv) (fun p hp=>EntD.rd.at0 (u p hp) d)).mono ?_))))))))))))))))))))
  rintro _ w1 ⟨rfl,hO⟩
  refine(?_:CL _ _ _ _ _ _ (Own w S [_,_,_])) w1 (d.qb hO)
  refine xJ (q:=folA index term (m.map EntD.toEntA)) O O (zG O (zA (zT O (fun c2=> ?_) (fun c2=> ?_))))
  ·refine zB (zG O (zG O (zG O (zA (zP (jj (v:=Vn 0) (v':=Vn 0) (v'':=Vi 2) O O O O (fun n d=>⟨lv,es,0,0,2,O,(zFP c2).1,(zFP c2).2,d⟩)))))))
  refine zB (zC O (zC O (zC O (zH O O (fun n d=>(zE0 lb i t lv es index term n qG qF qF (d.rdRes0 0 O) (d.qh 1 O) (EntD.rd.star0 2 O d)).mono ?_)))))
  rintro _ w1 ⟨rfl,hO⟩
  refine(?_:CL _ _ _ _ _ _ (Own w S [_,_,_])) w1 (d.qb hO)
  refine xJ (q:=(LG i t es).fits index term) O O (zG O (zA (zT O (fun c3=> ?_) (fun c3=> ?_))))
  ·refine zB (zG O (zG O (zG O (zA (zP (jj (v:=Vn 0) (v':=Vn 0) (v'':=Vi 12) O O O O (fun n d=>⟨lv,es,0,0,12,O,(zHk (Decidable.not_not.1 c2) c3).1,(zHk (Decidable.not_not.1 c2) c3).2,d⟩)))))))
  have a9:=(LogA.fits_end (Decidable.not_not.1 c3)).1
  rw[LG.last_eq]at a9
  have af:i≤index:=a9.1
  refine zN (zK (zB (zC O (zo (pR hv) O O (zC O (zA (zU (yP (fun(k:Nat)=>[(0, .pointer (some ⟨lb,0,none⟩)),(1,Vn index),(3,v),(9,Vn 0),(29,v),(30,Vj m.length),(31,Vj k)]) (fun(k:Nat)=>k≤m.length∧∀ e∈m.take k,(LG i t es).fits e.index e.term) (fun(k:Nat)=>[Res.row lb 457 [Vn i,Vn t,lv],Res.vec 130 5 lv es.length (es.flatMap EntD.cells),Res.star (es.map EntD.dres)]) (fun(k:Nat)=>m.length - k) (fun n d=>⟨0,⟨O,O,O,O,O,O,O,trivial⟩,⟨Nat.zero_le _,by simp⟩,d⟩) (fun k g hΦ=>(zB (zy O O O (zA (zK (zT O (fun c4=> ?_) (fun c4=> ?_)))))))))))))))
  ·have ag:=(hx _ (zx (l:=m) (j:=k) qE)).index
   refine zN (zK (zU (zB (zC O (yH (pR hv) 5 k O O O qE O (jC (pR hv) 5 k (off:=yk v+k*5) (fun _=>O) O O qE O (zk (v:= .agg #[Vn 0,Vn 0,Vi 0,Vi 0,zW]) qD O (fun ah=>zG O (ze 3 O O O (zF O (zF O (zF O (zF O (zF (Sl.cell1 (Rd.φ ((u _ (zx qE)).dv))) zh))))) O (zA (zK (zB (zC O (zI (o:=0) O O (zJ 3 (v:=Vn ((zf m k).index)) O O O O (zI (o:=1) O O (zJ 3 (v:=Vn ((zf m k).term)) O O O O (zH O O (fun n d=>(zE0 lb i t lv es ((zf m k).index) ((zf m k).term) n qG qF qF (d.rdRes0 0 O) (d.qh 1 O) (EntD.rd.star0 2 O d)).mono ?_)))))))))))))))))))
   rintro _ w1 ⟨rfl,hO⟩
   refine(?_:CL _ _ _ _ _ _ (Own w S [_,_,_,_])) w1 (d.qb hO)
   refine zA (zT O (fun c5=> ?_) (fun c5=> ?_))
   ·refine zz O (zd (zr O O (zt qE) O (zC O (zw (fun n d=>⟨k+1,⟨O,O,O,O,O,O,O,trivial⟩,⟨by omega,by rw[yj qE];intro v hv;rcases List.mem_append.1 hv with h|h;exact hΦ.2 v h;simp at h;rw[h];exact c5⟩,d.sel [0,1,2] O V,qE⟩)))))
   have hm:=Decidable.not_not.1 c2
   have hf:=Decidable.not_not.1 c3
   have hp:=zGY hm hf qE hΦ.2 c5
   refine zN (zK (zc [1,3] O V qD (fun n d r=>zD 0 O za r (zD 1 O za r (zD 2 O (zX O) r (zD 3 O (zL (o:=2) O) r (zD 5 O (zL (o:=0) O) r (zD 6 O (zZ 1 (v:=Vn ((zf m k).index)) O O O) r (zD 7 O za r (zD 8 O (zX O) r (zD 9 O (zL (o:=0) O) r (zD 10 O (zL (o:=0) O) r (zD 16 O za r (zD 17 O za r ?_))))))))))))))
   have a1:=Rd.dropL_f (g:=EntD.cells) (xs:=m) (sz:=5) (fun _=>rfl) hv (l:=k) qE
   refine zD 18 O (zAO (pR hv) 5 k m.length qD O ⟨_,O⟩ O qE qE) r (z2 4 11 ?_ ?_)
   ·refine zm 4 O d (zJ 0 (v:=lv) O O O O (zE [1,3] O V (fun n d r=>zM 11 O d (zJ 0 (v:=Vn i) O O O O (zE [1,3] O V (fun n d r=>zD 12 O (jO (c:=(((zf m k).index - i:Nat):Int)) O O (ws qE qE)) r (zD 13 O (jO (c:=(((zf m k).index - i - 1:Nat):Int)) O O (ws (a:=(zf m k).index - i) (b:=1) qE qE)) r (zD 14 O (zAO (pV 0 O) 5 0 ((zf m k).index - i - 1) qD O O ⟨_,O⟩ qE qE) r (zM 15 O d (zH O O (fun n d=>(zC5 (xa lv 0 ((zf m k).index - i - 1) 5) ((es.take ((zf m k).index - i - 1)).drop 0) n qI (Rd.subL_f (g:=EntD.cells) (xs:=es) (sz:=5) (fun _=>O) (d.qh 1 O) (l:=0) (h:=(zf m k).index - i - 1) qE qE) (jM (zDW (EntD.rd.star0 2 O d)))).mono ?_)))))))))))
    rintro ai w1 ⟨_,rfl,hO⟩
    refine(?_:CL _ _ _ _ _ _ (Own w S [_,_,_,_,_])) w1 (d.qb hO)
    refine zE [1,3] O V (fun n d r=>zM 19 O d (zH O O (fun n d=>(zBT (xa v k m.length 5) (m.drop k) n qI (fun x a4=>(hx x (List.mem_of_mem_drop a4)).data) (d.rd0 a1) (jM (fun p hp=>EntD.rd.at0 (u p hp) d))).mono ?_)))
    rintro aj w1 ⟨_,a2,rfl,s,hO⟩
    have a5:=congrArg List.length s;simp only[List.length_map,List.length_drop]at a5
    refine(?_:CL _ _ _ _ _ _ (Own w S [_,_,_,_,_,_,_])) w1 (d.qb hO)
    refine zE [1,3] O V (fun n d r=>zM 20 O d (zS (fun n d=>EntD.c1all (EntD.rd.star0 6 O d)) (fun aa=>(yE (g:=EntD.cells) (sz:=5) (by':=56) (fun _=>O) (l:=((es.take ((zf m k).index - i - 1)).drop 0)) (l':=a2) aa 4 qD O O O (fun n a6=>Vec.sl (Own.holds a6 5 _ O)) qF V O (fun a7=>zE [1,3] O V (fun n d r=>zD 21 O (zX O) r (zD 22 O (zL (o:=2) O) r (zM 23 O d (zS (fun n d=>Own.qa (i:=4) O d) (fun ab=>(zi (cs:=[Vn i,Vn t,lv]) 0 O O O ab O (zE [1,3] O V (fun n d r=>zY ((?_:C _ _ _ _ _ _ _ (Own w S [_,_,_,_,_,_,_])) _ d))))))))))))))
    refine zB (zI (o:=0) O O (zJ 3 (v:=Vn ((zf m k).index)) O O O O (zG O (zA (zz O (zB (zC O (zC O (zo (pR hv) O O (ya qD O (yp qE) O ?_ qD))))))))))
    refine zr O O (yp qE) O (zC O (zG O (zG O (zG O (zA (zP (jj (v:=Vn (index+m.length)) (v':=Vn ((zf m k).index)) (v'':=Vi 0) O O O O (fun n d=>⟨a7,((es.take ((zf m k).index - i - 1)).drop 0)++a2,index+m.length,(zf m k).index,0,O,(zH9 hm hf qE hΦ.2 c5 (by rw[List.map_append,List.drop_zero,s,List.map_take,List.map_drop])).1,zIJ hm hf qE hΦ.2 c5,((((d.starTake 2 ((zf m k).index - i - 1) O).starDrop 2 0 O).starApp 2 6 V O O).sel [0,4,2] O V)⟩))))))))
   refine zm 11 O d (zJ 0 (v:=Vn i) O O O O (zE [1,3] O V (fun n d r=>zD 12 O (jO (c:=(((zf m k).index - i:Nat):Int)) O O (ws qE qE)) r (zD 13 O (jO (c:=(((zf m k).index - i - 1:Nat):Int)) O O (ws (a:=(zf m k).index - i) (b:=1) qE qE)) r (zM 4 O d (zJ 0 (v:=lv) O O O O (zE [1,3] O V (fun n d r=>zD 14 O (zAO (pV 0 O) 5 0 ((zf m k).index - i - 1) qD O O ⟨_,O⟩ qE qE) r (zM 15 O d (zH O O (fun n d=>(zC5 (xa lv 0 ((zf m k).index - i - 1) 5) ((es.take ((zf m k).index - i - 1)).drop 0) n qI (Rd.subL_f (g:=EntD.cells) (xs:=es) (sz:=5) (fun _=>O) (d.qh 1 O) (l:=0) (h:=(zf m k).index - i - 1) qE qE) (jM (zDW (EntD.rd.star0 2 O d)))).mono ?_)))))))))))
   rintro ak w1 ⟨_,rfl,hO⟩
   refine(?_:CL _ _ _ _ _ _ (Own w S [_,_,_,_,_])) w1 (d.qb hO)
   refine zE [1,3] O V (fun n d r=>zM 19 O d (zH O O (fun n d=>(zBT (xa v k m.length 5) (m.drop k) n qI (fun x a4=>(hx x (List.mem_of_mem_drop a4)).data) (d.rd0 a1) (jM (fun p hp=>EntD.rd.at0 (u p hp) d))).mono ?_)))
   rintro al w1 ⟨_,a3,rfl,s,hO⟩
   have a5:=congrArg List.length s;simp only[List.length_map,List.length_drop]at a5
   refine(?_:CL _ _ _ _ _ _ (Own w S [_,_,_,_,_,_,_])) w1 (d.qb hO)
   refine zE [1,3] O V (fun n d r=>zM 20 O d (zS (fun n d=>EntD.c1all (EntD.rd.star0 6 O d)) (fun ac=>(yE (g:=EntD.cells) (sz:=5) (by':=56) (fun _=>O) (l:=((es.take ((zf m k).index - i - 1)).drop 0)) (l':=a3) ac 4 qD O O O (fun n a6=>Vec.sl (Own.holds a6 5 _ O)) qF V O (fun a7=>zE [1,3] O V (fun n d r=>zD 21 O (zX O) r (zD 22 O (zL (o:=2) O) r (zM 23 O d (zS (fun n d=>Own.qa (i:=4) O d) (fun ad=>(zi (cs:=[Vn i,Vn t,lv]) 0 O O O ad O (zE [1,3] O V (fun n d r=>zY ((?_:C _ _ _ _ _ _ _ (Own w S [_,_,_,_,_,_,_])) _ d))))))))))))))
   refine zB (zI (o:=0) O O (zJ 3 (v:=Vn ((zf m k).index)) O O O O (zG O (zA (zz O (zB (zC O (zC O (zo (pR hv) O O (ya qD O (yp qE) O ?_ qD))))))))))
   refine zr O O (yp qE) O (zC O (zG O (zG O (zG O (zA (zP (jj (v:=Vn (index+m.length)) (v':=Vn ((zf m k).index)) (v'':=Vi 0) O O O O (fun n d=>⟨a7,((es.take ((zf m k).index - i - 1)).drop 0)++a3,index+m.length,(zf m k).index,0,O,(zH9 hm hf qE hΦ.2 c5 (by rw[List.map_append,List.drop_zero,s,List.map_take,List.map_drop])).1,zIJ hm hf qE hΦ.2 c5,((((d.starTake 2 ((zf m k).index - i - 1) O).starDrop 2 0 O).starApp 2 6 V O O).sel [0,4,2] O V)⟩))))))))
  refine zz O (zB (zC O (zC O (zo (pR hv) O O (ya qD O (yp qE) O ?_ qD)))))
  refine zr O O (yp qE) O (zC O (zG O (zG O (zG O (zA (zP (jj (v:=Vn (index+m.length)) (v':=Vn 0) (v'':=Vi 0) O O O O (fun n d=>⟨lv,es,index+m.length,0,0,O,(put_none (Decidable.not_not.1 c2) (Decidable.not_not.1 c3) (by have h:=hΦ.2;rwa [List.take_of_length_le qE]at h)).1,(put_none (Decidable.not_not.1 c2) (Decidable.not_not.1 c3) (by have h:=hΦ.2;rwa [List.take_of_length_le qE]at h)).2,d⟩))))))))
theorem zGs{S:List Nat}(lb i t:Nat)(lv:Value)(es:List EntD)(w:World)(hl:es.length≤100000000000)(q:(LG i t es).good)(p:Own w S [Res.row lb 457 [Vn i,Vn t,lv],Res.vec 130 5 lv es.length (es.flatMap EntD.cells),Res.star (es.map EntD.dres)] w):Rets Tryz.prog 336 #[.pointer (some ⟨lb,0,none⟩)] w fun r d=>∃ (b:Nat) (j:Value) (g:List EntD),r= .pointer (some ⟨b,0,none⟩)∧g.map EntD.toEntA=es.map EntD.toEntA∧Own w S [Res.row lb 457 [Vn i,Vn t,lv],Res.vec 130 5 lv es.length (es.flatMap EntD.cells),Res.star (es.map EntD.dres),Res.row b 457 [Vn i,Vn t,j],Res.vec 130 5 j g.length (g.flatMap EntD.cells),Res.star (g.map EntD.dres)] d:=by
  refine zO Tryz.func336 O Tryz.ntmps336 p (zB (zG O (zA (zK (zB (zC O (yF qD O O O (zA (yT O (zN (zK (zc [0,1] O V qD (fun d a c=>zD 0 O za c (zD 1 O (zX O) c (zD 2 O (zL (o:=0) O) c (zD 3 O (zBQ 0 [Vn i,Vn t] O O (ye 0 O) qD) c (zD 4 O za c (zD 5 O (zX O) c (zD 6 O (zL (o:=2) O) c (zD 7 O (zZ 0 (v:=lv) O O O) c (zM 8 O a (zH O O (fun d a=>(zBT lv es d qF (fun e s=>by have:=LG.data q e s;omega) (a.qh 1 O) (EntD.rd.star0 2 O a)).mono ?_)))))))))))))))))))))))
  rintro k u ⟨_,l,rfl,h,x⟩
  refine(?_:CL _ _ _ _ _ _ (Own w S [_,_,_,_,_])) u (a.qb x)
  refine zE [0,1] O V (fun d a c=>zM 9 O a (zS (fun d a=>Own.qa (i:=3) O a) (fun m=>(xK (cs:=[Vn i,Vn t,k]) (z:=[Vn 0,Vn 0,zW]) (pl:=[(0,2),(2,1)]) qD ⟨trivial,m,trivial⟩ qD O (zE [0,1] O V (fun d a c=>zM 10 O a (zj O O (fun n=>zE [0,1] O V (fun d a c=>zD 11 O z7 c (zY ((?_:C _ _ _ _ _ _ _ (Own w S [_,_,_,_,_,_])) _ a)))))))))))
  exact zP (zn (v:= .pointer (some ⟨n,0,none⟩)) O O (fun d a=>⟨n,k,l,O,h,a.sel [0,1,2,5,3,4] O V⟩))
end Go.Proofs.YtmpaljnacfidaaaGreatDoor
