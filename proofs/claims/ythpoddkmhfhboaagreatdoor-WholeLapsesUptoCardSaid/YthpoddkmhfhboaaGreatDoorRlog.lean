import Derived.Test.YthpoddkmhfhboaaGreatDoorRlogA
set_option linter.unusedSimpArgs false
set_option linter.unusedVariables false
set_option maxRecDepth 10000
namespace Go.Proofs.YthpoddkmhfhboaaGreatDoor
open Go.Sc
abbrev LG(i t:Nat)(es:List EntD):LogA:=⟨i,t,es.map EntD.toEntA⟩
theorem LG.last_eq{i t:Nat}{es:List EntD}:(LG i t es).last=i+es.length:=by simp[LogA.last]
theorem LG.le{i t:Nat}{es:List EntD}(h:(LG i t es).good):i+es.length≤4611686018427387904∧t≤4611686018427387904∧(LG i t es).end_≤4611686018427387904:=⟨LG.last_eq▸h.last_le,h.t,h.end_le⟩
theorem zGi{es:List EntD}{k:Nat}(h:k<es.length):zc (es.map EntD.toEntA) k=(zc es k).toEntA:=nth_map h
theorem LG.data{i t:Nat}{es:List EntD}(h:(LG i t es).good):∀ e∈es,e.data.length≤4096:=fun e a=>(h.fol.ok _ (List.mem_map_of_mem (f:=EntD.toEntA) a)).1.2.2.2
theorem LG.termE_eq{i t k:Nat}{es:List EntD}:(LG i t es).termE k=if k<i then(0,13)else if k=i then(t,0)else if k≤i+es.length then((zc (es.map EntD.toEntA) (k - i - 1)).term,0)else(0,8):=by
 unfold LogA.termE;rw[LG.last_eq]
theorem LG.term_lo{i t k:Nat}{es:List EntD}(h:k<i):(LG i t es).termE k=(0,13):=if_pos h
theorem LG.term_at{i t k:Nat}{es:List EntD}(h:k=i):(LG i t es).termE k=(t,0):=by
 rw[LG.termE_eq,if_neg qG,if_pos h]
theorem LG.term_in{i t k j:Nat}{es:List EntD}(h:i<k)(h2:k≤i+es.length)(a:j=k - i - 1):(LG i t es).termE k=((zc es j).term,0):=by
 rw[LG.termE_eq,if_neg qG,if_neg qG,if_pos h2,←a,zGi qG]
theorem LG.term_hi{i t k:Nat}{es:List EntD}(h:i+es.length<k):(LG i t es).termE k=(0,8):=by
 rw[LG.termE_eq,if_neg qG,if_neg qG,if_neg qG]
theorem LG.fromE_eq{i t k:Nat}{n:Int}{es:List EntD}:(LG i t es).fromE k n=if k≤i then([],13)else if i+es.length+1<k then([],8)else if n<0 then([],1)else(((es.map EntD.toEntA).drop (k - i - 1)).take n.toNat,0):=by
 unfold LogA.fromE;rw[LG.last_eq]
theorem LG.end_eq{i t x:Nat}{e:Int}{es:List EntD}(h:(LG i t es).termE (i+es.length)=(x,e)):x=(LG i t es).end_:=by
 by_cases hl:es.length=0
 · rw[LG.term_at qG]at h
   cases h
   unfold LogA.end_;rw[List.eq_nil_of_length_eq_zero hl];rfl
 rw[LG.term_in (j:=es.length - 1) qG qG qG]at h
 cases h
 unfold LogA.end_;rw[zBw (by simpa using(by omega:0<es.length)),List.length_map,zGi qG]
theorem EntD.c1all{l:List EntD}{w:World}{S:List Nat}(h:∀ p∈l,EntD.rd p w S):∀ x∈l,∀ v∈EntD.cells x,cell1 v=true:=by
 intro x hx v hv
 simp only[EntD.cells,List.mem_cons,List.not_mem_nil,or_false]at hv
 rcases hv with rfl|rfl|rfl|rfl|rfl
 · rfl
 · rfl
 · rfl
 · rfl
 exact Sl.cell1 (Rd.φ (h x hx).dv)
theorem zBx{i t k j u:Nat}{m:List EntD}(c:k<m.length)(h:folA i t ((m.take k).map EntD.toEntA))(a:j=zAM i ((m.take k).map EntD.toEntA))(b:u=zAL t ((m.take k).map EntD.toEntA)):
   (folA i t ((m.take (k+1)).map EntD.toEntA)↔(zc m k).ok∧(zc m k).index=j+1∧u≤(zc m k).term)∧((zc m k).index=j+1→(zc m k).index=zAM i ((m.take (k+1)).map EntD.toEntA))∧(zc m k).term=zAL t ((m.take (k+1)).map EntD.toEntA):=by
 rw[yl c,List.map_append,List.map_cons,List.map_nil,folA.snoc,zEl]
 refine⟨⟨fun q=>⟨q.2.1,by rw[a];exact q.2.2.1,by rw[b];exact q.2.2.2⟩,fun q=>⟨h,q.1,by rw[←a];exact q.2.1,by rw[←b];exact q.2.2⟩⟩,fun q=> ?_,O⟩
 rw[q,a];simp only[zAM,List.length_append,List.length_cons,List.length_nil];omega
theorem zSR{i t k j u:Nat}{m:List EntD}(a:k<m.length)(h:folA i t ((m.take k).map EntD.toEntA))(b:j=zAM i ((m.take k).map EntD.toEntA))(c:u=zAL t ((m.take k).map EntD.toEntA))(d:¬((zc m k).ok∧(zc m k).index=j+1∧u≤(zc m k).term)):¬ folA i t (m.map EntD.toEntA):=by
 intro q
 apply d
 rw[←(zBx a h b c).1,List.map_take]
 exact q.take _
theorem zG0{i t index term k:Nat}{es m:List EntD}(d:folA index term (m.map EntD.toEntA))(h:(LG i t es).fits index term)(b:k<m.length)(h1:∀ e∈m.take k,(LG i t es).fits e.index e.term)(h2:¬(LG i t es).fits (zc m k).index (zc m k).term):
   (LG i t es).kn (m.map EntD.toEntA)=k∧(zc m k).index=index+k+1∧i≤index+k∧index+k≤i+es.length:=by
 have a:(LG i t es).kn (m.map EntD.toEntA)=k:=(LG i t es).kn_of qN (fun e f=>by
   rw[←List.map_take]at f;obtain⟨x,j,rfl⟩:=List.mem_map.1 f;exact h1 x j) (fun _=>by rw[zGi b];exact h2)
 have g:=d.idx k (by simpa using b)
 rw[zGi b]at g
 have c:=(LogA.fits_end (zIH d h)).1
 rw[a,LG.last_eq]at c
 have e:zAM index ((m.map EntD.toEntA).take k)=index+k:=by unfold zAM;simp;omega
 rw[e]at c
 exact⟨a,g,c⟩
theorem zIj{i t index term k:Nat}{es m es':List EntD}(b:folA index term (m.map EntD.toEntA))(c:(LG i t es).fits index term)(a:k<m.length)(h1:∀ e∈m.take k,(LG i t es).fits e.index e.term)(h2:¬(LG i t es).fits (zc m k).index (zc m k).term)
   (d:es'.map EntD.toEntA=(es.map EntD.toEntA).take ((zc m k).index - i - 1)++(m.map EntD.toEntA).drop k):LG i t es'=(LG i t es).append index term (m.map EntD.toEntA)∧(LG i t es).ans index term (m.map EntD.toEntA)=(index+m.length,(zc m k).index,0):=by
 have h:=(zG0 b c a h1 h2).1
 constructor
 · unfold LogA.append LogA.put
   rw[if_pos ⟨b,c⟩,h,if_pos (by simpa using a),zGi a,←d]
 unfold LogA.ans LogA.put0
 rw[if_pos b,if_pos c,h,if_pos (by simpa using a),zGi a,List.length_map]
theorem zIU{i t index term k:Nat}{es m:List EntD}(b:folA index term (m.map EntD.toEntA))(c:(LG i t es).fits index term)(a:k<m.length)(h1:∀ e∈m.take k,(LG i t es).fits e.index e.term)(h2:¬(LG i t es).fits (zc m k).index (zc m k).term):(LG i t es).ans index term (m.map EntD.toEntA)=(index+m.length,(zc m k).index,0):=by
 have h:=(zG0 b c a h1 h2).1
 unfold LogA.ans LogA.put0
 rw[if_pos b,if_pos c,h,if_pos (by simpa using a),zGi a,List.length_map]
theorem put_none{i t index term:Nat}{es m:List EntD}(a:folA index term (m.map EntD.toEntA))(b:(LG i t es).fits index term)(h1:∀ e∈m,(LG i t es).fits e.index e.term):
   LG i t es=(LG i t es).append index term (m.map EntD.toEntA)∧(LG i t es).ans index term (m.map EntD.toEntA)=(index+m.length,0,0):=by
 have h:=LogA.put_same (x:=LG i t es) (m:=m.map EntD.toEntA) (fun e c=>by obtain⟨x,d,rfl⟩:=List.mem_map.1 c;exact h1 x d)
 constructor
 · unfold LogA.append;rw[if_pos ⟨a,b⟩,h.1]
 unfold LogA.ans;rw[if_pos a,if_pos b,h.2,List.length_map]
theorem zFx{x:LogA}{index term:Nat}{m:List EntA}(h:¬ folA index term m):x=x.append index term m∧x.ans index term m=(0,0,2):=
 ⟨by unfold LogA.append;rw[if_neg fun q=>h q.1],by unfold LogA.ans;rw[if_neg h]⟩
theorem zIS{x:LogA}{index term:Nat}{m:List EntA}(a:folA index term m)(h:¬ x.fits index term):x=x.append index term m∧x.ans index term m=(0,0,12):=
 ⟨by unfold LogA.append;rw[if_neg fun q=>h q.2],by unfold LogA.ans;rw[if_pos a,if_neg h]⟩
theorem zSw(i t:Nat)(w:World)(hi:i≤4611686018427387904)(j:t≤4611686018427387904):Rets Tryz.prog 120 #[Vn i,Vn t] w fun g d=>∃ (b:Nat),g= .pointer (some ⟨b,0,none⟩)∧Own w [] [Res.row b 415 [Vn i,Vn t,zW],Res.vec 113 5 zW ([]:List EntD).length (([]:List EntD).flatMap EntD.cells),Res.star (([]:List EntD).map EntD.dres)] d:=by
 refine zO Tryz.func120 O Tryz.ntmps120 (Own.start w)<|zB<|zF O<|zA<|zK<|zB<|zC O<|zC O<|zCi (c:=((max i t:Nat):Int)) O O (zMi _ _) O<|yY O O O<|zA<|zT O (fun e=> ?_)<|fun e=> ?_
 ·exact absurd e qG
 refine zN<|zB<|zC O<|zC O<|yJ (cs:=[Vn i,Vn t]) (z:=[Vn 0,Vn 0]) (pl:=[(0,1),(1,1)]) qF qF O<|yJ (cs:=[Vn i,Vn t,zW]) (z:=[Vn 0,Vn 0,zW]) (pl:=[(0,2),(2,1)]) qF qF O<|zj O O<|fun a=>zF O<|zA<|zP<|zm (v:= .pointer (some ⟨a,0,none⟩)) O O<|fun d h=>⟨a,O,(zq h 113 5).qn⟩
theorem zRv(lb i t:Nat)(lv:Value)(es:List EntD)(w:World)(a:Rd w [] (Res.row lb 415 [Vn i,Vn t,lv]))(d:Rd w [] (Res.sl lv es.length (es.flatMap EntD.cells)))(b:∀ p∈es,EntD.rd p w []):Rets Tryz.prog 399 #[.pointer (some ⟨lb,0,none⟩)] w fun e c=>e= .tuple #[Vn i,Vn t]∧Own w [] [] c:=by
 refine zO Tryz.func399 O Tryz.ntmps399 (Own.start w)<|zB<|zF O<|zF O<|zA<|zK<|zB<|zC O<|yE qF O O O<|zA<|yW O<|zN<|yd qF qF<|zR O (za)<|zR O (zY O)<|zR O (zL (o:=0) O)<|zR O (zL (o:=0) O)<|zR O (zBG (v:=Vn i) O (a.φ.cell O) (a.far _ qM) qF)<|zR O (za)<|zR O (zY O)<|zR O (zL (o:=0) O)<|zR O (zL (o:=1) O)<|zR O (zBG (v:=Vn t) O (a.φ.cell O) (a.far _ qM) qF)<|zR O (yB)<|zR O (yB)<|xX<|zP<|yg (v:=Vn i) (v':=Vn t) O O O<|fun c g=>⟨O,g.drop⟩
theorem zBg(lb i t:Nat)(lv:Value)(es:List EntD)(w:World)(hb:i+es.length≤4611686018427387904)(a:Rd w [] (Res.row lb 415 [Vn i,Vn t,lv]))(c:Rd w [] (Res.sl lv es.length (es.flatMap EntD.cells)))(b:∀ p∈es,EntD.rd p w []):Rets Tryz.prog 240 #[.pointer (some ⟨lb,0,none⟩)] w fun e d=>e=Vn (i+es.length)∧Own w [] [] d:=by
 refine zO Tryz.func240 O Tryz.ntmps240 (Own.start w)<|zB<|zF O<|zA<|yd qF qF<|zR O (za)<|zR O (zY O)<|zR O (zL (o:=0) O)<|zR O (zL (o:=0) O)<|zR O (zBG (v:=Vn i) O (a.φ.cell O) (a.far _ qM) qF)<|zR O (za)<|zR O (zY O)<|zR O (zL (o:=2) O)<|zR O (zBG (v:=lv) O (a.φ.cell O) (a.far _ qM) qF)<|zR O (kY (pR c) O)<|zR O (kQ qF O (yz qG) qF)<|zR O (xN O O<|yz qG)<|zR O (yB)<|xX<|zP<|zm (v:=Vn (i+es.length)) O O<|fun d g=>⟨O,g.drop⟩
theorem _root_.Go.Sc.qP{p:Prop}(h:p:=by first|rfl|omega):p:=h
theorem zMv(lb i t:Nat)(lv:Value)(es:List EntD)(k:Nat)(w:World)(hl:zg es.length)(hb:i+es.length≤4611686018427387904)(y:k<18446744073709551616)(d:Rd w [] (Res.row lb 415 [Vn i,Vn t,lv]))(j:Rd w [] (Res.sl lv es.length (es.flatMap EntD.cells)))(h:∀ p∈es,EntD.rd p w []):Rets Tryz.prog 171 #[.pointer (some ⟨lb,0,none⟩),Vn k] w fun m l=>∃ (x:Nat) (e:Int),m= .tuple #[Vn x,Vi e]∧(LG i t es).termE k=(x,e)∧Own w [] [] l:=by
 refine zO Tryz.func171 O Tryz.ntmps171 (Own.start w)<|zB<|zF O<|zF O<|zA<|zK<|zU<|zB<|zC O<|yE qF O O O<|zF O<|zA<|yW O<|zB<|zC O<|zC O<|zV O O<|zI (o:=0) O O<|zI (o:=0) O O<|zAT (v:=Vn i) O (d.φ.cell O) (d.far _ qM) qF O<|zu O O O<|zF O<|zA<|zT O (fun n=> ?_)<|fun n=> ?_
 ·refine zB<|zF O<|zF O<|zA<|zP<|yg (v:=Vn 0) (v':=Vi 13) O O O<|fun l g=>⟨0,13,O,LG.term_lo qG,g.drop⟩
 refine zB<|zC O<|zC O<|zG O O<|fun l g=>(zBg lb i t lv es l qH (g.rd0 d) (g.rd0 j)<|fun p hp=>EntD.rd.at0 (h p hp) g).mono ?_
 rintro _ q ⟨rfl,r⟩
 refine(?_:CL _ _ _ _ _ _ (Own w [] [])) q<|g.qb r
 refine yY O O O<|zF O<|zA<|zT O (fun s=> ?_)<|fun s=> ?_
 ·refine zB<|zF O<|zF O<|zA<|zP<|yg (v:=Vn 0) (v':=Vi 8) O O O<|fun l g=>⟨0,8,O,LG.term_hi qG,g.drop⟩
 refine zB<|zC O<|zC O<|zV O O<|zI (o:=0) O O<|zI (o:=0) O O<|zAT (v:=Vn i) O (d.φ.cell O) (d.far _ qM) qF O<|yT O O O<|zF O<|zA<|zT O (fun u=> ?_)<|fun u=> ?_
 ·refine zB<|zC O<|zV O O<|zI (o:=0) O O<|zI (o:=1) O O<|zAT (v:=Vn t) O (d.φ.cell O) (d.far _ qM) qF O<|zF O<|zF O<|zA<|zP<|yg (v:=Vn t) (v':=Vi 0) O O O<|fun l g=>⟨t,0,O,LG.term_at qG,g.drop⟩
 refine zN<|yd qF qF<|zR O (za)<|zR O (zY O)<|zR O (zL (o:=2) O)<|zR O (zBG (v:=lv) O (d.φ.cell O) (d.far _ qM) qF)<|zR O (za)<|zR O (za)<|zR O (zY O)<|zR O (zL (o:=0) O)<|zR O (zL (o:=0) O)<|zR O (zBG (v:=Vn i) O (d.φ.cell O) (d.far _ qM) qF)<|zR O (ji (c:=((k - i:Nat):Int)) O O<|ws qG qG)<|zR O (ji (c:=((k - i - 1:Nat):Int)) O O<|ws (a:=k - i) (b:=1) qG qG)<|zR O (kN (pR j) 5 (k - i - 1) O O O qG)<|zR O (zL (o:=1) O)<|zR O (zA8 (pR j) 5 (k - i - 1) 1 (off:=yr lv+(k - i - 1)*5+1) (fun _=>O) O qP qG O)<|zR O (yB)<|zR O (yB)<|xX<|zP<|yg (v:=Vn ((zc es<|k - i - 1).term)) (v':=Vi 0) O O O<|fun l g=>⟨(zc es<|k - i - 1).term,0,O,LG.term_in qG qG O,g.drop⟩
theorem zDH(lb i t:Nat)(lv:Value)(es:List EntD)(w:World)(hl:zg es.length)(hb:i+es.length≤4611686018427387904)(d:Rd w [] (Res.row lb 415 [Vn i,Vn t,lv]))(e:Rd w [] (Res.sl lv es.length (es.flatMap EntD.cells)))(a:∀ p∈es,EntD.rd p w []):Rets Tryz.prog 122 #[.pointer (some ⟨lb,0,none⟩)] w fun m c=>m= .tuple #[Vn (i+es.length),Vn ((LG i t es).end_)]∧Own w [] [] c:=by
 refine zO Tryz.func122 O Tryz.ntmps122 (Own.start w)<|zB<|zF O<|zF O<|zA<|zK<|zB<|zC O<|yE qF O O O<|zA<|yW O<|zN<|zB<|zC O<|zC O<|zG O O<|fun c b=>(zBg lb i t lv es c qH (b.rd0 d) (b.rd0 e)<|fun p hp=>EntD.rd.at0 (a p hp) b).mono ?_
 rintro _ j ⟨rfl,k⟩
 refine(?_:CL _ _ _ _ _ _ (Own w [] [])) j<|b.qb k
 refine zG O O<|fun c b=>(zMv lb i t lv es (i+es.length) c qI qH qH (b.rd0 d) (b.rd0 e)<|fun p hp=>EntD.rd.at0 (a p hp) b).mono ?_
 rintro _ j ⟨g,l,rfl,h,k⟩
 refine(?_:CL _ _ _ _ _ _ (Own w [] [])) j<|b.qb k
 refine zC O<|zb (vs:=[Vn g,Vi l]) O O O<|zb (vs:=[Vn g,Vi l]) O O O<|zF O<|zF O<|zA<|zB<|zC O<|zG O O<|fun c b=>(zBg lb i t lv es c qH (b.rd0 d) (b.rd0 e)<|fun p hp=>EntD.rd.at0 (a p hp) b).mono ?_
 rintro _ j ⟨rfl,k⟩
 refine(?_:CL _ _ _ _ _ _ (Own w [] [])) j<|b.qb k
 refine zC O<|zF O<|zF O<|zA<|zP<|yg (v:=Vn (i+es.length)) (v':=Vn g) O O O<|fun c b=>⟨(by rw[LG.end_eq h]),b.drop⟩
theorem zFH(lb i t:Nat)(lv:Value)(es:List EntD)(k u:Nat)(w:World)(hl:zg es.length)(hb:i+es.length≤4611686018427387904)(x:k<18446744073709551616)(l:Rd w [] (Res.row lb 415 [Vn i,Vn t,lv]))(m:Rd w [] (Res.sl lv es.length (es.flatMap EntD.cells)))(a:∀ p∈es,EntD.rd p w []):Rets Tryz.prog 237 #[.pointer (some ⟨lb,0,none⟩),Vn k,Vn u] w fun o j=>o= .bool (decide ((LG i t es).fits k u))∧Own w [] [] j:=by
 refine zO Tryz.func237 O Tryz.ntmps237 (Own.start w)<|zB<|zF O<|zA<|zB<|zC O<|zC O<|zG O O<|fun j e=>(zMv lb i t lv es k j qI qH qH (e.rd0 l) (e.rd0 m)<|fun p hp=>EntD.rd.at0 (a p hp) e).mono ?_
 rintro _ r ⟨c,d,rfl,g,s⟩
 refine(?_:CL _ _ _ _ _ _ (Own w [] [])) r<|e.qb s
 refine zC O<|zb (vs:=[Vn c,Vi d]) O O O<|zb (vs:=[Vn c,Vi d]) O O O<|zF O<|zF O<|zA<|zB<|zC O<|yT O O O<|zC O<|yA (q:=d=0) 3 2 [20,19,18] (((c:Nat):Int)=((u:Nat):Int)) O O O O O O trivial O (fun b=> ?_)<|fun n=> ?_
 ·refine zQ O (gT b)<|zC O<|zQ O (gT b)<|zC O<|zQ O (gT b)<|yT O O O<|z8 O<|fun _ e=>e
 refine zF O<|zA<|zP<|zm (v:= .bool (decide ((d=0)∧(((c:Nat):Int)=((u:Nat):Int))))) O O<|fun j e=>⟨(by congr 1;exact decide_eq_decide.2 (by unfold LogA.fits;rw[g];exact⟨fun h=>⟨h.1,by have:=h.2;dsimp only;omega⟩,fun h=>⟨h.1,by have:=h.2;dsimp only at this;omega⟩⟩)),e.drop⟩
theorem _root_.Go.Sc.qS{p:Prop}(h:p:=by simp[Value.cells,EntD.cells]):p:=h
theorem zD3(v:Value)(l:List EntD)(w:World)(hl:l.length≤100000000000)(hv:Rd w [] (Res.sl v l.length (l.flatMap EntD.cells)))(a:∀ p∈l,EntD.rd p w []):Rets Tryz.prog 238 #[v] w fun j c=>∃ (r:Value),j=r∧Own w [] [Res.vec 113 5 r l.length (l.flatMap EntD.cells)] c:=by
 refine zO Tryz.func238 O Tryz.ntmps238 (Own.start w)<|zB<|zF O<|zA<|zK<|zB<|zC O<|zAu (len:=l.length) (cs:=(l.flatMap EntD.cells)) qF O O (fun c b=>Own.rd hv b) O<|zA<|jJ O (fun h=> ?_)<|fun h=> ?_
 ·refine zB<|zF O<|zA<|zP<|zm (v:=zW) O O<|fun c d=>⟨.slice none 0 0,O,by obtain⟨_,k⟩:=Sl.isNil hv.φ h;rw[List.eq_nil_of_length_eq_zero k];exact zq d 113 5⟩
 refine zN<|zB<|yH (e:=113) (sz:=5) (vs:=[]) qF O O qS V O<|fun m=>zC O<|yF (g:=EntD.cells) (sz:=5) (by':=56) (fun _=>O) (l:=[]) (l':=l) (EntD.c1all a) 0 qF O O O (fun c b=>Own.rd hv b) qH V O<|fun i=>zF O<|zA<|zP<|zm (v:=i) O O<|fun c d=>⟨i,O,d⟩
theorem zMx(x:EntD)(w:World)(k:x.data.length≤1000000000)(d:EntD.rd x w []):Rets Tryz.prog 392 #[.agg (EntD.cells x).toArray] w fun g e=>∃ (r:Value),g= .agg #[Vn x.index,Vn x.term,Vi x.kind,Vi x.delta,r]∧Own w [] [Res.vec 5 1 r x.data.length (x.data.map vb)] e:=by
 refine zO Tryz.func392 O Tryz.ntmps392 (Own.start w)<|zB<|zj O O<|fun l=>zk (v:= .agg #[Vn 0,Vn 0,Vi 0,Vi 0,zW]) qF O<|fun m=>zA<|zB<|zI (o:=4) O O<|zJ 0 (v:=x.dv) O O O O<|zG O O<|fun e c=>(y3 x.dv x.data e qI<|c.rd0 d.dv).mono ?_
 rintro b h ⟨_,rfl,j⟩
 refine(?_:CL _ _ _ _ _ _ (Own w [] [_,_,_])) h<|c.qb j
 refine zI (o:=4) O O<|zS (fun e c=>Own.qa (i:=2) O c)<|fun a=>(zi (cs:=(EntD.cells x)) 0 O O O a O<|zA<|zB<|z6 (cs:=[Vn x.index,Vn x.term,Vi x.kind,Vi x.delta,b]) 0 O O O<|zf 1 O O O (zH O<|zH O<|zH O<|zH O<|zH a zh) O<|zA<|zP<|xg (cs:=[Vn x.index,Vn x.term,Vi x.kind,Vi x.delta,b]) O O qF (Own.qd (i:=1) O)<|fun e c=>⟨b,O,c.sel [2] O V⟩)
theorem zBt(v:Value)(l:List EntD)(w:World)(hl:l.length≤100000000000)(s:∀ x∈l,x.data.length≤1000000000)(hv:Rd w [] (Res.sl v l.length (l.flatMap EntD.cells)))(a:∀ p∈l,EntD.rd p w []):Rets Tryz.prog 239 #[v] w fun u d=>∃ (r:Value) (es:List EntD),u=r∧es.map EntD.toEntA=l.map EntD.toEntA∧Own w [] [Res.vec 113 5 r es.length (es.flatMap EntD.cells),Res.star (es.map EntD.dres)] d:=by
 refine zO Tryz.func239 O Tryz.ntmps239 (Own.start w)<|zB<|zF O<|zA<|zB<|zF O<|zA<|zK<|zB<|zC O<|zn (pR hv) O O<|zC O<|zA<|zU<|xV (fun(k:Nat) (lv:Value) (es:List EntD)=>[(3,lv),(6,v),(7,Vj l.length),(8,Vj k)]) (fun(k:Nat) (lv:Value) (es:List EntD)=>k≤l.length∧es.map EntD.toEntA=(l.take k).map EntD.toEntA) (fun(k:Nat) (lv:Value) (es:List EntD)=>[Res.vec 113 5 lv es.length (es.flatMap EntD.cells),Res.star (es.map EntD.dres)]) (fun(k:Nat) (lv:Value) (es:List EntD)=>l.length - k) (fun d b=>⟨0,zW,[],⟨O,O,O,O,trivial⟩,⟨Nat.zero_le _,O⟩,(zq b 113 5).qn⟩)<|fun k lv es g m=> ?_
 have q:es.length=min k l.length:=by have:=congrArg List.length m.2;simpa using this
 refine zB<|zu O O O<|zA<|zK<|zT O (fun y=> ?_)<|fun y=> ?_
 ·have z:=s _ (zy (l:=l) (j:=k) qG)
  refine zN<|zK<|zU<|zB<|yL (pR hv) 5 k O O O qG O<|jy (pR hv) 5 k (off:=yr v+k*5) (fun _=>O) O O qG O<|zk (v:= .agg #[Vn 0,Vn 0,Vi 0,Vi 0,zW]) qF O<|fun b5=>zf 2 O O O (zH O<|zH O<|zH O<|zH O<|zH (Sl.cell1<|Rd.φ<|(a _<|zy qG).dv) zh) O<|zA<|ze<|zC O<|z6 (cs:=(EntD.cells<|zc l k)) 2 O O O<|zG O O<|fun d b=>((zMx (zc l k) d qH<|(a _<|zy qG).at0 b).mono ?_)
  rintro _ w1 ⟨c,rfl,hO⟩
  refine(?_:CL _ _ _ _ _ _ (Own w [] [_,_,_,_])) w1<|b.qb hO
  refine yH (e:=113) (sz:=5) (vs:=[.agg #[Vn ((zc l k).index),Vn ((zc l k).term),Vi ((zc l k).kind),Vi ((zc l k).delta),c]]) qF O O qS V O<|fun a0=>(zS (fun d b=>Own.qa (i:=3) O b)<|fun h=>(yF (g:=EntD.cells) (sz:=5) (by':=56) (fun _=>O) (l:=es) (l':=[({(zc l k)with dv:=c}:EntD)]) (all_cons ((zH O<|zH O<|zH O<|zH O<|zH h zh)) qJ) 0 qF O O O (fun d n=>Vec.sl<|Own.holds n 4 _ O) qH V O<|fun o=>zF O<|zA<|ze<|zr O O (zt qG) O<|zC O<|zx<|fun d b=>⟨k+1,o,es++[({(zc l k)with dv:=c}:EntD)],⟨O,O,O,O,trivial⟩,⟨by omega,by rw[List.map_append,yl qG,List.map_append,m.2];rfl⟩,((b.qw (x:=({(zc l k)with dv:=c}:EntD)) 1 3 V O O).sel [0,1] O V),qG⟩))
 refine zw O<|zB<|zC O<|zF O<|zA<|zP<|zm (v:=lv) O O<|fun d b=>⟨lv,es,O,by rw[m.2,List.take_of_length_le qG],b⟩
theorem zE7(lb i t:Nat)(lv:Value)(es:List EntD)(k:Nat)(n:Int)(w:World)(hl:es.length≤100000000000)(hg:(LG i t es).good)(u:Rd w [] (Res.row lb 415 [Vn i,Vn t,lv]))(z:Rd w [] (Res.sl lv es.length (es.flatMap EntD.cells)))(j:∀ p∈es,EntD.rd p w []):Rets Tryz.prog 258 #[.pointer (some ⟨lb,0,none⟩),Vn k,Vi n] w fun u_ x=>∃ (r:Value) (rs:List EntD) (e:Int),u_= .tuple #[r,Vi e]∧(LG i t es).fromE k n=(rs.map EntD.toEntA,e)∧Own w [] [Res.vec 113 5 r rs.length (rs.flatMap EntD.cells),Res.star (rs.map EntD.dres)] x:=by
 have hb:=(LG.le hg).1
 refine zO Tryz.func258 O Tryz.ntmps258 (Own.start w)<|zB<|zF O<|zF O<|zA<|zK<|zU<|zB<|zC O<|yE qF O O O<|zC O<|zQ O O<|zC O<|zQ O O<|zu O O O<|zQ O O<|zC O<|yA (q:=n<0) 7 5 [22,21,20,19,18,17,16] (((i:Nat):Int)<((k:Nat):Int)) O O O O O O ⟨_,O,O,O⟩ O (fun m=> ?_)<|fun a4=> ?_
 ·refine zQ O (gT m)<|zC O<|zQ O (gT m)<|zC O<|zQ O (gT m)<|zV O O<|zQ O (gT m)<|zI (o:=0) O O<|zQ O (gT m)<|zI (o:=0) O O<|zQ O (gT m)<|zAT (v:=Vn i) O (u.φ.cell O) (u.far _ qM) qF O<|zQ O (gT m)<|yY O O O<|z8 O<|fun _ d=>d
 refine zQ O O<|zC O<|yA (q:=(n<0)∧(((i:Nat):Int)<((k:Nat):Int))) 5 14 [29,28,27,26,25] (((k:Nat):Int)≤(((i+es.length)+1:Nat):Int)) O O O O O O ⟨_,O,O,O⟩ O (fun s=> ?_)<|fun a5=> ?_
 ·refine zQ O (gT s)<|zC O<|zQ O (gT s)<|zC O<|zQ O (gT s)<|zG O O<|fun x d=>(zBg lb i t lv es x qH (d.rd0 u) (d.rd0 z)<|fun p hp=>EntD.rd.at0 (j p hp) d).mono ?_
  rintro _ w1 ⟨rfl,hO⟩
  refine(?_:CL _ _ _ _ _ _ (Own w [] [])) w1<|d.qb hO
  refine zQ O (gT s)<|zr O O (yz qG) O<|zQ O (gT s)<|yx O O O<|z8 O<|fun _ d=>d
 refine xA O O<|zF O<|zA<|zT O (fun c1=> ?_)<|fun c1=> ?_
 ·refine zB<|zF O<|zF O<|zA<|zP<|yg (v:=zW) (v':=Vi 1) O O O<|fun x d=>⟨.slice none 0 0,[],1,O,by rw[LG.fromE_eq,if_neg qG,if_neg qG,if_pos qG];rfl,(Own.qn (zq d 113 5))⟩
 refine zB<|zC O<|zC O<|zV O O<|zI (o:=0) O O<|zI (o:=0) O O<|zAT (v:=Vn i) O (u.φ.cell O) (u.far _ qM) qF O<|yx O O O<|zF O<|zA<|zT O (fun c2=> ?_)<|fun c2=> ?_
 ·refine zB<|zF O<|zF O<|zA<|zP<|yg (v:=zW) (v':=Vi 13) O O O<|fun x d=>⟨.slice none 0 0,[],13,O,by rw[LG.fromE_eq,if_pos qG];rfl,(Own.qn (zq d 113 5))⟩
 refine zB<|zC O<|zC O<|zG O O<|fun x d=>(zBg lb i t lv es x qH (d.rd0 u) (d.rd0 z)<|fun p hp=>EntD.rd.at0 (j p hp) d).mono ?_
 rintro _ w1 ⟨rfl,hO⟩
 refine(?_:CL _ _ _ _ _ _ (Own w [] [])) w1<|d.qb hO
 refine zr O O (yz qG) O<|yY O O O<|zF O<|zA<|zT O (fun c3=> ?_)<|fun c3=> ?_
 ·refine zB<|zF O<|zF O<|zA<|zP<|yg (v:=zW) (v':=Vi 8) O O O<|fun x d=>⟨.slice none 0 0,[],8,O,by rw[LG.fromE_eq,if_neg qG,if_pos qG];rfl,(Own.qn (zq d 113 5))⟩
 refine zN<|yd qF qF<|zR O (za)<|zR O (zY O)<|zR O (zL (o:=2) O)<|zR O (zBG (v:=lv) O (u.φ.cell O) (u.far _ qM) qF)<|zR O (za)<|zR O (za)<|zR O (zY O)<|zR O (zL (o:=0) O)<|zR O (zL (o:=0) O)<|zR O (zBG (v:=Vn i) O (u.φ.cell O) (u.far _ qM) qF)<|zR O (ji (c:=((k - i:Nat):Int)) O O<|ws qG qG)<|zR O (ji (c:=((k - i - 1:Nat):Int)) O O<|ws (a:=k - i) (b:=1) qG qG)<|zR O (zAr (pR z) 5 (k - i - 1) es.length qF O ⟨_,O⟩ O qG qG) ?_
 have y:=Rd.dropL_f (g:=EntD.cells) (xs:=es) (sz:=5) (fun _=>rfl) z (l:=k - i - 1) qG
 refine zR O (yB)<|xX<|zB<|zC O<|zC O<|zC O<|zn (pR y) O O<|zPv (c:=min n (((es.drop<|k - i - 1).length:Nat):Int)) O O (zT6 _ _) O<|zBS (pR y) 5 0 ((min n (((es.drop<|k - i - 1).length:Nat):Int)).toNat) qF O O ⟨_,(show Value.int .i64 _=Value.int .i64 _ by congr 1;omega)⟩ qG qG O ?_
 have a1:=Rd.subL_f (g:=EntD.cells) (xs:=(es.drop (k - i - 1))) (sz:=5) (fun _=>rfl) y (l:=0) (h:=(min n (((es.drop (k - i - 1)).length:Nat):Int)).toNat) qG qG
 refine zG O O<|fun x d=>(zBt (xj (xj lv (k - i - 1) es.length 5) 0 ((min n (((es.drop<|k - i - 1).length:Nat):Int)).toNat) 5) (((es.drop<|k - i - 1).take<|(min n (((es.drop<|k - i - 1).length:Nat):Int)).toNat).drop 0) x qK (fun e he=>by have:=LG.data hg e (List.mem_of_mem_drop (List.mem_of_mem_take (List.mem_of_mem_drop he)));omega) (d.rd0 a1)<|jk<|zDV<|jk<|fun p hp=>EntD.rd.at0 (j p hp) d).mono ?_
 rintro a2 w1 ⟨_,a3,rfl,a0,hO⟩
 refine(?_:CL _ _ _ _ _ _ (Own w [] [_,_])) w1<|d.qb hO
 refine zF O<|zF O<|zA<|zP<|yg (v:=a2) (v':=Vi 0) O O O<|fun x d=>⟨a2,a3,0,O,by rw[LG.fromE_eq,if_neg qG,if_neg qG,if_neg qG,a0,List.drop_zero,List.map_take,List.map_drop];congr 1;rw[List.take_eq_take_iff];simp;omega,d⟩
theorem zMZ(i t:Nat)(v:Value)(m:List EntD)(w:World)(hl:zg m.length)(hx:∀ e∈m,e.wf)(hi:i<18446744073709551616)(hv:Rd w [] (Res.sl v m.length (m.flatMap EntD.cells)))(d:∀ p∈m,EntD.rd p w []):Rets Tryz.prog 236 #[.agg #[Vn i,Vn t],v] w fun u_ r=>u_= .bool (decide (folA i t (m.map EntD.toEntA)))∧Own w [] [] r:=by
 refine zO Tryz.func236 O Tryz.ntmps236 (Own.start w)<|zB<|zj O O<|fun b2=>zF O<|zA<|zK<|zB<|zC O<|zn (pR hv) O O<|zC O<|zA<|zU<|xV (fun(k:Nat) (j:Nat) (u:Nat)=>[(2, .pointer<|some ⟨b2,0,none⟩),(9,v),(10,Vj m.length),(11,Vj k)]) (fun(k:Nat) (j:Nat) (u:Nat)=>(k≤m.length∧j<18446744073709551616)∧folA i t ((m.take k).map EntD.toEntA)∧j=zAM i ((m.take k).map EntD.toEntA)∧u=zAL t ((m.take k).map EntD.toEntA)) (fun(k:Nat) (j:Nat) (u:Nat)=>[Res.row b2 413 [Vn j,Vn u]]) (fun(k:Nat) (j:Nat) (u:Nat)=>m.length - k) (fun r l=>⟨0,i,t,⟨O,O,O,O,trivial⟩,⟨⟨Nat.zero_le _,hi⟩,trivial,O,O⟩,l⟩)<|fun k j u g n=>(zB<|zu O O O<|zA<|zK<|zT O (fun c1=> ?_)<|fun c1=> ?_)
 ·refine zN<|zK<|zU<|zB<|yL (pR hv) 5 k O O O qG O<|jy (pR hv) 5 k (off:=yr v+k*5) (fun _=>O) O O qG O<|zk (v:= .agg #[Vn 0,Vn 0,Vi 0,Vi 0,zW]) qF O<|fun b6=>zf 1 O O O (zH O<|zH O<|zH O<|zH O<|zH (Sl.cell1<|Rd.φ<|(d _<|zy qG).dv) zh) O<|zA<|zK<|zB<|z6 (cs:=(EntD.cells<|zc m k)) 1 O O O<|zG O O<|fun r l=>((zBW (zc m k) r (hx _<|zy qG)<|(d _<|zy qG).at0 l).mono ?_)
  rintro _ w1 ⟨s,rfl,hO⟩
  refine(?_:CL _ _ _ _ _ _ (Own w [] [_,_,_])) w1<|l.qb hO
  refine zC O<|zb (vs:=[s,Vi (yI (zc m k).ok)]) O O O<|zb (vs:=[s,Vi (yI (zc m k).ok)]) O O O<|zF O<|zF O<|zA<|zB<|zC O<|yf O O O<|zC O<|yP (q:=(yI (zc m k).ok)≠0) 6 2 [28,27,26,25,24,23] ((((zc m k).index:Nat):Int)≠(((j+1)%18446744073709551616:Nat):Int)) O O O O O O trivial O (fun b=> ?_)<|fun a0=> ?_
  ·refine zQ O (gF b)<|zI (o:=0) O O<|zQ O (gF b)<|zJ 1 (v:=Vn ((zc m k).index)) O O O O<|zQ O (gF b)<|zI (o:=0) O O<|zQ O (gF b)<|zJ 0 (v:=Vn j) O O O O<|zQ O (gF b)<|zr (c:=(((j+1)%18446744073709551616:Nat):Int)) O O (zUU _ _) O<|zQ O (gF b)<|yf O O O<|z8 O<|fun _ l=>l
  refine zC O<|yP (q:=((yI (zc m k).ok)≠0)∨((((zc m k).index:Nat):Int)≠(((j+1)%18446744073709551616:Nat):Int))) 5 10 [35,34,33,32,31] ((((zc m k).term:Nat):Int)<((u:Nat):Int)) O O O O O O trivial O (fun a=> ?_)<|fun x=> ?_
  ·refine zQ O (gF a)<|zI (o:=1) O O<|zQ O (gF a)<|zJ 1 (v:=Vn ((zc m k).term)) O O O O<|zQ O (gF a)<|zI (o:=1) O O<|zQ O (gF a)<|zJ 0 (v:=Vn u) O O O O<|zQ O (gF a)<|zu O O O<|z8 O<|fun _ l=>l
  refine zA<|zT O (fun c2=> ?_)<|fun c2=> ?_
  ·refine zB<|zF O<|zA<|zP<|zm (v:=yC) O O<|fun r l=>⟨(by rw[decide_eq_false];exact zSR qG n.2.1 n.2.2.1 n.2.2.2 (fun q=>by have q1:=q.1.1;have q2:=errOf_zero.2 q.1;have q3:=q1.2.1.1;omega)),l.drop⟩
  have y:=errOf_zero.1 (show yI (zc m k).ok=0 by omega)
  have a1:=y.1.1.1
  refine zN<|ze<|zI (o:=0) O O<|zJ 1 (v:=Vn ((zc m k).index)) O O O O<|zI (o:=1) O O<|zJ 1 (v:=Vn ((zc m k).term)) O O O O<|yJ (cs:=[Vn ((zc m k).index),Vn ((zc m k).term)]) (z:=[Vn 0,Vn 0]) (pl:=[(0,1),(1,1)]) qF qF O<|zf 0 O O O (zz O) O<|zA<|ze<|zr O O (zt qG) O<|zC O<|zx<|fun r l=>⟨k+1,(zc m k).index,(zc m k).term,⟨O,O,O,O,trivial⟩,⟨⟨by omega,(hx _ (zy qG)).index⟩,(zBx qG n.2.1 n.2.2.1 n.2.2.2).1.2 ⟨errOf_zero.1 qG,by omega,by omega⟩,(zBx qG n.2.1 n.2.2.1 n.2.2.2).2.1 qG,(zBx qG n.2.1 n.2.2.1 n.2.2.2).2.2⟩,l.sel [0] O V,qG⟩
 refine zw O<|zB<|zF O<|zA<|zP<|zm (v:=xx) O O<|fun r l=>⟨(by rw[decide_eq_true];have h:=n.2.1;rwa [List.take_of_length_le qG]at h),l.drop⟩
theorem zGZ{S:List Nat}(lb i t:Nat)(lv:Value)(es:List EntD)(index term:Nat)(v:Value)(m:List EntD)(w:World)(hl:es.length+m.length≤100000000000)(hg:(LG i t es).good)(hx:∀ e∈m,e.wf)(hi:index<18446744073709551616)(ae:Own w S [Res.row lb 415 [Vn i,Vn t,lv],Res.vec 113 5 lv es.length (es.flatMap EntD.cells),Res.star (es.map EntD.dres)] w)(hv:Rd w S (Res.sl v m.length (m.flatMap EntD.cells)))(u:∀ p∈m,EntD.rd p w S):Rets Tryz.prog 121 #[.pointer (some ⟨lb,0,none⟩),Vn index,Vn term,v] w fun u_ n=>∃ (a8:Value) (a0:List EntD) (x:Nat) (y:Nat) (e:Int),u_= .tuple #[Vn x,Vn y,Vi e]∧LG i t a0=(LG i t es).append index term (m.map EntD.toEntA)∧(LG i t es).ans index term (m.map EntD.toEntA)=(x,y,e)∧Own w S [Res.row lb 415 [Vn i,Vn t,a8],Res.vec 113 5 a8 a0.length (a0.flatMap EntD.cells),Res.star (a0.map EntD.dres)] n:=by
 have hb:=(LG.le hg).1
 refine zO Tryz.func121 O Tryz.ntmps121 ae<|zB<|zF O<|zF O<|zF O<|zA<|zK<|zU<|zB<|zC O<|yE qF O O O<|zF O<|zA<|yW O<|zB<|zC O<|zC O<|yJ (cs:=[Vn index,Vn term]) (z:=[Vn 0,Vn 0]) (pl:=[(0,1),(1,1)]) qF qF O<|zC O<|zG O O<|fun n d=>(zMZ index term v m n qI ‹_› qH (d.rd0 hv)<|fun p hp=>EntD.rd.at0 (u p hp) d).mono ?_
 rintro _ w1 ⟨rfl,hO⟩
 refine(?_:CL _ _ _ _ _ _ (Own w S [_,_,_])) w1<|d.qb hO
 refine xQ (q:=folA index term (m.map EntD.toEntA)) O O<|zF O<|zA<|zT O (fun c2=> ?_)<|fun c2=> ?_
 ·refine zB<|zF O<|zF O<|zF O<|zA<|zP<|zAB (v:=Vn 0) (v':=Vn 0) (v'':=Vi 2) O O O O<|fun n d=>⟨lv,es,0,0,2,O,(zFx c2).1,(zFx c2).2,d⟩
 refine zB<|zC O<|zC O<|zC O<|zG O O<|fun n d=>(zFH lb i t lv es index term n qI qH qH (d.rdRes0 0 O) (d.qj 1 O)<|EntD.rd.star0 2 O d).mono ?_
 rintro _ w1 ⟨rfl,hO⟩
 refine(?_:CL _ _ _ _ _ _ (Own w S [_,_,_])) w1<|d.qb hO
 refine xQ (q:=(LG i t es).fits index term) O O<|zF O<|zA<|zT O (fun c3=> ?_)<|fun c3=> ?_
 ·refine zB<|zF O<|zF O<|zF O<|zA<|zP<|zAB (v:=Vn 0) (v':=Vn 0) (v'':=Vi 12) O O O O<|fun n d=>⟨lv,es,0,0,12,O,(zIS (Decidable.not_not.1 c2) c3).1,(zIS (Decidable.not_not.1 c2) c3).2,d⟩
 have a9:=(LogA.fits_end (Decidable.not_not.1 c3)).1
 rw[LG.last_eq]at a9
 have af:i≤index:=a9.1
 refine zN<|zK<|zB<|zC O<|zn (pR hv) O O<|zC O<|zA<|zU<|yQ (fun(k:Nat)=>[(0, .pointer<|some ⟨lb,0,none⟩),(1,Vn index),(3,v),(9,Vn 0),(29,v),(30,Vj m.length),(31,Vj k)]) (fun(k:Nat)=>k≤m.length∧∀ e∈m.take k,(LG i t es).fits e.index e.term) (fun(k:Nat)=>[Res.row lb 415 [Vn i,Vn t,lv],Res.vec 113 5 lv es.length (es.flatMap EntD.cells),Res.star (es.map EntD.dres)]) (fun(k:Nat)=>m.length - k) (fun n d=>⟨0,⟨O,O,O,O,O,O,O,trivial⟩,⟨Nat.zero_le _,by simp⟩,d⟩)<|fun k g hΦ=>(zB<|zu O O O<|zA<|zK<|zT O (fun c4=> ?_)<|fun c4=> ?_)
 ·have ag:=(hx _ (zy (l:=m) (j:=k) qG)).index
  refine zN<|zK<|zU<|zB<|zC O<|yL (pR hv) 5 k O O O qG O<|jy (pR hv) 5 k (off:=yr v+k*5) (fun _=>O) O O qG O<|zk (v:= .agg #[Vn 0,Vn 0,Vi 0,Vi 0,zW]) qF O<|fun ah=>zF O<|zf 3 O O O (zH O<|zH O<|zH O<|zH O<|zH (Sl.cell1<|Rd.φ<|(u _<|zy qG).dv) zh) O<|zA<|zK<|zB<|zC O<|zI (o:=0) O O<|zJ 3 (v:=Vn ((zc m k).index)) O O O O<|zI (o:=1) O O<|zJ 3 (v:=Vn ((zc m k).term)) O O O O<|zG O O<|fun n d=>(zFH lb i t lv es ((zc m k).index) ((zc m k).term) n qI qH qH (d.rdRes0 0 O) (d.qj 1 O)<|EntD.rd.star0 2 O d).mono ?_
  rintro _ w1 ⟨rfl,hO⟩
  refine(?_:CL _ _ _ _ _ _ (Own w S [_,_,_,_])) w1<|d.qb hO
  refine zA<|zT O (fun c5=> ?_)<|fun c5=> ?_
  ·refine zw O<|ze<|zr O O (zt qG) O<|zC O<|zx<|fun n d=>⟨k+1,⟨O,O,O,O,O,O,O,trivial⟩,⟨by omega,by rw[yl qG];intro v hv;rcases List.mem_append.1 hv with h|h;exact hΦ.2 v h;simp at h;rw[h];exact c5⟩,d.sel [0,1,2] O V,qG⟩
  have hm:=Decidable.not_not.1 c2
  have hf:=Decidable.not_not.1 c3
  have hp:=zG0 hm hf qG hΦ.2 c5
  refine zN<|zK<|zd [1,3] O V qF<|fun n d r=>zD 0 O za r<|zD 1 O za r<|zD 2 O (zY O) r<|zD 3 O (zL (o:=2) O) r<|zD 5 O (zL (o:=0) O) r<|zD 6 O (zZ 1 (v:=Vn ((zc m k).index)) O O O) r<|zD 7 O za r<|zD 8 O (zY O) r<|zD 9 O (zL (o:=0) O) r<|zD 10 O (zL (o:=0) O) r<|zD 16 O za r<|zD 17 O za r ?_
  have a1:=Rd.dropL_f (g:=EntD.cells) (xs:=m) (sz:=5) (fun _=>rfl) hv (l:=k) qG
  refine zD 18 O (zAr (pR hv) 5 k m.length qF O ⟨_,O⟩ O qG qG) r<|z7 4 11 ?_ ?_
  ·refine zo 4 O d<|zJ 0 (v:=lv) O O O O<|zE [1,3] O V<|fun n d r=>zM 11 O d<|zJ 0 (v:=Vn i) O O O O<|zE [1,3] O V<|fun n d r=>zD 12 O (ji (c:=(((zc m k).index - i:Nat):Int)) O O<|ws qG qG) r<|zD 13 O (ji (c:=(((zc m k).index - i - 1:Nat):Int)) O O<|ws (a:=(zc m k).index - i) (b:=1) qG qG) r<|zD 14 O (zAr (pV 0 O) 5 0 ((zc m k).index - i - 1) qF O O ⟨_,O⟩ qG qG) r<|zM 15 O d<|zG O O<|fun n d=>(zD3 (xj lv 0 ((zc m k).index - i - 1) 5) ((es.take<|(zc m k).index - i - 1).drop 0) n qK (Rd.subL_f (g:=EntD.cells) (xs:=es) (sz:=5) (fun _=>O) (d.qj 1 O) (l:=0) (h:=(zc m k).index - i - 1) qG qG)<|jk<|zDV<|EntD.rd.star0 2 O d).mono ?_
   rintro ai w1 ⟨_,rfl,hO⟩
   refine(?_:CL _ _ _ _ _ _ (Own w S [_,_,_,_,_])) w1<|d.qb hO
   refine zE [1,3] O V<|fun n d r=>zM 19 O d<|zG O O<|fun n d=>(zBt (xj v k m.length 5) (m.drop k) n qK (fun x a4=>(hx x<|List.mem_of_mem_drop a4).data) (d.rd0 a1)<|jk<|fun p hp=>EntD.rd.at0 (u p hp) d).mono ?_
   rintro aj w1 ⟨_,a2,rfl,s,hO⟩
   have a5:=congrArg List.length s;simp only[List.length_map,List.length_drop]at a5
   refine(?_:CL _ _ _ _ _ _ (Own w S [_,_,_,_,_,_,_])) w1<|d.qb hO
   refine zE [1,3] O V<|fun n d r=>zM 20 O d<|zS (fun n d=>EntD.c1all<|EntD.rd.star0 6 O d)<|fun aa=>(yF (g:=EntD.cells) (sz:=5) (by':=56) (fun _=>O) (l:=((es.take<|(zc m k).index - i - 1).drop 0)) (l':=a2) aa 4 qF O O O (fun n a6=>Vec.sl<|Own.holds a6 5 _ O) qH V O<|fun a7=>zE [1,3] O V<|fun n d r=>zD 21 O (zY O) r<|zD 22 O (zL (o:=2) O) r<|zM 23 O d<|zS (fun n d=>Own.qa (i:=4) O d)<|fun ab=>(zi (cs:=[Vn i,Vn t,lv]) 0 O O O ab O<|zE [1,3] O V<|fun n d r=>zX<|(?_:C _ _ _ _ _ _ _ (Own w S [_,_,_,_,_,_,_])) _ d))
   refine zB<|zI (o:=0) O O<|zJ 3 (v:=Vn ((zc m k).index)) O O O O<|zF O<|zA<|zw O<|zB<|zC O<|zC O<|zn (pR hv) O O<|yh qF O (yz qG) O ?_ qF
   refine zr O O (yz qG) O<|zC O<|zF O<|zF O<|zF O<|zA<|zP<|zAB (v:=Vn (index+m.length)) (v':=Vn ((zc m k).index)) (v'':=Vi 0) O O O O<|fun n d=>⟨a7,((es.take<|(zc m k).index - i - 1).drop 0)++a2,index+m.length,(zc m k).index,0,O,(zIj hm hf qG hΦ.2 c5 (by rw[List.map_append,List.drop_zero,s,List.map_take,List.map_drop])).1,zIU hm hf qG hΦ.2 c5,((((d.starTake 2 ((zc m k).index - i - 1) O).starDrop 2 0 O).starApp 2 6 V O O).sel [0,4,2] O V)⟩
  refine zo 11 O d<|zJ 0 (v:=Vn i) O O O O<|zE [1,3] O V<|fun n d r=>zD 12 O (ji (c:=(((zc m k).index - i:Nat):Int)) O O<|ws qG qG) r<|zD 13 O (ji (c:=(((zc m k).index - i - 1:Nat):Int)) O O<|ws (a:=(zc m k).index - i) (b:=1) qG qG) r<|zM 4 O d<|zJ 0 (v:=lv) O O O O<|zE [1,3] O V<|fun n d r=>zD 14 O (zAr (pV 0 O) 5 0 ((zc m k).index - i - 1) qF O O ⟨_,O⟩ qG qG) r<|zM 15 O d<|zG O O<|fun n d=>(zD3 (xj lv 0 ((zc m k).index - i - 1) 5) ((es.take<|(zc m k).index - i - 1).drop 0) n qK (Rd.subL_f (g:=EntD.cells) (xs:=es) (sz:=5) (fun _=>O) (d.qj 1 O) (l:=0) (h:=(zc m k).index - i - 1) qG qG)<|jk<|zDV<|EntD.rd.star0 2 O d).mono ?_
  rintro ak w1 ⟨_,rfl,hO⟩
  refine(?_:CL _ _ _ _ _ _ (Own w S [_,_,_,_,_])) w1<|d.qb hO
  refine zE [1,3] O V<|fun n d r=>zM 19 O d<|zG O O<|fun n d=>(zBt (xj v k m.length 5) (m.drop k) n qK (fun x a4=>(hx x<|List.mem_of_mem_drop a4).data) (d.rd0 a1)<|jk<|fun p hp=>EntD.rd.at0 (u p hp) d).mono ?_
  rintro al w1 ⟨_,a3,rfl,s,hO⟩
  have a5:=congrArg List.length s;simp only[List.length_map,List.length_drop]at a5
  refine(?_:CL _ _ _ _ _ _ (Own w S [_,_,_,_,_,_,_])) w1<|d.qb hO
  refine zE [1,3] O V<|fun n d r=>zM 20 O d<|zS (fun n d=>EntD.c1all<|EntD.rd.star0 6 O d)<|fun ac=>(yF (g:=EntD.cells) (sz:=5) (by':=56) (fun _=>O) (l:=((es.take<|(zc m k).index - i - 1).drop 0)) (l':=a3) ac 4 qF O O O (fun n a6=>Vec.sl<|Own.holds a6 5 _ O) qH V O<|fun a7=>zE [1,3] O V<|fun n d r=>zD 21 O (zY O) r<|zD 22 O (zL (o:=2) O) r<|zM 23 O d<|zS (fun n d=>Own.qa (i:=4) O d)<|fun ad=>(zi (cs:=[Vn i,Vn t,lv]) 0 O O O ad O<|zE [1,3] O V<|fun n d r=>zX<|(?_:C _ _ _ _ _ _ _ (Own w S [_,_,_,_,_,_,_])) _ d))
  refine zB<|zI (o:=0) O O<|zJ 3 (v:=Vn ((zc m k).index)) O O O O<|zF O<|zA<|zw O<|zB<|zC O<|zC O<|zn (pR hv) O O<|yh qF O (yz qG) O ?_ qF
  refine zr O O (yz qG) O<|zC O<|zF O<|zF O<|zF O<|zA<|zP<|zAB (v:=Vn (index+m.length)) (v':=Vn ((zc m k).index)) (v'':=Vi 0) O O O O<|fun n d=>⟨a7,((es.take<|(zc m k).index - i - 1).drop 0)++a3,index+m.length,(zc m k).index,0,O,(zIj hm hf qG hΦ.2 c5 (by rw[List.map_append,List.drop_zero,s,List.map_take,List.map_drop])).1,zIU hm hf qG hΦ.2 c5,((((d.starTake 2 ((zc m k).index - i - 1) O).starDrop 2 0 O).starApp 2 6 V O O).sel [0,4,2] O V)⟩
 refine zw O<|zB<|zC O<|zC O<|zn (pR hv) O O<|yh qF O (yz qG) O ?_ qF
 refine zr O O (yz qG) O<|zC O<|zF O<|zF O<|zF O<|zA<|zP<|zAB (v:=Vn (index+m.length)) (v':=Vn 0) (v'':=Vi 0) O O O O<|fun n d=>⟨lv,es,index+m.length,0,0,O,(put_none (Decidable.not_not.1 c2) (Decidable.not_not.1 c3) (by have h:=hΦ.2;rwa [List.take_of_length_le qG]at h)).1,(put_none (Decidable.not_not.1 c2) (Decidable.not_not.1 c3) (by have h:=hΦ.2;rwa [List.take_of_length_le qG]at h)).2,d⟩
theorem zHj{S:List Nat}(lb i t:Nat)(lv:Value)(es:List EntD)(w:World)(hl:es.length≤100000000000)(q:(LG i t es).good)(p:Own w S [Res.row lb 415 [Vn i,Vn t,lv],Res.vec 113 5 lv es.length (es.flatMap EntD.cells),Res.star (es.map EntD.dres)] w):Rets Tryz.prog 310 #[.pointer (some ⟨lb,0,none⟩)] w fun r d=>∃ (b:Nat) (j:Value) (g:List EntD),r= .pointer (some ⟨b,0,none⟩)∧g.map EntD.toEntA=es.map EntD.toEntA∧Own w S [Res.row lb 415 [Vn i,Vn t,lv],Res.vec 113 5 lv es.length (es.flatMap EntD.cells),Res.star (es.map EntD.dres),Res.row b 415 [Vn i,Vn t,j],Res.vec 113 5 j g.length (g.flatMap EntD.cells),Res.star (g.map EntD.dres)] d:=by
 refine zO Tryz.func310 O Tryz.ntmps310 p<|zB<|zF O<|zA<|zK<|zB<|zC O<|yE qF O O O<|zA<|yW O<|zN<|zK<|zd [0,1] O V qF<|fun d a c=>zD 0 O za c<|zD 1 O (zY O) c<|zD 2 O (zL (o:=0) O) c<|zD 3 O (zBL 0 [Vn i,Vn t] O O (yj 0 O) qF) c<|zD 4 O za c<|zD 5 O (zY O) c<|zD 6 O (zL (o:=2) O) c<|zD 7 O (zZ 0 (v:=lv) O O O) c<|zM 8 O a<|zG O O<|fun d a=>(zBt lv es d qH (fun e s=>by have:=LG.data q e s;omega) (a.qj 1 O)<|EntD.rd.star0 2 O a).mono ?_
 rintro k u ⟨_,l,rfl,h,x⟩
 refine(?_:CL _ _ _ _ _ _ (Own w S [_,_,_,_,_])) u<|a.qb x
 refine zE [0,1] O V<|fun d a c=>zM 9 O a<|zS (fun d a=>Own.qa (i:=3) O a)<|fun m=>(xP (cs:=[Vn i,Vn t,k]) (z:=[Vn 0,Vn 0,zW]) (pl:=[(0,2),(2,1)]) qF ⟨trivial,m,trivial⟩ qF O<|zE [0,1] O V<|fun d a c=>zM 10 O a<|zj O O<|fun n=>zE [0,1] O V<|fun d a c=>zD 11 O yB c<|zX<|(?_:C _ _ _ _ _ _ _ (Own w S [_,_,_,_,_,_])) _ a)
 exact zP<|zm (v:= .pointer (some ⟨n,0,none⟩)) O O<|fun d a=>⟨n,k,l,O,h,a.sel [0,1,2,5,3,4] O V⟩
end Go.Proofs.YthpoddkmhfhboaaGreatDoor
