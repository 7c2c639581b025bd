import Derived.Test.YtkkeknmkipkbmaaGreatFwL
set_option linter.unusedSectionVars false
set_option linter.unusedSimpArgs false
set_option linter.unusedVariables false
set_option maxRecDepth 10000
namespace Go.Proofs.YtkkeknmkipkbmaaGreat
open Go Go.Sc Go.Proofs
def pis(p:Value×List Int):List Value:=[p.1]
abbrev IsRd(p:Value×List Int)(w:World)(S:List Nat):Prop:=Rd w S (Res.sl p.1 p.2.length (p.2.flatMap I1))
theorem IsRd.at0{p:Value×List Int}{w0 w:World}{S:List Nat}{L:List Res}(h:IsRd p w0 S)(hw:Own w0 S L w):IsRd p w []:=hw.rd0 h
theorem IsRd.at{p:Value×List Int}{w0 w:World}{S:List Nat}{L Lin:List Res}(h:IsRd p w0 S)(hw:Own w0 S L w)(m:List Nat)(hm:m.mapM (fun i=>L[i]?)=some Lin):IsRd p w (y1 Lin):=hw.rdTo h m hm
theorem zOw(m:Nat)(w:World)(hm:1≤m∧m≤1000000):Rets Tryz.prog 195 #[.slice none 0 0,Vj m] w fun u_ w'=>∃ (v:Value),u_=v∧Own w [] [vI v ([]:List Int)] w':=by
  refine zW Tryz.func195 O Tryz.ntmps195 (Own.start w) ?_
  refine zC (zI O (zA (zP (zC (zD O (yI O O O (zA (za O (fun c1=> ?_) (fun c1=> ?_)))))))))
  ·exact absurd c1 V
  refine zQ (zP (zC (zD O (zD O (zKv O O O (zD O (zIj qN O O (x8 (c:=0) O O O O (x8 (c:=((m:Nat):Int)) O O (by rw[Int.sub_zero];exact zr V) O (zI O (zA (zC ?_))))))))))))
  refine zD O (yx O O O (zA (za O (fun c2=> ?_) (fun c2=> ?_))))
  ·refine zV (zD O (zD O (zKv O O O (zPx (v:= .slice none 0 0) (sz:=1) (l:=0) (h:=0) (len:=0) (cs:=[]) qN O (fun _ _=>Sl.nil) O ⟨_,O⟩ V V O (zD O (zPu (g:=I1) (z:=(0:Int)) (zv:= .int .i64 0) (m:=m) O O O O O O O V V (by show m*8≤_;omega) O (fun bz cz hz=>zD O (zIj qN O O (kW (pV 0 O) 1 0 0 qN O O ⟨_,O⟩ V V O (zI O (zA (zC ?_))))))))))))
   refine zD O (zI O (zA ?_))
   exact zU (z9 (v:=(y3 (.slice (some ⟨bz,0,none⟩) m cz) 0 0 1)) O O (fun w' hw=>⟨(y3 (.slice (some ⟨bz,0,none⟩) m cz) 0 0 1),O,hw.vecCutL 0 0 O V⟩))
  exact absurd V c2
theorem zMN(lv:Value)(ps:List (Value×List Int))(w:World)(hm:1≤(ps.flatMap Prod.snd).length∧(ps.flatMap Prod.snd).length≤1000000)(hn:zi ps.length)(hl:Rd w [] (Res.sl lv ps.length (ps.flatMap pis)))(all_hl:∀ p∈ps,IsRd p w []):Rets Tryz.prog 162 #[lv] w fun u_ w'=>∃ (v:Value),u_=v∧Own w [] [vI v (ps.flatMap Prod.snd)] w':=by
  refine zW Tryz.func162 O Tryz.ntmps162 (Own.start w) ?_
  refine zC (zI O (zA (zC (zI O (zA (zP (zC (zD O (zp (pR hl) O O (zD O (zA (zZ ?_))))))))))))
  refine xT (fun(k:Nat)=>[(0,lv),(3,Vj (((ps.take k).flatMap Prod.snd).length)),(9,lv),(10,Vj ps.length),(11,Vj k)]) (fun(k:Nat)=>k≤ps.length) (fun(k:Nat)=>[]) (fun(k:Nat)=>ps.length - k) (fun w' hw=>⟨0,⟨O,O,O,O,O,trivial⟩,Nat.zero_le _,hw⟩) (fun k g hΦ=> ?_)
  have hle:=xk (Prod.snd:Value×List Int→List Int) ps (k+1)
  refine zC (yI O O O (zA (zP (za O (fun c1=> ?_) (fun c1=> ?_)))))
  ·have hnx:(ps.take (k+1)).flatMap Prod.snd=(ps.take k).flatMap Prod.snd++(zG ps k).2:=by rw[zu V,List.flatMap_append];simp
   rw[hnx,List.length_append]at hle
   refine zQ (zP (zZ (zC (zk (pR hl) 1 k O O O V O (yH (pR hl) 1 k 0 (fun _=>O) O O V O O (zI O (zA (zC (zD O (zD O (zp (pR (all_hl _ (zd V))) O O (zt O O (zr V) O ?_))))))))))))
   refine zI O (zA (zC (zD O (yI O O O (zA (za O (fun c2=> ?_) (fun c2=> ?_)))))))
   ·exact absurd c2 V
   refine zQ (zV (zt O O (zr V) O (zD O ?_)))
   exact zg (fun w' hw=>⟨k+1,⟨O,(by rw[hnx,List.length_append];rfl),O,O,O,trivial⟩,V,hw,V⟩)
  have hke:(ps.take k).flatMap Prod.snd=ps.flatMap Prod.snd:=by rw[List.take_of_length_le V]
  refine yF O (zC (zD O (a_call O O (fun w' hw=>(zOw (((ps.take k).flatMap Prod.snd).length) w' (by rw[hke];exact hm)).mono ?_))))
  rintro v1_ w1 ⟨_,rfl,hO⟩
  refine O1 ?_ (hw.qi hO)
  refine zI O (zA (zP (zC (zD O (zp (pR hl) O O (zD O (zA (zZ ?_))))))))
  refine y7 (fun(k:Nat) (v:Value)=>[(6,v),(25,lv),(26,Vj ps.length),(27,Vj k)]) (fun(k:Nat) (v:Value)=>k≤ps.length) (fun(k:Nat) (v:Value)=>[vI v ((ps.take k).flatMap Prod.snd)]) (fun(k:Nat) (v:Value)=>ps.length - k) (fun w' hw=>⟨0,v1_,⟨O,O,O,O,trivial⟩,Nat.zero_le _,hw⟩) (fun k v g hΦ=> ?_)
  have hle:=xk (Prod.snd:Value×List Int→List Int) ps (k+1)
  refine zC (yI O O O (zA (zP (za O (fun c3=> ?_) (fun c3=> ?_)))))
  ·have hnx:(ps.take (k+1)).flatMap Prod.snd=(ps.take k).flatMap Prod.snd++(zG ps k).2:=by rw[zu V,List.flatMap_append];simp
   rw[hnx,List.length_append]at hle
   refine zQ (zP (zZ (zC (zk (pR hl) 1 k O O O V O (yH (pR hl) 1 k 0 (fun _=>O) O O V O O (zI O (zA (zV (zD O (zD O (zy (g:=I1) (sz:=1) (by':=8) (fun _=>O) (l:=((ps.take k).flatMap Prod.snd)) (l':=(zG ps k).2) qV 0 qN O O O (fun w' hw'=>Own.rd (all_hl _ (zd V)) hw') qO qM O (fun v33=>zI O ?_))))))))))))
   refine zA (zV (zt O O (zr V) O (zD O ?_)))
   exact zg (fun w' hw=>⟨k+1,v33,⟨O,O,O,O,trivial⟩,V,by rw[hnx];exact hw,V⟩)
  have hke:(ps.take k).flatMap Prod.snd=ps.flatMap Prod.snd:=by rw[List.take_of_length_le V]
  refine yF O (zC (zD O (zI O (zA ?_))))
  exact zU (z9 (v:=v) O O (fun w' hw=>⟨v,O,by rw[←hke];exact hw⟩))
theorem zJj{es:List EntD}:(LG 0 0 es).fits es.length (LG 0 0 es).end_:=by
  refine LogA.fits_of ⟨Nat.zero_le _,by rw[LG.last_eq];omega⟩ ?_
  show xm 0 ((es.map EntD.toEntA).take (es.length - 0))=_
  rw[List.take_of_length_le qQ];rfl
theorem zG1{es es':List EntD}{x:EntA}(hg:(LG 0 0 es).good)(hx:x.ok)(hi:x.index=es.length+1)(ht:(LG 0 0 es).end_≤x.term)(he:LG 0 0 es'=(LG 0 0 es).append es.length (LG 0 0 es).end_ [x]):(LG 0 0 es').good∧es'.map EntD.toEntA=es.map EntD.toEntA++[x]:=by
  have hfol:folA es.length (LG 0 0 es).end_ [x]:=⟨⟨hx,hi,ht⟩,trivial⟩
  have hg2:(LG 0 0 es').good:=by rw[he];exact LogA.append_good hg
  have hkn:(LG 0 0 es).kn [x]=0:=(LG 0 0 es).kn_of (Nat.zero_le _) qQ fun _ q=>by
    have:=(LogA.fits_end q).1.2
    rw[LG.last_eq]at this
    have e:(zG [x] 0).index=es.length+1:=hi
    omega
  refine⟨hg2,?_⟩
  have e2:LG 0 0 es'=⟨0,0,es.map EntD.toEntA++[x]⟩:=by
    rw[he]
    unfold LogA.append LogA.put
    rw[if_pos ⟨hfol,zJj⟩,hkn,if_pos qQ]
    show(⟨0,0,(es.map EntD.toEntA).take (x.index - 0 - 1)++[x].drop 0⟩:LogA)=_
    rw[hi,List.take_of_length_le qQ];rfl
  exact congrArg LogA.l e2
theorem zBI{α:Type}{p q:α→Bool}:∀ {l:List α},(∀ x∈l,p x=q x)→l.find? p=l.find? q
  | [],_=>rfl
  |x::l,h=>by rw[List.find?_cons,List.find?_cons,h x qQ,zBI fun y hy=>h y (by simp[hy])]
theorem zAc{vs:List Int}{E:List EntA}{x:EntA}(hf:folA 0 0 E)(hk:x.kind≠3):zc vs (E++[x])=zc vs E:=by
  unfold zc y9
  have h1:zAM (E++[x]).length x=false:=by unfold zAM;simp[hk]
  rw[List.reverse_append,List.reverse_singleton,List.singleton_append,List.find?_cons,h1]
  rw[zBI (q:=zAM E.length) fun y hy=> ?_]
  obtain⟨j,hj⟩:=List.mem_iff_getElem?.1 (List.mem_reverse.1 hy)
  have hjl:j<E.length:=(List.getElem?_eq_some_iff.1 hj).1
  have h2:=folA.idx hf j hjl
  rw[nth_eq hj]at h2
  unfold zAM
  rw[List.length_append,List.length_cons,List.length_nil]
  by_cases q:y.kind=3
  · simp[q];omega
  simp[q]
def zAv(es:Nat)(term:Nat):EntA:=⟨es+1,term,1,0,[]⟩
theorem zIZ{n term:Nat}(hn:n≤1000000)(ht:1≤term∧term≤4611686018427387904):(zAv n term).ok:=by
  unfold EntA.ok
  rw[if_pos (by rfl)]
  refine⟨⟨⟨?_,ht.1⟩,⟨?_,ht.2⟩,⟨Int.le_refl 0,by show(0:Int)≤1099511627776;omega⟩,Nat.zero_le _⟩,O⟩
  · show 1≤n+1;omega
  show n+1≤_;omega
theorem zLT{ps:List PeerP}{ids:List Int}{last:Nat}(h:ps.map Prod.snd=ids.map (xX last)):∀ p∈ps,p.2=xX last p.2.id:=by
  intro p hp
  have h1:p.2∈ids.map (xX last):=by rw[←h];exact List.mem_map_of_mem hp
  obtain⟨i,_,hi⟩:=List.mem_map.1 h1
  rw[←hi];rfl
theorem _root_.Go.Sc.wj{p:Prop}(h:p:=by simp[Value.cells,pt,PeerP.cells]):p:=h
theorem _root_.Go.Sc.wk{p:Prop}(h:p:=by simp[cell1,PeerP.cells,vu]):p:=h
theorem zLI{S:List Nat}(cb jb:Nat)(t:TimD)(a:StA)(r:RolD)(b:StB)(yv:Value)(qe:Nat)(lv:Value)(es:List EntD)(ld:Nat)(ob:Nat)(o:OutD)(w:World)(hg:(LG 0 0 es).good)(hl:es.length≤100000)(hvl:b.vs.length≤12)(hcm:1≤((zc b.vs (es.map EntD.toEntA)).vs++(zc b.vs (es.map EntD.toEntA)).ls).length∧((zc b.vs (es.map EntD.toEntA)).vs++(zc b.vs (es.map EntD.toEntA)).ls).length≤12)(htm:1≤t.term∧t.term≤4611686018427387904)(hen:(LG 0 0 es).end_≤t.term)(hn:0≤t.now∧t.now≤1000000000000000)(ho:o.qk.length≤1000)(hin:Own w S [z7 cb t (.pointer none) a r b yv jb qe (pt ob),Res.nl b lv es,Res.ou ob o] w):Rets Tryz.prog 119 #[pt cb] w fun u_ w'=>∃ (ld:Nat) (pv lv' mv' rv':Value) (es':List EntD) (ids:List Int) (ps:List PeerP) (ms:List MsgD),u_= .tuple #[]∧(LG 0 0 es').good∧es'.map EntD.toEntA=es.map EntD.toEntA++[zAv es.length t.term]∧ids.Perm ((zc b.vs (es.map EntD.toEntA)).vs++(zc b.vs (es.map EntD.toEntA)).ls)∧ids.Pairwise (fun x y=>jE x y)∧ps.map Prod.snd=(ids.filter (· ≠a.id)).map (xX es.length)∧ms.map MsgD.a=jR (zAI a t.term (yY a t.term b.vs (es'.map EntD.toEntA) ps r.qc) 1 (es'.map EntD.toEntA)) ps∧Own w S [z7 cb ({t with qC:=t.now,qz:=t.now,qE:=t.now}:TimD) (pt ld) a ({qp:=4,who:=a.id,qc:=yY a t.term b.vs (es'.map EntD.toEntA) ps r.qc}:RolD) b (.slice none 0 0) jb qe (pt ob),Res.nl b lv' es',Res.ld ld ({pv:=pv,qa:=ps.map fun q=>(q.1,yG (es'.map EntD.toEntA) q.2),av:= .slice none 0 0,qf:=[],rv:=rv',qd:=[t.now],sure:=if(zc b.vs (es'.map EntD.toEntA)).qv [a.id]then 1 else 0,kv:= .slice none 0 0,qj:=[],give:=0,qB:=false}:LdD),Res.ou ob ({o with mv:=mv',qk:=o.qk++ms}:OutD)] w':=by
  refine zW Tryz.func119 O Tryz.ntmps119 hin ?_
  refine zC (zD O (a_call O O (fun w' hw=>(kh cb jb t a r b yv (pt ob) qe 0 w' (hw.give [0] O qM)).mono ?_)))
  rintro _ w1 ⟨rfl,hO⟩
  refine O3 ?_ (hw.qh [0] O hO)
  refine zA (zC (zD O (zD O (zD O (zD O (zb O O (zK (o:=10) O O (zM 2 (v:=Vi a.id) O O O O (yh (cs:=[.slice none 0 0, .slice none 0 0, .slice none 0 0,Vn 0, .slice none 0 0,Vi 0, .bool false]) (z:=[.slice none 0 0, .slice none 0 0, .slice none 0 0,Vn 0, .slice none 0 0,Vi 0, .bool false]) (pl:=[(0,1),(1,1),(2,1),(3,1),(4,1),(5,1),(6,1)]) qN qN O (z8 O O (fun b15=>zb O O (zK (o:=21) O O ?_))))))))))))
  refine zn 2 O O O O O (zb O O (zK (o:=22) O O (zn 2 O O O O O (zb O O (zK (o:=9) O O (zn 2 O O O O O (zA (zBD ([(0,pt cb)]) (True) ([Res.nl b lv es,Res.ou ob o,z7 cb ({t with qz:=t.now,qC:=t.now}:TimD) (pt b15) a ({qp:=4,who:=a.id,qc:=r.qc}:RolD) b (.slice none 0 0) jb qe (pt ob),Res.row b15 110 [.slice none 0 0, .slice none 0 0, .slice none 0 0,Vn 0, .slice none 0 0,Vi 0, .bool false]]) ?_ (fun g hΦ=> ?_)))))))))
  ·refine ze [0,1,3] O qM qN (fun w' hw hS=>zB 0 O zS hS (zB 1 O zS hS (zB 2 O zS hS (zB 3 O (zO O) hS (zB 4 O (zH (o:=2) O) hS (zB 5 O (zH (o:=0) O) hS (zB 7 O zS hS (zB 8 O (zO O) hS (zB 9 O (zH (o:=2) O) hS (zB 10 O (zH (o:=0) O) hS (zq 6 11 ?_ ?_)))))))))))
   ·refine zl 6 O hw (zM 2 (v:=Vi t.now) O O O O (zE [0,1,3] O qM (fun w' hw hS=>zJ 11 O hw (zM 2 (v:=Vi t.now) O O O O (zE [0,1,3] O qM (fun w' hw hS=>zB 12 O (zO O) hS (zB 13 O (zH (o:=2) O) hS (zB 14 O (zH (o:=4) O) hS (zJ 15 O hw (zn 2 O O O O O (zE [0,1,3] O qM (fun w' hw hS=>zB 16 O (zO O) hS ?_))))))))))))
    refine zB 17 O (zH (o:=2) O) hS (zB 18 O (zH (o:=6) O) hS (zJ 19 O hw (zn 2 O O O O O (zE [0,1,3] O qM (fun w' hw hS=>zT ?_)))))
    exact⟨⟨O,trivial⟩,trivial,hw⟩
   refine zl 11 O hw (zM 2 (v:=Vi t.now) O O O O (zE [0,1,3] O qM (fun w' hw hS=>zJ 6 O hw (zM 2 (v:=Vi t.now) O O O O (zE [0,1,3] O qM (fun w' hw hS=>zB 12 O (zO O) hS (zB 13 O (zH (o:=2) O) hS (zB 14 O (zH (o:=4) O) hS (zJ 15 O hw (zn 2 O O O O O (zE [0,1,3] O qM (fun w' hw hS=>zB 16 O (zO O) hS ?_))))))))))))
   refine zB 17 O (zH (o:=2) O) hS (zB 18 O (zH (o:=6) O) hS (zJ 19 O hw (zn 2 O O O O O (zE [0,1,3] O qM (fun w' hw hS=>zT ?_)))))
   exact⟨⟨O,trivial⟩,trivial,hw⟩
  refine zC (zD O (a_call O O (fun w' hw=>(xq cb jb ({t with qz:=t.now,qC:=t.now}:TimD) a ({qp:=4,who:=a.id,qc:=r.qc}:RolD) b (pt b15) (.slice none 0 0) (pt ob) qe _ _ w' ‹_› qO qO (hw.give [2,0] O qM)).mono ?_)))
  rintro _ w1 ⟨cv1_,cw2_,F3_,rfl,hf3_1,hO⟩
  have hcf:1≤(F3_.vs++F3_.ls).length∧(F3_.vs++F3_.ls).length≤12:=by rw[hf3_1];exact hcm
  have hfm:([(cv1_,F3_.vs),(cw2_,F3_.ls)].flatMap Prod.snd)=F3_.vs++F3_.ls:=by simp
  have hFl:F3_.vs.length≤12∧F3_.ls.length≤12:=by rw[List.length_append]at hcf;omega
  refine O6 ?_ (hw.qh [2,0] O hO)
  refine yC (v:= .agg #[.slice none 0 0, .slice none 0 0]) qN O (fun b2=> ?_)
  refine zN (fun w' hw=>Own.qg (i:=4) O hw) (fun hc1_=> ?_)
  refine zN (fun w' hw=>Own.qg (i:=5) O hw) (fun hc2_=> ?_)
  refine zo 6 O O O (zF hc1_ (zF hc2_ zh)) O (zA (zP (zC (zK (o:=0) O O (zM 6 (v:=cv1_) O O O O (zK (o:=1) O O (zM 6 (v:=cw2_) O O O O (zE5 (e:=33) (vs:=[cv1_,cw2_]) qN O O (zF hc1_ (zF hc2_ zh)) qM O (fun b46=>a_call O O (fun w' hw=>(zMN (.slice (some ⟨b46,0,none⟩) 2 2) [(cv1_,F3_.vs),(cw2_,F3_.ls)] w' (by rw[hfm];omega) qP (hw.qq 7 O) (all_cons (hw.qq 4 O) (all_cons (hw.qq 5 O) (fun p hp=>by cases hp)))).mono ?_))))))))))
  rintro v4_ w1 ⟨_,rfl,hO⟩
  refine O9 ?_ (hw.qi hO)
  refine a_call O O (fun w' hw=>(zPd v4_ ([(cv1_,F3_.vs),(cw2_,F3_.ls)].flatMap Prod.snd) w' (hw.give [8] O qM)).mono ?_)
  rintro _ w1 ⟨b5_,rfl,hO⟩
  refine O10 ?_ (hw.qh [8] O hO)
  refine a_call O O (fun w' hw=>(zJm b5_ v4_ ([(cv1_,F3_.vs),(cw2_,F3_.ls)].flatMap Prod.snd) w' (by rw[hfm];omega) (hw.give [9,8] O qM)).mono ?_)
  rintro v'6_ w1 ⟨_,l'7_,rfl,hf4_7,hf4_7_1,hO⟩
  have hsl:=(hf4_7).length_eq
  rw[hfm]at hsl
  refine O11 ?_ (hw.qh [9,8] O hO)
  refine zp (pV 10 O) O O (zD O (zA (zZ ?_)))
  refine x3 (fun(k:Nat) (ps:List PeerP) (pv:Value)=>[(0,pt cb),(49,v'6_),(50,Vj l'7_.length),(51,Vj k)]) (fun(k:Nat) (ps:List PeerP) (pv:Value)=>k≤l'7_.length∧ps.map Prod.snd=((l'7_.take k).filter (· ≠a.id)).map (xX es.length)) (fun(k:Nat) (ps:List PeerP) (pv:Value)=>[Res.ou ob o,Res.ld b15 ({pv:=pv,qa:=ps,av:= .slice none 0 0,qf:=[],rv:= .slice none 0 0,qd:=[],sure:=0,kv:= .slice none 0 0,qj:=[],give:=0,qB:=false}:LdD),z7 cb ({t with qz:=t.now,qC:=t.now}:TimD) (pt b15) a ({qp:=4,who:=a.id,qc:=r.qc}:RolD) b (.slice none 0 0) jb qe (pt ob),Res.nl b lv es,vI v'6_ l'7_]) (fun(k:Nat) (ps:List PeerP) (pv:Value)=>l'7_.length - k) (fun w' hw=>⟨0,[], .slice none 0 0,⟨O,O,O,O,trivial⟩,⟨Nat.zero_le _,O⟩,((zm (zm (zm (Own.qG (zm hw 160 1)) 3 1) 2 1) 116 3).qo [1,11,12,13,14,15] O qM).sel [0,10,1,2,9] O qM⟩) (fun k ps pv g hΦ=> ?_)
  have hpl:ps.length≤12:=by have h1:=congrArg List.length hΦ.2;rw[List.length_map,List.length_map]at h1;have h2:=List.length_filter_le (fun x=>decide (x≠a.id)) (l'7_.take k);rw[List.length_take]at h2;omega
  have hps:=hΦ.2
  refine zC (yI O O O (zA (zP (za O (fun c1=> ?_) (fun c1=> ?_)))))
  ·refine zQ (zP (zZ (zC (zk (pV 4 O) 1 k O O O V O (yH (pV 4 O) 1 k 0 (fun _=>O) O O V O O (zI O (zA (zC (zD O (zD O (zb O O (zK (o:=10) O O ?_))))))))))))
   refine zM 2 (v:=Vi a.id) O O O O (xn O O O (zA (za O (fun c2=> ?_) (fun c2=> ?_))))
   ·refine ze [0,2,3,4] O qM qN (fun w' hw hS=>zB 0 O zS hS (zB 1 O (zO O) hS (zB 2 O (zH (o:=9) O) hS (zB 3 O (zY 1 (v:=pt b15) O O O) hS (zB 4 O zS hS (zB 5 O (zO O) hS (zB 6 O (zH (o:=9) O) hS (zB 7 O (zY 1 (v:=pt b15) O O O) hS (zB 8 O (zO O) hS (zB 9 O (zH (o:=0) O) hS (zB 11 O zS hS (zB 12 O zS hS ?_))))))))))))
    refine zq 10 13 ?_ ?_
    ·refine zl 10 O hw (z6 (v:=pv) 1 0 0 O O O O qN O (zE [0,2,3,4] O qM (fun w' hw hS=>zJ 13 O hw (a_call O O (fun w' hw=>(zAh cb jb ({t with qz:=t.now,qC:=t.now}:TimD) a ({qp:=4,who:=a.id,qc:=r.qc}:RolD) b (pt b15) (.slice none 0 0) (pt ob) qe _ _ (zG l'7_ k) w' ‹_› qO qO (hw.give [2,3] O qM)).mono ?_)))))
     rintro _ w1 ⟨pb8_,rfl,hO⟩
     refine O6 ?_ (hw.qh [2,3] O hO)
     refine zE [0,3,4,2] O qM (fun w' hw hS=>zJ 14 O hw (zx (e:=160) (sz:=1) (vs:=[pt pb8_]) qN O O wj qM O (fun b75=>zE [0,3,4,2] O qM (fun w' hw hS=>zJ 15 O hw ?_))))
     refine z4 [Res.ou ob o,vI v'6_ l'7_,z7 cb ({t with qz:=t.now,qC:=t.now}:TimD) (pt b15) a ({qp:=4,who:=a.id,qc:=r.qc}:RolD) b (.slice none 0 0) jb qe (pt ob),Res.nl b lv es,kF pb8_ (xX es.length (zG l'7_ k)),vP (.slice (some ⟨b75,0,none⟩) 1 1) [(pb8_,(xX es.length (zG l'7_ k)))],yP b15 ({pv:=pv,qa:=ps,av:= .slice none 0 0,qf:=[],rv:= .slice none 0 0,qd:=[],sure:=0,kv:= .slice none 0 0,qj:=[],give:=0,qB:=false}:LdD),vP pv ps,sP ps,vI (.slice none 0 0) ([]:List Int),vT (.slice none 0 0) ([]:List Int),vL (.slice none 0 0) ([]:List LookM)] (fun w' hw=>hw.qn 1 O) ?_
     refine zy (g:=PeerP.cells) (sz:=1) (by':=8) (fun _=>O) (l:=ps) (l':=[(pb8_,(xX es.length (zG l'7_ k)))]) wk 7 qN O O O (fun w' hw'=>Vec.sl (Own.holds hw' 5 _ O)) qO qM O (fun v76=>zE [0,2,3,1] O qM (fun w' hw hS=>zB 16 O (zO O) hS (zB 17 O (zH (o:=0) O) hS (zJ 18 O hw ?_))))
     refine zN (fun w' hw=>Own.qg (i:=7) O hw) (fun hc3_=> ?_)
     refine zn 6 O O O hc3_ O (zE [0,2,3,1] O qM (fun w' hw hS=>zT ?_))
     refine Oc12 ?_ hw
     refine zV (zt O O (zr V) O (zD O ?_))
     exact zg (fun w' hw=>⟨k+1,ps++[(pb8_,xX es.length (zG l'7_ k))],v76,⟨O,O,O,O,trivial⟩,⟨by omega,by rw[List.map_append,hps,zDg (P:=fun x:Int=>x≠a.id) V c2,List.map_append];rfl⟩,((Own.qJ (x:=(pb8_,(xX es.length (zG l'7_ k)))) 8 4 qM O O hw).qo [5,6,7,8,9,10] O qM).sel [0,5,2,3,1] O qM,V⟩)
    refine zl 13 O hw (a_call O O (fun w' hw=>(zAh cb jb ({t with qz:=t.now,qC:=t.now}:TimD) a ({qp:=4,who:=a.id,qc:=r.qc}:RolD) b (pt b15) (.slice none 0 0) (pt ob) qe _ _ (zG l'7_ k) w' ‹_› qO qO (hw.give [2,3] O qM)).mono ?_))
    rintro _ w1 ⟨pb9_,rfl,hO⟩
    refine O6 ?_ (hw.qh [2,3] O hO)
    refine zE [0,3,4,2] O qM (fun w' hw hS=>zq 10 14 ?_ ?_)
    ·refine zl 10 O hw (z6 (v:=pv) 1 0 0 O O O O qN O (zE [0,3,4,2] O qM (fun w' hw hS=>zJ 14 O hw (zx (e:=160) (sz:=1) (vs:=[pt pb9_]) qN O O wj qM O (fun b75=>zE [0,3,4,2] O qM (fun w' hw hS=>zJ 15 O hw ?_))))))
     refine z4 [Res.ou ob o,vI v'6_ l'7_,z7 cb ({t with qz:=t.now,qC:=t.now}:TimD) (pt b15) a ({qp:=4,who:=a.id,qc:=r.qc}:RolD) b (.slice none 0 0) jb qe (pt ob),Res.nl b lv es,kF pb9_ (xX es.length (zG l'7_ k)),vP (.slice (some ⟨b75,0,none⟩) 1 1) [(pb9_,(xX es.length (zG l'7_ k)))],yP b15 ({pv:=pv,qa:=ps,av:= .slice none 0 0,qf:=[],rv:= .slice none 0 0,qd:=[],sure:=0,kv:= .slice none 0 0,qj:=[],give:=0,qB:=false}:LdD),vP pv ps,sP ps,vI (.slice none 0 0) ([]:List Int),vT (.slice none 0 0) ([]:List Int),vL (.slice none 0 0) ([]:List LookM)] (fun w' hw=>hw.qn 1 O) ?_
     refine zy (g:=PeerP.cells) (sz:=1) (by':=8) (fun _=>O) (l:=ps) (l':=[(pb9_,(xX es.length (zG l'7_ k)))]) wk 7 qN O O O (fun w' hw'=>Vec.sl (Own.holds hw' 5 _ O)) qO qM O (fun v76=>zE [0,2,3,1] O qM (fun w' hw hS=>zB 16 O (zO O) hS (zB 17 O (zH (o:=0) O) hS (zJ 18 O hw ?_))))
     refine zN (fun w' hw=>Own.qg (i:=7) O hw) (fun hc4_=> ?_)
     refine zn 6 O O O hc4_ O (zE [0,2,3,1] O qM (fun w' hw hS=>zT ?_))
     refine Oc12 ?_ hw
     refine zV (zt O O (zr V) O (zD O ?_))
     exact zg (fun w' hw=>⟨k+1,ps++[(pb9_,xX es.length (zG l'7_ k))],v76,⟨O,O,O,O,trivial⟩,⟨by omega,by rw[List.map_append,hps,zDg (P:=fun x:Int=>x≠a.id) V c2,List.map_append];rfl⟩,((Own.qJ (x:=(pb9_,(xX es.length (zG l'7_ k)))) 8 4 qM O O hw).qo [5,6,7,8,9,10] O qM).sel [0,5,2,3,1] O qM,V⟩)
    refine zl 14 O hw (zx (e:=160) (sz:=1) (vs:=[pt pb9_]) qN O O wj qM O (fun b75=>zE [0,3,4,2] O qM (fun w' hw hS=>zJ 10 O hw (z6 (v:=pv) 1 0 0 O O O O qN O (zE [0,3,4,2] O qM (fun w' hw hS=>zJ 15 O hw ?_))))))
    refine z4 [Res.ou ob o,vI v'6_ l'7_,z7 cb ({t with qz:=t.now,qC:=t.now}:TimD) (pt b15) a ({qp:=4,who:=a.id,qc:=r.qc}:RolD) b (.slice none 0 0) jb qe (pt ob),Res.nl b lv es,kF pb9_ (xX es.length (zG l'7_ k)),vP (.slice (some ⟨b75,0,none⟩) 1 1) [(pb9_,(xX es.length (zG l'7_ k)))],yP b15 ({pv:=pv,qa:=ps,av:= .slice none 0 0,qf:=[],rv:= .slice none 0 0,qd:=[],sure:=0,kv:= .slice none 0 0,qj:=[],give:=0,qB:=false}:LdD),vP pv ps,sP ps,vI (.slice none 0 0) ([]:List Int),vT (.slice none 0 0) ([]:List Int),vL (.slice none 0 0) ([]:List LookM)] (fun w' hw=>hw.qn 1 O) ?_
    refine zy (g:=PeerP.cells) (sz:=1) (by':=8) (fun _=>O) (l:=ps) (l':=[(pb9_,(xX es.length (zG l'7_ k)))]) wk 7 qN O O O (fun w' hw'=>Vec.sl (Own.holds hw' 5 _ O)) qO qM O (fun v76=>zE [0,2,3,1] O qM (fun w' hw hS=>zB 16 O (zO O) hS (zB 17 O (zH (o:=0) O) hS (zJ 18 O hw ?_))))
    refine zN (fun w' hw=>Own.qg (i:=7) O hw) (fun hc5_=> ?_)
    refine zn 6 O O O hc5_ O (zE [0,2,3,1] O qM (fun w' hw hS=>zT ?_))
    refine Oc12 ?_ hw
    refine zV (zt O O (zr V) O (zD O ?_))
    exact zg (fun w' hw=>⟨k+1,ps++[(pb9_,xX es.length (zG l'7_ k))],v76,⟨O,O,O,O,trivial⟩,⟨by omega,by rw[List.map_append,hps,zDg (P:=fun x:Int=>x≠a.id) V c2,List.map_append];rfl⟩,((Own.qJ (x:=(pb9_,(xX es.length (zG l'7_ k)))) 8 4 qM O O hw).qo [5,6,7,8,9,10] O qM).sel [0,5,2,3,1] O qM,V⟩)
   refine zQ (zV (zt O O (zr V) O (zD O ?_)))
   exact zg (fun w' hw=>⟨k+1,ps,pv,⟨O,O,O,O,trivial⟩,⟨by omega,by rw[hps,zG4 (P:=fun x:Int=>x≠a.id) V c2]⟩,hw,V⟩)
  have hke:l'7_.take k=l'7_:=List.take_of_length_le V
  rw[hke]at hps
  have hnp:=zLT hps
  refine yF O (zC (zD O (a_call O O (fun w' hw=>(zHz cb jb ({t with qz:=t.now,qC:=t.now}:TimD) a ({qp:=4,who:=a.id,qc:=r.qc}:RolD) b (pt b15) (.slice none 0 0) (pt ob) qe _ _ 1 (.slice none 0 0) [] w' ‹_› qO qO hn hn qO htm.2 (hw.give [2,3] O qM) Rd.nil).mono ?_))))
  rintro _ w1 ⟨lv'10_,es'11_,rfl,hf10_1,hO⟩
  have hG:=zG1 (x:=zAv es.length t.term) hg (zIZ V htm) rfl hen (hf10_1.trans (by show(LG 0 0 es).append _ _ [⟨_,_,_,min (t.now - t.now) 1099511627776,_⟩]=_;rw[show min (t.now - t.now) (1099511627776:Int)=0 by omega];rfl))
  have hle:es'11_.length=es.length+1:=by have h1:=congrArg List.length hG.2;simpa using h1
  have hcl:(zc b.vs (es'11_.map EntD.toEntA)).vs.length≤12:=by rw[hG.2,zAc (E:=es.map EntD.toEntA) hg.fol (show(1:Int)≠3 by decide)];rw[List.length_append]at hcm;omega
  have hps0:∀ p∈ps,p.2.qy≤1000000:=fun p h=>by rw[hnp p h];exact Nat.zero_le _
  have hpbd:∀ p∈ps,p.2.bd 1000000:=fun p h=>by rw[hnp p h];exact⟨⟨by show 1≤es.length+1;omega,by show es.length+1≤_;omega⟩,Nat.zero_le _,⟨Int.le_refl 0,by show(0:Int)≤4;omega⟩⟩
  refine O5 ?_ (hw.qh [2,3] O hO)
  refine zA (zC (zD O (a_call O O (fun w' hw=>(zC0 cb jb ({t with qz:=t.now,qC:=t.now}:TimD) a ({qp:=4,who:=a.id,qc:=r.qc}:RolD) b (.slice none 0 0) (pt ob) qe lv'10_ es'11_ b15 ({pv:=pv,qa:=ps,av:= .slice none 0 0,qf:=[],rv:= .slice none 0 0,qd:=[],sure:=0,kv:= .slice none 0 0,qj:=[],give:=0,qB:=false}:LdD) w' hG.1 V qO (by show ps.length≤_;omega) hcl hps0 (hw.give [3,4,1] O qM)).mono ?_))))
  rintro _ w1 ⟨rfl,hO⟩
  refine O5 ?_ (hw.qh [3,4,1] O hO)
  refine zA (zV (zD O (a_call O O (fun w' hw=>(zHF cb jb ({t with qz:=t.now,qC:=t.now}:TimD) a ({qp:=4,who:=a.id,qc:=yY a ({t with qz:=t.now,qC:=t.now}:TimD).term b.vs (es'11_.map EntD.toEntA) ({pv:=pv,qa:=ps,av:= .slice none 0 0,qf:=[],rv:= .slice none 0 0,qd:=[],sure:=0,kv:= .slice none 0 0,qj:=[],give:=0,qB:=false}:LdD).qa ({qp:=4,who:=a.id,qc:=r.qc}:RolD).qc}:RolD) b (.slice none 0 0) qe lv'10_ es'11_ b15 ({pv:=pv,qa:=ps,av:= .slice none 0 0,qf:=[],rv:= .slice none 0 0,qd:=[],sure:=0,kv:= .slice none 0 0,qj:=[],give:=0,qB:=false}:LdD) ob _ w' hG.1 V qO (by show ps.length≤_;omega) qO hpbd (by show([]:List Int).length≤_;decide) (hw.give [2,3,4,0] O qM)).mono ?_))))
  rintro _ w1 ⟨mv'12_,rv'13_,ms14_,rfl,hf12_1,hO⟩
  refine O5 ?_ (hw.qh [2,3,4,0] O hO)
  exact zg (yQ O (fun w' hw=>⟨b15,pv,lv'10_,mv'12_,rv'13_,es'11_,l'7_,ps,ms14_,O,hG.1,hG.2,(by have h:=hf4_7;rw[hfm,hf3_1]at h;exact h),hf4_7_1,hps,hf12_1,hw.sel [1,2,3,4] O qM⟩))
end Go.Proofs.YtkkeknmkipkbmaaGreat
