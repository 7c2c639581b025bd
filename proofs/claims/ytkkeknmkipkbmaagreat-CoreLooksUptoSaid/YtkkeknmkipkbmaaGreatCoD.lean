import Derived.Test.YtkkeknmkipkbmaaGreatCoC
set_option linter.unusedSectionVars false
set_option linter.unusedSimpArgs false
set_option linter.unusedVariables false
set_option maxRecDepth 10000
namespace Go.Proofs.YtkkeknmkipkbmaaGreat
open Go Go.Sc Go.Proofs
def zc(vs:List Int)(l:List EntA):ConfA:=(y9 vs l l.length).1
def ConfA.qv(c:ConfA)(ids:List Int):Prop:=c.ok∧c.vs.length<2*cnt c.vs ids
instance (c:ConfA)(ids:List Int):Decidable (c.qv ids):=inferInstanceAs (Decidable (_∧_))
theorem zJC{l:List Int}(h:Rises l):l.length≤16:=by
  have key:∀ (l:List Int) (a:Int),(a::l).Pairwise (· < ·)→(∀ x∈l,x≤16)→a≤16→(l.length:Int)≤16 - a:=by
    intro l
    induction l with
    |nil=>intro a _ _ h;simp;omega
    |cons b l ih=>
      intro a h1 h2 h3
      have h4:=List.pairwise_cons.1 h1
      have h5:=ih b h4.2 (fun x hx=>h2 x (List.mem_cons_of_mem _ hx)) (h2 b qQ)
      have h6:=h4.1 b qQ
      rw[List.length_cons];omega
  have:=key l 0 h.1 h.2 V
  omega
theorem zN1{α:Type}[Inhabited α]{l:List α}{P:α→Prop}{k:Nat}(hk:l.length≤k)(h:∀ j,j<k→P (zG l j)):∀ p∈l,P p:=fun p hp=>by
  obtain⟨i,hi⟩:=List.mem_iff_getElem?.1 hp
  have:=h i (by have:=(List.getElem?_eq_some_iff.1 hi).1;omega)
  rwa [nth_eq hi]at this
theorem zGQ{P:Nat→Prop}{k:Nat}(h:∀ j,j<k→P j)(hk:P k):∀ j,j<k+1→P j:=fun j hj=>by
  by_cases e:j=k
  · rw[e];exact hk
  exact h j V
theorem yi{vs:List Int}{l:List EntA}{upto:Nat}(h:vs.length≤1000):(y9 vs l upto).1.vs.length≤1000∧(y9 vs l upto).1.ls.length≤1000:=by
  have hd:∀ b:List UInt8,((xN b).getD ⟨[],[]⟩).vs.length≤1000∧((xN b).getD ⟨[],[]⟩).ls.length≤1000:=fun b=>by
    cases hq:xN b with
    |none=>simp
    |some F=>
      have h1:F.ok:=by
        unfold xN zAy at hq
        cases h2:zH3 b 0 with
        |none=>rw[h2]at hq;simp at hq
        |some q=>
          rw[h2]at hq
          simp only[Option.bind_some]at hq
          split at hq
          · rename_i h3;cases hq;exact h3.2
          cases hq
      have hs:∀ l:List Int,Rises l→l.length≤16:=fun l hr=>zJC hr
      have:=hs _ h1.1.1.1;have:=hs _ h1.1.1.2
      simp only[Option.getD_some];omega
  unfold y9
  split
  · exact hd _
  exact⟨h,by simp⟩
theorem xq{S:List Nat}(cb jb:Nat)(t:TimD)(a:StA)(r:RolD)(b:StB)(lead yv out:Value)(qe:Nat)(lv:Value)(es:List EntD)(w:World)(hg:(LG 0 0 es).good)(hl:es.length≤1000000)(hvl:b.vs.length≤1000)(hin:Own w S [z7 cb t lead a r b yv jb qe out,Res.nl b lv es] w):Rets Tryz.prog 36 #[pt cb] w fun u_ w'=>∃ (cv cw:Value) (F:ConfA),u_= .agg #[cv,cw]∧F=zc b.vs (es.map EntD.toEntA)∧Own w S [z7 cb t lead a r b yv jb qe out,Res.nl b lv es,vI cv F.vs,vI cw F.ls] w':=by
  have hb:=(LG.le hg).1
  refine zW Tryz.func36 O Tryz.ntmps36 hin ?_
  refine zC (yC (v:= .agg #[.slice none 0 0, .slice none 0 0]) qN O (fun b2=>zA (zC (zD O (zb O O (zK (o:=29) O O (zM 0 (v:=pt b.lb) O O O O (a_call O O (fun w' hw=>(kV b.lb 0 0 lv es w' qP qO (hw.qF 1 0 O O) (hw.qH 1 1 O O) (EntD.rd.qF 1 2 O O hw)).mono ?_)))))))))
  rintro _ w1 ⟨rfl,hO⟩
  refine O3 ?_ (hw.qi hO)
  refine zD O (yA (vs:=[Vn (0+es.length),Vn ((LG 0 0 es).end_)]) O O O (yA (vs:=[Vn (0+es.length),Vn ((LG 0 0 es).end_)]) O O O (zI O (zI O (zA (zC (zD O (zD O (a_call O O (fun w' hw=>(zDU cb jb t a r b lead yv out qe _ _ (0+es.length) w' ‹_› V V (hw.give [0,1] O qM)).mono ?_))))))))))
  rintro _ w1 ⟨cv1_,cw2_,F3_,I4_,rfl,hf2_2,hO⟩
  refine O5 ?_ (hw.qh [0,1] O hO)
  refine zD O (yA (vs:=[.agg #[cv1_,cw2_],Vn I4_]) O O O (yA (vs:=[.agg #[cv1_,cw2_],Vn I4_]) O O O (yC (v:= .agg #[.slice none 0 0, .slice none 0 0]) qN O (fun b5=> ?_))))
  refine zN (fun w' hw=>Own.qg (i:=3) O hw) (fun hc1_=> ?_)
  refine zN (fun w' hw=>Own.qg (i:=4) O hw) (fun hc2_=> ?_)
  refine zo 5 O O O (zF hc1_ (zF hc2_ zh)) O (zI O (zA (zC (yL (cs:=[cv1_,cw2_]) 5 O O O (zo 0 O O O (zF hc1_ (zF hc2_ zh)) O (zA ?_))))))
  exact zU (jp (cs:=[cv1_,cw2_]) O O qN (Own.qr (i:=0) O) (fun w' hw=>⟨cv1_,cw2_,F3_,O,(by have h:=congrArg Prod.fst hf2_2;rw[Nat.zero_add]at h;unfold zc;rw[List.length_map];exact h),hw.sel [1,2,3,4] O qM⟩))
theorem zBe{S:List Nat}(cb jb:Nat)(t:TimD)(a:StA)(r:RolD)(b:StB)(lead yv out:Value)(qe:Nat)(lv:Value)(es:List EntD)(w:World)(hg:(LG 0 0 es).good)(hl:es.length≤1000000)(hvl:b.vs.length≤1000)(hin:Own w S [z7 cb t lead a r b yv jb qe out,Res.nl b lv es] w):Rets Tryz.prog 45 #[pt cb] w fun u_ w'=>u_= .bool (decide ((zc b.vs (es.map EntD.toEntA)).qv [a.id]))∧Own w S [z7 cb t lead a r b yv jb qe out,Res.nl b lv es] w':=by
  refine zW Tryz.func45 O Tryz.ntmps45 hin ?_
  refine zC (zI O (zA (zP (ze [0,1] O qM qN (fun w' hw hS=>zB 0 O zS hS (zB 2 O zS hS (zB 3 O (zO O) hS (zB 4 O (zH (o:=10) O) hS (zB 5 O (zY 0 (v:=Vi a.id) O O O) hS (zq 1 6 ?_ ?_))))))))))
  ·refine zl 1 O hw (a_call O O (fun w' hw=>(xq cb jb t a r b lead yv out qe _ _ w' ‹_› V V (hw.give [0,1] O qM)).mono ?_))
   rintro _ w1 ⟨cv1_,cw2_,F3_,rfl,hf1_1,hO⟩
   have hFl:F3_.vs.length≤1000∧F3_.ls.length≤1000:=by rw[hf1_1];exact yi hvl
   refine O4 ?_ (hw.qh [0,1] O hO)
   refine zE [0,1] O qM (fun w' hw hS=>zJ 6 O hw (zx (e:=3) (sz:=1) (vs:=[Vi a.id]) qN O O qR qM O (fun b9=>zE [0,1] O qM (fun w' hw hS=>zJ 7 O hw (a_call O O (fun w' hw=>(xD ({vv:=cv1_,vs:=F3_.vs,lv:=cw2_,ls:=F3_.ls}:ConfD) (.slice (some ⟨b9,0,none⟩) 1 1) [a.id] w' qP qP (hw.qq 4 O) ⟨(hw.qq 2 O),(hw.qq 3 O)⟩).mono ?_))))))
   rintro _ w1 ⟨rfl,hO⟩
   refine O5 ?_ (hw.qi hO)
   refine zE [0,1] O qM (fun w' hw hS=>zB 8 O yO hS (zT ?_))
   refine Oc5 ?_ hw
   exact zU (z9 (v:= .bool (decide (({vv:=cv1_,vs:=F3_.vs,lv:=cw2_,ls:=F3_.ls}:ConfD).qv [a.id]))) O O (fun w' hw=>⟨(by congr 1;exact decide_eq_decide.2 ((by rw[←hf1_1];exact Iff.rfl))),hw.sel [0,1] O qM⟩))
  refine zl 6 O hw (zx (e:=3) (sz:=1) (vs:=[Vi a.id]) qN O O qR qM O (fun b9=>zE [0,1] O qM (fun w' hw hS=>zJ 1 O hw (a_call O O (fun w' hw=>(xq cb jb t a r b lead yv out qe _ _ w' ‹_› V V (hw.give [0,1] O qM)).mono ?_)))))
  rintro _ w1 ⟨cv4_,cw5_,F6_,rfl,hf1_1,hO⟩
  have hFl:F6_.vs.length≤1000∧F6_.ls.length≤1000:=by rw[hf1_1];exact yi hvl
  refine O5 ?_ (hw.qh [0,1] O hO)
  refine zE [1,2] O qM (fun w' hw hS=>zJ 7 O hw (a_call O O (fun w' hw=>(xD ({vv:=cv4_,vs:=F6_.vs,lv:=cw5_,ls:=F6_.ls}:ConfD) (.slice (some ⟨b9,0,none⟩) 1 1) [a.id] w' qP qP (hw.qq 0 O) ⟨(hw.qq 3 O),(hw.qq 4 O)⟩).mono ?_)))
  rintro _ w1 ⟨rfl,hO⟩
  refine O5 ?_ (hw.qi hO)
  refine zE [1,2] O qM (fun w' hw hS=>zB 8 O yO hS (zT ?_))
  refine Oc5 ?_ hw
  exact zU (z9 (v:= .bool (decide (({vv:=cv4_,vs:=F6_.vs,lv:=cw5_,ls:=F6_.ls}:ConfD).qv [a.id]))) O O (fun w' hw=>⟨(by congr 1;exact decide_eq_decide.2 ((by rw[←hf1_1];exact Iff.rfl))),hw.sel [1,2] O qM⟩))
theorem zHO{S:List Nat}(cb jb:Nat)(t:TimD)(a:StA)(r:RolD)(b:StB)(lead yv out:Value)(qe:Nat)(lv:Value)(es:List EntD)(w:World)(hg:(LG 0 0 es).good)(hl:es.length≤1000000)(hvl:b.vs.length≤1000)(hin:Own w S [z7 cb t lead a r b yv jb qe out,Res.nl b lv es] w):Rets Tryz.prog 89 #[pt cb] w fun u_ w'=>u_= .bool (decide ((y9 b.vs (es.map EntD.toEntA) es.length).2≤r.qc))∧Own w S [z7 cb t lead a r b yv jb qe out,Res.nl b lv es] w':=by
  have hb:=(LG.le hg).1
  refine zW Tryz.func89 O Tryz.ntmps89 hin ?_
  refine zC (zI O (zA (zC (zD O (zb O O (zK (o:=29) O O (zM 0 (v:=pt b.lb) O O O O (a_call O O (fun w' hw=>(kV b.lb 0 0 lv es w' qP qO (hw.qF 1 0 O O) (hw.qH 1 1 O O) (EntD.rd.qF 1 2 O O hw)).mono ?_)))))))))
  rintro _ w1 ⟨rfl,hO⟩
  refine O2 ?_ (hw.qi hO)
  refine zD O (yA (vs:=[Vn (0+es.length),Vn ((LG 0 0 es).end_)]) O O O (yA (vs:=[Vn (0+es.length),Vn ((LG 0 0 es).end_)]) O O O (zI O (zI O (zA (zC (zD O (zD O (a_call O O (fun w' hw=>(zDU cb jb t a r b lead yv out qe _ _ (0+es.length) w' ‹_› V V (hw.give [0,1] O qM)).mono ?_))))))))))
  rintro _ w1 ⟨cv1_,cw2_,F3_,I4_,rfl,hf2_2,hO⟩
  refine O4 ?_ (hw.qh [0,1] O hO)
  refine zD O (yA (vs:=[.agg #[cv1_,cw2_],Vn I4_]) O O O (yA (vs:=[.agg #[cv1_,cw2_],Vn I4_]) O O O (yC (v:= .agg #[.slice none 0 0, .slice none 0 0]) qN O (fun b5=> ?_))))
  refine zN (fun w' hw=>Own.qg (i:=2) O hw) (fun hc1_=> ?_)
  refine zN (fun w' hw=>Own.qg (i:=3) O hw) (fun hc2_=> ?_)
  refine zo 4 O O O (zF hc1_ (zF hc2_ zh)) O (zI O (zA (zC (zD O (zD O (zb O O (zK (o:=23) O O (zM 0 (v:=Vn r.qc) O O O O (x6 O O O (zI O (zA ?_)))))))))))
  exact zU (z9 (v:= .bool (decide (((I4_:Nat):Int)≤((r.qc:Nat):Int)))) O O (fun w' hw=>⟨(by congr 1;exact decide_eq_decide.2 ((by have h:=congrArg Prod.snd hf2_2;rw[Nat.zero_add]at h;rw[←h];exact⟨fun q=>by omega,fun q=>by omega⟩))),hw.sel [0,1] O qM⟩))
theorem zH8{S:List Nat}(cb jb:Nat)(t:TimD)(a:StA)(r:RolD)(b:StB)(lead yv out:Value)(qe:Nat)(w:World)(hin:Own w S [z7 cb t lead a r b yv jb qe out] w):Rets Tryz.prog 13 #[pt cb] w fun u_ w'=>u_= .tuple #[.agg #[Vn t.term,Vi t.qD],Vi r.qp,Vi r.who,Vn r.qc]∧Own w S [z7 cb t lead a r b yv jb qe out] w':=by
  refine zW Tryz.func13 O Tryz.ntmps13 hin ?_
  refine zC (yC (v:= .agg #[Vn 0,Vi 0]) qN O (fun b2=>zI O (zI O (zI O (zA (zP (zC (zD O (xf qN O O O (zA (xx O (zQ ?_))))))))))))
  refine zP (ze [0] O qM qN (fun w' hw hS=>zB 0 O zS hS (zB 1 O (zO O) hS (zB 2 O (zH (o:=0) O) hS (zB 3 O (zE9 0 [Vn t.term,Vi t.qD] O O (kN 0 O) qN) hS (zB 4 O zS hS (zB 5 O (zO O) hS (zB 6 O (zH (o:=21) O) hS (zB 7 O (zY 0 (v:=Vi r.qp) O O O) hS (zB 8 O zS hS (zB 9 O (zO O) hS (zB 10 O (zH (o:=22) O) hS ?_))))))))))))
  refine zB 11 O (zY 0 (v:=Vi r.who) O O O) hS (zB 12 O zS hS (zB 13 O (zO O) hS (zB 14 O (zH (o:=23) O) hS (zB 15 O (zY 0 (v:=Vn r.qc) O O O) hS (zJ 16 O hw (zo 1 O O O (xO O) O (zE [0] O qM (fun w' hw hS=>zB 17 O yO hS (zB 18 O yO hS (zB 19 O yO hS (zT ?_)))))))))))
  refine Oc2 ?_ hw
  exact zU (zQi (cs:=[Vn t.term,Vi t.qD]) (v:=Vi r.qp) (v2:=Vi r.who) (v3:=Vn r.qc) O O O O O qN (Own.qr (i:=1) O) (fun w' hw=>⟨O,hw.sel [0] O qM⟩))
theorem zIt{S:List Nat}(cb jb:Nat)(t:TimD)(a:StA)(r:RolD)(b:StB)(lead yv out:Value)(qe:Nat)(lv:Value)(es:List EntD)(w:World)(hg:(LG 0 0 es).good)(hl:es.length≤1000000)(hvl:b.vs.length≤1000)(hcm:r.qc≤es.length)(hin:Own w S [z7 cb t lead a r b yv jb qe out,Res.nl b lv es] w):Rets Tryz.prog 43 #[pt cb] w fun u_ w'=>u_= .bool (decide ((LG 0 0 es).fits r.qc t.term))∧Own w S [z7 cb t lead a r b yv jb qe out,Res.nl b lv es] w':=by
  have hb:=(LG.le hg).1
  refine zW Tryz.func43 O Tryz.ntmps43 hin ?_
  refine zC (zI O (zA (zP (ze [0,1] O qM qN (fun w' hw hS=>zB 0 O zS hS (zB 1 O (zO O) hS (zB 2 O (zH (o:=29) O) hS (zB 3 O (zY 0 (v:=pt b.lb) O O O) hS (zB 4 O zS hS (zB 5 O (zO O) hS (zB 6 O (zH (o:=23) O) hS (zB 7 O (zY 0 (v:=Vn r.qc) O O O) hS ?_))))))))))))
  refine zB 8 O zS hS (zB 9 O (zO O) hS (zB 10 O (zH (o:=0) O) hS (zB 11 O (zH (o:=0) O) hS (zB 12 O (zY 0 (v:=Vn t.term) O O O) hS (zJ 13 O hw (a_call O O (fun w' hw=>(zCz b.lb 0 0 lv es r.qc t.term w' qP qO qO (hw.qF 1 0 O O) (hw.qH 1 1 O O) (EntD.rd.qF 1 2 O O hw)).mono ?_)))))))
  rintro _ w1 ⟨rfl,hO⟩
  refine O2 ?_ (hw.qi hO)
  refine zE [0,1] O qM (fun w' hw hS=>zB 14 O yO hS (zT ?_))
  refine Oc2 ?_ hw
  exact zU (z9 (v:= .bool (decide ((LG 0 0 es).fits r.qc t.term))) O O (fun w' hw=>⟨O,hw⟩))
def xX(last:Nat)(id:Int):PeerM:={id:=id,next:=last+1,qy:=0,round:=0,qx:=0,off:=0,opn:=false,told:=true,asked:=false}
theorem zAh{S:List Nat}(cb jb:Nat)(t:TimD)(a:StA)(r:RolD)(b:StB)(lead yv out:Value)(qe:Nat)(lv:Value)(es:List EntD)(id:Int)(w:World)(hg:(LG 0 0 es).good)(hl:es.length≤1000000)(hvl:b.vs.length≤1000)(hin:Own w S [z7 cb t lead a r b yv jb qe out,Res.nl b lv es] w):Rets Tryz.prog 96 #[pt cb,Vi id] w fun u_ w'=>∃ (pb:Nat),u_=pt pb∧Own w S [z7 cb t lead a r b yv jb qe out,Res.nl b lv es,kF pb (xX es.length id)] w':=by
  have hb:=(LG.le hg).1
  refine zW Tryz.func96 O Tryz.ntmps96 hin ?_
  refine zC (zI O (zA (zC (zD O (zb O O (zK (o:=29) O O (zM 0 (v:=pt b.lb) O O O O (a_call O O (fun w' hw=>(kV b.lb 0 0 lv es w' qP qO (hw.qF 1 0 O O) (hw.qH 1 1 O O) (EntD.rd.qF 1 2 O O hw)).mono ?_)))))))))
  rintro _ w1 ⟨rfl,hO⟩
  refine O2 ?_ (hw.qi hO)
  refine zD O (yA (vs:=[Vn (0+es.length),Vn ((LG 0 0 es).end_)]) O O O (yA (vs:=[Vn (0+es.length),Vn ((LG 0 0 es).end_)]) O O O (zI O (zI O (zA (zC (zD O (zD O (zt O O (xA V) O (yh (cs:=[Vi id,Vn ((0+es.length)+1),Vn 0,Vn 0,Vi 0,Vi 0, .bool false, .bool true, .bool false]) (z:=[Vi 0,Vn 0,Vn 0,Vn 0,Vi 0,Vi 0, .bool false, .bool false, .bool false]) (pl:=[(0,1),(1,1),(2,1),(3,1),(4,1),(5,1),(6,1),(7,1),(8,1)]) qN qN O (z8 O O (fun b19=>zI O ?_))))))))))))
  refine zA ?_
  exact zU (z9 (v:=pt b19) O O (fun w' hw=>⟨b19,O,(by rw[Nat.zero_add es.length]at hw;exact hw)⟩))
def ya(ps:List PeerP)(id:Int):Option Nat:=ps.findIdx? fun p=>decide (p.2.id=id)
def PeerIs(ps:List PeerP)(id:Int)(pv:Option Addr):Prop:=(pv=none∧ya ps id=none)∨∃ k,k<ps.length∧pv=some ⟨(zG ps k).1,0,none⟩∧(zG ps k).2.id=id∧ya ps id=some k
theorem PeerIs.no{ps:List PeerP}{id:Int}{k:Nat}(hk:ps.length≤k)(h:∀ j,j<k→(zG ps j).2.id≠id):PeerIs ps id none:= .inl ⟨rfl,by
  unfold ya
  rw[List.findIdx?_eq_none_iff]
  intro p hp
  exact decide_eq_false (zN1 (l:=ps) (P:=fun p=>p.2.id≠id) hk h p hp)⟩
theorem PeerIs.yes{ps:List PeerP}{id:Int}{k:Nat}(hk:k<ps.length)(hi:(zG ps k).2.id=id)(h:∀ j,j<k→(zG ps j).2.id≠id):PeerIs ps id (some ⟨(zG ps k).1,0,none⟩):= .inr ⟨k,hk,rfl,hi,by
  unfold ya
  rw[List.findIdx?_eq_some_iff_getElem]
  have at_:∀ j (hj:j<ps.length),ps[j]=zG ps j:=fun j hj=>(nth_eq (List.getElem?_eq_getElem hj)).symm
  exact⟨hk,by rw[at_ k hk];exact decide_eq_true hi,fun j hj=>by rw[at_ j V];simp[h j hj]⟩⟩
theorem PeerIs.some{ps:List PeerP}{id:Int}{pv:Option Addr}(h:PeerIs ps id pv)(hs:pv.isSome=true):∃ k,k<ps.length∧pv=some ⟨(zG ps k).1,0,none⟩∧(zG ps k).2.id=id∧ya ps id=some k:=by
  rcases h with⟨rfl,_⟩|h
  · cases hs
  exact h
theorem PeerIs.none{ps:List PeerP}{id:Int}{pv:Option Addr}(h:PeerIs ps id pv)(hs:pv.isSome=false):ya ps id=none:=by
  rcases h with⟨rfl,h⟩|⟨k,_,rfl,_⟩
  · exact h
  cases hs
theorem _root_.Go.Sc.qT{p:Prop}(h:p:=by first|assumption|(simp only[z5,List.length_set];first|assumption|omega)|omega):p:=h
theorem zDj{S:List Nat}(cb jb:Nat)(t:TimD)(a:StA)(r:RolD)(b:StB)(yv out:Value)(qe:Nat)(ld:Nat)(l:LdD)(id:Int)(w:World)(hpl:l.qa.length≤1000000)(hin:Own w S [z7 cb t (pt ld) a r b yv jb qe out,Res.ld ld l] w):Rets Tryz.prog 95 #[pt cb,Vi id] w fun u_ w'=>∃ (pv:Option Addr),u_= .pointer pv∧PeerIs l.qa id pv∧Own w S [z7 cb t (pt ld) a r b yv jb qe out,Res.ld ld l] w':=by
  refine zW Tryz.func95 O Tryz.ntmps95 hin ?_
  refine zC (zI O (zA (zP (zC (zD O (zb O O (zK (o:=9) O O (zM 0 (v:=pt ld) O O O O (zb O O (zK (o:=0) O O (z6 (v:=l.pv) 1 0 0 O O O O qN O (zp (pC 1 1 O O) O O ?_))))))))))))
  refine zD O (zA (zZ ?_))
  refine xT (fun(k:Nat)=>[(1,Vi id),(13,l.pv),(14,Vj l.qa.length),(15,Vj k)]) (fun(k:Nat)=>k≤l.qa.length∧∀ j,j<k→(zG l.qa j).2.id≠id) (fun(k:Nat)=>[z7 cb t (pt ld) a r b yv jb qe out,Res.ld ld l]) (fun(k:Nat)=>l.qa.length - k) (fun w' hw=>⟨0,⟨O,O,O,O,trivial⟩,⟨Nat.zero_le _,fun j h=>by cases h⟩,hw⟩) (fun k g hΦ=> ?_)
  have hk:=hΦ.1
  refine zC (yI O O O (zA (zP (za O (fun c1=> ?_) (fun c1=> ?_)))))
  ·refine zQ (zP (zZ (zC (zk (pC 1 1 O O) 1 k O O O V O (yH (pC 1 1 O O) 1 k 0 (fun _=>O) O O V O O (zI O (zA (zC (zD O (zb O O (zK (o:=0) O O (kE (l:=l.qa) 1 2 k 0 O O qT O O O qN O ?_))))))))))))
   refine zD O (yR O O O (zA (za O (fun c2=> ?_) (fun c2=> ?_))))
   ·refine zC (zD O (zI O (zA ?_)))
    exact zU (z9 (v:=pt ((zG l.qa k).1)) O O (fun w' hw=>⟨some ⟨(zG l.qa k).1,0,none⟩,O,PeerIs.yes V c2 hΦ.2,hw⟩))
   refine zQ (zV (zt O O (zr V) O (zD O ?_)))
   exact zg (fun w' hw=>⟨k+1,⟨O,O,O,O,trivial⟩,⟨by omega,zGQ hΦ.2 c2⟩,hw,V⟩)
  refine yF O (zC (zI O (zA ?_)))
  exact zU (z9 (v:= .pointer none) O O (fun w' hw=>⟨none,O,PeerIs.no (k:=k) V hΦ.2,hw⟩))
theorem zHz{S:List Nat}(cb jb:Nat)(t:TimD)(a:StA)(r:RolD)(b:StB)(lead yv out:Value)(qe:Nat)(lv:Value)(es:List EntD)(kind:Int)(xv:Value)(data:List UInt8)(w:World)(hg:(LG 0 0 es).good)(hl:es.length≤1000000)(hvl:b.vs.length≤1000)(hn:0≤t.now∧t.now≤1000000000000000)(hs:0≤t.qC∧t.qC≤1000000000000000)(hd:data.length≤1000000000)(ht:t.term≤4611686018427387904)(hin:Own w S [z7 cb t lead a r b yv jb qe out,Res.nl b lv es] w)(hxv:Rd w S (Res.sl xv data.length (data.map vb))):Rets Tryz.prog 39 #[pt cb,Vi kind,xv] w fun u_ w'=>∃ (lv':Value) (es':List EntD),u_=Vn (es.length+1)∧LG 0 0 es'=(LG 0 0 es).append es.length (LG 0 0 es).end_ [⟨es.length+1,t.term,kind,min (t.now - t.qC) 1099511627776,data⟩]∧Own w S [z7 cb ({t with qC:=t.now}:TimD) lead a r b yv jb qe out,Res.nl b lv' es'] w':=by
  have hb:=(LG.le hg).1
  refine zW Tryz.func39 O Tryz.ntmps39 hin ?_
  refine zC (zI O (zA (zC (zD O (zb O O (zK (o:=29) O O (zM 0 (v:=pt b.lb) O O O O (a_call O O (fun w' hw=>(kV b.lb 0 0 lv es w' qP qO (hw.qF 1 0 O O) (hw.qH 1 1 O O) (EntD.rd.qF 1 2 O O hw)).mono ?_)))))))))
  rintro _ w1 ⟨rfl,hO⟩
  refine O2 ?_ (hw.qi hO)
  refine zD O (yA (vs:=[Vn (0+es.length),Vn ((LG 0 0 es).end_)]) O O O (yA (vs:=[Vn (0+es.length),Vn ((LG 0 0 es).end_)]) O O O (zI O (zI O (zA (zC (zD O (zt O O (xA V) O (zD O (zb O O (zK (o:=0) O O (zK (o:=0) O O ?_))))))))))))
  refine zM 0 (v:=Vn t.term) O O O O (zD O (zD O (jK (cs:=[Vn ((0+es.length)+1),Vn t.term,Vi kind,Vi 0,xv]) (z:=[Vn 0,Vn 0,Vi 0,Vi 0, .slice none 0 0]) (pl:=[(0,1),(1,1),(2,1),(3,1),(4,1)]) qN ⟨O,O,O,(Sl.cell1 (Rd.φ hxv)),trivial⟩ qN O (yC (v:= .agg #[Vn 0,Vn 0,Vi 0,Vi 0, .slice none 0 0]) qN O (fun b9=>zo 2 O O O (zF O (zF O (zF O (zF O (zF (Sl.cell1 (Rd.φ hxv)) zh))))) O (zA (zP (ze [0,1] O qM qN (fun w' hw hS=>zB 0 O zS hS (zB 1 O (zO O) hS (zB 2 O (zH (o:=2) O) hS (zB 3 O (zH (o:=0) O) hS ?_))))))))))))
  refine zB 4 O (zY 0 (v:=Vi t.now) O O O) hS (zB 5 O zS hS (zB 6 O (zO O) hS (zB 7 O (zH (o:=2) O) hS (zB 8 O (zH (o:=6) O) hS (zB 9 O (zY 0 (v:=Vi t.qC) O O O) hS (zB 10 O (xl O O (zr V)) hS (zB 11 O (zFk (c:=min (t.now - t.qC) 1099511627776) O O (zQu _ _)) hS (zB 12 O (zH (o:=3) O) hS (zJ 13 O hw (zn (cs:=[Vn ((0+es.length)+1),Vn t.term,Vi kind,Vi 0,xv]) 2 O O O O O (zE [0,1] O qM (fun w' hw hS=>zT ?_))))))))))))
  refine Oc3 ?_ hw
  refine zC (zD O (zD O (zb O O (zK (o:=2) O O (zK (o:=0) O O (zM 0 (v:=Vi t.now) O O O O (zb O O (zK (o:=2) O O (zK (o:=6) O O (zn 0 O O O O O (zA (zP ?_))))))))))))
  refine ze [0,2] O qM qN (fun w' hw hS=>zB 0 O zS hS (zB 1 O (zO O) hS (zB 2 O (zH (o:=29) O) hS (zB 3 O (zY 0 (v:=pt b.lb) O O O) hS (zB 4 O zS hS (zB 5 O zS hS (zB 6 O (x1 1 O O) hS (zJ 7 O hw (zx (e:=81) (sz:=5) (vs:=[.agg #[Vn ((0+es.length)+1),Vn t.term,Vi kind,Vi (min (t.now - t.qC) 1099511627776),xv]]) qN O O wi qM O (fun b57=>zE [0,2] O qM (fun w' hw hS=>zJ 8 O hw ?_)))))))))))
  refine z4 [z7 cb ({t with qC:=t.now}:TimD) lead a r b yv jb qe out,Res.row b9 81 [Vn ((0+es.length)+1),Vn t.term,Vi kind,Vi (min (t.now - t.qC) 1099511627776),xv],vE (.slice (some ⟨b57,0,none⟩) 1 1) [({index:=(0+es.length)+1,term:=t.term,kind:=kind,delta:=min (t.now - t.qC) 1099511627776,dv:=xv,data:=data}:EntD)],Res.row b.lb 144 [Vn 0,Vn 0,lv],vE lv es,sE es,vI b.vv b.vs,vI b.wv ([]:List Int)] (fun w' hw=>hw.qn 1 O) ?_
  refine a_call O O (fun w' hw=>(zDW b.lb 0 0 lv es (0+es.length) ((LG 0 0 es).end_) (.slice (some ⟨b57,0,none⟩) 1 1) [({index:=(0+es.length)+1,term:=t.term,kind:=kind,delta:=min (t.now - t.qC) 1099511627776,dv:=xv,data:=data}:EntD)] w' qP ‹_› (fun e he=>by rw[List.mem_singleton.1 he];exact⟨by show(0+es.length)+1<_;omega,by show t.term<_;omega,by show data.length≤_;omega⟩) qO (hw.give [3,4,5] O qM) (hw.rdVec 2 O [3,4,5] O O) (all_cons ⟨(hw.rdTo hxv [3,4,5] O)⟩ (fun p hp=>by cases hp))).mono ?_)
  rintro _ w1 ⟨lv'1_,es'2_,x3_,y4_,e5_,rfl,hf5_8,hf5_8_1,hO⟩
  refine O8 ?_ (hw.qh [3,4,5] O hO)
  refine zE [0,1] O qM (fun w' hw hS=>zT ?_)
  refine Oc8 ?_ hw
  refine zC (zK (o:=0) O O (zM 1 (v:=Vn ((0+es.length)+1)) O O O O (zI O (zA ?_))))
  exact zU (z9 (v:=Vn ((0+es.length)+1)) O O (fun w' hw=>⟨lv'1_,es'2_,(by rw[Nat.zero_add]),(by have h:=hf5_8;rw[Nat.zero_add]at h;exact h),(hw.qo [5,6,7,3,4] O qM).sel [0,3] O qM⟩))
end Go.Proofs.YtkkeknmkipkbmaaGreat
