import Derived.Test.YtkkeknmkipkbmaaGreatCoC
set_option linter.unusedSectionVars false
set_option linter.unusedSimpArgs false
set_option linter.unusedVariables false
set_option maxRecDepth 10000
namespace Go.Proofs.YtkkeknmkipkbmaaGreat
open Go Go.Sc Go.Proofs
def zc(vs:List Int)(l:List EntA):ConfA:=(y5 vs l l.length).1
def ConfA.qv(c:ConfA)(ids:List Int):Prop:=c.ok∧c.vs.length<2*cnt c.vs ids
instance (c:ConfA)(ids:List Int):Decidable (c.qv ids):=inferInstanceAs (Decidable (_∧_))
theorem zJz{l:List Int}(h:Rises l):l.length≤16:=by
  have key:∀ (l:List Int) (a:Int),(a::l).Pairwise (· < ·)→(∀ x∈l,x≤16)→a≤16→(l.length:Int)≤16 - a:=by
    intro l
    induction l with
    |nil=>intro a _ _ h;simp;omega
    |cons b l ih=>
      intro a h1 h2 h3
      have h4:=List.pairwise_cons.1 h1
      have h5:=ih b h4.2 (fun x hx=>h2 x (List.mem_cons_of_mem _ hx)) (h2 b qQ)
      have h6:=h4.1 b qQ
      rw[List.length_cons];omega
  have:=key l 0 h.1 h.2 V
  omega
theorem zNi{α:Type}[Inhabited α]{l:List α}{P:α→Prop}{k:Nat}(hk:l.length≤k)(h:∀ j,j<k→P (zG l j)):∀ p∈l,P p:=fun p hp=>by
  obtain⟨i,hi⟩:=List.mem_iff_getElem?.1 hp
  have:=h i (by have:=(List.getElem?_eq_some_iff.1 hi).1;omega)
  rwa [nth_eq hi]at this
theorem zF5{P:Nat→Prop}{k:Nat}(h:∀ j,j<k→P j)(hk:P k):∀ j,j<k+1→P j:=fun j hj=>by
  by_cases e:j=k
  · rw[e];exact hk
  exact h j V
theorem yf{vs:List Int}{l:List EntA}{upto:Nat}(h:vs.length≤1000):(y5 vs l upto).1.vs.length≤1000∧(y5 vs l upto).1.ls.length≤1000:=by
  have hd:∀ b:List UInt8,((xH b).getD ⟨[],[]⟩).vs.length≤1000∧((xH b).getD ⟨[],[]⟩).ls.length≤1000:=fun b=>by
    cases hq:xH b with
    |none=>simp
    |some F=>
      have h1:F.ok:=by
        unfold xH zAl at hq
        cases h2:zHz b 0 with
        |none=>rw[h2]at hq;simp at hq
        |some q=>
          rw[h2]at hq
          simp only[Option.bind_some]at hq
          split at hq
          · rename_i h3;cases hq;exact h3.2
          cases hq
      have hs:∀ l:List Int,Rises l→l.length≤16:=fun l hr=>zJz hr
      have:=hs _ h1.1.1.1;have:=hs _ h1.1.1.2
      simp only[Option.getD_some];omega
  unfold y5
  split
  · exact hd _
  exact⟨h,by simp⟩
theorem xe{S:List Nat}(cb jb:Nat)(t:TimD)(a:StA)(r:RolD)(b:StB)(lead yv out:Value)(qd:Nat)(lv:Value)(es:List EntD)(w:World)(hg:(LG 0 0 es).good)(hl:es.length≤1000000)(hvl:b.vs.length≤1000)(hin:Own w S [z4 cb t lead a r b yv jb qd out,Res.nl b lv es] w):Rets Tryz.prog 36 #[pt cb] w fun u_ w'=>∃ (cv cw:Value) (F:ConfA),u_= .agg #[cv,cw]∧F=zc b.vs (es.map EntD.toEntA)∧Own w S [z4 cb t lead a r b yv jb qd out,Res.nl b lv es,vI cv F.vs,vI cw F.ls] w':=by
  have hb:=(LG.le hg).1
  refine zW Tryz.func36 O Tryz.ntmps36 hin ?_
  refine zB (yE (v:= .agg #[.slice none 0 0, .slice none 0 0]) qN O (fun b2=>zA (zB (zD O (za O O (zJ (o:=29) O O (zL 0 (v:=pt b.lb) O O O O (a_call O O (fun w' hw=>(kG b.lb 0 0 lv es w' qP qO (hw.qF 1 0 O O) (hw.qH 1 1 O O) (EntD.rd.qF 1 2 O O hw)).mono ?_)))))))))
  rintro _ w1 ⟨rfl,hO⟩
  refine O3 ?_ (hw.qi hO)
  refine zD O (z8 (vs:=[Vn (0+es.length),Vn ((LG 0 0 es).end_)]) O O O (z8 (vs:=[Vn (0+es.length),Vn ((LG 0 0 es).end_)]) O O O (zI O (zI O (zA (zB (zD O (zD O (a_call O O (fun w' hw=>(zC7 cb jb t a r b lead yv out qd _ _ (0+es.length) w' ‹_› V V (hw.give [0,1] O qM)).mono ?_))))))))))
  rintro _ w1 ⟨cv1_,cw2_,F3_,I4_,rfl,hf2_2,hO⟩
  refine O5 ?_ (hw.qg [0,1] O hO)
  refine zD O (z8 (vs:=[.agg #[cv1_,cw2_],Vn I4_]) O O O (z8 (vs:=[.agg #[cv1_,cw2_],Vn I4_]) O O O (yE (v:= .agg #[.slice none 0 0, .slice none 0 0]) qN O (fun b5=> ?_))))
  refine zP (fun w' hw=>Own.qh (i:=3) O hw) (fun hc1_=> ?_)
  refine zP (fun w' hw=>Own.qh (i:=4) O hw) (fun hc2_=> ?_)
  refine zr 5 O O O (zF hc1_ (zF hc2_ zj)) O (zI O (zA (zB (yI (cs:=[cv1_,cw2_]) 5 O O O (zr 0 O O O (zF hc1_ (zF hc2_ zj)) O (zA ?_))))))
  exact zV (jj (cs:=[cv1_,cw2_]) O O qN (Own.qt (i:=0) O) (fun w' hw=>⟨cv1_,cw2_,F3_,O,(by have h:=congrArg Prod.fst hf2_2;rw[Nat.zero_add]at h;unfold zc;rw[List.length_map];exact h),hw.sel [1,2,3,4] O qM⟩))
theorem zCd{S:List Nat}(cb jb:Nat)(t:TimD)(a:StA)(r:RolD)(b:StB)(lead yv out:Value)(qd:Nat)(lv:Value)(es:List EntD)(w:World)(hg:(LG 0 0 es).good)(hl:es.length≤1000000)(hvl:b.vs.length≤1000)(hin:Own w S [z4 cb t lead a r b yv jb qd out,Res.nl b lv es] w):Rets Tryz.prog 45 #[pt cb] w fun u_ w'=>u_= .bool (decide ((zc b.vs (es.map EntD.toEntA)).qv [a.id]))∧Own w S [z4 cb t lead a r b yv jb qd out,Res.nl b lv es] w':=by
  refine zW Tryz.func45 O Tryz.ntmps45 hin ?_
  refine zB (zI O (zA (zN (zg [0,1] O qM qN (fun w' hw hS=>zC 0 O zT hS (zC 2 O zT hS (zC 3 O (zQ O) hS (zC 4 O (zH (o:=10) O) hS (zC 5 O (zZ 0 (v:=Vi a.id) O O O) hS (zu 1 6 ?_ ?_))))))))))
  ·refine zm 1 O hw (a_call O O (fun w' hw=>(xe cb jb t a r b lead yv out qd _ _ w' ‹_› V V (hw.give [0,1] O qM)).mono ?_))
   rintro _ w1 ⟨cv1_,cw2_,F3_,rfl,hf1_1,hO⟩
   have hFl:F3_.vs.length≤1000∧F3_.ls.length≤1000:=by rw[hf1_1];exact yf hvl
   refine O4 ?_ (hw.qg [0,1] O hO)
   refine zE [0,1] O qM (fun w' hw hS=>zK 6 O hw (zy (e:=3) (sz:=1) (vs:=[Vi a.id]) qN O O qR qM O (fun b9=>zE [0,1] O qM (fun w' hw hS=>zK 7 O hw (a_call O O (fun w' hw=>(y6 ({vv:=cv1_,vs:=F3_.vs,lv:=cw2_,ls:=F3_.ls}:ConfD) (.slice (some ⟨b9,0,none⟩) 1 1) [a.id] w' qP qP (hw.qp 4 O) ⟨(hw.qp 2 O),(hw.qp 3 O)⟩).mono ?_))))))
   rintro _ w1 ⟨rfl,hO⟩
   refine O5 ?_ (hw.qi hO)
   refine zE [0,1] O qM (fun w' hw hS=>zC 8 O yO hS (zU ?_))
   refine Oc5 ?_ hw
   exact zV (z6 (v:= .bool (decide (({vv:=cv1_,vs:=F3_.vs,lv:=cw2_,ls:=F3_.ls}:ConfD).qv [a.id]))) O O (fun w' hw=>⟨(by congr 1;exact decide_eq_decide.2 ((by rw[←hf1_1];exact Iff.rfl))),hw.sel [0,1] O qM⟩))
  refine zm 6 O hw (zy (e:=3) (sz:=1) (vs:=[Vi a.id]) qN O O qR qM O (fun b9=>zE [0,1] O qM (fun w' hw hS=>zK 1 O hw (a_call O O (fun w' hw=>(xe cb jb t a r b lead yv out qd _ _ w' ‹_› V V (hw.give [0,1] O qM)).mono ?_)))))
  rintro _ w1 ⟨cv4_,cw5_,F6_,rfl,hf1_1,hO⟩
  have hFl:F6_.vs.length≤1000∧F6_.ls.length≤1000:=by rw[hf1_1];exact yf hvl
  refine O5 ?_ (hw.qg [0,1] O hO)
  refine zE [1,2] O qM (fun w' hw hS=>zK 7 O hw (a_call O O (fun w' hw=>(y6 ({vv:=cv4_,vs:=F6_.vs,lv:=cw5_,ls:=F6_.ls}:ConfD) (.slice (some ⟨b9,0,none⟩) 1 1) [a.id] w' qP qP (hw.qp 0 O) ⟨(hw.qp 3 O),(hw.qp 4 O)⟩).mono ?_)))
  rintro _ w1 ⟨rfl,hO⟩
  refine O5 ?_ (hw.qi hO)
  refine zE [1,2] O qM (fun w' hw hS=>zC 8 O yO hS (zU ?_))
  refine Oc5 ?_ hw
  exact zV (z6 (v:= .bool (decide (({vv:=cv4_,vs:=F6_.vs,lv:=cw5_,ls:=F6_.ls}:ConfD).qv [a.id]))) O O (fun w' hw=>⟨(by congr 1;exact decide_eq_decide.2 ((by rw[←hf1_1];exact Iff.rfl))),hw.sel [1,2] O qM⟩))
theorem zHI{S:List Nat}(cb jb:Nat)(t:TimD)(a:StA)(r:RolD)(b:StB)(lead yv out:Value)(qd:Nat)(lv:Value)(es:List EntD)(w:World)(hg:(LG 0 0 es).good)(hl:es.length≤1000000)(hvl:b.vs.length≤1000)(hin:Own w S [z4 cb t lead a r b yv jb qd out,Res.nl b lv es] w):Rets Tryz.prog 89 #[pt cb] w fun u_ w'=>u_= .bool (decide ((y5 b.vs (es.map EntD.toEntA) es.length).2≤r.qc))∧Own w S [z4 cb t lead a r b yv jb qd out,Res.nl b lv es] w':=by
  have hb:=(LG.le hg).1
  refine zW Tryz.func89 O Tryz.ntmps89 hin ?_
  refine zB (zI O (zA (zB (zD O (za O O (zJ (o:=29) O O (zL 0 (v:=pt b.lb) O O O O (a_call O O (fun w' hw=>(kG b.lb 0 0 lv es w' qP qO (hw.qF 1 0 O O) (hw.qH 1 1 O O) (EntD.rd.qF 1 2 O O hw)).mono ?_)))))))))
  rintro _ w1 ⟨rfl,hO⟩
  refine O2 ?_ (hw.qi hO)
  refine zD O (z8 (vs:=[Vn (0+es.length),Vn ((LG 0 0 es).end_)]) O O O (z8 (vs:=[Vn (0+es.length),Vn ((LG 0 0 es).end_)]) O O O (zI O (zI O (zA (zB (zD O (zD O (a_call O O (fun w' hw=>(zC7 cb jb t a r b lead yv out qd _ _ (0+es.length) w' ‹_› V V (hw.give [0,1] O qM)).mono ?_))))))))))
  rintro _ w1 ⟨cv1_,cw2_,F3_,I4_,rfl,hf2_2,hO⟩
  refine O4 ?_ (hw.qg [0,1] O hO)
  refine zD O (z8 (vs:=[.agg #[cv1_,cw2_],Vn I4_]) O O O (z8 (vs:=[.agg #[cv1_,cw2_],Vn I4_]) O O O (yE (v:= .agg #[.slice none 0 0, .slice none 0 0]) qN O (fun b5=> ?_))))
  refine zP (fun w' hw=>Own.qh (i:=2) O hw) (fun hc1_=> ?_)
  refine zP (fun w' hw=>Own.qh (i:=3) O hw) (fun hc2_=> ?_)
  refine zr 4 O O O (zF hc1_ (zF hc2_ zj)) O (zI O (zA (zB (zD O (zD O (za O O (zJ (o:=23) O O (zL 0 (v:=Vn r.qc) O O O O (xp O O O (zI O (zA ?_)))))))))))
  exact zV (z6 (v:= .bool (decide (((I4_:Nat):Int)≤((r.qc:Nat):Int)))) O O (fun w' hw=>⟨(by congr 1;exact decide_eq_decide.2 ((by have h:=congrArg Prod.snd hf2_2;rw[Nat.zero_add]at h;rw[←h];exact⟨fun q=>by omega,fun q=>by omega⟩))),hw.sel [0,1] O qM⟩))
theorem zHg{S:List Nat}(cb jb:Nat)(t:TimD)(a:StA)(r:RolD)(b:StB)(lead yv out:Value)(qd:Nat)(w:World)(hin:Own w S [z4 cb t lead a r b yv jb qd out] w):Rets Tryz.prog 13 #[pt cb] w fun u_ w'=>u_= .tuple #[.agg #[Vn t.term,Vi t.qD],Vi r.qr,Vi r.who,Vn r.qc]∧Own w S [z4 cb t lead a r b yv jb qd out] w':=by
  refine zW Tryz.func13 O Tryz.ntmps13 hin ?_
  refine zB (yE (v:= .agg #[Vn 0,Vi 0]) qN O (fun b2=>zI O (zI O (zI O (zA (zN (zB (zD O (xf qN O O O (zA (xt O (zO ?_))))))))))))
  refine zN (zg [0] O qM qN (fun w' hw hS=>zC 0 O zT hS (zC 1 O (zQ O) hS (zC 2 O (zH (o:=0) O) hS (zC 3 O (zEj 0 [Vn t.term,Vi t.qD] O O (kF 0 O) qN) hS (zC 4 O zT hS (zC 5 O (zQ O) hS (zC 6 O (zH (o:=21) O) hS (zC 7 O (zZ 0 (v:=Vi r.qr) O O O) hS (zC 8 O zT hS (zC 9 O (zQ O) hS (zC 10 O (zH (o:=22) O) hS ?_))))))))))))
  refine zC 11 O (zZ 0 (v:=Vi r.who) O O O) hS (zC 12 O zT hS (zC 13 O (zQ O) hS (zC 14 O (zH (o:=23) O) hS (zC 15 O (zZ 0 (v:=Vn r.qc) O O O) hS (zK 16 O hw (zr 1 O O O (xQ O) O (zE [0] O qM (fun w' hw hS=>zC 17 O yO hS (zC 18 O yO hS (zC 19 O yO hS (zU ?_)))))))))))
  refine Oc2 ?_ hw
  exact zV (zP3 (cs:=[Vn t.term,Vi t.qD]) (v:=Vi r.qr) (v2:=Vi r.who) (v3:=Vn r.qc) O O O O O qN (Own.qt (i:=1) O) (fun w' hw=>⟨O,hw.sel [0] O qM⟩))
theorem zMV{S:List Nat}(cb jb:Nat)(t:TimD)(a:StA)(r:RolD)(b:StB)(lead yv out:Value)(qd:Nat)(lv:Value)(es:List EntD)(w:World)(hg:(LG 0 0 es).good)(hl:es.length≤1000000)(hvl:b.vs.length≤1000)(hcm:r.qc≤es.length)(hin:Own w S [z4 cb t lead a r b yv jb qd out,Res.nl b lv es] w):Rets Tryz.prog 43 #[pt cb] w fun u_ w'=>u_= .bool (decide ((LG 0 0 es).fits r.qc t.term))∧Own w S [z4 cb t lead a r b yv jb qd out,Res.nl b lv es] w':=by
  have hb:=(LG.le hg).1
  refine zW Tryz.func43 O Tryz.ntmps43 hin ?_
  refine zB (zI O (zA (zN (zg [0,1] O qM qN (fun w' hw hS=>zC 0 O zT hS (zC 1 O (zQ O) hS (zC 2 O (zH (o:=29) O) hS (zC 3 O (zZ 0 (v:=pt b.lb) O O O) hS (zC 4 O zT hS (zC 5 O (zQ O) hS (zC 6 O (zH (o:=23) O) hS (zC 7 O (zZ 0 (v:=Vn r.qc) O O O) hS ?_))))))))))))
  refine zC 8 O zT hS (zC 9 O (zQ O) hS (zC 10 O (zH (o:=0) O) hS (zC 11 O (zH (o:=0) O) hS (zC 12 O (zZ 0 (v:=Vn t.term) O O O) hS (zK 13 O hw (a_call O O (fun w' hw=>(zBg b.lb 0 0 lv es r.qc t.term w' qP qO qO (hw.qF 1 0 O O) (hw.qH 1 1 O O) (EntD.rd.qF 1 2 O O hw)).mono ?_)))))))
  rintro _ w1 ⟨rfl,hO⟩
  refine O2 ?_ (hw.qi hO)
  refine zE [0,1] O qM (fun w' hw hS=>zC 14 O yO hS (zU ?_))
  refine Oc2 ?_ hw
  exact zV (z6 (v:= .bool (decide ((LG 0 0 es).fits r.qc t.term))) O O (fun w' hw=>⟨O,hw⟩))
def xP(last:Nat)(id:Int):PeerM:={id:=id,next:=last+1,qy:=0,round:=0,qw:=0,off:=0,opn:=false,told:=true,asked:=false}
theorem zAR{S:List Nat}(cb jb:Nat)(t:TimD)(a:StA)(r:RolD)(b:StB)(lead yv out:Value)(qd:Nat)(lv:Value)(es:List EntD)(id:Int)(w:World)(hg:(LG 0 0 es).good)(hl:es.length≤1000000)(hvl:b.vs.length≤1000)(hin:Own w S [z4 cb t lead a r b yv jb qd out,Res.nl b lv es] w):Rets Tryz.prog 96 #[pt cb,Vi id] w fun u_ w'=>∃ (pb:Nat),u_=pt pb∧Own w S [z4 cb t lead a r b yv jb qd out,Res.nl b lv es,x4 pb (xP es.length id)] w':=by
  have hb:=(LG.le hg).1
  refine zW Tryz.func96 O Tryz.ntmps96 hin ?_
  refine zB (zI O (zA (zB (zD O (za O O (zJ (o:=29) O O (zL 0 (v:=pt b.lb) O O O O (a_call O O (fun w' hw=>(kG b.lb 0 0 lv es w' qP qO (hw.qF 1 0 O O) (hw.qH 1 1 O O) (EntD.rd.qF 1 2 O O hw)).mono ?_)))))))))
  rintro _ w1 ⟨rfl,hO⟩
  refine O2 ?_ (hw.qi hO)
  refine zD O (z8 (vs:=[Vn (0+es.length),Vn ((LG 0 0 es).end_)]) O O O (z8 (vs:=[Vn (0+es.length),Vn ((LG 0 0 es).end_)]) O O O (zI O (zI O (zA (zB (zD O (zD O (zp O O (xO V) O (ye (cs:=[Vi id,Vn ((0+es.length)+1),Vn 0,Vn 0,Vi 0,Vi 0, .bool false, .bool true, .bool false]) (z:=[Vi 0,Vn 0,Vn 0,Vn 0,Vi 0,Vi 0, .bool false, .bool false, .bool false]) (pl:=[(0,1),(1,1),(2,1),(3,1),(4,1),(5,1),(6,1),(7,1),(8,1)]) qN qN O (z3 O O (fun b19=>zI O ?_))))))))))))
  refine zA ?_
  exact zV (z6 (v:=pt b19) O O (fun w' hw=>⟨b19,O,(by rw[Nat.zero_add es.length]at hw;exact hw)⟩))
def yV(ps:List PeerP)(id:Int):Option Nat:=ps.findIdx? fun p=>decide (p.2.id=id)
def PeerIs(ps:List PeerP)(id:Int)(pv:Option Addr):Prop:=(pv=none∧yV ps id=none)∨∃ k,k<ps.length∧pv=some ⟨(zG ps k).1,0,none⟩∧(zG ps k).2.id=id∧yV ps id=some k
theorem PeerIs.no{ps:List PeerP}{id:Int}{k:Nat}(hk:ps.length≤k)(h:∀ j,j<k→(zG ps j).2.id≠id):PeerIs ps id none:= .inl ⟨rfl,by
  unfold yV
  rw[List.findIdx?_eq_none_iff]
  intro p hp
  exact decide_eq_false (zNi (l:=ps) (P:=fun p=>p.2.id≠id) hk h p hp)⟩
theorem PeerIs.yes{ps:List PeerP}{id:Int}{k:Nat}(hk:k<ps.length)(hi:(zG ps k).2.id=id)(h:∀ j,j<k→(zG ps j).2.id≠id):PeerIs ps id (some ⟨(zG ps k).1,0,none⟩):= .inr ⟨k,hk,rfl,hi,by
  unfold yV
  rw[List.findIdx?_eq_some_iff_getElem]
  have at_:∀ j (hj:j<ps.length),ps[j]=zG ps j:=fun j hj=>(nth_eq (List.getElem?_eq_getElem hj)).symm
  exact⟨hk,by rw[at_ k hk];exact decide_eq_true hi,fun j hj=>by rw[at_ j V];simp[h j hj]⟩⟩
theorem PeerIs.some{ps:List PeerP}{id:Int}{pv:Option Addr}(h:PeerIs ps id pv)(hs:pv.isSome=true):∃ k,k<ps.length∧pv=some ⟨(zG ps k).1,0,none⟩∧(zG ps k).2.id=id∧yV ps id=some k:=by
  rcases h with⟨rfl,_⟩|h
  · cases hs
  exact h
theorem PeerIs.none{ps:List PeerP}{id:Int}{pv:Option Addr}(h:PeerIs ps id pv)(hs:pv.isSome=false):yV ps id=none:=by
  rcases h with⟨rfl,h⟩|⟨k,_,rfl,_⟩
  · exact h
  cases hs
theorem _root_.Go.Sc.qT{p:Prop}(h:p:=by first|assumption|(simp only[zx,List.length_set];first|assumption|omega)|omega):p:=h
theorem zDM{S:List Nat}(cb jb:Nat)(t:TimD)(a:StA)(r:RolD)(b:StB)(yv out:Value)(qd:Nat)(ld:Nat)(l:LdD)(id:Int)(w:World)(hpl:l.qa.length≤1000000)(hin:Own w S [z4 cb t (pt ld) a r b yv jb qd out,Res.ld ld l] w):Rets Tryz.prog 95 #[pt cb,Vi id] w fun u_ w'=>∃ (pv:Option Addr),u_= .pointer pv∧PeerIs l.qa id pv∧Own w S [z4 cb t (pt ld) a r b yv jb qd out,Res.ld ld l] w':=by
  refine zW Tryz.func95 O Tryz.ntmps95 hin ?_
  refine zB (zI O (zA (zN (zB (zD O (za O O (zJ (o:=9) O O (zL 0 (v:=pt ld) O O O O (za O O (zJ (o:=0) O O (yC (v:=l.pv) 1 0 0 O O O O qN O (zo (pC 1 1 O O) O O ?_))))))))))))
  refine zD O (zA (zX ?_))
  refine xN (fun(k:Nat)=>[(1,Vi id),(13,l.pv),(14,Vj l.qa.length),(15,Vj k)]) (fun(k:Nat)=>k≤l.qa.length∧∀ j,j<k→(zG l.qa j).2.id≠id) (fun(k:Nat)=>[z4 cb t (pt ld) a r b yv jb qd out,Res.ld ld l]) (fun(k:Nat)=>l.qa.length - k) (fun w' hw=>⟨0,⟨O,O,O,O,trivial⟩,⟨Nat.zero_le _,fun j h=>by cases h⟩,hw⟩) (fun k g hΦ=> ?_)
  have hk:=hΦ.1
  refine zB (yG O O O (zA (zN (zY O (fun c1=> ?_) (fun c1=> ?_)))))
  ·refine zO (zN (zX (zB (zi (pC 1 1 O O) 1 k O O O V O (yF (pC 1 1 O O) 1 k 0 (fun _=>O) O O V O O (zI O (zA (zB (zD O (za O O (zJ (o:=0) O O (x0 (l:=l.qa) 1 2 k 0 O O qT O O O qN O ?_))))))))))))
   refine zD O (yQ O O O (zA (zY O (fun c2=> ?_) (fun c2=> ?_))))
   ·refine zB (zD O (zI O (zA ?_)))
    exact zV (z6 (v:=pt ((zG l.qa k).1)) O O (fun w' hw=>⟨some ⟨(zG l.qa k).1,0,none⟩,O,PeerIs.yes V c2 hΦ.2,hw⟩))
   refine zO (zS (zp O O (zq V) O (zD O ?_)))
   exact zd (fun w' hw=>⟨k+1,⟨O,O,O,O,trivial⟩,⟨by omega,zF5 hΦ.2 c2⟩,hw,V⟩)
  refine yA O (zB (zI O (zA ?_)))
  exact zV (z6 (v:= .pointer none) O O (fun w' hw=>⟨none,O,PeerIs.no (k:=k) V hΦ.2,hw⟩))
theorem zHS{S:List Nat}(cb jb:Nat)(t:TimD)(a:StA)(r:RolD)(b:StB)(lead yv out:Value)(qd:Nat)(lv:Value)(es:List EntD)(kind:Int)(xv:Value)(data:List UInt8)(w:World)(hg:(LG 0 0 es).good)(hl:es.length≤1000000)(hvl:b.vs.length≤1000)(hn:0≤t.now∧t.now≤1000000000000000)(hs:0≤t.qB∧t.qB≤1000000000000000)(hd:data.length≤1000000000)(ht:t.term≤4611686018427387904)(hin:Own w S [z4 cb t lead a r b yv jb qd out,Res.nl b lv es] w)(hxv:Rd w S (Res.sl xv data.length (data.map vb))):Rets Tryz.prog 39 #[pt cb,Vi kind,xv] w fun u_ w'=>∃ (lv':Value) (es':List EntD),u_=Vn (es.length+1)∧LG 0 0 es'=(LG 0 0 es).append es.length (LG 0 0 es).end_ [⟨es.length+1,t.term,kind,min (t.now - t.qB) 1099511627776,data⟩]∧Own w S [z4 cb ({t with qB:=t.now}:TimD) lead a r b yv jb qd out,Res.nl b lv' es'] w':=by
  have hb:=(LG.le hg).1
  refine zW Tryz.func39 O Tryz.ntmps39 hin ?_
  refine zB (zI O (zA (zB (zD O (za O O (zJ (o:=29) O O (zL 0 (v:=pt b.lb) O O O O (a_call O O (fun w' hw=>(kG b.lb 0 0 lv es w' qP qO (hw.qF 1 0 O O) (hw.qH 1 1 O O) (EntD.rd.qF 1 2 O O hw)).mono ?_)))))))))
  rintro _ w1 ⟨rfl,hO⟩
  refine O2 ?_ (hw.qi hO)
  refine zD O (z8 (vs:=[Vn (0+es.length),Vn ((LG 0 0 es).end_)]) O O O (z8 (vs:=[Vn (0+es.length),Vn ((LG 0 0 es).end_)]) O O O (zI O (zI O (zA (zB (zD O (zp O O (xO V) O (zD O (za O O (zJ (o:=0) O O (zJ (o:=0) O O ?_))))))))))))
  refine zL 0 (v:=Vn t.term) O O O O (zD O (zD O (k0 (cs:=[Vn ((0+es.length)+1),Vn t.term,Vi kind,Vi 0,xv]) (z:=[Vn 0,Vn 0,Vi 0,Vi 0, .slice none 0 0]) (pl:=[(0,1),(1,1),(2,1),(3,1),(4,1)]) qN ⟨O,O,O,(Sl.cell1 (Rd.φ hxv)),trivial⟩ qN O (yE (v:= .agg #[Vn 0,Vn 0,Vi 0,Vi 0, .slice none 0 0]) qN O (fun b9=>zr 2 O O O (zF O (zF O (zF O (zF O (zF (Sl.cell1 (Rd.φ hxv)) zj))))) O (zA (zN (zg [0,1] O qM qN (fun w' hw hS=>zC 0 O zT hS (zC 1 O (zQ O) hS (zC 2 O (zH (o:=2) O) hS (zC 3 O (zH (o:=0) O) hS ?_))))))))))))
  refine zC 4 O (zZ 0 (v:=Vi t.now) O O O) hS (zC 5 O zT hS (zC 6 O (zQ O) hS (zC 7 O (zH (o:=2) O) hS (zC 8 O (zH (o:=6) O) hS (zC 9 O (zZ 0 (v:=Vi t.qB) O O O) hS (zC 10 O (xy O O (zq V)) hS (zC 11 O (zFk (c:=min (t.now - t.qB) 1099511627776) O O (zQL _ _)) hS (zC 12 O (zH (o:=3) O) hS (zK 13 O hw (zn (cs:=[Vn ((0+es.length)+1),Vn t.term,Vi kind,Vi 0,xv]) 2 O O O O O (zE [0,1] O qM (fun w' hw hS=>zU ?_))))))))))))
  refine Oc3 ?_ hw
  refine zB (zD O (zD O (za O O (zJ (o:=2) O O (zJ (o:=0) O O (zL 0 (v:=Vi t.now) O O O O (za O O (zJ (o:=2) O O (zJ (o:=6) O O (zn 0 O O O O O (zA (zN ?_))))))))))))
  refine zg [0,2] O qM qN (fun w' hw hS=>zC 0 O zT hS (zC 1 O (zQ O) hS (zC 2 O (zH (o:=29) O) hS (zC 3 O (zZ 0 (v:=pt b.lb) O O O) hS (zC 4 O zT hS (zC 5 O zT hS (zC 6 O (x8 1 O O) hS (zK 7 O hw (zy (e:=81) (sz:=5) (vs:=[.agg #[Vn ((0+es.length)+1),Vn t.term,Vi kind,Vi (min (t.now - t.qB) 1099511627776),xv]]) qN O O wi qM O (fun b57=>zE [0,2] O qM (fun w' hw hS=>zK 8 O hw ?_)))))))))))
  refine z2 [z4 cb ({t with qB:=t.now}:TimD) lead a r b yv jb qd out,Res.row b9 81 [Vn ((0+es.length)+1),Vn t.term,Vi kind,Vi (min (t.now - t.qB) 1099511627776),xv],vE (.slice (some ⟨b57,0,none⟩) 1 1) [({index:=(0+es.length)+1,term:=t.term,kind:=kind,delta:=min (t.now - t.qB) 1099511627776,dv:=xv,data:=data}:EntD)],Res.row b.lb 144 [Vn 0,Vn 0,lv],vE lv es,sE es,vI b.vv b.vs,vI b.wv ([]:List Int)] (fun w' hw=>hw.qn 1 O) ?_
  refine a_call O O (fun w' hw=>(zDv b.lb 0 0 lv es (0+es.length) ((LG 0 0 es).end_) (.slice (some ⟨b57,0,none⟩) 1 1) [({index:=(0+es.length)+1,term:=t.term,kind:=kind,delta:=min (t.now - t.qB) 1099511627776,dv:=xv,data:=data}:EntD)] w' qP ‹_› (fun e he=>by rw[List.mem_singleton.1 he];exact⟨by show(0+es.length)+1<_;omega,by show t.term<_;omega,by show data.length≤_;omega⟩) qO (hw.give [3,4,5] O qM) (hw.rdVec 2 O [3,4,5] O O) (all_cons ⟨(hw.rdTo hxv [3,4,5] O)⟩ (fun p hp=>by cases hp))).mono ?_)
  rintro _ w1 ⟨lv'1_,es'2_,x3_,y4_,e5_,rfl,hf5_8,hf5_8_1,hO⟩
  refine O8 ?_ (hw.qg [3,4,5] O hO)
  refine zE [0,1] O qM (fun w' hw hS=>zU ?_)
  refine Oc8 ?_ hw
  refine zB (zJ (o:=0) O O (zL 1 (v:=Vn ((0+es.length)+1)) O O O O (zI O (zA ?_))))
  exact zV (z6 (v:=Vn ((0+es.length)+1)) O O (fun w' hw=>⟨lv'1_,es'2_,(by rw[Nat.zero_add]),(by have h:=hf5_8;rw[Nat.zero_add]at h;exact h),(hw.qo [5,6,7,3,4] O qM).sel [0,3] O qM⟩))
end Go.Proofs.YtkkeknmkipkbmaaGreat
