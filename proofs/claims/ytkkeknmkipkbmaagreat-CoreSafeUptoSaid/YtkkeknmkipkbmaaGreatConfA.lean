import Derived.Test.YtkkeknmkipkbmaaGreatIn
import Derived.Test.YtkkeknmkipkbmaaGreatFwT
import Derived.Test.YtkkeknmkipkbmaaGreatChecked
set_option linter.unusedSectionVars false
set_option linter.unusedSimpArgs false
set_option linter.unusedVariables false
set_option maxRecDepth 10000
namespace Go.Proofs.YtkkeknmkipkbmaaGreat
open Go Go.Sc Go.Proofs
theorem BytesPost.yes{p:Option (List UInt8×Nat)}{d:List UInt8}{k:Nat}{e:Int}(h:BytesPost p d k e)(he:e=0):p=some (d,k):=by
  rcases h with h|h
  · exact h.2
  exact absurd he h.1
theorem BytesPost.no{p:Option (List UInt8×Nat)}{d:List UInt8}{k:Nat}{e:Int}(h:BytesPost p d k e)(he:e≠0):p=none:=by
  rcases h with h|h
  · exact absurd h.1 he
  exact h.2
def zFM{α:Type}(p:List UInt8→Nat→Option (α×Nat)):Nat→List UInt8→Nat→Option (List α×Nat)
  |0=>jn []
  |k+1=>jE (zFM p k) fun l=>jE p fun x=>jn (l++[x])
theorem RdS.snoc{α:Type}{p:List UInt8→Nat→Option (α×Nat)}{b:List UInt8}{a a1 a2 k:Nat}{bad bad1 bad2:Bool}{l:List α}{x:α}(h1:RdS (zFM p k) b a bad l a1 bad1)(h2:RdS p b a1 bad1 x a2 bad2):RdS (zFM p (k+1)) b a bad (l++[x]) a2 bad2:=
  h1.bind (h2.map (l++[·]))
def zIp(most:Nat):List UInt8→Nat→Option (Int×Nat):=jE (zAk most) fun n=>jn (n:Int)
def zJJ:List UInt8→Nat→Option (List Int×Nat):=jE (zAk 16) fun n=>zFM (zIp 16) n
theorem zNN{b:List UInt8}{a a1 a2 n k:Nat}{bad bad1 bad2:Bool}{l:List Int}(h1:RdS (zAk 16) b a bad n a1 bad1)(h2:RdS (zFM (zIp 16) k) b a1 bad1 l a2 bad2)(e:k=n):RdS zJJ b a bad l a2 bad2:=by
  subst e;exact h1.bind h2
theorem _root_.Go.Sc.qV{p:Prop}(h:p:=by simp[cell1,I1]):p:=h
theorem zHe{S:List Nat}(o:Nat)(v:Value)(b:List UInt8)(a:Nat)(bad:Bool)(w:World)(hl:zf b.length)(ha:a≤b.length)(hin:Own w S [Res.row o 231 [v,Vj a, .bool bad]] w)(hb:Rd w S (Res.sl v b.length (b.map vb))):Rets Tryz.prog 154 #[.pointer (some ⟨o,0,none⟩)] w fun u_ w'=>∃ (r:Value) (l:List Int) (a':Nat) (bad':Bool),u_=r∧RdS zJJ b a bad l a' bad'∧l.length≤16∧Own w S [Res.row o 231 [v,Vj a', .bool bad'],Res.vec 3 1 r l.length (l.flatMap I1)] w':=by
  refine zW Tryz.func154 O Tryz.ntmps154 hin ?_
  refine zB (zI O (zA (zB (zI O (zA (zN (zB (zD O (a_call O O (fun w' hw=>(zFp o v b a bad 16 w' ‹_› V V (hw.give [0] O qM) (hw.rdTo hb [0] O)).mono ?_))))))))))
  rintro _ w1 ⟨n1_,a'2_,bad'3_,rfl,hf2_1,hf2_1_1,hO⟩
  refine O1 ?_ (hw.qg [0] O hO)
  refine zD O (zA (zX ?_))
  refine zNE (fun(k:Nat) (lv:Value) (l:List Int) (a2:Nat) (bad2:Bool)=>[(0, .pointer (some ⟨o,0,none⟩)),(3,lv),(5,Vj n1_),(6,Vj k)]) (fun(k:Nat) (lv:Value) (l:List Int) (a2:Nat) (bad2:Bool)=>(k≤n1_∧l.length=k)∧RdS (zFM (zIp 16) k) b a'2_ bad'3_ l a2 bad2) (fun(k:Nat) (lv:Value) (l:List Int) (a2:Nat) (bad2:Bool)=>[Res.row o 231 [v,Vj a2, .bool bad2],Res.vec 3 1 lv l.length (l.flatMap I1)]) (fun(k:Nat) (lv:Value) (l:List Int) (a2:Nat) (bad2:Bool)=>n1_ - k) (fun w' hw=>⟨0, .slice none 0 0,[],a'2_,bad'3_,⟨O,O,O,O,trivial⟩,⟨⟨Nat.zero_le _,O⟩,RdS.pure _ hf2_1.le⟩,zl hw 3 1⟩) (fun k lv l a2 bad2 g hΦ=> ?_)
  have ha2:=hΦ.2.le
  have hlk:=hΦ.1.2
  refine zB (yG O O O (zA (zN (zY O (fun c1=> ?_) (fun c1=> ?_)))))
  ·refine zO (zN (zX (zS (zD O (zD O (a_call O O (fun w' hw=>(zFp o v b a2 bad2 16 w' ‹_› V V (hw.give [0] O qM) (hw.rdTo hb [0] O)).mono ?_)))))))
   rintro _ w1 ⟨n4_,a'5_,bad'6_,rfl,hf4_2,hf4_2_1,hO⟩
   refine O2 ?_ (hw.qg [0] O hO)
   refine zy (e:=3) (sz:=1) (vs:=[Vj n4_]) qN O O qR qM O (fun b11=>z7 (g:=I1) (sz:=1) (by':=8) (fun _=>O) (l:=l) (l':=[((n4_:Nat):Int)]) qV 0 qN O O O (fun w' hw'=>Vec.sl (Own.holds hw' 2 _ O)) qO qM O (fun v12=>zI O (zA (zS (zp O O (zq V) O (zD O ?_))))))
   exact zd (fun w' hw=>⟨k+1,v12,l++[((n4_:Nat):Int)],a'5_,bad'6_,⟨O,O,O,O,trivial⟩,⟨⟨by omega,by simp[hlk]⟩,hΦ.2.snoc (RdS.map (fun n:Nat=>(n:Int)) hf4_2)⟩,hw.sel [1,0] O qM,V⟩)
  refine yA O (zB (zD O (zI O (zA ?_))))
  exact zV (z6 (v:=lv) O O (fun w' hw=>⟨lv,l,a2,bad2,O,zNN hf2_1 hΦ.2 V,V,hw⟩))
structure ConfD where
  vv:Value
  vs:List Int
  lv:Value
  ls:List Int
def ConfD.cells(x:ConfD):List Value:=[x.vv,x.lv]
structure ConfD.rd(x:ConfD)(w:World)(S:List Nat):Prop where
  vv:Rd w S (Res.sl x.vv x.vs.length (x.vs.flatMap I1))
  lv:Rd w S (Res.sl x.lv x.ls.length (x.ls.flatMap I1))
theorem ConfD.rd.at0{x:ConfD}{w0 w:World}{S:List Nat}{L:List Res}(h:x.rd w0 S)(hw:Own w0 S L w):x.rd w []:=⟨hw.rd0 h.vv,hw.rd0 h.lv⟩
theorem ConfD.rd.at{x:ConfD}{w0 w:World}{S:List Nat}{L Lin:List Res}(h:x.rd w0 S)(hw:Own w0 S L w)(m:List Nat)(hm:m.mapM (fun i=>L[i]?)=some Lin):x.rd w (y2 Lin):=⟨hw.rdTo h.vv m hm,hw.rdTo h.lv m hm⟩
def Rises(l:List Int):Prop:=(0::l).Pairwise (· < ·)∧∀ x∈l,x≤16
instance (l:List Int):Decidable (Rises l):=inferInstanceAs (Decidable (_∧_))
theorem Rises.take{l:List Int}(h:Rises l)(k:Nat):Rises (l.take k):=
  ⟨by have:=h.1.take (i:=k+1);simpa using this,fun x hx=>h.2 x (List.mem_of_mem_take hx)⟩
theorem zG3{l:List Int}{x:Int}:Rises (l++[x])↔Rises l∧x≤16∧1≤x∧∀ y∈l,y<x:=by
  unfold Rises
  rw[←List.cons_append,List.pairwise_append]
  simp only[List.mem_append,List.mem_cons,List.not_mem_nil,or_false,List.pairwise_cons,List.Pairwise.nil]
  constructor
  · rintro⟨⟨h1,_,h3⟩,h4⟩
    exact⟨⟨h1,fun x hx=>h4 x (.inl hx)⟩,h4 _ (.inr O),by have:=h3 0 (.inl rfl) x rfl;omega,fun y hy=>h3 y (.inr hy) x O⟩
  rintro⟨⟨h1,h2⟩,h3,h4,h5⟩
  refine⟨⟨h1,⟨by simp,trivial⟩,?_⟩,?_⟩
  · rintro a (rfl|ha) b rfl
    · omega
    exact h5 a ha
  rintro y (hy|rfl)
  · exact h2 y hy
  exact h3
theorem zA9{l:List Int}{k:Nat}(hk:k<l.length)(h:Rises (l.take k)):Rises (l.take (k+1))↔zG l k≤16∧1≤zG l k∧(0<k→zG l (k - 1)<zG l k):=by
  rw[zt hk,zG3]
  constructor
  · rintro⟨_,h1,h2,h3⟩
    refine⟨h1,h2,fun h0=>h3 _ ?_⟩
    rw[List.mem_iff_getElem?]
    exact⟨k - 1,by rw[List.getElem?_take,if_pos V];exact ya V⟩
  rintro⟨h1,h2,h3⟩
  refine⟨h,h1,h2,fun y hy=> ?_⟩
  obtain⟨i,hi⟩:=List.mem_iff_getElem?.1 hy
  rw[List.getElem?_take]at hi
  split at hi
  · rename_i hik
    have e:=nth_eq hi
    by_cases hlast:i=k - 1
    · subst hlast;rw[←e];exact h3 V
    have h4:=h3 V
    have h5:=h.1
    rw[List.pairwise_cons]at h5
    have h6:=List.pairwise_iff_getElem.1 h5.2 i (k - 1) qX qX V
    rw[List.getElem_take,List.getElem_take]at h6
    have e1:=nth_eq (List.getElem?_eq_getElem (l:=l) (i:=i) V)
    have e2:=nth_eq (List.getElem?_eq_getElem (l:=l) (i:=k - 1) V)
    rw[←e1,←e2,e]at h6
    omega
  cases hi
theorem zJI{l:List Int}{k:Nat}(hk:k<l.length)(h:¬(zG l k≤16∧1≤zG l k∧(0<k→zG l (k - 1)<zG l k))):¬ Rises l:=fun hr=>h ((zA9 hk (hr.take k)).1 (hr.take (k+1)))
theorem zEM:Rises []:=⟨by simp,by simp⟩
theorem zDJ(v:Value)(l:List Int)(w:World)(hl:zf l.length)(hv:Rd w [] (Res.sl v l.length (l.flatMap I1))):Rets Tryz.prog 148 #[v] w fun u_ w'=>u_= .bool (decide (Rises l))∧Own w [] [] w':=by
  refine zW Tryz.func148 O Tryz.ntmps148 (Own.start w) ?_
  refine zB (zI O (zA (zN (zB (zD O (zo (pR hv) O O (zD O (zA (zX ?_)))))))))
  refine xN (fun(k:Nat)=>[(0,v),(5,v),(6,Vj l.length),(7,Vj k)]) (fun(k:Nat)=>k≤l.length∧Rises (l.take k)) (fun(k:Nat)=>[]) (fun(k:Nat)=>l.length - k) (fun w' hw=>⟨0,⟨O,O,O,O,trivial⟩,⟨Nat.zero_le _,by simpa using zEM⟩,hw⟩) (fun k g hΦ=> ?_)
  refine zB (yG O O O (zA (zN (zY O (fun c1=> ?_) (fun c1=> ?_)))))
  ·refine zO (zN (zX (zB (zD O (zi (pR hv) 1 k O O O V O (yF (pR hv) 1 k 0 (fun _=>O) O O V O O (zI O (zI O (zA (zB (zD O (yG O O O ?_))))))))))))
   refine zD O (yn (q:=(zG l k)<1) 2 2 [16,15] (16<(zG l k)) O O O O O O trivial O (fun h4_2=> ?_) (fun g4_5=> ?_))
   ·refine zR O (gF h4_2) (zD O (zR O (gF h4_2) (y0 O O O ?_)))
    exact yP O (fun _ hw=>hw)
   refine zD O (yn (q:=((zG l k)<1)∨(16<(zG l k))) 11 6 [29,28,27,26,25,24,23,22,21,20,19] ((0<((k:Nat):Int))∧((zG l k)≤(zG l (k - 1)))) O O O O O O trivial O (fun h4_6=> ?_) (fun g4_18=> ?_))
   ·refine zR O (gF h4_6) (zD O (zR O (gF h4_6) (y0 O O O (zR O (gF h4_6) (zD O (yK (q:=0<((k:Nat):Int)) 7 9 [28,27,26,25,24,23,22] ((zG l k)≤(zG l (k - 1))) O O O O O O ⟨_,O,O,gF h4_6⟩ O (fun h4_9=> ?_) (fun g4_17=> ?_)))))))
    ·refine zR O (gT h4_9) (zD O (zR O (gT h4_9) (zD O (zR O (gT h4_9) (zD O (zR O (gT h4_9) (kI O O (zq V) O (zR O (gT h4_9) (zi (pR hv) 1 (k - 1) O O V V O (zR O (gT h4_9) (yF (pR hv) 1 (k - 1) 0 (fun _=>O) O O V O O (zR O (gT h4_9) ?_))))))))))))
     refine xp O O O ?_
     exact yP O (fun _ hw=>hw)
    exact yP O (fun _ hw=>hw)
   refine zA (zY O (fun c2=> ?_) (fun c2=> ?_))
   ·refine zB (zI O (zA ?_))
    exact zV (z6 (v:= .bool false) O O (fun w' hw=>⟨(by rw[decide_eq_false];exact zJI (k:=k) V V),hw.drop⟩))
   refine zO (zS (zp O O (zq V) O (zD O ?_)))
   exact zd (fun w' hw=>⟨k+1,⟨O,O,O,O,trivial⟩,⟨by omega,(zA9 V hΦ.2).2 V⟩,hw,V⟩)
  refine yA O (zB (zI O (zA ?_)))
  exact zV (z6 (v:= .bool true) O O (fun w' hw=>⟨(by rw[decide_eq_true];have h:=hΦ.2;rwa [List.take_of_length_le V]at h),hw.drop⟩))
structure ConfD.wf(x:ConfD):Prop where
  vs:zf x.vs.length
  ls:zf x.ls.length
def ConfD.ok(x:ConfD):Prop:=((Rises x.vs∧Rises x.ls)∧0<x.vs.length)∧∀ v∈x.vs,v∉x.ls
instance (x:ConfD):Decidable x.ok:=inferInstanceAs (Decidable ((_∧_)∧_))
theorem zK6(v:Value)(l:List Int)(n:Int)(w:World)(hl:zf l.length)(hv:Rd w [] (Res.sl v l.length (l.flatMap I1))):Rets Tryz.prog 116 #[v,Vi n] w fun u_ w'=>∃ (i:Int),u_=Vi i∧(0≤i↔n∈l)∧Own w [] [] w':=by
  refine zW Tryz.func116 O Tryz.ntmps116 (Own.start w) ?_
  refine zB (zI O (zA (zN (zB (zD O (zo (pR hv) O O (zD O (zA (zX ?_)))))))))
  refine xN (fun(k:Nat)=>[(0,v),(1,Vi n),(7,Vj l.length),(8,Vj k)]) (fun(k:Nat)=>k≤l.length∧n∉l.take k) (fun(k:Nat)=>[]) (fun(k:Nat)=>l.length - k) (fun w' hw=>⟨0,⟨O,O,O,O,trivial⟩,⟨Nat.zero_le _,by simp⟩,hw⟩) (fun k g hΦ=> ?_)
  refine zB (yG O O O (zA (zN (zY O (fun c1=> ?_) (fun c1=> ?_)))))
  ·refine zO (zN (zX (zB (zD O (zI O (zA (zB (zD O (zD O (zD O (zi (pR hv) 1 k O O O V O (yF (pR hv) 1 k 0 (fun _=>O) O O V O O ?_))))))))))))
   refine yQ O O O (zA (zY O (fun c2=> ?_) (fun c2=> ?_)))
   ·refine zB (zD O (zI O (zA ?_)))
    exact zV (z6 (v:=Vj k) O O (fun w' hw=>⟨k,O,⟨fun _=>c2▸ze V,fun _=>by omega⟩,hw.drop⟩))
   refine zO (zS (zp O O (zq V) O (zD O ?_)))
   exact zd (fun w' hw=>⟨k+1,⟨O,O,O,O,trivial⟩,⟨by omega,by rw[zt V];simp;exact⟨hΦ.2,fun e=>c2 e⟩⟩,hw,V⟩)
  refine yA O (zB (zI O (zA ?_)))
  exact zV (z6 (v:=Vi (-1)) O O (fun w' hw=>⟨-1,O,⟨fun h=>by omega,fun h=>by have h2:=hΦ.2;rw[List.take_of_length_le V]at h2;exact absurd h h2⟩,hw.drop⟩))
theorem zAn(v:Value)(l:List Int)(n:Int)(w:World)(hl:zf l.length)(hv:Rd w [] (Res.sl v l.length (l.flatMap I1))):Rets Tryz.prog 72 #[v,Vi n] w fun u_ w'=>u_= .bool (decide (n∈l))∧Own w [] [] w':=by
  refine zW Tryz.func72 O Tryz.ntmps72 (Own.start w) ?_
  refine zB (zI O (zA (zB (zD O (zD O (a_call O O (fun w' hw=>(zK6 v l n w' ‹_› (hw.rd0 hv)).mono ?_)))))))
  rintro _ w1 ⟨i1_,rfl,hf1_2,hO⟩
  refine O0 ?_ (hw.qi hO)
  refine kM O O O (zI O (zA ?_))
  exact zV (z6 (v:= .bool (decide (0≤i1_))) O O (fun w' hw=>⟨(by congr 1;exact decide_eq_decide.2 V),hw.drop⟩))
theorem _root_.Go.Sc.qW{p:Prop}(h:p:=by simp[Res.row]):p:=h
theorem zEr(n:Int)(cb:Nat)(c:ConfD)(w:World)(hc:c.wf)(hcb:Rd w [] (Res.row cb 35 (ConfD.cells c)))(rd_c:ConfD.rd c w []):Rets Tryz.prog 150 #[Vi n, .pointer (some ⟨cb,0,none⟩)] w fun u_ w'=>u_= .bool (decide (n∈c.ls))∧Own w [] [] w':=by
  have hv:=hc.vs
  have hl:=hc.ls
  refine zW Tryz.func150 O Tryz.ntmps150 (Own.start w) ?_
  refine zB (zI O (zA (zB (zJ (o:=1) O O (kL (v:=c.lv) O (hcb.φ.cell O) (hcb.far _ qW) qN O (zD O (a_call O O (fun w' hw=>(zAn c.lv c.ls n w' ‹_› (hw.rd0 rd_c.lv)).mono ?_))))))))
  rintro _ w1 ⟨rfl,hO⟩
  refine O0 ?_ (hw.qi hO)
  refine zI O (zA ?_)
  exact zV (z6 (v:= .bool (decide (n∈c.ls))) O O (fun w' hw=>⟨O,hw.drop⟩))
theorem zFO(v:Value)(l:List Int)(cb:Nat)(c:ConfD)(w:World)(hl:zf l.length)(hc:c.wf)(hcb:Rd w [] (Res.row cb 35 (ConfD.cells c)))(rd_c:ConfD.rd c w [])(hv:Rd w [] (Res.sl v l.length (l.flatMap I1))):Rets Tryz.prog 191 #[v, .func (.func 150) #[] #[.pointer (some ⟨cb,0,none⟩)]] w fun u_ w'=>∃ (i:Int),u_=Vi i∧(0≤i↔∃ q∈l,q∈c.ls)∧Own w [] [] w':=by
  refine zW Tryz.func191 O Tryz.ntmps191 (Own.start w) ?_
  refine zB (zI O (zA (zN (zB (zD O (zo (pR hv) O O (zD O (zA (zX ?_)))))))))
  refine xN (fun(k:Nat)=>[(0,v),(1, .func (.func 150) #[] #[.pointer (some ⟨cb,0,none⟩)]),(7,Vj l.length),(8,Vj k)]) (fun(k:Nat)=>k≤l.length∧∀ v∈l.take k,v∉c.ls) (fun(k:Nat)=>[]) (fun(k:Nat)=>l.length - k) (fun w' hw=>⟨0,⟨O,O,O,O,trivial⟩,⟨Nat.zero_le _,by simp⟩,hw⟩) (fun k g hΦ=> ?_)
  refine zB (yG O O O (zA (zN (zY O (fun c1=> ?_) (fun c1=> ?_)))))
  ·refine zO (zN (zX (zB (zD O (zI O (zA (zB (zD O (zD O (zD O (zi (pR hv) 1 k O O O V O (yF (pR hv) 1 k 0 (fun _=>O) O O V O O ?_))))))))))))
   refine yW (fst:=[]) (cap:=[.pointer (some ⟨cb,0,none⟩)]) O qN O O (fun w' hw=>(zEr (zG l k) cb c w' ‹_› (hw.rd0 hcb) (rd_c.at0 hw)).mono ?_)
   rintro _ w1 ⟨rfl,hO⟩
   refine O0 ?_ (hw.qi hO)
   refine zA (zY O (fun c2=> ?_) (fun c2=> ?_))
   ·refine zB (zD O (zI O (zA ?_)))
    exact zV (z6 (v:=Vj k) O O (fun w' hw=>⟨k,O,⟨fun _=>⟨_,ze V,c2⟩,fun _=>by omega⟩,hw.drop⟩))
   refine zO (zS (zp O O (zq V) O (zD O ?_)))
   exact zd (fun w' hw=>⟨k+1,⟨O,O,O,O,trivial⟩,⟨by omega,by rw[zt V];intro v hv;rcases List.mem_append.1 hv with h|h;exact hΦ.2 v h;simp at h;rw[h];exact c2⟩,hw,V⟩)
  refine yA O (zB (zI O (zA ?_)))
  exact zV (z6 (v:=Vi (-1)) O O (fun w' hw=>⟨-1,O,⟨fun h=>by omega,fun⟨v,h,h'⟩=>by have h2:=hΦ.2;rw[List.take_of_length_le V]at h2;exact absurd h' (h2 v h)⟩,hw.drop⟩))
theorem zBh(v:Value)(l:List Int)(cb:Nat)(c:ConfD)(w:World)(hl:zf l.length)(hc:c.wf)(hcb:Rd w [] (Res.row cb 35 (ConfD.cells c)))(rd_c:ConfD.rd c w [])(hv:Rd w [] (Res.sl v l.length (l.flatMap I1))):Rets Tryz.prog 149 #[v, .func (.func 150) #[] #[.pointer (some ⟨cb,0,none⟩)]] w fun u_ w'=>u_= .bool (decide (∃ q∈l,q∈c.ls))∧Own w [] [] w':=by
  refine zW Tryz.func149 O Tryz.ntmps149 (Own.start w) ?_
  refine zB (zI O (zA (zB (zD O (zD O (a_call O O (fun w' hw=>(zFO v l cb c w' ‹_› ‹_› (hw.rd0 hcb) (rd_c.at0 hw) (hw.rd0 hv)).mono ?_)))))))
  rintro _ w1 ⟨i1_,rfl,hf1_2,hO⟩
  refine O0 ?_ (hw.qi hO)
  refine kM O O O (zI O (zA ?_))
  exact zV (z6 (v:= .bool (decide (0≤i1_))) O O (fun w' hw=>⟨(by congr 1;exact decide_eq_decide.2 V),hw.drop⟩))
theorem kJ(c:ConfD)(w:World)(hc:c.wf)(rd_c:ConfD.rd c w []):Rets Tryz.prog 147 #[.agg (ConfD.cells c).toArray] w fun u_ w'=>u_= .bool (decide c.ok)∧Own w [] [] w':=by
  have hv:=hc.vs
  have hl:=hc.ls
  refine zW Tryz.func147 O Tryz.ntmps147 (Own.start w) ?_
  refine zB (z3 O O (fun b1=>zI O (zA (zB (zJ (o:=0) O O (zL 0 (v:=c.vv) O O O O (a_call O O (fun w' hw=>(zDJ c.vv c.vs w' ‹_› (hw.rd0 rd_c.vv)).mono ?_))))))))
  rintro _ w1 ⟨rfl,hO⟩
  refine O1 ?_ (hw.qi hO)
  refine zD O (yK (q:=Rises c.vs) 3 3 [9,8,7] (Rises c.ls) O O O O O O trivial O (fun h1_3=> ?_) (fun g1_7=> ?_))
  ·refine zR O (gT h1_3) (zJ (o:=1) O O (zR O (gT h1_3) (zL 0 (v:=c.lv) O O O O (zR O (gT h1_3) (a_call O O (fun w' hw=>(zDJ c.lv c.ls w' ‹_› (hw.rd0 rd_c.lv)).mono ?_))))))
   rintro _ w1 ⟨rfl,hO⟩
   refine O1 ?_ (hw.qi hO)
   exact yP O (fun _ hw=>hw)
  refine zD O (yK (q:=(Rises c.vs)∧(Rises c.ls)) 4 8 [15,14,13,12] (0<((c.vs.length:Nat):Int)) O O O O O O trivial O (fun h1_8=> ?_) (fun g1_13=> ?_))
  ·refine zR O (gT h1_8) (zJ (o:=0) O O (zR O (gT h1_8) (zL 0 (v:=c.vv) O O O O (zR O (gT h1_8) (zo (pR rd_c.vv) O O (zR O (gT h1_8) (y0 O O O ?_)))))))
   exact yP O (fun _ hw=>hw)
  refine zD O (yK (q:=((Rises c.vs)∧(Rises c.ls))∧(0<((c.vs.length:Nat):Int))) 5 14 [22,21,20,19,18] (¬(∃ q∈c.vs,q∈c.ls)) O O O O O O trivial O (fun h1_14=> ?_) (fun g1_20=> ?_))
  ·refine zR O (gT h1_14) (zJ (o:=0) O O (zR O (gT h1_14) (zL 0 (v:=c.vv) O O O O (zR O (gT h1_14) (zB9 (va:=[]) (vb:=[.pointer (some ⟨b1,0,none⟩)]) O O O (zR O (gT h1_14) (a_call O O (fun w' hw=>(zBh c.vv c.vs b1 c w' ‹_› ‹_› (hw.rdRes0 0 O) (rd_c.at0 hw) (hw.rd0 rd_c.vv)).mono ?_))))))))
   rintro _ w1 ⟨rfl,hO⟩
   refine O1 ?_ (hw.qi hO)
   refine zR O (gT h1_14) (y7 (q:=∃ q∈c.vs,q∈c.ls) O O ?_)
   exact yP O (fun _ hw=>hw)
  refine zI O (zA ?_)
  exact zV (z6 (v:= .bool (decide ((((Rises c.vs)∧(Rises c.ls))∧(0<((c.vs.length:Nat):Int)))∧(¬(∃ q∈c.vs,q∈c.ls))))) O O (fun w' hw=>⟨(by congr 1;exact decide_eq_decide.2 (by unfold ConfD.ok;exact⟨fun h=>⟨⟨h.1.1,by have:=h.1.2;omega⟩,fun v hv hv'=>h.2 ⟨v,hv,hv'⟩⟩,fun h=>⟨⟨h.1.1,by have:=h.1.2;omega⟩,fun⟨v,hv,hv'⟩=>h.2 v hv hv'⟩⟩)),hw.drop⟩))
end Go.Proofs.YtkkeknmkipkbmaaGreat
