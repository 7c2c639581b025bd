import Derived.Test.YtkkeknmkipkbmaaGreatIn
import Derived.Test.YtkkeknmkipkbmaaGreatFwT
import Derived.Test.YtkkeknmkipkbmaaGreatChecked
set_option linter.unusedSectionVars false
set_option linter.unusedSimpArgs false
set_option linter.unusedVariables false
set_option maxRecDepth 10000
namespace Go.Proofs.YtkkeknmkipkbmaaGreat
open Go Go.Sc Go.Proofs
theorem BytesPost.yes{p:Option (List UInt8×Nat)}{d:List UInt8}{k:Nat}{e:Int}(h:BytesPost p d k e)(he:e=0):p=some (d,k):=by
  rcases h with h|h
  · exact h.2
  exact absurd he h.1
theorem BytesPost.no{p:Option (List UInt8×Nat)}{d:List UInt8}{k:Nat}{e:Int}(h:BytesPost p d k e)(he:e≠0):p=none:=by
  rcases h with h|h
  · exact absurd h.1 he
  exact h.2
def zE1{α:Type}(p:List UInt8→Nat→Option (α×Nat)):Nat→List UInt8→Nat→Option (List α×Nat)
  |0=>jq []
  |k+1=>jO (zE1 p k) fun l=>jO p fun x=>jq (l++[x])
theorem RdS.snoc{α:Type}{p:List UInt8→Nat→Option (α×Nat)}{b:List UInt8}{a a1 a2 k:Nat}{bad bad1 bad2:Bool}{l:List α}{x:α}(h1:RdS (zE1 p k) b a bad l a1 bad1)(h2:RdS p b a1 bad1 x a2 bad2):RdS (zE1 p (k+1)) b a bad (l++[x]) a2 bad2:=
  h1.bind (h2.map (l++[·]))
def zKQ(most:Nat):List UInt8→Nat→Option (Int×Nat):=jO (zA5 most) fun n=>jq (n:Int)
def zKB:List UInt8→Nat→Option (List Int×Nat):=jO (zA5 16) fun n=>zE1 (zKQ 16) n
theorem zOB{b:List UInt8}{a a1 a2 n k:Nat}{bad bad1 bad2:Bool}{l:List Int}(h1:RdS (zA5 16) b a bad n a1 bad1)(h2:RdS (zE1 (zKQ 16) k) b a1 bad1 l a2 bad2)(e:k=n):RdS zKB b a bad l a2 bad2:=by
  subst e;exact h1.bind h2
theorem _root_.Go.Sc.qV{p:Prop}(h:p:=by simp[cell1,I1]):p:=h
theorem zI2{S:List Nat}(o:Nat)(v:Value)(b:List UInt8)(a:Nat)(bad:Bool)(w:World)(hl:zi b.length)(ha:a≤b.length)(hin:Own w S [Res.row o 231 [v,Vj a, .bool bad]] w)(hb:Rd w S (Res.sl v b.length (b.map vb))):Rets Tryz.prog 154 #[.pointer (some ⟨o,0,none⟩)] w fun u_ w'=>∃ (r:Value) (l:List Int) (a':Nat) (bad':Bool),u_=r∧RdS zKB b a bad l a' bad'∧l.length≤16∧Own w S [Res.row o 231 [v,Vj a', .bool bad'],Res.vec 3 1 r l.length (l.flatMap I1)] w':=by
  refine zW Tryz.func154 O Tryz.ntmps154 hin ?_
  refine zC (zI O (zA (zC (zI O (zA (zP (zC (zD O (a_call O O (fun w' hw=>(zGC o v b a bad 16 w' ‹_› V V (hw.give [0] O qM) (hw.rdTo hb [0] O)).mono ?_))))))))))
  rintro _ w1 ⟨n1_,a'2_,bad'3_,rfl,hf2_1,hf2_1_1,hO⟩
  refine O1 ?_ (hw.qh [0] O hO)
  refine zD O (zA (zZ ?_))
  refine zM2 (fun(k:Nat) (lv:Value) (l:List Int) (a2:Nat) (bad2:Bool)=>[(0, .pointer (some ⟨o,0,none⟩)),(3,lv),(5,Vj n1_),(6,Vj k)]) (fun(k:Nat) (lv:Value) (l:List Int) (a2:Nat) (bad2:Bool)=>(k≤n1_∧l.length=k)∧RdS (zE1 (zKQ 16) k) b a'2_ bad'3_ l a2 bad2) (fun(k:Nat) (lv:Value) (l:List Int) (a2:Nat) (bad2:Bool)=>[Res.row o 231 [v,Vj a2, .bool bad2],Res.vec 3 1 lv l.length (l.flatMap I1)]) (fun(k:Nat) (lv:Value) (l:List Int) (a2:Nat) (bad2:Bool)=>n1_ - k) (fun w' hw=>⟨0, .slice none 0 0,[],a'2_,bad'3_,⟨O,O,O,O,trivial⟩,⟨⟨Nat.zero_le _,O⟩,RdS.pure _ hf2_1.le⟩,zm hw 3 1⟩) (fun k lv l a2 bad2 g hΦ=> ?_)
  have ha2:=hΦ.2.le
  have hlk:=hΦ.1.2
  refine zC (yI O O O (zA (zP (za O (fun c1=> ?_) (fun c1=> ?_)))))
  ·refine zQ (zP (zZ (zV (zD O (zD O (a_call O O (fun w' hw=>(zGC o v b a2 bad2 16 w' ‹_› V V (hw.give [0] O qM) (hw.rdTo hb [0] O)).mono ?_)))))))
   rintro _ w1 ⟨n4_,a'5_,bad'6_,rfl,hf4_2,hf4_2_1,hO⟩
   refine O2 ?_ (hw.qh [0] O hO)
   refine zx (e:=3) (sz:=1) (vs:=[Vj n4_]) qN O O qR qM O (fun b11=>zy (g:=I1) (sz:=1) (by':=8) (fun _=>O) (l:=l) (l':=[((n4_:Nat):Int)]) qV 0 qN O O O (fun w' hw'=>Vec.sl (Own.holds hw' 2 _ O)) qO qM O (fun v12=>zI O (zA (zV (zt O O (zr V) O (zD O ?_))))))
   exact zg (fun w' hw=>⟨k+1,v12,l++[((n4_:Nat):Int)],a'5_,bad'6_,⟨O,O,O,O,trivial⟩,⟨⟨by omega,by simp[hlk]⟩,hΦ.2.snoc (RdS.map (fun n:Nat=>(n:Int)) hf4_2)⟩,hw.sel [1,0] O qM,V⟩)
  refine yF O (zC (zD O (zI O (zA ?_))))
  exact zU (z9 (v:=lv) O O (fun w' hw=>⟨lv,l,a2,bad2,O,zOB hf2_1 hΦ.2 V,V,hw⟩))
structure ConfD where
  vv:Value
  vs:List Int
  lv:Value
  ls:List Int
def ConfD.cells(x:ConfD):List Value:=[x.vv,x.lv]
structure ConfD.rd(x:ConfD)(w:World)(S:List Nat):Prop where
  vv:Rd w S (Res.sl x.vv x.vs.length (x.vs.flatMap I1))
  lv:Rd w S (Res.sl x.lv x.ls.length (x.ls.flatMap I1))
theorem ConfD.rd.at0{x:ConfD}{w0 w:World}{S:List Nat}{L:List Res}(h:x.rd w0 S)(hw:Own w0 S L w):x.rd w []:=⟨hw.rd0 h.vv,hw.rd0 h.lv⟩
theorem ConfD.rd.at{x:ConfD}{w0 w:World}{S:List Nat}{L Lin:List Res}(h:x.rd w0 S)(hw:Own w0 S L w)(m:List Nat)(hm:m.mapM (fun i=>L[i]?)=some Lin):x.rd w (y1 Lin):=⟨hw.rdTo h.vv m hm,hw.rdTo h.lv m hm⟩
def Rises(l:List Int):Prop:=(0::l).Pairwise (· < ·)∧∀ x∈l,x≤16
instance (l:List Int):Decidable (Rises l):=inferInstanceAs (Decidable (_∧_))
theorem Rises.take{l:List Int}(h:Rises l)(k:Nat):Rises (l.take k):=
  ⟨by have:=h.1.take (i:=k+1);simpa using this,fun x hx=>h.2 x (List.mem_of_mem_take hx)⟩
theorem zHK{l:List Int}{x:Int}:Rises (l++[x])↔Rises l∧x≤16∧1≤x∧∀ y∈l,y<x:=by
  unfold Rises
  rw[←List.cons_append,List.pairwise_append]
  simp only[List.mem_append,List.mem_cons,List.not_mem_nil,or_false,List.pairwise_cons,List.Pairwise.nil]
  constructor
  · rintro⟨⟨h1,_,h3⟩,h4⟩
    exact⟨⟨h1,fun x hx=>h4 x (.inl hx)⟩,h4 _ (.inr O),by have:=h3 0 (.inl rfl) x rfl;omega,fun y hy=>h3 y (.inr hy) x O⟩
  rintro⟨⟨h1,h2⟩,h3,h4,h5⟩
  refine⟨⟨h1,⟨by simp,trivial⟩,?_⟩,?_⟩
  · rintro a (rfl|ha) b rfl
    · omega
    exact h5 a ha
  rintro y (hy|rfl)
  · exact h2 y hy
  exact h3
theorem zBG{l:List Int}{k:Nat}(hk:k<l.length)(h:Rises (l.take k)):Rises (l.take (k+1))↔zG l k≤16∧1≤zG l k∧(0<k→zG l (k - 1)<zG l k):=by
  rw[zu hk,zHK]
  constructor
  · rintro⟨_,h1,h2,h3⟩
    refine⟨h1,h2,fun h0=>h3 _ ?_⟩
    rw[List.mem_iff_getElem?]
    exact⟨k - 1,by rw[List.getElem?_take,if_pos V];exact yW V⟩
  rintro⟨h1,h2,h3⟩
  refine⟨h,h1,h2,fun y hy=> ?_⟩
  obtain⟨i,hi⟩:=List.mem_iff_getElem?.1 hy
  rw[List.getElem?_take]at hi
  split at hi
  · rename_i hik
    have e:=nth_eq hi
    by_cases hlast:i=k - 1
    · subst hlast;rw[←e];exact h3 V
    have h4:=h3 V
    have h5:=h.1
    rw[List.pairwise_cons]at h5
    have h6:=List.pairwise_iff_getElem.1 h5.2 i (k - 1) qX qX V
    rw[List.getElem_take,List.getElem_take]at h6
    have e1:=nth_eq (List.getElem?_eq_getElem (l:=l) (i:=i) V)
    have e2:=nth_eq (List.getElem?_eq_getElem (l:=l) (i:=k - 1) V)
    rw[←e1,←e2,e]at h6
    omega
  cases hi
theorem zKD{l:List Int}{k:Nat}(hk:k<l.length)(h:¬(zG l k≤16∧1≤zG l k∧(0<k→zG l (k - 1)<zG l k))):¬ Rises l:=fun hr=>h ((zBG hk (hr.take k)).1 (hr.take (k+1)))
theorem zEU:Rises []:=⟨by simp,by simp⟩
theorem zDS(v:Value)(l:List Int)(w:World)(hl:zi l.length)(hv:Rd w [] (Res.sl v l.length (l.flatMap I1))):Rets Tryz.prog 148 #[v] w fun u_ w'=>u_= .bool (decide (Rises l))∧Own w [] [] w':=by
  refine zW Tryz.func148 O Tryz.ntmps148 (Own.start w) ?_
  refine zC (zI O (zA (zP (zC (zD O (zp (pR hv) O O (zD O (zA (zZ ?_)))))))))
  refine xT (fun(k:Nat)=>[(0,v),(5,v),(6,Vj l.length),(7,Vj k)]) (fun(k:Nat)=>k≤l.length∧Rises (l.take k)) (fun(k:Nat)=>[]) (fun(k:Nat)=>l.length - k) (fun w' hw=>⟨0,⟨O,O,O,O,trivial⟩,⟨Nat.zero_le _,by simpa using zEU⟩,hw⟩) (fun k g hΦ=> ?_)
  refine zC (yI O O O (zA (zP (za O (fun c1=> ?_) (fun c1=> ?_)))))
  ·refine zQ (zP (zZ (zC (zD O (zk (pR hv) 1 k O O O V O (yH (pR hv) 1 k 0 (fun _=>O) O O V O O (zI O (zI O (zA (zC (zD O (yI O O O ?_))))))))))))
   refine zD O (yj (q:=(zG l k)<1) 2 2 [16,15] (16<(zG l k)) O O O O O O trivial O (fun h4_2=> ?_) (fun g4_5=> ?_))
   ·refine zR O (gF h4_2) (zD O (zR O (gF h4_2) (yx O O O ?_)))
    exact yN O (fun _ hw=>hw)
   refine zD O (yj (q:=((zG l k)<1)∨(16<(zG l k))) 11 6 [29,28,27,26,25,24,23,22,21,20,19] ((0<((k:Nat):Int))∧((zG l k)≤(zG l (k - 1)))) O O O O O O trivial O (fun h4_6=> ?_) (fun g4_18=> ?_))
   ·refine zR O (gF h4_6) (zD O (zR O (gF h4_6) (yx O O O (zR O (gF h4_6) (zD O (yJ (q:=0<((k:Nat):Int)) 7 9 [28,27,26,25,24,23,22] ((zG l k)≤(zG l (k - 1))) O O O O O O ⟨_,O,O,gF h4_6⟩ O (fun h4_9=> ?_) (fun g4_17=> ?_)))))))
    ·refine zR O (gT h4_9) (zD O (zR O (gT h4_9) (zD O (zR O (gT h4_9) (zD O (zR O (gT h4_9) (x8 O O (zr V) O (zR O (gT h4_9) (zk (pR hv) 1 (k - 1) O O V V O (zR O (gT h4_9) (yH (pR hv) 1 (k - 1) 0 (fun _=>O) O O V O O (zR O (gT h4_9) ?_))))))))))))
     refine x6 O O O ?_
     exact yN O (fun _ hw=>hw)
    exact yN O (fun _ hw=>hw)
   refine zA (za O (fun c2=> ?_) (fun c2=> ?_))
   ·refine zC (zI O (zA ?_))
    exact zU (z9 (v:= .bool false) O O (fun w' hw=>⟨(by rw[decide_eq_false];exact zKD (k:=k) V V),hw.drop⟩))
   refine zQ (zV (zt O O (zr V) O (zD O ?_)))
   exact zg (fun w' hw=>⟨k+1,⟨O,O,O,O,trivial⟩,⟨by omega,(zBG V hΦ.2).2 V⟩,hw,V⟩)
  refine yF O (zC (zI O (zA ?_)))
  exact zU (z9 (v:= .bool true) O O (fun w' hw=>⟨(by rw[decide_eq_true];have h:=hΦ.2;rwa [List.take_of_length_le V]at h),hw.drop⟩))
structure ConfD.wf(x:ConfD):Prop where
  vs:zi x.vs.length
  ls:zi x.ls.length
def ConfD.ok(x:ConfD):Prop:=((Rises x.vs∧Rises x.ls)∧0<x.vs.length)∧∀ v∈x.vs,v∉x.ls
instance (x:ConfD):Decidable x.ok:=inferInstanceAs (Decidable ((_∧_)∧_))
theorem zLc(v:Value)(l:List Int)(n:Int)(w:World)(hl:zi l.length)(hv:Rd w [] (Res.sl v l.length (l.flatMap I1))):Rets Tryz.prog 116 #[v,Vi n] w fun u_ w'=>∃ (i:Int),u_=Vi i∧(0≤i↔n∈l)∧Own w [] [] w':=by
  refine zW Tryz.func116 O Tryz.ntmps116 (Own.start w) ?_
  refine zC (zI O (zA (zP (zC (zD O (zp (pR hv) O O (zD O (zA (zZ ?_)))))))))
  refine xT (fun(k:Nat)=>[(0,v),(1,Vi n),(7,Vj l.length),(8,Vj k)]) (fun(k:Nat)=>k≤l.length∧n∉l.take k) (fun(k:Nat)=>[]) (fun(k:Nat)=>l.length - k) (fun w' hw=>⟨0,⟨O,O,O,O,trivial⟩,⟨Nat.zero_le _,by simp⟩,hw⟩) (fun k g hΦ=> ?_)
  refine zC (yI O O O (zA (zP (za O (fun c1=> ?_) (fun c1=> ?_)))))
  ·refine zQ (zP (zZ (zC (zD O (zI O (zA (zC (zD O (zD O (zD O (zk (pR hv) 1 k O O O V O (yH (pR hv) 1 k 0 (fun _=>O) O O V O O ?_))))))))))))
   refine yR O O O (zA (za O (fun c2=> ?_) (fun c2=> ?_)))
   ·refine zC (zD O (zI O (zA ?_)))
    exact zU (z9 (v:=Vj k) O O (fun w' hw=>⟨k,O,⟨fun _=>c2▸zd V,fun _=>by omega⟩,hw.drop⟩))
   refine zQ (zV (zt O O (zr V) O (zD O ?_)))
   exact zg (fun w' hw=>⟨k+1,⟨O,O,O,O,trivial⟩,⟨by omega,by rw[zu V];simp;exact⟨hΦ.2,fun e=>c2 e⟩⟩,hw,V⟩)
  refine yF O (zC (zI O (zA ?_)))
  exact zU (z9 (v:=Vi (-1)) O O (fun w' hw=>⟨-1,O,⟨fun h=>by omega,fun h=>by have h2:=hΦ.2;rw[List.take_of_length_le V]at h2;exact absurd h h2⟩,hw.drop⟩))
theorem zAw(v:Value)(l:List Int)(n:Int)(w:World)(hl:zi l.length)(hv:Rd w [] (Res.sl v l.length (l.flatMap I1))):Rets Tryz.prog 72 #[v,Vi n] w fun u_ w'=>u_= .bool (decide (n∈l))∧Own w [] [] w':=by
  refine zW Tryz.func72 O Tryz.ntmps72 (Own.start w) ?_
  refine zC (zI O (zA (zC (zD O (zD O (a_call O O (fun w' hw=>(zLc v l n w' ‹_› (hw.rd0 hv)).mono ?_)))))))
  rintro _ w1 ⟨i1_,rfl,hf1_2,hO⟩
  refine O0 ?_ (hw.qi hO)
  refine kK O O O (zI O (zA ?_))
  exact zU (z9 (v:= .bool (decide (0≤i1_))) O O (fun w' hw=>⟨(by congr 1;exact decide_eq_decide.2 V),hw.drop⟩))
theorem _root_.Go.Sc.qW{p:Prop}(h:p:=by simp[Res.row]):p:=h
theorem zFW(n:Int)(cb:Nat)(c:ConfD)(w:World)(hc:c.wf)(hcb:Rd w [] (Res.row cb 35 (ConfD.cells c)))(rd_c:ConfD.rd c w []):Rets Tryz.prog 150 #[Vi n, .pointer (some ⟨cb,0,none⟩)] w fun u_ w'=>u_= .bool (decide (n∈c.ls))∧Own w [] [] w':=by
  have hv:=hc.vs
  have hl:=hc.ls
  refine zW Tryz.func150 O Tryz.ntmps150 (Own.start w) ?_
  refine zC (zI O (zA (zC (zK (o:=1) O O (kQ (v:=c.lv) O (hcb.φ.cell O) (hcb.far _ qW) qN O (zD O (a_call O O (fun w' hw=>(zAw c.lv c.ls n w' ‹_› (hw.rd0 rd_c.lv)).mono ?_))))))))
  rintro _ w1 ⟨rfl,hO⟩
  refine O0 ?_ (hw.qi hO)
  refine zI O (zA ?_)
  exact zU (z9 (v:= .bool (decide (n∈c.ls))) O O (fun w' hw=>⟨O,hw.drop⟩))
theorem zFL(v:Value)(l:List Int)(cb:Nat)(c:ConfD)(w:World)(hl:zi l.length)(hc:c.wf)(hcb:Rd w [] (Res.row cb 35 (ConfD.cells c)))(rd_c:ConfD.rd c w [])(hv:Rd w [] (Res.sl v l.length (l.flatMap I1))):Rets Tryz.prog 191 #[v, .func (.func 150) #[] #[.pointer (some ⟨cb,0,none⟩)]] w fun u_ w'=>∃ (i:Int),u_=Vi i∧(0≤i↔∃ q∈l,q∈c.ls)∧Own w [] [] w':=by
  refine zW Tryz.func191 O Tryz.ntmps191 (Own.start w) ?_
  refine zC (zI O (zA (zP (zC (zD O (zp (pR hv) O O (zD O (zA (zZ ?_)))))))))
  refine xT (fun(k:Nat)=>[(0,v),(1, .func (.func 150) #[] #[.pointer (some ⟨cb,0,none⟩)]),(7,Vj l.length),(8,Vj k)]) (fun(k:Nat)=>k≤l.length∧∀ v∈l.take k,v∉c.ls) (fun(k:Nat)=>[]) (fun(k:Nat)=>l.length - k) (fun w' hw=>⟨0,⟨O,O,O,O,trivial⟩,⟨Nat.zero_le _,by simp⟩,hw⟩) (fun k g hΦ=> ?_)
  refine zC (yI O O O (zA (zP (za O (fun c1=> ?_) (fun c1=> ?_)))))
  ·refine zQ (zP (zZ (zC (zD O (zI O (zA (zC (zD O (zD O (zD O (zk (pR hv) 1 k O O O V O (yH (pR hv) 1 k 0 (fun _=>O) O O V O O ?_))))))))))))
   refine yV (fst:=[]) (cap:=[.pointer (some ⟨cb,0,none⟩)]) O qN O O (fun w' hw=>(zFW (zG l k) cb c w' ‹_› (hw.rd0 hcb) (rd_c.at0 hw)).mono ?_)
   rintro _ w1 ⟨rfl,hO⟩
   refine O0 ?_ (hw.qi hO)
   refine zA (za O (fun c2=> ?_) (fun c2=> ?_))
   ·refine zC (zD O (zI O (zA ?_)))
    exact zU (z9 (v:=Vj k) O O (fun w' hw=>⟨k,O,⟨fun _=>⟨_,zd V,c2⟩,fun _=>by omega⟩,hw.drop⟩))
   refine zQ (zV (zt O O (zr V) O (zD O ?_)))
   exact zg (fun w' hw=>⟨k+1,⟨O,O,O,O,trivial⟩,⟨by omega,by rw[zu V];intro v hv;rcases List.mem_append.1 hv with h|h;exact hΦ.2 v h;simp at h;rw[h];exact c2⟩,hw,V⟩)
  refine yF O (zC (zI O (zA ?_)))
  exact zU (z9 (v:=Vi (-1)) O O (fun w' hw=>⟨-1,O,⟨fun h=>by omega,fun⟨v,h,h'⟩=>by have h2:=hΦ.2;rw[List.take_of_length_le V]at h2;exact absurd h' (h2 v h)⟩,hw.drop⟩))
theorem zBt(v:Value)(l:List Int)(cb:Nat)(c:ConfD)(w:World)(hl:zi l.length)(hc:c.wf)(hcb:Rd w [] (Res.row cb 35 (ConfD.cells c)))(rd_c:ConfD.rd c w [])(hv:Rd w [] (Res.sl v l.length (l.flatMap I1))):Rets Tryz.prog 149 #[v, .func (.func 150) #[] #[.pointer (some ⟨cb,0,none⟩)]] w fun u_ w'=>u_= .bool (decide (∃ q∈l,q∈c.ls))∧Own w [] [] w':=by
  refine zW Tryz.func149 O Tryz.ntmps149 (Own.start w) ?_
  refine zC (zI O (zA (zC (zD O (zD O (a_call O O (fun w' hw=>(zFL v l cb c w' ‹_› ‹_› (hw.rd0 hcb) (rd_c.at0 hw) (hw.rd0 hv)).mono ?_)))))))
  rintro _ w1 ⟨i1_,rfl,hf1_2,hO⟩
  refine O0 ?_ (hw.qi hO)
  refine kK O O O (zI O (zA ?_))
  exact zU (z9 (v:= .bool (decide (0≤i1_))) O O (fun w' hw=>⟨(by congr 1;exact decide_eq_decide.2 V),hw.drop⟩))
theorem kT(c:ConfD)(w:World)(hc:c.wf)(rd_c:ConfD.rd c w []):Rets Tryz.prog 147 #[.agg (ConfD.cells c).toArray] w fun u_ w'=>u_= .bool (decide c.ok)∧Own w [] [] w':=by
  have hv:=hc.vs
  have hl:=hc.ls
  refine zW Tryz.func147 O Tryz.ntmps147 (Own.start w) ?_
  refine zC (z8 O O (fun b1=>zI O (zA (zC (zK (o:=0) O O (zM 0 (v:=c.vv) O O O O (a_call O O (fun w' hw=>(zDS c.vv c.vs w' ‹_› (hw.rd0 rd_c.vv)).mono ?_))))))))
  rintro _ w1 ⟨rfl,hO⟩
  refine O1 ?_ (hw.qi hO)
  refine zD O (yJ (q:=Rises c.vs) 3 3 [9,8,7] (Rises c.ls) O O O O O O trivial O (fun h1_3=> ?_) (fun g1_7=> ?_))
  ·refine zR O (gT h1_3) (zK (o:=1) O O (zR O (gT h1_3) (zM 0 (v:=c.lv) O O O O (zR O (gT h1_3) (a_call O O (fun w' hw=>(zDS c.lv c.ls w' ‹_› (hw.rd0 rd_c.lv)).mono ?_))))))
   rintro _ w1 ⟨rfl,hO⟩
   refine O1 ?_ (hw.qi hO)
   exact yN O (fun _ hw=>hw)
  refine zD O (yJ (q:=(Rises c.vs)∧(Rises c.ls)) 4 8 [15,14,13,12] (0<((c.vs.length:Nat):Int)) O O O O O O trivial O (fun h1_8=> ?_) (fun g1_13=> ?_))
  ·refine zR O (gT h1_8) (zK (o:=0) O O (zR O (gT h1_8) (zM 0 (v:=c.vv) O O O O (zR O (gT h1_8) (zp (pR rd_c.vv) O O (zR O (gT h1_8) (yx O O O ?_)))))))
   exact yN O (fun _ hw=>hw)
  refine zD O (yJ (q:=((Rises c.vs)∧(Rises c.ls))∧(0<((c.vs.length:Nat):Int))) 5 14 [22,21,20,19,18] (¬(∃ q∈c.vs,q∈c.ls)) O O O O O O trivial O (fun h1_14=> ?_) (fun g1_20=> ?_))
  ·refine zR O (gT h1_14) (zK (o:=0) O O (zR O (gT h1_14) (zM 0 (v:=c.vv) O O O O (zR O (gT h1_14) (zBX (va:=[]) (vb:=[.pointer (some ⟨b1,0,none⟩)]) O O O (zR O (gT h1_14) (a_call O O (fun w' hw=>(zBt c.vv c.vs b1 c w' ‹_› ‹_› (hw.rdRes0 0 O) (rd_c.at0 hw) (hw.rd0 rd_c.vv)).mono ?_))))))))
   rintro _ w1 ⟨rfl,hO⟩
   refine O1 ?_ (hw.qi hO)
   refine zR O (gT h1_14) (xB (q:=∃ q∈c.vs,q∈c.ls) O O ?_)
   exact yN O (fun _ hw=>hw)
  refine zI O (zA ?_)
  exact zU (z9 (v:= .bool (decide ((((Rises c.vs)∧(Rises c.ls))∧(0<((c.vs.length:Nat):Int)))∧(¬(∃ q∈c.vs,q∈c.ls))))) O O (fun w' hw=>⟨(by congr 1;exact decide_eq_decide.2 (by unfold ConfD.ok;exact⟨fun h=>⟨⟨h.1.1,by have:=h.1.2;omega⟩,fun v hv hv'=>h.2 ⟨v,hv,hv'⟩⟩,fun h=>⟨⟨h.1.1,by have:=h.1.2;omega⟩,fun⟨v,hv,hv'⟩=>h.2 v hv hv'⟩⟩)),hw.drop⟩))
def ConfD.enc(c:ConfD):List UInt8:=zCm c.vs++zCm c.ls
structure ConfD.few(c:ConfD):Prop where
  vs:c.vs.length≤1000000000
  ls:c.ls.length≤1000000000
theorem ConfD.few.wf{c:ConfD}(h:c.few):c.wf:=⟨by have:=h.vs;show _≤_;omega,by have:=h.ls;show _≤_;omega⟩
theorem zOK{ns:List Int}:∀ n∈ns.map u64,n<18446744073709551616:=fun n hn=>by obtain⟨a,_,rfl⟩:=List.mem_map.1 hn;exact xR a
theorem zAS(ns:List Int):(zCm ns).length≤9*(ns.length+1):=by
  have:=yS (ns:=u64 ns.length::ns.map u64) (by intro n hn;rcases List.mem_cons.1 hn with rfl|h;exact xR _;exact zOK n h)
  simpa [zCm]using this
theorem zBZ(v:Value)(l:List Int)(w:World)(hl:zi l.length)(hv:Rd w [] (Res.sl v l.length (l.flatMap I1))):Rets Tryz.prog 115 #[v] w fun u_ w'=>∃ (r:Value),u_=r∧Own w [] [Res.vec 3 1 r l.length (l.flatMap I1)] w':=by
  refine zW Tryz.func115 O Tryz.ntmps115 (Own.start w) ?_
  refine zC (zI O (zA (zP (zC (zD O (zE8 (len:=l.length) (cs:=(l.flatMap I1)) qN O O (fun w' hw'=>Own.rd hv hw') O (zA (zAu O (fun c1=> ?_) (fun c1=> ?_)))))))))
  ·refine zC (zI O (zA ?_))
   exact zU (z9 (v:= .slice none 0 0) O O (fun w' hw=>⟨.slice none 0 0,O,by obtain⟨_,h0⟩:=Sl.isNil hv.φ c1;rw[List.eq_nil_of_length_eq_zero h0];exact zm hw 3 1⟩))
  refine zQ (zC (zx (e:=3) (sz:=1) (vs:=[]) qN O O qR qM O (fun b5=>zD O (zy (g:=I1) (sz:=1) (by':=8) (fun _=>O) (l:=[]) (l':=l) qV 0 qN O O O (fun w' hw'=>Own.rd hv hw') qO qM O (fun v7=>zI O (zA ?_))))))
  exact zU (z9 (v:=v7) O O (fun w' hw=>⟨v7,O,hw⟩))
theorem zEx(c:ConfD)(w:World)(hc:c.wf)(rd_c:ConfD.rd c w []):Rets Tryz.prog 59 #[.agg (ConfD.cells c).toArray] w fun u_ w'=>∃ (a:Value) (b:Value),u_= .agg #[a,b]∧Own w [] [Res.vec 3 1 a c.vs.length (c.vs.flatMap I1),Res.vec 3 1 b c.ls.length (c.ls.flatMap I1)] w':=by
  have hv:=hc.vs
  have hl:=hc.ls
  refine zW Tryz.func59 O Tryz.ntmps59 (Own.start w) ?_
  refine zC (z8 O O (fun b1=>yC (v:= .agg #[.slice none 0 0, .slice none 0 0]) qN O (fun b2=>zA (zP (ze [0] O qM qN (fun w' hw hS=>zB 1 O (zH (o:=0) O) hS (zB 2 O (zY 0 (v:=c.vv) O O O) hS (zB 5 O (zH (o:=1) O) hS (zB 6 O (zY 0 (v:=c.lv) O O O) hS (zq 0 4 ?_ ?_))))))))))
  ·refine zl 0 O hw (zx (e:=3) (sz:=1) (vs:=[]) qN O O qR qM O (fun b3=>zE [0] O qM (fun w' hw hS=>zq 3 4 ?_ ?_)))
   ·refine zl 3 O hw (zy (g:=I1) (sz:=1) (by':=8) (fun _=>O) (l:=[]) (l':=c.vs) qV 2 qN O O O (fun w' hw'=>Own.rd rd_c.vv hw') qO qM O (fun v6=>zE [0] O qM (fun w' hw hS=>zJ 4 O hw (zx (e:=3) (sz:=1) (vs:=[]) qN O O qR qM O (fun b7=>zE [0] O qM (fun w' hw hS=>zJ 7 O hw (zy (g:=I1) (sz:=1) (by':=8) (fun _=>O) (l:=[]) (l':=c.ls) qV 3 qN O O O (fun w' hw'=>Own.rd rd_c.lv hw') qO qM O (fun v10=>zE [0] O qM (fun w' hw hS=>zJ 8 O hw ?_)))))))))
    refine zN (fun w' hw=>Own.qg (i:=2) O hw) (fun hc3_=> ?_)
    refine zN (fun w' hw=>Own.qg (i:=3) O hw) (fun hc4_=> ?_)
    refine jK (cs:=[v6,v10]) (z:=[.slice none 0 0, .slice none 0 0]) (pl:=[(0,1),(1,1)]) qN ⟨hc3_,hc4_,trivial⟩ qN O (zE [0] O qM (fun w' hw hS=>zJ 9 O hw (zo 1 O O O (zF hc3_ (zF hc4_ zh)) O (zE [0] O qM (fun w' hw hS=>zT ?_)))))
    refine Oc4 ?_ hw
    exact zU (jp (cs:=[v6,v10]) O O qN (Own.qr (i:=1) O) (fun w' hw=>⟨v6,v10,O,hw.sel [2,3] O qM⟩))
   refine zl 4 O hw (zx (e:=3) (sz:=1) (vs:=[]) qN O O qR qM O (fun b7=>zE [0] O qM (fun w' hw hS=>zJ 3 O hw (zy (g:=I1) (sz:=1) (by':=8) (fun _=>O) (l:=[]) (l':=c.vs) qV 2 qN O O O (fun w' hw'=>Own.rd rd_c.vv hw') qO qM O (fun v6=>zE [0] O qM (fun w' hw hS=>zJ 7 O hw (zy (g:=I1) (sz:=1) (by':=8) (fun _=>O) (l:=[]) (l':=c.ls) qV 3 qN O O O (fun w' hw'=>Own.rd rd_c.lv hw') qO qM O (fun v10=>zE [0] O qM (fun w' hw hS=>zJ 8 O hw ?_)))))))))
   refine zN (fun w' hw=>Own.qg (i:=2) O hw) (fun hc5_=> ?_)
   refine zN (fun w' hw=>Own.qg (i:=3) O hw) (fun hc6_=> ?_)
   refine jK (cs:=[v6,v10]) (z:=[.slice none 0 0, .slice none 0 0]) (pl:=[(0,1),(1,1)]) qN ⟨hc5_,hc6_,trivial⟩ qN O (zE [0] O qM (fun w' hw hS=>zJ 9 O hw (zo 1 O O O (zF hc5_ (zF hc6_ zh)) O (zE [0] O qM (fun w' hw hS=>zT ?_)))))
   refine Oc4 ?_ hw
   exact zU (jp (cs:=[v6,v10]) O O qN (Own.qr (i:=1) O) (fun w' hw=>⟨v6,v10,O,hw.sel [2,3] O qM⟩))
  refine zl 4 O hw (zx (e:=3) (sz:=1) (vs:=[]) qN O O qR qM O (fun b7=>zE [0] O qM (fun w' hw hS=>zJ 0 O hw (zx (e:=3) (sz:=1) (vs:=[]) qN O O qR qM O (fun b3=>zE [0] O qM (fun w' hw hS=>zJ 3 O hw (zy (g:=I1) (sz:=1) (by':=8) (fun _=>O) (l:=[]) (l':=c.vs) qV 3 qN O O O (fun w' hw'=>Own.rd rd_c.vv hw') qO qM O (fun v6=>zE [0] O qM (fun w' hw hS=>zJ 7 O hw (zy (g:=I1) (sz:=1) (by':=8) (fun _=>O) (l:=[]) (l':=c.ls) qV 2 qN O O O (fun w' hw'=>Own.rd rd_c.lv hw') qO qM O (fun v10=>zE [0] O qM (fun w' hw hS=>zJ 8 O hw ?_))))))))))))
  refine zN (fun w' hw=>Own.qg (i:=3) O hw) (fun hc7_=> ?_)
  refine zN (fun w' hw=>Own.qg (i:=2) O hw) (fun hc8_=> ?_)
  refine jK (cs:=[v6,v10]) (z:=[.slice none 0 0, .slice none 0 0]) (pl:=[(0,1),(1,1)]) qN ⟨hc7_,hc8_,trivial⟩ qN O (zE [0] O qM (fun w' hw hS=>zJ 9 O hw (zo 1 O O O (zF hc7_ (zF hc8_ zh)) O (zE [0] O qM (fun w' hw hS=>zT ?_)))))
  refine Oc4 ?_ hw
  exact zU (jp (cs:=[v6,v10]) O O qN (Own.qr (i:=1) O) (fun w' hw=>⟨v6,v10,O,hw.sel [3,2] O qM⟩))
theorem zAW{S:List Nat}(o:Nat)(sl:Value)(bs:List UInt8)(c:ConfD)(w:World)(hb:bs.length+9*(c.vs.length+c.ls.length+2)≤100000000000)(hin:Own w S [Res.bv o xP sl bs] w)(rd_c:ConfD.rd c w S):Rets Tryz.prog 151 #[.pointer (some ⟨o,0,none⟩), .agg (ConfD.cells c).toArray] w fun u_ w'=>∃ (sl':Value),u_= .tuple #[]∧Own w S [Res.bv o xP sl' (bs++c.enc)] w':=by
  have h0:=zAS c.vs
  refine zW Tryz.func151 O Tryz.ntmps151 hin ?_
  refine zC (z8 O O (fun b3=>zA (zC (zD O (zK (o:=0) O O (zM 1 (v:=c.vv) O O O O (a_call O O (fun w' hw=>(zOd o _ _ c.vv c.vs w' V (hw.give [0] O qM) (hw.rdTo rd_c.vv [0] O)).mono ?_))))))))
  rintro _ w1 ⟨sl'1_,rfl,hO⟩
  refine O2 ?_ (hw.qh [0] O hO)
  refine zA (zV (zD O (zK (o:=1) O O (zM 0 (v:=c.lv) O O O O (a_call O O (fun w' hw=>(zOd o sl'1_ (bs++zCm c.vs) c.lv c.ls w' qS (hw.give [1] O qM) (hw.rdTo rd_c.lv [1] O)).mono ?_))))))
  rintro _ w1 ⟨sl'2_,rfl,hO⟩
  refine O2 ?_ (hw.qh [1] O hO)
  exact zg (yQ O (fun w' hw=>⟨sl'2_,O,by have h:=hw.one 1 rfl;simpa [ConfD.enc]using h⟩))
theorem zCw(w:World):Rets Tryz.prog 107 #[] w fun u_ w'=>u_= .agg #[.func (.func 147) #[] #[], .func (.func 151) #[] #[], .func (.func 153) #[] #[]]∧Own w [] [] w':=by
  refine zW Tryz.func107 O Tryz.ntmps107 (Own.start w) ?_
  refine zC (yC (v:= .agg #[.nilFunc, .nilFunc, .nilFunc]) qN O (fun b0=>zA (zC (yh (cs:=[.func (.func 147) #[] #[], .func (.func 151) #[] #[], .func (.func 153) #[] #[]]) (z:=[.nilFunc, .nilFunc, .nilFunc]) (pl:=[(0,1),(1,1),(2,1)]) qN qN O (zo 0 O O O (xO O) O (zA ?_))))))
  exact zU (jp (cs:=[.func (.func 147) #[] #[], .func (.func 151) #[] #[], .func (.func 153) #[] #[]]) O O qN (Own.qr (i:=0) O) (fun w' hw=>⟨O,hw.drop⟩))
theorem zGH(c:ConfD)(w:World)(hf:c.few)(rd_c:ConfD.rd c w []):Rets Tryz.prog 140 #[.agg #[.func (.func 147) #[] #[], .func (.func 151) #[] #[], .func (.func 153) #[] #[]], .agg (ConfD.cells c).toArray] w fun u_ w'=>∃ (r:Value),u_= .tuple #[r,Vi (yE c.ok)]∧Own w [] [Res.vec 5 1 r (if c.ok then c.enc else []).length ((if c.ok then c.enc else []).map vb)] w':=by
  have hc:=hf.wf
  have hv:=hf.vs
  have hl:=hf.ls
  refine zW Tryz.func140 O Tryz.ntmps140 (Own.start w) ?_
  refine zC (z8 O O (fun b2=>z8 O O (fun b3=>zI O (zI O (zA (zP (zC (zK (o:=0) O O (zM 0 (v:= .func (.func 147) #[] #[]) O O O O (yL (cs:=(ConfD.cells c)) 1 O O O (yV (fst:=[]) (cap:=[]) O qN O O (fun w' hw=>(kT c w' ‹_› (rd_c.at0 hw)).mono ?_))))))))))))
  rintro _ w1 ⟨rfl,hO⟩
  refine O2 ?_ (hw.qi hO)
  refine xB (q:=c.ok) O O (zA (za O (fun c1=> ?_) (fun c1=> ?_)))
  ·refine zC (zI O (zI O (zA ?_)))
   exact zU (xz (v:= .slice none 0 0) (v':=Vi 2) O O O (fun w' hw=>⟨.slice none 0 0,(by rw[j7 c1]),by rw[if_neg c1];exact(zm hw T8 1).one 2 rfl⟩))
  refine zQ (zC (yh (cs:=[.slice none 0 0]) (z:=[.slice none 0 0]) (pl:=[(0,1)]) qN qN O (z8 O O (fun b13=>zI O (zA (zC (zK (o:=1) O O (zM 0 (v:= .func (.func 151) #[] #[]) O O O O (zD O (yL (cs:=(ConfD.cells c)) 1 O O O ?_))))))))))
  refine z4 [Res.row b2 193 [.func (.func 147) #[] #[], .func (.func 151) #[] #[], .func (.func 153) #[] #[]],Res.row b3 35 (ConfD.cells c),Res.bv b13 xP (.slice none 0 0) ([]:List UInt8)] (fun w' hw=>(zm hw T8 1).joinBv (i:=2) (j:=3) qM O O) ?_
  refine yV (fst:=[]) (cap:=[]) O qN O O (fun w' hw=>(zAW b13 (.slice none 0 0) ([]:List UInt8) c w' qS (hw.give [2] O qM) (rd_c.at hw [2] O)).mono ?_)
  rintro _ w1 ⟨sl'1_,rfl,hO⟩
  refine O3 ?_ (hw.qh [2] O hO)
  refine zA (zC (zD O (zb O O (zK (o:=0) O O ?_))))
  refine z4 [Res.row b2 193 [.func (.func 147) #[] #[], .func (.func 151) #[] #[], .func (.func 153) #[] #[]],Res.row b3 35 (ConfD.cells c),Res.row b13 xP [sl'1_],Res.vec 5 1 sl'1_ (([]:List UInt8)++c.enc).length ((([]:List UInt8)++c.enc).map vb)] (fun w' hw=>hw.splitBv (i:=2) (o:=b13) (T:=xP) (v:=sl'1_) (bs:=(([]:List UInt8)++c.enc)) O) ?_
  refine zM 2 (v:=sl'1_) O O O O (zI O (zI O (zA ?_)))
  exact zU (xz (v:=sl'1_) (v':=Vi 0) O O O (fun w' hw=>⟨sl'1_,(by rw[jY (Decidable.not_not.1 c1)]),by rw[if_pos (Decidable.not_not.1 c1)];exact hw.one 3 rfl⟩))
theorem zEP(c:ConfD)(w:World)(hf:c.few)(rd_c:ConfD.rd c w []):Rets Tryz.prog 91 #[.agg (ConfD.cells c).toArray] w fun u_ w'=>∃ (r:Value),u_= .tuple #[r,Vi (yE c.ok)]∧Own w [] [Res.vec 5 1 r (if c.ok then c.enc else []).length ((if c.ok then c.enc else []).map vb)] w':=by
  refine zW Tryz.func91 O Tryz.ntmps91 (Own.start w) ?_
  refine zC (z8 O O (fun b1=>zI O (zI O (zA (zP (ze [0] O qM qN (fun w' hw hS=>zB 1 O (x1 (cs:=(ConfD.cells c)) 0 O O) hS (zJ 0 O hw (a_call O O (fun w' hw=>(zCw w').mono ?_))))))))))
  rintro _ w1 ⟨rfl,hO⟩
  refine O1 ?_ (hw.qi hO)
  refine zE [0] O qM (fun w' hw hS=>zJ 2 O hw (a_call O O (fun w' hw=>(zGH c w' ‹_› (rd_c.at0 hw)).mono ?_)))
  rintro _ w1 ⟨r1_,rfl,hO⟩
  refine O2 ?_ (hw.qi hO)
  refine zE [0] O qM (fun w' hw hS=>zB 3 O (yT (vs:=[r1_,Vi (yE c.ok)]) O O) hS (zB 4 O (yT (vs:=[r1_,Vi (yE c.ok)]) O O) hS (zB 5 O yO hS (zB 6 O yO hS (zT ?_)))))
  refine Oc2 ?_ hw
  exact zU (xz (v:=r1_) (v':=Vi (yE c.ok)) O O O (fun w' hw=>⟨r1_,O,hw.sel [1] O qM⟩))
theorem zBl(c:ConfD)(w:World)(hf:c.few)(rd_c:ConfD.rd c w []):Rets Tryz.prog 71 #[.agg (ConfD.cells c).toArray] w fun u_ w'=>u_=Vi (yE c.ok)∧Own w [] [] w':=by
  refine zW Tryz.func71 O Tryz.ntmps71 (Own.start w) ?_
  refine zC (z8 O O (fun b1=>zI O (zA (zC (yL (cs:=(ConfD.cells c)) 0 O O O (a_call O O (fun w' hw=>(zEP c w' ‹_› (rd_c.at0 hw)).mono ?_)))))))
  rintro _ w1 ⟨r1_,rfl,hO⟩
  refine O2 ?_ (hw.qi hO)
  refine zD O (yA (vs:=[r1_,Vi (yE c.ok)]) O O O (yA (vs:=[r1_,Vi (yE c.ok)]) O O O (zI O (zI O (zA (zC (zD O (zI O (zA ?_)))))))))
  exact zU (z9 (v:=Vi (yE c.ok)) O O (fun w' hw=>⟨O,hw.drop⟩))
theorem ki(v:Value)(l:List Int)(n:Int)(w:World)(hl:zi l.length)(hv:Rd w [] (Res.sl v l.length (l.flatMap I1))):Rets Tryz.prog 72 #[v,Vi n] w fun u_ w'=>u_= .bool (decide (n∈l))∧Own w [] [] w':=by
  exact zAw v l n w hl hv
theorem zBY(c:ConfD)(id:Int)(w:World)(hf:c.few)(rd_c:ConfD.rd c w []):Rets Tryz.prog 35 #[.agg (ConfD.cells c).toArray,Vi id] w fun u_ w'=>u_= .bool (decide (c.ok∧id∈c.vs))∧Own w [] [] w':=by
  have hc:=hf.wf
  have hv:=hc.vs
  have hl:=hc.ls
  refine zW Tryz.func35 O Tryz.ntmps35 (Own.start w) ?_
  refine zC (z8 O O (fun b2=>zI O (zA (zC (yL (cs:=(ConfD.cells c)) 0 O O O (a_call O O (fun w' hw=>(zBl c w' ‹_› (rd_c.at0 hw)).mono ?_)))))))
  rintro _ w1 ⟨rfl,hO⟩
  refine O1 ?_ (hw.qi hO)
  refine yR O O O (zD O (yJ (q:=(yE c.ok)=0) 4 3 [12,11,10,9] (id∈c.vs) O O O O O O trivial O (fun h1_3=> ?_) (fun g1_8=> ?_)))
  ·refine zR O (gT h1_3) (zK (o:=0) O O (zR O (gT h1_3) (zM 0 (v:=c.vv) O O O O (zR O (gT h1_3) (zD O (zR O (gT h1_3) (a_call O O (fun w' hw=>(ki c.vv c.vs id w' ‹_› (hw.rd0 rd_c.vv)).mono ?_))))))))
   rintro _ w1 ⟨rfl,hO⟩
   refine O1 ?_ (hw.qi hO)
   exact yN O (fun _ hw=>hw)
  refine zI O (zA ?_)
  exact zU (z9 (v:= .bool (decide (((yE c.ok)=0)∧(id∈c.vs)))) O O (fun w' hw=>⟨(by congr 1;exact decide_eq_decide.2 (by rw[errOf_zero])),hw.drop⟩))
theorem zBw(c:ConfD)(id:Int)(w:World)(hf:c.few)(rd_c:ConfD.rd c w []):Rets Tryz.prog 94 #[.agg (ConfD.cells c).toArray,Vi id] w fun u_ w'=>u_= .bool (decide (c.ok∧(id∈c.vs∨id∈c.ls)))∧Own w [] [] w':=by
  have hc:=hf.wf
  have hv:=hc.vs
  have hl:=hc.ls
  refine zW Tryz.func94 O Tryz.ntmps94 (Own.start w) ?_
  refine zC (z8 O O (fun b2=>zI O (zA (zC (yL (cs:=(ConfD.cells c)) 0 O O O (zD O (a_call O O (fun w' hw=>(zBY c id w' ‹_› (rd_c.at0 hw)).mono ?_))))))))
  rintro _ w1 ⟨rfl,hO⟩
  refine O1 ?_ (hw.qi hO)
  refine zD O (yj (q:=c.ok∧id∈c.vs) 9 3 [17,16,15,14,13,12,11,10,9] (((yE c.ok)=0)∧(id∈c.ls)) O O O O O O trivial O (fun h1_3=> ?_) (fun g1_13=> ?_))
  ·refine zR O (gF h1_3) (yL (cs:=(ConfD.cells c)) 0 O O O (zR O (gF h1_3) (a_call O O (fun w' hw=>(zBl c w' ‹_› (rd_c.at0 hw)).mono ?_))))
   rintro _ w1 ⟨rfl,hO⟩
   refine O1 ?_ (hw.qi hO)
   refine zR O (gF h1_3) (yR O O O (zR O (gF h1_3) (zD O (yJ (q:=(yE c.ok)=0) 4 7 [16,15,14,13] (id∈c.ls) O O O O O O ⟨_,O,O,gF h1_3⟩ O (fun h1_7=> ?_) (fun g1_12=> ?_)))))
   ·refine zR O (gT h1_7) (zK (o:=1) O O (zR O (gT h1_7) (zM 0 (v:=c.lv) O O O O (zR O (gT h1_7) (zD O (zR O (gT h1_7) (a_call O O (fun w' hw=>(ki c.lv c.ls id w' ‹_› (hw.rd0 rd_c.lv)).mono ?_))))))))
    rintro _ w1 ⟨rfl,hO⟩
    refine O1 ?_ (hw.qi hO)
    exact yN O (fun _ hw=>hw)
   exact yN O (fun _ hw=>hw)
  refine zI O (zA ?_)
  exact zU (z9 (v:= .bool (decide ((c.ok∧id∈c.vs)∨(((yE c.ok)=0)∧(id∈c.ls))))) O O (fun w' hw=>⟨(by congr 1;exact decide_eq_decide.2 (by rw[errOf_zero];exact⟨fun h=>h.elim (fun h=>⟨h.1, .inl h.2⟩) fun h=>⟨h.1, .inr h.2⟩,fun h=>h.2.elim (fun q=> .inl ⟨h.1,q⟩) fun q=> .inr ⟨h.1,q⟩⟩)),hw.drop⟩))
def cnt(vs ids:List Int):Nat:=(vs.filter (· ∈ids)).length
theorem zP3(vs ids:List Int):cnt vs ids≤vs.length:=List.length_filter_le _ _
theorem zGG(vs ids:List Int)(x:Int):cnt (vs++[x]) ids=cnt vs ids+if x∈ids then 1 else 0:=by
  unfold cnt
  rw[List.filter_append,List.length_append]
  by_cases h:x∈ids<;>simp[List.filter_cons,h]
def ConfD.qv(c:ConfD)(ids:List Int):Prop:=c.ok∧c.vs.length<2*cnt c.vs ids
instance (c:ConfD)(ids:List Int):Decidable (c.qv ids):=inferInstanceAs (Decidable (_∧_))
theorem xD(c:ConfD)(v:Value)(ids:List Int)(w:World)(hf:c.few)(hids:zi ids.length)(hi:Rd w [] (Res.sl v ids.length (ids.flatMap I1)))(rd_c:ConfD.rd c w []):Rets Tryz.prog 69 #[.agg (ConfD.cells c).toArray,v] w fun u_ w'=>u_= .bool (decide (c.qv ids))∧Own w [] [] w':=by
  have hc:=hf.wf
  have hv:=hf.vs
  have hl:=hc.ls
  refine zW Tryz.func69 O Tryz.ntmps69 (Own.start w) ?_
  refine zC (z8 O O (fun b2=>zI O (zA (zC (zI O (zA (zP (zC (zK (o:=0) O O (zM 0 (v:=c.vv) O O O O (zp (pR rd_c.vv) O O (zD O ?_))))))))))))
  refine zA (zZ ?_)
  refine xT (fun(k:Nat)=>[(1,v),(2, .pointer (some ⟨b2,0,none⟩)),(5,Vj (cnt (c.vs.take k) ids)),(9,c.vv),(10,Vj c.vs.length),(11,Vj k)]) (fun(k:Nat)=>k≤c.vs.length) (fun(k:Nat)=>[Res.row b2 35 (ConfD.cells c)]) (fun(k:Nat)=>c.vs.length - k) (fun w' hw=>⟨0,⟨O,O,O,O,O,O,trivial⟩,Nat.zero_le _,hw⟩) (fun k g hΦ=> ?_)
  have hcl:=zP3 (c.vs.take k) ids
  have hkl:(c.vs.take k).length≤k:=by simp;omega
  have htk:=hΦ
  refine zC (yI O O O (zA (zP (za O (fun c1=> ?_) (fun c1=> ?_)))))
  ·refine zQ (zP (zZ (zC (zk (pR rd_c.vv) 1 k O O O V O (yH (pR rd_c.vv) 1 k 0 (fun _=>O) O O V O O (zI O (zA (zC (zD O (zD O (a_call O O (fun w' hw=>(ki v ids (zG c.vs k) w' ‹_› (hw.rd0 hi)).mono ?_))))))))))))
   rintro _ w1 ⟨rfl,hO⟩
   refine O1 ?_ (hw.qi hO)
   refine zA (za O (fun c2=> ?_) (fun c2=> ?_))
   ·have e2:cnt (c.vs.take (k+1)) ids=cnt (c.vs.take k) ids+1:=by have:=zGG (c.vs.take k) ids (zG c.vs k);rw[if_pos c2]at this;rw[zu V];exact this
    refine zV (zD O (zt O O (zr V) O (zI O (zA (zV (zt O O (zr V) O (zD O ?_)))))))
    exact zg (fun w' hw=>⟨k+1,⟨O,O,by rw[e2];rfl,O,O,O,trivial⟩,V,hw,V⟩)
   have e2:cnt (c.vs.take (k+1)) ids=cnt (c.vs.take k) ids:=by have:=zGG (c.vs.take k) ids (zG c.vs k);rw[if_neg c2]at this;rw[zu V];exact this
   refine zQ (zV (zt O O (zr V) O (zD O ?_)))
   exact zg (fun w' hw=>⟨k+1,⟨O,O,by rw[e2];rfl,O,O,O,trivial⟩,V,hw,V⟩)
  refine yF O (zC (yL (cs:=(ConfD.cells c)) 0 O O O (a_call O O (fun w' hw=>(zBl c w' ‹_› (rd_c.at0 hw)).mono ?_))))
  rintro _ w1 ⟨rfl,hO⟩
  refine O1 ?_ (hw.qi hO)
  refine yR O O O (zD O (yJ (q:=(yE c.ok)=0) 6 3 [30,29,28,27,26,25] (((c.vs.length:Nat):Int)<((2*(cnt (c.vs.take k) ids):Nat):Int)) O O O O O O trivial O (fun h8_3=> ?_) (fun g8_10=> ?_)))
  ·refine zR O (gT h8_3) (zD O (zR O (gT h8_3) (zKf O O (zr V) O (zR O (gT h8_3) (zK (o:=0) O O (zR O (gT h8_3) (zM 0 (v:=c.vv) O O O O (zR O (gT h8_3) (zp (pR rd_c.vv) O O (zR O (gT h8_3) (yx O O O ?_)))))))))))
   exact yN O (fun _ hw=>hw)
  refine zI O (zA ?_)
  exact zU (z9 (v:= .bool (decide (((yE c.ok)=0)∧(((c.vs.length:Nat):Int)<((2*(cnt (c.vs.take k) ids):Nat):Int))))) O O (fun w' hw=>⟨(by congr 1;exact decide_eq_decide.2 (by unfold ConfD.qv;rw[errOf_zero,List.take_of_length_le V];rw[List.take_of_length_le V]at hcl;exact and_congr_right fun _=>by omega)),hw.drop⟩))
end Go.Proofs.YtkkeknmkipkbmaaGreat