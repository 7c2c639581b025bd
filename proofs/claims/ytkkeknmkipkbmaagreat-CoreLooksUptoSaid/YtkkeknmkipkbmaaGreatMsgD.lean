import Derived.Test.YtkkeknmkipkbmaaGreatEnc2
set_option linter.unusedSectionVars false
set_option linter.unusedSimpArgs false
set_option linter.unusedVariables false
set_option maxRecDepth 10000
namespace Go.Proofs.YtkkeknmkipkbmaaGreat
open Go Go.Sc Go.Proofs
structure MsgA where
  kind:Int
  src:Int
  dst:Int
  term:Nat
  index:Nat
  ql:Nat
  qc:Nat
  round:Nat
  flag:Bool
  qm:List EntA
  conf:ConfA
  off:Int
  data:List UInt8
  deriving DecidableEq
structure MsgD where
  kind:Int
  src:Int
  dst:Int
  term:Nat
  index:Nat
  ql:Nat
  qc:Nat
  round:Nat
  flag:Bool
  ev:Value
  qm:List EntD
  conf:ConfD
  off:Int
  dv:Value
  data:List UInt8
def MsgD.a(x:MsgD):MsgA:=⟨x.kind,x.src,x.dst,x.term,x.index,x.ql,x.qc,x.round,x.flag,x.qm.map EntD.toEntA,x.conf.a,x.off,x.data⟩
structure MsgD.wf(x:MsgD):Prop where
  term:x.term<18446744073709551616
  index:x.index<18446744073709551616
  ql:x.ql<18446744073709551616
  qc:x.qc<18446744073709551616
  round:x.round<18446744073709551616
  qm:x.qm.length≤1048576
  each:∀ e∈x.qm,e.wf
  conf:x.conf.few
  fewer:x.conf.vs.length≤1048576∧x.conf.ls.length≤1048576
  data:x.data.length≤1000000000
  all:(x.qm.map fun e=>e.data.length).sum≤100000000
def MsgD.cells(x:MsgD):List Value:=[.int .i64 x.kind, .int .i64 x.src, .int .i64 x.dst, .int .u64 x.term, .int .u64 x.index, .int .u64 x.ql, .int .u64 x.qc, .int .u64 x.round, .bool x.flag,x.ev]++(x.conf.cells++[.int .i64 x.off,x.dv])
structure MsgD.rd(x:MsgD)(w:World)(S:List Nat):Prop where
  ev:Rd w S (Res.sl x.ev x.qm.length (x.qm.flatMap EntD.cells))
  ev_all:∀ p∈x.qm,EntD.rd p w S
  conf:x.conf.rd w S
  dv:Rd w S (Res.sl x.dv x.data.length (x.data.map vb))
theorem MsgD.rd.at0{x:MsgD}{w0 w:World}{S:List Nat}{L:List Res}(h:x.rd w0 S)(hw:Own w0 S L w):x.rd w []:=⟨hw.rd0 h.ev,fun p hp=>(h.ev_all p hp).at0 hw,h.conf.at0 hw,hw.rd0 h.dv⟩
theorem MsgD.rd.at{x:MsgD}{w0 w:World}{S:List Nat}{L Lin:List Res}(h:x.rd w0 S)(hw:Own w0 S L w)(m:List Nat)(hm:m.mapM (fun i=>L[i]?)=some Lin):x.rd w (y1 Lin):=⟨hw.rdTo h.ev m hm,fun p hp=>(h.ev_all p hp).at hw m hm,h.conf.at hw m hm,hw.rdTo h.dv m hm⟩
def MsgA.head(x:MsgA):Prop:=((1≤x.kind∧x.kind≤9)∧(1≤x.src∧x.src≤16)∧(1≤x.dst∧x.dst≤16)∧(0≤x.off∧x.off≤65536)∧x.data.length≤256∧x.qm.length≤8)∧(if x.kind=7 then x.conf.ok else x.conf.vs.length=0∧x.conf.ls.length=0)
instance (x:MsgA):Decidable x.head:=by unfold MsgA.head;infer_instance
def MsgA.ok(x:MsgA):Prop:=x.head∧∀ e∈x.qm,e.ok
theorem MsgD.ok_iff{x:MsgD}:x.a.ok↔x.a.head∧∀ e∈x.qm,e.ok:=by simp[MsgA.ok,MsgD.a]
theorem MsgD.head_iff{x:MsgD}:x.a.head↔((1≤x.kind∧x.kind≤9)∧(1≤x.src∧x.src≤16)∧(1≤x.dst∧x.dst≤16)∧(0≤x.off∧x.off≤65536)∧x.data.length≤256∧x.qm.length≤8)∧(if x.kind=7 then x.conf.ok else x.conf.vs.length=0∧x.conf.ls.length=0):=by
  unfold MsgA.head MsgD.a;simp only[List.length_map];exact Iff.rfl
instance (x:MsgA):Decidable x.ok:=by unfold MsgA.ok;infer_instance
def zCg(es:List EntA):List UInt8:=es.flatMap EntA.enc
def MsgA.enc(x:MsgA):List UInt8:=yK [u64 x.kind,u64 x.src,u64 x.dst]++yK [x.term,x.index,x.ql,x.qc,x.round]++yK [fl x.flag]++yK [x.qm.length]++zCg x.qm++x.conf.enc++yK [u64 x.off]++dat x.data
theorem zLb{es:List EntD}(h:∀ e∈es,e.wf):(zCg (es.map EntD.toEntA)).length≤(es.map fun e=>e.data.length).sum+60*es.length:=by
  induction es with
  |nil=>simp[zCg]
  |cons e es ih=>
    have h1:=EntA.enc_le (h e qQ)
    have h2:=ih fun x hx=>h x (by simp[hx])
    simp only[zCg,List.map_cons,List.flatMap_cons,List.length_append,List.sum_cons,List.length_cons]at *
    omega
theorem MsgD.enc_le{x:MsgD}(h:x.wf):x.a.enc.length≤10000000000∧(zCg (x.qm.map EntD.toEntA)).length≤200000000∧x.conf.enc.length≤90000000:=by
  have h1:=yS (ns:=[u64 x.kind,u64 x.src,u64 x.dst]) (by simp[xR])
  have h2:=yS (ns:=[x.term,x.index,x.ql,x.qc,x.round]) (by have:=h.term;have:=h.index;have:=h.ql;have:=h.qc;have:=h.round;simp[*])
  have h3:=yS (ns:=[fl x.flag]) (by simp[zMY])
  have h4:=yS (ns:=[x.qm.length]) (by have:=h.qm;simp;omega)
  have h5:=yS (ns:=[u64 x.off]) (by simp[xR])
  have h6:=zAE x.data (by have:=h.data;omega)
  have h7:=zLb h.each
  have h8:x.conf.enc.length≤_:=x.conf.enc_le
  have h9:=h.fewer.1
  have h10:=h.fewer.2
  have h11:=h.data
  have h12:=h.qm
  have h13:=h.all
  have e:x.a.enc.length=(yK [u64 x.kind,u64 x.src,u64 x.dst]).length+(yK [x.term,x.index,x.ql,x.qc,x.round]).length+(yK [fl x.flag]).length+(yK [x.qm.length]).length+(zCg (x.qm.map EntD.toEntA)).length+x.conf.enc.length+(yK [u64 x.off]).length+(dat x.data).length:=by
    simp only[MsgA.enc,MsgD.a,ConfD.enc,ConfA.enc,ConfD.a,List.length_append,List.length_map]
  simp only[List.length_cons,List.length_nil]at *
  omega
theorem zBQ(x:MsgD)(w:World)(hx:x.wf)(rd_x:MsgD.rd x w []):Rets Tryz.prog 24 #[.agg (MsgD.cells x).toArray] w fun u_ w'=>∃ (r:Value) (es:List EntD) (a:Value) (b:Value) (c:Value),u_= .agg #[Vi x.kind,Vi x.src,Vi x.dst,Vn x.term,Vn x.index,Vn x.ql,Vn x.qc,Vn x.round, .bool x.flag,r,a,b,Vi x.off,c]∧es.map EntD.toEntA=x.qm.map EntD.toEntA∧Own w [] [Res.vec 81 5 r es.length (es.flatMap EntD.cells),Res.star (es.map EntD.dres),Res.vec 3 1 a x.conf.vs.length (x.conf.vs.flatMap I1),Res.vec 3 1 b x.conf.ls.length (x.conf.ls.flatMap I1),Res.vec 5 1 c x.data.length (x.data.map vb)] w':=by
  have hd:=hx.data
  have hc:=hx.conf.wf
  have he:=hx.qm
  refine zW Tryz.func24 O Tryz.ntmps24 (Own.start w) ?_
  refine zC (z8 O O (fun b1=>yC (v:= .agg #[Vi 0,Vi 0,Vi 0,Vn 0,Vn 0,Vn 0,Vn 0,Vn 0, .bool false, .slice none 0 0, .slice none 0 0, .slice none 0 0,Vi 0, .slice none 0 0]) qN O (fun b2=>zA (zC (zK (o:=9) O O (zM 0 (v:=x.ev) O O O O (a_call O O (fun w' hw=>(zJ3 x.ev x.qm w' V (fun e he=>by have:=(hx.each e he).data;omega) (hw.rd0 rd_x.ev) (fun p hp=>EntD.rd.at0 (rd_x.ev_all p hp) hw)).mono ?_))))))))
  rintro r1_ w1 ⟨_,es2_,rfl,hf1_2,hO⟩
  refine O4 ?_ (hw.qi hO)
  refine zK (o:=9) O O ?_
  refine zN (fun w' hw=>Own.qg (i:=2) O hw) (fun hc1_=> ?_)
  refine zn (cs:=(MsgD.cells x)) 0 O O O hc1_ O (zA (zC (zK (o:=10) O O (zAZ 0 [x.conf.vv,x.conf.lv] O O (kN 10 O) qN O (a_call O O (fun w' hw=>(zEx x.conf w' ‹_› ⟨(hw.rd0 rd_x.conf.vv),(hw.rd0 rd_x.conf.lv)⟩).mono ?_))))))
  rintro _ w1 ⟨a3_,b4_,rfl,hO⟩
  refine O6 ?_ (hw.qi hO)
  refine zK (o:=10) O O ?_
  refine zN (fun w' hw=>Own.qg (i:=4) O hw) (fun hc2_=> ?_)
  refine zN (fun w' hw=>Own.qg (i:=5) O hw) (fun hc3_=> ?_)
  refine zo 0 O O O (zF hc2_ (zF hc3_ zh)) O (zA (zC (zx (e:=5) (sz:=1) (vs:=[]) qN O O qR qM O (fun b11=>zK (o:=13) O O (zM 0 (v:=x.dv) O O O O (zDN (l:=([]:List UInt8)) (l':=x.data) 6 qN O O O (fun w' hw'=>Own.rd rd_x.dv hw') qO O (fun v14=>zK (o:=13) O O ?_)))))))
  refine zN (fun w' hw=>Own.qg (i:=6) O hw) (fun hc4_=> ?_)
  refine zn 0 O O O hc4_ O (zA (zC (yL 0 O O O (zo 1 O O O (zF O (zF O (zF O (zF O (zF O (zF O (zF O (zF O (zF O (zF hc1_ (zF hc2_ (zF hc3_ (zF O (zF hc4_ zh)))))))))))))) O (zA ?_)))))
  exact zU (jp (cs:=[Vi x.kind,Vi x.src,Vi x.dst,Vn x.term,Vn x.index,Vn x.ql,Vn x.qc,Vn x.round, .bool x.flag,r1_,a3_,b4_,Vi x.off,v14]) O O qN (Own.qr (i:=1) O) (fun w' hw=>⟨r1_,es2_,a3_,b4_,v14,O,hf1_2,hw.sel [2,3,4,5,6] O qM⟩))
theorem zGl(n:Int)(w:World):Rets Tryz.prog 125 #[Vi n] w fun u_ w'=>u_= .bool (decide (1≤n∧n≤16))∧Own w [] [] w':=by
  refine zW Tryz.func125 O Tryz.ntmps125 (Own.start w) ?_
  refine zC (zI O (zA (zC (zD O (kK O O O (zD O (yJ (q:=1≤n) 2 2 [7,6] (n≤16) O O O O O O trivial O (fun h1_2=> ?_) (fun g1_5=> ?_))))))))
  ·refine zR O (gT h1_2) (zD O (zR O (gT h1_2) (x6 O O O ?_)))
   exact yN O (fun _ hw=>hw)
  refine zI O (zA ?_)
  exact zU (z9 (v:= .bool (decide ((1≤n)∧(n≤16)))) O O (fun w' hw=>⟨O,hw.drop⟩))
theorem zMh(x:EntD)(eb:Nat)(w:World)(hx:x.wf)(heb:Rd w [] (Res.row eb 218 [.func (.func 166) #[] #[], .func (.func 167) #[] #[], .func (.func 168) #[] #[]]))(rd_x:EntD.rd x w []):Rets Tryz.prog 128 #[.agg (EntD.cells x).toArray, .pointer (some ⟨eb,0,none⟩)] w fun u_ w'=>u_= .bool (decide (¬ x.ok))∧Own w [] [] w':=by
  refine zW Tryz.func128 O Tryz.ntmps128 (Own.start w) ?_
  refine zC (z8 O O (fun b2=>zI O (zA (zC (zK (o:=0) O O (kQ (v:= .func (.func 166) #[] #[]) O (heb.φ.cell O) (heb.far _ qW) qN O (yL (cs:=(EntD.cells x)) 0 O O O (yV (fst:=[]) (cap:=[]) O qN O O (fun w' hw=>(zD4 x w' ‹_› (rd_x.at0 hw)).mono ?_)))))))))
  rintro _ w1 ⟨rfl,hO⟩
  refine O1 ?_ (hw.qi hO)
  refine xB (q:=x.ok) O O (zI O (zA ?_))
  exact zU (z9 (v:= .bool (decide (¬ x.ok))) O O (fun w' hw=>⟨O,hw.drop⟩))
theorem zMQ(v:Value)(l:List EntD)(eb:Nat)(w:World)(hl:zi l.length)(hx:∀ e∈l,e.wf)(heb:Rd w [] (Res.row eb 218 [.func (.func 166) #[] #[], .func (.func 167) #[] #[], .func (.func 168) #[] #[]]))(hv:Rd w [] (Res.sl v l.length (l.flatMap EntD.cells)))(all_hv:∀ p∈l,EntD.rd p w []):Rets Tryz.prog 169 #[v, .func (.func 128) #[] #[.pointer (some ⟨eb,0,none⟩)]] w fun u_ w'=>∃ (i:Int),u_=Vi i∧(0≤i↔∃ q∈l,¬ q.ok)∧Own w [] [] w':=by
  refine zW Tryz.func169 O Tryz.ntmps169 (Own.start w) ?_
  refine zC (zI O (zA (zP (zC (zD O (zp (pR hv) O O (zD O (zA (zZ ?_)))))))))
  refine xT (fun(k:Nat)=>[(0,v),(1, .func (.func 128) #[] #[.pointer (some ⟨eb,0,none⟩)]),(7,Vj l.length),(8,Vj k)]) (fun(k:Nat)=>k≤l.length∧∀ e∈l.take k,e.ok) (fun(k:Nat)=>[]) (fun(k:Nat)=>l.length - k) (fun w' hw=>⟨0,⟨O,O,O,O,trivial⟩,⟨Nat.zero_le _,by simp⟩,hw⟩) (fun k g hΦ=> ?_)
  refine zC (yI O O O (zA (zP (za O (fun c1=> ?_) (fun c1=> ?_)))))
  ·refine zQ (zP (zZ (zC (zD O (zI O (zA (zC (zD O (zD O (zD O (zk (pR hv) 5 k O O O V O (kP (pR hv) 5 k (off:=xH v+k*5) (fun _=>O) O O V O ?_))))))))))))
   refine yV (fst:=[]) (cap:=[.pointer (some ⟨eb,0,none⟩)]) O qN O O (fun w' hw=>(zMh (zG l k) eb w' (hx _ (zd V)) (hw.rd0 heb) ((all_hv _ (zd V)).at0 hw)).mono ?_)
   rintro _ w1 ⟨rfl,hO⟩
   refine O0 ?_ (hw.qi hO)
   refine zA (za O (fun c2=> ?_) (fun c2=> ?_))
   ·refine zC (zD O (zI O (zA ?_)))
    exact zU (z9 (v:=Vj k) O O (fun w' hw=>⟨k,O,⟨fun _=>⟨_,zd V,c2⟩,fun _=>by omega⟩,hw.drop⟩))
   refine zQ (zV (zt O O (zr V) O (zD O ?_)))
   exact zg (fun w' hw=>⟨k+1,⟨O,O,O,O,trivial⟩,⟨by omega,by rw[zu V];intro v hv;rcases List.mem_append.1 hv with h|h;exact hΦ.2 v h;simp at h;rw[h];exact Decidable.not_not.1 c2⟩,hw,V⟩)
  refine yF O (zC (zI O (zA ?_)))
  exact zU (z9 (v:=Vi (-1)) O O (fun w' hw=>⟨-1,O,⟨fun h=>by omega,fun⟨v,h,h'⟩=>by have h2:=hΦ.2;rw[List.take_of_length_le V]at h2;exact absurd (h2 v h) h'⟩,hw.drop⟩))
theorem zKm(v:Value)(l:List EntD)(eb:Nat)(w:World)(hl:zi l.length)(hx:∀ e∈l,e.wf)(heb:Rd w [] (Res.row eb 218 [.func (.func 166) #[] #[], .func (.func 167) #[] #[], .func (.func 168) #[] #[]]))(hv:Rd w [] (Res.sl v l.length (l.flatMap EntD.cells)))(all_hv:∀ p∈l,EntD.rd p w []):Rets Tryz.prog 127 #[v, .func (.func 128) #[] #[.pointer (some ⟨eb,0,none⟩)]] w fun u_ w'=>u_= .bool (decide (∃ q∈l,¬ q.ok))∧Own w [] [] w':=by
  refine zW Tryz.func127 O Tryz.ntmps127 (Own.start w) ?_
  refine zC (zI O (zA (zC (zD O (zD O (a_call O O (fun w' hw=>(zMQ v l eb w' ‹_› ‹_› (hw.rd0 heb) (hw.rd0 hv) (fun p hp=>EntD.rd.at0 (all_hv p hp) hw)).mono ?_)))))))
  rintro _ w1 ⟨i1_,rfl,hf1_2,hO⟩
  refine O0 ?_ (hw.qi hO)
  refine kK O O O (zI O (zA ?_))
  exact zU (z9 (v:= .bool (decide (0≤i1_))) O O (fun w' hw=>⟨(by congr 1;exact decide_eq_decide.2 V),hw.drop⟩))
theorem zHi(x:MsgD)(nb:Nat)(cb:Nat)(eb:Nat)(w:World)(hx:x.wf)(hnb:Rd w [] (Res.row nb 172 [.func (.func 125) #[] #[]]))(hcb:Rd w [] (Res.row cb 193 [.func (.func 147) #[] #[], .func (.func 151) #[] #[], .func (.func 153) #[] #[]]))(heb:Rd w [] (Res.row eb 218 [.func (.func 166) #[] #[], .func (.func 167) #[] #[], .func (.func 168) #[] #[]]))(rd_x:MsgD.rd x w []):Rets Tryz.prog 126 #[.agg (MsgD.cells x).toArray, .pointer (some ⟨nb,0,none⟩), .pointer (some ⟨cb,0,none⟩), .pointer (some ⟨eb,0,none⟩)] w fun u_ w'=>u_= .bool (decide x.a.ok)∧Own w [] [] w':=by
  have hd:=hx.data
  have hf:=hx.conf
  have hc:=hx.conf.wf
  have hv:=hc.vs
  have hl:=hc.ls
  have he:=hx.qm
  refine zW Tryz.func126 O Tryz.ntmps126 (Own.start w) ?_
  refine zC (z8 O O (fun b4=>zI O (zA (zP (zC (zK (o:=0) O O (zM 0 (v:=Vi x.kind) O O O O (yI O O O (zD O (yj (q:=x.kind<1) 3 3 [12,11,10] (9<x.kind) O O O O O O trivial O (fun h1_3=> ?_) (fun g1_7=> ?_)))))))))))
  ·refine zR O (gF h1_3) (zK (o:=0) O O (zR O (gF h1_3) (zM 0 (v:=Vi x.kind) O O O O (zR O (gF h1_3) (yx O O O ?_)))))
   exact yN O (fun _ hw=>hw)
  refine zD O (yj (q:=(x.kind<1)∨(9<x.kind)) 5 8 [19,18,17,16,15] (¬(1≤x.src∧x.src≤16)) O O O O O O trivial O (fun h1_8=> ?_) (fun g1_14=> ?_))
  ·refine zR O (gF h1_8) (kQ (v:= .func (.func 125) #[] #[]) O (hnb.φ.cell O) (hnb.far _ qW) qN O (zR O (gF h1_8) (zK (o:=1) O O (zR O (gF h1_8) (zM 0 (v:=Vi x.src) O O O O (zR O (gF h1_8) (yV (fst:=[]) (cap:=[]) O qN O O (fun w' hw=>(zGl x.src w').mono ?_))))))))
   rintro _ w1 ⟨rfl,hO⟩
   refine O1 ?_ (hw.qi hO)
   refine zR O (gF h1_8) (xB (q:=1≤x.src∧x.src≤16) O O ?_)
   exact yN O (fun _ hw=>hw)
  refine zD O (yj (q:=((x.kind<1)∨(9<x.kind))∨(¬(1≤x.src∧x.src≤16))) 5 15 [26,25,24,23,22] (¬(1≤x.dst∧x.dst≤16)) O O O O O O trivial O (fun h1_15=> ?_) (fun g1_21=> ?_))
  ·refine zR O (gF h1_15) (kQ (v:= .func (.func 125) #[] #[]) O (hnb.φ.cell O) (hnb.far _ qW) qN O (zR O (gF h1_15) (zK (o:=2) O O (zR O (gF h1_15) (zM 0 (v:=Vi x.dst) O O O O (zR O (gF h1_15) (yV (fst:=[]) (cap:=[]) O qN O O (fun w' hw=>(zGl x.dst w').mono ?_))))))))
   rintro _ w1 ⟨rfl,hO⟩
   refine O1 ?_ (hw.qi hO)
   refine zR O (gF h1_15) (xB (q:=1≤x.dst∧x.dst≤16) O O ?_)
   exact yN O (fun _ hw=>hw)
  refine zD O (yj (q:=(((x.kind<1)∨(9<x.kind))∨(¬(1≤x.src∧x.src≤16)))∨(¬(1≤x.dst∧x.dst≤16))) 3 22 [31,30,29] (x.off<0) O O O O O O trivial O (fun h1_22=> ?_) (fun g1_26=> ?_))
  ·refine zR O (gF h1_22) (zK (o:=12) O O (zR O (gF h1_22) (zM 0 (v:=Vi x.off) O O O O (zR O (gF h1_22) (yI O O O ?_)))))
   exact yN O (fun _ hw=>hw)
  refine zD O (yj (q:=((((x.kind<1)∨(9<x.kind))∨(¬(1≤x.src∧x.src≤16)))∨(¬(1≤x.dst∧x.dst≤16)))∨(x.off<0)) 3 27 [36,35,34] (65536<x.off) O O O O O O trivial O (fun h1_27=> ?_) (fun g1_31=> ?_))
  ·refine zR O (gF h1_27) (zK (o:=12) O O (zR O (gF h1_27) (zM 0 (v:=Vi x.off) O O O O (zR O (gF h1_27) (yx O O O ?_)))))
   exact yN O (fun _ hw=>hw)
  refine zD O (yj (q:=(((((x.kind<1)∨(9<x.kind))∨(¬(1≤x.src∧x.src≤16)))∨(¬(1≤x.dst∧x.dst≤16)))∨(x.off<0))∨(65536<x.off)) 4 32 [42,41,40,39] (256<((x.data.length:Nat):Int)) O O O O O O trivial O (fun h1_32=> ?_) (fun g1_37=> ?_))
  ·refine zR O (gF h1_32) (zK (o:=13) O O (zR O (gF h1_32) (zM 0 (v:=x.dv) O O O O (zR O (gF h1_32) (zp (pR rd_x.dv) O O (zR O (gF h1_32) (yx O O O ?_)))))))
   exact yN O (fun _ hw=>hw)
  refine zD O (yj (q:=((((((x.kind<1)∨(9<x.kind))∨(¬(1≤x.src∧x.src≤16)))∨(¬(1≤x.dst∧x.dst≤16)))∨(x.off<0))∨(65536<x.off))∨(256<((x.data.length:Nat):Int))) 4 38 [48,47,46,45] (8<((x.qm.length:Nat):Int)) O O O O O O trivial O (fun h1_38=> ?_) (fun g1_43=> ?_))
  ·refine zR O (gF h1_38) (zK (o:=9) O O (zR O (gF h1_38) (zM 0 (v:=x.ev) O O O O (zR O (gF h1_38) (zp (pR rd_x.ev) O O (zR O (gF h1_38) (yx O O O ?_)))))))
   exact yN O (fun _ hw=>hw)
  refine zA (za O (fun c1=> ?_) (fun c1=> ?_))
  ·refine zC (zI O (zA ?_))
   exact zU (z9 (v:= .bool false) O O (fun w' hw=>⟨(by rw[decide_eq_false];intro h;have h:=(MsgD.head_iff.1 (MsgD.ok_iff.1 h).1).1;omega),hw.drop⟩))
  refine zQ (zP (zC (zK (o:=0) O O (zM 0 (v:=Vi x.kind) O O O O (yR O O O (zD O (yJ (q:=x.kind=7) 6 3 [59,58,57,56,55,54] (¬ x.conf.ok) O O O O O O trivial O (fun h3_3=> ?_) (fun g3_10=> ?_))))))))
  ·refine zR O (gT h3_3) (zK (o:=0) O O (zR O (gT h3_3) (kQ (v:= .func (.func 147) #[] #[]) O (hcb.φ.cell O) (hcb.far _ qW) qN O (zR O (gT h3_3) (zK (o:=10) O O (zR O (gT h3_3) (zAZ 0 (ConfD.cells x.conf) O O (kN 10 O) qN O (zR O (gT h3_3) (yV (fst:=[]) (cap:=[]) O qN O O (fun w' hw=>(kT x.conf w' ‹_› (rd_x.conf.at0 hw)).mono ?_))))))))))
   rintro _ w1 ⟨rfl,hO⟩
   refine O1 ?_ (hw.qi hO)
   refine zR O (gT h3_3) (xB (q:=x.conf.ok) O O ?_)
   exact yN O (fun _ hw=>hw)
  refine zD O (yj (q:=(x.kind=7)∧(¬ x.conf.ok)) 15 11 [76,75,74,73,72,71,70,69,68,67,66,65,64,63,62] ((x.kind≠7)∧(0<((x.conf.vs.length+x.conf.ls.length:Nat):Int))) O O O O O O trivial O (fun h3_11=> ?_) (fun g3_27=> ?_))
  ·refine zR O (gF h3_11) (zK (o:=0) O O (zR O (gF h3_11) (zM 0 (v:=Vi x.kind) O O O O (zR O (gF h3_11) (xn O O O (zR O (gF h3_11) (zD O (yJ (q:=x.kind≠7) 10 15 [75,74,73,72,71,70,69,68,67,66] (0<((x.conf.vs.length+x.conf.ls.length:Nat):Int)) O O O O O O ⟨_,O,O,gF h3_11⟩ O (fun h3_15=> ?_) (fun g3_26=> ?_)))))))))
   ·refine zR O (gT h3_15) (zK (o:=10) O O (zR O (gT h3_15) (zK (o:=0) O O (zR O (gT h3_15) (zM 0 (v:=x.conf.vv) O O O O (zR O (gT h3_15) (zp (pR rd_x.conf.vv) O O (zR O (gT h3_15) (zK (o:=10) O O (zR O (gT h3_15) (zK (o:=1) O O (zR O (gT h3_15) ?_))))))))))))
    refine zM 0 (v:=x.conf.lv) O O O O (zR O (gT h3_15) (zp (pR rd_x.conf.lv) O O (zR O (gT h3_15) (zt O O (zr V) O (zR O (gT h3_15) (yx O O O ?_))))))
    exact yN O (fun _ hw=>hw)
   exact yN O (fun _ hw=>hw)
  refine zA (za O (fun c2=> ?_) (fun c2=> ?_))
  ·refine zC (zI O (zA ?_))
   exact zU (z9 (v:= .bool false) O O (fun w' hw=>⟨(by rw[decide_eq_false];intro h;have h2:=(MsgD.head_iff.1 (MsgD.ok_iff.1 h).1).2;rcases c2 with⟨e,h'⟩|⟨e,h'⟩;(rw[if_pos e]at h2;exact h' h2);(rw[if_neg e]at h2;omega)),hw.drop⟩))
  refine zQ (zC (zK (o:=9) O O (zM 0 (v:=x.ev) O O O O (zBX (va:=[]) (vb:=[.pointer (some ⟨eb,0,none⟩)]) O O O (a_call O O (fun w' hw=>(zKm x.ev x.qm eb w' qP hx.each (hw.rd0 heb) (hw.rd0 rd_x.ev) (fun p hp=>EntD.rd.at0 (rd_x.ev_all p hp) hw)).mono ?_))))))
  rintro _ w1 ⟨rfl,hO⟩
  refine O1 ?_ (hw.qi hO)
  refine xB (q:=∃ q∈x.qm,¬ q.ok) O O (zI O (zA ?_))
  exact zU (z9 (v:= .bool (decide (¬(∃ q∈x.qm,¬ q.ok)))) O O (fun w' hw=>⟨(by congr 1;exact decide_eq_decide.2 (by rw[MsgD.ok_iff];exact⟨fun h=>⟨MsgD.head_iff.2 ⟨by omega,by split;(rename_i e;exact Decidable.not_not.1 fun q=>c2 (.inl ⟨e,q⟩));(rename_i e;have:=fun q=>c2 (.inr ⟨e,q⟩);omega)⟩,fun e he=>Decidable.not_not.1 fun q=>h ⟨e,he,q⟩⟩,fun h ⟨e,he,q⟩=>q (h.2 e he)⟩)),hw.drop⟩))
def jN(es:List EntD):List UInt8:=es.flatMap fun e=>e.enc
theorem zGE(es:List EntD):jN es=zCg (es.map EntD.toEntA):=by simp only[jN,zCg,List.flatMap_map]
def MsgD.headB(x:MsgD):List UInt8:=yK ([x.kind,x.src,x.dst].map u64)++yK [x.term,x.index,x.ql,x.qc,x.round]++yK ([x.flag].map fl)++yK ([(x.qm.length:Int)].map u64)
theorem zIk{n:Nat}(h:n<18446744073709551616):u64 (n:Int)=n:=by unfold u64;omega
theorem MsgD.enc_eq{x:MsgD}(h:x.wf):x.a.enc=x.headB++jN x.qm++x.conf.enc++yK ([x.off].map u64)++dat x.data:=by
  have he:=h.qm
  simp only[MsgA.enc,MsgD.a,MsgD.headB,zGE,ConfD.enc,ConfA.enc,ConfD.a,List.length_map,List.map_cons,List.map_nil,zIk (show x.qm.length<18446744073709551616 by omega)]
theorem MsgD.headB_le{x:MsgD}(h:x.wf):x.headB.length≤200:=by
  have h1:=yS (ns:=[u64 x.kind,u64 x.src,u64 x.dst]) (by simp[xR])
  have h2:=yS (ns:=[x.term,x.index,x.ql,x.qc,x.round]) (by have:=h.term;have:=h.index;have:=h.ql;have:=h.qc;have:=h.round;simp[*])
  have h3:=yS (ns:=[fl x.flag]) (by simp[zMY])
  have h4:=yS (ns:=[u64 (x.qm.length:Int)]) (by simp[xR])
  simp only[MsgD.headB,List.map_cons,List.map_nil,List.length_append,List.length_cons,List.length_nil]at *
  omega
theorem zGr{S:List Nat}(o:Nat)(sl:Value)(bs:List UInt8)(x:MsgD)(eb:Nat)(cb:Nat)(w:World)(hx:x.wf)(hb:bs.length≤1000000000)(hin:Own w S [Res.bv o xP sl bs] w)(heb:Rd w S (Res.row eb 218 [.func (.func 166) #[] #[], .func (.func 167) #[] #[], .func (.func 168) #[] #[]]))(hcb:Rd w S (Res.row cb 193 [.func (.func 147) #[] #[], .func (.func 151) #[] #[], .func (.func 153) #[] #[]]))(rd_x:MsgD.rd x w S):Rets Tryz.prog 129 #[.pointer (some ⟨o,0,none⟩), .agg (MsgD.cells x).toArray, .pointer (some ⟨eb,0,none⟩), .pointer (some ⟨cb,0,none⟩)] w fun u_ w'=>∃ (sl':Value),u_= .tuple #[]∧Own w S [Res.bv o xP sl' (bs++x.a.enc)] w':=by
  have hd:=hx.data
  have hf:=hx.conf
  have hc:=hx.conf.wf
  have he:=hx.qm
  have hle0:=x.enc_le hx
  have hle5:=hle0.2.2
  have hf1:=hf.vs
  have hf2:=hf.ls
  have hdl:=zAE x.data V
  have hol:=yS (ns:=[u64 x.off]) (by simp[xR])
  simp only[List.length_cons,List.length_nil]at hol
  have hh:=MsgD.headB_le hx
  have hh2:x.headB.length=(yK [u64 x.kind,u64 x.src,u64 x.dst]).length+(yK [x.term,x.index,x.ql,x.qc,x.round]).length+(yK [fl x.flag]).length+(yK [u64 (x.qm.length:Int)]).length:=by simp[MsgD.headB];omega
  refine zW Tryz.func129 O Tryz.ntmps129 hin ?_
  refine zC (z8 O O (fun b5=>zA (zC (zD O (zK (o:=0) O O (zM 1 (v:=Vi x.kind) O O O O (zK (o:=1) O O (zM 1 (v:=Vi x.src) O O O O (zK (o:=2) O O (zM 1 (v:=Vi x.dst) O O O O (zx (e:=3) (sz:=1) (vs:=[Vi x.kind,Vi x.src,Vi x.dst]) qN O O qR qM O (fun b15=>a_call O O (fun w' hw=> ?_)))))))))))))
  refine(zC9 o _ _ (.slice (some ⟨b15,0,none⟩) 3 3) [x.kind,x.src,x.dst] w' qS (hw.give [0] O qM) (hw.rdVec 2 O [0] O O)).mono ?_
  rintro _ w1 ⟨sl'1_,rfl,hO⟩
  refine O3 ?_ (hw.qh [0] O hO)
  refine zA (zC (zD O (zK (o:=3) O O (zM 0 (v:=Vn x.term) O O O O (zK (o:=4) O O (zM 0 (v:=Vn x.index) O O O O (zK (o:=5) O O (zM 0 (v:=Vn x.ql) O O O O (zK (o:=6) O O (zM 0 (v:=Vn x.qc) O O O O (zK (o:=7) O O (zM 0 (v:=Vn x.round) O O O O ?_))))))))))))
  refine zx (e:=22) (sz:=1) (vs:=[Vn x.term,Vn x.index,Vn x.ql,Vn x.qc,Vn x.round]) qN O O qR qM O (fun b28=>a_call O O (fun w' hw=>(zBB o sl'1_ (bs++yK ([x.kind,x.src,x.dst].map u64)) (.slice (some ⟨b28,0,none⟩) 5 5) [x.term,x.index,x.ql,x.qc,x.round] w' (by have:=hx.term;have:=hx.index;have:=hx.ql;have:=hx.qc;have:=hx.round;simp[*]) qS (hw.give [2] O qM) (hw.rdVec 3 O [2] O O)).mono ?_))
  rintro _ w1 ⟨sl'2_,rfl,hO⟩
  refine O4 ?_ (hw.qh [2] O hO)
  refine zA (zC (zD O (zK (o:=8) O O (zM 0 (v:= .bool x.flag) O O O O (zx (e:=4) (sz:=1) (vs:=[.bool x.flag]) qN O O qR qM O (fun b33=>a_call O O (fun w' hw=>(zNs o sl'2_ ((bs++yK ([x.kind,x.src,x.dst].map u64))++yK [x.term,x.index,x.ql,x.qc,x.round]) (.slice (some ⟨b33,0,none⟩) 1 1) [x.flag] w' qS (hw.give [3] O qM) (hw.rdVec 4 O [3] O O)).mono ?_)))))))
  rintro _ w1 ⟨sl'3_,rfl,hO⟩
  refine O5 ?_ (hw.qh [3] O hO)
  refine zA (zC (zD O (zK (o:=9) O O (zM 0 (v:=x.ev) O O O O (zp (pR rd_x.ev) O O (zx (e:=3) (sz:=1) (vs:=[Vj x.qm.length]) qN O O qR qM O (fun b39=>a_call O O (fun w' hw=>(zC9 o sl'3_ (((bs++yK ([x.kind,x.src,x.dst].map u64))++yK [x.term,x.index,x.ql,x.qc,x.round])++yK ([x.flag].map fl)) (.slice (some ⟨b39,0,none⟩) 1 1) [((x.qm.length:Nat):Int)] w' qS (hw.give [4] O qM) (hw.rdVec 5 O [4] O O)).mono ?_))))))))
  rintro _ w1 ⟨sl'4_,rfl,hO⟩
  refine(?_:CL _ _ _ _ _ _ (Own w S [Res.row b5 59 (MsgD.cells x),Res.vec 3 1 (.slice (some ⟨b15,0,none⟩) 3 3) [x.kind,x.src,x.dst].length ([x.kind,x.src,x.dst].flatMap I1),Res.vec 22 1 (.slice (some ⟨b28,0,none⟩) 5 5) [x.term,x.index,x.ql,x.qc,x.round].length ([x.term,x.index,x.ql,x.qc,x.round].flatMap U1),Res.vec 4 1 (.slice (some ⟨b33,0,none⟩) 1 1) [x.flag].length ([x.flag].flatMap B1),Res.vec 3 1 (.slice (some ⟨b39,0,none⟩) 1 1) [((x.qm.length:Nat):Int)].length ([((x.qm.length:Nat):Int)].flatMap I1),Res.bv o xP sl'4_ ((((bs++yK ([x.kind,x.src,x.dst].map u64))++yK [x.term,x.index,x.ql,x.qc,x.round])++yK ([x.flag].map fl))++yK ([((x.qm.length:Nat):Int)].map u64))])) w1 (hw.qh [4] O hO)
  refine zA (zP (zC (zK (o:=9) O O (zM 0 (v:=x.ev) O O O O (zp (pR rd_x.ev) O O (zD O (zA (zZ ?_))))))))
  refine y7 (fun(k:Nat) (s:Value)=>[(0, .pointer (some ⟨o,0,none⟩)),(2, .pointer (some ⟨eb,0,none⟩)),(3, .pointer (some ⟨cb,0,none⟩)),(5, .pointer (some ⟨b5,0,none⟩)),(42,x.ev),(43,Vj x.qm.length),(44,Vj k)]) (fun(k:Nat) (s:Value)=>k≤x.qm.length) (fun(k:Nat) (s:Value)=>[Res.row b5 59 (MsgD.cells x),Res.bv o xP s (bs++x.headB++jN (x.qm.take k))]) (fun(k:Nat) (s:Value)=>x.qm.length - k) (fun w' hw=>⟨0,sl'4_,⟨O,O,O,O,O,O,O,trivial⟩,Nat.zero_le _,by have h:=hw.sel [0,5] rfl qM;simpa [MsgD.headB,jN]using h⟩) (fun k s g hΦ=> ?_)
  have hle:=xk (fun e:EntD=>e.enc) x.qm (k+1)
  have hle2:(jN (x.qm.take k)).length≤(jN x.qm).length:=xk (fun e:EntD=>e.enc) x.qm k
  have hle3:(jN x.qm).length≤200000000:=by rw[zGE];exact hle0.2.1
  refine zC (yI O O O (zA (zP (za O (fun c1=> ?_) (fun c1=> ?_)))))
  ·have hew:=hx.each _ (zd (l:=x.qm) (j:=k) V)
   rw[zu V,List.flatMap_append]at hle
   simp only[List.length_append,List.flatMap_cons,List.flatMap_nil,List.append_nil]at hle
   have hcl:(jN (x.qm.take k)).length+(zG x.qm k).enc.length≤(jN x.qm).length:=hle
   refine zQ (zP (zZ (zC (zk (pR rd_x.ev) 5 k O O O V O (kP (pR rd_x.ev) 5 k (off:=xH x.ev+k*5) (fun _=>O) O O V O (yC (v:= .agg #[Vn 0,Vn 0,Vi 0,Vi 0, .slice none 0 0]) qN O (fun b7=>zo 2 O O O (zF O (zF O (zF O (zF O (zF (Sl.cell1 (Rd.φ ((rd_x.ev_all _ (zd V)).dv))) zh))))) O (zA (zV (zK (o:=1) O O (kQ (v:= .func (.func 167) #[] #[]) O (heb.φ.cell O) (heb.far _ qW) qN O (zD O ?_))))))))))))
   refine yL (cs:=(EntD.cells (zG x.qm k))) 2 O O O (yV (fst:=[]) (cap:=[]) O qN O O (fun w' hw=>(zDn o s (bs++x.headB++jN (x.qm.take k)) (zG x.qm k) w' ‹_› qS (hw.give [1] O qM) ((rd_x.ev_all _ (zd V)).at hw [1] O)).mono ?_))
   rintro _ w1 ⟨sl'5_,rfl,hO⟩
   refine O3 ?_ (hw.qh [1] O hO)
   refine zA (zV (zt O O (zr V) O (zD O ?_)))
   exact zg (fun w' hw=>⟨k+1,sl'5_,⟨O,O,O,O,O,O,O,trivial⟩,V,by rw[zu V];have h:=hw.sel [0,2] rfl qM;simpa [jN]using h,V⟩)
  refine yF O (zC (zK (o:=1) O O (kQ (v:= .func (.func 151) #[] #[]) O (hcb.φ.cell O) (hcb.far _ qW) qN O (zD O (zK (o:=10) O O (zAZ 0 (ConfD.cells x.conf) O O (kN 10 O) qN O (yV (fst:=[]) (cap:=[]) O qN O O (fun w' hw=>(zAW o s (bs++x.headB++jN (x.qm.take k)) x.conf w' qS (hw.give [1] O qM) (rd_x.conf.at hw [1] O)).mono ?_))))))))
  rintro _ w1 ⟨sl'6_,rfl,hO⟩
  refine O2 ?_ (hw.qh [1] O hO)
  refine zA (zC (zD O (zK (o:=12) O O (zM 0 (v:=Vi x.off) O O O O (zx (e:=3) (sz:=1) (vs:=[Vi x.off]) qN O O qR qM O (fun b63=>a_call O O (fun w' hw=>(zC9 o sl'6_ ((bs++x.headB++jN (x.qm.take k))++x.conf.enc) (.slice (some ⟨b63,0,none⟩) 1 1) [x.off] w' qS (hw.give [1] O qM) (hw.rdVec 2 O [1] O O)).mono ?_)))))))
  rintro _ w1 ⟨sl'7_,rfl,hO⟩
  refine O3 ?_ (hw.qh [1] O hO)
  refine zA (zV (zD O (zK (o:=13) O O (zM 0 (v:=x.dv) O O O O (zE5 (e:=36) (vs:=[x.dv]) qN O O (zF (Sl.cell1 (Rd.φ rd_x.dv)) zh) qM O (fun b68=>a_call O O (fun w' hw=>(zHA o sl'7_ (((bs++x.headB++jN (x.qm.take k))++x.conf.enc)++yK ([x.off].map u64)) (.slice (some ⟨b68,0,none⟩) 1 1) [(x.dv,x.data)] w' (by simp[kJ];omega) (by show 1≤_;omega) (hw.give [2] O qM) (hw.rdVec 3 O [2] O O) (all_cons (hw.rdTo rd_x.dv [2] O) (fun p hp=>by cases hp))).mono ?_)))))))
  rintro _ w1 ⟨sl'8_,rfl,hO⟩
  refine O4 ?_ (hw.qh [2] O hO)
  exact zg (yQ O (fun w' hw=>⟨sl'8_,O,by have h:=hw.one 3 rfl;rw[List.take_of_length_le V]at h;rw[x.enc_eq hx];simpa [kJ]using h⟩))
theorem zOp(w:World):Rets Tryz.prog 81 #[] w fun u_ w'=>∃ (nb:Nat) (cb:Nat) (eb:Nat),u_= .agg #[.func (.func 126) #[] #[.pointer (some ⟨nb,0,none⟩), .pointer (some ⟨cb,0,none⟩), .pointer (some ⟨eb,0,none⟩)], .func (.func 129) #[] #[.pointer (some ⟨eb,0,none⟩), .pointer (some ⟨cb,0,none⟩)], .func (.func 132) #[] #[.pointer (some ⟨eb,0,none⟩), .pointer (some ⟨cb,0,none⟩)]]∧Own w [] [Res.row nb 172 [.func (.func 125) #[] #[]],Res.row cb 193 [.func (.func 147) #[] #[], .func (.func 151) #[] #[], .func (.func 153) #[] #[]],Res.row eb 218 [.func (.func 166) #[] #[], .func (.func 167) #[] #[], .func (.func 168) #[] #[]]] w':=by
  refine zW Tryz.func81 O Tryz.ntmps81 (Own.start w) ?_
  refine zC (yC (v:= .agg #[.nilFunc, .nilFunc, .nilFunc]) qN O (fun b0=>zA (zC (a_call O O (fun w' hw=>(zCw w').mono ?_)))))
  rintro _ w1 ⟨rfl,hO⟩
  refine O1 ?_ (hw.qi hO)
  refine a_call O O (fun w' hw=>(zEu w').mono ?_)
  rintro _ w1 ⟨rfl,hO⟩
  refine O1 ?_ (hw.qi hO)
  refine yC (v:= .agg #[.nilFunc, .nilFunc, .nilFunc]) qN O (fun b1=>yC (v:= .agg #[.nilFunc, .nilFunc, .nilFunc]) qN O (fun b2=>zo 1 O O O (xO O) O (zo 2 O O O (xO O) O (zA (zC (yC (v:= .nilFunc) qN O (fun b3=>zn (cs:=[.nilFunc]) 3 O O O O O (zA (zC (zBX (va:=[]) (vb:=[.pointer (some ⟨b3,0,none⟩), .pointer (some ⟨b1,0,none⟩), .pointer (some ⟨b2,0,none⟩)]) O O O (zBX (va:=[]) (vb:=[.pointer (some ⟨b2,0,none⟩), .pointer (some ⟨b1,0,none⟩)]) O O O (zBX (va:=[]) (vb:=[.pointer (some ⟨b2,0,none⟩), .pointer (some ⟨b1,0,none⟩)]) O O O ?_))))))))))))
  refine yh (cs:=[.func (.func 126) #[] #[.pointer (some ⟨b3,0,none⟩), .pointer (some ⟨b1,0,none⟩), .pointer (some ⟨b2,0,none⟩)], .func (.func 129) #[] #[.pointer (some ⟨b2,0,none⟩), .pointer (some ⟨b1,0,none⟩)], .func (.func 132) #[] #[.pointer (some ⟨b2,0,none⟩), .pointer (some ⟨b1,0,none⟩)]]) (z:=[.nilFunc, .nilFunc, .nilFunc]) (pl:=[(0,1),(1,1),(2,1)]) qN qN O (zo 0 O O O (xO O) O (zA ?_))
  exact zU (jp (cs:=[.func (.func 126) #[] #[.pointer (some ⟨b3,0,none⟩), .pointer (some ⟨b1,0,none⟩), .pointer (some ⟨b2,0,none⟩)], .func (.func 129) #[] #[.pointer (some ⟨b2,0,none⟩), .pointer (some ⟨b1,0,none⟩)], .func (.func 132) #[] #[.pointer (some ⟨b2,0,none⟩), .pointer (some ⟨b1,0,none⟩)]]) O O qN (Own.qr (i:=0) O) (fun w' hw=>⟨b3,b1,b2,O,hw.sel [3,1,2] O qM⟩))
theorem zHj(x:MsgD)(nb:Nat)(cb:Nat)(eb:Nat)(w:World)(hx:x.wf)(hnb:Rd w [] (Res.row nb 172 [.func (.func 125) #[] #[]]))(hcb:Rd w [] (Res.row cb 193 [.func (.func 147) #[] #[], .func (.func 151) #[] #[], .func (.func 153) #[] #[]]))(heb:Rd w [] (Res.row eb 218 [.func (.func 166) #[] #[], .func (.func 167) #[] #[], .func (.func 168) #[] #[]]))(rd_x:MsgD.rd x w []):Rets Tryz.prog 82 #[.agg #[.func (.func 126) #[] #[.pointer (some ⟨nb,0,none⟩), .pointer (some ⟨cb,0,none⟩), .pointer (some ⟨eb,0,none⟩)], .func (.func 129) #[] #[.pointer (some ⟨eb,0,none⟩), .pointer (some ⟨cb,0,none⟩)], .func (.func 132) #[] #[.pointer (some ⟨eb,0,none⟩), .pointer (some ⟨cb,0,none⟩)]], .agg (MsgD.cells x).toArray] w fun u_ w'=>∃ (r:Value),u_= .tuple #[r,Vi (yE x.a.ok)]∧Own w [] [Res.vec 5 1 r (if x.a.ok then x.a.enc else []).length ((if x.a.ok then x.a.enc else []).map vb)] w':=by
  refine zW Tryz.func82 O Tryz.ntmps82 (Own.start w) ?_
  refine zC (z8 O O (fun b2=>z8 O O (fun b3=>zI O (zI O (zA (zP (zC (zK (o:=0) O O (zM 0 (v:= .func (.func 126) #[] #[.pointer (some ⟨nb,0,none⟩), .pointer (some ⟨cb,0,none⟩), .pointer (some ⟨eb,0,none⟩)]) O O O O (yL (cs:=(MsgD.cells x)) 1 O O O (yV (fst:=[]) (cap:=[.pointer (some ⟨nb,0,none⟩), .pointer (some ⟨cb,0,none⟩), .pointer (some ⟨eb,0,none⟩)]) O qN O O (fun w' hw=>(zHi x nb cb eb w' ‹_› (hw.rd0 hnb) (hw.rd0 hcb) (hw.rd0 heb) (rd_x.at0 hw)).mono ?_))))))))))))
  rintro _ w1 ⟨rfl,hO⟩
  refine O2 ?_ (hw.qi hO)
  refine xB (q:=x.a.ok) O O (zA (za O (fun c1=> ?_) (fun c1=> ?_)))
  ·refine zC (zI O (zI O (zA ?_)))
   exact zU (xz (v:= .slice none 0 0) (v':=Vi 2) O O O (fun w' hw=>⟨.slice none 0 0,(by rw[j7 c1]),by rw[if_neg c1];exact(zm hw T8 1).one 2 rfl⟩))
  refine zQ (zC (yh (cs:=[.slice none 0 0]) (z:=[.slice none 0 0]) (pl:=[(0,1)]) qN qN O (z8 O O (fun b13=>zI O (zA (zC (zK (o:=1) O O (zM 0 (v:= .func (.func 129) #[] #[.pointer (some ⟨eb,0,none⟩), .pointer (some ⟨cb,0,none⟩)]) O O O O (zD O (yL (cs:=(MsgD.cells x)) 1 O O O ?_))))))))))
  refine z4 [Res.row b2 169 [.func (.func 126) #[] #[.pointer (some ⟨nb,0,none⟩), .pointer (some ⟨cb,0,none⟩), .pointer (some ⟨eb,0,none⟩)], .func (.func 129) #[] #[.pointer (some ⟨eb,0,none⟩), .pointer (some ⟨cb,0,none⟩)], .func (.func 132) #[] #[.pointer (some ⟨eb,0,none⟩), .pointer (some ⟨cb,0,none⟩)]],Res.row b3 59 (MsgD.cells x),Res.bv b13 xP (.slice none 0 0) ([]:List UInt8)] (fun w' hw=>(zm hw T8 1).joinBv (i:=2) (j:=3) qM O O) ?_
  refine yV (fst:=[]) (cap:=[.pointer (some ⟨eb,0,none⟩), .pointer (some ⟨cb,0,none⟩)]) O qN O O (fun w' hw=>(zGr b13 (.slice none 0 0) ([]:List UInt8) x eb cb w' ‹_› qS (hw.give [2] O qM) (hw.rdTo heb [2] O) (hw.rdTo hcb [2] O) (rd_x.at hw [2] O)).mono ?_)
  rintro _ w1 ⟨sl'1_,rfl,hO⟩
  refine O3 ?_ (hw.qh [2] O hO)
  refine zA (zC (zD O (zb O O (zK (o:=0) O O ?_))))
  refine z4 [Res.row b2 169 [.func (.func 126) #[] #[.pointer (some ⟨nb,0,none⟩), .pointer (some ⟨cb,0,none⟩), .pointer (some ⟨eb,0,none⟩)], .func (.func 129) #[] #[.pointer (some ⟨eb,0,none⟩), .pointer (some ⟨cb,0,none⟩)], .func (.func 132) #[] #[.pointer (some ⟨eb,0,none⟩), .pointer (some ⟨cb,0,none⟩)]],Res.row b3 59 (MsgD.cells x),Res.row b13 xP [sl'1_],Res.vec 5 1 sl'1_ (([]:List UInt8)++x.a.enc).length ((([]:List UInt8)++x.a.enc).map vb)] (fun w' hw=>hw.splitBv (i:=2) (o:=b13) (T:=xP) (v:=sl'1_) (bs:=(([]:List UInt8)++x.a.enc)) O) ?_
  refine zM 2 (v:=sl'1_) O O O O (zI O (zI O (zA ?_)))
  exact zU (xz (v:=sl'1_) (v':=Vi 0) O O O (fun w' hw=>⟨sl'1_,(by rw[jY (Decidable.not_not.1 c1)]),by rw[if_pos (Decidable.not_not.1 c1)];exact hw.one 3 rfl⟩))
theorem zMl(x:MsgD)(w:World)(hx:x.wf)(rd_x:MsgD.rd x w []):Rets Tryz.prog 47 #[.agg (MsgD.cells x).toArray] w fun u_ w'=>∃ (r:Value),u_= .tuple #[r,Vi (yE x.a.ok)]∧Own w [] [Res.vec 5 1 r (if x.a.ok then x.a.enc else []).length ((if x.a.ok then x.a.enc else []).map vb)] w':=by
  refine zW Tryz.func47 O Tryz.ntmps47 (Own.start w) ?_
  refine zC (z8 O O (fun b1=>zI O (zI O (zA (zP (ze [0] O qM qN (fun w' hw hS=>zB 1 O (x1 (cs:=(MsgD.cells x)) 0 O O) hS (zJ 0 O hw (a_call O O (fun w' hw=>(zOp w').mono ?_))))))))))
  rintro _ w1 ⟨nb1_,cb2_,eb3_,rfl,hO⟩
  refine O4 ?_ (hw.qi hO)
  refine zE [0] O qM (fun w' hw hS=>zJ 2 O hw (a_call O O (fun w' hw=>(zHj x nb1_ cb2_ eb3_ w' ‹_› (hw.rdRes0 1 O) (hw.rdRes0 2 O) (hw.rdRes0 3 O) (rd_x.at0 hw)).mono ?_)))
  rintro _ w1 ⟨r4_,rfl,hO⟩
  refine O5 ?_ (hw.qi hO)
  refine zE [0] O qM (fun w' hw hS=>zB 3 O (yT (vs:=[r4_,Vi (yE x.a.ok)]) O O) hS (zB 4 O (yT (vs:=[r4_,Vi (yE x.a.ok)]) O O) hS (zB 5 O yO hS (zB 6 O yO hS (zT ?_)))))
  refine Oc5 ?_ hw
  exact zU (xz (v:=r4_) (v':=Vi (yE x.a.ok)) O O O (fun w' hw=>⟨r4_,O,hw.sel [4] O qM⟩))
end Go.Proofs.YtkkeknmkipkbmaaGreat
