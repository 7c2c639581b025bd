import Derived.Test.YtkkeknmkipkbmaaGreatRun
import Derived.Test.YtkkeknmkipkbmaaGreatNetB
set_option linter.unusedSectionVars false
set_option linter.unusedSimpArgs false
set_option linter.unusedVariables false
set_option maxRecDepth 10000
namespace Go.Proofs.YtkkeknmkipkbmaaGreat
open Go Go.Sc Go.Proofs
structure Bnd(N lk k:Nat)(X:NetA):Prop where
  len:X.nodes.length=N
  B:∀ i,i<N→NodB N lk k i (zG X.nodes i)
  M:∀ q∈X.way,MsgB N k q
  wl:X.way.length≤16*k
theorem Bnd.up{N lk k:Nat}{X:NetA}(h:Bnd N lk k X):Bnd N lk (k+1) X:=
  ⟨h.len,fun i hi=>(h.B i hi).up (Nat.le_succ k) (Nat.le_refl _),fun q hq=>(h.M q hq).up (Nat.le_succ k),by have:=h.wl;omega⟩
theorem Bnd.lk{N lk lk' k:Nat}{X:NetA}(h:Bnd N lk k X)(hl:lk≤lk'):Bnd N lk' k X:=
  ⟨h.len,fun i hi=>(h.B i hi).up (Nat.le_refl k) hl,h.M,h.wl⟩
theorem Bnd.sub{N lk k:Nat}{X:NetA}{way:List MsgA}(h:Bnd N lk k X)(hs:way.Sublist X.way):Bnd N lk k ⟨X.nodes,way⟩:=
  ⟨h.len,h.B,fun q hq=>h.M q (hs.mem hq),Nat.le_trans hs.length_le h.wl⟩
theorem xV{X:NetA}{i j:Nat}{n:NodA}{ms:List MsgA}(hi:i<X.nodes.length):zG (X.call i n ms).nodes j=if j=i then n else zG X.nodes j:=by
  unfold NetA.call
  rw[show zG (X.nodes.set i n) j=if j=i∧i<X.nodes.length then n else zG X.nodes j from xW]
  by_cases c:j=i
  · rw[if_pos ⟨c,hi⟩,if_pos c]
  rw[if_neg (fun q=>c q.1),if_neg c]
theorem Bnd.act{N lk k i:Nat}{ch:Bool}{X:NetA}{n:NodA}{ms:List MsgA}{rs:List RdyD}(hN:1≤N∧N≤5)(hk:k≤99000)(h:Bnd N lk k X)(hi:i<N)(ha:Act N ch lk (· ∈X.way) i (zG X.nodes i) n ms rs):Bnd N lk (k+1) (X.call i n ms):=by
  obtain⟨h1,h2,h3⟩:=zII hN hi (h.B i hi) h.M ha V
  have hl:=h.len
  refine⟨by show(X.nodes.set i n).length=N;rw[List.length_set,hl],fun j hj=> ?_,fun q hq=> ?_,by show(X.way++ms).length≤_;rw[List.length_append];have:=h.wl;omega⟩
  · rw[xV V]
    split
    · rename_i e;rw[e];exact h1
    exact(h.B j hj).up (Nat.le_succ k) (Nat.le_refl _)
  rcases List.mem_append.1 hq with hq|hq
  · exact(h.M q hq).up (Nat.le_succ k)
  exact h2 q hq
structure VotI(N:Nat)(G:Int→Nat→Int→Prop)(X:NetA)(H:Int→Nat→Int→Prop):Prop where
  fn:∀ v T c c',H v T c→H v T c'→c=c'
  nz:∀ v T c,H v T c→c≠0
  nd:∀ i,i<N→∀ T c,H (xc i) T c→T≤(zG X.nodes i).t.term∧(T=(zG X.nodes i).t.term→(zG X.nodes i).t.qD=c)
  cd:∀ i,i<N→(zG X.nodes i).r.qp=3→H (xc i) (zG X.nodes i).t.term (xc i)
  ask:∀ m∈X.way,m.kind=3→H m.src m.term m.src
  yes:∀ m∈X.way,m.kind=4→m.flag=true→H m.src m.term m.dst
  gv:∀ v T c,G v T c→H v T c
def VotP(N:Nat)(G:Int→Nat→Int→Prop)(k:Nat)(X:NetA):Prop:=Bnd N 0 k X∧∃ H,VotI N G X H
theorem kb{i j:Nat}(h:xc i=xc j):i=j:=by unfold xc at h;omega
instance:Inhabited MovD:=⟨⟨0,0,0,0,0⟩⟩
theorem zDO{α:Type}{g:α→List Value}{sz:Nat}(hg:∀ a,(g a).length=sz):∀ (l:List α) (k:Nat),(l.take k).flatMap g=(l.flatMap g).take (k*sz)
  | [],k=>by simp
  |a::l,0=>by simp
  |a::l,k+1=>by
    rw[List.take_succ_cons,List.flatMap_cons,List.flatMap_cons,zDO hg l k,List.take_append,hg,List.take_of_length_le (l:=g a) (by rw[hg,Nat.succ_mul];omega),show(k+1)*sz - sz=k*sz by rw[Nat.succ_mul];omega]
theorem zHZ{v:Value}(h:cell1 v=true){k sz:Nat}:cell1 (y3 v 0 k sz)=true:=by
  cases v<;>first|exact h|rfl
theorem _root_.Go.Sc.Own.cutN{α:Type}{g:α→List Value}{w0 w:World}{S:List Nat}{L:List Res}{T:TypeId}{v:Value}{l:List α}{sz:Nat}(hg:∀ a,(g a).length=sz)(i k:Nat)(hL:L[i]?=some (Res.vec T sz v l.length (l.flatMap g)))(hk:k≤l.length)(h:Own w0 S L w):Own w0 S (L.set i (Res.vec T sz (y3 v 0 k sz) (l.take k).length ((l.take k).flatMap g))) w:=by
  have hlk:(l.take k).length=k:=by rw[List.length_take];omega
  rw[hlk,zDO hg]
  refine h.turn hL ?_ ?_
  · rintro⟨hl,⟨rfl,h1⟩|⟨b,cap,cur,rfl,h0,h1,h2,h3,h4,h5⟩⟩
    · have hk0:k=0:=by omega
      subst hk0
      exact⟨by simp, .inl ⟨O,O⟩⟩
    have e:y3 (.slice (some ⟨b,0,none⟩) l.length cap) 0 k sz= .slice (some ⟨b,0,none⟩) k cap:=by
      show kO (some ⟨b,0,none⟩) cap 0 k cap sz=_
      unfold kO
      simp[Addr.add]
    rw[e]
    have hm:k*sz≤l.length*sz:=Nat.mul_le_mul_right _ hk
    refine⟨by rw[List.length_take,hl];omega, .inr ⟨b,cap,cur,O,h0,h1,by omega,h3,h4,?_⟩⟩
    rw[←h5,List.take_take]
    congr 1;omega
  intro b hb
  have:yd (y3 v 0 k sz)=yd v∨yd (y3 v 0 k sz)=[]:=by
    cases v with
    |slice a m cap=>left;show yd (kO a cap 0 k cap sz)=_;exact zB3 a m cap 0 k cap sz
    |_=>left;rfl
  rcases this with h1|h1
  · show b∈yd v;rw[←h1];exact hb
  have hb':b∈yd (y3 v 0 k sz):=hb
  rw[h1]at hb';cases hb'
theorem zGT{κ α:Type}[DecidableEq κ]{k j:κ}{v:α}:∀ {l:List (κ×α)},jJ j (zEI k v l)=if j=k then some v else jJ j l
  | []=>by simp[zEI,jJ]
  |(x,u)::r=>by
    have ih:=zGT (k:=k) (j:=j) (v:=v) (l:=r)
    unfold zEI
    by_cases h:k=x
    · subst h
      rw[if_pos rfl];unfold jJ
      by_cases e:j=k<;>simp[e]
    rw[if_neg h];unfold jJ
    rw[ih]
    by_cases e:j=x
    · rw[if_pos e,if_pos e,if_neg (fun q=>h (q.symm.trans e))]
    rw[if_neg e,if_neg e]
theorem zM5{N lk:Nat}(hN:1≤N∧N≤5):Bnd N lk 0 ⟨(List.range N).map js,[]⟩:=by
  have hn:∀ i,i<N→zG ((List.range N).map js) i=js i:=fun i hi=>by rw[kY (by rw[List.length_range];exact hi)];congr 1;exact nth_eq (List.getElem?_range hi)
  refine⟨by show((List.range N).map js).length=N;rw[List.length_map,List.length_range],fun i hi=> ?_,fun q hq=>absurd hq qQ,Nat.zero_le _⟩
  show NodB N lk 0 i (zG ((List.range N).map js) i)
  rw[hn i hi]
  exact⟨Nat.le_refl _,Nat.le_refl _,⟨Nat.zero_le _,Nat.zero_le _,trivial⟩,fun e he=>(by cases he),Nat.le_refl _,⟨by show(0:Int)≤0∧(0:Int)≤_;decide,by show(0:Int)≤0∧(0:Int)≤_;decide,by show(0:Int)≤0∧(0:Int)≤_;decide,by show(0:Int)≤0∧(0:Int)≤_;decide,by show(0:Int)≤0∧(0:Int)≤0;decide⟩,⟨fun q=>absurd q (by show ¬(1:Int)=4;decide),fun q=>absurd q (by show ¬ false=true;decide)⟩,fun q=>by rcases q with q|q<;>exact absurd q (by show ¬(1:Int)=_;decide),⟨List.nodup_nil,fun v hv=>by cases hv⟩,Nat.le_refl _,fun l q=>by cases q⟩
theorem zM8{l m:List UInt8}:((⟨l.toArray⟩:ByteArray)=⟨m.toArray⟩)↔l=m:=by
  constructor
  · intro h;have:=congrArg (fun b:ByteArray=>b.data.toList) h;simpa using this
  intro h;rw[h]
theorem entA_eq{x y:EntA}:x=y↔(((((x.index:Nat):Int)=((y.index:Nat):Int)∧((x.term:Nat):Int)=((y.term:Nat):Int))∧x.kind=y.kind)∧x.delta=y.delta)∧(⟨x.data.toArray⟩:ByteArray)=⟨y.data.toArray⟩:=by
  rw[zM8];cases x;cases y;simp only[EntA.mk.injEq,Int.ofNat_inj,and_assoc]
theorem zJD(x y:EntD)(w:World)(hx:x.data.length≤1000000000)(hy:y.data.length≤1000000000)(rd_x:EntD.rd x w [])(rd_y:EntD.rd y w []):Rets Tryz.prog 55 #[.agg (EntD.cells x).toArray, .agg (EntD.cells y).toArray] w fun u_ w'=>u_= .bool (decide (x.toEntA=y.toEntA))∧Own w [] [] w':=by
  refine zW Tryz.func55 O Tryz.ntmps55 (Own.start w) ?_
  refine zC (z8 O O (fun b2=>z8 O O (fun b3=>zI O (zA (zC (zK (o:=0) O O (zM 0 (v:=Vn x.index) O O O O (zK (o:=0) O O (zM 1 (v:=Vn y.index) O O O O (yR O O O (zD O (yJ (q:=((x.index:Nat):Int)=((y.index:Nat):Int)) 5 5 [15,14,13,12,11] (((x.term:Nat):Int)=((y.term:Nat):Int)) O O O O O O trivial O (fun h1_5=> ?_) (fun g1_11=> ?_)))))))))))))
  ·refine zR O (gT h1_5) (zK (o:=1) O O (zR O (gT h1_5) (zM 0 (v:=Vn x.term) O O O O (zR O (gT h1_5) (zK (o:=1) O O (zR O (gT h1_5) (zM 1 (v:=Vn y.term) O O O O (zR O (gT h1_5) (yR O O O ?_)))))))))
   exact yN O (fun _ hw=>hw)
  refine zD O (yJ (q:=(((x.index:Nat):Int)=((y.index:Nat):Int))∧(((x.term:Nat):Int)=((y.term:Nat):Int))) 5 12 [22,21,20,19,18] (x.kind=y.kind) O O O O O O trivial O (fun h1_12=> ?_) (fun g1_18=> ?_))
  ·refine zR O (gT h1_12) (zK (o:=2) O O (zR O (gT h1_12) (zM 0 (v:=Vi x.kind) O O O O (zR O (gT h1_12) (zK (o:=2) O O (zR O (gT h1_12) (zM 1 (v:=Vi y.kind) O O O O (zR O (gT h1_12) (yR O O O ?_)))))))))
   exact yN O (fun _ hw=>hw)
  refine zD O (yJ (q:=((((x.index:Nat):Int)=((y.index:Nat):Int))∧(((x.term:Nat):Int)=((y.term:Nat):Int)))∧(x.kind=y.kind)) 5 19 [29,28,27,26,25] (x.delta=y.delta) O O O O O O trivial O (fun h1_19=> ?_) (fun g1_25=> ?_))
  ·refine zR O (gT h1_19) (zK (o:=3) O O (zR O (gT h1_19) (zM 0 (v:=Vi x.delta) O O O O (zR O (gT h1_19) (zK (o:=3) O O (zR O (gT h1_19) (zM 1 (v:=Vi y.delta) O O O O (zR O (gT h1_19) (yR O O O ?_)))))))))
   exact yN O (fun _ hw=>hw)
  refine zD O (yJ (q:=(((((x.index:Nat):Int)=((y.index:Nat):Int))∧(((x.term:Nat):Int)=((y.term:Nat):Int)))∧(x.kind=y.kind))∧(x.delta=y.delta)) 7 26 [38,37,36,35,34,33,32] ((⟨x.data.toArray⟩:ByteArray)=(⟨y.data.toArray⟩:ByteArray)) O O O O O O trivial O (fun h1_26=> ?_) (fun g1_34=> ?_))
  ·refine zR O (gT h1_26) (zK (o:=4) O O (zR O (gT h1_26) (zM 0 (v:=x.dv) O O O O (zR O (gT h1_26) (zOa (bs:=x.data) qN qN O (fun w' hw'=>Own.rd rd_x.dv hw') O (zR O (gT h1_26) (zK (o:=4) O O (zR O (gT h1_26) (zM 1 (v:=y.dv) O O O O (zR O (gT h1_26) (zOa (bs:=y.data) qN qN O (fun w' hw'=>Own.rd rd_y.dv hw') O (zR O (gT h1_26) ?_))))))))))))
   refine zQk O O O ?_
   exact yN O (fun _ hw=>hw)
  refine zI O (zA ?_)
  exact zU (z9 (v:= .bool (decide (((((((x.index:Nat):Int)=((y.index:Nat):Int))∧(((x.term:Nat):Int)=((y.term:Nat):Int)))∧(x.kind=y.kind))∧(x.delta=y.delta))∧((⟨x.data.toArray⟩:ByteArray)=(⟨y.data.toArray⟩:ByteArray))))) O O (fun w' hw=>⟨(by congr 1;exact decide_eq_decide.2 (by exact entA_eq.symm)),hw.drop⟩))
theorem zP1{S:List Nat}(cb jb:Nat)(t:TimD)(a:StA)(r:RolD)(b:StB)(yv lead:Value)(qe:Nat)(lv:Value)(es:List EntD)(w:World)(hg:(LG 0 0 es).good)(hl:es.length≤100000)(hin:Own w S [z7 cb t lead a r b yv jb qe (.pointer none),Res.nl b lv es] w):Rets Tryz.prog 21 #[pt cb] w fun u_ w'=>∃ (lb:Nat) (lv':Value) (es':List EntD),u_=pt lb∧es'.map EntD.toEntA=es.map EntD.toEntA∧Own w S [z7 cb t lead a r b yv jb qe (.pointer none),Res.nl b lv es,Res.row lb 144 [Vn 0,Vn 0,lv'],vE lv' es',sE es'] w':=by
  refine zW Tryz.func21 O Tryz.ntmps21 hin ?_
  refine zC (zI O (zA (zP (zC (zD O (xf qN O O O (zA (xx O (zQ (zC (zD O (zb O O ?_))))))))))))
  refine zK (o:=29) O O (zM 0 (v:=pt b.lb) O O O O ?_)
  refine z4 [z7 cb t lead a r b yv jb qe (.pointer none),Res.row b.lb 144 [Vn 0,Vn 0,lv],vE lv es,sE es,vI b.vv b.vs,vI b.wv ([]:List Int)] (fun w' hw=>hw.qn 1 O) ?_
  refine a_call O O (fun w' hw=>(zPv b.lb 0 0 lv es w' qO ‹_› (hw.give [1,2,3] O qM)).mono ?_)
  rintro _ w1 ⟨b1_,lv'2_,es'3_,rfl,hf3_4,hO⟩
  refine O9 ?_ (hw.qh [1,2,3] O hO)
  refine zI O (zA ?_)
  exact zU (z9 (v:=pt b1_) O O (fun w' hw=>⟨b1_,lv'2_,es'3_,O,hf3_4,(hw.qo [3,4,5,1,2] O qM).sel [0,4,1,2,3] O qM⟩))
theorem zBS{α:Type}[Inhabited α]{l:List α}{k:Nat}(hk:k<l.length):l.set k (zG l k)=l:=by
  refine List.ext_getElem? fun i=> ?_
  rw[List.getElem?_set]
  split
  · rename_i e;subst e;exact(yW hk).symm
  rfl
theorem zRB(ns:List CorD)(k pb:Nat)(w:World)(hk:k<ns.length)(hpb:(zG ns k).cb=pb)(hok:(zG ns k).ok)(hin:Own w (y1 [Res.star (ns.map CorD.dres)]) [Res.star (ns.map CorD.dres)] w):Rets Tryz.prog 21 #[pt pb] w fun u_ w'=>∃ (lb:Nat) (lv':Value) (es':List EntD),u_=pt lb∧es'.map EntD.toEntA=(zG ns k).n.a.E∧Own w (y1 [Res.star (ns.map CorD.dres)]) [Res.star (ns.map CorD.dres),Res.row lb 144 [Vn 0,Vn 0,lv'],vE lv' es',sE es'] w':=by
  subst hpb
  have h0:=hin.qI 0 k hk rfl
  have hn:=hok.n
  refine(zP1 (zG ns k).cb (zG ns k).jb (zG ns k).n.t (zG ns k).a (zG ns k).n.r (zG ns k).b (zG ns k).n.yv (xF (zG ns k).n.y) (zG ns k).qe (zG ns k).n.lv (zG ns k).n.es w hn.good hn.len' (((h0.give [0] O qM).qn 0 O).give [0,1] O qM)).mono ?_
  rintro _ w1 ⟨lb,lv',es',rfl,hf,hO⟩
  have h2:=((h0.give [0] rfl qM).qn 0 rfl).qh [0,1] rfl hO
  have h3:=(h0.qh [0] rfl ((h2.qo [2,3,0,1] rfl qM).sel [3,0,1,2] rfl qM)).qL 1 0 k (zG ns k) hk qM rfl rfl
  rw[zBS hk]at h3
  exact⟨lb,lv',es',O,hf,h3.sel [3,0,1,2] O qM⟩
theorem zOC(ns:List CorD)(k pb:Nat)(w:World)(hk:k<ns.length)(hpb:(zG ns k).cb=pb)(hin:Own w (y1 [Res.star (ns.map CorD.dres)]) [Res.star (ns.map CorD.dres)] w):Rets Tryz.prog 13 #[pt pb] w fun u_ w'=>u_= .tuple #[.agg #[Vn ((zG ns k).n.t.term),Vi ((zG ns k).n.t.qD)],Vi ((zG ns k).n.r.qp),Vi ((zG ns k).n.r.who),Vn ((zG ns k).n.r.qc)]∧Own w (y1 [Res.star (ns.map CorD.dres)]) [Res.star (ns.map CorD.dres)] w':=by
  subst hpb
  have h0:=hin.qI 0 k hk rfl
  refine(zH8 (zG ns k).cb (zG ns k).jb (zG ns k).n.t (zG ns k).a (zG ns k).n.r (zG ns k).b (xF (zG ns k).n.y) (zG ns k).n.yv (.pointer none) (zG ns k).qe w (((h0.give [0] O qM).qn 0 O).give [0] O qM)).mono ?_
  rintro _ w1 ⟨rfl,hO⟩
  have h2:=((h0.give [0] rfl qM).qn 0 rfl).qh [0] rfl hO
  have h3:=(h0.qh [0] rfl (h2.qo [3,0,1,2] rfl qM)).qL 1 0 k (zG ns k) hk qM rfl rfl
  rw[zBS hk]at h3
  exact⟨O,h3.sel [0] O qM⟩
structure RightP(N:Nat)(Ld:Nat→Int→Prop)(Sf:List EntA)(X:NetD):Prop where
  fn:∀ T i j,Ld T i→Ld T j→i=j
  ld:∀ i,i<N→(zG X.ns i).n.r.qp=4→Ld (zG X.ns i).n.t.term (i:Int)
  sf:∀ i,i<N→(zG X.ns i).n.r.qc≤Sf.length∧(zG X.ns i).n.a.E.take (zG X.ns i).n.r.qc=Sf.take (zG X.ns i).n.r.qc
def kz(Sf:List EntA)(safe:List EntD):Prop:=safe.length≤Sf.length∧safe.map EntD.toEntA=Sf.take safe.length
def jB(Ld:Nat→Int→Prop)(leads:List (Nat×Int)):Prop:=∀ T j,jJ T leads=some j→Ld T j
theorem zJX{Ld:Nat→Int→Prop}{leads:List (Nat×Int)}{T:Nat}{i:Int}(h:jB Ld leads)(hi:Ld T i):jB Ld (zEI T i leads):=by
  intro U j hj
  rw[zGT]at hj
  split at hj
  · rename_i e;cases hj;rw[e];exact hi
  exact h U j hj
theorem zK0{N:Nat}{Ld:Nat→Int→Prop}{Sf:List EntA}{X:NetD}{leads:List (Nat×Int)}{i T:Nat}(hR:RightP N Ld Sf X)(h:jB Ld leads)(hi:Ld T (i:Int)):¬((jJ T leads).isSome=true∧(jJ T leads).getD 0≠(i:Int)):=by
  rintro⟨h1,h2⟩
  cases hg:jJ T leads with
  |none=>rw[hg]at h1;cases h1
  |some j=>rw[hg]at h2;exact h2 (hR.fn T j i (h T j hg) hi)
theorem zQX{es rs:List EntD}{e:Int}(hl:es.length≤100000)(hf:(LG 0 0 es).fromE 1 4611686018427387904=(rs.map EntD.toEntA,e)):e=0∧rs.map EntD.toEntA=es.map EntD.toEntA:=by
  rw[LG.fromE_eq,if_neg V,if_neg V,if_neg V]at hf
  have e1:((es.map EntD.toEntA).drop (1 - 0 - 1)).take (4611686018427387904:Int).toNat=rs.map EntD.toEntA:=congrArg Prod.fst hf
  exact⟨(congrArg Prod.snd hf).symm,by rw[←e1,List.drop_zero,List.take_of_length_le qX]⟩
theorem zIr{Sf:List EntA}{safe rs:List EntD}{c k:Nat}(hS:kz Sf safe)(hc:(rs.map EntD.toEntA).take c=Sf.take c)(hcl:c≤rs.length)(hk:k<c):(zG rs k).toEntA=zG Sf k∧k<Sf.length:=by
  have h1:(rs.map EntD.toEntA)[k]?=Sf[k]?:=by
    have h:=congrArg (fun l:List EntA=>l[k]?) hc
    simpa [List.getElem?_take,hk]using h
  rw[List.getElem?_map,yW V]at h1
  exact⟨(nth_eq h1.symm).symm,(List.getElem?_eq_some_iff.1 h1.symm).1⟩
theorem zI5{Sf:List EntA}{safe rs:List EntD}{c:Nat}(hS:kz Sf safe)(hc:(rs.map EntD.toEntA).take c=Sf.take c)(hcl:c≤rs.length)(hk:safe.length<c):kz Sf (safe++[zG rs safe.length]):=by
  obtain⟨h1,h2⟩:=zIr hS hc hcl hk
  refine⟨by rw[List.length_append];show safe.length+1≤_;omega,?_⟩
  rw[List.map_append,hS.2,List.length_append]
  show _++[(zG rs safe.length).toEntA]=Sf.take (safe.length+1)
  rw[zu h2,h1]
theorem zFm{Sf:List EntA}{safe rs:List EntD}{c k m:Nat}(hS:kz Sf safe)(hc:(rs.map EntD.toEntA).take c=Sf.take c)(hcl:c≤rs.length)(hk:k<c)(he:(k:Int)=(safe.length:Int))(hm:m≤safe.length):(k+1≤c∧k+1≤(safe++[zG rs k]).length)∧kz Sf (safe++[zG rs k])∧m≤(safe++[zG rs k]).length:=by
  have e:k=safe.length:=by omega
  subst e
  exact⟨⟨hk,by simp⟩,zI5 hS hc hcl hk,by rw[List.length_append];omega⟩
theorem zKw{Sf:List EntA}{safe:List EntD}{k:Nat}(hS:kz Sf safe)(hk:k<safe.length):(zG safe k).toEntA=zG Sf k:=by
  have h:(safe.map EntD.toEntA)[k]?=Sf[k]?:=by rw[hS.2,List.getElem?_take,if_pos hk]
  rw[List.getElem?_map,yW hk]at h
  exact(nth_eq h.symm).symm
theorem zKO{α:Type}{l:List α}{k:Nat}:(l.drop (k+1)).Sublist (l.drop k):=by
  rw[←List.drop_drop];exact List.drop_sublist _ _
theorem zC5{α:Type}[Inhabited α]{l:List α}{k i:Nat}(h1:k≤i)(h2:i<l.length):zG l i∈l.drop k:=List.mem_iff_getElem?.2 ⟨i - k,by rw[List.getElem?_drop,show k+(i - k)=i by omega];exact yW h2⟩
theorem _root_.Go.Sc.Own.elOn{α:Type}[Inhabited α]{g:α→Res}{w0 w:World}{S:List Nat}{L:List Res}{ms ns:List α}{k:Nat}(i j:Nat)(hij:i≠j)(hk:k<ms.length)(h1:L[i]?=some (Res.star (ns.map g)))(h2:L[j]?=some (Res.star ((ms.drop k).map g)))(h:Own w0 S L w):Own w0 S (yp [i,j] 0 L++[Res.star ((ns++[zG ms k]).map g),Res.star ((ms.drop (k+1)).map g)]) w:=by
  have hq: [i,j].mapM (fun i=>L[i]?)=some [Res.star (ns.map g),Res.star ((ms.drop k).map g)]:=by simp[h1,h2]
  refine h.qh [i,j] hq ?_
  have h3:=(h.give [i,j] hq (by simp[hij])).qn 1 rfl
  rw[ju hk,List.map_cons]at h3
  have h3:Own w (y1 [Res.star (ns.map g),Res.star (g (zG ms k)::(ms.drop (k+1)).map g)]) ([Res.star (ns.map g),g (zG ms k)]++(ms.drop (k+1)).map g) w:=h3
  have h4:=h3.shutEnd
  have h5:=h4.qJ (x:=zG ms k) 0 1 qM rfl rfl
  rw[ju hk,List.map_cons]
  exact h5
theorem zNe{S:List Nat}(N:Nat)(Ld:Nat→Int→Prop)(Sf:List EntA)(xb:Nat)(X:NetD)(leads:List (Nat×Int))(w:World)(hN:1≤N∧N≤5)(hX:X.st N)(hOk:NetOk N X.a)(hR:RightP N Ld Sf X)(hS:kz Sf X.safe)(hL:jB Ld leads)(hSl:Sf.length≤100000)(hin:Own w S [Res.row xb 73 (NetD.cells X),Res.vec 27 1 X.nv X.cbs.length (X.cbs.flatMap CP),Res.star (X.ns.map CorD.dres),Res.mp ekU ekI X.mb leads,vE X.sv X.safe,sE X.safe] w):Rets Tryz.prog 20 #[pt xb] w fun u_ w'=>∃ (leads':List (Nat×Int)) (sv':Value) (safe':List EntD),u_= .bool true∧kz Sf safe'∧jB Ld leads'∧X.safe.length≤safe'.length∧safe'.length≤Sf.length∧Own w S [Res.row xb 73 (NetD.cells ({X with sv:=sv',safe:=safe'}:NetD)),Res.vec 27 1 X.nv X.cbs.length (X.cbs.flatMap CP),Res.star (X.ns.map CorD.dres),Res.mp ekU ekI X.mb leads',vE sv' safe',sE safe'] w':=by
  have hcl:X.cbs.length=N:=by rw[hX.cbs,List.length_map,hX.len]
  have hnl:=hX.len
  refine zW Tryz.func20 O Tryz.ntmps20 hin ?_
  refine zC (zI O (zA (zP (zC (zI O (zA (zZ ?_)))))))
  refine zNL (fun(i:Nat) (leads':List (Nat×Int)) (sv':Value) (safe':List EntD)=>[(0,pt xb),(3,Vj i)]) (fun(i:Nat) (leads':List (Nat×Int)) (sv':Value) (safe':List EntD)=>(i≤N∧X.safe.length≤safe'.length)∧kz Sf safe'∧jB Ld leads') (fun(i:Nat) (leads':List (Nat×Int)) (sv':Value) (safe':List EntD)=>[Res.row xb 73 (NetD.cells ({X with sv:=sv',safe:=safe'}:NetD)),Res.vec 27 1 X.nv X.cbs.length (X.cbs.flatMap CP),Res.star (X.ns.map CorD.dres),Res.mp ekU ekI X.mb leads',vE sv' safe',sE safe']) (fun(i:Nat) (leads':List (Nat×Int)) (sv':Value) (safe':List EntD)=>N - i) (fun w' hw=>⟨0,leads,X.sv,X.safe,⟨O,O,trivial⟩,⟨⟨by omega,by omega⟩,hS,hL⟩,hw⟩) (fun i leads' sv' safe' g hΦ=> ?_)
  have hLd:=hΦ.2.2
  have hSf:=hΦ.2.1
  have hle:=hΦ.1.2
  refine zP (zC (zD O (zD O (zb O O (zK (o:=0) O O (zM 0 (v:=X.nv) O O O O (zp (pV 1 O) O O (yI O O O (zA (za O (fun c1=> ?_) (fun c1=> ?_)))))))))))
  ·have hi:i<N:=by omega
   have hok:=hX.ok hOk hN.2 hi
   have hsf:=hR.sf i hi
   have hcm:=hok.n.hcl'
   have hln:=hok.n.len'
   refine zQ (zP (zZ (zC (zD O (zb O O (zK (o:=0) O O (zM 0 (v:=X.nv) O O O O (zD O (zk (pV 1 O) 1 i O O O V O (yH (pV 1 O) 1 i 0 (fun _=>O) O O V O O (a_call O O (fun w' hw=>(zOC X.ns i (zG X.cbs i) w' V (hX.cb V) (hw.give [2] O qM)).mono ?_))))))))))))
   rintro _ w1 ⟨rfl,hO⟩
   refine O6 ?_ (hw.qh [2] O hO)
   refine zD O (yA (vs:=[.agg #[Vn ((zG X.ns i).n.t.term),Vi ((zG X.ns i).n.t.qD)],Vi ((zG X.ns i).n.r.qp),Vi ((zG X.ns i).n.r.who),Vn ((zG X.ns i).n.r.qc)]) O O O (yA (vs:=[.agg #[Vn ((zG X.ns i).n.t.term),Vi ((zG X.ns i).n.t.qD)],Vi ((zG X.ns i).n.r.qp),Vi ((zG X.ns i).n.r.who),Vn ((zG X.ns i).n.r.qc)]) O O O (yA (vs:=[.agg #[Vn ((zG X.ns i).n.t.term),Vi ((zG X.ns i).n.t.qD)],Vi ((zG X.ns i).n.r.qp),Vi ((zG X.ns i).n.r.who),Vn ((zG X.ns i).n.r.qc)]) O O O (yA (vs:=[.agg #[Vn ((zG X.ns i).n.t.term),Vi ((zG X.ns i).n.t.qD)],Vi ((zG X.ns i).n.r.qp),Vi ((zG X.ns i).n.r.who),Vn ((zG X.ns i).n.r.qc)]) O O O (yC (v:= .agg #[Vn 0,Vi 0]) qN O (fun b4=>zo 6 O O O (xO O) O (zI O (zI O (zI O (zA (yt (fun(leads2:List (Nat×Int))=>[(0,pt xb),(3,Vj i),(7,Vn ((zG X.ns i).n.r.qc))]) (fun(leads2:List (Nat×Int))=>jB Ld leads2) (fun(leads2:List (Nat×Int))=>[Res.row xb 73 (NetD.cells ({X with sv:=sv',safe:=safe'}:NetD)),Res.vec 27 1 X.nv X.cbs.length (X.cbs.flatMap CP),Res.star (X.ns.map CorD.dres),Res.mp ekU ekI X.mb leads2,vE sv' safe',sE safe']) ?_ (fun leads2 g hΦ=> ?_))))))))))))
   ·refine zC (zD O (yR O O O (zA (za O (fun c2=> ?_) (fun c2=> ?_)))))
    ·refine yb qN qN (zL O zS (zL O (zO O) (zL O (zH (o:=3) O) (zL O (zY 0 (v:= .map (some X.mb)) O O O) (zL O (zH (o:=0) O) (zL O (zY 6 (v:=Vn ((zG X.ns i).n.t.term)) O O O) (zL O (zPV (k:=(zG X.ns i).n.t.term) (kv:=leads') (zv:=0) zQa zOS zPH O O (fun w' hw'=>Own.holds hw' 2 _ O)) (zL O zS (zL O (yT (vs:=[Vi ((jJ ((zG X.ns i).n.t.term) leads').getD 0), .bool ((jJ ((zG X.ns i).n.t.term) leads').isSome)]) O O) (zL O (yT (vs:=[Vi ((jJ ((zG X.ns i).n.t.term) leads').getD 0), .bool ((jJ ((zG X.ns i).n.t.term) leads').isSome)]) O O) (zL O yO (zL O yO ?_))))))))))))
     refine xi (zP (zC (zD O (zD O (yJ (q:=((jJ ((zG X.ns i).n.t.term) leads').isSome)=true) 3 1 [52,51,50] (((jJ ((zG X.ns i).n.t.term) leads').getD 0)≠((i:Nat):Int)) O O (xC _) O O O trivial O (fun h7_1=> ?_) (fun g7_5=> ?_))))))
     ·refine zR O (bT h7_1) (zD O (zR O (bT h7_1) (zD O (zR O (bT h7_1) (xn O O O ?_)))))
      exact yN O (fun _ hw=>hw)
     refine zA (za O (fun c3=> ?_) (fun c3=> ?_))
     ·exact absurd c3 (zK0 hR hLd (hR.ld i hi c2))
     refine zQ (ze [0,1,3,6] O qM qN (fun w' hw hS=>zB 0 O zS hS (zB 1 O (zO O) hS (zB 2 O (zH (o:=3) O) hS (zB 3 O (zY 0 (v:= .map (some X.mb)) O O O) hS (zB 4 O (zH (o:=0) O) hS (zB 5 O (zY 3 (v:=Vn ((zG X.ns i).n.t.term)) O O O) hS (zB 6 O zS hS (zJ 7 O hw (zP5 2 (k:=(zG X.ns i).n.t.term) (v:=((i:Nat):Int)) zQa zOS O O O O (zE [0,1,3,6] O qM (fun w' hw hS=>zT ?_))))))))))))
     exact⟨zEI (zG X.ns i).n.t.term ((i:Nat):Int) leads',⟨O,O,O,trivial⟩,zJX hLd (hR.ld i hi c2),hw.sel [0,1,5,2,3,4] O qM⟩
    exact yZ (fun w' hw=>⟨leads',⟨O,O,O,trivial⟩,hLd,hw.sel [0,1,5,2,3,4] O qM⟩)
   have hLd2:=hΦ
   refine zC (zD O (zb O O (zK (o:=0) O O (zM 0 (v:=X.nv) O O O O (zD O (zk (pV 1 O) 1 i O O O V O (yH (pV 1 O) 1 i 0 (fun _=>O) O O V O O (a_call O O (fun w' hw=>(zRB X.ns i (zG X.cbs i) w' V (hX.cb V) (hX.ok hOk hN.2 V) (hw.give [2] O qM)).mono ?_)))))))))
   rintro _ w1 ⟨lb1_,lv'2_,es'3_,rfl,hf10_7,hO⟩
   have hel:es'3_.length=(zG X.ns i).n.es.length:=by have h:=congrArg List.length hf10_7;rw[List.length_map]at h;rw[h];exact List.length_map _
   have hge:(LG 0 0 es'3_).good:=by show(LogA.mk 0 0 (es'3_.map EntD.toEntA)).good;rw[hf10_7];exact hok.n.good
   refine O9 ?_ (hw.qh [2] O hO)
   refine zI O (zA (zC (zD O (a_call O O (fun w' hw=>(zHp lb1_ 0 0 lv'2_ es'3_ 1 4611686018427387904 w' V hge (hw.rdRes0 6 O) (hw.qq 7 O) (EntD.rd.star0 8 O hw)).mono ?_)))))
   rintro _ w1 ⟨r4_,rs5_,e6_,rfl,hf11_1,hO⟩
   obtain⟨he0,hrs⟩:=zQX V hf11_1
   have hrl:rs5_.length=(zG X.ns i).n.es.length:=by have h:=congrArg List.length hrs;rw[List.length_map,List.length_map]at h;omega
   have hrc:(rs5_.map EntD.toEntA).take (zG X.ns i).n.r.qc=Sf.take (zG X.ns i).n.r.qc:=by rw[hrs,hf10_7];exact hsf.2
   refine O11 ?_ (hw.qi hO)
   refine zD O (yA (vs:=[r4_,Vi e6_]) O O O (yA (vs:=[r4_,Vi e6_]) O O O (zI O (zI O (zA (zP (zC (zD O (xn O O O (zD O (yj (q:=e6_≠0) 5 2 [81,80,79,78,77] (((rs5_.length:Nat):Int)<(((zG X.ns i).n.r.qc:Nat):Int)) O O O O O O trivial O (fun h12_2=> ?_) (fun g12_8=> ?_))))))))))))
   ·refine zR O (gF h12_2) (zD O (zR O (gF h12_2) (zD O (zR O (gF h12_2) (zp (pV 9 O) O O (zR O (gF h12_2) (xt qN O (xA V) O ?_ qN)))))))
    refine zR O (gF h12_2) (yx O O O ?_)
    exact yN O (fun _ hw=>hw)
   refine zA (za O (fun c4=> ?_) (fun c4=> ?_))
   ·exact absurd c4 V
   refine zQ (zC (zI O (zA (zZ ?_))))
   refine x3 (fun(k:Nat) (sv2:Value) (safe2:List EntD)=>[(0,pt xb),(3,Vj i),(7,Vn ((zG X.ns i).n.r.qc)),(11,r4_),(13,Vj k)]) (fun(k:Nat) (sv2:Value) (safe2:List EntD)=>(k≤(zG X.ns i).n.r.qc∧k≤safe2.length)∧kz Sf safe2∧X.safe.length≤safe2.length) (fun(k:Nat) (sv2:Value) (safe2:List EntD)=>[Res.row xb 73 (NetD.cells ({X with sv:=sv2,safe:=safe2}:NetD)),Res.vec 27 1 X.nv X.cbs.length (X.cbs.flatMap CP),Res.star (X.ns.map CorD.dres),Res.mp ekU ekI X.mb leads2,vE sv2 safe2,sE safe2,vE r4_ rs5_,sE (rs5_.drop k)]) (fun(k:Nat) (sv2:Value) (safe2:List EntD)=>(zG X.ns i).n.r.qc - k) (fun w' hw=>⟨0,sv',safe',⟨O,O,O,O,O,trivial⟩,⟨⟨by omega,by omega⟩,hSf,hle⟩,hw.sel [0,1,5,2,3,4,9,10] O qM⟩) (fun k sv2 safe2 g hΦ=> ?_)
   have hk1:=hΦ.1
   have hS2:=hΦ.2.1
   have hl2:=hΦ.2.2
   have hS2l:=hS2.1
   refine zP (zC (zD O (zD O (xt qN O (zr V) O ?_ qN))))
   refine yI O O O (zA (za O (fun c5=> ?_) (fun c5=> ?_)))
   ·refine zQ (zP (zZ (zC (zD O (zD O (zb O O (zK (o:=4) O O (zM 0 (v:=sv2) O O O O (zp (pV 4 O) O O (yR O O O (zA (za O (fun c6=> ?_) (fun c6=> ?_)))))))))))))
    ·refine ze [1,3,6] O qM qN (fun w' hw hS=>zB 0 O zS hS (zB 1 O zS hS (zB 2 O (zO O) hS (zB 3 O (zH (o:=4) O) hS (zB 5 O zS hS (zB 6 O zS hS (zB 7 O (yz (pV 2 O) 5 k O O O V) hS (zB 8 O (zFU (pV 2 O) 5 k (off:=xH r4_+k*5) (fun _=>O) O O V) hS (zq 4 9 ?_ ?_)))))))))
     ·refine zl 4 O hw (zM 0 (v:=sv2) O O O O (zE [1,3,6] O qM (fun w' hw hS=>zJ 9 O hw (zx (e:=81) (sz:=5) (vs:=[.agg (EntD.cells (zG rs5_ k)).toArray]) qN O O wi qM O (fun b105=>zE [1,3,6] O qM (fun w' hw hS=>zJ 10 O hw ?_))))))
      refine zN (fun w' hw=>Sl.cell1 (Rd.φ (EntD.rd.star0 7 O hw _ (zC5 (l:=rs5_) (k:=k) (i:=k) V V)).dv)) (fun hc4_=> ?_)
      refine zy (g:=EntD.cells) (sz:=5) (by':=56) (fun _=>O) (l:=safe2) (l':=[(zG rs5_ k)]) (all_cons ((zF O (zF O (zF O (zF O (zF hc4_ zh)))))) qQ) 4 qN O O O (fun w' hw'=>Vec.sl (Own.holds hw' 8 _ O)) qO qM O (fun v106=>zE [1,3,6] O qM (fun w' hw hS=>zB 11 O (zO O) hS (zB 12 O (zH (o:=4) O) hS (zJ 13 O hw ?_))))
      refine zN (fun w' hw=>Own.qg (i:=4) O hw) (fun hc5_=> ?_)
      refine zn (cs:=(NetD.cells ({X with sv:=sv2,safe:=safe2}:NetD))) 0 O O O hc5_ O (zE [1,3,6] O qM (fun w' hw hS=>zT ?_))
      refine Oc9 ?_ hw
      refine zV (zD O (zt O O (zr V) O (zI O ?_)))
      exact zg (fun w' hw=>⟨k+1,v106,safe2++[zG rs5_ k],⟨O,O,O,O,O,trivial⟩,zFm hS2 hrc V V c6 hl2,(hw.elOn (g:=EntD.dres) 5 7 qM V O O).sel [0,1,2,3,4,7,5,8] O qM,V⟩)
     refine zl 9 O hw (zx (e:=81) (sz:=5) (vs:=[.agg (EntD.cells (zG rs5_ k)).toArray]) qN O O wi qM O (fun b105=>zE [1,3,6] O qM (fun w' hw hS=>zJ 4 O hw (zM 0 (v:=sv2) O O O O (zE [1,3,6] O qM (fun w' hw hS=>zJ 10 O hw ?_))))))
     refine zN (fun w' hw=>Sl.cell1 (Rd.φ (EntD.rd.star0 7 O hw _ (zC5 (l:=rs5_) (k:=k) (i:=k) V V)).dv)) (fun hc6_=> ?_)
     refine zy (g:=EntD.cells) (sz:=5) (by':=56) (fun _=>O) (l:=safe2) (l':=[(zG rs5_ k)]) (all_cons ((zF O (zF O (zF O (zF O (zF hc6_ zh)))))) qQ) 4 qN O O O (fun w' hw'=>Vec.sl (Own.holds hw' 8 _ O)) qO qM O (fun v106=>zE [1,3,6] O qM (fun w' hw hS=>zB 11 O (zO O) hS (zB 12 O (zH (o:=4) O) hS (zJ 13 O hw ?_))))
     refine zN (fun w' hw=>Own.qg (i:=4) O hw) (fun hc7_=> ?_)
     refine zn (cs:=(NetD.cells ({X with sv:=sv2,safe:=safe2}:NetD))) 0 O O O hc7_ O (zE [1,3,6] O qM (fun w' hw hS=>zT ?_))
     refine Oc9 ?_ hw
     refine zV (zD O (zt O O (zr V) O (zI O ?_)))
     exact zg (fun w' hw=>⟨k+1,v106,safe2++[zG rs5_ k],⟨O,O,O,O,O,trivial⟩,zFm hS2 hrc V V c6 hl2,(hw.elOn (g:=EntD.dres) 5 7 qM V O O).sel [0,1,2,3,4,7,5,8] O qM,V⟩)
    have hsg:=zKw hS2 (k:=k) V
    have hsa:=zIr hS2 hrc (k:=k) V V
    have hdr:(zG rs5_ k).data.length≤1000000000:=by have h:=(hok.n.good.fol.ok ((zG rs5_ k).toEntA) (by show _∈(zG X.ns i).n.a.E;rw[←hf10_7,←hrs];exact List.mem_map_of_mem (zd V))).1.2.2.2;exact Nat.le_trans h qM
    have hds:(zG safe2 k).data.length≤1000000000:=by have h:=hsg.trans hsa.1.symm;have h2:=congrArg (fun e:EntA=>e.data.length) h;exact Nat.le_trans (Nat.le_of_eq h2) hdr
    refine zP (ze [0,1,3,4,6] O qM qN (fun w' hw hS=>zB 0 O zS hS (zB 1 O (zO O) hS (zB 2 O (zH (o:=4) O) hS (zB 3 O (zY 0 (v:=sv2) O O O) hS (zB 4 O zS hS (zB 5 O (yz (pV 3 O) 5 k O O O V) hS (zB 6 O (zFU (pV 3 O) 5 k (off:=xH sv2+k*5) (fun _=>O) O O V) hS (zB 7 O zS hS (zB 8 O zS hS (zB 9 O (yz (pV 4 O) 5 k O O O V) hS (zB 10 O (zFU (pV 4 O) 5 k (off:=xH r4_+k*5) (fun _=>O) O O V) hS ?_))))))))))))
    refine zJ 11 O hw (a_call O O (fun w' hw=>(zJD (zG safe2 k) (zG rs5_ k) w' hds hdr (EntD.rd.star0 5 O hw _ (zd V)) (EntD.rd.star0 7 O hw _ (zC5 (l:=rs5_) (k:=k) (i:=k) V V))).mono ?_))
    rintro _ w1 ⟨rfl,hO⟩
    refine O8 ?_ (hw.qi hO)
    refine zE [0,1,3,4,6] O qM (fun w' hw hS=>zB 12 O (xr (q:=(zG safe2 k).toEntA=(zG rs5_ k).toEntA) O) hS (zT ?_))
    refine Oc8 ?_ hw
    refine za O (fun c7=> ?_) (fun c7=> ?_)
    ·exact absurd (hsg.trans hsa.1.symm) c7
    refine zQ (zV (zD O (zt O O (zr V) O (zI O ?_))))
    exact zg (fun w' hw=>⟨k+1,sv2,safe2,⟨O,O,O,O,O,trivial⟩,⟨⟨by omega,by omega⟩,hS2,hl2⟩,hw.qK (g:=EntD.dres) 7 zKO O,V⟩)
   refine yF O (zV (zD O (zt O O (zr V) O (zI O ?_))))
   exact zg (fun w' hw=>⟨i+1,leads2,sv2,safe2,⟨O,O,trivial⟩,⟨⟨by omega,by omega⟩,hS2,hLd2⟩,hw.sel [0,1,2,3,4,5] O qM,V⟩)
  refine yF O (zC (zI O (zA ?_)))
  exact zU (z9 (v:= .bool true) O O (fun w' hw=>⟨leads',sv',safe',O,hSf,hLd,hle,hSf.1,hw⟩))
end Go.Proofs.YtkkeknmkipkbmaaGreat
