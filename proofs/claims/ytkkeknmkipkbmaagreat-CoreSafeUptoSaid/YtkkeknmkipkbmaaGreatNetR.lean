import Derived.Test.YtkkeknmkipkbmaaGreatRun
import Derived.Test.YtkkeknmkipkbmaaGreatNetB
set_option linter.unusedSectionVars false
set_option linter.unusedSimpArgs false
set_option linter.unusedVariables false
set_option maxRecDepth 10000
namespace Go.Proofs.YtkkeknmkipkbmaaGreat
open Go Go.Sc Go.Proofs
structure Bnd(N lk k:Nat)(X:NetA):Prop where
  len:X.nodes.length=N
  B:∀ i,i<N→NodB N lk k i (zG X.nodes i)
  M:∀ q∈X.way,MsgB N k q
  wl:X.way.length≤16*k
theorem Bnd.up{N lk k:Nat}{X:NetA}(h:Bnd N lk k X):Bnd N lk (k+1) X:=
  ⟨h.len,fun i hi=>(h.B i hi).up (Nat.le_succ k) (Nat.le_refl _),fun q hq=>(h.M q hq).up (Nat.le_succ k),by have:=h.wl;omega⟩
theorem Bnd.sub{N lk k:Nat}{X:NetA}{way:List MsgA}(h:Bnd N lk k X)(hs:way.Sublist X.way):Bnd N lk k ⟨X.nodes,way⟩:=
  ⟨h.len,h.B,fun q hq=>h.M q (hs.mem hq),Nat.le_trans hs.length_le h.wl⟩
theorem zBR{X:NetA}{i j:Nat}{n:NodA}{ms:List MsgA}(hi:i<X.nodes.length):zG (X.call i n ms).nodes j=if j=i then n else zG X.nodes j:=by
  unfold NetA.call
  rw[show zG (X.nodes.set i n) j=if j=i∧i<X.nodes.length then n else zG X.nodes j from xR]
  by_cases c:j=i
  · rw[if_pos ⟨c,hi⟩,if_pos c]
  rw[if_neg (fun q=>c q.1),if_neg c]
theorem Bnd.act{N lk k i:Nat}{ch:Bool}{X:NetA}{n:NodA}{ms:List MsgA}{rs:List RdyD}(hN:1≤N∧N≤5)(hk:k≤99000)(h:Bnd N lk k X)(hi:i<N)(ha:Act N ch lk (· ∈X.way) i (zG X.nodes i) n ms rs):Bnd N lk (k+1) (X.call i n ms):=by
  obtain⟨h1,h2,h3⟩:=zH1 hN hi (h.B i hi) h.M ha V
  have hl:=h.len
  refine⟨by show(X.nodes.set i n).length=N;rw[List.length_set,hl],fun j hj=> ?_,fun q hq=> ?_,by show(X.way++ms).length≤_;rw[List.length_append];have:=h.wl;omega⟩
  · rw[zBR V]
    split
    · rename_i e;rw[e];exact h1
    exact(h.B j hj).up (Nat.le_succ k) (Nat.le_refl _)
  rcases List.mem_append.1 hq with hq|hq
  · exact(h.M q hq).up (Nat.le_succ k)
  exact h2 q hq
structure VotI(N:Nat)(G:Int→Nat→Int→Prop)(X:NetA)(H:Int→Nat→Int→Prop):Prop where
  fn:∀ v T c c',H v T c→H v T c'→c=c'
  nz:∀ v T c,H v T c→c≠0
  nd:∀ i,i<N→∀ T c,H (xX i) T c→T≤(zG X.nodes i).t.term∧(T=(zG X.nodes i).t.term→(zG X.nodes i).t.qD=c)
  cd:∀ i,i<N→(zG X.nodes i).r.qr=3→H (xX i) (zG X.nodes i).t.term (xX i)
  ask:∀ m∈X.way,m.kind=3→H m.src m.term m.src
  yes:∀ m∈X.way,m.kind=4→m.flag=true→H m.src m.term m.dst
  gv:∀ v T c,G v T c→H v T c
def VotP(N:Nat)(G:Int→Nat→Int→Prop)(k:Nat)(X:NetA):Prop:=Bnd N 0 k X∧∃ H,VotI N G X H
theorem kx{i j:Nat}(h:xX i=xX j):i=j:=by unfold xX at h;omega
instance:Inhabited MovD:=⟨⟨0,0,0,0,0⟩⟩
theorem zDr{α:Type}{g:α→List Value}{sz:Nat}(hg:∀ a,(g a).length=sz):∀ (l:List α) (k:Nat),(l.take k).flatMap g=(l.flatMap g).take (k*sz)
  | [],k=>by simp
  |a::l,0=>by simp
  |a::l,k+1=>by
    rw[List.take_succ_cons,List.flatMap_cons,List.flatMap_cons,zDr hg l k,List.take_append,hg,List.take_of_length_le (l:=g a) (by rw[hg,Nat.succ_mul];omega),show(k+1)*sz - sz=k*sz by rw[Nat.succ_mul];omega]
theorem zGo{v:Value}(h:cell1 v=true){k sz:Nat}:cell1 (yy v 0 k sz)=true:=by
  cases v<;>first|exact h|rfl
theorem _root_.Go.Sc.Own.cutN{α:Type}{g:α→List Value}{w0 w:World}{S:List Nat}{L:List Res}{T:TypeId}{v:Value}{l:List α}{sz:Nat}(hg:∀ a,(g a).length=sz)(i k:Nat)(hL:L[i]?=some (Res.vec T sz v l.length (l.flatMap g)))(hk:k≤l.length)(h:Own w0 S L w):Own w0 S (L.set i (Res.vec T sz (yy v 0 k sz) (l.take k).length ((l.take k).flatMap g))) w:=by
  have hlk:(l.take k).length=k:=by rw[List.length_take];omega
  rw[hlk,zDr hg]
  refine h.turn hL ?_ ?_
  · rintro⟨hl,⟨rfl,h1⟩|⟨b,cap,cur,rfl,h0,h1,h2,h3,h4,h5⟩⟩
    · have hk0:k=0:=by omega
      subst hk0
      exact⟨by simp, .inl ⟨O,O⟩⟩
    have e:yy (.slice (some ⟨b,0,none⟩) l.length cap) 0 k sz= .slice (some ⟨b,0,none⟩) k cap:=by
      show kH (some ⟨b,0,none⟩) cap 0 k cap sz=_
      unfold kH
      simp[Addr.add]
    rw[e]
    have hm:k*sz≤l.length*sz:=Nat.mul_le_mul_right _ hk
    refine⟨by rw[List.length_take,hl];omega, .inr ⟨b,cap,cur,O,h0,h1,by omega,h3,h4,?_⟩⟩
    rw[←h5,List.take_take]
    congr 1;omega
  intro b hb
  have:yZ (yy v 0 k sz)=yZ v∨yZ (yy v 0 k sz)=[]:=by
    cases v with
    |slice a m cap=>left;show yZ (kH a cap 0 k cap sz)=_;exact zBW a m cap 0 k cap sz
    |_=>left;rfl
  rcases this with h1|h1
  · show b∈yZ v;rw[←h1];exact hb
  have hb':b∈yZ (yy v 0 k sz):=hb
  rw[h1]at hb';cases hb'
theorem zFZ{κ α:Type}[DecidableEq κ]{k j:κ}{v:α}:∀ {l:List (κ×α)},kz j (zDz k v l)=if j=k then some v else kz j l
  | []=>by simp[zDz,kz]
  |(x,u)::r=>by
    have ih:=zFZ (k:=k) (j:=j) (v:=v) (l:=r)
    unfold zDz
    by_cases h:k=x
    · subst h
      rw[if_pos rfl];unfold kz
      by_cases e:j=k<;>simp[e]
    rw[if_neg h];unfold kz
    rw[ih]
    by_cases e:j=x
    · rw[if_pos e,if_pos e,if_neg (fun q=>h (q.symm.trans e))]
    rw[if_neg e,if_neg e]
theorem zNG{N lk:Nat}(hN:1≤N∧N≤5):Bnd N lk 0 ⟨(List.range N).map jU,[]⟩:=by
  have hn:∀ i,i<N→zG ((List.range N).map jU) i=jU i:=fun i hi=>by rw[kK (by rw[List.length_range];exact hi)];congr 1;exact nth_eq (List.getElem?_range hi)
  refine⟨by show((List.range N).map jU).length=N;rw[List.length_map,List.length_range],fun i hi=> ?_,fun q hq=>absurd hq qQ,Nat.zero_le _⟩
  show NodB N lk 0 i (zG ((List.range N).map jU) i)
  rw[hn i hi]
  exact⟨Nat.le_refl _,Nat.le_refl _,⟨Nat.zero_le _,Nat.zero_le _,trivial⟩,fun e he=>(by cases he),Nat.le_refl _,⟨by show(0:Int)≤0∧(0:Int)≤_;decide,by show(0:Int)≤0∧(0:Int)≤_;decide,by show(0:Int)≤0∧(0:Int)≤_;decide,by show(0:Int)≤0∧(0:Int)≤_;decide,by show(0:Int)≤0∧(0:Int)≤0;decide⟩,⟨fun q=>absurd q (by show ¬(1:Int)=4;decide),fun q=>absurd q (by show ¬ false=true;decide)⟩,fun q=>by rcases q with q|q<;>exact absurd q (by show ¬(1:Int)=_;decide),⟨List.nodup_nil,fun v hv=>by cases hv⟩,Nat.le_refl _,fun l q=>by cases q⟩
theorem zNu{l m:List UInt8}:((⟨l.toArray⟩:ByteArray)=⟨m.toArray⟩)↔l=m:=by
  constructor
  · intro h;have:=congrArg (fun b:ByteArray=>b.data.toList) h;simpa using this
  intro h;rw[h]
theorem entA_eq{x y:EntA}:x=y↔(((((x.index:Nat):Int)=((y.index:Nat):Int)∧((x.term:Nat):Int)=((y.term:Nat):Int))∧x.kind=y.kind)∧x.delta=y.delta)∧(⟨x.data.toArray⟩:ByteArray)=⟨y.data.toArray⟩:=by
  rw[zNu];cases x;cases y;simp only[EntA.mk.injEq,Int.ofNat_inj,and_assoc]
theorem zI8(x y:EntD)(w:World)(hx:x.data.length≤1000000000)(hy:y.data.length≤1000000000)(rd_x:EntD.rd x w [])(rd_y:EntD.rd y w []):Rets Tryz.prog 55 #[.agg (EntD.cells x).toArray, .agg (EntD.cells y).toArray] w fun u_ w'=>u_= .bool (decide (x.toEntA=y.toEntA))∧Own w [] [] w':=by
  refine zW Tryz.func55 O Tryz.ntmps55 (Own.start w) ?_
  refine zB (z3 O O (fun b2=>z3 O O (fun b3=>zI O (zA (zB (zJ (o:=0) O O (zL 0 (v:=Vn x.index) O O O O (zJ (o:=0) O O (zL 1 (v:=Vn y.index) O O O O (yQ O O O (zD O (yK (q:=((x.index:Nat):Int)=((y.index:Nat):Int)) 5 5 [15,14,13,12,11] (((x.term:Nat):Int)=((y.term:Nat):Int)) O O O O O O trivial O (fun h1_5=> ?_) (fun g1_11=> ?_)))))))))))))
  ·refine zR O (gT h1_5) (zJ (o:=1) O O (zR O (gT h1_5) (zL 0 (v:=Vn x.term) O O O O (zR O (gT h1_5) (zJ (o:=1) O O (zR O (gT h1_5) (zL 1 (v:=Vn y.term) O O O O (zR O (gT h1_5) (yQ O O O ?_)))))))))
   exact yP O (fun _ hw=>hw)
  refine zD O (yK (q:=(((x.index:Nat):Int)=((y.index:Nat):Int))∧(((x.term:Nat):Int)=((y.term:Nat):Int))) 5 12 [22,21,20,19,18] (x.kind=y.kind) O O O O O O trivial O (fun h1_12=> ?_) (fun g1_18=> ?_))
  ·refine zR O (gT h1_12) (zJ (o:=2) O O (zR O (gT h1_12) (zL 0 (v:=Vi x.kind) O O O O (zR O (gT h1_12) (zJ (o:=2) O O (zR O (gT h1_12) (zL 1 (v:=Vi y.kind) O O O O (zR O (gT h1_12) (yQ O O O ?_)))))))))
   exact yP O (fun _ hw=>hw)
  refine zD O (yK (q:=((((x.index:Nat):Int)=((y.index:Nat):Int))∧(((x.term:Nat):Int)=((y.term:Nat):Int)))∧(x.kind=y.kind)) 5 19 [29,28,27,26,25] (x.delta=y.delta) O O O O O O trivial O (fun h1_19=> ?_) (fun g1_25=> ?_))
  ·refine zR O (gT h1_19) (zJ (o:=3) O O (zR O (gT h1_19) (zL 0 (v:=Vi x.delta) O O O O (zR O (gT h1_19) (zJ (o:=3) O O (zR O (gT h1_19) (zL 1 (v:=Vi y.delta) O O O O (zR O (gT h1_19) (yQ O O O ?_)))))))))
   exact yP O (fun _ hw=>hw)
  refine zD O (yK (q:=(((((x.index:Nat):Int)=((y.index:Nat):Int))∧(((x.term:Nat):Int)=((y.term:Nat):Int)))∧(x.kind=y.kind))∧(x.delta=y.delta)) 7 26 [38,37,36,35,34,33,32] ((⟨x.data.toArray⟩:ByteArray)=(⟨y.data.toArray⟩:ByteArray)) O O O O O O trivial O (fun h1_26=> ?_) (fun g1_34=> ?_))
  ·refine zR O (gT h1_26) (zJ (o:=4) O O (zR O (gT h1_26) (zL 0 (v:=x.dv) O O O O (zR O (gT h1_26) (zOB (bs:=x.data) qN qN O (fun w' hw'=>Own.rd rd_x.dv hw') O (zR O (gT h1_26) (zJ (o:=4) O O (zR O (gT h1_26) (zL 1 (v:=y.dv) O O O O (zR O (gT h1_26) (zOB (bs:=y.data) qN qN O (fun w' hw'=>Own.rd rd_y.dv hw') O (zR O (gT h1_26) ?_))))))))))))
   refine zPx O O O ?_
   exact yP O (fun _ hw=>hw)
  refine zI O (zA ?_)
  exact zV (z6 (v:= .bool (decide (((((((x.index:Nat):Int)=((y.index:Nat):Int))∧(((x.term:Nat):Int)=((y.term:Nat):Int)))∧(x.kind=y.kind))∧(x.delta=y.delta))∧((⟨x.data.toArray⟩:ByteArray)=(⟨y.data.toArray⟩:ByteArray))))) O O (fun w' hw=>⟨(by congr 1;exact decide_eq_decide.2 (by exact entA_eq.symm)),hw.drop⟩))
theorem zOZ{S:List Nat}(cb jb:Nat)(t:TimD)(a:StA)(r:RolD)(b:StB)(yv lead:Value)(qd:Nat)(lv:Value)(es:List EntD)(w:World)(hg:(LG 0 0 es).good)(hl:es.length≤100000)(hin:Own w S [z4 cb t lead a r b yv jb qd (.pointer none),Res.nl b lv es] w):Rets Tryz.prog 21 #[pt cb] w fun u_ w'=>∃ (lb:Nat) (lv':Value) (es':List EntD),u_=pt lb∧es'.map EntD.toEntA=es.map EntD.toEntA∧Own w S [z4 cb t lead a r b yv jb qd (.pointer none),Res.nl b lv es,Res.row lb 144 [Vn 0,Vn 0,lv'],vE lv' es',sE es'] w':=by
  refine zW Tryz.func21 O Tryz.ntmps21 hin ?_
  refine zB (zI O (zA (zN (zB (zD O (xf qN O O O (zA (xt O (zO (zB (zD O (za O O ?_))))))))))))
  refine zJ (o:=29) O O (zL 0 (v:=pt b.lb) O O O O ?_)
  refine z2 [z4 cb t lead a r b yv jb qd (.pointer none),Res.row b.lb 144 [Vn 0,Vn 0,lv],vE lv es,sE es,vI b.vv b.vs,vI b.wv ([]:List Int)] (fun w' hw=>hw.qn 1 O) ?_
  refine a_call O O (fun w' hw=>(zOS b.lb 0 0 lv es w' qO ‹_› (hw.give [1,2,3] O qM)).mono ?_)
  rintro _ w1 ⟨b1_,lv'2_,es'3_,rfl,hf3_4,hO⟩
  refine(?_:CL _ _ _ _ _ _ (Own w S [z4 cb t lead a r b yv jb qd (.pointer none),vI b.vv b.vs,vI b.wv ([]:List Int),Res.row b.lb 144 [Vn 0,Vn 0,lv],vE lv es,sE es,Res.row b1_ 144 [Vn 0,Vn 0,lv'2_],vE lv'2_ es'3_,sE es'3_])) w1 (hw.qg [1,2,3] O hO)
  refine zI O (zA ?_)
  exact zV (z6 (v:=pt b1_) O O (fun w' hw=>⟨b1_,lv'2_,es'3_,O,hf3_4,(hw.qo [3,4,5,1,2] O qM).sel [0,4,1,2,3] O qM⟩))
theorem zBj{α:Type}[Inhabited α]{l:List α}{k:Nat}(hk:k<l.length):l.set k (zG l k)=l:=by
  refine List.ext_getElem? fun i=> ?_
  rw[List.getElem?_set]
  split
  · rename_i e;subst e;exact(ya hk).symm
  rfl
theorem zN2(ns:List CorD)(k pb:Nat)(w:World)(hk:k<ns.length)(hpb:(zG ns k).cb=pb)(hok:(zG ns k).ok)(hin:Own w (y2 [Res.star (ns.map CorD.dres)]) [Res.star (ns.map CorD.dres)] w):Rets Tryz.prog 21 #[pt pb] w fun u_ w'=>∃ (lb:Nat) (lv':Value) (es':List EntD),u_=pt lb∧es'.map EntD.toEntA=(zG ns k).n.a.E∧Own w (y2 [Res.star (ns.map CorD.dres)]) [Res.star (ns.map CorD.dres),Res.row lb 144 [Vn 0,Vn 0,lv'],vE lv' es',sE es'] w':=by
  subst hpb
  have h0:=hin.qI 0 k hk rfl
  have hn:=hok.n
  refine(zOZ (zG ns k).cb (zG ns k).jb (zG ns k).n.t (zG ns k).a (zG ns k).n.r (zG ns k).b (zG ns k).n.yv (xJ (zG ns k).n.y) (zG ns k).qd (zG ns k).n.lv (zG ns k).n.es w hn.good hn.len' (((h0.give [0] O qM).qn 0 O).give [0,1] O qM)).mono ?_
  rintro _ w1 ⟨lb,lv',es',rfl,hf,hO⟩
  have h2:=((h0.give [0] rfl qM).qn 0 rfl).qg [0,1] rfl hO
  have h3:=(h0.qg [0] rfl ((h2.qo [2,3,0,1] rfl qM).sel [3,0,1,2] rfl qM)).qL 1 0 k (zG ns k) hk qM rfl rfl
  rw[zBj hk]at h3
  exact⟨lb,lv',es',O,hf,h3.sel [3,0,1,2] O qM⟩
theorem zMw(ns:List CorD)(k pb:Nat)(w:World)(hk:k<ns.length)(hpb:(zG ns k).cb=pb)(hin:Own w (y2 [Res.star (ns.map CorD.dres)]) [Res.star (ns.map CorD.dres)] w):Rets Tryz.prog 13 #[pt pb] w fun u_ w'=>u_= .tuple #[.agg #[Vn ((zG ns k).n.t.term),Vi ((zG ns k).n.t.qD)],Vi ((zG ns k).n.r.qr),Vi ((zG ns k).n.r.who),Vn ((zG ns k).n.r.qc)]∧Own w (y2 [Res.star (ns.map CorD.dres)]) [Res.star (ns.map CorD.dres)] w':=by
  subst hpb
  have h0:=hin.qI 0 k hk rfl
  refine(zHg (zG ns k).cb (zG ns k).jb (zG ns k).n.t (zG ns k).a (zG ns k).n.r (zG ns k).b (xJ (zG ns k).n.y) (zG ns k).n.yv (.pointer none) (zG ns k).qd w (((h0.give [0] O qM).qn 0 O).give [0] O qM)).mono ?_
  rintro _ w1 ⟨rfl,hO⟩
  have h2:=((h0.give [0] rfl qM).qn 0 rfl).qg [0] rfl hO
  have h3:=(h0.qg [0] rfl (h2.qo [3,0,1,2] rfl qM)).qL 1 0 k (zG ns k) hk qM rfl rfl
  rw[zBj hk]at h3
  exact⟨O,h3.sel [0] O qM⟩
structure RightP(N:Nat)(Ld:Nat→Int→Prop)(Sf:List EntA)(X:NetD):Prop where
  fn:∀ T i j,Ld T i→Ld T j→i=j
  ld:∀ i,i<N→(zG X.ns i).n.r.qr=4→Ld (zG X.ns i).n.t.term (i:Int)
  sf:∀ i,i<N→(zG X.ns i).n.r.qc≤Sf.length∧(zG X.ns i).n.a.E.take (zG X.ns i).n.r.qc=Sf.take (zG X.ns i).n.r.qc
def kg(Sf:List EntA)(safe:List EntD):Prop:=safe.length≤Sf.length∧safe.map EntD.toEntA=Sf.take safe.length
def ku(Ld:Nat→Int→Prop)(leads:List (Nat×Int)):Prop:=∀ T j,kz T leads=some j→Ld T j
theorem zJB{Ld:Nat→Int→Prop}{leads:List (Nat×Int)}{T:Nat}{i:Int}(h:ku Ld leads)(hi:Ld T i):ku Ld (zDz T i leads):=by
  intro U j hj
  rw[zFZ]at hj
  split at hj
  · rename_i e;cases hj;rw[e];exact hi
  exact h U j hj
theorem zLJ{N:Nat}{Ld:Nat→Int→Prop}{Sf:List EntA}{X:NetD}{leads:List (Nat×Int)}{i T:Nat}(hR:RightP N Ld Sf X)(h:ku Ld leads)(hi:Ld T (i:Int)):¬((kz T leads).isSome=true∧(kz T leads).getD 0≠(i:Int)):=by
  rintro⟨h1,h2⟩
  cases hg:kz T leads with
  |none=>rw[hg]at h1;cases h1
  |some j=>rw[hg]at h2;exact h2 (hR.fn T j i (h T j hg) hi)
theorem zQI{es rs:List EntD}{e:Int}(hl:es.length≤100000)(hf:(LG 0 0 es).fromE 1 4611686018427387904=(rs.map EntD.toEntA,e)):e=0∧rs.map EntD.toEntA=es.map EntD.toEntA:=by
  rw[LG.fromE_eq,if_neg V,if_neg V,if_neg V]at hf
  have e1:((es.map EntD.toEntA).drop (1 - 0 - 1)).take (4611686018427387904:Int).toNat=rs.map EntD.toEntA:=congrArg Prod.fst hf
  exact⟨(congrArg Prod.snd hf).symm,by rw[←e1,List.drop_zero,List.take_of_length_le qX]⟩
theorem zHo{Sf:List EntA}{safe rs:List EntD}{c k:Nat}(hS:kg Sf safe)(hc:(rs.map EntD.toEntA).take c=Sf.take c)(hcl:c≤rs.length)(hk:k<c):(zG rs k).toEntA=zG Sf k∧k<Sf.length:=by
  have h1:(rs.map EntD.toEntA)[k]?=Sf[k]?:=by
    have h:=congrArg (fun l:List EntA=>l[k]?) hc
    simpa [List.getElem?_take,hk]using h
  rw[List.getElem?_map,ya V]at h1
  exact⟨(nth_eq h1.symm).symm,(List.getElem?_eq_some_iff.1 h1.symm).1⟩
theorem zIZ{Sf:List EntA}{safe rs:List EntD}{c:Nat}(hS:kg Sf safe)(hc:(rs.map EntD.toEntA).take c=Sf.take c)(hcl:c≤rs.length)(hk:safe.length<c):kg Sf (safe++[zG rs safe.length]):=by
  obtain⟨h1,h2⟩:=zHo hS hc hcl hk
  refine⟨by rw[List.length_append];show safe.length+1≤_;omega,?_⟩
  rw[List.map_append,hS.2,List.length_append]
  show _++[(zG rs safe.length).toEntA]=Sf.take (safe.length+1)
  rw[zt h2,h1]
theorem zFU{Sf:List EntA}{safe rs:List EntD}{c k m:Nat}(hS:kg Sf safe)(hc:(rs.map EntD.toEntA).take c=Sf.take c)(hcl:c≤rs.length)(hk:k<c)(he:(k:Int)=(safe.length:Int))(hm:m≤safe.length):(k+1≤c∧k+1≤(safe++[zG rs k]).length)∧kg Sf (safe++[zG rs k])∧m≤(safe++[zG rs k]).length:=by
  have e:k=safe.length:=by omega
  subst e
  exact⟨⟨hk,by simp⟩,zIZ hS hc hcl hk,by rw[List.length_append];omega⟩
theorem zKC{Sf:List EntA}{safe:List EntD}{k:Nat}(hS:kg Sf safe)(hk:k<safe.length):(zG safe k).toEntA=zG Sf k:=by
  have h:(safe.map EntD.toEntA)[k]?=Sf[k]?:=by rw[hS.2,List.getElem?_take,if_pos hk]
  rw[List.getElem?_map,ya hk]at h
  exact(nth_eq h.symm).symm
theorem zJY{α:Type}{l:List α}{k:Nat}:(l.drop (k+1)).Sublist (l.drop k):=by
  rw[←List.drop_drop];exact List.drop_sublist _ _
theorem zDI{α:Type}[Inhabited α]{l:List α}{k i:Nat}(h1:k≤i)(h2:i<l.length):zG l i∈l.drop k:=List.mem_iff_getElem?.2 ⟨i - k,by rw[List.getElem?_drop,show k+(i - k)=i by omega];exact ya h2⟩
theorem _root_.Go.Sc.Own.elOn{α:Type}[Inhabited α]{g:α→Res}{w0 w:World}{S:List Nat}{L:List Res}{ms ns:List α}{k:Nat}(i j:Nat)(hij:i≠j)(hk:k<ms.length)(h1:L[i]?=some (Res.star (ns.map g)))(h2:L[j]?=some (Res.star ((ms.drop k).map g)))(h:Own w0 S L w):Own w0 S (yi [i,j] 0 L++[Res.star ((ns++[zG ms k]).map g),Res.star ((ms.drop (k+1)).map g)]) w:=by
  have hq: [i,j].mapM (fun i=>L[i]?)=some [Res.star (ns.map g),Res.star ((ms.drop k).map g)]:=by simp[h1,h2]
  refine h.qg [i,j] hq ?_
  have h3:=(h.give [i,j] hq (by simp[hij])).qn 1 rfl
  rw[jp hk,List.map_cons]at h3
  have h3:Own w (y2 [Res.star (ns.map g),Res.star (g (zG ms k)::(ms.drop (k+1)).map g)]) ([Res.star (ns.map g),g (zG ms k)]++(ms.drop (k+1)).map g) w:=h3
  have h4:=h3.shutEnd
  have h5:=h4.qJ (x:=zG ms k) 0 1 qM rfl rfl
  rw[jp hk,List.map_cons]
  exact h5
theorem zMq{S:List Nat}(N:Nat)(Ld:Nat→Int→Prop)(Sf:List EntA)(xb:Nat)(X:NetD)(leads:List (Nat×Int))(w:World)(hN:1≤N∧N≤5)(hX:X.st N)(hOk:NetOk N X.a)(hR:RightP N Ld Sf X)(hS:kg Sf X.safe)(hL:ku Ld leads)(hSl:Sf.length≤100000)(hin:Own w S [Res.row xb 73 (NetD.cells X),Res.vec 27 1 X.nv X.cbs.length (X.cbs.flatMap CP),Res.star (X.ns.map CorD.dres),Res.mp ekU ekI X.mb leads,vE X.sv X.safe,sE X.safe] w):Rets Tryz.prog 20 #[pt xb] w fun u_ w'=>∃ (leads':List (Nat×Int)) (sv':Value) (safe':List EntD),u_= .bool true∧kg Sf safe'∧ku Ld leads'∧X.safe.length≤safe'.length∧safe'.length≤Sf.length∧Own w S [Res.row xb 73 (NetD.cells ({X with sv:=sv',safe:=safe'}:NetD)),Res.vec 27 1 X.nv X.cbs.length (X.cbs.flatMap CP),Res.star (X.ns.map CorD.dres),Res.mp ekU ekI X.mb leads',vE sv' safe',sE safe'] w':=by
  have hcl:X.cbs.length=N:=by rw[hX.cbs,List.length_map,hX.len]
  have hnl:=hX.len
  refine zW Tryz.func20 O Tryz.ntmps20 hin ?_
  refine zB (zI O (zA (zN (zB (zI O (zA (zX ?_)))))))
  refine zMe (fun(i:Nat) (leads':List (Nat×Int)) (sv':Value) (safe':List EntD)=>[(0,pt xb),(3,Vj i)]) (fun(i:Nat) (leads':List (Nat×Int)) (sv':Value) (safe':List EntD)=>(i≤N∧X.safe.length≤safe'.length)∧kg Sf safe'∧ku Ld leads') (fun(i:Nat) (leads':List (Nat×Int)) (sv':Value) (safe':List EntD)=>[Res.row xb 73 (NetD.cells ({X with sv:=sv',safe:=safe'}:NetD)),Res.vec 27 1 X.nv X.cbs.length (X.cbs.flatMap CP),Res.star (X.ns.map CorD.dres),Res.mp ekU ekI X.mb leads',vE sv' safe',sE safe']) (fun(i:Nat) (leads':List (Nat×Int)) (sv':Value) (safe':List EntD)=>N - i) (fun w' hw=>⟨0,leads,X.sv,X.safe,⟨O,O,trivial⟩,⟨⟨by omega,by omega⟩,hS,hL⟩,hw⟩) (fun i leads' sv' safe' g hΦ=> ?_)
  have hLd:=hΦ.2.2
  have hSf:=hΦ.2.1
  have hle:=hΦ.1.2
  refine zN (zB (zD O (zD O (za O O (zJ (o:=0) O O (zL 0 (v:=X.nv) O O O O (zo (pV 1 O) O O (yG O O O (zA (zY O (fun c1=> ?_) (fun c1=> ?_)))))))))))
  ·have hi:i<N:=by omega
   have hok:=hX.ok hOk hN.2 hi
   have hsf:=hR.sf i hi
   have hcm:=hok.n.hcl'
   have hln:=hok.n.len'
   refine zO (zN (zX (zB (zD O (za O O (zJ (o:=0) O O (zL 0 (v:=X.nv) O O O O (zD O (zi (pV 1 O) 1 i O O O V O (yF (pV 1 O) 1 i 0 (fun _=>O) O O V O O (a_call O O (fun w' hw=>(zMw X.ns i (zG X.cbs i) w' V (hX.cb V) (hw.give [2] O qM)).mono ?_))))))))))))
   rintro _ w1 ⟨rfl,hO⟩
   refine(?_:CL _ _ _ _ _ _ (Own w S [Res.row xb 73 (NetD.cells ({X with sv:=sv',safe:=safe'}:NetD)),Res.vec 27 1 X.nv X.cbs.length (X.cbs.flatMap CP),Res.mp ekU ekI X.mb leads',vE sv' safe',sE safe',Res.star (X.ns.map CorD.dres)])) w1 (hw.qg [2] O hO)
   refine zD O (z8 (vs:=[.agg #[Vn ((zG X.ns i).n.t.term),Vi ((zG X.ns i).n.t.qD)],Vi ((zG X.ns i).n.r.qr),Vi ((zG X.ns i).n.r.who),Vn ((zG X.ns i).n.r.qc)]) O O O (z8 (vs:=[.agg #[Vn ((zG X.ns i).n.t.term),Vi ((zG X.ns i).n.t.qD)],Vi ((zG X.ns i).n.r.qr),Vi ((zG X.ns i).n.r.who),Vn ((zG X.ns i).n.r.qc)]) O O O (z8 (vs:=[.agg #[Vn ((zG X.ns i).n.t.term),Vi ((zG X.ns i).n.t.qD)],Vi ((zG X.ns i).n.r.qr),Vi ((zG X.ns i).n.r.who),Vn ((zG X.ns i).n.r.qc)]) O O O (z8 (vs:=[.agg #[Vn ((zG X.ns i).n.t.term),Vi ((zG X.ns i).n.t.qD)],Vi ((zG X.ns i).n.r.qr),Vi ((zG X.ns i).n.r.who),Vn ((zG X.ns i).n.r.qc)]) O O O (yE (v:= .agg #[Vn 0,Vi 0]) qN O (fun b4=>zr 6 O O O (xQ O) O (zI O (zI O (zI O (zA (yt (fun(leads2:List (Nat×Int))=>[(0,pt xb),(3,Vj i),(7,Vn ((zG X.ns i).n.r.qc))]) (fun(leads2:List (Nat×Int))=>ku Ld leads2) (fun(leads2:List (Nat×Int))=>[Res.row xb 73 (NetD.cells ({X with sv:=sv',safe:=safe'}:NetD)),Res.vec 27 1 X.nv X.cbs.length (X.cbs.flatMap CP),Res.star (X.ns.map CorD.dres),Res.mp ekU ekI X.mb leads2,vE sv' safe',sE safe']) ?_ (fun leads2 g hΦ=> ?_))))))))))))
   ·refine zB (zD O (yQ O O O (zA (zY O (fun c2=> ?_) (fun c2=> ?_)))))
    ·refine yX qN qN (zM O zT (zM O (zQ O) (zM O (zH (o:=3) O) (zM O (zZ 0 (v:= .map (some X.mb)) O O O) (zM O (zH (o:=0) O) (zM O (zZ 6 (v:=Vn ((zG X.ns i).n.t.term)) O O O) (zM O (zPW (k:=(zG X.ns i).n.t.term) (kv:=leads') (zv:=0) zQS zN7 zPh O O (fun w' hw'=>Own.holds hw' 2 _ O)) (zM O zT (zM O (yT (vs:=[Vi ((kz ((zG X.ns i).n.t.term) leads').getD 0), .bool ((kz ((zG X.ns i).n.t.term) leads').isSome)]) O O) (zM O (yT (vs:=[Vi ((kz ((zG X.ns i).n.t.term) leads').getD 0), .bool ((kz ((zG X.ns i).n.t.term) leads').isSome)]) O O) (zM O yO (zM O yO ?_))))))))))))
     refine xk (zN (zB (zD O (zD O (yK (q:=((kz ((zG X.ns i).n.t.term) leads').isSome)=true) 3 1 [52,51,50] (((kz ((zG X.ns i).n.t.term) leads').getD 0)≠((i:Nat):Int)) O O (xZ _) O O O trivial O (fun h7_1=> ?_) (fun g7_5=> ?_))))))
     ·refine zR O (bT h7_1) (zD O (zR O (bT h7_1) (zD O (zR O (bT h7_1) (xn O O O ?_)))))
      exact yP O (fun _ hw=>hw)
     refine zA (zY O (fun c3=> ?_) (fun c3=> ?_))
     ·exact absurd c3 (zLJ hR hLd (hR.ld i hi c2))
     refine zO (zg [0,1,3,6] O qM qN (fun w' hw hS=>zC 0 O zT hS (zC 1 O (zQ O) hS (zC 2 O (zH (o:=3) O) hS (zC 3 O (zZ 0 (v:= .map (some X.mb)) O O O) hS (zC 4 O (zH (o:=0) O) hS (zC 5 O (zZ 3 (v:=Vn ((zG X.ns i).n.t.term)) O O O) hS (zC 6 O zT hS (zK 7 O hw (zPO 2 (k:=(zG X.ns i).n.t.term) (v:=((i:Nat):Int)) zQS zN7 O O O O (zE [0,1,3,6] O qM (fun w' hw hS=>zU ?_))))))))))))
     exact⟨zDz (zG X.ns i).n.t.term ((i:Nat):Int) leads',⟨O,O,O,trivial⟩,zJB hLd (hR.ld i hi c2),hw.sel [0,1,5,2,3,4] O qM⟩
    exact yc (fun w' hw=>⟨leads',⟨O,O,O,trivial⟩,hLd,hw.sel [0,1,5,2,3,4] O qM⟩)
   have hLd2:=hΦ
   refine zB (zD O (za O O (zJ (o:=0) O O (zL 0 (v:=X.nv) O O O O (zD O (zi (pV 1 O) 1 i O O O V O (yF (pV 1 O) 1 i 0 (fun _=>O) O O V O O (a_call O O (fun w' hw=>(zN2 X.ns i (zG X.cbs i) w' V (hX.cb V) (hX.ok hOk hN.2 V) (hw.give [2] O qM)).mono ?_)))))))))
   rintro _ w1 ⟨lb1_,lv'2_,es'3_,rfl,hf10_7,hO⟩
   have hel:es'3_.length=(zG X.ns i).n.es.length:=by have h:=congrArg List.length hf10_7;rw[List.length_map]at h;rw[h];exact List.length_map _
   have hge:(LG 0 0 es'3_).good:=by show(LogA.mk 0 0 (es'3_.map EntD.toEntA)).good;rw[hf10_7];exact hok.n.good
   refine(?_:CL _ _ _ _ _ _ (Own w S [Res.row xb 73 (NetD.cells ({X with sv:=sv',safe:=safe'}:NetD)),Res.vec 27 1 X.nv X.cbs.length (X.cbs.flatMap CP),Res.mp ekU ekI X.mb leads2,vE sv' safe',sE safe',Res.star (X.ns.map CorD.dres),Res.row lb1_ 144 [Vn 0,Vn 0,lv'2_],vE lv'2_ es'3_,sE es'3_])) w1 (hw.qg [2] O hO)
   refine zI O (zA (zB (zD O (a_call O O (fun w' hw=>(zHA lb1_ 0 0 lv'2_ es'3_ 1 4611686018427387904 w' V hge (hw.rdRes0 6 O) (hw.qp 7 O) (EntD.rd.star0 8 O hw)).mono ?_)))))
   rintro _ w1 ⟨r4_,rs5_,e6_,rfl,hf11_1,hO⟩
   obtain⟨he0,hrs⟩:=zQI V hf11_1
   have hrl:rs5_.length=(zG X.ns i).n.es.length:=by have h:=congrArg List.length hrs;rw[List.length_map,List.length_map]at h;omega
   have hrc:(rs5_.map EntD.toEntA).take (zG X.ns i).n.r.qc=Sf.take (zG X.ns i).n.r.qc:=by rw[hrs,hf10_7];exact hsf.2
   refine(?_:CL _ _ _ _ _ _ (Own w S [Res.row xb 73 (NetD.cells ({X with sv:=sv',safe:=safe'}:NetD)),Res.vec 27 1 X.nv X.cbs.length (X.cbs.flatMap CP),Res.mp ekU ekI X.mb leads2,vE sv' safe',sE safe',Res.star (X.ns.map CorD.dres),Res.row lb1_ 144 [Vn 0,Vn 0,lv'2_],vE lv'2_ es'3_,sE es'3_,vE r4_ rs5_,sE rs5_])) w1 (hw.qi hO)
   refine zD O (z8 (vs:=[r4_,Vi e6_]) O O O (z8 (vs:=[r4_,Vi e6_]) O O O (zI O (zI O (zA (zN (zB (zD O (xn O O O (zD O (yn (q:=e6_≠0) 5 2 [81,80,79,78,77] (((rs5_.length:Nat):Int)<(((zG X.ns i).n.r.qc:Nat):Int)) O O O O O O trivial O (fun h12_2=> ?_) (fun g12_8=> ?_))))))))))))
   ·refine zR O (gF h12_2) (zD O (zR O (gF h12_2) (zD O (zR O (gF h12_2) (zo (pV 9 O) O O (zR O (gF h12_2) (xo qN O (xO V) O ?_ qN)))))))
    refine zR O (gF h12_2) (y0 O O O ?_)
    exact yP O (fun _ hw=>hw)
   refine zA (zY O (fun c4=> ?_) (fun c4=> ?_))
   ·exact absurd c4 V
   refine zO (zB (zI O (zA (zX ?_))))
   refine xi (fun(k:Nat) (sv2:Value) (safe2:List EntD)=>[(0,pt xb),(3,Vj i),(7,Vn ((zG X.ns i).n.r.qc)),(11,r4_),(13,Vj k)]) (fun(k:Nat) (sv2:Value) (safe2:List EntD)=>(k≤(zG X.ns i).n.r.qc∧k≤safe2.length)∧kg Sf safe2∧X.safe.length≤safe2.length) (fun(k:Nat) (sv2:Value) (safe2:List EntD)=>[Res.row xb 73 (NetD.cells ({X with sv:=sv2,safe:=safe2}:NetD)),Res.vec 27 1 X.nv X.cbs.length (X.cbs.flatMap CP),Res.star (X.ns.map CorD.dres),Res.mp ekU ekI X.mb leads2,vE sv2 safe2,sE safe2,vE r4_ rs5_,sE (rs5_.drop k)]) (fun(k:Nat) (sv2:Value) (safe2:List EntD)=>(zG X.ns i).n.r.qc - k) (fun w' hw=>⟨0,sv',safe',⟨O,O,O,O,O,trivial⟩,⟨⟨by omega,by omega⟩,hSf,hle⟩,hw.sel [0,1,5,2,3,4,9,10] O qM⟩) (fun k sv2 safe2 g hΦ=> ?_)
   have hk1:=hΦ.1
   have hS2:=hΦ.2.1
   have hl2:=hΦ.2.2
   have hS2l:=hS2.1
   refine zN (zB (zD O (zD O (xo qN O (zq V) O ?_ qN))))
   refine yG O O O (zA (zY O (fun c5=> ?_) (fun c5=> ?_)))
   ·refine zO (zN (zX (zB (zD O (zD O (za O O (zJ (o:=4) O O (zL 0 (v:=sv2) O O O O (zo (pV 4 O) O O (yQ O O O (zA (zY O (fun c6=> ?_) (fun c6=> ?_)))))))))))))
    ·refine zg [1,3,6] O qM qN (fun w' hw hS=>zC 0 O zT hS (zC 1 O zT hS (zC 2 O (zQ O) hS (zC 3 O (zH (o:=4) O) hS (zC 5 O zT hS (zC 6 O zT hS (zC 7 O (y8 (pV 2 O) 5 k O O O V) hS (zC 8 O (zEn (pV 2 O) 5 k (off:=xE r4_+k*5) (fun _=>O) O O V) hS (zu 4 9 ?_ ?_)))))))))
     ·refine zm 4 O hw (zL 0 (v:=sv2) O O O O (zE [1,3,6] O qM (fun w' hw hS=>zK 9 O hw (zy (e:=81) (sz:=5) (vs:=[.agg (EntD.cells (zG rs5_ k)).toArray]) qN O O wi qM O (fun b105=>zE [1,3,6] O qM (fun w' hw hS=>zK 10 O hw ?_))))))
      refine zP (fun w' hw=>Sl.cell1 (Rd.φ (EntD.rd.star0 7 O hw _ (zDI (l:=rs5_) (k:=k) (i:=k) V V)).dv)) (fun hc4_=> ?_)
      refine z7 (g:=EntD.cells) (sz:=5) (by':=56) (fun _=>O) (l:=safe2) (l':=[(zG rs5_ k)]) (all_cons ((zF O (zF O (zF O (zF O (zF hc4_ zj)))))) qQ) 4 qN O O O (fun w' hw'=>Vec.sl (Own.holds hw' 8 _ O)) qO qM O (fun v106=>zE [1,3,6] O qM (fun w' hw hS=>zC 11 O (zQ O) hS (zC 12 O (zH (o:=4) O) hS (zK 13 O hw ?_))))
      refine zP (fun w' hw=>Own.qh (i:=4) O hw) (fun hc5_=> ?_)
      refine zn (cs:=(NetD.cells ({X with sv:=sv2,safe:=safe2}:NetD))) 0 O O O hc5_ O (zE [1,3,6] O qM (fun w' hw hS=>zU ?_))
      refine(?_:C _ _ _ _ _ _ _ (Own w S [Res.row xb 73 (NetD.cells ({X with sv:=v106,safe:=safe2++[(zG rs5_ k)]}:NetD)),Res.vec 27 1 X.nv X.cbs.length (X.cbs.flatMap CP),Res.star (X.ns.map CorD.dres),Res.mp ekU ekI X.mb leads2,vE v106 (safe2++[(zG rs5_ k)]),sE safe2,vE r4_ rs5_,sE (rs5_.drop k),vE (.slice (some ⟨b105,0,none⟩) 1 1) [(zG rs5_ k)]])) _ hw
      refine zS (zD O (zp O O (zq V) O (zI O ?_)))
      exact zd (fun w' hw=>⟨k+1,v106,safe2++[zG rs5_ k],⟨O,O,O,O,O,trivial⟩,zFU hS2 hrc V V c6 hl2,(hw.elOn (g:=EntD.dres) 5 7 qM V O O).sel [0,1,2,3,4,7,5,8] O qM,V⟩)
     refine zm 9 O hw (zy (e:=81) (sz:=5) (vs:=[.agg (EntD.cells (zG rs5_ k)).toArray]) qN O O wi qM O (fun b105=>zE [1,3,6] O qM (fun w' hw hS=>zK 4 O hw (zL 0 (v:=sv2) O O O O (zE [1,3,6] O qM (fun w' hw hS=>zK 10 O hw ?_))))))
     refine zP (fun w' hw=>Sl.cell1 (Rd.φ (EntD.rd.star0 7 O hw _ (zDI (l:=rs5_) (k:=k) (i:=k) V V)).dv)) (fun hc6_=> ?_)
     refine z7 (g:=EntD.cells) (sz:=5) (by':=56) (fun _=>O) (l:=safe2) (l':=[(zG rs5_ k)]) (all_cons ((zF O (zF O (zF O (zF O (zF hc6_ zj)))))) qQ) 4 qN O O O (fun w' hw'=>Vec.sl (Own.holds hw' 8 _ O)) qO qM O (fun v106=>zE [1,3,6] O qM (fun w' hw hS=>zC 11 O (zQ O) hS (zC 12 O (zH (o:=4) O) hS (zK 13 O hw ?_))))
     refine zP (fun w' hw=>Own.qh (i:=4) O hw) (fun hc7_=> ?_)
     refine zn (cs:=(NetD.cells ({X with sv:=sv2,safe:=safe2}:NetD))) 0 O O O hc7_ O (zE [1,3,6] O qM (fun w' hw hS=>zU ?_))
     refine(?_:C _ _ _ _ _ _ _ (Own w S [Res.row xb 73 (NetD.cells ({X with sv:=v106,safe:=safe2++[(zG rs5_ k)]}:NetD)),Res.vec 27 1 X.nv X.cbs.length (X.cbs.flatMap CP),Res.star (X.ns.map CorD.dres),Res.mp ekU ekI X.mb leads2,vE v106 (safe2++[(zG rs5_ k)]),sE safe2,vE r4_ rs5_,sE (rs5_.drop k),vE (.slice (some ⟨b105,0,none⟩) 1 1) [(zG rs5_ k)]])) _ hw
     refine zS (zD O (zp O O (zq V) O (zI O ?_)))
     exact zd (fun w' hw=>⟨k+1,v106,safe2++[zG rs5_ k],⟨O,O,O,O,O,trivial⟩,zFU hS2 hrc V V c6 hl2,(hw.elOn (g:=EntD.dres) 5 7 qM V O O).sel [0,1,2,3,4,7,5,8] O qM,V⟩)
    have hsg:=zKC hS2 (k:=k) V
    have hsa:=zHo hS2 hrc (k:=k) V V
    have hdr:(zG rs5_ k).data.length≤1000000000:=by have h:=(hok.n.good.fol.ok ((zG rs5_ k).toEntA) (by show _∈(zG X.ns i).n.a.E;rw[←hf10_7,←hrs];exact List.mem_map_of_mem (ze V))).1.2.2.2;exact Nat.le_trans h qM
    have hds:(zG safe2 k).data.length≤1000000000:=by have h:=hsg.trans hsa.1.symm;have h2:=congrArg (fun e:EntA=>e.data.length) h;exact Nat.le_trans (Nat.le_of_eq h2) hdr
    refine zN (zg [0,1,3,4,6] O qM qN (fun w' hw hS=>zC 0 O zT hS (zC 1 O (zQ O) hS (zC 2 O (zH (o:=4) O) hS (zC 3 O (zZ 0 (v:=sv2) O O O) hS (zC 4 O zT hS (zC 5 O (y8 (pV 3 O) 5 k O O O V) hS (zC 6 O (zEn (pV 3 O) 5 k (off:=xE sv2+k*5) (fun _=>O) O O V) hS (zC 7 O zT hS (zC 8 O zT hS (zC 9 O (y8 (pV 4 O) 5 k O O O V) hS (zC 10 O (zEn (pV 4 O) 5 k (off:=xE r4_+k*5) (fun _=>O) O O V) hS ?_))))))))))))
    refine zK 11 O hw (a_call O O (fun w' hw=>(zI8 (zG safe2 k) (zG rs5_ k) w' hds hdr (EntD.rd.star0 5 O hw _ (ze V)) (EntD.rd.star0 7 O hw _ (zDI (l:=rs5_) (k:=k) (i:=k) V V))).mono ?_))
    rintro _ w1 ⟨rfl,hO⟩
    refine(?_:CL _ _ _ _ _ _ (Own w S [Res.row xb 73 (NetD.cells ({X with sv:=sv2,safe:=safe2}:NetD)),Res.vec 27 1 X.nv X.cbs.length (X.cbs.flatMap CP),Res.star (X.ns.map CorD.dres),Res.mp ekU ekI X.mb leads2,vE sv2 safe2,sE safe2,vE r4_ rs5_,sE (rs5_.drop k)])) w1 (hw.qi hO)
    refine zE [0,1,3,4,6] O qM (fun w' hw hS=>zC 12 O (xc (q:=(zG safe2 k).toEntA=(zG rs5_ k).toEntA) O) hS (zU ?_))
    refine(?_:C _ _ _ _ _ _ _ (Own w S [Res.row xb 73 (NetD.cells ({X with sv:=sv2,safe:=safe2}:NetD)),Res.vec 27 1 X.nv X.cbs.length (X.cbs.flatMap CP),Res.star (X.ns.map CorD.dres),Res.mp ekU ekI X.mb leads2,vE sv2 safe2,sE safe2,vE r4_ rs5_,sE (rs5_.drop k)])) _ hw
    refine zY O (fun c7=> ?_) (fun c7=> ?_)
    ·exact absurd (hsg.trans hsa.1.symm) c7
    refine zO (zS (zD O (zp O O (zq V) O (zI O ?_))))
    exact zd (fun w' hw=>⟨k+1,sv2,safe2,⟨O,O,O,O,O,trivial⟩,⟨⟨by omega,by omega⟩,hS2,hl2⟩,hw.qK (g:=EntD.dres) 7 zJY O,V⟩)
   refine yA O (zS (zD O (zp O O (zq V) O (zI O ?_))))
   exact zd (fun w' hw=>⟨i+1,leads2,sv2,safe2,⟨O,O,trivial⟩,⟨⟨by omega,by omega⟩,hS2,hLd2⟩,hw.sel [0,1,2,3,4,5] O qM,V⟩)
  refine yA O (zB (zI O (zA ?_)))
  exact zV (z6 (v:= .bool true) O O (fun w' hw=>⟨leads',sv',safe',O,hSf,hLd,hle,hSf.1,hw⟩))
end Go.Proofs.YtkkeknmkipkbmaaGreat
