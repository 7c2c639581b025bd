import Derived.Test.YtkkeknmkipkbmaaGreatNetR
import Derived.Test.YtkkeknmkipkbmaaGreatRef3
set_option linter.unusedSectionVars false
set_option linter.unusedSimpArgs false
set_option linter.unusedVariables false
set_option maxRecDepth 10000
namespace Go.Proofs.YtkkeknmkipkbmaaGreat
open Go Go.Sc Go.Proofs
def GhP(N lk:Nat)(F:Gh→Prop)(k:Nat)(X:NetA):Prop:=Bnd N lk k X∧∃ g,GhI N g X∧F g
theorem GhI.sub{N:Nat}{g:Gh}{X:NetA}{way:List MsgA}(h:GhI N g X)(hs:way.Sublist X.way):GhI N g ⟨X.nodes,way⟩:=
  ⟨h.ok,h.vk,h.vfr,h.vnz,h.nd,fun m hm=>h.ms m (hs.mem hm),fun m hm=>h.k3 m (hs.mem hm)⟩
theorem zOH{N lk:Nat}{ch:Bool}{F:Gh→Prop}(hN:1≤N∧N≤5)(hF:∀ g g',Go g g'→F g→F g'):Stp N ch lk (GhP N lk F) where
  len k X h:=h.1.len
  B k X i h hi:=h.1.B i hi
  M k X h:=h.1.M
  wl k X h:=h.1.wl
  up k X h:=⟨h.1.up,h.2⟩
  sub k X way h hs:=⟨h.1.sub hs,by
    obtain⟨g,hg,hf⟩:=h.2
    exact⟨g,hg.sub hs,hf⟩⟩
  act k X i n ms rs hk h hi ha:=⟨h.1.act hN hk hi ha,by
    obtain⟨g,hg,hf⟩:=h.2
    obtain⟨g',h1,h2⟩:=zPI hN h.1 hi hg ha
    exact⟨g',h2,hF g g' h1 hf⟩⟩
def LeadF(leads:List (Nat×Int))(g:Gh):Prop:=∀ T j,jG T leads=some j→∃ r∈g.els,r.T=T∧r.id=j+1
def SafeF(safe:List EntA)(g:Gh):Prop:=safe.length≤100000∧(safe=[]∨∃ c∈g.coms,∃ r∈g.els,r.T=c.T∧safe.length≤c.n∧Has safe (g.Lr r) safe.length)
theorem LeadF.go{leads:List (Nat×Int)}{g g':Gh}(h:Go g g')(hf:LeadF leads g):LeadF leads g':=fun T j e=>by
  obtain⟨r,hr,q⟩:=hf T j e
  exact⟨r,h.els r hr,q⟩
theorem SafeF.go{safe:List EntA}{g g':Gh}(h:Go g g')(hf:SafeF safe g):SafeF safe g':=by
  refine⟨hf.1,hf.2.imp id ?_⟩
  rintro⟨c,hc,r,hr,h1,h2,h3⟩
  exact⟨c,h.coms c hc,r,h.els r hr,h1,h2,h3.up (h.L r hr)⟩
theorem zMQ{N:Nat}{g:Gh}(hg:g.ok (qu N)){c d:ComR}{r s:Elec}(hc:c∈g.coms)(hd:d∈g.coms)(hr:r∈g.els)(hs:s∈g.els)(e1:r.T=c.T)(e2:s.T=d.T)(h:c.n≤d.n):Has (g.Lr r) (g.Lr s) c.n:=by
  have hl:∀ (c:ComR) (r:Elec),c∈g.coms→r∈g.els→r.T=c.T→c.n≤(g.Lr r).length:=fun c r hc hr e=>by
    obtain⟨s,hs,q1,q2,q3,q4,_⟩:=hg.com c hc
    rw[hg.uniq (jV N) hr hs V];omega
  rcases Nat.lt_trichotomy r.T s.T with q|q|q
  · have h5:=hg.comp (jV N) hs c hc r hr e1 V
    exact(((Has.pre (hg.elE s hs)).le h5.1).symm.trans h5).symm
  · rw[hg.uniq (jV N) hr hs q]
    exact Has.self (Nat.le_trans h (hl d s hd hs e2))
  have h5:=hg.comp (jV N) hr d hd s hs e2 V
  exact(((Has.pre (hg.elE r hr)).le h5.1).symm.trans h5).le h
theorem zHX:∀ (l:List ComR),l=[]∨∃ d∈l,∀ c∈l,c.n≤d.n
  | []=> .inl rfl
  |a::l=>by
    right
    rcases zHX l with h|⟨d,hd,h⟩
    · subst h;exact⟨a, .head _,fun c hc=>by rw[List.mem_singleton.1 hc];exact Nat.le_refl _⟩
    by_cases q:d.n≤a.n
    · refine⟨a, .head _,fun c hc=> ?_⟩
      rcases List.mem_cons.1 hc with rfl|hc
      · exact Nat.le_refl _
      exact Nat.le_trans (h c hc) q
    refine⟨d, .tail _ hd,fun c hc=> ?_⟩
    rcases List.mem_cons.1 hc with rfl|hc
    · omega
    exact h c hc
theorem zK9{N:Nat}{g:Gh}(hg:g.ok (qu N)):∃ Sf:List EntA,Sf.length≤100000∧(∀ c∈g.coms,∀ r∈g.els,r.T=c.T→∀ j,j≤c.n→j≤100000→Has (g.Lr r) Sf j)∧(∀ safe:List EntA,safe.length≤Sf.length→safe=Sf.take safe.length→SafeF safe g):=by
  rcases zHX g.coms with h|⟨d,hd,h⟩
  · refine⟨[],Nat.zero_le _,fun c hc=>(by rw[h]at hc;cases hc),fun safe hl _=>⟨by simp at hl;simp[hl], .inl (List.eq_nil_of_length_eq_zero (by simpa using hl))⟩⟩
  obtain⟨s,hs,q1,q2,q3,q4,_⟩:=hg.com d hd
  have hlen:((g.Lr s).take (min d.n 100000)).length=min d.n 100000:=by rw[List.length_take];omega
  refine⟨(g.Lr s).take (min d.n 100000),by omega,fun c hc r hr e j h1 h2=> ?_,fun safe hl e=>⟨by omega, .inr ⟨d,hd,s,hs,q1,by omega,?_⟩⟩⟩
  · have h3:=(zMQ hg hc hd hr hs e q1 (h c hc)).le h1
    exact(h3.symm.takeL (by have:=h c hc;omega)).symm
  have h4:Has ((g.Lr s).take (min d.n 100000)) (g.Lr s) safe.length:=(Has.self (by omega:safe.length≤(g.Lr s).length)).takeL V
  rw[e,List.length_take,Nat.min_eq_left hl]
  exact h4.takeL (Nat.le_refl _)
theorem zLb{N lk k:Nat}{F:Gh→Prop}{X:NetD}{leads:List (Nat×Int)}(hk:k≤99000)(hX:X.st N)(h:GhP N lk (fun g=>LeadF leads g∧SafeF (X.safe.map EntD.toEntA) g∧F g) k X.a):∃ (g:Gh) (Ld:Nat→Int→Prop) (Sf:List EntA),GhI N g X.a∧F g∧RightP N Ld Sf X∧kf Sf X.safe∧kw Ld leads∧Sf.length≤100000∧
    ∀ (leads':List (Nat×Int)) (safe':List EntD),kf Sf safe'→kw Ld leads'→LeadF leads' g∧SafeF (safe'.map EntD.toEntA) g:=by
  obtain⟨hB,g,hg,hl,hs,hf⟩:=h
  obtain⟨Sf,h1,h2,h3⟩:=zK9 hg.ok
  have hn:∀ i,i<N→zG X.a.nodes i=(zG X.ns i).n.a:=fun i hi=>NetD.at_ (by rw[hX.len];exact hi)
  refine⟨g,fun T j=>∃ r∈g.els,r.T=T∧r.id=j+1,Sf,hg,hf,⟨fun T i j ⟨r,hr,a,b⟩ ⟨s,hs,c,d⟩=> ?_,fun i hi hr=> ?_,fun i hi=> ?_⟩,?_,hl,h1,fun leads' safe' a b=>⟨b,h3 _ ?_ ?_⟩⟩
  · have:=hg.ok.uniq (jV N) hr hs V
    rw[this]at b;omega
  · have h4:=(hg.nd i hi).el
    rw[hn i hi]at h4
    obtain⟨r,hr,a,b,_⟩:=h4 hr
    exact⟨r,hr,a,b⟩
  · have h4:=(hg.nd i hi).cm
    have h5:=(hB.B i hi).cl
    have h6:=(hB.B i hi).E
    rw[hn i hi]at h4 h5 h6
    rcases h4 with q|⟨c,hc,r,hr,a,b,d,e⟩
    · have q':(zG X.ns i).n.r.qc=0:=q
      rw[q'];exact⟨Nat.zero_le _,rfl⟩
    have h7:=e.trans (h2 c hc r hr a _ d V)
    exact⟨h7.2.1,h7.2.2⟩
  · rcases hs.2 with q|⟨c,hc,r,hr,a,b,d⟩
    · have q':X.safe=[]:=List.map_eq_nil_iff.1 q
      rw[q'];exact⟨Nat.zero_le _,rfl⟩
    have h7:=d.trans (h2 c hc r hr a _ b hs.1)
    rw[List.length_map]at h7
    refine⟨h7.2.1,?_⟩
    rw[←h7.2.2,List.take_of_length_le (by rw[List.length_map];exact Nat.le_refl _)]
  · rw[List.length_map];exact a.1
  rw[List.length_map];exact a.2
def g0:Gh:={now:=0,els:=[],L:=fun _ _=>[],vts:=[],acks:=[],coms:=[]}
theorem zPW(N:Nat):g0.ok (qu N):=by
  constructor<;>intro r hr<;>cases hr
theorem zMp{N lk:Nat}(hN:1≤N∧N≤5):Bnd N lk 0 ⟨(List.range N).map zAd,[]⟩:=by
  have hn:∀ i,i<N→zG ((List.range N).map zAd) i=zAd i:=fun i hi=>by rw[kj (by rw[List.length_range];exact hi)];congr 1;exact nth_eq (List.getElem?_range hi)
  refine⟨by show((List.range N).map zAd).length=N;rw[List.length_map,List.length_range],fun i hi=> ?_,fun q hq=>absurd hq qQ,Nat.zero_le _⟩
  show NodB N lk 0 i (zG ((List.range N).map zAd) i)
  rw[hn i hi]
  exact⟨Nat.le_refl _,Nat.le_refl _,⟨Nat.zero_le _,Nat.zero_le _,trivial⟩,fun e he=>(by cases he),Nat.le_refl _,⟨by show(0:Int)≤0∧(0:Int)≤_;decide,by show(0:Int)≤0∧(0:Int)≤_;decide,by show(0:Int)≤0∧(0:Int)≤_;decide,by show(0:Int)≤0∧(0:Int)≤_;decide,by show(0:Int)≤0∧(0:Int)≤0;decide⟩,⟨fun q=>absurd q (by show ¬(1:Int)=4;decide),fun q=>absurd q (by show ¬ false=true;decide)⟩,fun q=>by rcases q with q|q<;>exact absurd q (by show ¬(1:Int)=_;decide),⟨List.nodup_nil,fun v hv=>by cases hv⟩,Nat.le_refl _,fun l q=>by cases q⟩
theorem zO5{N lk:Nat}{F:Gh→Prop}(hN:1≤N∧N≤5)(hF:F g0):GhP N lk F 0 ⟨(List.range N).map zAd,[]⟩:=by
  have hn:∀ i,i<N→zG ((List.range N).map zAd) i=zAd i:=fun i hi=>by rw[kj (by rw[List.length_range];exact hi)];congr 1;exact nth_eq (List.getElem?_range hi)
  refine⟨zMp hN,g0,⟨zPW N,fun w hw=>absurd hw (by simp[g0]),fun w hw=>absurd hw (by simp[g0]),fun w hw=>absurd hw (by simp[g0]),fun i hi=> ?_,fun m hm=>absurd hm qQ,fun m hm=>absurd hm qQ⟩,hF⟩
  show NodI g0 i (zG ((List.range N).map zAd) i)
  rw[hn i hi]
  exact⟨fun j e he=>absurd he (by simp[zAd]),fun r hr=>absurd hr (by simp[g0]),fun w hw=>absurd hw (by simp[g0]),fun w hw=>absurd hw (by simp[g0]),fun q=>absurd q (by show ¬(1:Int)=4;decide),fun a ha=>absurd ha (by simp[g0]), .inl O,fun q=>absurd q (by show ¬(1:Int)=3;decide),fun l q=>by cases q⟩
instance:Inhabited MovD:=⟨⟨0,0,0,0,0⟩⟩
theorem zDl{α:Type}{g:α→List Value}{sz:Nat}(hg:∀ a,(g a).length=sz):∀ (l:List α) (k:Nat),(l.take k).flatMap g=(l.flatMap g).take (k*sz)
  | [],k=>by simp
  |a::l,0=>by simp
  |a::l,k+1=>by
    rw[List.take_succ_cons,List.flatMap_cons,List.flatMap_cons,zDl hg l k,List.take_append,hg,List.take_of_length_le (l:=g a) (by rw[hg,Nat.succ_mul];omega),show(k+1)*sz - sz=k*sz by rw[Nat.succ_mul];omega]
theorem zGU{v:Value}(h:cell1 v=true){k sz:Nat}:cell1 (yy v 0 k sz)=true:=by
  cases v<;>first|exact h|rfl
theorem _root_.Go.Sc.Own.cutN{α:Type}{g:α→List Value}{w0 w:World}{S:List Nat}{L:List Res}{T:TypeId}{v:Value}{l:List α}{sz:Nat}(hg:∀ a,(g a).length=sz)(i k:Nat)(hL:L[i]?=some (Res.vec T sz v l.length (l.flatMap g)))(hk:k≤l.length)(h:Own w0 S L w):Own w0 S (L.set i (Res.vec T sz (yy v 0 k sz) (l.take k).length ((l.take k).flatMap g))) w:=by
  have hlk:(l.take k).length=k:=by rw[List.length_take];omega
  rw[hlk,zDl hg]
  refine h.turn hL ?_ ?_
  · rintro⟨hl,⟨rfl,h1⟩|⟨b,cap,cur,rfl,h0,h1,h2,h3,h4,h5⟩⟩
    · have hk0:k=0:=by omega
      subst hk0
      exact⟨by simp, .inl ⟨O,O⟩⟩
    have e:yy (.slice (some ⟨b,0,none⟩) l.length cap) 0 k sz= .slice (some ⟨b,0,none⟩) k cap:=by
      show kD (some ⟨b,0,none⟩) cap 0 k cap sz=_
      unfold kD
      simp[Addr.add]
    rw[e]
    have hm:k*sz≤l.length*sz:=Nat.mul_le_mul_right _ hk
    refine⟨by rw[List.length_take,hl];omega, .inr ⟨b,cap,cur,O,h0,h1,by omega,h3,h4,?_⟩⟩
    rw[←h5,List.take_take]
    congr 1;omega
  intro b hb
  have:yX (yy v 0 k sz)=yX v∨yX (yy v 0 k sz)=[]:=by
    cases v with
    |slice a m cap=>left;show yX (kD a cap 0 k cap sz)=_;exact zA9 a m cap 0 k cap sz
    |_=>left;rfl
  rcases this with h1|h1
  · show b∈yX v;rw[←h1];exact hb
  have hb':b∈yX (yy v 0 k sz):=hb
  rw[h1]at hb';cases hb'
def ElF(leads:List (Nat×Int))(safe:List EntD)(g:Gh):Prop:=LeadF leads g∧SafeF (safe.map EntD.toEntA) g∧True
def ElP(N k:Nat)(X:NetD)(leads:List (Nat×Int)):Prop:=X.st N∧GhP N 0 (ElF leads X.safe) (10*k) X.a
theorem zOr{N:Nat}{X:NetD}(hN:1≤N∧N≤5)(h:X.st N)(ha:X.a=⟨(List.range N).map zAd,[]⟩)(hs:X.safe=[]):ElP N 0 X []:=by
  refine⟨h,?_⟩
  rw[ha,hs]
  exact zO5 hN ⟨fun T j e=>(by cases e),⟨Nat.zero_le _, .inl O⟩,trivial⟩
theorem zGR{N:Nat}{leads:List (Nat×Int)}{safe:List EntD}(hN:1≤N∧N≤5):Clo N (fun k X=>GhP N 0 (ElF leads safe) (10*k) X):=
  (zOH hN (fun g g' h hf=>⟨hf.1.go h,hf.2.1.go h,trivial⟩)).clo hN qM
theorem zPh{N k:Nat}{leads:List (Nat×Int)}{X:NetD}(hN:1≤N∧N≤5)(hk:k≤2000)(h:ElP N k X leads):NetOk N X.a:=(zGR hN).ok k X.a hk h.2
theorem zPL{N k:Nat}{leads leads':List (Nat×Int)}{X:NetD}{sv:Value}{safe:List EntD}{g:Gh}(h:ElP N k X leads)(hg:GhI N g X.a)(hf:LeadF leads' g∧SafeF (safe.map EntD.toEntA) g):ElP N k ({X with sv:=sv,safe:=safe}:NetD) leads':=
  ⟨⟨h.1.len,h.1.cbs,h.1.tsl,h.1.ts,h.1.con⟩,h.2.1,g,hg,hf.1,hf.2,trivial⟩
theorem zN4{N k m:Nat}{leads:List (Nat×Int)}{X:NetD}{wv:Value}(h:ElP N k X leads):ElP N k ({X with wv:=wv,way:=X.way.take m}:NetD) leads:=by
  refine⟨⟨h.1.len,h.1.cbs,h.1.tsl,h.1.ts,h.1.con⟩,?_⟩
  have hs:(({X with wv:=wv,way:=X.way.take m}:NetD).a.way).Sublist X.a.way:=(List.take_sublist m X.way).map MsgD.a
  obtain⟨h1,g,h2,h3⟩:=h.2
  exact⟨h1.sub hs,g,h2.sub hs,h3⟩
theorem zMD(n:Nat)(mv:Value)(ms:List MovD)(w:World)(hn:n<256)(hml:ms.length≤1000000000000)(hmo:∀ m∈ms,m.ok)(hmv:Rd w [] (Res.sl mv ms.length (ms.flatMap MovD.cells))):Rets Tryz.prog 6 #[.int .u8 (n:Nat),mv] w fun u_ w'=>u_= .bool true∧Own w [] [] w':=by
  have hN5:1≤n%5+1∧n%5+1≤5:=by omega
  refine zW Tryz.func6 O Tryz.ntmps6 (Own.start w) ?_
  refine zB (zI O (zA (zB (zD O (zKB (c:=((n%5:Nat):Int)) O O V O O (xo qN O (zt V) O ?_ qN))))))
  refine zp O O (zt V) O (a_call O O (fun w' hw=>(zIt w').mono ?_))
  rintro _ w1 ⟨rfl,hO⟩
  refine O0 ?_ (hw.qi hO)
  refine a_call O O (fun w' hw=>(zM6 (n%5+1) w' hN5).mono ?_)
  rintro _ w1 ⟨xb1_,mb2_,X3_,rfl,hf1_5,hf1_5_1,hf1_5_2,hf1_5_3,hf1_5_4,hO⟩
  refine O7 ?_ (hw.qi hO)
  refine zI O (zA (zN (zB (a_call O O (fun w' hw=>(zJS w').mono ?_)))))
  rintro _ w1 ⟨rfl,hO⟩
  refine O7 ?_ (hw.qi hO)
  refine zHe (b:=true) O O (zD O (zR O O (zD O (zR O O (xa qN O O O (ju O O (zA (xr O (zO (zN (zB (zI O ?_))))))))))))
  refine zA (zX ?_)
  refine xj (fun(i:Nat) (X:NetD) (leads:List (Nat×Int))=>[(1,mv),(5,pt xb1_),(6,Vj i)]) (fun(i:Nat) (X:NetD) (leads:List (Nat×Int))=>(i≤ms.length∧i≤400)∧ElP (n%5+1) (2*i) X leads) (fun(i:Nat) (X:NetD) (leads:List (Nat×Int))=>[Res.row xb1_ 73 (NetD.cells X),Res.vec 27 1 X.nv X.cbs.length (X.cbs.flatMap CP),Res.star (X.ns.map CorD.dres),vT X.tv X.ts,vM X.wv X.way,sM X.way,Res.mp ekU ekI X.mb leads,vE X.sv X.safe,sE X.safe]) (fun(i:Nat) (X:NetD) (leads:List (Nat×Int))=>ms.length - i) (fun w' hw=>⟨0,X3_,[],⟨O,O,O,trivial⟩,⟨by omega,zOr hN5 hf1_5 hf1_5_1 hf1_5_4⟩,(by have h:=(zl hw 81 5).qG;rw[←hf1_5_2,←hf1_5_3]at h;rw[hf1_5_4];exact h.sel [0,1,2,3,4,5,6,7,8] rfl qM)⟩) (fun i X leads g hΦ=> ?_)
  have hi:=hΦ.1
  have hE:=hΦ.2
  refine zN (zB (zD O (zD O (zo (pR hmv) O O (yH O O O (zD O (yK (q:=((i:Nat):Int)<((ms.length:Nat):Int)) 2 4 [25,24] (((i:Nat):Int)<400) O O O O O O trivial O (fun h5_4=> ?_) (fun g5_7=> ?_))))))))
  ·refine zR O (gT h5_4) (zD O (zR O (gT h5_4) (yH O O O ?_)))
   exact yP O (fun _ hw=>hw)
  refine zA (zY O (fun c2=> ?_) (fun c2=> ?_))
  ·refine zO (zN (zX (zB (zD O (zD O (zD O (zi (pR hmv) 5 i O O O V O (kM (pR hmv) 5 i (off:=xJ mv+i*5) (fun _=>O) O O V O (a_call O O (fun w' hw=>(zOO (n%5+1) (2*i) (fun k Y=>GhP (n%5+1) 0 (ElF leads X.safe) (10*k) Y) xb1_ X (zG ms i) w' (zGR hN5) V hN5 hE.2 hE.1 (hmo _ (zd V)) (hw.give [0,1,2,3,4,5] O qM)).mono ?_))))))))))
   rintro _ w1 ⟨X'4_,rfl,hf7_5,hf7_5_1,hf7_5_2,hf7_5_3,hf7_5_4,hO⟩
   have hwl:X'4_.way.length≤1000000:=by have h:=((zGR hN5).ok (2*i+2) _ V hf7_5).wl;unfold NetD.a at h;rwa [List.length_map]at h
   have hE1:ElP (n%5+1) (2*i+2) X'4_ leads:=⟨hf7_5_1,by rw[hf7_5_4];exact hf7_5⟩
   refine O9 ?_ (hw.qg [0,1,2,3,4,5] O hO)
   refine zA (yu (fun(X2:NetD)=>[(1,mv),(5,pt xb1_),(6,Vj i)]) (fun(X2:NetD)=>ElP (n%5+1) (2*i+2) X2 leads) (fun(X2:NetD)=>[Res.row xb1_ 73 (NetD.cells X2),Res.vec 27 1 X2.nv X2.cbs.length (X2.cbs.flatMap CP),Res.star (X2.ns.map CorD.dres),vT X2.tv X2.ts,vM X2.wv X2.way,sM X2.way,Res.mp ekU ekI X2.mb leads,vE X2.sv X2.safe,sE X2.safe]) ?_ (fun X2 g hΦ=> ?_))
   ·refine zB (zD O (zb O O (zJ (o:=2) O O (zM 3 (v:=X'4_.wv) O O O O (zo (pV 7 O) O O (yx O O O (zA (zY O (fun c3=> ?_) (fun c3=> ?_)))))))))
    ·refine zT (zD O (zD O (zb O O (zJ (o:=2) O O (zM 3 (v:=X'4_.wv) O O O O (jC (pV 7 O) 14 0 300 qN O O ⟨_,O⟩ V V O (zb O O (zJ (o:=2) O O ?_))))))))
     refine zP (fun w' hw=>zGU (k:=300) (sz:=14) (Own.qh (i:=7) O hw)) (fun hca=> ?_)
     refine zn (cs:=(NetD.cells X'4_)) 3 O O O hca O ?_
     exact ze (fun w' hw=>⟨({X'4_ with wv:=yy X'4_.wv 0 300 14,way:=X'4_.way.take 300}:NetD),⟨O,O,O,trivial⟩,zN4 hE1,(by have h:=(hw.cutN (g:=MsgD.cells) (l:=X'4_.way) (sz:=14) (fun _=>rfl) 7 300 rfl V).qK (g:=MsgD.dres) 8 (List.take_sublist 300 X'4_.way) rfl;rw[←hf7_5_2,←hf7_5_3,←hf7_5_4]at h;exact h.sel [3,4,5,6,7,8,0,1,2] rfl qM)⟩)
    exact yc (fun w' hw=>⟨X'4_,⟨O,O,O,trivial⟩,hE1,(by rw[←hf7_5_2,←hf7_5_3,←hf7_5_4]at hw;exact hw.sel [3,4,5,6,7,8,0,1,2] rfl qM)⟩)
   have hE2:=hΦ
   obtain⟨g,Ld,Sf,hgh,hF,hR,hS,hL,hSl,hnx⟩:=zLb (F:=fun _=>True) (k:=10*(2*i+2)) V hE2.1 hE2.2
   refine zB (zD O (a_call O O (fun w' hw=>(zNZ (n%5+1) Ld Sf xb1_ X2 leads w' hN5 hE2.1 (zPh hN5 V hE2) hR hS hL hSl (hw.give [0,1,2,6,7,8] O qM)).mono ?_)))
   rintro _ w1 ⟨leads'6_,sv'7_,safe'8_,rfl,hf10_1,hf10_1_1,hf10_1_2,hf10_1_3,hO⟩
   refine O9 ?_ (hw.qg [0,1,2,6,7,8] O hO)
   refine zHe (b:=true) O O (zA (xr O (zO (zT (zD O (zp O O (zt V) O (zI O ?_)))))))
   exact ze (fun w' hw=>⟨i+1,({X2 with sv:=sv'7_,safe:=safe'8_}:NetD),leads'6_,⟨O,O,O,trivial⟩,⟨by omega,zPL hE2 hgh (hnx _ _ hf10_1 hf10_1_1)⟩,hw.sel [3,4,5,0,1,2,6,7,8] O qM,V⟩)
  refine yC O (zB (zI O (zA ?_)))
  exact zU (z6 (v:= .bool true) O O (fun w' hw=>⟨O,hw.drop⟩))
end Go.Proofs.YtkkeknmkipkbmaaGreat
