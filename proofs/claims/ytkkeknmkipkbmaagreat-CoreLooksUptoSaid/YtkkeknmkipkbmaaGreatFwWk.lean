import Derived.Test.YtkkeknmkipkbmaaGreatCpA
import Derived.Test.YtkkeknmkipkbmaaGreatCoA
set_option linter.unusedSectionVars false
set_option linter.unusedSimpArgs false
set_option linter.unusedVariables false
set_option maxRecDepth 10000
namespace Go.Proofs.YtkkeknmkipkbmaaGreat
open Go Go.Sc Go.Proofs
structure CorD where
  cb:Nat
  jb:Nat
  a:StA
  b:StB
  qe:Nat
  n:NdD
instance:Inhabited NdD:=⟨⟨default,default,default,[],none,default,[]⟩⟩
instance:Inhabited CorD:=⟨⟨0,0,default,default,0,default⟩⟩
def CorD.dres(c:CorD):Res:=Res.cn c.cb c.jb c.a c.b c.qe c.n
def CorD.put(c:CorD)(dr:Nat)(n:NdD):CorD:=⟨c.cb,c.jb,c.a,c.b,dr,n⟩
def CP(b:Nat):List Value:=[pt b]
structure NodA.fit(a:StA)(vs0:List Int)(A:NodA):Prop extends NodA.ok vs0 A where
  hst:0≤A.t.qC∧A.t.qC≤A.t.now
  htm1:A.r.qp=4→1≤A.t.term
  hcv:(zc vs0 A.E).vs.length≤11∧(zc vs0 A.E).ls.length≤11
  hpl:∀ l,A.ld=some l→l.qa.length≤11
  hpm:∀ l,A.ld=some l→∀ v∈(zc vs0 A.E).vs,v≠a.id→(ya l.qa v).isSome=true
structure CorD.ok(c:CorD):Prop where
  a:c.a.ok
  b:c.b.vs.length≤12
  n:c.n.a.fit c.a c.b.vs
theorem zOR(ns:List CorD)(k pb:Nat)(now:Int)(dr:Nat)(w:World)(hk:k<ns.length)(hpb:(zG ns k).cb=pb)(hok:(zG ns k).ok)(hnw:0≤now∧now≤1000000000000000)(hd:dr<18446744073709551616)(hin:Own w (y1 [Res.star (ns.map CorD.dres)]) [Res.star (ns.map CorD.dres)] w):Rets Tryz.prog 12 #[pt pb,Vi now,Vn dr] w fun u_ w'=>∃ (n':NdD) (o:OutD) (x:OutA),u_= .agg (OutD.cells o).toArray∧(n'.a,x)=xJ (zG ns k).a (zG ns k).b.vs now dr (zG ns k).n.a∧o.qk.map MsgD.a=x.ms∧o.qw=x.qw∧o.qt=x.qt∧Own w (y1 [Res.star (ns.map CorD.dres)]) [Res.star ((ns.set k ((zG ns k).put dr n')).map CorD.dres),vM o.mv o.qk,sM o.qk,vR o.rv o.qw,vU o.xv o.qt] w':=by
  subst hpb
  have h0:=hin.qI 0 k hk rfl
  refine(zQn (zG ns k).cb (zG ns k).jb (zG ns k).a (zG ns k).b (zG ns k).qe (zG ns k).n now dr w hok.a hok.b hok.n.took hnw hd (h0.give [0] O qM)).mono ?_
  rintro _ w1 ⟨n',o,x,rfl,hf,h1,h2,h3,hO⟩
  exact⟨n',o,x,O,hf,h1,h2,h3,((h0.qh [0] O hO).qL 1 0 k ((zG ns k).put dr n') hk qM O O).sel [4,0,1,2,3] O qM⟩
theorem zEX(ns:List CorD)(k pb:Nat)(m:MsgD)(now:Int)(dr:Nat)(w:World)(hk:k<ns.length)(hpb:(zG ns k).cb=pb)(hok:(zG ns k).ok)(hnw:0≤now∧now≤1000000000000000)(hd:dr<18446744073709551616)(hm:m.wf)(hmk:m.kind≠7∧m.kind≠8)(hin:Own w (y1 [Res.star (ns.map CorD.dres)]) [Res.star (ns.map CorD.dres)] w)(rd_m:MsgD.rd m w (y1 [Res.star (ns.map CorD.dres)])):Rets Tryz.prog 16 #[pt pb, .agg (MsgD.cells m).toArray,Vi now,Vn dr] w fun u_ w'=>∃ (n':NdD) (dr':Nat) (o:OutD) (x:OutA),u_= .agg (OutD.cells o).toArray∧(n'.a,x)=zA3 (zG ns k).a (zG ns k).b.vs now dr m.a (zG ns k).n.a∧o.qk.map MsgD.a=x.ms∧o.qw=x.qw∧o.qt=x.qt∧Own w (y1 [Res.star (ns.map CorD.dres)]) [Res.star ((ns.set k ((zG ns k).put dr' n')).map CorD.dres),vM o.mv o.qk,sM o.qk,vR o.rv o.qw,vU o.xv o.qt] w':=by
  subst hpb
  have h0:=hin.qI 0 k hk rfl
  refine(zQt (zG ns k).cb (zG ns k).jb (zG ns k).a (zG ns k).b (zG ns k).qe (zG ns k).n m now dr w hok.a hok.b hok.n.took hnw hd hm hmk (h0.give [0] O qM) (MsgD.rd.at rd_m h0 [0] O)).mono ?_
  rintro _ w1 ⟨n',dr',o,x,rfl,hf,h1,h2,h3,hO⟩
  exact⟨n',dr',o,x,O,hf,h1,h2,h3,((h0.qh [0] O hO).qL 1 0 k ((zG ns k).put dr' n') hk qM O O).sel [4,0,1,2,3] O qM⟩
theorem zMT(ns:List CorD)(k pb:Nat)(id:Nat)(lazy:Bool)(now:Int)(w:World)(hk:k<ns.length)(hpb:(zG ns k).cb=pb)(hok:(zG ns k).ok)(hnw:0≤now∧now≤1000000000000000)(hin:Own w (y1 [Res.star (ns.map CorD.dres)]) [Res.star (ns.map CorD.dres)] w):Rets Tryz.prog 15 #[pt pb,Vn id, .bool lazy,Vi now] w fun u_ w'=>∃ (n':NdD) (o:OutD) (x:OutA) (e:Int),u_= .tuple #[.agg (OutD.cells o).toArray,Vi e]∧((n'.a,x),e)=zAY (zG ns k).a (zG ns k).b.vs id lazy now (zG ns k).n.a∧o.qk.map MsgD.a=x.ms∧o.qw=x.qw∧o.qt=x.qt∧Own w (y1 [Res.star (ns.map CorD.dres)]) [Res.star ((ns.set k ((zG ns k).put (zG ns k).qe n')).map CorD.dres),vM o.mv o.qk,sM o.qk,vR o.rv o.qw,vU o.xv o.qt] w':=by
  subst hpb
  have h0:=hin.qI 0 k hk rfl
  refine(zPm (zG ns k).cb (zG ns k).jb (zG ns k).a (zG ns k).b (zG ns k).qe (zG ns k).n id lazy now w hok.a hok.b hok.n.took hnw (h0.give [0] O qM)).mono ?_
  rintro _ w1 ⟨n',o,x,e,rfl,hf,h1,h2,h3,hO⟩
  exact⟨n',o,x,e,O,hf,h1,h2,h3,((h0.qh [0] O hO).qL 1 0 k ((zG ns k).put _ n') hk qM O O).sel [4,0,1,2,3] O qM⟩
theorem NodA.fit.hpm'{a:StA}{vs0:List Int}{n:NdD}(h:n.a.fit a vs0):∀ q,n.y=some q→∀ v∈(zc vs0 (n.es.map EntD.toEntA)).vs,v≠a.id→(ya q.2.qa v).isSome=true:=by
  intro q hq v hv hne
  have h1:=h.hpm q.2.er (by unfold NdD.a;rw[hq];rfl) v hv hne
  rwa [show ya q.2.er.qa v=_ from peerIx_er]at h1
theorem NodA.fit.hpl'{a:StA}{vs0:List Int}{n:NdD}(h:n.a.fit a vs0):∀ q,n.y=some q→q.2.qa.length≤11:=by
  intro q hq
  have h1:=h.hpl q.2.er (by unfold NdD.a;rw[hq];rfl)
  rwa [show q.2.er.qa.length=q.2.qa.length from zCE]at h1
theorem zGt(ns:List CorD)(k pb:Nat)(xv:Value)(data:List UInt8)(now:Int)(w:World)(hk:k<ns.length)(hpb:(zG ns k).cb=pb)(hok:(zG ns k).ok)(hnw:0≤now∧now≤1000000000000000)(hdl:data.length≤1000000000)(hin:Own w (y1 [Res.star (ns.map CorD.dres)]) [Res.star (ns.map CorD.dres)] w)(hxv:Rd w (y1 [Res.star (ns.map CorD.dres)]) (Res.sl xv data.length (data.map vb))):Rets Tryz.prog 14 #[pt pb,xv,Vi now] w fun u_ w'=>∃ (n':NdD) (o:OutD) (x:OutA) (at_:Nat) (e:Int),u_= .tuple #[Vn at_, .agg (OutD.cells o).toArray,Vi e]∧(n'.a,x)=jF (zG ns k).a (zG ns k).b.vs data now (zG ns k).n.a∧o.qk.map MsgD.a=x.ms∧o.qw=x.qw∧o.qt=x.qt∧Own w (y1 [Res.star (ns.map CorD.dres)]) [Res.star ((ns.set k ((zG ns k).put (zG ns k).qe n')).map CorD.dres),vM o.mv o.qk,sM o.qk,vR o.rv o.qw,vU o.xv o.qt] w':=by
  subst hpb
  have h0:=hin.qI 0 k hk rfl
  have hn:=hok.n
  refine(zKM (zG ns k).cb (zG ns k).jb (zG ns k).n.t (zG ns k).a (zG ns k).n.r (zG ns k).b (zG ns k).n.yv (zG ns k).qe (zG ns k).n.lv (zG ns k).n.es (zG ns k).n.y (zG ns k).n.yes xv data now w hn.good hn.len' hok.b hn.hcm hn.hand hok.a hnw hn.hcl' hn.hst hn.htm1 hdl ((h0.give [0] O qM).qn 0 O) (h0.rdTo hxv [0] O)).mono ?_
  rintro _ w1 ⟨n',o,x,at_,e,rfl,hf,h1,h2,h3,hO⟩
  exact⟨n',o,x,at_,e,O,hf,h1,h2,h3,((h0.qh [0] O ((hO.qo [0,1,2,3] O qM).sel [4,0,1,2,3] O qM)).qL 1 0 k ((zG ns k).put _ n') hk qM O O).sel [4,0,1,2,3] O qM⟩
theorem zKc(ns:List CorD)(k pb:Nat)(to now:Int)(w:World)(hk:k<ns.length)(hpb:(zG ns k).cb=pb)(hok:(zG ns k).ok)(hnw:0≤now∧now≤1000000000000000)(hin:Own w (y1 [Res.star (ns.map CorD.dres)]) [Res.star (ns.map CorD.dres)] w):Rets Tryz.prog 53 #[pt pb,Vi to,Vi now] w fun u_ w'=>∃ (n':NdD) (o:OutD) (x:OutA) (e:Int),u_= .tuple #[.agg (OutD.cells o).toArray,Vi e]∧(n'.a,x)=zDQ (zG ns k).a (zG ns k).b.vs to now (zG ns k).n.a∧o.qk.map MsgD.a=x.ms∧o.qw=x.qw∧o.qt=x.qt∧Own w (y1 [Res.star (ns.map CorD.dres)]) [Res.star ((ns.set k ((zG ns k).put (zG ns k).qe n')).map CorD.dres),vM o.mv o.qk,sM o.qk,vR o.rv o.qw,vU o.xv o.qt] w':=by
  subst hpb
  have h0:=hin.qI 0 k hk rfl
  have hn:=hok.n
  refine(zPA (zG ns k).cb (zG ns k).jb (zG ns k).n.t (zG ns k).a (zG ns k).n.r (zG ns k).b (zG ns k).n.yv (zG ns k).qe (zG ns k).n.lv (zG ns k).n.es (zG ns k).n.y (zG ns k).n.yes to now w hn.good hn.len' hok.b hn.hcm hn.hand hok.a hnw hn.hpm' ((h0.give [0] O qM).qn 0 O)).mono ?_
  rintro _ w1 ⟨n',o,x,e,rfl,hf,h1,h2,h3,hO⟩
  exact⟨n',o,x,e,O,hf,h1,h2,h3,((h0.qh [0] O ((hO.qo [0,1,2,3] O qM).sel [4,0,1,2,3] O qM)).qL 1 0 k ((zG ns k).put _ n') hk qM O O).sel [4,0,1,2,3] O qM⟩
theorem zOf(ns:List CorD)(k pb:Nat)(kind id now:Int)(w:World)(hk:k<ns.length)(hpb:(zG ns k).cb=pb)(hok:(zG ns k).ok)(hnw:0≤now∧now≤1000000000000000)(hin:Own w (y1 [Res.star (ns.map CorD.dres)]) [Res.star (ns.map CorD.dres)] w):Rets Tryz.prog 52 #[pt pb,Vi kind,Vi id,Vi now] w fun u_ w'=>∃ (n':NdD) (o:OutD) (x:OutA) (at_:Nat) (e:Int),u_= .tuple #[Vn at_, .agg (OutD.cells o).toArray,Vi e]∧zAi (zG ns k).a (zG ns k).b.vs kind id now (zG ns k).n.a n'.a x∧o.qk.map MsgD.a=x.ms∧o.qw=x.qw∧o.qt=x.qt∧Own w (y1 [Res.star (ns.map CorD.dres)]) [Res.star ((ns.set k ((zG ns k).put (zG ns k).qe n')).map CorD.dres),vM o.mv o.qk,sM o.qk,vR o.rv o.qw,vU o.xv o.qt] w':=by
  subst hpb
  have h0:=hin.qI 0 k hk rfl
  have hn:=hok.n
  refine(zLS (zG ns k).cb (zG ns k).jb (zG ns k).n.t (zG ns k).a (zG ns k).n.r (zG ns k).b (zG ns k).n.yv (zG ns k).qe (zG ns k).n.lv (zG ns k).n.es (zG ns k).n.y (zG ns k).n.yes kind id now w hn.good hn.len' hok.b hn.hcm hn.hand hok.a hnw hn.hcl' hn.hst hn.htm1 hn.hcv hn.hpl' ((h0.give [0] O qM).qn 0 O)).mono ?_
  rintro _ w1 ⟨n',o,x,at_,e,rfl,hf,h1,h2,h3,hO⟩
  exact⟨n',o,x,at_,e,O,hf,h1,h2,h3,((h0.qh [0] O ((hO.qo [0,1,2,3] O qM).sel [4,0,1,2,3] O qM)).qL 1 0 k ((zG ns k).put _ n') hk qM O O).sel [4,0,1,2,3] O qM⟩
end Go.Proofs.YtkkeknmkipkbmaaGreat
set_option linter.unusedVariables false
set_option linter.unusedSectionVars false
namespace Go.Sc
section
variable {P:Program} {n:Nat} {ops:Array Oper} {N R:K} {X:List (Nat×K)} {f:Nat→Value} {w0:World} {S:List Nat} {L L2:List Res}
variable {d:Nat} {ty t e:TypeId} {p:String} {af:Array Edge} {fuel:Nat} {listed:Array Bool} {x:Operand}
theorem Own.weak{w:World}{α:Type}{r:α→Res}{F:List Nat}{Lh:List Res}(m:List Nat)(a:α)(hm:m.mapM (fun i=>L[i]?)=some (r a::Lh))(hn:m.Nodup)(hF:(r a).fp=F)(h:Own w0 S L w):Own w0 S (Res.any r F::Lh) w:=by
  have h2:=(h.sel m hm hn).anyShut (r:=r) 0 a rfl
  rw[hF]at h2;exact h2
theorem zNI{L':List Res}{id:Nat}{l:List Oper}(hW:∀ w,Own w0 S L w→Own w0 S L' w)
    (h:∀ w,Own w0 S L w→Own w0 S L' w→HL P n l.toArray (Own w0 S L') N l.length (Array.replicate l.length false) f w) (hm:P.follows .mixedOrders=true:=by kernel_rfl):C P n (.region id l.toArray true) N R X f (Own w0 S L):=
  zLd (Own w0 S L') hm (fun w hw=>(hW w hw).drawn) (fun w hw=>h _ hw.drawn (hW w hw).drawn)
theorem xu{f':Nat→Value}(hW:∀ w,Own w0 S L w→Own w0 S L2 w)(h:∀ w,Own w0 S L w→Own w0 S L2 w→HL P n ops (Own w0 S L2) N fuel listed f' w):
    CL P n ops [] (fun g w'=>Own w0 S L2 w'∧HL P n ops (Own w0 S L2) N fuel listed g w') f' (Own w0 S L):=zg (fun w hw=>⟨hW w hw,h w hw (hW w hw)⟩)
theorem zLA(i:Nat){α:Type}{r:α→Res}{F:List Nat}{b off:Nat}{cs:α→List Value}{v:Value}(hx:ev f x= .pointer (some ⟨b,off,none⟩))(hL:L[i]?=some (Res.any r F))(hr:∀ a,r a=Res.row b e (cs a))(hv:∀ a,(cs a)[off]?=some v)(ht:one P t=true:=by kernel_rfl):
    RV P f ⟨some d, .load t x,ty,p,af,none⟩ (Own w0 S L) v:=
  zHL hx ht (fun w hw=>by
    obtain⟨a,ha⟩:=hw.anyOpen i hL
    rw[hr a]at ha
    have h3:=Own.qr (i:=i) (b:=b) (e:=e) (by rw[List.getElem?_set];have:=(List.getElem?_eq_some_iff.1 hL).1;simp[this]) w ha off v (hv a)
    rwa [Nat.zero_add]at h3)
end
end Go.Sc
