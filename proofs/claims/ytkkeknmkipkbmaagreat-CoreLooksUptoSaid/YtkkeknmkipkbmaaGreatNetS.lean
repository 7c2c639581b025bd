import Derived.Test.YtkkeknmkipkbmaaGreatFwWk
set_option linter.unusedSectionVars false
set_option linter.unusedSimpArgs false
set_option linter.unusedVariables false
set_option maxRecDepth 10000
namespace Go.Proofs.YtkkeknmkipkbmaaGreat
open Go Go.Sc Go.Proofs
structure NetA where
  nodes:List NodA
  way:List MsgA
def NetA.call(X:NetA)(i:Nat)(n:NodA)(ms:List MsgA):NetA:=⟨X.nodes.set i n,X.way++ms⟩
instance:Inhabited NodA:=⟨⟨default,default,[],none,[]⟩⟩
def aN(i:Nat):StA:={id:=(i:Int)+1,nodes:=0,voters:=0,edges:=0,rho:=0,base:=10,spread:=9,beat:=3,disk:=0,post:=0,keep:=0}
def y5(N:Nat):List Int:=(List.range N).map fun i:Nat=>((i:Nat):Int)+1
structure MsgA.net(N:Nat)(m:MsgA):Prop where
  dst:1≤m.dst∧m.dst≤N
  kind:m.kind≠7∧m.kind≠8
  nums:(m.term≤4611686018427387904∧m.index≤4611686018427387904)∧(m.ql≤4611686018427387904∧m.qc≤4611686018427387904)∧m.round≤4611686018427387904
  qm:m.qm.length≤8∧∀ e∈m.qm,e.ok
  conf:m.conf=⟨[],[]⟩∧m.data=[]
structure NetOk(N:Nat)(X:NetA):Prop where
  len:X.nodes.length=N
  fit:∀ i,i<N→(zG X.nodes i).fit (aN i) (y5 N)
  way:∀ m∈X.way,m.net N
  wl:X.way.length≤1000000
structure Clo(N:Nat)(ch:Bool)(I:Nat→NetA→Prop):Prop where
  ok:∀ k X,k≤2000→I k X→NetOk N X
  up:∀ k X,I k X→I (k+1) X
  adv:∀ k X i now dr n x,k≤2000→I k X→i<N→0≤now∧now≤2000000000000→dr<18446744073709551616→(n,x)=xJ (aN i) (y5 N) now dr (zG X.nodes i)→I (k+1) (X.call i n x.ms)
  rcv:∀ k X i now dr m n x,k≤2000→I k X→i<N→0≤now∧now≤2000000000000→dr<18446744073709551616→m∈X.way→m.dst=(i:Int)+1→(n,x)=zA3 (aN i) (y5 N) now dr m (zG X.nodes i)→I (k+1) (X.call i n x.ms)
  prp:∀ k X i now data n x,k≤2000→I k X→i<N→0≤now∧now≤2000000000000→data.length=1→(n,x)=jF (aN i) (y5 N) data now (zG X.nodes i)→I (k+1) (X.call i n x.ms)
  chg:ch=true→∀ k X i now kind id n x,k≤2000→I k X→i<N→0≤now∧now≤2000000000000→1≤id∧id≤(N:Int)→zAi (aN i) (y5 N) kind id now (zG X.nodes i) n x→I (k+1) (X.call i n x.ms)
  giv:∀ k X i now to n x,k≤2000→I k X→i<N→0≤now∧now≤2000000000000→(n,x)=zDQ (aN i) (y5 N) to now (zG X.nodes i)→I (k+1) (X.call i n x.ms)
  sub:∀ k X way,I k X→way.Sublist X.way→I k ⟨X.nodes,way⟩
structure NetD where
  nv:Value
  cbs:List Nat
  ns:List CorD
  tv:Value
  ts:List Int
  wv:Value
  way:List MsgD
  mb:Nat
  sv:Value
  safe:List EntD
def NetD.cells(x:NetD):List Value:=[x.nv,x.tv,x.wv, .map (some x.mb),x.sv]
def NetD.a(X:NetD):NetA:=⟨X.ns.map fun c=>c.n.a,X.way.map MsgD.a⟩
structure NetD.st(N:Nat)(X:NetD):Prop where
  len:X.ns.length=N
  cbs:X.cbs=X.ns.map CorD.cb
  tsl:X.ts.length=N
  ts:∀ t∈X.ts,0≤t∧t≤1001000000000
  con:∀ i,i<N→(zG X.ns i).a=aN i∧(zG X.ns i).b.vs=y5 N
structure MovD where
  kind:Int
  k:Int
  t:Int
  qe:Nat
  ask:Int
def MovD.cells(x:MovD):List Value:=[Vi x.kind,Vi x.k,Vi x.t,Vn x.qe,Vi x.ask]
structure MovD.ok(m:MovD):Prop where
  k: -9223372036854775808≤m.k∧m.k≤9223372036854775807
  t: -9223372036854775808≤m.t∧m.t≤9223372036854775807
  qe:m.qe<18446744073709551616
def zCr(now t:Int):Int:=if(0<t∧t<1000000)∧now<1000000000000 then now+t else now
theorem je{N:Nat}{m:MsgD}(h:m.a.net N):m.wf:=by
  obtain⟨⟨h1,h2⟩,⟨h3,h4⟩,h5⟩:=h.nums
  have hc:=h.conf.1
  have hl:m.qm.length≤8:=by have:=h.qm.1;unfold MsgD.a at this;rwa [List.length_map]at this
  have hd:∀ e∈m.qm,e.toEntA.ok:=fun e he=>h.qm.2 _ (List.mem_map_of_mem he)
  have hv:m.conf.vs=[]:=congrArg ConfA.vs hc
  have hw:m.conf.ls=[]:=congrArg ConfA.ls hc
  have hda:m.data=[]:=h.conf.2
  have key:∀ l:List EntD,(∀ e∈l,e.toEntA.ok)→(l.map fun e=>e.data.length).sum≤4096*l.length:=by
    intro l
    induction l with
    |nil=>intro _;simp
    |cons e l ih=>
      intro q
      have h6:=(q e qQ).1.2.2.2
      have h7:=ih fun x hx=>q x (List.mem_cons_of_mem _ hx)
      simp only[List.map_cons,List.sum_cons,List.length_cons];omega
  have:=key m.qm hd
  exact⟨by show m.a.term<_;omega,by show m.a.index<_;omega,by show m.a.ql<_;omega,by show m.a.qc<_;omega,by show m.a.round<_;omega,by omega,fun e he=>⟨by have:=(hd e he).1.2.1.1;omega,by have:=(hd e he).1.2.1.2;omega,by have:=(hd e he).1.2.2.2;omega⟩,⟨by rw[hv];exact Nat.zero_le _,by rw[hw];exact Nat.zero_le _⟩,⟨by rw[hv];exact Nat.zero_le _,by rw[hw];exact Nat.zero_le _⟩,by rw[hda];exact Nat.zero_le _,by omega⟩
theorem NetD.at_{X:NetD}{i:Nat}(hi:i<X.ns.length):zG X.a.nodes i=(zG X.ns i).n.a:=kY hi
theorem zQV{N i:Nat}(hi:i<N)(hN:N≤5):(aN i).ok:=⟨by show 1≤(i:Int)+1∧(i:Int)+1≤16;omega,by show 0≤(0:Int)∧(0:Int)≤_;omega,by show 1≤(10:Int)∧(10:Int)≤_;omega,by show 1≤(9:Int)∧(9:Int)≤_;omega,by show 1≤(3:Int)∧(3:Int)≤_;omega⟩
theorem zCu{N:Nat}:(y5 N).length=N:=by unfold y5;rw[List.length_map,List.length_range]
theorem NetD.st.ok{N:Nat}{X:NetD}(h:X.st N)(hO:NetOk N X.a)(hN:N≤5){i:Nat}(hi:i<N):(zG X.ns i).ok:=by
  obtain⟨h1,h2⟩:=h.con i hi
  have h3:=hO.fit i hi
  rw[NetD.at_ (by rw[h.len];exact hi)]at h3
  exact⟨by rw[h1];exact zQV hi hN,by rw[h2,zCu];omega,by rw[h1,h2];exact h3⟩
theorem NetD.st.cb{N:Nat}{X:NetD}(h:X.st N){i:Nat}(hi:i<N):(zG X.ns i).cb=zG X.cbs i:=by rw[h.cbs,kY (by rw[h.len];exact hi)]
theorem NetD.st.upd{N:Nat}{X:NetD}(h:X.st N){i dr:Nat}{n:NdD}{ts:List Int}{wv:Value}{way:List MsgD}(hi:i<N)(h1:ts.length=N)(h2:∀ t∈ts,0≤t∧t≤1001000000000):({X with ns:=X.ns.set i ((zG X.ns i).put dr n),ts:=ts,wv:=wv,way:=way}:NetD).st N:=by
  have hl:=h.len
  refine⟨by show(X.ns.set i _).length=N;rw[List.length_set,hl],?_,h1,h2,?_⟩
  · show X.cbs=(X.ns.set i _).map CorD.cb
    rw[h.cbs,List.map_set,show((zG X.ns i).put dr n).cb=zG (X.ns.map CorD.cb) i by rw[kY V];rfl]
    refine(zDb (by rw[List.length_set]) fun k hk=> ?_).symm
    rw[xW]
    rw[List.length_set]at hk
    split
    · rename_i q;rw[q.1]
    rfl
  intro j hj
  show(zG (X.ns.set i _) j).a=_∧(zG (X.ns.set i _) j).b.vs=_
  rw[xW]
  split
  · rename_i q;rw[q.1];exact h.con i hi
  exact h.con j hj
theorem NetD.a_call{X:NetD}{i dr:Nat}{n:NdD}{ts:List Int}{wv:Value}{way ms:List MsgD}:({X with ns:=X.ns.set i ((zG X.ns i).put dr n),ts:=ts,wv:=wv,way:=way++ms}:NetD).a=⟨X.a.nodes.set i n.a,way.map MsgD.a++ms.map MsgD.a⟩:=by
  unfold NetD.a CorD.put
  simp only[List.map_set,List.map_append]
theorem zN3{now t:Int}(h:0≤now∧now≤1001000000000):0≤zCr now t∧zCr now t≤1001000000000:=by unfold zCr;split<;>omega
theorem zOn{ts:List Int}{i:Nat}{x:Int}(h:∀ t∈ts,0≤t∧t≤1001000000000)(hx:0≤x∧x≤1001000000000):∀ t∈ts.set i x,0≤t∧t≤1001000000000:=by
  intro t ht
  rcases List.mem_or_eq_of_mem_set ht with h1|h1
  · exact h t h1
  rw[h1];exact hx
theorem zNl(now t:Int)(w:World)(hn:0≤now∧now≤1001000000000):Rets Tryz.prog 51 #[Vi now,Vi t] w fun u_ w'=>u_=Vi (zCr now t)∧Own w [] [] w':=by
  refine zW Tryz.func51 O Tryz.ntmps51 (Own.start w) ?_
  refine zC (zI O (zA (zP (zC (zD O (yx O O O (zD O (yJ (q:=0<t) 2 2 [9,8] (t<1000000) O O O O O O trivial O (fun h1_2=> ?_) (fun g1_5=> ?_)))))))))
  ·refine zR O (gT h1_2) (zD O (zR O (gT h1_2) (yI O O O ?_)))
   exact yN O (fun _ hw=>hw)
  refine zD O (yJ (q:=(0<t)∧(t<1000000)) 2 6 [13,12] (now<1000000000000) O O O O O O trivial O (fun h1_6=> ?_) (fun g1_9=> ?_))
  ·refine zR O (gT h1_6) (zD O (zR O (gT h1_6) (yI O O O ?_)))
   exact yN O (fun _ hw=>hw)
  refine zA (za O (fun c1=> ?_) (fun c1=> ?_))
  ·refine zC (zD O (zD O (zt O O (zr V) O (zI O (zA ?_)))))
   exact zU (z9 (v:=Vi (now+t)) O O (fun w' hw=>⟨(by unfold zCr;rw[if_pos c1]),hw.drop⟩))
  refine zQ (zC (zD O (zI O (zA ?_))))
  exact zU (z9 (v:=Vi now) O O (fun w' hw=>⟨(by unfold zCr;rw[if_neg c1]),hw.drop⟩))
theorem zIP{l:List MsgD}{k:Nat}:(((l.take k).drop 0)++l.drop (k+1)).Sublist l:=by
  rw[List.drop_zero]
  have h:l.take k++l.drop k=l:=List.take_append_drop k l
  have h2:(l.take k++l.drop (k+1)).Sublist (l.take k++l.drop k):=by
    refine List.Sublist.append (List.Sublist.refl _) ?_
    rw[←List.drop_drop]
    exact List.drop_sublist _ _
  rwa [h]at h2
section
variable {N k:Nat} {ch:Bool} {I:Nat→NetA→Prop} {X:NetD}
theorem zLq(hC:Clo N ch I)(hk:k≤2000)(hI:I k X.a)(hX:X.st N){i dr:Nat}(hi:i<N){now:Int}(hn:0≤now∧now≤2000000000000)(hd:dr<18446744073709551616){n:NdD}{x:OutA}
    (h:(n.a,x)=xJ (zG X.ns i).a (zG X.ns i).b.vs now dr (zG X.ns i).n.a):I (k+1) (X.a.call i n.a x.ms):=by
  rw[(hX.con i hi).1,(hX.con i hi).2,←NetD.at_ (by rw[hX.len];exact hi)]at h
  exact hC.adv _ _ _ _ _ _ _ hk hI hi hn hd h
theorem zHG(hC:Clo N ch I)(hk:k+1≤2000)(hI:I (k+1) X.a)(hX:X.st N){i:Nat}(hi:i<N){now:Int}(hn:0≤now∧now≤2000000000000){n:NdD}{x:OutA}{b:UInt8}
    (h:(n.a,x)=jF (zG X.ns i).a (zG X.ns i).b.vs [b] now (zG X.ns i).n.a):I (k+2) (X.a.call i n.a x.ms):=by
  rw[(hX.con i hi).1,(hX.con i hi).2,←NetD.at_ (by rw[hX.len];exact hi)]at h
  exact hC.prp _ _ _ _ _ _ _ hk hI hi hn O h
theorem zKl(hC:Clo N ch I)(hk:k+1≤2000)(hI:I (k+1) X.a)(hX:X.st N){i:Nat}(hi:i<N){now to:Int}(hn:0≤now∧now≤2000000000000){n:NdD}{x:OutA}
    (h:(n.a,x)=zDQ (zG X.ns i).a (zG X.ns i).b.vs to now (zG X.ns i).n.a):I (k+2) (X.a.call i n.a x.ms):=by
  rw[(hX.con i hi).1,(hX.con i hi).2,←NetD.at_ (by rw[hX.len];exact hi)]at h
  exact hC.giv _ _ _ _ _ _ _ hk hI hi hn h
theorem zLh(hC:Clo N ch I)(hch:ch=true)(hk:k+1≤2000)(hI:I (k+1) X.a)(hX:X.st N){i:Nat}(hi:i<N){now kind id:Int}(hn:0≤now∧now≤2000000000000)(hid:1≤id∧id≤(N:Int)){n:NdD}{x:OutA}
    (h:zAi (zG X.ns i).a (zG X.ns i).b.vs kind id now (zG X.ns i).n.a n.a x):I (k+2) (X.a.call i n.a x.ms):=by
  rw[(hX.con i hi).1,(hX.con i hi).2,←NetD.at_ (by rw[hX.len];exact hi)]at h
  exact hC.chg hch _ _ _ _ _ _ _ _ hk hI hi hn hid h
theorem zA7{m:MsgD}{r a b c:Value}{es:List EntD}(h:es.map EntD.toEntA=m.qm.map EntD.toEntA):(MsgD.mk m.kind m.src m.dst m.term m.index m.ql m.qc m.round m.flag r es ⟨a,m.conf.vs,b,m.conf.ls⟩ m.off c m.data).a=m.a:=by
  unfold MsgD.a;rw[h];rfl
theorem zAn{m:MsgD}{r a b c:Value}{es:List EntD}(h:es.map EntD.toEntA=m.qm.map EntD.toEntA)(q:m.a.net N):(MsgD.mk m.kind m.src m.dst m.term m.index m.ql m.qc m.round m.flag r es ⟨a,m.conf.vs,b,m.conf.ls⟩ m.off c m.data).a.net N:=by rw[zA7 h];exact q
theorem zCL(hC:Clo N ch I)(hk:k≤2000)(hI:I k X.a)(hX:X.st N){dr q:Nat}{now:Int}(hi:((zG X.way q).dst - 1).toNat<N)(hn:0≤now∧now≤2000000000000)(hd:dr<18446744073709551616){n:NdD}{x:OutA}{m:MsgD}{o:OutD}{way:List MsgD}(hq:q<X.way.length)(h1:1≤(zG X.way q).dst)(hm:m.a=(zG X.way q).a)
    (h:(n.a,x)=zA3 (zG X.ns ((zG X.way q).dst - 1).toNat).a (zG X.ns ((zG X.way q).dst - 1).toNat).b.vs now dr m.a (zG X.ns ((zG X.way q).dst - 1).toNat).n.a) (ho:o.qk.map MsgD.a=x.ms) (hs:way.Sublist X.way):
    I (k+1) ⟨X.a.nodes.set ((zG X.way q).dst - 1).toNat n.a,way.map MsgD.a++o.qk.map MsgD.a⟩:=by
  rw[(hX.con _ hi).1,(hX.con _ hi).2,←NetD.at_ (by rw[hX.len];exact hi),hm]at h
  have h2:=hC.rcv k X.a _ now dr _ n.a x hk hI hi hn hd (List.mem_map_of_mem (f:=MsgD.a) (zd hq)) (by show(zG X.way q).dst=_;omega) h
  rw[ho]
  exact hC.sub _ _ _ h2 (List.Sublist.append (hs.map MsgD.a) (List.Sublist.refl _))
end
theorem zPY{S:List Nat}(N k:Nat)(ch:Bool)(I:Nat→NetA→Prop)(xb:Nat)(X:NetD)(m:MovD)(w:World)(hC:Clo N ch I)(hk:k+3≤2000)(hN:1≤N∧N≤5)(hI:I k X.a)(hX:X.st N)(hm:m.ok)(hask:m.ask=2→ch=true)(hin:Own w S [Res.row xb 73 (NetD.cells X),Res.vec 27 1 X.nv X.cbs.length (X.cbs.flatMap CP),Res.star (X.ns.map CorD.dres),vT X.tv X.ts,vM X.wv X.way,sM X.way] w):Rets Tryz.prog 19 #[pt xb, .agg (MovD.cells m).toArray] w fun u_ w'=>∃ (X':NetD),u_= .tuple #[]∧I (k+2) X'.a∧X'.st N∧X'.mb=X.mb∧X'.sv=X.sv∧X'.safe=X.safe∧Own w S [Res.row xb 73 (NetD.cells X'),Res.vec 27 1 X'.nv X'.cbs.length (X'.cbs.flatMap CP),Res.star (X'.ns.map CorD.dres),vT X'.tv X'.ts,vM X'.wv X'.way,sM X'.way] w':=by
  have hOk:=hC.ok k _ V hI
  have hwl:X.way.length≤1000000:=by have h:=hOk.wl;unfold NetD.a at h;rwa [List.length_map]at h
  have hmk:=hm.k
  have hmd:=hm.qe
  have hcl:X.cbs.length=N:=by rw[hX.cbs,List.length_map,hX.len]
  have htl:=hX.tsl
  have hnl:=hX.len
  refine zW Tryz.func19 O Tryz.ntmps19 hin ?_
  refine zC (z8 O O (fun b3=>zA (zC (zK (o:=1) O O (zM 6 (v:=Vi m.k) O O O O (zI O (zA (yt (fun(aq:Nat)=>[(0,pt xb),(3,pt b3),(4,Vj aq)]) (fun(aq:Nat)=>aq≤9223372036854775807) (fun(aq:Nat)=>[Res.row xb 73 (NetD.cells X),Res.vec 27 1 X.nv X.cbs.length (X.cbs.flatMap CP),Res.star (X.ns.map CorD.dres),vT X.tv X.ts,vM X.wv X.way,sM X.way,Res.row b3 68 (MovD.cells m)]) ?_ (fun aq g hΦ=> ?_)))))))))
  ·refine zC (zD O (yI O O O (zA (za O (fun c1=> ?_) (fun c1=> ?_)))))
   ·refine zV (zI O ?_)
    exact zg (fun w' hw=>⟨0,⟨O,O,O,trivial⟩,V,hw⟩)
   exact yZ (fun w' hw=>⟨m.k.toNat,⟨O,O,(by show Value.int .i64 _=Value.int .i64 _;congr 1;omega),trivial⟩,V,hw⟩)
  refine zP (zC (zK (o:=0) O O (zM 6 (v:=Vi m.kind) O O O O (kK O O O (zD O (yJ (q:=1≤m.kind) 3 3 [29,28,27] (m.kind≤3) O O O O O O trivial O (fun h4_3=> ?_) (fun g4_7=> ?_)))))))
  ·refine zR O (gT h4_3) (zK (o:=0) O O (zR O (gT h4_3) (zM 6 (v:=Vi m.kind) O O O O (zR O (gT h4_3) (x6 O O O ?_)))))
   exact yN O (fun _ hw=>hw)
  refine zD O (yJ (q:=(1≤m.kind)∧(m.kind≤3)) 6 8 [37,36,35,34,33,32] (0<((X.way.length:Nat):Int)) O O O O O O trivial O (fun h4_8=> ?_) (fun g4_15=> ?_))
  ·refine zR O (gT h4_8) (zD O (zR O (gT h4_8) (zb O O (zR O (gT h4_8) (zK (o:=2) O O (zR O (gT h4_8) (zM 0 (v:=X.wv) O O O O (zR O (gT h4_8) (zp (pV 4 O) O O (zR O (gT h4_8) (yx O O O ?_)))))))))))
   exact yN O (fun _ hw=>hw)
  refine zA (za O (fun c2=> ?_) (fun c2=> ?_))
  ·refine yt (fun(q:Nat)=>[(0,pt xb),(3,pt b3),(5,Vj q)]) (fun(q:Nat)=>q<X.way.length) (fun(q:Nat)=>[Res.row xb 73 (NetD.cells X),Res.vec 27 1 X.nv X.cbs.length (X.cbs.flatMap CP),Res.star (X.ns.map CorD.dres),vT X.tv X.ts,vM X.wv X.way,sM X.way,Res.row b3 68 (MovD.cells m)]) ?_ (fun q g hΦ=> ?_)
   ·refine zV (zD O (zD O (zb O O (zK (o:=2) O O (zM 0 (v:=X.wv) O O O O (zp (pV 4 O) O O (zMA (c:=((aq%X.way.length:Nat):Int)) O O V O O (zI O ?_))))))))
    exact zg (fun w' hw=>⟨aq%X.way.length,⟨O,O,O,trivial⟩,(Nat.mod_lt _ V),hw⟩)
   have hkk:=hΦ
   refine zC (zD O (zb O O (zK (o:=2) O O (zM 0 (v:=X.wv) O O O O (zD O (zk (pV 4 O) 14 q O O O V O (kP (pV 4 O) 14 q (off:=xH X.wv+q*14) (fun _=>O) O O V O (yC (v:= .agg #[Vi 0,Vi 0,Vi 0,Vn 0,Vn 0,Vn 0,Vn 0,Vn 0, .bool false, .slice none 0 0, .slice none 0 0, .slice none 0 0,Vi 0, .slice none 0 0]) qN O (fun b6=> ?_)))))))))
   refine zN (fun w' hw=>MsgD.c1all (MsgD.rd.star0 5 O hw)) (fun hca=> ?_)
   refine zN (fun w' hw=>Sl.cell1 (Rd.φ (MsgD.rd.star0 5 O hw _ (zd (l:=X.way) (j:=q) V)).ev)) (fun hc1_=> ?_)
   refine zN (fun w' hw=>Sl.cell1 (Rd.φ (MsgD.rd.star0 5 O hw _ (zd (l:=X.way) (j:=q) V)).dv)) (fun hc2_=> ?_)
   refine zo 7 O O O (hca _ (zd hkk)) O (zA (j9 (fun(wv':Value) (way':List MsgD)=>[(0,pt xb),(3,pt b3),(6,pt b6)]) (fun(wv':Value) (way':List MsgD)=>way'.Sublist X.way) (fun(wv':Value) (way':List MsgD)=>[Res.row xb 73 (NetD.cells ({X with wv:=wv',way:=way'}:NetD)),Res.vec 27 1 X.nv X.cbs.length (X.cbs.flatMap CP),Res.star (X.ns.map CorD.dres),vT X.tv X.ts,vM wv' way',sM X.way,Res.row b3 68 (MovD.cells m),Res.row b6 59 (MsgD.cells (zG X.way q))]) ?_ (fun wv' way' g hΦ=> ?_)))
   ·refine zC (zK (o:=0) O O (zM 6 (v:=Vi m.kind) O O O O (xn O O O (zA (za O (fun c3=> ?_) (fun c3=> ?_))))))
    ·refine zC (zx (e:=59) (sz:=14) (vs:=[]) qN O O qY qM O (fun b56=>zD O (zb O O (zK (o:=2) O O (zM 0 (v:=X.wv) O O O O (zD O (kW (pV 4 O) 14 0 q qN O O ⟨_,O⟩ V V O (zy (g:=MsgD.cells) (sz:=14) (by':=176) (fun _=>O) (l:=[]) (l':=((X.way.take q).drop 0)) (fun x hx=>hca x (List.mem_of_mem_take (List.mem_of_mem_drop hx))) 8 qN O O O (fun w' hw'=>Sl.subL_f (g:=MsgD.cells) (xs:=X.way) (sz:=14) (fun _=>O) ((fun w' hw'=>Vec.sl (Own.holds hw' 4 _ O)) w' hw') (l:=0) (h:=q) V V) qO qM O (fun v63=>zI O (zA (zV (zD O ?_))))))))))))
     refine zD O (zD O (zb O O (zK (o:=2) O O (zM 0 (v:=X.wv) O O O O (zD O (zt O O (zr V) O (kW (pV 4 O) 14 (q+1) X.way.length qN O ⟨_,O⟩ O V V O (zy (g:=MsgD.cells) (sz:=14) (by':=176) (fun _=>O) (l:=((X.way.take q).drop 0)) (l':=(X.way.drop (q+1))) (fun x hx=>hca x (List.mem_of_mem_drop hx)) 8 qN O O O (fun w' hw'=>Sl.dropL_f (g:=MsgD.cells) (xs:=X.way) (sz:=14) (fun _=>O) ((fun w' hw'=>Vec.sl (Own.holds hw' 4 _ O)) w' hw') (l:=q+1) V) qO qM O (fun v73=>zb O O (zK (o:=2) O O ?_))))))))))
     refine zN (fun w' hw=>Own.qg (i:=8) O hw) (fun hc3_=> ?_)
     refine zn (cs:=(NetD.cells X)) 0 O O O hc3_ O ?_
     exact zg (fun w' hw=>⟨v73,((X.way.take q).drop 0)++(X.way.drop (q+1)),⟨O,O,O,trivial⟩,zIP,hw.sel [0,1,2,3,8,5,6,7] O qM⟩)
    exact yZ (fun w' hw=>⟨X.wv,X.way,⟨O,O,O,trivial⟩,List.Sublist.refl _,hw⟩)
   have hsub:=hΦ
   have hsl:=hsub.length_le
   refine zP (zC (zK (o:=0) O O (zM 6 (v:=Vi m.kind) O O O O (xn O O O (zA (za O (fun c4=> ?_) (fun c4=> ?_)))))))
   ·have hQ:=hOk.way _ (List.mem_map_of_mem (f:=MsgD.a) (zd hkk))
    have hqd:1≤(zG X.way q).dst∧(zG X.way q).dst≤N:=hQ.dst
    have hqi:((zG X.way q).dst - 1).toNat<N:=by omega
    have hti:=hX.ts _ (zd (show((zG X.way q).dst - 1).toNat<X.ts.length by omega))
    have hqk:(zG X.way q).kind≠7∧(zG X.way q).kind≠8:=hQ.kind
    refine zC (zK (o:=2) O O (zM 7 (v:=Vi ((zG X.way q).dst)) O O O O (x8 O O (zr V) O (zI O (zA (zNI (L':=[Res.any (fun z_=>Res.row xb 73 [X.nv,X.tv,z_, .map (some X.mb),X.sv]) [xb],Res.vec 27 1 X.nv X.cbs.length (X.cbs.flatMap CP),vT X.tv X.ts,Res.row b3 68 (MovD.cells m),Res.row b6 59 (MsgD.cells (zG X.way q))]) (fun w' hw=>hw.weak [0,1,3,6,7] (wv') O qM O) (fun w' hw hS=>zB 0 O zS hS (zB 1 O zS hS (zB 2 O (zO O) hS (zB 3 O (zH (o:=2) O) hS (zB 5 O zS hS (zB 6 O (zO O) hS ?_))))))))))))
    refine zB 7 O (zH (o:=0) O) hS (zB 8 O (zLA 0 (v:=X.nv) (r:=fun z_=>Res.row xb 73 [X.nv,X.tv,z_, .map (some X.mb),X.sv]) O O (fun _=>O) (fun _=>O)) hS (zB 9 O zS hS (zB 10 O (yz (pV 1 O) 1 ((((zG X.way q).dst) - 1).toNat) O O V V) hS (zB 11 O (x0 (pV 1 O) 1 ((((zG X.way q).dst) - 1).toNat) 0 (fun _=>O) O O V O) hS (zB 12 O (x1 (cs:=(MsgD.cells (zG X.way q))) 4 O O) hS (zB 14 O zS hS (zB 15 O (zO O) hS (zB 16 O (zH (o:=1) O) hS (zB 17 O (zLA 0 (v:=X.tv) (r:=fun z_=>Res.row xb 73 [X.nv,X.tv,z_, .map (some X.mb),X.sv]) O O (fun _=>O) (fun _=>O)) hS (zB 18 O zS hS (zB 19 O (yz (pV 2 O) 1 ((((zG X.way q).dst) - 1).toNat) O O V V) hS (zB 20 O (x0 (pV 2 O) 1 ((((zG X.way q).dst) - 1).toNat) 0 (fun _=>O) O O V O) hS ?_))))))))))))
    refine zB 21 O (zH (o:=3) O) hS (zB 22 O (zY 3 (v:=Vn m.qe) O O O) hS (zq 4 13 ?_ ?_))
    ·refine zl 4 O hw (zM 0 (v:=wv') O O O O (xu (fun w' hw=>hw.weak [0,1,3,6,7] (wv') O qM O) (fun w' hw hS=>zJ 13 O hw (a_call O O (fun w' hw=>(zBQ (zG X.way q) w' (je hQ) (MsgD.rd.star0 5 O hw _ (zd V))).mono ?_)))))
     rintro _ w1 ⟨r3_,es4_,a5_,b6_,c7_,rfl,hf12_13,hO⟩
     have hes:=hf12_13
     refine O13 ?_ (hw.qi hO)
     refine xu (fun w' hw=>hw.weak [0,1,3,6,7] (wv') O qM O) (fun w' hw hS=>zJ 23 O hw (a_call O O (fun w' hw=>(zEX X.ns (((zG X.way q).dst - 1).toNat) (zG X.cbs ((((zG X.way q).dst) - 1).toNat)) ({(zG X.way q)with ev:=r3_,qm:=es4_,conf:=({vv:=a5_,vs:=(zG X.way q).conf.vs,lv:=b6_,ls:=(zG X.way q).conf.ls}:ConfD),dv:=c7_}:MsgD) (zG X.ts ((((zG X.way q).dst) - 1).toNat)) m.qe w' V (hX.cb hqi) (hX.ok hOk hN.2 hqi) V hmd (je (zAn hes hQ)) hqk (hw.give [2] O qM) ⟨(hw.rdVec 8 O [2] O O),(EntD.rd.star 9 O [2] O O hw),⟨(hw.rdVec 10 O [2] O O),(hw.rdVec 11 O [2] O O)⟩,(hw.rdVec 12 O [2] O O)⟩).mono ?_)))
     rintro _ w1 ⟨n'8_,dr'9_,o10_,x11_,rfl,hf12_23,hf12_23_1,hf12_23_2,hf12_23_3,hO⟩
     have hR:=zCL hC V hI hX hqi V hmd hkk hqd.1 (zA7 hes) hf12_23 hf12_23_1 hsub
     have hol:(way'.length+o10_.qk.length)≤1000000:=by have h:=(hC.ok _ _ V hR).wl;simp only[List.length_append,List.length_map]at h;exact h
     refine O17 ?_ (hw.qh [2] O hO)
     refine xu (fun w' hw=>hw.weak [0,1,2,5,6] (wv') O qM O) (fun w' hw hS=>zB 24 O (zFA (o:=0) (v:=o10_.mv) O qN O) hS (zJ 25 O hw ?_))
     refine zN (fun w' hw=>MsgD.c1all (MsgD.rd.star0 14 O hw)) (fun hc5_=> ?_)
     refine zy (g:=MsgD.cells) (sz:=14) (by':=176) (fun _=>O) (l:=way') (l':=o10_.qk) hc5_ 3 qN O O O (fun w' hw'=>Vec.sl (Own.holds hw' 13 _ O)) qO qM O (fun v107=>xu (fun w' hw=>hw.weak [0,1,2,5,6] (wv') O qM O) (fun w' hw hS=>zB 26 O (zO O) hS (zB 27 O (zH (o:=2) O) hS (zJ 28 O hw ?_))))
     refine zN (fun w' hw=>Own.qg (i:=3) O hw) (fun hc6_=> ?_)
     refine zn (cs:=(NetD.cells ({X with wv:=wv',way:=way'}:NetD))) 0 O O O hc6_ O (xu (fun w' hw=>hw.weak [0,1,2,5,6] (v107) O qM O) (fun w' hw hS=>zT ?_))
     refine Oc17 ?_ hw
     exact zU (yQ O (fun w' hw=>⟨({X with ns:=X.ns.set ((zG X.way q).dst - 1).toNat ((zG X.ns ((zG X.way q).dst - 1).toNat).put dr'9_ n'8_),ts:=X.ts,wv:=v107,way:=way'++o10_.qk}:NetD),O,(by rw[NetD.a_call];exact hC.up _ _ hR),hX.upd hqi htl hX.ts,O,O,O,(((hw.qK 4 hsub O).starApp 4 14 qM O O).sel [0,1,12,2,3,4] O qM)⟩))
    refine zl 13 O hw (a_call O O (fun w' hw=>(zBQ (zG X.way q) w' (je hQ) (MsgD.rd.star0 5 O hw _ (zd V))).mono ?_))
    rintro _ w1 ⟨r12_,es13_,a14_,b15_,c16_,rfl,hf12_13,hO⟩
    have hes:=hf12_13
    refine O13 ?_ (hw.qi hO)
    refine xu (fun w' hw=>hw.weak [0,1,3,6,7] (wv') O qM O) (fun w' hw hS=>zq 4 23 ?_ ?_)
    ·refine zl 4 O hw (zM 0 (v:=wv') O O O O (xu (fun w' hw=>hw.weak [0,1,3,6,7] (wv') O qM O) (fun w' hw hS=>zJ 23 O hw (a_call O O (fun w' hw=>(zEX X.ns (((zG X.way q).dst - 1).toNat) (zG X.cbs ((((zG X.way q).dst) - 1).toNat)) ({(zG X.way q)with ev:=r12_,qm:=es13_,conf:=({vv:=a14_,vs:=(zG X.way q).conf.vs,lv:=b15_,ls:=(zG X.way q).conf.ls}:ConfD),dv:=c16_}:MsgD) (zG X.ts ((((zG X.way q).dst) - 1).toNat)) m.qe w' V (hX.cb hqi) (hX.ok hOk hN.2 hqi) V hmd (je (zAn hes hQ)) hqk (hw.give [2] O qM) ⟨(hw.rdVec 8 O [2] O O),(EntD.rd.star 9 O [2] O O hw),⟨(hw.rdVec 10 O [2] O O),(hw.rdVec 11 O [2] O O)⟩,(hw.rdVec 12 O [2] O O)⟩).mono ?_)))))
     rintro _ w1 ⟨n'17_,dr'18_,o19_,x20_,rfl,hf12_23,hf12_23_1,hf12_23_2,hf12_23_3,hO⟩
     have hR:=zCL hC V hI hX hqi V hmd hkk hqd.1 (zA7 hes) hf12_23 hf12_23_1 hsub
     have hol:(way'.length+o19_.qk.length)≤1000000:=by have h:=(hC.ok _ _ V hR).wl;simp only[List.length_append,List.length_map]at h;exact h
     refine O17 ?_ (hw.qh [2] O hO)
     refine xu (fun w' hw=>hw.weak [0,1,2,5,6] (wv') O qM O) (fun w' hw hS=>zB 24 O (zFA (o:=0) (v:=o19_.mv) O qN O) hS (zJ 25 O hw ?_))
     refine zN (fun w' hw=>MsgD.c1all (MsgD.rd.star0 14 O hw)) (fun hc7_=> ?_)
     refine zy (g:=MsgD.cells) (sz:=14) (by':=176) (fun _=>O) (l:=way') (l':=o19_.qk) hc7_ 3 qN O O O (fun w' hw'=>Vec.sl (Own.holds hw' 13 _ O)) qO qM O (fun v107=>xu (fun w' hw=>hw.weak [0,1,2,5,6] (wv') O qM O) (fun w' hw hS=>zB 26 O (zO O) hS (zB 27 O (zH (o:=2) O) hS (zJ 28 O hw ?_))))
     refine zN (fun w' hw=>Own.qg (i:=3) O hw) (fun hc8_=> ?_)
     refine zn (cs:=(NetD.cells ({X with wv:=wv',way:=way'}:NetD))) 0 O O O hc8_ O (xu (fun w' hw=>hw.weak [0,1,2,5,6] (v107) O qM O) (fun w' hw hS=>zT ?_))
     refine Oc17 ?_ hw
     exact zU (yQ O (fun w' hw=>⟨({X with ns:=X.ns.set ((zG X.way q).dst - 1).toNat ((zG X.ns ((zG X.way q).dst - 1).toNat).put dr'18_ n'17_),ts:=X.ts,wv:=v107,way:=way'++o19_.qk}:NetD),O,(by rw[NetD.a_call];exact hC.up _ _ hR),hX.upd hqi htl hX.ts,O,O,O,(((hw.qK 4 hsub O).starApp 4 14 qM O O).sel [0,1,12,2,3,4] O qM)⟩))
    refine zl 23 O hw (a_call O O (fun w' hw=>(zEX X.ns (((zG X.way q).dst - 1).toNat) (zG X.cbs ((((zG X.way q).dst) - 1).toNat)) ({(zG X.way q)with ev:=r12_,qm:=es13_,conf:=({vv:=a14_,vs:=(zG X.way q).conf.vs,lv:=b15_,ls:=(zG X.way q).conf.ls}:ConfD),dv:=c16_}:MsgD) (zG X.ts ((((zG X.way q).dst) - 1).toNat)) m.qe w' V (hX.cb hqi) (hX.ok hOk hN.2 hqi) V hmd (je (zAn hes hQ)) hqk (hw.give [2] O qM) ⟨(hw.rdVec 8 O [2] O O),(EntD.rd.star 9 O [2] O O hw),⟨(hw.rdVec 10 O [2] O O),(hw.rdVec 11 O [2] O O)⟩,(hw.rdVec 12 O [2] O O)⟩).mono ?_))
    rintro _ w1 ⟨n'21_,dr'22_,o23_,x24_,rfl,hf12_23,hf12_23_1,hf12_23_2,hf12_23_3,hO⟩
    have hR:=zCL hC V hI hX hqi V hmd hkk hqd.1 (zA7 hes) hf12_23 hf12_23_1 hsub
    have hol:(way'.length+o23_.qk.length)≤1000000:=by have h:=(hC.ok _ _ V hR).wl;simp only[List.length_append,List.length_map]at h;exact h
    refine O17 ?_ (hw.qh [2] O hO)
    refine xu (fun w' hw=>hw.weak [0,1,2,5,6] (wv') O qM O) (fun w' hw hS=>zB 24 O (zFA (o:=0) (v:=o23_.mv) O qN O) hS (zJ 4 O hw (zM 0 (v:=wv') O O O O (xu (fun w' hw=>hw.weak [0,1,2,5,6] (wv') O qM O) (fun w' hw hS=>zJ 25 O hw ?_)))))
    refine zN (fun w' hw=>MsgD.c1all (MsgD.rd.star0 14 O hw)) (fun hc9_=> ?_)
    refine zy (g:=MsgD.cells) (sz:=14) (by':=176) (fun _=>O) (l:=way') (l':=o23_.qk) hc9_ 3 qN O O O (fun w' hw'=>Vec.sl (Own.holds hw' 13 _ O)) qO qM O (fun v107=>xu (fun w' hw=>hw.weak [0,1,2,5,6] (wv') O qM O) (fun w' hw hS=>zB 26 O (zO O) hS (zB 27 O (zH (o:=2) O) hS (zJ 28 O hw ?_))))
    refine zN (fun w' hw=>Own.qg (i:=3) O hw) (fun hc10_=> ?_)
    refine zn (cs:=(NetD.cells ({X with wv:=wv',way:=way'}:NetD))) 0 O O O hc10_ O (xu (fun w' hw=>hw.weak [0,1,2,5,6] (v107) O qM O) (fun w' hw hS=>zT ?_))
    refine Oc17 ?_ hw
    exact zU (yQ O (fun w' hw=>⟨({X with ns:=X.ns.set ((zG X.way q).dst - 1).toNat ((zG X.ns ((zG X.way q).dst - 1).toNat).put dr'22_ n'21_),ts:=X.ts,wv:=v107,way:=way'++o23_.qk}:NetD),O,(by rw[NetD.a_call];exact hC.up _ _ hR),hX.upd hqi htl hX.ts,O,O,O,(((hw.qK 4 hsub O).starApp 4 14 qM O O).sel [0,1,12,2,3,4] O qM)⟩))
   refine zQ ?_
   exact zU (yQ O (fun w' hw=>⟨({X with wv:=wv',way:=way'}:NetD),O,hC.up _ _ (hC.up _ _ (hC.sub _ _ _ hI (hsub.map MsgD.a))),⟨hX.len,hX.cbs,hX.tsl,hX.ts,hX.con⟩,O,O,O,((hw.qK 5 hsub O).sel [0,1,2,3,4,5] O qM)⟩))
  refine zQ (yt (fun(i:Nat)=>[(0,pt xb),(3,pt b3),(9,Vj i)]) (fun(i:Nat)=>i<N) (fun(i:Nat)=>[Res.row xb 73 (NetD.cells X),Res.vec 27 1 X.nv X.cbs.length (X.cbs.flatMap CP),Res.star (X.ns.map CorD.dres),vT X.tv X.ts,vM X.wv X.way,sM X.way,Res.row b3 68 (MovD.cells m)]) ?_ (fun i g hΦ=> ?_))
  ·refine zV (zD O (zD O (zb O O (zK (o:=0) O O (zM 0 (v:=X.nv) O O O O (zp (pV 1 O) O O (zMA (c:=((aq%X.cbs.length:Nat):Int)) O O V O O (zI O ?_))))))))
   exact zg (fun w' hw=>⟨aq%X.cbs.length,⟨O,O,O,trivial⟩,(by rw[hcl];exact Nat.mod_lt _ V),hw⟩)
  have hi:=hΦ
  have hti:=hX.ts _ (zd (show i<X.ts.length by omega))
  have hlt:=zN3 (t:=m.t) hti
  refine zP (ze [0,1,4,6] O qM qN (fun w' hw hS=>zB 0 O zS hS (zB 1 O (zO O) hS (zB 2 O (zH (o:=1) O) hS (zB 3 O (zY 0 (v:=X.tv) O O O) hS (zB 4 O zS hS (zB 5 O zS hS (zB 6 O (zO O) hS (zB 7 O (zH (o:=1) O) hS (zB 8 O (zY 0 (v:=X.tv) O O O) hS (zB 9 O zS hS (zB 12 O (zH (o:=2) O) hS ?_))))))))))))
  refine zB 13 O (zY 3 (v:=Vi m.t) O O O) hS (zJ 10 O hw (zk (pV 3 O) 1 i O O O V O (zE [0,1,4,6] O qM (fun w' hw hS=>zJ 11 O hw (yH (pV 3 O) 1 i 0 (fun _=>O) O O V O O (zE [0,1,4,6] O qM (fun w' hw hS=>zJ 14 O hw (a_call O O (fun w' hw=>(zNl (zG X.ts i) m.t w' qO).mono ?_)))))))))
  rintro _ w1 ⟨rfl,hO⟩
  refine O7 ?_ (hw.qi hO)
  refine zE [0,1,4,6] O qM (fun w' hw hS=>zJ 15 O hw (zk (pV 3 O) 1 i O O O V O (zE [0,1,4,6] O qM (fun w' hw hS=>zJ 16 O hw (yu 3 i (zCr (zG X.ts i) m.t) O (fun _=>O) O V O O O V (zE [0,1,4,6] O qM (fun w' hw hS=>zT ?_)))))))
  refine Oc7 ?_ hw
  refine jl (fun(ob:Nat) (n':NdD) (o:OutD)=>[(0,pt xb),(3,pt b3),(9,Vj i),(10,pt ob)]) (fun(ob:Nat) (n':NdD) (o:OutD)=>I (k+1) (X.a.call i n'.a (o.qk.map MsgD.a))) (fun(ob:Nat) (n':NdD) (o:OutD)=>[Res.row xb 73 (NetD.cells ({X with ts:=(X.ts.set i (zCr (zG X.ts i) m.t))}:NetD)),Res.vec 27 1 X.nv X.cbs.length (X.cbs.flatMap CP),Res.star ((X.ns.set i ((zG X.ns i).put m.qe n')).map CorD.dres),vT X.tv (X.ts.set i (zCr (zG X.ts i) m.t)),vM X.wv X.way,sM X.way,Res.row b3 68 (MovD.cells m),zAt ob o,vM o.mv o.qk,sM o.qk]) ?_ (fun ob n' o g hΦ=> ?_)
  ·refine ze [0,1,3,4,6] O qM qN (fun w' hw hS=>zB 0 O zS hS (zB 1 O (zO O) hS (zB 2 O (zH (o:=0) O) hS (zB 3 O (zY 0 (v:=X.nv) O O O) hS (zB 4 O zS hS (zB 5 O (yz (pV 1 O) 1 i O O O V) hS (zB 6 O (x0 (pV 1 O) 1 i 0 (fun _=>O) O O V O) hS (zB 7 O zS hS (zB 8 O (zO O) hS (zB 9 O (zH (o:=1) O) hS (zB 10 O (zY 0 (v:=X.tv) O O O) hS (zB 11 O zS hS ?_))))))))))))
   refine zB 12 O (yz (pV 2 O) 1 i O O O qU) hS (zB 13 O (x0 (pV 2 O) 1 i 0 (fun _=>O) O O qU O) hS (zB 14 O (zH (o:=3) O) hS (zB 15 O (zY 4 (v:=Vn m.qe) O O O) hS (zq 16 17 ?_ ?_))))
   ·refine zl 16 O hw (a_call O O (fun w' hw=>(zOR X.ns i (zG X.cbs i) (zG (X.ts.set i (zCr (zG X.ts i) m.t)) i) m.qe w' V (hX.cb hi) (hX.ok hOk hN.2 hi) (by rw[xW,if_pos ⟨rfl,by omega⟩];omega) hmd (hw.give [2] O qM)).mono ?_))
    rintro _ w1 ⟨n'25_,o26_,x27_,rfl,hf15_16,hf15_16_1,hf15_16_2,hf15_16_3,hO⟩
    refine O11 ?_ (hw.qh [2] O hO)
    refine zE [0,1,2,3,5] O qM (fun w' hw hS=>zJ 17 O hw (yC (v:= .agg #[.slice none 0 0, .bool false, .slice none 0 0, .slice none 0 0]) qN O (fun b10=>zE [0,1,2,3,5] O qM (fun w' hw hS=>zJ 18 O hw ?_))))
    refine zN (fun w' hw=>Own.qg (i:=7) O hw) (fun hc11_=> ?_)
    refine zN (fun w' hw=>Own.qg (i:=9) O hw) (fun hc12_=> ?_)
    refine zN (fun w' hw=>Own.qg (i:=10) O hw) (fun hc13_=> ?_)
    refine zo 11 O O O (zF hc11_ (zF O (zF hc12_ (zF hc13_ zh)))) O (zE [0,1,2,3,5] O qM (fun w' hw hS=>zT ?_))
    exact⟨b10,n'25_,o26_,⟨O,O,O,O,trivial⟩,(by rw[hf15_16_1];exact zLq hC V hI hX hi (by rw[xW,if_pos ⟨rfl,by omega⟩];omega) hmd hf15_16),hw.sel [0,1,6,2,3,4,5,11,7,8] O qM⟩
   refine zl 17 O hw (yC (v:= .agg #[.slice none 0 0, .bool false, .slice none 0 0, .slice none 0 0]) qN O (fun b10=>zE [0,1,3,4,6] O qM (fun w' hw hS=>zJ 16 O hw (a_call O O (fun w' hw=>(zOR X.ns i (zG X.cbs i) (zG (X.ts.set i (zCr (zG X.ts i) m.t)) i) m.qe w' V (hX.cb hi) (hX.ok hOk hN.2 hi) (by rw[xW,if_pos ⟨rfl,by omega⟩];omega) hmd (hw.give [2] O qM)).mono ?_)))))
   rintro _ w1 ⟨n'28_,o29_,x30_,rfl,hf15_16,hf15_16_1,hf15_16_2,hf15_16_3,hO⟩
   refine O12 ?_ (hw.qh [2] O hO)
   refine zE [0,1,2,3,5] O qM (fun w' hw hS=>zJ 18 O hw ?_)
   refine zN (fun w' hw=>Own.qg (i:=8) O hw) (fun hc14_=> ?_)
   refine zN (fun w' hw=>Own.qg (i:=10) O hw) (fun hc15_=> ?_)
   refine zN (fun w' hw=>Own.qg (i:=11) O hw) (fun hc16_=> ?_)
   refine zo 6 O O O (zF hc14_ (zF O (zF hc15_ (zF hc16_ zh)))) O (zE [0,1,2,3,5] O qM (fun w' hw hS=>zT ?_))
   exact⟨b10,n'28_,o29_,⟨O,O,O,O,trivial⟩,(by rw[hf15_16_1];exact zLq hC V hI hX hi (by rw[xW,if_pos ⟨rfl,by omega⟩];omega) hmd hf15_16),hw.sel [0,1,7,2,3,4,5,6,8,9] O qM⟩
  have hI16:=hΦ
  have hwl16:(X.way++o.qk).length≤1000000:=by have h:=(hC.ok _ _ V hI16).wl;unfold NetA.call NetD.a at h;rw[←List.map_append,List.length_map]at h;exact h
  rw[List.length_append]at hwl16
  refine yt (fun(X1:NetD)=>[(0,pt xb),(3,pt b3),(9,Vj i)]) (fun(X1:NetD)=>(I (k+1) X1.a∧X1.st N)∧X1.mb=X.mb∧X1.sv=X.sv∧X1.safe=X.safe) (fun(X1:NetD)=>[Res.row xb 73 (NetD.cells X1),Res.vec 27 1 X1.nv X1.cbs.length (X1.cbs.flatMap CP),Res.star (X1.ns.map CorD.dres),vT X1.tv X1.ts,vM X1.wv X1.way,sM X1.way,Res.row b3 68 (MovD.cells m)]) ?_ (fun X1 g hΦ=> ?_)
  ·refine ze [1,3,6,7,8] O qM qN (fun w' hw hS=>zB 0 O zS hS (zB 1 O zS hS (zB 2 O (zO O) hS (zB 3 O (zH (o:=2) O) hS (zB 5 O (zH (o:=0) O) hS (zB 6 O (zY 3 (v:=o.mv) O O O) hS (zJ 4 O hw (zM 0 (v:=X.wv) O O O O (zE [1,3,6,7,8] O qM (fun w' hw hS=>zJ 7 O hw ?_))))))))))
   refine zN (fun w' hw=>MsgD.c1all (MsgD.rd.star0 9 O hw)) (fun hc20_=> ?_)
   refine zy (g:=MsgD.cells) (sz:=14) (by':=176) (fun _=>O) (l:=X.way) (l':=o.qk) hc20_ 4 qN O O O (fun w' hw'=>Vec.sl (Own.holds hw' 8 _ O)) qO qM O (fun v157=>zE [1,3,6,7,8] O qM (fun w' hw hS=>zB 8 O (zO O) hS (zB 9 O (zH (o:=2) O) hS (zJ 10 O hw ?_))))
   refine zN (fun w' hw=>Own.qg (i:=4) O hw) (fun hc21_=> ?_)
   refine zn 0 O O O hc21_ O (zE [1,3,6,7,8] O qM (fun w' hw hS=>zT ?_))
   exact⟨({X with ns:=X.ns.set i ((zG X.ns i).put m.qe n'),ts:=(X.ts.set i (zCr (zG X.ts i) m.t)),wv:=v157,way:=X.way++o.qk}:NetD),⟨O,O,O,trivial⟩,⟨⟨by rw[NetD.a_call];exact hI16,hX.upd hi (by rw[List.length_set];exact htl) (zOn hX.ts hlt)⟩,O,O,O⟩,((hw.starApp 5 9 qM O O).sel [0,1,2,3,4,5,6] O qM)⟩
  obtain⟨⟨hI1,hX1⟩,hmv⟩:=hΦ
  have hOj:=hC.ok _ _ V hI1
  have hwl1:X1.way.length≤1000000:=by have h:=hOj.wl;unfold NetD.a at h;rwa [List.length_map]at h
  have hcl1:X1.cbs.length=N:=by rw[hX1.cbs,List.length_map,hX1.len]
  have htl1:=hX1.tsl
  have hr1:=Nat.mod_lt (m.qe / 3) (show 0<X1.cbs.length by omega)
  have hr2:=Nat.mod_lt m.qe (show 0<X1.cbs.length by omega)
  have hnl1:=hX1.len
  have hti1:=hX1.ts _ (zd (show i<X1.ts.length by omega))
  refine zC (zK (o:=4) O O (zM 6 (v:=Vi m.ask) O O O O (zA (zZ (zC (yR O O O (zI O (zA (za O (fun c5=> ?_) (fun c5=> ?_))))))))))
  ·refine jl (fun(ob:Nat) (n':NdD) (o:OutD)=>[(0,pt xb),(12,pt ob)]) (fun(ob:Nat) (n':NdD) (o:OutD)=>I (k+2) (X1.a.call i n'.a (o.qk.map MsgD.a))) (fun(ob:Nat) (n':NdD) (o:OutD)=>[Res.row xb 73 (NetD.cells X1),Res.vec 27 1 X1.nv X1.cbs.length (X1.cbs.flatMap CP),Res.star ((X1.ns.set i ((zG X1.ns i).put (zG X1.ns i).qe n')).map CorD.dres),vT X1.tv X1.ts,vM X1.wv X1.way,sM X1.way,Res.row b3 68 (MovD.cells m),zAt ob o,vM o.mv o.qk,sM o.qk]) ?_ (fun ob n' o g hΦ=> ?_)
   ·refine ze [0,1,3,4,6] O qM qN (fun w' hw hS=>zB 0 O zS hS (zB 1 O (zO O) hS (zB 2 O (zH (o:=0) O) hS (zB 3 O (zY 0 (v:=X1.nv) O O O) hS (zB 4 O zS hS (zB 5 O (yz (pV 1 O) 1 i O O O V) hS (zB 6 O (x0 (pV 1 O) 1 i 0 (fun _=>O) O O V O) hS (zB 7 O (zH (o:=3) O) hS (zB 8 O (zY 4 (v:=Vn m.qe) O O O) hS (zB 9 O (x7 (c:=((m.qe%256:Nat):Int)) qN O (by rw[wu8];omega) qN) hS (zB 11 O zS hS (zB 12 O (zO O) hS ?_))))))))))))
    refine zB 13 O (zH (o:=1) O) hS (zB 14 O (zY 0 (v:=X1.tv) O O O) hS (zB 15 O zS hS (zB 16 O (yz (pV 2 O) 1 i O O O V) hS (zB 17 O (x0 (pV 2 O) 1 i 0 (fun _=>O) O O V O) hS (zq 10 23 ?_ ?_)))))
    ·refine zl 10 O hw (zx (e:=5) (sz:=1) (vs:=[.int .u8 (m.qe%256:Nat)]) qN O O qR qM O (fun b175=> ?_))
     refine z4 [Res.row xb 73 (NetD.cells X1),Res.vec 27 1 X1.nv X1.cbs.length (X1.cbs.flatMap CP),Res.star (X1.ns.map CorD.dres),vT X1.tv X1.ts,vM X1.wv X1.way,sM X1.way,Res.row b3 68 (MovD.cells m),vY (.slice (some ⟨b175,0,none⟩) 1 1) ([UInt8.ofNat (m.qe%256)]:List UInt8)] (fun w' hw=>by unfold vY;rw[zGF V];exact hw) ?_
     refine zE [0,1,3,4,6] O qM (fun w' hw hS=>zq 18 23 ?_ ?_)
     ·refine zl 18 O hw (a_call O O (fun w' hw=>(zGt X1.ns i (zG X1.cbs i) (.slice (some ⟨b175,0,none⟩) 1 1) ([UInt8.ofNat (m.qe%256)]:List UInt8) (zG X1.ts i) w' V (hX1.cb hi) (hX1.ok hOj hN.2 hi) V qS (hw.give [2] O qM) (hw.rdVec 7 O [2] O O)).mono ?_))
      rintro _ w1 ⟨n'31_,o32_,x33_,at_34_,e35_,rfl,hf19_18,hf19_18_1,hf19_18_2,hf19_18_3,hO⟩
      refine O12 ?_ (hw.qh [2] O hO)
      refine zE [0,1,2,3,5] O qM (fun w' hw hS=>zB 19 O zS hS (zB 20 O (yT (vs:=[Vn at_34_, .agg (OutD.cells o32_).toArray,Vi e35_]) O O) hS (zB 21 O (yT (vs:=[Vn at_34_, .agg (OutD.cells o32_).toArray,Vi e35_]) O O) hS (zB 22 O (yT (vs:=[Vn at_34_, .agg (OutD.cells o32_).toArray,Vi e35_]) O O) hS (zJ 23 O hw (yC (v:= .agg #[.slice none 0 0, .bool false, .slice none 0 0, .slice none 0 0]) qN O (fun b12=>zE [0,1,2,3,5] O qM (fun w' hw hS=>zB 24 O yO hS (zJ 25 O hw ?_)))))))))
      refine zN (fun w' hw=>Own.qg (i:=8) O hw) (fun hc22_=> ?_)
      refine zN (fun w' hw=>Own.qg (i:=10) O hw) (fun hc23_=> ?_)
      refine zN (fun w' hw=>Own.qg (i:=11) O hw) (fun hc24_=> ?_)
      refine zo 12 O O O (zF hc22_ (zF O (zF hc23_ (zF hc24_ zh)))) O (zE [0,1,2,3,5] O qM (fun w' hw hS=>zB 26 O yO hS (zT ?_)))
      exact⟨b12,n'31_,o32_,⟨O,O,trivial⟩,(by rw[hf19_18_1];exact zHG hC V hI1 hX1 hi V hf19_18),hw.sel [0,1,7,2,3,4,5,12,8,9] O qM⟩
     refine zl 23 O hw (yC (v:= .agg #[.slice none 0 0, .bool false, .slice none 0 0, .slice none 0 0]) qN O (fun b12=>zE [0,1,3,4,6] O qM (fun w' hw hS=>zJ 18 O hw (a_call O O (fun w' hw=>(zGt X1.ns i (zG X1.cbs i) (.slice (some ⟨b175,0,none⟩) 1 1) ([UInt8.ofNat (m.qe%256)]:List UInt8) (zG X1.ts i) w' V (hX1.cb hi) (hX1.ok hOj hN.2 hi) V qS (hw.give [2] O qM) (hw.rdVec 7 O [2] O O)).mono ?_)))))
     rintro _ w1 ⟨n'36_,o37_,x38_,at_39_,e40_,rfl,hf19_18,hf19_18_1,hf19_18_2,hf19_18_3,hO⟩
     refine O13 ?_ (hw.qh [2] O hO)
     refine zE [0,1,2,3,5] O qM (fun w' hw hS=>zB 19 O zS hS (zB 20 O (yT (vs:=[Vn at_39_, .agg (OutD.cells o37_).toArray,Vi e40_]) O O) hS (zB 21 O (yT (vs:=[Vn at_39_, .agg (OutD.cells o37_).toArray,Vi e40_]) O O) hS (zB 22 O (yT (vs:=[Vn at_39_, .agg (OutD.cells o37_).toArray,Vi e40_]) O O) hS (zB 24 O yO hS (zJ 25 O hw ?_))))))
     refine zN (fun w' hw=>Own.qg (i:=9) O hw) (fun hc25_=> ?_)
     refine zN (fun w' hw=>Own.qg (i:=11) O hw) (fun hc26_=> ?_)
     refine zN (fun w' hw=>Own.qg (i:=12) O hw) (fun hc27_=> ?_)
     refine zo 7 O O O (zF hc25_ (zF O (zF hc26_ (zF hc27_ zh)))) O (zE [0,1,2,3,5] O qM (fun w' hw hS=>zB 26 O yO hS (zT ?_)))
     exact⟨b12,n'36_,o37_,⟨O,O,trivial⟩,(by rw[hf19_18_1];exact zHG hC V hI1 hX1 hi V hf19_18),hw.sel [0,1,8,2,3,4,5,7,9,10] O qM⟩
    refine zl 23 O hw (yC (v:= .agg #[.slice none 0 0, .bool false, .slice none 0 0, .slice none 0 0]) qN O (fun b12=>zE [0,1,3,4,6] O qM (fun w' hw hS=>zJ 10 O hw (zx (e:=5) (sz:=1) (vs:=[.int .u8 (m.qe%256:Nat)]) qN O O qR qM O (fun b175=> ?_)))))
    refine z4 [Res.row xb 73 (NetD.cells X1),Res.vec 27 1 X1.nv X1.cbs.length (X1.cbs.flatMap CP),Res.star (X1.ns.map CorD.dres),vT X1.tv X1.ts,vM X1.wv X1.way,sM X1.way,Res.row b3 68 (MovD.cells m),Res.row b12 44 [.slice none 0 0, .bool false, .slice none 0 0, .slice none 0 0],vY (.slice (some ⟨b175,0,none⟩) 1 1) ([UInt8.ofNat (m.qe%256)]:List UInt8)] (fun w' hw=>by unfold vY;rw[zGF V];exact hw) ?_
    refine zE [0,1,3,4,6] O qM (fun w' hw hS=>zJ 18 O hw (a_call O O (fun w' hw=>(zGt X1.ns i (zG X1.cbs i) (.slice (some ⟨b175,0,none⟩) 1 1) ([UInt8.ofNat (m.qe%256)]:List UInt8) (zG X1.ts i) w' V (hX1.cb hi) (hX1.ok hOj hN.2 hi) V qS (hw.give [2] O qM) (hw.rdVec 8 O [2] O O)).mono ?_)))
    rintro _ w1 ⟨n'41_,o42_,x43_,at_44_,e45_,rfl,hf19_18,hf19_18_1,hf19_18_2,hf19_18_3,hO⟩
    refine O13 ?_ (hw.qh [2] O hO)
    refine zE [0,1,2,3,5] O qM (fun w' hw hS=>zB 19 O zS hS (zB 20 O (yT (vs:=[Vn at_44_, .agg (OutD.cells o42_).toArray,Vi e45_]) O O) hS (zB 21 O (yT (vs:=[Vn at_44_, .agg (OutD.cells o42_).toArray,Vi e45_]) O O) hS (zB 22 O (yT (vs:=[Vn at_44_, .agg (OutD.cells o42_).toArray,Vi e45_]) O O) hS (zB 24 O yO hS (zJ 25 O hw ?_))))))
    refine zN (fun w' hw=>Own.qg (i:=9) O hw) (fun hc28_=> ?_)
    refine zN (fun w' hw=>Own.qg (i:=11) O hw) (fun hc29_=> ?_)
    refine zN (fun w' hw=>Own.qg (i:=12) O hw) (fun hc30_=> ?_)
    refine zo 6 O O O (zF hc28_ (zF O (zF hc29_ (zF hc30_ zh)))) O (zE [0,1,2,3,5] O qM (fun w' hw hS=>zB 26 O yO hS (zT ?_)))
    exact⟨b12,n'41_,o42_,⟨O,O,trivial⟩,(by rw[hf19_18_1];exact zHG hC V hI1 hX1 hi V hf19_18),hw.sel [0,1,8,2,3,4,5,6,9,10] O qM⟩
   have hI20:=hΦ
   have hwl20:(X1.way++o.qk).length≤1000000:=by have h:=(hC.ok _ _ V hI20).wl;unfold NetA.call NetD.a at h;rw[←List.map_append,List.length_map]at h;exact h
   rw[List.length_append]at hwl20
   refine ze [1,3,6,7,8] O qM qN (fun w' hw hS=>zB 0 O zS hS (zB 1 O zS hS (zB 2 O (zO O) hS (zB 3 O (zH (o:=2) O) hS (zB 5 O (zH (o:=0) O) hS (zB 6 O (zY 3 (v:=o.mv) O O O) hS (zJ 4 O hw (zM 0 (v:=X1.wv) O O O O (zE [1,3,6,7,8] O qM (fun w' hw hS=>zJ 7 O hw ?_))))))))))
   refine zN (fun w' hw=>MsgD.c1all (MsgD.rd.star0 9 O hw)) (fun hc34_=> ?_)
   refine zy (g:=MsgD.cells) (sz:=14) (by':=176) (fun _=>O) (l:=X1.way) (l':=o.qk) hc34_ 4 qN O O O (fun w' hw'=>Vec.sl (Own.holds hw' 8 _ O)) qO qM O (fun v194=>zE [1,3,6,7,8] O qM (fun w' hw hS=>zB 8 O (zO O) hS (zB 9 O (zH (o:=2) O) hS (zJ 10 O hw ?_))))
   refine zN (fun w' hw=>Own.qg (i:=4) O hw) (fun hc35_=> ?_)
   refine zn (cs:=(NetD.cells X1)) 0 O O O hc35_ O (zE [1,3,6,7,8] O qM (fun w' hw hS=>zT ?_))
   exact(yQ O (fun w' hw=>⟨({X1 with ns:=X1.ns.set i ((zG X1.ns i).put (zG X1.ns i).qe n'),ts:=X1.ts,wv:=v194,way:=X1.way++o.qk}:NetD),O,(by rw[NetD.a_call];exact hI20),hX1.upd hi htl1 hX1.ts,hmv.1,hmv.2.1,hmv.2.2,((hw.starApp 5 9 qM O O).sel [0,1,2,3,4,5] O qM)⟩)) _ hw
  refine zC (yR O O O (zI O (zA (za O (fun c6=> ?_) (fun c6=> ?_)))))
  ·refine jl (fun(ob:Nat) (n':NdD) (o:OutD)=>[(0,pt xb),(15,pt ob)]) (fun(ob:Nat) (n':NdD) (o:OutD)=>I (k+2) (X1.a.call i n'.a (o.qk.map MsgD.a))) (fun(ob:Nat) (n':NdD) (o:OutD)=>[Res.row xb 73 (NetD.cells X1),Res.vec 27 1 X1.nv X1.cbs.length (X1.cbs.flatMap CP),Res.star ((X1.ns.set i ((zG X1.ns i).put (zG X1.ns i).qe n')).map CorD.dres),vT X1.tv X1.ts,vM X1.wv X1.way,sM X1.way,Res.row b3 68 (MovD.cells m),zAt ob o,vM o.mv o.qk,sM o.qk]) ?_ (fun ob n' o g hΦ=> ?_)
   ·refine ze [0,1,3,4,6] O qM qN (fun w' hw hS=>zB 0 O zS hS (zB 1 O (zO O) hS (zB 2 O (zH (o:=0) O) hS (zB 3 O (zY 0 (v:=X1.nv) O O O) hS (zB 4 O zS hS (zB 5 O (yz (pV 1 O) 1 i O O O V) hS (zB 6 O (x0 (pV 1 O) 1 i 0 (fun _=>O) O O V O) hS (zB 7 O (zH (o:=3) O) hS (zB 8 O (zY 4 (v:=Vn m.qe) O O O) hS (zB 9 O (zD5 (c:=((m.qe%3:Nat):Int)) O O V O) hS (zB 10 O (x7 qN O (zr V) qN) hS (zB 11 O (yr O O (zr V)) hS ?_))))))))))))
    refine zB 12 O (zH (o:=3) O) hS (zB 13 O (zY 4 (v:=Vn m.qe) O O O) hS (zB 14 O (zQO (c:=((m.qe / 3:Nat):Int)) O O V (xA (a:=((m.qe / 3:Nat):Int)) V)) hS (zB 15 O zS hS (zB 16 O (zO O) hS (zB 17 O (zH (o:=0) O) hS (zB 18 O (zY 0 (v:=X1.nv) O O O) hS (zB 19 O (zAA (pV 1 O) O) hS (zB 20 O (x7 qN O (xA V) qN) hS (zB 21 O (zD5 (c:=(((m.qe / 3)%X1.cbs.length:Nat):Int)) O O V O) hS (zB 22 O (x7 qN O (zr V) qN) hS (zB 23 O (yr O O (zr V)) hS (zB 24 O zS hS ?_))))))))))))
    refine zB 25 O (zO O) hS (zB 26 O (zH (o:=1) O) hS (zB 27 O (zY 0 (v:=X1.tv) O O O) hS (zB 28 O zS hS (zB 29 O (yz (pV 2 O) 1 i O O O V) hS (zB 30 O (x0 (pV 2 O) 1 i 0 (fun _=>O) O O V O) hS (zq 31 36 ?_ ?_))))))
    ·refine zl 31 O hw (a_call O O (fun w' hw=>(zOf X1.ns i (zG X1.cbs i) (((m.qe%3)+1:Nat):Int) ((((m.qe / 3)%X1.cbs.length)+1:Nat):Int) (zG X1.ts i) w' V (hX1.cb hi) (hX1.ok hOj hN.2 hi) V (hw.give [2] O qM)).mono ?_))
     rintro _ w1 ⟨n'46_,o47_,x48_,at_49_,e50_,rfl,hf22_31,hf22_31_1,hf22_31_2,hf22_31_3,hO⟩
     refine O11 ?_ (hw.qh [2] O hO)
     refine zE [0,1,2,3,5] O qM (fun w' hw hS=>zB 32 O zS hS (zB 33 O (yT (vs:=[Vn at_49_, .agg (OutD.cells o47_).toArray,Vi e50_]) O O) hS (zB 34 O (yT (vs:=[Vn at_49_, .agg (OutD.cells o47_).toArray,Vi e50_]) O O) hS (zB 35 O (yT (vs:=[Vn at_49_, .agg (OutD.cells o47_).toArray,Vi e50_]) O O) hS (zJ 36 O hw (yC (v:= .agg #[.slice none 0 0, .bool false, .slice none 0 0, .slice none 0 0]) qN O (fun b15=>zE [0,1,2,3,5] O qM (fun w' hw hS=>zB 37 O yO hS (zJ 38 O hw ?_)))))))))
     refine zN (fun w' hw=>Own.qg (i:=7) O hw) (fun hc36_=> ?_)
     refine zN (fun w' hw=>Own.qg (i:=9) O hw) (fun hc37_=> ?_)
     refine zN (fun w' hw=>Own.qg (i:=10) O hw) (fun hc38_=> ?_)
     refine zo 11 O O O (zF hc36_ (zF O (zF hc37_ (zF hc38_ zh)))) O (zE [0,1,2,3,5] O qM (fun w' hw hS=>zB 39 O yO hS (zT ?_)))
     exact⟨b15,n'46_,o47_,⟨O,O,trivial⟩,(by rw[hf22_31_1];exact zLh hC (hask c6) V hI1 hX1 hi V ⟨by omega,by rw[hcl1];have:=Nat.mod_lt (m.qe / 3) (show 0<N by omega);omega⟩ hf22_31),hw.sel [0,1,6,2,3,4,5,11,7,8] O qM⟩
    refine zl 36 O hw (yC (v:= .agg #[.slice none 0 0, .bool false, .slice none 0 0, .slice none 0 0]) qN O (fun b15=>zE [0,1,3,4,6] O qM (fun w' hw hS=>zJ 31 O hw (a_call O O (fun w' hw=>(zOf X1.ns i (zG X1.cbs i) (((m.qe%3)+1:Nat):Int) ((((m.qe / 3)%X1.cbs.length)+1:Nat):Int) (zG X1.ts i) w' V (hX1.cb hi) (hX1.ok hOj hN.2 hi) V (hw.give [2] O qM)).mono ?_)))))
    rintro _ w1 ⟨n'51_,o52_,x53_,at_54_,e55_,rfl,hf22_31,hf22_31_1,hf22_31_2,hf22_31_3,hO⟩
    refine O12 ?_ (hw.qh [2] O hO)
    refine zE [0,1,2,3,5] O qM (fun w' hw hS=>zB 32 O zS hS (zB 33 O (yT (vs:=[Vn at_54_, .agg (OutD.cells o52_).toArray,Vi e55_]) O O) hS (zB 34 O (yT (vs:=[Vn at_54_, .agg (OutD.cells o52_).toArray,Vi e55_]) O O) hS (zB 35 O (yT (vs:=[Vn at_54_, .agg (OutD.cells o52_).toArray,Vi e55_]) O O) hS (zB 37 O yO hS (zJ 38 O hw ?_))))))
    refine zN (fun w' hw=>Own.qg (i:=8) O hw) (fun hc39_=> ?_)
    refine zN (fun w' hw=>Own.qg (i:=10) O hw) (fun hc40_=> ?_)
    refine zN (fun w' hw=>Own.qg (i:=11) O hw) (fun hc41_=> ?_)
    refine zo 6 O O O (zF hc39_ (zF O (zF hc40_ (zF hc41_ zh)))) O (zE [0,1,2,3,5] O qM (fun w' hw hS=>zB 39 O yO hS (zT ?_)))
    exact⟨b15,n'51_,o52_,⟨O,O,trivial⟩,(by rw[hf22_31_1];exact zLh hC (hask c6) V hI1 hX1 hi V ⟨by omega,by rw[hcl1];have:=Nat.mod_lt (m.qe / 3) (show 0<N by omega);omega⟩ hf22_31),hw.sel [0,1,7,2,3,4,5,6,8,9] O qM⟩
   have hI23:=hΦ
   have hwl23:(X1.way++o.qk).length≤1000000:=by have h:=(hC.ok _ _ V hI23).wl;unfold NetA.call NetD.a at h;rw[←List.map_append,List.length_map]at h;exact h
   rw[List.length_append]at hwl23
   refine ze [1,3,6,7,8] O qM qN (fun w' hw hS=>zB 0 O zS hS (zB 1 O zS hS (zB 2 O (zO O) hS (zB 3 O (zH (o:=2) O) hS (zB 5 O (zH (o:=0) O) hS (zB 6 O (zY 3 (v:=o.mv) O O O) hS (zJ 4 O hw (zM 0 (v:=X1.wv) O O O O (zE [1,3,6,7,8] O qM (fun w' hw hS=>zJ 7 O hw ?_))))))))))
   refine zN (fun w' hw=>MsgD.c1all (MsgD.rd.star0 9 O hw)) (fun hc45_=> ?_)
   refine zy (g:=MsgD.cells) (sz:=14) (by':=176) (fun _=>O) (l:=X1.way) (l':=o.qk) hc45_ 4 qN O O O (fun w' hw'=>Vec.sl (Own.holds hw' 8 _ O)) qO qM O (fun v242=>zE [1,3,6,7,8] O qM (fun w' hw hS=>zB 8 O (zO O) hS (zB 9 O (zH (o:=2) O) hS (zJ 10 O hw ?_))))
   refine zN (fun w' hw=>Own.qg (i:=4) O hw) (fun hc46_=> ?_)
   refine zn (cs:=(NetD.cells X1)) 0 O O O hc46_ O (zE [1,3,6,7,8] O qM (fun w' hw hS=>zT ?_))
   exact(yQ O (fun w' hw=>⟨({X1 with ns:=X1.ns.set i ((zG X1.ns i).put (zG X1.ns i).qe n'),ts:=X1.ts,wv:=v242,way:=X1.way++o.qk}:NetD),O,(by rw[NetD.a_call];exact hI23),hX1.upd hi htl1 hX1.ts,hmv.1,hmv.2.1,hmv.2.2,((hw.starApp 5 9 qM O O).sel [0,1,2,3,4,5] O qM)⟩)) _ hw
  refine zC (yR O O O (zI O (zA (za O (fun c7=> ?_) (fun c7=> ?_)))))
  ·refine jl (fun(ob:Nat) (n':NdD) (o:OutD)=>[(0,pt xb),(17,pt ob)]) (fun(ob:Nat) (n':NdD) (o:OutD)=>I (k+2) (X1.a.call i n'.a (o.qk.map MsgD.a))) (fun(ob:Nat) (n':NdD) (o:OutD)=>[Res.row xb 73 (NetD.cells X1),Res.vec 27 1 X1.nv X1.cbs.length (X1.cbs.flatMap CP),Res.star ((X1.ns.set i ((zG X1.ns i).put (zG X1.ns i).qe n')).map CorD.dres),vT X1.tv X1.ts,vM X1.wv X1.way,sM X1.way,Res.row b3 68 (MovD.cells m),zAt ob o,vM o.mv o.qk,sM o.qk]) ?_ (fun ob n' o g hΦ=> ?_)
   ·refine ze [0,1,3,4,6] O qM qN (fun w' hw hS=>zB 0 O zS hS (zB 1 O (zO O) hS (zB 2 O (zH (o:=0) O) hS (zB 3 O (zY 0 (v:=X1.nv) O O O) hS (zB 4 O zS hS (zB 5 O (yz (pV 1 O) 1 i O O O V) hS (zB 6 O (x0 (pV 1 O) 1 i 0 (fun _=>O) O O V O) hS (zB 7 O (zH (o:=3) O) hS (zB 8 O (zY 4 (v:=Vn m.qe) O O O) hS (zB 9 O zS hS (zB 10 O (zO O) hS (zB 11 O (zH (o:=0) O) hS ?_))))))))))))
    refine zB 12 O (zY 0 (v:=X1.nv) O O O) hS (zB 13 O (zAA (pV 1 O) O) hS (zB 14 O (x7 qN O (xA V) qN) hS (zB 15 O (zD5 (c:=((m.qe%X1.cbs.length:Nat):Int)) O O V O) hS (zB 16 O (x7 qN O (zr V) qN) hS (zB 17 O (yr O O (zr V)) hS (zB 18 O zS hS (zB 19 O (zO O) hS (zB 20 O (zH (o:=1) O) hS (zB 21 O (zY 0 (v:=X1.tv) O O O) hS (zB 22 O zS hS (zB 23 O (yz (pV 2 O) 1 i O O O V) hS (zB 24 O (x0 (pV 2 O) 1 i 0 (fun _=>O) O O V O) hS ?_))))))))))))
    refine zq 25 29 ?_ ?_
    ·refine zl 25 O hw (a_call O O (fun w' hw=>(zKc X1.ns i (zG X1.cbs i) (((m.qe%X1.cbs.length)+1:Nat):Int) (zG X1.ts i) w' V (hX1.cb hi) (hX1.ok hOj hN.2 hi) V (hw.give [2] O qM)).mono ?_))
     rintro _ w1 ⟨n'56_,o57_,x58_,e59_,rfl,hf25_25,hf25_25_1,hf25_25_2,hf25_25_3,hO⟩
     refine O11 ?_ (hw.qh [2] O hO)
     refine zE [0,1,2,3,5] O qM (fun w' hw hS=>zB 26 O zS hS (zB 27 O (yT (vs:=[.agg (OutD.cells o57_).toArray,Vi e59_]) O O) hS (zB 28 O (yT (vs:=[.agg (OutD.cells o57_).toArray,Vi e59_]) O O) hS (zJ 29 O hw (yC (v:= .agg #[.slice none 0 0, .bool false, .slice none 0 0, .slice none 0 0]) qN O (fun b17=>zE [0,1,2,3,5] O qM (fun w' hw hS=>zJ 30 O hw ?_)))))))
     refine zN (fun w' hw=>Own.qg (i:=7) O hw) (fun hc47_=> ?_)
     refine zN (fun w' hw=>Own.qg (i:=9) O hw) (fun hc48_=> ?_)
     refine zN (fun w' hw=>Own.qg (i:=10) O hw) (fun hc49_=> ?_)
     refine zo 11 O O O (zF hc47_ (zF O (zF hc48_ (zF hc49_ zh)))) O (zE [0,1,2,3,5] O qM (fun w' hw hS=>zB 31 O yO hS (zT ?_)))
     exact⟨b17,n'56_,o57_,⟨O,O,trivial⟩,(by rw[hf25_25_1];exact zKl hC V hI1 hX1 hi V hf25_25),hw.sel [0,1,6,2,3,4,5,11,7,8] O qM⟩
    refine zl 29 O hw (yC (v:= .agg #[.slice none 0 0, .bool false, .slice none 0 0, .slice none 0 0]) qN O (fun b17=>zE [0,1,3,4,6] O qM (fun w' hw hS=>zJ 25 O hw (a_call O O (fun w' hw=>(zKc X1.ns i (zG X1.cbs i) (((m.qe%X1.cbs.length)+1:Nat):Int) (zG X1.ts i) w' V (hX1.cb hi) (hX1.ok hOj hN.2 hi) V (hw.give [2] O qM)).mono ?_)))))
    rintro _ w1 ⟨n'60_,o61_,x62_,e63_,rfl,hf25_25,hf25_25_1,hf25_25_2,hf25_25_3,hO⟩
    refine O12 ?_ (hw.qh [2] O hO)
    refine zE [0,1,2,3,5] O qM (fun w' hw hS=>zB 26 O zS hS (zB 27 O (yT (vs:=[.agg (OutD.cells o61_).toArray,Vi e63_]) O O) hS (zB 28 O (yT (vs:=[.agg (OutD.cells o61_).toArray,Vi e63_]) O O) hS (zJ 30 O hw ?_))))
    refine zN (fun w' hw=>Own.qg (i:=8) O hw) (fun hc50_=> ?_)
    refine zN (fun w' hw=>Own.qg (i:=10) O hw) (fun hc51_=> ?_)
    refine zN (fun w' hw=>Own.qg (i:=11) O hw) (fun hc52_=> ?_)
    refine zo 6 O O O (zF hc50_ (zF O (zF hc51_ (zF hc52_ zh)))) O (zE [0,1,2,3,5] O qM (fun w' hw hS=>zB 31 O yO hS (zT ?_)))
    exact⟨b17,n'60_,o61_,⟨O,O,trivial⟩,(by rw[hf25_25_1];exact zKl hC V hI1 hX1 hi V hf25_25),hw.sel [0,1,7,2,3,4,5,6,8,9] O qM⟩
   have hI26:=hΦ
   have hwl26:(X1.way++o.qk).length≤1000000:=by have h:=(hC.ok _ _ V hI26).wl;unfold NetA.call NetD.a at h;rw[←List.map_append,List.length_map]at h;exact h
   rw[List.length_append]at hwl26
   refine ze [1,3,6,7,8] O qM qN (fun w' hw hS=>zB 0 O zS hS (zB 1 O zS hS (zB 2 O (zO O) hS (zB 3 O (zH (o:=2) O) hS (zB 5 O (zH (o:=0) O) hS (zB 6 O (zY 3 (v:=o.mv) O O O) hS (zJ 4 O hw (zM 0 (v:=X1.wv) O O O O (zE [1,3,6,7,8] O qM (fun w' hw hS=>zJ 7 O hw ?_))))))))))
   refine zN (fun w' hw=>MsgD.c1all (MsgD.rd.star0 9 O hw)) (fun hc56_=> ?_)
   refine zy (g:=MsgD.cells) (sz:=14) (by':=176) (fun _=>O) (l:=X1.way) (l':=o.qk) hc56_ 4 qN O O O (fun w' hw'=>Vec.sl (Own.holds hw' 8 _ O)) qO qM O (fun v283=>zE [1,3,6,7,8] O qM (fun w' hw hS=>zB 8 O (zO O) hS (zB 9 O (zH (o:=2) O) hS (zJ 10 O hw ?_))))
   refine zN (fun w' hw=>Own.qg (i:=4) O hw) (fun hc57_=> ?_)
   refine zn (cs:=(NetD.cells X1)) 0 O O O hc57_ O (zE [1,3,6,7,8] O qM (fun w' hw hS=>zT ?_))
   exact(yQ O (fun w' hw=>⟨({X1 with ns:=X1.ns.set i ((zG X1.ns i).put (zG X1.ns i).qe n'),ts:=X1.ts,wv:=v283,way:=X1.way++o.qk}:NetD),O,(by rw[NetD.a_call];exact hI26),hX1.upd hi htl1 hX1.ts,hmv.1,hmv.2.1,hmv.2.2,((hw.starApp 5 9 qM O O).sel [0,1,2,3,4,5] O qM)⟩)) _ hw
  exact yZ (yQ O (fun w' hw=>⟨X1,O,hC.up _ _ hI1,hX1,hmv.1,hmv.2.1,hmv.2.2,hw.sel [0,1,2,3,4,5] O qM⟩))
end Go.Proofs.YtkkeknmkipkbmaaGreat
