import Derived.Test.YtkkeknmkipkbmaaGreatFwWk
set_option linter.unusedSectionVars false
set_option linter.unusedSimpArgs false
set_option linter.unusedVariables false
set_option maxRecDepth 10000
namespace Go.Proofs.YtkkeknmkipkbmaaGreat
open Go Go.Sc Go.Proofs
structure NetA where
  nodes:List NodA
  way:List MsgA
def NetA.call(X:NetA)(i:Nat)(n:NodA)(ms:List MsgA):NetA:=⟨X.nodes.set i n,X.way++ms⟩
instance:Inhabited NodA:=⟨⟨default,default,[],none,[]⟩⟩
def aN(i:Nat):StA:={id:=(i:Int)+1,nodes:=0,voters:=0,edges:=0,rho:=0,base:=10,spread:=9,beat:=3,disk:=0,post:=0,keep:=0}
def y1(N:Nat):List Int:=(List.range N).map fun i:Nat=>((i:Nat):Int)+1
structure MsgA.net(N:Nat)(m:MsgA):Prop where
  dst:1≤m.dst∧m.dst≤N
  kind:m.kind≠7∧m.kind≠8
  nums:(m.term≤4611686018427387904∧m.index≤4611686018427387904)∧(m.qm≤4611686018427387904∧m.qc≤4611686018427387904)∧m.round≤4611686018427387904
  ql:m.ql.length≤8∧∀ e∈m.ql,e.ok
  conf:m.conf=⟨[],[]⟩∧m.data=[]
structure NetOk(N:Nat)(X:NetA):Prop where
  len:X.nodes.length=N
  fit:∀ i,i<N→(zG X.nodes i).fit (aN i) (y1 N)
  way:∀ m∈X.way,m.net N
  wl:X.way.length≤1000000
structure Clo(N:Nat)(ch:Bool)(I:Nat→NetA→Prop):Prop where
  ok:∀ k X,k≤2000→I k X→NetOk N X
  up:∀ k X,I k X→I (k+1) X
  adv:∀ k X i now dr n x,k≤2000→I k X→i<N→0≤now∧now≤2000000000000→dr<18446744073709551616→(n,x)=xC (aN i) (y1 N) now dr (zG X.nodes i)→I (k+1) (X.call i n x.ms)
  rcv:∀ k X i now dr m n x,k≤2000→I k X→i<N→0≤now∧now≤2000000000000→dr<18446744073709551616→m∈X.way→m.dst=(i:Int)+1→(n,x)=zBX (aN i) (y1 N) now dr m (zG X.nodes i)→I (k+1) (X.call i n x.ms)
  prp:∀ k X i now data n x,k≤2000→I k X→i<N→0≤now∧now≤2000000000000→data.length=1→(n,x)=k7 (aN i) (y1 N) data now (zG X.nodes i)→I (k+1) (X.call i n x.ms)
  chg:ch=true→∀ k X i now kind id n x,k≤2000→I k X→i<N→0≤now∧now≤2000000000000→1≤id∧id≤(N:Int)→zAV (aN i) (y1 N) kind id now (zG X.nodes i) n x→I (k+1) (X.call i n x.ms)
  giv:∀ k X i now to n x,k≤2000→I k X→i<N→0≤now∧now≤2000000000000→(n,x)=zDV (aN i) (y1 N) to now (zG X.nodes i)→I (k+1) (X.call i n x.ms)
  sub:∀ k X way,I k X→way.Sublist X.way→I k ⟨X.nodes,way⟩
structure NetD where
  nv:Value
  cbs:List Nat
  ns:List CorD
  tv:Value
  ts:List Int
  wv:Value
  way:List MsgD
  mb:Nat
  sv:Value
  safe:List EntD
def NetD.cells(x:NetD):List Value:=[x.nv,x.tv,x.wv, .map (some x.mb),x.sv]
def NetD.a(X:NetD):NetA:=⟨X.ns.map fun c=>c.n.a,X.way.map MsgD.a⟩
structure NetD.st(N:Nat)(X:NetD):Prop where
  len:X.ns.length=N
  cbs:X.cbs=X.ns.map CorD.cb
  tsl:X.ts.length=N
  ts:∀ t∈X.ts,0≤t∧t≤1001000000000
  con:∀ i,i<N→(zG X.ns i).a=aN i∧(zG X.ns i).b.vs=y1 N
structure MovD where
  kind:Int
  k:Int
  t:Int
  qd:Nat
  ask:Int
def MovD.cells(x:MovD):List Value:=[Vi x.kind,Vi x.k,Vi x.t,Vn x.qd,Vi x.ask]
structure MovD.ok(m:MovD):Prop where
  k: -9223372036854775808≤m.k∧m.k≤9223372036854775807
  t: -9223372036854775808≤m.t∧m.t≤9223372036854775807
  qd:m.qd<18446744073709551616
def zA7(now t:Int):Int:=if(0<t∧t<1000000)∧now<1000000000000 then now+t else now
theorem zDE{N:Nat}{m:MsgD}(h:m.a.net N):m.wf:=by
  obtain⟨⟨h1,h2⟩,⟨h3,h4⟩,h5⟩:=h.nums
  have hc:=h.conf.1
  have hl:m.ql.length≤8:=by have:=h.ql.1;unfold MsgD.a at this;rwa [List.length_map]at this
  have hd:∀ e∈m.ql,e.toEntA.ok:=fun e he=>h.ql.2 _ (List.mem_map_of_mem he)
  have hv:m.conf.vs=[]:=congrArg ConfA.vs hc
  have hw:m.conf.ls=[]:=congrArg ConfA.ls hc
  have hda:m.data=[]:=h.conf.2
  have key:∀ l:List EntD,(∀ e∈l,e.toEntA.ok)→(l.map fun e=>e.data.length).sum≤4096*l.length:=by
    intro l
    induction l with
    |nil=>intro _;simp
    |cons e l ih=>
      intro q
      have h6:=(q e qQ).1.2.2.2
      have h7:=ih fun x hx=>q x (List.mem_cons_of_mem _ hx)
      simp only[List.map_cons,List.sum_cons,List.length_cons];omega
  have:=key m.ql hd
  exact⟨by show m.a.term<_;omega,by show m.a.index<_;omega,by show m.a.qm<_;omega,by show m.a.qc<_;omega,by show m.a.round<_;omega,by omega,fun e he=>⟨by have:=(hd e he).1.2.1.1;omega,by have:=(hd e he).1.2.1.2;omega,by have:=(hd e he).1.2.2.2;omega⟩,⟨by rw[hv];exact Nat.zero_le _,by rw[hw];exact Nat.zero_le _⟩,⟨by rw[hv];exact Nat.zero_le _,by rw[hw];exact Nat.zero_le _⟩,by rw[hda];exact Nat.zero_le _,by omega⟩
theorem NetD.at_{X:NetD}{i:Nat}(hi:i<X.ns.length):zG X.a.nodes i=(zG X.ns i).n.a:=kK hi
theorem zP1{N i:Nat}(hi:i<N)(hN:N≤5):(aN i).ok:=⟨by show 1≤(i:Int)+1∧(i:Int)+1≤16;omega,by show 0≤(0:Int)∧(0:Int)≤_;omega,by show 1≤(10:Int)∧(10:Int)≤_;omega,by show 1≤(9:Int)∧(9:Int)≤_;omega,by show 1≤(3:Int)∧(3:Int)≤_;omega⟩
theorem zBN{N:Nat}:(y1 N).length=N:=by unfold y1;rw[List.length_map,List.length_range]
theorem NetD.st.ok{N:Nat}{X:NetD}(h:X.st N)(hO:NetOk N X.a)(hN:N≤5){i:Nat}(hi:i<N):(zG X.ns i).ok:=by
  obtain⟨h1,h2⟩:=h.con i hi
  have h3:=hO.fit i hi
  rw[NetD.at_ (by rw[h.len];exact hi)]at h3
  exact⟨by rw[h1];exact zP1 hi hN,by rw[h2,zBN];omega,by rw[h1,h2];exact h3⟩
theorem NetD.st.cb{N:Nat}{X:NetD}(h:X.st N){i:Nat}(hi:i<N):(zG X.ns i).cb=zG X.cbs i:=by rw[h.cbs,kK (by rw[h.len];exact hi)]
theorem NetD.st.upd{N:Nat}{X:NetD}(h:X.st N){i dr:Nat}{n:NdD}{ts:List Int}{wv:Value}{way:List MsgD}(hi:i<N)(h1:ts.length=N)(h2:∀ t∈ts,0≤t∧t≤1001000000000):({X with ns:=X.ns.set i ((zG X.ns i).put dr n),ts:=ts,wv:=wv,way:=way}:NetD).st N:=by
  have hl:=h.len
  refine⟨by show(X.ns.set i _).length=N;rw[List.length_set,hl],?_,h1,h2,?_⟩
  · show X.cbs=(X.ns.set i _).map CorD.cb
    rw[h.cbs,List.map_set,show((zG X.ns i).put dr n).cb=zG (X.ns.map CorD.cb) i by rw[kK V];rfl]
    refine(zDW (by rw[List.length_set]) fun k hk=> ?_).symm
    rw[xR]
    rw[List.length_set]at hk
    split
    · rename_i q;rw[q.1]
    rfl
  intro j hj
  show(zG (X.ns.set i _) j).a=_∧(zG (X.ns.set i _) j).b.vs=_
  rw[xR]
  split
  · rename_i q;rw[q.1];exact h.con i hi
  exact h.con j hj
theorem NetD.a_call{X:NetD}{i dr:Nat}{n:NdD}{ts:List Int}{wv:Value}{way ms:List MsgD}:({X with ns:=X.ns.set i ((zG X.ns i).put dr n),ts:=ts,wv:=wv,way:=way++ms}:NetD).a=⟨X.a.nodes.set i n.a,way.map MsgD.a++ms.map MsgD.a⟩:=by
  unfold NetD.a CorD.put
  simp only[List.map_set,List.map_append]
theorem zNd{now t:Int}(h:0≤now∧now≤1001000000000):0≤zA7 now t∧zA7 now t≤1001000000000:=by unfold zA7;split<;>omega
theorem zOk{ts:List Int}{i:Nat}{x:Int}(h:∀ t∈ts,0≤t∧t≤1001000000000)(hx:0≤x∧x≤1001000000000):∀ t∈ts.set i x,0≤t∧t≤1001000000000:=by
  intro t ht
  rcases List.mem_or_eq_of_mem_set ht with h1|h1
  · exact h t h1
  rw[h1];exact hx
theorem zND(now t:Int)(w:World)(hn:0≤now∧now≤1001000000000):Rets Tryz.prog 51 #[Vi now,Vi t] w fun u_ w'=>u_=Vi (zA7 now t)∧Own w [] [] w':=by
  refine zW Tryz.func51 O Tryz.ntmps51 (Own.start w) ?_
  refine zB (zI O (zA (zN (zB (zD O (y0 O O O (zD O (yK (q:=0<t) 2 2 [9,8] (t<1000000) O O O O O O trivial O (fun h1_2=> ?_) (fun g1_5=> ?_)))))))))
  ·refine zR O (gT h1_2) (zD O (zR O (gT h1_2) (yG O O O ?_)))
   exact yP O (fun _ hw=>hw)
  refine zD O (yK (q:=(0<t)∧(t<1000000)) 2 6 [13,12] (now<1000000000000) O O O O O O trivial O (fun h1_6=> ?_) (fun g1_9=> ?_))
  ·refine zR O (gT h1_6) (zD O (zR O (gT h1_6) (yG O O O ?_)))
   exact yP O (fun _ hw=>hw)
  refine zA (zY O (fun c1=> ?_) (fun c1=> ?_))
  ·refine zB (zD O (zD O (zp O O (zq V) O (zI O (zA ?_)))))
   exact zV (z6 (v:=Vi (now+t)) O O (fun w' hw=>⟨(by unfold zA7;rw[if_pos c1]),hw.drop⟩))
  refine zO (zB (zD O (zI O (zA ?_))))
  exact zV (z6 (v:=Vi now) O O (fun w' hw=>⟨(by unfold zA7;rw[if_neg c1]),hw.drop⟩))
theorem zNa{l:List MsgD}{k:Nat}:(((l.take k).drop 0)++l.drop (k+1)).Sublist l:=by
  rw[List.drop_zero]
  have h:l.take k++l.drop k=l:=List.take_append_drop k l
  have h2:(l.take k++l.drop (k+1)).Sublist (l.take k++l.drop k):=by
    refine List.Sublist.append (List.Sublist.refl _) ?_
    rw[←List.drop_drop]
    exact List.drop_sublist _ _
  rwa [h]at h2
section
variable {N k:Nat} {ch:Bool} {I:Nat→NetA→Prop} {X:NetD}
theorem zKN(hC:Clo N ch I)(hk:k≤2000)(hI:I k X.a)(hX:X.st N){i dr:Nat}(hi:i<N){now:Int}(hn:0≤now∧now≤2000000000000)(hd:dr<18446744073709551616){n:NdD}{x:OutA}
    (h:(n.a,x)=xC (zG X.ns i).a (zG X.ns i).b.vs now dr (zG X.ns i).n.a):I (k+1) (X.a.call i n.a x.ms):=by
  rw[(hX.con i hi).1,(hX.con i hi).2,←NetD.at_ (by rw[hX.len];exact hi)]at h
  exact hC.adv _ _ _ _ _ _ _ hk hI hi hn hd h
theorem zGX(hC:Clo N ch I)(hk:k+1≤2000)(hI:I (k+1) X.a)(hX:X.st N){i:Nat}(hi:i<N){now:Int}(hn:0≤now∧now≤2000000000000){n:NdD}{x:OutA}{b:UInt8}
    (h:(n.a,x)=k7 (zG X.ns i).a (zG X.ns i).b.vs [b] now (zG X.ns i).n.a):I (k+2) (X.a.call i n.a x.ms):=by
  rw[(hX.con i hi).1,(hX.con i hi).2,←NetD.at_ (by rw[hX.len];exact hi)]at h
  exact hC.prp _ _ _ _ _ _ _ hk hI hi hn O h
theorem zMD(hC:Clo N ch I)(hk:k+1≤2000)(hI:I (k+1) X.a)(hX:X.st N){i:Nat}(hi:i<N){now to:Int}(hn:0≤now∧now≤2000000000000){n:NdD}{x:OutA}
    (h:(n.a,x)=zDV (zG X.ns i).a (zG X.ns i).b.vs to now (zG X.ns i).n.a):I (k+2) (X.a.call i n.a x.ms):=by
  rw[(hX.con i hi).1,(hX.con i hi).2,←NetD.at_ (by rw[hX.len];exact hi)]at h
  exact hC.giv _ _ _ _ _ _ _ hk hI hi hn h
theorem zK2(hC:Clo N ch I)(hch:ch=true)(hk:k+1≤2000)(hI:I (k+1) X.a)(hX:X.st N){i:Nat}(hi:i<N){now kind id:Int}(hn:0≤now∧now≤2000000000000)(hid:1≤id∧id≤(N:Int)){n:NdD}{x:OutA}
    (h:zAV (zG X.ns i).a (zG X.ns i).b.vs kind id now (zG X.ns i).n.a n.a x):I (k+2) (X.a.call i n.a x.ms):=by
  rw[(hX.con i hi).1,(hX.con i hi).2,←NetD.at_ (by rw[hX.len];exact hi)]at h
  exact hC.chg hch _ _ _ _ _ _ _ _ hk hI hi hn hid h
theorem zIK{m:MsgD}{r a b c:Value}{es:List EntD}(h:es.map EntD.toEntA=m.ql.map EntD.toEntA):(MsgD.mk m.kind m.src m.dst m.term m.index m.qm m.qc m.round m.flag r es ⟨a,m.conf.vs,b,m.conf.ls⟩ m.off c m.data).a=m.a:=by
  unfold MsgD.a;rw[h];rfl
theorem zE8{m:MsgD}{r a b c:Value}{es:List EntD}(h:es.map EntD.toEntA=m.ql.map EntD.toEntA)(q:m.a.net N):(MsgD.mk m.kind m.src m.dst m.term m.index m.qm m.qc m.round m.flag r es ⟨a,m.conf.vs,b,m.conf.ls⟩ m.off c m.data).a.net N:=by rw[zIK h];exact q
theorem zGs(hC:Clo N ch I)(hk:k≤2000)(hI:I k X.a)(hX:X.st N){dr q:Nat}{now:Int}(hi:((zG X.way q).dst - 1).toNat<N)(hn:0≤now∧now≤2000000000000)(hd:dr<18446744073709551616){n:NdD}{x:OutA}{m:MsgD}{o:OutD}{way:List MsgD}(hq:q<X.way.length)(h1:1≤(zG X.way q).dst)(hm:m.a=(zG X.way q).a)
    (h:(n.a,x)=zBX (zG X.ns ((zG X.way q).dst - 1).toNat).a (zG X.ns ((zG X.way q).dst - 1).toNat).b.vs now dr m.a (zG X.ns ((zG X.way q).dst - 1).toNat).n.a) (ho:o.qj.map MsgD.a=x.ms) (hs:way.Sublist X.way):
    I (k+1) ⟨X.a.nodes.set ((zG X.way q).dst - 1).toNat n.a,way.map MsgD.a++o.qj.map MsgD.a⟩:=by
  rw[(hX.con _ hi).1,(hX.con _ hi).2,←NetD.at_ (by rw[hX.len];exact hi),hm]at h
  have h2:=hC.rcv k X.a _ now dr _ n.a x hk hI hi hn hd (List.mem_map_of_mem (f:=MsgD.a) (ze hq)) (by show(zG X.way q).dst=_;omega) h
  rw[ho]
  exact hC.sub _ _ _ h2 (List.Sublist.append (hs.map MsgD.a) (List.Sublist.refl _))
end
theorem zPG{S:List Nat}(N k:Nat)(ch:Bool)(I:Nat→NetA→Prop)(xb:Nat)(X:NetD)(m:MovD)(w:World)(hC:Clo N ch I)(hk:k+3≤2000)(hN:1≤N∧N≤5)(hI:I k X.a)(hX:X.st N)(hm:m.ok)(hask:m.ask=2→ch=true)(hin:Own w S [Res.row xb 73 (NetD.cells X),Res.vec 27 1 X.nv X.cbs.length (X.cbs.flatMap CP),Res.star (X.ns.map CorD.dres),vT X.tv X.ts,vM X.wv X.way,sM X.way] w):Rets Tryz.prog 19 #[pt xb, .agg (MovD.cells m).toArray] w fun u_ w'=>∃ (X':NetD),u_= .tuple #[]∧I (k+2) X'.a∧X'.st N∧X'.mb=X.mb∧X'.sv=X.sv∧X'.safe=X.safe∧Own w S [Res.row xb 73 (NetD.cells X'),Res.vec 27 1 X'.nv X'.cbs.length (X'.cbs.flatMap CP),Res.star (X'.ns.map CorD.dres),vT X'.tv X'.ts,vM X'.wv X'.way,sM X'.way] w':=by
  have hOk:=hC.ok k _ V hI
  have hwl:X.way.length≤1000000:=by have h:=hOk.wl;unfold NetD.a at h;rwa [List.length_map]at h
  have hmk:=hm.k
  have hmd:=hm.qd
  have hcl:X.cbs.length=N:=by rw[hX.cbs,List.length_map,hX.len]
  have htl:=hX.tsl
  have hnl:=hX.len
  refine zW Tryz.func19 O Tryz.ntmps19 hin ?_
  refine zB (z3 O O (fun b3=>zA (zB (zJ (o:=1) O O (zL 6 (v:=Vi m.k) O O O O (zI O (zA (yt (fun(aq:Nat)=>[(0,pt xb),(3,pt b3),(4,Vj aq)]) (fun(aq:Nat)=>aq≤9223372036854775807) (fun(aq:Nat)=>[Res.row xb 73 (NetD.cells X),Res.vec 27 1 X.nv X.cbs.length (X.cbs.flatMap CP),Res.star (X.ns.map CorD.dres),vT X.tv X.ts,vM X.wv X.way,sM X.way,Res.row b3 68 (MovD.cells m)]) ?_ (fun aq g hΦ=> ?_)))))))))
  ·refine zB (zD O (yG O O O (zA (zY O (fun c1=> ?_) (fun c1=> ?_)))))
   ·refine zS (zI O ?_)
    exact zd (fun w' hw=>⟨0,⟨O,O,O,trivial⟩,V,hw⟩)
   exact yc (fun w' hw=>⟨m.k.toNat,⟨O,O,(by show Value.int .i64 _=Value.int .i64 _;congr 1;omega),trivial⟩,V,hw⟩)
  refine zN (zB (zJ (o:=0) O O (zL 6 (v:=Vi m.kind) O O O O (kM O O O (zD O (yK (q:=1≤m.kind) 3 3 [29,28,27] (m.kind≤3) O O O O O O trivial O (fun h4_3=> ?_) (fun g4_7=> ?_)))))))
  ·refine zR O (gT h4_3) (zJ (o:=0) O O (zR O (gT h4_3) (zL 6 (v:=Vi m.kind) O O O O (zR O (gT h4_3) (xp O O O ?_)))))
   exact yP O (fun _ hw=>hw)
  refine zD O (yK (q:=(1≤m.kind)∧(m.kind≤3)) 6 8 [37,36,35,34,33,32] (0<((X.way.length:Nat):Int)) O O O O O O trivial O (fun h4_8=> ?_) (fun g4_15=> ?_))
  ·refine zR O (gT h4_8) (zD O (zR O (gT h4_8) (za O O (zR O (gT h4_8) (zJ (o:=2) O O (zR O (gT h4_8) (zL 0 (v:=X.wv) O O O O (zR O (gT h4_8) (zo (pV 4 O) O O (zR O (gT h4_8) (y0 O O O ?_)))))))))))
   exact yP O (fun _ hw=>hw)
  refine zA (zY O (fun c2=> ?_) (fun c2=> ?_))
  ·refine yt (fun(q:Nat)=>[(0,pt xb),(3,pt b3),(5,Vj q)]) (fun(q:Nat)=>q<X.way.length) (fun(q:Nat)=>[Res.row xb 73 (NetD.cells X),Res.vec 27 1 X.nv X.cbs.length (X.cbs.flatMap CP),Res.star (X.ns.map CorD.dres),vT X.tv X.ts,vM X.wv X.way,sM X.way,Res.row b3 68 (MovD.cells m)]) ?_ (fun q g hΦ=> ?_)
   ·refine zS (zD O (zD O (za O O (zJ (o:=2) O O (zL 0 (v:=X.wv) O O O O (zo (pV 4 O) O O (zLF (c:=((aq%X.way.length:Nat):Int)) O O V O O (zI O ?_))))))))
    exact zd (fun w' hw=>⟨aq%X.way.length,⟨O,O,O,trivial⟩,(Nat.mod_lt _ V),hw⟩)
   have hkk:=hΦ
   refine zB (zD O (za O O (zJ (o:=2) O O (zL 0 (v:=X.wv) O O O O (zD O (zi (pV 4 O) 14 q O O O V O (kP (pV 4 O) 14 q (off:=xE X.wv+q*14) (fun _=>O) O O V O (yE (v:= .agg #[Vi 0,Vi 0,Vi 0,Vn 0,Vn 0,Vn 0,Vn 0,Vn 0, .bool false, .slice none 0 0, .slice none 0 0, .slice none 0 0,Vi 0, .slice none 0 0]) qN O (fun b6=> ?_)))))))))
   refine zP (fun w' hw=>MsgD.c1all (MsgD.rd.star0 5 O hw)) (fun hca=> ?_)
   refine zP (fun w' hw=>Sl.cell1 (Rd.φ (MsgD.rd.star0 5 O hw _ (ze (l:=X.way) (j:=q) V)).ev)) (fun hc1_=> ?_)
   refine zP (fun w' hw=>Sl.cell1 (Rd.φ (MsgD.rd.star0 5 O hw _ (ze (l:=X.way) (j:=q) V)).dv)) (fun hc2_=> ?_)
   refine zr 7 O O O (hca _ (ze hkk)) O (zA (j7 (fun(wv':Value) (way':List MsgD)=>[(0,pt xb),(3,pt b3),(6,pt b6)]) (fun(wv':Value) (way':List MsgD)=>way'.Sublist X.way) (fun(wv':Value) (way':List MsgD)=>[Res.row xb 73 (NetD.cells ({X with wv:=wv',way:=way'}:NetD)),Res.vec 27 1 X.nv X.cbs.length (X.cbs.flatMap CP),Res.star (X.ns.map CorD.dres),vT X.tv X.ts,vM wv' way',sM X.way,Res.row b3 68 (MovD.cells m),Res.row b6 59 (MsgD.cells (zG X.way q))]) ?_ (fun wv' way' g hΦ=> ?_)))
   ·refine zB (zJ (o:=0) O O (zL 6 (v:=Vi m.kind) O O O O (xn O O O (zA (zY O (fun c3=> ?_) (fun c3=> ?_))))))
    ·refine zB (zy (e:=59) (sz:=14) (vs:=[]) qN O O qY qM O (fun b56=>zD O (za O O (zJ (o:=2) O O (zL 0 (v:=X.wv) O O O O (zD O (k8 (pV 4 O) 14 0 q qN O O ⟨_,O⟩ V V O (z7 (g:=MsgD.cells) (sz:=14) (by':=176) (fun _=>O) (l:=[]) (l':=((X.way.take q).drop 0)) (fun x hx=>hca x (List.mem_of_mem_take (List.mem_of_mem_drop hx))) 8 qN O O O (fun w' hw'=>Sl.subL_f (g:=MsgD.cells) (xs:=X.way) (sz:=14) (fun _=>O) ((fun w' hw'=>Vec.sl (Own.holds hw' 4 _ O)) w' hw') (l:=0) (h:=q) V V) qO qM O (fun v63=>zI O (zA (zS (zD O ?_))))))))))))
     refine zD O (zD O (za O O (zJ (o:=2) O O (zL 0 (v:=X.wv) O O O O (zD O (zp O O (zq V) O (k8 (pV 4 O) 14 (q+1) X.way.length qN O ⟨_,O⟩ O V V O (z7 (g:=MsgD.cells) (sz:=14) (by':=176) (fun _=>O) (l:=((X.way.take q).drop 0)) (l':=(X.way.drop (q+1))) (fun x hx=>hca x (List.mem_of_mem_drop hx)) 8 qN O O O (fun w' hw'=>Sl.dropL_f (g:=MsgD.cells) (xs:=X.way) (sz:=14) (fun _=>O) ((fun w' hw'=>Vec.sl (Own.holds hw' 4 _ O)) w' hw') (l:=q+1) V) qO qM O (fun v73=>za O O (zJ (o:=2) O O ?_))))))))))
     refine zP (fun w' hw=>Own.qh (i:=8) O hw) (fun hc3_=> ?_)
     refine zn (cs:=(NetD.cells X)) 0 O O O hc3_ O ?_
     exact zd (fun w' hw=>⟨v73,((X.way.take q).drop 0)++(X.way.drop (q+1)),⟨O,O,O,trivial⟩,zNa,hw.sel [0,1,2,3,8,5,6,7] O qM⟩)
    exact yc (fun w' hw=>⟨X.wv,X.way,⟨O,O,O,trivial⟩,List.Sublist.refl _,hw⟩)
   have hsub:=hΦ
   have hsl:=hsub.length_le
   refine zN (zB (zJ (o:=0) O O (zL 6 (v:=Vi m.kind) O O O O (xn O O O (zA (zY O (fun c4=> ?_) (fun c4=> ?_)))))))
   ·have hQ:=hOk.way _ (List.mem_map_of_mem (f:=MsgD.a) (ze hkk))
    have hqd:1≤(zG X.way q).dst∧(zG X.way q).dst≤N:=hQ.dst
    have hqi:((zG X.way q).dst - 1).toNat<N:=by omega
    have hti:=hX.ts _ (ze (show((zG X.way q).dst - 1).toNat<X.ts.length by omega))
    have hqk:(zG X.way q).kind≠7∧(zG X.way q).kind≠8:=hQ.kind
    refine zB (zJ (o:=2) O O (zL 7 (v:=Vi ((zG X.way q).dst)) O O O O (kI O O (zq V) O (zI O (zA (zNZ (L':=[Res.any (fun z_=>Res.row xb 73 [X.nv,X.tv,z_, .map (some X.mb),X.sv]) [xb],Res.vec 27 1 X.nv X.cbs.length (X.cbs.flatMap CP),vT X.tv X.ts,Res.row b3 68 (MovD.cells m),Res.row b6 59 (MsgD.cells (zG X.way q))]) (fun w' hw=>hw.weak [0,1,3,6,7] (wv') O qM O) (fun w' hw hS=>zC 0 O zT hS (zC 1 O zT hS (zC 2 O (zQ O) hS (zC 3 O (zH (o:=2) O) hS (zC 5 O zT hS (zC 6 O (zQ O) hS ?_))))))))))))
    refine zC 7 O (zH (o:=0) O) hS (zC 8 O (zLy 0 (v:=X.nv) (r:=fun z_=>Res.row xb 73 [X.nv,X.tv,z_, .map (some X.mb),X.sv]) O O (fun _=>O) (fun _=>O)) hS (zC 9 O zT hS (zC 10 O (y8 (pV 1 O) 1 ((((zG X.way q).dst) - 1).toNat) O O V V) hS (zC 11 O (x9 (pV 1 O) 1 ((((zG X.way q).dst) - 1).toNat) 0 (fun _=>O) O O V O) hS (zC 12 O (x8 (cs:=(MsgD.cells (zG X.way q))) 4 O O) hS (zC 14 O zT hS (zC 15 O (zQ O) hS (zC 16 O (zH (o:=1) O) hS (zC 17 O (zLy 0 (v:=X.tv) (r:=fun z_=>Res.row xb 73 [X.nv,X.tv,z_, .map (some X.mb),X.sv]) O O (fun _=>O) (fun _=>O)) hS (zC 18 O zT hS (zC 19 O (y8 (pV 2 O) 1 ((((zG X.way q).dst) - 1).toNat) O O V V) hS (zC 20 O (x9 (pV 2 O) 1 ((((zG X.way q).dst) - 1).toNat) 0 (fun _=>O) O O V O) hS ?_))))))))))))
    refine zC 21 O (zH (o:=3) O) hS (zC 22 O (zZ 3 (v:=Vn m.qd) O O O) hS (zu 4 13 ?_ ?_))
    ·refine zm 4 O hw (zL 0 (v:=wv') O O O O (xj (fun w' hw=>hw.weak [0,1,3,6,7] (wv') O qM O) (fun w' hw hS=>zK 13 O hw (a_call O O (fun w' hw=>(zF6 (zG X.way q) w' (zDE hQ) (MsgD.rd.star0 5 O hw _ (ze V))).mono ?_)))))
     rintro _ w1 ⟨r3_,es4_,a5_,b6_,c7_,rfl,hf12_13,hO⟩
     have hes:=hf12_13
     refine(?_:CL _ _ _ _ _ _ (Own w S [Res.row xb 73 (NetD.cells ({X with wv:=wv',way:=way'}:NetD)),Res.vec 27 1 X.nv X.cbs.length (X.cbs.flatMap CP),Res.star (X.ns.map CorD.dres),vT X.tv X.ts,vM wv' way',sM X.way,Res.row b3 68 (MovD.cells m),Res.row b6 59 (MsgD.cells (zG X.way q)),vE r3_ es4_,sE es4_,vI a5_ ((zG X.way q).conf.vs),vI b6_ ((zG X.way q).conf.ls),vY c7_ ((zG X.way q).data)])) w1 (hw.qi hO)
     refine xj (fun w' hw=>hw.weak [0,1,3,6,7] (wv') O qM O) (fun w' hw hS=>zK 23 O hw (a_call O O (fun w' hw=>(zK1 X.ns (((zG X.way q).dst - 1).toNat) (zG X.cbs ((((zG X.way q).dst) - 1).toNat)) ({(zG X.way q)with ev:=r3_,ql:=es4_,conf:=({vv:=a5_,vs:=(zG X.way q).conf.vs,lv:=b6_,ls:=(zG X.way q).conf.ls}:ConfD),dv:=c7_}:MsgD) (zG X.ts ((((zG X.way q).dst) - 1).toNat)) m.qd w' V (hX.cb hqi) (hX.ok hOk hN.2 hqi) V hmd (zDE (zE8 hes hQ)) hqk (hw.give [2] O qM) ⟨(hw.rdVec 8 O [2] O O),(EntD.rd.star 9 O [2] O O hw),⟨(hw.rdVec 10 O [2] O O),(hw.rdVec 11 O [2] O O)⟩,(hw.rdVec 12 O [2] O O)⟩).mono ?_)))
     rintro _ w1 ⟨n'8_,dr'9_,o10_,x11_,rfl,hf12_23,hf12_23_1,hf12_23_2,hf12_23_3,hO⟩
     have hR:=zGs hC V hI hX hqi V hmd hkk hqd.1 (zIK hes) hf12_23 hf12_23_1 hsub
     have hol:(way'.length+o10_.qj.length)≤1000000:=by have h:=(hC.ok _ _ V hR).wl;simp only[List.length_append,List.length_map]at h;exact h
     refine(?_:CL _ _ _ _ _ _ (Own w S [Res.row xb 73 (NetD.cells ({X with wv:=wv',way:=way'}:NetD)),Res.vec 27 1 X.nv X.cbs.length (X.cbs.flatMap CP),vT X.tv X.ts,vM wv' way',sM X.way,Res.row b3 68 (MovD.cells m),Res.row b6 59 (MsgD.cells (zG X.way q)),vE r3_ es4_,sE es4_,vI a5_ ((zG X.way q).conf.vs),vI b6_ ((zG X.way q).conf.ls),vY c7_ ((zG X.way q).data),Res.star ((X.ns.set (((zG X.way q).dst - 1).toNat) ((zG X.ns (((zG X.way q).dst - 1).toNat)).put dr'9_ n'8_)).map CorD.dres),vM o10_.mv o10_.qj,sM o10_.qj,vR o10_.rv o10_.qx,vU o10_.xv o10_.qq])) w1 (hw.qg [2] O hO)
     refine xj (fun w' hw=>hw.weak [0,1,2,5,6] (wv') O qM O) (fun w' hw hS=>zC 24 O (zEu (o:=0) (v:=o10_.mv) O qN O) hS (zK 25 O hw ?_))
     refine zP (fun w' hw=>MsgD.c1all (MsgD.rd.star0 14 O hw)) (fun hc5_=> ?_)
     refine z7 (g:=MsgD.cells) (sz:=14) (by':=176) (fun _=>O) (l:=way') (l':=o10_.qj) hc5_ 3 qN O O O (fun w' hw'=>Vec.sl (Own.holds hw' 13 _ O)) qO qM O (fun v107=>xj (fun w' hw=>hw.weak [0,1,2,5,6] (wv') O qM O) (fun w' hw hS=>zC 26 O (zQ O) hS (zC 27 O (zH (o:=2) O) hS (zK 28 O hw ?_))))
     refine zP (fun w' hw=>Own.qh (i:=3) O hw) (fun hc6_=> ?_)
     refine zn (cs:=(NetD.cells ({X with wv:=wv',way:=way'}:NetD))) 0 O O O hc6_ O (xj (fun w' hw=>hw.weak [0,1,2,5,6] (v107) O qM O) (fun w' hw hS=>zU ?_))
     refine(?_:C _ _ _ _ _ _ _ (Own w S [Res.row xb 73 (NetD.cells ({X with wv:=v107,way:=way'++o10_.qj}:NetD)),Res.vec 27 1 X.nv X.cbs.length (X.cbs.flatMap CP),vT X.tv X.ts,vM v107 (way'++o10_.qj),sM X.way,Res.row b3 68 (MovD.cells m),Res.row b6 59 (MsgD.cells (zG X.way q)),vE r3_ es4_,sE es4_,vI a5_ ((zG X.way q).conf.vs),vI b6_ ((zG X.way q).conf.ls),vY c7_ ((zG X.way q).data),Res.star ((X.ns.set (((zG X.way q).dst - 1).toNat) ((zG X.ns (((zG X.way q).dst - 1).toNat)).put dr'9_ n'8_)).map CorD.dres),vM o10_.mv o10_.qj,sM o10_.qj,vR o10_.rv o10_.qx,vU o10_.xv o10_.qq])) _ hw
     exact zV (yJ O (fun w' hw=>⟨({X with ns:=X.ns.set ((zG X.way q).dst - 1).toNat ((zG X.ns ((zG X.way q).dst - 1).toNat).put dr'9_ n'8_),ts:=X.ts,wv:=v107,way:=way'++o10_.qj}:NetD),O,(by rw[NetD.a_call];exact hC.up _ _ hR),hX.upd hqi htl hX.ts,O,O,O,(((hw.qK 4 hsub O).starApp 4 14 qM O O).sel [0,1,12,2,3,4] O qM)⟩))
    refine zm 13 O hw (a_call O O (fun w' hw=>(zF6 (zG X.way q) w' (zDE hQ) (MsgD.rd.star0 5 O hw _ (ze V))).mono ?_))
    rintro _ w1 ⟨r12_,es13_,a14_,b15_,c16_,rfl,hf12_13,hO⟩
    have hes:=hf12_13
    refine(?_:CL _ _ _ _ _ _ (Own w S [Res.row xb 73 (NetD.cells ({X with wv:=wv',way:=way'}:NetD)),Res.vec 27 1 X.nv X.cbs.length (X.cbs.flatMap CP),Res.star (X.ns.map CorD.dres),vT X.tv X.ts,vM wv' way',sM X.way,Res.row b3 68 (MovD.cells m),Res.row b6 59 (MsgD.cells (zG X.way q)),vE r12_ es13_,sE es13_,vI a14_ ((zG X.way q).conf.vs),vI b15_ ((zG X.way q).conf.ls),vY c16_ ((zG X.way q).data)])) w1 (hw.qi hO)
    refine xj (fun w' hw=>hw.weak [0,1,3,6,7] (wv') O qM O) (fun w' hw hS=>zu 4 23 ?_ ?_)
    ·refine zm 4 O hw (zL 0 (v:=wv') O O O O (xj (fun w' hw=>hw.weak [0,1,3,6,7] (wv') O qM O) (fun w' hw hS=>zK 23 O hw (a_call O O (fun w' hw=>(zK1 X.ns (((zG X.way q).dst - 1).toNat) (zG X.cbs ((((zG X.way q).dst) - 1).toNat)) ({(zG X.way q)with ev:=r12_,ql:=es13_,conf:=({vv:=a14_,vs:=(zG X.way q).conf.vs,lv:=b15_,ls:=(zG X.way q).conf.ls}:ConfD),dv:=c16_}:MsgD) (zG X.ts ((((zG X.way q).dst) - 1).toNat)) m.qd w' V (hX.cb hqi) (hX.ok hOk hN.2 hqi) V hmd (zDE (zE8 hes hQ)) hqk (hw.give [2] O qM) ⟨(hw.rdVec 8 O [2] O O),(EntD.rd.star 9 O [2] O O hw),⟨(hw.rdVec 10 O [2] O O),(hw.rdVec 11 O [2] O O)⟩,(hw.rdVec 12 O [2] O O)⟩).mono ?_)))))
     rintro _ w1 ⟨n'17_,dr'18_,o19_,x20_,rfl,hf12_23,hf12_23_1,hf12_23_2,hf12_23_3,hO⟩
     have hR:=zGs hC V hI hX hqi V hmd hkk hqd.1 (zIK hes) hf12_23 hf12_23_1 hsub
     have hol:(way'.length+o19_.qj.length)≤1000000:=by have h:=(hC.ok _ _ V hR).wl;simp only[List.length_append,List.length_map]at h;exact h
     refine(?_:CL _ _ _ _ _ _ (Own w S [Res.row xb 73 (NetD.cells ({X with wv:=wv',way:=way'}:NetD)),Res.vec 27 1 X.nv X.cbs.length (X.cbs.flatMap CP),vT X.tv X.ts,vM wv' way',sM X.way,Res.row b3 68 (MovD.cells m),Res.row b6 59 (MsgD.cells (zG X.way q)),vE r12_ es13_,sE es13_,vI a14_ ((zG X.way q).conf.vs),vI b15_ ((zG X.way q).conf.ls),vY c16_ ((zG X.way q).data),Res.star ((X.ns.set (((zG X.way q).dst - 1).toNat) ((zG X.ns (((zG X.way q).dst - 1).toNat)).put dr'18_ n'17_)).map CorD.dres),vM o19_.mv o19_.qj,sM o19_.qj,vR o19_.rv o19_.qx,vU o19_.xv o19_.qq])) w1 (hw.qg [2] O hO)
     refine xj (fun w' hw=>hw.weak [0,1,2,5,6] (wv') O qM O) (fun w' hw hS=>zC 24 O (zEu (o:=0) (v:=o19_.mv) O qN O) hS (zK 25 O hw ?_))
     refine zP (fun w' hw=>MsgD.c1all (MsgD.rd.star0 14 O hw)) (fun hc7_=> ?_)
     refine z7 (g:=MsgD.cells) (sz:=14) (by':=176) (fun _=>O) (l:=way') (l':=o19_.qj) hc7_ 3 qN O O O (fun w' hw'=>Vec.sl (Own.holds hw' 13 _ O)) qO qM O (fun v107=>xj (fun w' hw=>hw.weak [0,1,2,5,6] (wv') O qM O) (fun w' hw hS=>zC 26 O (zQ O) hS (zC 27 O (zH (o:=2) O) hS (zK 28 O hw ?_))))
     refine zP (fun w' hw=>Own.qh (i:=3) O hw) (fun hc8_=> ?_)
     refine zn (cs:=(NetD.cells ({X with wv:=wv',way:=way'}:NetD))) 0 O O O hc8_ O (xj (fun w' hw=>hw.weak [0,1,2,5,6] (v107) O qM O) (fun w' hw hS=>zU ?_))
     refine(?_:C _ _ _ _ _ _ _ (Own w S [Res.row xb 73 (NetD.cells ({X with wv:=v107,way:=way'++o19_.qj}:NetD)),Res.vec 27 1 X.nv X.cbs.length (X.cbs.flatMap CP),vT X.tv X.ts,vM v107 (way'++o19_.qj),sM X.way,Res.row b3 68 (MovD.cells m),Res.row b6 59 (MsgD.cells (zG X.way q)),vE r12_ es13_,sE es13_,vI a14_ ((zG X.way q).conf.vs),vI b15_ ((zG X.way q).conf.ls),vY c16_ ((zG X.way q).data),Res.star ((X.ns.set (((zG X.way q).dst - 1).toNat) ((zG X.ns (((zG X.way q).dst - 1).toNat)).put dr'18_ n'17_)).map CorD.dres),vM o19_.mv o19_.qj,sM o19_.qj,vR o19_.rv o19_.qx,vU o19_.xv o19_.qq])) _ hw
     exact zV (yJ O (fun w' hw=>⟨({X with ns:=X.ns.set ((zG X.way q).dst - 1).toNat ((zG X.ns ((zG X.way q).dst - 1).toNat).put dr'18_ n'17_),ts:=X.ts,wv:=v107,way:=way'++o19_.qj}:NetD),O,(by rw[NetD.a_call];exact hC.up _ _ hR),hX.upd hqi htl hX.ts,O,O,O,(((hw.qK 4 hsub O).starApp 4 14 qM O O).sel [0,1,12,2,3,4] O qM)⟩))
    refine zm 23 O hw (a_call O O (fun w' hw=>(zK1 X.ns (((zG X.way q).dst - 1).toNat) (zG X.cbs ((((zG X.way q).dst) - 1).toNat)) ({(zG X.way q)with ev:=r12_,ql:=es13_,conf:=({vv:=a14_,vs:=(zG X.way q).conf.vs,lv:=b15_,ls:=(zG X.way q).conf.ls}:ConfD),dv:=c16_}:MsgD) (zG X.ts ((((zG X.way q).dst) - 1).toNat)) m.qd w' V (hX.cb hqi) (hX.ok hOk hN.2 hqi) V hmd (zDE (zE8 hes hQ)) hqk (hw.give [2] O qM) ⟨(hw.rdVec 8 O [2] O O),(EntD.rd.star 9 O [2] O O hw),⟨(hw.rdVec 10 O [2] O O),(hw.rdVec 11 O [2] O O)⟩,(hw.rdVec 12 O [2] O O)⟩).mono ?_))
    rintro _ w1 ⟨n'21_,dr'22_,o23_,x24_,rfl,hf12_23,hf12_23_1,hf12_23_2,hf12_23_3,hO⟩
    have hR:=zGs hC V hI hX hqi V hmd hkk hqd.1 (zIK hes) hf12_23 hf12_23_1 hsub
    have hol:(way'.length+o23_.qj.length)≤1000000:=by have h:=(hC.ok _ _ V hR).wl;simp only[List.length_append,List.length_map]at h;exact h
    refine(?_:CL _ _ _ _ _ _ (Own w S [Res.row xb 73 (NetD.cells ({X with wv:=wv',way:=way'}:NetD)),Res.vec 27 1 X.nv X.cbs.length (X.cbs.flatMap CP),vT X.tv X.ts,vM wv' way',sM X.way,Res.row b3 68 (MovD.cells m),Res.row b6 59 (MsgD.cells (zG X.way q)),vE r12_ es13_,sE es13_,vI a14_ ((zG X.way q).conf.vs),vI b15_ ((zG X.way q).conf.ls),vY c16_ ((zG X.way q).data),Res.star ((X.ns.set (((zG X.way q).dst - 1).toNat) ((zG X.ns (((zG X.way q).dst - 1).toNat)).put dr'22_ n'21_)).map CorD.dres),vM o23_.mv o23_.qj,sM o23_.qj,vR o23_.rv o23_.qx,vU o23_.xv o23_.qq])) w1 (hw.qg [2] O hO)
    refine xj (fun w' hw=>hw.weak [0,1,2,5,6] (wv') O qM O) (fun w' hw hS=>zC 24 O (zEu (o:=0) (v:=o23_.mv) O qN O) hS (zK 4 O hw (zL 0 (v:=wv') O O O O (xj (fun w' hw=>hw.weak [0,1,2,5,6] (wv') O qM O) (fun w' hw hS=>zK 25 O hw ?_)))))
    refine zP (fun w' hw=>MsgD.c1all (MsgD.rd.star0 14 O hw)) (fun hc9_=> ?_)
    refine z7 (g:=MsgD.cells) (sz:=14) (by':=176) (fun _=>O) (l:=way') (l':=o23_.qj) hc9_ 3 qN O O O (fun w' hw'=>Vec.sl (Own.holds hw' 13 _ O)) qO qM O (fun v107=>xj (fun w' hw=>hw.weak [0,1,2,5,6] (wv') O qM O) (fun w' hw hS=>zC 26 O (zQ O) hS (zC 27 O (zH (o:=2) O) hS (zK 28 O hw ?_))))
    refine zP (fun w' hw=>Own.qh (i:=3) O hw) (fun hc10_=> ?_)
    refine zn (cs:=(NetD.cells ({X with wv:=wv',way:=way'}:NetD))) 0 O O O hc10_ O (xj (fun w' hw=>hw.weak [0,1,2,5,6] (v107) O qM O) (fun w' hw hS=>zU ?_))
    refine(?_:C _ _ _ _ _ _ _ (Own w S [Res.row xb 73 (NetD.cells ({X with wv:=v107,way:=way'++o23_.qj}:NetD)),Res.vec 27 1 X.nv X.cbs.length (X.cbs.flatMap CP),vT X.tv X.ts,vM v107 (way'++o23_.qj),sM X.way,Res.row b3 68 (MovD.cells m),Res.row b6 59 (MsgD.cells (zG X.way q)),vE r12_ es13_,sE es13_,vI a14_ ((zG X.way q).conf.vs),vI b15_ ((zG X.way q).conf.ls),vY c16_ ((zG X.way q).data),Res.star ((X.ns.set (((zG X.way q).dst - 1).toNat) ((zG X.ns (((zG X.way q).dst - 1).toNat)).put dr'22_ n'21_)).map CorD.dres),vM o23_.mv o23_.qj,sM o23_.qj,vR o23_.rv o23_.qx,vU o23_.xv o23_.qq])) _ hw
    exact zV (yJ O (fun w' hw=>⟨({X with ns:=X.ns.set ((zG X.way q).dst - 1).toNat ((zG X.ns ((zG X.way q).dst - 1).toNat).put dr'22_ n'21_),ts:=X.ts,wv:=v107,way:=way'++o23_.qj}:NetD),O,(by rw[NetD.a_call];exact hC.up _ _ hR),hX.upd hqi htl hX.ts,O,O,O,(((hw.qK 4 hsub O).starApp 4 14 qM O O).sel [0,1,12,2,3,4] O qM)⟩))
   refine zO ?_
   exact zV (yJ O (fun w' hw=>⟨({X with wv:=wv',way:=way'}:NetD),O,hC.up _ _ (hC.up _ _ (hC.sub _ _ _ hI (hsub.map MsgD.a))),⟨hX.len,hX.cbs,hX.tsl,hX.ts,hX.con⟩,O,O,O,((hw.qK 5 hsub O).sel [0,1,2,3,4,5] O qM)⟩))
  refine zO (yt (fun(i:Nat)=>[(0,pt xb),(3,pt b3),(9,Vj i)]) (fun(i:Nat)=>i<N) (fun(i:Nat)=>[Res.row xb 73 (NetD.cells X),Res.vec 27 1 X.nv X.cbs.length (X.cbs.flatMap CP),Res.star (X.ns.map CorD.dres),vT X.tv X.ts,vM X.wv X.way,sM X.way,Res.row b3 68 (MovD.cells m)]) ?_ (fun i g hΦ=> ?_))
  ·refine zS (zD O (zD O (za O O (zJ (o:=0) O O (zL 0 (v:=X.nv) O O O O (zo (pV 1 O) O O (zLF (c:=((aq%X.cbs.length:Nat):Int)) O O V O O (zI O ?_))))))))
   exact zd (fun w' hw=>⟨aq%X.cbs.length,⟨O,O,O,trivial⟩,(by rw[hcl];exact Nat.mod_lt _ V),hw⟩)
  have hi:=hΦ
  have hti:=hX.ts _ (ze (show i<X.ts.length by omega))
  have hlt:=zNd (t:=m.t) hti
  refine zN (zg [0,1,4,6] O qM qN (fun w' hw hS=>zC 0 O zT hS (zC 1 O (zQ O) hS (zC 2 O (zH (o:=1) O) hS (zC 3 O (zZ 0 (v:=X.tv) O O O) hS (zC 4 O zT hS (zC 5 O zT hS (zC 6 O (zQ O) hS (zC 7 O (zH (o:=1) O) hS (zC 8 O (zZ 0 (v:=X.tv) O O O) hS (zC 9 O zT hS (zC 12 O (zH (o:=2) O) hS ?_))))))))))))
  refine zC 13 O (zZ 3 (v:=Vi m.t) O O O) hS (zK 10 O hw (zi (pV 3 O) 1 i O O O V O (zE [0,1,4,6] O qM (fun w' hw hS=>zK 11 O hw (yF (pV 3 O) 1 i 0 (fun _=>O) O O V O O (zE [0,1,4,6] O qM (fun w' hw hS=>zK 14 O hw (a_call O O (fun w' hw=>(zND (zG X.ts i) m.t w' qO).mono ?_)))))))))
  rintro _ w1 ⟨rfl,hO⟩
  refine(?_:CL _ _ _ _ _ _ (Own w S [Res.row xb 73 (NetD.cells X),Res.vec 27 1 X.nv X.cbs.length (X.cbs.flatMap CP),Res.star (X.ns.map CorD.dres),vT X.tv X.ts,vM X.wv X.way,sM X.way,Res.row b3 68 (MovD.cells m)])) w1 (hw.qi hO)
  refine zE [0,1,4,6] O qM (fun w' hw hS=>zK 15 O hw (zi (pV 3 O) 1 i O O O V O (zE [0,1,4,6] O qM (fun w' hw hS=>zK 16 O hw (yp 3 i (zA7 (zG X.ts i) m.t) O (fun _=>O) O V O O O V (zE [0,1,4,6] O qM (fun w' hw hS=>zU ?_)))))))
  refine(?_:C _ _ _ _ _ _ _ (Own w S [Res.row xb 73 (NetD.cells X),Res.vec 27 1 X.nv X.cbs.length (X.cbs.flatMap CP),Res.star (X.ns.map CorD.dres),vT X.tv (X.ts.set i (zA7 (zG X.ts i) m.t)),vM X.wv X.way,sM X.way,Res.row b3 68 (MovD.cells m)])) _ hw
  refine j1 (fun(ob:Nat) (n':NdD) (o:OutD)=>[(0,pt xb),(3,pt b3),(9,Vj i),(10,pt ob)]) (fun(ob:Nat) (n':NdD) (o:OutD)=>I (k+1) (X.a.call i n'.a (o.qj.map MsgD.a))) (fun(ob:Nat) (n':NdD) (o:OutD)=>[Res.row xb 73 (NetD.cells ({X with ts:=(X.ts.set i (zA7 (zG X.ts i) m.t))}:NetD)),Res.vec 27 1 X.nv X.cbs.length (X.cbs.flatMap CP),Res.star ((X.ns.set i ((zG X.ns i).put m.qd n')).map CorD.dres),vT X.tv (X.ts.set i (zA7 (zG X.ts i) m.t)),vM X.wv X.way,sM X.way,Res.row b3 68 (MovD.cells m),zBL ob o,vM o.mv o.qj,sM o.qj]) ?_ (fun ob n' o g hΦ=> ?_)
  ·refine zg [0,1,3,4,6] O qM qN (fun w' hw hS=>zC 0 O zT hS (zC 1 O (zQ O) hS (zC 2 O (zH (o:=0) O) hS (zC 3 O (zZ 0 (v:=X.nv) O O O) hS (zC 4 O zT hS (zC 5 O (y8 (pV 1 O) 1 i O O O V) hS (zC 6 O (x9 (pV 1 O) 1 i 0 (fun _=>O) O O V O) hS (zC 7 O zT hS (zC 8 O (zQ O) hS (zC 9 O (zH (o:=1) O) hS (zC 10 O (zZ 0 (v:=X.tv) O O O) hS (zC 11 O zT hS ?_))))))))))))
   refine zC 12 O (y8 (pV 2 O) 1 i O O O qU) hS (zC 13 O (x9 (pV 2 O) 1 i 0 (fun _=>O) O O qU O) hS (zC 14 O (zH (o:=3) O) hS (zC 15 O (zZ 4 (v:=Vn m.qd) O O O) hS (zu 16 17 ?_ ?_))))
   ·refine zm 16 O hw (a_call O O (fun w' hw=>(zOC X.ns i (zG X.cbs i) (zG (X.ts.set i (zA7 (zG X.ts i) m.t)) i) m.qd w' V (hX.cb hi) (hX.ok hOk hN.2 hi) (by rw[xR,if_pos ⟨rfl,by omega⟩];omega) hmd (hw.give [2] O qM)).mono ?_))
    rintro _ w1 ⟨n'25_,o26_,x27_,rfl,hf15_16,hf15_16_1,hf15_16_2,hf15_16_3,hO⟩
    refine(?_:CL _ _ _ _ _ _ (Own w S [Res.row xb 73 (NetD.cells X),Res.vec 27 1 X.nv X.cbs.length (X.cbs.flatMap CP),vT X.tv (X.ts.set i (zA7 (zG X.ts i) m.t)),vM X.wv X.way,sM X.way,Res.row b3 68 (MovD.cells m),Res.star ((X.ns.set i ((zG X.ns i).put m.qd n'25_)).map CorD.dres),vM o26_.mv o26_.qj,sM o26_.qj,vR o26_.rv o26_.qx,vU o26_.xv o26_.qq])) w1 (hw.qg [2] O hO)
    refine zE [0,1,2,3,5] O qM (fun w' hw hS=>zK 17 O hw (yE (v:= .agg #[.slice none 0 0, .bool false, .slice none 0 0, .slice none 0 0]) qN O (fun b10=>zE [0,1,2,3,5] O qM (fun w' hw hS=>zK 18 O hw ?_))))
    refine zP (fun w' hw=>Own.qh (i:=7) O hw) (fun hc11_=> ?_)
    refine zP (fun w' hw=>Own.qh (i:=9) O hw) (fun hc12_=> ?_)
    refine zP (fun w' hw=>Own.qh (i:=10) O hw) (fun hc13_=> ?_)
    refine zr 11 O O O (zF hc11_ (zF O (zF hc12_ (zF hc13_ zj)))) O (zE [0,1,2,3,5] O qM (fun w' hw hS=>zU ?_))
    exact⟨b10,n'25_,o26_,⟨O,O,O,O,trivial⟩,(by rw[hf15_16_1];exact zKN hC V hI hX hi (by rw[xR,if_pos ⟨rfl,by omega⟩];omega) hmd hf15_16),hw.sel [0,1,6,2,3,4,5,11,7,8] O qM⟩
   refine zm 17 O hw (yE (v:= .agg #[.slice none 0 0, .bool false, .slice none 0 0, .slice none 0 0]) qN O (fun b10=>zE [0,1,3,4,6] O qM (fun w' hw hS=>zK 16 O hw (a_call O O (fun w' hw=>(zOC X.ns i (zG X.cbs i) (zG (X.ts.set i (zA7 (zG X.ts i) m.t)) i) m.qd w' V (hX.cb hi) (hX.ok hOk hN.2 hi) (by rw[xR,if_pos ⟨rfl,by omega⟩];omega) hmd (hw.give [2] O qM)).mono ?_)))))
   rintro _ w1 ⟨n'28_,o29_,x30_,rfl,hf15_16,hf15_16_1,hf15_16_2,hf15_16_3,hO⟩
   refine(?_:CL _ _ _ _ _ _ (Own w S [Res.row xb 73 (NetD.cells X),Res.vec 27 1 X.nv X.cbs.length (X.cbs.flatMap CP),vT X.tv (X.ts.set i (zA7 (zG X.ts i) m.t)),vM X.wv X.way,sM X.way,Res.row b3 68 (MovD.cells m),Res.row b10 44 [.slice none 0 0, .bool false, .slice none 0 0, .slice none 0 0],Res.star ((X.ns.set i ((zG X.ns i).put m.qd n'28_)).map CorD.dres),vM o29_.mv o29_.qj,sM o29_.qj,vR o29_.rv o29_.qx,vU o29_.xv o29_.qq])) w1 (hw.qg [2] O hO)
   refine zE [0,1,2,3,5] O qM (fun w' hw hS=>zK 18 O hw ?_)
   refine zP (fun w' hw=>Own.qh (i:=8) O hw) (fun hc14_=> ?_)
   refine zP (fun w' hw=>Own.qh (i:=10) O hw) (fun hc15_=> ?_)
   refine zP (fun w' hw=>Own.qh (i:=11) O hw) (fun hc16_=> ?_)
   refine zr 6 O O O (zF hc14_ (zF O (zF hc15_ (zF hc16_ zj)))) O (zE [0,1,2,3,5] O qM (fun w' hw hS=>zU ?_))
   exact⟨b10,n'28_,o29_,⟨O,O,O,O,trivial⟩,(by rw[hf15_16_1];exact zKN hC V hI hX hi (by rw[xR,if_pos ⟨rfl,by omega⟩];omega) hmd hf15_16),hw.sel [0,1,7,2,3,4,5,6,8,9] O qM⟩
  have hI16:=hΦ
  have hwl16:(X.way++o.qj).length≤1000000:=by have h:=(hC.ok _ _ V hI16).wl;unfold NetA.call NetD.a at h;rw[←List.map_append,List.length_map]at h;exact h
  rw[List.length_append]at hwl16
  refine yt (fun(X1:NetD)=>[(0,pt xb),(3,pt b3),(9,Vj i)]) (fun(X1:NetD)=>(I (k+1) X1.a∧X1.st N)∧X1.mb=X.mb∧X1.sv=X.sv∧X1.safe=X.safe) (fun(X1:NetD)=>[Res.row xb 73 (NetD.cells X1),Res.vec 27 1 X1.nv X1.cbs.length (X1.cbs.flatMap CP),Res.star (X1.ns.map CorD.dres),vT X1.tv X1.ts,vM X1.wv X1.way,sM X1.way,Res.row b3 68 (MovD.cells m)]) ?_ (fun X1 g hΦ=> ?_)
  ·refine zg [1,3,6,7,8] O qM qN (fun w' hw hS=>zC 0 O zT hS (zC 1 O zT hS (zC 2 O (zQ O) hS (zC 3 O (zH (o:=2) O) hS (zC 5 O (zH (o:=0) O) hS (zC 6 O (zZ 3 (v:=o.mv) O O O) hS (zK 4 O hw (zL 0 (v:=X.wv) O O O O (zE [1,3,6,7,8] O qM (fun w' hw hS=>zK 7 O hw ?_))))))))))
   refine zP (fun w' hw=>MsgD.c1all (MsgD.rd.star0 9 O hw)) (fun hc20_=> ?_)
   refine z7 (g:=MsgD.cells) (sz:=14) (by':=176) (fun _=>O) (l:=X.way) (l':=o.qj) hc20_ 4 qN O O O (fun w' hw'=>Vec.sl (Own.holds hw' 8 _ O)) qO qM O (fun v157=>zE [1,3,6,7,8] O qM (fun w' hw hS=>zC 8 O (zQ O) hS (zC 9 O (zH (o:=2) O) hS (zK 10 O hw ?_))))
   refine zP (fun w' hw=>Own.qh (i:=4) O hw) (fun hc21_=> ?_)
   refine zn 0 O O O hc21_ O (zE [1,3,6,7,8] O qM (fun w' hw hS=>zU ?_))
   exact⟨({X with ns:=X.ns.set i ((zG X.ns i).put m.qd n'),ts:=(X.ts.set i (zA7 (zG X.ts i) m.t)),wv:=v157,way:=X.way++o.qj}:NetD),⟨O,O,O,trivial⟩,⟨⟨by rw[NetD.a_call];exact hI16,hX.upd hi (by rw[List.length_set];exact htl) (zOk hX.ts hlt)⟩,O,O,O⟩,((hw.starApp 5 9 qM O O).sel [0,1,2,3,4,5,6] O qM)⟩
  obtain⟨⟨hI1,hX1⟩,hmv⟩:=hΦ
  have hOj:=hC.ok _ _ V hI1
  have hwl1:X1.way.length≤1000000:=by have h:=hOj.wl;unfold NetD.a at h;rwa [List.length_map]at h
  have hcl1:X1.cbs.length=N:=by rw[hX1.cbs,List.length_map,hX1.len]
  have htl1:=hX1.tsl
  have hr1:=Nat.mod_lt (m.qd / 3) (show 0<X1.cbs.length by omega)
  have hr2:=Nat.mod_lt m.qd (show 0<X1.cbs.length by omega)
  have hnl1:=hX1.len
  have hti1:=hX1.ts _ (ze (show i<X1.ts.length by omega))
  refine zB (zJ (o:=4) O O (zL 6 (v:=Vi m.ask) O O O O (zA (zX (zB (yQ O O O (zI O (zA (zY O (fun c5=> ?_) (fun c5=> ?_))))))))))
  ·refine j1 (fun(ob:Nat) (n':NdD) (o:OutD)=>[(0,pt xb),(12,pt ob)]) (fun(ob:Nat) (n':NdD) (o:OutD)=>I (k+2) (X1.a.call i n'.a (o.qj.map MsgD.a))) (fun(ob:Nat) (n':NdD) (o:OutD)=>[Res.row xb 73 (NetD.cells X1),Res.vec 27 1 X1.nv X1.cbs.length (X1.cbs.flatMap CP),Res.star ((X1.ns.set i ((zG X1.ns i).put (zG X1.ns i).qd n')).map CorD.dres),vT X1.tv X1.ts,vM X1.wv X1.way,sM X1.way,Res.row b3 68 (MovD.cells m),zBL ob o,vM o.mv o.qj,sM o.qj]) ?_ (fun ob n' o g hΦ=> ?_)
   ·refine zg [0,1,3,4,6] O qM qN (fun w' hw hS=>zC 0 O zT hS (zC 1 O (zQ O) hS (zC 2 O (zH (o:=0) O) hS (zC 3 O (zZ 0 (v:=X1.nv) O O O) hS (zC 4 O zT hS (zC 5 O (y8 (pV 1 O) 1 i O O O V) hS (zC 6 O (x9 (pV 1 O) 1 i 0 (fun _=>O) O O V O) hS (zC 7 O (zH (o:=3) O) hS (zC 8 O (zZ 4 (v:=Vn m.qd) O O O) hS (zC 9 O (kV (c:=((m.qd%256:Nat):Int)) qN O (by rw[wu8];omega) qN) hS (zC 11 O zT hS (zC 12 O (zQ O) hS ?_))))))))))))
    refine zC 13 O (zH (o:=1) O) hS (zC 14 O (zZ 0 (v:=X1.tv) O O O) hS (zC 15 O zT hS (zC 16 O (y8 (pV 2 O) 1 i O O O V) hS (zC 17 O (x9 (pV 2 O) 1 i 0 (fun _=>O) O O V O) hS (zu 10 23 ?_ ?_)))))
    ·refine zm 10 O hw (zy (e:=5) (sz:=1) (vs:=[.int .u8 (m.qd%256:Nat)]) qN O O qR qM O (fun b175=> ?_))
     refine z2 [Res.row xb 73 (NetD.cells X1),Res.vec 27 1 X1.nv X1.cbs.length (X1.cbs.flatMap CP),Res.star (X1.ns.map CorD.dres),vT X1.tv X1.ts,vM X1.wv X1.way,sM X1.way,Res.row b3 68 (MovD.cells m),vY (.slice (some ⟨b175,0,none⟩) 1 1) ([UInt8.ofNat (m.qd%256)]:List UInt8)] (fun w' hw=>by unfold vY;rw[zGC V];exact hw) ?_
     refine zE [0,1,3,4,6] O qM (fun w' hw hS=>zu 18 23 ?_ ?_)
     ·refine zm 18 O hw (a_call O O (fun w' hw=>(zHV X1.ns i (zG X1.cbs i) (.slice (some ⟨b175,0,none⟩) 1 1) ([UInt8.ofNat (m.qd%256)]:List UInt8) (zG X1.ts i) w' V (hX1.cb hi) (hX1.ok hOj hN.2 hi) V qS (hw.give [2] O qM) (hw.rdVec 7 O [2] O O)).mono ?_))
      rintro _ w1 ⟨n'31_,o32_,x33_,at_34_,e35_,rfl,hf19_18,hf19_18_1,hf19_18_2,hf19_18_3,hO⟩
      refine(?_:CL _ _ _ _ _ _ (Own w S [Res.row xb 73 (NetD.cells X1),Res.vec 27 1 X1.nv X1.cbs.length (X1.cbs.flatMap CP),vT X1.tv X1.ts,vM X1.wv X1.way,sM X1.way,Res.row b3 68 (MovD.cells m),vY (.slice (some ⟨b175,0,none⟩) 1 1) ([UInt8.ofNat (m.qd%256)]:List UInt8),Res.star ((X1.ns.set i ((zG X1.ns i).put (zG X1.ns i).qd n'31_)).map CorD.dres),vM o32_.mv o32_.qj,sM o32_.qj,vR o32_.rv o32_.qx,vU o32_.xv o32_.qq])) w1 (hw.qg [2] O hO)
      refine zE [0,1,2,3,5] O qM (fun w' hw hS=>zC 19 O zT hS (zC 20 O (yT (vs:=[Vn at_34_, .agg (OutD.cells o32_).toArray,Vi e35_]) O O) hS (zC 21 O (yT (vs:=[Vn at_34_, .agg (OutD.cells o32_).toArray,Vi e35_]) O O) hS (zC 22 O (yT (vs:=[Vn at_34_, .agg (OutD.cells o32_).toArray,Vi e35_]) O O) hS (zK 23 O hw (yE (v:= .agg #[.slice none 0 0, .bool false, .slice none 0 0, .slice none 0 0]) qN O (fun b12=>zE [0,1,2,3,5] O qM (fun w' hw hS=>zC 24 O yO hS (zK 25 O hw ?_)))))))))
      refine zP (fun w' hw=>Own.qh (i:=8) O hw) (fun hc22_=> ?_)
      refine zP (fun w' hw=>Own.qh (i:=10) O hw) (fun hc23_=> ?_)
      refine zP (fun w' hw=>Own.qh (i:=11) O hw) (fun hc24_=> ?_)
      refine zr 12 O O O (zF hc22_ (zF O (zF hc23_ (zF hc24_ zj)))) O (zE [0,1,2,3,5] O qM (fun w' hw hS=>zC 26 O yO hS (zU ?_)))
      exact⟨b12,n'31_,o32_,⟨O,O,trivial⟩,(by rw[hf19_18_1];exact zGX hC V hI1 hX1 hi V hf19_18),hw.sel [0,1,7,2,3,4,5,12,8,9] O qM⟩
     refine zm 23 O hw (yE (v:= .agg #[.slice none 0 0, .bool false, .slice none 0 0, .slice none 0 0]) qN O (fun b12=>zE [0,1,3,4,6] O qM (fun w' hw hS=>zK 18 O hw (a_call O O (fun w' hw=>(zHV X1.ns i (zG X1.cbs i) (.slice (some ⟨b175,0,none⟩) 1 1) ([UInt8.ofNat (m.qd%256)]:List UInt8) (zG X1.ts i) w' V (hX1.cb hi) (hX1.ok hOj hN.2 hi) V qS (hw.give [2] O qM) (hw.rdVec 7 O [2] O O)).mono ?_)))))
     rintro _ w1 ⟨n'36_,o37_,x38_,at_39_,e40_,rfl,hf19_18,hf19_18_1,hf19_18_2,hf19_18_3,hO⟩
     refine(?_:CL _ _ _ _ _ _ (Own w S [Res.row xb 73 (NetD.cells X1),Res.vec 27 1 X1.nv X1.cbs.length (X1.cbs.flatMap CP),vT X1.tv X1.ts,vM X1.wv X1.way,sM X1.way,Res.row b3 68 (MovD.cells m),vY (.slice (some ⟨b175,0,none⟩) 1 1) ([UInt8.ofNat (m.qd%256)]:List UInt8),Res.row b12 44 [.slice none 0 0, .bool false, .slice none 0 0, .slice none 0 0],Res.star ((X1.ns.set i ((zG X1.ns i).put (zG X1.ns i).qd n'36_)).map CorD.dres),vM o37_.mv o37_.qj,sM o37_.qj,vR o37_.rv o37_.qx,vU o37_.xv o37_.qq])) w1 (hw.qg [2] O hO)
     refine zE [0,1,2,3,5] O qM (fun w' hw hS=>zC 19 O zT hS (zC 20 O (yT (vs:=[Vn at_39_, .agg (OutD.cells o37_).toArray,Vi e40_]) O O) hS (zC 21 O (yT (vs:=[Vn at_39_, .agg (OutD.cells o37_).toArray,Vi e40_]) O O) hS (zC 22 O (yT (vs:=[Vn at_39_, .agg (OutD.cells o37_).toArray,Vi e40_]) O O) hS (zC 24 O yO hS (zK 25 O hw ?_))))))
     refine zP (fun w' hw=>Own.qh (i:=9) O hw) (fun hc25_=> ?_)
     refine zP (fun w' hw=>Own.qh (i:=11) O hw) (fun hc26_=> ?_)
     refine zP (fun w' hw=>Own.qh (i:=12) O hw) (fun hc27_=> ?_)
     refine zr 7 O O O (zF hc25_ (zF O (zF hc26_ (zF hc27_ zj)))) O (zE [0,1,2,3,5] O qM (fun w' hw hS=>zC 26 O yO hS (zU ?_)))
     exact⟨b12,n'36_,o37_,⟨O,O,trivial⟩,(by rw[hf19_18_1];exact zGX hC V hI1 hX1 hi V hf19_18),hw.sel [0,1,8,2,3,4,5,7,9,10] O qM⟩
    refine zm 23 O hw (yE (v:= .agg #[.slice none 0 0, .bool false, .slice none 0 0, .slice none 0 0]) qN O (fun b12=>zE [0,1,3,4,6] O qM (fun w' hw hS=>zK 10 O hw (zy (e:=5) (sz:=1) (vs:=[.int .u8 (m.qd%256:Nat)]) qN O O qR qM O (fun b175=> ?_)))))
    refine z2 [Res.row xb 73 (NetD.cells X1),Res.vec 27 1 X1.nv X1.cbs.length (X1.cbs.flatMap CP),Res.star (X1.ns.map CorD.dres),vT X1.tv X1.ts,vM X1.wv X1.way,sM X1.way,Res.row b3 68 (MovD.cells m),Res.row b12 44 [.slice none 0 0, .bool false, .slice none 0 0, .slice none 0 0],vY (.slice (some ⟨b175,0,none⟩) 1 1) ([UInt8.ofNat (m.qd%256)]:List UInt8)] (fun w' hw=>by unfold vY;rw[zGC V];exact hw) ?_
    refine zE [0,1,3,4,6] O qM (fun w' hw hS=>zK 18 O hw (a_call O O (fun w' hw=>(zHV X1.ns i (zG X1.cbs i) (.slice (some ⟨b175,0,none⟩) 1 1) ([UInt8.ofNat (m.qd%256)]:List UInt8) (zG X1.ts i) w' V (hX1.cb hi) (hX1.ok hOj hN.2 hi) V qS (hw.give [2] O qM) (hw.rdVec 8 O [2] O O)).mono ?_)))
    rintro _ w1 ⟨n'41_,o42_,x43_,at_44_,e45_,rfl,hf19_18,hf19_18_1,hf19_18_2,hf19_18_3,hO⟩
    refine(?_:CL _ _ _ _ _ _ (Own w S [Res.row xb 73 (NetD.cells X1),Res.vec 27 1 X1.nv X1.cbs.length (X1.cbs.flatMap CP),vT X1.tv X1.ts,vM X1.wv X1.way,sM X1.way,Res.row b3 68 (MovD.cells m),Res.row b12 44 [.slice none 0 0, .bool false, .slice none 0 0, .slice none 0 0],vY (.slice (some ⟨b175,0,none⟩) 1 1) ([UInt8.ofNat (m.qd%256)]:List UInt8),Res.star ((X1.ns.set i ((zG X1.ns i).put (zG X1.ns i).qd n'41_)).map CorD.dres),vM o42_.mv o42_.qj,sM o42_.qj,vR o42_.rv o42_.qx,vU o42_.xv o42_.qq])) w1 (hw.qg [2] O hO)
    refine zE [0,1,2,3,5] O qM (fun w' hw hS=>zC 19 O zT hS (zC 20 O (yT (vs:=[Vn at_44_, .agg (OutD.cells o42_).toArray,Vi e45_]) O O) hS (zC 21 O (yT (vs:=[Vn at_44_, .agg (OutD.cells o42_).toArray,Vi e45_]) O O) hS (zC 22 O (yT (vs:=[Vn at_44_, .agg (OutD.cells o42_).toArray,Vi e45_]) O O) hS (zC 24 O yO hS (zK 25 O hw ?_))))))
    refine zP (fun w' hw=>Own.qh (i:=9) O hw) (fun hc28_=> ?_)
    refine zP (fun w' hw=>Own.qh (i:=11) O hw) (fun hc29_=> ?_)
    refine zP (fun w' hw=>Own.qh (i:=12) O hw) (fun hc30_=> ?_)
    refine zr 6 O O O (zF hc28_ (zF O (zF hc29_ (zF hc30_ zj)))) O (zE [0,1,2,3,5] O qM (fun w' hw hS=>zC 26 O yO hS (zU ?_)))
    exact⟨b12,n'41_,o42_,⟨O,O,trivial⟩,(by rw[hf19_18_1];exact zGX hC V hI1 hX1 hi V hf19_18),hw.sel [0,1,8,2,3,4,5,6,9,10] O qM⟩
   have hI20:=hΦ
   have hwl20:(X1.way++o.qj).length≤1000000:=by have h:=(hC.ok _ _ V hI20).wl;unfold NetA.call NetD.a at h;rw[←List.map_append,List.length_map]at h;exact h
   rw[List.length_append]at hwl20
   refine zg [1,3,6,7,8] O qM qN (fun w' hw hS=>zC 0 O zT hS (zC 1 O zT hS (zC 2 O (zQ O) hS (zC 3 O (zH (o:=2) O) hS (zC 5 O (zH (o:=0) O) hS (zC 6 O (zZ 3 (v:=o.mv) O O O) hS (zK 4 O hw (zL 0 (v:=X1.wv) O O O O (zE [1,3,6,7,8] O qM (fun w' hw hS=>zK 7 O hw ?_))))))))))
   refine zP (fun w' hw=>MsgD.c1all (MsgD.rd.star0 9 O hw)) (fun hc34_=> ?_)
   refine z7 (g:=MsgD.cells) (sz:=14) (by':=176) (fun _=>O) (l:=X1.way) (l':=o.qj) hc34_ 4 qN O O O (fun w' hw'=>Vec.sl (Own.holds hw' 8 _ O)) qO qM O (fun v194=>zE [1,3,6,7,8] O qM (fun w' hw hS=>zC 8 O (zQ O) hS (zC 9 O (zH (o:=2) O) hS (zK 10 O hw ?_))))
   refine zP (fun w' hw=>Own.qh (i:=4) O hw) (fun hc35_=> ?_)
   refine zn (cs:=(NetD.cells X1)) 0 O O O hc35_ O (zE [1,3,6,7,8] O qM (fun w' hw hS=>zU ?_))
   exact(yJ O (fun w' hw=>⟨({X1 with ns:=X1.ns.set i ((zG X1.ns i).put (zG X1.ns i).qd n'),ts:=X1.ts,wv:=v194,way:=X1.way++o.qj}:NetD),O,(by rw[NetD.a_call];exact hI20),hX1.upd hi htl1 hX1.ts,hmv.1,hmv.2.1,hmv.2.2,((hw.starApp 5 9 qM O O).sel [0,1,2,3,4,5] O qM)⟩)) _ hw
  refine zB (yQ O O O (zI O (zA (zY O (fun c6=> ?_) (fun c6=> ?_)))))
  ·refine j1 (fun(ob:Nat) (n':NdD) (o:OutD)=>[(0,pt xb),(15,pt ob)]) (fun(ob:Nat) (n':NdD) (o:OutD)=>I (k+2) (X1.a.call i n'.a (o.qj.map MsgD.a))) (fun(ob:Nat) (n':NdD) (o:OutD)=>[Res.row xb 73 (NetD.cells X1),Res.vec 27 1 X1.nv X1.cbs.length (X1.cbs.flatMap CP),Res.star ((X1.ns.set i ((zG X1.ns i).put (zG X1.ns i).qd n')).map CorD.dres),vT X1.tv X1.ts,vM X1.wv X1.way,sM X1.way,Res.row b3 68 (MovD.cells m),zBL ob o,vM o.mv o.qj,sM o.qj]) ?_ (fun ob n' o g hΦ=> ?_)
   ·refine zg [0,1,3,4,6] O qM qN (fun w' hw hS=>zC 0 O zT hS (zC 1 O (zQ O) hS (zC 2 O (zH (o:=0) O) hS (zC 3 O (zZ 0 (v:=X1.nv) O O O) hS (zC 4 O zT hS (zC 5 O (y8 (pV 1 O) 1 i O O O V) hS (zC 6 O (x9 (pV 1 O) 1 i 0 (fun _=>O) O O V O) hS (zC 7 O (zH (o:=3) O) hS (zC 8 O (zZ 4 (v:=Vn m.qd) O O O) hS (zC 9 O (zFg (c:=((m.qd%3:Nat):Int)) O O V O) hS (zC 10 O (kV qN O (zq V) qN) hS (zC 11 O (yq O O (zq V)) hS ?_))))))))))))
    refine zC 12 O (zH (o:=3) O) hS (zC 13 O (zZ 4 (v:=Vn m.qd) O O O) hS (zC 14 O (zQJ (c:=((m.qd / 3:Nat):Int)) O O V (xO (a:=((m.qd / 3:Nat):Int)) V)) hS (zC 15 O zT hS (zC 16 O (zQ O) hS (zC 17 O (zH (o:=0) O) hS (zC 18 O (zZ 0 (v:=X1.nv) O O O) hS (zC 19 O (zAv (pV 1 O) O) hS (zC 20 O (kV qN O (xO V) qN) hS (zC 21 O (zFg (c:=(((m.qd / 3)%X1.cbs.length:Nat):Int)) O O V O) hS (zC 22 O (kV qN O (zq V) qN) hS (zC 23 O (yq O O (zq V)) hS (zC 24 O zT hS ?_))))))))))))
    refine zC 25 O (zQ O) hS (zC 26 O (zH (o:=1) O) hS (zC 27 O (zZ 0 (v:=X1.tv) O O O) hS (zC 28 O zT hS (zC 29 O (y8 (pV 2 O) 1 i O O O V) hS (zC 30 O (x9 (pV 2 O) 1 i 0 (fun _=>O) O O V O) hS (zu 31 36 ?_ ?_))))))
    ·refine zm 31 O hw (a_call O O (fun w' hw=>(zN1 X1.ns i (zG X1.cbs i) (((m.qd%3)+1:Nat):Int) ((((m.qd / 3)%X1.cbs.length)+1:Nat):Int) (zG X1.ts i) w' V (hX1.cb hi) (hX1.ok hOj hN.2 hi) V (hw.give [2] O qM)).mono ?_))
     rintro _ w1 ⟨n'46_,o47_,x48_,at_49_,e50_,rfl,hf22_31,hf22_31_1,hf22_31_2,hf22_31_3,hO⟩
     refine(?_:CL _ _ _ _ _ _ (Own w S [Res.row xb 73 (NetD.cells X1),Res.vec 27 1 X1.nv X1.cbs.length (X1.cbs.flatMap CP),vT X1.tv X1.ts,vM X1.wv X1.way,sM X1.way,Res.row b3 68 (MovD.cells m),Res.star ((X1.ns.set i ((zG X1.ns i).put (zG X1.ns i).qd n'46_)).map CorD.dres),vM o47_.mv o47_.qj,sM o47_.qj,vR o47_.rv o47_.qx,vU o47_.xv o47_.qq])) w1 (hw.qg [2] O hO)
     refine zE [0,1,2,3,5] O qM (fun w' hw hS=>zC 32 O zT hS (zC 33 O (yT (vs:=[Vn at_49_, .agg (OutD.cells o47_).toArray,Vi e50_]) O O) hS (zC 34 O (yT (vs:=[Vn at_49_, .agg (OutD.cells o47_).toArray,Vi e50_]) O O) hS (zC 35 O (yT (vs:=[Vn at_49_, .agg (OutD.cells o47_).toArray,Vi e50_]) O O) hS (zK 36 O hw (yE (v:= .agg #[.slice none 0 0, .bool false, .slice none 0 0, .slice none 0 0]) qN O (fun b15=>zE [0,1,2,3,5] O qM (fun w' hw hS=>zC 37 O yO hS (zK 38 O hw ?_)))))))))
     refine zP (fun w' hw=>Own.qh (i:=7) O hw) (fun hc36_=> ?_)
     refine zP (fun w' hw=>Own.qh (i:=9) O hw) (fun hc37_=> ?_)
     refine zP (fun w' hw=>Own.qh (i:=10) O hw) (fun hc38_=> ?_)
     refine zr 11 O O O (zF hc36_ (zF O (zF hc37_ (zF hc38_ zj)))) O (zE [0,1,2,3,5] O qM (fun w' hw hS=>zC 39 O yO hS (zU ?_)))
     exact⟨b15,n'46_,o47_,⟨O,O,trivial⟩,(by rw[hf22_31_1];exact zK2 hC (hask c6) V hI1 hX1 hi V ⟨by omega,by rw[hcl1];have:=Nat.mod_lt (m.qd / 3) (show 0<N by omega);omega⟩ hf22_31),hw.sel [0,1,6,2,3,4,5,11,7,8] O qM⟩
    refine zm 36 O hw (yE (v:= .agg #[.slice none 0 0, .bool false, .slice none 0 0, .slice none 0 0]) qN O (fun b15=>zE [0,1,3,4,6] O qM (fun w' hw hS=>zK 31 O hw (a_call O O (fun w' hw=>(zN1 X1.ns i (zG X1.cbs i) (((m.qd%3)+1:Nat):Int) ((((m.qd / 3)%X1.cbs.length)+1:Nat):Int) (zG X1.ts i) w' V (hX1.cb hi) (hX1.ok hOj hN.2 hi) V (hw.give [2] O qM)).mono ?_)))))
    rintro _ w1 ⟨n'51_,o52_,x53_,at_54_,e55_,rfl,hf22_31,hf22_31_1,hf22_31_2,hf22_31_3,hO⟩
    refine(?_:CL _ _ _ _ _ _ (Own w S [Res.row xb 73 (NetD.cells X1),Res.vec 27 1 X1.nv X1.cbs.length (X1.cbs.flatMap CP),vT X1.tv X1.ts,vM X1.wv X1.way,sM X1.way,Res.row b3 68 (MovD.cells m),Res.row b15 44 [.slice none 0 0, .bool false, .slice none 0 0, .slice none 0 0],Res.star ((X1.ns.set i ((zG X1.ns i).put (zG X1.ns i).qd n'51_)).map CorD.dres),vM o52_.mv o52_.qj,sM o52_.qj,vR o52_.rv o52_.qx,vU o52_.xv o52_.qq])) w1 (hw.qg [2] O hO)
    refine zE [0,1,2,3,5] O qM (fun w' hw hS=>zC 32 O zT hS (zC 33 O (yT (vs:=[Vn at_54_, .agg (OutD.cells o52_).toArray,Vi e55_]) O O) hS (zC 34 O (yT (vs:=[Vn at_54_, .agg (OutD.cells o52_).toArray,Vi e55_]) O O) hS (zC 35 O (yT (vs:=[Vn at_54_, .agg (OutD.cells o52_).toArray,Vi e55_]) O O) hS (zC 37 O yO hS (zK 38 O hw ?_))))))
    refine zP (fun w' hw=>Own.qh (i:=8) O hw) (fun hc39_=> ?_)
    refine zP (fun w' hw=>Own.qh (i:=10) O hw) (fun hc40_=> ?_)
    refine zP (fun w' hw=>Own.qh (i:=11) O hw) (fun hc41_=> ?_)
    refine zr 6 O O O (zF hc39_ (zF O (zF hc40_ (zF hc41_ zj)))) O (zE [0,1,2,3,5] O qM (fun w' hw hS=>zC 39 O yO hS (zU ?_)))
    exact⟨b15,n'51_,o52_,⟨O,O,trivial⟩,(by rw[hf22_31_1];exact zK2 hC (hask c6) V hI1 hX1 hi V ⟨by omega,by rw[hcl1];have:=Nat.mod_lt (m.qd / 3) (show 0<N by omega);omega⟩ hf22_31),hw.sel [0,1,7,2,3,4,5,6,8,9] O qM⟩
   have hI23:=hΦ
   have hwl23:(X1.way++o.qj).length≤1000000:=by have h:=(hC.ok _ _ V hI23).wl;unfold NetA.call NetD.a at h;rw[←List.map_append,List.length_map]at h;exact h
   rw[List.length_append]at hwl23
   refine zg [1,3,6,7,8] O qM qN (fun w' hw hS=>zC 0 O zT hS (zC 1 O zT hS (zC 2 O (zQ O) hS (zC 3 O (zH (o:=2) O) hS (zC 5 O (zH (o:=0) O) hS (zC 6 O (zZ 3 (v:=o.mv) O O O) hS (zK 4 O hw (zL 0 (v:=X1.wv) O O O O (zE [1,3,6,7,8] O qM (fun w' hw hS=>zK 7 O hw ?_))))))))))
   refine zP (fun w' hw=>MsgD.c1all (MsgD.rd.star0 9 O hw)) (fun hc45_=> ?_)
   refine z7 (g:=MsgD.cells) (sz:=14) (by':=176) (fun _=>O) (l:=X1.way) (l':=o.qj) hc45_ 4 qN O O O (fun w' hw'=>Vec.sl (Own.holds hw' 8 _ O)) qO qM O (fun v242=>zE [1,3,6,7,8] O qM (fun w' hw hS=>zC 8 O (zQ O) hS (zC 9 O (zH (o:=2) O) hS (zK 10 O hw ?_))))
   refine zP (fun w' hw=>Own.qh (i:=4) O hw) (fun hc46_=> ?_)
   refine zn (cs:=(NetD.cells X1)) 0 O O O hc46_ O (zE [1,3,6,7,8] O qM (fun w' hw hS=>zU ?_))
   exact(yJ O (fun w' hw=>⟨({X1 with ns:=X1.ns.set i ((zG X1.ns i).put (zG X1.ns i).qd n'),ts:=X1.ts,wv:=v242,way:=X1.way++o.qj}:NetD),O,(by rw[NetD.a_call];exact hI23),hX1.upd hi htl1 hX1.ts,hmv.1,hmv.2.1,hmv.2.2,((hw.starApp 5 9 qM O O).sel [0,1,2,3,4,5] O qM)⟩)) _ hw
  refine zB (yQ O O O (zI O (zA (zY O (fun c7=> ?_) (fun c7=> ?_)))))
  ·refine j1 (fun(ob:Nat) (n':NdD) (o:OutD)=>[(0,pt xb),(17,pt ob)]) (fun(ob:Nat) (n':NdD) (o:OutD)=>I (k+2) (X1.a.call i n'.a (o.qj.map MsgD.a))) (fun(ob:Nat) (n':NdD) (o:OutD)=>[Res.row xb 73 (NetD.cells X1),Res.vec 27 1 X1.nv X1.cbs.length (X1.cbs.flatMap CP),Res.star ((X1.ns.set i ((zG X1.ns i).put (zG X1.ns i).qd n')).map CorD.dres),vT X1.tv X1.ts,vM X1.wv X1.way,sM X1.way,Res.row b3 68 (MovD.cells m),zBL ob o,vM o.mv o.qj,sM o.qj]) ?_ (fun ob n' o g hΦ=> ?_)
   ·refine zg [0,1,3,4,6] O qM qN (fun w' hw hS=>zC 0 O zT hS (zC 1 O (zQ O) hS (zC 2 O (zH (o:=0) O) hS (zC 3 O (zZ 0 (v:=X1.nv) O O O) hS (zC 4 O zT hS (zC 5 O (y8 (pV 1 O) 1 i O O O V) hS (zC 6 O (x9 (pV 1 O) 1 i 0 (fun _=>O) O O V O) hS (zC 7 O (zH (o:=3) O) hS (zC 8 O (zZ 4 (v:=Vn m.qd) O O O) hS (zC 9 O zT hS (zC 10 O (zQ O) hS (zC 11 O (zH (o:=0) O) hS ?_))))))))))))
    refine zC 12 O (zZ 0 (v:=X1.nv) O O O) hS (zC 13 O (zAv (pV 1 O) O) hS (zC 14 O (kV qN O (xO V) qN) hS (zC 15 O (zFg (c:=((m.qd%X1.cbs.length:Nat):Int)) O O V O) hS (zC 16 O (kV qN O (zq V) qN) hS (zC 17 O (yq O O (zq V)) hS (zC 18 O zT hS (zC 19 O (zQ O) hS (zC 20 O (zH (o:=1) O) hS (zC 21 O (zZ 0 (v:=X1.tv) O O O) hS (zC 22 O zT hS (zC 23 O (y8 (pV 2 O) 1 i O O O V) hS (zC 24 O (x9 (pV 2 O) 1 i 0 (fun _=>O) O O V O) hS ?_))))))))))))
    refine zu 25 29 ?_ ?_
    ·refine zm 25 O hw (a_call O O (fun w' hw=>(zLx X1.ns i (zG X1.cbs i) (((m.qd%X1.cbs.length)+1:Nat):Int) (zG X1.ts i) w' V (hX1.cb hi) (hX1.ok hOj hN.2 hi) V (hw.give [2] O qM)).mono ?_))
     rintro _ w1 ⟨n'56_,o57_,x58_,e59_,rfl,hf25_25,hf25_25_1,hf25_25_2,hf25_25_3,hO⟩
     refine(?_:CL _ _ _ _ _ _ (Own w S [Res.row xb 73 (NetD.cells X1),Res.vec 27 1 X1.nv X1.cbs.length (X1.cbs.flatMap CP),vT X1.tv X1.ts,vM X1.wv X1.way,sM X1.way,Res.row b3 68 (MovD.cells m),Res.star ((X1.ns.set i ((zG X1.ns i).put (zG X1.ns i).qd n'56_)).map CorD.dres),vM o57_.mv o57_.qj,sM o57_.qj,vR o57_.rv o57_.qx,vU o57_.xv o57_.qq])) w1 (hw.qg [2] O hO)
     refine zE [0,1,2,3,5] O qM (fun w' hw hS=>zC 26 O zT hS (zC 27 O (yT (vs:=[.agg (OutD.cells o57_).toArray,Vi e59_]) O O) hS (zC 28 O (yT (vs:=[.agg (OutD.cells o57_).toArray,Vi e59_]) O O) hS (zK 29 O hw (yE (v:= .agg #[.slice none 0 0, .bool false, .slice none 0 0, .slice none 0 0]) qN O (fun b17=>zE [0,1,2,3,5] O qM (fun w' hw hS=>zK 30 O hw ?_)))))))
     refine zP (fun w' hw=>Own.qh (i:=7) O hw) (fun hc47_=> ?_)
     refine zP (fun w' hw=>Own.qh (i:=9) O hw) (fun hc48_=> ?_)
     refine zP (fun w' hw=>Own.qh (i:=10) O hw) (fun hc49_=> ?_)
     refine zr 11 O O O (zF hc47_ (zF O (zF hc48_ (zF hc49_ zj)))) O (zE [0,1,2,3,5] O qM (fun w' hw hS=>zC 31 O yO hS (zU ?_)))
     exact⟨b17,n'56_,o57_,⟨O,O,trivial⟩,(by rw[hf25_25_1];exact zMD hC V hI1 hX1 hi V hf25_25),hw.sel [0,1,6,2,3,4,5,11,7,8] O qM⟩
    refine zm 29 O hw (yE (v:= .agg #[.slice none 0 0, .bool false, .slice none 0 0, .slice none 0 0]) qN O (fun b17=>zE [0,1,3,4,6] O qM (fun w' hw hS=>zK 25 O hw (a_call O O (fun w' hw=>(zLx X1.ns i (zG X1.cbs i) (((m.qd%X1.cbs.length)+1:Nat):Int) (zG X1.ts i) w' V (hX1.cb hi) (hX1.ok hOj hN.2 hi) V (hw.give [2] O qM)).mono ?_)))))
    rintro _ w1 ⟨n'60_,o61_,x62_,e63_,rfl,hf25_25,hf25_25_1,hf25_25_2,hf25_25_3,hO⟩
    refine(?_:CL _ _ _ _ _ _ (Own w S [Res.row xb 73 (NetD.cells X1),Res.vec 27 1 X1.nv X1.cbs.length (X1.cbs.flatMap CP),vT X1.tv X1.ts,vM X1.wv X1.way,sM X1.way,Res.row b3 68 (MovD.cells m),Res.row b17 44 [.slice none 0 0, .bool false, .slice none 0 0, .slice none 0 0],Res.star ((X1.ns.set i ((zG X1.ns i).put (zG X1.ns i).qd n'60_)).map CorD.dres),vM o61_.mv o61_.qj,sM o61_.qj,vR o61_.rv o61_.qx,vU o61_.xv o61_.qq])) w1 (hw.qg [2] O hO)
    refine zE [0,1,2,3,5] O qM (fun w' hw hS=>zC 26 O zT hS (zC 27 O (yT (vs:=[.agg (OutD.cells o61_).toArray,Vi e63_]) O O) hS (zC 28 O (yT (vs:=[.agg (OutD.cells o61_).toArray,Vi e63_]) O O) hS (zK 30 O hw ?_))))
    refine zP (fun w' hw=>Own.qh (i:=8) O hw) (fun hc50_=> ?_)
    refine zP (fun w' hw=>Own.qh (i:=10) O hw) (fun hc51_=> ?_)
    refine zP (fun w' hw=>Own.qh (i:=11) O hw) (fun hc52_=> ?_)
    refine zr 6 O O O (zF hc50_ (zF O (zF hc51_ (zF hc52_ zj)))) O (zE [0,1,2,3,5] O qM (fun w' hw hS=>zC 31 O yO hS (zU ?_)))
    exact⟨b17,n'60_,o61_,⟨O,O,trivial⟩,(by rw[hf25_25_1];exact zMD hC V hI1 hX1 hi V hf25_25),hw.sel [0,1,7,2,3,4,5,6,8,9] O qM⟩
   have hI26:=hΦ
   have hwl26:(X1.way++o.qj).length≤1000000:=by have h:=(hC.ok _ _ V hI26).wl;unfold NetA.call NetD.a at h;rw[←List.map_append,List.length_map]at h;exact h
   rw[List.length_append]at hwl26
   refine zg [1,3,6,7,8] O qM qN (fun w' hw hS=>zC 0 O zT hS (zC 1 O zT hS (zC 2 O (zQ O) hS (zC 3 O (zH (o:=2) O) hS (zC 5 O (zH (o:=0) O) hS (zC 6 O (zZ 3 (v:=o.mv) O O O) hS (zK 4 O hw (zL 0 (v:=X1.wv) O O O O (zE [1,3,6,7,8] O qM (fun w' hw hS=>zK 7 O hw ?_))))))))))
   refine zP (fun w' hw=>MsgD.c1all (MsgD.rd.star0 9 O hw)) (fun hc56_=> ?_)
   refine z7 (g:=MsgD.cells) (sz:=14) (by':=176) (fun _=>O) (l:=X1.way) (l':=o.qj) hc56_ 4 qN O O O (fun w' hw'=>Vec.sl (Own.holds hw' 8 _ O)) qO qM O (fun v283=>zE [1,3,6,7,8] O qM (fun w' hw hS=>zC 8 O (zQ O) hS (zC 9 O (zH (o:=2) O) hS (zK 10 O hw ?_))))
   refine zP (fun w' hw=>Own.qh (i:=4) O hw) (fun hc57_=> ?_)
   refine zn (cs:=(NetD.cells X1)) 0 O O O hc57_ O (zE [1,3,6,7,8] O qM (fun w' hw hS=>zU ?_))
   exact(yJ O (fun w' hw=>⟨({X1 with ns:=X1.ns.set i ((zG X1.ns i).put (zG X1.ns i).qd n'),ts:=X1.ts,wv:=v283,way:=X1.way++o.qj}:NetD),O,(by rw[NetD.a_call];exact hI26),hX1.upd hi htl1 hX1.ts,hmv.1,hmv.2.1,hmv.2.2,((hw.starApp 5 9 qM O O).sel [0,1,2,3,4,5] O qM)⟩)) _ hw
  exact yc (yJ O (fun w' hw=>⟨X1,O,hC.up _ _ hI1,hX1,hmv.1,hmv.2.1,hmv.2.2,hw.sel [0,1,2,3,4,5] O qM⟩))
end Go.Proofs.YtkkeknmkipkbmaaGreat
