import Derived.Test.YtkkeknmkipkbmaaGreatFwWk
set_option linter.unusedSectionVars false
set_option linter.unusedSimpArgs false
set_option linter.unusedVariables false
set_option maxRecDepth 10000
namespace Go.Proofs.YtkkeknmkipkbmaaGreat
open Go Go.Sc Go.Proofs
structure NetA where
  nodes:List NodA
  way:List MsgA
def NetA.call(X:NetA)(i:Nat)(n:NodA)(ms:List MsgA):NetA:=⟨X.nodes.set i n,X.way++ms⟩
instance:Inhabited NodA:=⟨⟨default,default,[],none,[]⟩⟩
def aN(i:Nat):StA:={id:=(i:Int)+1,nodes:=0,voters:=0,edges:=0,rho:=0,base:=10,spread:=9,beat:=3,disk:=0,post:=0,keep:=0}
def xU(N:Nat):List Int:=(List.range N).map fun i:Nat=>((i:Nat):Int)+1
structure MsgA.net(N:Nat)(m:MsgA):Prop where
  dst:1≤m.dst∧m.dst≤N
  kind:m.kind≠7∧m.kind≠8
  nums:(m.term≤4611686018427387904∧m.index≤4611686018427387904)∧(m.ql≤4611686018427387904∧m.qc≤4611686018427387904)∧m.round≤4611686018427387904
  qm:m.qm.length≤8∧∀ e∈m.qm,e.ok
  conf:m.conf=⟨[],[]⟩∧m.data=[]
structure NetOk(N:Nat)(X:NetA):Prop where
  len:X.nodes.length=N
  fit:∀ i,i<N→(zG X.nodes i).fit (aN i) (xU N)
  way:∀ m∈X.way,m.net N
  wl:X.way.length≤1000000
structure Clo(N:Nat)(I:Nat→NetA→Prop):Prop where
  ok:∀ k X,k≤2000→I k X→NetOk N X
  up:∀ k X,I k X→I (k+1) X
  adv:∀ k X i now dr n x,k≤2000→I k X→i<N→0≤now∧now≤2000000000000→dr<18446744073709551616→(n,x)=y6 (aN i) (xU N) now dr (zG X.nodes i)→I (k+1) (X.call i n x.ms)
  rcv:∀ k X i now dr m n x,k≤2000→I k X→i<N→0≤now∧now≤2000000000000→dr<18446744073709551616→m∈X.way→m.dst=(i:Int)+1→(n,x)=zBJ (aN i) (xU N) now dr m (zG X.nodes i)→I (k+1) (X.call i n x.ms)
  prp:∀ k X i now data n x,k≤2000→I k X→i<N→0≤now∧now≤2000000000000→data.length=1→(n,x)=ky (aN i) (xU N) data now (zG X.nodes i)→I (k+1) (X.call i n x.ms)
  chg:∀ k X i now kind id n x,k≤2000→I k X→i<N→0≤now∧now≤2000000000000→1≤id∧id≤(N:Int)→j9 (aN i) (xU N) kind id now (zG X.nodes i) n x→I (k+1) (X.call i n x.ms)
  giv:∀ k X i now to n x,k≤2000→I k X→i<N→0≤now∧now≤2000000000000→(n,x)=zC7 (aN i) (xU N) to now (zG X.nodes i)→I (k+1) (X.call i n x.ms)
  sub:∀ k X way,I k X→way.Sublist X.way→I k ⟨X.nodes,way⟩
structure NetD where
  nv:Value
  cbs:List Nat
  ns:List CorD
  tv:Value
  ts:List Int
  wv:Value
  way:List MsgD
  mb:Nat
  sv:Value
  safe:List EntD
def NetD.cells(x:NetD):List Value:=[x.nv,x.tv,x.wv, .map (some x.mb),x.sv]
def NetD.a(X:NetD):NetA:=⟨X.ns.map fun c=>c.n.a,X.way.map MsgD.a⟩
structure NetD.st(N:Nat)(X:NetD):Prop where
  len:X.ns.length=N
  cbs:X.cbs=X.ns.map CorD.cb
  tsl:X.ts.length=N
  ts:∀ t∈X.ts,0≤t∧t≤1001000000000
  con:∀ i,i<N→(zG X.ns i).a=aN i∧(zG X.ns i).b.vs=xU N
structure MovD where
  kind:Int
  k:Int
  t:Int
  qd:Nat
  ask:Int
def MovD.cells(x:MovD):List Value:=[Vi x.kind,Vi x.k,Vi x.t,Vn x.qd,Vi x.ask]
structure MovD.ok(m:MovD):Prop where
  k: -9223372036854775808≤m.k∧m.k≤9223372036854775807
  t: -9223372036854775808≤m.t∧m.t≤9223372036854775807
  qd:m.qd<18446744073709551616
def zB8(now t:Int):Int:=if(0<t∧t<1000000)∧now<1000000000000 then now+t else now
theorem zCp{N:Nat}{m:MsgD}(h:m.a.net N):m.wf:=by
  obtain⟨⟨h1,h2⟩,⟨h3,h4⟩,h5⟩:=h.nums
  have hc:=h.conf.1
  have hl:m.qm.length≤8:=by have:=h.qm.1;unfold MsgD.a at this;rwa [List.length_map]at this
  have hd:∀ e∈m.qm,e.toEntA.ok:=fun e he=>h.qm.2 _ (List.mem_map_of_mem he)
  have hv:m.conf.vs=[]:=congrArg ConfA.vs hc
  have hw:m.conf.ls=[]:=congrArg ConfA.ls hc
  have hda:m.data=[]:=h.conf.2
  have key:∀ l:List EntD,(∀ e∈l,e.toEntA.ok)→(l.map fun e=>e.data.length).sum≤4096*l.length:=by
    intro l
    induction l with
    |nil=>intro _;simp
    |cons e l ih=>
      intro q
      have h6:=(q e qP).1.2.2.2
      have h7:=ih fun x hx=>q x (List.mem_cons_of_mem _ hx)
      simp only[List.map_cons,List.sum_cons,List.length_cons];omega
  have:=key m.qm hd
  exact⟨by show m.a.term<_;omega,by show m.a.index<_;omega,by show m.a.ql<_;omega,by show m.a.qc<_;omega,by show m.a.round<_;omega,by omega,fun e he=>⟨by have:=(hd e he).1.2.1.1;omega,by have:=(hd e he).1.2.1.2;omega,by have:=(hd e he).1.2.2.2;omega⟩,⟨by rw[hv];exact Nat.zero_le _,by rw[hw];exact Nat.zero_le _⟩,⟨by rw[hv];exact Nat.zero_le _,by rw[hw];exact Nat.zero_le _⟩,by rw[hda];exact Nat.zero_le _,by omega⟩
theorem NetD.at_{X:NetD}{i:Nat}(hi:i<X.ns.length):zG X.a.nodes i=(zG X.ns i).n.a:=kc hi
theorem zO2{N i:Nat}(hi:i<N)(hN:N≤5):(aN i).ok:=⟨by show 1≤(i:Int)+1∧(i:Int)+1≤16;omega,by show 0≤(0:Int)∧(0:Int)≤_;omega,by show 1≤(10:Int)∧(10:Int)≤_;omega,by show 1≤(9:Int)∧(9:Int)≤_;omega,by show 1≤(3:Int)∧(3:Int)≤_;omega⟩
theorem zCG{N:Nat}:(xU N).length=N:=by unfold xU;rw[List.length_map,List.length_range]
theorem NetD.st.ok{N:Nat}{X:NetD}(h:X.st N)(hO:NetOk N X.a)(hN:N≤5){i:Nat}(hi:i<N):(zG X.ns i).ok:=by
  obtain⟨h1,h2⟩:=h.con i hi
  have h3:=hO.fit i hi
  rw[NetD.at_ (by rw[h.len];exact hi)]at h3
  exact⟨by rw[h1];exact zO2 hi hN,by rw[h2,zCG];omega,by rw[h1,h2];exact h3⟩
theorem NetD.st.cb{N:Nat}{X:NetD}(h:X.st N){i:Nat}(hi:i<N):(zG X.ns i).cb=zG X.cbs i:=by rw[h.cbs,kc (by rw[h.len];exact hi)]
theorem NetD.st.upd{N:Nat}{X:NetD}(h:X.st N){i dr:Nat}{n:NdD}{ts:List Int}{wv:Value}{way:List MsgD}(hi:i<N)(h1:ts.length=N)(h2:∀ t∈ts,0≤t∧t≤1001000000000):({X with ns:=X.ns.set i ((zG X.ns i).put dr n),ts:=ts,wv:=wv,way:=way}:NetD).st N:=by
  have hl:=h.len
  refine⟨by show(X.ns.set i _).length=N;rw[List.length_set,hl],?_,h1,h2,?_⟩
  · show X.cbs=(X.ns.set i _).map CorD.cb
    rw[h.cbs,List.map_set,show((zG X.ns i).put dr n).cb=zG (X.ns.map CorD.cb) i by rw[kc V];rfl]
    refine(zCO (by rw[List.length_set]) fun k hk=> ?_).symm
    rw[xK]
    rw[List.length_set]at hk
    split
    · rename_i q;rw[q.1]
    rfl
  intro j hj
  show(zG (X.ns.set i _) j).a=_∧(zG (X.ns.set i _) j).b.vs=_
  rw[xK]
  split
  · rename_i q;rw[q.1];exact h.con i hi
  exact h.con j hj
theorem NetD.a_call{X:NetD}{i dr:Nat}{n:NdD}{ts:List Int}{wv:Value}{way ms:List MsgD}:({X with ns:=X.ns.set i ((zG X.ns i).put dr n),ts:=ts,wv:=wv,way:=way++ms}:NetD).a=⟨X.a.nodes.set i n.a,way.map MsgD.a++ms.map MsgD.a⟩:=by
  unfold NetD.a CorD.put
  simp only[List.map_set,List.map_append]
theorem zLa{now t:Int}(h:0≤now∧now≤1001000000000):0≤zB8 now t∧zB8 now t≤1001000000000:=by unfold zB8;split<;>omega
theorem zNF{ts:List Int}{i:Nat}{x:Int}(h:∀ t∈ts,0≤t∧t≤1001000000000)(hx:0≤x∧x≤1001000000000):∀ t∈ts.set i x,0≤t∧t≤1001000000000:=by
  intro t ht
  rcases List.mem_or_eq_of_mem_set ht with h1|h1
  · exact h t h1
  rw[h1];exact hx
theorem zLT(now t:Int)(w:World)(hn:0≤now∧now≤1001000000000):Rets Tryz.prog 51 #[Vi now,Vi t] w fun u_ w'=>u_=Vi (zB8 now t)∧Own w [] [] w':=by
  refine zW Tryz.func51 O Tryz.ntmps51 (Own.start w) ?_
  refine zB (zI O (zA (zN (zB (zD O (yz O O O (zD O (yO (q:=0<t) 2 2 [9,8] (t<1000000) O O O O O O trivial O (fun h1_2=> ?_) (fun g1_5=> ?_)))))))))
  ·refine zS O (gT h1_2) (zD O (zS O (gT h1_2) (yH O O O ?_)))
   exact yP O (fun _ hw=>hw)
  refine zD O (yO (q:=(0<t)∧(t<1000000)) 2 6 [13,12] (now<1000000000000) O O O O O O trivial O (fun h1_6=> ?_) (fun g1_9=> ?_))
  ·refine zS O (gT h1_6) (zD O (zS O (gT h1_6) (yH O O O ?_)))
   exact yP O (fun _ hw=>hw)
  refine zA (zY O (fun c1=> ?_) (fun c1=> ?_))
  ·refine zB (zD O (zD O (zr O O (zu V) O (zI O (zA ?_)))))
   exact zT (z5 (v:=Vi (now+t)) O O (fun w' hw=>⟨(by unfold zB8;rw[if_pos c1]),hw.drop⟩))
  refine zO (zB (zD O (zI O (zA ?_))))
  exact zT (z5 (v:=Vi now) O O (fun w' hw=>⟨(by unfold zB8;rw[if_neg c1]),hw.drop⟩))
theorem zMF{l:List MsgD}{k:Nat}:(((l.take k).drop 0)++l.drop (k+1)).Sublist l:=by
  rw[List.drop_zero]
  have h:l.take k++l.drop k=l:=List.take_append_drop k l
  have h2:(l.take k++l.drop (k+1)).Sublist (l.take k++l.drop k):=by
    refine List.Sublist.append (List.Sublist.refl _) ?_
    rw[←List.drop_drop]
    exact List.drop_sublist _ _
  rwa [h]at h2
section
variable {N k:Nat} {I:Nat→NetA→Prop} {X:NetD}
theorem zKh(hC:Clo N I)(hk:k≤2000)(hI:I k X.a)(hX:X.st N){i dr:Nat}(hi:i<N){now:Int}(hn:0≤now∧now≤2000000000000)(hd:dr<18446744073709551616){n:NdD}{x:OutA}
    (h:(n.a,x)=y6 (zG X.ns i).a (zG X.ns i).b.vs now dr (zG X.ns i).n.a):I (k+1) (X.a.call i n.a x.ms):=by
  rw[(hX.con i hi).1,(hX.con i hi).2,←NetD.at_ (by rw[hX.len];exact hi)]at h
  exact hC.adv _ _ _ _ _ _ _ hk hI hi hn hd h
theorem zF5(hC:Clo N I)(hk:k+1≤2000)(hI:I (k+1) X.a)(hX:X.st N){i:Nat}(hi:i<N){now:Int}(hn:0≤now∧now≤2000000000000){n:NdD}{x:OutA}{b:UInt8}
    (h:(n.a,x)=ky (zG X.ns i).a (zG X.ns i).b.vs [b] now (zG X.ns i).n.a):I (k+2) (X.a.call i n.a x.ms):=by
  rw[(hX.con i hi).1,(hX.con i hi).2,←NetD.at_ (by rw[hX.len];exact hi)]at h
  exact hC.prp _ _ _ _ _ _ _ hk hI hi hn O h
theorem zK3(hC:Clo N I)(hk:k+1≤2000)(hI:I (k+1) X.a)(hX:X.st N){i:Nat}(hi:i<N){now to:Int}(hn:0≤now∧now≤2000000000000){n:NdD}{x:OutA}
    (h:(n.a,x)=zC7 (zG X.ns i).a (zG X.ns i).b.vs to now (zG X.ns i).n.a):I (k+2) (X.a.call i n.a x.ms):=by
  rw[(hX.con i hi).1,(hX.con i hi).2,←NetD.at_ (by rw[hX.len];exact hi)]at h
  exact hC.giv _ _ _ _ _ _ _ hk hI hi hn h
theorem zJO(hC:Clo N I)(hk:k+1≤2000)(hI:I (k+1) X.a)(hX:X.st N){i:Nat}(hi:i<N){now kind id:Int}(hn:0≤now∧now≤2000000000000)(hid:1≤id∧id≤(N:Int)){n:NdD}{x:OutA}
    (h:j9 (zG X.ns i).a (zG X.ns i).b.vs kind id now (zG X.ns i).n.a n.a x):I (k+2) (X.a.call i n.a x.ms):=by
  rw[(hX.con i hi).1,(hX.con i hi).2,←NetD.at_ (by rw[hX.len];exact hi)]at h
  exact hC.chg _ _ _ _ _ _ _ _ hk hI hi hn hid h
theorem zG1{m:MsgD}{r a b c:Value}{es:List EntD}(h:es.map EntD.toEntA=m.qm.map EntD.toEntA):(MsgD.mk m.kind m.src m.dst m.term m.index m.ql m.qc m.round m.flag r es ⟨a,m.conf.vs,b,m.conf.ls⟩ m.off c m.data).a=m.a:=by
  unfold MsgD.a;rw[h];rfl
theorem zEJ{m:MsgD}{r a b c:Value}{es:List EntD}(h:es.map EntD.toEntA=m.qm.map EntD.toEntA)(q:m.a.net N):(MsgD.mk m.kind m.src m.dst m.term m.index m.ql m.qc m.round m.flag r es ⟨a,m.conf.vs,b,m.conf.ls⟩ m.off c m.data).a.net N:=by rw[zG1 h];exact q
theorem zGn(hC:Clo N I)(hk:k≤2000)(hI:I k X.a)(hX:X.st N){dr q:Nat}{now:Int}(hi:((zG X.way q).dst - 1).toNat<N)(hn:0≤now∧now≤2000000000000)(hd:dr<18446744073709551616){n:NdD}{x:OutA}{m:MsgD}{o:OutD}{way:List MsgD}(hq:q<X.way.length)(h1:1≤(zG X.way q).dst)(hm:m.a=(zG X.way q).a)
    (h:(n.a,x)=zBJ (zG X.ns ((zG X.way q).dst - 1).toNat).a (zG X.ns ((zG X.way q).dst - 1).toNat).b.vs now dr m.a (zG X.ns ((zG X.way q).dst - 1).toNat).n.a) (ho:o.qk.map MsgD.a=x.ms) (hs:way.Sublist X.way):
    I (k+1) ⟨X.a.nodes.set ((zG X.way q).dst - 1).toNat n.a,way.map MsgD.a++o.qk.map MsgD.a⟩:=by
  rw[(hX.con _ hi).1,(hX.con _ hi).2,←NetD.at_ (by rw[hX.len];exact hi),hm]at h
  have h2:=hC.rcv k X.a _ now dr _ n.a x hk hI hi hn hd (List.mem_map_of_mem (f:=MsgD.a) (zd hq)) (by show(zG X.way q).dst=_;omega) h
  rw[ho]
  exact hC.sub _ _ _ h2 (List.Sublist.append (hs.map MsgD.a) (List.Sublist.refl _))
end
theorem zM1{S:List Nat}(N k:Nat)(I:Nat→NetA→Prop)(xb:Nat)(X:NetD)(m:MovD)(w:World)(hC:Clo N I)(hk:k+3≤2000)(hN:1≤N∧N≤5)(hI:I k X.a)(hX:X.st N)(hm:m.ok)(hin:Own w S [Res.row xb 73 (NetD.cells X),Res.vec 27 1 X.nv X.cbs.length (X.cbs.flatMap CP),Res.star (X.ns.map CorD.dres),vT X.tv X.ts,vM X.wv X.way,sM X.way] w):Rets Tryz.prog 19 #[pt xb, .agg (MovD.cells m).toArray] w fun u_ w'=>∃ (X':NetD),u_= .tuple #[]∧I (k+2) X'.a∧X'.st N∧X'.mb=X.mb∧X'.sv=X.sv∧X'.safe=X.safe∧Own w S [Res.row xb 73 (NetD.cells X'),Res.vec 27 1 X'.nv X'.cbs.length (X'.cbs.flatMap CP),Res.star (X'.ns.map CorD.dres),vT X'.tv X'.ts,vM X'.wv X'.way,sM X'.way] w':=by
  have hOk:=hC.ok k _ V hI
  have hwl:X.way.length≤1000000:=by have h:=hOk.wl;unfold NetD.a at h;rwa [List.length_map]at h
  have hmk:=hm.k
  have hmd:=hm.qd
  have hcl:X.cbs.length=N:=by rw[hX.cbs,List.length_map,hX.len]
  have htl:=hX.tsl
  have hnl:=hX.len
  refine zW Tryz.func19 O Tryz.ntmps19 hin ?_
  refine zB (z4 O O (fun b3=>zA (zB (zJ (o:=1) O O (zL 6 (v:=Vi m.k) O O O O (zI O (zA (yu (fun(aq:Nat)=>[(0,pt xb),(3,pt b3),(4,Vj aq)]) (fun(aq:Nat)=>aq≤9223372036854775807) (fun(aq:Nat)=>[Res.row xb 73 (NetD.cells X),Res.vec 27 1 X.nv X.cbs.length (X.cbs.flatMap CP),Res.star (X.ns.map CorD.dres),vT X.tv X.ts,vM X.wv X.way,sM X.way,Res.row b3 68 (MovD.cells m)]) ?_ (fun aq g hΦ=> ?_)))))))))
  ·refine zB (zD O (yH O O O (zA (zY O (fun c1=> ?_) (fun c1=> ?_)))))
   ·refine zR (zI O ?_)
    exact ze (fun w' hw=>⟨0,⟨O,O,O,trivial⟩,V,hw⟩)
   exact yd (fun w' hw=>⟨m.k.toNat,⟨O,O,(by show Value.int .i64 _=Value.int .i64 _;congr 1;omega),trivial⟩,V,hw⟩)
  refine zN (zB (zJ (o:=0) O O (zL 6 (v:=Vi m.kind) O O O O (kE O O O (zD O (yO (q:=1≤m.kind) 3 3 [29,28,27] (m.kind≤3) O O O O O O trivial O (fun h4_3=> ?_) (fun g4_7=> ?_)))))))
  ·refine zS O (gT h4_3) (zJ (o:=0) O O (zS O (gT h4_3) (zL 6 (v:=Vi m.kind) O O O O (zS O (gT h4_3) (xk O O O ?_)))))
   exact yP O (fun _ hw=>hw)
  refine zD O (yO (q:=(1≤m.kind)∧(m.kind≤3)) 6 8 [37,36,35,34,33,32] (0<((X.way.length:Nat):Int)) O O O O O O trivial O (fun h4_8=> ?_) (fun g4_15=> ?_))
  ·refine zS O (gT h4_8) (zD O (zS O (gT h4_8) (zb O O (zS O (gT h4_8) (zJ (o:=2) O O (zS O (gT h4_8) (zL 0 (v:=X.wv) O O O O (zS O (gT h4_8) (zq (pV 4 O) O O (zS O (gT h4_8) (yz O O O ?_)))))))))))
   exact yP O (fun _ hw=>hw)
  refine zA (zY O (fun c2=> ?_) (fun c2=> ?_))
  ·refine yu (fun(q:Nat)=>[(0,pt xb),(3,pt b3),(5,Vj q)]) (fun(q:Nat)=>q<X.way.length) (fun(q:Nat)=>[Res.row xb 73 (NetD.cells X),Res.vec 27 1 X.nv X.cbs.length (X.cbs.flatMap CP),Res.star (X.ns.map CorD.dres),vT X.tv X.ts,vM X.wv X.way,sM X.way,Res.row b3 68 (MovD.cells m)]) ?_ (fun q g hΦ=> ?_)
   ·refine zR (zD O (zD O (zb O O (zJ (o:=2) O O (zL 0 (v:=X.wv) O O O O (zq (pV 4 O) O O (zKQ (c:=((aq%X.way.length:Nat):Int)) O O V O O (zI O ?_))))))))
    exact ze (fun w' hw=>⟨aq%X.way.length,⟨O,O,O,trivial⟩,(Nat.mod_lt _ V),hw⟩)
   have hkk:=hΦ
   refine zB (zD O (zb O O (zJ (o:=2) O O (zL 0 (v:=X.wv) O O O O (zD O (zh (pV 4 O) 14 q O O O V O (x9 (pV 4 O) 14 q (off:=xM X.wv+q*14) (fun _=>O) O O V O (yE (v:= .agg #[Vi 0,Vi 0,Vi 0,Vn 0,Vn 0,Vn 0,Vn 0,Vn 0, .bool false, .slice none 0 0, .slice none 0 0, .slice none 0 0,Vi 0, .slice none 0 0]) qM O (fun b6=> ?_)))))))))
   refine zP (fun w' hw=>MsgD.c1all (MsgD.rd.star0 5 O hw)) (fun hca=> ?_)
   refine zP (fun w' hw=>Sl.cell1 (Rd.φ (MsgD.rd.star0 5 O hw _ (zd (l:=X.way) (j:=q) V)).ev)) (fun hc1_=> ?_)
   refine zP (fun w' hw=>Sl.cell1 (Rd.φ (MsgD.rd.star0 5 O hw _ (zd (l:=X.way) (j:=q) V)).dv)) (fun hc2_=> ?_)
   refine zp 7 O O O (hca _ (zd hkk)) O (zA (jw (fun(wv':Value) (way':List MsgD)=>[(0,pt xb),(3,pt b3),(6,pt b6)]) (fun(wv':Value) (way':List MsgD)=>way'.Sublist X.way) (fun(wv':Value) (way':List MsgD)=>[Res.row xb 73 (NetD.cells ({X with wv:=wv',way:=way'}:NetD)),Res.vec 27 1 X.nv X.cbs.length (X.cbs.flatMap CP),Res.star (X.ns.map CorD.dres),vT X.tv X.ts,vM wv' way',sM X.way,Res.row b3 68 (MovD.cells m),Res.row b6 59 (MsgD.cells (zG X.way q))]) ?_ (fun wv' way' g hΦ=> ?_)))
   ·refine zB (zJ (o:=0) O O (zL 6 (v:=Vi m.kind) O O O O (xa O O O (zA (zY O (fun c3=> ?_) (fun c3=> ?_))))))
    ·refine zB (zy (e:=59) (sz:=14) (vs:=[]) qM O O qX qL O (fun b56=>zD O (zb O O (zJ (o:=2) O O (zL 0 (v:=X.wv) O O O O (zD O (kq (pV 4 O) 14 0 q qM O O ⟨_,O⟩ V V O (z8 (g:=MsgD.cells) (sz:=14) (by':=176) (fun _=>O) (l:=[]) (l':=((X.way.take q).drop 0)) (fun x hx=>hca x (List.mem_of_mem_take (List.mem_of_mem_drop hx))) 8 qM O O O (fun w' hw'=>Sl.subL_f (g:=MsgD.cells) (xs:=X.way) (sz:=14) (fun _=>O) ((fun w' hw'=>Vec.sl (Own.holds hw' 4 _ O)) w' hw') (l:=0) (h:=q) V V) qN qL O (fun v63=>zI O (zA (zR (zD O ?_))))))))))))
     refine zD O (zD O (zb O O (zJ (o:=2) O O (zL 0 (v:=X.wv) O O O O (zD O (zr O O (zu V) O (kq (pV 4 O) 14 (q+1) X.way.length qM O ⟨_,O⟩ O V V O (z8 (g:=MsgD.cells) (sz:=14) (by':=176) (fun _=>O) (l:=((X.way.take q).drop 0)) (l':=(X.way.drop (q+1))) (fun x hx=>hca x (List.mem_of_mem_drop hx)) 8 qM O O O (fun w' hw'=>Sl.dropL_f (g:=MsgD.cells) (xs:=X.way) (sz:=14) (fun _=>O) ((fun w' hw'=>Vec.sl (Own.holds hw' 4 _ O)) w' hw') (l:=q+1) V) qN qL O (fun v73=>zb O O (zJ (o:=2) O O ?_))))))))))
     refine zP (fun w' hw=>Own.qh (i:=8) O hw) (fun hc3_=> ?_)
     refine zn (cs:=(NetD.cells X)) 0 O O O hc3_ O ?_
     exact ze (fun w' hw=>⟨v73,((X.way.take q).drop 0)++(X.way.drop (q+1)),⟨O,O,O,trivial⟩,zMF,hw.sel [0,1,2,3,8,5,6,7] O qL⟩)
    exact yd (fun w' hw=>⟨X.wv,X.way,⟨O,O,O,trivial⟩,List.Sublist.refl _,hw⟩)
   have hsub:=hΦ
   have hsl:=hsub.length_le
   refine zN (zB (zJ (o:=0) O O (zL 6 (v:=Vi m.kind) O O O O (xa O O O (zA (zY O (fun c4=> ?_) (fun c4=> ?_)))))))
   ·have hQ:=hOk.way _ (List.mem_map_of_mem (f:=MsgD.a) (zd hkk))
    have hqd:1≤(zG X.way q).dst∧(zG X.way q).dst≤N:=hQ.dst
    have hqi:((zG X.way q).dst - 1).toNat<N:=by omega
    have hti:=hX.ts _ (zd (show((zG X.way q).dst - 1).toNat<X.ts.length by omega))
    have hqk:(zG X.way q).kind≠7∧(zG X.way q).kind≠8:=hQ.kind
    refine zB (zJ (o:=2) O O (zL 7 (v:=Vi ((zG X.way q).dst)) O O O O (x5 O O (zu V) O (zI O (zA (zMY (L':=[Res.any (fun z_=>Res.row xb 73 [X.nv,X.tv,z_, .map (some X.mb),X.sv]) [xb],Res.vec 27 1 X.nv X.cbs.length (X.cbs.flatMap CP),vT X.tv X.ts,Res.row b3 68 (MovD.cells m),Res.row b6 59 (MsgD.cells (zG X.way q))]) (fun w' hw=>hw.weak [0,1,3,6,7] (wv') O qL O) (fun w' hw hS=>zC 0 O zU hS (zC 1 O zU hS (zC 2 O (zQ O) hS (zC 3 O (zH (o:=2) O) hS (zC 5 O zU hS (zC 6 O (zQ O) hS ?_))))))))))))
    refine zC 7 O (zH (o:=0) O) hS (zC 8 O (zKY 0 (v:=X.nv) (r:=fun z_=>Res.row xb 73 [X.nv,X.tv,z_, .map (some X.mb),X.sv]) O O (fun _=>O) (fun _=>O)) hS (zC 9 O zU hS (zC 10 O (xV (pV 1 O) 1 ((((zG X.way q).dst) - 1).toNat) O O V V) hS (zC 11 O (kU (pV 1 O) 1 ((((zG X.way q).dst) - 1).toNat) 0 (fun _=>O) O O V O) hS (zC 12 O (xy (cs:=(MsgD.cells (zG X.way q))) 4 O O) hS (zC 14 O zU hS (zC 15 O (zQ O) hS (zC 16 O (zH (o:=1) O) hS (zC 17 O (zKY 0 (v:=X.tv) (r:=fun z_=>Res.row xb 73 [X.nv,X.tv,z_, .map (some X.mb),X.sv]) O O (fun _=>O) (fun _=>O)) hS (zC 18 O zU hS (zC 19 O (xV (pV 2 O) 1 ((((zG X.way q).dst) - 1).toNat) O O V V) hS (zC 20 O (kU (pV 2 O) 1 ((((zG X.way q).dst) - 1).toNat) 0 (fun _=>O) O O V O) hS ?_))))))))))))
    refine zC 21 O (zH (o:=3) O) hS (zC 22 O (za 3 (v:=Vn m.qd) O O O) hS (zw 4 13 ?_ ?_))
    ·refine zm 4 O hw (zL 0 (v:=wv') O O O O (xZ (fun w' hw=>hw.weak [0,1,3,6,7] (wv') O qL O) (fun w' hw hS=>zK 13 O hw (a_call O O (fun w' hw=>(zFV (zG X.way q) w' (zCp hQ) (MsgD.rd.star0 5 O hw _ (zd V))).mono ?_)))))
     rintro _ w1 ⟨r3_,es4_,a5_,b6_,c7_,rfl,hf12_13,hO⟩
     have hes:=hf12_13
     refine O13 ?_ (hw.qi hO)
     refine xZ (fun w' hw=>hw.weak [0,1,3,6,7] (wv') O qL O) (fun w' hw hS=>zK 23 O hw (a_call O O (fun w' hw=>(zKJ X.ns (((zG X.way q).dst - 1).toNat) (zG X.cbs ((((zG X.way q).dst) - 1).toNat)) ({(zG X.way q)with ev:=r3_,qm:=es4_,conf:=({vv:=a5_,vs:=(zG X.way q).conf.vs,lv:=b6_,ls:=(zG X.way q).conf.ls}:ConfD),dv:=c7_}:MsgD) (zG X.ts ((((zG X.way q).dst) - 1).toNat)) m.qd w' V (hX.cb hqi) (hX.ok hOk hN.2 hqi) V hmd (zCp (zEJ hes hQ)) hqk (hw.give [2] O qL) ⟨(hw.rdVec 8 O [2] O O),(EntD.rd.star 9 O [2] O O hw),⟨(hw.rdVec 10 O [2] O O),(hw.rdVec 11 O [2] O O)⟩,(hw.rdVec 12 O [2] O O)⟩).mono ?_)))
     rintro _ w1 ⟨n'8_,dr'9_,o10_,x11_,rfl,hf12_23,hf12_23_1,hf12_23_2,hf12_23_3,hO⟩
     have hR:=zGn hC V hI hX hqi V hmd hkk hqd.1 (zG1 hes) hf12_23 hf12_23_1 hsub
     have hol:(way'.length+o10_.qk.length)≤1000000:=by have h:=(hC.ok _ _ V hR).wl;simp only[List.length_append,List.length_map]at h;exact h
     refine O17 ?_ (hw.qg [2] O hO)
     refine xZ (fun w' hw=>hw.weak [0,1,2,5,6] (wv') O qL O) (fun w' hw hS=>zC 24 O (zEg (o:=0) (v:=o10_.mv) O qM O) hS (zK 25 O hw ?_))
     refine zP (fun w' hw=>MsgD.c1all (MsgD.rd.star0 14 O hw)) (fun hc5_=> ?_)
     refine z8 (g:=MsgD.cells) (sz:=14) (by':=176) (fun _=>O) (l:=way') (l':=o10_.qk) hc5_ 3 qM O O O (fun w' hw'=>Vec.sl (Own.holds hw' 13 _ O)) qN qL O (fun v107=>xZ (fun w' hw=>hw.weak [0,1,2,5,6] (wv') O qL O) (fun w' hw hS=>zC 26 O (zQ O) hS (zC 27 O (zH (o:=2) O) hS (zK 28 O hw ?_))))
     refine zP (fun w' hw=>Own.qh (i:=3) O hw) (fun hc6_=> ?_)
     refine zn (cs:=(NetD.cells ({X with wv:=wv',way:=way'}:NetD))) 0 O O O hc6_ O (xZ (fun w' hw=>hw.weak [0,1,2,5,6] (v107) O qL O) (fun w' hw hS=>zV ?_))
     refine Oc17 ?_ hw
     exact zT (yJ O (fun w' hw=>⟨({X with ns:=X.ns.set ((zG X.way q).dst - 1).toNat ((zG X.ns ((zG X.way q).dst - 1).toNat).put dr'9_ n'8_),ts:=X.ts,wv:=v107,way:=way'++o10_.qk}:NetD),O,(by rw[NetD.a_call];exact hC.up _ _ hR),hX.upd hqi htl hX.ts,O,O,O,(((hw.qJ 4 hsub O).starApp 4 14 qL O O).sel [0,1,12,2,3,4] O qL)⟩))
    refine zm 13 O hw (a_call O O (fun w' hw=>(zFV (zG X.way q) w' (zCp hQ) (MsgD.rd.star0 5 O hw _ (zd V))).mono ?_))
    rintro _ w1 ⟨r12_,es13_,a14_,b15_,c16_,rfl,hf12_13,hO⟩
    have hes:=hf12_13
    refine O13 ?_ (hw.qi hO)
    refine xZ (fun w' hw=>hw.weak [0,1,3,6,7] (wv') O qL O) (fun w' hw hS=>zw 4 23 ?_ ?_)
    ·refine zm 4 O hw (zL 0 (v:=wv') O O O O (xZ (fun w' hw=>hw.weak [0,1,3,6,7] (wv') O qL O) (fun w' hw hS=>zK 23 O hw (a_call O O (fun w' hw=>(zKJ X.ns (((zG X.way q).dst - 1).toNat) (zG X.cbs ((((zG X.way q).dst) - 1).toNat)) ({(zG X.way q)with ev:=r12_,qm:=es13_,conf:=({vv:=a14_,vs:=(zG X.way q).conf.vs,lv:=b15_,ls:=(zG X.way q).conf.ls}:ConfD),dv:=c16_}:MsgD) (zG X.ts ((((zG X.way q).dst) - 1).toNat)) m.qd w' V (hX.cb hqi) (hX.ok hOk hN.2 hqi) V hmd (zCp (zEJ hes hQ)) hqk (hw.give [2] O qL) ⟨(hw.rdVec 8 O [2] O O),(EntD.rd.star 9 O [2] O O hw),⟨(hw.rdVec 10 O [2] O O),(hw.rdVec 11 O [2] O O)⟩,(hw.rdVec 12 O [2] O O)⟩).mono ?_)))))
     rintro _ w1 ⟨n'17_,dr'18_,o19_,x20_,rfl,hf12_23,hf12_23_1,hf12_23_2,hf12_23_3,hO⟩
     have hR:=zGn hC V hI hX hqi V hmd hkk hqd.1 (zG1 hes) hf12_23 hf12_23_1 hsub
     have hol:(way'.length+o19_.qk.length)≤1000000:=by have h:=(hC.ok _ _ V hR).wl;simp only[List.length_append,List.length_map]at h;exact h
     refine O17 ?_ (hw.qg [2] O hO)
     refine xZ (fun w' hw=>hw.weak [0,1,2,5,6] (wv') O qL O) (fun w' hw hS=>zC 24 O (zEg (o:=0) (v:=o19_.mv) O qM O) hS (zK 25 O hw ?_))
     refine zP (fun w' hw=>MsgD.c1all (MsgD.rd.star0 14 O hw)) (fun hc7_=> ?_)
     refine z8 (g:=MsgD.cells) (sz:=14) (by':=176) (fun _=>O) (l:=way') (l':=o19_.qk) hc7_ 3 qM O O O (fun w' hw'=>Vec.sl (Own.holds hw' 13 _ O)) qN qL O (fun v107=>xZ (fun w' hw=>hw.weak [0,1,2,5,6] (wv') O qL O) (fun w' hw hS=>zC 26 O (zQ O) hS (zC 27 O (zH (o:=2) O) hS (zK 28 O hw ?_))))
     refine zP (fun w' hw=>Own.qh (i:=3) O hw) (fun hc8_=> ?_)
     refine zn (cs:=(NetD.cells ({X with wv:=wv',way:=way'}:NetD))) 0 O O O hc8_ O (xZ (fun w' hw=>hw.weak [0,1,2,5,6] (v107) O qL O) (fun w' hw hS=>zV ?_))
     refine Oc17 ?_ hw
     exact zT (yJ O (fun w' hw=>⟨({X with ns:=X.ns.set ((zG X.way q).dst - 1).toNat ((zG X.ns ((zG X.way q).dst - 1).toNat).put dr'18_ n'17_),ts:=X.ts,wv:=v107,way:=way'++o19_.qk}:NetD),O,(by rw[NetD.a_call];exact hC.up _ _ hR),hX.upd hqi htl hX.ts,O,O,O,(((hw.qJ 4 hsub O).starApp 4 14 qL O O).sel [0,1,12,2,3,4] O qL)⟩))
    refine zm 23 O hw (a_call O O (fun w' hw=>(zKJ X.ns (((zG X.way q).dst - 1).toNat) (zG X.cbs ((((zG X.way q).dst) - 1).toNat)) ({(zG X.way q)with ev:=r12_,qm:=es13_,conf:=({vv:=a14_,vs:=(zG X.way q).conf.vs,lv:=b15_,ls:=(zG X.way q).conf.ls}:ConfD),dv:=c16_}:MsgD) (zG X.ts ((((zG X.way q).dst) - 1).toNat)) m.qd w' V (hX.cb hqi) (hX.ok hOk hN.2 hqi) V hmd (zCp (zEJ hes hQ)) hqk (hw.give [2] O qL) ⟨(hw.rdVec 8 O [2] O O),(EntD.rd.star 9 O [2] O O hw),⟨(hw.rdVec 10 O [2] O O),(hw.rdVec 11 O [2] O O)⟩,(hw.rdVec 12 O [2] O O)⟩).mono ?_))
    rintro _ w1 ⟨n'21_,dr'22_,o23_,x24_,rfl,hf12_23,hf12_23_1,hf12_23_2,hf12_23_3,hO⟩
    have hR:=zGn hC V hI hX hqi V hmd hkk hqd.1 (zG1 hes) hf12_23 hf12_23_1 hsub
    have hol:(way'.length+o23_.qk.length)≤1000000:=by have h:=(hC.ok _ _ V hR).wl;simp only[List.length_append,List.length_map]at h;exact h
    refine O17 ?_ (hw.qg [2] O hO)
    refine xZ (fun w' hw=>hw.weak [0,1,2,5,6] (wv') O qL O) (fun w' hw hS=>zC 24 O (zEg (o:=0) (v:=o23_.mv) O qM O) hS (zK 4 O hw (zL 0 (v:=wv') O O O O (xZ (fun w' hw=>hw.weak [0,1,2,5,6] (wv') O qL O) (fun w' hw hS=>zK 25 O hw ?_)))))
    refine zP (fun w' hw=>MsgD.c1all (MsgD.rd.star0 14 O hw)) (fun hc9_=> ?_)
    refine z8 (g:=MsgD.cells) (sz:=14) (by':=176) (fun _=>O) (l:=way') (l':=o23_.qk) hc9_ 3 qM O O O (fun w' hw'=>Vec.sl (Own.holds hw' 13 _ O)) qN qL O (fun v107=>xZ (fun w' hw=>hw.weak [0,1,2,5,6] (wv') O qL O) (fun w' hw hS=>zC 26 O (zQ O) hS (zC 27 O (zH (o:=2) O) hS (zK 28 O hw ?_))))
    refine zP (fun w' hw=>Own.qh (i:=3) O hw) (fun hc10_=> ?_)
    refine zn (cs:=(NetD.cells ({X with wv:=wv',way:=way'}:NetD))) 0 O O O hc10_ O (xZ (fun w' hw=>hw.weak [0,1,2,5,6] (v107) O qL O) (fun w' hw hS=>zV ?_))
    refine Oc17 ?_ hw
    exact zT (yJ O (fun w' hw=>⟨({X with ns:=X.ns.set ((zG X.way q).dst - 1).toNat ((zG X.ns ((zG X.way q).dst - 1).toNat).put dr'22_ n'21_),ts:=X.ts,wv:=v107,way:=way'++o23_.qk}:NetD),O,(by rw[NetD.a_call];exact hC.up _ _ hR),hX.upd hqi htl hX.ts,O,O,O,(((hw.qJ 4 hsub O).starApp 4 14 qL O O).sel [0,1,12,2,3,4] O qL)⟩))
   refine zO ?_
   exact zT (yJ O (fun w' hw=>⟨({X with wv:=wv',way:=way'}:NetD),O,hC.up _ _ (hC.up _ _ (hC.sub _ _ _ hI (hsub.map MsgD.a))),⟨hX.len,hX.cbs,hX.tsl,hX.ts,hX.con⟩,O,O,O,((hw.qJ 5 hsub O).sel [0,1,2,3,4,5] O qL)⟩))
  refine zO (yu (fun(i:Nat)=>[(0,pt xb),(3,pt b3),(9,Vj i)]) (fun(i:Nat)=>i<N) (fun(i:Nat)=>[Res.row xb 73 (NetD.cells X),Res.vec 27 1 X.nv X.cbs.length (X.cbs.flatMap CP),Res.star (X.ns.map CorD.dres),vT X.tv X.ts,vM X.wv X.way,sM X.way,Res.row b3 68 (MovD.cells m)]) ?_ (fun i g hΦ=> ?_))
  ·refine zR (zD O (zD O (zb O O (zJ (o:=0) O O (zL 0 (v:=X.nv) O O O O (zq (pV 1 O) O O (zKQ (c:=((aq%X.cbs.length:Nat):Int)) O O V O O (zI O ?_))))))))
   exact ze (fun w' hw=>⟨aq%X.cbs.length,⟨O,O,O,trivial⟩,(by rw[hcl];exact Nat.mod_lt _ V),hw⟩)
  have hi:=hΦ
  have hti:=hX.ts _ (zd (show i<X.ts.length by omega))
  have hlt:=zLa (t:=m.t) hti
  refine zN (zi [0,1,4,6] O qL qM (fun w' hw hS=>zC 0 O zU hS (zC 1 O (zQ O) hS (zC 2 O (zH (o:=1) O) hS (zC 3 O (za 0 (v:=X.tv) O O O) hS (zC 4 O zU hS (zC 5 O zU hS (zC 6 O (zQ O) hS (zC 7 O (zH (o:=1) O) hS (zC 8 O (za 0 (v:=X.tv) O O O) hS (zC 9 O zU hS (zC 12 O (zH (o:=2) O) hS ?_))))))))))))
  refine zC 13 O (za 3 (v:=Vi m.t) O O O) hS (zK 10 O hw (zh (pV 3 O) 1 i O O O V O (zE [0,1,4,6] O qL (fun w' hw hS=>zK 11 O hw (yF (pV 3 O) 1 i 0 (fun _=>O) O O V O O (zE [0,1,4,6] O qL (fun w' hw hS=>zK 14 O hw (a_call O O (fun w' hw=>(zLT (zG X.ts i) m.t w' qN).mono ?_)))))))))
  rintro _ w1 ⟨rfl,hO⟩
  refine O7 ?_ (hw.qi hO)
  refine zE [0,1,4,6] O qL (fun w' hw hS=>zK 15 O hw (zh (pV 3 O) 1 i O O O V O (zE [0,1,4,6] O qL (fun w' hw hS=>zK 16 O hw (ym 3 i (zB8 (zG X.ts i) m.t) O (fun _=>O) O V O O O V (zE [0,1,4,6] O qL (fun w' hw hS=>zV ?_)))))))
  refine Oc7 ?_ hw
  refine jf (fun(ob:Nat) (n':NdD) (o:OutD)=>[(0,pt xb),(3,pt b3),(9,Vj i),(10,pt ob)]) (fun(ob:Nat) (n':NdD) (o:OutD)=>I (k+1) (X.a.call i n'.a (o.qk.map MsgD.a))) (fun(ob:Nat) (n':NdD) (o:OutD)=>[Res.row xb 73 (NetD.cells ({X with ts:=(X.ts.set i (zB8 (zG X.ts i) m.t))}:NetD)),Res.vec 27 1 X.nv X.cbs.length (X.cbs.flatMap CP),Res.star ((X.ns.set i ((zG X.ns i).put m.qd n')).map CorD.dres),vT X.tv (X.ts.set i (zB8 (zG X.ts i) m.t)),vM X.wv X.way,sM X.way,Res.row b3 68 (MovD.cells m),zAu ob o,vM o.mv o.qk,sM o.qk]) ?_ (fun ob n' o g hΦ=> ?_)
  ·refine zi [0,1,3,4,6] O qL qM (fun w' hw hS=>zC 0 O zU hS (zC 1 O (zQ O) hS (zC 2 O (zH (o:=0) O) hS (zC 3 O (za 0 (v:=X.nv) O O O) hS (zC 4 O zU hS (zC 5 O (xV (pV 1 O) 1 i O O O V) hS (zC 6 O (kU (pV 1 O) 1 i 0 (fun _=>O) O O V O) hS (zC 7 O zU hS (zC 8 O (zQ O) hS (zC 9 O (zH (o:=1) O) hS (zC 10 O (za 0 (v:=X.tv) O O O) hS (zC 11 O zU hS ?_))))))))))))
   refine zC 12 O (xV (pV 2 O) 1 i O O O qT) hS (zC 13 O (kU (pV 2 O) 1 i 0 (fun _=>O) O O qT O) hS (zC 14 O (zH (o:=3) O) hS (zC 15 O (za 4 (v:=Vn m.qd) O O O) hS (zw 16 17 ?_ ?_))))
   ·refine zm 16 O hw (a_call O O (fun w' hw=>(zMf X.ns i (zG X.cbs i) (zG (X.ts.set i (zB8 (zG X.ts i) m.t)) i) m.qd w' V (hX.cb hi) (hX.ok hOk hN.2 hi) (by rw[xK,if_pos ⟨rfl,by omega⟩];omega) hmd (hw.give [2] O qL)).mono ?_))
    rintro _ w1 ⟨n'25_,o26_,x27_,rfl,hf15_16,hf15_16_1,hf15_16_2,hf15_16_3,hO⟩
    refine O11 ?_ (hw.qg [2] O hO)
    refine zE [0,1,2,3,5] O qL (fun w' hw hS=>zK 17 O hw (yE (v:= .agg #[.slice none 0 0, .bool false, .slice none 0 0, .slice none 0 0]) qM O (fun b10=>zE [0,1,2,3,5] O qL (fun w' hw hS=>zK 18 O hw ?_))))
    refine zP (fun w' hw=>Own.qh (i:=7) O hw) (fun hc11_=> ?_)
    refine zP (fun w' hw=>Own.qh (i:=9) O hw) (fun hc12_=> ?_)
    refine zP (fun w' hw=>Own.qh (i:=10) O hw) (fun hc13_=> ?_)
    refine zp 11 O O O (zF hc11_ (zF O (zF hc12_ (zF hc13_ zk)))) O (zE [0,1,2,3,5] O qL (fun w' hw hS=>zV ?_))
    exact⟨b10,n'25_,o26_,⟨O,O,O,O,trivial⟩,(by rw[hf15_16_1];exact zKh hC V hI hX hi (by rw[xK,if_pos ⟨rfl,by omega⟩];omega) hmd hf15_16),hw.sel [0,1,6,2,3,4,5,11,7,8] O qL⟩
   refine zm 17 O hw (yE (v:= .agg #[.slice none 0 0, .bool false, .slice none 0 0, .slice none 0 0]) qM O (fun b10=>zE [0,1,3,4,6] O qL (fun w' hw hS=>zK 16 O hw (a_call O O (fun w' hw=>(zMf X.ns i (zG X.cbs i) (zG (X.ts.set i (zB8 (zG X.ts i) m.t)) i) m.qd w' V (hX.cb hi) (hX.ok hOk hN.2 hi) (by rw[xK,if_pos ⟨rfl,by omega⟩];omega) hmd (hw.give [2] O qL)).mono ?_)))))
   rintro _ w1 ⟨n'28_,o29_,x30_,rfl,hf15_16,hf15_16_1,hf15_16_2,hf15_16_3,hO⟩
   refine O12 ?_ (hw.qg [2] O hO)
   refine zE [0,1,2,3,5] O qL (fun w' hw hS=>zK 18 O hw ?_)
   refine zP (fun w' hw=>Own.qh (i:=8) O hw) (fun hc14_=> ?_)
   refine zP (fun w' hw=>Own.qh (i:=10) O hw) (fun hc15_=> ?_)
   refine zP (fun w' hw=>Own.qh (i:=11) O hw) (fun hc16_=> ?_)
   refine zp 6 O O O (zF hc14_ (zF O (zF hc15_ (zF hc16_ zk)))) O (zE [0,1,2,3,5] O qL (fun w' hw hS=>zV ?_))
   exact⟨b10,n'28_,o29_,⟨O,O,O,O,trivial⟩,(by rw[hf15_16_1];exact zKh hC V hI hX hi (by rw[xK,if_pos ⟨rfl,by omega⟩];omega) hmd hf15_16),hw.sel [0,1,7,2,3,4,5,6,8,9] O qL⟩
  have hI16:=hΦ
  have hwl16:(X.way++o.qk).length≤1000000:=by have h:=(hC.ok _ _ V hI16).wl;unfold NetA.call NetD.a at h;rw[←List.map_append,List.length_map]at h;exact h
  rw[List.length_append]at hwl16
  refine yu (fun(X1:NetD)=>[(0,pt xb),(3,pt b3),(9,Vj i)]) (fun(X1:NetD)=>(I (k+1) X1.a∧X1.st N)∧X1.mb=X.mb∧X1.sv=X.sv∧X1.safe=X.safe) (fun(X1:NetD)=>[Res.row xb 73 (NetD.cells X1),Res.vec 27 1 X1.nv X1.cbs.length (X1.cbs.flatMap CP),Res.star (X1.ns.map CorD.dres),vT X1.tv X1.ts,vM X1.wv X1.way,sM X1.way,Res.row b3 68 (MovD.cells m)]) ?_ (fun X1 g hΦ=> ?_)
  ·refine zi [1,3,6,7,8] O qL qM (fun w' hw hS=>zC 0 O zU hS (zC 1 O zU hS (zC 2 O (zQ O) hS (zC 3 O (zH (o:=2) O) hS (zC 5 O (zH (o:=0) O) hS (zC 6 O (za 3 (v:=o.mv) O O O) hS (zK 4 O hw (zL 0 (v:=X.wv) O O O O (zE [1,3,6,7,8] O qL (fun w' hw hS=>zK 7 O hw ?_))))))))))
   refine zP (fun w' hw=>MsgD.c1all (MsgD.rd.star0 9 O hw)) (fun hc20_=> ?_)
   refine z8 (g:=MsgD.cells) (sz:=14) (by':=176) (fun _=>O) (l:=X.way) (l':=o.qk) hc20_ 4 qM O O O (fun w' hw'=>Vec.sl (Own.holds hw' 8 _ O)) qN qL O (fun v157=>zE [1,3,6,7,8] O qL (fun w' hw hS=>zC 8 O (zQ O) hS (zC 9 O (zH (o:=2) O) hS (zK 10 O hw ?_))))
   refine zP (fun w' hw=>Own.qh (i:=4) O hw) (fun hc21_=> ?_)
   refine zn 0 O O O hc21_ O (zE [1,3,6,7,8] O qL (fun w' hw hS=>zV ?_))
   exact⟨({X with ns:=X.ns.set i ((zG X.ns i).put m.qd n'),ts:=(X.ts.set i (zB8 (zG X.ts i) m.t)),wv:=v157,way:=X.way++o.qk}:NetD),⟨O,O,O,trivial⟩,⟨⟨by rw[NetD.a_call];exact hI16,hX.upd hi (by rw[List.length_set];exact htl) (zNF hX.ts hlt)⟩,O,O,O⟩,((hw.starApp 5 9 qL O O).sel [0,1,2,3,4,5,6] O qL)⟩
  obtain⟨⟨hI1,hX1⟩,hmv⟩:=hΦ
  have hOj:=hC.ok _ _ V hI1
  have hwl1:X1.way.length≤1000000:=by have h:=hOj.wl;unfold NetD.a at h;rwa [List.length_map]at h
  have hcl1:X1.cbs.length=N:=by rw[hX1.cbs,List.length_map,hX1.len]
  have htl1:=hX1.tsl
  have hr1:=Nat.mod_lt (m.qd / 3) (show 0<X1.cbs.length by omega)
  have hr2:=Nat.mod_lt m.qd (show 0<X1.cbs.length by omega)
  have hnl1:=hX1.len
  have hti1:=hX1.ts _ (zd (show i<X1.ts.length by omega))
  refine zB (zJ (o:=4) O O (zL 6 (v:=Vi m.ask) O O O O (zA (zX (zB (yS O O O (zI O (zA (zY O (fun c5=> ?_) (fun c5=> ?_))))))))))
  ·refine jf (fun(ob:Nat) (n':NdD) (o:OutD)=>[(0,pt xb),(12,pt ob)]) (fun(ob:Nat) (n':NdD) (o:OutD)=>I (k+2) (X1.a.call i n'.a (o.qk.map MsgD.a))) (fun(ob:Nat) (n':NdD) (o:OutD)=>[Res.row xb 73 (NetD.cells X1),Res.vec 27 1 X1.nv X1.cbs.length (X1.cbs.flatMap CP),Res.star ((X1.ns.set i ((zG X1.ns i).put (zG X1.ns i).qd n')).map CorD.dres),vT X1.tv X1.ts,vM X1.wv X1.way,sM X1.way,Res.row b3 68 (MovD.cells m),zAu ob o,vM o.mv o.qk,sM o.qk]) ?_ (fun ob n' o g hΦ=> ?_)
   ·refine zi [0,1,3,4,6] O qL qM (fun w' hw hS=>zC 0 O zU hS (zC 1 O (zQ O) hS (zC 2 O (zH (o:=0) O) hS (zC 3 O (za 0 (v:=X1.nv) O O O) hS (zC 4 O zU hS (zC 5 O (xV (pV 1 O) 1 i O O O V) hS (zC 6 O (kU (pV 1 O) 1 i 0 (fun _=>O) O O V O) hS (zC 7 O (zH (o:=3) O) hS (zC 8 O (za 4 (v:=Vn m.qd) O O O) hS (zC 9 O (kN (c:=((m.qd%256:Nat):Int)) qM O (by rw[wu8];omega) qM) hS (zC 11 O zU hS (zC 12 O (zQ O) hS ?_))))))))))))
    refine zC 13 O (zH (o:=1) O) hS (zC 14 O (za 0 (v:=X1.tv) O O O) hS (zC 15 O zU hS (zC 16 O (xV (pV 2 O) 1 i O O O V) hS (zC 17 O (kU (pV 2 O) 1 i 0 (fun _=>O) O O V O) hS (zw 10 23 ?_ ?_)))))
    ·refine zm 10 O hw (zy (e:=5) (sz:=1) (vs:=[.int .u8 (m.qd%256:Nat)]) qM O O qQ qL O (fun b175=> ?_))
     refine z2 [Res.row xb 73 (NetD.cells X1),Res.vec 27 1 X1.nv X1.cbs.length (X1.cbs.flatMap CP),Res.star (X1.ns.map CorD.dres),vT X1.tv X1.ts,vM X1.wv X1.way,sM X1.way,Res.row b3 68 (MovD.cells m),vY (.slice (some ⟨b175,0,none⟩) 1 1) ([UInt8.ofNat (m.qd%256)]:List UInt8)] (fun w' hw=>by unfold vY;rw[zFD V];exact hw) ?_
     refine zE [0,1,3,4,6] O qL (fun w' hw hS=>zw 18 23 ?_ ?_)
     ·refine zm 18 O hw (a_call O O (fun w' hw=>(zGu X1.ns i (zG X1.cbs i) (.slice (some ⟨b175,0,none⟩) 1 1) ([UInt8.ofNat (m.qd%256)]:List UInt8) (zG X1.ts i) w' V (hX1.cb hi) (hX1.ok hOj hN.2 hi) V qR (hw.give [2] O qL) (hw.rdVec 7 O [2] O O)).mono ?_))
      rintro _ w1 ⟨n'31_,o32_,x33_,at_34_,e35_,rfl,hf19_18,hf19_18_1,hf19_18_2,hf19_18_3,hO⟩
      refine O12 ?_ (hw.qg [2] O hO)
      refine zE [0,1,2,3,5] O qL (fun w' hw hS=>zC 19 O zU hS (zC 20 O (yT (vs:=[Vn at_34_, .agg (OutD.cells o32_).toArray,Vi e35_]) O O) hS (zC 21 O (yT (vs:=[Vn at_34_, .agg (OutD.cells o32_).toArray,Vi e35_]) O O) hS (zC 22 O (yT (vs:=[Vn at_34_, .agg (OutD.cells o32_).toArray,Vi e35_]) O O) hS (zK 23 O hw (yE (v:= .agg #[.slice none 0 0, .bool false, .slice none 0 0, .slice none 0 0]) qM O (fun b12=>zE [0,1,2,3,5] O qL (fun w' hw hS=>zC 24 O yN hS (zK 25 O hw ?_)))))))))
      refine zP (fun w' hw=>Own.qh (i:=8) O hw) (fun hc22_=> ?_)
      refine zP (fun w' hw=>Own.qh (i:=10) O hw) (fun hc23_=> ?_)
      refine zP (fun w' hw=>Own.qh (i:=11) O hw) (fun hc24_=> ?_)
      refine zp 12 O O O (zF hc22_ (zF O (zF hc23_ (zF hc24_ zk)))) O (zE [0,1,2,3,5] O qL (fun w' hw hS=>zC 26 O yN hS (zV ?_)))
      exact⟨b12,n'31_,o32_,⟨O,O,trivial⟩,(by rw[hf19_18_1];exact zF5 hC V hI1 hX1 hi V hf19_18),hw.sel [0,1,7,2,3,4,5,12,8,9] O qL⟩
     refine zm 23 O hw (yE (v:= .agg #[.slice none 0 0, .bool false, .slice none 0 0, .slice none 0 0]) qM O (fun b12=>zE [0,1,3,4,6] O qL (fun w' hw hS=>zK 18 O hw (a_call O O (fun w' hw=>(zGu X1.ns i (zG X1.cbs i) (.slice (some ⟨b175,0,none⟩) 1 1) ([UInt8.ofNat (m.qd%256)]:List UInt8) (zG X1.ts i) w' V (hX1.cb hi) (hX1.ok hOj hN.2 hi) V qR (hw.give [2] O qL) (hw.rdVec 7 O [2] O O)).mono ?_)))))
     rintro _ w1 ⟨n'36_,o37_,x38_,at_39_,e40_,rfl,hf19_18,hf19_18_1,hf19_18_2,hf19_18_3,hO⟩
     refine O13 ?_ (hw.qg [2] O hO)
     refine zE [0,1,2,3,5] O qL (fun w' hw hS=>zC 19 O zU hS (zC 20 O (yT (vs:=[Vn at_39_, .agg (OutD.cells o37_).toArray,Vi e40_]) O O) hS (zC 21 O (yT (vs:=[Vn at_39_, .agg (OutD.cells o37_).toArray,Vi e40_]) O O) hS (zC 22 O (yT (vs:=[Vn at_39_, .agg (OutD.cells o37_).toArray,Vi e40_]) O O) hS (zC 24 O yN hS (zK 25 O hw ?_))))))
     refine zP (fun w' hw=>Own.qh (i:=9) O hw) (fun hc25_=> ?_)
     refine zP (fun w' hw=>Own.qh (i:=11) O hw) (fun hc26_=> ?_)
     refine zP (fun w' hw=>Own.qh (i:=12) O hw) (fun hc27_=> ?_)
     refine zp 7 O O O (zF hc25_ (zF O (zF hc26_ (zF hc27_ zk)))) O (zE [0,1,2,3,5] O qL (fun w' hw hS=>zC 26 O yN hS (zV ?_)))
     exact⟨b12,n'36_,o37_,⟨O,O,trivial⟩,(by rw[hf19_18_1];exact zF5 hC V hI1 hX1 hi V hf19_18),hw.sel [0,1,8,2,3,4,5,7,9,10] O qL⟩
    refine zm 23 O hw (yE (v:= .agg #[.slice none 0 0, .bool false, .slice none 0 0, .slice none 0 0]) qM O (fun b12=>zE [0,1,3,4,6] O qL (fun w' hw hS=>zK 10 O hw (zy (e:=5) (sz:=1) (vs:=[.int .u8 (m.qd%256:Nat)]) qM O O qQ qL O (fun b175=> ?_)))))
    refine z2 [Res.row xb 73 (NetD.cells X1),Res.vec 27 1 X1.nv X1.cbs.length (X1.cbs.flatMap CP),Res.star (X1.ns.map CorD.dres),vT X1.tv X1.ts,vM X1.wv X1.way,sM X1.way,Res.row b3 68 (MovD.cells m),Res.row b12 44 [.slice none 0 0, .bool false, .slice none 0 0, .slice none 0 0],vY (.slice (some ⟨b175,0,none⟩) 1 1) ([UInt8.ofNat (m.qd%256)]:List UInt8)] (fun w' hw=>by unfold vY;rw[zFD V];exact hw) ?_
    refine zE [0,1,3,4,6] O qL (fun w' hw hS=>zK 18 O hw (a_call O O (fun w' hw=>(zGu X1.ns i (zG X1.cbs i) (.slice (some ⟨b175,0,none⟩) 1 1) ([UInt8.ofNat (m.qd%256)]:List UInt8) (zG X1.ts i) w' V (hX1.cb hi) (hX1.ok hOj hN.2 hi) V qR (hw.give [2] O qL) (hw.rdVec 8 O [2] O O)).mono ?_)))
    rintro _ w1 ⟨n'41_,o42_,x43_,at_44_,e45_,rfl,hf19_18,hf19_18_1,hf19_18_2,hf19_18_3,hO⟩
    refine O13 ?_ (hw.qg [2] O hO)
    refine zE [0,1,2,3,5] O qL (fun w' hw hS=>zC 19 O zU hS (zC 20 O (yT (vs:=[Vn at_44_, .agg (OutD.cells o42_).toArray,Vi e45_]) O O) hS (zC 21 O (yT (vs:=[Vn at_44_, .agg (OutD.cells o42_).toArray,Vi e45_]) O O) hS (zC 22 O (yT (vs:=[Vn at_44_, .agg (OutD.cells o42_).toArray,Vi e45_]) O O) hS (zC 24 O yN hS (zK 25 O hw ?_))))))
    refine zP (fun w' hw=>Own.qh (i:=9) O hw) (fun hc28_=> ?_)
    refine zP (fun w' hw=>Own.qh (i:=11) O hw) (fun hc29_=> ?_)
    refine zP (fun w' hw=>Own.qh (i:=12) O hw) (fun hc30_=> ?_)
    refine zp 6 O O O (zF hc28_ (zF O (zF hc29_ (zF hc30_ zk)))) O (zE [0,1,2,3,5] O qL (fun w' hw hS=>zC 26 O yN hS (zV ?_)))
    exact⟨b12,n'41_,o42_,⟨O,O,trivial⟩,(by rw[hf19_18_1];exact zF5 hC V hI1 hX1 hi V hf19_18),hw.sel [0,1,8,2,3,4,5,6,9,10] O qL⟩
   have hI20:=hΦ
   have hwl20:(X1.way++o.qk).length≤1000000:=by have h:=(hC.ok _ _ V hI20).wl;unfold NetA.call NetD.a at h;rw[←List.map_append,List.length_map]at h;exact h
   rw[List.length_append]at hwl20
   refine zi [1,3,6,7,8] O qL qM (fun w' hw hS=>zC 0 O zU hS (zC 1 O zU hS (zC 2 O (zQ O) hS (zC 3 O (zH (o:=2) O) hS (zC 5 O (zH (o:=0) O) hS (zC 6 O (za 3 (v:=o.mv) O O O) hS (zK 4 O hw (zL 0 (v:=X1.wv) O O O O (zE [1,3,6,7,8] O qL (fun w' hw hS=>zK 7 O hw ?_))))))))))
   refine zP (fun w' hw=>MsgD.c1all (MsgD.rd.star0 9 O hw)) (fun hc34_=> ?_)
   refine z8 (g:=MsgD.cells) (sz:=14) (by':=176) (fun _=>O) (l:=X1.way) (l':=o.qk) hc34_ 4 qM O O O (fun w' hw'=>Vec.sl (Own.holds hw' 8 _ O)) qN qL O (fun v194=>zE [1,3,6,7,8] O qL (fun w' hw hS=>zC 8 O (zQ O) hS (zC 9 O (zH (o:=2) O) hS (zK 10 O hw ?_))))
   refine zP (fun w' hw=>Own.qh (i:=4) O hw) (fun hc35_=> ?_)
   refine zn (cs:=(NetD.cells X1)) 0 O O O hc35_ O (zE [1,3,6,7,8] O qL (fun w' hw hS=>zV ?_))
   exact(yJ O (fun w' hw=>⟨({X1 with ns:=X1.ns.set i ((zG X1.ns i).put (zG X1.ns i).qd n'),ts:=X1.ts,wv:=v194,way:=X1.way++o.qk}:NetD),O,(by rw[NetD.a_call];exact hI20),hX1.upd hi htl1 hX1.ts,hmv.1,hmv.2.1,hmv.2.2,((hw.starApp 5 9 qL O O).sel [0,1,2,3,4,5] O qL)⟩)) _ hw
  refine zB (yS O O O (zI O (zA (zY O (fun c6=> ?_) (fun c6=> ?_)))))
  ·refine jf (fun(ob:Nat) (n':NdD) (o:OutD)=>[(0,pt xb),(15,pt ob)]) (fun(ob:Nat) (n':NdD) (o:OutD)=>I (k+2) (X1.a.call i n'.a (o.qk.map MsgD.a))) (fun(ob:Nat) (n':NdD) (o:OutD)=>[Res.row xb 73 (NetD.cells X1),Res.vec 27 1 X1.nv X1.cbs.length (X1.cbs.flatMap CP),Res.star ((X1.ns.set i ((zG X1.ns i).put (zG X1.ns i).qd n')).map CorD.dres),vT X1.tv X1.ts,vM X1.wv X1.way,sM X1.way,Res.row b3 68 (MovD.cells m),zAu ob o,vM o.mv o.qk,sM o.qk]) ?_ (fun ob n' o g hΦ=> ?_)
   ·refine zi [0,1,3,4,6] O qL qM (fun w' hw hS=>zC 0 O zU hS (zC 1 O (zQ O) hS (zC 2 O (zH (o:=0) O) hS (zC 3 O (za 0 (v:=X1.nv) O O O) hS (zC 4 O zU hS (zC 5 O (xV (pV 1 O) 1 i O O O V) hS (zC 6 O (kU (pV 1 O) 1 i 0 (fun _=>O) O O V O) hS (zC 7 O (zH (o:=3) O) hS (zC 8 O (za 4 (v:=Vn m.qd) O O O) hS (zC 9 O (zE6 (c:=((m.qd%3:Nat):Int)) O O V O) hS (zC 10 O (kN qM O (zu V) qM) hS (zC 11 O (yo O O (zu V)) hS ?_))))))))))))
    refine zC 12 O (zH (o:=3) O) hS (zC 13 O (za 4 (v:=Vn m.qd) O O O) hS (zC 14 O (zOo (c:=((m.qd / 3:Nat):Int)) O O V (xN (a:=((m.qd / 3:Nat):Int)) V)) hS (zC 15 O zU hS (zC 16 O (zQ O) hS (zC 17 O (zH (o:=0) O) hS (zC 18 O (za 0 (v:=X1.nv) O O O) hS (zC 19 O (zAe (pV 1 O) O) hS (zC 20 O (kN qM O (xN V) qM) hS (zC 21 O (zE6 (c:=(((m.qd / 3)%X1.cbs.length:Nat):Int)) O O V O) hS (zC 22 O (kN qM O (zu V) qM) hS (zC 23 O (yo O O (zu V)) hS (zC 24 O zU hS ?_))))))))))))
    refine zC 25 O (zQ O) hS (zC 26 O (zH (o:=1) O) hS (zC 27 O (za 0 (v:=X1.tv) O O O) hS (zC 28 O zU hS (zC 29 O (xV (pV 2 O) 1 i O O O V) hS (zC 30 O (kU (pV 2 O) 1 i 0 (fun _=>O) O O V O) hS (zw 31 36 ?_ ?_))))))
    ·refine zm 31 O hw (a_call O O (fun w' hw=>(zMl X1.ns i (zG X1.cbs i) (((m.qd%3)+1:Nat):Int) ((((m.qd / 3)%X1.cbs.length)+1:Nat):Int) (zG X1.ts i) w' V (hX1.cb hi) (hX1.ok hOj hN.2 hi) V (hw.give [2] O qL)).mono ?_))
     rintro _ w1 ⟨n'46_,o47_,x48_,at_49_,e50_,rfl,hf22_31,hf22_31_1,hf22_31_2,hf22_31_3,hO⟩
     refine O11 ?_ (hw.qg [2] O hO)
     refine zE [0,1,2,3,5] O qL (fun w' hw hS=>zC 32 O zU hS (zC 33 O (yT (vs:=[Vn at_49_, .agg (OutD.cells o47_).toArray,Vi e50_]) O O) hS (zC 34 O (yT (vs:=[Vn at_49_, .agg (OutD.cells o47_).toArray,Vi e50_]) O O) hS (zC 35 O (yT (vs:=[Vn at_49_, .agg (OutD.cells o47_).toArray,Vi e50_]) O O) hS (zK 36 O hw (yE (v:= .agg #[.slice none 0 0, .bool false, .slice none 0 0, .slice none 0 0]) qM O (fun b15=>zE [0,1,2,3,5] O qL (fun w' hw hS=>zC 37 O yN hS (zK 38 O hw ?_)))))))))
     refine zP (fun w' hw=>Own.qh (i:=7) O hw) (fun hc36_=> ?_)
     refine zP (fun w' hw=>Own.qh (i:=9) O hw) (fun hc37_=> ?_)
     refine zP (fun w' hw=>Own.qh (i:=10) O hw) (fun hc38_=> ?_)
     refine zp 11 O O O (zF hc36_ (zF O (zF hc37_ (zF hc38_ zk)))) O (zE [0,1,2,3,5] O qL (fun w' hw hS=>zC 39 O yN hS (zV ?_)))
     exact⟨b15,n'46_,o47_,⟨O,O,trivial⟩,(by rw[hf22_31_1];exact zJO hC V hI1 hX1 hi V ⟨by omega,by rw[hcl1];have:=Nat.mod_lt (m.qd / 3) (show 0<N by omega);omega⟩ hf22_31),hw.sel [0,1,6,2,3,4,5,11,7,8] O qL⟩
    refine zm 36 O hw (yE (v:= .agg #[.slice none 0 0, .bool false, .slice none 0 0, .slice none 0 0]) qM O (fun b15=>zE [0,1,3,4,6] O qL (fun w' hw hS=>zK 31 O hw (a_call O O (fun w' hw=>(zMl X1.ns i (zG X1.cbs i) (((m.qd%3)+1:Nat):Int) ((((m.qd / 3)%X1.cbs.length)+1:Nat):Int) (zG X1.ts i) w' V (hX1.cb hi) (hX1.ok hOj hN.2 hi) V (hw.give [2] O qL)).mono ?_)))))
    rintro _ w1 ⟨n'51_,o52_,x53_,at_54_,e55_,rfl,hf22_31,hf22_31_1,hf22_31_2,hf22_31_3,hO⟩
    refine O12 ?_ (hw.qg [2] O hO)
    refine zE [0,1,2,3,5] O qL (fun w' hw hS=>zC 32 O zU hS (zC 33 O (yT (vs:=[Vn at_54_, .agg (OutD.cells o52_).toArray,Vi e55_]) O O) hS (zC 34 O (yT (vs:=[Vn at_54_, .agg (OutD.cells o52_).toArray,Vi e55_]) O O) hS (zC 35 O (yT (vs:=[Vn at_54_, .agg (OutD.cells o52_).toArray,Vi e55_]) O O) hS (zC 37 O yN hS (zK 38 O hw ?_))))))
    refine zP (fun w' hw=>Own.qh (i:=8) O hw) (fun hc39_=> ?_)
    refine zP (fun w' hw=>Own.qh (i:=10) O hw) (fun hc40_=> ?_)
    refine zP (fun w' hw=>Own.qh (i:=11) O hw) (fun hc41_=> ?_)
    refine zp 6 O O O (zF hc39_ (zF O (zF hc40_ (zF hc41_ zk)))) O (zE [0,1,2,3,5] O qL (fun w' hw hS=>zC 39 O yN hS (zV ?_)))
    exact⟨b15,n'51_,o52_,⟨O,O,trivial⟩,(by rw[hf22_31_1];exact zJO hC V hI1 hX1 hi V ⟨by omega,by rw[hcl1];have:=Nat.mod_lt (m.qd / 3) (show 0<N by omega);omega⟩ hf22_31),hw.sel [0,1,7,2,3,4,5,6,8,9] O qL⟩
   have hI23:=hΦ
   have hwl23:(X1.way++o.qk).length≤1000000:=by have h:=(hC.ok _ _ V hI23).wl;unfold NetA.call NetD.a at h;rw[←List.map_append,List.length_map]at h;exact h
   rw[List.length_append]at hwl23
   refine zi [1,3,6,7,8] O qL qM (fun w' hw hS=>zC 0 O zU hS (zC 1 O zU hS (zC 2 O (zQ O) hS (zC 3 O (zH (o:=2) O) hS (zC 5 O (zH (o:=0) O) hS (zC 6 O (za 3 (v:=o.mv) O O O) hS (zK 4 O hw (zL 0 (v:=X1.wv) O O O O (zE [1,3,6,7,8] O qL (fun w' hw hS=>zK 7 O hw ?_))))))))))
   refine zP (fun w' hw=>MsgD.c1all (MsgD.rd.star0 9 O hw)) (fun hc45_=> ?_)
   refine z8 (g:=MsgD.cells) (sz:=14) (by':=176) (fun _=>O) (l:=X1.way) (l':=o.qk) hc45_ 4 qM O O O (fun w' hw'=>Vec.sl (Own.holds hw' 8 _ O)) qN qL O (fun v242=>zE [1,3,6,7,8] O qL (fun w' hw hS=>zC 8 O (zQ O) hS (zC 9 O (zH (o:=2) O) hS (zK 10 O hw ?_))))
   refine zP (fun w' hw=>Own.qh (i:=4) O hw) (fun hc46_=> ?_)
   refine zn (cs:=(NetD.cells X1)) 0 O O O hc46_ O (zE [1,3,6,7,8] O qL (fun w' hw hS=>zV ?_))
   exact(yJ O (fun w' hw=>⟨({X1 with ns:=X1.ns.set i ((zG X1.ns i).put (zG X1.ns i).qd n'),ts:=X1.ts,wv:=v242,way:=X1.way++o.qk}:NetD),O,(by rw[NetD.a_call];exact hI23),hX1.upd hi htl1 hX1.ts,hmv.1,hmv.2.1,hmv.2.2,((hw.starApp 5 9 qL O O).sel [0,1,2,3,4,5] O qL)⟩)) _ hw
  refine zB (yS O O O (zI O (zA (zY O (fun c7=> ?_) (fun c7=> ?_)))))
  ·refine jf (fun(ob:Nat) (n':NdD) (o:OutD)=>[(0,pt xb),(17,pt ob)]) (fun(ob:Nat) (n':NdD) (o:OutD)=>I (k+2) (X1.a.call i n'.a (o.qk.map MsgD.a))) (fun(ob:Nat) (n':NdD) (o:OutD)=>[Res.row xb 73 (NetD.cells X1),Res.vec 27 1 X1.nv X1.cbs.length (X1.cbs.flatMap CP),Res.star ((X1.ns.set i ((zG X1.ns i).put (zG X1.ns i).qd n')).map CorD.dres),vT X1.tv X1.ts,vM X1.wv X1.way,sM X1.way,Res.row b3 68 (MovD.cells m),zAu ob o,vM o.mv o.qk,sM o.qk]) ?_ (fun ob n' o g hΦ=> ?_)
   ·refine zi [0,1,3,4,6] O qL qM (fun w' hw hS=>zC 0 O zU hS (zC 1 O (zQ O) hS (zC 2 O (zH (o:=0) O) hS (zC 3 O (za 0 (v:=X1.nv) O O O) hS (zC 4 O zU hS (zC 5 O (xV (pV 1 O) 1 i O O O V) hS (zC 6 O (kU (pV 1 O) 1 i 0 (fun _=>O) O O V O) hS (zC 7 O (zH (o:=3) O) hS (zC 8 O (za 4 (v:=Vn m.qd) O O O) hS (zC 9 O zU hS (zC 10 O (zQ O) hS (zC 11 O (zH (o:=0) O) hS ?_))))))))))))
    refine zC 12 O (za 0 (v:=X1.nv) O O O) hS (zC 13 O (zAe (pV 1 O) O) hS (zC 14 O (kN qM O (xN V) qM) hS (zC 15 O (zE6 (c:=((m.qd%X1.cbs.length:Nat):Int)) O O V O) hS (zC 16 O (kN qM O (zu V) qM) hS (zC 17 O (yo O O (zu V)) hS (zC 18 O zU hS (zC 19 O (zQ O) hS (zC 20 O (zH (o:=1) O) hS (zC 21 O (za 0 (v:=X1.tv) O O O) hS (zC 22 O zU hS (zC 23 O (xV (pV 2 O) 1 i O O O V) hS (zC 24 O (kU (pV 2 O) 1 i 0 (fun _=>O) O O V O) hS ?_))))))))))))
    refine zw 25 29 ?_ ?_
    ·refine zm 25 O hw (a_call O O (fun w' hw=>(zKG X1.ns i (zG X1.cbs i) (((m.qd%X1.cbs.length)+1:Nat):Int) (zG X1.ts i) w' V (hX1.cb hi) (hX1.ok hOj hN.2 hi) V (hw.give [2] O qL)).mono ?_))
     rintro _ w1 ⟨n'56_,o57_,x58_,e59_,rfl,hf25_25,hf25_25_1,hf25_25_2,hf25_25_3,hO⟩
     refine O11 ?_ (hw.qg [2] O hO)
     refine zE [0,1,2,3,5] O qL (fun w' hw hS=>zC 26 O zU hS (zC 27 O (yT (vs:=[.agg (OutD.cells o57_).toArray,Vi e59_]) O O) hS (zC 28 O (yT (vs:=[.agg (OutD.cells o57_).toArray,Vi e59_]) O O) hS (zK 29 O hw (yE (v:= .agg #[.slice none 0 0, .bool false, .slice none 0 0, .slice none 0 0]) qM O (fun b17=>zE [0,1,2,3,5] O qL (fun w' hw hS=>zK 30 O hw ?_)))))))
     refine zP (fun w' hw=>Own.qh (i:=7) O hw) (fun hc47_=> ?_)
     refine zP (fun w' hw=>Own.qh (i:=9) O hw) (fun hc48_=> ?_)
     refine zP (fun w' hw=>Own.qh (i:=10) O hw) (fun hc49_=> ?_)
     refine zp 11 O O O (zF hc47_ (zF O (zF hc48_ (zF hc49_ zk)))) O (zE [0,1,2,3,5] O qL (fun w' hw hS=>zC 31 O yN hS (zV ?_)))
     exact⟨b17,n'56_,o57_,⟨O,O,trivial⟩,(by rw[hf25_25_1];exact zK3 hC V hI1 hX1 hi V hf25_25),hw.sel [0,1,6,2,3,4,5,11,7,8] O qL⟩
    refine zm 29 O hw (yE (v:= .agg #[.slice none 0 0, .bool false, .slice none 0 0, .slice none 0 0]) qM O (fun b17=>zE [0,1,3,4,6] O qL (fun w' hw hS=>zK 25 O hw (a_call O O (fun w' hw=>(zKG X1.ns i (zG X1.cbs i) (((m.qd%X1.cbs.length)+1:Nat):Int) (zG X1.ts i) w' V (hX1.cb hi) (hX1.ok hOj hN.2 hi) V (hw.give [2] O qL)).mono ?_)))))
    rintro _ w1 ⟨n'60_,o61_,x62_,e63_,rfl,hf25_25,hf25_25_1,hf25_25_2,hf25_25_3,hO⟩
    refine O12 ?_ (hw.qg [2] O hO)
    refine zE [0,1,2,3,5] O qL (fun w' hw hS=>zC 26 O zU hS (zC 27 O (yT (vs:=[.agg (OutD.cells o61_).toArray,Vi e63_]) O O) hS (zC 28 O (yT (vs:=[.agg (OutD.cells o61_).toArray,Vi e63_]) O O) hS (zK 30 O hw ?_))))
    refine zP (fun w' hw=>Own.qh (i:=8) O hw) (fun hc50_=> ?_)
    refine zP (fun w' hw=>Own.qh (i:=10) O hw) (fun hc51_=> ?_)
    refine zP (fun w' hw=>Own.qh (i:=11) O hw) (fun hc52_=> ?_)
    refine zp 6 O O O (zF hc50_ (zF O (zF hc51_ (zF hc52_ zk)))) O (zE [0,1,2,3,5] O qL (fun w' hw hS=>zC 31 O yN hS (zV ?_)))
    exact⟨b17,n'60_,o61_,⟨O,O,trivial⟩,(by rw[hf25_25_1];exact zK3 hC V hI1 hX1 hi V hf25_25),hw.sel [0,1,7,2,3,4,5,6,8,9] O qL⟩
   have hI26:=hΦ
   have hwl26:(X1.way++o.qk).length≤1000000:=by have h:=(hC.ok _ _ V hI26).wl;unfold NetA.call NetD.a at h;rw[←List.map_append,List.length_map]at h;exact h
   rw[List.length_append]at hwl26
   refine zi [1,3,6,7,8] O qL qM (fun w' hw hS=>zC 0 O zU hS (zC 1 O zU hS (zC 2 O (zQ O) hS (zC 3 O (zH (o:=2) O) hS (zC 5 O (zH (o:=0) O) hS (zC 6 O (za 3 (v:=o.mv) O O O) hS (zK 4 O hw (zL 0 (v:=X1.wv) O O O O (zE [1,3,6,7,8] O qL (fun w' hw hS=>zK 7 O hw ?_))))))))))
   refine zP (fun w' hw=>MsgD.c1all (MsgD.rd.star0 9 O hw)) (fun hc56_=> ?_)
   refine z8 (g:=MsgD.cells) (sz:=14) (by':=176) (fun _=>O) (l:=X1.way) (l':=o.qk) hc56_ 4 qM O O O (fun w' hw'=>Vec.sl (Own.holds hw' 8 _ O)) qN qL O (fun v283=>zE [1,3,6,7,8] O qL (fun w' hw hS=>zC 8 O (zQ O) hS (zC 9 O (zH (o:=2) O) hS (zK 10 O hw ?_))))
   refine zP (fun w' hw=>Own.qh (i:=4) O hw) (fun hc57_=> ?_)
   refine zn (cs:=(NetD.cells X1)) 0 O O O hc57_ O (zE [1,3,6,7,8] O qL (fun w' hw hS=>zV ?_))
   exact(yJ O (fun w' hw=>⟨({X1 with ns:=X1.ns.set i ((zG X1.ns i).put (zG X1.ns i).qd n'),ts:=X1.ts,wv:=v283,way:=X1.way++o.qk}:NetD),O,(by rw[NetD.a_call];exact hI26),hX1.upd hi htl1 hX1.ts,hmv.1,hmv.2.1,hmv.2.2,((hw.starApp 5 9 qL O O).sel [0,1,2,3,4,5] O qL)⟩)) _ hw
  exact yd (yJ O (fun w' hw=>⟨X1,O,hC.up _ _ hI1,hX1,hmv.1,hmv.2.1,hmv.2.2,hw.sel [0,1,2,3,4,5] O qL⟩))
end Go.Proofs.YtkkeknmkipkbmaaGreat
