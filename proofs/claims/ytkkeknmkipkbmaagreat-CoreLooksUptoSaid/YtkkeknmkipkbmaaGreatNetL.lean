import Derived.Test.YtkkeknmkipkbmaaGreatLok
set_option linter.unusedSectionVars false
set_option linter.unusedSimpArgs false
set_option linter.unusedVariables false
set_option maxRecDepth 10000
set_option maxHeartbeats 2000000
namespace Go.Proofs.YtkkeknmkipkbmaaGreat
open Go Go.Sc Go.Proofs
theorem Vec.le9{w:World}{e:TypeId}{sz:Nat}{v:Value}{n:Nat}{cs:List Value}(h:w.ownsRow 0 e sz v n cs):n≤9223372036854775807:=by
  rcases Vec.sl h with⟨_,_,h,_⟩|⟨b,off,cap,_,h1,h2,_⟩
  · omega
  exact Nat.le_trans h1.1 (Nat.le_trans h2 qM)
theorem zL0{a:Int}{b:Nat}(h:0≤a):a.tmod ((b:Nat):Int)=((a.toNat%b:Nat):Int):=by
  obtain⟨k,rfl⟩:=Int.eq_ofNat_of_zero_le h
  rfl
theorem zDs{S:List Nat}(b fl:Nat)(ov rv xv:Value)(sh:Bool)(rs:List RdyD)(w:World)(hc1:cell1 ov=true)(hc2:cell1 rv=true)(hc3:cell1 xv=true)(hf:fl≤100000000)(hR:∀ r∈rs,fl≤r.index)(hin:Own w S [vR rv rs] w)(hib:Rd w S (Res.row b 3 [Vj fl])):Rets Tryz.prog 23 #[.agg #[ov, .bool sh,rv,xv],pt b] w fun u_ w'=>u_= .bool true∧Own w S [vR rv rs] w':=by
  have ho:=Vec.le9 (hin.holds 0 _ rfl)
  refine zW Tryz.func23 O Tryz.ntmps23 hin ?_
  refine zC (z8 O O (fun b2=>zI O (zA (zP (zC (zI O (zA (zZ ?_))))))))
  refine xT (fun(k:Nat)=>[(1,pt b),(2,pt b2),(4,Vj k)]) (fun(k:Nat)=>k≤rs.length) (fun(k:Nat)=>[vR rv rs,Res.row b2 44 [ov, .bool sh,rv,xv]]) (fun(k:Nat)=>rs.length - k) (fun w' hw=>⟨0,⟨O,O,O,trivial⟩,Nat.zero_le _,hw⟩) (fun k g hΦ=> ?_)
  have hk:=hΦ
  refine zP (zC (zD O (zK (o:=2) O O (zM 1 (v:=rv) O O O O (zp (pV 0 O) O O (yI O O O (zA (za O (fun c1=> ?_) (fun c1=> ?_)))))))))
  ·refine zQ (zP (zZ (yb qN qN (zL O (zH (o:=2) O) (zL O (zY 1 (v:=rv) O O O) (zL O zS (zL O (yz (pV 0 O) 2 k O O O V) (zL O (zH (o:=0) O) (zL O (x0 (pV 0 O) 2 k 0 (off:=xH rv+k*2+0) (fun _=>O) O V V O) (zL O (zCq O O) (zL O zS (zCM (q:=(((zG rs k).id:Nat):Int)=((77:Nat):Int)) 9 7 [28,27,26,25,24,23,22,21,20] ((((zG rs k).index:Nat):Int)<((fl:Nat):Int)) O O O O O O trivial O (fun h4_7=> ?_) (fun g4_17=> ?_)))))))))))))
   ·refine ym O (gT h4_7) (zL O (zH (o:=2) O) (ym O (gT h4_7) (zL O (zY 1 (v:=rv) O O O) (ym O (gT h4_7) (zL O zS (ym O (gT h4_7) (zL O (yz (pV 0 O) 2 k O O O V) (ym O (gT h4_7) (zL O (zH (o:=1) O) (ym O (gT h4_7) (zL O (x0 (pV 0 O) 2 k 1 (off:=xH rv+k*2+1) (fun _=>O) O V V O) (ym O (gT h4_7) ?_))))))))))))
    refine zL O (zAJ (v:=Vj fl) O (hib.φ.cell O) (hib.far _ (List.mem_singleton.2 O)) qN) (ym O (gT h4_7) (zL O (x7 qN O (xA V) qN) (ym O (gT h4_7) (zL O (zBi O O) ?_))))
    exact zEC O
   refine xi (za O (fun c2=> ?_) (fun c2=> ?_))
   ·exact absurd c2 (by have h:=hR _ (zd (show k<rs.length by omega));omega)
   refine zQ (zV (zD O (zt O O (zr V) O (zI O ?_))))
   exact zg (fun w' hw=>⟨k+1,⟨O,O,O,trivial⟩,V,hw,V⟩)
  refine yF O (zC (zI O (zA ?_)))
  exact zU (z9 (v:= .bool true) O O (fun w' hw=>⟨O,hw.sel [0] O qM⟩))
def LsP(N lk k:Nat)(X:NetD)(leads:List (Nat×Int)):Prop:=X.st N∧zCo N lk leads (X.safe.map EntD.toEntA) (10*k) X.a
theorem zP6{N:Nat}{X:NetD}(hN:1≤N∧N≤5)(h:X.st N)(ha:X.a=⟨(List.range N).map js,[]⟩)(hs:X.safe=[]):LsP N 0 0 X []:=by
  refine⟨h,?_⟩
  rw[ha,hs]
  have hn:∀ i,i<N→zG ((List.range N).map js) i=js i:=fun i hi=>by rw[kY (by rw[List.length_range];exact hi)];congr 1;exact nth_eq (List.getElem?_range hi)
  obtain⟨h1,g,h2,⟨h3,h4⟩,rfl⟩:=zO4 (lk:=0) (F:=fun g=>(LeadF [] g∧SafeF [] g)∧g=g0) hN ⟨⟨fun T j e=>(by cases e),⟨Nat.zero_le _, .inl rfl⟩⟩,rfl⟩
  refine⟨h1,g0,h2,⟨h3,h4⟩,fun i hi hr=> ?_,fun m hm=>absurd hm qQ,fun i hi l hl=> ?_⟩
  · exact fun c hc=>absurd hc wc
  rw[show(⟨(List.range N).map js,[]⟩:NetA).nodes=(List.range N).map js from rfl,hn i hi]at hl;cases hl
theorem zHq{N lk:Nat}{leads:List (Nat×Int)}{safe:List EntA}(hN:1≤N∧N≤5)(hlk:lk≤1):Clo N true (fun k X=>zCo N lk leads safe (10*k) X):=(zBn hN).toStp.clo hN V
theorem zGo{N lk k:Nat}{leads:List (Nat×Int)}{X:NetD}(hN:1≤N∧N≤5)(hlk:lk≤1)(hk:k≤2000)(h:LsP N lk k X leads):NetOk N X.a:=(zHq hN hlk).ok k X.a hk h.2
theorem zOj{N lk k m:Nat}{leads:List (Nat×Int)}{X:NetD}{wv:Value}(hN:1≤N∧N≤5)(hlk:lk≤1)(h:LsP N lk k X leads):LsP N lk k ({X with wv:=wv,way:=X.way.take m}:NetD) leads:=
  ⟨⟨h.1.len,h.1.cbs,h.1.tsl,h.1.ts,h.1.con⟩,(zHq hN hlk).sub k _ _ h.2 ((List.take_sublist m X.way).map MsgD.a)⟩
theorem zOq{N k:Nat}{leads leads':List (Nat×Int)}{X:NetD}{sv:Value}{safe:List EntD}{gh:Gh}(h:LsP N 0 k X leads)(hg:GhI N gh X.a)(hc:LcI N gh X.a)(hR:zKZ N gh X.a)(hf:LeadF leads' gh∧SafeF (safe.map EntD.toEntA) gh):LsP N 0 k ({X with sv:=sv,safe:=safe}:NetD) leads':=by
  refine⟨⟨h.1.len,h.1.cbs,h.1.tsl,h.1.ts,h.1.con⟩,h.2.1,gh,hg,hf,hc,hR,fun i hi l hl q hq=> ?_⟩
  have:=((h.2.1.B i hi).ld l hl).qj
  rw[List.eq_nil_of_length_eq_zero (l:=l.qj) V]at hq
  cases hq
theorem zH6{N k i:Nat}{leads:List (Nat×Int)}{safe:List EntA}{X:NetA}{now e:Int}{n:NodA}{x:OutA}(hN:1≤N∧N≤5)(hk:k≤1900)(h:zCo N 0 leads safe (10*k) X)(hi:i<N)(hn:0≤now∧now≤2000000000000)(hx:((n,x),e)=zAY (aN i) (y5 N) 77 false now (zG X.nodes i)):
    zCo N (if e=0 then 1 else 0) leads safe (10*(k+1)) (X.call i n x.ms)∧∀ r∈x.qw,safe.length≤r.index:=by
  by_cases c:e=0
  · rw[if_pos c]
    have h1:zCo N 1 leads safe (10*k) X:=⟨h.1.lk (Nat.zero_le _),h.2⟩
    have hS:=zBn (lk:=1) (leads:=leads) (safe:=safe) hN
    have hcx:=hS.toStp.cx hN h1 hi
    have hr:=zLP (x:=(n,x)) hcx (show 10*k≤99940 by omega) hn (fun l hl=>by have:=((h.1.B i hi).ld l hl).qj;omega) hx
    exact⟨hS.toStp.rn hi hr V (show 10*k≤20000 by omega) h1 (fun _ q=>q),hS.rn hi hr V (show 10*k≤20000 by omega) h1 (fun _ q=>q)⟩
  rw[if_neg c]
  have hS:=zBn (lk:=0) (leads:=leads) (safe:=safe) hN
  have hcx:=hS.toStp.cx hN h hi
  have e1:(n,x)=(k8 now (zG X.nodes i),⟨[],[],[]⟩):=by
    unfold zAY at hx
    split at hx
    · exact(Prod.mk.inj hx).1
    split at hx
    · exact(Prod.mk.inj hx).1
    split at hx
    · exact absurd (Prod.mk.inj hx).2 c
    exact(Prod.mk.inj hx).1
  have hr:Rn N true 0 (· ∈X.way) i (0+1) (zG X.nodes i) (n,x):=by rw[e1];exact Rn.last (zBC hcx hn)
  exact⟨hS.toStp.rn hi hr V (show 10*k≤20000 by omega) h (fun _ q=>q),hS.rn hi hr V (show 10*k≤20000 by omega) h (fun _ q=>q)⟩
theorem zBR{N lk k i dr:Nat}{leads:List (Nat×Int)}{X:NetD}{n:NdD}{way o:List MsgD}{wv:Value}(hX:X.st N)(hi:i<N)(h:zCo N lk leads (X.safe.map EntD.toEntA) (10*k) ⟨X.a.nodes.set i n.a,way.map MsgD.a++o.map MsgD.a⟩):LsP N lk k ({X with ns:=X.ns.set i ((zG X.ns i).put dr n),ts:=X.ts,wv:=wv,way:=way++o}:NetD) leads:=
  ⟨hX.upd hi hX.tsl hX.ts,by rw[NetD.a_call];exact h⟩
theorem zIG{N lk k j:Nat}{leads:List (Nat×Int)}{safe:List EntA}{X:NetA}(hN:1≤N∧N≤5)(h:zCo N lk leads safe (10*k) X)(hj:k≤j):zCo N lk leads safe (10*j) X:=by
  have:=(zBn hN).toStp.ups h (10*(j - k))
  rwa [show 10*k+10*(j - k)=10*j by omega]at this
theorem zHW{N lk k i dr:Nat}{now:Int}{leads:List (Nat×Int)}{safe:List EntA}{X:NetA}{m:MsgA}{n:NodA}{x:OutA}(hN:1≤N∧N≤5)(hk:k≤1900)(h:zCo N lk leads safe (10*k) X)(hi:i<N)(hn:0≤now∧now≤2000000000000)(hm:m∈X.way)(hmd:m.dst=(i:Int)+1)(hx:(n,x)=zA3 (aN i) (y5 N) now dr m (zG X.nodes i)):∀ r∈x.qw,safe.length≤r.index:=by
  have hS:=zBn (lk:=lk) (leads:=leads) (safe:=safe) hN
  have:=hS.rn hi (zCf (dr:=dr) (hS.toStp.cx hN h hi) (show 10*k≤_ by omega) hn hm hmd) V (show 10*k≤20000 by omega) h (fun _ q=>q)
  rw[←hx]at this;exact this
theorem zN7(n:Nat)(mv:Value)(ms:List MovD)(at_ who:Nat)(w:World)(hn:n<256)(hml:ms.length≤1000000000000)(hmo:∀ m∈ms,m.ok)(hat:at_<256)(hwho:who<256)(hmv:Rd w [] (Res.sl mv ms.length (ms.flatMap MovD.cells))):Rets Tryz.prog 8 #[.int .u8 (n:Nat),mv, .int .u8 (at_:Nat), .int .u8 (who:Nat)] w fun u_ w'=>u_= .bool true∧Own w [] [] w':=by
  have hN5:1≤n%5+1∧n%5+1≤5:=by omega
  refine zW Tryz.func8 O Tryz.ntmps8 (Own.start w) ?_
  refine zC (zI O (zA (zC (zD O (zMA (c:=((n%5:Nat):Int)) O O V O O (xt qN O (zr V) O ?_ qN))))))
  refine zt O O (zr V) O (a_call O O (fun w' hw=>(zJy w').mono ?_))
  rintro _ w1 ⟨rfl,hO⟩
  refine O0 ?_ (hw.qi hO)
  refine a_call O O (fun w' hw=>(zOL (n%5+1) w' hN5).mono ?_)
  rintro _ w1 ⟨xb1_,mb2_,X3_,rfl,hf1_5,hf1_5_1,hf1_5_2,hf1_5_3,hf1_5_4,hO⟩
  have hcl0:X3_.cbs.length=n%5+1:=by rw[(hf1_5).cbs,List.length_map,(hf1_5).len]
  refine O7 ?_ (hw.qi hO)
  refine zI O (zA (zP (zC (a_call O O (fun w' hw=>(zJB w').mono ?_)))))
  rintro _ w1 ⟨rfl,hO⟩
  refine O7 ?_ (hw.qi hO)
  refine zBu (b:=true) O O (zD O (zR O O (zD O (zR O O (xf qN O O O (j8 O O (zA (xx O (zQ (zP (ze [0,1,3,4,6] O qM qN (fun w' hw hS=>zB 0 O zS hS ?_))))))))))))
  refine zB 1 O (x7 qN O (zr V) qN) hS (zB 2 O zS hS (zB 3 O (zO O) hS (zB 4 O (zH (o:=0) O) hS (zB 5 O (zY 0 (v:=X3_.nv) O O O) hS (zB 6 O (zAA (pV 1 O) O) hS (zB 7 O (zD5 (c:=((who%X3_.cbs.length:Nat):Int)) O O V O) hS (zJ 8 O hw (yC (v:=Vi 0) qN O (fun b11=>zE [0,1,3,4,6] O qM (fun w' hw hS=>zB 9 O yO hS (zJ 10 O hw (zn (cs:=[Vi 0]) 7 O O O O O ?_))))))))))))
  refine zE [0,1,3,4,6] O qM (fun w' hw hS=>zB 11 O yO hS (zT ?_))
  refine Oc8 ?_ hw
  refine zC (zBX (va:=[]) (vb:=[pt b11]) O O O (zI O (zA (zP (zC (zI O (zA (zZ ?_))))))))
  refine zMz (fun(i:Nat) (X:NetD) (leads:List (Nat×Int)) (ak:Bool) (fl wid:Nat)=>[(1,mv),(2, .int .u8 (at_:Nat)),(9,pt xb1_),(10, .bool ak),(11,pt b11),(12,Vj wid),(13, .func (.func 23) #[] #[pt b11]),(14,Vj i)]) (fun(i:Nat) (X:NetD) (leads:List (Nat×Int)) (ak:Bool) (fl wid:Nat)=>((i≤ms.length∧i≤400)∧fl≤X.safe.length∧wid<n%5+1)∧LsP (n%5+1) (if ak=true then 1 else 0) (3*i) X leads) (fun(i:Nat) (X:NetD) (leads:List (Nat×Int)) (ak:Bool) (fl wid:Nat)=>[Res.row xb1_ 73 (NetD.cells X),Res.vec 27 1 X.nv X.cbs.length (X.cbs.flatMap CP),Res.star (X.ns.map CorD.dres),vT X.tv X.ts,vM X.wv X.way,sM X.way,Res.mp ekU ekI X.mb leads,vE X.sv X.safe,sE X.safe,Res.row b11 3 [Vj fl]]) (fun(i:Nat) (X:NetD) (leads:List (Nat×Int)) (ak:Bool) (fl wid:Nat)=>ms.length - i) (fun w' hw=>⟨0,X3_,[],false,0,who%X3_.cbs.length,⟨O,O,O,O,O,O,O,O,trivial⟩,⟨⟨by omega,Nat.zero_le _,by rw[(hf1_5).cbs,List.length_map,(hf1_5).len];exact Nat.mod_lt _ V⟩,zP6 hN5 hf1_5 hf1_5_1 hf1_5_4⟩,(by have h:=(zm hw 81 5).qG;rw[←hf1_5_2,←hf1_5_3]at h;rw[hf1_5_4];exact h.sel [0,1,2,3,4,5,6,8,9,7] rfl qM)⟩) (fun i X leads ak fl wid g hΦ=> ?_)
  have hi:=hΦ.1.1
  have hfl:=hΦ.1.2.1
  have hid:=hΦ.1.2.2
  have hE:=hΦ.2
  refine zP (zC (zD O (zD O (zp (pR hmv) O O (yI O O O (zD O (yJ (q:=((i:Nat):Int)<((ms.length:Nat):Int)) 2 4 [49,48] (((i:Nat):Int)<400) O O O O O O trivial O (fun h7_4=> ?_) (fun g7_7=> ?_))))))))
  ·refine zR O (gT h7_4) (zD O (zR O (gT h7_4) (yI O O O ?_)))
   exact yN O (fun _ hw=>hw)
  refine zA (za O (fun c2=> ?_) (fun c2=> ?_))
  ·refine zQ (zP (zZ (zC (zD O (zD O (zk (pR hmv) 5 i O O O V O (kP (pR hmv) 5 i (off:=xH mv+i*5) (fun _=>O) O O V O (yC (v:= .agg #[Vi 0,Vi 0,Vi 0,Vn 0,Vi 0]) qN O (fun b15=>zo 10 O O O (xO O) O (zA (zOh (fun(X2:NetD) (leads2:List (Nat×Int)) (ak2:Bool) (fl2:Nat)=>[(1,mv),(2, .int .u8 (at_:Nat)),(9,pt xb1_),(10, .bool ak2),(11,pt b11),(12,Vj wid),(13, .func (.func 23) #[] #[pt b11]),(14,Vj i),(15,pt b15)]) (fun(X2:NetD) (leads2:List (Nat×Int)) (ak2:Bool) (fl2:Nat)=>fl2≤X2.safe.length∧LsP (n%5+1) (if ak2=true then 1 else 0) (3*i+1) X2 leads2) (fun(X2:NetD) (leads2:List (Nat×Int)) (ak2:Bool) (fl2:Nat)=>[Res.row xb1_ 73 (NetD.cells X2),Res.vec 27 1 X2.nv X2.cbs.length (X2.cbs.flatMap CP),Res.star (X2.ns.map CorD.dres),vT X2.tv X2.ts,vM X2.wv X2.way,sM X2.way,Res.mp ekU ekI X2.mb leads2,vE X2.sv X2.safe,sE X2.safe,Res.row b11 3 [Vj fl2],Res.row b15 68 (MovD.cells (zG ms i))]) ?_ (fun X2 leads2 ak2 fl2 g hΦ=> ?_))))))))))))
   ·refine zC (zD O (zD O (xt qN O (zr V) O ?_ qN)))
    refine kK O O O (zD O (yJ (q:=((at_:Nat):Int)≤((i:Nat):Int)) 2 4 [63,62] ((!ak)=true) O O O O O O trivial O (fun h10_4=> ?_) (fun g10_7=> ?_)))
    ·refine zR O (gT h10_4) (zD O (zR O (gT h10_4) (zBu (b:=ak) O O ?_)))
     exact yN (xC _) (fun _ hw=>hw)
    refine zA (za O (fun c3=> ?_) (fun c3=> ?_))
    ·have hak:ak=false:=(by simpa using c3.2)
     have hE0:LsP (n%5+1) 0 (3*i) X leads:=(by rw[hak]at hE;exact hE)
     obtain⟨hX,hB,gh,hgh,⟨hLd,hSf⟩,hlc,hrd,hlo⟩:=id hE0
     have hOk:=zGo hN5 V V hE0
     obtain⟨Ld,Sf,hR,hS,hL,hSl,hnx⟩:=zMx (k:=10*(3*i)) V hX hB hgh hLd hSf
     refine zC (zD O (a_call O O (fun w' hw=>(zNe (n%5+1) Ld Sf xb1_ X leads w' hN5 hX hOk hR hS hL hSl (hw.give [0,1,2,6,7,8] O qM)).mono ?_)))
     rintro _ w1 ⟨leads'4_,sv'5_,safe'6_,rfl,hf11_1,hf11_1_1,hf11_1_2,hf11_1_3,hO⟩
     have hn2:=hnx _ _ hf11_1 hf11_1_1
     have hE1:=zOq (sv:=sv'5_) (safe:=safe'6_) hE0 hgh hlc hrd hn2
     have hE1a:zCo (n%5+1) 0 leads'4_ (safe'6_.map EntD.toEntA) (10*(3*i)) X.a:=hE1.2
     have hcl:X.cbs.length=n%5+1:=by rw[hX.cbs,List.length_map,hX.len]
     have hnl:=hX.len
     have htl:=hX.tsl
     have hti:=hX.ts _ (zd (show wid<X.ts.length by omega))
     have hsl:safe'6_.length≤100000:=Nat.le_trans hf11_1_3 hSl
     refine O11 ?_ (hw.qh [0,1,2,6,7,8] O hO)
     refine zA (zC (zD O (zb O O (zK (o:=4) O O (zM 5 (v:=sv'5_) O O O O (zp (pV 9 O) O O (zn (cs:=[Vj fl]) 3 O O O O O (zA (zP (ze [0,1,3,4,5,6,8,9] O qM qN (fun w' hw hS=>zB 0 O zS hS (zB 1 O (zO O) hS ?_))))))))))))
     refine zB 2 O (zH (o:=0) O) hS (zB 3 O (zY 4 (v:=X.nv) O O O) hS (zB 4 O zS hS (zB 5 O (yz (pV 5 O) 1 wid O O O V) hS (zB 6 O (x0 (pV 5 O) 1 wid 0 (fun _=>O) O O V O) hS (zB 7 O zS hS (zB 8 O (zO O) hS (zB 9 O (zH (o:=1) O) hS (zB 10 O (zY 4 (v:=X.tv) O O O) hS (zB 11 O zS hS (zB 12 O (yz (pV 0 O) 1 wid O O O V) hS (zB 13 O (x0 (pV 0 O) 1 wid 0 (fun _=>O) O O V O) hS (zq 14 18 ?_ ?_))))))))))))
     ·refine zl 14 O hw (a_call O O (fun w' hw=>(zMT X.ns wid (zG X.cbs wid) 77 false (zG X.ts wid) w' V (hX.cb hid) (hX.ok hOk hN5.2 hid) V (hw.give [7] O qM)).mono ?_))
      rintro _ w1 ⟨n'7_,o8_,x9_,e10_,rfl,hf13_14,hf13_14_1,hf13_14_2,hf13_14_3,hO⟩
      have hrF:=hf13_14
      rw[(hX.con _ hid).1,(hX.con _ hid).2,←NetD.at_ V]at hrF
      obtain⟨hE2,hR2⟩:=zH6 hN5 (k:=3*i) V hE1a hid V hrF
      have hRo:∀ r∈o8_.qw,safe'6_.length≤r.index:=fun r hr=>by
       rw[hf13_14_2]at hr
       have:=hR2 r hr
       rwa [List.length_map]at this
      have hE3:∀ wv:Value,LsP (n%5+1) (if decide (e10_=0)=true then 1 else 0) (3*i+1) ({X with sv:=sv'5_,safe:=safe'6_,ns:=X.ns.set wid ((zG X.ns wid).put (zG X.ns wid).qe n'7_),ts:=X.ts,wv:=wv,way:=X.way++o8_.qk}:NetD) leads'4_:=fun wv=>by
       rw[show(if decide (e10_=0)=true then 1 else 0)=(if e10_=0 then 1 else 0)by by_cases c:e10_=0<;>simp[c]]
       exact zBR (X:=({X with sv:=sv'5_,safe:=safe'6_}:NetD)) hE1.1 hid (by rw[hf13_14_1];exact hE2)
      have hol1:X.way.length+o8_.qk.length≤1000000:=by
       have h:=(zGo hN5 (by split<;>omega) V (hE3 X.wv)).wl
       unfold NetD.a at h
       rw[List.length_map,List.length_append]at h;exact h
      refine O15 ?_ (hw.qh [7] O hO)
      refine zE [0,1,3,4,5,6,7,8] O qM (fun w' hw hS=>zB 15 O zS hS (zB 16 O (yT (vs:=[.agg (OutD.cells o8_).toArray,Vi e10_]) O O) hS (zB 17 O (yT (vs:=[.agg (OutD.cells o8_).toArray,Vi e10_]) O O) hS (zJ 18 O hw (yC (v:= .agg #[.slice none 0 0, .bool false, .slice none 0 0, .slice none 0 0]) qN O (fun b16=>zE [0,1,3,4,5,6,7,8] O qM (fun w' hw hS=>zJ 19 O hw ?_)))))))
      refine zN (fun w' hw=>Own.qg (i:=11) O hw) (fun hc1_=> ?_)
      refine zN (fun w' hw=>Own.qg (i:=13) O hw) (fun hc2_=> ?_)
      refine zN (fun w' hw=>Own.qg (i:=14) O hw) (fun hc3_=> ?_)
      refine zo 15 O O O (zF hc1_ (zF O (zF hc2_ (zF hc3_ zh)))) O (zE [0,1,3,4,5,6,7,8] O qM (fun w' hw hS=>zB 20 O yO hS (zT ?_)))
      refine Oc16 ?_ hw
      refine zC (zD O (yR O O O (zI O (zA (zP (ze [0,3,4,6,7,8,11,13,14,15] O qM qN (fun w' hw hS=>zB 0 O zS hS (zB 1 O zS hS (zB 2 O (zO O) hS (zB 3 O (zH (o:=2) O) hS (zB 5 O (zH (o:=0) O) hS (zB 6 O (zY 9 (v:=o8_.mv) O O O) hS ?_))))))))))))
      refine zJ 4 O hw (zM 5 (v:=X.wv) O O O O (zE [0,3,4,6,7,8,11,13,14,15] O qM (fun w' hw hS=>zJ 7 O hw ?_)))
      refine zN (fun w' hw=>MsgD.c1all (MsgD.rd.star0 12 O hw)) (fun hc7_=> ?_)
      refine zy (g:=MsgD.cells) (sz:=14) (by':=176) (fun _=>O) (l:=X.way) (l':=o8_.qk) hc7_ 1 qN O O O (fun w' hw'=>Vec.sl (Own.holds hw' 11 _ O)) qO qM O (fun v99=>zE [0,3,4,6,7,8,11,13,14,15] O qM (fun w' hw hS=>zB 8 O (zO O) hS (zB 9 O (zH (o:=2) O) hS (zJ 10 O hw ?_))))
      refine zN (fun w' hw=>Own.qg (i:=1) O hw) (fun hc8_=> ?_)
      refine zn 5 O O O hc8_ O (zE [0,3,4,6,7,8,11,13,14,15] O qM (fun w' hw hS=>zT ?_))
      refine Oc16 ?_ hw
      refine zC (zD O (yL (cs:=(OutD.cells o8_)) 15 O O O (yV (fst:=[]) (cap:=[pt b11]) O qN O O (fun w' hw=>(zDs b11 safe'6_.length o8_.mv o8_.rv o8_.xv o8_.shot o8_.qw w' qO qO qO qO hRo (hw.give [13] O qM) (hw.rdRes 3 O [13] O O)).mono ?_))))
      rintro _ w1 ⟨rfl,hO⟩
      refine O16 ?_ (hw.qh [13] O hO)
      refine zBu (b:=true) O O (zA (xx O ?_))
      exact yZ (fun w' hw=>⟨({X with sv:=sv'5_,safe:=safe'6_,ns:=X.ns.set wid ((zG X.ns wid).put (zG X.ns wid).qe n'7_),ts:=X.ts,wv:=v99,way:=X.way++o8_.qk}:NetD),leads'4_,decide (e10_=0),safe'6_.length,⟨O,O,O,O,O,O,O,O,O,trivial⟩,⟨Nat.le_refl _,hE3 _⟩,((hw.starApp 2 12 qM O O).sel [5,6,10,0,1,2,7,8,9,3,4] O qM)⟩)
     refine zl 18 O hw (yC (v:= .agg #[.slice none 0 0, .bool false, .slice none 0 0, .slice none 0 0]) qN O (fun b16=>zE [0,1,3,4,5,6,8,9] O qM (fun w' hw hS=>zJ 14 O hw (a_call O O (fun w' hw=>(zMT X.ns wid (zG X.cbs wid) 77 false (zG X.ts wid) w' V (hX.cb hid) (hX.ok hOk hN5.2 hid) V (hw.give [7] O qM)).mono ?_)))))
     rintro _ w1 ⟨n'11_,o12_,x13_,e14_,rfl,hf13_14,hf13_14_1,hf13_14_2,hf13_14_3,hO⟩
     have hrF:=hf13_14
     rw[(hX.con _ hid).1,(hX.con _ hid).2,←NetD.at_ V]at hrF
     obtain⟨hE2,hR2⟩:=zH6 hN5 (k:=3*i) V hE1a hid V hrF
     have hRo:∀ r∈o12_.qw,safe'6_.length≤r.index:=fun r hr=>by
      rw[hf13_14_2]at hr
      have:=hR2 r hr
      rwa [List.length_map]at this
     have hE3:∀ wv:Value,LsP (n%5+1) (if decide (e14_=0)=true then 1 else 0) (3*i+1) ({X with sv:=sv'5_,safe:=safe'6_,ns:=X.ns.set wid ((zG X.ns wid).put (zG X.ns wid).qe n'11_),ts:=X.ts,wv:=wv,way:=X.way++o12_.qk}:NetD) leads'4_:=fun wv=>by
      rw[show(if decide (e14_=0)=true then 1 else 0)=(if e14_=0 then 1 else 0)by by_cases c:e14_=0<;>simp[c]]
      exact zBR (X:=({X with sv:=sv'5_,safe:=safe'6_}:NetD)) hE1.1 hid (by rw[hf13_14_1];exact hE2)
     have hol1:X.way.length+o12_.qk.length≤1000000:=by
      have h:=(zGo hN5 (by split<;>omega) V (hE3 X.wv)).wl
      unfold NetD.a at h
      rw[List.length_map,List.length_append]at h;exact h
     refine O16 ?_ (hw.qh [7] O hO)
     refine zE [0,1,3,4,5,6,7,8] O qM (fun w' hw hS=>zB 15 O zS hS (zB 16 O (yT (vs:=[.agg (OutD.cells o12_).toArray,Vi e14_]) O O) hS (zB 17 O (yT (vs:=[.agg (OutD.cells o12_).toArray,Vi e14_]) O O) hS (zJ 19 O hw ?_))))
     refine zN (fun w' hw=>Own.qg (i:=12) O hw) (fun hc9_=> ?_)
     refine zN (fun w' hw=>Own.qg (i:=14) O hw) (fun hc10_=> ?_)
     refine zN (fun w' hw=>Own.qg (i:=15) O hw) (fun hc11_=> ?_)
     refine zo 10 O O O (zF hc9_ (zF O (zF hc10_ (zF hc11_ zh)))) O (zE [0,1,3,4,5,6,7,8] O qM (fun w' hw hS=>zB 20 O yO hS (zT ?_)))
     refine Oc16 ?_ hw
     refine zC (zD O (yR O O O (zI O (zA (zP (ze [0,3,4,6,7,8,10,12,14,15] O qM qN (fun w' hw hS=>zB 0 O zS hS (zB 1 O zS hS (zB 2 O (zO O) hS (zB 3 O (zH (o:=2) O) hS (zB 5 O (zH (o:=0) O) hS (zB 6 O (zY 6 (v:=o12_.mv) O O O) hS ?_))))))))))))
     refine zJ 4 O hw (zM 5 (v:=X.wv) O O O O (zE [0,3,4,6,7,8,10,12,14,15] O qM (fun w' hw hS=>zJ 7 O hw ?_)))
     refine zN (fun w' hw=>MsgD.c1all (MsgD.rd.star0 13 O hw)) (fun hc15_=> ?_)
     refine zy (g:=MsgD.cells) (sz:=14) (by':=176) (fun _=>O) (l:=X.way) (l':=o12_.qk) hc15_ 1 qN O O O (fun w' hw'=>Vec.sl (Own.holds hw' 12 _ O)) qO qM O (fun v99=>zE [0,3,4,6,7,8,10,12,14,15] O qM (fun w' hw hS=>zB 8 O (zO O) hS (zB 9 O (zH (o:=2) O) hS (zJ 10 O hw ?_))))
     refine zN (fun w' hw=>Own.qg (i:=1) O hw) (fun hc16_=> ?_)
     refine zn 5 O O O hc16_ O (zE [0,3,4,6,7,8,10,12,14,15] O qM (fun w' hw hS=>zT ?_))
     refine Oc16 ?_ hw
     refine zC (zD O (yL (cs:=(OutD.cells o12_)) 10 O O O (yV (fst:=[]) (cap:=[pt b11]) O qN O O (fun w' hw=>(zDs b11 safe'6_.length o12_.mv o12_.rv o12_.xv o12_.shot o12_.qw w' qO qO qO qO hRo (hw.give [14] O qM) (hw.rdRes 3 O [14] O O)).mono ?_))))
     rintro _ w1 ⟨rfl,hO⟩
     refine O16 ?_ (hw.qh [14] O hO)
     refine zBu (b:=true) O O (zA (xx O ?_))
     exact yZ (fun w' hw=>⟨({X with sv:=sv'5_,safe:=safe'6_,ns:=X.ns.set wid ((zG X.ns wid).put (zG X.ns wid).qe n'11_),ts:=X.ts,wv:=v99,way:=X.way++o12_.qk}:NetD),leads'4_,decide (e14_=0),safe'6_.length,⟨O,O,O,O,O,O,O,O,O,trivial⟩,⟨Nat.le_refl _,hE3 _⟩,((hw.starApp 2 13 qM O O).sel [5,6,11,0,1,2,7,8,9,3,4] O qM)⟩)
    exact yZ (fun w' hw=>⟨X,leads,ak,fl,⟨O,O,O,O,O,O,O,O,O,trivial⟩,⟨hfl,hE.1,zIG hN5 hE.2 V⟩,hw⟩)
   have hfl2:=hΦ.1
   have hE4:=hΦ.2
   have hX2:=hE4.1
   have hlk:(if ak2=true then 1 else 0)≤1:=by split<;>omega
   have hOk2:=zGo hN5 hlk V hE4
   have hC2:=zHq (leads:=leads2) (safe:=X2.safe.map EntD.toEntA) hN5 hlk
   have hcl2:X2.cbs.length=n%5+1:=by rw[hX2.cbs,List.length_map,hX2.len]
   have hnl2:=hX2.len
   have htl2:=hX2.tsl
   have hwl2:X2.way.length≤1000000:=by have h:=hOk2.wl;unfold NetD.a at h;rwa [List.length_map]at h
   have hmi:=hmo _ (zd (show i<ms.length by omega))
   refine yt (fun(X3:NetD)=>[(1,mv),(2, .int .u8 (at_:Nat)),(9,pt xb1_),(10, .bool ak2),(11,pt b11),(12,Vj wid),(13, .func (.func 23) #[] #[pt b11]),(14,Vj i)]) (fun(X3:NetD)=>fl2≤X3.safe.length∧LsP (n%5+1) (if ak2=true then 1 else 0) (3*i+3) X3 leads2) (fun(X3:NetD)=>[Res.row xb1_ 73 (NetD.cells X3),Res.vec 27 1 X3.nv X3.cbs.length (X3.cbs.flatMap CP),Res.star (X3.ns.map CorD.dres),vT X3.tv X3.ts,vM X3.wv X3.way,sM X3.way,Res.mp ekU ekI X3.mb leads2,vE X3.sv X3.safe,sE X3.safe,Res.row b11 3 [Vj fl2]]) ?_ (fun X3 g hΦ=> ?_)
   ·refine zC (zK (o:=0) O O (zM 10 (v:=Vi ((zG ms i).kind)) O O O O (yR O O O (zD O (yJ (q:=((zG ms i).kind)=1) 6 3 [115,114,113,112,111,110] (0<((X2.way.length:Nat):Int)) O O O O O O trivial O (fun h18_3=> ?_) (fun g18_10=> ?_))))))
    ·refine zR O (gT h18_3) (zD O (zR O (gT h18_3) (zb O O (zR O (gT h18_3) (zK (o:=2) O O (zR O (gT h18_3) (zM 0 (v:=X2.wv) O O O O (zR O (gT h18_3) (zp (pV 4 O) O O (zR O (gT h18_3) (yx O O O ?_)))))))))))
     exact yN O (fun _ hw=>hw)
    refine zD O (yJ (q:=(((zG ms i).kind)=1)∧(0<((X2.way.length:Nat):Int))) 3 11 [120,119,118] (0≤((zG ms i).k)) O O O O O O trivial O (fun h18_11=> ?_) (fun g18_15=> ?_))
    ·refine zR O (gT h18_11) (zK (o:=1) O O (zR O (gT h18_11) (zM 10 (v:=Vi ((zG ms i).k)) O O O O (zR O (gT h18_11) (kK O O O ?_)))))
     exact yN O (fun _ hw=>hw)
    refine zA (za O (fun c6=> ?_) (fun c6=> ?_))
    ·refine yt (fun(q:Nat)=>[(1,mv),(2, .int .u8 (at_:Nat)),(9,pt xb1_),(10, .bool ak2),(11,pt b11),(12,Vj wid),(13, .func (.func 23) #[] #[pt b11]),(14,Vj i),(15,pt b15),(18,Vj q)]) (fun(q:Nat)=>q<X2.way.length) (fun(q:Nat)=>[Res.row xb1_ 73 (NetD.cells X2),Res.vec 27 1 X2.nv X2.cbs.length (X2.cbs.flatMap CP),Res.star (X2.ns.map CorD.dres),vT X2.tv X2.ts,vM X2.wv X2.way,sM X2.way,Res.mp ekU ekI X2.mb leads2,vE X2.sv X2.safe,sE X2.safe,Res.row b11 3 [Vj fl2],Res.row b15 68 (MovD.cells (zG ms i))]) ?_ (fun q g hΦ=> ?_)
     ·refine zIW qN qN (zL O (zH (o:=1) O) (zL O (zY 10 (v:=Vi ((zG ms i).k)) O O O) (zL O zS (zL O (zO O) (zL O (zH (o:=2) O) (zL O (zY 0 (v:=X2.wv) O O O) (zL O (zAA (pV 4 O) O) (zL O (zD5 (c:=(((zG ms i).k.toNat%X2.way.length:Nat):Int)) O O V (zL0 c6.2)) (zL O yO ?_)))))))))
      exact zOg (fun w' hw=>⟨(zG ms i).k.toNat%X2.way.length,⟨O,O,O,O,O,O,O,O,O,O,trivial⟩,(Nat.mod_lt _ V),hw⟩)
     have hkk:=hΦ
     refine zC (zD O (zb O O (zK (o:=2) O O (zM 0 (v:=X2.wv) O O O O (zD O (zk (pV 4 O) 14 q O O O V O (kP (pV 4 O) 14 q (off:=xH X2.wv+q*14) (fun _=>O) O O V O (yC (v:= .agg #[Vi 0,Vi 0,Vi 0,Vn 0,Vn 0,Vn 0,Vn 0,Vn 0, .bool false, .slice none 0 0, .slice none 0 0, .slice none 0 0,Vi 0, .slice none 0 0]) qN O (fun b19=> ?_)))))))))
     refine zN (fun w' hw=>MsgD.c1all (MsgD.rd.star0 5 O hw)) (fun hca=> ?_)
     refine zN (fun w' hw=>Sl.cell1 (Rd.φ (MsgD.rd.star0 5 O hw _ (zd (l:=X2.way) (j:=q) V)).ev)) (fun hc17_=> ?_)
     refine zN (fun w' hw=>Sl.cell1 (Rd.φ (MsgD.rd.star0 5 O hw _ (zd (l:=X2.way) (j:=q) V)).dv)) (fun hc18_=> ?_)
     refine zo 11 O O O (hca _ (zd hkk)) O (zA (zC (zx (e:=59) (sz:=14) (vs:=[]) qN O O qY qM O (fun b137=>zD O (zb O O (zK (o:=2) O O (zM 0 (v:=X2.wv) O O O O (zD O (kW (pV 4 O) 14 0 q qN O O ⟨_,O⟩ V V O (zy (g:=MsgD.cells) (sz:=14) (by':=176) (fun _=>O) (l:=[]) (l':=((X2.way.take q).drop 0)) (fun x hx=>hca x (List.mem_of_mem_take (List.mem_of_mem_drop hx))) 12 qN O O O (fun w' hw'=>Sl.subL_f (g:=MsgD.cells) (xs:=X2.way) (sz:=14) (fun _=>O) ((fun w' hw'=>Vec.sl (Own.holds hw' 4 _ O)) w' hw') (l:=0) (h:=q) V V) qO qM O (fun v144=>zI O (zA ?_))))))))))))
     refine j9 (fun(wv':Value) (way':List MsgD)=>[(1,mv),(2, .int .u8 (at_:Nat)),(9,pt xb1_),(10, .bool ak2),(11,pt b11),(12,Vj wid),(13, .func (.func 23) #[] #[pt b11]),(14,Vj i),(15,pt b15),(19,pt b19)]) (fun(wv':Value) (way':List MsgD)=>way'.Sublist X2.way) (fun(wv':Value) (way':List MsgD)=>[Res.row xb1_ 73 (NetD.cells ({X2 with wv:=wv',way:=way'}:NetD)),Res.vec 27 1 X2.nv X2.cbs.length (X2.cbs.flatMap CP),Res.star (X2.ns.map CorD.dres),vT X2.tv X2.ts,vM wv' way',sM X2.way,Res.mp ekU ekI X2.mb leads2,vE X2.sv X2.safe,sE X2.safe,Res.row b11 3 [Vj fl2],Res.row b15 68 (MovD.cells (zG ms i)),Res.row b19 59 (MsgD.cells (zG X2.way q))]) ?_ (fun wv' way' g hΦ=> ?_)
     ·refine zV (zD O (zD O (zD O (zb O O (zK (o:=2) O O (zM 0 (v:=X2.wv) O O O O (zD O (zt O O (zr V) O (kW (pV 4 O) 14 (q+1) X2.way.length qN O ⟨_,O⟩ O V V O (zy (g:=MsgD.cells) (sz:=14) (by':=176) (fun _=>O) (l:=((X2.way.take q).drop 0)) (l':=(X2.way.drop (q+1))) (fun x hx=>hca x (List.mem_of_mem_drop hx)) 12 qN O O O (fun w' hw'=>Sl.dropL_f (g:=MsgD.cells) (xs:=X2.way) (sz:=14) (fun _=>O) ((fun w' hw'=>Vec.sl (Own.holds hw' 4 _ O)) w' hw') (l:=q+1) V) qO qM O (fun v154=>zb O O (zK (o:=2) O O ?_))))))))))))
      refine zN (fun w' hw=>Own.qg (i:=12) O hw) (fun hc19_=> ?_)
      refine zn (cs:=(NetD.cells X2)) 0 O O O hc19_ O ?_
      exact zg (fun w' hw=>⟨v154,((X2.way.take q).drop 0)++(X2.way.drop (q+1)),⟨O,O,O,O,O,O,O,O,O,O,trivial⟩,zIP,hw.sel [0,1,2,3,12,5,6,7,8,9,10,11] O qM⟩)
     have hsub:=hΦ
     have hslw:=hsub.length_le
     have hQ:=hOk2.way _ (List.mem_map_of_mem (f:=MsgD.a) (zd hkk))
     have hqd:1≤(zG X2.way q).dst∧(zG X2.way q).dst≤(n%5+1:Nat):=hQ.dst
     have hqi:((zG X2.way q).dst - 1).toNat<n%5+1:=by omega
     have hti2:=hX2.ts _ (zd (show((zG X2.way q).dst - 1).toNat<X2.ts.length by omega))
     have hqk:(zG X2.way q).kind≠7∧(zG X2.way q).kind≠8:=hQ.kind
     have hmd:=hmi.qe
     have hfs:fl2≤100000:=by obtain⟨_,_,_,⟨_,h⟩,_⟩:=hE4.2;have:=h.1;rw[List.length_map]at this;omega
     refine zP (ze [0,1,3,4,6,7,9,10,11] O qM qN (fun w' hw hS=>zB 0 O zS hS (zB 1 O (zO O) hS (zB 2 O (zH (o:=0) O) hS (zB 3 O (zY 0 (v:=X2.nv) O O O) hS (zB 4 O (zH (o:=2) O) hS (zB 5 O (zY 8 (v:=Vi ((zG X2.way q).dst)) O O O) hS (zB 6 O (xl O O (zr V)) hS (zB 7 O (yz (pV 1 O) 1 ((((zG X2.way q).dst) - 1).toNat) O O V V) hS (zB 8 O (x0 (pV 1 O) 1 ((((zG X2.way q).dst) - 1).toNat) 0 (fun _=>O) O O V O) hS (zB 9 O (x1 (cs:=(MsgD.cells (zG X2.way q))) 8 O O) hS (zB 11 O zS hS ?_))))))))))))
     refine zB 12 O (zO O) hS (zB 13 O (zH (o:=1) O) hS (zB 14 O (zY 0 (v:=X2.tv) O O O) hS (zB 15 O (zH (o:=2) O) hS (zB 16 O (zY 8 (v:=Vi ((zG X2.way q).dst)) O O O) hS (zB 17 O (xl O O (zr V)) hS (zB 18 O (yz (pV 2 O) 1 ((((zG X2.way q).dst) - 1).toNat) O O V V) hS (zB 19 O (x0 (pV 2 O) 1 ((((zG X2.way q).dst) - 1).toNat) 0 (fun _=>O) O O V O) hS (zB 20 O (zH (o:=3) O) hS (zB 21 O (zY 7 (v:=Vn ((zG ms i).qe)) O O O) hS (zq 10 23 ?_ ?_))))))))))
     ·refine zl 10 O hw (a_call O O (fun w' hw=>(zBQ (zG X2.way q) w' (je hQ) (MsgD.rd.star0 5 O hw _ (zd V))).mono ?_))
      rintro _ w1 ⟨r17_,es18_,a19_,b20_,c21_,rfl,hf23_10,hO⟩
      have hes:=hf23_10
      refine O17 ?_ (hw.qi hO)
      refine zE [0,1,3,4,6,7,9,10,11] O qM (fun w' hw hS=>zq 22 23 ?_ ?_)
      ·refine zl 22 O hw (a_call O O (fun w' hw=>(zEX X2.ns (((zG X2.way q).dst - 1).toNat) (zG X2.cbs ((((zG X2.way q).dst) - 1).toNat)) ({(zG X2.way q)with ev:=r17_,qm:=es18_,conf:=({vv:=a19_,vs:=(zG X2.way q).conf.vs,lv:=b20_,ls:=(zG X2.way q).conf.ls}:ConfD),dv:=c21_}:MsgD) (zG X2.ts ((((zG X2.way q).dst) - 1).toNat)) ((zG ms i).qe) w' V (hX2.cb hqi) (hX2.ok hOk2 hN5.2 hqi) V hmd (je (zAn hes hQ)) hqk (hw.give [2] O qM) ⟨(hw.rdVec 12 O [2] O O),(EntD.rd.star 13 O [2] O O hw),⟨(hw.rdVec 14 O [2] O O),(hw.rdVec 15 O [2] O O)⟩,(hw.rdVec 16 O [2] O O)⟩).mono ?_))
       rintro _ w1 ⟨n'22_,dr'23_,o24_,x25_,rfl,hf23_22,hf23_22_1,hf23_22_2,hf23_22_3,hO⟩
       have hR':=zCL hC2 V hE4.2 hX2 hqi V hmd hkk hqd.1 (zA7 hes) hf23_22 hf23_22_1 hsub
       have hol:(way'.length+o24_.qk.length)≤1000000:=by have h:=(hC2.ok _ _ V hR').wl;simp only[List.length_append,List.length_map]at h;exact h
       have hrF2:=hf23_22
       rw[(hX2.con _ hqi).1,(hX2.con _ hqi).2,←NetD.at_ V,zA7 hes]at hrF2
       have hRo2:∀ r∈o24_.qw,fl2≤r.index:=fun r hr=>by
        rw[hf23_22_2]at hr
        have h:=zHW hN5 V hE4.2 hqi V (List.mem_map_of_mem (f:=MsgD.a) (zd hkk)) (by show(zG X2.way q).dst=_;omega) hrF2 r hr
        rw[List.length_map]at h;omega
       have hE7:∀ wv:Value,LsP (n%5+1) (if ak2=true then 1 else 0) (3*i+3) ({X2 with ns:=X2.ns.set ((zG X2.way q).dst - 1).toNat ((zG X2.ns ((zG X2.way q).dst - 1).toNat).put dr'23_ n'22_),ts:=X2.ts,wv:=wv,way:=way'++o24_.qk}:NetD) leads2:=fun wv=>by
        have h:=zBR (k:=3*i+2) (dr:=dr'23_) (wv:=wv) hX2 hqi hR'
        exact⟨h.1,zIG hN5 h.2 V⟩
       refine O21 ?_ (hw.qh [2] O hO)
       refine zE [0,1,2,3,5,6,8,9,10] O qM (fun w' hw hS=>zJ 23 O hw (yC (v:= .agg #[.slice none 0 0, .bool false, .slice none 0 0, .slice none 0 0]) qN O (fun b21=>zE [0,1,2,3,5,6,8,9,10] O qM (fun w' hw hS=>zJ 24 O hw ?_))))
       refine zN (fun w' hw=>Own.qg (i:=17) O hw) (fun hc20_=> ?_)
       refine zN (fun w' hw=>Own.qg (i:=19) O hw) (fun hc21_=> ?_)
       refine zN (fun w' hw=>Own.qg (i:=20) O hw) (fun hc22_=> ?_)
       refine zo 21 O O O (zF hc20_ (zF O (zF hc21_ (zF hc22_ zh)))) O (zE [0,1,2,3,5,6,8,9,10] O qM (fun w' hw hS=>zT ?_))
       refine Oc22 ?_ hw
       refine zP (ze [1,2,5,6,8,9,10,11,13,14,15,17,19,20,21] O qM qN (fun w' hw hS=>zB 0 O zS hS (zB 1 O zS hS (zB 2 O (zO O) hS (zB 3 O (zH (o:=2) O) hS (zB 5 O (zH (o:=0) O) hS (zB 6 O (zY 14 (v:=o24_.mv) O O O) hS (zJ 4 O hw (zM 0 (v:=wv') O O O O (zE [1,2,5,6,8,9,10,11,13,14,15,17,19,20,21] O qM (fun w' hw hS=>zJ 7 O hw ?_)))))))))))
       refine zN (fun w' hw=>MsgD.c1all (MsgD.rd.star0 18 O hw)) (fun hc26_=> ?_)
       refine zy (g:=MsgD.cells) (sz:=14) (by':=176) (fun _=>O) (l:=way') (l':=o24_.qk) hc26_ 3 qN O O O (fun w' hw'=>Vec.sl (Own.holds hw' 17 _ O)) qO qM O (fun v187=>zE [1,2,5,6,8,9,10,11,13,14,15,17,19,20,21] O qM (fun w' hw hS=>zB 8 O (zO O) hS (zB 9 O (zH (o:=2) O) hS (zJ 10 O hw ?_))))
       refine zN (fun w' hw=>Own.qg (i:=3) O hw) (fun hc27_=> ?_)
       refine zn (cs:=(NetD.cells ({X2 with wv:=wv',way:=way'}:NetD))) 0 O O O hc27_ O (zE [1,2,5,6,8,9,10,11,13,14,15,17,19,20,21] O qM (fun w' hw hS=>zT ?_))
       refine Oc22 ?_ hw
       refine zC (zK (o:=2) O O (zM 10 (v:=Vi ((zG X2.way q).dst)) O O O O (x8 O O (zr V) O (zD O (yR O O O (zD O (yJ (q:=(((zG X2.way q).dst) - 1)=((wid:Nat):Int)) 4 5 [199,198,197,196] (false=true) O O O O O O trivial O (fun h25_5=> ?_) (fun g25_10=> ?_))))))))
       ·refine zR O (gT h25_5) (zD O (zR O (gT h25_5) (yL (cs:=(OutD.cells o24_)) 21 O O O (zR O (gT h25_5) (yV (fst:=[]) (cap:=[pt b11]) O qN O O (fun w' hw=>(zDs b11 fl2 o24_.mv o24_.rv o24_.xv o24_.shot o24_.qw w' qO qO qO qO hRo2 (hw.give [19] O qM) (hw.rdRes 8 O [19] O O)).mono ?_))))))
        rintro _ w1 ⟨rfl,hO⟩
        refine O22 ?_ (hw.qh [19] O hO)
        refine zR O (gT h25_5) (zBu (b:=true) O O ?_)
        exact yN (xC _) (fun _ hw=>hw.sel [0,1,2,3,4,5,6,7,8,9,10,11,12,13,14,15,16,17,18,21,19,20] O qM)
       refine zA (za O (fun c7=> ?_) (fun c7=> ?_))
       ·exact absurd c7.2 qM
       exact yZ (fun w' hw=>⟨({X2 with ns:=X2.ns.set ((zG X2.way q).dst - 1).toNat ((zG X2.ns ((zG X2.way q).dst - 1).toNat).put dr'23_ n'22_),ts:=X2.ts,wv:=v187,way:=way'++o24_.qk}:NetD),⟨O,O,O,O,O,O,O,O,trivial⟩,⟨hfl2,hE7 _⟩,(((hw.qK 4 hsub O).starApp 4 18 qM O O).sel [0,1,16,2,3,4,5,6,7,8] O qM)⟩)
      refine zl 23 O hw (yC (v:= .agg #[.slice none 0 0, .bool false, .slice none 0 0, .slice none 0 0]) qN O (fun b21=>zE [0,1,3,4,6,7,9,10,11] O qM (fun w' hw hS=>zJ 22 O hw (a_call O O (fun w' hw=>(zEX X2.ns (((zG X2.way q).dst - 1).toNat) (zG X2.cbs ((((zG X2.way q).dst) - 1).toNat)) ({(zG X2.way q)with ev:=r17_,qm:=es18_,conf:=({vv:=a19_,vs:=(zG X2.way q).conf.vs,lv:=b20_,ls:=(zG X2.way q).conf.ls}:ConfD),dv:=c21_}:MsgD) (zG X2.ts ((((zG X2.way q).dst) - 1).toNat)) ((zG ms i).qe) w' V (hX2.cb hqi) (hX2.ok hOk2 hN5.2 hqi) V hmd (je (zAn hes hQ)) hqk (hw.give [2] O qM) ⟨(hw.rdVec 12 O [2] O O),(EntD.rd.star 13 O [2] O O hw),⟨(hw.rdVec 14 O [2] O O),(hw.rdVec 15 O [2] O O)⟩,(hw.rdVec 16 O [2] O O)⟩).mono ?_)))))
      rintro _ w1 ⟨n'26_,dr'27_,o28_,x29_,rfl,hf23_22,hf23_22_1,hf23_22_2,hf23_22_3,hO⟩
      have hR':=zCL hC2 V hE4.2 hX2 hqi V hmd hkk hqd.1 (zA7 hes) hf23_22 hf23_22_1 hsub
      have hol:(way'.length+o28_.qk.length)≤1000000:=by have h:=(hC2.ok _ _ V hR').wl;simp only[List.length_append,List.length_map]at h;exact h
      have hrF2:=hf23_22
      rw[(hX2.con _ hqi).1,(hX2.con _ hqi).2,←NetD.at_ V,zA7 hes]at hrF2
      have hRo2:∀ r∈o28_.qw,fl2≤r.index:=fun r hr=>by
       rw[hf23_22_2]at hr
       have h:=zHW hN5 V hE4.2 hqi V (List.mem_map_of_mem (f:=MsgD.a) (zd hkk)) (by show(zG X2.way q).dst=_;omega) hrF2 r hr
       rw[List.length_map]at h;omega
      have hE7:∀ wv:Value,LsP (n%5+1) (if ak2=true then 1 else 0) (3*i+3) ({X2 with ns:=X2.ns.set ((zG X2.way q).dst - 1).toNat ((zG X2.ns ((zG X2.way q).dst - 1).toNat).put dr'27_ n'26_),ts:=X2.ts,wv:=wv,way:=way'++o28_.qk}:NetD) leads2:=fun wv=>by
       have h:=zBR (k:=3*i+2) (dr:=dr'27_) (wv:=wv) hX2 hqi hR'
       exact⟨h.1,zIG hN5 h.2 V⟩
      refine O22 ?_ (hw.qh [2] O hO)
      refine zE [0,1,2,3,5,6,8,9,10] O qM (fun w' hw hS=>zJ 24 O hw ?_)
      refine zN (fun w' hw=>Own.qg (i:=18) O hw) (fun hc28_=> ?_)
      refine zN (fun w' hw=>Own.qg (i:=20) O hw) (fun hc29_=> ?_)
      refine zN (fun w' hw=>Own.qg (i:=21) O hw) (fun hc30_=> ?_)
      refine zo 16 O O O (zF hc28_ (zF O (zF hc29_ (zF hc30_ zh)))) O (zE [0,1,2,3,5,6,8,9,10] O qM (fun w' hw hS=>zT ?_))
      refine Oc22 ?_ hw
      refine zP (ze [1,2,5,6,8,9,10,11,13,14,15,16,18,20,21] O qM qN (fun w' hw hS=>zB 0 O zS hS (zB 1 O zS hS (zB 2 O (zO O) hS (zB 3 O (zH (o:=2) O) hS (zB 5 O (zH (o:=0) O) hS (zB 6 O (zY 11 (v:=o28_.mv) O O O) hS (zJ 4 O hw (zM 0 (v:=wv') O O O O (zE [1,2,5,6,8,9,10,11,13,14,15,16,18,20,21] O qM (fun w' hw hS=>zJ 7 O hw ?_)))))))))))
      refine zN (fun w' hw=>MsgD.c1all (MsgD.rd.star0 19 O hw)) (fun hc34_=> ?_)
      refine zy (g:=MsgD.cells) (sz:=14) (by':=176) (fun _=>O) (l:=way') (l':=o28_.qk) hc34_ 3 qN O O O (fun w' hw'=>Vec.sl (Own.holds hw' 18 _ O)) qO qM O (fun v187=>zE [1,2,5,6,8,9,10,11,13,14,15,16,18,20,21] O qM (fun w' hw hS=>zB 8 O (zO O) hS (zB 9 O (zH (o:=2) O) hS (zJ 10 O hw ?_))))
      refine zN (fun w' hw=>Own.qg (i:=3) O hw) (fun hc35_=> ?_)
      refine zn (cs:=(NetD.cells ({X2 with wv:=wv',way:=way'}:NetD))) 0 O O O hc35_ O (zE [1,2,5,6,8,9,10,11,13,14,15,16,18,20,21] O qM (fun w' hw hS=>zT ?_))
      refine Oc22 ?_ hw
      refine zC (zK (o:=2) O O (zM 10 (v:=Vi ((zG X2.way q).dst)) O O O O (x8 O O (zr V) O (zD O (yR O O O (zD O (yJ (q:=(((zG X2.way q).dst) - 1)=((wid:Nat):Int)) 4 5 [199,198,197,196] (false=true) O O O O O O trivial O (fun h25_5=> ?_) (fun g25_10=> ?_))))))))
      ·refine zR O (gT h25_5) (zD O (zR O (gT h25_5) (yL (cs:=(OutD.cells o28_)) 16 O O O (zR O (gT h25_5) (yV (fst:=[]) (cap:=[pt b11]) O qN O O (fun w' hw=>(zDs b11 fl2 o28_.mv o28_.rv o28_.xv o28_.shot o28_.qw w' qO qO qO qO hRo2 (hw.give [20] O qM) (hw.rdRes 8 O [20] O O)).mono ?_))))))
       rintro _ w1 ⟨rfl,hO⟩
       refine O22 ?_ (hw.qh [20] O hO)
       refine zR O (gT h25_5) (zBu (b:=true) O O ?_)
       exact yN (xC _) (fun _ hw=>hw.sel [0,1,2,3,4,5,6,7,8,9,10,11,12,13,14,15,16,17,18,19,21,20] O qM)
      refine zA (za O (fun c8=> ?_) (fun c8=> ?_))
      ·exact absurd c8.2 qM
      exact yZ (fun w' hw=>⟨({X2 with ns:=X2.ns.set ((zG X2.way q).dst - 1).toNat ((zG X2.ns ((zG X2.way q).dst - 1).toNat).put dr'27_ n'26_),ts:=X2.ts,wv:=v187,way:=way'++o28_.qk}:NetD),⟨O,O,O,O,O,O,O,O,trivial⟩,⟨hfl2,hE7 _⟩,(((hw.qK 4 hsub O).starApp 4 19 qM O O).sel [0,1,17,2,3,4,5,6,7,8] O qM)⟩)
     refine zl 23 O hw (yC (v:= .agg #[.slice none 0 0, .bool false, .slice none 0 0, .slice none 0 0]) qN O (fun b21=>zE [0,1,3,4,6,7,9,10,11] O qM (fun w' hw hS=>zJ 10 O hw (a_call O O (fun w' hw=>(zBQ (zG X2.way q) w' (je hQ) (MsgD.rd.star0 5 O hw _ (zd V))).mono ?_)))))
     rintro _ w1 ⟨r30_,es31_,a32_,b33_,c34_,rfl,hf23_10,hO⟩
     have hes:=hf23_10
     refine O18 ?_ (hw.qi hO)
     refine zE [0,1,3,4,6,7,9,10,11] O qM (fun w' hw hS=>zJ 22 O hw (a_call O O (fun w' hw=>(zEX X2.ns (((zG X2.way q).dst - 1).toNat) (zG X2.cbs ((((zG X2.way q).dst) - 1).toNat)) ({(zG X2.way q)with ev:=r30_,qm:=es31_,conf:=({vv:=a32_,vs:=(zG X2.way q).conf.vs,lv:=b33_,ls:=(zG X2.way q).conf.ls}:ConfD),dv:=c34_}:MsgD) (zG X2.ts ((((zG X2.way q).dst) - 1).toNat)) ((zG ms i).qe) w' V (hX2.cb hqi) (hX2.ok hOk2 hN5.2 hqi) V hmd (je (zAn hes hQ)) hqk (hw.give [2] O qM) ⟨(hw.rdVec 13 O [2] O O),(EntD.rd.star 14 O [2] O O hw),⟨(hw.rdVec 15 O [2] O O),(hw.rdVec 16 O [2] O O)⟩,(hw.rdVec 17 O [2] O O)⟩).mono ?_)))
     rintro _ w1 ⟨n'35_,dr'36_,o37_,x38_,rfl,hf23_22,hf23_22_1,hf23_22_2,hf23_22_3,hO⟩
     have hR':=zCL hC2 V hE4.2 hX2 hqi V hmd hkk hqd.1 (zA7 hes) hf23_22 hf23_22_1 hsub
     have hol:(way'.length+o37_.qk.length)≤1000000:=by have h:=(hC2.ok _ _ V hR').wl;simp only[List.length_append,List.length_map]at h;exact h
     have hrF2:=hf23_22
     rw[(hX2.con _ hqi).1,(hX2.con _ hqi).2,←NetD.at_ V,zA7 hes]at hrF2
     have hRo2:∀ r∈o37_.qw,fl2≤r.index:=fun r hr=>by
      rw[hf23_22_2]at hr
      have h:=zHW hN5 V hE4.2 hqi V (List.mem_map_of_mem (f:=MsgD.a) (zd hkk)) (by show(zG X2.way q).dst=_;omega) hrF2 r hr
      rw[List.length_map]at h;omega
     have hE7:∀ wv:Value,LsP (n%5+1) (if ak2=true then 1 else 0) (3*i+3) ({X2 with ns:=X2.ns.set ((zG X2.way q).dst - 1).toNat ((zG X2.ns ((zG X2.way q).dst - 1).toNat).put dr'36_ n'35_),ts:=X2.ts,wv:=wv,way:=way'++o37_.qk}:NetD) leads2:=fun wv=>by
      have h:=zBR (k:=3*i+2) (dr:=dr'36_) (wv:=wv) hX2 hqi hR'
      exact⟨h.1,zIG hN5 h.2 V⟩
     refine O22 ?_ (hw.qh [2] O hO)
     refine zE [0,1,2,3,5,6,8,9,10] O qM (fun w' hw hS=>zJ 24 O hw ?_)
     refine zN (fun w' hw=>Own.qg (i:=18) O hw) (fun hc36_=> ?_)
     refine zN (fun w' hw=>Own.qg (i:=20) O hw) (fun hc37_=> ?_)
     refine zN (fun w' hw=>Own.qg (i:=21) O hw) (fun hc38_=> ?_)
     refine zo 11 O O O (zF hc36_ (zF O (zF hc37_ (zF hc38_ zh)))) O (zE [0,1,2,3,5,6,8,9,10] O qM (fun w' hw hS=>zT ?_))
     refine Oc22 ?_ hw
     refine zP (ze [1,2,5,6,8,9,10,11,12,14,15,16,18,20,21] O qM qN (fun w' hw hS=>zB 0 O zS hS (zB 1 O zS hS (zB 2 O (zO O) hS (zB 3 O (zH (o:=2) O) hS (zB 5 O (zH (o:=0) O) hS (zB 6 O (zY 7 (v:=o37_.mv) O O O) hS (zJ 4 O hw (zM 0 (v:=wv') O O O O (zE [1,2,5,6,8,9,10,11,12,14,15,16,18,20,21] O qM (fun w' hw hS=>zJ 7 O hw ?_)))))))))))
     refine zN (fun w' hw=>MsgD.c1all (MsgD.rd.star0 19 O hw)) (fun hc42_=> ?_)
     refine zy (g:=MsgD.cells) (sz:=14) (by':=176) (fun _=>O) (l:=way') (l':=o37_.qk) hc42_ 3 qN O O O (fun w' hw'=>Vec.sl (Own.holds hw' 18 _ O)) qO qM O (fun v187=>zE [1,2,5,6,8,9,10,11,12,14,15,16,18,20,21] O qM (fun w' hw hS=>zB 8 O (zO O) hS (zB 9 O (zH (o:=2) O) hS (zJ 10 O hw ?_))))
     refine zN (fun w' hw=>Own.qg (i:=3) O hw) (fun hc43_=> ?_)
     refine zn (cs:=(NetD.cells ({X2 with wv:=wv',way:=way'}:NetD))) 0 O O O hc43_ O (zE [1,2,5,6,8,9,10,11,12,14,15,16,18,20,21] O qM (fun w' hw hS=>zT ?_))
     refine Oc22 ?_ hw
     refine zC (zK (o:=2) O O (zM 10 (v:=Vi ((zG X2.way q).dst)) O O O O (x8 O O (zr V) O (zD O (yR O O O (zD O (yJ (q:=(((zG X2.way q).dst) - 1)=((wid:Nat):Int)) 4 5 [199,198,197,196] (false=true) O O O O O O trivial O (fun h25_5=> ?_) (fun g25_10=> ?_))))))))
     ·refine zR O (gT h25_5) (zD O (zR O (gT h25_5) (yL (cs:=(OutD.cells o37_)) 11 O O O (zR O (gT h25_5) (yV (fst:=[]) (cap:=[pt b11]) O qN O O (fun w' hw=>(zDs b11 fl2 o37_.mv o37_.rv o37_.xv o37_.shot o37_.qw w' qO qO qO qO hRo2 (hw.give [20] O qM) (hw.rdRes 8 O [20] O O)).mono ?_))))))
      rintro _ w1 ⟨rfl,hO⟩
      refine O22 ?_ (hw.qh [20] O hO)
      refine zR O (gT h25_5) (zBu (b:=true) O O ?_)
      exact yN (xC _) (fun _ hw=>hw.sel [0,1,2,3,4,5,6,7,8,9,10,11,12,13,14,15,16,17,18,19,21,20] O qM)
     refine zA (za O (fun c9=> ?_) (fun c9=> ?_))
     ·exact absurd c9.2 qM
     exact yZ (fun w' hw=>⟨({X2 with ns:=X2.ns.set ((zG X2.way q).dst - 1).toNat ((zG X2.ns ((zG X2.way q).dst - 1).toNat).put dr'36_ n'35_),ts:=X2.ts,wv:=v187,way:=way'++o37_.qk}:NetD),⟨O,O,O,O,O,O,O,O,trivial⟩,⟨hfl2,hE7 _⟩,(((hw.qK 4 hsub O).starApp 4 19 qM O O).sel [0,1,17,2,3,4,5,6,7,8] O qM)⟩)
    refine zV (zD O (yL (cs:=(MovD.cells (zG ms i))) 10 O O O (a_call O O (fun w' hw=>(zPY (n%5+1) (3*i+1) true (fun k Y=>zCo (n%5+1) (if ak2=true then 1 else 0) leads2 (X2.safe.map EntD.toEntA) (10*k) Y) xb1_ X2 (zG ms i) w' hC2 V hN5 hE4.2 hX2 hmi (fun _=>O) (hw.give [0,1,2,3,4,5] O qM)).mono ?_))))
    rintro _ w1 ⟨X'39_,rfl,hf27_2,hf27_2_1,hf27_2_2,hf27_2_3,hf27_2_4,hO⟩
    have hE5:LsP (n%5+1) (if ak2=true then 1 else 0) (3*i+3) X'39_ leads2:=⟨hf27_2_1,by rw[hf27_2_4];exact hf27_2⟩
    refine O11 ?_ (hw.qh [0,1,2,3,4,5] O hO)
    exact zg (fun w' hw=>⟨X'39_,⟨O,O,O,O,O,O,O,O,trivial⟩,⟨by rw[hf27_2_4];exact hfl2,hE5⟩,(by rw[←hf27_2_2,←hf27_2_3,←hf27_2_4]at hw;exact hw.sel [5,6,7,8,9,10,0,1,2,3] rfl qM)⟩)
   have hfl3:=hΦ.1
   have hE6:=hΦ.2
   have hwl3:X3.way.length≤1000000:=by have h:=(zGo hN5 hlk V hE6).wl;unfold NetD.a at h;rwa [List.length_map]at h
   refine zC (zD O (zb O O (zK (o:=2) O O (zM 0 (v:=X3.wv) O O O O (zp (pV 4 O) O O (yx O O O (zA (za O (fun c10=> ?_) (fun c10=> ?_)))))))))
   ·refine zV (zD O (zD O (zb O O (zK (o:=2) O O (zM 0 (v:=X3.wv) O O O O (kW (pV 4 O) 14 0 300 qN O O ⟨_,O⟩ V V O (zb O O (zK (o:=2) O O ?_))))))))
    refine zN (fun w' hw=>zHZ (k:=300) (sz:=14) (Own.qg (i:=4) O hw)) (fun hcc=> ?_)
    refine zn (cs:=(NetD.cells X3)) 0 O O O hcc O (zA (zV (zD O (zt O O (zr V) O (zI O ?_)))))
    exact zg (fun w' hw=>⟨i+1,({X3 with wv:=y3 X3.wv 0 300 14,way:=X3.way.take 300}:NetD),leads2,ak2,fl2,wid,⟨O,O,O,O,O,O,O,O,trivial⟩,⟨⟨by omega,hfl3,hid⟩,zOj hN5 hlk hE6⟩,(((hw.cutN (g:=MsgD.cells) (l:=X3.way) (sz:=14) (fun _=>O) 4 300 O V).qK (g:=MsgD.dres) 5 (List.take_sublist 300 X3.way) O).sel [0,1,2,3,4,5,6,7,8,9] O qM),V⟩)
   refine zQ (zV (zD O (zt O O (zr V) O (zI O ?_))))
   exact zg (fun w' hw=>⟨i+1,X3,leads2,ak2,fl2,wid,⟨O,O,O,O,O,O,O,O,trivial⟩,⟨⟨by omega,hfl3,hid⟩,hE6⟩,hw,V⟩)
  refine yF O (zC (zI O (zA ?_)))
  exact zU (z9 (v:= .bool true) O O (fun w' hw=>⟨O,hw.drop⟩))
end Go.Proofs.YtkkeknmkipkbmaaGreat
