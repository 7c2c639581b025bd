import Derived.Test.YtkkeknmkipkbmaaGreatCoA
import Derived.Test.YtkkeknmkipkbmaaGreatFwG
set_option linter.unusedSectionVars false
set_option linter.unusedSimpArgs false
set_option linter.unusedVariables false
set_option maxRecDepth 10000
namespace Go.Proofs.YtkkeknmkipkbmaaGreat
open Go Go.Sc Go.Proofs
def y4(a:StA)(qe:Nat):Int:=a.base+((qe%(Int.toNat a.spread+1):Nat):Int)
structure StA.ok(a:StA):Prop where
  id:1≤a.id∧a.id≤16
  rho:0≤a.rho∧a.rho≤500000
  base:1≤a.base∧a.base≤1000000
  spread:1≤a.spread∧a.spread≤1000000
  beat:1≤a.beat∧a.beat≤1000000
theorem jL{a:StA}{qe:Nat}(h:a.ok):1≤y4 a qe∧y4 a qe≤2000000:=by
  have h1:=h.base;have h2:=h.spread
  have hm:qe%(Int.toNat a.spread+1)<Int.toNat a.spread+1:=Nat.mod_lt _ V
  unfold y4;omega
theorem k0{S:List Nat}(cb jb:Nat)(t:TimD)(a:StA)(r:RolD)(b:StB)(lead yv out:Value)(qe:Nat)(w:World)(ha:a.ok)(hd:qe<18446744073709551616)(hin:Own w S [z7 cb t lead a r b yv jb qe out] w):Rets Tryz.prog 32 #[pt cb] w fun u_ w'=>u_=Vi (y4 a qe)∧Own w S [z7 cb t lead a r b yv jb qe out] w':=by
  have hsp:=ha.spread
  have hbs:=ha.base
  have hu:u64 (a.spread+1)=Int.toNat a.spread+1:=by unfold u64;omega
  have hm:qe%u64 (a.spread+1)<u64 (a.spread+1):=Nat.mod_lt qe V
  have hm2:qe%u64 (a.spread+1)≤1073741824:=by omega
  refine zW Tryz.func32 O Tryz.ntmps32 hin ?_
  refine zC (zI O (zA (yb qN qN (zL O zS (zL O (zO O) (zL O (zH (o:=11) O) (zL O (zH (o:=4) O) (zL O (zY 0 (v:=Vi a.base) O O O) (zL O zS (zL O (zO O) (zL O (zH (o:=32) O) (zL O (zY 0 (v:=Vn qe) O O O) ?_))))))))))))
  refine zL O zS (zL O (zO O) (zL O (zH (o:=11) O) (zL O (zH (o:=5) O) (zL O (zY 0 (v:=Vi a.spread) O O O) (zL O (yr O O (zr V)) (zL O (x7 qN O (jM _) qN) (zL O (zD5 (c:=((qe%(u64 (a.spread+1)):Nat):Int)) O O V O) (zL O (x7 qN O (zr V) qN) (zL O (yr O O (zr V)) (zL O yO (xi ?_)))))))))))
  exact zU (z9 (v:=Vi (a.base+((qe%(u64 (a.spread+1)):Nat):Int))) O O (fun w' hw=>⟨(by rw[hu];rfl),hw⟩))
theorem zAd{S:List Nat}(cb jb:Nat)(t:TimD)(a:StA)(r:RolD)(b:StB)(lead yv out:Value)(qe:Nat)(now:Int)(draw2:Nat)(w:World)(hin:Own w S [z7 cb t lead a r b yv jb qe out] w):Rets Tryz.prog 33 #[pt cb,Vi now,Vn draw2] w fun u_ w'=>∃ (ob:Nat),u_= .tuple #[]∧Own w S [z7 cb ({t with now:=max t.now now}:TimD) lead a r b yv jb draw2 (pt ob),Res.ou ob outZ] w':=by
  refine zW Tryz.func33 O Tryz.ntmps33 hin ?_
  refine zC (zD O (zD O (zb O O (zK (o:=2) O O (zK (o:=0) O O (zM 0 (v:=Vi t.now) O O O O (zD O (zD9 (c:=max t.now now) O O (zQm _ _) O (zb O O (zK (o:=2) O O (zK (o:=0) O O (zn 0 O O O O O ?_))))))))))))
  refine zA (zC (zD O (zD O (zb O O (zK (o:=32) O O (zn 0 O O O O O (zA (zV (zD O (yh (cs:=[.slice none 0 0, .bool false, .slice none 0 0, .slice none 0 0]) (z:=[.slice none 0 0, .bool false, .slice none 0 0, .slice none 0 0]) (pl:=[(0,1),(1,1),(2,1),(3,1)]) qN qN O (z8 O O (fun b23=>zb O O ?_))))))))))))
  refine zK (o:=33) O O (zn 0 O O O O O ?_)
  exact zg (yQ O (fun w' hw=>⟨b23,O,((zm (zm (Own.qG (zm hw 59 14)) 53 2) 22 1).qo [1,2,3,4,5] O qM)⟩))
theorem kf{S:List Nat}(cb jb:Nat)(t:TimD)(a:StA)(r:RolD)(b:StB)(lead yv:Value)(qe:Nat)(ob:Nat)(o:OutD)(w:World)(hin:Own w S [z7 cb t lead a r b yv jb qe (pt ob),Res.ou ob o] w):Rets Tryz.prog 38 #[pt cb] w fun u_ w'=>u_= .agg (OutD.cells o).toArray∧Own w S [z7 cb t lead a r b yv jb qe (.pointer none),vM o.mv o.qk,sM o.qk,vR o.rv o.qw,vU o.xv o.qt] w':=by
  refine zW Tryz.func38 O Tryz.ntmps38 hin ?_
  refine zC (yC (v:= .agg #[.slice none 0 0, .bool false, .slice none 0 0, .slice none 0 0]) qN O (fun b2=>zA (zC (zD O (zb O O (zK (o:=33) O O (zM 0 (v:=pt ob) O O O O (zb O O ?_))))))))
  refine z4 [z7 cb t lead a r b yv jb qe (pt ob),Res.row b2 44 [.slice none 0 0, .bool false, .slice none 0 0, .slice none 0 0],zAt ob o,vM o.mv o.qk,sM o.qk,vR o.rv o.qw,vU o.xv o.qt] (fun w' hw=>hw.qn 1 O) ?_
  refine yL (cs:=(OutD.cells o)) 2 O O O (yC (v:= .agg #[.slice none 0 0, .bool false, .slice none 0 0, .slice none 0 0]) qN O (fun b3=> ?_))
  refine zN (fun w' hw=>Own.qg (i:=3) O hw) (fun hc1_=> ?_)
  refine zN (fun w' hw=>Own.qg (i:=5) O hw) (fun hc2_=> ?_)
  refine zN (fun w' hw=>Own.qg (i:=6) O hw) (fun hc3_=> ?_)
  refine zo 7 O O O (zF hc1_ (zF O (zF hc2_ (zF hc3_ zh)))) O (zA (zC (zD O (zb O O (zK (o:=33) O O (zn 0 O O O O O (zA (zC (yL (cs:=(OutD.cells o)) 7 O O O (zo 1 O O O (zF hc1_ (zF O (zF hc2_ (zF hc3_ zh)))) O (zA ?_)))))))))))
  exact zU (jp (cs:=(OutD.cells o)) O O qN (Own.qr (i:=1) O) (fun w' hw=>⟨O,hw.sel [0,3,4,5,6] O qM⟩))
theorem zB4{S:List Nat}(cb jb:Nat)(t:TimD)(a:StA)(r:RolD)(b:StB)(lead yv out:Value)(qe:Nat)(w:World)(hn:0≤t.now∧t.now≤1000000000000000)(hh:0≤t.qA∧t.qA≤1000000000000000)(hin:Own w S [z7 cb t lead a r b yv jb qe out] w):Rets Tryz.prog 84 #[pt cb] w fun u_ w'=>u_= .bool (decide (t.now - t.qA<a.base))∧Own w S [z7 cb t lead a r b yv jb qe out] w':=by
  refine zW Tryz.func84 O Tryz.ntmps84 hin ?_
  refine zC (zI O (zA (yb qN qN (zL O zS (zL O (zO O) (zL O (zH (o:=2) O) (zL O (zH (o:=0) O) (zL O (zY 0 (v:=Vi t.now) O O O) (zL O zS (zL O (zO O) (zL O (zH (o:=2) O) (zL O (zH (o:=1) O) ?_))))))))))))
  refine zL O (zY 0 (v:=Vi t.qA) O O O) (zL O (xl O O (zr V)) (zL O zS (zL O (zO O) (zL O (zH (o:=11) O) (zL O (zH (o:=4) O) (zL O (zY 0 (v:=Vi a.base) O O O) (zL O (zBi O O) (zL O yO (xi ?_)))))))))
  exact zU (z9 (v:= .bool (decide ((t.now - t.qA)<a.base))) O O (fun w' hw=>⟨O,hw⟩))
theorem kh{S:List Nat}(cb jb:Nat)(t:TimD)(a:StA)(r:RolD)(b:StB)(yv out:Value)(qe:Nat)(wh:Int)(w:World)(hin:Own w S [z7 cb t (.pointer none) a r b yv jb qe out] w):Rets Tryz.prog 70 #[pt cb,Vi wh] w fun u_ w'=>u_= .tuple #[]∧Own w S [z7 cb t (.pointer none) a ({qp:=1,who:=wh,qc:=r.qc}:RolD) b (.slice none 0 0) jb qe out] w':=by
  refine zW Tryz.func70 O Tryz.ntmps70 hin ?_
  refine zC (zD O (zD O (zD O (zD O (zb O O (zK (o:=21) O O (zn 0 O O O O O (zb O O (zK (o:=22) O O (zn 0 O O O O O (zb O O (zK (o:=30) O O ?_))))))))))))
  refine zn 0 O O O O O (zA (zP (zC (zD O (zb O O (zK (o:=9) O O (zM 0 (v:= .pointer none) O O O O (zBU qN O O O (zA (xx O (zQ (zV ?_))))))))))))
  refine zD O (zb O O (zK (o:=9) O O (zn 0 O O O O O ?_)))
  exact zg (yQ O (fun w' hw=>⟨O,hw⟩))
theorem _root_.Go.Sc.qZ{p:Prop}(h:p:=by simp[cell1,U1]):p:=h
theorem zBb{S:List Nat}(cb jb:Nat)(t:TimD)(a:StA)(r:RolD)(b:StB)(yv:Value)(qe:Nat)(wh:Int)(ld:Nat)(l:LdD)(ob:Nat)(o:OutD)(w:World)(hl:l.qj.length≤1000000)(ho:o.qt.length=0)(hin:Own w S [z7 cb t (pt ld) a r b yv jb qe (pt ob),Res.ld ld l,Res.ou ob o] w):Rets Tryz.prog 70 #[pt cb,Vi wh] w fun u_ w'=>∃ (xw:Value),u_= .tuple #[]∧Own w S [z7 cb t (.pointer none) a ({qp:=1,who:=wh,qc:=r.qc}:RolD) b (.slice none 0 0) jb qe (pt ob),Res.ou ob ({o with xv:=xw,qt:=l.qj.map LookM.id}:OutD)] w':=by
  refine zW Tryz.func70 O Tryz.ntmps70 hin ?_
  refine zC (zD O (zD O (zD O (zD O (zb O O (zK (o:=21) O O (zn 0 O O O O O (zb O O (zK (o:=22) O O (zn 0 O O O O O (zb O O (zK (o:=30) O O ?_))))))))))))
  refine zn 0 O O O O O (zA (zP (zC (zD O (zb O O (zK (o:=9) O O (zM 0 (v:=pt ld) O O O O (zBU qN O O O (zA (zID O (zC (zD O ?_))))))))))))
  refine zb O O (zK (o:=9) O O (zM 0 (v:=pt ld) O O O O (zb O O (zK (o:=4) O O (z6 (v:=l.kv) 1 0 4 O O O O qN O (zp (pC 1 5 O O) O O (zD O (zA (zZ ?_)))))))))
  refine y7 (fun(k:Nat) (xv:Value)=>[(0,pt cb),(27,l.kv),(28,Vj l.qj.length),(29,Vj k)]) (fun(k:Nat) (xv:Value)=>k≤l.qj.length) (fun(k:Nat) (xv:Value)=>[z7 cb t (pt ld) a ({qp:=1,who:=wh,qc:=r.qc}:RolD) b (.slice none 0 0) jb qe (pt ob),Res.ld ld l,Res.ou ob ({o with xv:=xv,qt:=(l.qj.take k).map LookM.id}:OutD)]) (fun(k:Nat) (xv:Value)=>l.qj.length - k) (fun w' hw=>⟨0,o.xv,⟨O,O,O,O,trivial⟩,Nat.zero_le _,by rw[List.take_zero,List.map_nil,←List.eq_nil_of_length_eq_zero ho];exact hw⟩) (fun k xv g hΦ=> ?_)
  refine zC (yI O O O (zA (zP (za O (fun c2=> ?_) (fun c2=> ?_)))))
  ·refine zQ (zP (zZ (zC (zk (pC 1 5 O O) 3 k O O O V O (kP (pC 1 5 O O) 3 k (off:=xH l.kv+k*3) (fun _=>O) O O V O (yC (v:= .agg #[Vn 0,Vn 0,Vn 0]) qN O (fun b5=>zo 3 O O O (xO O) O (zA (ze [0,1,3] O qM qN (fun w' hw hS=>zB 0 O zS hS (zB 1 O (zO O) hS (zB 2 O (zH (o:=33) O) hS ?_))))))))))))
   refine zB 3 O (zY 0 (v:=pt ob) O O O) hS (zB 4 O zS hS (zB 5 O (zO O) hS (zB 6 O (zH (o:=33) O) hS (zB 7 O (zY 0 (v:=pt ob) O O O) hS (zB 8 O (zO O) hS (zB 9 O (zH (o:=3) O) hS (zB 11 O (zH (o:=0) O) hS (zB 12 O (zH (o:=0) O) hS (zB 13 O (zY 2 (v:=Vn ((zG l.qj k).id)) O O O) hS (zq 10 14 ?_ ?_))))))))))
   ·refine zl 10 O hw (z6 (v:=xv) 2 0 3 O O O O qN O (zE [0,1,3] O qM (fun w' hw hS=>zJ 14 O hw (zx (e:=22) (sz:=1) (vs:=[Vn ((zG l.qj k).id)]) qN O O qR qM O (fun b47=>zE [0,1,3] O qM (fun w' hw hS=>zJ 15 O hw ?_))))))
    refine z4 [z7 cb t (pt ld) a ({qp:=1,who:=wh,qc:=r.qc}:RolD) b (.slice none 0 0) jb qe (pt ob),Res.ld ld l,Res.row b5 116 (LookM.cells (zG l.qj k)),vU (.slice (some ⟨b47,0,none⟩) 1 1) [(zG l.qj k).id],zAt ob ({o with xv:=xv,qt:=(l.qj.take k).map LookM.id}:OutD),vM o.mv o.qk,sM o.qk,vR o.rv o.qw,vU xv ((l.qj.take k).map LookM.id)] (fun w' hw=>hw.qn 2 O) ?_
    refine zy (g:=U1) (sz:=1) (by':=8) (fun _=>O) (l:=(l.qj.take k).map LookM.id) (l':=[(zG l.qj k).id]) qZ 8 qN O O O (fun w' hw'=>Vec.sl (Own.holds hw' 3 _ O)) qO qM O (fun v48=>zE [0,1,2] O qM (fun w' hw hS=>zB 16 O (zO O) hS (zB 17 O (zH (o:=3) O) hS (zJ 18 O hw ?_))))
    refine zN (fun w' hw=>Own.qg (i:=8) O hw) (fun hc1_=> ?_)
    refine zn 4 O O O hc1_ O (zE [0,1,2] O qM (fun w' hw hS=>zT ?_))
    refine Oc9 ?_ hw
    refine zV (zt O O (zr V) O (zD O ?_))
    exact zg (fun w' hw=>⟨k+1,v48,⟨O,O,O,O,trivial⟩,V,by rw[zu V,List.map_append];exact(hw.qo [4,5,6,7,8] rfl qM).sel [0,1,4] rfl qM,V⟩)
   refine zl 14 O hw (zx (e:=22) (sz:=1) (vs:=[Vn ((zG l.qj k).id)]) qN O O qR qM O (fun b47=>zE [0,1,3] O qM (fun w' hw hS=>zJ 10 O hw (z6 (v:=xv) 2 0 3 O O O O qN O (zE [0,1,3] O qM (fun w' hw hS=>zJ 15 O hw ?_))))))
   refine z4 [z7 cb t (pt ld) a ({qp:=1,who:=wh,qc:=r.qc}:RolD) b (.slice none 0 0) jb qe (pt ob),Res.ld ld l,Res.row b5 116 (LookM.cells (zG l.qj k)),vU (.slice (some ⟨b47,0,none⟩) 1 1) [(zG l.qj k).id],zAt ob ({o with xv:=xv,qt:=(l.qj.take k).map LookM.id}:OutD),vM o.mv o.qk,sM o.qk,vR o.rv o.qw,vU xv ((l.qj.take k).map LookM.id)] (fun w' hw=>hw.qn 2 O) ?_
   refine zy (g:=U1) (sz:=1) (by':=8) (fun _=>O) (l:=(l.qj.take k).map LookM.id) (l':=[(zG l.qj k).id]) qZ 8 qN O O O (fun w' hw'=>Vec.sl (Own.holds hw' 3 _ O)) qO qM O (fun v48=>zE [0,1,2] O qM (fun w' hw hS=>zB 16 O (zO O) hS (zB 17 O (zH (o:=3) O) hS (zJ 18 O hw ?_))))
   refine zN (fun w' hw=>Own.qg (i:=8) O hw) (fun hc2_=> ?_)
   refine zn 4 O O O hc2_ O (zE [0,1,2] O qM (fun w' hw hS=>zT ?_))
   refine Oc9 ?_ hw
   refine zV (zt O O (zr V) O (zD O ?_))
   exact zg (fun w' hw=>⟨k+1,v48,⟨O,O,O,O,trivial⟩,V,by rw[zu V,List.map_append];exact(hw.qo [4,5,6,7,8] rfl qM).sel [0,1,4] rfl qM,V⟩)
  refine yF O (zV (zD O (zb O O (zK (o:=9) O O (zn 0 O O O O O ?_)))))
  exact zg (yQ O (fun w' hw=>⟨xv,O,by rw[List.take_of_length_le V]at hw;exact hw.sel [0,2] rfl qM⟩))
end Go.Proofs.YtkkeknmkipkbmaaGreat
set_option linter.unusedVariables false
set_option linter.unusedSectionVars false
namespace Go.Sc
section
variable {P:Program} {n:Nat} {fn:Func} {g:FuncId}
end
def zNr{α:Type}(P:Program)(l:Nat)(e1 e2:α→Value)(Q:α→Prop)(N:Nat)(J:List α→List Res→Prop):Prop:=
  ∀ pre x L w,J pre L→Q x→pre.length<N→Own w (y1 L) L w→∃ fn tmps asg body,(Instr.yield l #[e1 x,e2 x]).run P w= .ok (.round l fn tmps asg body) w∧
    RoundIn Fence.wide 0 P l fn tmps asg body w fun e w'=>e= .returned (.bool true)∧∃ L',J (pre++[x]) L'∧Own w (y1 L) L' w'
def SeqC2{α:Type}(P:Program)(g:FuncId)(lb:List Value)(e1 e2:α→Value)(Q:α→Prop)(Sx:List α→Prop)(N:Nat)(Ls:List Res):Prop:=
  ∀ (l:Nat) (J:List α→List Res→Prop) (L:List Res) (w:World),zNr P l e1 e2 Q N J→J [] L→Own w (y1 (Ls++L)) (Ls++L) w→
    Rets P g (.func (.yield l) #[] #[]::lb).toArray w fun _ w'=>∃ xs L',Sx xs∧J xs L'∧Own w (y1 (Ls++L)) (Ls++L') w'
section
variable {P:Program} {n:Nat} {ops:Array Oper} {f:Nat→Value} {A:World→Prop} {rest:List Oper} {d:Nat} {ty:TypeId} {p:String} {af:Array Edge} {N R:K} {X:List (Nat×K)} {ds:List Deferred} {fn:Func} {g:FuncId}
def RC(P:Program)(n l:Nat)(c:Code)(f:Nat→Value)(A B:World→Prop):Prop:=∀ a w,Rep n f a→A w→c.wpIn (Wd (some l)) 0 P (kG n fun _ w'=>B w') a w
theorem zJO{r0 r1 r2 blk c2:Code}{args:List Value}{w:World}{R:Value→World→Prop}(hf:P.funcs[g]?=some fn)(hb:fn.body=some (.seq r0 (.seq r1 (.seq (.seq r2 blk) c2))))(hn:fn.ntmps=n)(hl:Nat.ble args.length n=true)(hA:A w)
    (h:C P n r0 (fun f w=>W P n r1 (fun f w=>W P n r2 (RF P fn n blk c2 R) (fun _ _=>False) [] f w) (fun _ _=>False) [] f w) (fun _ _=>False) [] (ini args) A):Rets P g args.toArray w R:=by
  subst hn
  refine callsIn_wide (n:=0).1 (callsIn_of_wp_marks hf hb trivial ?_)
  have out:∀ {N:K} {e:Exit} {a:Act} {w:World},post fn.ntmps N (fun _ _=>False) [] e a w→e= .normal∧∃ f,Rep fn.ntmps f a∧N f w:=by
    intro N e a w hq
    cases e with
    |normal=>exact⟨rfl,hq⟩
    |ret=>obtain⟨_,_,h⟩:=hq;exact h.elim
    |exit id=>obtain⟨_,_,_,h,_⟩:=hq;cases h
    |_=>exact hq.elim
  refine wpIn_seq (wpIn_mono (wpIn_wide.2 (h w hA _ (zIp args fn.ntmps (Nat.le_of_ble_eq_true hl)))) ?_)
  intro e a w hq
  obtain⟨rfl,f,hr,hw⟩:=out hq
  refine wpIn_seq (wpIn_mono (wpIn_wide.2 (hw a hr)) ?_)
  intro e a w hq
  obtain⟨rfl,f,hr,hw⟩:=out hq
  refine wpIn_seq (wpIn_seq (wpIn_mono (wpIn_wide.2 (hw a hr)) ?_))
  intro e a w hq
  obtain⟨rfl,f,hr,hw⟩:=out hq
  refine wpIn_mono (hw a hr) ?_
  intro e a w hq
  cases e<;>exact hq
theorem zLX:∀ (Q Q':Exit→Act→World→Prop),(∀ e a w,Q e a w→Q' e a w)→∀ (l:List Oper) (a:Act) (w:World),wpList P ops Q l a w→wpList P ops Q' l a w:=by
  intro Q Q' hq l
  induction l with
  |nil=>intro a w h;exact hq _ _ _ h
  |cons o l ih=>
    intro a w h
    unfold wpList at h ⊢
    split
    · rename_i hw
      rw[if_pos hw]at h
      rcases h with h|⟨h1,a1,w1,h2⟩
      · left
        unfold Oper.wp at *
        generalize (execOp a.eval o).run P w=r at *
        cases r with
        |ok nx w'=>
          cases nx<;>simp only[Oper.upon]at h ⊢ <;>
            first
              |exact ih _ _ h
              |exact Calls.mono h (fun e w'' he=>by
                  cases e with
                  |returned v=>exact ih _ _ he
                  |panicked c=>exact hq _ _ _ he
                  |outgrown=>obtain⟨a2,w2,h2⟩:=he;exact⟨a2,w2,hq _ _ _ h2⟩)
              |exact Rows.mono h (fun _ _ he=>ih _ _ he)
        |halt x w'=>cases x<;>simp only[Oper.upon]at h ⊢ <;>exact hq _ _ _ h
      exact .inr ⟨h1,a1,w1,hq _ _ _ h2⟩
    rename_i hw
    rw[if_neg hw]at h
    exact ih _ _ h
def wd(a:Act)(ds:List Deferred):Act:={a with defers:=a.defers++ds}
theorem zFC{Q:Exit→Act→World→Prop}{ds:List Deferred}(hq:¬ LetsOut fun e a w=>Q e (wd a ds) w):∀ (l:List Oper) (a:Act) (w:World),xd l=true→wpList P ops (fun e a w=>Q e (wd a ds) w) l a w→wpListIn (Wd none) 0 P ops Q l (wd a ds) w
  | [],a,w,_,h=>h
  |o::l,a,w,hn,h=>by
    simp only[xd,List.all_cons,Bool.and_eq_true]at hn
    have ih:∀ (d:Option Nat) (v:Value) (w:World),wpList P ops (fun e a w=>Q e (wd a ds) w) l (a.put d v) w→wpListIn (Wd none) 0 P ops Q l ((wd a ds).put d v) w:=fun d v w h=>by
      have e:wd (a.put d v) ds=(wd a ds).put d v:=by cases d<;>rfl
      have:=zFC hq l (a.put d v) w hn.2 h
      rwa [e]at this
    have ihd:∀ (x:Deferred) (d:Option Nat) (v:Value) (w:World),wpList P ops (fun e a w=>Q e (wd a ds) w) l (({a with defers:=x::a.defers}:Act).put d v) w→wpListIn (Wd none) 0 P ops Q l (({wd a ds with defers:=x::(wd a ds).defers}:Act).put d v) w:=fun x d v w h=>by
      have e:wd (({a with defers:=x::a.defers}:Act).put d v) ds=({wd a ds with defers:=x::(wd a ds).defers}:Act).put d v:=by cases d<;>rfl
      have:=zFC hq l _ w hn.2 h
      rwa [e]at this
    unfold wpList at h
    unfold wpListIn
    split
    · rename_i hw
      have hw:Region.wanted o (yielded ops a.tmps)=true:=hw
      rw[if_pos hw]at h
      have h:=h.resolve_right fun q=>hq q.2
      refine⟨fun _ _=>trivial,?_⟩
      rw[Oper.semAt_eq _ _ _ (fun c hc=>by rw[hc]at hn;simp at hn)]
      unfold Oper.wp at h
      have ee:(wd a ds).eval=a.eval:=rfl
      rw[ee]
      generalize (execOp a.eval o).run P w=r at h ⊢
      cases r with
      |ok nx w'=>
        cases nx<;>simp only[Oper.upon,Oper.uponIn]at h ⊢ <;>
          first
            |exact h.elim
            |exact ih _ _ _ h
            |exact ihd _ _ _ _ h
            |exact⟨fun q=>by simp[Wd,Fence.wide]at q,(zBF h).mono fun e w'' he=>by
                cases e with
                |returned v=>exact ih _ _ _ he
                |panicked c=>exact he
                |outgrown=>exact absurd he hq⟩
            |exact⟨fun q=>by simp[Wd,Fence.wide]at q,(zCV h).mono fun v w'' he=>ih _ _ _ he⟩
      |halt x w'=>cases x<;>simp only[Oper.upon,Oper.uponIn]at h ⊢ <;>exact h
    rename_i hw
    have hw:¬ Region.wanted o (yielded ops a.tmps)=true:=hw
    rw[if_neg hw]at h
    exact⟨fun _ _=>trivial,ih _ _ _ h⟩
theorem zHD{N:K}{l:List Oper}{a:Act}{w:World}(hn:xd l=true)(h:wpList P ops (kG n N) l {a with defers:=[]} w):wpListIn (Wd none) 0 P ops (zH7 n a.defers N) l a w:=by
  have hm:wpList P ops (fun e b w=>zH7 n a.defers N e (wd b a.defers) w) l {a with defers:=[]} w:=zLX _ _ (fun e b w q=>by
    cases e<;>first|exact q|skip
    obtain⟨f,hr,hN⟩:=q
    refine⟨f,⟨?_,?_⟩,hN⟩
    · have h2:=hr.defers
      cases b
      simp only at h2;subst h2
      exact hr
    show b.defers++a.defers=a.defers
    rw[hr.defers];rfl) _ _ _ h
  exact zFC (fun q=>by obtain⟨_,_,q⟩:=q;exact q) l {a with defers:=[]} w hn hm
theorem zOP{i4 t4 t5 D:Nat}{T4 T5:TypeId}{l4:List Oper}{f:Nat→Value}{w0 w:World}{S:List Nat}{L:List Res}{R:Value→World→Prop}(hr:fn.results= #[.cell t4 T4, .cell t5 T5])(h5:one P T5=true)(hn:xd l4=true)
    (h:CL P n l4.toArray l4 (fun f' w'=>∃ (L':List Res) (cs:List Value) (v:Value) (b4 b5 j4 j5:Nat),(f' t4= .pointer (some ⟨b4,0,none⟩)∧f' t5= .pointer (some ⟨b5,0,none⟩))∧(L'[j4]?=some (Res.row b4 T4 cs)∧L'[j5]?=some (Res.row b5 T5 [v]))∧jm P T4=some cs.length
      ∧Own w0 S (Res.obj D (.deferred (some []))::L') w'∧∀ w'',Own w0 S L' w''→R (.tuple #[.agg cs.toArray,v]) w'') f (Own w0 S (Res.obj D (.deferred (some []))::L))) (hw:Own w0 S (Res.obj D (.deferred (some []))::L) w):
    ∀ a,RepD n [{target:= .collected D,args:= #[]}] f a→(Code.seq (.region i4 l4.toArray false) .ret).wpIn Fence.wide 0 P (bodyPostM Fence.wide 0 P fn fun e w'=>∃ v,e= .returned v∧R v w') a w:=by
  intro a ha
  have h1:=zHD (a:=a) hn (h w hw _ ha.1)
  rw[ha.2]at h1
  refine wpIn_seq (wpIn_mono (wpIn_region_lit (F:=Fence.wide) (n:=0) h1) ?_)
  intro e a w hq
  cases e<;>first|exact hq.elim|skip
  obtain⟨f',hr',L',cs,v,b4,b5,j4,j5,⟨e4,e5⟩,⟨q4,q5⟩,hT,hO,hR⟩:=hq
  refine wpIn_ret ?_
  show LeavesInM Fence.wide 0 P fn a.tmps _ a.defers .returning w
  rw[hr'.2]
  refine⟨by simp, .inl ⟨D,_,O,run_takeDeferred (hO.holds 0 _ O),?_⟩⟩
  have hO2:=(hO.putObj (i:=0) (.deferred none) rfl).tail
  refine⟨_,?_,_,O,hR _ hO2⟩
  have g:∀ t,a.tmps.getD t undef=f' t:=hr'.1.get
  have r4:=xU (P:=P) hT (hO2.qr q4)
  have r5:=jA (P:=P) h5 (hO2.rowCell q5 (off:=0) (v:=v) rfl)
  simp[results,hr,g,e4,e5,asAddr,r4,r5]
end
end Go.Sc
