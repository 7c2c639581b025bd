import Derived.Test.YtkkeknmkipkbmaaGreatCoA
import Derived.Test.YtkkeknmkipkbmaaGreatFwG
set_option linter.unusedSectionVars false
set_option linter.unusedSimpArgs false
set_option linter.unusedVariables false
set_option maxRecDepth 10000
namespace Go.Proofs.YtkkeknmkipkbmaaGreat
open Go Go.Sc Go.Proofs
def yz(a:StA)(qd:Nat):Int:=a.base+((qd%(Int.toNat a.spread+1):Nat):Int)
structure StA.ok(a:StA):Prop where
  id:1≤a.id∧a.id≤16
  rho:0≤a.rho∧a.rho≤500000
  base:1≤a.base∧a.base≤1000000
  spread:1≤a.spread∧a.spread≤1000000
  beat:1≤a.beat∧a.beat≤1000000
theorem jD{a:StA}{qd:Nat}(h:a.ok):1≤yz a qd∧yz a qd≤2000000:=by
  have h1:=h.base;have h2:=h.spread
  have hm:qd%(Int.toNat a.spread+1)<Int.toNat a.spread+1:=Nat.mod_lt _ V
  unfold yz;omega
theorem kf{S:List Nat}(cb jb:Nat)(t:TimD)(a:StA)(r:RolD)(b:StB)(lead yv out:Value)(qd:Nat)(w:World)(ha:a.ok)(hd:qd<18446744073709551616)(hin:Own w S [z4 cb t lead a r b yv jb qd out] w):Rets Tryz.prog 32 #[pt cb] w fun u_ w'=>u_=Vi (yz a qd)∧Own w S [z4 cb t lead a r b yv jb qd out] w':=by
  have hsp:=ha.spread
  have hbs:=ha.base
  have hu:u64 (a.spread+1)=Int.toNat a.spread+1:=by unfold u64;omega
  have hm:qd%u64 (a.spread+1)<u64 (a.spread+1):=Nat.mod_lt qd V
  have hm2:qd%u64 (a.spread+1)≤1073741824:=by omega
  refine zW Tryz.func32 O Tryz.ntmps32 hin ?_
  refine zB (zI O (zA (yX qN qN (zM O zT (zM O (zQ O) (zM O (zH (o:=11) O) (zM O (zH (o:=4) O) (zM O (zZ 0 (v:=Vi a.base) O O O) (zM O zT (zM O (zQ O) (zM O (zH (o:=32) O) (zM O (zZ 0 (v:=Vn qd) O O O) ?_))))))))))))
  refine zM O zT (zM O (zQ O) (zM O (zH (o:=11) O) (zM O (zH (o:=5) O) (zM O (zZ 0 (v:=Vi a.spread) O O O) (zM O (yq O O (zq V)) (zM O (kV qN O (jH _) qN) (zM O (zFg (c:=((qd%(u64 (a.spread+1)):Nat):Int)) O O V O) (zM O (kV qN O (zq V) qN) (zM O (yq O O (zq V)) (zM O yO (xk ?_)))))))))))
  exact zV (z6 (v:=Vi (a.base+((qd%(u64 (a.spread+1)):Nat):Int))) O O (fun w' hw=>⟨(by rw[hu];rfl),hw⟩))
theorem zBd{S:List Nat}(cb jb:Nat)(t:TimD)(a:StA)(r:RolD)(b:StB)(lead yv out:Value)(qd:Nat)(now:Int)(draw2:Nat)(w:World)(hin:Own w S [z4 cb t lead a r b yv jb qd out] w):Rets Tryz.prog 33 #[pt cb,Vi now,Vn draw2] w fun u_ w'=>∃ (ob:Nat),u_= .tuple #[]∧Own w S [z4 cb ({t with now:=max t.now now}:TimD) lead a r b yv jb draw2 (pt ob),Res.ou ob outZ] w':=by
  refine zW Tryz.func33 O Tryz.ntmps33 hin ?_
  refine zB (zD O (zD O (za O O (zJ (o:=2) O O (zJ (o:=0) O O (zL 0 (v:=Vi t.now) O O O O (zD O (zDs (c:=max t.now now) O O (zPs _ _) O (za O O (zJ (o:=2) O O (zJ (o:=0) O O (zn 0 O O O O O ?_))))))))))))
  refine zA (zB (zD O (zD O (za O O (zJ (o:=32) O O (zn 0 O O O O O (zA (zS (zD O (ye (cs:=[.slice none 0 0, .bool false, .slice none 0 0, .slice none 0 0]) (z:=[.slice none 0 0, .bool false, .slice none 0 0, .slice none 0 0]) (pl:=[(0,1),(1,1),(2,1),(3,1)]) qN qN O (z3 O O (fun b23=>za O O ?_))))))))))))
  refine zJ (o:=33) O O (zn 0 O O O O O ?_)
  exact zd (yJ O (fun w' hw=>⟨b23,O,((zl (zl (Own.qG (zl hw 59 14)) 53 2) 22 1).qo [1,2,3,4,5] O qM)⟩))
theorem jR{S:List Nat}(cb jb:Nat)(t:TimD)(a:StA)(r:RolD)(b:StB)(lead yv:Value)(qd:Nat)(ob:Nat)(o:OutD)(w:World)(hin:Own w S [z4 cb t lead a r b yv jb qd (pt ob),Res.ou ob o] w):Rets Tryz.prog 38 #[pt cb] w fun u_ w'=>u_= .agg (OutD.cells o).toArray∧Own w S [z4 cb t lead a r b yv jb qd (.pointer none),vM o.mv o.qj,sM o.qj,vR o.rv o.qx,vU o.xv o.qq] w':=by
  refine zW Tryz.func38 O Tryz.ntmps38 hin ?_
  refine zB (yE (v:= .agg #[.slice none 0 0, .bool false, .slice none 0 0, .slice none 0 0]) qN O (fun b2=>zA (zB (zD O (za O O (zJ (o:=33) O O (zL 0 (v:=pt ob) O O O O (za O O ?_))))))))
  refine z2 [z4 cb t lead a r b yv jb qd (pt ob),Res.row b2 44 [.slice none 0 0, .bool false, .slice none 0 0, .slice none 0 0],zBL ob o,vM o.mv o.qj,sM o.qj,vR o.rv o.qx,vU o.xv o.qq] (fun w' hw=>hw.qn 1 O) ?_
  refine yI (cs:=(OutD.cells o)) 2 O O O (yE (v:= .agg #[.slice none 0 0, .bool false, .slice none 0 0, .slice none 0 0]) qN O (fun b3=> ?_))
  refine zP (fun w' hw=>Own.qh (i:=3) O hw) (fun hc1_=> ?_)
  refine zP (fun w' hw=>Own.qh (i:=5) O hw) (fun hc2_=> ?_)
  refine zP (fun w' hw=>Own.qh (i:=6) O hw) (fun hc3_=> ?_)
  refine zr 7 O O O (zF hc1_ (zF O (zF hc2_ (zF hc3_ zj)))) O (zA (zB (zD O (za O O (zJ (o:=33) O O (zn 0 O O O O O (zA (zB (yI (cs:=(OutD.cells o)) 7 O O O (zr 1 O O O (zF hc1_ (zF O (zF hc2_ (zF hc3_ zj)))) O (zA ?_)))))))))))
  exact zV (jj (cs:=(OutD.cells o)) O O qN (Own.qt (i:=1) O) (fun w' hw=>⟨O,hw.sel [0,3,4,5,6] O qM⟩))
theorem zBZ{S:List Nat}(cb jb:Nat)(t:TimD)(a:StA)(r:RolD)(b:StB)(lead yv out:Value)(qd:Nat)(w:World)(hn:0≤t.now∧t.now≤1000000000000000)(hh:0≤t.qA∧t.qA≤1000000000000000)(hin:Own w S [z4 cb t lead a r b yv jb qd out] w):Rets Tryz.prog 84 #[pt cb] w fun u_ w'=>u_= .bool (decide (t.now - t.qA<a.base))∧Own w S [z4 cb t lead a r b yv jb qd out] w':=by
  refine zW Tryz.func84 O Tryz.ntmps84 hin ?_
  refine zB (zI O (zA (yX qN qN (zM O zT (zM O (zQ O) (zM O (zH (o:=2) O) (zM O (zH (o:=0) O) (zM O (zZ 0 (v:=Vi t.now) O O O) (zM O zT (zM O (zQ O) (zM O (zH (o:=2) O) (zM O (zH (o:=1) O) ?_))))))))))))
  refine zM O (zZ 0 (v:=Vi t.qA) O O O) (zM O (xy O O (zq V)) (zM O zT (zM O (zQ O) (zM O (zH (o:=11) O) (zM O (zH (o:=4) O) (zM O (zZ 0 (v:=Vi a.base) O O O) (zM O (zDR O O) (zM O yO (xk ?_)))))))))
  exact zV (z6 (v:= .bool (decide ((t.now - t.qA)<a.base))) O O (fun w' hw=>⟨O,hw⟩))
theorem kU{S:List Nat}(cb jb:Nat)(t:TimD)(a:StA)(r:RolD)(b:StB)(yv out:Value)(qd:Nat)(wh:Int)(w:World)(hin:Own w S [z4 cb t (.pointer none) a r b yv jb qd out] w):Rets Tryz.prog 70 #[pt cb,Vi wh] w fun u_ w'=>u_= .tuple #[]∧Own w S [z4 cb t (.pointer none) a ({qr:=1,who:=wh,qc:=r.qc}:RolD) b (.slice none 0 0) jb qd out] w':=by
  refine zW Tryz.func70 O Tryz.ntmps70 hin ?_
  refine zB (zD O (zD O (zD O (zD O (za O O (zJ (o:=21) O O (zn 0 O O O O O (za O O (zJ (o:=22) O O (zn 0 O O O O O (za O O (zJ (o:=30) O O ?_))))))))))))
  refine zn 0 O O O O O (zA (zN (zB (zD O (za O O (zJ (o:=9) O O (zL 0 (v:= .pointer none) O O O O (zBl qN O O O (zA (xt O (zO (zS ?_))))))))))))
  refine zD O (za O O (zJ (o:=9) O O (zn 0 O O O O O ?_)))
  exact zd (yJ O (fun w' hw=>⟨O,hw⟩))
theorem _root_.Go.Sc.qZ{p:Prop}(h:p:=by simp[cell1,U1]):p:=h
theorem zBI{S:List Nat}(cb jb:Nat)(t:TimD)(a:StA)(r:RolD)(b:StB)(yv:Value)(qd:Nat)(wh:Int)(ld:Nat)(l:LdD)(ob:Nat)(o:OutD)(w:World)(hl:l.qk.length≤1000000)(ho:o.qq.length=0)(hin:Own w S [z4 cb t (pt ld) a r b yv jb qd (pt ob),Res.ld ld l,Res.ou ob o] w):Rets Tryz.prog 70 #[pt cb,Vi wh] w fun u_ w'=>∃ (xw:Value),u_= .tuple #[]∧Own w S [z4 cb t (.pointer none) a ({qr:=1,who:=wh,qc:=r.qc}:RolD) b (.slice none 0 0) jb qd (pt ob),Res.ou ob ({o with xv:=xw,qq:=l.qk.map LookM.id}:OutD)] w':=by
  refine zW Tryz.func70 O Tryz.ntmps70 hin ?_
  refine zB (zD O (zD O (zD O (zD O (za O O (zJ (o:=21) O O (zn 0 O O O O O (za O O (zJ (o:=22) O O (zn 0 O O O O O (za O O (zJ (o:=30) O O ?_))))))))))))
  refine zn 0 O O O O O (zA (zN (zB (zD O (za O O (zJ (o:=9) O O (zL 0 (v:=pt ld) O O O O (zBl qN O O O (zA (zHl O (zB (zD O ?_))))))))))))
  refine za O O (zJ (o:=9) O O (zL 0 (v:=pt ld) O O O O (za O O (zJ (o:=4) O O (yC (v:=l.kv) 1 0 4 O O O O qN O (zo (pC 1 5 O O) O O (zD O (zA (zX ?_)))))))))
  refine yw (fun(k:Nat) (xv:Value)=>[(0,pt cb),(27,l.kv),(28,Vj l.qk.length),(29,Vj k)]) (fun(k:Nat) (xv:Value)=>k≤l.qk.length) (fun(k:Nat) (xv:Value)=>[z4 cb t (pt ld) a ({qr:=1,who:=wh,qc:=r.qc}:RolD) b (.slice none 0 0) jb qd (pt ob),Res.ld ld l,Res.ou ob ({o with xv:=xv,qq:=(l.qk.take k).map LookM.id}:OutD)]) (fun(k:Nat) (xv:Value)=>l.qk.length - k) (fun w' hw=>⟨0,o.xv,⟨O,O,O,O,trivial⟩,Nat.zero_le _,by rw[List.take_zero,List.map_nil,←List.eq_nil_of_length_eq_zero ho];exact hw⟩) (fun k xv g hΦ=> ?_)
  refine zB (yG O O O (zA (zN (zY O (fun c2=> ?_) (fun c2=> ?_)))))
  ·refine zO (zN (zX (zB (zi (pC 1 5 O O) 3 k O O O V O (kP (pC 1 5 O O) 3 k (off:=xE l.kv+k*3) (fun _=>O) O O V O (yE (v:= .agg #[Vn 0,Vn 0,Vn 0]) qN O (fun b5=>zr 3 O O O (xQ O) O (zA (zg [0,1,3] O qM qN (fun w' hw hS=>zC 0 O zT hS (zC 1 O (zQ O) hS (zC 2 O (zH (o:=33) O) hS ?_))))))))))))
   refine zC 3 O (zZ 0 (v:=pt ob) O O O) hS (zC 4 O zT hS (zC 5 O (zQ O) hS (zC 6 O (zH (o:=33) O) hS (zC 7 O (zZ 0 (v:=pt ob) O O O) hS (zC 8 O (zQ O) hS (zC 9 O (zH (o:=3) O) hS (zC 11 O (zH (o:=0) O) hS (zC 12 O (zH (o:=0) O) hS (zC 13 O (zZ 2 (v:=Vn ((zG l.qk k).id)) O O O) hS (zu 10 14 ?_ ?_))))))))))
   ·refine zm 10 O hw (yC (v:=xv) 2 0 3 O O O O qN O (zE [0,1,3] O qM (fun w' hw hS=>zK 14 O hw (zy (e:=22) (sz:=1) (vs:=[Vn ((zG l.qk k).id)]) qN O O qR qM O (fun b47=>zE [0,1,3] O qM (fun w' hw hS=>zK 15 O hw ?_))))))
    refine z2 [z4 cb t (pt ld) a ({qr:=1,who:=wh,qc:=r.qc}:RolD) b (.slice none 0 0) jb qd (pt ob),Res.ld ld l,Res.row b5 116 (LookM.cells (zG l.qk k)),vU (.slice (some ⟨b47,0,none⟩) 1 1) [(zG l.qk k).id],zBL ob ({o with xv:=xv,qq:=(l.qk.take k).map LookM.id}:OutD),vM o.mv o.qj,sM o.qj,vR o.rv o.qx,vU xv ((l.qk.take k).map LookM.id)] (fun w' hw=>hw.qn 2 O) ?_
    refine z7 (g:=U1) (sz:=1) (by':=8) (fun _=>O) (l:=(l.qk.take k).map LookM.id) (l':=[(zG l.qk k).id]) qZ 8 qN O O O (fun w' hw'=>Vec.sl (Own.holds hw' 3 _ O)) qO qM O (fun v48=>zE [0,1,2] O qM (fun w' hw hS=>zC 16 O (zQ O) hS (zC 17 O (zH (o:=3) O) hS (zK 18 O hw ?_))))
    refine zP (fun w' hw=>Own.qh (i:=8) O hw) (fun hc1_=> ?_)
    refine zn 4 O O O hc1_ O (zE [0,1,2] O qM (fun w' hw hS=>zU ?_))
    refine Oc9 ?_ hw
    refine zS (zp O O (zq V) O (zD O ?_))
    exact zd (fun w' hw=>⟨k+1,v48,⟨O,O,O,O,trivial⟩,V,by rw[zt V,List.map_append];exact(hw.qo [4,5,6,7,8] rfl qM).sel [0,1,4] rfl qM,V⟩)
   refine zm 14 O hw (zy (e:=22) (sz:=1) (vs:=[Vn ((zG l.qk k).id)]) qN O O qR qM O (fun b47=>zE [0,1,3] O qM (fun w' hw hS=>zK 10 O hw (yC (v:=xv) 2 0 3 O O O O qN O (zE [0,1,3] O qM (fun w' hw hS=>zK 15 O hw ?_))))))
   refine z2 [z4 cb t (pt ld) a ({qr:=1,who:=wh,qc:=r.qc}:RolD) b (.slice none 0 0) jb qd (pt ob),Res.ld ld l,Res.row b5 116 (LookM.cells (zG l.qk k)),vU (.slice (some ⟨b47,0,none⟩) 1 1) [(zG l.qk k).id],zBL ob ({o with xv:=xv,qq:=(l.qk.take k).map LookM.id}:OutD),vM o.mv o.qj,sM o.qj,vR o.rv o.qx,vU xv ((l.qk.take k).map LookM.id)] (fun w' hw=>hw.qn 2 O) ?_
   refine z7 (g:=U1) (sz:=1) (by':=8) (fun _=>O) (l:=(l.qk.take k).map LookM.id) (l':=[(zG l.qk k).id]) qZ 8 qN O O O (fun w' hw'=>Vec.sl (Own.holds hw' 3 _ O)) qO qM O (fun v48=>zE [0,1,2] O qM (fun w' hw hS=>zC 16 O (zQ O) hS (zC 17 O (zH (o:=3) O) hS (zK 18 O hw ?_))))
   refine zP (fun w' hw=>Own.qh (i:=8) O hw) (fun hc2_=> ?_)
   refine zn 4 O O O hc2_ O (zE [0,1,2] O qM (fun w' hw hS=>zU ?_))
   refine Oc9 ?_ hw
   refine zS (zp O O (zq V) O (zD O ?_))
   exact zd (fun w' hw=>⟨k+1,v48,⟨O,O,O,O,trivial⟩,V,by rw[zt V,List.map_append];exact(hw.qo [4,5,6,7,8] rfl qM).sel [0,1,4] rfl qM,V⟩)
  refine yA O (zS (zD O (za O O (zJ (o:=9) O O (zn 0 O O O O O ?_)))))
  exact zd (yJ O (fun w' hw=>⟨xv,O,by rw[List.take_of_length_le V]at hw;exact hw.sel [0,2] rfl qM⟩))
end Go.Proofs.YtkkeknmkipkbmaaGreat
set_option linter.unusedVariables false
set_option linter.unusedSectionVars false
namespace Go.Sc
section
variable {P:Program} {n:Nat} {fn:Func} {g:FuncId}
end
def zNL{α:Type}(P:Program)(l:Nat)(e1 e2:α→Value)(Q:α→Prop)(N:Nat)(J:List α→List Res→Prop):Prop:=
  ∀ pre x L w,J pre L→Q x→pre.length<N→Own w (y2 L) L w→∃ fn tmps asg body,(Instr.yield l #[e1 x,e2 x]).run P w= .ok (.round l fn tmps asg body) w∧
    RoundIn Fence.wide 0 P l fn tmps asg body w fun e w'=>e= .returned (.bool true)∧∃ L',J (pre++[x]) L'∧Own w (y2 L) L' w'
def SeqC2{α:Type}(P:Program)(g:FuncId)(lb:List Value)(e1 e2:α→Value)(Q:α→Prop)(Sx:List α→Prop)(N:Nat)(Ls:List Res):Prop:=
  ∀ (l:Nat) (J:List α→List Res→Prop) (L:List Res) (w:World),zNL P l e1 e2 Q N J→J [] L→Own w (y2 (Ls++L)) (Ls++L) w→
    Rets P g (.func (.yield l) #[] #[]::lb).toArray w fun _ w'=>∃ xs L',Sx xs∧J xs L'∧Own w (y2 (Ls++L)) (Ls++L') w'
section
variable {P:Program} {n:Nat} {ops:Array Oper} {f:Nat→Value} {A:World→Prop} {rest:List Oper} {d:Nat} {ty:TypeId} {p:String} {af:Array Edge} {N R:K} {X:List (Nat×K)} {ds:List Deferred} {fn:Func} {g:FuncId}
def RC(P:Program)(n l:Nat)(c:Code)(f:Nat→Value)(A B:World→Prop):Prop:=∀ a w,Rep n f a→A w→c.wpIn (Wd (some l)) 0 P (x6 n fun _ w'=>B w') a w
theorem zJP{r0 r1 r2 blk c2:Code}{args:List Value}{w:World}{R:Value→World→Prop}(hf:P.funcs[g]?=some fn)(hb:fn.body=some (.seq r0 (.seq r1 (.seq (.seq r2 blk) c2))))(hn:fn.ntmps=n)(hl:Nat.ble args.length n=true)(hA:A w)
    (h:C P n r0 (fun f w=>W P n r1 (fun f w=>W P n r2 (RF P fn n blk c2 R) (fun _ _=>False) [] f w) (fun _ _=>False) [] f w) (fun _ _=>False) [] (ini args) A):Rets P g args.toArray w R:=by
  subst hn
  refine callsIn_wide (n:=0).1 (callsIn_of_wp_marks hf hb trivial ?_)
  have out:∀ {N:K} {e:Exit} {a:Act} {w:World},post fn.ntmps N (fun _ _=>False) [] e a w→e= .normal∧∃ f,Rep fn.ntmps f a∧N f w:=by
    intro N e a w hq
    cases e with
    |normal=>exact⟨rfl,hq⟩
    |ret=>obtain⟨_,_,h⟩:=hq;exact h.elim
    |exit id=>obtain⟨_,_,_,h,_⟩:=hq;cases h
    |_=>exact hq.elim
  refine wpIn_seq (wpIn_mono (wpIn_wide.2 (h w hA _ (zH2 args fn.ntmps (Nat.le_of_ble_eq_true hl)))) ?_)
  intro e a w hq
  obtain⟨rfl,f,hr,hw⟩:=out hq
  refine wpIn_seq (wpIn_mono (wpIn_wide.2 (hw a hr)) ?_)
  intro e a w hq
  obtain⟨rfl,f,hr,hw⟩:=out hq
  refine wpIn_seq (wpIn_seq (wpIn_mono (wpIn_wide.2 (hw a hr)) ?_))
  intro e a w hq
  obtain⟨rfl,f,hr,hw⟩:=out hq
  refine wpIn_mono (hw a hr) ?_
  intro e a w hq
  cases e<;>exact hq
theorem zJ8:∀ (Q Q':Exit→Act→World→Prop),(∀ e a w,Q e a w→Q' e a w)→∀ (l:List Oper) (a:Act) (w:World),wpList P ops Q l a w→wpList P ops Q' l a w:=by
  intro Q Q' hq l
  induction l with
  |nil=>intro a w h;exact hq _ _ _ h
  |cons o l ih=>
    intro a w h
    unfold wpList at h ⊢
    split
    · rename_i hw
      rw[if_pos hw]at h
      rcases h with h|⟨h1,a1,w1,h2⟩
      · left
        unfold Oper.wp at *
        generalize (execOp a.eval o).run P w=r at *
        cases r with
        |ok nx w'=>
          cases nx<;>simp only[Oper.upon]at h ⊢ <;>
            first
              |exact ih _ _ h
              |exact Calls.mono h (fun e w'' he=>by
                  cases e with
                  |returned v=>exact ih _ _ he
                  |panicked c=>exact hq _ _ _ he
                  |outgrown=>obtain⟨a2,w2,h2⟩:=he;exact⟨a2,w2,hq _ _ _ h2⟩)
              |exact Rows.mono h (fun _ _ he=>ih _ _ he)
        |halt x w'=>cases x<;>simp only[Oper.upon]at h ⊢ <;>exact hq _ _ _ h
      exact .inr ⟨h1,a1,w1,hq _ _ _ h2⟩
    rename_i hw
    rw[if_neg hw]at h
    exact ih _ _ h
def wd(a:Act)(ds:List Deferred):Act:={a with defers:=a.defers++ds}
theorem zEt{Q:Exit→Act→World→Prop}{ds:List Deferred}(hq:¬ LetsOut fun e a w=>Q e (wd a ds) w):∀ (l:List Oper) (a:Act) (w:World),xS l=true→wpList P ops (fun e a w=>Q e (wd a ds) w) l a w→wpListIn (Wd none) 0 P ops Q l (wd a ds) w
  | [],a,w,_,h=>h
  |o::l,a,w,hn,h=>by
    simp only[xS,List.all_cons,Bool.and_eq_true]at hn
    have ih:∀ (d:Option Nat) (v:Value) (w:World),wpList P ops (fun e a w=>Q e (wd a ds) w) l (a.put d v) w→wpListIn (Wd none) 0 P ops Q l ((wd a ds).put d v) w:=fun d v w h=>by
      have e:wd (a.put d v) ds=(wd a ds).put d v:=by cases d<;>rfl
      have:=zEt hq l (a.put d v) w hn.2 h
      rwa [e]at this
    have ihd:∀ (x:Deferred) (d:Option Nat) (v:Value) (w:World),wpList P ops (fun e a w=>Q e (wd a ds) w) l (({a with defers:=x::a.defers}:Act).put d v) w→wpListIn (Wd none) 0 P ops Q l (({wd a ds with defers:=x::(wd a ds).defers}:Act).put d v) w:=fun x d v w h=>by
      have e:wd (({a with defers:=x::a.defers}:Act).put d v) ds=({wd a ds with defers:=x::(wd a ds).defers}:Act).put d v:=by cases d<;>rfl
      have:=zEt hq l _ w hn.2 h
      rwa [e]at this
    unfold wpList at h
    unfold wpListIn
    split
    · rename_i hw
      have hw:Region.wanted o (yielded ops a.tmps)=true:=hw
      rw[if_pos hw]at h
      have h:=h.resolve_right fun q=>hq q.2
      refine⟨fun _ _=>trivial,?_⟩
      rw[Oper.semAt_eq _ _ _ (fun c hc=>by rw[hc]at hn;simp at hn)]
      unfold Oper.wp at h
      have ee:(wd a ds).eval=a.eval:=rfl
      rw[ee]
      generalize (execOp a.eval o).run P w=r at h ⊢
      cases r with
      |ok nx w'=>
        cases nx<;>simp only[Oper.upon,Oper.uponIn]at h ⊢ <;>
          first
            |exact h.elim
            |exact ih _ _ _ h
            |exact ihd _ _ _ _ h
            |exact⟨fun q=>by simp[Wd,Fence.wide]at q,(zA3 h).mono fun e w'' he=>by
                cases e with
                |returned v=>exact ih _ _ _ he
                |panicked c=>exact he
                |outgrown=>exact absurd he hq⟩
            |exact⟨fun q=>by simp[Wd,Fence.wide]at q,(zBs h).mono fun v w'' he=>ih _ _ _ he⟩
      |halt x w'=>cases x<;>simp only[Oper.upon,Oper.uponIn]at h ⊢ <;>exact h
    rename_i hw
    have hw:¬ Region.wanted o (yielded ops a.tmps)=true:=hw
    rw[if_neg hw]at h
    exact⟨fun _ _=>trivial,ih _ _ _ h⟩
theorem zGb{N:K}{l:List Oper}{a:Act}{w:World}(hn:xS l=true)(h:wpList P ops (x6 n N) l {a with defers:=[]} w):wpListIn (Wd none) 0 P ops (zIC n a.defers N) l a w:=by
  have hm:wpList P ops (fun e b w=>zIC n a.defers N e (wd b a.defers) w) l {a with defers:=[]} w:=zJ8 _ _ (fun e b w q=>by
    cases e<;>first|exact q|skip
    obtain⟨f,hr,hN⟩:=q
    refine⟨f,⟨?_,?_⟩,hN⟩
    · have h2:=hr.defers
      cases b
      simp only at h2;subst h2
      exact hr
    show b.defers++a.defers=a.defers
    rw[hr.defers];rfl) _ _ _ h
  exact zEt (fun q=>by obtain⟨_,_,q⟩:=q;exact q) l {a with defers:=[]} w hn hm
theorem zMv{i4 t4 t5 D:Nat}{T4 T5:TypeId}{l4:List Oper}{f:Nat→Value}{w0 w:World}{S:List Nat}{L:List Res}{R:Value→World→Prop}(hr:fn.results= #[.cell t4 T4, .cell t5 T5])(h5:one P T5=true)(hn:xS l4=true)
    (h:CL P n l4.toArray l4 (fun f' w'=>∃ (L':List Res) (cs:List Value) (v:Value) (b4 b5 j4 j5:Nat),(f' t4= .pointer (some ⟨b4,0,none⟩)∧f' t5= .pointer (some ⟨b5,0,none⟩))∧(L'[j4]?=some (Res.row b4 T4 cs)∧L'[j5]?=some (Res.row b5 T5 [v]))∧jZ P T4=some cs.length
      ∧Own w0 S (Res.obj D (.deferred (some []))::L') w'∧∀ w'',Own w0 S L' w''→R (.tuple #[.agg cs.toArray,v]) w'') f (Own w0 S (Res.obj D (.deferred (some []))::L))) (hw:Own w0 S (Res.obj D (.deferred (some []))::L) w):
    ∀ a,RepD n [{target:= .collected D,args:= #[]}] f a→(Code.seq (.region i4 l4.toArray false) .ret).wpIn Fence.wide 0 P (bodyPostM Fence.wide 0 P fn fun e w'=>∃ v,e= .returned v∧R v w') a w:=by
  intro a ha
  have h1:=zGb (a:=a) hn (h w hw _ ha.1)
  rw[ha.2]at h1
  refine wpIn_seq (wpIn_mono (wpIn_region_lit (F:=Fence.wide) (n:=0) h1) ?_)
  intro e a w hq
  cases e<;>first|exact hq.elim|skip
  obtain⟨f',hr',L',cs,v,b4,b5,j4,j5,⟨e4,e5⟩,⟨q4,q5⟩,hT,hO,hR⟩:=hq
  refine wpIn_ret ?_
  show LeavesInM Fence.wide 0 P fn a.tmps _ a.defers .returning w
  rw[hr'.2]
  refine⟨by simp, .inl ⟨D,_,O,run_takeDeferred (hO.holds 0 _ O),?_⟩⟩
  have hO2:=(hO.putObj (i:=0) (.deferred none) rfl).tail
  refine⟨_,?_,_,O,hR _ hO2⟩
  have g:∀ t,a.tmps.getD t undef=f' t:=hr'.1.get
  have r4:=xM (P:=P) hT (hO2.qt q4)
  have r5:=kp (P:=P) h5 (hO2.rowCell q5 (off:=0) (v:=v) rfl)
  simp[results,hr,g,e4,e5,asAddr,r4,r5]
end
end Go.Sc
