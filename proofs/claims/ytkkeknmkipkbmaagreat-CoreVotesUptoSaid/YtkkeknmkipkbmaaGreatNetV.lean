import Derived.Test.YtkkeknmkipkbmaaGreatRun
import Derived.Test.YtkkeknmkipkbmaaGreatNetB
import Derived.Test.YtkkeknmkipkbmaaGreatBytes
set_option linter.unusedSectionVars false
set_option linter.unusedSimpArgs false
set_option linter.unusedVariables false
set_option maxRecDepth 10000
namespace Go.Proofs.YtkkeknmkipkbmaaGreat
open Go Go.Sc Go.Proofs
structure Bnd(N lk k:Nat)(X:NetA):Prop where
  len:X.nodes.length=N
  B:∀ i,i<N→NodB N lk k i (zG X.nodes i)
  M:∀ q∈X.way,MsgB N k q
  wl:X.way.length≤16*k
theorem Bnd.up{N lk k:Nat}{X:NetA}(h:Bnd N lk k X):Bnd N lk (k+1) X:=
  ⟨h.len,fun i hi=>(h.B i hi).up (Nat.le_succ k) (Nat.le_refl _),fun q hq=>(h.M q hq).up (Nat.le_succ k),by have:=h.wl;omega⟩
theorem Bnd.sub{N lk k:Nat}{X:NetA}{way:List MsgA}(h:Bnd N lk k X)(hs:way.Sublist X.way):Bnd N lk k ⟨X.nodes,way⟩:=
  ⟨h.len,h.B,fun q hq=>h.M q (hs.mem hq),Nat.le_trans hs.length_le h.wl⟩
theorem zDS{X:NetA}{i j:Nat}{n:NodA}{ms:List MsgA}(hi:i<X.nodes.length):zG (X.call i n ms).nodes j=if j=i then n else zG X.nodes j:=by
  unfold NetA.call
  rw[show zG (X.nodes.set i n) j=if j=i∧i<X.nodes.length then n else zG X.nodes j from xK]
  by_cases c:j=i
  · rw[if_pos ⟨c,hi⟩,if_pos c]
  rw[if_neg (fun q=>c q.1),if_neg c]
theorem Bnd.act{N lk k i:Nat}{ch:Bool}{X:NetA}{n:NodA}{ms:List MsgA}{rs:List RdyD}(hN:1≤N∧N≤5)(hk:k≤99000)(h:Bnd N lk k X)(hi:i<N)(ha:Act N ch lk (· ∈X.way) i (zG X.nodes i) n ms rs):Bnd N lk (k+1) (X.call i n ms):=by
  obtain⟨h1,h2,h3⟩:=zHA hN hi (h.B i hi) h.M ha V
  have hl:=h.len
  refine⟨by show(X.nodes.set i n).length=N;rw[List.length_set,hl],fun j hj=> ?_,fun q hq=> ?_,by show(X.way++ms).length≤_;rw[List.length_append];have:=h.wl;omega⟩
  · rw[zDS V]
    split
    · rename_i e;rw[e];exact h1
    exact(h.B j hj).up (Nat.le_succ k) (Nat.le_refl _)
  rcases List.mem_append.1 hq with hq|hq
  · exact(h.M q hq).up (Nat.le_succ k)
  exact h2 q hq
structure VotI(N:Nat)(G:Int→Nat→Int→Prop)(X:NetA)(H:Int→Nat→Int→Prop):Prop where
  fn:∀ v T c c',H v T c→H v T c'→c=c'
  nz:∀ v T c,H v T c→c≠0
  nd:∀ i,i<N→∀ T c,H (jr i) T c→T≤(zG X.nodes i).t.term∧(T=(zG X.nodes i).t.term→(zG X.nodes i).t.qD=c)
  cd:∀ i,i<N→(zG X.nodes i).r.qt=3→H (jr i) (zG X.nodes i).t.term (jr i)
  ask:∀ m∈X.way,m.kind=3→H m.src m.term m.src
  yes:∀ m∈X.way,m.kind=4→m.flag=true→H m.src m.term m.dst
  gv:∀ v T c,G v T c→H v T c
def zLj(N:Nat)(G:Int→Nat→Int→Prop)(k:Nat)(X:NetA):Prop:=Bnd N 0 k X∧∃ H,VotI N G X H
theorem zLU{i j:Nat}(h:jr i=jr j):i=j:=by unfold jr at h;omega
theorem zCh{N i:Nat}{G:Int→Nat→Int→Prop}{X:NetA}{H H':Int→Nat→Int→Prop}{n:NodA}{ms:List MsgA}(hl:X.nodes.length=N)(hi:i<N)(h:VotI N G X H)(hH:∀ v T c,H v T c→H' v T c)(hfn:∀ v T c c',H' v T c→H' v T c'→c=c')(hnz:∀ v T c,H' v T c→c≠0)
    (hnew:∀ v T c,H' v T c→H v T c∨v=jr i)
    (hnd:∀ T c,H' (jr i) T c→T≤n.t.term∧(T=n.t.term→n.t.qD=c)) (hcd:n.r.qt=3→H' (jr i) n.t.term (jr i)) (hms:∀ m∈ms,(m.kind=3→H' m.src m.term m.src)∧(m.kind=4→m.flag=true→H' m.src m.term m.dst)):VotI N G (X.call i n ms) H':=by
  refine⟨hfn,hnz,fun j hj T c hc=> ?_,fun j hj hr=> ?_,fun m hm k=> ?_,fun m hm k f=> ?_,fun v T c hc=>hH v T c (h.gv v T c hc)⟩
  · rw[zDS V]
    split
    · rename_i e;subst e;exact hnd T c hc
    rename_i e
    rcases hnew _ _ _ hc with q|q
    · exact h.nd j hj T c q
    exact absurd (zLU q) e
  · rw[zDS V]at hr ⊢
    split at hr
    · rename_i e;subst e;rw[if_pos rfl];exact hcd hr
    rename_i e;rw[if_neg e];exact hH _ _ _ (h.cd j hj hr)
  · rcases List.mem_append.1 hm with hm|hm
    · exact hH _ _ _ (h.ask m hm k)
    exact(hms m hm).1 k
  rcases List.mem_append.1 hm with hm|hm
  · exact hH _ _ _ (h.yes m hm k f)
  exact(hms m hm).2 k f
theorem kf{N i:Nat}{G:Int→Nat→Int→Prop}{X:NetA}{H:Int→Nat→Int→Prop}{n:NodA}{ms:List MsgA}(hl:X.nodes.length=N)(hi:i<N)(h:VotI N G X H)
    (ht:(zG X.nodes i).t.term<n.t.term∨n.t.term=(zG X.nodes i).t.term∧n.t.qD=(zG X.nodes i).t.qD) (hcd:n.r.qt=3→n.t.term=(zG X.nodes i).t.term∧(zG X.nodes i).r.qt=3) (hms:∀ m∈ms,(m.kind=3→H m.src m.term m.src)∧(m.kind=4→m.flag=true→H m.src m.term m.dst)):VotI N G (X.call i n ms) H:=
  zCh hl hi h (fun _ _ _ q=>q) h.fn h.nz (fun _ _ _ q=> .inl q) (fun T c hc=>by
    have h1:=h.nd i hi T c hc
    rcases ht with q|⟨q1,q2⟩
    · exact⟨by omega,fun e=>by omega⟩
    rw[q1,q2];exact h1) (fun q=>by rw[(hcd q).1];exact h.cd i hi (hcd q).2) hms
theorem zMO{N k i:Nat}{G:Int→Nat→Int→Prop}{ch:Bool}{X:NetA}{H:Int→Nat→Int→Prop}{n:NodA}{ms:List MsgA}{rs:List RdyD}(hN:1≤N∧N≤5)(hB:Bnd N 0 k X)(hi:i<N)(h:VotI N G X H)(ha:Act N ch 0 (· ∈X.way) i (zG X.nodes i) n ms rs):∃ H,VotI N G (X.call i n ms) H:=by
  have hl:=hB.len
  have no:∀ m∈([]:List MsgA),(m.kind=3→H m.src m.term m.src)∧(m.kind=4→m.flag=true→H m.src m.term m.dst):=fun m hm=>by cases hm
  have key:=fun(n:NodA) (ht:n.t.term=(zG X.nodes i).t.term∧n.t.qD=(zG X.nodes i).t.qD) (hr:n.r.qt=3→(zG X.nodes i).r.qt=3)=>kf (ms:=[]) hl hi h (.inr ht) (fun q=>⟨ht.1,hr q⟩) no
  cases ha with
  |tim t h1 h2=>exact⟨H,key _ h1 id⟩
  |say ms hm hml=>
    refine⟨H,kf hl hi h (.inr ⟨O,O⟩) (fun q=>⟨O,q⟩) fun m hm'=> ?_⟩
    have h1:=(hm m hm').kind
    exact ⟨fun q => by omega, fun q f => by rcases h1 with h1 | h1 | h1 | ⟨_, h1⟩; · omega
                                            · omega
                                            · omega
                                            rw[f]at h1;cases h1⟩
  |later q d hq h2=>exact⟨H,kf hl hi h (.inl h2) (fun q=>absurd q (by show ¬(1:Int)=3;decide)) no⟩
  |follow wh=>exact⟨H,key _ ⟨rfl,rfl⟩ (fun q=>absurd q (by show ¬(1:Int)=3;decide))⟩
  |cand=>exact⟨H,key _ ⟨rfl,rfl⟩ (fun q=>absurd q (by show ¬(2:Int)=3;decide))⟩
  |yes2 v hr=>exact⟨H,key _ ⟨rfl,rfl⟩ id⟩
  |yes3 q hr hq hk hd=>exact⟨H,key _ ⟨rfl,rfl⟩ id⟩
  |stand d=>
    refine⟨fun v T c=>H v T c∨(v=jr i∧T=(zG X.nodes i).t.term+1∧c=jr i),zCh hl hi h (fun _ _ _ q=> .inl q) (fun v T c c' a b=> ?_) (fun v T c a=> ?_) (fun v T c a=> ?_) (fun T c a=> ?_) (fun _=> .inr ⟨O,O,O⟩) (fun m hm=>by cases hm)⟩
    · rcases a with a|⟨a1,a2,a3⟩<;>rcases b with b|⟨b1,b2,b3⟩
      · exact h.fn v T c c' a b
      · rw[b1]at a;have:=(h.nd i hi T c a).1;omega
      · rw[a1]at b;have:=(h.nd i hi T c' b).1;omega
      rw[a3,b3]
    · rcases a with a|⟨a1,a2,a3⟩
      · exact h.nz v T c a
      rw[a3];unfold jr;omega
    · rcases a with a|⟨a1,_⟩
      · exact .inl a
      exact .inr a1
    show T≤(zG X.nodes i).t.term+1∧(T=(zG X.nodes i).t.term+1→jr i=c)
    rcases a with a|⟨a1,a2,a3⟩
    · have:=(h.nd i hi T c a).1;omega
    exact⟨by omega,fun _=>a3.symm⟩
  |asks ms hr hm hml=>
    refine⟨H,kf hl hi h (.inr ⟨O,O⟩) (fun q=>⟨O,q⟩) fun m hm'=> ?_⟩
    have h1:=hm m hm'
    exact⟨fun _=>by rw[h1.src,h1.term];exact h.cd i hi hr,fun q=>by have:=h1.kind;omega⟩
  |elect hr hq=>exact⟨H,key _ ⟨rfl,rfl⟩ (fun q=>absurd q (by show ¬(4:Int)=3;decide))⟩
  |qD q d hq hk hv hr hf=>
    have hs:=(hB.M q hq).src
    refine⟨fun v T c=>H v T c∨(v=jr i∧T=(zG X.nodes i).t.term∧c=q.src),zCh hl hi h (fun _ _ _ q=> .inl q) (fun v T c c' a b=> ?_) (fun v T c a=> ?_) (fun v T c a=> ?_) (fun T c a=> ?_) (fun hr=> .inl (h.cd i hi hr)) (fun m hm=> ?_)⟩
    · have one:∀ c,H (jr i) (zG X.nodes i).t.term c→c=q.src:=fun c hc=>by
        have h1:=(h.nd i hi _ c hc).2 rfl
        rcases hv with hv|hv
        · exact absurd (h1.symm.trans hv) (h.nz _ _ _ hc)
        exact h1.symm.trans hv
      rcases a with a|⟨a1,a2,a3⟩<;>rcases b with b|⟨b1,b2,b3⟩
      · exact h.fn v T c c' a b
      · rw[b1,b2]at a;rw[b3];exact one c a
      · rw[a1,a2]at b;rw[a3];exact(one c' b).symm
      rw[a3,b3]
    · rcases a with a|⟨a1,a2,a3⟩
      · exact h.nz v T c a
      rw[a3];omega
    · rcases a with a|⟨a1,_⟩
      · exact .inl a
      exact .inr a1
    · show T≤(zG X.nodes i).t.term∧(T=(zG X.nodes i).t.term→q.src=c)
      rcases a with a|⟨a1,a2,a3⟩
      · have h1:=h.nd i hi T c a
        refine⟨h1.1,fun e=> ?_⟩
        have h2:=h1.2 e
        rcases hv with hv|hv
        · exact absurd (h2.symm.trans hv) (h.nz _ _ _ a)
        exact hv.symm.trans h2
      exact⟨by omega,fun _=>a3.symm⟩
    rw[List.mem_singleton.1 hm]
    exact⟨fun q=>absurd q (by show ¬(4:Int)=3;decide),fun _ _=> .inr ⟨O,O,O⟩⟩
  |app q hq hk hr hld hc he hf hfi=>exact⟨H,kf hl hi h (.inr ⟨rfl,rfl⟩) (fun x=>⟨rfl,x⟩) fun m hm=>by rw[List.mem_singleton.1 hm];exact⟨fun x=>absurd x (by show ¬(6:Int)=3;decide),fun x=>absurd x (by show ¬(6:Int)=4;decide)⟩⟩
  |low q hq hk hr hc=>exact⟨H,kf hl hi h (.inr ⟨rfl,rfl⟩) (fun x=>⟨rfl,x⟩) fun m hm=>by rw[List.mem_singleton.1 hm];exact⟨fun x=>absurd x (by show ¬(6:Int)=3;decide),fun x=>absurd x (by show ¬(6:Int)=4;decide)⟩⟩
  |lead l l' hr hl hs=>exact⟨H,key _ ⟨rfl,rfl⟩ id⟩
  |grow l e P hr hl he hg=>exact⟨H,key _ ⟨rfl,rfl⟩ id⟩
  |count l hr hl=>exact⟨H,key _ ⟨rfl,rfl⟩ id⟩
  |feed l ms hr hll hm hml=>
    refine⟨H,kf hl hi h (.inr ⟨O,O⟩) (fun q=>⟨O,q⟩) fun m hm'=> ?_⟩
    have h1:=(hm m hm').kind
    exact⟨fun q=>by omega,fun q=>by omega⟩
  |look l id hr hl hf hk=>exact⟨H,key _ ⟨rfl,rfl⟩ fun q=>q⟩
  |imm id hr hf hq=>exact⟨H,key _ ⟨rfl,rfl⟩ fun q=>q⟩
  |tell l k hk hr hl=>exact⟨H,key _ (by show(xp k l.qf _).term=_∧(xp k l.qf _).qD=_;unfold xp;split<;>exact⟨rfl,rfl⟩) id⟩
theorem zMV{N:Nat}{ch:Bool}{G:Int→Nat→Int→Prop}(hN:1≤N∧N≤5):Stp N ch 0 (zLj N G) where
  len k X h:=h.1.len
  B k X i h hi:=h.1.B i hi
  M k X h:=h.1.M
  wl k X h:=h.1.wl
  up k X h:=⟨h.1.up,h.2⟩
  sub k X way h hs:=⟨h.1.sub hs,by
    obtain⟨H,hH⟩:=h.2
    exact⟨H,hH.fn,hH.nz,hH.nd,hH.cd,fun m hm=>hH.ask m (hs.mem hm),fun m hm=>hH.yes m (hs.mem hm),hH.gv⟩⟩
  act k X i n ms rs hk h hi ha:=⟨h.1.act hN hk hi ha,by
    obtain⟨H,hH⟩:=h.2
    exact zMO hN h.1 hi hH ha⟩
instance:Inhabited MovD:=⟨⟨0,0,0,0,0⟩⟩
theorem zDR{α:Type}{g:α→List Value}{sz:Nat}(hg:∀ a,(g a).length=sz):∀ (l:List α) (k:Nat),(l.take k).flatMap g=(l.flatMap g).take (k*sz)
  | [],k=>by simp
  |a::l,0=>by simp
  |a::l,k+1=>by
    rw[List.take_succ_cons,List.flatMap_cons,List.flatMap_cons,zDR hg l k,List.take_append,hg,List.take_of_length_le (l:=g a) (by rw[hg,Nat.succ_mul];omega),show(k+1)*sz - sz=k*sz by rw[Nat.succ_mul];omega]
theorem zGo{v:Value}(h:cell1 v=true){k sz:Nat}:cell1 (yx v 0 k sz)=true:=by
  cases v<;>first|exact h|rfl
theorem _root_.Go.Sc.Own.cutN{α:Type}{g:α→List Value}{w0 w:World}{S:List Nat}{L:List Res}{T:TypeId}{v:Value}{l:List α}{sz:Nat}(hg:∀ a,(g a).length=sz)(i k:Nat)(hL:L[i]?=some (Res.vec T sz v l.length (l.flatMap g)))(hk:k≤l.length)(h:Own w0 S L w):Own w0 S (L.set i (Res.vec T sz (yx v 0 k sz) (l.take k).length ((l.take k).flatMap g))) w:=by
  have hlk:(l.take k).length=k:=by rw[List.length_take];omega
  rw[hlk,zDR hg]
  refine h.turn hL ?_ ?_
  · rintro⟨hl,⟨rfl,h1⟩|⟨b,cap,cur,rfl,h0,h1,h2,h3,h4,h5⟩⟩
    · have hk0:k=0:=by omega
      subst hk0
      exact⟨by simp, .inl ⟨O,O⟩⟩
    have e:yx (.slice (some ⟨b,0,none⟩) l.length cap) 0 k sz= .slice (some ⟨b,0,none⟩) k cap:=by
      show x6 (some ⟨b,0,none⟩) cap 0 k cap sz=_
      unfold x6
      simp[Addr.add]
    rw[e]
    have hm:k*sz≤l.length*sz:=Nat.mul_le_mul_right _ hk
    refine⟨by rw[List.length_take,hl];omega, .inr ⟨b,cap,cur,O,h0,h1,by omega,h3,h4,?_⟩⟩
    rw[←h5,List.take_take]
    congr 1;omega
  intro b hb
  have:yW (yx v 0 k sz)=yW v∨yW (yx v 0 k sz)=[]:=by
    cases v with
    |slice a m cap=>left;show yW (x6 a cap 0 k cap sz)=_;exact zBC a m cap 0 k cap sz
    |_=>left;rfl
  rcases this with h1|h1
  · show b∈yW v;rw[←h1];exact hb
  have hb':b∈yW (yx v 0 k sz):=hb
  rw[h1]at hb';cases hb'
theorem zE0{κ α:Type}[DecidableEq κ]{k j:κ}{v:α}:∀ {l:List (κ×α)},jN j (zDX k v l)=if j=k then some v else jN j l
  | []=>by simp[zDX,jN]
  |(x,u)::r=>by
    have ih:=zE0 (k:=k) (j:=j) (v:=v) (l:=r)
    unfold zDX
    by_cases h:k=x
    · subst h
      rw[if_pos rfl];unfold jN
      by_cases e:j=k<;>simp[e]
    rw[if_neg h];unfold jN
    rw[ih]
    by_cases e:j=x
    · rw[if_pos e,if_pos e,if_neg (fun q=>h (q.symm.trans e))]
    rw[if_neg e,if_neg e]
theorem zLZ{N lk:Nat}(hN:1≤N∧N≤5):Bnd N lk 0 ⟨(List.range N).map zAi,[]⟩:=by
  have hn:∀ i,i<N→zG ((List.range N).map zAi) i=zAi i:=fun i hi=>by rw[kc (by rw[List.length_range];exact hi)];congr 1;exact xI (List.getElem?_range hi)
  refine⟨by show((List.range N).map zAi).length=N;rw[List.length_map,List.length_range],fun i hi=> ?_,fun q hq=>absurd hq qP,Nat.zero_le _⟩
  show NodB N lk 0 i (zG ((List.range N).map zAi) i)
  rw[hn i hi]
  exact⟨Nat.le_refl _,Nat.le_refl _,⟨Nat.zero_le _,Nat.zero_le _,trivial⟩,fun e he=>(by cases he),Nat.le_refl _,⟨by show(0:Int)≤0∧(0:Int)≤_;decide,by show(0:Int)≤0∧(0:Int)≤_;decide,by show(0:Int)≤0∧(0:Int)≤_;decide,by show(0:Int)≤0∧(0:Int)≤_;decide,by show(0:Int)≤0∧(0:Int)≤0;decide⟩,⟨fun q=>absurd q (by show ¬(1:Int)=4;decide),fun q=>absurd q (by show ¬ false=true;decide)⟩,fun q=>by rcases q with q|q<;>exact absurd q (by show ¬(1:Int)=_;decide),⟨List.nodup_nil,fun v hv=>by cases hv⟩,Nat.le_refl _,fun l q=>by cases q⟩
end Go.Proofs.YtkkeknmkipkbmaaGreat
set_option linter.unusedVariables false
set_option linter.unusedSectionVars false
namespace Go.Sc
section
variable {P:Program}
theorem zAO (em : Bool) (m : Nat) {cs : List Value} {w : World} : ∀ (fs : List Field) (ks : List (Nat × Option (Option IntKind))),
    (fs.mapM fun (f : Field) => if f.name = "_" then none else
      match P.underlying f.type with
      | some (.int k) => some (f.offset, some (some k))
      | some .string => some (f.offset, some none)
      | some .bool => some (f.offset, none)
      | _ => none) = some ks → zBK ks cs = true →
    (forIn fs PUnit.unit fun (f : Field) (_ : PUnit) => (if f.name ≠ "_" then do
        Instr.checkKey em (m + 1) f.type (← part f.type cs.toArray f.offset)
        pure (ForInStep.yield PUnit.unit)
      else pure (ForInStep.yield PUnit.unit) : Sem (ForInStep PUnit))).run P w = .ok () w
  | [], ks, h, _ => by simp
  | f :: fs, ks, h, hx => by
    simp only [List.mapM_cons, bind, Option.bind_eq_some_iff, pure] at h
    obtain ⟨q, hq, l, hl, h⟩ := h
    simp at h; subst h
    split at hq
    · cases hq
    rename_i hn
    simp only [zBK, List.all_cons, Bool.and_eq_true] at hx
    have ih := zAO em m (cs := cs) (w := w) fs l hl hx.2
    obtain ⟨hx1, -⟩ := hx
    have hk : q.1 = f.offset ∧ (match q.2 with | some (some k) => P.underlying f.type = some (.int k) | some none => P.underlying f.type = some .string | none => P.underlying f.type = some .bool) := by
      split at hq <;> simp at hq <;> subst hq <;> exact ⟨rfl, by assumption⟩
    cases ha : cs[q.1]? with
    | none => rw [ha] at hx1; cases hx1
    | some a =>
      rw [ha] at hx1
      obtain ⟨-, e2⟩ := zHJ (P := P) (t := f.type) (d := 0) (w := w) hk.2 hx1 hx1
      have p1 := zBZ (P := P) (cs := cs.toArray) e2 (by simpa [hk.1] using ha)
      have c1 : (Instr.checkKey em (m + 1) f.type a).run P w = .ok () w := by
        have hk2 := hk.2
        unfold Instr.checkKey
        split at hk2 <;> simp [zo hk2]
      simp only [List.forIn_cons, hn, ne_eq, not_false_eq_true, if_true, Sem.run_bind, p1, c1, Result.andThen_ok, Sem.run_pure]
      exact ih
theorem zB4(em:Bool)(m:Nat){t:TypeId}{ks:List (Nat×Option (Option IntKind))}{cs:List Value}{w:World}(h:zD5 P t=some ks)(hx:zBK ks cs=true):(Instr.checkKey em (m+2) t (.agg cs.toArray)).run P w= .ok () w:=by
  unfold zD5 at h
  split at h
  · rename_i fs hfs
    split at h
    · cases h
    unfold Instr.checkKey
    have:=zAO em m (cs:=cs) (w:=w) fs.toList ks h hx
    simp only[Sem.run_bind,zo hfs,Result.andThen_ok]
    rw[←Array.forIn_toList]
    rw[show ∀ (s:Sem PUnit),s.run P w= .ok () w→(s.run P w).andThen (fun _ w'=>Sem.run P (pure ()) w')= .ok () w from fun s hs=>by rw[hs];rfl]
    exact this
  cases h
variable {κ:Type} [DecidableEq κ] {kt:TypeId} {g:κ→List Value}
theorem zFO{ks:List (Nat×Option (Option IntKind))}(h:zD5 P kt=some ks)(hfit:∀ a,zBK ks (g a)=true)(hinj:∀ a b,eqL ks (g a) (g b)=decide (a=b))(hbits:∀ a,Instr.sameBits 10000 (.agg (g a).toArray) (.agg (g a).toArray)=true):KeyL P kt fun a=> .agg (g a).toArray:=by
  have hst:∃ fs,P.underlying kt=some (.struct fs):=by
    unfold zD5 at h
    split at h
    · rename_i fs hfs;exact⟨fs,hfs⟩
    cases h
  obtain⟨fs,hfs⟩:=hst
  have ask:∀ (k:κ) (w:World) (es:List MapEntry) (kv:List (κ×Value)) (i:Nat),es.map (fun e=>(e.key,e.val))=kv.map (fun p=>(Value.agg (g p.1).toArray,p.2))→(Instr.findAsking kt (.agg (g k).toArray) es i).run P w= .ok (kb k kv i) w:=by
    intro k w es
    induction es with
    |nil=>intro kv i he;cases kv<;>simp_all[Instr.findAsking,kb]
    |cons e es ih=>
      intro kv i he
      cases kv with
      |nil=>simp at he
      |cons x kv=>
        simp only[List.map_cons,List.cons.injEq,Prod.mk.injEq]at he
        obtain⟨⟨h1,h2⟩,h3⟩:=he
        unfold Instr.findAsking kb
        have e1:=zEh (w:=w) h (hfit k) (hfit x.1)
        rw[hinj]at e1
        rw[h1]
        simp only[Sem.run_bind,e1,Result.andThen_ok]
        by_cases c:k=x.1
        · simp[c,h2]
        simp only[decide_eq_true_eq,c,decide_false,if_false,Bool.false_eq_true]
        exact ih kv (i+1) h3
  refine⟨fun k es kv he w=> ?_,fun em k w=>zB4 em 9998 h (hfit k),hbits,fun{a b} e=> ?_⟩
  · have:=ask k w es kv 0 he
    rw[←this]
    cases es with
    |nil=>simp[Instr.findKey,zo hfs,Instr.findNow,Instr.findAsking]
    |cons e es=>simp[Instr.findKey,zo hfs,Instr.findNow,Instr.sameNow]
  have h1:=hinj a b
  have h2:=hinj b b
  have e':g a=g b:=by injection e with e;exact congrArg Array.toList e |> fun q=>by simpa using q
  rw[e',h2]at h1
  simpa using h1.symm
end
end Go.Sc
set_option linter.unusedVariables false
set_option maxRecDepth 10000
namespace Go.Proofs.YtkkeknmkipkbmaaGreat
open Go Go.Sc Go.Proofs
def ekV(p:Int×Nat):Value:= .agg #[Vi p.1,Vn p.2]
theorem zM2:KeyL Tryz.prog 75 ekV:=zFO (g:=fun p:Int×Nat=>[Vi p.1,Vn p.2]) (ks:=[(0,some (some .i64)),(1,some (some .u64))]) qM (fun _=>rfl) (fun a b=>by simp[eqL,eqC,Prod.ext_iff,Int.ofNat_inj]) (fun a=>by simp[Instr.sameBits])
theorem zKE:zEQ Tryz.prog 65=some (75,3):=by kernel_rfl
def GvI(H:Int→Nat→Int→Prop)(l:List ((Int×Nat)×Int)):Prop:=∀ v T c,jN (v,T) l=some c→H v T c
def VtP(N k:Nat)(X:NetD)(l:List ((Int×Nat)×Int)):Prop:=X.st N∧zLj N (fun v T c=>jN (v,T) l=some c) (10*k) X.a
theorem zNc{N:Nat}{X:NetD}(hN:1≤N∧N≤5)(h:X.st N)(ha:X.a=⟨(List.range N).map zAi,[]⟩):VtP N 0 X []:=by
  refine⟨h,?_⟩
  rw[ha]
  refine⟨zLZ hN,fun _ _ _=>False,⟨fun _ _ _ _ q=>q.elim,fun _ _ _ q=>q.elim,fun _ _ _ _ q=>q.elim,fun i hi hr=> ?_,fun m hm=>absurd hm qP,fun m hm=>absurd hm qP,fun v T c q=>by cases q⟩⟩
  have:zG ((List.range N).map zAi) i=zAi i:=by rw[kc (by rw[List.length_range];exact hi)];congr 1;exact xI (List.getElem?_range hi)
  rw[show(⟨(List.range N).map zAi,[]⟩:NetA).nodes=(List.range N).map zAi from rfl,this]at hr
  exact absurd hr (by show ¬(1:Int)=3;decide)
theorem zGf{N:Nat}{l:List ((Int×Nat)×Int)}(hN:1≤N∧N≤5):Clo N (fun k X=>zLj N (fun v T c=>jN (v,T) l=some c) (10*k) X):=(zMV hN).clo hN qL
theorem zNC{N k m:Nat}{l:List ((Int×Nat)×Int)}{X:NetD}{wv:Value}(hN:1≤N∧N≤5)(h:VtP N k X l):VtP N k ({X with wv:=wv,way:=X.way.take m}:NetD) l:=
  ⟨⟨h.1.len,h.1.cbs,h.1.tsl,h.1.ts,h.1.con⟩,(zGf hN).sub k _ _ h.2 ((List.take_sublist m X.way).map MsgD.a)⟩
theorem zN2{H:Int→Nat→Int→Prop}{l:List ((Int×Nat)×Int)}{v:Int}{T:Nat}{c:Int}(h:GvI H l)(hc:H v T c):GvI H (zDX (v,T) c l):=by
  intro u U d hd
  rw[zE0]at hd
  split at hd
  · rename_i e;cases hd;cases e;exact hc
  exact h u U d hd
theorem zPB{N:Nat}{G H:Int→Nat→Int→Prop}{X:NetA}{l:List ((Int×Nat)×Int)}{v:Int}{T:Nat}{c:Int}(h:VotI N G X H)(hl:GvI H l)(hc:H v T c):¬((jN (v,T) l).getD 0≠0∧(jN (v,T) l).getD 0≠c):=by
  rintro⟨h1,h2⟩
  cases hg:jN (v,T) l with
  |none=>rw[hg]at h1;exact h1 rfl
  |some d=>rw[hg]at h2;exact h2 (h.fn v T d c (hl v T d hg) hc)
theorem zM3{N k:Nat}{G H:Int→Nat→Int→Prop}{X:NetD}{l:List ((Int×Nat)×Int)}(hX:X.st N)(hB:Bnd N 0 (10*k) X.a)(h:VotI N G X.a H)(hl:GvI H l):VtP N k X l:=
  ⟨hX,hB,H,h.fn,h.nz,h.nd,h.cd,h.ask,h.yes,hl⟩
theorem zMs{N:Nat}{G H:Int→Nat→Int→Prop}{X:NetD}{i:Nat}(h:VotI N G X.a H)(hi:i<X.way.length):((zG X.way i).kind=3→H (zG X.way i).src (zG X.way i).term (zG X.way i).src)∧((zG X.way i).kind=4→(zG X.way i).flag=true→H (zG X.way i).src (zG X.way i).term (zG X.way i).dst):=
  have hm:(zG X.way i).a∈X.a.way:=List.mem_map.2 ⟨_,zd hi,rfl⟩
  ⟨fun k=>h.ask _ hm k,fun k f=>h.yes _ hm k f⟩
theorem zL2(n:Nat)(mv:Value)(ms:List MovD)(w:World)(hn:n<256)(hml:ms.length≤1000000000000)(hmo:∀ m∈ms,m.ok)(hmv:Rd w [] (Res.sl mv ms.length (ms.flatMap MovD.cells))):Rets Tryz.prog 5 #[.int .u8 (n:Nat),mv] w fun u_ w'=>u_= .bool true∧Own w [] [] w':=by
  have hN5:1≤n%5+1∧n%5+1≤5:=by omega
  refine zW Tryz.func5 O Tryz.ntmps5 (Own.start w) ?_
  refine zB (zI O (zA (zB (zD O (zKQ (c:=((n%5:Nat):Int)) O O V O O (xn qM O (zu V) O ?_ qM))))))
  refine zr O O (zu V) O (a_call O O (fun w' hw=>(zIw w').mono ?_))
  rintro _ w1 ⟨rfl,hO⟩
  refine O0 ?_ (hw.qi hO)
  refine a_call O O (fun w' hw=>(zLX (n%5+1) w' hN5).mono ?_)
  rintro _ w1 ⟨xb1_,mb2_,X3_,rfl,hf1_5,hf1_5_1,hf1_5_2,hf1_5_3,hf1_5_4,hO⟩
  refine(?_:CL _ _ _ _ _ _ (Own w [] [Res.row xb1_ 73 (NetD.cells X3_),Res.vec 27 1 X3_.nv X3_.cbs.length (X3_.cbs.flatMap CP),Res.star (X3_.ns.map CorD.dres),vT X3_.tv X3_.ts,vM X3_.wv X3_.way,sM X3_.way,Res.mp ekU ekI mb2_ ([]:List (Nat×Int))])) w1 (hw.qi hO)
  refine zI O (zA (zN (zB (a_call O O (fun w' hw=>(zIP w').mono ?_)))))
  rintro _ w1 ⟨rfl,hO⟩
  refine(?_:CL _ _ _ _ _ _ (Own w [] [Res.row xb1_ 73 (NetD.cells X3_),Res.vec 27 1 X3_.nv X3_.cbs.length (X3_.cbs.flatMap CP),Res.star (X3_.ns.map CorD.dres),vT X3_.tv X3_.ts,vM X3_.wv X3_.way,sM X3_.way,Res.mp ekU ekI mb2_ ([]:List (Nat×Int))])) w1 (hw.qi hO)
  refine zG2 (b:=true) O O (zD O (zS O O (zD O (zS O O (xm qM O O O (ji O O (zA (xr O (zO (zB (zEr (α:=Int) ekV ekI O O (fun m24=>zI O ?_))))))))))))
  refine zA (zN (zB (zI O (zA (zX ?_)))))
  refine xi (fun(i:Nat) (X:NetD) (gv:List ((Int×Nat)×Int))=>[(1,mv),(5,pt xb1_),(6, .map (some m24)),(7,Vj i)]) (fun(i:Nat) (X:NetD) (gv:List ((Int×Nat)×Int))=>(i≤ms.length∧i≤400)∧VtP (n%5+1) (2*i) X gv) (fun(i:Nat) (X:NetD) (gv:List ((Int×Nat)×Int))=>[Res.row xb1_ 73 (NetD.cells X),Res.vec 27 1 X.nv X.cbs.length (X.cbs.flatMap CP),Res.star (X.ns.map CorD.dres),vT X.tv X.ts,vM X.wv X.way,sM X.way,Res.mp ekV ekI m24 gv]) (fun(i:Nat) (X:NetD) (gv:List ((Int×Nat)×Int))=>ms.length - i) (fun w' hw=>⟨0,X3_,[],⟨O,O,O,O,trivial⟩,⟨by omega,zNc hN5 hf1_5 hf1_5_1⟩,hw.sel [0,1,2,3,4,5,7] O qL⟩) (fun i X gv g hΦ=> ?_)
  have hi:=hΦ.1
  have hE:=hΦ.2
  refine zN (zB (zD O (zD O (zq (pR hmv) O O (yH O O O (zD O (yO (q:=((i:Nat):Int)<((ms.length:Nat):Int)) 2 4 [31,30] (((i:Nat):Int)<400) O O O O O O trivial O (fun h6_4=> ?_) (fun g6_7=> ?_))))))))
  ·refine zS O (gT h6_4) (zD O (zS O (gT h6_4) (yH O O O ?_)))
   exact yP O (fun _ hw=>hw)
  refine zA (zY O (fun c2=> ?_) (fun c2=> ?_))
  ·refine zO (zN (zX (zB (zD O (zD O (zD O (zh (pR hmv) 5 i O O O V O (x9 (pR hmv) 5 i (off:=xM mv+i*5) (fun _=>O) O O V O (a_call O O (fun w' hw=>(zM1 (n%5+1) (2*i) (fun k Y=>zLj (n%5+1) (fun v T c=>jN (v,T) gv=some c) (10*k) Y) xb1_ X (zG ms i) w' (zGf hN5) V hN5 hE.2 hE.1 (hmo _ (zd V)) (hw.give [0,1,2,3,4,5] O qL)).mono ?_))))))))))
   rintro _ w1 ⟨X'4_,rfl,hf8_5,hf8_5_1,hf8_5_2,hf8_5_3,hf8_5_4,hO⟩
   have hwl:X'4_.way.length≤1000000:=by have h:=((zGf hN5).ok (2*i+2) _ V hf8_5).wl;unfold NetD.a at h;rwa [List.length_map]at h
   obtain⟨hB,H,hH⟩:=hf8_5
   refine(?_:CL _ _ _ _ _ _ (Own w [] [Res.mp ekV ekI m24 gv,Res.row xb1_ 73 (NetD.cells X'4_),Res.vec 27 1 X'4_.nv X'4_.cbs.length (X'4_.cbs.flatMap CP),Res.star (X'4_.ns.map CorD.dres),vT X'4_.tv X'4_.ts,vM X'4_.wv X'4_.way,sM X'4_.way])) w1 (hw.qg [0,1,2,3,4,5] O hO)
   refine zA (zN (zB (zI O (zA (zX ?_)))))
   refine yr (fun(k:Nat) (gv2:List ((Int×Nat)×Int))=>[(1,mv),(5,pt xb1_),(6, .map (some m24)),(7,Vj i),(8,Vj k)]) (fun(k:Nat) (gv2:List ((Int×Nat)×Int))=>k≤X'4_.way.length∧GvI H gv2) (fun(k:Nat) (gv2:List ((Int×Nat)×Int))=>[Res.row xb1_ 73 (NetD.cells X'4_),Res.vec 27 1 X'4_.nv X'4_.cbs.length (X'4_.cbs.flatMap CP),Res.star (X'4_.ns.map CorD.dres),vT X'4_.tv X'4_.ts,vM X'4_.wv X'4_.way,sM X'4_.way,Res.mp ekV ekI m24 gv2]) (fun(k:Nat) (gv2:List ((Int×Nat)×Int))=>X'4_.way.length - k) (fun w' hw=>⟨0,gv,⟨O,O,O,O,O,trivial⟩,⟨by omega,hH.gv⟩,hw.sel [1,2,3,4,5,6,0] O qL⟩) (fun k gv2 g hΦ=> ?_)
   have hG:=hΦ.2
   refine zN (zB (zD O (zD O (zb O O (zJ (o:=2) O O (zL 0 (v:=X'4_.wv) O O O O (zq (pV 4 O) O O (yH O O O (zA (zY O (fun c3=> ?_) (fun c3=> ?_)))))))))))
   ·have hk:k<X'4_.way.length:=by omega
    refine zO (zN (zX (zB (zD O (zb O O (zJ (o:=2) O O (zL 0 (v:=X'4_.wv) O O O O (zD O (zh (pV 4 O) 14 k O O O V O (x9 (pV 4 O) 14 k (off:=xM X'4_.wv+k*14) (fun _=>O) O O V O (yE (v:= .agg #[Vi 0,Vi 0,Vi 0,Vn 0,Vn 0,Vn 0,Vn 0,Vn 0, .bool false, .slice none 0 0, .slice none 0 0, .slice none 0 0,Vi 0, .slice none 0 0]) qM O (fun b9=> ?_))))))))))))
    refine zP (fun w' hw=>MsgD.c1all (MsgD.rd.star0 5 O hw)) (fun hcb=> ?_)
    refine zP (fun w' hw=>Sl.cell1 (Rd.φ (MsgD.rd.star0 5 O hw _ (zd (l:=X'4_.way) (j:=k) V)).ev)) (fun hc1_=> ?_)
    refine zP (fun w' hw=>Sl.cell1 (Rd.φ (MsgD.rd.star0 5 O hw _ (zd (l:=X'4_.way) (j:=k) V)).dv)) (fun hc2_=> ?_)
    refine zp 7 O O O (hcb _ (zd hk)) O (zA (zB (zJ (o:=2) O O (zL 7 (v:=Vi ((zG X'4_.way k).dst)) O O O O (zI O (zA (yu (fun(c:Int)=>[(1,mv),(5,pt xb1_),(6, .map (some m24)),(7,Vj i),(8,Vj k),(9,pt b9),(10,Vi c)]) (fun(c:Int)=>H (zG X'4_.way k).src (zG X'4_.way k).term c) (fun(c:Int)=>[Res.row xb1_ 73 (NetD.cells X'4_),Res.vec 27 1 X'4_.nv X'4_.cbs.length (X'4_.cbs.flatMap CP),Res.star (X'4_.ns.map CorD.dres),vT X'4_.tv X'4_.ts,vM X'4_.wv X'4_.way,sM X'4_.way,Res.mp ekV ekI m24 gv2,Res.row b9 59 (MsgD.cells (zG X'4_.way k))]) ?_ (fun c g hΦ=> ?_))))))))
    ·refine zB (zJ (o:=0) O O (zL 7 (v:=Vi ((zG X'4_.way k).kind)) O O O O (yS O O O (zA (zY O (fun c4=> ?_) (fun c4=> ?_))))))
     ·refine zR (zJ (o:=1) O O (zL 7 (v:=Vi ((zG X'4_.way k).src)) O O O O (zI O ?_)))
      exact ze (fun w' hw=>⟨(zG X'4_.way k).src,⟨O,O,O,O,O,O,O,trivial⟩,(zMs hH hk).1 c4,hw⟩)
     refine zB (zJ (o:=0) O O (zL 7 (v:=Vi ((zG X'4_.way k).kind)) O O O O (xa O O O (zD O (yk (q:=((zG X'4_.way k).kind)≠4) 3 3 [70,69,68] ((!((zG X'4_.way k).flag))=true) O O O O O O trivial O (fun h16_3=> ?_) (fun g16_7=> ?_))))))
     ·refine zS O (gF h16_3) (zJ (o:=8) O O (zS O (gF h16_3) (zL 7 (v:= .bool ((zG X'4_.way k).flag)) O O O O (zS O (gF h16_3) (zG2 (b:=(zG X'4_.way k).flag) O O ?_)))))
      exact yP (xT _) (fun _ hw=>hw)
     refine zA (zY O (fun c5=> ?_) (fun c5=> ?_))
     ·refine yB O (zR (zD O (zr O O (zu V) O (zI O ?_))))
      exact ze (fun w' hw=>⟨k+1,gv2,⟨O,O,O,O,O,trivial⟩,⟨by omega,hG⟩,hw.sel [0,1,2,3,4,5,6] O qL,V⟩)
     exact yd (fun w' hw=>⟨(zG X'4_.way k).dst,⟨O,O,O,O,O,O,O,trivial⟩,(zMs hH hk).2 (Decidable.not_not.1 fun q=>c5 (.inl q)) (by have q:=fun q=>c5 (.inr q);simpa using q),hw⟩)
    have hc:=hΦ
    refine zB (zJ (o:=1) O O (zL 7 (v:=Vi ((zG X'4_.way k).src)) O O O O (zJ (o:=3) O O (zL 7 (v:=Vn ((zG X'4_.way k).term)) O O O O (yc (cs:=[Vi ((zG X'4_.way k).src),Vn ((zG X'4_.way k).term)]) (z:=[Vi 0,Vn 0]) (pl:=[(0,1),(1,1)]) qM qM O (yE (v:= .agg #[Vi 0,Vn 0]) qM O (fun b11=>zp 8 O O O (xO O) O (zA (zN (zB (zD O (yI (cs:=[Vi ((zG X'4_.way k).src),Vn ((zG X'4_.way k).term)]) 8 O O O ?_))))))))))))
    refine zMt (k:=((zG X'4_.way k).src,(zG X'4_.way k).term)) (kv:=gv2) (zv:=0) zM2 zKE zKz O O (fun w' hw'=>Own.holds hw' 6 _ O) O (xa O O O (zD O (yO (q:=((jN ((zG X'4_.way k).src,(zG X'4_.way k).term) gv2).getD 0)≠0) 5 4 [86,85,84,83,82] (((jN ((zG X'4_.way k).src,(zG X'4_.way k).term) gv2).getD 0)≠c) O O O O O O trivial O (fun h18_4=> ?_) (fun g18_10=> ?_))))
    ·refine zS O (gT h18_4) (zD O (zS O (gT h18_4) (yI (cs:=[Vi ((zG X'4_.way k).src),Vn ((zG X'4_.way k).term)]) 8 O O O (zS O (gT h18_4) (zMt (k:=((zG X'4_.way k).src,(zG X'4_.way k).term)) (kv:=gv2) (zv:=0) zM2 zKE zKz O O (fun w' hw'=>Own.holds hw' 6 _ O) O (zS O (gT h18_4) (zD O (zS O (gT h18_4) (xa O O O ?_)))))))))
     exact yP O (fun _ hw=>hw)
    refine zA (zY O (fun c6=> ?_) (fun c6=> ?_))
    ·exact absurd c6 (zPB hH hG hc)
    refine zO (zR (zD O (yI (cs:=[Vi ((zG X'4_.way k).src),Vn ((zG X'4_.way k).term)]) 8 O O O (zD O (zNg 6 (k:=((zG X'4_.way k).src,(zG X'4_.way k).term)) (v:=c) zM2 zKE O O O O (zA (zR (zD O (zr O O (zu V) O (zI O ?_))))))))))
    exact ze (fun w' hw=>⟨k+1,zDX ((zG X'4_.way k).src,(zG X'4_.way k).term) c gv2,⟨O,O,O,O,O,trivial⟩,⟨by omega,zN2 hG hc⟩,hw.sel [0,1,2,3,4,5,6] O qL,V⟩)
   have hV:=zM3 (k:=2*i+2) hf8_5_1 hB hH hG
   refine yB O (zB (zD O (zb O O (zJ (o:=2) O O (zL 0 (v:=X'4_.wv) O O O O (zq (pV 4 O) O O (yz O O O (zA (zY O (fun c7=> ?_) (fun c7=> ?_))))))))))
   ·refine zR (zD O (zD O (zb O O (zJ (o:=2) O O (zL 0 (v:=X'4_.wv) O O O O (kq (pV 4 O) 14 0 200 qM O O ⟨_,O⟩ V V O (zb O O (zJ (o:=2) O O ?_))))))))
    refine zP (fun w' hw=>zGo (k:=200) (sz:=14) (Own.qh (i:=4) O hw)) (fun hca=> ?_)
    refine zn (cs:=(NetD.cells X'4_)) 0 O O O hca O (zA (zR (zD O (zr O O (zu V) O (zI O ?_)))))
    exact ze (fun w' hw=>⟨i+1,({X'4_ with wv:=yx X'4_.wv 0 200 14,way:=X'4_.way.take 200}:NetD),gv2,⟨O,O,O,O,trivial⟩,⟨by omega,zNC hN5 hV⟩,(((hw.cutN (g:=MsgD.cells) (l:=X'4_.way) (sz:=14) (fun _=>O) 4 200 O V).qJ (g:=MsgD.dres) 5 (List.take_sublist 200 X'4_.way) O).sel [0,1,2,3,4,5,6] O qL),V⟩)
   refine zO (zR (zD O (zr O O (zu V) O (zI O ?_))))
   exact ze (fun w' hw=>⟨i+1,X'4_,gv2,⟨O,O,O,O,trivial⟩,⟨by omega,hV⟩,hw,V⟩)
  refine yB O (zB (zI O (zA ?_)))
  exact zT (z5 (v:= .bool true) O O (fun w' hw=>⟨O,hw.drop⟩))
end Go.Proofs.YtkkeknmkipkbmaaGreat
