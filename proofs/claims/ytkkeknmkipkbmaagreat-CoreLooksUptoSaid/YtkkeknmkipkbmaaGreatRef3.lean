import Derived.Test.YtkkeknmkipkbmaaGreatRef2
set_option linter.unusedSectionVars false
set_option linter.unusedSimpArgs false
set_option linter.unusedVariables false
set_option maxRecDepth 10000
namespace Go.Proofs.YtkkeknmkipkbmaaGreat
open Go Go.Sc Go.Proofs
section
variable {N lk k i:Nat} {ch:Bool} {g:Gh} {X:NetA}
theorem jG{g:Gh}{i:Nat}{n:NodA}:∀ m∈([]:List MsgA),MsgI g m∧(m.kind=3→m.src=xc i∧AskI i n m.term m.index m.ql):=fun m hm=>by cases hm
theorem x2{n:NodA}{ms:List MsgA}(hl:X.nodes.length=N)(hi:i<N)(h:GhI N g X)(hE:n.E=(zG X.nodes i).E)(ht:n.t.term=(zG X.nodes i).t.term)(hv:n.t.qD=(zG X.nodes i).t.qD)(hc:n.r.qc=(zG X.nodes i).r.qc)
    (h3:n.r.qp=3→(zG X.nodes i).r.qp=3∧∀ v∈n.yes,v∈(zG X.nodes i).yes∨∃ w∈g.vts,w.v=v∧w.T=(zG X.nodes i).t.term∧w.c=xc i) (h4:n.r.qp=4→(zG X.nodes i).r.qp=4)
    (hld:∀ l,n.ld=some l→∀ p∈l.qa,p.2.qy=0∨∃ a∈g.acks,a.v=p.2.id∧a.T=(zG X.nodes i).t.term∧p.2.qy≤a.n) (hms:∀ m∈ms,MsgI g m∧(m.kind=3→m.src=xc i∧AskI i n m.term m.index m.ql)):GhS N g X i n ms:=
  zCx hl hi h ((h.nd i hi).to hE ht hv hc h3 h4 hld) hms (fun T idx lt q=>q.same ht (fun r=>⟨(h3 r).1,hE⟩))
theorem zKb{n:NodA}(hl:X.nodes.length=N)(hi:i<N)(h:GhI N g X)(hE:n.E=(zG X.nodes i).E)(ht:(zG X.nodes i).t.term<n.t.term)(hc:n.r.qc=(zG X.nodes i).r.qc)(h3:n.r.qp=1)(hld:n.ld=none):GhS N g X i n []:=by
  have hn:=h.nd i hi
  refine zCx hl hi h ⟨by rw[hE];exact hn.B,fun r hr e=>⟨by have:=(hn.tl r hr e).1;omega,fun q=>by have:=(hn.tl r hr e).1;omega⟩,fun w hw e=>⟨by have:=(hn.vt w hw e).1;omega,fun q=>by have:=(hn.vt w hw e).1;omega⟩,fun w hw e=>⟨by have:=(hn.vc w hw e).1;omega,fun q=>by have:=(hn.vc w hw e).1;omega⟩,fun q=>by omega,fun a ha e=> ?_,?_,fun q=>by omega,fun l q=>by rw[hld]at q;cases q⟩ jG (fun T idx lt q=>q.later ht)
  · obtain⟨h1,h2⟩:=hn.ak a ha e
    exact⟨by omega,(Go.refl g).ak h2 (by rw[hE];exact List.prefix_rfl) V⟩
  rw[hc];exact(Go.refl g).cm hn.cm (by rw[hE];exact List.prefix_rfl) V
theorem zMe{d:Int}(hB:Bnd N lk k X)(hi:i<N)(h:GhI N g X):GhS N g X i {zG X.nodes i with t:={(zG X.nodes i).t with term:=(zG X.nodes i).t.term+1,qD:=xc i,due:=d},r:=⟨3,0,(zG X.nodes i).r.qc⟩,ld:=none,yes:=[xc i]} []:=by
  have hn:=h.nd i hi
  have hb:=(hB.B i hi).hen
  have hid:xc i≠0:=by unfold xc;omega
  have hgo:=zIw g ⟨xc i,(zG X.nodes i).t.term+1,xc i,g.now,(zG X.nodes i).E,(zG X.nodes i).E.length,xm 0 (zG X.nodes i).E⟩
  refine⟨_,⟨hgo, .same O O O⟩,jT hB.len hi h hgo (zIA h.ok (fun u hu e1 e2=> ?_) hn.B O (fun a ha e1 e2=> ?_)) (fun w hw=> ?_) (fun w hw=> ?_) (fun w hw=> ?_) (fun j hj hne=> ?_) ⟨hn.B,fun r hr e=> ?_,fun w hw e=> ?_,fun w hw e=> ?_,fun q=>absurd q (by show ¬(3:Int)=4;decide),fun a ha e=> ?_,hgo.cm hn.cm List.prefix_rfl (Nat.le_succ _),fun _=>⟨Nat.lt_succ_of_le hb,fun v hv=>⟨_, .head _,(List.mem_singleton.1 hv).symm,O,O⟩⟩,fun l q=>by cases q⟩ jG (fun T idx lt q=>q.later (Nat.lt_succ_self _))⟩
  · have:=(hn.vt u hu e1).1
    have e2':u.T=(zG X.nodes i).t.term+1:=e2
    omega
  · exact(Go.refl g).ak (hn.ak a ha e1).2 List.prefix_rfl (Nat.le_succ _)
  · rcases List.mem_cons.1 hw with rfl|hw
    · exact Nat.le_refl _
    exact h.vk w hw
  · rcases List.mem_cons.1 hw with rfl|hw
    · exact .inr ⟨rfl,Nat.le_refl _⟩
    exact h.vfr w hw
  · rcases List.mem_cons.1 hw with rfl|hw
    · exact hid
    exact h.vnz w hw
  · refine(h.nd j hj).lift hgo (fun _ _ _=>rfl) (fun r hr=> .inl hr) (fun w hw=> ?_) (fun a ha=> .inl ha)
    rcases List.mem_cons.1 hw with rfl|hw
    · exact .inr ⟨fun q=>hne (kb q).symm,fun q=>absurd (kb q).symm hne⟩
    exact .inl hw
  · have:=(hn.tl r hr e).1
    exact⟨Nat.le_succ_of_le this,fun q=>by have q':r.T=(zG X.nodes i).t.term+1:=q;omega⟩
  · rcases List.mem_cons.1 hw with rfl|hw
    · exact⟨Nat.le_refl _,fun _=>rfl⟩
    have:=(hn.vt w hw e).1
    exact⟨Nat.le_succ_of_le this,fun q=>by have q':w.T=(zG X.nodes i).t.term+1:=q;omega⟩
  · rcases List.mem_cons.1 hw with rfl|hw
    · exact⟨Nat.le_refl _,fun _ _=>⟨rfl,rfl⟩⟩
    have:=(hn.vc w hw e).1
    exact⟨Nat.le_succ_of_le this,fun q=>by have q':w.T=(zG X.nodes i).t.term+1:=q;omega⟩
  exact⟨Nat.le_succ_of_le (hn.ak a ha e).1,hgo.ak (hn.ak a ha e).2 List.prefix_rfl (Nat.le_succ _)⟩
theorem zOE{q:MsgA}{d:Int}(hB:Bnd N lk k X)(hi:i<N)(h:GhI N g X)(hq:q∈X.way)(hk:q.kind=3∧q.dst=xc i∧q.term=(zG X.nodes i).t.term)(hv:(zG X.nodes i).t.qD=0∨(zG X.nodes i).t.qD=q.src)(hr:(zG X.nodes i).r.qp≠4)(hf:(LogA.mk 0 0 (zG X.nodes i).E).fresh q.index q.ql):
    GhS N g X i {zG X.nodes i with t:={(zG X.nodes i).t with qD:=q.src,due:=d}} [one (aN i) 4 q.src (zG X.nodes i).t.term true]:=by
  have hn:=h.nd i hi
  have hs:=(hB.M q hq).src
  have hsrc:q.src≠0:=by omega
  have hgo:=zIw g ⟨xc i,(zG X.nodes i).t.term,q.src,g.now,(zG X.nodes i).E,q.index,q.ql⟩
  have hone:∀ u∈g.vts,u.v=xc i→u.T=(zG X.nodes i).t.term→u.c=q.src:=fun u hu e1 e2=>by
    have h1:=(hn.vt u hu e1).2 e2
    rcases hv with hv|hv
    · exact absurd (h1.symm.trans hv) (h.vnz u hu)
    exact h1.symm.trans hv
  have hask:∀ j,j<N→q.src=xc j→AskI j (zG X.nodes j) (zG X.nodes i).t.term q.index q.ql:=fun j hj e=>by rw[←hk.2.2];exact h.k3 q hq hk.1 j hj e
  refine⟨_,⟨hgo, .same O O O⟩,jT hB.len hi h hgo (zIA h.ok hone hn.B O (fun a ha e1 e2=>(hn.ak a ha e1).2)) (fun w hw=> ?_) (fun w hw=> ?_) (fun w hw=> ?_) (fun j hj hne=> ?_) ⟨hn.B,hn.tl,fun w hw e=> ?_,fun w hw e=> ?_,hn.el,hn.ak,hn.cm,fun r=>⟨(hn.cd r).1,fun v hv=> ?_⟩,hn.ld⟩ (fun m hm=> ?_) (fun T idx lt q=>q.same O (fun r=>⟨r,O⟩))⟩
  · rcases List.mem_cons.1 hw with rfl|hw
    · exact Nat.le_refl _
    exact h.vk w hw
  · rcases List.mem_cons.1 hw with rfl|hw
    · exact hf.imp id fun⟨a,b⟩=>⟨a,by unfold LogA.last at b;dsimp only at b;show(zG X.nodes i).E.length≤q.index;omega⟩
    exact h.vfr w hw
  · rcases List.mem_cons.1 hw with rfl|hw
    · exact hsrc
    exact h.vnz w hw
  · refine(h.nd j hj).lift hgo (fun _ _ _=>rfl) (fun r hr=> .inl hr) (fun w hw=> ?_) (fun a ha=> .inl ha)
    rcases List.mem_cons.1 hw with rfl|hw
    · exact .inr ⟨fun q=>hne (kb q).symm,fun e=>hask j hj e⟩
    exact .inl hw
  · rcases List.mem_cons.1 hw with rfl|hw
    · exact⟨Nat.le_refl _,fun _=>rfl⟩
    exact⟨(hn.vt w hw e).1,fun q=>(hone w hw e q).symm⟩
  · rcases List.mem_cons.1 hw with rfl|hw
    · exact hask i hi e
    exact hn.vc w hw e
  · obtain⟨w,hw,q⟩:=(hn.cd r).2 v hv
    exact⟨w, .tail _ hw,q⟩
  rw[List.mem_singleton.1 hm]
  exact⟨⟨fun _ _=>⟨_, .head _,O,O,O⟩,fun k=>absurd k (by show ¬(4:Int)=5;decide),fun k=>absurd k (by show ¬(4:Int)=6;decide)⟩,fun k=>absurd k (by show ¬(4:Int)=3;decide)⟩
theorem zKi(hN:1≤N∧N≤5)(hB:Bnd N lk k X)(hi:i<N)(h:GhI N g X)(hr:(zG X.nodes i).r.qp=3)(hq:(jy N (zG X.nodes i)).qv (zG X.nodes i).yes):GhS N g X i (zAa N i (zG X.nodes i)) []:=by
  have hn:=h.nd i hi
  have hb:=hB.B i hi
  have hcd:=hn.cd hr
  have hno:∀ s∈g.els,¬(s.T=(zG X.nodes i).t.term∧s.id=xc i):=fun s hs q=>(hn.tl s hs q.2).2 q.1 hr
  have hgo:=zIc (g:=g) (r:=⟨(zG X.nodes i).t.term,xc i,g.now,(zG X.nodes i).E,(zG X.nodes i).yes⟩) (X:=(zG X.nodes i).E++[zAv (zG X.nodes i).E.length (zG X.nodes i).t.term]) hno
  have hok:=zNb (r:=⟨(zG X.nodes i).t.term,xc i,g.now,(zG X.nodes i).E,(zG X.nodes i).yes⟩) (X:=(zG X.nodes i).E++[zAv (zG X.nodes i).E.length (zG X.nodes i).t.term]) h.ok hno (hb.ht (.inl hr)) rfl rfl ⟨rfl,by show ¬(1:Int)=3;decide⟩ (fun e he=>Nat.lt_of_le_of_lt (zAq hb.good.fol e he) hcd.1) hn.B (by unfold qu;rw[←zB9 hb.good.fol];exact hq) (fun v hv=>by
    obtain⟨w,hw,q1,q2,q3⟩:=hcd.2 v hv
    obtain⟨a1,a2⟩:=(hn.vc w hw q3).2 q2 hr
    refine⟨w,hw,q1,q2,q3,h.vk w hw,?_⟩
    have h1:=h.vfr w hw
    rw[a1,a2]at h1;exact h1)
  have hL:(zMb g ⟨(zG X.nodes i).t.term,xc i,g.now,(zG X.nodes i).E,(zG X.nodes i).yes⟩ ((zG X.nodes i).E++[zAv (zG X.nodes i).E.length (zG X.nodes i).t.term])).Lr ⟨(zG X.nodes i).t.term,xc i,g.now,(zG X.nodes i).E,(zG X.nodes i).yes⟩=(zG X.nodes i).E++[zAv (zG X.nodes i).E.length (zG X.nodes i).t.term]:=by
    show zCS g.L _ _ _ _ _=_;unfold zCS;rw[if_pos ⟨rfl,rfl⟩]
  have hp:(zG X.nodes i).E<+:(zAa N i (zG X.nodes i)).E:=List.prefix_append _ _
  refine⟨_,⟨hgo,zIU O O O (fun s hs=>List.mem_cons.1 hs)⟩,jT hB.len hi h hgo hok (fun w hw=>Nat.le_succ_of_le (h.vk w hw)) h.vfr h.vnz (fun j hj hne=> ?_) ⟨?_,fun r hr' e=> ?_,hn.vt,fun w hw e=>⟨(hn.vc w hw e).1,fun _ q=>absurd q (by show ¬(4:Int)=3;decide)⟩,fun _=>⟨_, .head _,O,O,hL⟩,fun a ha e=>⟨(hn.ak a ha e).1,hgo.ak (hn.ak a ha e).2 hp (Nat.le_refl _)⟩,hgo.cm hn.cm hp (Nat.le_refl _),fun q=>absurd q (by show ¬(4:Int)=3;decide),fun l q p hp=> ?_⟩ jG (fun T idx lt q=>⟨q.1,fun _ q=>absurd q (by show ¬(4:Int)=3;decide)⟩)⟩
  · refine(h.nd j hj).lift hgo (fun s hs _=> ?_) (fun r hr=> ?_) (fun w hw=> .inl hw) (fun a ha=> .inl ha)
    · show zCS g.L _ _ _ s.T s.id=_;unfold zCS;rw[if_neg (hno s hs)];rfl
    rcases List.mem_cons.1 hr with rfl|hr
    · exact .inr fun q=>hne (kb q).symm
    exact .inl hr
  · have:=hok.elB _ (.head _)
    rwa [hL]at this
  · refine⟨?_,fun _ q=>absurd q (by show ¬(4:Int)=3;decide)⟩
    rcases List.mem_cons.1 hr' with rfl|hr'
    · exact Nat.le_refl _
    exact(hn.tl r hr' e).1
  cases q
  left
  obtain⟨v,hv,rfl⟩:=List.mem_map.1 hp
  rfl
theorem zIY{E:List EntA}{T c:Nat}{s:Elec}(hg:g.ok (qu N))(hs:s∈g.els)(hT:s.T=T)(h:CmI g E T c):Has E (g.Lr s) c:=by
  rcases h with rfl|⟨x,hx,r,hr,h1,h2,h3,h4⟩
  · exact Has.zero
  rcases Nat.lt_or_ge x.T s.T with q|q
  · have h5:=hg.comp (xS N) hs x hx r hr h1 q
    have h6:=((Has.pre (hg.elE s hs)).le h5.1).symm.trans h5
    exact h4.trans (h6.le h3).symm
  rw[hg.uniq (xS N) hs hr V];exact h4
theorem zNk{E E':List EntA}{T:Nat}{a:AckR}{s:Elec}(hg:g.ok (qu N))(hs:s∈g.els)(hT:s.T=T)(haT:a.T≤T)(hkeep:∀ n,Has E (g.Lr s) n→Has E' (g.Lr s) n)(h:AkI g E T a):AkI g E' T a:=by
  obtain⟨r,hr,h1,h2,h3⟩:=h
  refine⟨r,hr,h1,h2,fun j hj=> ?_⟩
  rcases h3 j hj with q|q
  · rcases Nat.lt_or_ge a.T s.T with c|c
    · by_cases hh:Has s.E (g.Lr r) j
      · have h6:=((Has.pre (hg.elE s hs)).le hh.1).symm.trans hh
        exact .inl ((hkeep j (q.trans h6.symm)).trans h6)
      exact .inr ⟨s,hs,c,by omega,hh⟩
    have e:=hg.uniq (xS N) hs hr V
    rw[e]at hkeep
    exact .inl (hkeep j q)
  exact .inr q
theorem zHn{n:NodA}{m:Nat}(hg:g.ok (qu N))(hn:NodI g i n):(zI8 g ⟨n.t.term,xc i,m⟩).ok (qu N):=zM4 hg (fun w hw e=>(hn.vt w hw e).1)
theorem zG5{j:Nat}{n:NodA}{a:AckR}(h:NodI g j n)(ha:a.v≠xc j):NodI (zI8 g a) j n:=
  h.lift (zCt g a) (fun _ _ _=>rfl) (fun r hr=> .inl hr) (fun w hw=> .inl hw) (fun x hx=>by
    rcases List.mem_cons.1 hx with rfl|hx
    · exact .inr ha
    exact .inl hx)
theorem zOo{q:MsgA}(hB:Bnd N lk k X)(hi:i<N)(h:GhI N g X)(hq:q∈X.way)(hk:q.kind=5∧q.dst=xc i∧q.term=(zG X.nodes i).t.term)(hr:(zG X.nodes i).r.qp=1)(hld:(zG X.nodes i).ld=none)(hc:(zG X.nodes i).r.qc≤q.index)(hf:folA q.index q.ql q.qm)(hfi:(LogA.mk 0 0 (zG X.nodes i).E).fits q.index q.ql):
    GhS N g X i {zG X.nodes i with E:=((LogA.mk 0 0 (zG X.nodes i).E).put q.qm).l,r:={(zG X.nodes i).r with qc:=max (zG X.nodes i).r.qc (min q.qc (q.index+q.qm.length))}} [jk (aN i) (zG X.nodes i).t.term q 6 (q.index+q.qm.length) 0 true]:=by
  have hn:=h.nd i hi
  obtain⟨s,hs,m1,m2,m3,m4,m5⟩:=(h.ms q hq).k5 hk.1
  have hsT:s.T=(zG X.nodes i).t.term:=m1.trans hk.2.2
  obtain⟨a1,a2,a3⟩:=zNE h.ok hn.B (h.ok.elB s hs) m2 m3 m4 hf hfi
  have hgo:=zCt g ⟨(zG X.nodes i).t.term,xc i,q.index+q.qm.length⟩
  have no3:¬(zG X.nodes i).r.qp=3:=by omega
  have no4:¬(zG X.nodes i).r.qp=4:=by omega
  have hnew:AkI g ((LogA.mk 0 0 (zG X.nodes i).E).put q.qm).l (zG X.nodes i).t.term ⟨(zG X.nodes i).t.term,xc i,q.index+q.qm.length⟩:=hsT▸AkI.self hs a1
  refine⟨_,⟨hgo, .same O O O⟩,jT hB.len hi h hgo (zHn h.ok hn) h.vk h.vfr h.vnz (fun j hj hne=>zG5 (h.nd j hj) (fun e=>hne (kb e).symm)) ⟨?_,hn.tl,hn.vt,fun w hw e=>⟨(hn.vc w hw e).1,fun _ x=>absurd x no3⟩,fun x=>absurd x no4,fun a ha e=> ?_,?_,fun x=>absurd x no3,fun l x=>by rw[show(zG X.nodes i).ld=some l from x]at hld;cases hld⟩ (fun m hm=> ?_) (fun T idx lt x=>⟨x.1,fun _ y=>absurd y no3⟩)⟩
  · rcases a3 with e|e
    · show Built _ ((LogA.mk 0 0 (zG X.nodes i).E).put q.qm).l
      rw[e];exact hgo.built hn.B
    show Built _ ((LogA.mk 0 0 (zG X.nodes i).E).put q.qm).l
    rw[e];exact hgo.built ((h.ok.elB s hs).take _)
  · rcases List.mem_cons.1 ha with rfl|ha
    · exact⟨Nat.le_refl _,hgo.ak hnew List.prefix_rfl (Nat.le_refl _)⟩
    obtain⟨b1,b2⟩:=hn.ak a ha e
    exact⟨b1,hgo.ak (zNk h.ok hs hsT b1 a2 b2) List.prefix_rfl (Nat.le_refl _)⟩
  · refine hgo.cm ?_ List.prefix_rfl (Nat.le_refl _)
    show CmI g _ _ (max (zG X.nodes i).r.qc (min q.qc (q.index+q.qm.length)))
    by_cases c:min q.qc (q.index+q.qm.length)≤(zG X.nodes i).r.qc
    · rw[Nat.max_eq_left c]
      rcases hn.cm with h0|⟨x,hx,r,hr',h1,h2,h3,h4⟩
      · exact .inl h0
      have h5:=zIY h.ok hs hsT (.inr ⟨x,hx,r,hr',h1,h2,h3,h4⟩)
      exact .inr ⟨x,hx,r,hr',h1,h2,h3,(a2 _ h5).trans (h5.symm.trans h4)⟩
    rw[Nat.max_eq_right V]
    rcases m5 with h0|⟨x,hx,r,hr',h1,h2,h3,h4⟩
    · left;rw[h0];exact Nat.zero_min _
    exact .inr ⟨x,hx,r,hr',h1,by rw[←hk.2.2];exact h2,by omega,(a1.le V).trans (h4.le V)⟩
  rw[List.mem_singleton.1 hm]
  exact⟨⟨fun x=>absurd x (by show ¬(6:Int)=4;decide),fun x=>absurd x (by show ¬(6:Int)=5;decide),fun _ _=>⟨_, .head _,O,O,Nat.le_refl _⟩⟩,fun x=>absurd x (by show ¬(6:Int)=3;decide)⟩
theorem zPB{q:MsgA}(hB:Bnd N lk k X)(hi:i<N)(h:GhI N g X)(hq:q∈X.way)(hk:q.kind=5∧q.dst=xc i∧q.term=(zG X.nodes i).t.term):
    GhS N g X i (zG X.nodes i) [jk (aN i) (zG X.nodes i).t.term q 6 (zG X.nodes i).r.qc 0 true]:=by
  have hn:=h.nd i hi
  obtain⟨s,hs,m1,m2,m3,m4,m5⟩:=(h.ms q hq).k5 hk.1
  have hsT:s.T=(zG X.nodes i).t.term:=m1.trans hk.2.2
  have hgo:=zCt g ⟨(zG X.nodes i).t.term,xc i,(zG X.nodes i).r.qc⟩
  have hnew:AkI g (zG X.nodes i).E (zG X.nodes i).t.term ⟨(zG X.nodes i).t.term,xc i,(zG X.nodes i).r.qc⟩:=hsT▸AkI.self hs (zIY h.ok hs hsT hn.cm)
  refine⟨_,⟨hgo, .same O O O⟩,jT hB.len hi h hgo (zHn h.ok hn) h.vk h.vfr h.vnz (fun j hj hne=>zG5 (h.nd j hj) (fun e=>hne (kb e).symm)) ⟨hgo.built hn.B,hn.tl,hn.vt,hn.vc,hn.el,fun a ha e=> ?_,hgo.cm hn.cm List.prefix_rfl (Nat.le_refl _),hn.cd,fun l hl p hp=>(hn.ld l hl p hp).imp id fun⟨a,ha,x⟩=>⟨a, .tail _ ha,x⟩⟩ (fun m hm=> ?_) (fun T idx lt x=>x)⟩
  · rcases List.mem_cons.1 ha with rfl|ha
    · exact⟨Nat.le_refl _,hgo.ak hnew List.prefix_rfl (Nat.le_refl _)⟩
    exact⟨(hn.ak a ha e).1,hgo.ak (hn.ak a ha e).2 List.prefix_rfl (Nat.le_refl _)⟩
  rw[List.mem_singleton.1 hm]
  exact⟨⟨fun x=>absurd x (by show ¬(6:Int)=4;decide),fun x=>absurd x (by show ¬(6:Int)=5;decide),fun _ _=>⟨_, .head _,O,O,Nat.le_refl _⟩⟩,fun x=>absurd x (by show ¬(6:Int)=3;decide)⟩
theorem zLr{l:LdD}(hB:Bnd N lk k X)(hi:i<N)(h:GhI N g X)(hr:(zG X.nodes i).r.qp=4)(hl:(zG X.nodes i).ld=some l):
    GhS N g X i {zG X.nodes i with r:={(zG X.nodes i).r with qc:=yY (aN i) (zG X.nodes i).t.term (y5 N) (zG X.nodes i).E l.qa (zG X.nodes i).r.qc}} []:=by
  have hn:=h.nd i hi
  have hb:=hB.B i hi
  by_cases hq:(zc (y5 N) (zG X.nodes i).E).ok∧(zG X.nodes i).r.qc<xY (zw (aN i).id (zc (y5 N) (zG X.nodes i).E).vs l.qa (zG X.nodes i).E.length PeerM.qy)∧(LogA.mk 0 0 (zG X.nodes i).E).fits (xY (zw (aN i).id (zc (y5 N) (zG X.nodes i).E).vs l.qa (zG X.nodes i).E.length PeerM.qy)) (zG X.nodes i).t.term
  · have hcm:yY (aN i) (zG X.nodes i).t.term (y5 N) (zG X.nodes i).E l.qa (zG X.nodes i).r.qc=xY (zw (aN i).id (zc (y5 N) (zG X.nodes i).E).vs l.qa (zG X.nodes i).E.length PeerM.qy):=if_pos hq
    rw[hcm]
    obtain⟨q1,q2,q3⟩:=hq
    obtain⟨Q,hQ,hQm⟩:=zER (Nat.zero_lt_of_lt q2)
    generalize xY (zw (aN i).id (zc (y5 N) (zG X.nodes i).E).vs l.qa (zG X.nodes i).E.length PeerM.qy)=R at q2 q3 hQ
    obtain⟨r,hrm,e1,e2,e3⟩:=hn.el hr
    obtain⟨R',rfl⟩:∃ R',R=R'+1:=⟨R - 1,by omega⟩
    obtain⟨f1,f2⟩:=zBa q3
    have hgo1:=zCt g ⟨(zG X.nodes i).t.term,xc i,(zG X.nodes i).E.length⟩
    have hok1:=zHn (m:=(zG X.nodes i).E.length) h.ok hn
    have hgo2:=zOH (zI8 g ⟨(zG X.nodes i).t.term,xc i,(zG X.nodes i).E.length⟩) ⟨(zG X.nodes i).t.term,R'+1,(zG X.nodes i).E.length,Q⟩
    have hgo:=hgo1.trans hgo2
    have hself:Has (zG X.nodes i).E (g.Lr r) (zG X.nodes i).E.length:=by rw[e3];exact Has.self (Nat.le_refl _)
    have hnew:AkI g (zG X.nodes i).E (zG X.nodes i).t.term ⟨(zG X.nodes i).t.term,xc i,(zG X.nodes i).E.length⟩:=e1▸AkI.self hrm hself
    have hok2:(zPa (zI8 g ⟨(zG X.nodes i).t.term,xc i,(zG X.nodes i).E.length⟩) ⟨(zG X.nodes i).t.term,R'+1,(zG X.nodes i).E.length,Q⟩).ok (qu N):=by
      refine zNj hok1 ⟨r,hrm,e1,?_,f1,by show _≤(g.Lr r).length;rw[e3];exact Nat.le_refl _,?_,fun v hv=> ?_⟩
      · refine Classical.byContradiction fun c=> ?_
        have c':¬ r.E.length<R'+1:=c
        have h1:=(Has.pre (h.ok.elE r hrm)).nth_eq (i:=R') V
        rw[e3]at h1
        have h2:=h.ok.elt r hrm R' _ (yW V)
        rw[h1,f2]at h2
        omega
      · show qu N ((g.Lr r).take (zG X.nodes i).E.length) Q
        rw[e3,List.take_length]
        unfold qu
        rw[←zB9 hb.good.fol]
        exact⟨q1,hQm⟩
      obtain⟨_,h2⟩:=hQ v hv
      by_cases c:v=(aN i).id
      · rw[zAO c]at h2
        exact⟨_, .head _,c.symm,O,h2⟩
      cases hp:ya l.qa v with
      |none=>rw[jU c hp]at h2;omega
      |some k=>
        rw[jV c hp]at h2
        obtain⟨p1,p2⟩:=zAe hp
        rcases hn.ld l hl _ (zd p1)with h0|⟨a,ha,b1,b2,b3⟩
        · omega
        exact⟨a, .tail _ ha,b1.trans p2,b2,Nat.le_trans h2 b3⟩
    refine⟨_,⟨hgo,⟨fun r hr=> .inl ⟨hr,O⟩,fun c hc=>(List.mem_cons.1 hc).elim (fun e=> .inr (by subst e;exact⟨hr,rfl,Nat.le_refl _⟩)) .inl⟩⟩,jT hB.len hi h hgo hok2 h.vk h.vfr h.vnz (fun j hj hne=>(zG5 (h.nd j hj) (fun e=>hne (kb e).symm)).lift hgo2 (fun _ _ _=>O) (fun r hr=> .inl hr) (fun w hw=> .inl hw) (fun a ha=> .inl ha)) ⟨hgo.built hn.B,hn.tl,hn.vt,hn.vc,hn.el,fun a ha e=> ?_, .inr ⟨_, .head _,r,hrm,e1,Nat.le_refl _,Nat.le_refl _,?_⟩,hn.cd,fun l hl p hp=>(hn.ld l hl p hp).imp id fun⟨a,ha,x⟩=>⟨a, .tail _ ha,x⟩⟩ jG (fun T idx lt x=>x)⟩
    · rcases List.mem_cons.1 ha with rfl|ha
      · exact⟨Nat.le_refl _,hgo.ak hnew List.prefix_rfl (Nat.le_refl _)⟩
      exact⟨(hn.ak a ha e).1,hgo.ak (hn.ak a ha e).2 List.prefix_rfl (Nat.le_refl _)⟩
    show Has (zG X.nodes i).E (g.Lr r) (R'+1)
    exact hself.le f1
  have hcm:yY (aN i) (zG X.nodes i).t.term (y5 N) (zG X.nodes i).E l.qa (zG X.nodes i).r.qc=(zG X.nodes i).r.qc:=if_neg hq
  rw[hcm]
  exact zCx hB.len hi h hn jG (fun _ _ _ x=>x)
theorem zNp{l:LdD}{e:EntA}{P:List PeerP}(hN:1≤N∧N≤5)(hB:Bnd N lk k X)(hi:i<N)(h:GhI N g X)(hr:(zG X.nodes i).r.qp=4)(hl:(zG X.nodes i).ld=some l)(he:e.ok∧e.term=(zG X.nodes i).t.term∧e.index=(zG X.nodes i).E.length+1)(hge:zMs N ch i (zG X.nodes i) l e P):
    GhS N g X i {zG X.nodes i with t:={(zG X.nodes i).t with qC:=(zG X.nodes i).t.now},E:=(zG X.nodes i).E++[e],ld:=some {l with qa:=P}} []:=by
  have hn:=h.nd i hi
  have hb:=hB.B i hi
  obtain⟨r,hrm,e1,e2,e3⟩:=hn.el hr
  have hX:(zG X.nodes i).E++[e]=g.Lr r++[e]:=by rw[e3]
  have hp:g.Lr r<+:(zG X.nodes i).E++[e]:=by rw[hX];exact List.prefix_append _ _
  have hpE:(zG X.nodes i).E<+:(zG X.nodes i).E++[e]:=List.prefix_append _ _
  have hgo:=zIX (r:=r) hp
  have hL:(zC4 g r ((zG X.nodes i).E++[e])).Lr r=(zG X.nodes i).E++[e]:=by rw[zBr,if_pos ⟨rfl,rfl⟩]
  have hok:(zC4 g r ((zG X.nodes i).E++[e])).ok (qu N):=by
    refine zN9 h.ok hrm hX (by rw[he.2.1,e1]) (fun hc=> ?_)
    rcases hge with⟨hk,_⟩|⟨_,hk,kind,id,F,hid,hch,hd,hlc,hfi,_⟩
    · exact absurd (hk.symm.trans (hc:e.kind=3)) qM
    refine⟨?_,?_⟩
    · have ht:=hb.ht (.inr hr)
      have hc0:(zG X.nodes i).r.qc≠0:=fun q=>by
        rw[q]at hfi
        have:=(LogA.fits_iff.1 hfi).2
        rw[if_pos rfl]at this
        dsimp only at this;omega
      obtain⟨c,hcc⟩:∃ c,(zG X.nodes i).r.qc=c+1:=⟨(zG X.nodes i).r.qc - 1,by omega⟩
      rw[hcc]at hfi
      obtain⟨f1,f2⟩:=zBa hfi
      rcases hn.cm with q|⟨x,hx,r',hr',g1,g2,g3,g4⟩
      · exact absurd q hc0
      have h5:=congrArg EntA.term (g4.nth_eq (i:=c) V)
      rw[f2]at h5
      have h6:=g4.2.1
      have h7:(zG X.nodes i).t.term≤r'.T:=by
        by_cases q:r'.E.length≤c
        · have:=h.ok.elL r' hr' c _ q (yW V);omega
        have h8:=(Has.pre (h.ok.elE r' hr')).nth_eq (i:=c) V
        have:=h.ok.elt r' hr' c _ (yW V)
        rw[h8]at this;omega
      obtain⟨s,hs,s1,s2,s3,s4,_⟩:=h.ok.com x hx
      have es:=h.ok.uniq (xS N) hs hrm V
      rw[es]at s4
      refine⟨x,hx,by omega,s4,fun j y hj hy hyc=> ?_⟩
      rw[e3]at hy
      have hge':j+1≤(y9 (y5 N) (zG X.nodes i).E (zG X.nodes i).E.length).2:=zJ5 (vs:=y5 N) hb.good.fol hy hyc
      omega
    intro Q R hQ hR
    have hgd:=zB7 hb.good he.1 he.2.2 (by rw[he.2.1];exact hb.hen)
    rw[e3]at hQ
    unfold qu at hQ hR
    rw[←zB9 hb.good.fol]at hQ
    rw[←zB9 hgd.fol,zCF hk he.2.2 hd]at hR
    obtain⟨u,p,q,h1,h2,h3,h4,h5⟩:=zLZ (c:=ConfD.mk (.slice none 0 0) (jy N (zG X.nodes i)).vs (.slice none 0 0) (jy N (zG X.nodes i)).ls) (vs:=F.vs) (ls:=F.ls) (zFR hch).2 hch
    obtain⟨x,_,h6,h7⟩:=zQq (a:=Q) (b:=R) h1 h2 h3 h4 h5 hQ.2 hR.2
    exact⟨x,h6,h7⟩
  refine⟨_,⟨hgo,zIU O O O (fun s hs=> .inr hs)⟩,jT hB.len hi h hgo hok h.vk h.vfr h.vnz (fun j hj hne=> ?_) ⟨?_,hn.tl,hn.vt,fun w hw e=>⟨(hn.vc w hw e).1,fun _ x=>by rw[show(zG X.nodes i).r.qp=3 from x]at hr;exact absurd hr qM⟩,fun _=>⟨r,hrm,e1,e2,hL⟩,fun a ha e=>⟨(hn.ak a ha e).1,hgo.ak (hn.ak a ha e).2 hpE (Nat.le_refl _)⟩,hgo.cm hn.cm hpE (Nat.le_refl _),fun x=>by rw[show(zG X.nodes i).r.qp=3 from x]at hr;exact absurd hr qM,fun l2 q p hp2=> ?_⟩ jG (fun T idx lt x=>⟨x.1,fun _ y=>by rw[show(zG X.nodes i).r.qp=3 from y]at hr;exact absurd hr qM⟩)⟩
  · refine(h.nd j hj).lift hgo (fun s hs hid=> ?_) (fun r hr=> .inl hr) (fun w hw=> .inl hw) (fun a ha=> .inl ha)
    rw[zBr,if_neg]
    rintro⟨_,q⟩
    exact hne (kb (hid.symm.trans (q.trans e2)))
  · have:=hok.elB r hrm
    rwa [hL]at this
  cases q
  rcases hge with⟨_,rfl⟩|⟨_,_,_,_,F,_,_,_,_,_,hP⟩
  · exact hn.ld l hl p hp2
  rcases zB8 p (hP.mem_iff.1 hp2)with q|q
  · exact hn.ld l hl p q
  left;rw[q];rfl
theorem zNP{l:LdD}{ms:List MsgA}(hB:Bnd N lk k X)(hi:i<N)(h:GhI N g X)(hr:(zG X.nodes i).r.qp=4)(hm:∀ m∈ms,FeedM N i (zG X.nodes i) l m):GhS N g X i (zG X.nodes i) ms:=by
  have hn:=h.nd i hi
  obtain⟨r,hrm,e1,e2,e3⟩:=hn.el hr
  refine zCx hB.len hi h hn (fun m hm'=> ?_) (fun _ _ _ x=>x)
  have hf:=hm m hm'
  have hk:=hf.kind
  have h9:m.qm.length≤(zG X.nodes i).E.length - m.index:=by
    have:=congrArg List.length hf.qm.2
    rw[List.length_take,List.length_drop]at this;omega
  have hix:=hf.index
  refine⟨⟨fun x=>by rw[hk]at x;exact absurd x qM,fun _=>⟨r,hrm,by rw[e1,hf.term],by rw[e3];omega,by rw[e3];exact hf.qm.2,?_,by rw[e3,hf.term,hf.qc];exact hn.cm⟩,fun x=>by rw[hk]at x;exact absurd x qM⟩,fun x=>by rw[hk]at x;exact absurd x qM⟩
  by_cases c:m.index=0
  · exact .inl c
  right
  rw[hf.lt,e3]
  unfold LogA.termE LogA.last
  dsimp only
  rw[if_neg V,if_neg c,if_pos V]
  rfl
theorem zPz{n:NodA}{ms:List MsgA}{rs:List RdyD}(hN:1≤N∧N≤5)(hB:Bnd N lk k X)(hi:i<N)(h:GhI N g X)(ha:Act N ch lk (· ∈X.way) i (zG X.nodes i) n ms rs):GhS N g X i n ms:=by
  have hn:=h.nd i hi
  have hl:=hB.len
  have yk:∀ v∈(zG X.nodes i).yes,v∈(zG X.nodes i).yes∨∃ w∈g.vts,w.v=v∧w.T=(zG X.nodes i).t.term∧w.c=xc i:=fun v hv=> .inl hv
  cases ha with
  |tim t h1 h2=>exact x2 hl hi h rfl h1.1 h1.2 rfl (fun q=>⟨q,yk⟩) id hn.ld jG
  |say _ hm hml=>
    refine x2 hl hi h O O O O (fun q=>⟨q,yk⟩) id hn.ld (fun m hm'=>MsgI.none ?_)
    rcases(hm m hm').kind with q|q|q|⟨q,f⟩
    · omega
    · omega
    · omega
    exact⟨by omega,by omega,fun _=>f⟩
  |later q d hq h2=>exact zKb hl hi h rfl h2 rfl rfl rfl
  |follow wh=>exact x2 hl hi h rfl rfl rfl rfl (fun q=>absurd q (by show ¬(1:Int)=3;decide)) (fun q=>absurd q (by show ¬(1:Int)=4;decide)) (fun l q=>by cases q) jG
  |cand=>exact x2 hl hi h rfl rfl rfl rfl (fun q=>absurd q (by show ¬(2:Int)=3;decide)) (fun q=>absurd q (by show ¬(2:Int)=4;decide)) (fun l q=>by cases q) jG
  |yes2 v hr=>exact x2 hl hi h rfl rfl rfl rfl (fun q=>by rw[show(zG X.nodes i).r.qp=3 from q]at hr;exact absurd hr qM) id hn.ld jG
  |yes3 q hr hq hk hd=>
    refine x2 hl hi h O O O O (fun x=>⟨x,fun v hv=> ?_⟩) id hn.ld jG
    have hv':v∈y8 (jy N (zG X.nodes i)) (zG X.nodes i).yes q.src:=hv
    unfold y8 at hv'
    split at hv'
    · rcases List.mem_append.1 hv' with y|y
      · exact .inl y
      right
      obtain⟨w,hw,a,b,c⟩:=(h.ms q hq).k4 hk.1 hk.2
      exact⟨w,hw,a.trans (List.mem_singleton.1 y).symm,b.trans hd.2,c.trans hd.1⟩
    exact .inl hv'
  |stand d=>exact zMe hB hi h
  |asks _ hr hm hml=>
    refine x2 hl hi h O O O O (fun q=>⟨q,yk⟩) id hn.ld (fun m hm'=> ?_)
    have hf:=hm m hm'
    have hk:=hf.kind
    exact⟨⟨fun x=>by rw[hk]at x;exact absurd x qM,fun x=>by rw[hk]at x;exact absurd x qM,fun x=>by rw[hk]at x;exact absurd x qM⟩,fun _=>⟨hf.src,by rw[hf.term];exact Nat.le_refl _,fun _ _=>⟨hf.index,hf.lt⟩⟩⟩
  |elect hr hq=>exact zKi hN hB hi h hr hq
  |qD q d hq hk hv hr hf=>exact zOE hB hi h hq hk hv hr hf
  |app q hq hk hr hld hc he hf hfi=>exact zOo hB hi h hq hk hr hld hc hf hfi
  |low q hq hk hr hc=>exact zPB hB hi h hq hk
  |lead l l' hr hll hs=>
    refine x2 hl hi h O O O O (fun q=>⟨q,yk⟩) id (fun l2 q p hp=> ?_) jG
    cases q
    obtain⟨p0,h1,h2,h3,_⟩:=hs.ps p hp
    rcases h3 with h3|⟨q,hq,k1,k2,k3,k4,k5⟩
    · rw[h2,h3];exact hn.ld l hll p0 h1
    right
    obtain⟨a,ha,b1,b2,b3⟩:=(h.ms q hq).k6 k1 k2
    exact⟨a,ha,by rw[h2,b1,k4],b2.trans k3,by rw[k5];exact b3⟩
  |grow l e P hr hll he hg=>exact zNp hN hB hi h hr hll he hg
  |count l hr hll=>exact zLr hB hi h hr hll
  |feed l _ hr hll hm hml=>exact zNP hB hi h hr hm
  |look l id hr hll hf hk=>
    refine x2 hl hi h O O O O (fun q=>⟨q,yk⟩) (fun q=>q) (fun l2 q p hp=> ?_) jG
    cases q
    exact hn.ld l hll p hp
  |imm id hr hf hq=>exact x2 hl hi h rfl rfl rfl rfl (fun q=>⟨q,yk⟩) (fun q=>q) hn.ld jG
  |tell l k hk hr hll=>
    refine x2 hl hi h O (by show(xZ k l.qd _).term=_;unfold xZ;split<;>rfl) (by show(xZ k l.qd _).qD=_;unfold xZ;split<;>rfl) O (fun q=>⟨q,yk⟩) (fun q=>q) (fun l2 q p hp=> ?_) jG
    cases q
    refine hn.ld l hll p ?_
    unfold x9 at hp
    split at hp<;>exact hp
end
end Go.Proofs.YtkkeknmkipkbmaaGreat
