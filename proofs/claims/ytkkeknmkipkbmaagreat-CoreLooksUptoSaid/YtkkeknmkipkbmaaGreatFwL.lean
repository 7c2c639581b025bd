import Derived.Test.YtkkeknmkipkbmaaGreatCoJ
import Derived.Test.YtkkeknmkipkbmaaGreatFwX
set_option linter.unusedSectionVars false
set_option linter.unusedSimpArgs false
set_option linter.unusedVariables false
set_option maxRecDepth 10000
namespace Go.Proofs.YtkkeknmkipkbmaaGreat
open Go Go.Sc Go.Proofs
theorem zNC{S:List Nat}(cb jb:Nat)(t:TimD)(a:StA)(r:RolD)(b:StB)(lead yv out:Value)(qe:Nat)(x:EntD)(pb:Nat)(w:World)(hx:x.wf)(hin:Own w S [z7 cb t lead a r b yv jb qe out,Res.row pb 27 [pt cb]] w)(rd_x:EntD.rd x w S):Rets Tryz.prog 198 #[.agg (EntD.cells x).toArray,pt pb] w fun u_ w'=>u_= .bool (decide (t.term<x.term))∧Own w S [z7 cb t lead a r b yv jb qe out,Res.row pb 27 [pt cb]] w':=by
  refine zW Tryz.func198 O Tryz.ntmps198 hin ?_
  refine zC (z8 O O (fun b2=>zI O (zA (yb qN qN (zL O (zH (o:=1) O) (zL O (zY 2 (v:=Vn x.term) O O O) (zL O (zY 1 (v:=pt cb) O O O) (zL O (zO O) (zL O (zH (o:=0) O) (zL O (zH (o:=0) O) (zL O (zY 0 (v:=Vn t.term) O O O) (zL O (zCe O O) ?_))))))))))))
  refine zL O yO (xi ?_)
  exact zU (z9 (v:= .bool (decide (((t.term:Nat):Int)<((x.term:Nat):Int)))) O O (fun w' hw=>⟨(by congr 1;exact decide_eq_decide.2 V),hw.sel [0,1] O qM⟩))
theorem zLl{S:List Nat}(cb jb:Nat)(t:TimD)(a:StA)(r:RolD)(b:StB)(lead yv out:Value)(qe:Nat)(v:Value)(m:List EntD)(pb:Nat)(w:World)(hm:m.length≤1048576)(hx:∀ e∈m,e.wf)(hin:Own w S [z7 cb t lead a r b yv jb qe out,Res.row pb 27 [pt cb]] w)(hv:Rd w S (Res.sl v m.length (m.flatMap EntD.cells)))(all_hv:∀ p∈m,EntD.rd p w S):Rets Tryz.prog 169 #[v, .func (.func 198) #[] #[pt pb]] w fun u_ w'=>∃ (i:Int),u_=Vi i∧(0≤i↔∃ q∈m,t.term<q.term)∧Own w S [z7 cb t lead a r b yv jb qe out,Res.row pb 27 [pt cb]] w':=by
  refine zW Tryz.func169 O Tryz.ntmps169 hin ?_
  refine zC (zI O (zA (zP (zC (zD O (zp (pR hv) O O (zD O (zA (zZ ?_)))))))))
  refine xT (fun(k:Nat)=>[(0,v),(1, .func (.func 198) #[] #[pt pb]),(7,Vj m.length),(8,Vj k)]) (fun(k:Nat)=>k≤m.length∧∀ e∈m.take k,¬ t.term<e.term) (fun(k:Nat)=>[z7 cb t lead a r b yv jb qe out,Res.row pb 27 [pt cb]]) (fun(k:Nat)=>m.length - k) (fun w' hw=>⟨0,⟨O,O,O,O,trivial⟩,⟨Nat.zero_le _,by simp⟩,hw⟩) (fun k g hΦ=> ?_)
  refine zC (yI O O O (zA (zP (za O (fun c1=> ?_) (fun c1=> ?_)))))
  ·refine zQ (zP (zZ (zC (zD O (zI O (zA (zC (zD O (zD O (zD O (zk (pR hv) 5 k O O O V O (kP (pR hv) 5 k (off:=xH v+k*5) (fun _=>O) O O V O ?_))))))))))))
   refine yV (fst:=[]) (cap:=[pt pb]) O qN O O (fun w' hw=>(zNC cb jb t a r b lead yv out qe (zG m k) pb w' (hx _ (zd V)) (hw.give [0,1] O qM) ((all_hv _ (zd V)).at hw [0,1] O)).mono ?_)
   rintro _ w1 ⟨rfl,hO⟩
   refine O2 ?_ (hw.qh [0,1] O hO)
   refine zA (za O (fun c2=> ?_) (fun c2=> ?_))
   ·refine zC (zD O (zI O (zA ?_)))
    exact zU (z9 (v:=Vj k) O O (fun w' hw=>⟨k,O,⟨fun _=>⟨_,zd V,c2⟩,fun _=>by omega⟩,hw⟩))
   refine zQ (zV (zt O O (zr V) O (zD O ?_)))
   exact zg (fun w' hw=>⟨k+1,⟨O,O,O,O,trivial⟩,⟨by omega,by rw[zu V];intro v hv;rcases List.mem_append.1 hv with h|h;exact hΦ.2 v h;simp at h;rw[h];exact c2⟩,hw,V⟩)
  refine yF O (zC (zI O (zA ?_)))
  exact zU (z9 (v:=Vi (-1)) O O (fun w' hw=>⟨-1,O,⟨fun h=>by omega,fun⟨v,h,h'⟩=>by have h2:=hΦ.2;rw[List.take_of_length_le V]at h2;exact absurd h' (h2 v h)⟩,hw⟩))
theorem zJf{S:List Nat}(cb jb:Nat)(t:TimD)(a:StA)(r:RolD)(b:StB)(lead yv out:Value)(qe:Nat)(v:Value)(m:List EntD)(pb:Nat)(w:World)(hm:m.length≤1048576)(hx:∀ e∈m,e.wf)(hin:Own w S [z7 cb t lead a r b yv jb qe out,Res.row pb 27 [pt cb]] w)(hv:Rd w S (Res.sl v m.length (m.flatMap EntD.cells)))(all_hv:∀ p∈m,EntD.rd p w S):Rets Tryz.prog 127 #[v, .func (.func 198) #[] #[pt pb]] w fun u_ w'=>u_= .bool (decide (∃ q∈m,t.term<q.term))∧Own w S [z7 cb t lead a r b yv jb qe out,Res.row pb 27 [pt cb]] w':=by
  refine zW Tryz.func127 O Tryz.ntmps127 hin ?_
  refine zC (zI O (zA (zC (zD O (zD O (a_call O O (fun w' hw=>(zLl cb jb t a r b lead yv out qe v m pb w' qO ‹_› (hw.give [0,1] O qM) (hw.rdTo hv [0,1] O) (fun p hp=>EntD.rd.at (all_hv p hp) hw [0,1] O)).mono ?_)))))))
  rintro _ w1 ⟨i1_,rfl,hf1_2,hO⟩
  refine O2 ?_ (hw.qh [0,1] O hO)
  refine kK O O O (zI O (zA ?_))
  exact zU (z9 (v:= .bool (decide (0≤i1_))) O O (fun w' hw=>⟨(by congr 1;exact decide_eq_decide.2 V),hw⟩))
theorem zPF{S:List Nat}(cb jb:Nat)(t:TimD)(a:StA)(r:RolD)(b:StB)(lead yv out:Value)(qe:Nat)(m:MsgD)(w:World)(hm:m.wf)(hin:Own w S [z7 cb t lead a r b yv jb qe out] w)(rd_m:MsgD.rd m w S):Rets Tryz.prog 171 #[pt cb, .agg (MsgD.cells m).toArray] w fun u_ w'=>u_= .bool (decide (∃ q∈m.qm,t.term<q.term))∧Own w S [z7 cb t lead a r b yv jb qe out] w':=by
  have hme:=hm.qm
  refine zW Tryz.func171 O Tryz.ntmps171 hin ?_
  refine zC (z8 O O (fun b2=>z8 O O (fun b3=>zI O (zA (zC (zK (o:=9) O O (zM 2 (v:=m.ev) O O O O (zBX (va:=[]) (vb:=[pt b2]) O O O (a_call O O (fun w' hw=>(zJf cb jb t a r b lead yv out qe m.ev m.qm b2 w' qO hm.each (hw.give [0,1] O qM) (hw.rdTo rd_m.ev [0,1] O) (fun p hp=>EntD.rd.at (rd_m.ev_all p hp) hw [0,1] O)).mono ?_))))))))))
  rintro _ w1 ⟨rfl,hO⟩
  refine O3 ?_ (hw.qh [0,1] O hO)
  refine zI O (zA ?_)
  exact zU (z9 (v:= .bool (decide (∃ q∈m.qm,t.term<q.term))) O O (fun w' hw=>⟨O,hw.sel [1] O qM⟩))
theorem zFO{S:List Nat}(cb jb:Nat)(t:TimD)(a:StA)(r:RolD)(b:StB)(lead yv:Value)(qe:Nat)(ob:Nat)(o:OutD)(m:MsgD)(kind:Int)(idx lt:Nat)(flag:Bool)(w:World)(ho:o.qk.length≤100000)(hin:Own w S [z7 cb t lead a r b yv jb qe (pt ob),Res.ou ob o] w)(rd_m:MsgD.rd m w S):Rets Tryz.prog 170 #[pt cb, .agg (MsgD.cells m).toArray, .agg #[Vi kind,Vi 0,Vi 0,Vn 0,Vn idx,Vn lt,Vn 0,Vn 0, .bool flag, .slice none 0 0, .slice none 0 0, .slice none 0 0,Vi 0, .slice none 0 0]] w fun u_ w'=>∃ (mv':Value),u_= .tuple #[]∧Own w S [z7 cb t lead a r b yv jb qe (pt ob),Res.ou ob ({o with mv:=mv',qk:=o.qk++[yg a t.term (yw kind 0 m.src 0 idx lt 0 m.round flag (.slice none 0 0) [])]}:OutD)] w':=by
  refine zW Tryz.func170 O Tryz.ntmps170 hin ?_
  refine zC (z8 O O (fun b4=>z8 O O (fun b5=>zA (zP (ze [0,1,2] O qM qN (fun w' hw hS=>zB 0 O (zH (o:=1) O) hS (zB 1 O (zY 2 (v:=Vi m.src) O O O) hS (zB 2 O (zH (o:=7) O) hS (zB 3 O (zY 2 (v:=Vn m.round) O O O) hS (zB 4 O (zH (o:=2) O) hS (zJ 5 O hw (zn 3 O O O O O ?_))))))))))))
  refine zE [0,1,2] O qM (fun w' hw hS=>zB 6 O (zH (o:=7) O) hS (zJ 7 O hw (zn 3 O O O O O (zE [0,1,2] O qM (fun w' hw hS=>zT ?_)))))
  refine Oc4 ?_ hw
  refine zV (zD O (yL 3 O O O (zx (e:=59) (sz:=14) (vs:=[.agg #[Vi kind,Vi 0,Vi m.src,Vn 0,Vn idx,Vn lt,Vn 0,Vn m.round, .bool flag, .slice none 0 0, .slice none 0 0, .slice none 0 0,Vi 0, .slice none 0 0]]) qN O O qY qM O (fun b14=> ?_))))
  refine z4 [z7 cb t lead a r b yv jb qe (pt ob),Res.ou ob o,Res.row b4 59 (MsgD.cells m),Res.row b5 59 [Vi kind,Vi 0,Vi m.src,Vn 0,Vn idx,Vn lt,Vn 0,Vn m.round, .bool flag, .slice none 0 0, .slice none 0 0, .slice none 0 0,Vi 0, .slice none 0 0],vM (.slice (some ⟨b14,0,none⟩) 1 1) [(yw kind 0 m.src 0 idx lt 0 m.round flag (.slice none 0 0) [])],sM [(yw kind 0 m.src 0 idx lt 0 m.round flag (.slice none 0 0) [])]] (fun w' hw=>hw.msg0 ⟨O,O,O⟩ O O) ?_
  refine a_call O O (fun w' hw=>(jI cb jb t a r b lead yv qe ob _ (.slice (some ⟨b14,0,none⟩) 1 1) [(yw kind 0 m.src 0 idx lt 0 m.round flag (.slice none 0 0) [])] w' qS (hw.give [0,1,4,5] O qM)).mono ?_)
  rintro _ w1 ⟨mv'1_,rfl,hO⟩
  refine O4 ?_ (hw.qh [0,1,4,5] O hO)
  exact zg (yQ O (fun w' hw=>⟨mv'1_,O,hw.sel [2,3] O qM⟩))
def y8(F:ConfA)(yes:List Int)(id:Int):List Int:=if(F.ok∧id∈F.vs)∧¬ id∈yes then yes++[id]else yes
theorem zFv{F:ConfA}{yes:List Int}{id:Int}(h:F.ok∧id∈F.vs)(h2:¬ id∈yes):y8 F yes id=yes++[id]:=if_pos ⟨h,h2⟩
theorem zD2{F:ConfA}{yes:List Int}{id:Int}(h:¬(F.ok∧id∈F.vs)∨id∈yes):y8 F yes id=yes:=if_neg (fun q=>by rcases h with h|h;exact h q.1;exact q.2 h)
theorem zIn{S:List Nat}(cb jb:Nat)(t:TimD)(a:StA)(r:RolD)(b:StB)(lead yv out:Value)(qe:Nat)(lv:Value)(es:List EntD)(yes:List Int)(id:Int)(w:World)(hg:(LG 0 0 es).good)(hl:es.length≤1000000)(hvl:b.vs.length≤12)(hy:yes.length≤100000)(hin:Own w S [z7 cb t lead a r b yv jb qe out,Res.nl b lv es,vI yv yes] w):Rets Tryz.prog 86 #[pt cb,Vi id] w fun u_ w'=>∃ (yv':Value),u_= .bool (decide (((zc b.vs (es.map EntD.toEntA)).ok∧id∈(zc b.vs (es.map EntD.toEntA)).vs)∧(zc b.vs (es.map EntD.toEntA)).qv (y8 (zc b.vs (es.map EntD.toEntA)) yes id)))∧Own w S [z7 cb t lead a r b yv' jb qe out,Res.nl b lv es,vI yv' (y8 (zc b.vs (es.map EntD.toEntA)) yes id)] w':=by
  refine zW Tryz.func86 O Tryz.ntmps86 hin ?_
  refine zC (zI O (zA (zC (zD O (a_call O O (fun w' hw=>(xq cb jb t a r b lead yv out qe _ _ w' ‹_› qO qO (hw.give [0,1] O qM)).mono ?_))))))
  rintro _ w1 ⟨cv1_,cw2_,F3_,rfl,hf1_1,hO⟩
  have hFl:F3_.vs.length≤1000∧F3_.ls.length≤1000:=by rw[hf1_1];exact yi V
  refine O5 ?_ (hw.qh [0,1] O hO)
  refine yC (v:= .agg #[.slice none 0 0, .slice none 0 0]) qN O (fun b5=> ?_)
  refine zN (fun w' hw=>Own.qg (i:=3) O hw) (fun hc1_=> ?_)
  refine zN (fun w' hw=>Own.qg (i:=4) O hw) (fun hc2_=> ?_)
  refine zo 5 O O O (zF hc1_ (zF hc2_ zh)) O (zA (zP (zC (yL (cs:=[cv1_,cw2_]) 5 O O O (zD O (a_call O O (fun w' hw=>(zBY ({vv:=cv1_,vs:=F3_.vs,lv:=cw2_,ls:=F3_.ls}:ConfD) id w' qP ⟨(hw.qq 3 O),(hw.qq 4 O)⟩).mono ?_)))))))
  rintro _ w1 ⟨rfl,hO⟩
  refine O6 ?_ (hw.qi hO)
  refine xB (q:=({vv:=cv1_,vs:=F3_.vs,lv:=cw2_,ls:=F3_.ls}:ConfD).ok∧id∈({vv:=cv1_,vs:=F3_.vs,lv:=cw2_,ls:=F3_.ls}:ConfD).vs) O O (zA (za O (fun c1=> ?_) (fun c1=> ?_)))
  ·have hc:¬((zc b.vs (es.map EntD.toEntA)).ok∧id∈(zc b.vs (es.map EntD.toEntA)).vs):=by rw[←hf1_1];exact c1
   refine zC (zI O (zA ?_))
   exact zU (z9 (v:= .bool false) O O (fun w' hw=>⟨yv,(by rw[decide_eq_false];exact fun h=>hc h.1),(by rw[zD2 (.inl hc)];exact hw.sel [1,2,0] rfl qM)⟩))
  have hc:(zc b.vs (es.map EntD.toEntA)).ok∧id∈(zc b.vs (es.map EntD.toEntA)).vs:=by rw[←hf1_1];exact Decidable.not_not.1 c1
  refine zQ (zP (zC (zD O (zb O O (zK (o:=30) O O (zM 1 (v:=yv) O O O O (zD O (a_call O O (fun w' hw=>(ki yv yes id w' qP (hw.qq 0 O)).mono ?_)))))))))
  rintro _ w1 ⟨rfl,hO⟩
  refine O6 ?_ (hw.qi hO)
  refine xB (q:=id∈yes) O O (zA (za O (fun c2=> ?_) (fun c2=> ?_)))
  ·refine zV (zD O (zD O (zb O O (zK (o:=30) O O (zM 1 (v:=yv) O O O O (zD O (zx (e:=3) (sz:=1) (vs:=[Vi id]) qN O O qR qM O (fun b25=>zy (g:=I1) (sz:=1) (by':=8) (fun _=>O) (l:=yes) (l':=[id]) qV 0 qN O O O (fun w' hw'=>Vec.sl (Own.holds hw' 6 _ O)) qO qM O (fun v26=>zb O O (zK (o:=30) O O ?_))))))))))
   refine zN (fun w' hw=>Own.qg (i:=0) O hw) (fun hc3_=> ?_)
   refine zn 1 O O O hc3_ O (zA (zP (ze [0,1,2,3,4,5,6] O qM qN (fun w' hw hS=>zB 0 O (x1 (cs:=[cv1_,cw2_]) 5 O O) hS (zB 1 O zS hS (zB 2 O (zO O) hS (zB 3 O (zH (o:=30) O) hS (zB 4 O (zY 1 (v:=v26) O O O) hS (zJ 5 O hw (a_call O O (fun w' hw=>(xD ({vv:=cv1_,vs:=F3_.vs,lv:=cw2_,ls:=F3_.ls}:ConfD) v26 (yes++[id]) w' qP qP (hw.qq 0 O) ⟨(hw.qq 3 O),(hw.qq 4 O)⟩).mono ?_)))))))))))
   rintro _ w1 ⟨rfl,hO⟩
   refine O7 ?_ (hw.qi hO)
   refine zE [0,1,2,3,4,5,6] O qM (fun w' hw hS=>zB 6 O yO hS (zT ?_))
   refine Oc7 ?_ hw
   exact zU (z9 (v:= .bool (decide (({vv:=cv1_,vs:=F3_.vs,lv:=cw2_,ls:=F3_.ls}:ConfD).qv (yes++[id])))) O O (fun w' hw=>⟨v26,(by congr 1;exact decide_eq_decide.2 (by rw[zFv hc c2,←hf1_1];exact⟨fun h=>⟨by rw[hf1_1];exact hc,h⟩,fun h=>h.2⟩)),(by rw[zFv hc c2];exact hw.sel [1,2,0] rfl qM)⟩))
  have c2:=Decidable.not_not.1 c2
  refine zQ (zP (ze [0,1,2,3,4,5] O qM qN (fun w' hw hS=>zB 0 O (x1 (cs:=[cv1_,cw2_]) 5 O O) hS (zB 1 O zS hS (zB 2 O (zO O) hS (zB 3 O (zH (o:=30) O) hS (zB 4 O (zY 1 (v:=yv) O O O) hS (zJ 5 O hw (a_call O O (fun w' hw=>(xD ({vv:=cv1_,vs:=F3_.vs,lv:=cw2_,ls:=F3_.ls}:ConfD) yv yes w' qP qP (hw.qq 0 O) ⟨(hw.qq 3 O),(hw.qq 4 O)⟩).mono ?_))))))))))
  rintro _ w1 ⟨rfl,hO⟩
  refine O6 ?_ (hw.qi hO)
  refine zE [0,1,2,3,4,5] O qM (fun w' hw hS=>zB 6 O yO hS (zT ?_))
  refine Oc6 ?_ hw
  exact zU (z9 (v:= .bool (decide (({vv:=cv1_,vs:=F3_.vs,lv:=cw2_,ls:=F3_.ls}:ConfD).qv yes))) O O (fun w' hw=>⟨yv,(by congr 1;exact decide_eq_decide.2 (by rw[zD2 (.inr c2),←hf1_1];exact⟨fun h=>⟨by rw[hf1_1];exact hc,h⟩,fun h=>h.2⟩)),(by rw[zD2 (.inr c2)];exact hw.sel [1,2,0] rfl qM)⟩))
end Go.Proofs.YtkkeknmkipkbmaaGreat
set_option linter.unusedVariables false
namespace Go.Sc
open Go
theorem zCn{P:Program}{w:World}(t ti ty e:TypeId)(i:TypeInfo)(z:Value)(ht:P.underlying t=some (.slice e))(hti:P.underlying ti=some (.int .i64))(hi:P.info? e=some i)(hz:i.zero=some z)(hs:i.size=1)
    {n:Nat} (h0:0<n) (h63:(n:Int)≤4611686018427387904) (h48:n*i.bytes≤281474976710656):
    (Builtin.append_ #[t,ti] ty #[.slice none 0 0, .int .i64 (n:Int)]).run P w=
      .ok (.slice (some ⟨w.heap.size,0,none⟩) n (grownCap w n 0 e)) (w.drew.alloc (.cells (Builtin.zeroCells z.cells n++Builtin.zeroCells z.cells (grownCap w n 0 e - n)) e)):=by
  have hn:n≠0:=by omega
  have hw:IntKind.i64.wrap (n:Int)=(n:Int):=zr V
  have h63':¬(9223372036854775807<(n:Int)):=by omega
  have hneg:¬((n:Int)<0):=by omega
  have h48a:¬(281474976710656<(n:Int)*(i.bytes:Int)):=by
    have e:(n:Int)*(i.bytes:Int)=((n*i.bytes:Nat):Int):=(Int.natCast_mul n i.bytes).symm
    rw[e];omega
  have h48':¬(281474976710656<Builtin.nextslicecap n 0*i.bytes):=by rw[nextslicecap_zero h0];omega
  simp[Builtin.append_,yB ht,yB hti,sizeOf,typeInfo,zeroValue,hi,hz,hs,asInt,asIntOf,hw,hn,hneg,h63',h48a,h48',Question.forced,run_firstCells_none,newRow,grownCap]
section
variable {P:Program} {n:Nat} {ops:Array Oper} {N:K} {f:Nat→Value} {A:World→Prop} {rest:List Oper} {w0:World} {S:List Nat} {L:List Res}
variable {d:Nat} {ty:TypeId} {p:String} {af:Array Edge} {x y:Operand} {t ti e:TypeId} {by':Nat}
theorem zPu{α:Type}{g:α→List Value}{z:α}{zv:Value}{m:Nat}(ht:slT P t=some (e,1,by'))(hti:zFd P ti=some .i64)(hz:zBj P e=some zv)(hc:zv.cells= #[zv])(hg:g z=[zv])(hx:ev f x= .slice none 0 0)(hy:ev f y= .int .i64 (m:Int))(h0:0<m)(hm:m≤1000000000000)(hb:m*by'≤140737488355328)(hd:Nat.blt d n=true)
    (k:∀ b c,m≤c→CL P n ops rest N (upd f d (.slice (some ⟨b,0,none⟩) m c)) (Own w0 S (L++[Res.vec e 1 (.slice (some ⟨b,0,none⟩) m c) (List.replicate m z).length ((List.replicate m z).flatMap g)]))):
    CL P n ops (⟨some d, .call ⟨.builtin .append,#[x,y],#[t,ti]⟩,ty,p,af,none⟩::rest) N f (Own w0 S L):=by
  intro w hw
  obtain⟨hu,i,z',hi,hz',hs,hby,hzs,hsz⟩:=zAX ht
  have e0:z'=zv:=by
    simp only[zBj,hi,Option.bind_some,hz']at hz
    exact Option.some.inj hz
  subst e0
  subst hby
  have hti':P.underlying ti=some (.int .i64):=by
    unfold zFd at hti
    split at hti
    · rename_i k' hk';cases hti;exact hk'
    cases hti
  have hmx:=xI
  have hr:=zCn (P:=P) (w:=w) t ti ty e i z' hu hti' hi hz' hs h0 V V
  have hge:=grownCap_ge w m 0 e
  have hcm:grownCap w m 0 e≤maxLen:=grownCap_le_maxLen w m 0 e (by rw[hmx];omega)
  have hrow:(Builtin.zeroCells z'.cells m).toList=(List.replicate m z).flatMap g:=by
    rw[hc]
    simp only[Builtin.zeroCells,List.flatMap,hg]
    have e2:(fun i:Nat=>[z'][i%1]?.getD default)=fun _=>z':=by funext i;rw[Nat.mod_one];rfl
    simp
    rw[e2,List.map_const',List.length_range,hg];simp
  have hO:Own w [] [Res.vec e 1 (.slice (some ⟨w.heap.size,0,none⟩) m (grownCap w m 0 e)) (List.replicate m z).length ((List.replicate m z).flatMap g)] (w.drew.alloc (.cells (Builtin.zeroCells z'.cells m++Builtin.zeroCells z'.cells (grownCap w m 0 e - m)) e)):=by
    refine Own.mk1 ⟨O,O,O,by simp,fun k hk _=>heap_alloc_old w.drew _ hk⟩ ?_ (fun b hb=>by simp[Res.vec,yd]at hb;right;omega)
    rw[List.length_replicate]
    refine⟨by rw[←hrow,Array.length_toList,size_zeroCells,hzs], .inr ⟨w.heap.size,_,_,O,Nat.zero_le _,heap_alloc_new w.drew _,hge,hcm,?_,?_⟩⟩
    · simp only[Array.size_append,size_zeroCells,hzs];omega
    rw[Array.toList_append,hrow]
    exact List.take_left' (by rw[←hrow,Array.length_toList,size_zeroCells,hzs])
  refine k7 (w':=_) ?_ hd (k w.heap.size _ hge _ (hw.qi hO))
  simp[execOp,resolve,invoke,builtin,hx,hy,hr]
theorem zOx(ht:kd P t=true)(hx:ev f x= .slice none 0 0):RV P f ⟨some d, .call ⟨.builtin .cap,#[x],#[t]⟩,ty,p,af,none⟩ A (.int .i64 0):=by
  intro w _
  unfold kd at ht
  split at ht
  · rename_i e he
    simp[execOp,resolve,invoke,builtin,hx,Builtin.cap_,yB he,goInt]
  cases ht
theorem zKv(ht:kd P t=true)(hx:ev f x= .slice none 0 0)(hd:Nat.blt d n=true)(k:CL P n ops rest N (upd f d (.int .i64 0)) A):CL P n ops (⟨some d, .call ⟨.builtin .cap,#[x],#[t]⟩,ty,p,af,none⟩::rest) N f A:=yX hd (zOx ht hx) k
theorem zFF(l:List Int):l.flatMap I1=l.map (Value.int .i64):=by induction l<;>simp_all[I1]
theorem Own.vecCutL{w:World}{T:TypeId}{v:Value}{l:List Int}(i k:Nat)(hL:L[i]?=some (Res.vec T 1 v l.length (l.flatMap I1)))(hk:k≤l.length)(h:Own w0 S L w):Own w0 S (L.set i (Res.vec T 1 (y3 v 0 k 1) (l.take k).length ((l.take k).flatMap I1))) w:=by
  refine h.turn hL ?_ ?_
  · rintro⟨hl,⟨rfl,h1⟩|⟨g,cap,cur,rfl,h0,h1,h2,h3,h4,h5⟩⟩
    · have:l=[]:=List.eq_nil_of_length_eq_zero h1
      subst this
      have hk0:k=0:=by simpa using hk
      subst hk0
      exact⟨O, .inl ⟨O,O⟩⟩
    have e:y3 (.slice (some ⟨g,0,none⟩) l.length cap) 0 k 1= .slice (some ⟨g,0,none⟩) k cap:=by
      show kO (some ⟨g,0,none⟩) cap 0 k cap 1=_
      unfold kO
      simp[Addr.add]
    rw[e]
    have hlk:(l.take k).length=k:=by simp;omega
    refine⟨by rw[zFF,List.length_map];omega, .inr ⟨g,cap,cur,by rw[hlk],h0,h1,by omega,h3,h4,?_⟩⟩
    rw[hlk,zFF,List.map_take,←zFF,←h5,List.take_take]
    congr 1;omega
  intro b hb
  have:yd (y3 v 0 k 1)=yd v∨yd (y3 v 0 k 1)=[]:=by
    cases v with
    |slice a m cap=>left;show yd (kO a cap 0 k cap 1)=_;exact zB3 a m cap 0 k cap 1
    |_=>left;rfl
  rcases this with h1|h1
  · show b∈yd v;rw[←h1];exact hb
  have hb':b∈yd (y3 v 0 k 1):=hb
  rw[h1]at hb';cases hb'
end
end Go.Sc
