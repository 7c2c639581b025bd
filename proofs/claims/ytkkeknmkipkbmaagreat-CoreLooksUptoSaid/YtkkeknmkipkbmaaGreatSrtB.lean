import Derived.Test.YtkkeknmkipkbmaaGreatCoD
import Derived.Test.YtkkeknmkipkbmaaGreatFwX
import Derived.Test.YtkkeknmkipkbmaaGreatFwU
import Derived.Test.YtkkeknmkipkbmaaGreatFwS
import Derived.Test.YtkkeknmkipkbmaaGreatChecked
set_option linter.unusedSectionVars false
set_option linter.unusedSimpArgs false
set_option linter.unusedVariables false
set_option maxRecDepth 10000
namespace Go.Proofs.YtkkeknmkipkbmaaGreat
open Go Go.Sc Go.Proofs
def yg(a:StA)(term:Nat)(m:MsgD):MsgD:={m with src:=a.id,term:=if m.kind=1∨m.kind=2 then m.term else term}
theorem zDz{a:StA}{term:Nat}{m:MsgD}(h:m.kind≠1∧m.kind≠2):yg a term m={m with src:=a.id,term:=term}:=by unfold yg;rw[if_neg V]
theorem zPo{a:StA}{term:Nat}{m:MsgD}(h:¬(m.kind≠1∧m.kind≠2)):yg a term m={m with src:=a.id}:=by unfold yg;rw[if_pos V]
theorem _root_.Go.Sc.qY{p:Prop}(h:p:=by simp[Value.cells,MsgD.cells,ConfD.cells]):p:=h
theorem jI{S:List Nat}(cb jb:Nat)(t:TimD)(a:StA)(r:RolD)(b:StB)(lead yv:Value)(qe:Nat)(ob:Nat)(o:OutD)(v:Value)(ms:List MsgD)(w:World)(ho:o.qk.length+ms.length≤1000000)(hin:Own w S [z7 cb t lead a r b yv jb qe (pt ob),Res.ou ob o,vM v ms,sM ms] w):Rets Tryz.prog 85 #[pt cb,v] w fun u_ w'=>∃ (mv':Value),u_= .tuple #[]∧Own w S [z7 cb t lead a r b yv jb qe (pt ob),Res.ou ob ({o with mv:=mv',qk:=o.qk++ms.map (yg a t.term)}:OutD)] w':=by
  have hc1:=MsgD.c1all (MsgD.rd.star0 3 rfl hin)
  refine zW Tryz.func85 O Tryz.ntmps85 hin ?_
  refine zC (zD O (zp (pV 2 O) O O (zD O (zA (zZ ?_)))))
  refine y7 (fun(k:Nat) (mv':Value)=>[(0,pt cb),(6,v),(7,Vj ms.length),(8,Vj k)]) (fun(k:Nat) (mv':Value)=>k≤ms.length) (fun(k:Nat) (mv':Value)=>[z7 cb t lead a r b yv jb qe (pt ob),Res.ou ob ({o with mv:=mv',qk:=o.qk++(ms.take k).map (yg a t.term)}:OutD),vM v ms,sM (ms.drop k)]) (fun(k:Nat) (mv':Value)=>ms.length - k) (fun w' hw=>⟨0,o.mv,⟨O,O,O,O,trivial⟩,Nat.zero_le _,(by rw[List.take_zero,List.map_nil,List.append_nil,List.drop_zero];exact hw)⟩) (fun k mv' g hΦ=> ?_)
  refine zC (yI O O O (zA (zP (za O (fun c1=> ?_) (fun c1=> ?_)))))
  ·refine zQ (zP (zZ (zC (zk (pV 2 O) 14 k O O O V O (kP (pV 2 O) 14 k (off:=xH v+k*14) (fun _=>O) O O V O (yC (v:= .agg #[Vi 0,Vi 0,Vi 0,Vn 0,Vn 0,Vn 0,Vn 0,Vn 0, .bool false, .slice none 0 0, .slice none 0 0, .slice none 0 0,Vi 0, .slice none 0 0]) qN O (fun b5=>zo 4 O O O (zF O (zF O (zF O (zF O (zF O (zF O (zF O (zF O (zF O (zF (hc1 _ (zd V) _ (List.mem_of_getElem? (i:=9) O)) (zF (hc1 _ (zd V) _ (List.mem_of_getElem? (i:=10) O)) (zF (hc1 _ (zd V) _ (List.mem_of_getElem? (i:=11) O)) (zF O (zF (hc1 _ (zd V) _ (List.mem_of_getElem? (i:=13) O)) zh)))))))))))))) O (zA (zC (zD O (zb O O (zK (o:=10) O O ?_))))))))))))
   refine zM 0 (v:=Vi a.id) O O O O (zK (o:=1) O O (zn (cs:=(MsgD.cells (zG ms k))) 4 O O O O O (zA (zP (zC (zK (o:=0) O O (zM 4 (v:=Vi ((zG ms k).kind)) O O O O (xn O O O (zD O (yJ (q:=((zG ms k).kind)≠1) 3 3 [23,22,21] (((zG ms k).kind)≠2) O O O O O O trivial O (fun h4_3=> ?_) (fun g4_7=> ?_)))))))))))
   ·refine zR O (gT h4_3) (zK (o:=0) O O (zR O (gT h4_3) (zM 4 (v:=Vi ((zG ms k).kind)) O O O O (zR O (gT h4_3) (xn O O O ?_)))))
    exact yN O (fun _ hw=>hw)
   refine zA (za O (fun c2=> ?_) (fun c2=> ?_))
   ·have hst:=zDz (a:=a) (term:=t.term) c2
    refine zV (zD O (zb O O (zK (o:=0) O O (zK (o:=0) O O (zM 0 (v:=Vn t.term) O O O O (zK (o:=3) O O (zn 4 O O O O O (zA (ze [0,2,4] O qM qN (fun w' hw hS=>zB 0 O zS hS (zB 1 O (zO O) hS (zB 2 O (zH (o:=33) O) hS ?_))))))))))))
    refine zB 3 O (zY 0 (v:=pt ob) O O O) hS (zB 4 O zS hS (zB 5 O (zO O) hS (zB 6 O (zH (o:=33) O) hS (zB 7 O (zY 0 (v:=pt ob) O O O) hS (zB 8 O (zO O) hS (zB 9 O (zH (o:=0) O) hS (zB 11 O (x1 2 O O) hS (zq 10 12 ?_ ?_))))))))
    ·refine zl 10 O hw (z6 (v:=mv') 1 0 0 O O O O qN O (zE [0,2,4] O qM (fun w' hw hS=>zJ 12 O hw (zx (e:=59) (sz:=14) (vs:=[.agg #[Vi ((zG ms k).kind),Vi a.id,Vi ((zG ms k).dst),Vn t.term,Vn ((zG ms k).index),Vn ((zG ms k).ql),Vn ((zG ms k).qc),Vn ((zG ms k).round), .bool ((zG ms k).flag),(zG ms k).ev,((zG ms k).conf).vv,((zG ms k).conf).lv,Vi ((zG ms k).off),(zG ms k).dv]]) qN O O qY qM O (fun b43=>zE [0,2,4] O qM (fun w' hw hS=>zJ 13 O hw ?_))))))
     refine z4 [z7 cb t lead a r b yv jb qe (pt ob),vM v ms,sM (ms.drop k),Res.row b5 59 [Vi ((zG ms k).kind),Vi a.id,Vi ((zG ms k).dst),Vn t.term,Vn ((zG ms k).index),Vn ((zG ms k).ql),Vn ((zG ms k).qc),Vn ((zG ms k).round), .bool ((zG ms k).flag),(zG ms k).ev,((zG ms k).conf).vv,((zG ms k).conf).lv,Vi ((zG ms k).off),(zG ms k).dv],vM (.slice (some ⟨b43,0,none⟩) 1 1) [({(zG ms k)with src:=a.id,term:=t.term}:MsgD)],zAt ob ({o with mv:=mv',qk:=o.qk++(ms.take k).map (yg a t.term)}:OutD),vM mv' (o.qk++(ms.take k).map (yg a t.term)),sM (o.qk++(ms.take k).map (yg a t.term)),vR o.rv o.qw,vU o.xv o.qt] (fun w' hw=>hw.qn 1 O) ?_
     refine zy (g:=MsgD.cells) (sz:=14) (by':=176) (fun _=>O) (l:=o.qk++(ms.take k).map (yg a t.term)) (l':=[({(zG ms k)with src:=a.id,term:=t.term}:MsgD)]) (all_cons ((zF O (zF O (zF O (zF O (zF O (zF O (zF O (zF O (zF O (zF (hc1 _ (zd V) _ (List.mem_of_getElem? (i:=9) O)) (zF (hc1 _ (zd V) _ (List.mem_of_getElem? (i:=10) O)) (zF (hc1 _ (zd V) _ (List.mem_of_getElem? (i:=11) O)) (zF O (zF (hc1 _ (zd V) _ (List.mem_of_getElem? (i:=13) O)) zh))))))))))))))) qQ) 6 qN O O O (fun w' hw'=>Vec.sl (Own.holds hw' 4 _ O)) qO qM O (fun v44=>zE [0,1,3] O qM (fun w' hw hS=>zB 14 O (zO O) hS (zB 15 O (zH (o:=0) O) hS (zJ 16 O hw ?_))))
     refine zN (fun w' hw=>Own.qg (i:=6) O hw) (fun hc1_=> ?_)
     refine zn 5 O O O hc1_ O (zE [0,1,3] O qM (fun w' hw hS=>zT ?_))
     refine Oc10 ?_ hw
     refine zV (zt O O (zr V) O (zD O ?_))
     exact zg (fun w' hw=>⟨k+1,v44,⟨O,O,O,O,trivial⟩,V,(by rw[zu V,List.map_append,←List.append_assoc o.qk,List.map_cons,List.map_nil,hst];exact((hw.msgOn (m:=({(zG ms k)with src:=a.id,term:=t.term}:MsgD)) 7 2 qM V rfl rfl rfl).qo [4,5,8,6,7] rfl qM).sel [0,5,1,4] rfl qM),V⟩)
    refine zl 12 O hw (zx (e:=59) (sz:=14) (vs:=[.agg #[Vi ((zG ms k).kind),Vi a.id,Vi ((zG ms k).dst),Vn t.term,Vn ((zG ms k).index),Vn ((zG ms k).ql),Vn ((zG ms k).qc),Vn ((zG ms k).round), .bool ((zG ms k).flag),(zG ms k).ev,((zG ms k).conf).vv,((zG ms k).conf).lv,Vi ((zG ms k).off),(zG ms k).dv]]) qN O O qY qM O (fun b43=>zE [0,2,4] O qM (fun w' hw hS=>zJ 10 O hw (z6 (v:=mv') 1 0 0 O O O O qN O (zE [0,2,4] O qM (fun w' hw hS=>zJ 13 O hw ?_))))))
    refine z4 [z7 cb t lead a r b yv jb qe (pt ob),vM v ms,sM (ms.drop k),Res.row b5 59 [Vi ((zG ms k).kind),Vi a.id,Vi ((zG ms k).dst),Vn t.term,Vn ((zG ms k).index),Vn ((zG ms k).ql),Vn ((zG ms k).qc),Vn ((zG ms k).round), .bool ((zG ms k).flag),(zG ms k).ev,((zG ms k).conf).vv,((zG ms k).conf).lv,Vi ((zG ms k).off),(zG ms k).dv],vM (.slice (some ⟨b43,0,none⟩) 1 1) [({(zG ms k)with src:=a.id,term:=t.term}:MsgD)],zAt ob ({o with mv:=mv',qk:=o.qk++(ms.take k).map (yg a t.term)}:OutD),vM mv' (o.qk++(ms.take k).map (yg a t.term)),sM (o.qk++(ms.take k).map (yg a t.term)),vR o.rv o.qw,vU o.xv o.qt] (fun w' hw=>hw.qn 1 O) ?_
    refine zy (g:=MsgD.cells) (sz:=14) (by':=176) (fun _=>O) (l:=o.qk++(ms.take k).map (yg a t.term)) (l':=[({(zG ms k)with src:=a.id,term:=t.term}:MsgD)]) (all_cons ((zF O (zF O (zF O (zF O (zF O (zF O (zF O (zF O (zF O (zF (hc1 _ (zd V) _ (List.mem_of_getElem? (i:=9) O)) (zF (hc1 _ (zd V) _ (List.mem_of_getElem? (i:=10) O)) (zF (hc1 _ (zd V) _ (List.mem_of_getElem? (i:=11) O)) (zF O (zF (hc1 _ (zd V) _ (List.mem_of_getElem? (i:=13) O)) zh))))))))))))))) qQ) 6 qN O O O (fun w' hw'=>Vec.sl (Own.holds hw' 4 _ O)) qO qM O (fun v44=>zE [0,1,3] O qM (fun w' hw hS=>zB 14 O (zO O) hS (zB 15 O (zH (o:=0) O) hS (zJ 16 O hw ?_))))
    refine zN (fun w' hw=>Own.qg (i:=6) O hw) (fun hc2_=> ?_)
    refine zn 5 O O O hc2_ O (zE [0,1,3] O qM (fun w' hw hS=>zT ?_))
    refine Oc10 ?_ hw
    refine zV (zt O O (zr V) O (zD O ?_))
    exact zg (fun w' hw=>⟨k+1,v44,⟨O,O,O,O,trivial⟩,V,(by rw[zu V,List.map_append,←List.append_assoc o.qk,List.map_cons,List.map_nil,hst];exact((hw.msgOn (m:=({(zG ms k)with src:=a.id,term:=t.term}:MsgD)) 7 2 qM V rfl rfl rfl).qo [4,5,8,6,7] rfl qM).sel [0,5,1,4] rfl qM),V⟩)
   have hst:=zPo (a:=a) (term:=t.term) c2
   refine zQ (ze [0,2,4] O qM qN (fun w' hw hS=>zB 0 O zS hS (zB 1 O (zO O) hS (zB 2 O (zH (o:=33) O) hS (zB 3 O (zY 0 (v:=pt ob) O O O) hS (zB 4 O zS hS (zB 5 O (zO O) hS (zB 6 O (zH (o:=33) O) hS (zB 7 O (zY 0 (v:=pt ob) O O O) hS (zB 8 O (zO O) hS (zB 9 O (zH (o:=0) O) hS (zB 11 O (x1 2 O O) hS ?_))))))))))))
   refine zq 10 12 ?_ ?_
   ·refine zl 10 O hw (z6 (v:=mv') 1 0 0 O O O O qN O (zE [0,2,4] O qM (fun w' hw hS=>zJ 12 O hw (zx (e:=59) (sz:=14) (vs:=[.agg #[Vi ((zG ms k).kind),Vi a.id,Vi ((zG ms k).dst),Vn ((zG ms k).term),Vn ((zG ms k).index),Vn ((zG ms k).ql),Vn ((zG ms k).qc),Vn ((zG ms k).round), .bool ((zG ms k).flag),(zG ms k).ev,((zG ms k).conf).vv,((zG ms k).conf).lv,Vi ((zG ms k).off),(zG ms k).dv]]) qN O O qY qM O (fun b43=>zE [0,2,4] O qM (fun w' hw hS=>zJ 13 O hw ?_))))))
    refine z4 [z7 cb t lead a r b yv jb qe (pt ob),vM v ms,sM (ms.drop k),Res.row b5 59 [Vi ((zG ms k).kind),Vi a.id,Vi ((zG ms k).dst),Vn ((zG ms k).term),Vn ((zG ms k).index),Vn ((zG ms k).ql),Vn ((zG ms k).qc),Vn ((zG ms k).round), .bool ((zG ms k).flag),(zG ms k).ev,((zG ms k).conf).vv,((zG ms k).conf).lv,Vi ((zG ms k).off),(zG ms k).dv],vM (.slice (some ⟨b43,0,none⟩) 1 1) [({(zG ms k)with src:=a.id}:MsgD)],zAt ob ({o with mv:=mv',qk:=o.qk++(ms.take k).map (yg a t.term)}:OutD),vM mv' (o.qk++(ms.take k).map (yg a t.term)),sM (o.qk++(ms.take k).map (yg a t.term)),vR o.rv o.qw,vU o.xv o.qt] (fun w' hw=>hw.qn 1 O) ?_
    refine zy (g:=MsgD.cells) (sz:=14) (by':=176) (fun _=>O) (l:=o.qk++(ms.take k).map (yg a t.term)) (l':=[({(zG ms k)with src:=a.id}:MsgD)]) (all_cons ((zF O (zF O (zF O (zF O (zF O (zF O (zF O (zF O (zF O (zF (hc1 _ (zd V) _ (List.mem_of_getElem? (i:=9) O)) (zF (hc1 _ (zd V) _ (List.mem_of_getElem? (i:=10) O)) (zF (hc1 _ (zd V) _ (List.mem_of_getElem? (i:=11) O)) (zF O (zF (hc1 _ (zd V) _ (List.mem_of_getElem? (i:=13) O)) zh))))))))))))))) qQ) 6 qN O O O (fun w' hw'=>Vec.sl (Own.holds hw' 4 _ O)) qO qM O (fun v44=>zE [0,1,3] O qM (fun w' hw hS=>zB 14 O (zO O) hS (zB 15 O (zH (o:=0) O) hS (zJ 16 O hw ?_))))
    refine zN (fun w' hw=>Own.qg (i:=6) O hw) (fun hc3_=> ?_)
    refine zn 5 O O O hc3_ O (zE [0,1,3] O qM (fun w' hw hS=>zT ?_))
    refine Oc10 ?_ hw
    refine zV (zt O O (zr V) O (zD O ?_))
    exact zg (fun w' hw=>⟨k+1,v44,⟨O,O,O,O,trivial⟩,V,(by rw[zu V,List.map_append,←List.append_assoc o.qk,List.map_cons,List.map_nil,hst];exact((hw.msgOn (m:=({(zG ms k)with src:=a.id}:MsgD)) 7 2 qM V rfl rfl rfl).qo [4,5,8,6,7] rfl qM).sel [0,5,1,4] rfl qM),V⟩)
   refine zl 12 O hw (zx (e:=59) (sz:=14) (vs:=[.agg #[Vi ((zG ms k).kind),Vi a.id,Vi ((zG ms k).dst),Vn ((zG ms k).term),Vn ((zG ms k).index),Vn ((zG ms k).ql),Vn ((zG ms k).qc),Vn ((zG ms k).round), .bool ((zG ms k).flag),(zG ms k).ev,((zG ms k).conf).vv,((zG ms k).conf).lv,Vi ((zG ms k).off),(zG ms k).dv]]) qN O O qY qM O (fun b43=>zE [0,2,4] O qM (fun w' hw hS=>zJ 10 O hw (z6 (v:=mv') 1 0 0 O O O O qN O (zE [0,2,4] O qM (fun w' hw hS=>zJ 13 O hw ?_))))))
   refine z4 [z7 cb t lead a r b yv jb qe (pt ob),vM v ms,sM (ms.drop k),Res.row b5 59 [Vi ((zG ms k).kind),Vi a.id,Vi ((zG ms k).dst),Vn ((zG ms k).term),Vn ((zG ms k).index),Vn ((zG ms k).ql),Vn ((zG ms k).qc),Vn ((zG ms k).round), .bool ((zG ms k).flag),(zG ms k).ev,((zG ms k).conf).vv,((zG ms k).conf).lv,Vi ((zG ms k).off),(zG ms k).dv],vM (.slice (some ⟨b43,0,none⟩) 1 1) [({(zG ms k)with src:=a.id}:MsgD)],zAt ob ({o with mv:=mv',qk:=o.qk++(ms.take k).map (yg a t.term)}:OutD),vM mv' (o.qk++(ms.take k).map (yg a t.term)),sM (o.qk++(ms.take k).map (yg a t.term)),vR o.rv o.qw,vU o.xv o.qt] (fun w' hw=>hw.qn 1 O) ?_
   refine zy (g:=MsgD.cells) (sz:=14) (by':=176) (fun _=>O) (l:=o.qk++(ms.take k).map (yg a t.term)) (l':=[({(zG ms k)with src:=a.id}:MsgD)]) (all_cons ((zF O (zF O (zF O (zF O (zF O (zF O (zF O (zF O (zF O (zF (hc1 _ (zd V) _ (List.mem_of_getElem? (i:=9) O)) (zF (hc1 _ (zd V) _ (List.mem_of_getElem? (i:=10) O)) (zF (hc1 _ (zd V) _ (List.mem_of_getElem? (i:=11) O)) (zF O (zF (hc1 _ (zd V) _ (List.mem_of_getElem? (i:=13) O)) zh))))))))))))))) qQ) 6 qN O O O (fun w' hw'=>Vec.sl (Own.holds hw' 4 _ O)) qO qM O (fun v44=>zE [0,1,3] O qM (fun w' hw hS=>zB 14 O (zO O) hS (zB 15 O (zH (o:=0) O) hS (zJ 16 O hw ?_))))
   refine zN (fun w' hw=>Own.qg (i:=6) O hw) (fun hc4_=> ?_)
   refine zn 5 O O O hc4_ O (zE [0,1,3] O qM (fun w' hw hS=>zT ?_))
   refine Oc10 ?_ hw
   refine zV (zt O O (zr V) O (zD O ?_))
   exact zg (fun w' hw=>⟨k+1,v44,⟨O,O,O,O,trivial⟩,V,(by rw[zu V,List.map_append,←List.append_assoc o.qk,List.map_cons,List.map_nil,hst];exact((hw.msgOn (m:=({(zG ms k)with src:=a.id}:MsgD)) 7 2 qM V rfl rfl rfl).qo [4,5,8,6,7] rfl qM).sel [0,5,1,4] rfl qM),V⟩)
  exact kw O (yQ O (fun w' hw=>⟨mv',O,(by rw[List.take_of_length_le V]at hw;exact hw.sel [0,1] rfl qM)⟩))
def xE(a:StA)(term:Nat)(vs:List Int)(kind:Int)(tm:Nat)(flag:Bool)(idx lt:Nat):List MsgD:=(vs.filter (· ≠a.id)).map fun id=>yg a term (yw kind 0 id tm idx lt 0 0 flag (.slice none 0 0) [])
theorem zGI{a:StA}{term:Nat}{vs:List Int}{kind:Int}{tm:Nat}{flag:Bool}{idx lt:Nat}:(xE a term vs kind tm flag idx lt).length≤vs.length:=by unfold xE;rw[List.length_map];exact List.length_filter_le _ _
theorem zI7{a:StA}{term:Nat}{vs:List Int}{kind:Int}{tm:Nat}{flag:Bool}{idx lt:Nat}{x:Int}(h:x≠a.id):xE a term (vs++[x]) kind tm flag idx lt=xE a term vs kind tm flag idx lt++[yg a term (yw kind 0 x tm idx lt 0 0 flag (.slice none 0 0) [])]:=by
  unfold xE;rw[List.filter_append,List.map_append];simp[h]
theorem zJY{a:StA}{term:Nat}{vs:List Int}{kind:Int}{tm:Nat}{flag:Bool}{idx lt:Nat}{x:Int}(h:¬ x≠a.id):xE a term (vs++[x]) kind tm flag idx lt=xE a term vs kind tm flag idx lt:=by
  unfold xE;rw[List.filter_append,List.map_append];simp at h;simp[h]
theorem zF1{S:List Nat}(cb jb:Nat)(t:TimD)(a:StA)(r:RolD)(b:StB)(lead yv:Value)(qe:Nat)(lv:Value)(es:List EntD)(ob:Nat)(o:OutD)(kind:Int)(tm:Nat)(flag:Bool)(w:World)(hg:(LG 0 0 es).good)(hl:es.length≤1000000)(hvl:b.vs.length≤1000)(ho:o.qk.length≤100000)(hin:Own w S [z7 cb t lead a r b yv jb qe (pt ob),Res.nl b lv es,Res.ou ob o] w):Rets Tryz.prog 75 #[pt cb, .agg #[Vi kind,Vi 0,Vi 0,Vn tm,Vn 0,Vn 0,Vn 0,Vn 0, .bool flag, .slice none 0 0, .slice none 0 0, .slice none 0 0,Vi 0, .slice none 0 0]] w fun u_ w'=>∃ (mv':Value),u_= .tuple #[]∧Own w S [z7 cb t lead a r b yv jb qe (pt ob),Res.nl b lv es,Res.ou ob ({o with mv:=mv',qk:=o.qk++xE a t.term (zc b.vs (es.map EntD.toEntA)).vs kind tm flag es.length (LG 0 0 es).end_}:OutD)] w':=by
  have hb:=(LG.le hg).1
  refine zW Tryz.func75 O Tryz.ntmps75 hin ?_
  refine zC (z8 O O (fun b3=>zA (zC (zD O (zb O O (zK (o:=29) O O (zM 0 (v:=pt b.lb) O O O O (a_call O O (fun w' hw=>(kV b.lb 0 0 lv es w' qP qO (hw.qF 1 0 O O) (hw.qH 1 1 O O) (EntD.rd.qF 1 2 O O hw)).mono ?_)))))))))
  rintro _ w1 ⟨rfl,hO⟩
  refine O4 ?_ (hw.qi hO)
  refine zD O (yA (vs:=[Vn (0+es.length),Vn ((LG 0 0 es).end_)]) O O O (yA (vs:=[Vn (0+es.length),Vn ((LG 0 0 es).end_)]) O O O (zK (o:=4) O O (zn 3 O O O O O (zK (o:=5) O O (zn 3 O O O O O (zA (zC (zD O (a_call O O (fun w' hw=>(xq cb jb t a r b lead yv (pt ob) qe _ _ w' ‹_› V V (hw.give [0,1] O qM)).mono ?_)))))))))))
  rintro _ w1 ⟨cv1_,cw2_,F3_,rfl,hf2_1,hO⟩
  have hFl:F3_.vs.length≤1000∧F3_.ls.length≤1000:=by rw[hf2_1];exact yi hvl
  refine O6 ?_ (hw.qh [0,1] O hO)
  refine zHN (o:=0) (v:=cv1_) O qN O O (zp (pV 4 O) O O (zD O (zA (zZ ?_))))
  refine x3 (fun(k:Nat) (mv':Value) (d:Int)=>[(0,pt cb),(3,pt b3),(18,cv1_),(19,Vj F3_.vs.length),(20,Vj k)]) (fun(k:Nat) (mv':Value) (d:Int)=>k≤F3_.vs.length) (fun(k:Nat) (mv':Value) (d:Int)=>[Res.ou ob ({o with mv:=mv',qk:=o.qk++xE a t.term (F3_.vs.take k) kind tm flag (0+es.length) (LG 0 0 es).end_}:OutD),Res.row b3 59 [Vi kind,Vi 0,Vi d,Vn tm,Vn (0+es.length),Vn ((LG 0 0 es).end_),Vn 0,Vn 0, .bool flag, .slice none 0 0, .slice none 0 0, .slice none 0 0,Vi 0, .slice none 0 0],z7 cb t lead a r b yv jb qe (pt ob),Res.nl b lv es,vI cv1_ F3_.vs,vI cw2_ F3_.ls]) (fun(k:Nat) (mv':Value) (d:Int)=>F3_.vs.length - k) (fun w' hw=>⟨0,o.mv,0,⟨O,O,O,O,O,trivial⟩,Nat.zero_le _,(by rw[List.take_zero,show xE a t.term [] kind tm flag (0+es.length) (LG 0 0 es).end_=[]from rfl,List.append_nil];exact hw)⟩) (fun k mv' d g hΦ=> ?_)
  have hol:(o.qk++xE a t.term (F3_.vs.take k) kind tm flag (0+es.length) (LG 0 0 es).end_).length≤o.qk.length+1000:=by rw[List.length_append];have h:=zGI (a:=a) (term:=t.term) (vs:=F3_.vs.take k) (kind:=kind) (tm:=tm) (flag:=flag) (idx:=0+es.length) (lt:=(LG 0 0 es).end_);rw[List.length_take]at h;omega
  refine zC (yI O O O (zA (zP (za O (fun c1=> ?_) (fun c1=> ?_)))))
  ·refine zQ (zP (zZ (zC (zk (pV 4 O) 1 k O O O V O (yH (pV 4 O) 1 k 0 (fun _=>O) O O V O O (zI O (zA (zC (zD O (zD O (zb O O (zK (o:=10) O O ?_))))))))))))
   refine zM 2 (v:=Vi a.id) O O O O (xn O O O (zA (za O (fun c2=> ?_) (fun c2=> ?_))))
   ·refine zC (zD O (zK (o:=2) O O (zn 1 O O O O O (zA (zV (zD O (yL 1 O O O (zx (e:=59) (sz:=14) (vs:=[.agg #[Vi kind,Vi 0,Vi (zG F3_.vs k),Vn tm,Vn (0+es.length),Vn ((LG 0 0 es).end_),Vn 0,Vn 0, .bool flag, .slice none 0 0, .slice none 0 0, .slice none 0 0,Vi 0, .slice none 0 0]]) qN O O qY qM O (fun b34=> ?_)))))))))
    refine z4 [Res.ou ob ({o with mv:=mv',qk:=o.qk++xE a t.term (F3_.vs.take k) kind tm flag (0+es.length) (LG 0 0 es).end_}:OutD),Res.row b3 59 [Vi kind,Vi 0,Vi (zG F3_.vs k),Vn tm,Vn (0+es.length),Vn ((LG 0 0 es).end_),Vn 0,Vn 0, .bool flag, .slice none 0 0, .slice none 0 0, .slice none 0 0,Vi 0, .slice none 0 0],z7 cb t lead a r b yv jb qe (pt ob),Res.nl b lv es,vI cv1_ F3_.vs,vI cw2_ F3_.ls,vM (.slice (some ⟨b34,0,none⟩) 1 1) [(yw kind 0 (zG F3_.vs k) tm (0+es.length) ((LG 0 0 es).end_) 0 0 flag (.slice none 0 0) [])],sM [(yw kind 0 (zG F3_.vs k) tm (0+es.length) ((LG 0 0 es).end_) 0 0 flag (.slice none 0 0) [])]] (fun w' hw=>hw.msg0 ⟨O,O,O⟩ O O) ?_
    refine a_call O O (fun w' hw=>(jI cb jb t a r b lead yv qe ob ({o with mv:=mv',qk:=o.qk++xE a t.term (F3_.vs.take k) kind tm flag (0+es.length) (LG 0 0 es).end_}:OutD) (.slice (some ⟨b34,0,none⟩) 1 1) [(yw kind 0 (zG F3_.vs k) tm (0+es.length) ((LG 0 0 es).end_) 0 0 flag (.slice none 0 0) [])] w' (by have h:=hol;simp only[List.length_cons,List.length_nil];omega) (hw.give [2,0,6,7] O qM)).mono ?_)
    rintro _ w1 ⟨mv'4_,rfl,hO⟩
    refine O6 ?_ (hw.qh [2,0,6,7] O hO)
    refine zA (zV (zt O O (zr V) O (zD O ?_)))
    exact zg (fun w' hw=>⟨k+1,mv'4_,zG F3_.vs k,⟨O,O,O,O,O,trivial⟩,V,(by rw[zu V,zI7 c2,←List.append_assoc o.qk];exact hw.sel [5,0,4,1,2,3] rfl qM),V⟩)
   refine zQ (zV (zt O O (zr V) O (zD O ?_)))
   exact zg (fun w' hw=>⟨k+1,mv',d,⟨O,O,O,O,O,trivial⟩,V,(by rw[zu V,zJY c2];exact hw),V⟩)
  exact kw O (yQ O (fun w' hw=>⟨mv',O,(by rw[List.take_of_length_le V,hf2_1,Nat.zero_add es.length]at hw;exact hw.sel [2,3,0] rfl qM)⟩))
theorem zQS(pb:Nat)(p:PeerM)(w:World)(hp:Rd w [] (kF pb p)):Rets Tryz.prog 78 #[pt pb] w fun u_ w'=>u_=Vn p.qy∧Own w [] [] w':=by
  refine zW Tryz.func78 O Tryz.ntmps78 (Own.start w) ?_
  refine zC (zI O (zA (zC (zD O (zb O O (zK (o:=2) O O (kQ (v:=Vn p.qy) O (hp.φ.cell O) (hp.far _ (List.mem_singleton.2 O)) qN O (zI O (zA ?_)))))))))
  exact zU (z9 (v:=Vn p.qy) O O (fun w' hw=>⟨O,hw.drop⟩))
theorem zQM(pb:Nat)(p:PeerM)(w:World)(hp:Rd w [] (kF pb p)):Rets Tryz.prog 199 #[pt pb] w fun u_ w'=>u_=Vn p.round∧Own w [] [] w':=by
  refine zW Tryz.func199 O Tryz.ntmps199 (Own.start w) ?_
  refine zC (zI O (zA (zC (zD O (zb O O (zK (o:=3) O O (kQ (v:=Vn p.round) O (hp.φ.cell O) (hp.far _ (List.mem_singleton.2 O)) qN O (zI O (zA ?_)))))))))
  exact zU (z9 (v:=Vn p.round) O O (fun w' hw=>⟨O,hw.drop⟩))
def xp(id:Int)(ps:List PeerP)(self:Nat)(of:PeerM→Nat)(v:Int):Nat:=if v=id then self else match ya ps v with
  |some k=>of (zG ps k).2
  |none=>0
theorem zAO{id:Int}{ps:List PeerP}{self:Nat}{of:PeerM→Nat}{v:Int}(h:v=id):xp id ps self of v=self:=if_pos h
theorem jV{id:Int}{ps:List PeerP}{self:Nat}{of:PeerM→Nat}{v:Int}{k:Nat}(h:¬ v=id)(hk:ya ps v=some k):xp id ps self of v=of (zG ps k).2:=by unfold xp;rw[if_neg h,hk]
theorem jU{id:Int}{ps:List PeerP}{self:Nat}{of:PeerM→Nat}{v:Int}(h:¬ v=id)(hk:ya ps v=none):xp id ps self of v=0:=by unfold xp;rw[if_neg h,hk]
def zw(id:Int)(vs:List Int)(ps:List PeerP)(self:Nat)(of:PeerM→Nat):List Nat:=vs.map (xp id ps self of)
theorem x5{id:Int}{vs:List Int}{ps:List PeerP}{self:Nat}{of:PeerM→Nat}{x:Int}:zw id (vs++[x]) ps self of=zw id vs ps self of++[xp id ps self of x]:=by unfold zw;rw[List.map_append];rfl
theorem zJP{S:List Nat}(cb jb:Nat)(t:TimD)(a:StA)(r:RolD)(b:StB)(yv out:Value)(qe:Nat)(lv:Value)(es:List EntD)(ld:Nat)(l:LdD)(self:Nat)(w:World)(hg:(LG 0 0 es).good)(hl:es.length≤1000000)(hvl:b.vs.length≤1000)(hpl:l.qa.length≤1000000)(hin:Own w S [z7 cb t (pt ld) a r b yv jb qe out,Res.nl b lv es,Res.ld ld l] w):Rets Tryz.prog 77 #[pt cb,Vn self, .func (.func 78) #[] #[]] w fun u_ w'=>∃ (pv:Value),u_=pv∧Own w S [z7 cb t (pt ld) a r b yv jb qe out,Res.nl b lv es,Res.ld ld l,vU pv (zw a.id (zc b.vs (es.map EntD.toEntA)).vs l.qa self PeerM.qy)] w':=by
  refine zW Tryz.func77 O Tryz.ntmps77 hin ?_
  refine zC (zI O (zA (zC (zI O (zA (zP (zC (zD O (a_call O O (fun w' hw=>(xq cb jb t a r b (pt ld) yv out qe _ _ w' ‹_› V V (hw.give [0,1] O qM)).mono ?_))))))))))
  rintro _ w1 ⟨cv1_,cw2_,F3_,rfl,hf2_1,hO⟩
  have hFl:F3_.vs.length≤1000∧F3_.ls.length≤1000:=by rw[hf2_1];exact yi hvl
  refine O5 ?_ (hw.qh [0,1] O hO)
  refine zHN (o:=0) (v:=cv1_) O qN O O (zp (pV 3 O) O O (zD O (zA (zZ ?_))))
  refine y7 (fun(k:Nat) (pv:Value)=>[(0,pt cb),(1,Vn self),(2, .func (.func 78) #[] #[]),(7,pv),(14,cv1_),(15,Vj F3_.vs.length),(16,Vj k)]) (fun(k:Nat) (pv:Value)=>k≤F3_.vs.length) (fun(k:Nat) (pv:Value)=>[Res.ld ld l,z7 cb t (pt ld) a r b yv jb qe out,Res.nl b lv es,vI cv1_ F3_.vs,vI cw2_ F3_.ls,vU pv (zw a.id (F3_.vs.take k) l.qa self PeerM.qy)]) (fun(k:Nat) (pv:Value)=>F3_.vs.length - k) (fun w' hw=>⟨0, .slice none 0 0,⟨O,O,O,O,O,O,O,trivial⟩,Nat.zero_le _,(zm hw 22 1)⟩) (fun k pv g hΦ=> ?_)
  have hpl0:(zw a.id (F3_.vs.take k) l.qa self PeerM.qy).length≤1000:=by unfold zw;rw[List.length_map,List.length_take];omega
  refine zC (yI O O O (zA (zP (za O (fun c1=> ?_) (fun c1=> ?_)))))
  ·refine zQ (zP (zZ (zC (zk (pV 3 O) 1 k O O O V O (yH (pV 3 O) 1 k 0 (fun _=>O) O O V O O (zI O (zA (zC (zI O (zA (zP (zC ?_))))))))))))
   refine zD O (zD O (zb O O (zK (o:=10) O O (zM 1 (v:=Vi a.id) O O O O (yR O O O (zA (za O (fun c2=> ?_) (fun c2=> ?_))))))))
   ·have hpm:=zAO (ps:=l.qa) (self:=self) (of:=PeerM.qy) c2
    refine zV (zD O (zI O (zA (zV (zD O (zD O (zx (e:=22) (sz:=1) (vs:=[Vn self]) qN O O qR qM O (fun b37=>zy (g:=U1) (sz:=1) (by':=8) (fun _=>O) (l:=(zw a.id (F3_.vs.take k) l.qa self PeerM.qy)) (l':=[self]) qZ 5 qN O O O (fun w' hw'=>Vec.sl (Own.holds hw' 6 _ O)) qO qM O (fun v38=>zI O (zA (zV (zt O O (zr V) O ?_))))))))))))
    refine zD O ?_
    exact zg (fun w' hw=>⟨k+1,v38,⟨O,O,O,O,O,O,O,trivial⟩,V,(by rw[zu V,x5,hpm];exact hw.sel [0,1,2,3,4,5] rfl qM),V⟩)
   refine zC (zD O (zD O (a_call O O (fun w' hw=>(zDj cb jb t a r b yv out qe ld _ (zG F3_.vs k) w' V (hw.give [1,0] O qM)).mono ?_))))
   rintro _ w1 ⟨pv4_,rfl,hf8_2,hO⟩
   refine O6 ?_ (hw.qh [1,0] O hO)
   refine zI O (zA (zC (zD O (zBU qN O O O (zA (zAu O (fun c3=> ?_) (fun c3=> ?_)))))))
   ·obtain⟨j,hj,rfl,hji,hix⟩:=PeerIs.some hf8_2 c3
    have hpm:=jV (self:=self) (of:=PeerM.qy) c2 hix
    refine zV (zD O (zD O (yV (fst:=[]) (cap:=[]) O qN O O (fun w' hw=>(zQS ((zG l.qa j).1) ((zG l.qa j).2) w' (hw.partStar0 5 2 j O O ‹_›)).mono ?_))))
    rintro _ w1 ⟨rfl,hO⟩
    refine O6 ?_ (hw.qi hO)
    refine zI O (zA (zV (zD O (zD O (zx (e:=22) (sz:=1) (vs:=[Vn (((zG l.qa j).2).qy)]) qN O O qR qM O (fun b37=>zy (g:=U1) (sz:=1) (by':=8) (fun _=>O) (l:=(zw a.id (F3_.vs.take k) l.qa self PeerM.qy)) (l':=[((zG l.qa j).2).qy]) qZ 3 qN O O O (fun w' hw'=>Vec.sl (Own.holds hw' 6 _ O)) qO qM O (fun v38=>zI O (zA (zV (zt O O (zr V) O (zD O ?_)))))))))))
    exact zg (fun w' hw=>⟨k+1,v38,⟨O,O,O,O,O,O,O,trivial⟩,V,(by rw[zu V,x5,hpm];exact hw.sel [5,4,0,1,2,3] rfl qM),V⟩)
   have hpm:=jU (self:=self) (of:=PeerM.qy) c2 (PeerIs.none hf8_2 c3)
   refine zQ (zV (zD O (zD O (zx (e:=22) (sz:=1) (vs:=[Vn 0]) qN O O qR qM O (fun b37=>zy (g:=U1) (sz:=1) (by':=8) (fun _=>O) (l:=(zw a.id (F3_.vs.take k) l.qa self PeerM.qy)) (l':=[0]) qZ 3 qN O O O (fun w' hw'=>Vec.sl (Own.holds hw' 6 _ O)) qO qM O (fun v38=>zI O (zA (zV (zt O O (zr V) O (zD O ?_))))))))))
   exact zg (fun w' hw=>⟨k+1,v38,⟨O,O,O,O,O,O,O,trivial⟩,V,(by rw[zu V,x5,hpm];exact hw.sel [5,4,0,1,2,3] rfl qM),V⟩)
  refine yF O (zC (zD O (zI O (zA ?_))))
  exact zU (z9 (v:=pv) O O (fun w' hw=>⟨pv,O,(by rw[List.take_of_length_le V,hf2_1]at hw;exact hw.sel [1,2,0,5] rfl qM)⟩))
theorem vi{a b:Int}(h:a=b):Value.int .i64 a=Value.int .i64 b:=by rw[h]
theorem wsi{a b:Nat}(h:b≤a)(h2:a<9223372036854775808):IntKind.i64.wrap ((a:Int) - (b:Int))=((a - b:Nat):Int):=by
  rw[show(a:Int) - (b:Int)=((a - b:Nat):Int)by omega];exact zr V
theorem zCN{a:Nat}(h:1≤a)(h2:a<9223372036854775808):IntKind.i64.wrap ((a:Int) - 1)=((a - 1:Nat):Int):=wsi (b:=1) h h2
theorem qui{a b:Nat}(h:a<9223372036854775808):IntKind.i64.wrap ((a:Int).tdiv (b:Int))=((a / b:Nat):Int):=by
  have:(a:Int).tdiv (b:Int)=((a / b:Nat):Int):=rfl
  rw[this]
  have h2:=Nat.div_le_self a b
  generalize a / b=c at h2 ⊢
  exact zr V
def zPM(a b:Int):Int:=IntKind.u64.wrap (((a%2 ^ IntKind.u64.bits).toNat ^^^ (b%2 ^ IntKind.u64.bits).toNat:Nat):Int)
def zQK(a b:Int):Int:=IntKind.u64.wrap (a*2 ^ (min b.toNat IntKind.u64.bits))
def zRG(a b:Int):Int:=a.fdiv (2 ^ (min b.toNat IntKind.u64.bits))
def xs1(x:Int):Int:=zPM x (zQK x 13)
def xs2(x:Int):Int:=zPM (xs1 x) (zRG (xs1 x) 7)
def xs3(x:Int):Int:=zPM (xs2 x) (zQK (xs2 x) 17)
theorem zND(n:Nat)(w:World)(hn:n<18446744073709551616):Rets Tryz.prog 188 #[.int .u64 (n:Nat)] w fun u_ w'=>u_= .int .i64 ((yD n):Nat)∧Own w [] [] w':=by
  exact zDl n hn w
theorem zKr(n:Nat)(w:World)(hn:n<18446744073709551616):Rets Tryz.prog 143 #[.int .u64 (n:Nat)] w fun u_ w'=>u_= .int .i64 ((yD n):Nat)∧Own w [] [] w':=by
  refine kC (args:=[.int .u64 (n:Nat)]) Tryz.func143 O Tryz.ntmps143 O (Own.start w) ?_
  refine zC ?_
  refine zI O ?_
  refine zA ?_
  refine zP ?_
  refine xx O ?_
  refine zQ ?_
  refine zC ?_
  refine zD O ?_
  refine zCQ qN O O (fun w' hw=> ?_)
  refine(zND n w' ‹_›).mono ?_
  rintro _ w1 ⟨rfl,hO⟩
  refine O0 ?_ (hw.qi hO)
  refine zI O ?_
  refine zA ?_
  exact zU (z9 (v:= .int .i64 ((yD n):Nat)) O O (fun w' hw=>⟨O,hw.drop⟩))
end Go.Proofs.YtkkeknmkipkbmaaGreat
