import Derived.Test.YtkkeknmkipkbmaaGreatCoD
import Derived.Test.YtkkeknmkipkbmaaGreatFwX
import Derived.Test.YtkkeknmkipkbmaaGreatFwU
import Derived.Test.YtkkeknmkipkbmaaGreatFwS
import Derived.Test.YtkkeknmkipkbmaaGreatChecked
set_option linter.unusedSectionVars false
set_option linter.unusedSimpArgs false
set_option linter.unusedVariables false
set_option maxRecDepth 10000
namespace Go.Proofs.YtkkeknmkipkbmaaGreat
open Go Go.Sc Go.Proofs
def yd(a:StA)(term:Nat)(m:MsgD):MsgD:={m with src:=a.id,term:=if m.kind=1∨m.kind=2 then m.term else term}
theorem zDp{a:StA}{term:Nat}{m:MsgD}(h:m.kind≠1∧m.kind≠2):yd a term m={m with src:=a.id,term:=term}:=by unfold yd;rw[if_neg V]
theorem zPJ{a:StA}{term:Nat}{m:MsgD}(h:¬(m.kind≠1∧m.kind≠2)):yd a term m={m with src:=a.id}:=by unfold yd;rw[if_pos V]
theorem _root_.Go.Sc.qY{p:Prop}(h:p:=by simp[Value.cells,MsgD.cells,ConfD.cells]):p:=h
theorem jG{S:List Nat}(cb jb:Nat)(t:TimD)(a:StA)(r:RolD)(b:StB)(lead yv:Value)(qd:Nat)(ob:Nat)(o:OutD)(v:Value)(ms:List MsgD)(w:World)(ho:o.qj.length+ms.length≤1000000)(hin:Own w S [z4 cb t lead a r b yv jb qd (pt ob),Res.ou ob o,vM v ms,sM ms] w):Rets Tryz.prog 85 #[pt cb,v] w fun u_ w'=>∃ (mv':Value),u_= .tuple #[]∧Own w S [z4 cb t lead a r b yv jb qd (pt ob),Res.ou ob ({o with mv:=mv',qj:=o.qj++ms.map (yd a t.term)}:OutD)] w':=by
  have hc1:=MsgD.c1all (MsgD.rd.star0 3 rfl hin)
  refine zW Tryz.func85 O Tryz.ntmps85 hin ?_
  refine zB (zD O (zo (pV 2 O) O O (zD O (zA (zX ?_)))))
  refine yw (fun(k:Nat) (mv':Value)=>[(0,pt cb),(6,v),(7,Vj ms.length),(8,Vj k)]) (fun(k:Nat) (mv':Value)=>k≤ms.length) (fun(k:Nat) (mv':Value)=>[z4 cb t lead a r b yv jb qd (pt ob),Res.ou ob ({o with mv:=mv',qj:=o.qj++(ms.take k).map (yd a t.term)}:OutD),vM v ms,sM (ms.drop k)]) (fun(k:Nat) (mv':Value)=>ms.length - k) (fun w' hw=>⟨0,o.mv,⟨O,O,O,O,trivial⟩,Nat.zero_le _,(by rw[List.take_zero,List.map_nil,List.append_nil,List.drop_zero];exact hw)⟩) (fun k mv' g hΦ=> ?_)
  refine zB (yG O O O (zA (zN (zY O (fun c1=> ?_) (fun c1=> ?_)))))
  ·refine zO (zN (zX (zB (zi (pV 2 O) 14 k O O O V O (kP (pV 2 O) 14 k (off:=xE v+k*14) (fun _=>O) O O V O (yE (v:= .agg #[Vi 0,Vi 0,Vi 0,Vn 0,Vn 0,Vn 0,Vn 0,Vn 0, .bool false, .slice none 0 0, .slice none 0 0, .slice none 0 0,Vi 0, .slice none 0 0]) qN O (fun b5=>zr 4 O O O (zF O (zF O (zF O (zF O (zF O (zF O (zF O (zF O (zF O (zF (hc1 _ (ze V) _ (List.mem_of_getElem? (i:=9) O)) (zF (hc1 _ (ze V) _ (List.mem_of_getElem? (i:=10) O)) (zF (hc1 _ (ze V) _ (List.mem_of_getElem? (i:=11) O)) (zF O (zF (hc1 _ (ze V) _ (List.mem_of_getElem? (i:=13) O)) zj)))))))))))))) O (zA (zB (zD O (za O O (zJ (o:=10) O O ?_))))))))))))
   refine zL 0 (v:=Vi a.id) O O O O (zJ (o:=1) O O (zn (cs:=(MsgD.cells (zG ms k))) 4 O O O O O (zA (zN (zB (zJ (o:=0) O O (zL 4 (v:=Vi ((zG ms k).kind)) O O O O (xn O O O (zD O (yK (q:=((zG ms k).kind)≠1) 3 3 [23,22,21] (((zG ms k).kind)≠2) O O O O O O trivial O (fun h4_3=> ?_) (fun g4_7=> ?_)))))))))))
   ·refine zR O (gT h4_3) (zJ (o:=0) O O (zR O (gT h4_3) (zL 4 (v:=Vi ((zG ms k).kind)) O O O O (zR O (gT h4_3) (xn O O O ?_)))))
    exact yP O (fun _ hw=>hw)
   refine zA (zY O (fun c2=> ?_) (fun c2=> ?_))
   ·have hst:=zDp (a:=a) (term:=t.term) c2
    refine zS (zD O (za O O (zJ (o:=0) O O (zJ (o:=0) O O (zL 0 (v:=Vn t.term) O O O O (zJ (o:=3) O O (zn 4 O O O O O (zA (zg [0,2,4] O qM qN (fun w' hw hS=>zC 0 O zT hS (zC 1 O (zQ O) hS (zC 2 O (zH (o:=33) O) hS ?_))))))))))))
    refine zC 3 O (zZ 0 (v:=pt ob) O O O) hS (zC 4 O zT hS (zC 5 O (zQ O) hS (zC 6 O (zH (o:=33) O) hS (zC 7 O (zZ 0 (v:=pt ob) O O O) hS (zC 8 O (zQ O) hS (zC 9 O (zH (o:=0) O) hS (zC 11 O (x8 2 O O) hS (zu 10 12 ?_ ?_))))))))
    ·refine zm 10 O hw (yC (v:=mv') 1 0 0 O O O O qN O (zE [0,2,4] O qM (fun w' hw hS=>zK 12 O hw (zy (e:=59) (sz:=14) (vs:=[.agg #[Vi ((zG ms k).kind),Vi a.id,Vi ((zG ms k).dst),Vn t.term,Vn ((zG ms k).index),Vn ((zG ms k).qm),Vn ((zG ms k).qc),Vn ((zG ms k).round), .bool ((zG ms k).flag),(zG ms k).ev,((zG ms k).conf).vv,((zG ms k).conf).lv,Vi ((zG ms k).off),(zG ms k).dv]]) qN O O qY qM O (fun b43=>zE [0,2,4] O qM (fun w' hw hS=>zK 13 O hw ?_))))))
     refine z2 [z4 cb t lead a r b yv jb qd (pt ob),vM v ms,sM (ms.drop k),Res.row b5 59 [Vi ((zG ms k).kind),Vi a.id,Vi ((zG ms k).dst),Vn t.term,Vn ((zG ms k).index),Vn ((zG ms k).qm),Vn ((zG ms k).qc),Vn ((zG ms k).round), .bool ((zG ms k).flag),(zG ms k).ev,((zG ms k).conf).vv,((zG ms k).conf).lv,Vi ((zG ms k).off),(zG ms k).dv],vM (.slice (some ⟨b43,0,none⟩) 1 1) [({(zG ms k)with src:=a.id,term:=t.term}:MsgD)],zBL ob ({o with mv:=mv',qj:=o.qj++(ms.take k).map (yd a t.term)}:OutD),vM mv' (o.qj++(ms.take k).map (yd a t.term)),sM (o.qj++(ms.take k).map (yd a t.term)),vR o.rv o.qx,vU o.xv o.qq] (fun w' hw=>hw.qn 1 O) ?_
     refine z7 (g:=MsgD.cells) (sz:=14) (by':=176) (fun _=>O) (l:=o.qj++(ms.take k).map (yd a t.term)) (l':=[({(zG ms k)with src:=a.id,term:=t.term}:MsgD)]) (all_cons ((zF O (zF O (zF O (zF O (zF O (zF O (zF O (zF O (zF O (zF (hc1 _ (ze V) _ (List.mem_of_getElem? (i:=9) O)) (zF (hc1 _ (ze V) _ (List.mem_of_getElem? (i:=10) O)) (zF (hc1 _ (ze V) _ (List.mem_of_getElem? (i:=11) O)) (zF O (zF (hc1 _ (ze V) _ (List.mem_of_getElem? (i:=13) O)) zj))))))))))))))) qQ) 6 qN O O O (fun w' hw'=>Vec.sl (Own.holds hw' 4 _ O)) qO qM O (fun v44=>zE [0,1,3] O qM (fun w' hw hS=>zC 14 O (zQ O) hS (zC 15 O (zH (o:=0) O) hS (zK 16 O hw ?_))))
     refine zP (fun w' hw=>Own.qh (i:=6) O hw) (fun hc1_=> ?_)
     refine zn 5 O O O hc1_ O (zE [0,1,3] O qM (fun w' hw hS=>zU ?_))
     refine Oc10 ?_ hw
     refine zS (zp O O (zq V) O (zD O ?_))
     exact zd (fun w' hw=>⟨k+1,v44,⟨O,O,O,O,trivial⟩,V,(by rw[zt V,List.map_append,←List.append_assoc o.qj,List.map_cons,List.map_nil,hst];exact((hw.msgOn (m:=({(zG ms k)with src:=a.id,term:=t.term}:MsgD)) 7 2 qM V rfl rfl rfl).qo [4,5,8,6,7] rfl qM).sel [0,5,1,4] rfl qM),V⟩)
    refine zm 12 O hw (zy (e:=59) (sz:=14) (vs:=[.agg #[Vi ((zG ms k).kind),Vi a.id,Vi ((zG ms k).dst),Vn t.term,Vn ((zG ms k).index),Vn ((zG ms k).qm),Vn ((zG ms k).qc),Vn ((zG ms k).round), .bool ((zG ms k).flag),(zG ms k).ev,((zG ms k).conf).vv,((zG ms k).conf).lv,Vi ((zG ms k).off),(zG ms k).dv]]) qN O O qY qM O (fun b43=>zE [0,2,4] O qM (fun w' hw hS=>zK 10 O hw (yC (v:=mv') 1 0 0 O O O O qN O (zE [0,2,4] O qM (fun w' hw hS=>zK 13 O hw ?_))))))
    refine z2 [z4 cb t lead a r b yv jb qd (pt ob),vM v ms,sM (ms.drop k),Res.row b5 59 [Vi ((zG ms k).kind),Vi a.id,Vi ((zG ms k).dst),Vn t.term,Vn ((zG ms k).index),Vn ((zG ms k).qm),Vn ((zG ms k).qc),Vn ((zG ms k).round), .bool ((zG ms k).flag),(zG ms k).ev,((zG ms k).conf).vv,((zG ms k).conf).lv,Vi ((zG ms k).off),(zG ms k).dv],vM (.slice (some ⟨b43,0,none⟩) 1 1) [({(zG ms k)with src:=a.id,term:=t.term}:MsgD)],zBL ob ({o with mv:=mv',qj:=o.qj++(ms.take k).map (yd a t.term)}:OutD),vM mv' (o.qj++(ms.take k).map (yd a t.term)),sM (o.qj++(ms.take k).map (yd a t.term)),vR o.rv o.qx,vU o.xv o.qq] (fun w' hw=>hw.qn 1 O) ?_
    refine z7 (g:=MsgD.cells) (sz:=14) (by':=176) (fun _=>O) (l:=o.qj++(ms.take k).map (yd a t.term)) (l':=[({(zG ms k)with src:=a.id,term:=t.term}:MsgD)]) (all_cons ((zF O (zF O (zF O (zF O (zF O (zF O (zF O (zF O (zF O (zF (hc1 _ (ze V) _ (List.mem_of_getElem? (i:=9) O)) (zF (hc1 _ (ze V) _ (List.mem_of_getElem? (i:=10) O)) (zF (hc1 _ (ze V) _ (List.mem_of_getElem? (i:=11) O)) (zF O (zF (hc1 _ (ze V) _ (List.mem_of_getElem? (i:=13) O)) zj))))))))))))))) qQ) 6 qN O O O (fun w' hw'=>Vec.sl (Own.holds hw' 4 _ O)) qO qM O (fun v44=>zE [0,1,3] O qM (fun w' hw hS=>zC 14 O (zQ O) hS (zC 15 O (zH (o:=0) O) hS (zK 16 O hw ?_))))
    refine zP (fun w' hw=>Own.qh (i:=6) O hw) (fun hc2_=> ?_)
    refine zn 5 O O O hc2_ O (zE [0,1,3] O qM (fun w' hw hS=>zU ?_))
    refine Oc10 ?_ hw
    refine zS (zp O O (zq V) O (zD O ?_))
    exact zd (fun w' hw=>⟨k+1,v44,⟨O,O,O,O,trivial⟩,V,(by rw[zt V,List.map_append,←List.append_assoc o.qj,List.map_cons,List.map_nil,hst];exact((hw.msgOn (m:=({(zG ms k)with src:=a.id,term:=t.term}:MsgD)) 7 2 qM V rfl rfl rfl).qo [4,5,8,6,7] rfl qM).sel [0,5,1,4] rfl qM),V⟩)
   have hst:=zPJ (a:=a) (term:=t.term) c2
   refine zO (zg [0,2,4] O qM qN (fun w' hw hS=>zC 0 O zT hS (zC 1 O (zQ O) hS (zC 2 O (zH (o:=33) O) hS (zC 3 O (zZ 0 (v:=pt ob) O O O) hS (zC 4 O zT hS (zC 5 O (zQ O) hS (zC 6 O (zH (o:=33) O) hS (zC 7 O (zZ 0 (v:=pt ob) O O O) hS (zC 8 O (zQ O) hS (zC 9 O (zH (o:=0) O) hS (zC 11 O (x8 2 O O) hS ?_))))))))))))
   refine zu 10 12 ?_ ?_
   ·refine zm 10 O hw (yC (v:=mv') 1 0 0 O O O O qN O (zE [0,2,4] O qM (fun w' hw hS=>zK 12 O hw (zy (e:=59) (sz:=14) (vs:=[.agg #[Vi ((zG ms k).kind),Vi a.id,Vi ((zG ms k).dst),Vn ((zG ms k).term),Vn ((zG ms k).index),Vn ((zG ms k).qm),Vn ((zG ms k).qc),Vn ((zG ms k).round), .bool ((zG ms k).flag),(zG ms k).ev,((zG ms k).conf).vv,((zG ms k).conf).lv,Vi ((zG ms k).off),(zG ms k).dv]]) qN O O qY qM O (fun b43=>zE [0,2,4] O qM (fun w' hw hS=>zK 13 O hw ?_))))))
    refine z2 [z4 cb t lead a r b yv jb qd (pt ob),vM v ms,sM (ms.drop k),Res.row b5 59 [Vi ((zG ms k).kind),Vi a.id,Vi ((zG ms k).dst),Vn ((zG ms k).term),Vn ((zG ms k).index),Vn ((zG ms k).qm),Vn ((zG ms k).qc),Vn ((zG ms k).round), .bool ((zG ms k).flag),(zG ms k).ev,((zG ms k).conf).vv,((zG ms k).conf).lv,Vi ((zG ms k).off),(zG ms k).dv],vM (.slice (some ⟨b43,0,none⟩) 1 1) [({(zG ms k)with src:=a.id}:MsgD)],zBL ob ({o with mv:=mv',qj:=o.qj++(ms.take k).map (yd a t.term)}:OutD),vM mv' (o.qj++(ms.take k).map (yd a t.term)),sM (o.qj++(ms.take k).map (yd a t.term)),vR o.rv o.qx,vU o.xv o.qq] (fun w' hw=>hw.qn 1 O) ?_
    refine z7 (g:=MsgD.cells) (sz:=14) (by':=176) (fun _=>O) (l:=o.qj++(ms.take k).map (yd a t.term)) (l':=[({(zG ms k)with src:=a.id}:MsgD)]) (all_cons ((zF O (zF O (zF O (zF O (zF O (zF O (zF O (zF O (zF O (zF (hc1 _ (ze V) _ (List.mem_of_getElem? (i:=9) O)) (zF (hc1 _ (ze V) _ (List.mem_of_getElem? (i:=10) O)) (zF (hc1 _ (ze V) _ (List.mem_of_getElem? (i:=11) O)) (zF O (zF (hc1 _ (ze V) _ (List.mem_of_getElem? (i:=13) O)) zj))))))))))))))) qQ) 6 qN O O O (fun w' hw'=>Vec.sl (Own.holds hw' 4 _ O)) qO qM O (fun v44=>zE [0,1,3] O qM (fun w' hw hS=>zC 14 O (zQ O) hS (zC 15 O (zH (o:=0) O) hS (zK 16 O hw ?_))))
    refine zP (fun w' hw=>Own.qh (i:=6) O hw) (fun hc3_=> ?_)
    refine zn 5 O O O hc3_ O (zE [0,1,3] O qM (fun w' hw hS=>zU ?_))
    refine Oc10 ?_ hw
    refine zS (zp O O (zq V) O (zD O ?_))
    exact zd (fun w' hw=>⟨k+1,v44,⟨O,O,O,O,trivial⟩,V,(by rw[zt V,List.map_append,←List.append_assoc o.qj,List.map_cons,List.map_nil,hst];exact((hw.msgOn (m:=({(zG ms k)with src:=a.id}:MsgD)) 7 2 qM V rfl rfl rfl).qo [4,5,8,6,7] rfl qM).sel [0,5,1,4] rfl qM),V⟩)
   refine zm 12 O hw (zy (e:=59) (sz:=14) (vs:=[.agg #[Vi ((zG ms k).kind),Vi a.id,Vi ((zG ms k).dst),Vn ((zG ms k).term),Vn ((zG ms k).index),Vn ((zG ms k).qm),Vn ((zG ms k).qc),Vn ((zG ms k).round), .bool ((zG ms k).flag),(zG ms k).ev,((zG ms k).conf).vv,((zG ms k).conf).lv,Vi ((zG ms k).off),(zG ms k).dv]]) qN O O qY qM O (fun b43=>zE [0,2,4] O qM (fun w' hw hS=>zK 10 O hw (yC (v:=mv') 1 0 0 O O O O qN O (zE [0,2,4] O qM (fun w' hw hS=>zK 13 O hw ?_))))))
   refine z2 [z4 cb t lead a r b yv jb qd (pt ob),vM v ms,sM (ms.drop k),Res.row b5 59 [Vi ((zG ms k).kind),Vi a.id,Vi ((zG ms k).dst),Vn ((zG ms k).term),Vn ((zG ms k).index),Vn ((zG ms k).qm),Vn ((zG ms k).qc),Vn ((zG ms k).round), .bool ((zG ms k).flag),(zG ms k).ev,((zG ms k).conf).vv,((zG ms k).conf).lv,Vi ((zG ms k).off),(zG ms k).dv],vM (.slice (some ⟨b43,0,none⟩) 1 1) [({(zG ms k)with src:=a.id}:MsgD)],zBL ob ({o with mv:=mv',qj:=o.qj++(ms.take k).map (yd a t.term)}:OutD),vM mv' (o.qj++(ms.take k).map (yd a t.term)),sM (o.qj++(ms.take k).map (yd a t.term)),vR o.rv o.qx,vU o.xv o.qq] (fun w' hw=>hw.qn 1 O) ?_
   refine z7 (g:=MsgD.cells) (sz:=14) (by':=176) (fun _=>O) (l:=o.qj++(ms.take k).map (yd a t.term)) (l':=[({(zG ms k)with src:=a.id}:MsgD)]) (all_cons ((zF O (zF O (zF O (zF O (zF O (zF O (zF O (zF O (zF O (zF (hc1 _ (ze V) _ (List.mem_of_getElem? (i:=9) O)) (zF (hc1 _ (ze V) _ (List.mem_of_getElem? (i:=10) O)) (zF (hc1 _ (ze V) _ (List.mem_of_getElem? (i:=11) O)) (zF O (zF (hc1 _ (ze V) _ (List.mem_of_getElem? (i:=13) O)) zj))))))))))))))) qQ) 6 qN O O O (fun w' hw'=>Vec.sl (Own.holds hw' 4 _ O)) qO qM O (fun v44=>zE [0,1,3] O qM (fun w' hw hS=>zC 14 O (zQ O) hS (zC 15 O (zH (o:=0) O) hS (zK 16 O hw ?_))))
   refine zP (fun w' hw=>Own.qh (i:=6) O hw) (fun hc4_=> ?_)
   refine zn 5 O O O hc4_ O (zE [0,1,3] O qM (fun w' hw hS=>zU ?_))
   refine Oc10 ?_ hw
   refine zS (zp O O (zq V) O (zD O ?_))
   exact zd (fun w' hw=>⟨k+1,v44,⟨O,O,O,O,trivial⟩,V,(by rw[zt V,List.map_append,←List.append_assoc o.qj,List.map_cons,List.map_nil,hst];exact((hw.msgOn (m:=({(zG ms k)with src:=a.id}:MsgD)) 7 2 qM V rfl rfl rfl).qo [4,5,8,6,7] rfl qM).sel [0,5,1,4] rfl qM),V⟩)
  exact kh O (yJ O (fun w' hw=>⟨mv',O,(by rw[List.take_of_length_le V]at hw;exact hw.sel [0,1] rfl qM)⟩))
def y9(a:StA)(term:Nat)(vs:List Int)(kind:Int)(tm:Nat)(flag:Bool)(idx lt:Nat):List MsgD:=(vs.filter (· ≠a.id)).map fun id=>yd a term (yo kind 0 id tm idx lt 0 0 flag (.slice none 0 0) [])
theorem zFo{a:StA}{term:Nat}{vs:List Int}{kind:Int}{tm:Nat}{flag:Bool}{idx lt:Nat}:(y9 a term vs kind tm flag idx lt).length≤vs.length:=by unfold y9;rw[List.length_map];exact List.length_filter_le _ _
theorem zJe{a:StA}{term:Nat}{vs:List Int}{kind:Int}{tm:Nat}{flag:Bool}{idx lt:Nat}{x:Int}(h:x≠a.id):y9 a term (vs++[x]) kind tm flag idx lt=y9 a term vs kind tm flag idx lt++[yd a term (yo kind 0 x tm idx lt 0 0 flag (.slice none 0 0) [])]:=by
  unfold y9;rw[List.filter_append,List.map_append];simp[h]
theorem zJi{a:StA}{term:Nat}{vs:List Int}{kind:Int}{tm:Nat}{flag:Bool}{idx lt:Nat}{x:Int}(h:¬ x≠a.id):y9 a term (vs++[x]) kind tm flag idx lt=y9 a term vs kind tm flag idx lt:=by
  unfold y9;rw[List.filter_append,List.map_append];simp at h;simp[h]
theorem zGU{S:List Nat}(cb jb:Nat)(t:TimD)(a:StA)(r:RolD)(b:StB)(lead yv:Value)(qd:Nat)(lv:Value)(es:List EntD)(ob:Nat)(o:OutD)(kind:Int)(tm:Nat)(flag:Bool)(w:World)(hg:(LG 0 0 es).good)(hl:es.length≤1000000)(hvl:b.vs.length≤1000)(ho:o.qj.length≤100000)(hin:Own w S [z4 cb t lead a r b yv jb qd (pt ob),Res.nl b lv es,Res.ou ob o] w):Rets Tryz.prog 75 #[pt cb, .agg #[Vi kind,Vi 0,Vi 0,Vn tm,Vn 0,Vn 0,Vn 0,Vn 0, .bool flag, .slice none 0 0, .slice none 0 0, .slice none 0 0,Vi 0, .slice none 0 0]] w fun u_ w'=>∃ (mv':Value),u_= .tuple #[]∧Own w S [z4 cb t lead a r b yv jb qd (pt ob),Res.nl b lv es,Res.ou ob ({o with mv:=mv',qj:=o.qj++y9 a t.term (zc b.vs (es.map EntD.toEntA)).vs kind tm flag es.length (LG 0 0 es).end_}:OutD)] w':=by
  have hb:=(LG.le hg).1
  refine zW Tryz.func75 O Tryz.ntmps75 hin ?_
  refine zB (z3 O O (fun b3=>zA (zB (zD O (za O O (zJ (o:=29) O O (zL 0 (v:=pt b.lb) O O O O (a_call O O (fun w' hw=>(kG b.lb 0 0 lv es w' qP qO (hw.qF 1 0 O O) (hw.qH 1 1 O O) (EntD.rd.qF 1 2 O O hw)).mono ?_)))))))))
  rintro _ w1 ⟨rfl,hO⟩
  refine O4 ?_ (hw.qi hO)
  refine zD O (z8 (vs:=[Vn (0+es.length),Vn ((LG 0 0 es).end_)]) O O O (z8 (vs:=[Vn (0+es.length),Vn ((LG 0 0 es).end_)]) O O O (zJ (o:=4) O O (zn 3 O O O O O (zJ (o:=5) O O (zn 3 O O O O O (zA (zB (zD O (a_call O O (fun w' hw=>(xe cb jb t a r b lead yv (pt ob) qd _ _ w' ‹_› V V (hw.give [0,1] O qM)).mono ?_)))))))))))
  rintro _ w1 ⟨cv1_,cw2_,F3_,rfl,hf2_1,hO⟩
  have hFl:F3_.vs.length≤1000∧F3_.ls.length≤1000:=by rw[hf2_1];exact yf hvl
  refine O6 ?_ (hw.qg [0,1] O hO)
  refine zHD (o:=0) (v:=cv1_) O qN O O (zo (pV 4 O) O O (zD O (zA (zX ?_))))
  refine xi (fun(k:Nat) (mv':Value) (d:Int)=>[(0,pt cb),(3,pt b3),(18,cv1_),(19,Vj F3_.vs.length),(20,Vj k)]) (fun(k:Nat) (mv':Value) (d:Int)=>k≤F3_.vs.length) (fun(k:Nat) (mv':Value) (d:Int)=>[Res.ou ob ({o with mv:=mv',qj:=o.qj++y9 a t.term (F3_.vs.take k) kind tm flag (0+es.length) (LG 0 0 es).end_}:OutD),Res.row b3 59 [Vi kind,Vi 0,Vi d,Vn tm,Vn (0+es.length),Vn ((LG 0 0 es).end_),Vn 0,Vn 0, .bool flag, .slice none 0 0, .slice none 0 0, .slice none 0 0,Vi 0, .slice none 0 0],z4 cb t lead a r b yv jb qd (pt ob),Res.nl b lv es,vI cv1_ F3_.vs,vI cw2_ F3_.ls]) (fun(k:Nat) (mv':Value) (d:Int)=>F3_.vs.length - k) (fun w' hw=>⟨0,o.mv,0,⟨O,O,O,O,O,trivial⟩,Nat.zero_le _,(by rw[List.take_zero,show y9 a t.term [] kind tm flag (0+es.length) (LG 0 0 es).end_=[]from rfl,List.append_nil];exact hw)⟩) (fun k mv' d g hΦ=> ?_)
  have hol:(o.qj++y9 a t.term (F3_.vs.take k) kind tm flag (0+es.length) (LG 0 0 es).end_).length≤o.qj.length+1000:=by rw[List.length_append];have h:=zFo (a:=a) (term:=t.term) (vs:=F3_.vs.take k) (kind:=kind) (tm:=tm) (flag:=flag) (idx:=0+es.length) (lt:=(LG 0 0 es).end_);rw[List.length_take]at h;omega
  refine zB (yG O O O (zA (zN (zY O (fun c1=> ?_) (fun c1=> ?_)))))
  ·refine zO (zN (zX (zB (zi (pV 4 O) 1 k O O O V O (yF (pV 4 O) 1 k 0 (fun _=>O) O O V O O (zI O (zA (zB (zD O (zD O (za O O (zJ (o:=10) O O ?_))))))))))))
   refine zL 2 (v:=Vi a.id) O O O O (xn O O O (zA (zY O (fun c2=> ?_) (fun c2=> ?_))))
   ·refine zB (zD O (zJ (o:=2) O O (zn 1 O O O O O (zA (zS (zD O (yI 1 O O O (zy (e:=59) (sz:=14) (vs:=[.agg #[Vi kind,Vi 0,Vi (zG F3_.vs k),Vn tm,Vn (0+es.length),Vn ((LG 0 0 es).end_),Vn 0,Vn 0, .bool flag, .slice none 0 0, .slice none 0 0, .slice none 0 0,Vi 0, .slice none 0 0]]) qN O O qY qM O (fun b34=> ?_)))))))))
    refine z2 [Res.ou ob ({o with mv:=mv',qj:=o.qj++y9 a t.term (F3_.vs.take k) kind tm flag (0+es.length) (LG 0 0 es).end_}:OutD),Res.row b3 59 [Vi kind,Vi 0,Vi (zG F3_.vs k),Vn tm,Vn (0+es.length),Vn ((LG 0 0 es).end_),Vn 0,Vn 0, .bool flag, .slice none 0 0, .slice none 0 0, .slice none 0 0,Vi 0, .slice none 0 0],z4 cb t lead a r b yv jb qd (pt ob),Res.nl b lv es,vI cv1_ F3_.vs,vI cw2_ F3_.ls,vM (.slice (some ⟨b34,0,none⟩) 1 1) [(yo kind 0 (zG F3_.vs k) tm (0+es.length) ((LG 0 0 es).end_) 0 0 flag (.slice none 0 0) [])],sM [(yo kind 0 (zG F3_.vs k) tm (0+es.length) ((LG 0 0 es).end_) 0 0 flag (.slice none 0 0) [])]] (fun w' hw=>hw.msg0 ⟨O,O,O⟩ O O) ?_
    refine a_call O O (fun w' hw=>(jG cb jb t a r b lead yv qd ob ({o with mv:=mv',qj:=o.qj++y9 a t.term (F3_.vs.take k) kind tm flag (0+es.length) (LG 0 0 es).end_}:OutD) (.slice (some ⟨b34,0,none⟩) 1 1) [(yo kind 0 (zG F3_.vs k) tm (0+es.length) ((LG 0 0 es).end_) 0 0 flag (.slice none 0 0) [])] w' (by have h:=hol;simp only[List.length_cons,List.length_nil];omega) (hw.give [2,0,6,7] O qM)).mono ?_)
    rintro _ w1 ⟨mv'4_,rfl,hO⟩
    refine O6 ?_ (hw.qg [2,0,6,7] O hO)
    refine zA (zS (zp O O (zq V) O (zD O ?_)))
    exact zd (fun w' hw=>⟨k+1,mv'4_,zG F3_.vs k,⟨O,O,O,O,O,trivial⟩,V,(by rw[zt V,zJe c2,←List.append_assoc o.qj];exact hw.sel [5,0,4,1,2,3] rfl qM),V⟩)
   refine zO (zS (zp O O (zq V) O (zD O ?_)))
   exact zd (fun w' hw=>⟨k+1,mv',d,⟨O,O,O,O,O,trivial⟩,V,(by rw[zt V,zJi c2];exact hw),V⟩)
  exact kh O (yJ O (fun w' hw=>⟨mv',O,(by rw[List.take_of_length_le V,hf2_1,Nat.zero_add es.length]at hw;exact hw.sel [2,3,0] rfl qM)⟩))
theorem zQK(pb:Nat)(p:PeerM)(w:World)(hp:Rd w [] (x4 pb p)):Rets Tryz.prog 78 #[pt pb] w fun u_ w'=>u_=Vn p.qy∧Own w [] [] w':=by
  refine zW Tryz.func78 O Tryz.ntmps78 (Own.start w) ?_
  refine zB (zI O (zA (zB (zD O (za O O (zJ (o:=2) O O (kL (v:=Vn p.qy) O (hp.φ.cell O) (hp.far _ (List.mem_singleton.2 O)) qN O (zI O (zA ?_)))))))))
  exact zV (z6 (v:=Vn p.qy) O O (fun w' hw=>⟨O,hw.drop⟩))
theorem zQm(pb:Nat)(p:PeerM)(w:World)(hp:Rd w [] (x4 pb p)):Rets Tryz.prog 199 #[pt pb] w fun u_ w'=>u_=Vn p.round∧Own w [] [] w':=by
  refine zW Tryz.func199 O Tryz.ntmps199 (Own.start w) ?_
  refine zB (zI O (zA (zB (zD O (za O O (zJ (o:=3) O O (kL (v:=Vn p.round) O (hp.φ.cell O) (hp.far _ (List.mem_singleton.2 O)) qN O (zI O (zA ?_)))))))))
  exact zV (z6 (v:=Vn p.round) O O (fun w' hw=>⟨O,hw.drop⟩))
def xg(id:Int)(ps:List PeerP)(self:Nat)(of:PeerM→Nat)(v:Int):Nat:=if v=id then self else match yV ps v with
  |some k=>of (zG ps k).2
  |none=>0
theorem zAI{id:Int}{ps:List PeerP}{self:Nat}{of:PeerM→Nat}{v:Int}(h:v=id):xg id ps self of v=self:=if_pos h
theorem zAO{id:Int}{ps:List PeerP}{self:Nat}{of:PeerM→Nat}{v:Int}{k:Nat}(h:¬ v=id)(hk:yV ps v=some k):xg id ps self of v=of (zG ps k).2:=by unfold xg;rw[if_neg h,hk]
theorem zAG{id:Int}{ps:List PeerP}{self:Nat}{of:PeerM→Nat}{v:Int}(h:¬ v=id)(hk:yV ps v=none):xg id ps self of v=0:=by unfold xg;rw[if_neg h,hk]
def zw(id:Int)(vs:List Int)(ps:List PeerP)(self:Nat)(of:PeerM→Nat):List Nat:=vs.map (xg id ps self of)
theorem xr{id:Int}{vs:List Int}{ps:List PeerP}{self:Nat}{of:PeerM→Nat}{x:Int}:zw id (vs++[x]) ps self of=zw id vs ps self of++[xg id ps self of x]:=by unfold zw;rw[List.map_append];rfl
theorem zIn{S:List Nat}(cb jb:Nat)(t:TimD)(a:StA)(r:RolD)(b:StB)(yv out:Value)(qd:Nat)(lv:Value)(es:List EntD)(ld:Nat)(l:LdD)(self:Nat)(w:World)(hg:(LG 0 0 es).good)(hl:es.length≤1000000)(hvl:b.vs.length≤1000)(hpl:l.qa.length≤1000000)(hin:Own w S [z4 cb t (pt ld) a r b yv jb qd out,Res.nl b lv es,Res.ld ld l] w):Rets Tryz.prog 77 #[pt cb,Vn self, .func (.func 78) #[] #[]] w fun u_ w'=>∃ (pv:Value),u_=pv∧Own w S [z4 cb t (pt ld) a r b yv jb qd out,Res.nl b lv es,Res.ld ld l,vU pv (zw a.id (zc b.vs (es.map EntD.toEntA)).vs l.qa self PeerM.qy)] w':=by
  refine zW Tryz.func77 O Tryz.ntmps77 hin ?_
  refine zB (zI O (zA (zB (zI O (zA (zN (zB (zD O (a_call O O (fun w' hw=>(xe cb jb t a r b (pt ld) yv out qd _ _ w' ‹_› V V (hw.give [0,1] O qM)).mono ?_))))))))))
  rintro _ w1 ⟨cv1_,cw2_,F3_,rfl,hf2_1,hO⟩
  have hFl:F3_.vs.length≤1000∧F3_.ls.length≤1000:=by rw[hf2_1];exact yf hvl
  refine O5 ?_ (hw.qg [0,1] O hO)
  refine zHD (o:=0) (v:=cv1_) O qN O O (zo (pV 3 O) O O (zD O (zA (zX ?_))))
  refine yw (fun(k:Nat) (pv:Value)=>[(0,pt cb),(1,Vn self),(2, .func (.func 78) #[] #[]),(7,pv),(14,cv1_),(15,Vj F3_.vs.length),(16,Vj k)]) (fun(k:Nat) (pv:Value)=>k≤F3_.vs.length) (fun(k:Nat) (pv:Value)=>[Res.ld ld l,z4 cb t (pt ld) a r b yv jb qd out,Res.nl b lv es,vI cv1_ F3_.vs,vI cw2_ F3_.ls,vU pv (zw a.id (F3_.vs.take k) l.qa self PeerM.qy)]) (fun(k:Nat) (pv:Value)=>F3_.vs.length - k) (fun w' hw=>⟨0, .slice none 0 0,⟨O,O,O,O,O,O,O,trivial⟩,Nat.zero_le _,(zl hw 22 1)⟩) (fun k pv g hΦ=> ?_)
  have hpl0:(zw a.id (F3_.vs.take k) l.qa self PeerM.qy).length≤1000:=by unfold zw;rw[List.length_map,List.length_take];omega
  refine zB (yG O O O (zA (zN (zY O (fun c1=> ?_) (fun c1=> ?_)))))
  ·refine zO (zN (zX (zB (zi (pV 3 O) 1 k O O O V O (yF (pV 3 O) 1 k 0 (fun _=>O) O O V O O (zI O (zA (zB (zI O (zA (zN (zB ?_))))))))))))
   refine zD O (zD O (za O O (zJ (o:=10) O O (zL 1 (v:=Vi a.id) O O O O (yQ O O O (zA (zY O (fun c2=> ?_) (fun c2=> ?_))))))))
   ·have hpm:=zAI (ps:=l.qa) (self:=self) (of:=PeerM.qy) c2
    refine zS (zD O (zI O (zA (zS (zD O (zD O (zy (e:=22) (sz:=1) (vs:=[Vn self]) qN O O qR qM O (fun b37=>z7 (g:=U1) (sz:=1) (by':=8) (fun _=>O) (l:=(zw a.id (F3_.vs.take k) l.qa self PeerM.qy)) (l':=[self]) qZ 5 qN O O O (fun w' hw'=>Vec.sl (Own.holds hw' 6 _ O)) qO qM O (fun v38=>zI O (zA (zS (zp O O (zq V) O ?_))))))))))))
    refine zD O ?_
    exact zd (fun w' hw=>⟨k+1,v38,⟨O,O,O,O,O,O,O,trivial⟩,V,(by rw[zt V,xr,hpm];exact hw.sel [0,1,2,3,4,5] rfl qM),V⟩)
   refine zB (zD O (zD O (a_call O O (fun w' hw=>(zDM cb jb t a r b yv out qd ld _ (zG F3_.vs k) w' V (hw.give [1,0] O qM)).mono ?_))))
   rintro _ w1 ⟨pv4_,rfl,hf8_2,hO⟩
   refine O6 ?_ (hw.qg [1,0] O hO)
   refine zI O (zA (zB (zD O (zBl qN O O O (zA (zA0 O (fun c3=> ?_) (fun c3=> ?_)))))))
   ·obtain⟨j,hj,rfl,hji,hix⟩:=PeerIs.some hf8_2 c3
    have hpm:=zAO (self:=self) (of:=PeerM.qy) c2 hix
    refine zS (zD O (zD O (yW (fst:=[]) (cap:=[]) O qN O O (fun w' hw=>(zQK ((zG l.qa j).1) ((zG l.qa j).2) w' (hw.partStar0 5 2 j O O ‹_›)).mono ?_))))
    rintro _ w1 ⟨rfl,hO⟩
    refine O6 ?_ (hw.qi hO)
    refine zI O (zA (zS (zD O (zD O (zy (e:=22) (sz:=1) (vs:=[Vn (((zG l.qa j).2).qy)]) qN O O qR qM O (fun b37=>z7 (g:=U1) (sz:=1) (by':=8) (fun _=>O) (l:=(zw a.id (F3_.vs.take k) l.qa self PeerM.qy)) (l':=[((zG l.qa j).2).qy]) qZ 3 qN O O O (fun w' hw'=>Vec.sl (Own.holds hw' 6 _ O)) qO qM O (fun v38=>zI O (zA (zS (zp O O (zq V) O (zD O ?_)))))))))))
    exact zd (fun w' hw=>⟨k+1,v38,⟨O,O,O,O,O,O,O,trivial⟩,V,(by rw[zt V,xr,hpm];exact hw.sel [5,4,0,1,2,3] rfl qM),V⟩)
   have hpm:=zAG (self:=self) (of:=PeerM.qy) c2 (PeerIs.none hf8_2 c3)
   refine zO (zS (zD O (zD O (zy (e:=22) (sz:=1) (vs:=[Vn 0]) qN O O qR qM O (fun b37=>z7 (g:=U1) (sz:=1) (by':=8) (fun _=>O) (l:=(zw a.id (F3_.vs.take k) l.qa self PeerM.qy)) (l':=[0]) qZ 3 qN O O O (fun w' hw'=>Vec.sl (Own.holds hw' 6 _ O)) qO qM O (fun v38=>zI O (zA (zS (zp O O (zq V) O (zD O ?_))))))))))
   exact zd (fun w' hw=>⟨k+1,v38,⟨O,O,O,O,O,O,O,trivial⟩,V,(by rw[zt V,xr,hpm];exact hw.sel [5,4,0,1,2,3] rfl qM),V⟩)
  refine yA O (zB (zD O (zI O (zA ?_))))
  exact zV (z6 (v:=pv) O O (fun w' hw=>⟨pv,O,(by rw[List.take_of_length_le V,hf2_1]at hw;exact hw.sel [1,2,0,5] rfl qM)⟩))
theorem vi{a b:Int}(h:a=b):Value.int .i64 a=Value.int .i64 b:=by rw[h]
theorem wsi{a b:Nat}(h:b≤a)(h2:a<9223372036854775808):IntKind.i64.wrap ((a:Int) - (b:Int))=((a - b:Nat):Int):=by
  rw[show(a:Int) - (b:Int)=((a - b:Nat):Int)by omega];exact zq V
theorem zCG{a:Nat}(h:1≤a)(h2:a<9223372036854775808):IntKind.i64.wrap ((a:Int) - 1)=((a - 1:Nat):Int):=wsi (b:=1) h h2
theorem qui{a b:Nat}(h:a<9223372036854775808):IntKind.i64.wrap ((a:Int).tdiv (b:Int))=((a / b:Nat):Int):=by
  have:(a:Int).tdiv (b:Int)=((a / b:Nat):Int):=rfl
  rw[this]
  have h2:=Nat.div_le_self a b
  generalize a / b=c at h2 ⊢
  exact zq V
def zOo(a b:Int):Int:=IntKind.u64.wrap (((a%2 ^ IntKind.u64.bits).toNat ^^^ (b%2 ^ IntKind.u64.bits).toNat:Nat):Int)
def zQT(a b:Int):Int:=IntKind.u64.wrap (a*2 ^ (min b.toNat IntKind.u64.bits))
def zQq(a b:Int):Int:=a.fdiv (2 ^ (min b.toNat IntKind.u64.bits))
def xs1(x:Int):Int:=zOo x (zQT x 13)
def xs2(x:Int):Int:=zOo (xs1 x) (zQq (xs1 x) 7)
def xs3(x:Int):Int:=zOo (xs2 x) (zQT (xs2 x) 17)
theorem zNU(n:Nat)(w:World)(hn:n<18446744073709551616):Rets Tryz.prog 188 #[.int .u64 (n:Nat)] w fun u_ w'=>u_= .int .i64 ((z9 n):Nat)∧Own w [] [] w':=by
  exact zC9 n hn w
theorem zKQ(n:Nat)(w:World)(hn:n<18446744073709551616):Rets Tryz.prog 143 #[.int .u64 (n:Nat)] w fun u_ w'=>u_= .int .i64 ((z9 n):Nat)∧Own w [] [] w':=by
  refine xz (args:=[.int .u64 (n:Nat)]) Tryz.func143 O Tryz.ntmps143 O (Own.start w) ?_
  refine zB ?_
  refine zI O ?_
  refine zA ?_
  refine zN ?_
  refine xt O ?_
  refine zO ?_
  refine zB ?_
  refine zD O ?_
  refine zBx qN O O (fun w' hw=> ?_)
  refine(zNU n w' ‹_›).mono ?_
  rintro _ w1 ⟨rfl,hO⟩
  refine O0 ?_ (hw.qi hO)
  refine zI O ?_
  refine zA ?_
  exact zV (z6 (v:= .int .i64 ((z9 n):Nat)) O O (fun w' hw=>⟨O,hw.drop⟩))
end Go.Proofs.YtkkeknmkipkbmaaGreat
