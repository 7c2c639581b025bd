import Derived.Test.YtkkeknmkipkbmaaGreatCoL
set_option linter.unusedSectionVars false
set_option linter.unusedSimpArgs false
set_option linter.unusedVariables false
set_option maxRecDepth 10000
namespace Go.Proofs.YtkkeknmkipkbmaaGreat
open Go Go.Sc Go.Proofs
def xJ:Option (Nat×LdD)→Value
  |none=> .pointer none
  |some q=>pt q.1
def Res.lo:Option (Nat×LdD)→Res
  |none=>Res.star []
  |some q=>Res.ld q.1 q.2
def er(ps:List PeerP):List PeerP:=ps.map fun q=>(0,q.2)
def LdD.er(l:LdD):LdD:={pv:= .slice none 0 0,qa:=YtkkeknmkipkbmaaGreat.er l.qa,av:= .slice none 0 0,qe:=l.qe,rv:= .slice none 0 0,qf:=l.qf,sure:=l.sure,kv:= .slice none 0 0,qk:=l.qk,give:=l.give,qC:=l.qC}
structure NodA where
  t:TimD
  r:RolD
  E:List EntA
  ld:Option LdD
  yes:List Int
structure NdD where
  t:TimD
  r:RolD
  lv:Value
  es:List EntD
  y:Option (Nat×LdD)
  yv:Value
  yes:List Int
def NdD.a(n:NdD):NodA:={t:=n.t,r:=n.r,E:=n.es.map EntD.toEntA,ld:=n.y.map fun q=>q.2.er,yes:=n.yes}
theorem zDS{ps:List PeerP}{k:Nat}:(zG (er ps) k).2=(zG ps k).2:=by
  unfold er zG
  rw[List.getElem?_map]
  cases ps[k]?<;>rfl
theorem peerIx_er{ps:List PeerP}{id:Int}:yV (er ps) id=yV ps id:=by
  unfold yV er
  rw[List.findIdx?_map];rfl
theorem zDb{id:Int}{vs:List Int}{ps:List PeerP}{self:Nat}{of:PeerM→Nat}:zw id vs (er ps) self of=zw id vs ps self of:=by
  unfold zw
  refine List.map_congr_left fun v _=> ?_
  unfold xg
  rw[peerIx_er]
  split
  · rfl
  cases yV ps v with
  |none=>rfl
  |some k=>show of (zG (er ps) k).2=_;rw[zDS]
theorem zB6{a:StA}{term:Nat}{vs0:List Int}{E:List EntA}{ps:List PeerP}{qc:Nat}:yU a term vs0 E (er ps) qc=yU a term vs0 E ps qc:=by unfold yU;rw[zDb]
theorem zLz{a:StA}{vs0:List Int}{E:List EntA}{ps:List PeerP}{qf:List Int}{sure:Nat}:xU a vs0 E (er ps) qf sure=xU a vs0 E ps qf sure:=by unfold xU;rw[zDb]
theorem zEh{g:PeerM→List MsgA}{ps:List PeerP}:jK g (er ps)=jK g ps:=by unfold jK er;rw[List.flatMap_map]
theorem zB3{ps:List PeerP}:(er ps).length=ps.length:=List.length_map _
theorem zE2{ps:List PeerP}{k:Nat}{q:PeerM}:er (zx ps k q)=zx (er ps) k q:=by
  unfold zx er
  rw[List.map_set]
  congr 1
  have h:∀ k:Nat,(zG (ps.map fun q=>((0:Nat),q.2)) k).1=0:=fun k=>by unfold zG;rw[List.getElem?_map];cases ps[k]?<;>rfl
  rw[h]
theorem zGm{ps:List PeerP}{f:PeerM→PeerM}:er (ps.map fun q=>(q.1,f q.2))=(er ps).map fun q=>(q.1,f q.2):=by unfold er;simp[List.map_map,Function.comp]
theorem zQQ{ps:List PeerP}{l:List PeerM}(h:ps.map Prod.snd=l):er ps=l.map fun p=>(0,p):=by rw[←h];unfold er;rw[List.map_map];rfl
def zLg(l:List Int):List Int:=l.mergeSort fun x y=>decide (x≤y)
theorem zHu{l l':List Int}(h:l'.Perm l)(h2:l'.Pairwise (fun x y=>ky x y)):l'=zLg l:=by
  have h3:(zLg l).Pairwise (fun a b=>decide (a≤b)=true):=List.pairwise_mergeSort (by intro a b c;simp;omega) (by intro a b;simp;omega) _
  refine List.Perm.eq_of_pairwise (le:=fun a b=>decide (a≤b)=true) (fun a b _ _ p q=>by simp at p q;omega) (h2.imp fun q=>by simpa using ole_int.1 q) h3 (h.trans (List.mergeSort_perm _ _).symm)
def followF(wh:Int)(n:NodA):NodA:={n with r:=⟨1,wh,n.r.qc⟩,ld:=none,yes:=[]}
def jY(x:Option LdD):List Nat:=match x with
  |none=>[]
  |some l=>l.qk.map LookM.id
def jS(a:StA)(vs0:List Int)(E:List EntA):List PeerP:=((zLg ((zc vs0 E).vs++(zc vs0 E).ls)).filter (· ≠a.id)).map fun i=>(0,xP E.length i)
def jO(a:StA)(vs0:List Int)(n:NodA):NodA×List MsgA:=
  let E:=n.E++[zAg n.E.length n.t.term]
  let c:=yU a n.t.term vs0 E (jS a vs0 n.E) n.r.qc
  ({t:={n.t with qB:=n.t.now,qz:=n.t.now,qE:=n.t.now},r:=⟨4,a.id,c⟩,E:=E,ld:=some {pv:= .slice none 0 0,qa:=(jS a vs0 n.E).map (fun q=>(q.1,yD E q.2)),av:= .slice none 0 0,qe:=[],rv:= .slice none 0 0,qf:=[n.t.now],sure:=if(zc vs0 E).qv [a.id]then 1 else 0,kv:= .slice none 0 0,qk:=[],give:=0,qC:=false},yes:=[]},jK (jv a n.t.term c 1 E) (jS a vs0 n.E))
def kR(a:StA)(term:Nat)(vs:List Int)(kind:Int)(tm:Nat)(flag:Bool)(E:List EntA):List MsgA:=(y9 a term vs kind tm flag E.length (LogA.mk 0 0 E).end_).map MsgD.a
def zAF(a:StA)(vs0:List Int)(qd:Nat)(force:Bool)(n:NodA):NodA×List MsgA:=
  let n1:NodA:={n with t:={n.t with term:=n.t.term+1,qD:=a.id,due:=n.t.now+yz a qd},r:=⟨3,0,n.r.qc⟩,ld:=none,yes:=[a.id]}
  if(zc vs0 n.E).qv [a.id]then jO a vs0 n1 else(n1,kR a (n.t.term+1) (zc vs0 n.E).vs 3 0 force n.E)
def zJl(a:StA)(vs0:List Int)(qd:Nat)(n:NodA):NodA×List MsgA:=
  let n1:NodA:={n with r:=⟨2,0,n.r.qc⟩,ld:=none,yes:=[a.id]}
  if(zc vs0 n.E).qv [a.id]then zAF a vs0 qd false n1 else(n1,kR a n.t.term (zc vs0 n.E).vs 1 (n.t.term+1) false n.E)
theorem zIz(cb jb:Nat)(t:TimD)(a:StA)(r:RolD)(b:StB)(yv:Value)(qd ob:Nat)(o:OutD)(y:Option (Nat×LdD))(wh:Int)(w:World)(hl:∀ q,y=some q→q.2.qk.length≤1000000)(ho:o.qq.length=0)(hin:Own w (y2 [z4 cb t (xJ y) a r b yv jb qd (pt ob),Res.lo y,Res.ou ob o]) [z4 cb t (xJ y) a r b yv jb qd (pt ob),Res.lo y,Res.ou ob o] w):Rets Tryz.prog 70 #[pt cb,Vi wh] w fun u_ w'=>∃ (xw:Value),u_= .tuple #[]∧Own w (y2 [z4 cb t (xJ y) a r b yv jb qd (pt ob),Res.lo y,Res.ou ob o]) [z4 cb t (.pointer none) a ({qr:=1,who:=wh,qc:=r.qc}:RolD) b (.slice none 0 0) jb qd (pt ob),Res.ou ob ({o with xv:=xw,qq:=jY (y.map Prod.snd)}:OutD)] w':=by
  cases y with
  |none=>
    refine(kU cb jb t a r b yv (pt ob) qd wh w (hin.give [0] O qM)).mono ?_
    rintro _ w1 ⟨rfl,hO⟩
    refine⟨o.xv,O,?_⟩
    rw[show jY ((none:Option (Nat×LdD)).map Prod.snd)=o.qq from(List.eq_nil_of_length_eq_zero ho).symm]
    exact(hin.qg [0] O hO).sel [2,1] O qM
  |some q=>exact zBI cb jb t a r b yv qd wh q.1 q.2 ob o w (hl q rfl) ho hin
theorem zFl(cb jb:Nat)(t:TimD)(a:StA)(r:RolD)(b:StB)(yv:Value)(qd:Nat)(lv:Value)(es:List EntD)(ob:Nat)(o:OutD)(yes:List Int)(w:World)(hg:(LG 0 0 es).good)(hl:es.length≤100000)(hvl:b.vs.length≤12)(hcm:1≤((zc b.vs (es.map EntD.toEntA)).vs++(zc b.vs (es.map EntD.toEntA)).ls).length∧((zc b.vs (es.map EntD.toEntA)).vs++(zc b.vs (es.map EntD.toEntA)).ls).length≤12)(htm:1≤t.term∧t.term≤4611686018427387904)(hen:(LG 0 0 es).end_≤t.term)(hn:0≤t.now∧t.now≤1000000000000000)(ho:o.qj.length≤1000)(hin:Own w (y2 [z4 cb t (.pointer none) a r b yv jb qd (pt ob),Res.nl b lv es,Res.ou ob o]) [z4 cb t (.pointer none) a r b yv jb qd (pt ob),Res.nl b lv es,Res.ou ob o] w):Rets Tryz.prog 119 #[pt cb] w fun u_ w'=>∃ (n:NdD) (mv':Value) (ms:List MsgD),u_= .tuple #[]∧(n.a,ms.map MsgD.a)=jO a b.vs {t:=t,r:=r,E:=es.map EntD.toEntA,ld:=none,yes:=yes}∧Own w (y2 [z4 cb t (.pointer none) a r b yv jb qd (pt ob),Res.nl b lv es,Res.ou ob o]) [z4 cb n.t (xJ n.y) a n.r b n.yv jb qd (pt ob),Res.nl b n.lv n.es,Res.lo n.y,vI n.yv n.yes,Res.ou ob ({o with mv:=mv',qj:=o.qj++ms}:OutD)] w':=by
  refine(zLE cb jb t a r b yv qd lv es 0 ob o w hg hl hvl hcm htm hen hn ho hin).mono ?_
  rintro _ w1 ⟨ld,pv,lv',mv',rv',es',ids,ps,ms,rfl,hg',hE,hp,hs,hps,hms,hO⟩
  refine⟨⟨_,_,lv',es',some (ld,_),_,[]⟩,mv',ms,O,?_,(zl hO 3 1).sel [0,1,2,4,3] O qM⟩
  have hid:=zHu hp hs
  have her:er ps=jS a b.vs (es.map EntD.toEntA):=by rw[zQQ hps,hid];unfold jS;rw[List.map_map,List.length_map];rfl
  unfold jO NdD.a LdD.er
  dsimp only
  rw[List.length_map,←hE,←her,zB6,zEh,←zGm,hms];rfl
theorem zEi{S:List Nat}(cb jb:Nat)(t:TimD)(a:StA)(r:RolD)(b:StB)(yv:Value)(qd:Nat)(lv:Value)(es:List EntD)(ob:Nat)(o:OutD)(force:Bool)(yes:List Int)(w:World)(hg:(LG 0 0 es).good)(hl:es.length≤100000)(hvl:b.vs.length≤12)(hcm:1≤((zc b.vs (es.map EntD.toEntA)).vs++(zc b.vs (es.map EntD.toEntA)).ls).length∧((zc b.vs (es.map EntD.toEntA)).vs++(zc b.vs (es.map EntD.toEntA)).ls).length≤12)(htm:t.term<4611686018427387904)(hen:(LG 0 0 es).end_≤t.term)(hn:0≤t.now∧t.now≤1000000000000000)(ho:o.qj.length≤1000)(ha:a.ok)(hd:qd<18446744073709551616)(hin:Own w S [z4 cb t (.pointer none) a r b yv jb qd (pt ob),Res.nl b lv es,Res.ou ob o] w):Rets Tryz.prog 74 #[pt cb, .bool force] w fun u_ w'=>∃ (n:NdD) (mv':Value) (ms:List MsgD),u_= .tuple #[]∧(n.a,ms.map MsgD.a)=zAF a b.vs qd force {t:=t,r:=r,E:=es.map EntD.toEntA,ld:=none,yes:=yes}∧Own w S [z4 cb n.t (xJ n.y) a n.r b n.yv jb qd (pt ob),Res.nl b n.lv n.es,Res.lo n.y,vI n.yv n.yes,Res.ou ob ({o with mv:=mv',qj:=o.qj++ms}:OutD)] w':=by
  have hw1:=jD (qd:=qd) ha
  refine zW Tryz.func74 O Tryz.ntmps74 hin ?_
  refine zA2 ([(0,pt cb),(1, .bool force)]) (True) ([z4 cb ({t with term:=t.term+1,qD:=a.id}:TimD) (.pointer none) a r b yv jb qd (pt ob),Res.nl b lv es,Res.ou ob o]) ?_ (fun g hΦ=> ?_)
  ·refine zg [1,2] O qM qN (fun w' hw hS=>zC 0 O zT hS (zC 1 O zT hS (zC 2 O (zQ O) hS (zC 3 O (zH (o:=0) O) hS (zC 4 O (zH (o:=0) O) hS (zC 7 O zT hS (zC 8 O (zQ O) hS (zC 9 O (zH (o:=10) O) hS (zu 5 10 ?_ ?_)))))))))
   ·refine zm 5 O hw (zL 0 (v:=Vn t.term) O O O O (zE [1,2] O qM (fun w' hw hS=>zC 6 O (yq O O (xO V)) hS (zK 10 O hw (zL 0 (v:=Vi a.id) O O O O (zE [1,2] O qM (fun w' hw hS=>zC 11 O (zDX (cs:=[Vn (t.term+1),Vi a.id]) (z:=[Vn 0,Vi 0]) (pl:=[(0,1),(1,1)]) qN qN) hS (zC 12 O (zQ O) hS (zC 13 O (zH (o:=0) O) hS (zK 14 O hw (zr 0 O O O (xQ O) O (zE [1,2] O qM (fun w' hw hS=> ?_)))))))))))))
    refine zU ?_
    exact⟨⟨O,O,trivial⟩,trivial,hw⟩
   refine zm 10 O hw (zL 0 (v:=Vi a.id) O O O O (zE [1,2] O qM (fun w' hw hS=>zK 5 O hw (zL 0 (v:=Vn t.term) O O O O (zE [1,2] O qM (fun w' hw hS=>zC 6 O (yq O O (xO V)) hS (zC 11 O (zDX (cs:=[Vn (t.term+1),Vi a.id]) (z:=[Vn 0,Vi 0]) (pl:=[(0,1),(1,1)]) qN qN) hS (zC 12 O (zQ O) hS (zC 13 O (zH (o:=0) O) hS (zK 14 O hw (zr 0 O O O (xQ O) O (zE [1,2] O qM (fun w' hw hS=> ?_)))))))))))))
   refine zU ?_
   exact⟨⟨O,O,trivial⟩,trivial,hw⟩
  refine zB (zD O (a_call O O (fun w' hw=>(kU cb jb ({t with term:=t.term+1,qD:=a.id}:TimD) a r b yv (pt ob) qd 0 w' (hw.give [0] O qM)).mono ?_)))
  rintro _ w1 ⟨rfl,hO⟩
  refine O3 ?_ (hw.qg [0] O hO)
  refine zA (yt (fun(yv':Value)=>[(0,pt cb),(1, .bool force)]) (fun(yv':Value)=>True) (fun(yv':Value)=>[z4 cb ({t with term:=t.term+1,qD:=a.id}:TimD) (.pointer none) a ({qr:=3,who:=0,qc:=r.qc}:RolD) b yv' jb qd (pt ob),Res.nl b lv es,Res.ou ob o,vI yv' [a.id]]) ?_ (fun yv' g hΦ=> ?_))
  ·refine zS (zD O (zD O (zD O (za O O (zJ (o:=10) O O (zL 2 (v:=Vi a.id) O O O O (zy (e:=3) (sz:=1) (vs:=[Vi a.id]) qN O O qR qM O (fun b26=>za O O (zJ (o:=21) O O (zn 2 O O O O O (za O O (zJ (o:=30) O O ?_))))))))))))
   refine zn 2 O O O O O ?_
   exact zd (fun w' hw=>⟨(.slice (some ⟨b26,0,none⟩) 1 1),⟨O,O,trivial⟩,trivial,hw.sel [2,0,1,3] O qM⟩)
  refine zA2 ([(0,pt cb),(1, .bool force)]) (True) ([z4 cb ({t with term:=t.term+1,qD:=a.id,due:=t.now+yz a qd}:TimD) (.pointer none) a ({qr:=3,who:=0,qc:=r.qc}:RolD) b yv' jb qd (pt ob),Res.nl b lv es,Res.ou ob o,vI yv' [a.id]]) ?_ (fun g hΦ=> ?_)
  ·refine zg [1,2,3] O qM qN (fun w' hw hS=>zC 0 O zT hS (zC 1 O zT hS (zC 2 O (zQ O) hS (zC 3 O (zH (o:=2) O) hS (zC 4 O (zH (o:=0) O) hS (zC 6 O zT hS (zu 5 7 ?_ ?_)))))))
   ·refine zm 5 O hw (zL 0 (v:=Vi t.now) O O O O (zE [1,2,3] O qM (fun w' hw hS=>zK 7 O hw (a_call O O (fun w' hw=>(kf cb jb ({t with term:=t.term+1,qD:=a.id}:TimD) a ({qr:=3,who:=0,qc:=r.qc}:RolD) b (.pointer none) yv' (pt ob) qd w' ‹_› qO (hw.give [0] O qM)).mono ?_)))))
    rintro _ w1 ⟨rfl,hO⟩
    refine O4 ?_ (hw.qg [0] O hO)
    refine zE [0,1,2] O qM (fun w' hw hS=>zC 8 O (yq O O (zq V)) hS (zC 9 O (zQ O) hS (zC 10 O (zH (o:=2) O) hS (zC 11 O (zH (o:=2) O) hS (zK 12 O hw (zn 3 O O O O O (zE [0,1,2] O qM (fun w' hw hS=>zU ?_))))))))
    exact⟨⟨O,O,trivial⟩,trivial,hw.sel [3,0,1,2] O qM⟩
   refine zm 7 O hw (a_call O O (fun w' hw=>(kf cb jb ({t with term:=t.term+1,qD:=a.id}:TimD) a ({qr:=3,who:=0,qc:=r.qc}:RolD) b (.pointer none) yv' (pt ob) qd w' ‹_› qO (hw.give [0] O qM)).mono ?_))
   rintro _ w1 ⟨rfl,hO⟩
   refine O4 ?_ (hw.qg [0] O hO)
   refine zE [0,1,2] O qM (fun w' hw hS=>zK 5 O hw (zL 3 (v:=Vi t.now) O O O O (zE [0,1,2] O qM (fun w' hw hS=>zC 8 O (yq O O (zq V)) hS (zC 9 O (zQ O) hS (zC 10 O (zH (o:=2) O) hS (zC 11 O (zH (o:=2) O) hS (zK 12 O hw (zn 3 O O O O O (zE [0,1,2] O qM (fun w' hw hS=>zU ?_)))))))))))
   exact⟨⟨O,O,trivial⟩,trivial,hw.sel [3,0,1,2] O qM⟩
  refine zN (zB (zD O (a_call O O (fun w' hw=>(zCd cb jb ({t with term:=t.term+1,qD:=a.id,due:=t.now+yz a qd}:TimD) a ({qr:=3,who:=0,qc:=r.qc}:RolD) b (.pointer none) yv' (pt ob) qd _ _ w' ‹_› qO qO (hw.give [0,1] O qM)).mono ?_))))
  rintro _ w1 ⟨rfl,hO⟩
  refine O4 ?_ (hw.qg [0,1] O hO)
  refine zA (zY O (fun c1=> ?_) (fun c1=> ?_))
  ·refine zB (zD O (a_call O O (fun w' hw=>(zFl cb jb ({t with term:=t.term+1,qD:=a.id,due:=t.now+yz a qd}:TimD) a ({qr:=3,who:=0,qc:=r.qc}:RolD) b yv' qd _ _ ob _ [a.id] w' ‹_› qO qO qS (by show 1≤t.term+1∧t.term+1≤_;omega) (by show _≤t.term+1;omega) hn qO (hw.give [2,3,0] O qM)).mono ?_)))
   rintro _ w1 ⟨n1_,mv'2_,ms3_,rfl,hf5_1,hO⟩
   refine O6 ?_ (hw.qg [2,3,0] O hO)
   refine zA ?_
   exact zV (yJ O (fun w' hw=>⟨n1_,mv'2_,ms3_,O,(by rw[hf5_1];unfold zAF;dsimp only;rw[if_pos c1]),hw.sel [1,2,3,4,5] O qM⟩))
  refine zO (zS (zD O (zD O (ye (cs:=[Vi 3,Vi 0,Vi 0,Vn 0,Vn 0,Vn 0,Vn 0,Vn 0, .bool force, .slice none 0 0, .slice none 0 0, .slice none 0 0,Vi 0, .slice none 0 0]) (z:=[Vi 0,Vi 0,Vi 0,Vn 0,Vn 0,Vn 0,Vn 0,Vn 0, .bool false, .slice none 0 0, .slice none 0 0, .slice none 0 0,Vi 0, .slice none 0 0]) (pl:=[(0,1),(1,1),(2,1),(3,1),(4,1),(5,1),(6,1),(7,1),(8,1),(9,1),(10,2),(12,1),(13,1)]) qN qN O (a_call O O (fun w' hw=>(zGU cb jb ({t with term:=t.term+1,qD:=a.id,due:=t.now+yz a qd}:TimD) a ({qr:=3,who:=0,qc:=r.qc}:RolD) b (.pointer none) yv' qd _ _ ob _ 3 0 force w' ‹_› qO qO qO (hw.give [2,3,0] O qM)).mono ?_))))))
  rintro _ w1 ⟨mv'4_,rfl,hO⟩
  refine O4 ?_ (hw.qg [2,3,0] O hO)
  exact zd (yJ O (fun w' hw=>⟨⟨{t with term:=t.term+1,qD:=a.id,due:=t.now+yz a qd},⟨3,0,r.qc⟩,lv,es,none,yv',[a.id]⟩,mv'4_,y9 a (t.term+1) (zc b.vs (es.map EntD.toEntA)).vs 3 0 force es.length (LG 0 0 es).end_,O,(by unfold zAF kR;dsimp only;rw[if_neg c1,List.length_map];rfl),((hw.qG).sel [1,2,4,0,3] O qM)⟩))
theorem zQd{S:List Nat}(cb jb:Nat)(t:TimD)(a:StA)(r:RolD)(b:StB)(yv:Value)(qd:Nat)(lv:Value)(es:List EntD)(ob:Nat)(o:OutD)(yes:List Int)(w:World)(hg:(LG 0 0 es).good)(hl:es.length≤100000)(hvl:b.vs.length≤12)(hcm:1≤((zc b.vs (es.map EntD.toEntA)).vs++(zc b.vs (es.map EntD.toEntA)).ls).length∧((zc b.vs (es.map EntD.toEntA)).vs++(zc b.vs (es.map EntD.toEntA)).ls).length≤12)(htm:t.term<4611686018427387904)(hen:(LG 0 0 es).end_≤t.term)(hn:0≤t.now∧t.now≤1000000000000000)(ho:o.qj.length≤1000)(ha:a.ok)(hd:qd<18446744073709551616)(hin:Own w S [z4 cb t (.pointer none) a r b yv jb qd (pt ob),Res.nl b lv es,Res.ou ob o] w):Rets Tryz.prog 37 #[pt cb] w fun u_ w'=>∃ (n:NdD) (mv':Value) (ms:List MsgD),u_= .tuple #[]∧(n.a,ms.map MsgD.a)=zJl a b.vs qd {t:=t,r:=r,E:=es.map EntD.toEntA,ld:=none,yes:=yes}∧Own w S [z4 cb n.t (xJ n.y) a n.r b n.yv jb qd (pt ob),Res.nl b n.lv n.es,Res.lo n.y,vI n.yv n.yes,Res.ou ob ({o with mv:=mv',qj:=o.qj++ms}:OutD)] w':=by
  refine zW Tryz.func37 O Tryz.ntmps37 hin ?_
  refine zB (zD O (a_call O O (fun w' hw=>(kU cb jb t a r b yv (pt ob) qd 0 w' (hw.give [0] O qM)).mono ?_)))
  rintro _ w1 ⟨rfl,hO⟩
  refine O3 ?_ (hw.qg [0] O hO)
  refine zA (zB (zD O (zD O (zD O (za O O (zJ (o:=10) O O (zL 2 (v:=Vi a.id) O O O O (zy (e:=3) (sz:=1) (vs:=[Vi a.id]) qN O O qR qM O (fun b10=>za O O (zJ (o:=21) O O (zn 2 O O O O O (za O O ?_))))))))))))
  refine zJ (o:=30) O O (zn 2 O O O O O (zA (zN (zB (zD O (a_call O O (fun w' hw=>(zCd cb jb t a ({qr:=2,who:=0,qc:=r.qc}:RolD) b (.pointer none) (.slice (some ⟨b10,0,none⟩) 1 1) (pt ob) qd _ _ w' ‹_› qO qO (hw.give [2,0] O qM)).mono ?_)))))))
  rintro _ w1 ⟨rfl,hO⟩
  refine O4 ?_ (hw.qg [2,0] O hO)
  refine zA (zY O (fun c1=> ?_) (fun c1=> ?_))
  ·refine zB (zD O (a_call O O (fun w' hw=>(zEi cb jb t a ({qr:=2,who:=0,qc:=r.qc}:RolD) b (.slice (some ⟨b10,0,none⟩) 1 1) qd _ _ ob _ false [a.id] w' ‹_› qO qO qS qO qO qO qO ‹_› qO (hw.give [2,3,0] O qM)).mono ?_)))
   rintro _ w1 ⟨n1_,mv'2_,ms3_,rfl,hf3_1,hO⟩
   refine O6 ?_ (hw.qg [2,3,0] O hO)
   refine zA ?_
   exact zV (yJ O (fun w' hw=>⟨n1_,mv'2_,ms3_,O,(by rw[hf3_1];unfold zJl;dsimp only;rw[if_pos c1]),hw.sel [1,2,3,4,5] O qM⟩))
  refine zO (zS (zD O (zD O (za O O (zJ (o:=0) O O (zJ (o:=0) O O (zL 2 (v:=Vn t.term) O O O O (zp O O (xO V) O (ye (cs:=[Vi 1,Vi 0,Vi 0,Vn (t.term+1),Vn 0,Vn 0,Vn 0,Vn 0, .bool false, .slice none 0 0, .slice none 0 0, .slice none 0 0,Vi 0, .slice none 0 0]) (z:=[Vi 0,Vi 0,Vi 0,Vn 0,Vn 0,Vn 0,Vn 0,Vn 0, .bool false, .slice none 0 0, .slice none 0 0, .slice none 0 0,Vi 0, .slice none 0 0]) (pl:=[(0,1),(1,1),(2,1),(3,1),(4,1),(5,1),(6,1),(7,1),(8,1),(9,1),(10,2),(12,1),(13,1)]) qN qN O (a_call O O (fun w' hw=>(zGU cb jb t a ({qr:=2,who:=0,qc:=r.qc}:RolD) b (.pointer none) (.slice (some ⟨b10,0,none⟩) 1 1) qd _ _ ob _ 1 (t.term+1) false w' ‹_› qO qO qO (hw.give [2,3,0] O qM)).mono ?_)))))))))))
  rintro _ w1 ⟨mv'4_,rfl,hO⟩
  refine O4 ?_ (hw.qg [2,3,0] O hO)
  exact zd (yJ O (fun w' hw=>⟨⟨t,⟨2,0,r.qc⟩,lv,es,none,(.slice (some ⟨b10,0,none⟩) 1 1),[a.id]⟩,mv'4_,y9 a t.term (zc b.vs (es.map EntD.toEntA)).vs 1 (t.term+1) false es.length (LG 0 0 es).end_,O,(by unfold zJl kR;dsimp only;rw[if_neg c1,List.length_map];rfl),((hw.qG).sel [1,2,4,0,3] O qM)⟩))
def jX(a:StA)(term:Nat)(m:MsgA)(kind:Int)(idx lt:Nat)(flag:Bool):MsgA:=⟨kind,a.id,m.src,term,idx,lt,0,m.round,flag,[],⟨[],[]⟩,0,[]⟩
theorem zFJ{a:StA}{term:Nat}{m:MsgD}{kind:Int}{idx lt:Nat}{flag:Bool}(h:kind≠1∧kind≠2): [yd a term (yo kind 0 m.src 0 idx lt 0 m.round flag (.slice none 0 0) [])].map MsgD.a=[jX a term m.a kind idx lt flag]:=by
  rw[zDp h];rfl
def kw(a:StA)(m:MsgA)(n:NodA):NodA×List MsgA:=
  if m.index<n.r.qc then(n,[jX a n.t.term m 6 n.r.qc 0 true])
  else if ∃ e∈m.ql,n.t.term<e.term then(n,[])
  else if((LogA.mk 0 0 n.E).ans m.index m.qm m.ql).2.2=0 then({n with E:=((LogA.mk 0 0 n.E).append m.index m.qm m.ql).l,r:={n.r with qc:=max n.r.qc (min m.qc ((LogA.mk 0 0 n.E).ans m.index m.qm m.ql).1)}},[jX a n.t.term m 6 ((LogA.mk 0 0 n.E).ans m.index m.qm m.ql).1 0 true])
  else if((LogA.mk 0 0 n.E).ans m.index m.qm m.ql).2.2=12 then(n,[jX a n.t.term m 6 ((LogA.mk 0 0 n.E).hint m.index m.qm).1 ((LogA.mk 0 0 n.E).hint m.index m.qm).2 false])
  else(n,[])
theorem zI6{x:LogA}{i t:Nat}{m:List EntA}(h:¬(x.ans i t m).2.2=0):(x.append i t m).l=x.l:=by
  unfold LogA.append
  unfold LogA.ans at h
  split
  · rename_i q;rw[if_pos q.1,if_pos q.2]at h;exact absurd rfl h
  rfl
theorem zKv{S:List Nat}(cb jb:Nat)(t:TimD)(a:StA)(r:RolD)(b:StB)(qd:Nat)(lv:Value)(es:List EntD)(ob:Nat)(o:OutD)(m:MsgD)(w:World)(hg:(LG 0 0 es).good)(hl:es.length≤100000)(hm:m.wf)(ho:o.qj.length≤1000)(hin:Own w S [z4 cb t (.pointer none) a r b (.slice none 0 0) jb qd (pt ob),Res.nl b lv es,Res.ou ob o] w)(rd_m:MsgD.rd m w S):Rets Tryz.prog 134 #[pt cb, .agg (MsgD.cells m).toArray] w fun u_ w'=>∃ (n:NdD) (mv':Value) (ms:List MsgD),u_= .tuple #[]∧(n.a,ms.map MsgD.a)=kw a m.a {t:=t,r:=r,E:=es.map EntD.toEntA,ld:=none,yes:=[]}∧Own w S [z4 cb n.t (xJ n.y) a n.r b n.yv jb qd (pt ob),Res.nl b n.lv n.es,Res.lo n.y,vI n.yv n.yes,Res.ou ob ({o with mv:=mv',qj:=o.qj++ms}:OutD)] w':=by
  have hme:=hm.ql
  have hl1:(es.map EntD.toEntA).length=es.length:=List.length_map _
  refine zW Tryz.func134 O Tryz.ntmps134 hin ?_
  refine zB (z3 O O (fun b3=>zA (zN (yX qN qN (zM O (zH (o:=4) O) (zM O (zZ 3 (v:=Vn m.index) O O O) (zM O zT (zM O (zQ O) (zM O (zH (o:=23) O) (zM O (zZ 0 (v:=Vn r.qc) O O O) (zM O (zDR O O) (xk ?_))))))))))))
  refine zY O (fun c1=> ?_) (fun c1=> ?_)
  ·refine zN (zg [0,1,3] O qM qN (fun w' hw hS=>zC 0 O zT hS (zC 1 O (x8 (cs:=(MsgD.cells m)) 2 O O) hS (zC 2 O zT hS (zC 3 O (zQ O) hS (zC 4 O (zH (o:=23) O) hS (zC 5 O (zZ 0 (v:=Vn r.qc) O O O) hS (zC 6 O (zDX (cs:=[Vi 6,Vi 0,Vi 0,Vn 0,Vn r.qc,Vn 0,Vn 0,Vn 0, .bool true, .slice none 0 0, .slice none 0 0, .slice none 0 0,Vi 0, .slice none 0 0]) (z:=[Vi 0,Vi 0,Vi 0,Vn 0,Vn 0,Vn 0,Vn 0,Vn 0, .bool false, .slice none 0 0, .slice none 0 0, .slice none 0 0,Vi 0, .slice none 0 0]) (pl:=[(0,1),(1,1),(2,1),(3,1),(4,1),(5,1),(6,1),(7,1),(8,1),(9,1),(10,2),(12,1),(13,1)]) qN qN) hS (zK 7 O hw (a_call O O (fun w' hw=>(zFK cb jb t a r b (.pointer none) (.slice none 0 0) qd ob _ m 6 r.qc 0 true w' qO (hw.give [0,2] O qM) (rd_m.at hw [0,2] O)).mono ?_)))))))))))
   rintro _ w1 ⟨mv'1_,rfl,hO⟩
   refine O4 ?_ (hw.qg [0,2] O hO)
   refine zE [2,0,1] O qM (fun w' hw hS=>zU ?_)
   refine Oc4 ?_ hw
   exact zV (yJ O (fun w' hw=>⟨({t:=t,r:=r,lv:=lv,es:=es,y:=none,yv:= .slice none 0 0,yes:=[]}:NdD),mv'1_,[yd a t.term (yo 6 0 m.src 0 r.qc 0 0 m.round true (.slice none 0 0) [])],O,(by unfold kw;rw[if_pos (by show m.index<r.qc;omega),zFJ qM];rfl),(zl (Own.qG hw) 3 1).sel [2,0,4,5,3] O qM⟩))
  have hc1:¬ m.a.index<r.qc:=fun q=>c1 (by have h:m.index<r.qc:=q;omega)
  refine zO (zN (zB (zD O (yI (cs:=(MsgD.cells m)) 3 O O O (a_call O O (fun w' hw=>(zPB cb jb t a r b (.pointer none) (.slice none 0 0) (pt ob) qd m w' ‹_› (hw.give [0] O qM) (rd_m.at hw [0] O)).mono ?_))))))
  rintro _ w1 ⟨rfl,hO⟩
  refine O4 ?_ (hw.qg [0] O hO)
  refine zA (zY O (fun c2=> ?_) (fun c2=> ?_))
  ·have hc2:∃ e∈m.a.ql,t.term<e.term:=by obtain⟨q,hq,h⟩:=c2;exact⟨_,List.mem_map_of_mem hq,h⟩
   exact zV (yJ O (fun w' hw=>⟨({t:=t,r:=r,lv:=lv,es:=es,y:=none,yv:= .slice none 0 0,yes:=[]}:NdD),o.mv,[],O,(by unfold kw;rw[if_neg hc1,if_pos hc2];rfl),(by rw[List.append_nil];exact(zl (Own.qG hw) 3 1).sel [3,0,4,5,1] rfl qM)⟩))
  have hc2:¬ ∃ e∈m.a.ql,t.term<e.term:=fun⟨e,he,h⟩=>by obtain⟨q,hq,rfl⟩:=List.mem_map.1 he;exact c2 ⟨q,hq,h⟩
  refine zO (zN (zg [1,2,3] O qM qN (fun w' hw hS=>zC 0 O zT hS (zC 1 O (zQ O) hS (zC 2 O (zH (o:=29) O) hS (zC 3 O (zZ 2 (v:=pt b.lb) O O O) hS (zC 4 O (zH (o:=4) O) hS (zC 5 O (zZ 1 (v:=Vn m.index) O O O) hS (zC 6 O (zH (o:=5) O) hS (zC 7 O (zZ 1 (v:=Vn m.qm) O O O) hS (zC 8 O (zH (o:=9) O) hS (zC 9 O (zZ 1 (v:=m.ev) O O O) hS ?_))))))))))))
  refine zK 10 O hw ?_
  refine z2 [Res.ou ob o,Res.row b3 59 (MsgD.cells m),z4 cb t (.pointer none) a r b (.slice none 0 0) jb qd (pt ob),Res.row b.lb 144 [Vn 0,Vn 0,lv],vE lv es,sE es,vI b.vv b.vs,vI b.wv ([]:List Int)] (fun w' hw=>hw.qn 0 O) ?_
  refine a_call O O (fun w' hw=>(zDv b.lb 0 0 lv es m.index m.qm m.ev m.ql w' V hg hm.each hm.index (hw.give [3,4,5] O qM) (hw.rdTo rd_m.ev [3,4,5] O) (fun p hp=>EntD.rd.at (rd_m.ev_all p hp) hw [3,4,5] O)).mono ?_)
  rintro _ w1 ⟨lv'2_,es'3_,x4_,y5_,e6_,rfl,hf4_10,hf4_10_1,hO⟩
  have hA:(LogA.mk 0 0 (es.map EntD.toEntA)).ans m.a.index m.a.qm m.a.ql=(x4_,y5_,e6_):=hf4_10_1
  have hB:es'3_.map EntD.toEntA=((LogA.mk 0 0 (es.map EntD.toEntA)).append m.a.index m.a.qm m.a.ql).l:=congrArg LogA.l hf4_10
  refine O8 ?_ (hw.qg [3,4,5] O hO)
  refine zE [0,1,2] O qM (fun w' hw hS=>zC 11 O zT hS (zC 12 O (yT (vs:=[Vn x4_,Vn y5_,Vi e6_]) O O) hS (zC 13 O (yT (vs:=[Vn x4_,Vn y5_,Vi e6_]) O O) hS (zC 14 O (yT (vs:=[Vn x4_,Vn y5_,Vi e6_]) O O) hS (zC 15 O yO hS (zC 16 O yO hS (zC 17 O yO hS (zU ?_))))))))
  refine Oc8 ?_ hw
  refine zB (zD O (zA (zX (zB (yQ O O O (zI O (zA (zY O (fun c3=> ?_) (fun c3=> ?_)))))))))
  ·refine zN (zg [0,1,3,4,5,6] O qM qN (fun w' hw hS=>zC 0 O zT hS (zC 1 O zT hS (zC 2 O (zQ O) hS (zC 3 O (zH (o:=23) O) hS (zC 5 O (zH (o:=6) O) hS (zC 6 O (zZ 1 (v:=Vn m.qc) O O O) hS (zC 7 O zT hS (zC 8 O (zFk (c:=((min m.qc x4_:Nat):Int)) O O (zNJ _ _)) hS (zK 4 O hw (zL 2 (v:=Vn r.qc) O O O O (zE [0,1,3,4,5,6] O qM (fun w' hw hS=> ?_)))))))))))))
   refine zC 9 O (zGI (c:=((max r.qc (min m.qc x4_):Nat):Int)) O O (zEs _ _)) hS (zC 10 O (zQ O) hS (zC 11 O (zH (o:=23) O) hS (zK 12 O hw (zn 2 O O O O O (zE [0,1,3,4,5,6] O qM (fun w' hw hS=>zU ?_))))))
   refine Oc8 ?_ hw
   refine zS (zD O (yI (cs:=(MsgD.cells m)) 1 O O O (zD O (ye (cs:=[Vi 6,Vi 0,Vi 0,Vn 0,Vn x4_,Vn 0,Vn 0,Vn 0, .bool true, .slice none 0 0, .slice none 0 0, .slice none 0 0,Vi 0, .slice none 0 0]) (z:=[Vi 0,Vi 0,Vi 0,Vn 0,Vn 0,Vn 0,Vn 0,Vn 0, .bool false, .slice none 0 0, .slice none 0 0, .slice none 0 0,Vi 0, .slice none 0 0]) (pl:=[(0,1),(1,1),(2,1),(3,1),(4,1),(5,1),(6,1),(7,1),(8,1),(9,1),(10,2),(12,1),(13,1)]) qN qN O (a_call O O (fun w' hw=>(zFK cb jb t a ({r with qc:=max r.qc (min m.qc x4_)}:RolD) b (.pointer none) (.slice none 0 0) qd ob _ m 6 x4_ 0 true w' qO (hw.give [2,0] O qM) (rd_m.at hw [2,0] O)).mono ?_))))))
   rintro _ w1 ⟨mv'7_,rfl,hO⟩
   refine O8 ?_ (hw.qg [2,0] O hO)
   exact zd (yJ O (fun w' hw=>⟨({t:=t,r:={r with qc:=max r.qc (min m.qc x4_)},lv:=lv'2_,es:=es'3_,y:=none,yv:= .slice none 0 0,yes:=[]}:NdD),mv'7_,[yd a t.term (yo 6 0 m.src 0 x4_ 0 0 m.round true (.slice none 0 0) [])],O,(by unfold kw NdD.a;rw[if_neg hc1,if_neg hc2,hA,if_pos c3,zFJ qM,←hB];rfl),(zl (Own.qG (hw.qo [3,4,5,1,2] O qM)) 3 1).sel [1,3,4,5,2] O qM⟩))
  have hno:es'3_.map EntD.toEntA=es.map EntD.toEntA:=hB.trans (zI6 (by rw[hA];exact c3))
  have hl2:es'3_.length=es.length:=by have h:=congrArg List.length hno;rw[List.length_map,List.length_map]at h;exact h
  refine zB (yQ O O O (zI O (zA (zY O (fun c4=> ?_) (fun c4=> ?_)))))
  ·refine zN (zg [0,1,2,3,4,5,6] O qM qN (fun w' hw hS=>zC 0 O zT hS (zC 1 O (zQ O) hS (zC 2 O (zH (o:=29) O) hS (zC 3 O (zZ 2 (v:=pt b.lb) O O O) hS (zC 4 O (zH (o:=4) O) hS (zC 5 O (zZ 1 (v:=Vn m.index) O O O) hS (zC 6 O (zH (o:=5) O) hS (zC 7 O (zZ 1 (v:=Vn m.qm) O O O) hS (zK 8 O hw (a_call O O (fun w' hw=>(zKb b.lb 0 0 lv'2_ es'3_ m.index m.qm w' qP (hw.rdRes0 5 O) (hw.qp 6 O) (EntD.rd.star0 7 O hw)).mono ?_))))))))))))
   rintro _ w1 ⟨x8_,y9_,rfl,hf10_8,hO⟩
   have hH:(LogA.mk 0 0 (es.map EntD.toEntA)).hint m.a.index m.a.qm=(x8_,y9_):=by rw[←hno];exact hf10_8
   refine O8 ?_ (hw.qi hO)
   refine zE [0,1,2,3,4,5,6] O qM (fun w' hw hS=>zC 9 O zT hS (zC 10 O (yT (vs:=[Vn x8_,Vn y9_]) O O) hS (zC 11 O (yT (vs:=[Vn x8_,Vn y9_]) O O) hS (zC 12 O yO hS (zC 13 O yO hS (zU ?_))))))
   refine Oc8 ?_ hw
   refine zS (zD O (yI (cs:=(MsgD.cells m)) 1 O O O (zD O (zD O (ye (cs:=[Vi 6,Vi 0,Vi 0,Vn 0,Vn x8_,Vn y9_,Vn 0,Vn 0, .bool false, .slice none 0 0, .slice none 0 0, .slice none 0 0,Vi 0, .slice none 0 0]) (z:=[Vi 0,Vi 0,Vi 0,Vn 0,Vn 0,Vn 0,Vn 0,Vn 0, .bool false, .slice none 0 0, .slice none 0 0, .slice none 0 0,Vi 0, .slice none 0 0]) (pl:=[(0,1),(1,1),(2,1),(3,1),(4,1),(5,1),(6,1),(7,1),(8,1),(9,1),(10,2),(12,1),(13,1)]) qN qN O (a_call O O (fun w' hw=>(zFK cb jb t a r b (.pointer none) (.slice none 0 0) qd ob _ m 6 x8_ y9_ false w' qO (hw.give [2,0] O qM) (rd_m.at hw [2,0] O)).mono ?_)))))))
   rintro _ w1 ⟨mv'10_,rfl,hO⟩
   refine O8 ?_ (hw.qg [2,0] O hO)
   exact zd (yJ O (fun w' hw=>⟨({t:=t,r:=r,lv:=lv'2_,es:=es'3_,y:=none,yv:= .slice none 0 0,yes:=[]}:NdD),mv'10_,[yd a t.term (yo 6 0 m.src 0 x8_ y9_ 0 m.round false (.slice none 0 0) [])],O,(by unfold kw NdD.a;rw[if_neg hc1,if_neg hc2,hA,if_neg c3,if_pos c4,zFJ qM,hH,hno];rfl),(zl (Own.qG (hw.qo [3,4,5,1,2] O qM)) 3 1).sel [1,3,4,5,2] O qM⟩))
  exact yc (yJ O (fun w' hw=>⟨({t:=t,r:=r,lv:=lv'2_,es:=es'3_,y:=none,yv:= .slice none 0 0,yes:=[]}:NdD),o.mv,[],O,(by unfold kw NdD.a;rw[if_neg hc1,if_neg hc2,hA,if_neg c3,if_neg c4,hno];rfl),(by rw[List.append_nil];exact(zl (Own.qG (hw.qo [5,6,7,3,4] rfl qM)) 3 1).sel [2,3,4,5,0] rfl qM)⟩))
end Go.Proofs.YtkkeknmkipkbmaaGreat
