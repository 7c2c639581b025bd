import Derived.Test.YtkkeknmkipkbmaaGreatCoL
set_option linter.unusedSectionVars false
set_option linter.unusedSimpArgs false
set_option linter.unusedVariables false
set_option maxRecDepth 10000
namespace Go.Proofs.YtkkeknmkipkbmaaGreat
open Go Go.Sc Go.Proofs
def xF:Option (Nat×LdD)→Value
  |none=> .pointer none
  |some q=>pt q.1
def Res.lo:Option (Nat×LdD)→Res
  |none=>Res.star []
  |some q=>Res.ld q.1 q.2
def er(ps:List PeerP):List PeerP:=ps.map fun q=>(0,q.2)
def LdD.er(l:LdD):LdD:={pv:= .slice none 0 0,qa:=YtkkeknmkipkbmaaGreat.er l.qa,av:= .slice none 0 0,qf:=l.qf,rv:= .slice none 0 0,qd:=l.qd,sure:=l.sure,kv:= .slice none 0 0,qj:=l.qj,give:=l.give,qB:=l.qB}
structure NodA where
  t:TimD
  r:RolD
  E:List EntA
  ld:Option LdD
  yes:List Int
structure NdD where
  t:TimD
  r:RolD
  lv:Value
  es:List EntD
  y:Option (Nat×LdD)
  yv:Value
  yes:List Int
def NdD.a(n:NdD):NodA:={t:=n.t,r:=n.r,E:=n.es.map EntD.toEntA,ld:=n.y.map fun q=>q.2.er,yes:=n.yes}
theorem zDf{ps:List PeerP}{k:Nat}:(zG (er ps) k).2=(zG ps k).2:=by
  unfold er zG
  rw[List.getElem?_map]
  cases ps[k]?<;>rfl
theorem peerIx_er{ps:List PeerP}{id:Int}:ya (er ps) id=ya ps id:=by
  unfold ya er
  rw[List.findIdx?_map];rfl
theorem zDh{id:Int}{vs:List Int}{ps:List PeerP}{self:Nat}{of:PeerM→Nat}:zw id vs (er ps) self of=zw id vs ps self of:=by
  unfold zw
  refine List.map_congr_left fun v _=> ?_
  unfold xp
  rw[peerIx_er]
  split
  · rfl
  cases ya ps v with
  |none=>rfl
  |some k=>show of (zG (er ps) k).2=_;rw[zDf]
theorem zCO{a:StA}{term:Nat}{vs0:List Int}{E:List EntA}{ps:List PeerP}{qc:Nat}:yY a term vs0 E (er ps) qc=yY a term vs0 E ps qc:=by unfold yY;rw[zDh]
theorem zMX{a:StA}{vs0:List Int}{E:List EntA}{ps:List PeerP}{qd:List Int}{sure:Nat}:xa a vs0 E (er ps) qd sure=xa a vs0 E ps qd sure:=by unfold xa;rw[zDh]
theorem zFD{g:PeerM→List MsgA}{ps:List PeerP}:jR g (er ps)=jR g ps:=by unfold jR er;rw[List.flatMap_map]
theorem zCE{ps:List PeerP}:(er ps).length=ps.length:=List.length_map _
theorem zE7{ps:List PeerP}{k:Nat}{q:PeerM}:er (z5 ps k q)=z5 (er ps) k q:=by
  unfold z5 er
  rw[List.map_set]
  congr 1
  have h:∀ k:Nat,(zG (ps.map fun q=>((0:Nat),q.2)) k).1=0:=fun k=>by unfold zG;rw[List.getElem?_map];cases ps[k]?<;>rfl
  rw[h]
theorem zGw{ps:List PeerP}{f:PeerM→PeerM}:er (ps.map fun q=>(q.1,f q.2))=(er ps).map fun q=>(q.1,f q.2):=by unfold er;simp[List.map_map,Function.comp]
theorem zQz{ps:List PeerP}{l:List PeerM}(h:ps.map Prod.snd=l):er ps=l.map fun p=>(0,p):=by rw[←h];unfold er;rw[List.map_map];rfl
def zMV(l:List Int):List Int:=l.mergeSort fun x y=>decide (x≤y)
theorem zIT{l l':List Int}(h:l'.Perm l)(h2:l'.Pairwise (fun x y=>jE x y)):l'=zMV l:=by
  have h3:(zMV l).Pairwise (fun a b=>decide (a≤b)=true):=List.pairwise_mergeSort (by intro a b c;simp;omega) (by intro a b;simp;omega) _
  refine List.Perm.eq_of_pairwise (le:=fun a b=>decide (a≤b)=true) (fun a b _ _ p q=>by simp at p q;omega) (h2.imp fun q=>by simpa using ole_int.1 q) h3 (h.trans (List.mergeSort_perm _ _).symm)
def followF(wh:Int)(n:NodA):NodA:={n with r:=⟨1,wh,n.r.qc⟩,ld:=none,yes:=[]}
def jh(x:Option LdD):List Nat:=match x with
  |none=>[]
  |some l=>l.qj.map LookM.id
def jZ(a:StA)(vs0:List Int)(E:List EntA):List PeerP:=((zMV ((zc vs0 E).vs++(zc vs0 E).ls)).filter (· ≠a.id)).map fun i=>(0,xX E.length i)
def ja(a:StA)(vs0:List Int)(n:NodA):NodA×List MsgA:=
  let E:=n.E++[zAv n.E.length n.t.term]
  let c:=yY a n.t.term vs0 E (jZ a vs0 n.E) n.r.qc
  ({t:={n.t with qC:=n.t.now,qz:=n.t.now,qE:=n.t.now},r:=⟨4,a.id,c⟩,E:=E,ld:=some {pv:= .slice none 0 0,qa:=(jZ a vs0 n.E).map (fun q=>(q.1,yG E q.2)),av:= .slice none 0 0,qf:=[],rv:= .slice none 0 0,qd:=[n.t.now],sure:=if(zc vs0 E).qv [a.id]then 1 else 0,kv:= .slice none 0 0,qj:=[],give:=0,qB:=false},yes:=[]},jR (zAI a n.t.term c 1 E) (jZ a vs0 n.E))
def kZ(a:StA)(term:Nat)(vs:List Int)(kind:Int)(tm:Nat)(flag:Bool)(E:List EntA):List MsgA:=(xE a term vs kind tm flag E.length (LogA.mk 0 0 E).end_).map MsgD.a
def zAV(a:StA)(vs0:List Int)(qe:Nat)(force:Bool)(n:NodA):NodA×List MsgA:=
  let n1:NodA:={n with t:={n.t with term:=n.t.term+1,qD:=a.id,due:=n.t.now+y4 a qe},r:=⟨3,0,n.r.qc⟩,ld:=none,yes:=[a.id]}
  if(zc vs0 n.E).qv [a.id]then ja a vs0 n1 else(n1,kZ a (n.t.term+1) (zc vs0 n.E).vs 3 0 force n.E)
def zKP(a:StA)(vs0:List Int)(qe:Nat)(n:NodA):NodA×List MsgA:=
  let n1:NodA:={n with r:=⟨2,0,n.r.qc⟩,ld:=none,yes:=[a.id]}
  if(zc vs0 n.E).qv [a.id]then zAV a vs0 qe false n1 else(n1,kZ a n.t.term (zc vs0 n.E).vs 1 (n.t.term+1) false n.E)
theorem zJJ(cb jb:Nat)(t:TimD)(a:StA)(r:RolD)(b:StB)(yv:Value)(qe ob:Nat)(o:OutD)(y:Option (Nat×LdD))(wh:Int)(w:World)(hl:∀ q,y=some q→q.2.qj.length≤1000000)(ho:o.qt.length=0)(hin:Own w (y1 [z7 cb t (xF y) a r b yv jb qe (pt ob),Res.lo y,Res.ou ob o]) [z7 cb t (xF y) a r b yv jb qe (pt ob),Res.lo y,Res.ou ob o] w):Rets Tryz.prog 70 #[pt cb,Vi wh] w fun u_ w'=>∃ (xw:Value),u_= .tuple #[]∧Own w (y1 [z7 cb t (xF y) a r b yv jb qe (pt ob),Res.lo y,Res.ou ob o]) [z7 cb t (.pointer none) a ({qp:=1,who:=wh,qc:=r.qc}:RolD) b (.slice none 0 0) jb qe (pt ob),Res.ou ob ({o with xv:=xw,qt:=jh (y.map Prod.snd)}:OutD)] w':=by
  cases y with
  |none=>
    refine(kh cb jb t a r b yv (pt ob) qe wh w (hin.give [0] O qM)).mono ?_
    rintro _ w1 ⟨rfl,hO⟩
    refine⟨o.xv,O,?_⟩
    rw[show jh ((none:Option (Nat×LdD)).map Prod.snd)=o.qt from(List.eq_nil_of_length_eq_zero ho).symm]
    exact(hin.qh [0] O hO).sel [2,1] O qM
  |some q=>exact zBb cb jb t a r b yv qe wh q.1 q.2 ob o w (hl q rfl) ho hin
theorem zGh(cb jb:Nat)(t:TimD)(a:StA)(r:RolD)(b:StB)(yv:Value)(qe:Nat)(lv:Value)(es:List EntD)(ob:Nat)(o:OutD)(yes:List Int)(w:World)(hg:(LG 0 0 es).good)(hl:es.length≤100000)(hvl:b.vs.length≤12)(hcm:1≤((zc b.vs (es.map EntD.toEntA)).vs++(zc b.vs (es.map EntD.toEntA)).ls).length∧((zc b.vs (es.map EntD.toEntA)).vs++(zc b.vs (es.map EntD.toEntA)).ls).length≤12)(htm:1≤t.term∧t.term≤4611686018427387904)(hen:(LG 0 0 es).end_≤t.term)(hn:0≤t.now∧t.now≤1000000000000000)(ho:o.qk.length≤1000)(hin:Own w (y1 [z7 cb t (.pointer none) a r b yv jb qe (pt ob),Res.nl b lv es,Res.ou ob o]) [z7 cb t (.pointer none) a r b yv jb qe (pt ob),Res.nl b lv es,Res.ou ob o] w):Rets Tryz.prog 119 #[pt cb] w fun u_ w'=>∃ (n:NdD) (mv':Value) (ms:List MsgD),u_= .tuple #[]∧(n.a,ms.map MsgD.a)=ja a b.vs {t:=t,r:=r,E:=es.map EntD.toEntA,ld:=none,yes:=yes}∧Own w (y1 [z7 cb t (.pointer none) a r b yv jb qe (pt ob),Res.nl b lv es,Res.ou ob o]) [z7 cb n.t (xF n.y) a n.r b n.yv jb qe (pt ob),Res.nl b n.lv n.es,Res.lo n.y,vI n.yv n.yes,Res.ou ob ({o with mv:=mv',qk:=o.qk++ms}:OutD)] w':=by
  refine(zLI cb jb t a r b yv qe lv es 0 ob o w hg hl hvl hcm htm hen hn ho hin).mono ?_
  rintro _ w1 ⟨ld,pv,lv',mv',rv',es',ids,ps,ms,rfl,hg',hE,hp,hs,hps,hms,hO⟩
  refine⟨⟨_,_,lv',es',some (ld,_),_,[]⟩,mv',ms,O,?_,(zm hO 3 1).sel [0,1,2,4,3] O qM⟩
  have hid:=zIT hp hs
  have her:er ps=jZ a b.vs (es.map EntD.toEntA):=by rw[zQz hps,hid];unfold jZ;rw[List.map_map,List.length_map];rfl
  unfold ja NdD.a LdD.er
  dsimp only
  rw[List.length_map,←hE,←her,zCO,zFD,←zGw,hms];rfl
theorem zE0{S:List Nat}(cb jb:Nat)(t:TimD)(a:StA)(r:RolD)(b:StB)(yv:Value)(qe:Nat)(lv:Value)(es:List EntD)(ob:Nat)(o:OutD)(force:Bool)(yes:List Int)(w:World)(hg:(LG 0 0 es).good)(hl:es.length≤100000)(hvl:b.vs.length≤12)(hcm:1≤((zc b.vs (es.map EntD.toEntA)).vs++(zc b.vs (es.map EntD.toEntA)).ls).length∧((zc b.vs (es.map EntD.toEntA)).vs++(zc b.vs (es.map EntD.toEntA)).ls).length≤12)(htm:t.term<4611686018427387904)(hen:(LG 0 0 es).end_≤t.term)(hn:0≤t.now∧t.now≤1000000000000000)(ho:o.qk.length≤1000)(ha:a.ok)(hd:qe<18446744073709551616)(hin:Own w S [z7 cb t (.pointer none) a r b yv jb qe (pt ob),Res.nl b lv es,Res.ou ob o] w):Rets Tryz.prog 74 #[pt cb, .bool force] w fun u_ w'=>∃ (n:NdD) (mv':Value) (ms:List MsgD),u_= .tuple #[]∧(n.a,ms.map MsgD.a)=zAV a b.vs qe force {t:=t,r:=r,E:=es.map EntD.toEntA,ld:=none,yes:=yes}∧Own w S [z7 cb n.t (xF n.y) a n.r b n.yv jb qe (pt ob),Res.nl b n.lv n.es,Res.lo n.y,vI n.yv n.yes,Res.ou ob ({o with mv:=mv',qk:=o.qk++ms}:OutD)] w':=by
  have hw1:=jL (qe:=qe) ha
  refine zW Tryz.func74 O Tryz.ntmps74 hin ?_
  refine zBD ([(0,pt cb),(1, .bool force)]) (True) ([z7 cb ({t with term:=t.term+1,qD:=a.id}:TimD) (.pointer none) a r b yv jb qe (pt ob),Res.nl b lv es,Res.ou ob o]) ?_ (fun g hΦ=> ?_)
  ·refine ze [1,2] O qM qN (fun w' hw hS=>zB 0 O zS hS (zB 1 O zS hS (zB 2 O (zO O) hS (zB 3 O (zH (o:=0) O) hS (zB 4 O (zH (o:=0) O) hS (zB 7 O zS hS (zB 8 O (zO O) hS (zB 9 O (zH (o:=10) O) hS (zq 5 10 ?_ ?_)))))))))
   ·refine zl 5 O hw (zM 0 (v:=Vn t.term) O O O O (zE [1,2] O qM (fun w' hw hS=>zB 6 O (yr O O (xA V)) hS (zJ 10 O hw (zM 0 (v:=Vi a.id) O O O O (zE [1,2] O qM (fun w' hw hS=>zB 11 O (zA1 (cs:=[Vn (t.term+1),Vi a.id]) (z:=[Vn 0,Vi 0]) (pl:=[(0,1),(1,1)]) qN qN) hS (zB 12 O (zO O) hS (zB 13 O (zH (o:=0) O) hS (zJ 14 O hw (zo 0 O O O (xO O) O (zE [1,2] O qM (fun w' hw hS=> ?_)))))))))))))
    refine zT ?_
    exact⟨⟨O,O,trivial⟩,trivial,hw⟩
   refine zl 10 O hw (zM 0 (v:=Vi a.id) O O O O (zE [1,2] O qM (fun w' hw hS=>zJ 5 O hw (zM 0 (v:=Vn t.term) O O O O (zE [1,2] O qM (fun w' hw hS=>zB 6 O (yr O O (xA V)) hS (zB 11 O (zA1 (cs:=[Vn (t.term+1),Vi a.id]) (z:=[Vn 0,Vi 0]) (pl:=[(0,1),(1,1)]) qN qN) hS (zB 12 O (zO O) hS (zB 13 O (zH (o:=0) O) hS (zJ 14 O hw (zo 0 O O O (xO O) O (zE [1,2] O qM (fun w' hw hS=> ?_)))))))))))))
   refine zT ?_
   exact⟨⟨O,O,trivial⟩,trivial,hw⟩
  refine zC (zD O (a_call O O (fun w' hw=>(kh cb jb ({t with term:=t.term+1,qD:=a.id}:TimD) a r b yv (pt ob) qe 0 w' (hw.give [0] O qM)).mono ?_)))
  rintro _ w1 ⟨rfl,hO⟩
  refine O3 ?_ (hw.qh [0] O hO)
  refine zA (yt (fun(yv':Value)=>[(0,pt cb),(1, .bool force)]) (fun(yv':Value)=>True) (fun(yv':Value)=>[z7 cb ({t with term:=t.term+1,qD:=a.id}:TimD) (.pointer none) a ({qp:=3,who:=0,qc:=r.qc}:RolD) b yv' jb qe (pt ob),Res.nl b lv es,Res.ou ob o,vI yv' [a.id]]) ?_ (fun yv' g hΦ=> ?_))
  ·refine zV (zD O (zD O (zD O (zb O O (zK (o:=10) O O (zM 2 (v:=Vi a.id) O O O O (zx (e:=3) (sz:=1) (vs:=[Vi a.id]) qN O O qR qM O (fun b26=>zb O O (zK (o:=21) O O (zn 2 O O O O O (zb O O (zK (o:=30) O O ?_))))))))))))
   refine zn 2 O O O O O ?_
   exact zg (fun w' hw=>⟨(.slice (some ⟨b26,0,none⟩) 1 1),⟨O,O,trivial⟩,trivial,hw.sel [2,0,1,3] O qM⟩)
  refine zBD ([(0,pt cb),(1, .bool force)]) (True) ([z7 cb ({t with term:=t.term+1,qD:=a.id,due:=t.now+y4 a qe}:TimD) (.pointer none) a ({qp:=3,who:=0,qc:=r.qc}:RolD) b yv' jb qe (pt ob),Res.nl b lv es,Res.ou ob o,vI yv' [a.id]]) ?_ (fun g hΦ=> ?_)
  ·refine ze [1,2,3] O qM qN (fun w' hw hS=>zB 0 O zS hS (zB 1 O zS hS (zB 2 O (zO O) hS (zB 3 O (zH (o:=2) O) hS (zB 4 O (zH (o:=0) O) hS (zB 6 O zS hS (zq 5 7 ?_ ?_)))))))
   ·refine zl 5 O hw (zM 0 (v:=Vi t.now) O O O O (zE [1,2,3] O qM (fun w' hw hS=>zJ 7 O hw (a_call O O (fun w' hw=>(k0 cb jb ({t with term:=t.term+1,qD:=a.id}:TimD) a ({qp:=3,who:=0,qc:=r.qc}:RolD) b (.pointer none) yv' (pt ob) qe w' ‹_› qO (hw.give [0] O qM)).mono ?_)))))
    rintro _ w1 ⟨rfl,hO⟩
    refine O4 ?_ (hw.qh [0] O hO)
    refine zE [0,1,2] O qM (fun w' hw hS=>zB 8 O (yr O O (zr V)) hS (zB 9 O (zO O) hS (zB 10 O (zH (o:=2) O) hS (zB 11 O (zH (o:=2) O) hS (zJ 12 O hw (zn 3 O O O O O (zE [0,1,2] O qM (fun w' hw hS=>zT ?_))))))))
    exact⟨⟨O,O,trivial⟩,trivial,hw.sel [3,0,1,2] O qM⟩
   refine zl 7 O hw (a_call O O (fun w' hw=>(k0 cb jb ({t with term:=t.term+1,qD:=a.id}:TimD) a ({qp:=3,who:=0,qc:=r.qc}:RolD) b (.pointer none) yv' (pt ob) qe w' ‹_› qO (hw.give [0] O qM)).mono ?_))
   rintro _ w1 ⟨rfl,hO⟩
   refine O4 ?_ (hw.qh [0] O hO)
   refine zE [0,1,2] O qM (fun w' hw hS=>zJ 5 O hw (zM 3 (v:=Vi t.now) O O O O (zE [0,1,2] O qM (fun w' hw hS=>zB 8 O (yr O O (zr V)) hS (zB 9 O (zO O) hS (zB 10 O (zH (o:=2) O) hS (zB 11 O (zH (o:=2) O) hS (zJ 12 O hw (zn 3 O O O O O (zE [0,1,2] O qM (fun w' hw hS=>zT ?_)))))))))))
   exact⟨⟨O,O,trivial⟩,trivial,hw.sel [3,0,1,2] O qM⟩
  refine zP (zC (zD O (a_call O O (fun w' hw=>(zBe cb jb ({t with term:=t.term+1,qD:=a.id,due:=t.now+y4 a qe}:TimD) a ({qp:=3,who:=0,qc:=r.qc}:RolD) b (.pointer none) yv' (pt ob) qe _ _ w' ‹_› qO qO (hw.give [0,1] O qM)).mono ?_))))
  rintro _ w1 ⟨rfl,hO⟩
  refine O4 ?_ (hw.qh [0,1] O hO)
  refine zA (za O (fun c1=> ?_) (fun c1=> ?_))
  ·refine zC (zD O (a_call O O (fun w' hw=>(zGh cb jb ({t with term:=t.term+1,qD:=a.id,due:=t.now+y4 a qe}:TimD) a ({qp:=3,who:=0,qc:=r.qc}:RolD) b yv' qe _ _ ob _ [a.id] w' ‹_› qO qO qS (by show 1≤t.term+1∧t.term+1≤_;omega) (by show _≤t.term+1;omega) hn qO (hw.give [2,3,0] O qM)).mono ?_)))
   rintro _ w1 ⟨n1_,mv'2_,ms3_,rfl,hf5_1,hO⟩
   refine O6 ?_ (hw.qh [2,3,0] O hO)
   refine zA ?_
   exact zU (yQ O (fun w' hw=>⟨n1_,mv'2_,ms3_,O,(by rw[hf5_1];unfold zAV;dsimp only;rw[if_pos c1]),hw.sel [1,2,3,4,5] O qM⟩))
  refine zQ (zV (zD O (zD O (yh (cs:=[Vi 3,Vi 0,Vi 0,Vn 0,Vn 0,Vn 0,Vn 0,Vn 0, .bool force, .slice none 0 0, .slice none 0 0, .slice none 0 0,Vi 0, .slice none 0 0]) (z:=[Vi 0,Vi 0,Vi 0,Vn 0,Vn 0,Vn 0,Vn 0,Vn 0, .bool false, .slice none 0 0, .slice none 0 0, .slice none 0 0,Vi 0, .slice none 0 0]) (pl:=[(0,1),(1,1),(2,1),(3,1),(4,1),(5,1),(6,1),(7,1),(8,1),(9,1),(10,2),(12,1),(13,1)]) qN qN O (a_call O O (fun w' hw=>(zF1 cb jb ({t with term:=t.term+1,qD:=a.id,due:=t.now+y4 a qe}:TimD) a ({qp:=3,who:=0,qc:=r.qc}:RolD) b (.pointer none) yv' qe _ _ ob _ 3 0 force w' ‹_› qO qO qO (hw.give [2,3,0] O qM)).mono ?_))))))
  rintro _ w1 ⟨mv'4_,rfl,hO⟩
  refine O4 ?_ (hw.qh [2,3,0] O hO)
  exact zg (yQ O (fun w' hw=>⟨⟨{t with term:=t.term+1,qD:=a.id,due:=t.now+y4 a qe},⟨3,0,r.qc⟩,lv,es,none,yv',[a.id]⟩,mv'4_,xE a (t.term+1) (zc b.vs (es.map EntD.toEntA)).vs 3 0 force es.length (LG 0 0 es).end_,O,(by unfold zAV kZ;dsimp only;rw[if_neg c1,List.length_map];rfl),((hw.qG).sel [1,2,4,0,3] O qM)⟩))
theorem zQh{S:List Nat}(cb jb:Nat)(t:TimD)(a:StA)(r:RolD)(b:StB)(yv:Value)(qe:Nat)(lv:Value)(es:List EntD)(ob:Nat)(o:OutD)(yes:List Int)(w:World)(hg:(LG 0 0 es).good)(hl:es.length≤100000)(hvl:b.vs.length≤12)(hcm:1≤((zc b.vs (es.map EntD.toEntA)).vs++(zc b.vs (es.map EntD.toEntA)).ls).length∧((zc b.vs (es.map EntD.toEntA)).vs++(zc b.vs (es.map EntD.toEntA)).ls).length≤12)(htm:t.term<4611686018427387904)(hen:(LG 0 0 es).end_≤t.term)(hn:0≤t.now∧t.now≤1000000000000000)(ho:o.qk.length≤1000)(ha:a.ok)(hd:qe<18446744073709551616)(hin:Own w S [z7 cb t (.pointer none) a r b yv jb qe (pt ob),Res.nl b lv es,Res.ou ob o] w):Rets Tryz.prog 37 #[pt cb] w fun u_ w'=>∃ (n:NdD) (mv':Value) (ms:List MsgD),u_= .tuple #[]∧(n.a,ms.map MsgD.a)=zKP a b.vs qe {t:=t,r:=r,E:=es.map EntD.toEntA,ld:=none,yes:=yes}∧Own w S [z7 cb n.t (xF n.y) a n.r b n.yv jb qe (pt ob),Res.nl b n.lv n.es,Res.lo n.y,vI n.yv n.yes,Res.ou ob ({o with mv:=mv',qk:=o.qk++ms}:OutD)] w':=by
  refine zW Tryz.func37 O Tryz.ntmps37 hin ?_
  refine zC (zD O (a_call O O (fun w' hw=>(kh cb jb t a r b yv (pt ob) qe 0 w' (hw.give [0] O qM)).mono ?_)))
  rintro _ w1 ⟨rfl,hO⟩
  refine O3 ?_ (hw.qh [0] O hO)
  refine zA (zC (zD O (zD O (zD O (zb O O (zK (o:=10) O O (zM 2 (v:=Vi a.id) O O O O (zx (e:=3) (sz:=1) (vs:=[Vi a.id]) qN O O qR qM O (fun b10=>zb O O (zK (o:=21) O O (zn 2 O O O O O (zb O O ?_))))))))))))
  refine zK (o:=30) O O (zn 2 O O O O O (zA (zP (zC (zD O (a_call O O (fun w' hw=>(zBe cb jb t a ({qp:=2,who:=0,qc:=r.qc}:RolD) b (.pointer none) (.slice (some ⟨b10,0,none⟩) 1 1) (pt ob) qe _ _ w' ‹_› qO qO (hw.give [2,0] O qM)).mono ?_)))))))
  rintro _ w1 ⟨rfl,hO⟩
  refine O4 ?_ (hw.qh [2,0] O hO)
  refine zA (za O (fun c1=> ?_) (fun c1=> ?_))
  ·refine zC (zD O (a_call O O (fun w' hw=>(zE0 cb jb t a ({qp:=2,who:=0,qc:=r.qc}:RolD) b (.slice (some ⟨b10,0,none⟩) 1 1) qe _ _ ob _ false [a.id] w' ‹_› qO qO qS qO qO qO qO ‹_› qO (hw.give [2,3,0] O qM)).mono ?_)))
   rintro _ w1 ⟨n1_,mv'2_,ms3_,rfl,hf3_1,hO⟩
   refine O6 ?_ (hw.qh [2,3,0] O hO)
   refine zA ?_
   exact zU (yQ O (fun w' hw=>⟨n1_,mv'2_,ms3_,O,(by rw[hf3_1];unfold zKP;dsimp only;rw[if_pos c1]),hw.sel [1,2,3,4,5] O qM⟩))
  refine zQ (zV (zD O (zD O (zb O O (zK (o:=0) O O (zK (o:=0) O O (zM 2 (v:=Vn t.term) O O O O (zt O O (xA V) O (yh (cs:=[Vi 1,Vi 0,Vi 0,Vn (t.term+1),Vn 0,Vn 0,Vn 0,Vn 0, .bool false, .slice none 0 0, .slice none 0 0, .slice none 0 0,Vi 0, .slice none 0 0]) (z:=[Vi 0,Vi 0,Vi 0,Vn 0,Vn 0,Vn 0,Vn 0,Vn 0, .bool false, .slice none 0 0, .slice none 0 0, .slice none 0 0,Vi 0, .slice none 0 0]) (pl:=[(0,1),(1,1),(2,1),(3,1),(4,1),(5,1),(6,1),(7,1),(8,1),(9,1),(10,2),(12,1),(13,1)]) qN qN O (a_call O O (fun w' hw=>(zF1 cb jb t a ({qp:=2,who:=0,qc:=r.qc}:RolD) b (.pointer none) (.slice (some ⟨b10,0,none⟩) 1 1) qe _ _ ob _ 1 (t.term+1) false w' ‹_› qO qO qO (hw.give [2,3,0] O qM)).mono ?_)))))))))))
  rintro _ w1 ⟨mv'4_,rfl,hO⟩
  refine O4 ?_ (hw.qh [2,3,0] O hO)
  exact zg (yQ O (fun w' hw=>⟨⟨t,⟨2,0,r.qc⟩,lv,es,none,(.slice (some ⟨b10,0,none⟩) 1 1),[a.id]⟩,mv'4_,xE a t.term (zc b.vs (es.map EntD.toEntA)).vs 1 (t.term+1) false es.length (LG 0 0 es).end_,O,(by unfold zKP kZ;dsimp only;rw[if_neg c1,List.length_map];rfl),((hw.qG).sel [1,2,4,0,3] O qM)⟩))
def jk(a:StA)(term:Nat)(m:MsgA)(kind:Int)(idx lt:Nat)(flag:Bool):MsgA:=⟨kind,a.id,m.src,term,idx,lt,0,m.round,flag,[],⟨[],[]⟩,0,[]⟩
theorem zFB{a:StA}{term:Nat}{m:MsgD}{kind:Int}{idx lt:Nat}{flag:Bool}(h:kind≠1∧kind≠2): [yg a term (yw kind 0 m.src 0 idx lt 0 m.round flag (.slice none 0 0) [])].map MsgD.a=[jk a term m.a kind idx lt flag]:=by
  rw[zDz h];rfl
def jD(a:StA)(m:MsgA)(n:NodA):NodA×List MsgA:=
  if m.index<n.r.qc then(n,[jk a n.t.term m 6 n.r.qc 0 true])
  else if ∃ e∈m.qm,n.t.term<e.term then(n,[])
  else if((LogA.mk 0 0 n.E).ans m.index m.ql m.qm).2.2=0 then({n with E:=((LogA.mk 0 0 n.E).append m.index m.ql m.qm).l,r:={n.r with qc:=max n.r.qc (min m.qc ((LogA.mk 0 0 n.E).ans m.index m.ql m.qm).1)}},[jk a n.t.term m 6 ((LogA.mk 0 0 n.E).ans m.index m.ql m.qm).1 0 true])
  else if((LogA.mk 0 0 n.E).ans m.index m.ql m.qm).2.2=12 then(n,[jk a n.t.term m 6 ((LogA.mk 0 0 n.E).hint m.index m.ql).1 ((LogA.mk 0 0 n.E).hint m.index m.ql).2 false])
  else(n,[])
theorem zJ7{x:LogA}{i t:Nat}{m:List EntA}(h:¬(x.ans i t m).2.2=0):(x.append i t m).l=x.l:=by
  unfold LogA.append
  unfold LogA.ans at h
  split
  · rename_i q;rw[if_pos q.1,if_pos q.2]at h;exact absurd rfl h
  rfl
theorem zKX{S:List Nat}(cb jb:Nat)(t:TimD)(a:StA)(r:RolD)(b:StB)(qe:Nat)(lv:Value)(es:List EntD)(ob:Nat)(o:OutD)(m:MsgD)(w:World)(hg:(LG 0 0 es).good)(hl:es.length≤100000)(hm:m.wf)(ho:o.qk.length≤1000)(hin:Own w S [z7 cb t (.pointer none) a r b (.slice none 0 0) jb qe (pt ob),Res.nl b lv es,Res.ou ob o] w)(rd_m:MsgD.rd m w S):Rets Tryz.prog 134 #[pt cb, .agg (MsgD.cells m).toArray] w fun u_ w'=>∃ (n:NdD) (mv':Value) (ms:List MsgD),u_= .tuple #[]∧(n.a,ms.map MsgD.a)=jD a m.a {t:=t,r:=r,E:=es.map EntD.toEntA,ld:=none,yes:=[]}∧Own w S [z7 cb n.t (xF n.y) a n.r b n.yv jb qe (pt ob),Res.nl b n.lv n.es,Res.lo n.y,vI n.yv n.yes,Res.ou ob ({o with mv:=mv',qk:=o.qk++ms}:OutD)] w':=by
  have hme:=hm.qm
  have hl1:(es.map EntD.toEntA).length=es.length:=List.length_map _
  refine zW Tryz.func134 O Tryz.ntmps134 hin ?_
  refine zC (z8 O O (fun b3=>zA (zP (yb qN qN (zL O (zH (o:=4) O) (zL O (zY 3 (v:=Vn m.index) O O O) (zL O zS (zL O (zO O) (zL O (zH (o:=23) O) (zL O (zY 0 (v:=Vn r.qc) O O O) (zL O (zBi O O) (xi ?_))))))))))))
  refine za O (fun c1=> ?_) (fun c1=> ?_)
  ·refine zP (ze [0,1,3] O qM qN (fun w' hw hS=>zB 0 O zS hS (zB 1 O (x1 (cs:=(MsgD.cells m)) 2 O O) hS (zB 2 O zS hS (zB 3 O (zO O) hS (zB 4 O (zH (o:=23) O) hS (zB 5 O (zY 0 (v:=Vn r.qc) O O O) hS (zB 6 O (zA1 (cs:=[Vi 6,Vi 0,Vi 0,Vn 0,Vn r.qc,Vn 0,Vn 0,Vn 0, .bool true, .slice none 0 0, .slice none 0 0, .slice none 0 0,Vi 0, .slice none 0 0]) (z:=[Vi 0,Vi 0,Vi 0,Vn 0,Vn 0,Vn 0,Vn 0,Vn 0, .bool false, .slice none 0 0, .slice none 0 0, .slice none 0 0,Vi 0, .slice none 0 0]) (pl:=[(0,1),(1,1),(2,1),(3,1),(4,1),(5,1),(6,1),(7,1),(8,1),(9,1),(10,2),(12,1),(13,1)]) qN qN) hS (zJ 7 O hw (a_call O O (fun w' hw=>(zFO cb jb t a r b (.pointer none) (.slice none 0 0) qe ob _ m 6 r.qc 0 true w' qO (hw.give [0,2] O qM) (rd_m.at hw [0,2] O)).mono ?_)))))))))))
   rintro _ w1 ⟨mv'1_,rfl,hO⟩
   refine O4 ?_ (hw.qh [0,2] O hO)
   refine zE [2,0,1] O qM (fun w' hw hS=>zT ?_)
   refine Oc4 ?_ hw
   exact zU (yQ O (fun w' hw=>⟨({t:=t,r:=r,lv:=lv,es:=es,y:=none,yv:= .slice none 0 0,yes:=[]}:NdD),mv'1_,[yg a t.term (yw 6 0 m.src 0 r.qc 0 0 m.round true (.slice none 0 0) [])],O,(by unfold jD;rw[if_pos (by show m.index<r.qc;omega),zFB qM];rfl),(zm (Own.qG hw) 3 1).sel [2,0,4,5,3] O qM⟩))
  have hc1:¬ m.a.index<r.qc:=fun q=>c1 (by have h:m.index<r.qc:=q;omega)
  refine zQ (zP (zC (zD O (yL (cs:=(MsgD.cells m)) 3 O O O (a_call O O (fun w' hw=>(zPF cb jb t a r b (.pointer none) (.slice none 0 0) (pt ob) qe m w' ‹_› (hw.give [0] O qM) (rd_m.at hw [0] O)).mono ?_))))))
  rintro _ w1 ⟨rfl,hO⟩
  refine O4 ?_ (hw.qh [0] O hO)
  refine zA (za O (fun c2=> ?_) (fun c2=> ?_))
  ·have hc2:∃ e∈m.a.qm,t.term<e.term:=by obtain⟨q,hq,h⟩:=c2;exact⟨_,List.mem_map_of_mem hq,h⟩
   exact zU (yQ O (fun w' hw=>⟨({t:=t,r:=r,lv:=lv,es:=es,y:=none,yv:= .slice none 0 0,yes:=[]}:NdD),o.mv,[],O,(by unfold jD;rw[if_neg hc1,if_pos hc2];rfl),(by rw[List.append_nil];exact(zm (Own.qG hw) 3 1).sel [3,0,4,5,1] rfl qM)⟩))
  have hc2:¬ ∃ e∈m.a.qm,t.term<e.term:=fun⟨e,he,h⟩=>by obtain⟨q,hq,rfl⟩:=List.mem_map.1 he;exact c2 ⟨q,hq,h⟩
  refine zQ (zP (ze [1,2,3] O qM qN (fun w' hw hS=>zB 0 O zS hS (zB 1 O (zO O) hS (zB 2 O (zH (o:=29) O) hS (zB 3 O (zY 2 (v:=pt b.lb) O O O) hS (zB 4 O (zH (o:=4) O) hS (zB 5 O (zY 1 (v:=Vn m.index) O O O) hS (zB 6 O (zH (o:=5) O) hS (zB 7 O (zY 1 (v:=Vn m.ql) O O O) hS (zB 8 O (zH (o:=9) O) hS (zB 9 O (zY 1 (v:=m.ev) O O O) hS ?_))))))))))))
  refine zJ 10 O hw ?_
  refine z4 [Res.ou ob o,Res.row b3 59 (MsgD.cells m),z7 cb t (.pointer none) a r b (.slice none 0 0) jb qe (pt ob),Res.row b.lb 144 [Vn 0,Vn 0,lv],vE lv es,sE es,vI b.vv b.vs,vI b.wv ([]:List Int)] (fun w' hw=>hw.qn 0 O) ?_
  refine a_call O O (fun w' hw=>(zDW b.lb 0 0 lv es m.index m.ql m.ev m.qm w' V hg hm.each hm.index (hw.give [3,4,5] O qM) (hw.rdTo rd_m.ev [3,4,5] O) (fun p hp=>EntD.rd.at (rd_m.ev_all p hp) hw [3,4,5] O)).mono ?_)
  rintro _ w1 ⟨lv'2_,es'3_,x4_,y5_,e6_,rfl,hf4_10,hf4_10_1,hO⟩
  have hA:(LogA.mk 0 0 (es.map EntD.toEntA)).ans m.a.index m.a.ql m.a.qm=(x4_,y5_,e6_):=hf4_10_1
  have hB:es'3_.map EntD.toEntA=((LogA.mk 0 0 (es.map EntD.toEntA)).append m.a.index m.a.ql m.a.qm).l:=congrArg LogA.l hf4_10
  refine O8 ?_ (hw.qh [3,4,5] O hO)
  refine zE [0,1,2] O qM (fun w' hw hS=>zB 11 O zS hS (zB 12 O (yT (vs:=[Vn x4_,Vn y5_,Vi e6_]) O O) hS (zB 13 O (yT (vs:=[Vn x4_,Vn y5_,Vi e6_]) O O) hS (zB 14 O (yT (vs:=[Vn x4_,Vn y5_,Vi e6_]) O O) hS (zB 15 O yO hS (zB 16 O yO hS (zB 17 O yO hS (zT ?_))))))))
  refine Oc8 ?_ hw
  refine zC (zD O (zA (zZ (zC (yR O O O (zI O (zA (za O (fun c3=> ?_) (fun c3=> ?_)))))))))
  ·refine zP (ze [0,1,3,4,5,6] O qM qN (fun w' hw hS=>zB 0 O zS hS (zB 1 O zS hS (zB 2 O (zO O) hS (zB 3 O (zH (o:=23) O) hS (zB 5 O (zH (o:=6) O) hS (zB 6 O (zY 1 (v:=Vn m.qc) O O O) hS (zB 7 O zS hS (zB 8 O (zFk (c:=((min m.qc x4_:Nat):Int)) O O (zNc _ _)) hS (zJ 4 O hw (zM 2 (v:=Vn r.qc) O O O O (zE [0,1,3,4,5,6] O qM (fun w' hw hS=> ?_)))))))))))))
   refine zB 9 O (zGP (c:=((max r.qc (min m.qc x4_):Nat):Int)) O O (zFE _ _)) hS (zB 10 O (zO O) hS (zB 11 O (zH (o:=23) O) hS (zJ 12 O hw (zn 2 O O O O O (zE [0,1,3,4,5,6] O qM (fun w' hw hS=>zT ?_))))))
   refine Oc8 ?_ hw
   refine zV (zD O (yL (cs:=(MsgD.cells m)) 1 O O O (zD O (yh (cs:=[Vi 6,Vi 0,Vi 0,Vn 0,Vn x4_,Vn 0,Vn 0,Vn 0, .bool true, .slice none 0 0, .slice none 0 0, .slice none 0 0,Vi 0, .slice none 0 0]) (z:=[Vi 0,Vi 0,Vi 0,Vn 0,Vn 0,Vn 0,Vn 0,Vn 0, .bool false, .slice none 0 0, .slice none 0 0, .slice none 0 0,Vi 0, .slice none 0 0]) (pl:=[(0,1),(1,1),(2,1),(3,1),(4,1),(5,1),(6,1),(7,1),(8,1),(9,1),(10,2),(12,1),(13,1)]) qN qN O (a_call O O (fun w' hw=>(zFO cb jb t a ({r with qc:=max r.qc (min m.qc x4_)}:RolD) b (.pointer none) (.slice none 0 0) qe ob _ m 6 x4_ 0 true w' qO (hw.give [2,0] O qM) (rd_m.at hw [2,0] O)).mono ?_))))))
   rintro _ w1 ⟨mv'7_,rfl,hO⟩
   refine O8 ?_ (hw.qh [2,0] O hO)
   exact zg (yQ O (fun w' hw=>⟨({t:=t,r:={r with qc:=max r.qc (min m.qc x4_)},lv:=lv'2_,es:=es'3_,y:=none,yv:= .slice none 0 0,yes:=[]}:NdD),mv'7_,[yg a t.term (yw 6 0 m.src 0 x4_ 0 0 m.round true (.slice none 0 0) [])],O,(by unfold jD NdD.a;rw[if_neg hc1,if_neg hc2,hA,if_pos c3,zFB qM,←hB];rfl),(zm (Own.qG (hw.qo [3,4,5,1,2] O qM)) 3 1).sel [1,3,4,5,2] O qM⟩))
  have hno:es'3_.map EntD.toEntA=es.map EntD.toEntA:=hB.trans (zJ7 (by rw[hA];exact c3))
  have hl2:es'3_.length=es.length:=by have h:=congrArg List.length hno;rw[List.length_map,List.length_map]at h;exact h
  refine zC (yR O O O (zI O (zA (za O (fun c4=> ?_) (fun c4=> ?_)))))
  ·refine zP (ze [0,1,2,3,4,5,6] O qM qN (fun w' hw hS=>zB 0 O zS hS (zB 1 O (zO O) hS (zB 2 O (zH (o:=29) O) hS (zB 3 O (zY 2 (v:=pt b.lb) O O O) hS (zB 4 O (zH (o:=4) O) hS (zB 5 O (zY 1 (v:=Vn m.index) O O O) hS (zB 6 O (zH (o:=5) O) hS (zB 7 O (zY 1 (v:=Vn m.ql) O O O) hS (zJ 8 O hw (a_call O O (fun w' hw=>(zKY b.lb 0 0 lv'2_ es'3_ m.index m.ql w' qP (hw.rdRes0 5 O) (hw.qq 6 O) (EntD.rd.star0 7 O hw)).mono ?_))))))))))))
   rintro _ w1 ⟨x8_,y9_,rfl,hf10_8,hO⟩
   have hH:(LogA.mk 0 0 (es.map EntD.toEntA)).hint m.a.index m.a.ql=(x8_,y9_):=by rw[←hno];exact hf10_8
   refine O8 ?_ (hw.qi hO)
   refine zE [0,1,2,3,4,5,6] O qM (fun w' hw hS=>zB 9 O zS hS (zB 10 O (yT (vs:=[Vn x8_,Vn y9_]) O O) hS (zB 11 O (yT (vs:=[Vn x8_,Vn y9_]) O O) hS (zB 12 O yO hS (zB 13 O yO hS (zT ?_))))))
   refine Oc8 ?_ hw
   refine zV (zD O (yL (cs:=(MsgD.cells m)) 1 O O O (zD O (zD O (yh (cs:=[Vi 6,Vi 0,Vi 0,Vn 0,Vn x8_,Vn y9_,Vn 0,Vn 0, .bool false, .slice none 0 0, .slice none 0 0, .slice none 0 0,Vi 0, .slice none 0 0]) (z:=[Vi 0,Vi 0,Vi 0,Vn 0,Vn 0,Vn 0,Vn 0,Vn 0, .bool false, .slice none 0 0, .slice none 0 0, .slice none 0 0,Vi 0, .slice none 0 0]) (pl:=[(0,1),(1,1),(2,1),(3,1),(4,1),(5,1),(6,1),(7,1),(8,1),(9,1),(10,2),(12,1),(13,1)]) qN qN O (a_call O O (fun w' hw=>(zFO cb jb t a r b (.pointer none) (.slice none 0 0) qe ob _ m 6 x8_ y9_ false w' qO (hw.give [2,0] O qM) (rd_m.at hw [2,0] O)).mono ?_)))))))
   rintro _ w1 ⟨mv'10_,rfl,hO⟩
   refine O8 ?_ (hw.qh [2,0] O hO)
   exact zg (yQ O (fun w' hw=>⟨({t:=t,r:=r,lv:=lv'2_,es:=es'3_,y:=none,yv:= .slice none 0 0,yes:=[]}:NdD),mv'10_,[yg a t.term (yw 6 0 m.src 0 x8_ y9_ 0 m.round false (.slice none 0 0) [])],O,(by unfold jD NdD.a;rw[if_neg hc1,if_neg hc2,hA,if_neg c3,if_pos c4,zFB qM,hH,hno];rfl),(zm (Own.qG (hw.qo [3,4,5,1,2] O qM)) 3 1).sel [1,3,4,5,2] O qM⟩))
  exact yZ (yQ O (fun w' hw=>⟨({t:=t,r:=r,lv:=lv'2_,es:=es'3_,y:=none,yv:= .slice none 0 0,yes:=[]}:NdD),o.mv,[],O,(by unfold jD NdD.a;rw[if_neg hc1,if_neg hc2,hA,if_neg c3,if_neg c4,hno];rfl),(by rw[List.append_nil];exact(zm (Own.qG (hw.qo [5,6,7,3,4] rfl qM)) 3 1).sel [2,3,4,5,0] rfl qM)⟩))
end Go.Proofs.YtkkeknmkipkbmaaGreat
