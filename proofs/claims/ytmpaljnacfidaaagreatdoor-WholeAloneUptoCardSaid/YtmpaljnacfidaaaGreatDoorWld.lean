import Derived.Test.YtmpaljnacfidaaaGreatDoorNodE
import Derived.Test.YtmpaljnacfidaaaGreatDoorIn
import Derived.Test.YtmpaljnacfidaaaGreatDoorFw3
import Derived.Test.YtmpaljnacfidaaaGreatDoorWhRd
import Derived.Test.YtmpaljnacfidaaaGreatDoorRlogA
set_option linter.unusedSectionVars false
set_option linter.unusedSimpArgs false
set_option linter.unusedVariables false
set_option maxRecDepth 10000
namespace Go.Proofs.YtmpaljnacfidaaaGreatDoor
open Go Go.Sc Go.Proofs
theorem zOm{S:List Nat}(nb cb gb lk stb:Nat)(st:SetD)(av ov tv fv:Value)(sa:StA)(x:AlD)(s:LgD)(o:StoD)(c m:Nat)(now:Int)(dr:Nat)(w:World)(h:AlF sa x)(hd:x.t.due≤max x.t.now now)(hn:now≤1000000000000000)(a5:dr<18446744073709551616)(a6:st.keep=0)(hs:StoOk o c m)(hh:o.hh=false)(a7:o.es=[])(a8:s.idx=0)(hA:ApOk s.a 0)(hc:c+6200≤1048576)(hm:m+2<4000)(a9:Own w S [Res.row nb 139 [pt cb,pt gb,av,Vn lk,pt stb,Vi st.nodes,Vi st.voters,Vi st.edges,Vi st.rho,Vi st.base,Vi st.spread,Vi st.beat,Vi st.disk,Vi st.post,Vi st.keep,zu,ov,tv,fv],Res.vec 334 7 av ([]:List WaiD).length (([]:List WaiD).flatMap WaiD.cells),Res.al cb sa x,Res.lg gb s,Res.sto stb o] w):Rets Tryz.prog 56 #[pt nb,Vi now,Vn dr] w fun u_ w'=>∃ (a0 a1 rv:Value) (p:AlD) (q:LgD) (o':StoD) (e:EntD) (r:RepD),u_= .tuple #[rv,Vi 0]∧AlL sa p 1∧p.t.now=max x.t.now now∧p.es.map EntD.toEntA=[(⟨1,1,1,0,[]⟩:EntA)]∧p.t.qj=p.t.now∧e.toEntA=(⟨1,1,1,0,[]⟩:EntA)∧zAG 0 s.a.now s.a.cnt s.a.kb s.a.kl s.a.kr (⟨1,1,1,0,[]⟩:EntA) r false 0 q.idx q.a.now q.a.cnt q.a.kb q.a.kl q.a.kr∧StoOk o' (c+6100) (m+2)∧o'.es.map EntD.toEntA=p.es.map EntD.toEntA∧Own w S [Res.row nb 139 [pt cb,pt gb,a0,Vn lk,pt stb,Vi st.nodes,Vi st.voters,Vi st.edges,Vi st.rho,Vi st.base,Vi st.spread,Vi st.beat,Vi st.disk,Vi st.post,Vi st.keep,zu,zW,zW,a1],Res.vec 334 7 a0 ([]:List WaiD).length (([]:List WaiD).flatMap WaiD.cells),Res.al cb sa p,Res.lg gb q,Res.sto stb o',vE a1 [e],sE [e],Res.vec 230 2 rv ([]:List SndD).length (([]:List SndD).flatMap SndD.cells)] w':=by
  refine zO Tryz.func56 O Tryz.ntmps56 a9 (zB (zj O O (fun b3=>zj O O (fun b4=>zj O O (fun b5=>zG O (zG O (zA (zK (zB (zJ 5 (v:=pt nb) O O O O (yF qD O O O (zA (yT O (zN (zB (zJ 5 (v:=pt nb) O O O O (zAX (va:=[]) (vb:=[pt b3,pt b4,pt b5]) O O O (zH O O (fun w' hw=>(zRo nb cb gb lk stb st av ov tv fv _ _ _ _ _ _ now dr b3 b4 b5 w' h hd hn a5 a6 hs hh a7 a8 hA hc hm (hw.give [5,6,7,0,1,2,3,4] O V)).mono ?_)))))))))))))))))))
  rintro _ w1 ⟨u,y,b,a2,a3,a4,aa,ab,rfl,z,d,g,i,j,k,l,n,hO⟩
  refine fq [5,6,7,0,1,2,3,4] O hw hO (zb (vs:=[b,Vi 0]) O O O (zb (vs:=[b,Vi 0]) O O O (zG O (zG O (zA (zP (yg (v:=b) (v':=Vi 0) O O O (fun w' hw=>⟨u,y,b,a2,a3,a4,aa,ab,O,z,d,g,i,j,k,l,n,hw.sel [3,4,5,6,7,8,9,10] O V⟩))))))))
theorem zNn{d:Option AskD}{x y:AskD}{e:Int}(h:ValPost d x askZ e)(a:d=some y):e=0∧x=y:=by
  by_cases q:e≠0
  · have:=h.bad q
    rw[a]at this;cases this
  have h2:=h.good q
  rw[a]at h2
  exact⟨by omega,(Option.some.inj h2).symm⟩
theorem zMv{S:List Nat}(nb cb gb lk stb:Nat)(st:SetD)(av ov tv fv:Value)(sa:StA)(x:AlD)(k:Nat)(s:LgD)(o:StoD)(c m:Nat)(edge now:Int)(dv:Value)(data:List UInt8)(y:AskD)(lr:RepD)(dr:Nat)(w:World)(an:zDO data=some y)(bf:data.length≤1048576)(h:AlL sa x k)(aw:k≤1000)(hl:x.es.length≤90)(hn:now=x.t.now)(ax:y.look=false)(ay:y.wf)(az:y.cmd.ok)(b0:y.cmd.session=u64 (-edge))(b1: -16≤edge∧edge≤ -1)(hk:ym s.a.kr y.cmd.session y.cmd.seq=(lr,8))(b2:st.keep=0)(hs:StoOk o c m)(b3:o.es.map EntD.toEntA=x.es.map EntD.toEntA)(b4:s.idx=x.es.length)(hA:ApOk s.a (min (x.t.now - x.t.qj) 1099511627776))(hc:c+6200≤1048576)(hm:m+2<4000)(hW:∀ r ac cnt' kb' kl' kr',DoK (yr s.a.now (min (x.t.now - x.t.qj) 1099511627776)) s.a.cnt s.a.kb (yf s.a.now (min (x.t.now - x.t.qj) 1099511627776) s.a.kl) s.a.kr y.cmd r ac cnt' kb' kl' kr'→({seq:=y.seq,retry:=false,lead:=0,reply:=r,most:=0,lent:=0}:TldD).wf∧({seq:=y.seq,retry:=false,lead:=0,reply:=r,most:=0,lent:=0}:TldD).ok)(b7:Own w S [Res.row nb 139 [pt cb,pt gb,av,Vn lk,pt stb,Vi st.nodes,Vi st.voters,Vi st.edges,Vi st.rho,Vi st.base,Vi st.spread,Vi st.beat,Vi st.disk,Vi st.post,Vi st.keep,zu,ov,tv,fv],Res.vec 334 7 av ([]:List WaiD).length (([]:List WaiD).flatMap WaiD.cells),Res.al cb sa x,Res.lg gb s,Res.sto stb o] w)(ba:Rd w S (Res.sl dv data.length (data.map vb))):Rets Tryz.prog 60 #[pt nb,Vi edge,dv,Vi now,Vn dr] w fun u_ w'=>∃ (ao ap bb rv qv:Value) (x':AlD) (s':LgD) (o':StoD) (e:EntD) (r:RepD) (ac:Bool),u_= .tuple #[qv,Vi 0]∧AlL sa x' k∧x'.t.now=x.t.now∧x'.es.map EntD.toEntA=x.es.map EntD.toEntA++[(⟨x.es.length+1,1,2,min (x.t.now - x.t.qj) 1099511627776,y.cmd.enc⟩:EntA)]∧x'.t.qj=x.t.now∧e.toEntA=(⟨x.es.length+1,1,2,min (x.t.now - x.t.qj) 1099511627776,y.cmd.enc⟩:EntA)∧s'.idx=s.idx+1∧s'.a.now=yr s.a.now (min (x.t.now - x.t.qj) 1099511627776)∧DoK (yr s.a.now (min (x.t.now - x.t.qj) 1099511627776)) s.a.cnt s.a.kb (yf s.a.now (min (x.t.now - x.t.qj) 1099511627776) s.a.kl) s.a.kr y.cmd r ac s'.a.cnt s'.a.kb s'.a.kl s'.a.kr∧StoOk o' (c+6100) (m+2)∧o'.es.map EntD.toEntA=x'.es.map EntD.toEntA∧Own w S [Res.row nb 139 [pt cb,pt gb,ao,Vn lk,pt stb,Vi st.nodes,Vi st.voters,Vi st.edges,Vi st.rho,Vi st.base,Vi st.spread,Vi st.beat,Vi st.disk,Vi st.post,Vi st.keep,zu,zW,bb,ap],Res.vec 334 7 ao ([]:List WaiD).length (([]:List WaiD).flatMap WaiD.cells),Res.al cb sa x',Res.lg gb s',Res.sto stb o',vE ap [e],sE [e],Res.vec 230 2 qv [({dst:=edge,dv:=rv,data:=({seq:=y.seq,retry:=false,lead:=0,reply:=r,most:=0,lent:=0}:TldD).enc}:SndD)].length ([({dst:=edge,dv:=rv,data:=({seq:=y.seq,retry:=false,lead:=0,reply:=r,most:=0,lent:=0}:TldD).enc}:SndD)].flatMap SndD.cells),vY rv (({seq:=y.seq,retry:=false,lead:=0,reply:=r,most:=0,lent:=0}:TldD).enc)] w':=by
  refine zO Tryz.func60 O Tryz.ntmps60 b7 (zB (zj O O (fun b5=>zj O O (fun b6=>zj O O (fun b8=>zj O O (fun b9=>zG O (zG O (zA (zK (zU (zB (zJ 5 (v:=pt nb) O O O O (yF qD O O O (zG O (zA (yT O (zB (zJ 5 (v:=pt nb) O O O O (zV O O (zI (o:=15) O O (zJ 0 (v:=zu) O O O O (zG O (zA (yT O (zB (zJ 6 (v:=Vi edge) O O O O (zy O O O (zG O (zA (zT O (fun c3=> ?_) (fun c3=> ?_)))))))))))))))))))))))))))))))
  ·refine zB (zC O (zH O O (fun w' hw=>(zMl dv data w' qF (hw.rd0 ba)).mono ?_)))
   rintro _ w1 ⟨j,l,i,ad,ae,n,af,p,q,d,g,ab,rfl,ag,hO⟩
   have hv:=zNn ag an
   obtain⟨bc,bd⟩:=hv
   subst bd
   refine(?_:CL _ _ _ _ _ _ (Own w S [_,_,_,_,_,_,_,_,_])) w1 (hw.qb hO)
   refine zC O (zb (vs:=[.agg #[.bool j, .bool l,Vn i,Vn ad,Vn ae,Vi n, .string af,Vi p,Vi q,Vn d, .string g],Vi ab]) O O O (zb (vs:=[.agg #[.bool j, .bool l,Vn i,Vn ad,Vn ae,Vi n, .string af,Vi p,Vi q,Vn d, .string g],Vi ab]) O O O (zk (v:= .agg #[zu,zu,Vn 0,Vn 0,Vn 0,Vi 0,yh,Vi 0,Vi 0,Vn 0,yh]) qD O (fun aq=>ze 9 O O O (z6 O) O (zG O (zA (zK (zB (zC O (yd O O O (zA (zT O (fun c4=> ?_) (fun c4=> ?_)))))))))))))
   ·exact absurd bc c4
   refine zN (zB (zJ 5 (v:=pt nb) O O O O (zJ 6 (v:=Vi edge) O O O O (zI (o:=2) O O (zJ 9 (v:=Vn i) O O O O (zAX (va:=[]) (vb:=[pt b5,pt b6,pt aq,pt b8]) O O O (zH O O (fun w' hw=>(zSM nb cb gb lk stb st av ov tv fv _ _ _ _ _ _ _ edge now ({look:=j,lazy:=l,seq:=i,cmd:=({session:=ad,seq:=ae,op:=n,key:=af,amount:=p,span:=q,lease:=d}:CmdD),key:=g}:AskD) _ b5 b6 aq b8 w' h aw hl hn ax ay az b0 b1 hk b2 hs b3 b4 hA hc hm hW (hw.give [5,6,9,7,0,1,2,3,4] O V)).mono ?_))))))))
   rintro _ w1 ⟨a7,a8,a9,ah,b,ai,aj,ak,ar,au,aa,rfl,am,u,z,a0,a1,a2,a3,a4,a5,a6,hO⟩
   refine fq [5,6,9,7,0,1,2,3,4] O hw hO (zb (vs:=[b,Vi 0]) O O O (zb (vs:=[b,Vi 0]) O O O (zG O (zG O (zA (zP (yg (v:=b) (v':=Vi 0) O O O (fun w' hw=>⟨a7,a8,a9,ah,b,ai,aj,ak,ar,au,aa,O,am,u,z,a0,a1,a2,a3,a4,a5,a6,hw.sel [5,6,7,8,9,10,11,12,13] O V⟩))))))))
  exact absurd (show edge<0 by omega) c3
theorem zHe{S:List Nat}(nb cb gb e stb:Nat)(st:SetD)(av ov tv fv:Value)(fs:List EntD)(w:World)(hl:fs.length≤1000)(d:Own w S [Res.row nb 139 [pt cb,pt gb,av,Vn e,pt stb,Vi st.nodes,Vi st.voters,Vi st.edges,Vi st.rho,Vi st.base,Vi st.spread,Vi st.beat,Vi st.disk,Vi st.post,Vi st.keep,zu,ov,tv,fv],vE fv fs,sE fs] w):Rets Tryz.prog 175 #[pt nb] w fun g c=>∃ (r:Value),g=r∧Own w S [Res.row nb 139 [pt cb,pt gb,av,Vn e,pt stb,Vi st.nodes,Vi st.voters,Vi st.edges,Vi st.rho,Vi st.base,Vi st.spread,Vi st.beat,Vi st.disk,Vi st.post,Vi st.keep,zu,ov,tv,fv],vE fv fs,sE fs,vE r fs] c:=by
  refine zO Tryz.func175 O Tryz.ntmps175 d (zB (zG O (zA (zK (zB (zC O (yF qD O O O (zA (yT O (zN (zB (zC O (zV O O (zI (o:=18) O O (zJ 0 (v:=fv) O O O O (zH O O (fun c a=>(zC5 fv fs c qF (a.qh 1 O) (EntD.rd.star0 2 O a)).mono ?_)))))))))))))))))
  rintro b h ⟨_,rfl,i⟩
  refine(?_:CL _ _ _ _ _ _ (Own w S [_,_,_,_])) h (a.qb i)
  refine zG O (zA (zP (zn (v:=b) O O (fun c a=>⟨b,O,a⟩))))
structure NdD where
  cb:Nat
  gb:Nat
  stb:Nat
  st:SetD
  x:AlD
  s:LgD
  o:StoD
  av:Value
  ov:Value
  tv:Value
  fv:Value
  fs:List EntD
def zSL(nb:Nat)(n:NdD):Res:=Res.row nb 139 [pt n.cb,pt n.gb,n.av,Vn 0,pt n.stb,Vi n.st.nodes,Vi n.st.voters,Vi n.st.edges,Vi n.st.rho,Vi n.st.base,Vi n.st.spread,Vi n.st.beat,Vi n.st.disk,Vi n.st.post,Vi n.st.keep, .bool false,n.ov,n.tv,n.fv]
def Res.nd(nb:Nat)(n:NdD):Res:=Res.star [zSL nb n,Res.vec 334 7 n.av 0 [],Res.al n.cb (zC0 n.st.rho) n.x,Res.lg n.gb n.s,Res.sto n.stb n.o,vE n.fv n.fs]
structure NdF(n:NdD):Prop where
  st:n.st=jc n.st.rho
  x:AlF (zC0 n.st.rho) n.x
  now:n.x.t.now=0
  due:n.x.t.due≤32
  idx:n.s.idx=0
  lg:n.s.a=lgZ
  so:StoOk n.o 0 1
  hh:n.o.hh=false
  es:n.o.es=[]
  fs:n.fs=[]
structure NdL(n:NdD)(c m:Nat):Prop where
  st:n.st=jc n.st.rho
  x:AlL (zC0 n.st.rho) n.x 1
  qj:n.x.t.qj=n.x.t.now
  idx:n.s.idx=n.x.es.length
  so:StoOk n.o c m
  es:n.o.es.map EntD.toEntA=n.x.es.map EntD.toEntA
theorem zKC{S:List Nat}(db:Nat)(D:DskD)(kf:List (ByteArray×FilD))(st:SetD)(qd:Nat)(w:World)(b:st=jc st.rho)(c:0≤st.rho∧st.rho≤500000)(d:DskCl D)(hl:kf.length=0)(e:D.room=1048576)(g:qd<18446744073709551616)(a:Own w S [Res.dk db D kf] w):Rets Tryz.prog 51 #[Vi 1,pt db, .agg (SetD.cells st).toArray,Vi 0,Vn qd] w fun h i=>∃ (nb:Nat) (n:NdD),h= .tuple #[pt nb,Vi 0]∧NdF n∧n.st=st∧Own w S [Res.nd nb n] i:=by
  refine(zLW db D kf st qd w b c d hl e g a).mono ?_
  rintro _ v ⟨nb,cb,gb,stb,x,s,o,rfl,j,k,y,l,m,p,q,r,u⟩
  refine⟨nb,⟨cb,gb,stb,st,x,s,o,zW,zW,zW,zW,[]⟩,O,⟨b,j,k,?_,l,m,p,q,r,O⟩,O,((zq (zq u 334 7) 130 5).qf [0,4,1,2,3,5] O V).sel [0] O V⟩
  show x.t.due≤32
  have:=Nat.mod_lt qd (show 0<21 by decide)
  omega
theorem zOX{S:List Nat}(nb:Nat)(n:NdD)(now:Int)(d:Nat)(w:World)(h:NdF n)(y:32≤now)(z:now≤1000000000000000)(g:d<18446744073709551616)(hA:ApOk n.s.a 0)(i:Own w S [Res.nd nb n] w):Rets Tryz.prog 56 #[pt nb,Vi now,Vn d] w fun u_ w'=>∃ (rv:Value) (b:NdD) (e:EntD) (r:RepD),u_= .tuple #[rv,Vi 0]∧NdL b 6100 3∧b.st=n.st∧b.x.t.now=now∧b.x.es.map EntD.toEntA=[(⟨1,1,1,0,[]⟩:EntA)]∧b.fs=[e]∧e.toEntA=(⟨1,1,1,0,[]⟩:EntA)∧b.s.idx=1∧zAG 0 n.s.a.now n.s.a.cnt n.s.a.kb n.s.a.kl n.s.a.kr (⟨1,1,1,0,[]⟩:EntA) r false 0 b.s.idx b.s.a.now b.s.a.cnt b.s.a.kb b.s.a.kl b.s.a.kr∧Own w S [Res.nd nb b,sE b.fs,Res.vec 230 2 rv ([]:List SndD).length (([]:List SndD).flatMap SndD.cells)] w':=by
  have l:=h.now
  have m:=h.due
  have j:max n.x.t.now now=now:=by omega
  have hi:=(i.qg 0 rfl).sel [0,1,2,3,4] rfl V
  refine(zOm nb n.cb n.gb 0 n.stb n.st n.av n.ov n.tv n.fv (zC0 n.st.rho) n.x n.s n.o 0 1 now d w h.x qE z g (by rw[h.st];rfl) h.so h.hh h.es h.idx hA V V hi).mono ?_
  rintro _ w1 ⟨av,fv,rv,p,q,o',e,r,rfl,f1,f2,u,f4,f5,v,f7,f8,hO⟩
  have c:q.idx=1:=(zOz v (by unfold EntA.ok;decide) rfl rfl).1.2
  have k:p.es.length=1:=by have:=congrArg List.length u;simpa using this
  exact⟨rv,⟨n.cb,n.gb,n.stb,n.st,p,q,o',av,zW,zW,fv,[e]⟩,e,r,O,⟨h.st,f1,f4,c.trans k.symm,f7,f8⟩,O,f2.trans j,u,O,f5,c,v,(hO.qf [0,1,2,3,4,5] O V).sel [2,0,1] O V⟩
theorem zNW{S:List Nat}(nb:Nat)(n:NdD)(c m:Nat)(edge now:Int)(dv:Value)(data:List UInt8)(y:AskD)(lr:RepD)(dr:Nat)(w:World)(i:zDO data=some y)(k:data.length≤1048576)(h:NdL n c m)(hl:n.x.es.length≤90)(hn:now=n.x.t.now)(l:y.look=false)(p:y.wf)(q:y.cmd.ok)(u:y.cmd.session=u64 (-edge))(v: -16≤edge∧edge≤ -1)(hk:ym n.s.a.kr y.cmd.session y.cmd.seq=(lr,8))(hA:ApOk n.s.a 0)(hc:c+6200≤1048576)(hm:m+2<4000)(hW:∀ r d cnt' kb' kl' kr',DoK (yr n.s.a.now 0) n.s.a.cnt n.s.a.kb (yf n.s.a.now 0 n.s.a.kl) n.s.a.kr y.cmd r d cnt' kb' kl' kr'→({seq:=y.seq,retry:=false,lead:=0,reply:=r,most:=0,lent:=0}:TldD).wf∧({seq:=y.seq,retry:=false,lead:=0,reply:=r,most:=0,lent:=0}:TldD).ok)(z:Own w S [Res.nd nb n] w)(a0:Rd w S (Res.sl dv data.length (data.map vb))):Rets Tryz.prog 60 #[pt nb,Vi edge,dv,Vi now,Vn dr] w fun u_ w'=>∃ (rv j:Value) (b:NdD) (e:EntD) (r:RepD) (d:Bool),u_= .tuple #[j,Vi 0]∧NdL b (c+6100) (m+2)∧b.st=n.st∧b.x.t.now=n.x.t.now∧b.x.es.map EntD.toEntA=n.x.es.map EntD.toEntA++[(⟨n.x.es.length+1,1,2,0,y.cmd.enc⟩:EntA)]∧b.fs=[e]∧e.toEntA=(⟨n.x.es.length+1,1,2,0,y.cmd.enc⟩:EntA)∧b.s.idx=n.s.idx+1∧b.s.a.now=yr n.s.a.now 0∧DoK (yr n.s.a.now 0) n.s.a.cnt n.s.a.kb (yf n.s.a.now 0 n.s.a.kl) n.s.a.kr y.cmd r d b.s.a.cnt b.s.a.kb b.s.a.kl b.s.a.kr∧Own w S [Res.nd nb b,sE b.fs,Res.vec 230 2 j [({dst:=edge,dv:=rv,data:=({seq:=y.seq,retry:=false,lead:=0,reply:=r,most:=0,lent:=0}:TldD).enc}:SndD)].length ([({dst:=edge,dv:=rv,data:=({seq:=y.seq,retry:=false,lead:=0,reply:=r,most:=0,lent:=0}:TldD).enc}:SndD)].flatMap SndD.cells),vY rv (({seq:=y.seq,retry:=false,lead:=0,reply:=r,most:=0,lent:=0}:TldD).enc)] w':=by
  have g:min (n.x.t.now - n.x.t.qj) 1099511627776=0:=by rw[h.qj];omega
  have hi:=(z.qg 0 rfl).sel [0,1,2,3,4] rfl V
  refine(zMv nb n.cb n.gb 0 n.stb n.st n.av n.ov n.tv n.fv (zC0 n.st.rho) n.x 1 n.s n.o c m edge now dv data y lr dr w i k h.x V hl hn l p q u v hk (by rw[h.st];rfl) h.so h.es h.idx (by rw[g];exact hA) hc hm (by rw[g];exact hW) hi a0).mono ?_
  rw[g]
  rintro _ w1 ⟨av,fv,tv,rv,j,x',s',o',e,r,d,rfl,f1,f2,f3,f4,f5,f6,f7,f8,f9,a1,hO⟩
  have a2:x'.es.length=n.x.es.length+1:=by have:=congrArg List.length f3;simpa using this
  exact⟨rv,j,⟨n.cb,n.gb,n.stb,n.st,x',s',o',av,zW,tv,fv,[e]⟩,e,r,d,O,⟨h.st,f1,f4.trans f2.symm,by show s'.idx=x'.es.length;rw[f6,a2,h.idx],f9,a1⟩,O,f2,f3,O,f5,f6,f7,f8,(hO.qf [0,1,2,3,4,5] O V).sel [3,0,1,2] O V⟩
theorem zHT{S:List Nat}(nb:Nat)(n:NdD)(w:World)(hl:n.fs.length≤1000)(a:Own w S [Res.nd nb n,sE n.fs] w):Rets Tryz.prog 175 #[pt nb] w fun c d=>∃ (r:Value),c=r∧Own w S [Res.nd nb n,sE n.fs,vE r n.fs] d:=by
  have hi:=a.qg 0 rfl
  have b:=hi.give [1,6,0] rfl V
  refine(zHe nb n.cb n.gb 0 n.stb n.st n.av n.ov n.tv n.fv n.fs w hl b).mono ?_
  rintro _ h ⟨r,e,g⟩
  have h2:=hi.qi [1,6,0] rfl g
  exact⟨r,e,(h2.qf [4,0,1,2,3,5] O V).sel [2,0,1] O V⟩
theorem zPC{S:List Nat}(nb:Nat)(n:NdD)(w:World)(a:Own w S [Res.nd nb n] w):Rets Tryz.prog 103 #[pt nb] w fun b c=>b=xl∧Own w S [Res.nd nb n] c:=by
  have hi:=a.qg 0 rfl
  refine(zRl nb n.cb n.gb 0 n.stb n.st n.av n.ov n.tv n.fv w (hi.give [0] O V)).mono ?_
  rintro _ e ⟨rfl,d⟩
  exact⟨O,((hi.qi [0] O d).qf [5,0,1,2,3,4] O V).sel [0] O V⟩
theorem zJb{S:List Nat}(nb:Nat)(n:NdD)(w:World)(c:Own w S [Res.nd nb n] w):Rets Tryz.prog 23 #[pt nb] w fun d e=>∃ (a:Nat) (b:LgD),d=pt a∧b.idx=n.s.idx∧Own w S [Res.nd nb n,Res.lg a b] e:=by
  have hi:=c.qg 0 rfl
  refine(zJl nb n.cb n.gb 0 n.stb n.st n.av n.ov n.tv n.fv n.s w (hi.give [0,3] O V)).mono ?_
  rintro _ i ⟨a,b,rfl,g,h⟩
  exact⟨a,b,O,g,((hi.qi [0,3] O h).qf [4,0,1,5,2,3] O V).sel [1,0] O V⟩
structure CalD where
  edge:Int
  look:Bool
  lazy:Bool
  cmd:CmdD
  key:ByteArray
  start:Int
  stop:Int
  reply:RepD
  cap:Int
  lent:Int
instance iWld1:Inhabited CalD:=⟨⟨0,false,false,zGX,⟨#[]⟩,0,0,RepD.zero,0,0⟩⟩
def CalD.cells(x:CalD):List Value:=[Vi x.edge, .bool x.look, .bool x.lazy]++(x.cmd.cells++([.string x.key,Vi x.start,Vi x.stop]++(x.reply.cells++[Vi x.cap,Vi x.lent])))
theorem zFD{S:List Nat}(wb nb e1 e2 pb cb:Nat)(st:SetD)(nv dv ev km lv:Value)(k:Nat)(cv ov:Value)(es:List EntD)(j:Int)(w:World)(n:j=1)(b:Own w S [jr wb st nv dv ev pb cb (Vj k) cv ov lv km,Res.vec 65 1 nv [nb].length ([nb].flatMap P1)] w):Rets Tryz.prog 22 #[pt wb,Vi j] w fun l c=>l=pt nb∧Own w S [jr wb st nv dv ev pb cb (Vj k) cv ov lv km,Res.vec 65 1 nv [nb].length ([nb].flatMap P1)] c:=by
  have m: [nb].length=1:=rfl
  refine zO Tryz.func22 O Tryz.ntmps22 b (zB (zG O (zA (zK (zB (zC O (yF qD O O O (zC O (zQ O O (zC O (zQ O O (zy O O O (y2 O O (zC O (yK (q:=j<1) 7 6 [18,17,16,15,14,13,12] ((([nb].length:Nat):Int)<j) O O O O O O trivial O (fun a=> ?_) (fun d=> ?_))))))))))))))))
  ·refine zQ O (gF a) (zC O (zQ O (gF a) (zC O (zQ O (gF a) (zV O O (zQ O (gF a) (zI (o:=10) O O (zQ O (gF a) (zJ 0 (v:=nv) O O O O (zQ O (gF a) (zo (pV 1 O) O O (zQ O (gF a) (yU O O O (z8 O (fun _ e=>e)))))))))))))))
  refine zA (zT O (fun h=> ?_) (fun h=> ?_))
  ·exact absurd h qE
  refine zN (zB (zC O (zV O O (zI (o:=10) O O (zJ 0 (v:=nv) O O O O (zC O (y5 O O (zt qE) O (yH (pV 1 O) 1 0 O O qE qH O (zEM (v:=nv) (off:=yk nv+0*1) (0*1+0) (cs:=([nb].flatMap P1)) O qE (fun c g=>Vec.sl (Own.holds g 1 _ O)) (jV (sz:=1) (fun _=>O) O (i:=0) O) qD O (zG O (zA (zP (zn (v:=pt nb) O O (fun c e=>⟨O,e⟩))))))))))))))
theorem zIG{S:List Nat}(wb nb e1 e2 pb cb:Nat)(st:SetD)(nv dv ev km lv:Value)(k:Nat)(cv ov:Value)(es:List EntD)(j:Int)(w:World)(n:j=1)(b:Own w S [jr wb st nv dv ev pb cb (Vj k) cv ov lv km,Res.vec 53 1 ev [e1,e2].length ([e1,e2].flatMap P1)] w):Rets Tryz.prog 16 #[pt wb,Vi j] w fun l c=>l=pt e1∧Own w S [jr wb st nv dv ev pb cb (Vj k) cv ov lv km,Res.vec 53 1 ev [e1,e2].length ([e1,e2].flatMap P1)] c:=by
  have m: [e1,e2].length=2:=rfl
  refine zO Tryz.func16 O Tryz.ntmps16 b (zB (zG O (zA (zK (zB (zC O (yF qD O O O (zC O (zQ O O (zC O (zQ O O (zy O O O (y2 O O (zC O (yK (q:=j<1) 7 6 [18,17,16,15,14,13,12] ((([e1,e2].length:Nat):Int)<j) O O O O O O trivial O (fun a=> ?_) (fun d=> ?_))))))))))))))))
  ·refine zQ O (gF a) (zC O (zQ O (gF a) (zC O (zQ O (gF a) (zV O O (zQ O (gF a) (zI (o:=12) O O (zQ O (gF a) (zJ 0 (v:=ev) O O O O (zQ O (gF a) (zo (pV 1 O) O O (zQ O (gF a) (yU O O O (z8 O (fun _ e=>e)))))))))))))))
  refine zA (zT O (fun h=> ?_) (fun h=> ?_))
  ·exact absurd h qE
  refine zN (zB (zC O (zV O O (zI (o:=12) O O (zJ 0 (v:=ev) O O O O (zC O (y5 O O (zt qE) O (yH (pV 1 O) 1 0 O O qE qH O (zEM (v:=ev) (off:=yk ev+0*1) (0*1+0) (cs:=([e1,e2].flatMap P1)) O qE (fun c g=>Vec.sl (Own.holds g 1 _ O)) (jV (sz:=1) (fun _=>O) O (i:=0) O) qD O (zG O (zA (zP (zn (v:=pt e1) O O (fun c e=>⟨O,e⟩))))))))))))))
theorem zEl{S:List Nat}(wb nb e1 e2 pb cb:Nat)(st:SetD)(nv dv ev km lv:Value)(k:Nat)(cv ov:Value)(es:List EntD)(c:CkD)(T:Int)(e:Int)(w:World)(i:CkA c T)(j:e=1∨e= -1∨e= -2)(d:Own w S [jr wb st nv dv ev pb cb (Vj k) cv ov lv km,Res.ck cb c] w):Rets Tryz.prog 57 #[pt wb,Vi e] w fun g a=>g=Vi (zCj c e)∧Own w S [jr wb st nv dv ev pb cb (Vj k) cv ov lv km,Res.ck cb c] a:=by
  refine zO Tryz.func57 O Tryz.ntmps57 d (zB (zG O (zA (zB (zC O (zV O O (zI (o:=14) O O (zJ 0 (v:=pt cb) O O O O (zC O (zH O O (fun a b=>(zOY cb _ e _ a ‹_› qF (b.give [1] O V)).mono ?_)))))))))))
  rintro _ l ⟨rfl,h⟩
  refine fq [1] O b h (zC O (zb (vs:=[Vi (zCj c e),Vi 0]) O O O (zb (vs:=[Vi (zCj c e),Vi 0]) O O O (zG O (zG O (zA (zB (zC O (zG O (zA (zP (zn (v:=Vi (zCj c e)) O O (fun a b=>⟨O,b⟩)))))))))))))
theorem zJ7{S:List Nat}(wb nb e1 e2 pb cb:Nat)(st:SetD)(nv dv ev km lv:Value)(k:Nat)(cv ov:Value)(es:List EntD)(x:EntD)(w:World)(y:x.index=es.length+1)(hl:es.length≤1000)(q:Own w S [jr wb st nv dv ev pb cb (Vj k) cv ov lv km,vE lv es] w)(d:EntD.rd x w S):Rets Tryz.prog 176 #[pt wb, .agg (EntD.cells x).toArray] w fun u c=>∃ (m:Value),u= .tuple #[]∧Own w S [jr wb st nv dv ev pb cb (Vj k) cv ov m km,vE m (es++[x])] c:=by
  refine zO Tryz.func176 O Tryz.ntmps176 q (zB (zj O O (fun z=>zA (zB (zC O (zV O O (zI (o:=18) O O (zJ 0 (v:=lv) O O O O (zo (pV 1 O) O O (ya qD O (yp qE) O ?_ qD))))))))))
  refine zG O (zA (zU (zB (zI (o:=0) O O (zJ 2 (v:=Vn x.index) O O O O (zC O (zr O O (yp qE) O (yR O O O (zG O (zA (zT O (fun s=> ?_) (fun s=> ?_))))))))))))
  ·refine zc [2] O V qD (fun c a b=>zD 0 O za b (zD 1 O za b (zD 2 O (zX O) b (zD 3 O (zL (o:=18) O) b (zD 5 O (xB (cs:=(EntD.cells x)) 0 O O) b (z2 4 6 ?_ ?_))))))
   ·refine zm 4 O a (zJ 0 (v:=lv) O O O O (zE [2] O V (fun c a b=>zM 6 O a (yC (e:=130) (sz:=5) (vs:=[.agg (EntD.cells x).toArray]) qD O O qQ V O (fun r=>zE [2] O V (fun c a b=>zM 7 O a (yE (g:=EntD.cells) (sz:=5) (by':=56) (fun _=>O) (l:=es) (l':=[x]) (all_cons ((zF O (zF O (zF O (zF O (zF (Sl.cell1 (Rd.φ d.dv)) zh)))))) qH) 1 qD O O O (fun c h=>Vec.sl (Own.holds h 3 _ O)) qF V O (fun j=>zE [2] O V (fun c a b=>zD 8 O (zX O) b (zD 9 O (zL (o:=18) O) b (zM 10 O a (zS (fun c a=>Own.qa (i:=1) O a) (fun n=>(zi 0 O O O n O (zE [2] O V (fun c a b=>zY ((yl O (fun c a=>⟨j,O,a.sel [0,1] O V⟩)) _ a)))))))))))))))))
   refine zm 6 O a (yC (e:=130) (sz:=5) (vs:=[.agg (EntD.cells x).toArray]) qD O O qQ V O (fun r=>zE [2] O V (fun c a b=>zM 4 O a (zJ 0 (v:=lv) O O O O (zE [2] O V (fun c a b=>zM 7 O a (yE (g:=EntD.cells) (sz:=5) (by':=56) (fun _=>O) (l:=es) (l':=[x]) (all_cons ((zF O (zF O (zF O (zF O (zF (Sl.cell1 (Rd.φ d.dv)) zh)))))) qH) 1 qD O O O (fun c h=>Vec.sl (Own.holds h 3 _ O)) qF V O (fun j=>zE [2] O V (fun c a b=>zD 8 O (zX O) b (zD 9 O (zL (o:=18) O) b (zM 10 O a (zS (fun c a=>Own.qa (i:=1) O a) (fun p=>(zi 0 O O O p O (zE [2] O V (fun c a b=>zY ((yl O (fun c a=>⟨j,O,a.sel [0,1] O V⟩)) _ a)))))))))))))))))
  exact absurd qE s
theorem zIN{S:List Nat}(wb nb e1 e2 pb cb:Nat)(st:SetD)(nv dv ev km lv:Value)(k:Nat)(cv ov:Value)(es:List EntD)(n:NdD)(j:Int)(w:World)(hj:j=1)(s:∀ i,i<n.fs.length→(zf n.fs i).index=es.length+i+1)(hl:es.length≤200)(u:n.fs.length≤100)(p:Own w S [jr wb st nv dv ev pb cb (Vj k) cv ov lv km,Res.vec 65 1 nv [nb].length ([nb].flatMap P1),vE lv es,Res.nd nb n,sE n.fs] w):Rets Tryz.prog 101 #[pt wb,Vi j] w fun x c=>∃ (h:Value),x= .tuple #[]∧Own w S [jr wb st nv dv ev pb cb (Vj k) cv ov h km,Res.vec 65 1 nv [nb].length ([nb].flatMap P1),vE h (es++n.fs),Res.nd nb n,sE n.fs] c:=by
  have y: [nb].length=1:=rfl
  refine zO Tryz.func101 O Tryz.ntmps101 p (zB (zC O (zV O O (zI (o:=10) O O (zJ 0 (v:=nv) O O O O (zC O (y5 O O (zt qE) O (yH (pV 1 O) 1 0 O O qE qH O (zEM (v:=nv) (off:=yk nv+0*1) (0*1+0) (cs:=([nb].flatMap P1)) O qE (fun c q=>Vec.sl (Own.holds q 1 _ O)) (jV (sz:=1) (fun _=>O) O (i:=0) O) qD O (zH O O (fun c b=>(zHT nb _ c qF (b.give [3,4] O V)).mono ?_)))))))))))
  rintro d z ⟨_,rfl,r⟩
  refine fq [3,4] O b r (zo (pV 5 O) O O (zC O (zA (zU (xI (fun(i:Nat) (a:Value)=>[(0,pt wb),(14,d),(15,Vj n.fs.length),(16,Vj i)]) (fun(i:Nat) (a:Value)=>i≤n.fs.length) (fun(i:Nat) (a:Value)=>[jr wb st nv dv ev pb cb (Vj k) cv ov a km,Res.vec 65 1 nv [nb].length ([nb].flatMap P1),vE a (es++n.fs.take i),Res.nd nb n,sE n.fs,vE d n.fs]) (fun(i:Nat) (a:Value)=>n.fs.length - i) (fun c b=>⟨0,lv,⟨O,O,O,O,trivial⟩,Nat.zero_le _,(by rw[show es++n.fs.take 0=es from by simp];exact b)⟩) (fun i a g hΦ=>(zB (zy O O O (zA (zK (zT O (fun c1=> ?_) (fun c1=> ?_))))))))))))
  ·refine zN (zK (zU (zB (yH (pV 5 O) 5 i O O O qE O (jC (pV 5 O) 5 i (off:=yk d+i*5) (fun _=>O) O O qE O (zk (v:= .agg #[Vn 0,Vn 0,Vi 0,Vi 0,zW]) qD O (fun b5=>(zS (fun c b=>Sl.cell1 (Rd.φ (EntD.rd.star0 4 O b _ (zx (l:=n.fs) (j:=i) qE)).dv)) (fun m=>(ze 6 O O O (zF O (zF O (zF O (zF O (zF m zh))))) O (zA (zd (zC O (z1 (cs:=(EntD.cells (zf n.fs i))) 6 O O O (zH O O (fun c b=>(zJ7 wb nb e1 e2 pb cb st nv dv ev km a k cv ov (es++n.fs.take i) (zf n.fs i) c (by rw[s i qE,List.length_append,List.length_take];omega) (by rw[List.length_append,List.length_take];omega) (b.give [0,2] O V) (EntD.rd.star 4 O [0,2] O O b _ (zx qE))).mono ?_))))))))))))))))
   rintro _ z ⟨e,rfl,r⟩
   refine fq [0,2] O b r (zA (zd (zr O O (zt qE) O (zC O (zw (fun c b=>⟨i+1,e,⟨O,O,O,O,trivial⟩,qE,(by rw[yj qE,←List.append_assoc];exact b.sel [5,0,6,1,2,3] rfl V),qE⟩))))))
  have e1:es++n.fs=es++n.fs.take i:=by rw[List.take_of_length_le qE]
  exact xz O (yl O (fun c b=>⟨a,O,(by rw[e1];exact b.sel [0,1,2,3,4] rfl V)⟩))
theorem zQ0{S:List Nat}(wb nb e1 e2 pb cb:Nat)(st:SetD)(nv dv ev km lv:Value)(k:Nat)(cv ov:Value)(es:List EntD)(n:NdD)(j:Int)(h:Value)(w:World)(y:j=1)(z:∀ i,i<n.fs.length→(zf n.fs i).index=es.length+i+1)(hl:es.length≤200)(r:n.fs.length≤100)(l:Own w S [jr wb st nv dv ev pb cb (Vj k) cv ov lv km,Res.vec 65 1 nv [nb].length ([nb].flatMap P1),vE lv es,Res.nd nb n,sE n.fs,Res.vec 230 2 h ([]:List SndD).length (([]:List SndD).flatMap SndD.cells)] w):Rets Tryz.prog 58 #[pt wb,Vi j,h,Vi 0] w fun s d=>∃ (e:Value),s=Vi 0∧Own w S [jr wb st nv dv ev pb cb (Vj k) cv ov e km,Res.vec 65 1 nv [nb].length ([nb].flatMap P1),vE e (es++n.fs),Res.nd nb n,sE n.fs] d:=by
  refine zO Tryz.func58 O Tryz.ntmps58 l (zB (zG O (zA (zB (zC O (zC O (zH O O (fun d c=>(zIN wb nb e1 e2 pb cb st nv dv ev km lv k cv ov es _ j d qF ‹_› qF qF (c.give [0,1,2,3,4] O V)).mono ?_))))))))
  rintro _ u ⟨a,rfl,m⟩
  refine fq [0,1,2,3,4] O c m (zA (zK (zB (zC O (zo (pV 0 O) O O (zC O (zA (zU (yP (fun(i:Nat)=>[(0,pt wb),(1,Vi j),(3,Vi 0),(15,h),(16,Vj ([].length)),(17,Vj i)]) (fun(i:Nat)=>i=0) (fun(i:Nat)=>[Res.vec 230 2 h ([]:List SndD).length (([]:List SndD).flatMap SndD.cells),jr wb st nv dv ev pb cb (Vj k) cv ov a km,Res.vec 65 1 nv [nb].length ([nb].flatMap P1),vE a (es++n.fs),Res.nd nb n,sE n.fs]) (fun(i:Nat)=>0) (fun d c=>⟨0,⟨O,O,O,O,O,O,trivial⟩,O,c⟩) (fun i g x=>(zB (zy O O O (zA (zK (zT O (fun q=> ?_) (fun q=> ?_))))))))))))))))
  ·exact absurd q (by rw[x];decide)
  refine zz O (zK (zB (zC O (zV O O (zI (o:=10) O O (zJ 1 (v:=nv) O O O O (zC O (y5 O O (zt qE) O (yH (pV 2 O) 1 0 O O qE qH O (zEM (v:=nv) (off:=yk nv+0*1) (0*1+0) (cs:=([nb].flatMap P1)) O qE (fun d p=>Vec.sl (Own.holds p 2 _ O)) (jV (sz:=1) (fun _=>O) O (i:=0) O) qD O (zG O (zA (zB (zC O (zAA qD O O O (zC O (zQ O O (zC O (zQ O O (zH O O (fun d c=>(zPC nb _ d (c.give [4] O V)).mono ?_)))))))))))))))))))))
  rintro _ u ⟨rfl,m⟩
  refine fq [4] O c m (zQ O O (xi (b:=true) O O (zCp O O (zA (yT O (zN (zB (zC O (zG O (zA (zP (zn (v:=Vi 0) O O (fun d c=>⟨a,O,c.sel [1,2,3,5,4] O V⟩)))))))))))))
theorem zOh{d:Option TldD}{x y:TldD}{e:Int}(h:ValPost d x zPL e)(a:d=some y):e=0∧x=y:=by
  by_cases q:e≠0
  · have:=h.bad q
    rw[a]at this;cases this
  have h2:=h.good q
  rw[a]at h2
  exact⟨by omega,(Option.some.inj h2).symm⟩
theorem zPb(wb:Nat)(j dst:Int)(rv:Value)(t:TldD)(w:World)(ht:t.wf)(y:t.ok)(hs:t.reply.session≠0)(a0:Rd w [] (Res.sl rv t.enc.length (t.enc.map vb))):Rets Tryz.prog 102 #[pt wb,Vi j, .agg #[Vi dst,rv]] w fun u_ x=>u_= .tuple #[]∧Own w [] [] x:=by
  refine zO Tryz.func102 O Tryz.ntmps102 (Own.start w) (zB (zj O O (fun b5=>zA (zB (zI (o:=1) O O (zJ 0 (v:=rv) O O O O (zH O O (fun x h=>(zIf rv t.enc x (by have:=zBP ht;omega) (h.rd0 a0)).mono ?_))))))))
  rintro _ w1 ⟨i,a,k,d,u,l,m,n,p,e,g,b,rfl,s,hO⟩
  have hv:=zOh s (zHw ht y)
  have a3:d=t.reply.session:=congrArg (fun z:TldD=>z.reply.session) hv.2
  refine O1 ?_ (h.qb hO)
  refine zC O (zb (vs:=[.agg #[Vn i, .bool a,Vi k,Vn d,Vn u,Vi l,Vn m,Vi n,Vi p,Vi e,Vi g],Vi b]) O O O (zb (vs:=[.agg #[Vn i, .bool a,Vi k,Vn d,Vn u,Vi l,Vn m,Vi n,Vi p,Vi e,Vi g],Vi b]) O O O (zk (v:= .agg #[Vn 0,zu,Vi 0,Vn 0,Vn 0,Vi 0,Vn 0,Vi 0,Vi 0,Vi 0,Vi 0]) qD O (fun b6=>ze 1 O O O (z6 O) O (zG O (zA (zK (zB (zC O (yd O O O (zC O (yK (q:=b≠0) 2 2 [21,20] (a=true) O O O O O O trivial O (fun r=> ?_) (fun a2=> ?_)))))))))))))
  ·refine zQ O (gF r) (zI (o:=1) O O (zQ O (gF r) (zJ 1 (v:= .bool a) O O O O (z8 (yt _) (fun _ h=>h)))))
  refine zC O (yK (q:=(b≠0)∨(a=true)) 4 6 [27,26,25,24] (((d:Nat):Int)≠((0:Nat):Int)) O O O O O O trivial O (fun c=> ?_) (fun a1=> ?_))
  ·refine zQ O (gF c) (zI (o:=3) O O (zQ O (gF c) (zI (o:=0) O O (zQ O (gF c) (zJ 1 (v:=Vn d) O O O O (zQ O (gF c) (yd O O O (z8 O (fun _ h=>h)))))))))
  refine zA (zT O (fun c1=> ?_) (fun c1=> ?_))
  ·exact zP (yl O (fun x h=>⟨O,h.drop⟩))
  exact absurd (Or.inr qE) c1
theorem zPq{S:List Nat}(wb nb e1 e2 pb cb:Nat)(st:SetD)(nv dv ev km lv:Value)(k:Nat)(cv ov:Value)(es:List EntD)(n:NdD)(j:Int)(y rv:Value)(t:TldD)(ps:PsD)(w:World)(hj:j=1)(hx:∀ i,i<n.fs.length→(zf n.fs i).index=es.length+i+1)(hl:es.length≤200)(a9:n.fs.length≤100)(ht:t.wf)(a3:t.ok)(hs:t.reply.session≠0)(a4:ps.l=[])(a5:Own w S [jr wb st nv dv ev pb cb (Vj k) cv ov lv km,Res.vec 65 1 nv [nb].length ([nb].flatMap P1),vE lv es,Res.nd nb n,sE n.fs,Res.vec 230 2 y [({dst:= -1,dv:=rv,data:=t.enc}:SndD)].length ([({dst:= -1,dv:=rv,data:=t.enc}:SndD)].flatMap SndD.cells),vY rv t.enc,Res.ps pb ps] w):Rets Tryz.prog 58 #[pt wb,Vi j,y,Vi 0] w fun u_ d=>∃ (z r:Value) (a0:PsD),u_=Vi 0∧a0.l=[⟨1, -1,r,t.enc⟩]∧Own w S [jr wb st nv dv ev pb cb (Vj k) cv ov z km,Res.vec 65 1 nv [nb].length ([nb].flatMap P1),vE z (es++n.fs),Res.nd nb n,sE n.fs,Res.ps pb a0] d:=by
  have aa: [({dst:= -1,dv:=rv,data:=t.enc}:SndD)].length=1:=rfl
  refine zO Tryz.func58 O Tryz.ntmps58 a5 (zB (zG O (zA (zB (zC O (zC O (zH O O (fun d a=>(zIN wb nb e1 e2 pb cb st nv dv ev km lv k cv ov es _ j d qF ‹_› qF qF (a.give [0,1,2,3,4] O V)).mono ?_))))))))
  rintro _ w1 ⟨e,rfl,p⟩
  refine fq [0,1,2,3,4] O a p (zA (zK (zB (zC O (zo (pV 0 O) O O (zC O (zA (zU (xt (fun(i:Nat) (c:PsD) (r:Value)=>[(0,pt wb),(1,Vi j),(3,Vi 0),(15,y),(16,Vj ([({dst:= -1,dv:=rv,data:=t.enc}:SndD)].length)),(17,Vj i)]) (fun(i:Nat) (c:PsD) (r:Value)=>(i=0∧c.l=[])∨(i=1∧c.l=[⟨1, -1,r,t.enc⟩])) (fun(i:Nat) (c:PsD) (r:Value)=>[Res.vec 230 2 y [({dst:= -1,dv:=rv,data:=t.enc}:SndD)].length ([({dst:= -1,dv:=rv,data:=t.enc}:SndD)].flatMap SndD.cells),vY rv t.enc,Res.ps pb c,jr wb st nv dv ev pb cb (Vj k) cv ov e km,Res.vec 65 1 nv [nb].length ([nb].flatMap P1),vE e (es++n.fs),Res.nd nb n,sE n.fs]) (fun(i:Nat) (c:PsD) (r:Value)=>1 - i) (fun d a=>⟨0,ps,rv,⟨O,O,O,O,O,O,trivial⟩, .inl ⟨O,a4⟩,a⟩) (fun i c r g hΦ=>(zB (zy O O O (zA (zK (zT O (fun c1=> ?_) (fun c1=> ?_))))))))))))))))
  ·have a6:i=0∧c.l=[]:=by rcases hΦ with q|⟨q,_⟩;exact q;omega
   refine zN (zK (zU (zB (yH (pV 0 O) 2 0 O O qE qH O (zPT (v:=y) (off:=yk y+0*2) (0*2+0) (cs:=([({dst:= -1,dv:=rv,data:=t.enc}:SndD)].flatMap SndD.cells)) (SndD.cells ({dst:= -1,dv:=rv,data:=t.enc}:SndD)) O qE (fun d s=>Vec.sl (Own.holds s 0 _ O)) (zFj (sz:=2) (fun _=>O) O (o:=0) (us:=(SndD.cells ({dst:= -1,dv:=rv,data:=t.enc}:SndD))) (fun k u h=>by rw[Nat.zero_add];exact h)) qD O (zk (v:= .agg #[Vi 0,zW]) qD O (fun ab=>(zS (fun d a=>Own.qa (i:=1) O a) (fun a1=>(ze 8 O O O (zF O (zF a1 zh)) O (zA (zK (zB (zI (o:=0) O O (zJ 8 (v:=Vi (-1)) O O O O (zy O O O (zA (zT O (fun c2=> ?_) (fun c2=> ?_)))))))))))))))))))
   ·refine zd (zC O (zC O (z1 8 O O O (zH O O (fun d a=>(zPb wb j (-1) rv _ d ht a3 hs (a.qh 1 O)).mono ?_)))))
    rintro _ w1 ⟨rfl,p⟩
    refine(?_:CL _ _ _ _ _ _ (Own w S [_,_,_,_,_,_,_,_,_])) w1 (a.qb p)
    refine zA (zc [0,1,3,4,5,6,8] O V qD (fun d a m=>zD 0 O za m (zD 1 O (zX O) m (zD 2 O (zL (o:=13) O) m (zD 3 O (zZ 2 (v:=pt pb) O O O) m (zD 4 O za m (zD 5 O (zL (o:=0) O) m (zD 6 O (zZ 6 (v:=Vi (-1)) O O O) m (zD 7 O (zL (o:=1) O) m (zD 8 O (zZ 6 (v:=rv) O O O) m (zM 9 O a (zH O O (fun d a=>((zES pb c j (-1) rv t.enc d a6.2 (by have:=zBP ht;omega) qE (a.give [2] O V) (a.rdVec 1 O [2] O O)).mono ?_))))))))))))))
    rintro _ w1 ⟨a2,a7,rfl,x,p⟩
    refine fq [2] O a p (zE [0,1,2,3,4,5,7] O V (fun d a m=>zY ((?_:C _ _ _ _ _ _ _ (Own w S [_,_,_,_,_,_,_,_,_])) _ a)))
    refine zd (zr O O (zt qE) O (zC O (zw (fun d a=>⟨i+1,a2,a7,⟨O,O,O,O,O,O,trivial⟩,(.inr ⟨by omega,by have q:=x;rw[hj]at q;exact q⟩),a.sel [0,1,8,2,3,4,5,6] O V,qE⟩))))
   exact absurd (show(-1:Int)<0 by decide) c2
  have a8:c.l=[⟨1, -1,r,t.enc⟩]:=by rcases hΦ with⟨q,_⟩|⟨_,q⟩;omega;exact q
  refine zz O (zK (zB (zC O (zV O O (zI (o:=10) O O (zJ 3 (v:=nv) O O O O (zC O (y5 O O (zt qE) O (yH (pV 4 O) 1 0 O O qE qH O (zEM (v:=nv) (off:=yk nv+0*1) (0*1+0) (cs:=([nb].flatMap P1)) O qE (fun d s=>Vec.sl (Own.holds s 4 _ O)) (jV (sz:=1) (fun _=>O) O (i:=0) O) qD O (zG O (zA (zB (zC O (zAA qD O O O (zC O (zQ O O (zC O (zQ O O (zH O O (fun d a=>(zPC nb _ d (a.give [6] O V)).mono ?_)))))))))))))))))))))
  rintro _ w1 ⟨rfl,p⟩
  refine fq [6] O a p (zQ O O (xi (b:=true) O O (zCp O O (zA (yT O (zN (zB (zC O (zG O (zA (zP (zn (v:=Vi 0) O O (fun d a=>⟨e,r,c,O,a8,a.sel [3,4,5,7,6,2] O V⟩)))))))))))))
theorem zLy{fs:List EntD}{e:EntD}{k:Nat}(h:fs=[e])(a:e.index=k+1):∀ i,i<fs.length→(zf fs i).index=k+i+1:=by
  subst h
  intro i hi
  have b:i=0:=by simpa using hi
  subst b
  exact a
theorem zOl{c:CkD}{e:Int}(h:e=1):zCj c e=c.t1:=by unfold zCj;rw[if_pos h]
theorem zPZ{c c':CkD}(a:CkA c 0)(b:c.rho=0)(h:c.t1+y1 40 c.rho≤c'.t1∧c'.t1≤c.t1+xg 40 c.rho):c'.t1=40:=by
  have d:=a.bd.1
  rw[b,show y1 40 0=40 by decide,show xg 40 0=40 by decide]at h
  omega
theorem zQE{S:List Nat}(wb nb e1 e2 pb cb:Nat)(st:SetD)(nv dv ev km lv:Value)(k:Nat)(cv ov:Value)(es:List EntD)(n:NdD)(c:CkD)(w:World)(an:st.nodes=1)(hc:CkA c 0)(hr:c.rho=0)(h:NdF n)(hA:ApOk n.s.a 0)(ai:es=[])(aj:Own w S [jr wb st nv dv ev pb cb (Vj k) cv ov lv km,Res.vec 65 1 nv [nb].length ([nb].flatMap P1),vE lv es,Res.nd nb n,Res.ck cb c] w):Rets Tryz.prog 26 #[pt wb, .agg #[Vi 2,Vi 0,Vi 0,Vi 40,Vn 0,Vn 0,Vn 0,Vn 0,Vi 0,yh,Vi 0,Vi 0,Vn 0]] w fun u_ p=>∃ (ac:Value) (b:NdD) (c':CkD) (e:EntD) (r:RepD),u_=Vi 0∧(CkA c' 2000∧c'.t1=40)∧(((((((b.fs=[e]∧e.toEntA=(⟨1,1,1,0,[]⟩:EntA))∧NdL b 6100 3)∧b.st=n.st)∧b.x.t.now=40)∧b.s.idx=1)∧b.x.es.map EntD.toEntA=[(⟨1,1,1,0,[]⟩:EntA)])∧zAG 0 n.s.a.now n.s.a.cnt n.s.a.kb n.s.a.kl n.s.a.kr (⟨1,1,1,0,[]⟩:EntA) r false 0 b.s.idx b.s.a.now b.s.a.cnt b.s.a.kb b.s.a.kl b.s.a.kr)∧Own w S [jr wb st nv dv ev pb cb (Vj k) cv ov ac km,Res.vec 65 1 nv [nb].length ([nb].flatMap P1),vE ac (es++b.fs),Res.nd nb b,Res.ck cb c',sE b.fs] p:=by
  refine zO Tryz.func26 O Tryz.ntmps26 aj (zB (zj O O (fun b3=>zG O (zA (zK (zK (zc [0,1,2,3,5] O V qD (fun p d j=>zD 0 O za j (zD 1 O (zX O) j (zD 2 O (zL (o:=14) O) j (zD 3 O (zZ 0 (v:=pt cb) O O O) j (zD 4 O (zL (o:=3) O) j (zD 5 O (zZ 4 (v:=Vi 40) O O O) j (zD 6 O (zL (o:=4) O) j (zD 7 O (zZ 4 (v:=Vn 0) O O O) j (zM 8 O d (zH O O (fun p d=>(zLN cb _ 40 0 _ p qF ‹_› qF (d.give [4] O V)).mono ?_))))))))))))))))))
  rintro _ w1 ⟨z,rfl,a1,ad,a2,ae,af,hO⟩
  have a9:=zPZ hc hr a2
  refine fq [4] O d hO (zE [0,1,2,3,4] O V (fun p d j=>zD 9 O z7 j (zY ((?_:C _ _ _ _ _ _ _ (Own w S [_,_,_,_,_,_])) _ d))))
  refine zB (zC O (yd O O O (zA (zT O (fun c1=> ?_) (fun c1=> ?_)))))
  ·exact absurd O c1
  refine zN (zK (zB (zG O (zA (zU (zN6 (fun(i:Nat) (m:Value) (b:NdD) (e:EntD) (r:RepD) (l2 u:List EntD)=>[(0,pt wb),(3,pt b3),(6,Vj i)]) (fun(i:Nat) (m:Value) (b:NdD) (e:EntD) (r:RepD) (l2 u:List EntD)=>((i=1∧b=n)∧l2=es∧u=[])∨((i=2∧l2=es++b.fs∧u=b.fs)∧(((((((b.fs=[e]∧e.toEntA=(⟨1,1,1,0,[]⟩:EntA))∧NdL b 6100 3)∧b.st=n.st)∧b.x.t.now=40)∧b.s.idx=1)∧b.x.es.map EntD.toEntA=[(⟨1,1,1,0,[]⟩:EntA)])∧zAG 0 n.s.a.now n.s.a.cnt n.s.a.kb n.s.a.kl n.s.a.kr (⟨1,1,1,0,[]⟩:EntA) r false 0 b.s.idx b.s.a.now b.s.a.cnt b.s.a.kb b.s.a.kl b.s.a.kr))) (fun(i:Nat) (m:Value) (b:NdD) (e:EntD) (r:RepD) (l2 u:List EntD)=>[jr wb st nv dv ev pb cb (Vj k) cv ov m km,Res.vec 65 1 nv [nb].length ([nb].flatMap P1),vE m l2,Res.nd nb b,Res.row b3 35 [Vi 2,Vi 0,Vi 0,Vi 40,Vn 0,Vn 0,Vn 0,Vn 0,Vi 0,yh,Vi 0,Vi 0,Vn 0],Res.ck cb z,sE u]) (fun(i:Nat) (m:Value) (b:NdD) (e:EntD) (r:RepD) (l2 u:List EntD)=>2 - i) (fun p d=>⟨1,lv,n,default,RepD.zero,es,[],⟨O,O,O,trivial⟩, .inl ⟨⟨O,O⟩,O,O⟩,(Own.qn d)⟩) (fun i m b e r l2 u g hΦ=>(zK (zB (zC O (zC O (zV O O (zI (o:=0) O O (zI (o:=0) O O (zJ 0 (v:=Vi st.nodes) O O O O (yq O O O (zA (zT O (fun c2=> ?_) (fun c2=> ?_)))))))))))))))))))
  ·have h0:(i=1∧b=n)∧l2=es∧u=[]:=by rcases hΦ with q|⟨⟨q,_⟩,_⟩;exact q;omega
   have ag:l2=[]:=h0.2.1.trans ai
   refine zN (zK (zU (zB (zC O (zC O (zH O O (fun p d=>(zFD wb nb e1 e2 pb cb st nv dv ev km m k cv ov l2 ((i:Nat):Int) p qE (d.give [0,1] O V)).mono ?_)))))))
   rintro _ w1 ⟨rfl,hO⟩
   refine fq [0,1] O d hO (zG O (zA (zB (zC O (zAA qD O O O (zA (x2 O (zK (zc [0,2,3,5,6] O V qD (fun p d j=>zD 0 O za j (zD 1 O za j (zD 2 O za j (zD 4 O (zL (o:=4) O) j (zD 5 O (zZ 1 (v:=Vn 0) O O O) j (zD 6 O za j (zD 7 O (kP qD O (yp qE) qD) j (zD 8 O (xL O O (yp qE)) j (zM 3 O d (zH O O (fun p d=>(zEl wb nb e1 e2 pb cb st nv dv ev km m k cv ov l2 z _ ((i:Nat):Int) p a1 (.inl qE) (d.give [5,3] O V)).mono ?_))))))))))))))))))))
   rintro _ w1 ⟨rfl,hO⟩
   refine fq [5,3] O d hO (zE [0,2,6,5,4] O V (fun p d j=>zM 9 O d (zH O O (fun p d=>(zOX nb b (zCj z ((i:Nat):Int)) (0+i) p (by rw[h0.1.2];exact h) (by rw[zOl qE,a9];decide) (by rw[zOl qE,a9];decide) qE (by rw[h0.1.2];exact hA) (d.give [1] O V)).mono ?_))))
   rintro _ w1 ⟨a3,a0,ak,al,rfl,aa,a4,a5,a6,l,y,a7,a8,hO⟩
   refine fq [1] O d hO (zE [0,1,5,4,3] O V (fun p d j=>zD 10 O za j (zD 11 O (yD (vs:=[a3,Vi 0]) O O) j (zD 12 O (yD (vs:=[a3,Vi 0]) O O) j (zD 13 O z7 j (zD 14 O z7 j (zY ((?_:C _ _ _ _ _ _ _ (Own w S [_,_,_,_,_,_,_,_,_])) _ d))))))))
   refine zd (zC O (zC O (zC O (zC O (zH O O (fun p d=>(zQ0 wb nb e1 e2 pb cb st nv dv ev km m k cv ov l2 a0 ((i:Nat):Int) a3 p qE (zLy l ((congrArg EntA.index y).trans (by rw[ag];rfl))) (by rw[ag];decide) (by rw[l];show 1≤100;decide) (d.give [4,3,0,6,7,8] O V)).mono ?_))))))
   rintro _ w1 ⟨ab,rfl,hO⟩
   refine fq [4,3,0,6,7,8] O d hO (zA (zd (zC O (zr O O (zt qE) O (zG O (zw (fun p d=>⟨i+1,ab,a0,ak,al,l2++a0.fs,a0.fs,⟨O,O,O,trivial⟩,(.inr ⟨⟨by omega,by rw[h0.2.1],O⟩,⟨⟨⟨⟨⟨⟨⟨l,y⟩,aa⟩,a4.trans (congrArg NdD.st h0.1.2)⟩,a5.trans ((zOl qE).trans a9)⟩,a7⟩,a6⟩,(by have q:=a8;rw[h0.1.2]at q;exact q)⟩⟩),(d.sel [3,4,5,6,0,2,7] O V),qE⟩)))))))
  have h1:(i=2∧l2=es++b.fs∧u=b.fs)∧(((((((b.fs=[e]∧e.toEntA=(⟨1,1,1,0,[]⟩:EntA))∧NdL b 6100 3)∧b.st=n.st)∧b.x.t.now=40)∧b.s.idx=1)∧b.x.es.map EntD.toEntA=[(⟨1,1,1,0,[]⟩:EntA)])∧zAG 0 n.s.a.now n.s.a.cnt n.s.a.kb n.s.a.kl n.s.a.kr (⟨1,1,1,0,[]⟩:EntA) r false 0 b.s.idx b.s.a.now b.s.a.cnt b.s.a.kb b.s.a.kl b.s.a.kr):=by rcases hΦ with⟨⟨q,_⟩,_⟩|q;omega;exact q
  obtain⟨⟨_,am,ah⟩,hF⟩:=h1
  refine zz O (zB (zG O (zA (zP (zn (v:=Vi 0) O O (fun p d=>⟨m,b,z,e,r,O,⟨a1,a9⟩,hF,(by subst am ah;exact d.sel [0,1,2,3,5,6] rfl V)⟩))))))
end Go.Proofs.YtmpaljnacfidaaaGreatDoor
