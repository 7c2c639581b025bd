import Derived.Test.YthpoddkmhfhboaaGreatDoorNodE
set_option linter.unusedSimpArgs false
set_option linter.unusedVariables false
set_option maxRecDepth 10000
namespace Go.Proofs.YthpoddkmhfhboaaGreatDoor
open Go.Sc
theorem zNW{S:List Nat}(nb cb gb lk stb:Nat)(st:SetD)(av ov tv fv:Value)(sa:StA)(x:AlD)(s:LgD)(o:StoD)(c m:Nat)(now:Int)(dr:Nat)(w:World)(h:AlF sa x)(hd:x.t.due≤max x.t.now now)(hn:now≤1000000000000000)(a5:dr<18446744073709551616)(a6:st.keep=0)(hs:StoOk o c m)(hh:o.hh=false)(a7:o.es=[])(a8:s.idx=0)(hA:ApOk s.a 0)(hc:c+6200≤1048576)(hm:m+2<4000)(a9:Own w S [kV nb cb gb av lk stb st ov tv fv,x5 av [],Res.al cb sa x,Res.lg gb s,Res.sto stb o] w):Rets Tryz.prog 46 #[pt nb,Vi now,Vn dr] w fun u_ w'=>∃ (a0 a1 rv:Value) (p:AlD) (q:LgD) (o':StoD) (e:EntD) (r:RepD),u_= .tuple #[rv,Vi 0]∧AlL sa p 1∧p.t.now=max x.t.now now∧p.es.map EntD.toEntA=[(⟨1,1,1,0,[]⟩:EntA)]∧p.t.qh=p.t.now∧e.toEntA=(⟨1,1,1,0,[]⟩:EntA)∧zA6 0 s.a.now s.a.cnt s.a.kb s.a.kl s.a.kr (⟨1,1,1,0,[]⟩:EntA) r false 0 q.idx q.a.now q.a.cnt q.a.kb q.a.kl q.a.kr∧StoOk o' (c+6100) (m+2)∧o'.es.map EntD.toEntA=p.es.map EntD.toEntA∧Own w S [kV nb cb gb a0 lk stb st zW zW a1,x5 a0 [],Res.al cb sa p,Res.lg gb q,Res.sto stb o',vE a1 [e],sE [e],ySv rv []] w':=by
 refine zO Tryz.func46 O Tryz.ntmps46 a9 (zB (zj O O (fun b3=>zj O O (fun b4=>zj O O (fun b5=>zF O (zF O (zA (zK (zB (zJ 5 (v:=pt nb) O O O O (yE qF O O O (zA (yW O (zN (zB (zJ 5 (v:=pt nb) O O O O (j7 (va:=[]) (vb:=[pt b3,pt b4,pt b5]) O O O (zG O O (fun w' hw=>(zT4 nb cb gb lk stb st av ov tv fv _ _ _ _ _ _ now dr b3 b4 b5 w' h hd hn a5 a6 hs hh a7 a8 hA hc hm (hw.give [5,6,7,0,1,2,3,4] O V)).mono ?_)))))))))))))))))))
 rintro _ w1 ⟨u,y,b,a2,a3,a4,aa,ab,rfl,z,d,g,i,j,k,l,n,hO⟩
 refine fq [5,6,7,0,1,2,3,4] O hw hO (zb (vs:=[b,Vi 0]) O O O (zb (vs:=[b,Vi 0]) O O O (zF O (zF O (zA (zP (yg (v:=b) (v':=Vi 0) O O O (fun w' hw=>⟨u,y,b,a2,a3,a4,aa,ab,O,z,d,g,i,j,k,l,n,hw.sel [3,4,5,6,7,8,9,10] O V⟩))))))))
theorem zOE{d:Option AskD}{x y:AskD}{e:Int}(h:ValPost d x askZ e)(a:d=some y):e=0∧x=y:=by
 by_cases q:e≠0
 · have:=h.bad q
   rw[a]at this;cases this
 have h2:=h.good q
 rw[a]at h2
 exact⟨by omega,(Option.some.inj h2).symm⟩
theorem zOb{S:List Nat}(nb cb gb lk stb:Nat)(st:SetD)(av ov tv fv:Value)(sa:StA)(x:AlD)(k:Nat)(s:LgD)(o:StoD)(c m:Nat)(edge now:Int)(dv:Value)(data:List UInt8)(y:AskD)(lr:RepD)(dr:Nat)(w:World)(an:zDG data=some y)(bg:data.length≤1048576)(h:AlL sa x k)(aw:k≤1000)(hl:x.es.length≤200)(ax:x.es.length≤97∨jP (x.es.map EntD.toEntA)<512)(hn:now=x.t.now)(ay:y.look=false)(az:y.wf)(b0:y.cmd.ok)(b1:y.cmd.session=u64 (-edge))(b2: -16≤edge∧edge≤ -1)(hk:yn s.a.kr y.cmd.session y.cmd.seq=(lr,8))(b3:st.keep=0)(hs:StoOk o c m)(b4:o.es.map EntD.toEntA=x.es.map EntD.toEntA)(b7:s.idx=x.es.length)(hA:ApOk s.a (min (x.t.now - x.t.qh) 1099511627776))(hc:c+6200≤1048576)(hm:m+2<4000)(hW:∀ r ac cnt' kb' kl' kr',DoK (ye s.a.now (min (x.t.now - x.t.qh) 1099511627776)) s.a.cnt s.a.kb (yX s.a.now (min (x.t.now - x.t.qh) 1099511627776) s.a.kl) s.a.kr y.cmd r ac cnt' kb' kl' kr'→({seq:=y.seq,retry:=false,lead:=0,reply:=r,most:=0,lent:=0}:TldD).wf∧({seq:=y.seq,retry:=false,lead:=0,reply:=r,most:=0,lent:=0}:TldD).ok)(ba:Own w S [kV nb cb gb av lk stb st ov tv fv,x5 av [],Res.al cb sa x,Res.lg gb s,Res.sto stb o] w)(bb:Rd w S (Res.sl dv data.length (data.map vb))):Rets Tryz.prog 50 #[pt nb,Vi edge,dv,Vi now,Vn dr] w fun u_ w'=>∃ (ao ap bc rv qv:Value) (x':AlD) (s':LgD) (o':StoD) (e:EntD) (r:RepD) (ac:Bool),u_= .tuple #[qv,Vi 0]∧AlL sa x' k∧x'.t.now=x.t.now∧x'.es.map EntD.toEntA=x.es.map EntD.toEntA++[(⟨x.es.length+1,1,2,min (x.t.now - x.t.qh) 1099511627776,y.cmd.enc⟩:EntA)]∧x'.t.qh=x.t.now∧e.toEntA=(⟨x.es.length+1,1,2,min (x.t.now - x.t.qh) 1099511627776,y.cmd.enc⟩:EntA)∧s'.idx=s.idx+1∧s'.a.now=ye s.a.now (min (x.t.now - x.t.qh) 1099511627776)∧DoK (ye s.a.now (min (x.t.now - x.t.qh) 1099511627776)) s.a.cnt s.a.kb (yX s.a.now (min (x.t.now - x.t.qh) 1099511627776) s.a.kl) s.a.kr y.cmd r ac s'.a.cnt s'.a.kb s'.a.kl s'.a.kr∧StoOk o' (c+6100) (m+2)∧o'.es.map EntD.toEntA=x'.es.map EntD.toEntA∧Own w S [kV nb cb gb ao lk stb st zW bc ap,x5 ao [],Res.al cb sa x',Res.lg gb s',Res.sto stb o',vE ap [e],sE [e],ySv qv [({dst:=edge,dv:=rv,data:=({seq:=y.seq,retry:=false,lead:=0,reply:=r,most:=0,lent:=0}:TldD).enc}:SndD)],vY rv (({seq:=y.seq,retry:=false,lead:=0,reply:=r,most:=0,lent:=0}:TldD).enc)] w':=by
 refine zO Tryz.func50 O Tryz.ntmps50 ba (zB (zj O O (fun b5=>zj O O (fun b6=>zj O O (fun b8=>zj O O (fun b9=>zF O (zF O (zA (zK (zU (zB (zJ 5 (v:=pt nb) O O O O (yE qF O O O (zF O (zA (yW O (zB (zJ 5 (v:=pt nb) O O O O (zV O O (zI (o:=15) O O (zJ 0 (v:=yC) O O O O (zF O (zA (yW O (zB (zJ 6 (v:=Vi edge) O O O O (zu O O O (zF O (zA (zT O (fun c3=> ?_) (fun c3=> ?_)))))))))))))))))))))))))))))))
 ·refine zB (zC O (zG O O (fun w' hw=>(zOy dv data w' qH (hw.rd0 bb)).mono ?_)))
  rintro _ w1 ⟨j,l,i,ad,ae,n,af,p,q,d,g,ab,rfl,ag,hO⟩
  have hv:=zOE ag an
  obtain⟨bd,bf⟩:=hv
  subst bf
  refine(?_:CL _ _ _ _ _ _ (Own w S [_,_,_,_,_,_,_,_,_])) w1 (hw.qb hO)
  refine zC O (zb (vs:=[.agg #[.bool j, .bool l,Vn i,Vn ad,Vn ae,Vi n, .string af,Vi p,Vi q,Vn d, .string g],Vi ab]) O O O (zb (vs:=[.agg #[.bool j, .bool l,Vn i,Vn ad,Vn ae,Vi n, .string af,Vi p,Vi q,Vn d, .string g],Vi ab]) O O O (zk (v:= .agg #[yC,yC,Vn 0,Vn 0,Vn 0,Vi 0,ym,Vi 0,Vi 0,Vn 0,ym]) qF O (fun aq=>zf 9 O O O (zz O) O (zF O (zA (zK (zB (zC O (yf O O O (zA (zT O (fun c4=> ?_) (fun c4=> ?_)))))))))))))
  ·exact absurd bd c4
  refine zN (zB (zJ 5 (v:=pt nb) O O O O (zJ 6 (v:=Vi edge) O O O O (zI (o:=2) O O (zJ 9 (v:=Vn i) O O O O (j7 (va:=[]) (vb:=[pt b5,pt b6,pt aq,pt b8]) O O O (zG O O (fun w' hw=>(zT5 nb cb gb lk stb st av ov tv fv _ _ _ _ _ _ _ edge now ({look:=j,lazy:=l,seq:=i,cmd:=({session:=ad,seq:=ae,op:=n,key:=af,amount:=p,span:=q,lease:=d}:CmdD),key:=g}:AskD) _ b5 b6 aq b8 w' h aw hl ax hn ay az b0 b1 b2 hk b3 hs b4 b7 hA hc hm hW (hw.give [5,6,9,7,0,1,2,3,4] O V)).mono ?_))))))))
  rintro _ w1 ⟨a7,a8,a9,ah,b,ai,aj,ak,ar,au,aa,rfl,am,u,z,a0,a1,a2,a3,a4,a5,a6,hO⟩
  refine fq [5,6,9,7,0,1,2,3,4] O hw hO (zb (vs:=[b,Vi 0]) O O O (zb (vs:=[b,Vi 0]) O O O (zF O (zF O (zA (zP (yg (v:=b) (v':=Vi 0) O O O (fun w' hw=>⟨a7,a8,a9,ah,b,ai,aj,ak,ar,au,aa,O,am,u,z,a0,a1,a2,a3,a4,a5,a6,hw.sel [5,6,7,8,9,10,11,12,13] O V⟩))))))))
 exact absurd (show edge<0 by omega) c3
theorem zHm{S:List Nat}(nb cb gb e stb:Nat)(st:SetD)(av ov tv fv:Value)(fs:List EntD)(w:World)(hl:fs.length≤1000)(d:Own w S [kV nb cb gb av e stb st ov tv fv,vE fv fs,sE fs] w):Rets Tryz.prog 146 #[pt nb] w fun g c=>∃ (r:Value),g=r∧Own w S [kV nb cb gb av e stb st ov tv fv,vE fv fs,sE fs,vE r fs] c:=by
 refine zO Tryz.func146 O Tryz.ntmps146 d (zB (zF O (zA (zK (zB (zC O (yE qF O O O (zA (yW O (zN (zB (zC O (zV O O (zI (o:=18) O O (zJ 0 (v:=fv) O O O O (zG O O (fun c a=>(zD3 fv fs c qH (a.qj 1 O) (EntD.rd.star0 2 O a)).mono ?_)))))))))))))))))
 rintro b h ⟨_,rfl,i⟩
 refine(?_:CL _ _ _ _ _ _ (Own w S [_,_,_,_])) h (a.qb i)
 refine zF O (zA (zP (zm (v:=b) O O (fun c a=>⟨b,O,a⟩))))
structure NdD where
 cb:Nat
 gb:Nat
 stb:Nat
 st:SetD
 x:AlD
 s:LgD
 o:StoD
 av:Value
 ov:Value
 tv:Value
 fv:Value
 fs:List EntD
def zS8(nb:Nat)(n:NdD):Res:=Res.row nb 122 [pt n.cb,pt n.gb,n.av,Vn 0,pt n.stb,Vi n.st.nodes,Vi n.st.voters,Vi n.st.edges,Vi n.st.rho,Vi n.st.base,Vi n.st.spread,Vi n.st.beat,Vi n.st.disk,Vi n.st.post,Vi n.st.keep, .bool false,n.ov,n.tv,n.fv]
def Res.nd(nb:Nat)(n:NdD):Res:=Res.star [zS8 nb n,Res.vec 296 7 n.av 0 [],Res.al n.cb (zCb n.st.rho) n.x,Res.lg n.gb n.s,Res.sto n.stb n.o,vE n.fv n.fs]
structure NdF(n:NdD):Prop where
 st:n.st=jT n.st.rho
 x:AlF (zCb n.st.rho) n.x
 now:n.x.t.now=0
 due:n.x.t.due≤32
 idx:n.s.idx=0
 lg:n.s.a=lgZ
 so:StoOk n.o 0 1
 hh:n.o.hh=false
 es:n.o.es=[]
 fs:n.fs=[]
structure NdL(n:NdD)(c m:Nat):Prop where
 st:n.st=jT n.st.rho
 x:AlL (zCb n.st.rho) n.x 1
 qh:n.x.t.qh=n.x.t.now
 idx:n.s.idx=n.x.es.length
 so:StoOk n.o c m
 es:n.o.es.map EntD.toEntA=n.x.es.map EntD.toEntA
theorem zKs{S:List Nat}(db:Nat)(D:DskD)(kf:List (ByteArray×FilD))(st:SetD)(qe:Nat)(w:World)(b:st=jT st.rho)(c:0≤st.rho∧st.rho≤500000)(d:DskCl D)(hl:kf.length=0)(e:D.room=1048576)(g:qe<18446744073709551616)(a:Own w S [Res.dk db D kf] w):Rets Tryz.prog 41 #[Vi 1,pt db, .agg (SetD.cells st).toArray,Vi 0,Vn qe] w fun h i=>∃ (nb:Nat) (n:NdD),h= .tuple #[pt nb,Vi 0]∧NdF n∧n.st=st∧Own w S [Res.nd nb n] i:=by
 refine(zLo db D kf st qe w b c d hl e g a).mono ?_
 rintro _ v ⟨nb,cb,gb,stb,x,s,o,rfl,j,k,y,l,m,p,q,r,u⟩
 refine⟨nb,⟨cb,gb,stb,st,x,s,o,zW,zW,zW,zW,[]⟩,O,⟨b,j,k,?_,l,m,p,q,r,O⟩,O,((zq (zq u 296 7) 113 5).qg [0,4,1,2,3,5] O V).sel [0] O V⟩
 show x.t.due≤32
 have:=Nat.mod_lt qe (show 0<21 by decide)
 omega
theorem zNL{S:List Nat}(nb:Nat)(n:NdD)(now:Int)(d:Nat)(w:World)(h:NdF n)(y:32≤now)(z:now≤1000000000000000)(g:d<18446744073709551616)(hA:ApOk n.s.a 0)(i:Own w S [Res.nd nb n] w):Rets Tryz.prog 46 #[pt nb,Vi now,Vn d] w fun u_ w'=>∃ (rv:Value) (b:NdD) (e:EntD) (r:RepD),u_= .tuple #[rv,Vi 0]∧NdL b 6100 3∧b.st=n.st∧b.x.t.now=now∧b.x.es.map EntD.toEntA=[(⟨1,1,1,0,[]⟩:EntA)]∧b.fs=[e]∧e.toEntA=(⟨1,1,1,0,[]⟩:EntA)∧b.s.idx=1∧zA6 0 n.s.a.now n.s.a.cnt n.s.a.kb n.s.a.kl n.s.a.kr (⟨1,1,1,0,[]⟩:EntA) r false 0 b.s.idx b.s.a.now b.s.a.cnt b.s.a.kb b.s.a.kl b.s.a.kr∧Own w S [Res.nd nb b,sE b.fs,ySv rv []] w':=by
 have l:=h.now
 have m:=h.due
 have j:max n.x.t.now now=now:=by omega
 have hi:=(i.qi 0 rfl).sel [0,1,2,3,4] rfl V
 refine(zNW nb n.cb n.gb 0 n.stb n.st n.av n.ov n.tv n.fv (zCb n.st.rho) n.x n.s n.o 0 1 now d w h.x qG z g (by rw[h.st];rfl) h.so h.hh h.es h.idx hA V V hi).mono ?_
 rintro _ w1 ⟨av,fv,rv,p,q,o',e,r,rfl,f1,f2,u,f4,f5,v,f7,f8,hO⟩
 have c:q.idx=1:=(zPu v (by unfold EntA.ok;decide) rfl rfl).1.2
 have k:p.es.length=1:=by have:=congrArg List.length u;simpa using this
 exact⟨rv,⟨n.cb,n.gb,n.stb,n.st,p,q,o',av,zW,zW,fv,[e]⟩,e,r,O,⟨h.st,f1,f4,c.trans k.symm,f7,f8⟩,O,f2.trans j,u,O,f5,c,v,(hO.qg [0,1,2,3,4,5] O V).sel [2,0,1] O V⟩
theorem zG2{S:List Nat}(nb:Nat)(n:NdD)(w:World)(hl:n.fs.length≤1000)(a:Own w S [Res.nd nb n,sE n.fs] w):Rets Tryz.prog 146 #[pt nb] w fun c d=>∃ (r:Value),c=r∧Own w S [Res.nd nb n,sE n.fs,vE r n.fs] d:=by
 have hi:=a.qi 0 rfl
 have b:=hi.give [1,6,0] rfl V
 refine(zHm nb n.cb n.gb 0 n.stb n.st n.av n.ov n.tv n.fv n.fs w hl b).mono ?_
 rintro _ h ⟨r,e,g⟩
 have h2:=hi.qc [1,6,0] rfl g
 exact⟨r,e,(h2.qg [4,0,1,2,3,5] O V).sel [2,0,1] O V⟩
theorem zPq{S:List Nat}(nb:Nat)(n:NdD)(w:World)(a:Own w S [Res.nd nb n] w):Rets Tryz.prog 86 #[pt nb] w fun b c=>b=xx∧Own w S [Res.nd nb n] c:=by
 have hi:=a.qi 0 rfl
 refine(zSu nb n.cb n.gb 0 n.stb n.st n.av n.ov n.tv n.fv w (hi.give [0] O V)).mono ?_
 rintro _ e ⟨rfl,d⟩
 exact⟨O,((hi.qc [0] O d).qg [5,0,1,2,3,4] O V).sel [0] O V⟩
theorem zJt{S:List Nat}(nb:Nat)(n:NdD)(w:World)(b:Own w S [Res.nd nb n] w):Rets Tryz.prog 20 #[pt nb] w fun c d=>∃ (a:Nat) (s2:LgD),c=pt a∧s2.idx=n.s.idx∧Own w S [Res.nd nb n,Res.lg a s2] d:=by
 have hi:=b.qi 0 rfl
 refine(zJh nb n.cb n.gb 0 n.stb n.st n.av n.ov n.tv n.fv n.s w (hi.give [0,3] O V)).mono ?_
 rintro _ h ⟨a,s2,rfl,e,g⟩
 exact⟨a,s2,O,e,((hi.qc [0,3] O g).qg [4,0,1,5,2,3] O V).sel [1,0] O V⟩
theorem zQN{S:List Nat}(nb cb gb y stb:Nat)(st:SetD)(av ov tv fv:Value)(sa:StA)(x:AlD)(k:Nat)(s:LgD)(o:StoD)(c m:Nat)(now:Int)(dr:Nat)(pb tb db:Nat)(w:World)(h:AlL sa x k)(ac:k≤1000)(hl:x.es.length≤200)(hn:now≤1000000000000000)(ap:dr<18446744073709551616)(aq:st.keep=0)(hs:StoOk o c m)(ad:o.es.map EntD.toEntA=x.es.map EntD.toEntA)(ar:s.idx=x.es.length)(hc:c+6200≤1048576)(hm:m+2<4000)(au:Own w S [Res.row pb 60 [pt nb],Res.row tb 2 [Vi now],Res.row db 31 [Vn dr],kV nb cb gb av y stb st ov tv fv,x5 av [],Res.al cb sa x,Res.lg gb s,Res.sto stb o] w):Rets Tryz.prog 81 #[pt nb,Vi 0,Vn 0, .func (.func 82) #[] #[pt pb,pt tb,pt db]] w fun u_ d=>∃ (ae rv:Value) (x':AlD) (o':StoD),u_= .tuple #[rv,Vi 0]∧AlL sa x' (k+1)∧x'.t.now=max x.t.now now∧x'.es.map EntD.toEntA=x.es.map EntD.toEntA∧x'.t.qh=x.t.qh∧StoOk o' c m∧o'.es.map EntD.toEntA=x'.es.map EntD.toEntA∧Own w S [Res.row pb 60 [pt nb],Res.row tb 2 [Vi now],Res.row db 31 [Vn dr],kV nb cb gb ae y stb st zW zW zW,x5 ae [],Res.al cb sa x',Res.lg gb s,Res.sto stb o',ySv rv []] d:=by
 have af:x.ld.isNone=false:=by obtain⟨q,hq,_⟩:=h.ld;rw[hq];rfl
 have aw:zJ5 x=[]:=by unfold zJ5;rw[af];rfl
 refine zO Tryz.func81 O Tryz.ntmps81 au (zB (zF O (zF O (zA (zK (zB (zC O (zV O O (zI (o:=15) O O (zJ 3 (v:=yC) O O O O (zA (yW O (zN (zB (zC O (zV O O (zI (o:=0) O O (xI 3 [pt cb,pt gb,av,Vn y] O O (yj 0 O) qF O (zG O O (fun d b=>(zFa _ _ y av sa _ _ _ d (.inr h) qG ac (b.give [5,6,4] O V)).mono ?_))))))))))))))))))))
 rintro _ w1 ⟨n,z,a0,ag,ah,rfl,a1,a2,hO⟩
 refine fq [5,6,4] O b hO (zk (v:= .agg #[.pointer none, .pointer none,zW,Vn 0]) qF O (fun ai=>(zS (fun d b=>Own.qa (i:=10) O b) (fun aj=>(zf 11 O O O (zH O (zH O (zH aj (zH O zh)))) O (zA (zB (zC O (zC O (zC O (zV O O (zI (o:=16) O O (zi 3 O O O O O (zV O O (zI (o:=17) O O (zi 3 O O O O O (zV O O (zI (o:=18) O O (zi 3 O O O O O (zA (zB (zC O (yM (fst:=[]) (cap:=[pt pb,pt tb,pt db]) O qF O O (fun d b=>(zIx nb cb gb y stb st av zW zW zW _ _ k now dr pb tb db d (.inr h) qG ac hn ap (b.give [0,1,2,3,5] O V)).mono ?_))))))))))))))))))))))))
 rintro _ w1 ⟨e,rfl,p,a3,a4,a5,ak,hO⟩
 have a9:e.es.map EntD.toEntA=x.es.map EntD.toEntA:=by rw[a4,aw,List.append_nil]
 have ax:e.es.length=x.es.length:=by have:=congrArg List.length a9;simpa using this
 refine fq [0,1,2,3,5] O b hO (zC O (zb (vs:=[.agg (OutD.cells xn).toArray,Vi 0]) O O O (zb (vs:=[.agg (OutD.cells xn).toArray,Vi 0]) O O O (zk (v:= .agg #[zW,yC,zW,zW]) qF O (fun am=>zf 12 O O O (zz O) O (zF O (zA (zK (zB (zC O (yf O O O (zC O (yA (q:=0≠0) 2 2 [44,43] (0=0) O O O O O O trivial O (fun a7=> ?_) (fun az=> ?_))))))))))))))
 ·refine zQ O (gT a7) (zC O (zQ O (gT a7) (yT O O O (z8 O (fun _ b=>b)))))
 refine zA (zT O (fun c2=> ?_) (fun c2=> ?_))
 ·exact absurd O c2.1
 refine zN (zK (zB (zI (o:=0) O O (zJ 12 (v:=zW) O O O O (jM qF O O (zC O (zA (zU (yQ (fun(j:Nat)=>[(0,pt nb),(1,Vi 0),(2,Vn 0),(10,pt ai),(11,pt am),(48,zW),(49,Vj 0),(50,Vj j)]) (fun(j:Nat)=>j=0) (fun(j:Nat)=>[Res.sto stb o,Res.lg gb s,x5 av [],Res.cq n sa ag,Res.lg z ah,x5 a0 [],Res.row ai 118 [pt n,pt z,a0,Vn y],Res.row pb 60 [pt nb],Res.row tb 2 [Vi now],Res.row db 31 [Vn dr],kV nb cb gb av y stb st zW zW zW,Res.al cb sa e,zKn am xn]) (fun(j:Nat)=>0) (fun d b=>⟨0,⟨O,O,O,O,O,O,O,O,trivial⟩,O,b⟩) (fun j g hΦ=>(zB (zu O O O (zA (zK (zT O (fun c3=> ?_) (fun c3=> ?_))))))))))))))))
 ·exact absurd c3 (by rw[hΦ];decide)
 refine zw O (zK (zB (zC O (zI (o:=0) O O (zJ 6 (v:=pt n) O O O O (zG O O (fun d b=>(zGz nb cb gb y stb st av zW zW zW n sa e _ ag o _ _ [] d p a2 hs (.inl (by rw[a1];exact h.hard)) (by rw[a9,ad,List.append_nil]) (Nat.zero_le 1) (by have:=congrArg List.length ad;simp at this;omega) (.inl O) hc hm (b.give [10,11,3,0] O V)).mono ?_)))))))
 rintro _ w1 ⟨an,rfl,ao,r,u,hO⟩
 refine fq [10,11,3,0] O b hO (zA (zU (zB (yT O O O (zF O (zA (zT O (fun c4=> ?_) (fun c4=> ?_))))))))
 ·refine zN (zB (zC O (z6 (cs:=(OutD.cells xn)) 8 O O O (zG O O (fun d b=>(zEY nb cb gb y stb st av zW zW zW d (b.give [9,1] O V)).mono ?_)))))
  rintro _ w1 ⟨aa,rfl,hO⟩
  refine fq [9,1] O b hO (zA (zB (zC O (zG O O (fun d b=>(zK6 nb cb gb y stb st aa zW zW zW sa e _ d ((p).toAlI) qG (by rw[(p).com,ax,ar]) (b.give [11,12,8,0] O V)).mono ?_)))))
  rintro _ w1 ⟨ab,rfl,hO⟩
  refine fq [11,12,8,0] O b hO (zA (zB (zC O (zG O O (fun d b=>(zDi nb cb gb y stb st ab zW zW zW d (b.give [9,10] O V)).mono ?_)))))
  rintro _ w1 ⟨a6,rfl,hO⟩
  refine fq [9,10] O b hO (zA (zK (zK (zd [0,1,2,3,4,5,6,7,8,9,10,11,12] O V qF (fun d b a=>zD 0 O za a (zD 1 O (zY O) a (zD 2 O (zL (o:=5) O) a (zD 3 O (zL (o:=9) O) a (zD 4 O (zZ 11 (v:=Vi st.keep) O O O) a (zD 5 O (zBm O O) a (zD 6 O za a ?_)))))))))))
  by_cases g26_6:0<st.keep
  ·exact absurd g26_6 (by rw[aq];decide)
  refine yD 7 O O (gF g26_6) O a (yD 8 O O (gF g26_6) O a (yD 9 O O (gF g26_6) O a (yD 10 O O (gF g26_6) O a (yD 11 O O (gF g26_6) O a (yD 12 O O (gF g26_6) O a (yD 13 O O (gF g26_6) O a (yD 14 O O (gF g26_6) O a (yD 15 O O (gF g26_6) O a (yD 16 O O (gF g26_6) O a (yD 17 O O (gF g26_6) O a (yD 18 O O (gF g26_6) O a (yD 19 O O (gF g26_6) O a (yD 20 O O (gF g26_6) O a (yD 21 O O (gF g26_6) O a (yD 22 O O (gF g26_6) O a (yD 23 O O (gF g26_6) O a (yD 24 O O (gF g26_6) O a (yD 25 O O (gF g26_6) O a (yD 26 O O (gF g26_6) O a (yD 27 O O (gF g26_6) O a (zD 28 O (jw (gF g26_6)) a (zD 29 O za a (yD 30 O O O O a (yD 31 O O O O a (yD 32 O O O O a (zD 33 O (jw O) a (zX ((?_:C _ _ _ _ _ _ _ (Own w S [_,_,_,_,_,_,_,_,_,_,_,_,_])) _ b))))))))))))))))))))))))))))
  refine yW O (zN (zK (zd [0,1,2,3,4,5,6,7,8,9,10,11,12] O V qF (fun d b a=>zD 0 O za a (zD 1 O (zY O) a (zD 2 O (zL (o:=16) O) a (zD 3 O (zZ 11 (v:=zW) O O O) a (zD 4 O za a (zD 5 O (zY O) a (zD 6 O (zL (o:=17) O) a (zD 7 O (zZ 11 (v:=zW) O O O) a (zM 8 O b (y1 199 2 (y1 199 2 (yF (g:=SndD.cells) (sz:=2) (by':=32) (fun _=>O) (l:=[]) (l':=[]) (by simp[cell1,SndD.cells,vu]) 13 qF O O O (fun d ay=>Vec.sl (Own.holds ay 13 _ O)) qH V O (fun a8=>zE [0,1,2,3,4,5,6,7,8,9,10,11,12] O V (fun d b a=>zD 9 O yB a (zD 10 O yB a (zX ((?_:C _ _ _ _ _ _ _ (Own w S [_,_,_,_,_,_,_,_,_,_,_,_,_,_,_])) _ b))))))))))))))))))))
  exact zP (yg (v:=a8) (v':=Vi 0) O O O (fun d b=>⟨a6,a8,e,an,O,p,a3,a9,(by rw[a5,af];rfl),(u O (by rw[a1];exact h.hard)),r,b.sel [3,4,5,11,12,9,10,8,13] O V⟩))
 exact absurd O c4
theorem zMf{S:List Nat}(nb cb gb lk stb:Nat)(st:SetD)(av ov tv fv:Value)(u:StA)(x:AlD)(k:Nat)(s:LgD)(o:StoD)(c m:Nat)(now:Int)(dr:Nat)(w:World)(h:AlL u x k)(a0:k≤1000)(hl:x.es.length≤200)(hn:now≤1000000000000000)(a1:dr<18446744073709551616)(a2:st.keep=0)(hs:StoOk o c m)(a3:o.es.map EntD.toEntA=x.es.map EntD.toEntA)(a4:s.idx=x.es.length)(hc:c+6200≤1048576)(hm:m+2<4000)(a5:Own w S [kV nb cb gb av lk stb st ov tv fv,x5 av [],Res.al cb u x,Res.lg gb s,Res.sto stb o] w):Rets Tryz.prog 46 #[pt nb,Vi now,Vn dr] w fun u_ y=>∃ (p rv:Value) (n:AlD) (o':StoD),u_= .tuple #[rv,Vi 0]∧AlL u n (k+1)∧n.t.now=max x.t.now now∧n.es.map EntD.toEntA=x.es.map EntD.toEntA∧n.t.qh=x.t.qh∧StoOk o' c m∧o'.es.map EntD.toEntA=n.es.map EntD.toEntA∧Own w S [kV nb cb gb p lk stb st zW zW zW,x5 p [],Res.al cb u n,Res.lg gb s,Res.sto stb o',ySv rv []] y:=by
 refine zO Tryz.func46 O Tryz.ntmps46 a5 (zB (zj O O (fun b3=>zj O O (fun b4=>zj O O (fun b5=>zF O (zF O (zA (zK (zB (zJ 5 (v:=pt nb) O O O O (yE qF O O O (zA (yW O (zN (zB (zJ 5 (v:=pt nb) O O O O (j7 (va:=[]) (vb:=[pt b3,pt b4,pt b5]) O O O (zG O O (fun y z=>(zQN nb cb gb lk stb st av ov tv fv _ _ _ _ _ _ _ now dr b3 b4 b5 y h a0 hl hn a1 a2 hs a3 a4 hc hm (z.give [5,6,7,0,1,2,3,4] O V)).mono ?_)))))))))))))))))))
 rintro _ w1 ⟨j,a,q,r,rfl,l,b,d,e,g,i,hO⟩
 refine fq [5,6,7,0,1,2,3,4] O z hO (zb (vs:=[a,Vi 0]) O O O (zb (vs:=[a,Vi 0]) O O O (zF O (zF O (zA (zP (yg (v:=a) (v':=Vi 0) O O O (fun y z=>⟨j,a,q,r,O,l,b,d,e,g,i,z.sel [3,4,5,6,7,8] O V⟩))))))))
structure NdM(n:NdD)(k c m:Nat):Prop where
 st:n.st=jT n.st.rho
 x:AlL (zCb n.st.rho) n.x k
 idx:n.s.idx=n.x.es.length
 so:StoOk n.o c m
 es:n.o.es.map EntD.toEntA=n.x.es.map EntD.toEntA
theorem NdL.m{n:NdD}{c m:Nat}(h:NdL n c m):NdM n 1 c m:=⟨h.st,h.x,h.idx,h.so,h.es⟩
def NdD.dl(n:NdD):Int:=min (n.x.t.now - n.x.t.qh) 1099511627776
theorem zKS{S:List Nat}(nb:Nat)(n:NdD)(k c m:Nat)(now:Int)(b:Nat)(w:World)(h:NdM n k c m)(d:k≤1000)(hl:n.x.es.length≤200)(p:now≤1000000000000000)(e:b<18446744073709551616)(q:c+6200≤1048576)(r:m+2<4000)(g:Own w S [Res.nd nb n] w):Rets Tryz.prog 46 #[pt nb,Vi now,Vn b] w fun u v=>∃ (rv:Value) (a:NdD),u= .tuple #[rv,Vi 0]∧NdM a (k+1) c m∧a.st=n.st∧a.x.t.now=max n.x.t.now now∧a.x.es.map EntD.toEntA=n.x.es.map EntD.toEntA∧a.x.t.qh=n.x.t.qh∧a.fs=[]∧a.s=n.s∧Own w S [Res.nd nb a,sE a.fs,ySv rv []] v:=by
 have hi:=(g.qi 0 rfl).sel [0,1,2,3,4] rfl V
 refine(zMf nb n.cb n.gb 0 n.stb n.st n.av n.ov n.tv n.fv (zCb n.st.rho) n.x k n.s n.o c m now b w h.x d hl p e (by rw[h.st];rfl) h.so h.es h.idx q r hi).mono ?_
 rintro _ w1 ⟨av,rv,j,y,rfl,z,f2,l,f4,f5,f6,hO⟩
 have i:j.es.length=n.x.es.length:=by have:=congrArg List.length l;simpa using this
 exact⟨rv,⟨n.cb,n.gb,n.stb,n.st,j,n.s,y,av,zW,zW,zW,[]⟩,O,⟨h.st,z,h.idx.trans i.symm,f5,f6⟩,O,f2,l,f4,O,O,((zq hO 113 5).qn.qg [0,1,2,3,4,6] O V).sel [2,1,0] O V⟩
theorem zLc{S:List Nat}(nb:Nat)(n:NdD)(k c m:Nat)(edge now:Int)(dv:Value)(data:List UInt8)(y:AskD)(lr:RepD)(dr:Nat)(w:World)(g:zDG data=some y)(j:data.length≤1048576)(h:NdM n k c m)(l:k≤1000)(hl:n.x.es.length≤200)(p:n.x.es.length≤97∨jP (n.x.es.map EntD.toEntA)<512)(hn:now=n.x.t.now)(q:y.look=false)(u:y.wf)(v:y.cmd.ok)(z:y.cmd.session=u64 (-edge))(a0: -16≤edge∧edge≤ -1)(hk:yn n.s.a.kr y.cmd.session y.cmd.seq=(lr,8))(hA:ApOk n.s.a n.dl)(hc:c+6200≤1048576)(hm:m+2<4000)(hW:∀ r d cnt' kb' kl' kr',DoK (ye n.s.a.now n.dl) n.s.a.cnt n.s.a.kb (yX n.s.a.now n.dl n.s.a.kl) n.s.a.kr y.cmd r d cnt' kb' kl' kr'→({seq:=y.seq,retry:=false,lead:=0,reply:=r,most:=0,lent:=0}:TldD).wf∧({seq:=y.seq,retry:=false,lead:=0,reply:=r,most:=0,lent:=0}:TldD).ok)(a1:Own w S [Res.nd nb n] w)(a2:Rd w S (Res.sl dv data.length (data.map vb))):Rets Tryz.prog 50 #[pt nb,Vi edge,dv,Vi now,Vn dr] w fun u_ w'=>∃ (rv i:Value) (b:NdD) (e:EntD) (r:RepD) (d:Bool),u_= .tuple #[i,Vi 0]∧NdM b k (c+6100) (m+2)∧b.st=n.st∧b.x.t.now=n.x.t.now∧b.x.es.map EntD.toEntA=n.x.es.map EntD.toEntA++[(⟨n.x.es.length+1,1,2,n.dl,y.cmd.enc⟩:EntA)]∧b.fs=[e]∧e.toEntA=(⟨n.x.es.length+1,1,2,n.dl,y.cmd.enc⟩:EntA)∧b.s.idx=n.s.idx+1∧b.s.a.now=ye n.s.a.now n.dl∧DoK (ye n.s.a.now n.dl) n.s.a.cnt n.s.a.kb (yX n.s.a.now n.dl n.s.a.kl) n.s.a.kr y.cmd r d b.s.a.cnt b.s.a.kb b.s.a.kl b.s.a.kr∧b.x.t.qh=n.x.t.now∧Own w S [Res.nd nb b,sE b.fs,ySv i [({dst:=edge,dv:=rv,data:=({seq:=y.seq,retry:=false,lead:=0,reply:=r,most:=0,lent:=0}:TldD).enc}:SndD)],vY rv (({seq:=y.seq,retry:=false,lead:=0,reply:=r,most:=0,lent:=0}:TldD).enc)] w':=by
 have hi:=(a1.qi 0 rfl).sel [0,1,2,3,4] rfl V
 refine(zOb nb n.cb n.gb 0 n.stb n.st n.av n.ov n.tv n.fv (zCb n.st.rho) n.x k n.s n.o c m edge now dv data y lr dr w g j h.x l hl p hn q u v z a0 hk (by rw[h.st];rfl) h.so h.es h.idx hA hc hm hW hi a2).mono ?_
 rintro _ w1 ⟨av,fv,tv,rv,i,x',s',o',e,r,d,rfl,f1,f2,f3,f4,f5,f6,f7,f8,f9,a3,hO⟩
 have a4:x'.es.length=n.x.es.length+1:=by have:=congrArg List.length f3;simpa using this
 exact⟨rv,i,⟨n.cb,n.gb,n.stb,n.st,x',s',o',av,zW,tv,fv,[e]⟩,e,r,d,O,⟨h.st,f1,by show s'.idx=x'.es.length;rw[f6,a4,h.idx],f9,a3⟩,O,f2,f3,O,f5,f6,f7,f8,f4,(hO.qg [0,1,2,3,4,5] O V).sel [3,0,1,2] O V⟩
end Go.Proofs.YthpoddkmhfhboaaGreatDoor
