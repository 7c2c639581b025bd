import Derived.Test.YtmpaljnacfidaaaGreatDoorWhA
import Derived.Test.YtmpaljnacfidaaaGreatDoorWgE
import Derived.Test.YtmpaljnacfidaaaGreatDoorFwP
import Derived.Test.YtmpaljnacfidaaaGreatDoorFw3
import Derived.Test.YtmpaljnacfidaaaGreatDoorAlN
import Derived.Test.YtmpaljnacfidaaaGreatDoorPst
import Derived.Test.YtmpaljnacfidaaaGreatDoorFwT
import Derived.Test.YtmpaljnacfidaaaGreatDoorWlC
import Derived.Test.YtmpaljnacfidaaaGreatDoorFwS
import Derived.Test.YtmpaljnacfidaaaGreatDoorRows
import Derived.WalkKit
import Derived.ProofKit
import Derived.OpenShut
import Derived.ShutString
import Derived.ChangeOld
import Derived.Below
import Derived.Carry
import Derived.JoinedCond
import Derived.Test.YtmpaljnacfidaaaGreatDoorMsgD
set_option linter.unusedSectionVars false
set_option linter.unusedSimpArgs false
set_option linter.unusedVariables false
set_option maxRecDepth 10000
namespace Go.Proofs.YtmpaljnacfidaaaGreatDoor
open Go Go.Sc Go.Proofs
theorem zDS(k:ByteArray):zCR (jp k)=k:=by cases k;simp[zCR,jp]
theorem zMP{x:CmdD}(h:x.wf)(ho:0≤x.op∧x.op≤5):Rt zKi x x.enc:=by
  have b:=zAo h.amount
  have c:=zAo h.span
  have d:=zDS x.key
  have a:(jp x.key).length<18446744073709551616:=by rw[xQ];have:=h.key;omega
  have e1:x.enc=kA x.session++(kA x.seq++(kA (u64 x.op)++(dat (jp x.key)++(kA (u64 x.amount)++(kA (u64 x.span)++(kA x.lease++[])))))):=by simp[CmdD.enc,yN]
  rw[e1]
  have e:Rt (yi x9 fun l=>xS (⟨x.session,x.seq,x.op,zCR (jp x.key),xw (u64 x.amount),xw (u64 x.span),l⟩:CmdD)) x (kA x.lease++[]):=
    (x0 h.lease).bind (q:=fun l=>xS (⟨x.session,x.seq,x.op,zCR (jp x.key),xw (u64 x.amount),xw (u64 x.span),l⟩:CmdD)) (by rw[b,c,d];exact Rt.pure x)
  exact(x0 h.session).bind ((x0 h.seq).bind ((zGS ho.1 ho.2 V).bind ((zFp a).bind ((x0 (yW _)).bind ((x0 (yW _)).bind e)))))
theorem zNL{x:CmdD}(h:x.wf)(ho:x.ok):j9 x.enc=some x:=zB2 (p:=zKi) (zMP h ⟨by have:=ho.1.1;omega,ho.1.2⟩) ho
theorem zOe{x:AskD}(h:x.wf)(ho:x.ok)(hl:x.look=false):zDO x.enc=some x:=by
  have a:=ho
  unfold AskD.ok at a
  rw[if_neg (by rw[hl];decide)]at a
  have c:=zDS x.key
  have b:(jp x.key).length<18446744073709551616:=by rw[xQ];have:=h.key;omega
  have d:=zMP h.cmd (⟨by have:=a.1.1.1.1;omega,a.1.1.1.2⟩:0≤x.cmd.op∧x.cmd.op≤5)
  have e1:x.enc=kA (fl x.look)++(kA (fl x.lazy)++(kA x.seq++(x.cmd.enc++(dat (jp x.key)++[])))):=by simp[AskD.enc,yN]
  rw[e1]
  have e:Rt (yi ko fun k=>xS (⟨x.look,x.lazy,x.seq,x.cmd,zCR k⟩:AskD)) x (dat (jp x.key)++[]):=
    (zFp b).bind (q:=fun k=>xS (⟨x.look,x.lazy,x.seq,x.cmd,zCR k⟩:AskD)) (by rw[c];exact Rt.pure x)
  exact zB2 (p:=zQQ) ((zEZ _).bind ((zEZ _).bind ((x0 h.seq).bind (d.bind e)))) ho
theorem zBN{x:AskD}(h:x.wf)(ho:x.ok)(hl:x.look=false):x.enc.length≤65536:=by
  have a:=ho
  unfold AskD.ok at a
  rw[if_neg (by rw[hl];decide)]at a
  have j:x.key.size=0:=by rw[a.1.2];rfl
  have b:x.cmd.key.size≤64:=a.1.1.2
  have k:=xQ x.key
  have c:=xQ x.cmd.key
  have l:=xm (jp x.key) qE
  have d:=xm (jp x.cmd.key) qE
  have e:=zKz x.look
  have f:=zKz x.lazy
  have m:=ja h.seq
  have g:=yL (ns:=[x.cmd.session,x.cmd.seq,u64 x.cmd.op]) (by have:=h.cmd.session;have:=h.cmd.seq;simp[yW, *])
  have i:=yL (ns:=[u64 x.cmd.amount,u64 x.cmd.span,x.cmd.lease]) (by have:=h.cmd.lease;simp[yW, *])
  have e1:x.enc=kA (fl x.look)++(kA (fl x.lazy)++(kA x.seq++(x.cmd.enc++(dat (jp x.key)++[])))):=by simp[AskD.enc,yN]
  rw[e1]
  simp only[CmdD.enc,List.length_append,List.length_cons,List.length_nil]at *
  omega
structure EgD where
  lm:Nat
  nm:Nat
  id:Int
  nodes:Int
  rho:Int
  a:AskD
  since:Int
  waits:Bool
  seq:Nat
  next:Int
  now:Int
  kl:List (Nat×TruD)
  kn:List (Nat×Bool)
def Res.eg(b:Nat)(d:EgD):Res:=Res.star [Res.row b 114 [.bool d.a.look, .bool d.a.lazy,Vn d.a.seq,Vn d.a.cmd.session,Vn d.a.cmd.seq,Vi d.a.cmd.op, .string d.a.cmd.key,Vi d.a.cmd.amount,Vi d.a.cmd.span,Vn d.a.cmd.lease, .string d.a.key,Vi d.since, .bool d.waits, .map (some d.lm), .map (some d.nm),Vi d.id,Vi d.nodes,Vi d.rho,Vn d.seq,Vi d.next,Vi d.now],Res.mp kK zDk d.lm d.kl,Res.mp kK Value.bool d.nm d.kn]
def zCE(d e:EgD):Prop:=(d.id=e.id∧d.nodes=e.nodes)∧d.rho=e.rho
theorem zPU(id nodes rho:Int)(w:World)(c:1≤id∧id≤16)(e:1≤nodes∧nodes≤16)(g:0≤rho∧rho≤500000):Rets Tryz.prog 52 #[Vi id,Vi nodes,Vi rho] w fun h i=>∃ (b:Nat) (d:EgD),h= .tuple #[.pointer (some ⟨b,0,none⟩),Vi 0]∧((d.id=id∧d.nodes=nodes)∧d.rho=rho)∧((d.waits=false∧d.seq=0)∧d.next=1)∧d.a=askZ∧Own w [] [Res.eg b d] i:=by
  refine(zQu id nodes rho w c e g).mono ?_
  rintro _ k ⟨b,lm,nm,rfl,j⟩
  exact⟨b,⟨lm,nm,id,nodes,rho,askZ,0,false,0,1,0,[],[]⟩,O,⟨⟨O,O⟩,O⟩,⟨⟨O,O⟩,O⟩,O,(j.qf [0,1,2] O V).sel [0] O V⟩
theorem zNE{S:List Nat}(b:Nat)(d:EgD)(op:Int)(key:ByteArray)(k l:Int)(le:Nat)(t:Int)(w:World)(m:x3 k)(n:x3 l)(o:le<18446744073709551616)(u:d.seq≤1000000)(p:Own w S [Res.eg b d] w):Rets Tryz.prog 71 #[.pointer (some ⟨b,0,none⟩),Vi op, .string key,Vi k,Vi l,Vn le,Vi t] w fun v x=>∃ (to e:Int) (r:Value) (bs:List UInt8) (c:EgD),v= .tuple #[Vi to,r,Vi e]∧CallK d.a d.since d.waits op key k l le t d.id d.seq d.now d.kl d.kn to d.next e c.a c.since c.waits c.seq c.now c.kl c.kn∧(e=0→bs=(if c.a.ok then c.a.enc else []))∧zCE c d∧c.next=d.next∧Own w S [Res.eg b c,Res.vec 5 1 r bs.length (bs.map vb)] x:=by
  refine(zM9 b d.lm d.nm d.id d.nodes d.rho d.a d.since d.waits d.seq d.next d.now d.kl d.kn op key k l le t w m n o u (p.qg 0 O)).mono ?_
  rintro _ w1 ⟨to,e,r,bs,y,g,h,i,j,q,s,rfl,h1,h2,z⟩
  exact⟨to,e,r,bs,⟨d.lm,d.nm,d.id,d.nodes,d.rho,y,g,h,i,d.next,j,q,s⟩,O,h1,h2,⟨⟨O,O⟩,O⟩,O,(z.qf [0,1,2] O V).sel [1,0] O V⟩
theorem zOI{S:List Nat}(b:Nat)(d:EgD)(src:Int)(v:Value)(i:List UInt8)(t:Int)(w:World)(hl:i.length≤1048576)(n:d.a.wf)(k:d.nodes≤16)(l:Own w S [Res.eg b d] w)(o:Rd w S (Res.sl v i.length (i.map vb))):Rets Tryz.prog 61 #[.pointer (some ⟨b,0,none⟩),Vi src,v,Vi t] w fun p q=>∃ (done:Bool) (x:TldD) (to e:Int) (r:Value) (bs:List UInt8) (c:EgD),p= .tuple #[.bool done, .agg (TldD.cells x).toArray,Vi to,r,Vi e]∧TakeK i d.a d.since d.rho d.waits t d.now d.kl d.kn done x bs e c.waits c.now c.kl∧(done=true→r=zW∧c.next=d.next)∧zCE c d∧((c.a=d.a∧c.seq=d.seq)∧c.since=d.since∧c.kn=d.kn)∧Own w S [Res.eg b c,Res.vec 5 1 r bs.length (bs.map vb)] q:=by
  refine(zNf b d.lm d.nm d.id d.nodes d.rho d.a d.since d.waits d.seq d.next d.now d.kl d.kn src v i t w hl n k (l.qg 0 O) o).mono ?_
  rintro _ u ⟨done,x,to,e,r,bs,g,h,j,m,rfl,h1,h2,s⟩
  exact⟨done,x,to,e,r,bs,⟨d.lm,d.nm,d.id,d.nodes,d.rho,d.a,d.since,g,d.seq,h,j,m,d.kn⟩,O,h1,h2,⟨⟨O,O⟩,O⟩,⟨⟨O,O⟩,O,O⟩,(s.qf [0,1,2] O V).sel [1,0] O V⟩
theorem zHg{S:List Nat}(b:Nat)(d:EgD)(w:World)(c:Own w S [Res.eg b d] w):Rets Tryz.prog 72 #[.pointer (some ⟨b,0,none⟩)] w fun e g=>∃ (y:AskD) (f:Bool),e= .tuple #[.agg (AskD.cells y).toArray, .bool f]∧y=(if d.waits=true then d.a else askZ)∧Own w S [Res.eg b d] g:=by
  refine(zG0 b d.lm d.nm d.id d.nodes d.rho d.a d.since d.waits d.seq d.next d.now w ((c.qg 0 O).give [0] O V)).mono ?_
  rintro _ i ⟨y,f,rfl,h1,h2,h⟩
  exact⟨y,f,O,h1,(((c.qg 0 O).qi [0] O h).qf [2,0,1] O V).sel [0] O V⟩
abbrev jr(wb:Nat)(st:SetD)(nv dv ev:Value)(pb cb:Nat)(n:Value)(cv ov lv km:Value):Res:=Res.row wb 76 [Vi st.nodes,Vi st.voters,Vi st.edges,Vi st.rho,Vi st.base,Vi st.spread,Vi st.beat,Vi st.disk,Vi st.post,Vi st.keep,nv,dv,ev,pt pb,pt cb,n,cv,ov,lv, .bool false, .slice none 0 0,km]
theorem zEU{i:Nat}{u:LeaD}:∀ {kl:List (Nat×LeaD)},zl i kl=some u→∃ l1 l2,kl=l1++(i,u)::l2∧(∀ v,yS i v kl=l1++(i,v)::l2)∧jQ i kl=l1++l2
  | [],h=>by cases h
  |(x,w)::r,h=>by
    by_cases q:i=x
    · subst q
      have h:w=u:=by simpa [zl]using h
      subst h
      exact⟨[],r,O,fun v=>by simp[yS],by simp[jQ]⟩
    have h:zl i r=some u:=by simpa [zl,q]using h
    obtain⟨l1,l2,e1,e2,a⟩:=zEU h
    exact⟨(x,w)::l1,l2,by rw[e1];rfl,fun v=>by simp[yS,q,e2 v],by simp[jQ,q,a]⟩
def LeaP(cnt:Nat)(p:Nat×LeaD):Prop:=(p.1≤cnt∧p.2.id<18446744073709551616)∧(1≤p.2.amount∧p.2.amount≤9223372036854775807)∧0<p.2.until_∧p.2.until_≤1099511627776
theorem LeaP.mono{cnt cnt':Nat}{p:Nat×LeaD}(h:LeaP cnt p)(a:cnt≤cnt'):LeaP cnt' p:=⟨⟨Nat.le_trans h.1.1 a,h.1.2⟩,h.2⟩
structure KlI(cnt i:Nat)(kl:List (Nat×LeaD)):Prop where
  kc:cnt≤i
  nd:KNd kl
  len:kl.length≤i
  kp:∀ p∈kl,LeaP cnt p
  sum:∀ k,xR k (kl.map (·.2))≤9223372036854775807
structure LgI(a:LgA)(i:Nat):Prop where
  now:a.now=0
  kl:KlI a.cnt i a.kl
  kr:(i=0∧a.kr=[])∨∃ r:RepD,a.kr=[(1,r)]∧r.seq≤i
theorem KlI.pos{cnt i:Nat}{kl:List (Nat×LeaD)}(h:KlI cnt i kl):Pos (kl.map (·.2)):=fun x a=>by
  obtain⟨p,hp,rfl⟩:=List.mem_map.1 a
  exact(h.kp p hp).2.1.1
theorem KlI.mono{cnt i:Nat}{kl:List (Nat×LeaD)}(h:KlI cnt i kl):KlI cnt (i+1) kl:=⟨Nat.le_succ_of_le h.kc,h.nd,Nat.le_succ_of_le h.len,h.kp,h.sum⟩
theorem KlI.lent{cnt i:Nat}{kl:List (Nat×LeaD)}(h:KlI cnt i kl)(k:ByteArray):yY k kl=xR k (kl.map (·.2))∧0≤yY k kl∧yY k kl≤9223372036854775807:=by
  have a:=zF9 (k:=k) h.pos
  have h1:=h.sum k
  have e:yY k kl=xR k (kl.map (·.2)):=by
    unfold yY zDK
    exact zt qE
  rw[e]
  exact⟨O,a,h1⟩
theorem zKw{kl:List (Nat×LeaD)}(h:∀ p∈kl,0<p.2.until_):yf 0 0 kl=kl∧kw 0 0 kl=[]:=by
  have e:kY 0 0=0:=by decide
  constructor
  · unfold yf
    rw[if_pos e]
    refine List.filter_eq_self.2 fun p hp=> ?_
    have:=h p hp
    unfold zCZ
    simp
    omega
  unfold kw
  rw[if_pos e]
  have:kl.filter (fun p=>zCZ (0+0) p.2)=[]:=by
    refine List.filter_eq_nil_iff.2 fun p hp=> ?_
    have:=h p hp
    unfold zCZ
    simp
    omega
  rw[this];rfl
theorem zEf:yr 0 0=0:=by decide
theorem KlI.unt{cnt i:Nat}{kl:List (Nat×LeaD)}(h:KlI cnt i kl):∀ p∈kl,0<p.2.until_:=fun p hp=>(h.kp p hp).2.2.1
theorem KlI.lea{cnt i j:Nat}{kl:List (Nat×LeaD)}{l:LeaD}(h:KlI cnt i kl)(a:zl j kl=some l):l.id<18446744073709551616∧x3 l.amount∧x3 l.until_:=by
  have hp:=h.kp _ (kh a)
  obtain⟨⟨_,h1⟩,⟨h2,b⟩,c,d⟩:=hp
  refine⟨h1,⟨?_,?_⟩,⟨?_,?_⟩⟩<;>dsimp only at * <;>omega
theorem LgI.ap{a:LgA}{i:Nat}(h:LgI a i)(hi:i≤100):ApOk a 0:=by
  have hp:=zKw h.kl.unt
  have hl:=h.kl.len
  have c:=h.kl.kc
  refine⟨by unfold x3;decide,by rw[h.now];decide,by omega,h.kl.nd,by omega,fun k=> ?_,fun j l b=> ?_,?_,?_⟩
  · rw[h.now,hp.1];exact(h.kl.lent k).2
  · rw[h.now,hp.1]at b;exact h.kl.lea b
  · rw[h.now,zEf];decide
  rw[h.now,hp.2];decide
theorem LgI.dk{a:LgA}{i:Nat}(h:LgI a i)(hi:i≤100)(k:ByteArray):DoOk a k:=by
  have c:=h.kl.kc
  exact⟨by rw[h.now];decide,by omega,(h.kl.lent k).2,fun j l b=>h.kl.lea b⟩
theorem LgI.find{a:LgA}{i:Nat}(h:LgI a i):ym a.kr 1 (i+1)=(RepD.zero,8):=by
  unfold ym
  rw[if_neg qE]
  rcases h.kr with⟨_,q⟩|⟨r,q,b⟩
  · rw[q];rfl
  rw[q]
  show(if r.seq<i+1 then(RepD.zero,(8:Int))else if i+1<r.seq then(RepD.zero,13)else(r,0))=_
  rw[if_pos qE]
theorem zJF(k:ByteArray)(a:Int)(kb:List (ByteArray×Int)):0≤jF k a kb∧jF k a kb≤20:=by
  unfold jF
  split
  · decide
  split<;>decide
theorem zHa(s:Nat)(k:ByteArray)(a b:Int)(kb:List (ByteArray×Int))(kl:List (Nat×LeaD)):0≤xd s k a b kb kl∧xd s k a b kb kl≤20:=by
  unfold xd
  repeat' split
  all_goals decide
theorem zLL{s:Nat}{k:ByteArray}{a sp:Int}{kb:List (ByteArray×Int)}{kl:List (Nat×LeaD)}(h:xd s k a sp kb kl=0):¬ xX s k a sp∧yY k kl+a≤9223372036854775807:=by
  unfold xd at h
  by_cases c1:xX s k a sp
  · rw[if_pos c1]at h;cases h
  rw[if_neg c1]at h
  by_cases c2:zl k kb=none
  · rw[if_pos c2]at h;cases h
  rw[if_neg c2]at h
  by_cases c3:9223372036854775807<yY k kl+a
  · rw[if_pos c3]at h;cases h
  exact⟨c1,by omega⟩
theorem zAW{c:CmdD}{e:Int}(a:0≤e∧e≤20):(jn c e).ok∧(jn c e).session=c.session∧(jn c e).seq=c.seq:=⟨a,rfl,rfl⟩
theorem zE4{c:CmdD}{x:LeaD}{e:Int}(a:0≤e∧e≤20):(zAu c x e).ok∧(zAu c x e).session=c.session∧(zAu c x e).seq=c.seq:=by
  unfold zAu
  split
  · exact zAW a
  exact⟨(⟨by decide,by decide⟩:(0:Int)≤0∧(0:Int)≤20),rfl,rfl⟩
theorem zBU{c:CmdD}{x:LeaD}{e:Int}(h:e≠0):zAu c x e=jn c e:=if_pos h
theorem zGV{k:ByteArray}{kl:List (Nat×LeaD)}{i:Nat}{v:LeaD}:xR k ((kl++[(i,v)]).map (·.2))=xR k (kl.map (·.2))+(if v.key=k then v.amount else 0):=by
  have h:=kX k kl [] i v
  rw[List.append_nil]at h
  exact h
structure TabP(c:CmdD)(i:Nat)(r:RepD)(cnt':Nat)(kl':List (Nat×LeaD)):Prop where
  wf:r.wf
  ok:r.ok
  ses:r.session=c.session
  seq:r.seq=c.seq
  kl:KlI cnt' (i+1) kl'
theorem zP5{cnt i:Nat}{kb kb':List (ByteArray×Int)}{kl kl':List (Nat×LeaD)}{c:CmdD}{r:RepD}{cnt':Nat}(h:KlI cnt i kl)(hi:i≤100)(g:c.wf)(hT:zJE 0 cnt kb kl c r cnt' kb' kl'):TabP c i r cnt' kl':=by
  have ab:=h.kc
  rcases hT with⟨_,o,d,_,b⟩|⟨_,x,e,f,hx,o,d,_,b⟩|⟨_,x,e,hR,o,d,_⟩|⟨_,x,e,hB,o,d,_⟩|⟨_,o,d,_,b⟩
  · subst o d b
    have hl:=(h.lent c.key).2
    have hs:=zJF c.key c.amount kb
    refine⟨⟨g.session,g.seq,by show(0:Nat)<_;decide,?_,by show x3 0;unfold x3;decide⟩,hs,O,O,h.mono⟩
    show x3 (if _ then _ else _)
    split
    · exact⟨by omega,by omega⟩
    unfold x3;decide
  · have u:0≤e∧e≤20:=by rw[f];exact zHa _ _ _ _ _ _
    have a:=zE4 (c:=c) (x:=x) u
    by_cases q:e=0
    · have h0:=zLL (f.symm.trans q)
      have j:=h0.1
      unfold xX at j
      have a3:xF c.span:=Decidable.byContradiction fun z=>j (.inr (.inr (.inr z)))
      have a4:1≤c.amount:=by
        apply Decidable.byContradiction
        intro z
        exact j (.inr (.inr (.inl qE)))
      have a0:1≤c.span∧c.span≤1099511627776:=a3
      have s:x=⟨cnt+1,c.session,c.key,c.amount,0+c.span⟩:=by rw[hx,q];rfl
      have v:kl'=yS (cnt+1) x kl:=by
        rw[b,q]
        unfold zId
        rw[if_pos rfl,s]
      have w:cnt'=cnt+1:=by rw[d,q];rfl
      have a5:zl (cnt+1) kl=none:=getA_none.2 fun p hp=>by
        have:=(h.kp p hp).1.1
        omega
      have y:yS (cnt+1) x kl=kl++[(cnt+1,x)]:=zFt a5
      have a6:=h.lent c.key
      have a1:=g.amount
      unfold x3 at a1
      have m:LeaP (cnt+1) (cnt+1,x):=by
        rw[s]
        refine⟨⟨Nat.le_refl _,?_⟩,⟨a4,?_⟩,?_,?_⟩<;>dsimp only<;>omega
      rw[o]
      refine⟨zAf g ?_,a.1,a.2.1,a.2.2,?_⟩
      · obtain⟨⟨_,g1⟩,⟨g2,g3⟩,g4,g5⟩:=m
        dsimp only at *
        exact⟨g1,⟨by omega,by omega⟩,⟨by omega,by omega⟩⟩
      rw[v,w]
      refine⟨by omega,h.nd.put,?_,fun p hp=> ?_,fun k=> ?_⟩
      · rw[y,List.length_append]
        have:=h.len
        show kl.length+1≤i+1
        omega
      · rw[y]at hp
        rcases List.mem_append.1 hp with hp|hp
        · exact(h.kp p hp).mono qE
        have hp:=List.mem_singleton.1 hp
        subst hp
        exact m
      rw[y,zGV]
      have ac:=h.sum k
      split
      · rename_i t
        have e1:xR k (kl.map (·.2))=yY c.key kl:=by
          rw[a6.1]
          rw[s]at t
          have t:c.key=k:=t
          rw[t]
        rw[e1,s]
        exact h0.2
      omega
    have v:kl'=kl:=by
      rw[b]
      unfold zId
      rw[if_neg q]
    have w:cnt'=cnt:=by
      rw[d]
      unfold zK0
      rw[if_neg q]
    have a7:r=jn c e:=by
      rw[o]
      unfold zAu
      rw[if_pos q]
    rw[a7,v,w]
    exact⟨xo g,u,O,O,h.mono⟩
  · subst o
    have d:=d.symm
    subst d
    rcases hR with⟨_,f,_,b⟩|⟨_,_,f,_,b⟩|⟨a0,l,hg,a8,⟨_,f,_,b⟩|⟨_,f,hx,b⟩⟩
    · subst f b
      rw[zBU V]
      exact⟨xo g,(zAW V).1,O,O,h.mono⟩
    · subst f b
      rw[zBU V]
      exact⟨xo g,(zAW V).1,O,O,h.mono⟩
    · subst f b
      rw[zBU V]
      exact⟨xo g,(zAW V).1,O,O,h.mono⟩
    have a:=zE4 (c:=c) (x:=x) (e:=e) (by rw[f];decide)
    obtain⟨l1,l2,e1,e2,e3⟩:=zEU hg
    have a9:=h.kp _ (kh hg)
    have aa:1≤c.span∧c.span≤1099511627776:=a0
    have m:LeaP cnt (c.lease,x):=by
      rw[hx]
      obtain⟨⟨g0,g1⟩,⟨g2,g3⟩,g4,g5⟩:=a9
      dsimp only at *
      refine⟨⟨g0,g1⟩,⟨g2,g3⟩,?_,?_⟩
      · show 0<max l.until_ (0+c.span)
        omega
      show max l.until_ (0+c.span)≤1099511627776
      omega
    refine⟨zAf g ?_,a.1,a.2.1,a.2.2,?_⟩
    · obtain⟨⟨_,g1⟩,⟨g2,g3⟩,g4,g5⟩:=m
      dsimp only at *
      exact⟨g1,⟨by omega,by omega⟩,⟨by omega,by omega⟩⟩
    have e4:kl'=l1++(c.lease,x)::l2:=b.trans (e2 x)
    have a2:x.key=l.key∧x.amount=l.amount:=by rw[hx];exact⟨rfl,rfl⟩
    refine⟨by omega,by rw[b];exact h.nd.put,?_,fun p hp=> ?_,fun k=> ?_⟩
    · have:=h.len
      rw[e1]at this
      rw[e4]
      simp only[List.length_append,List.length_cons]at *
      omega
    · rw[e4]at hp
      rcases List.mem_append.1 hp with hp|hp
      · exact h.kp p (by rw[e1];exact List.mem_append_left _ hp)
      rcases List.mem_cons.1 hp with hp|hp
      · rw[hp];exact m
      exact h.kp p (by rw[e1];exact List.mem_append_right _ (List.mem_cons_of_mem _ hp))
    have hs:=h.sum k
    rw[e1,kX]at hs
    rw[e4,kX,a2.1,a2.2]
    exact hs
  · subst o
    have d:=d.symm
    subst d
    rcases hB with⟨_,f,_,b⟩|⟨l,hg,a8,f,hx,b⟩
    · subst f b
      rw[zBU V]
      exact⟨xo g,(zAW V).1,O,O,h.mono⟩
    have a:=zE4 (c:=c) (x:=x) (e:=e) (by rw[f];decide)
    obtain⟨l1,l2,e1,e2,e3⟩:=zEU hg
    refine⟨zAf g (by rw[hx];exact h.lea hg),a.1,a.2.1,a.2.2,?_⟩
    have e4:kl'=l1++l2:=b.trans e3
    have n:(l1++l2).Sublist kl:=by
      rw[e1]
      exact List.Sublist.append_left (List.sublist_cons_self ..) _
    refine⟨by omega,by rw[b];exact h.nd.del,?_,fun p hp=> ?_,fun k=> ?_⟩
    · have:=h.len
      have:=n.length_le
      rw[e4];omega
    · rw[e4]at hp
      exact h.kp p (n.subset hp)
    have hs:=h.sum k
    rw[e4]
    have:=zJM (k:=k) (n.map (·.2)) h.pos
    omega
  subst o d b
  exact⟨xo g,⟨show(0:Int)≤0 by decide,show(0:Int)≤20 by decide⟩,O,O,h.mono⟩
theorem zRi{a:LgA}{i:Nat}{c:CmdD}{r:RepD}{did:Bool}{cnt':Nat}{kb':List (ByteArray×Int)}{kl':List (Nat×LeaD)}{kr':List (Nat×RepD)}(h:LgI a i)(hi:i≤100)(j:c.wf)(b:c.ok)(d:c.session=1)(e:c.seq=i+1)
    (k:DoK 0 a.cnt a.kb a.kl a.kr c r did cnt' kb' kl' kr'):LgI ⟨0,cnt',kb',kl',kr'⟩ (i+1)∧(r.wf∧r.ok)∧r.session=1:=by
  have l:ym a.kr c.session c.seq=(RepD.zero,8):=by rw[d,e];exact h.find
  rcases k with⟨g,_⟩|⟨n,m,_,f⟩
  · exfalso
    rw[l]at g
    rcases g with⟨q,_⟩|⟨_,q,_⟩|⟨_,_,q,_⟩|⟨_,q,_⟩
    · exact q b
    · omega
    · omega
    exact q rfl
  have t:=zP5 h.kl hi j m
  refine⟨⟨O,t.kl, .inr ⟨r,?_,?_⟩⟩,⟨t.wf,t.ok⟩,t.ses.trans d⟩
  · show kr'=[(1,r)]
    rw[f]
    unfold zAP
    have e1:r.session=1:=t.ses.trans d
    have e2:r.seq=i+1:=t.seq.trans e
    rw[if_pos ⟨t.ok,by rw[e1,e2,h.find]⟩,e1]
    rcases h.kr with⟨_,q⟩|⟨r0,q,_⟩
    · rw[q];rfl
    rw[q];rfl
  have e2:r.seq=i+1:=t.seq.trans e
  omega
theorem zJD{now:Int}{kb:List (ByteArray×Int)}{kl kl1 kl2:List (Nat×LeaD)}{s i:Nat}{sp:Int}{x y:LeaD}{e f:Int}(h1:zA7 now kb kl s i sp x e kl1)(h2:zA7 now kb kl s i sp y f kl2):x=y∧e=f∧kl1=kl2:=by
  rcases h1 with⟨a1,a2,a3,a4⟩|⟨a1,a5,a2,a3,a4⟩|⟨a1,l,a5,a6,⟨a7,a2,a3,a4⟩|⟨a7,a2,a3,a4⟩⟩<;>
    rcases h2 with⟨g,b,c,d⟩|⟨g,a,b,c,d⟩|⟨g,m,a,h,⟨j,b,c,d⟩|⟨j,b,c,d⟩⟩
  all_goals first
    |exact absurd g a1
    |exact absurd a1 g
    |exact⟨a3.trans c.symm,a2.trans b.symm,a4.trans d.symm⟩
    |exact absurd h (a5 _ a)
    |exact absurd a6 (a _ a5)
    |(exfalso;rw[a5]at a;cases a;omega)
    |(rw[a5]at a;cases a;subst a3;subst c;exact⟨rfl,a2.trans b.symm,a4.trans d.symm⟩)
theorem zKH{kl kl1 kl2:List (Nat×LeaD)}{s i:Nat}{x y:LeaD}{e f:Int}(h1:zD3 kl s i x e kl1)(h2:zD3 kl s i y f kl2):x=y∧e=f∧kl1=kl2:=by
  rcases h1 with⟨a1,a2,a3,a4⟩|⟨l,a1,a5,a2,a3,a4⟩<;>rcases h2 with⟨a,b,c,d⟩|⟨m,a,g,b,c,d⟩
  · exact⟨a3.trans c.symm,a2.trans b.symm,a4.trans d.symm⟩
  · exact absurd g (a1 _ a)
  · exact absurd a5 (a _ a1)
  rw[a1]at a
  cases a
  exact⟨a3.trans c.symm,a2.trans b.symm,a4.trans d.symm⟩
theorem zNw{now:Int}{cnt:Nat}{kb kb1 kb2:List (ByteArray×Int)}{kl kl1 kl2:List (Nat×LeaD)}{c:CmdD}{r s:RepD}{cnt1 cnt2:Nat}(h1:zJE now cnt kb kl c r cnt1 kb1 kl1)(h2:zJE now cnt kb kl c s cnt2 kb2 kl2):(r=s∧cnt1=cnt2)∧kb1=kb2∧kl1=kl2:=by
  rcases h1 with⟨a0,a1,a2,a3,a4⟩|⟨a0,x,e,a5,a6,a1,a2,a3,a4⟩|⟨a0,x,e,a5,a1,a2,a3⟩|⟨a0,x,e,a5,a1,a2,a3⟩|⟨a0,a1,a2,a3,a4⟩<;>
    rcases h2 with⟨i,a,b,d,j⟩|⟨i,y,f,g,l,a,b,d,j⟩|⟨i,y,f,g,a,b,d⟩|⟨i,y,f,g,a,b,d⟩|⟨i,a,b,d,j⟩
  all_goals first
    |(exfalso;omega)
    |exact⟨⟨a1.trans a.symm,a2.trans b.symm⟩,a3.trans d.symm,a4.trans j.symm⟩
    | (have q : e = f := a5.trans g.symm
       subst q
       have h:x=y:=a6.trans l.symm
       subst h
       exact⟨⟨a1.trans a.symm,a2.trans b.symm⟩,a3.trans d.symm,a4.trans j.symm⟩)
    | (obtain ⟨q1, h, k⟩ := zJD a5 g
       subst q1 h k
       exact⟨⟨a1.trans a.symm,a2.trans b.symm⟩,a3.trans d.symm,O⟩)
    | (obtain ⟨q1, h, k⟩ := zKH a5 g
       subst q1 h k
       exact⟨⟨a1.trans a.symm,a2.trans b.symm⟩,a3.trans d.symm,O⟩)
theorem zP0{now:Int}{cnt:Nat}{kb kb1 kb2:List (ByteArray×Int)}{kl kl1 kl2:List (Nat×LeaD)}{kr kr1 kr2:List (Nat×RepD)}{c:CmdD}{r s:RepD}{d1 d2:Bool}{cnt1 cnt2:Nat}(d:c.ok)(e:c.session≠0)(f:c.seq≠0)(g:(ym kr c.session c.seq).2=8)(h1:DoK now cnt kb kl kr c r d1 cnt1 kb1 kl1 kr1)(h2:DoK now cnt kb kl kr c s d2 cnt2 kb2 kl2 kr2):(r=s∧cnt1=cnt2)∧kb1=kb2∧kl1=kl2∧kr1=kr2:=by
  have no:∀ t,¬ zHj c (ym kr c.session c.seq) t:=fun t h=>by
    rcases h with⟨q,_⟩|⟨_,q,_⟩|⟨_,_,q,_⟩|⟨_,q,_⟩
    · exact q d
    · exact e q
    · exact f q
    exact q g
  rcases h1 with⟨a,_⟩|⟨_,i,_,j⟩
  · exact absurd a (no _)
  rcases h2 with⟨b,_⟩|⟨_,k,_,l⟩
  · exact absurd b (no _)
  obtain⟨⟨q1,m⟩,n,o⟩:=zNw i k
  subst q1
  exact⟨⟨O,m⟩,n,o,j.trans l.symm⟩
end Go.Proofs.YtmpaljnacfidaaaGreatDoor
set_option linter.unusedVariables false
set_option linter.unusedSectionVars false
namespace Go.Proofs.YtmpaljnacfidaaaGreatDoor
open Go Go.Sc Go.Proofs Go.RowKit Go.ChangeShapes
theorem zA8{H:Type}:∀ ds:List (DataW H),Rows.uptoBulkAll ds=(ds.map Rows.uptoBulk).sum
  | []=>rfl
  |d::ds=>by simp[Rows.uptoBulkAll,zA8 ds]
def RdA(P:Program)(W:World)(t:TypeId){α:Type}(cells:α→List Value)(wf:α→Prop)(size:α→Nat):Prop:=
  ∀ (H:Type) (enc:TypeId×Value→H) (fuel:Nat) (cs:List Value) (x:DataW H×List MemPlace),DataW.trod enc P W 0 (fun _=>true) true fuel t cs=some x→∃ a,cs=cells a∧wf a∧size a≤Rows.uptoBulk x.1
variable {P:Program} {W:World} {t e:TypeId} {α β:Type}
theorem RdA.map{cells:α→List Value}{wf:α→Prop}{size:α→Nat}{cells':β→List Value}{wf':β→Prop}{size':β→Nat}(h:RdA P W t cells wf size)(φ:α→β)
    (h1:∀ a,cells a=cells' (φ a)) (h2:∀ a,wf a→wf' (φ a)) (b:∀ a,wf a→size' (φ a)≤size a):RdA P W t cells' wf' size':=by
  intro H enc fuel cs x hx
  obtain⟨a,e1,e2,c⟩:=h H enc fuel cs x hx
  exact⟨φ a,by rw[e1,h1],h2 a e2,Nat.le_trans (b a e2) c⟩
theorem RdA.i64(b:P.underlying t=some (.int .i64)):RdA P W t (fun a:Int=>[.int .i64 a]) x3 (fun _=>1):=by
  intro H enc fuel cs x hx
  obtain⟨a,rfl,rfl,c⟩:=DataW.trod_int b hx
  refine⟨a,O,?_,by simp[Rows.uptoBulk]⟩
  simp[Lit.wf,IntKind.min,IntKind.max,IntKind.signed,IntKind.bits]at c
  exact⟨by omega,by omega⟩
theorem RdA.u64(b:P.underlying t=some (.int .u64)):RdA P W t (fun n:Nat=>[.int .u64 n]) isU (fun _=>1):=by
  intro H enc fuel cs x hx
  obtain⟨a,rfl,rfl,c⟩:=DataW.trod_int b hx
  simp[Lit.wf,IntKind.min,IntKind.max,IntKind.signed,IntKind.bits]at c
  refine⟨a.toNat,by show _=[Value.int .u64 (a.toNat:Int)];rw[Int.toNat_of_nonneg qE],?_,by simp[Rows.uptoBulk]⟩
  unfold isU
  omega
theorem RdA.str(a:P.underlying t=some .string):RdA P W t (fun s:ByteArray=>[.string s]) (fun s=>s.size≤maxLen) (fun s=>s.size+1):=by
  intro H enc fuel cs x hx
  obtain⟨s,rfl,rfl,b⟩:=DataW.trod_string a hx
  refine⟨s,O,b,?_⟩
  have e:s.data.toList.length=s.size:=by rw[Array.length_toList];rfl
  simp only[Rows.uptoBulk]
  omega
theorem cells?_spec {w:World} {a:Addr}:∀ {n:Nat} {cs:List Value},w.cells? 0 a n=some cs→cs.length=n∧∀ i u,cs[i]?=some u→w.cell? (a.add i)=some u:=by
  intro n cs h
  unfold World.cells? at h
  rw[if_pos (Nat.zero_le _)]at h
  have hl:cs.length=n:=by simpa using mapM_some_length h
  refine⟨hl,fun i u b=> ?_⟩
  have hi:i<n:=by rw[←hl];exact(List.getElem?_eq_some_iff.1 b).1
  have:=mapM_some_get h i i (by simp[hi])
  rw[this,b]
theorem RdA.slice{cells:α→List Value}{wf:α→Prop}{size:α→Nat}{sz:Nat}(ht:P.underlying t=some (.slice e))(l:P.cellsOf e=sz)(s:0<sz)(hc:∀ a,(cells a).length=sz)(he:RdA P W e cells wf size):
    RdA P W t (fun p:Value×List α=>[p.1]) (fun p=>Sl W p.1 p.2.length (p.2.flatMap cells)∧∀ a∈p.2,wf a) (fun p=>(p.2.map size).sum+1):=by
  intro H enc fuel cs x hx
  rcases DataW.trod_slice ht hx with⟨rfl,rfl⟩|⟨a,len,cap,c,rest,n,rfl,rfl,rfl,hb,hl,hm,a9,v,a3,aa⟩
  · exact⟨(zW,[]),rfl,⟨.inl ⟨none,rfl,rfl,rfl⟩,by simp⟩,by simp[Rows.uptoBulk]⟩
  -- the elements,each one read
  have each:∀ i,i<len→∃ (y:DataW H×List MemPlace) (z:α),c[i]?=some y∧wf z∧size z≤Rows.uptoBulk y.1∧∀ j u,(cells z)[j]?=some u→W.cell? ((a.add (i*sz)).add j)=some u:=by
    intro i hi
    have h:=v i hi
    obtain⟨y,hy⟩:∃ y,c[i]?=some y:=⟨_,List.getElem?_eq_getElem qE⟩
    rw[hy,l,Option.bind_eq_some_iff]at h
    obtain⟨f,g,hr⟩:=h
    obtain⟨z,rfl,m,w⟩:=he H enc n f y hr
    exact⟨y,z,hy,m,w,(cells?_spec g).2⟩
  have all:∀ k,k≤len→∃ d:List α,d.length=k∧(∀ z∈d,wf z)∧(d.map size).sum≤((c.take k).map fun y=>Rows.uptoBulk y.1).sum∧
      ∀ i z,d[i]?=some z→∀ j u,(cells z)[j]?=some u→W.cell? ((a.add (i*sz)).add j)=some u:=by
    intro k
    induction k with
    |zero=>intro _;exact⟨[],rfl,by simp,by simp,by simp⟩
    |succ k ih=>
      intro hk
      obtain⟨d,h1,h2,h3,h4⟩:=ih qE
      obtain⟨y,z,hy,m,w,a4⟩:=each k qE
      refine⟨d++[z],by simp[h1],?_,?_,?_⟩
      · intro z' hz'
        rcases List.mem_append.1 hz' with h|h
        · exact h2 z' h
        simp at h;subst h;exact m
      · rw[List.take_add_one,hy]
        simp only[List.map_append,List.sum_append,Option.toList_some,List.map_cons,List.map_nil,List.sum_cons,List.sum_nil]
        omega
      intro i z' hi
      rw[List.getElem?_append]at hi
      split at hi
      · exact h4 i z' hi
      rename_i hnl
      have:i - d.length=0:=by
        cases hq:i - d.length with
        |zero=>rfl
        |succ q=>rw[hq]at hi;simp at hi
      rw[this]at hi;simp at hi;subst hi
      have:i=k:=by omega
      subst this;exact a4
  obtain⟨d,h1,h2,h3,h4⟩:=all len (Nat.le_refl _)
  rw[List.take_of_length_le qE]at h3
  refine⟨(.slice (some a) len cap,d),O,⟨?_,h2⟩,?_⟩
  · by_cases hc0:cap=0
    · subst hc0
      have h0:len=0:=by omega
      subst h0
      have:d=[]:=List.eq_nil_of_length_eq_zero h1
      subst this
      exact .inl ⟨_,O,O,O⟩
    -- the row is there:its first place reads
    have o:∃ u,W.cell? a=some u:=by
      have key:∀ i,i<cap→∃ f,W.cells? 0 (a.add (i*sz)) sz=some f:=by
        intro i hi
        by_cases hil:i<len
        · have h:=v i hil
          rw[List.getElem?_eq_getElem qE,l,Option.bind_eq_some_iff]at h
          exact⟨_,h.choose_spec.1⟩
        obtain⟨ab,a5⟩:=a3 rfl
        have h:=a5 (i - len) qE
        rw[List.getElem?_eq_getElem qE,l,Option.bind_eq_some_iff,show len+(i - len)=i by omega]at h
        exact⟨_,h.choose_spec.1⟩
      obtain⟨f,g⟩:=key 0 qE
      obtain⟨q1,q2⟩:=cells?_spec g
      refine⟨f[0]'qE,?_⟩
      have:=q2 0 _ (List.getElem?_eq_getElem qE)
      simpa [Addr.add]using this
    obtain⟨u,hu⟩:=o
    obtain⟨b,off,a0⟩:=a
    have r:a0=none:=World.cell?_spot hu
    subst r
    have a6:b<W.heap.size:=by
      have g:W.cells? 0 ⟨b,off,none⟩ 1=some [u]:=Go.ChangeShapes.cells?_one (Nat.zero_le _) hu
      exact World.cells?_block g qE
    show Sl W (.slice (some ⟨b,off,none⟩) len cap) d.length (d.flatMap cells)
    rw[h1]
    refine .inr ⟨b,off,cap,O,⟨hl,by omega⟩,hm,a6,?_⟩
    intro q u' hq
    have a1:q<(d.flatMap cells).length:=(List.getElem?_eq_some_iff.1 hq).1
    rw[jJ hc]at a1
    have a7:q / sz<d.length:=Nat.div_lt_of_lt_mul (by rw[Nat.mul_comm];exact a1)
    have a8:q%sz<sz:=Nat.mod_lt _ s
    obtain⟨z,hz⟩:∃ z,d[q / sz]?=some z:=⟨_,List.getElem?_eq_getElem a7⟩
    have a2:q / sz*sz+q%sz=q:=by rw[Nat.mul_comm];exact Nat.div_add_mod q sz
    have:=zCs hc d (q / sz) (q%sz) z hz a8
    rw[a2,hq]at this
    have h5:=h4 _ z hz _ u' this.symm
    have e5:((⟨b,off,none⟩:Addr).add (q / sz*sz)).add (q%sz)=⟨b,off+q,none⟩:=by
      simp only[jZ];rw[Nat.add_assoc,a2]
    rw[e5]at h5
    exact h5
  simp only[Rows.uptoBulk,zA8,List.map_map]
  have:(c.map (Rows.uptoBulk ∘ fun x=>x.1)).sum=(c.map fun y=>Rows.uptoBulk y.1).sum:=rfl
  omega
def RdF(P:Program)(W:World)(tot:Nat)(fs:List Field)(off:Nat){α:Type}(cells:α→List Value)(wf:α→Prop)(size:α→Nat):Prop:=
  ∀ (H:Type) (enc:TypeId×Value→H) (n:Nat) (cs:List Value) (xs:List (DataW H×List MemPlace)),cs.length=tot→xs.length=fs.length→
    (∀ (i:Nat) (f:Field),fs[i]?=some f→DataW.trod enc P W 0 (fun _=>true) true n f.type ((cs.drop f.offset).take (P.cellsOf f.type))=xs[i]?)→
    ∃ a,cs.drop off=cells a∧wf a∧size a≤(xs.map fun y=>Rows.uptoBulk y.1).sum
theorem RdF.nil{tot off:Nat}(h:off=tot):RdF P W tot [] off (fun _:Unit=>[]) (fun _=>True) (fun _=>0):=by
  subst h
  intro H enc n cs xs hl hx _
  exact⟨(),by rw[←hl];simp,trivial,Nat.zero_le _⟩
theorem RdF.cons{tot sz:Nat}{f:Field}{fs:List Field}{off:Nat}{ca:α→List Value}{wa:α→Prop}{sa:α→Nat}{cb:β→List Value}{wb:β→Prop}{sb:β→Nat}
    (ho:f.offset=off) (c:P.cellsOf f.type=sz) (d:RdA P W f.type ca wa sa) (hb:RdF P W tot fs (off+sz) cb wb sb):
    RdF P W tot (f::fs) off (fun p:α×β=>ca p.1++cb p.2) (fun p=>wa p.1∧wb p.2) (fun p=>sa p.1+sb p.2):=by
  intro H enc n cs xs hl hx hall
  cases xs with
  |nil=>simp at hx
  |cons x xs=>
    obtain⟨a,e1,e2,k⟩:=d H enc n _ x (by have:=hall 0 f rfl;simpa using this)
    obtain⟨b,e,h,l⟩:=hb H enc n cs xs hl (by simpa using hx) (fun i g j=>by have:=hall (i+1) g (by simpa using j);simpa using this)
    refine⟨(a,b),?_,⟨e2,h⟩,?_⟩
    · rw[ho,c]at e1
      show cs.drop off=ca a++cb b
      rw[←e1,←e,←List.drop_drop,List.take_append_drop]
    simp only[List.map_cons,List.sum_cons]
    show sa a+sb b≤_
    omega
theorem RdA.struct{fs:Array Field}{tot:Nat}{cells:α→List Value}{wf:α→Prop}{size:α→Nat}(g:P.underlying t=some (.struct fs))(h:P.cellsOf t=tot)(c:RdF P W tot fs.toList 0 cells wf size):
    RdA P W t cells wf (fun a=>size a+1):=by
  intro H enc fuel cs x hx
  obtain⟨d,n,rfl,rfl,hl,e,b⟩:=DataW.trod_struct g hx
  obtain⟨a,e1,e2,j⟩:=c H enc n cs d (by rw[hl,h]) (by rw[e];simp) (fun i f c=>b i f (by simpa using c))
  refine⟨a,by simpa using e1,e2,?_⟩
  simp only[Rows.uptoBulk,zA8,List.map_map]
  have:(d.map (Rows.uptoBulk ∘ fun x=>x.1)).sum=(d.map fun y=>Rows.uptoBulk y.1).sum:=rfl
  omega
theorem zJJ{v u:Value}(h:v.cells.toList=[u])(a:∀ cs,v≠ .agg cs):v=u:=by
  cases v<;>simp_all[Value.cells]
theorem zIw{r:Reach}{b0:Nat}{v u:Value}(b:P.underlying t=some (.slice e))(h:Value.okWide P W r b0 t v)(c:v.cells.toList=[u]):v=u:=by
  obtain⟨a,len,cap,rfl⟩:=Go.WideShapes.okWide_slice b h
  exact zJJ c qH
theorem zA5{H:Type}{enc:TypeId×Value→H}(hl:laidOutB P=true){W':World}(hb:Below W.heap.size W W'):∀ {ts:List TypeId} {vs:List Value} {ds:List (DataW H)} {ps:List MemPlace},
    ts.all (fun t=>P.readableRec t&&decide (t<P.types.size))=true→DataW.TrodAll enc P W 0 (fun _=>true) true ts vs ds ps→(∀ x∈ps,x.block<W.heap.size)→
    DataW.TrodAll enc P W' 0 (fun b=>decide (b<W.heap.size)) true ts vs ds ps
  | [],[],[],_,_,h,_=>h
  | [],_::_,_,_,_,h,_=>h.elim
  | [],[],_::_,_,_,h,_=>h.elim
  |_::_,[],_,_,_,h,_=>h.elim
  |_::_,_::_,[],_,_,h,_=>h.elim
  |t::ts,v::vs,d::ds,ps,hr,h,hlt=>by
    obtain⟨p,q,h1,h2,rfl⟩:=h
    simp only[List.all_cons,Bool.and_eq_true,decide_eq_true_eq]at hr
    exact⟨p,q,Below.trod hl hr.1.1 hr.1.2 h1 hb (fun x a=>hlt x (by simp[a])),zA5 hl hb hr.2 h2 (fun x a=>hlt x (by simp[a])),O⟩
theorem zCV{H:Type}{enc:TypeId×Value→H}{base:Nat}{sp:Nat→Bool}{held:Bool}:∀ {ts:List TypeId} {vs:List Value} {ds:List (DataW H)} {ps:List MemPlace},DataW.TrodAll enc P W base sp held ts vs ds ps→ds.length=ts.length
  | [],[],[],_,_=>rfl
  | [],_::_,_,_,h=>h.elim
  | [],[],_::_,_,h=>h.elim
  |_::_,[],_,_,h=>h.elim
  |_::_,_::_,[],_,h=>h.elim
  |t::ts,v::vs,d::ds,ps,h=>by
    obtain⟨p,q,h1,h2,rfl⟩:=h
    simp[zCV h2]
theorem zKY{H:Type}{enc:TypeId×Value→H}{f:Func}{s:ChangeSpec}{W':World}{args:Array Value}{ds gs:List (DataW H)}{before:List MemPlace}{tb:TypeId}(hl:laidOutB P=true)(k:s.vars=[])
    (e:∀ ds:List (DataW H),ds.length=f.params.toList.length→s.fn H ds={results:=[.lit (.bool true)],args:=ds}) (b:f.resultTypes= #[tb]) (g:P.underlying tb=some .bool)
    (i:f.params.toList.all (fun t=>P.readableRec t&&decide (t<P.types.size))=true)
    (j:DataW.Whole enc P f.params.toList s.vars false W args.toList ds gs before) (hb:Below W.heap.size W W'):s.post enc P f false true false false W args (.bool true) W':=by
  have c:=j.lt
  have d:=j
  obtain⟨p,q,l,m,rfl,n,o⟩:=j
  rw[k]at m
  obtain⟨rfl,rfl⟩:=trodVars_none m
  have a:=e ds (zCV l)
  rw[List.append_nil]at c d
  refine⟨ds,[],p,[],p,[],d,?_,?_,?_,hb.frame _,fun h=>by cases h⟩
  · rw[List.append_nil,a,b]
    exact trodAll_mk1 (shut_bool g _)
  · rw[List.append_nil,a]
    exact zA5 hl hb i l c
  rw[List.append_nil,a,k]
  rfl
theorem Own.below{w w':World}{L:List Res}(h:Own w [] L w'):Below w.heap.size w w':=
  ⟨h.keep.os,h.keep.tape,h.keep.output,h.keep.size,fun k a=>h.keep.block k a qH⟩
end Go.Proofs.YtmpaljnacfidaaaGreatDoor
set_option linter.unusedVariables false
set_option maxRecDepth 10000
namespace Go.Proofs.YtmpaljnacfidaaaGreatDoor
open Go Go.Sc Go.Proofs Go.RowKit Go.ChangeShapes Go.WideShapes
structure CmdIn(x:CmdD):Prop where
  session:x.session<18446744073709551616
  seq:x.seq<18446744073709551616
  amount:x3 x.amount
  span:x3 x.span
  lease:x.lease<18446744073709551616
theorem CmdIn.wf{x:CmdD}(h:CmdIn x)(a:x.key.size≤1048576):x.wf:=⟨h.session,h.seq,a,h.amount,h.span,h.lease⟩
theorem zSv(W:World):RdA Tryz.prog W 33 CmdD.cells CmdIn (fun x=>x.key.size+1):=by
  have h:=RdA.struct (W:=W) (tot:=7) Tryz.underlying33 qD
    (RdF.cons (sz:=1) rfl qD (RdA.u64 Tryz.underlying31) (RdF.cons (sz:=1) rfl qD (RdA.u64 Tryz.underlying31)
      (RdF.cons (sz:=1) rfl qD (RdA.i64 Tryz.underlying3) (RdF.cons (sz:=1) rfl qD (RdA.str Tryz.underlying9)
        (RdF.cons (sz:=1) rfl qD (RdA.i64 Tryz.underlying2) (RdF.cons (sz:=1) rfl qD (RdA.i64 Tryz.underlying2)
          (RdF.cons (sz:=1) rfl qD (RdA.u64 Tryz.underlying31) (RdF.nil rfl))))))))
  exact h.map (fun p=>⟨p.1,p.2.1,p.2.2.1,p.2.2.2.1,p.2.2.2.2.1,p.2.2.2.2.2.1,p.2.2.2.2.2.2.1⟩) (fun _=>O) (fun _ h=>⟨h.1,h.2.1,h.2.2.2.2.1,h.2.2.2.2.2.1,h.2.2.2.2.2.2.1⟩) (fun _ _=>by first|omega|(dsimp only;omega))
theorem zRU(W:World):RdA Tryz.prog W 22 (fun p:Value×List CmdD=>[p.1]) (fun p=>Rd W [] (Res.sl p.1 p.2.length (p.2.flatMap CmdD.cells))∧∀ a∈p.2,CmdIn a) (fun p=>(p.2.map fun x=>x.key.size+1).sum+1):=
  (RdA.slice (sz:=7) Tryz.underlying22 qD V (fun _=>rfl) (zSv W)).map id (fun _=>rfl) (fun p h=>⟨Rd.of h.1,h.2⟩) (fun p _=>Nat.le_refl _)
theorem zHr{l:List CmdD}(h:∀ a∈l,CmdIn a)(c:(l.map fun x=>x.key.size+1).sum≤1048576):l.length≤10000000∧∀ x∈l,x.wf:=by
  have key:∀ l:List CmdD,l.length≤(l.map fun x=>x.key.size+1).sum∧∀ x∈l,x.key.size≤(l.map fun x=>x.key.size+1).sum:=fun l=>by
    induction l with
    |nil=>simp
    |cons a l ih=>
      simp only[List.map_cons,List.sum_cons,List.length_cons]
      refine⟨by omega,fun x b=> ?_⟩
      rcases List.mem_cons.1 b with rfl|b
      · omega
      have:=ih.2 x b;omega
  exact⟨by have:=(key l).1;omega,fun x b=>(h x b).wf (by have:=(key l).2 x b;omega)⟩
end Go.Proofs.YtmpaljnacfidaaaGreatDoor
