import Derived.Test.YtbcmiinhjgbkdaaGreatDoorWg14
import Derived.Test.YtbcmiinhjgbkdaaGreatDoorWg9
set_option linter.unusedSimpArgs false
set_option linter.unusedVariables false
namespace Go.Ix
open Go.Proofs
theorem x1em{α:Type}{enc:α->List AV}{z bytes:Nat}(hz:∀x,(enc x).length=z){a:AV}{l:List α}(h:Sl enc a l)(hr:x11c l.length bytes)(id:Id)(m:Mem) :
 (l=[]/\∀{R:Type} (k:AV->Mem->Option R),sApp z bytes id (elems m.get z a) (.slit [] 0 true) m k=k (.slit [] 0 true) m) \/
 (l≠[]/\∀{R:Type} (k:AV->Mem->Option R),sApp z bytes id (elems m.get z a) (.slit [] 0 true) m k=k (.sref id 0 0 l.length z true) (m.new id (.row (l.flatMap enc) 0 false))):=by
 have he:=h.elems hz m.get
 by_cases hq:l.length=0
 .refine .inl ⟨x1o3.mp hq,λk=>?_⟩
  rw[he,x1dt hr,x1n8 hq]
  rfl
 .refine .inr ⟨λe=>hq (by rw[e];rfl),λk=>?_⟩
  rw[he,x1dt hr,x1oe hq]
  rfl
theorem x19e{α:Type}{enc:α->List AV}{z k:Nat}(hz:∀x,(enc x).length=z)(hs:∀x,(enc x).all still1=true){objs:Id->Option Ob}{id:Id}{l:List α}{x:Bool}(hg:objs id=some (.row (l.flatMap enc) 0 false)) :
 frz objs (k+2) (.sref id 0 0 l.length z x)=some (.slit (l.flatMap enc) l.length false):=by
 have hl:=x135 hz l
 have:=x15m (objs:=objs) (id:=id) (cs:=l.flatMap enc) (ver:=0) (off:=0) (n:=l.length) (z:=z) (k:=k) (f:=false) (x:=x) hg (by omega) (by
  rw[x1mi,x1mb (by omega)];exact x13c hs l)
 rw[x1mi,x1mb (by omega)]at this
 exact this
theorem x174{objs:Id->Option Ob}{a b a' b':AV}{k:Nat}(ha:frz objs (k+1) a=some a')(hb:frz objs (k+1) b=some b'):frz objs (k+2) (.agg [a,b])=some (.agg [a',b']):=by
 show([a,b].mapM (frz objs (k+1))).map AV.agg=_
 simp only[x1n9,x1of,ha,hb]
 rfl
theorem x19f:xc=[nilS,nilS]:=by kernel_rfl
theorem x1hb(d:Nat){s p:AV}{l:List Scene}{P:List Pq}(hs:Sl Scene.c s l)(hp:Sl Pq.c p P)(hl:l.length<=1000000)(hP:P.length<=1000000)(m:Mem) :
 ∃s' p',Sl Scene.c s' l/\Sl Pq.c p' P/\x10o (x10p (d+1)) xp [.agg [s,p]] m=some (.agg [s',p'],m):=by
 have hr:x11c l.length 32:=by unfold x11c;omega
 have hr2:x11c P.length 16:=by unfold x11c;omega
 have key:RetF (λv=>∃s' p',v=.agg [s',p']/\Sl Scene.c s' l/\Sl Pq.c p' P) (x10p (d+1) [] xp [.agg [s,p]] mem0):=by
  rw[xu5]
  unfold x8x x6l
  have a1:=λm=>x1em Scene.len hs hr (0,5,6) m
  have a2:=λm=>x1em Pq.len hp hr2 (0,9,10) m
  have hx:=hs.tX
  have hx2:=hp.tX
  simp[mem0,hs.one,hp.one,x19f]
  generalize hm1:Mem.new _ _ _=m1
  rcases a1 m1 with ⟨rfl,h1⟩|⟨h0,h1⟩
  .simp only[h1]
   simp[<-hm1]
   rcases a2 m1 with ⟨rfl,h2⟩|⟨h02,h2⟩<;>rw[<-hm1]at h2
   .simp[h2,x11a,x13y,sLdP,tR,tA,hx,hx2,x10q,disj,<-hm1]
    exact RetF.st rfl ⟨_,_,rfl,Sl.lit [] true,Sl.lit [] true⟩
   .simp[h2,x11a,x13y,sLdP,tR,tA,hx,hx2,x10q,disj,<-hm1]
    refine RetF.mk (x174 rfl (x19e (k:=3) Pq.len Pq.still (x:=true) (l:=P) ?_)) ⟨_,_,rfl,Sl.lit [] true,Sl.lit P false⟩
    simp
  .simp only[h1]
   simp[<-hm1]
   generalize hm2:Mem.new (Mem.new _ _ _) (0,5,6) _=m2
   rcases a2 m2 with ⟨rfl,h2⟩|⟨h02,h2⟩
   .simp only[h2]
    simp[x11a,x13y,sLdP,tR,tA,hx,hx2,x10q,disj,<-hm2]
    refine RetF.mk (x174 (x19e (k:=3) Scene.len Scene.stillA (x:=true) (l:=l) ?_) rfl) ⟨_,_,rfl,Sl.lit l false,Sl.lit [] true⟩
    simp
   .simp only[h2]
    simp[x11a,x13y,sLdP,tR,tA,hx,hx2,x10q,disj,<-hm2]
    refine RetF.mk (x174 (x19e (k:=3) Scene.len Scene.stillA (x:=true) (l:=l) ?_) (x19e (k:=3) Pq.len Pq.still (x:=true) (l:=P) ?_)) ⟨_,_,rfl,Sl.lit l false,Sl.lit P false⟩<;>simp
 obtain⟨v,⟨s',p',rfl,h1,h2⟩,hc⟩:=callF (by simp[hs.still1,hp.still1]) key m
 exact⟨s',p',h1,h2,hc⟩
end Go.Ix
set_option maxRecDepth 10000
namespace Go.Ix
open Go.Proofs
def scnB:List UInt8:=[115,99,101,110,101]
def prB:List UInt8:=[112,97,105,114]
def wd(ws:List (List UInt8))(k:Nat):List UInt8:=ws.getD k []
def x121(S:List Scene)(P:List Pq)(t:List UInt8):Option (List Scene×List Pq):=
 let ws:=cutM 32 t
 if wd ws 0=scnB/\1<ws.length/\P=[]then(twoM (ws.drop 2)).map λq=>(S++[⟨⟨(wd ws 1).toArray⟩,q.1,q.2⟩],P)
 else if wd ws 0=prB then(twoM (ws.drop 1)).map λq=>(S,P++[⟨q.1,q.2⟩])
 else none
def okA7:Id->Prop:=λid=>id.2.2=47
def okB7:Id->Prop:=λid=>id.2.2=69
def SR(m:Mem)(sid:Id)(S:List Scene)(P:List Pq):Prop:=∃v w,m.get sid=some (.row [v,w] 0 false)/\Gk 3 Scene.c okA7 m v S/\Gk 2 Pq.c okB7 m w P
theorem zz_pint:x30=[AV.sc (.pointer none)]:=by kernel_rfl
theorem mk_ptrs{R:Type}(rid:Id)(o1 o2:Nat)(id:Id)(m:Mem)(K:AV->Mem->Option R):x113 x30 [(0,1,.ptr rid 0 o1),(1,1,.ptr rid 0 o2)] 2 1 id m K=K (.sref id 0 0 2 1 true) (m.new id (.row [.ptr rid 0 o1,.ptr rid 0 o2] 0 false)):=by
 rw[zz_pint];rfl
theorem Sl.drop_strs{x:AV}{l:List (List UInt8)}{n:Nat}(hx:x=.slit (l.flatMap strE) l.length false)(hn:n<=l.length):∃y,x117 Tryz.prog xh x (some (I n)) none=some y/\Sl strE y (l.drop n):=by
 subst hx
 have hi:∃i,Tryz.prog.info? x0=some i/\i.size=1:=by
  have h1:(Tryz.prog.info? x0).map (λi=>i.size)=some 1:=by kernel_rfl
  rw[x1m4]at h1
  exact h1
 obtain⟨ii,ie1,ie2⟩:=hi
 have hfl:=x19b l
 refine⟨.slit ((l.flatMap strE).drop n) (l.length-n) false,?_,.inr ⟨false,?_⟩⟩
 .simp only[x117,x118,x153,ie1,ie2,asI,Option.getD_some,Option.getD_none]
  rw[x1m1 ⟨by omega,by omega,by omega,by omega⟩]
  congr 2
  .rw[x1ox,x1mb (by rw[x1o5];omega),x1o4]
  .omega
 .rw[x1o5]
  congr 1
  have:=x1as x13p l n
  rwa[x1o4]at this
theorem SR.frame{m m':Mem}{sid:Id}{S:List Scene}{P:List Pq}(h:SR m sid S P)(h0:m'.get sid=m.get sid)(h1:∀j,okA7 j\/okB7 j->m'.get j=m.get j):SR m' sid S P:=by
 obtain⟨v,w,a,b,c⟩:=h
 exact⟨v,w,by rw[h0];exact a,b.frame λj hj=>h1 j (.inl hj),c.frame λj hj=>h1 j (.inr hj)⟩
theorem Scene.stl(s:Scene):s.c.all still1=true:=rfl
theorem mk_sc{R:Type}(nm:List UInt8)(a b:Int)(id:Id)(m:Mem)(K:AV->Mem->Option R):x113 x9 [(0,3,.agg [Tx nm,I a,I b])] 1 3 id m K=K (.slit [Tx nm,I a,I b] 1 true) m:=by
 rw[x152];rfl
theorem mk_pq{R:Type}(a b:Int)(id:Id)(m:Mem)(K:AV->Mem->Option R):x113 xd [(0,2,.agg [I a,I b])] 1 2 id m K=K (.slit [I a,I b] 1 true) m:=by
 rw[x16c];rfl
theorem bl_sc(nm:List UInt8):x11a x9 [(0,1,Tx nm)]=some (.agg [Tx nm,I 0,I 0]):=by
 rw[x152];rfl
theorem c_read(d:Nat)(hs:FHs){sid:Id}(hsid:sid.2.2=5){S:List Scene}{P:List Pq}(hS:S.length<=100000)(hP:P.length<=100000){t:List UInt8}(ht:t.length<=100000){m:Mem}(hlt:sid.1<m.next)(h:SR m sid S P) :
 ∃m',x10p (d+7) hs x24 [.ptr sid 0 0,Tx t] m=some (B (x121 S P t).isSome,m')/\(∀q,x121 S P t=some q->SR m' sid q.1 q.2)/\m.next<=m'.next/\∀j,j.1<m.next->j≠sid->¬okA7 j->¬okB7 j->m'.get j=m.get j:=by
 rw[xuk]
 unfold x9b x7d
 obtain⟨v,w,hg,hA,hB⟩:=h
 obtain⟨m1,hm1⟩:∃m1:Mem,m1=⟨m.hp,m.next+1⟩:=⟨_,rfl⟩
 have hg1:∀j,m1.get j=m.get j:=λj=>by subst hm1;rfl
 have hn1:m1.next=m.next+1:=by subst hm1;rfl
 rw[<-hm1]
 have hA1:Gk 3 Scene.c okA7 m1 v S:=hA.frame λj _=>hg1 j
 have hB1:Gk 2 Pq.c okB7 m1 w P:=hB.frame λj _=>hg1 j
 have hs1:m1.get sid=some (.row [v,w] 0 false):=by rw[hg1];exact hg
 obtain⟨ws,hws⟩:∃ws,ws=cutM 32 t:=⟨_,rfl⟩
 have hwl:∀x∈ws,x.length<=100000:=λx hx=>by
  have:=x17x 32 t x (by rw[<-hws];exact hx)
  omega
 have hne:ws≠[]:=by rw[hws];exact x16e 32 t
 have hpos:=x1nv.mpr hne
 have hcl:=x173 32 t
 rw[<-hws]at hcl
 have hsp:=λm=>w_Split d 32 ht m
 rw[<-hws]at hsp
 have hxs:Sl strE (.slit (ws.flatMap strE) ws.length false) ws:=.inr ⟨false,rfl⟩
 have hix:∀k,k<ws.length->sIx 1 (.slit (ws.flatMap strE) ws.length false) (I k)=some (.plit (Tx (wd ws k)::(ws.drop (k+1)).flatMap strE)):=λk hk=>by
  have:=hxs.ix x13p hk
  rw[x1nu hk,x1mj]at this
  rw[this]
  unfold wd
  rw[x1mu,x1ml hk]
  rfl
 have hl1:=hA.one
 have hl2:=hB.one
 have hlw:sLd false 1 (.ptr sid 0 1) m1=some w:=by rw[x11g hs1];simp[hl2.2]
 have hlP:sLen Tryz.prog x8 w=some (I P.length):=by
  rcases hB1 with ⟨rfl,rfl⟩|⟨id,ver,_,rfl,hg⟩
  .exact x17t x130
  .rfl
 have hlv:sLd false 1 (.ptr sid 0 0) m1=some v:=by rw[x11g hs1];simp[hl1.2]
 have hlen:∀m:Mem,sLen Tryz.prog xh (.slit (ws.flatMap strE) ws.length false)=some (I ws.length):=λ_=>hxs.len x153
 have hlen:=hlen m1
 have hsf:∀k:Nat,sFA k (.ptr sid 0 0)=some (.ptr sid 0 k):=λk=>by rw[x12z,x1mn]
 have hx0:=hix 0 hpos
 dsimp only
 rw[show(AV.sc (.string ⟨#[32]⟩))=Tx [32]from rfl,hsp]
 rw[show(AV.sc (.string ⟨#[115,99,101,110,101]⟩))=Tx scnB from rfl,show(AV.sc (.string ⟨#[112,97,105,114]⟩))=Tx prB from rfl]
 rw[show((0:Nat):Int)=0 from rfl]at hx0
 simp only[x10r,hx0,x12c,rd_f,List.head?_cons,x_eq]
 unfold x121
 rw[<-hws]
 have nes:∀{a b:Nat} {x y:Nat},((m.next,a,x):Id)=(m.next,b,y)->x=y:=λh=>(Prod.mk.inj (Prod.mk.inj h).2).2
 have ne1:∀{a x:Nat},sid≠(m.next,a,x):=λh=>by rw[h]at hlt;exact x1ns _ hlt
 have scene:∀(hlen2:1<ws.length) (fc:Nat),∃m',(sIx 1 (.slit (ws.flatMap strE) ws.length false) (I 1)).bind (λt31=>
  (sLd false 1 t31 m1).bind λt32=>
  (x11a x9 [(0,1,t32)]).bind λt33=>
  x110 x9 (m.next,0+26,6) m1 λt6 m_1=>
  sSt 3 t6 t33 m_1 λm_2=>
  (x117 Tryz.prog xh (.slit (ws.flatMap strE) ws.length false) (some (I 2)) none).bind λt35=>
  (sFA 1 t6).bind λt36=>
  (sFA 2 t6).bind λt37=>
  x113 x30 [(0,1,t36),(1,1,t37)] 2 1 (m.next,0+32,38) m_2 λt38 m_3=>
  (x10p (d+6) hs xn [t35,t38] m_3).bind λp39=>
  (sNil (.ptr sid 0 0)).bind λt42=>
  (sFA 0 t42).bind λt43=>
  (sLd false 1 t43 p39.2).bind λt44=>
  (sLd true 3 t6 p39.2).bind λt45=>
  x113 x9 [(0,3,t45)] 1 3 (m.next,0+41,46) p39.2 λt46 m_4=>
  sApp 3 32 (m.next,0+42,47) (elems m_4.get 3 t46) t44 m_4 λt47 m_5=>
  (sNil (.ptr sid 0 0)).bind λt48=>
  (sFA 0 t48).bind λt49=>
  sSt 1 t49 t47 m_5 λm_6=>
  bif(x10q (tR t43) (some [],some [(m.next,0+41,46)])&&true)then
  some (p39.1,m_6)else none)=some (B (twoM (ws.drop 2)).isSome,m')/\(∀q,twoM (ws.drop 2)=some q->SR m' sid (S++[⟨⟨(wd ws 1).toArray⟩,q.1,q.2⟩]) P)/\m.next<=m'.next/\∀j,j.1<m.next->j≠sid->¬okA7 j->¬okB7 j->m'.get j=m.get j:=by
  intro hlen2 fc
  have hx1:=hix 1 hlen2
  rw[show((1:Nat):Int)=1 from rfl]at hx1
  obtain⟨y,hy1,hy2⟩:=Sl.drop_strs (x:=.slit (ws.flatMap strE) ws.length false) (l:=ws) (n:=2) rfl (by omega)
  rw[show((2:Nat):Int)=2 from rfl]at hy1
  obtain⟨m2,hm2⟩:∃m2:Mem,m2=(m1.new (m.next,0+26,6) (.row x9 0 false)).set (m.next,0+26,6) (.row [Tx (wd ws 1),I 0,I 0] 0 false):=⟨_,rfl⟩
  have hst:∀{R:Type} (K:Mem->Option R),sSt 3 (.ptr (m.next,0+26,6) 0 0) (.agg [Tx (wd ws 1),I 0,I 0]) (m1.new (m.next,0+26,6) (.row x9 0 false)) K=K m2:=λK=>by
   rw[x152,x124 (z:=3) (x:=.agg [Tx (wd ws 1),I 0,I 0]) (Mem.get_new_same _ _ _) rfl (by simp) rfl,hm2,x152]
   rfl
  obtain⟨m3,hm3⟩:∃m3:Mem,m3=m2.new (m.next,0+32,38) (.row [.ptr (m.next,0+26,6) 0 (0+1),.ptr (m.next,0+26,6) 0 (0+2)] 0 false):=⟨_,rfl⟩
  have hI:Into m3 (m.next,0+32,38) (m.next,0+26,6) [Tx (wd ws 1)] 0 0:=by
   refine⟨by rw[hm3,Mem.get_new,x1m1 rfl];rfl,?_,λe=>absurd (nes e) (by decide),rfl⟩
   rw[hm3,Mem.get_new,x1m0 (λe=>absurd (nes e) (by decide)),hm2,Mem.get_set,x1m1 rfl];rfl
  obtain⟨m4,a,b,e4,q4,r4,n4,f4⟩:=x1eg (d+2) hs hy2 (λx hx=>hwl x (x1ow hx)) hI
  have g3:∀j:Id,j≠(m.next,0+26,6)->j≠(m.next,0+32,38)->m4.get j=m1.get j:=λj h1 h2=>by
   rw[f4 j h1,hm3,Mem.get_new,x1m0 h2,hm2,Mem.get_set,x1m0 h1,Mem.get_new,x1m0 h1]
  have hs4:m4.get sid=some (.row [v,w] 0 false):=by rw[g3 _ ne1 ne1];exact hs1
  have hv4:sLd false 1 (.ptr sid 0 0) m4=some v:=by rw[x11g hs4];simp[hl1.2]
  have hr4:sLd true 3 (.ptr (m.next,0+26,6) 0 0) m4=some (.agg [Tx (wd ws 1),I a,I b]):=by rw[x11g r4];rfl
  have hA4:Gk 3 Scene.c okA7 m4 v S:=hA1.frame λj hj=>g3 j (by rintro rfl;cases hj) (by rintro rfl;cases hj)
  have hB4:Gk 2 Pq.c okB7 m4 w P:=hB1.frame λj hj=>g3 j (by rintro rfl;cases hj) (by rintro rfl;cases hj)
  obtain⟨v',m5,A5,G5,o1,o2,n5,f5⟩:=Gk.app (ok:=okA7) (l:=S) (bytes:=32) (id0:=(m.next,0+42,47)) Scene.len (by omega) rfl (by unfold x11c;omega) hA4 ⟨⟨(wd ws 1).toArray⟩,a,b⟩
  have hel:∀objs,elems objs 3 (.slit [Tx (wd ws 1),I a,I b] 1 true)=some (Scene.c ⟨⟨(wd ws 1).toArray⟩,a,b⟩,1):=λ_=>rfl
  have hs5:m5.get sid=some (.row [v,w] 0 false):=by rw[f5 _ (by unfold okA7;rw[hsid];decide)];exact hs4
  have hst6:∀{R:Type} (K:Mem->Option R),sSt 1 (.ptr sid 0 0) v' m5 K=K (m5.set sid (.row [v',w] 0 false)):=λK=>by
   rw[x124 (z:=1) (x:=v') hs5 (by rw[o1];rfl) (by simp) (by rw[o1];simp[o2]),o1];rfl
  have hap:x10q (tR (.ptr sid 0 0)) (some [],some [(m.next,0+41,46)])=true:=by
   simp only[tR,x10q,disj]
   simp
   intro h;rw[h]at hlt;exact x1ns _ hlt
  have e4':x10p (d+6) hs xn [y,.sref (m.next,0+32,38) 0 0 2 1 true] m3=_:=e4
  simp only[hx1,x10r,x12c,rd_f,List.head?_cons,bl_sc,x14h,hst,hy1,x12z,mk_ptrs,<-hm3,e4',sNil,x1mn,hv4]
  rw[show sLd true 3 (.ptr (m.next,26,6) 0 0) m4=_ from hr4]
  simp only[x10r,mk_sc,hel,A5,hst6]
  rw[show x10q (tR (.ptr sid 0 0)) (some [],some [(m.next,41,46)])=true from hap]
  refine⟨_,rfl,λq hq=>?_,?_,λj h1 h2 h3 h4=>?_⟩
  .have:=q4 q hq
   subst this
   exact⟨v',w,by rw[Mem.get_set,x1m1 rfl],G5.frame λj hj=>by rw[Mem.get_set,x1m0 (by rintro rfl;unfold okA7 at hj;rw[hsid]at hj;cases hj)],hB4.frame λj hj=>by rw[Mem.get_set,x1m0 (by rintro rfl;unfold okB7 at hj;rw[hsid]at hj;cases hj),f5 _ (by unfold okA7;unfold okB7 at hj;rw[hj];decide)]⟩
  .show m.next<=m5.next
   rw[n5]
   have:m3.next=m1.next:=by rw[hm3,hm2];rfl
   omega
  .have hj:∀{a x:Nat},j≠(m.next,a,x):=λe=>by rw[e]at h1;exact x1ns _ h1
   rw[Mem.get_set,x1m0 h2,f5 _ h3,g3 _ hj hj,hg1]
 have pair:∃m',x110 xd (m.next,0+27,8) m1 (λt8 m_7=>
  (x117 Tryz.prog xh (.slit (ws.flatMap strE) ws.length false) (some (I 1)) none).bind λt57=>
  (sFA 0 t8).bind λt58=>
  (sFA 1 t8).bind λt59=>
  x113 x30 [(0,1,t58),(1,1,t59)] 2 1 (m.next,0+32,60) m_7 λt60 m_8=>
  (x10p (d+6) hs xn [t57,t60] m_8).bind λp61=>
  (sNil (.ptr sid 0 0)).bind λt64=>
  (sFA 1 t64).bind λt65=>
  (sLd false 1 t65 p61.2).bind λt66=>
  (sLd true 2 t8 p61.2).bind λt67=>
  x113 xd [(0,2,t67)] 1 2 (m.next,0+41,68) p61.2 λt68 m_9=>
  sApp 2 16 (m.next,0+42,69) (elems m_9.get 2 t68) t66 m_9 λt69 m_10=>
  (sNil (.ptr sid 0 0)).bind λt70=>
  (sFA 1 t70).bind λt71=>
  sSt 1 t71 t69 m_10 λm_11=>
  bif(x10q (tR t65) (some [],some [(m.next,0+41,68)])&&true)then
  some (p61.1,m_11)else none)=some (B (twoM (ws.drop 1)).isSome,m')/\(∀q,twoM (ws.drop 1)=some q->SR m' sid S (P++[⟨q.1,q.2⟩]))/\m.next<=m'.next/\∀j,j.1<m.next->j≠sid->¬okA7 j->¬okB7 j->m'.get j=m.get j:=by
  obtain⟨y,hy1,hy2⟩:=Sl.drop_strs (x:=.slit (ws.flatMap strE) ws.length false) (l:=ws) (n:=1) rfl (by omega)
  rw[show((1:Nat):Int)=1 from rfl]at hy1
  obtain⟨m2,hm2⟩:∃m2:Mem,m2=m1.new (m.next,0+27,8) (.row [I 0,I 0] 0 false):=⟨_,rfl⟩
  obtain⟨m3,hm3⟩:∃m3:Mem,m3=m2.new (m.next,0+32,60) (.row [.ptr (m.next,0+27,8) 0 (0+0),.ptr (m.next,0+27,8) 0 (0+1)] 0 false):=⟨_,rfl⟩
  have hI:Into m3 (m.next,0+32,60) (m.next,0+27,8) [] 0 0:=by
   refine⟨by rw[hm3,Mem.get_new,x1m1 rfl];rfl,?_,λe=>absurd (nes e) (by decide),rfl⟩
   rw[hm3,Mem.get_new,x1m0 (λe=>absurd (nes e) (by decide)),hm2,Mem.get_new,x1m1 rfl];rfl
  obtain⟨m4,a,b,e4,q4,r4,n4,f4⟩:=x1eg (d+2) hs hy2 (λx hx=>hwl x (x1ow hx)) hI
  have g3:∀j:Id,j≠(m.next,0+27,8)->j≠(m.next,0+32,60)->m4.get j=m1.get j:=λj h1 h2=>by
   rw[f4 j h1,hm3,Mem.get_new,x1m0 h2,hm2,Mem.get_new,x1m0 h1]
  have hs4:m4.get sid=some (.row [v,w] 0 false):=by rw[g3 _ ne1 ne1];exact hs1
  have hw4:sLd false 1 (.ptr sid 0 1) m4=some w:=by rw[x11g hs4];simp[hl2.2]
  have hr4:sLd true 2 (.ptr (m.next,0+27,8) 0 0) m4=some (.agg [I a,I b]):=by rw[x11g r4];rfl
  have hA4:Gk 3 Scene.c okA7 m4 v S:=hA1.frame λj hj=>g3 j (by rintro rfl;cases hj) (by rintro rfl;cases hj)
  have hB4:Gk 2 Pq.c okB7 m4 w P:=hB1.frame λj hj=>g3 j (by rintro rfl;cases hj) (by rintro rfl;cases hj)
  obtain⟨w',m5,A5,G5,o1,o2,n5,f5⟩:=Gk.app (ok:=okB7) (l:=P) (bytes:=16) (id0:=(m.next,0+42,69)) Pq.len (by omega) rfl (by unfold x11c;omega) hB4 ⟨a,b⟩
  have hel:∀objs,elems objs 2 (.slit [I a,I b] 1 true)=some (Pq.c ⟨a,b⟩,1):=λ_=>rfl
  have hs5:m5.get sid=some (.row [v,w] 0 false):=by rw[f5 _ (by unfold okB7;rw[hsid];decide)];exact hs4
  have hst6:∀{R:Type} (K:Mem->Option R),sSt 1 (.ptr sid 0 1) w' m5 K=K (m5.set sid (.row [v,w'] 0 false)):=λK=>by
   rw[x124 (z:=1) (x:=w') hs5 (by rw[o1];rfl) (by simp) (by rw[o1];simp[o2]),o1];rfl
  have hap:x10q (tR (.ptr sid 0 1)) (some [],some [(m.next,0+41,68)])=true:=by
   simp only[tR,x10q,disj]
   simp
   intro h;rw[h]at hlt;exact x1ns _ hlt
  have e4':x10p (d+6) hs xn [y,.sref (m.next,0+32,60) 0 0 2 1 true] m3=_:=e4
  simp only[x14h,x16c,<-hm2,hy1,x10r,x12z,mk_ptrs,<-hm3,e4',sNil,x1mn,hw4]
  rw[show sLd true 2 (.ptr (m.next,27,8) 0 0) m4=_ from hr4]
  have mkp:=λ(id:Id) (m:Mem) (R:Type) (K:AV->Mem->Option R)=>mk_pq a b id m K
  rw[x16c]at mkp
  simp only[x10r,mkp,hel,A5,hst6]
  rw[show x10q (tR (.ptr sid 0 1)) (some [],some [(m.next,41,68)])=true from hap]
  refine⟨_,rfl,λq hq=>?_,?_,λj h1 h2 h3 h4=>?_⟩
  .have:=q4 q hq
   subst this
   exact⟨v,w',by rw[Mem.get_set,x1m1 rfl],hA4.frame λj hj=>by rw[Mem.get_set,x1m0 (by rintro rfl;unfold okA7 at hj;rw[hsid]at hj;cases hj),f5 _ (by unfold okB7;unfold okA7 at hj;rw[hj];decide)],G5.frame λj hj=>by rw[Mem.get_set,x1m0 (by rintro rfl;unfold okB7 at hj;rw[hsid]at hj;cases hj)]⟩
  .show m.next<=m5.next
   rw[n5]
   have:m3.next=m1.next:=by rw[hm3,hm2];rfl
   omega
  .have hj:∀{a x:Nat},j≠(m.next,a,x):=λe=>by rw[e]at h1;exact x1ns _ h1
   rw[Mem.get_set,x1m0 h2,f5 _ h4,g3 _ hj hj,hg1]
 have none1:∃m',some (B false,m1)=some (B (none:Option (List Scene×List Pq)).isSome,m')/\(∀q,(none:Option (List Scene×List Pq))=some q->SR m' sid q.1 q.2)/\m.next<=m'.next/\∀j,j.1<m.next->j≠sid->¬okA7 j->¬okB7 j->m'.get j=m.get j:=
  ⟨m1,rfl,λq hq=>(by cases hq),by omega,λj _ _ _ _=>hg1 j⟩
 by_cases c0:wd ws 0=scnB
 .have hnp:¬wd ws 0=prB:=by rw[c0];decide
  by_cases c1:1<ws.length
  .have c1':(1:Int)<(ws.length:Int):=by omega
   by_cases c2:P=[]
   .rw[x1m1 ⟨c0,c1,c2⟩]
    subst c2
    simp only[c0,x1m6,x11p,x11y,sW_t,x119,x10r,hlen,x12x,c1',x11b,sNil,hsf,hlw,hlP,x12y,x1mt,show decide ((((0:Nat)):Int)=0)=true from rfl,x112]
    obtain⟨m',k1,k2,k3,k4⟩:=scene c1 0
    simp only[sNil,hsf,x10r]at k1
    refine⟨m',by rw[k1];cases twoM (ws.drop 2)<;>rfl,λq hq=>?_,k3,k4⟩
    rw[x1m4]at hq
    obtain⟨r,hr,rfl⟩:=hq
    exact k2 r hr
   .rw[x1m0 (λh=>c2 h.2.2),x1m0 hnp]
    have c2':¬((P.length:Int)=0):=by
     have:=x1nv.mpr c2
     omega
    simp only[c0,x1m6,x11p,x11y,sW_t,x119,x10r,hlen,x12x,c1',x11b,sNil,hsf,hlw,hlP,x12y,c2',x1m9,x116,hx0,x12c,rd_f,List.head?_cons,x_eq,show decide (scnB=prB)=false from by decide]
    exact none1
  .rw[x1m0 (λh=>c1 h.2.1),x1m0 hnp]
   have c1':¬(1:Int)<(ws.length:Int):=by omega
   simp only[c0,x1m6,x11p,x11y,sW_t,x119,x10r,hlen,x12x,c1',x1m9,x11b,x11i,x116,hx0,x12c,rd_f,List.head?_cons,x_eq,show decide (scnB=prB)=false from by decide]
   exact none1
 .rw[x1m0 (λh=>c0 h.1)]
  by_cases c3:wd ws 0=prB
  .rw[x1m1 c3]
   simp only[c0,c3,x1m9,show decide (prB=scnB)=false from by decide,x11p,x11y,sW_t,x11i,x10r,x11b,x116,hx0,x12c,rd_f,List.head?_cons,x_eq,x1m6,x112]
   obtain⟨m',k1,k2,k3,k4⟩:=pair
   simp only[sNil]at k1
   refine⟨m',?_,λq hq=>?_,k3,k4⟩
   .simp only[sNil]
    rw[k1];cases twoM (ws.drop 1)<;>rfl
   .rw[x1m4]at hq
    obtain⟨r,hr,rfl⟩:=hq
    exact k2 r hr
  .rw[x1m0 c3]
   simp only[c0,c3,x1m9,x11p,x11y,sW_t,x11i,x10r,x11b,x116,hx0,x12c,rd_f,List.head?_cons,x_eq]
   exact none1
abbrev Res7:=(List Scene×List Pq)×Int×Int
def finM(S:List Scene)(P:List Pq):Res7:=if(net7 S P).2=0 then((S,P),0,0)else(([],[]),0,(net7 S P).2)
def goL:List Scene->List Pq->Nat->List (List UInt8)->Res7
 |S,P,_,[]=>finM S P
 |S,P,n,l::r=>if endL l=true then(match x121 S P l.dropLast with
  |some q=>goL q.1 q.2 (n+1) r
  |none=>(([],[]),((n+1:Nat):Int),7))else(([],[]),((n+1:Nat):Int),7)
def x12p(t:List UInt8):Res7:=if 60000<t.length then(([],[]),0,8)else goL [] [] 0 (x12d t)
def rdL:List Scene->List Pq->List (List UInt8)->Option (List Scene×List Pq)
 |S,P,[]=>some (S,P)
 |S,P,l::r=>if endL l=true then(match x121 S P l.dropLast with
  |some q=>rdL q.1 q.2 r
  |none=>none)else none
theorem x1bf:∀(pre:List (List UInt8)) {S S':List Scene} {P P':List Pq} (n:Nat) (post:List (List UInt8)),rdL S P pre=some (S',P')->goL S P n (pre++post)=goL S' P' (n+pre.length) post
 |[],S,S',P,P',n,post,h=>by simp only[rdL,x1m3,x1m2]at h;rw[h.1,h.2];rfl
 |l::r,S,S',P,P',n,post,h=>by
  unfold rdL at h
  rw[x1np]
  split at h
  .rename_i he
   cases hl:x121 S P l.dropLast with
   |none=>rw[hl]at h;cases h
   |some q=>
    rw[hl]at h
    simp only at h
    rw[goL,x1m1 he,hl]
    simp only
    rw[x1bf r (n+1) post h,x1mf,show n+1+r.length=n+(r.length+1) by omega]
  .cases h
theorem x1en:∀(pre:List (List UInt8)) {S S':List Scene} {P P':List Pq} {l:List UInt8} {q:List Scene×List Pq},rdL S P pre=some (S',P')->endL l=true->x121 S' P' l.dropLast=some q->rdL S P (pre++[l])=some q
 |[],S,S',P,P',l,q,h,h1,h2=>by
  simp only[rdL,x1m3,x1m2]at h
  rw[x1od,h.1,h.2]
  unfold rdL
  rw[x1m1 h1,h2];rfl
 |a::r,S,S',P,P',l,q,h,h1,h2=>by
  unfold rdL at h
  rw[x1np]
  unfold rdL
  split at h
  .rename_i he
   rw[x1m1 he]
   cases hl:x121 S P a.dropLast with
   |none=>rw[hl]at h;cases h
   |some q'=>
    rw[hl]at h
    simp only at h ⊢
    exact x1en r h h1 h2
  .cases h
theorem x1bg{S:List Scene}{P:List Pq}{t:List UInt8}{q:List Scene×List Pq}(h:x121 S P t=some q):q.1.length+q.2.length=S.length+P.length+1:=by
 unfold x121 at h
 simp only at h
 split at h
 .rw[x1m4]at h
  obtain⟨r,-,rfl⟩:=h
  simp;omega
 .split at h
  .rw[x1m4]at h
   obtain⟨r,-,rfl⟩:=h
   simp;omega
  .cases h
theorem rdL_len:∀(pre:List (List UInt8)) {S S':List Scene} {P P':List Pq},rdL S P pre=some (S',P')->S'.length+P'.length=S.length+P.length+pre.length
 |[],S,S',P,P',h=>by simp only[rdL,x1m3,x1m2]at h;rw[h.1,h.2];rfl
 |l::r,S,S',P,P',h=>by
  unfold rdL at h
  split at h
  .cases hl:x121 S P l.dropLast with
   |none=>rw[hl]at h;cases h
   |some q=>
    rw[hl]at h
    simp only at h
    have:=rdL_len r h
    have:=x1bg hl
    simp only[x1mf];omega
  .cases h
theorem x1eo:∀ps:List (List UInt8),(x13q ps).length<=ps.length
 |[]=>x1m8 _
 |[p]=>by unfold x13q;split<;>simp
 |p::q::r=>by
  unfold x13q
  have:=x1eo (q::r)
  simp only[x1mf]at this ⊢
  omega
theorem x1ep(s:List UInt8):(x12d s).length<=s.length+1:=by
 have:=x1eo (cutM 10 s)
 have:=x173 10 s
 unfold x12d
 omega
theorem x1eq:∀(ps:List (List UInt8)) (w:List UInt8),w∈x13q ps->∃p∈ps,w.length<=p.length+1
 |[],w,h=>by cases h
 |[p],w,h=>by
  unfold x13q at h
  split at h
  .cases h
  .simp at h;subst h;exact⟨w,by simp,by omega⟩
 |p::q::r,w,h=>by
  unfold x13q at h
  rcases x1ma.1 h with rfl|h
  .exact⟨p,by simp,by simp⟩
  .obtain⟨p',h1,h2⟩:=x1eq (q::r) w h
   exact⟨p',x1me _ h1,h2⟩
theorem x1hc(s w:List UInt8)(h:w∈x12d s):w.length<=s.length+1:=by
 obtain⟨p,h1,h2⟩:=x1eq _ w h
 have:=x17x 10 s p h1
 omega
theorem zz_err7:xil=[I 0]:=by kernel_rfl
theorem zz_int7:x11m=[I 0]:=by kernel_rfl
theorem x175:x11a xc []=some (.agg [nilS,nilS]):=by kernel_rfl
def sidP:Id:=(0,6,5)
structure PM (lid:Id) (n:Nat) (S:List Scene) (P:List Pq) (m:Mem):Prop where
 n2:m.get (0,0,2)=some (.row [nilS,nilS] 0 false)
 n3:m.get (0,1,3)=some (.row [I 0] 0 false)
 n4:m.get (0,2,4)=some (.row [I 0] 0 false)
 n6:m.get (0,7,6)=some (.row [I n] 0 false)
 sr:SR m sidP S P
 lp:m.get lid=some (.lp none)
 nx:2<=m.next
def PF(lid:Id)(n:Int)(m:Mem):Prop:=m.get lid=some (.lp (some .ret))/\m.get (0,0,2)=some (.row [nilS,nilS] 0 false)/\m.get (0,1,3)=some (.row [I n] 0 false)/\m.get (0,2,4)=some (.row [I 7] 0 false)
theorem h_line7(d:Nat)(u:Nat){lid:Id}(h0:lid.2.2=1)(h00:lid.1=0){w:List UInt8}(hw:w.length<=100000){n:Nat}(hn:n<=100000){S:List Scene}{P:List Pq}(hS:S.length<=100000)(hP:P.length<=100000){m:Mem}(h:PM lid n S P m) :
 ∃m2,x3z (x10p (d+7)) [] u lid (.ptr (0,0,2) 0 0) (.ptr (0,1,3) 0 0) (.ptr (0,2,4) 0 0) (.ptr (0,6,5) 0 0) (.ptr (0,7,6) 0 0) (Tx w) m 0=some m2 /\
  (if endL w=true then(match x121 S P w.dropLast with
   |some q=>PM lid (n+1) q.1 q.2 m2/\m2.get (1,0,1)=m.get (1,0,1)
   |none=>PF lid ((n+1:Nat):Int) m2)else PF lid ((n+1:Nat):Int) m2):=by
 obtain⟨n2,n3,n4,n6,sr,lp,nx⟩:=h
 have hlpn:sLpN lid m=some m:=by unfold sLpN lpB;rw[lp];rfl
 have hne:∀j:Id,j.2.2≠1->j≠lid:=λj hj e=>hj (by rw[e];exact h0)
 have w1:w64 ((n:Int)+1)=((n+1:Nat):Int):=by rw[x11k (by omega) (by omega)];omega
 have ld6:sLd false 1 (.ptr (0,7,6) 0 0) m=some (I n):=ldS n6 rfl
 obtain⟨m1,hm1⟩:∃m1:Mem,m1=m.set (0,7,6) (.row [I (n+1:Nat)] 0 false):=⟨_,rfl⟩
 have hst:∀{R:Type} (K:Mem->Option R),sSt 1 (.ptr (0,7,6) 0 0) (I (n+1:Nat)) m K=K m1:=λK=>by
  rw[x124 (z:=1) (x:=I (n+1:Nat)) n6 rfl (by simp) rfl,hm1];rfl
 have g1:∀j:Id,j≠(0,7,6)->m1.get j=m.get j:=λj hj=>by rw[hm1,Mem.get_set,x1m0 hj]
 have p2:m1.get (0,0,2)=some (.row [nilS,nilS] 0 false):=by rw[g1 _ (by decide)];exact n2
 have p3:m1.get (0,1,3)=some (.row [I 0] 0 false):=by rw[g1 _ (by decide)];exact n3
 have p4:m1.get (0,2,4)=some (.row [I 0] 0 false):=by rw[g1 _ (by decide)];exact n4
 have p6:m1.get (0,7,6)=some (.row [I (n+1:Nat)] 0 false):=by rw[hm1,Mem.get_set,x1m1 rfl]
 have pl:m1.get lid=some (.lp none):=by rw[g1 _ (hne _ (by decide)).symm];exact lp
 have sr1:SR m1 sidP S P:=sr.frame (g1 _ (by unfold sidP;decide)) λj hj=>g1 j (by rintro rfl;rcases hj with hj|hj<;>cases hj)
 have nx1:2<=m1.next:=by rw[hm1];exact nx
 have bad:∀m1:Mem,m1.get (0,0,2)=some (.row [nilS,nilS] 0 false)->m1.get (0,1,3)=some (.row [I 0] 0 false)->m1.get (0,2,4)=some (.row [I 0] 0 false)->m1.get (0,7,6)=some (.row [I (n+1:Nat)] 0 false)->m1.get lid=some (.lp none) ->
  ∃m2,(x11a xc []).bind (λt32=>(sLd false 1 (.ptr (0,7,6) 0 0) m1).bind λt33=>sSt 2 (.ptr (0,0,2) 0 0) t32 m1 λm_8=>sSt 1 (.ptr (0,1,3) 0 0) t33 m_8 λm_9=>sSt 1 (.ptr (0,2,4) 0 0) (I 7) m_9 λm_10=>
   bif(x10q (tR (.ptr (0,7,6) 0 0)) (tS (.ptr (0,0,2) 0 0))&&true)then sLpX lid .ret m_10 else none)=some m2/\PF lid ((n+1:Nat):Int) m2:=by
  intro m1 p2 p3 p4 p6 pl
  have ld7:sLd false 1 (.ptr (0,7,6) 0 0) m1=some (I (n+1:Nat)):=ldS p6 rfl
  simp only[x175,x10r,ld7]
  rw[x124 (z:=2) (x:=.agg [nilS,nilS]) p2 rfl (by simp) rfl]
  obtain⟨a1,ha1⟩:∃a1:Mem,a1=m1.set (0,0,2) (.row (x11e [nilS,nilS] 0 (AV.agg [nilS,nilS]).cells) 0 false):=⟨_,rfl⟩
  rw[<-ha1]
  have q3:a1.get (0,1,3)=some (.row [I 0] 0 false):=by rw[ha1,Mem.get_set,x1m0 (by decide)];exact p3
  rw[x124 (z:=1) (x:=I (n+1:Nat)) q3 rfl (by simp) rfl]
  obtain⟨a2,ha2⟩:∃a2:Mem,a2=a1.set (0,1,3) (.row (x11e [I 0] 0 (I (n+1:Nat)).cells) 0 false):=⟨_,rfl⟩
  rw[<-ha2]
  have q4:a2.get (0,2,4)=some (.row [I 0] 0 false):=by rw[ha2,Mem.get_set,x1m0 (by decide),ha1,Mem.get_set,x1m0 (by decide)];exact p4
  rw[x124 (z:=1) (x:=I 7) q4 rfl (by simp) rfl]
  obtain⟨a3,ha3⟩:∃a3:Mem,a3=a2.set (0,2,4) (.row (x11e [I 0] 0 (I 7).cells) 0 false):=⟨_,rfl⟩
  rw[<-ha3]
  have ql:a3.get lid=some (.lp none):=by rw[ha3,Mem.get_set,x1m0 (hne _ (by decide)).symm,ha2,Mem.get_set,x1m0 (hne _ (by decide)).symm,ha1,Mem.get_set,x1m0 (hne _ (by decide)).symm];exact pl
  have hlx:sLpX lid .ret a3=some (a3.set lid (.lp (some .ret))):=by unfold sLpX lpB;rw[ql];rfl
  refine⟨_,hlx,by rw[Mem.get_set,x1m1 rfl],?_,?_,?_⟩
  .rw[Mem.get_set,x1m0 (hne _ (by decide)),ha3,Mem.get_set,x1m0 (by decide),ha2,Mem.get_set,x1m0 (by decide),ha1,Mem.get_set,x1m1 rfl];rfl
  .rw[Mem.get_set,x1m0 (hne _ (by decide)),ha3,Mem.get_set,x1m0 (by decide),ha2,Mem.get_set,x1m1 rfl];rfl
  .rw[Mem.get_set,x1m0 (hne _ (by decide)),ha3,Mem.get_set,x1m1 rfl];rfl
 have hcs:=λm=>w_CutSuf (d+4) hw m
 unfold x3z xaj
 rw[show(AV.sc (.string ⟨#[10]⟩))=Tx [10]from rfl]
 simp only[hlpn,x10r,ld6,x12k,w1,hst,hcs,x144,x1nd,x1ne,x13n]
 cases he:endL w
 .simp only[x1md,x11p,x11y,x167,sW_f,x1mh,x11i,x10r,x11b,x119,x112,x1mp,x1mg]
  exact bad m1 p2 p3 p4 p6 pl
 .obtain⟨m2,k1,k2,k3,k4⟩:=c_read d [] (sid:=(0,6,5)) rfl hS hP (t:=w.dropLast) (by rw[List.length_dropLast];omega) (m:=m1) (by show 0<m1.next;omega) sr1
  have f2:∀j:Id,j.1<2->j≠(0,6,5)->j.2.2≠47->j.2.2≠69->m2.get j=m1.get j:=λj h1 h2 h3 h4=>k4 j (by omega) h2 h3 h4
  have r2:m2.get (0,0,2)=some (.row [nilS,nilS] 0 false):=by rw[f2 _ (by decide) (by decide) (by decide) (by decide)];exact p2
  have r3:m2.get (0,1,3)=some (.row [I 0] 0 false):=by rw[f2 _ (by decide) (by decide) (by decide) (by decide)];exact p3
  have r4:m2.get (0,2,4)=some (.row [I 0] 0 false):=by rw[f2 _ (by decide) (by decide) (by decide) (by decide)];exact p4
  have r6:m2.get (0,7,6)=some (.row [I (n+1:Nat)] 0 false):=by rw[f2 _ (by decide) (by decide) (by decide) (by decide)];exact p6
  have rl:m2.get lid=some (.lp none):=by rw[f2 _ (by rw[h00];decide) (hne _ (by decide)).symm (by rw[h0];decide) (by rw[h0];decide)];exact pl
  simp only[x1mh,x11p,x11y,x167,sW_f,x1md,x119,x10r,x1mo,k1,x13n,x11b,x11i]
  cases hl:x121 S P w.dropLast with
  |none=>
   simp only[x1ot,x1md,x112]
   exact bad m2 r2 r3 r4 r6 rl
  |some q=>
   simp only[Option.isSome_some,x1mh,x116]
   refine⟨m2,by unfold sLpN lpB;rw[rl];rfl,⟨r2,r3,r4,r6,k2 q hl,rl,by omega⟩,?_⟩
   rw[f2 _ (by decide) (by decide) (by decide) (by decide),g1 _ (by decide)]
end Go.Ix
