import Derived.Test.YtibmppgmjbpdmaaGreatDoorWg14
import Derived.Test.YtibmppgmjbpdmaaGreatDoorWg13
import Derived.Test.YtibmppgmjbpdmaaGreatDoorWg10
set_option linter.unusedSimpArgs false
set_option linter.unusedVariables false
set_option maxRecDepth 10000
namespace Go.Ix
open Go.Proofs
def cutV:List UInt8->List UInt8×List UInt8×Bool
 |[]=>([],[],false)
 |x::r=>if x=32 then([],r,true)else((x::(cutV r).1),(cutV r).2.1,(cutV r).2.2)
theorem x1e5:∀{l:List UInt8},(32:UInt8)∉l->cutV l=(l,[],false)
 |[],_=>rfl
 |x::r,h=>by
  unfold cutV
  rw[x1oz (λe=>h (by rw[e];exact x1pp)),x1e5 λe=>h (x1p7 _ e)]
theorem x1af:∀{l:List UInt8} (k:List UInt8),(32:UInt8)∉l->cutV (l++32::k)=(l,k,true)
 |[],k,_=>by
  show cutV (32::k)=_
  rw[cutV,x1p0 rfl]
 |x::r,k,h=>by
  rw[x1q4,cutV,x1oz (λe=>h (by rw[e];exact x1pp)),x1af k λe=>h (x1p7 _ e)]
theorem cutV_or(l:List UInt8):((32:UInt8)∉l/\cutV l=(l,[],false))\/∃a b,(32:UInt8)∉a/\l=a++32::b/\cutV l=(a,b,true):=by
 rcases x1b3 32 l with ⟨h1,h2⟩|⟨i,h1,h2,h3,h4⟩
 .exact .inl ⟨h2,x1e5 h2⟩
 .refine .inr ⟨l.take i,l.drop (i+1),h3,?_,?_⟩
  .rw[<-h4,x1ra]
  .conv=>lhs;rw[<-x1ra i l,h4]
   exact x1af _ h3
theorem x1c6(l:List UInt8):(cutV l).1.length<=l.length/\(cutV l).2.1.length<=l.length:=by
 rcases cutV_or l with ⟨h,e⟩|⟨a,b,h,e1,e⟩
 .rw[e];simp
 .rw[e,e1];simp;omega
theorem w_CutS(d:Nat)(l:List UInt8)(hl:l.length<=100000)(m:Mem):x14q (x14z (d+5)) xi [Tx l,Tx [32]] m=some (.tup [Tx (cutV l).1,Tx (cutV l).2.1,B (cutV l).2.2],m):=by
 have hI:∀m,x14q (x14z (d+3)) xz [Tx l,Tx [32]] m=some (I (Lib.indexByte l 32),m):=by
  intro m
  refine Ans.call0 (m:=m) ?_ rfl rfl
  unfold Ans
  rw[xip]
  unfold x4f x3l
  have hix:sIdx Tryz.prog x0 (Tx [32]) (I 0)=some (U8 (32:UInt8).toNat):=x_idx (k:=0) (l:=[32]) (by simp)
  have hl1:x157 (Tx [32])=some (I 1):=x16c [32]
  simp only[mem0,hl1,x14w,x1a8,x16l,x16m,show decide ((1:Int)=0)=false from rfl,sW_f,x1pa,x15p,x_eq,x15y,x15t]
  by_cases c1:[32]=l
  .subst c1
   have:Lib.indexByte [32] 32=0:=by simp[Lib.indexByte]
   rw[this]
   simp only[x1pb,x15f]
   exact⟨_,rfl⟩
  .simp only[c1,x1pc,x15k,show decide ((1:Int)=1)=true from rfl,x15f,hix,x14w,x1dy]
   exact⟨_,rfl⟩
 have h2:∀m,x14q (x14z (d+4)) x1t [Tx l,Tx [32]] m=some (.tup [Tx (cutV l).1,Tx (cutV l).2.1,B (cutV l).2.2],m):=by
  intro m
  refine Ans.call0_tup (m:=m) ?_ rfl rfl
  unfold Ans
  rw[xxt]
  unfold x8w x7s
  rw[show(AV.sc (.string ⟨#[]⟩))=Tx []from rfl]
  simp only[mem0,hI,x14w,sGe_I]
  rcases x1b3 32 l with ⟨h1,h2⟩|⟨i,h1,h2,h3,h4⟩
  .rw[h1,x1e5 h2]
   simp only[show decide ((0:Int)<=-1)=false from rfl,x15k]
   exact⟨_,rfl⟩
  .rw[h1]
   have hc:cutV l=(l.take i,l.drop (i+1),true):=by
    conv=>lhs;rw[<-x1ra i l,h4]
    exact x1af _ h3
   have hi:(0:Int)<=(i:Int):=by omega
   have hl1:x157 (Tx [32])=some (I 1):=x16c [32]
   have w2:w64 ((i:Int)+1)=((i+1:Nat):Int):=by rw[x16a (by omega) (by omega)];omega
   simp only[hi,x1pb,x15f,x_slh (show i<=l.length by omega),x14w,hl1,x17f,w2,x_slo (show i+1<=l.length by omega),hc]
   exact⟨_,rfl⟩
 refine Ans.call0_tup (m:=m) ?_ rfl rfl
 unfold Ans
 rw[xxm]
 unfold x8p x7h
 dsimp only
 simp only[h2,x14w,x1a9,x1qu,x1qo]
 exact⟨_,rfl⟩
def entX(p:List UInt8):Ent:=⟨(cutV (cutV p).2.1).1,(cutV (cutV p).2.1).2.1⟩
def okX(n:Nat)(p:List UInt8):Bool:=(cutV p).2.2&&(cutV (cutV p).2.1).2.2&&nmL (entX p).by_&&decide ((entX p).tx.length<=200)&&decide ((cutV p).1=decM (x15l n (entX p)))
theorem entX_br{p:List UInt8}(h:p.length<=1000):Br10 (entX p):=by
 have h1:=x1c6 p
 have h2:=x1c6 (cutV p).2.1
 exact⟨by show(cutV (cutV p).2.1).1.length<=1000;omega,by show(cutV (cutV p).2.1).2.1.length<=1000;omega⟩
abbrev StR:=Nat×List Ent×Nat
def x164(q:StR)(l:List UInt8):Option StR:=if endL l&&okX q.1 l.dropLast&&!decide (q.2.1.length=40)then some (x15l q.1 (entX l.dropLast),q.2.1++[entX l.dropLast],q.2.2+l.length)else none
def goR:StR->List (List UInt8)->StR
 |q,[]=>q
 |q,l::r=>match x164 q l with
  |some q'=>goR q' r
  |none=>q
def rdR:StR->List (List UInt8)->Option StR
 |q,[]=>some q
 |q,l::r=>match x164 q l with
  |some q'=>rdR q' r
  |none=>none
theorem x1e6:∀(pre:List (List UInt8)) {q q':StR} (post:List (List UInt8)),rdR q pre=some q'->goR q (pre++post)=goR q' post
 |[],q,q',post,h=>by cases h;rfl
 |l::r,q,q',post,h=>by
  unfold rdR at h
  rw[x1q4]
  conv=>lhs;unfold goR
  cases hs:x164 q l with
  |none=>rw[hs]at h;cases h
  |some q2=>
   rw[hs]at h
   exact x1e6 r post h
theorem x1ha:∀(pre:List (List UInt8)) {q q' q2:StR} {l:List UInt8},rdR q pre=some q'->x164 q' l=some q2->rdR q (pre++[l])=some q2
 |[],q,q',q2,l,h,h1=>by cases h;rw[x1s1];unfold rdR;rw[h1];rfl
 |a::r,q,q',q2,l,h,h1=>by
  unfold rdR at h
  rw[x1q4]
  unfold rdR
  cases hs:x164 q a with
  |none=>rw[hs]at h;cases h
  |some q3=>
   rw[hs]at h
   exact x1ha r h h1
theorem x1jb{q q':StR}{l:List UInt8}(h:x164 q l=some q'):endL l=true/\okX q.1 l.dropLast=true/\q.2.1.length≠40/\q'=(x15l q.1 (entX l.dropLast),q.2.1++[entX l.dropLast],q.2.2+l.length):=by
 unfold x164 at h
 split at h
 .rename_i hc
  simp only[x1p4,x1rv,decide_eq_false_iff_not]at hc
  exact⟨hc.1.1,hc.1.2,hc.2,(x1q9 h).symm⟩
 .cases h
structure RdI (q:StR) (k:Nat):Prop where
 n:q.1<998244353
 l:q.2.1.length=k
 t:q.2.2<=1001*k
theorem x1e7:∀(pre:List (List UInt8)) {q q':StR} {k:Nat},RdI q k->(∀l∈pre,l.length<=1001)->rdR q pre=some q'->RdI q' (k+pre.length)
 |[],q,q',k,h,_,e=>by cases e;exact h
 |l::r,q,q',k,h,hl,e=>by
  unfold rdR at e
  cases hs:x164 q l with
  |none=>rw[hs]at e;cases e
  |some q2=>
   rw[hs]at e
   obtain⟨-,-,-,rfl⟩:=x1jb hs
   have h1:=hl l (by simp)
   have:=x1e7 r (k:=k+1) ⟨x173 h.n _,by show(q.2.1++[entX l.dropLast]).length=k+1;rw[x1pn,h.l];rfl,by show q.2.2+l.length<=1001*(k+1);have:=h.t;omega⟩ (λx hx=>hl x (x1p7 _ hx)) e
   rw[x1ph,show k+(r.length+1)=k+1+r.length by omega]
   exact this
theorem ldSR{m:Mem}{id:Id}{x:AV}(h:m.get id=some (.row [x] 0 false))(hx:x.one=true):sLd false 1 (.ptr id 0 0) m=some x:=by
 simp[h,hx]
def okR:Id->Prop:=λid=>id.2.2=81
structure MR (lid:Id) (q:StR) (m:Mem):Prop where
 o:∃v,m.get (0,6,5)=some (.row [v] 0 false)/\Gk 2 Ent.c okR m v q.2.1
 s:m.get (0,7,6)=some (.row [I q.1] 0 false)
 t:m.get (0,8,7)=some (.row [I q.2.2] 0 false)
 nx:2<=m.next
theorem mk_ent{R:Type}(x:Ent)(id:Id)(m:Mem)(K:AV->Mem->Option R):x15c x8 [(0,2,.agg x.c)] 1 2 id m K=K (.slit x.c 1 true) m:=by
 rw[x1ae];rfl
theorem al_ent{R:Type}(id:Id)(m:Mem)(K:AV->Mem->Option R):x151 x8 id m K=K (.ptr id 0 0) (m.new id (.row [Tx [],Tx []] 0 false)):=by
 rw[x1ae];rfl
theorem bl_ent(a b:List UInt8):x152 x8 [(0,1,Tx a),(1,1,Tx b)]=some (.agg [Tx a,Tx b]):=by
 rw[x1ae];rfl
theorem elems_ent(objs:Id->Option Ob)(x:Ent):elems objs 2 (.slit x.c 1 true)=some (x.c,1):=rfl
theorem h_lineR(d:Nat)(u:Nat)(hu:1<=u){lid:Id}(h0:lid.2.2=1)(h00:lid.1=0){w:List UInt8}(hw:w.length<=1001){q:StR}{k:Nat}(hk:k<=70000)(hi:RdI q k){m:Mem}(h:MR lid q m)(hlp:m.get lid=some (.lp none)) :
 ∃m2,x3d (x14z (d+8)) [] u lid (.ptr (0,6,5) 0 0) (.ptr (0,7,6) 0 0) (.ptr (0,8,7) 0 0) (Tx w) m 0=some m2 /\
  (match x164 q w with
   |some q'=>MR lid q' m2/\m2.get lid=some (.lp none)/\m2.get (1,0,1)=m.get (1,0,1)
   |none=>MR lid q m2/\m2.get lid=some (.lp (some (.exit 0)))):=by
 obtain⟨⟨v,ho,hG⟩,hs,ht,nx⟩:=h
 obtain⟨hn,hl,htk⟩:=hi
 have hlpn:sLpN lid m=some m:=by unfold sLpN lpB;rw[hlp];rfl
 have hne:∀j:Id,j.2.2≠1->j≠lid:=λj hj e=>hj (by rw[e];exact h0)
 have hcs:=λm=>w_CutSuf (d+5) (l:=w) (by omega) m
 obtain⟨p,hp⟩:∃p,p=if endL w=true then w.dropLast else w:=⟨_,rfl⟩
 have hpl:p.length<=1001:=by
  rw[hp]
  split
  .rw[List.length_dropLast];omega
  .exact hw
 simp only[<-hp]at hcs
 have hc1:=λm=>w_CutS (d+3) p (by omega) m
 have hcl:=x1c6 p
 have hcl2:=x1c6 (cutV p).2.1
 have hc2:=λm=>w_CutS (d+3) (cutV p).2.1 (by omega) m
 have hsh:Sh10 (entX p):=⟨by show(cutV (cutV p).2.1).1.length<=60005;omega,by show(cutV (cutV p).2.1).2.1.length<=60005;omega⟩
 have hsd:=λm=>x1h5 (d+7) hn hsh m
 have hlt:=x173 hn (entX p)
 have hit:=λm=>w_Itoa (d+7) (n:=(x15l q.1 (entX p):Nat)) (by omega) (by omega) m
 obtain⟨m1,hm1⟩:∃m1:Mem,m1=m.new (u,29,16) (.row [Tx [],Tx []] 0 false):=⟨_,rfl⟩
 have g1:m1.get (u,29,16)=some (.row [Tx [],Tx []] 0 false):=by rw[hm1,Mem.get_new,x1p0 rfl]
 obtain⟨m2,hm2⟩:∃m2:Mem,m2=m1.set (u,29,16) (.row (x15h [Tx [],Tx []] 0 (AV.agg (entX p).c).cells) 0 false):=⟨_,rfl⟩
 have g2:m2.get (u,29,16)=some (.row (entX p).c 0 false):=by rw[hm2,Mem.get_set,x1p0 rfl];rfl
 have f2:∀j:Id,j≠(u,29,16)->m2.get j=m.get j:=λj hj=>by rw[hm2,Mem.get_set,x1oz hj,hm1,Mem.get_new,x1oz hj]
 have ho2:m2.get (0,6,5)=some (.row [v] 0 false):=by rw[f2 _ (by simp)];exact ho
 have hs2:m2.get (0,7,6)=some (.row [I q.1] 0 false):=by rw[f2 _ (by simp)];exact hs
 have ht2:m2.get (0,8,7)=some (.row [I q.2.2] 0 false):=by rw[f2 _ (by simp)];exact ht
 have hl2:m2.get lid=some (.lp none):=by rw[f2 _ (hne _ (by simp)).symm];exact hlp
 have hb2:m2.get (1,0,1)=m.get (1,0,1):=f2 _ (by simp)
 have hG2:Gk 2 Ent.c okR m2 v q.2.1:=hG.frame λj hj=>f2 j (by rintro rfl;cases hj)
 have hn2:m2.next=m.next:=by rw[hm2,hm1];rfl
 have lo:sLd false 1 (.ptr (0,6,5) 0 0) m2=some v:=ldSR ho2 hG.one.2
 have ls:sLd false 1 (.ptr (0,7,6) 0 0) m2=some (I q.1):=ldSR hs2 rfl
 have lt:sLd false 1 (.ptr (0,8,7) 0 0) m2=some (I q.2.2):=ldSR ht2 rfl
 have lx:sLd true 2 (.ptr (u,29,16) 0 0) m2=some (.agg (entX p).c):=by rw[x195 g2];rfl
 have hlen:sLen Tryz.prog x5 v=some (I q.2.1.length):=by
  rcases hG2 with ⟨h1,h2⟩|⟨id,ver,_,h1,_⟩
  .rw[h1,h2];exact x1c0 x16u
  .rw[h1];rfl
 have bad:x164 q w=none->∃m2',sLpX lid (.exit 0) m2=some m2'/\(match x164 q w with
  |some q'=>MR lid q' m2'/\m2'.get lid=some (.lp none)/\m2'.get (1,0,1)=m.get (1,0,1)
  |none=>MR lid q m2'/\m2'.get lid=some (.lp (some (.exit 0)))):=λhst=>by
  rw[hst]
  refine⟨m2.set lid (.lp (some (.exit 0))),by unfold sLpX lpB;rw[hl2];rfl,⟨⟨v,by rw[Mem.get_set,x1oz (hne _ (by simp))];exact ho2,hG2.frame λj hj=>by rw[Mem.get_set,x1oz (hne _ (by rw[hj];decide))]⟩,by rw[Mem.get_set,x1oz (hne _ (by simp))];exact hs2,by rw[Mem.get_set,x1oz (hne _ (by simp))];exact ht2,by show 2<=m2.next;omega⟩,by rw[Mem.get_set,x1p0 rfl]⟩
 unfold x3d x99
 rw[show(AV.sc (.string ⟨#[10]⟩))=Tx [10]from rfl,show(AV.sc (.string ⟨#[32]⟩))=Tx [32]from rfl]
 simp only[hlpn,x14w,hcs,x1a9,x1qu,x1qo,hc1,hc2,bl_ent,al_ent,Nat.reduceAdd]
 rw[<-hm1,show(AV.agg [Tx (cutV (cutV p).2.1).1,Tx (cutV (cutV p).2.1).2.1])=AV.agg (entX p).c from rfl,x180 (z:=2) (x:=.agg (entX p).c) g1 rfl (by simp) rfl,<-hm2]
 simp only[ls,lx,x14w,hsd,x16k]
 have hst0:endL w=false->x164 q w=none:=λe=>by unfold x164;rw[e];rfl
 cases he:endL w with
 |false=>
  simp only[x1pa,x16l,x16m,x17n,sW_f,x1pe,x15t,x14w,x15y,x15p,x15f]
  exact bad (hst0 he)
 |true=>
  have hpe:p=w.dropLast:=by rw[hp,x1p0 he]
  have hstep:x164 q w=if okX q.1 p&&!decide (q.2.1.length=40)then some (x15l q.1 (entX p),q.2.1++[entX p],q.2.2+w.length)else none:=by
   unfold x164;rw[he,<-hpe,x1q0]
  have hbad:okX q.1 p=false->x164 q w=none:=λe=>by rw[hstep,e];rfl
  have hnm:(entX p).by_.length<=1000->∀m,x14q (x14z (d+8)) xk [Tx (cutV (cutV p).2.1).1] m=some (B (nmL (entX p).by_),m):=λhb m=>w_nmL (d+7) hb m
  have hnl:=entX_br (p:=p) (by rw[hpe,List.length_dropLast];omega)
  have hnm:=hnm hnl.1
  cases o1:(cutV p).2.2 with
  |false=>
   simp only[x1pe,x1pa,x16l,x16m,x17n,sW_f,x15t,x14w,x15y,x15p,x15f,x16k]
   exact bad (hbad (by unfold okX;rw[o1];rfl))
  |true=>
   cases o2:(cutV (cutV p).2.1).2.2 with
   |false=>
    simp only[x1pe,x1pa,x16l,x16m,x17n,sW_f,x15t,x14w,x15y,x15p,x15f,x16k]
    exact bad (hbad (by unfold okX;rw[o1,o2];rfl))
   |true=>
    cases o3:nmL (entX p).by_ with
    |false=>
     simp only[x1pe,x1pa,x16l,x16m,x17n,sW_f,x15t,x14w,x15y,x15p,x15f,x16k,hnm,o3]
     exact bad (hbad (by unfold okX;rw[o1,o2,o3];rfl))
    |true=>
     by_cases c4:(entX p).tx.length<=200
     .have c4':¬(200:Int)<((cutV (cutV p).2.1).2.1.length:Int):=by
       have:(cutV (cutV p).2.1).2.1.length<=200:=c4
       omega
      by_cases c5:(cutV p).1=decM (x15l q.1 (entX p))
      .have hok:okX q.1 p=true:=by unfold okX;rw[o1,o2,o3,x1pm c4,x1pm c5];rfl
       by_cases c6:q.2.1.length=40
       .have c6':((q.2.1.length:Int)=40):=by omega
        simp only[x1pe,x1pa,x16l,x16m,x17n,sW_f,x15t,x14w,x15y,x15p,x15f,x16k,hnm,o3,x16c,x17g,c4',x1pc,hit,x_ne,c5,x1pb,lo,hlen,x1a8,c6']
        exact bad (by rw[hstep,hok,x1pm c6];rfl)
       .have c6':¬((q.2.1.length:Int)=40):=by omega
        have hst:x164 q w=some (x15l q.1 (entX p),q.2.1++[entX p],q.2.2+w.length):=by rw[hstep,hok,x1q2 c6];rfl
        obtain⟨v',m5,A5,G5,p1,p2,n5,f5⟩:=Gk.app (ok:=okR) (l:=q.2.1) (bytes:=32) (id0:=(u,69,81)) Ent.len (by omega) rfl (by unfold x15e;omega) hG2 (entX p)
        have ho5:m5.get (0,6,5)=some (.row [v] 0 false):=by rw[f5 _ (by unfold okR;simp)];exact ho2
        have hs5:m5.get (0,7,6)=some (.row [I q.1] 0 false):=by rw[f5 _ (by unfold okR;simp)];exact hs2
        have ht5:m5.get (0,8,7)=some (.row [I q.2.2] 0 false):=by rw[f5 _ (by unfold okR;simp)];exact ht2
        have lt5:sLd false 1 (.ptr (0,8,7) 0 0) m5=some (I q.2.2):=ldSR ht5 rfl
        have w1:w64 ((q.2.2:Int)+(w.length:Int))=((q.2.2+w.length:Nat):Int):=by rw[x16a (by omega) (by omega)];omega
        obtain⟨m6,hm6⟩:∃m6:Mem,m6=m5.set (0,6,5) (.row [v'] 0 false):=⟨_,rfl⟩
        obtain⟨m7,hm7⟩:∃m7:Mem,m7=m6.set (0,7,6) (.row [I (x15l q.1 (entX p))] 0 false):=⟨_,rfl⟩
        obtain⟨m8,hm8⟩:∃m8:Mem,m8=m7.set (0,8,7) (.row [I (q.2.2+w.length:Nat)] 0 false):=⟨_,rfl⟩
        have s6:∀{R:Type} (K:Mem->Option R),sSt 1 (.ptr (0,6,5) 0 0) v' m5 K=K m6:=λK=>by
         rw[x180 (z:=1) (x:=v') ho5 (by rw[p1];rfl) (by simp) (by rw[p1];simp[p2]),p1,hm6];rfl
        have s7:∀{R:Type} (K:Mem->Option R),sSt 1 (.ptr (0,7,6) 0 0) (I (x15l q.1 (entX p))) m6 K=K m7:=λK=>by
         rw[x180 (z:=1) (x:=I (x15l q.1 (entX p))) (m:=m6) (by rw[hm6,Mem.get_set,x1oz (by simp)];exact hs5) rfl (by simp) rfl,hm7];rfl
        have s8:∀{R:Type} (K:Mem->Option R),sSt 1 (.ptr (0,8,7) 0 0) (I (q.2.2+w.length:Nat)) m7 K=K m8:=λK=>by
         rw[x180 (z:=1) (x:=I (q.2.2+w.length:Nat)) (m:=m7) (by rw[hm7,Mem.get_set,x1oz (by simp),hm6,Mem.get_set,x1oz (by simp)];exact ht5) rfl (by simp) rfl,hm8];rfl
        have f8:∀j:Id,j≠(0,6,5)->j≠(0,7,6)->j≠(0,8,7)->m8.get j=m5.get j:=λj a b c=>by rw[hm8,Mem.get_set,x1oz c,hm7,Mem.get_set,x1oz b,hm6,Mem.get_set,x1oz a]
        have hl8:m8.get lid=some (.lp none):=by rw[f8 _ (hne _ (by simp)).symm (hne _ (by simp)).symm (hne _ (by simp)).symm,f5 _ (by unfold okR;rw[h0];decide)];exact hl2
        have ap1:x153 (tR (.ptr (0,6,5) 0 0)) (some [],some [(u,68,80)])=true:=by simp[tR,x153,disj]
        have ap2:x153 (some [],some [(u,68,80)]) (tR (.ptr (0,8,7) 0 0))=true:=by simp[tR,x153,disj]
        have ap3:x153 (tX (.slit (entX p).c 1 true),tA (u,69,81) v) (tR (.ptr (0,8,7) 0 0))=true:=by
         rcases hG2 with ⟨rfl,_⟩|⟨id,ver,hid,rfl,_⟩
         .simp[tX,tA,tR,x153,disj]
         .have:((0,8,7):Id)≠id:=by rintro rfl;cases hid
          simp[tX,tA,tR,x153,disj,this,Ne.symm this]
        have ap4:x153 (tR (.ptr (0,8,7) 0 0)) (tS (.ptr (0,6,5) 0 0))=true:=by simp[tR,tS,x153,disj]
        have ap5:x153 (tR (.ptr (0,8,7) 0 0)) (tS (.ptr (0,7,6) 0 0))=true:=by simp[tR,tS,x153,disj]
        rw[hst]
        simp only[x1pe,x1pa,x16l,x16m,x17n,sW_f,x15t,x14w,x15y,x15p,x15k,x16k,hnm,o3,x16c,x17g,c4',x1pc,hit,x_ne,c5,x1pb,lo,hlen,x1a8,c6',lx]
        simp only[mk_ent,elems_ent,A5,lt5,x14w,x17f,w1,s6,s7,s8,ap1,ap2,ap3,ap4,ap5,x1s5,x15p]
        refine⟨m8,by unfold sLpN lpB;rw[hl8];rfl,⟨⟨v',by rw[hm8,Mem.get_set,x1oz (by simp),hm7,Mem.get_set,x1oz (by simp),hm6,Mem.get_set,x1p0 rfl],G5.frame λj hj=>f8 j (by rintro rfl;cases hj) (by rintro rfl;cases hj) (by rintro rfl;cases hj)⟩,by rw[hm8,Mem.get_set,x1oz (by simp),hm7,Mem.get_set,x1p0 rfl],by rw[hm8,Mem.get_set,x1p0 rfl],by rw[hm8,hm7,hm6];show 2<=m5.next;omega⟩,hl8,?_⟩
        rw[f8 _ (by simp) (by simp) (by simp),f5 _ (by unfold okR;simp)];exact hb2
      .simp only[x1pe,x1pa,x16l,x16m,x17n,sW_f,x15t,x14w,x15y,x15p,x15f,x16k,hnm,o3,x16c,x17g,c4',x1pc,hit,x_ne,c5,x1pb]
       exact bad (hbad (by unfold okX;rw[o1,o2,o3,x1pm c4,x1q2 c5];rfl))
     .have c4':(200:Int)<((cutV (cutV p).2.1).2.1.length:Int):=by
       have:¬(cutV (cutV p).2.1).2.1.length<=200:=c4
       omega
      simp only[x1pe,x1pa,x16l,x16m,x17n,sW_f,x15t,x14w,x15y,x15p,x15f,x16k,hnm,o3,x16c,x17g,c4',x1pb]
      exact bad (hbad (by unfold okX;rw[o1,o2,o3,x1q2 c4];rfl))
theorem x1e8:∀(K u k:Nat),u<10 ^ k->1<=k->(digF K u).length<=k
 |0,u,k,_,_=>by simp[digF]
 |K+1,u,k,h,hk=>by
  unfold digF
  split
  .simp;omega
  .rename_i c
   obtain⟨k,rfl⟩:∃q,k=q+1:=⟨k-1,by omega⟩
   have h2:u / 10<10 ^ k:=by rw[Nat.pow_succ]at h;omega
   have hk1:1<=k:=by
    rcases Nat.eq_zero_or_pos k with rfl|h3
    .simp at h;omega
    .exact h3
   have:=x1e8 K (u / 10) k h2 hk1
   simp;omega
theorem nbr_in{n:Int}{d:Nat}(hd:1<=d)(hi:-9223372036854775808<=n/\n<=9223372036854775807)(h:n.natAbs<10 ^ d):nbrM (decM n) d=some n:=by
 rw[nbrM_decM hi.1 hi.2,x1p0]
 unfold unsg decM
 by_cases c:n<0
 .rw[x1p0 c]
  have:=x1e8 20 n.natAbs d h hd
  simpa using this
 .rw[x1oz c]
  have:=x1e8 20 n.toNat d (by rw[show n.toNat=n.natAbs by omega];exact h) hd
  split
  .simp;omega
  .exact this
def q0R:StR:=(1,[],0)
def RecR(q:StR)(n:Nat)(v:AV):Prop:=∃a,v=.tup [a,I ((n:Int)-(q.2.2:Int)),I 0]/\Sl Ent.c a q.2.1
theorem x1jc(s:List UInt8):(x15w s).length<=s.length+1:=by
 have key:∀ps:List (List UInt8),(x18k ps).length<=ps.length:=by
  intro ps
  induction ps with
  |nil=>exact x1p6 _
  |cons p r ih=>
   cases r with
   |nil=>unfold x18k;split<;>simp
   |cons q r=>unfold x18k;simp only[x1ph]at ih ⊢;omega
 have:=key (cutM 10 s)
 have:=x1gz 10 s
 unfold x15w
 omega
theorem frz_tR3{objs:Id->Option Ob}{a a' n e:AV}(ha:Go.Ix.frz objs 5 a=some a')(hn:still n=true)(he:still e=true):Go.Ix.frz objs deep (.tup [a,n,e])=some (.tup [a',n,e]):=by
 have h2:Go.Ix.frz objs 5 n=some n:=x194 objs 3 hn
 have h3:Go.Ix.frz objs 5 e=some e:=x194 objs 3 he
 show([a,n,e].mapM (Go.Ix.frz objs 5)).map AV.tup=_
 simp only[x1qr,List.mapM_nil,ha,h2,h3]
 rfl
theorem fin_Rec(call:x14p)(hs:FHs)(u:Nat){t:List UInt8}(ht:t.length<=100000){lid:Id}{q:StR}(hq:q.2.2<=100000000){m:Mem}(h:MR lid q m)(fc:Nat):RetF (RecR q t.length) (x3c call hs u (Tx t) (.ptr (0,6,5) 0 0) (.ptr (0,8,7) 0 0) m fc):=by
 obtain⟨⟨v,ho,hG⟩,hs,htt,nx⟩:=h
 have lo:sLd false 1 (.ptr (0,6,5) 0 0) m=some v:=ldSR ho hG.one.2
 have lt:sLd false 1 (.ptr (0,8,7) 0 0) m=some (I q.2.2):=ldSR htt rfl
 have w1:w64 ((t.length:Int)-(q.2.2:Int))=(t.length:Int)-(q.2.2:Int):=x16a (by omega) (by omega)
 unfold x3c
 simp only[lo,lt,x16c,x14w,sSub_I,w1]
 obtain⟨a',h1,h2⟩:=hG.frz (k:=3) Ent.len Ent.stl
 exact RetF.mk (frz_tR3 h2 rfl rfl) ⟨a',rfl,h1⟩
theorem zz_intR:x16n=[I 0]:=by kernel_rfl
theorem z_entsR:xiq=[nilS]:=by kernel_rfl
theorem a_Recover(d:Nat){t:List UInt8}(ht:t.length<=60000)(hw:∀w∈x15w t,w.length<=1001):RetF (RecR (goR q0R (x15w t)) t.length) (x14z (d+9) [] xp [Tx t] mem0):=by
 rw[xxe]
 unfold x8i x77
 have c':¬(60000:Int)<(t.length:Int):=by omega
 obtain⟨m1,hm1⟩:∃m1:Mem,m1=(((⟨[],1⟩:Mem).new (0,6,5) (.row [nilS] 0 false)).new (0,7,6) (.row [I 0] 0 false)).new (0,8,7) (.row [I 0] 0 false):=⟨_,rfl⟩
 have g6:m1.get (0,7,6)=some (.row [I 0] 0 false):=by rw[hm1];simp
 have g7:m1.get (0,8,7)=some (.row [I 0] 0 false):=by rw[hm1];simp
 have g5:m1.get (0,6,5)=some (.row [nilS] 0 false):=by rw[hm1];simp
 have hn1:m1.next=1:=by rw[hm1];rfl
 dsimp only
 simp only[mem0,x16c,x14w,x17g,c',x1pc,x15k,x1ds,zz_intR,z_entsR,x1q5]
 rw[<-hm1,x180 (z:=1) (x:=I 1) g6 rfl (by simp) rfl]
 obtain⟨m2,hm2⟩:∃m2:Mem,m2=m1.set (0,7,6) (.row (x15h [I 0] 0 (I 1).cells) 0 false):=⟨_,rfl⟩
 rw[<-hm2,x180 (z:=1) (x:=I 0) (m:=m2) (by rw[hm2,Mem.get_set,x1oz (by simp)];exact g7) rfl (by simp) rfl]
 obtain⟨m3,hm3⟩:∃m3:Mem,m3=m2.set (0,8,7) (.row (x15h [I 0] 0 (I 0).cells) 0 false):=⟨_,rfl⟩
 rw[<-hm3]
 have hn3:m3.next=1:=by rw[hm3,hm2];exact hn1
 have k5:m3.get (0,6,5)=some (.row [nilS] 0 false):=by rw[hm3,Mem.get_set,x1oz (by simp),hm2,Mem.get_set,x1oz (by simp)];exact g5
 have k6:m3.get (0,7,6)=some (.row [I 1] 0 false):=by rw[hm3,Mem.get_set,x1oz (by simp),hm2,Mem.get_set,x1p0 rfl];rfl
 have k7:m3.get (0,8,7)=some (.row [I 0] 0 false):=by rw[hm3,Mem.get_set,x1p0 rfl];rfl
 unfold x9b
 obtain⟨M,hL,b1,hn4,fr⟩:=w_Lines (d+7) t m3
 rw[hn3]at b1 hn4 hL fr
 simp only[hL,x14w]
 unfold x9a
 simp only[sRng]
 generalize hlid:((0,11+2,1):Id)=lid
 have hl1:lid.2.2=1:=by rw[<-hlid]
 have hl0:lid.1=0:=by rw[<-hlid]
 generalize hH:(λ(args:List AV) (m:Mem)=>bif Nat.beq args.length 1&&true then x3d (x14z (d+8)) [] m.next lid (.ptr (0,6,5) 0 0) (.ptr (0,7,6) 0 0) (.ptr (0,8,7) 0 0) (args.getD 0 U) ⟨m.hp,m.next+1⟩ 0 else none)=H
 generalize hm4:M.new lid (.lp none)=m4
 have hne:∀j:Id,j.2.2≠1->j≠lid:=λj hj e=>hj (by rw[e];exact hl1)
 have hne1:((1,0,1):Id)≠lid:=λe=>by rw[<-e]at hl0;cases hl0
 have c1:m4.get (1,0,1)=some (.row [Tx t] 0 false):=by rw[<-hm4,Mem.get_new,x1oz hne1];exact b1
 have old:∀j:Id,j.1=0->j.2.2≠1->m4.get j=m3.get j:=λj h1 h2=>by rw[<-hm4,Mem.get_new,x1oz (hne j h2),fr j (by rw[h1];decide)]
 have hlp4:m4.get lid=some (.lp none):=by rw[<-hm4,Mem.get_new,x1p0 rfl]
 have hP4:MR lid q0R ⟨m4.hp,m4.next+1⟩:=by
  refine⟨⟨nilS,?_,Gk.nil⟩,?_,?_,by rw[<-hm4];show 2<=M.next+1;omega⟩
  .show m4.get _=_;rw[old _ rfl (by decide)];exact k5
  .show m4.get _=_;rw[old _ rfl (by decide)];exact k6
  .show m4.get _=_;rw[old _ rfl (by decide)];exact k7
 have hll:=x1jc t
 have hi0:RdI q0R 0:=⟨by decide,rfl,x1qx _⟩
 obtain⟨m5,hc,hI⟩:=c_lines (d+4) (hh:=[(lid,H)]) (id:=lid) (h:=H) (s:=t) (by omega) (by simp[x17t]) (i2:=(1,0,1)) (m0:=m4) c1
  (λpre m=>∃q,rdR q0R pre=some q/\MR lid q m/\m.get lid=some (.lp none)) (λm=>∃q,goR q0R (x15w t)=q/\q.2.2<=100000000/\MR lid q m/\m.get lid=some (.lp (some (.exit 0))))
  (λpre m l ⟨q,h1,h2,h3⟩=>⟨q,h1,⟨by obtain⟨v,hv,hG⟩:=h2.o;exact⟨v,by rw[Mem.get_set,x1oz (by decide)];exact hv,hG.frame λj hj=>by rw[Mem.get_set,x1oz (by rintro rfl;cases hj)]⟩,by rw[Mem.get_set,x1oz (by decide)];exact h2.s,by rw[Mem.get_set,x1oz (by decide)];exact h2.t,h2.nx⟩,by rw[Mem.get_set,x1oz hne1.symm];exact h3⟩)
  (λpre w post m hcut ⟨q,h1,h2,h3⟩=>by
   have hwl:w.length<=1001:=hw w (by rw[hcut];simp)
   have hpl:pre.length<=60001:=by
    rw[hcut]at hll
    simp at hll
    omega
   have hri:=x1e7 pre hi0 (λl hl=>hw l (by rw[hcut];exact x1qv _ hl)) h1
   rw[x1q5]at hri
   obtain⟨m6,q1,q2⟩:=h_lineR d m.next (by have:=h2.nx;omega) hl1 hl0 hwl (by omega) hri (m:=⟨m.hp,m.next+1⟩) ⟨h2.o,h2.s,h2.t,by have:=h2.nx;show 2<=m.next+1;omega⟩ h3
   rw[<-hH]
   refine⟨m6,q1,?_⟩
   have hgo:=x1e6 pre (w::post) h1
   rw[<-hcut]at hgo
   cases hst:x164 q w with
   |none=>
    rw[hst]at q2
    refine .inr ⟨by unfold live;rw[hl1,q2.2];rfl,q,?_,by have:=hri.t;omega,q2⟩
    rw[hgo]
    unfold goR
    rw[hst]
   |some q'=>
    rw[hst]at q2
    exact .inl ⟨by unfold live;rw[hl1,q2.2.1];rfl,⟨q',x1ha pre h1 hst,q2.1,q2.2.1⟩,q2.2.2⟩)
  ⟨q0R,rfl,hP4,hlp4⟩
 have hc':x14z (d+8) [(lid,H)] xq (AV.yld lid::[AV.ptr (1,0,1) 0 0]) m4=some (.tup [],m5):=hc
 rw[hc']
 simp only[x14w]
 unfold sLp
 rcases hI with ⟨q,hr,hP,hlp⟩|⟨q,hgo,hb,hP,hlp⟩
 .rw[hlp]
  simp only
  have hgo:=x1e6 (x15w t) [] hr
  rw[x1qy]at hgo
  have hri:=x1e7 (x15w t) hi0 hw hr
  rw[show goR q0R (x15w t)=q from hgo]
  exact fin_Rec _ _ _ (by omega) (by have:=hri.t;omega) hP _
 .rw[hlp]
  simp only[show Nat.beq 0 0=true from rfl,x15p]
  rw[hgo]
  exact fin_Rec _ _ _ (by omega) hb hP _
theorem x1jd(s w:List UInt8)(K:Nat)(h:∀p∈cutM 10 s,p.length<=K)(hw:w∈x15w s):w.length<=K+1:=by
 have key:∀(ps:List (List UInt8)),(∀p∈ps,p.length<=K)->∀w∈x18k ps,w.length<=K+1:=by
  intro ps
  induction ps with
  |nil=>intro _ w h;cases h
  |cons p r ih=>
   intro hp w hw
   cases r with
   |nil=>
    unfold x18k at hw
    split at hw
    .cases hw
    .simp at hw;subst hw;have:=hp w (by simp);omega
   |cons q r=>
    unfold x18k at hw
    rcases x1pd.1 hw with rfl|hw
    .have:=hp p (by simp);simp;omega
    .exact ih (λx hx=>hp x (x1p7 _ hx)) w hw
 exact key _ h w hw
def recM(t:List UInt8):StR:=goR q0R (x15w t)
theorem x1e9(d:Nat){t:List UInt8}(ht:t.length<=60000)(hp:∀p∈cutM 10 t,p.length<=1000):∃a,Sl Ent.c a (recM t).2.1/\∀m,x14q (x14z (d+9)) xp [Tx t] m=some (.tup [a,I ((t.length:Int)-((recM t).2.2:Int)),I 0],m):=by
 obtain⟨x,m',x',h1,h2,a,rfl,h3⟩:=a_Recover d ht λw hw=>x1jd t w 1000 hp hw
 exact⟨a,h3,λm=>x1gl rfl h1 h2⟩
end Go.Ix
