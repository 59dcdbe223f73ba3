import Derived.Test.YtibmppgmjbpdmaaGreatDoorWg11
import Derived.Test.YtibmppgmjbpdmaaGreatDoorWg16
set_option linter.unusedSimpArgs false
set_option linter.unusedVariables false
namespace Go.Ix
open Go.Proofs
theorem x1gm:∀(K u k:Nat),u<10 ^ k->1<=k->(digF K u).length<=k
 |0,u,k,_,_=>by simp[digF]
 |K+1,u,k,h,hk=>by
  unfold digF
  split
  .simp;omega
  .rename_i c
   obtain⟨k,rfl⟩:∃q,k=q+1:=⟨k-1,by omega⟩
   have h2:u / 10<10 ^ k:=by rw[Nat.pow_succ]at h;omega
   have hk1:1<=k:=by
    rcases Nat.eq_zero_or_pos k with rfl|h3
    .simp at h;omega
    .exact h3
   have:=x1gm K (u / 10) k h2 hk1
   simp;omega
theorem nbr_in{n:Int}{d:Nat}(hd:1<=d)(hi:-9223372036854775808<=n/\n<=9223372036854775807)(h:n.natAbs<10 ^ d):nbrM (decM n) d=some n:=by
 rw[nbrM_decM hi.1 hi.2,x1rq]
 unfold unsg decM
 by_cases c:n<0
 .rw[x1rq c]
  have:=x1gm 20 n.natAbs d h hd
  simpa using this
 .rw[x1rr c]
  have:=x1gm 20 n.toNat d (by rw[show n.toNat=n.natAbs by omega];exact h) hd
  split
  .simp;omega
  .exact this
end Go.Ix
set_option maxRecDepth 10000
namespace Go.Ix
open Go.Proofs
def q0R:StR:=(1,[],0)
def RecR(q:StR)(n:Nat)(v:AV):Prop:=∃a,v=.tup [a,I ((n:Int)-(q.2.2:Int)),I 0]/\Sl Ent.c a q.2.1
def RecR2(q:StR)(n:Nat)(v:AV):Prop:=∃a,v=.tup [a,I ((n:Int)-(q.2.2:Int))]/\Sl Ent.c a q.2.1
theorem x1lv(s:List UInt8):(x18c s).length<=s.length+1:=by
 have key:∀ps:List (List UInt8),(x19n ps).length<=ps.length:=by
  intro ps
  induction ps with
  |nil=>exact x1rz _
  |cons p r ih=>
   cases r with
   |nil=>unfold x19n;split<;>simp
   |cons q r=>unfold x19n;simp only[x1s5]at ih ⊢;omega
 have:=key (cutM 10 s)
 have:=x1gb 10 s
 unfold x18c
 omega
theorem frz_tR3{objs:Id->Option Ob}{a a' n e:AV}(ha:Go.Ix.frz objs 5 a=some a')(hn:still n=true)(he:still e=true):Go.Ix.frz objs deep (.tup [a,n,e])=some (.tup [a',n,e]):=by
 have h2:Go.Ix.frz objs 5 n=some n:=x1ar objs 3 hn
 have h3:Go.Ix.frz objs 5 e=some e:=x1ar objs 3 he
 show([a,n,e].mapM (Go.Ix.frz objs 5)).map AV.tup=_
 simp only[x1td,List.mapM_nil,ha,h2,h3]
 rfl
theorem frz_tR2{objs:Id->Option Ob}{a a' n:AV}(ha:Go.Ix.frz objs 5 a=some a')(hn:still n=true):Go.Ix.frz objs deep (.tup [a,n])=some (.tup [a',n]):=by
 have h2:Go.Ix.frz objs 5 n=some n:=x1ar objs 3 hn
 show([a,n].mapM (Go.Ix.frz objs 5)).map AV.tup=_
 simp only[x1td,List.mapM_nil,ha,h2]
 rfl
theorem fin_Rec(call:x16u)(hs:FHs)(u:Nat){t:List UInt8}(ht:t.length<=100000){lid:Id}{q:StR}(hq:q.2.2<=100000000){m:Mem}(h:MR lid q m)(fc:Nat):RetF (RecR q t.length) (x3w call hs u (Tx t) (.ptr (0,6,5) 0 0) (.ptr (0,8,7) 0 0) m fc):=by
 obtain⟨⟨v,ho,hG⟩,hs,htt,nx⟩:=h
 have lo:sLd false 1 (.ptr (0,6,5) 0 0) m=some v:=ldSR ho hG.one.2
 have lt:sLd false 1 (.ptr (0,8,7) 0 0) m=some (I q.2.2):=ldSR htt rfl
 have w1:w64 ((t.length:Int)-(q.2.2:Int))=(t.length:Int)-(q.2.2:Int):=x17s (by omega) (by omega)
 unfold x3w
 simp only[lo,lt,x17q,x16y,x1ao,w1]
 obtain⟨a',h1,h2⟩:=hG.frz (k:=3) Ent.len Ent.stl
 exact RetF.mk (frz_tR3 h2 rfl rfl) ⟨a',rfl,h1⟩
theorem zz_intR:x18x=[I 0]:=by kernel_rfl
theorem z_entsR:xkj=[nilS]:=by kernel_rfl
theorem a_Recover(d:Nat){t:List UInt8}(ht:t.length<=60000)(hw:∀w∈x18c t,w.length<=1001):RetF (RecR (goR q0R (x18c t)) t.length) (x16z (d+9) [] xr [Tx t] mem0):=by
 rw[xkh]
 unfold x4e x3y
 have c':¬(60000:Int)<(t.length:Int):=by omega
 obtain⟨m1,hm1⟩:∃m1:Mem,m1=(((⟨[],1⟩:Mem).new (0,6,5) (.row [nilS] 0 false)).new (0,7,6) (.row [I 0] 0 false)).new (0,8,7) (.row [I 0] 0 false):=⟨_,rfl⟩
 have g6:m1.get (0,7,6)=some (.row [I 0] 0 false):=by rw[hm1];simp
 have g7:m1.get (0,8,7)=some (.row [I 0] 0 false):=by rw[hm1];simp
 have g5:m1.get (0,6,5)=some (.row [nilS] 0 false):=by rw[hm1];simp
 have hn1:m1.next=1:=by rw[hm1];rfl
 dsimp only
 simp only[mem0,x17q,x16y,x189,c',x1rx,x17d,x1eg,zz_intR,z_entsR,x1su]
 rw[<-hm1,x19m (z:=1) (x:=I 1) g6 rfl (by simp) rfl]
 obtain⟨m2,hm2⟩:∃m2:Mem,m2=m1.set (0,7,6) (.row (x17p [I 0] 0 (I 1).cells) 0 false):=⟨_,rfl⟩
 rw[<-hm2,x19m (z:=1) (x:=I 0) (m:=m2) (by rw[hm2,Mem.get_set,x1rr (by simp)];exact g7) rfl (by simp) rfl]
 obtain⟨m3,hm3⟩:∃m3:Mem,m3=m2.set (0,8,7) (.row (x17p [I 0] 0 (I 0).cells) 0 false):=⟨_,rfl⟩
 rw[<-hm3]
 have hn3:m3.next=1:=by rw[hm3,hm2];exact hn1
 have k5:m3.get (0,6,5)=some (.row [nilS] 0 false):=by rw[hm3,Mem.get_set,x1rr (by simp),hm2,Mem.get_set,x1rr (by simp)];exact g5
 have k6:m3.get (0,7,6)=some (.row [I 1] 0 false):=by rw[hm3,Mem.get_set,x1rr (by simp),hm2,Mem.get_set,x1rq rfl];rfl
 have k7:m3.get (0,8,7)=some (.row [I 0] 0 false):=by rw[hm3,Mem.get_set,x1rq rfl];rfl
 unfold xao
 obtain⟨M,hL,b1,hn4,fr⟩:=w_Lines (d+7) t m3
 rw[hn3]at b1 hn4 hL fr
 simp only[hL,x16y]
 unfold xan
 simp only[sRng]
 generalize hlid:((0,11+2,1):Id)=lid
 have hl1:lid.2.2=1:=by rw[<-hlid]
 have hl0:lid.1=0:=by rw[<-hlid]
 generalize hH:(λ(args:List AV) (m:Mem)=>bif Nat.beq args.length 1&&true then x3x (x16z (d+8)) [] m.next lid (.ptr (0,6,5) 0 0) (.ptr (0,7,6) 0 0) (.ptr (0,8,7) 0 0) (args.getD 0 U) ⟨m.hp,m.next+1⟩ 0 else none)=H
 generalize hm4:M.new lid (.lp none)=m4
 have hne:∀j:Id,j.2.2≠1->j≠lid:=λj hj e=>hj (by rw[e];exact hl1)
 have hne1:((1,0,1):Id)≠lid:=λe=>by rw[<-e]at hl0;cases hl0
 have c1:m4.get (1,0,1)=some (.row [Tx t] 0 false):=by rw[<-hm4,Mem.get_new,x1rr hne1];exact b1
 have old:∀j:Id,j.1=0->j.2.2≠1->m4.get j=m3.get j:=λj h1 h2=>by rw[<-hm4,Mem.get_new,x1rr (hne j h2),fr j (by rw[h1];decide)]
 have hlp4:m4.get lid=some (.lp none):=by rw[<-hm4,Mem.get_new,x1rq rfl]
 have hP4:MR lid q0R ⟨m4.hp,m4.next+1⟩:=by
  refine⟨⟨nilS,?_,Gk.nil⟩,?_,?_,by rw[<-hm4];show 2<=M.next+1;omega⟩
  .show m4.get _=_;rw[old _ rfl (by decide)];exact k5
  .show m4.get _=_;rw[old _ rfl (by decide)];exact k6
  .show m4.get _=_;rw[old _ rfl (by decide)];exact k7
 have hll:=x1lv t
 have hi0:RdI q0R 0:=⟨by decide,rfl,x1te _⟩
 obtain⟨m5,hc,hI⟩:=c_lines (d+4) (hh:=[(lid,H)]) (id:=lid) (h:=H) (s:=t) (by omega) (by simp[x1a0]) (i2:=(1,0,1)) (m0:=m4) c1
  (λpre m=>∃q,rdR q0R pre=some q/\MR lid q m/\m.get lid=some (.lp none)) (λm=>∃q,goR q0R (x18c t)=q/\q.2.2<=100000000/\MR lid q m/\m.get lid=some (.lp (some (.exit 0))))
  (λpre m l ⟨q,h1,h2,h3⟩=>⟨q,h1,⟨by obtain⟨v,hv,hG⟩:=h2.o;exact⟨v,by rw[Mem.get_set,x1rr (by decide)];exact hv,hG.frame λj hj=>by rw[Mem.get_set,x1rr (by rintro rfl;cases hj)]⟩,by rw[Mem.get_set,x1rr (by decide)];exact h2.s,by rw[Mem.get_set,x1rr (by decide)];exact h2.t,h2.nx⟩,by rw[Mem.get_set,x1rr hne1.symm];exact h3⟩)
  (λpre w post m hcut ⟨q,h1,h2,h3⟩=>by
   have hwl:w.length<=1001:=hw w (by rw[hcut];simp)
   have hpl:pre.length<=60001:=by
    rw[hcut]at hll
    simp at hll
    omega
   have hri:=x1gl pre hi0 (λl hl=>hw l (by rw[hcut];exact x1u7 _ hl)) h1
   rw[x1su]at hri
   obtain⟨m6,q1,q2⟩:=h_lineR d m.next (by have:=h2.nx;omega) hl1 hl0 hwl (by omega) hri (m:=⟨m.hp,m.next+1⟩) ⟨h2.o,h2.s,h2.t,by have:=h2.nx;show 2<=m.next+1;omega⟩ h3
   rw[<-hH]
   refine⟨m6,q1,?_⟩
   have hgo:=x1gk pre (w::post) h1
   rw[<-hcut]at hgo
   cases hst:x18e q w with
   |none=>
    rw[hst]at q2
    refine .inr ⟨by unfold live;rw[hl1,q2.2];rfl,q,?_,by have:=hri.t;omega,q2⟩
    rw[hgo]
    unfold goR
    rw[hst]
   |some q'=>
    rw[hst]at q2
    exact .inl ⟨by unfold live;rw[hl1,q2.2.1];rfl,⟨q',x1jq pre h1 hst,q2.1,q2.2.1⟩,q2.2.2⟩)
  ⟨q0R,rfl,hP4,hlp4⟩
 have hc':x16z (d+8) [(lid,H)] xt (AV.yld lid::[AV.ptr (1,0,1) 0 0]) m4=some (.tup [],m5):=hc
 rw[hc']
 simp only[x16y]
 unfold sLp
 rcases hI with ⟨q,hr,hP,hlp⟩|⟨q,hgo,hb,hP,hlp⟩
 .rw[hlp]
  simp only
  have hgo:=x1gk (x18c t) [] hr
  rw[x1tl]at hgo
  have hri:=x1gl (x18c t) hi0 hw hr
  rw[show goR q0R (x18c t)=q from hgo]
  exact fin_Rec _ _ _ (by omega) (by have:=hri.t;omega) hP _
 .rw[hlp]
  simp only[show Nat.beq 0 0=true from rfl,x17j]
  rw[hgo]
  exact fin_Rec _ _ _ (by omega) hb hP _
def recC:StR->List (List UInt8)->StR
 |q,[]=>q
 |q,p::r=>if r=[]\/q.2.1.length=40 then q else if okX q.1 p=true then recC (x17t q.1 (entX p),q.2.1++[entX p],q.2.2+(p.length+1)) r else q
theorem recC_one(q:StR)(p:List UInt8):recC q [p]=q:=by
 rw[recC,x1rq (.inl rfl)]
theorem recC_two(q:StR)(p p2:List UInt8)(r:List (List UInt8)):recC q (p::p2::r)=if q.2.1.length=40 then q else if okX q.1 p=true then recC (x17t q.1 (entX p),q.2.1++[entX p],q.2.2+(p.length+1)) (p2::r)else q:=by
 rw[recC]
 by_cases c:q.2.1.length=40
 .rw[x1rq (.inr c),x1rq c]
 .rw[x1rr (by rintro(h|h);cases h;exact c h),x1rr c]
theorem x1jt:∀(ps:List (List UInt8)) (q:StR),(∀p∈ps,(10:UInt8)∉p)->goR q (x19n ps)=recC q ps
 |[],q,_=>rfl
 |[p],q,h=>by
  rw[recC_one]
  unfold x19n
  by_cases hp:p=[]
  .rw[x1rq hp];rfl
  .rw[x1rr hp]
   unfold goR
   have he:endL p=false:=by
    unfold endL
    apply x1t6
    intro e
    exact h p (by simp) (List.mem_of_getLast? e)
   have:x18e q p=none:=by unfold x18e;rw[he];rfl
   rw[this]
 |p::p2::r,q,h=>by
  rw[recC_two]
  have ih:=λq=>x1jt (p2::r) q λx hx=>h x (x1s4 _ hx)
  unfold x19n
  rw[goR]
  have he:endL (p++[10])=true:=by simp[endL]
  have hst:x18e q (p++[10])=if(okX q.1 p&&!decide (q.2.1.length=40))=true then some (x17t q.1 (entX p),q.2.1++[entX p],q.2.2+(p.length+1))else none:=by
   unfold x18e
   rw[he,List.dropLast_concat,x1sm,x1sd]
   rfl
  rw[hst]
  by_cases c:q.2.1.length=40
  .rw[x1rq c,x1sh c]
   simp
  .rw[x1rr c,x1t6 c]
   cases ho:okX q.1 p with
   |false=>simp
   |true=>
    simp only[x1s0,x1ud,x1s6]
    exact ih _
theorem num_V10(o:Option Int):∃(a:Int) (b:Bool),numV o=.tup [I a,B b]/\o=if b=true then some a else none:=by
 cases o with
 |none=>exact⟨0,false,rfl,rfl⟩
 |some n=>exact⟨n,true,rfl,rfl⟩
theorem x1ju{c:UInt8}:∀{l w:List UInt8},w∈cutM c l->c∉w
 |[],w,h=>by
  simp[cutM]at h
  rw[h];simp
 |x::l,w,h=>by
  have ih:=λw=>@x1ju c l w
  unfold cutM at h
  split at h
  .rcases x1sa.1 h with rfl|h
   .simp
   .exact ih w h
  .rename_i hx
   split at h
   .simp at h;rw[h];simp;exact λe=>hx e.symm
   .rename_i a r e
    rcases x1sa.1 h with rfl|h
    .intro hm
     rcases x1sa.1 hm with hm|hm
     .exact hx hm.symm
     .exact ih a (by rw[e];exact x1sc) hm
    .exact ih w (by rw[e];exact x1s4 _ h)
def okQ:Id->Prop:=λid=>id.2.2=87
theorem x1dj(call:x16u)(hs:FHs)(u:Nat){t:List UInt8}(ht:t.length<=100000){q:StR}(hq:q.2.2<=100000000){v:AV}{m:Mem}(hG:Gk 2 Ent.c okQ m v q.2.1)(fc:Nat):RetF (RecR2 q t.length) (x15 call hs u (Tx t) v (I q.2.2) m fc):=by
 have w1:w64 ((t.length:Int)-(q.2.2:Int))=(t.length:Int)-(q.2.2:Int):=x17s (by omega) (by omega)
 unfold x15
 simp only[x17q,x16y,x1ao,w1]
 obtain⟨a',h1,h2⟩:=hG.frz (k:=3) Ent.len Ent.stl
 exact RetF.mk (frz_tR2 h2 rfl) ⟨a',rfl,h1⟩
theorem x1jv(d u:Nat){t:List UInt8}(ht:t.length<=100000){ps:List (List UInt8)}{xs:AV}(hxs:Sl strE xs ps)(hps:∀p∈ps,p.length<=1000)(hlen:ps.length<=70000):∀(suf:List (List UInt8)) (i j:Nat) (q:StR) (v:AV) (m:Mem) (fc:Nat),
 ps.drop i=suf->suf.length<j->q.1<998244353->q.2.1.length<=40->q.2.2<=1001*i->i<=ps.length->Gk 2 Ent.c okQ m v q.2.1 ->
 RetF (RecR2 (recC q suf) t.length) (x2j (x16z (d+2)) [] u j (Tx t) v xs (I q.1) (I q.2.2) (I i) m fc)
 |[],i,j,q,v,m,fc,hi,hj,hn,hl,hk,hil,hG=>by
  obtain⟨j,rfl⟩:∃k,j=k+1:=⟨j-1,by omega⟩
  have hge:ps.length<=i:=x1sw.1 hi
  have w1:w64 ((ps.length:Int)-1)=(ps.length:Int)-1:=x17s (by omega) (by omega)
  have hlt:¬((i:Int)<(ps.length:Int)-1):=by omega
  simp only[x2j]
  unfold x7r
  simp only[hxs.len x1cp,x16y,x1ao,w1,x180,hlt,x1rx,x181,x182,sW_t,x17n,x17l,x17d]
  exact x1dj _ _ _ ht (by omega) hG _
 |p::r,i,j,q,v,m,fc,hi,hj,hn,hl,hk,hile,hG=>by
  obtain⟨j,rfl⟩:∃k,j=k+1:=⟨j-1,by omega⟩
  have hil:i<ps.length:=by
   rcases x1si i ps.length with h|h
   .exact h
   .rw[x1u9 h]at hi;cases hi
  have hrl:r.length+1=ps.length-i:=by rw[<-x1u8,hi];rfl
  have hpm:p∈ps:=x1v1 (by rw[hi];exact x1sc)
  have hpl:=hps p hpm
  have w1:w64 ((ps.length:Int)-1)=(ps.length:Int)-1:=x17s (by omega) (by omega)
  have hvl:sLen Tryz.prog x5 v=some (I q.2.1.length):=by
   rcases hG with ⟨h1,h2⟩|⟨id,ver,_,h1,_⟩
   .rw[h1,h2];exact x1cg x18i
   .rw[h1];rfl
  have hix:sIx 1 xs (I i)=some (.plit (Tx p::r.flatMap strE)):=by
   have:=hxs.ix x1co hil
   rw[hi,x1tf]at this
   exact this
  simp only[x2j]
  unfold x7r
  unfold recC
  by_cases hr:r=[]
  .have hlt:¬((i:Int)<(ps.length:Int)-1):=by
    have:r.length=0:=by rw[hr];rfl
    omega
   rw[x1rq (.inl hr)]
   simp only[hxs.len x1cp,x16y,x1ao,w1,x180,hlt,x1rx,x181,x182,sW_t,x17n,x17l,x17d]
   exact x1dj _ _ _ ht (by omega) hG _
  have hlt:((i:Int)<(ps.length:Int)-1):=by
   have:=x1ub.mpr hr
   omega
  by_cases c40:q.2.1.length=40
  .have h40:¬((q.2.1.length:Int)<40):=by omega
   rw[x1rq (.inr c40)]
   simp only[hxs.len x1cp,x16y,x1ao,w1,x180,hlt,x1rw,x181,x182,sW_t,x17j,hvl,h40,x1rx,x17l,x17d]
   exact x1dj _ _ _ ht (by omega) hG _
  have h40:((q.2.1.length:Int)<40):=by omega
  rw[x1rr (by rintro(h|h);exact hr h;exact c40 h)]
  obtain⟨ys,hys,hcut⟩:=w_Cut (d:=d+1) 32 (l:=p) (by omega)
  have hcut':∀m,x16v (x16z (d+2)) xh [Tx p,AV.sc (.int .u8 32)] m=some (ys,m):=hcut
  simp only[hxs.len x1cp,x16y,x1ao,w1,x180,hlt,x1rw,x181,x182,sW_t,x17j,hvl,h40,x17l,x17b,hix,x1ch,rd_f,List.head?_cons,hcut',hys.len x1cp]
  have few:(cutM 32 p).length<3->okX q.1 p=false->∀X:Option (AV×Mem),RetF (RecR2 (if okX q.1 p=true then recC (x17t q.1 (entX p),q.2.1++[entX p],q.2.2+(p.length+1)) r else q) t.length) (x16t (B (decide (((cutM 32 p).length:Int)<3))) (x15 (x16z (d+2)) [] u (Tx t) v (I q.2.2) m (fc+19)) X):=λh1 h2 X=>by
   have h3:(((cutM 32 p).length:Int)<3):=by omega
   rw[h2,x1sh h3,x17b]
   exact x1dj _ _ _ ht (by omega) hG _
  rcases x1gj p with ⟨p1,e1⟩|⟨a,b,p1,p2,e1⟩
  .exact few (by rw[x1cl p1];simp) (by unfold okX;rw[e1];rfl) _
  rcases x1gj b with ⟨b1,f1⟩|⟨a2,b2,b1,bb,f1⟩
  .exact few (by rw[p2,x1bz b p1,x1cl b1];simp) (by unfold okX;rw[e1];simp only;rw[f1];rfl) _
  have hws:cutM 32 p=a::a2::cutM 32 b2:=by rw[p2,x1bz b p1,bb,x1bz b2 b1]
  have hpos:=x1ub.mpr (x1el 32 b2)
  have h3:¬(((cutM 32 p).length:Int)<3):=by rw[hws];simp only[x1s5];omega
  have hx:entX p=⟨a2,b2⟩:=by unfold entX;rw[e1];simp only;rw[f1]
  have hok:okX q.1 p=(nmL a2&&decide (b2.length<=200)&&decide (a=decM (x17t q.1 (entX p)))):=by
   unfold okX;rw[e1];simp only;rw[f1,hx];simp
  rw[hws]at hys
  have i0:sIx 1 ys (I 0)=some (.plit (Tx a::(a2::cutM 32 b2).flatMap strE)):=by
   have:=hys.ix x1co (k:=0) (by simp)
   exact this
  have i1:sIx 1 ys (I 1)=some (.plit (Tx a2::(cutM 32 b2).flatMap strE)):=by
   have:=hys.ix x1co (k:=1) (by simp)
   exact this
  have hpl2:p.length=a.length+(a2.length+b2.length+2):=by rw[p2,bb];simp;omega
  have w3:w64 ((a.length:Int)+(a2.length:Int))=(a.length:Int)+(a2.length:Int):=x17s (by omega) (by omega)
  have w4:w64 ((a.length:Int)+(a2.length:Int)+2)=((a.length+a2.length+2:Nat):Int):=by rw[x17s (by omega) (by omega)];omega
  have hsl:x17h Tryz.prog x0 (Tx p) (some (I (a.length+a2.length+2:Nat))) none=some (Tx b2):=by
   rw[x_slo (by omega)]
   congr 2
   have:p=(a++32::(a2++[32]))++b2:=by rw[p2,bb];simp
   rw[this]
   exact List.drop_left' (by simp;omega)
  obtain⟨z,okz,hz,hz2⟩:=num_V10 (nbrM a 9)
  have hnum:=λm=>w_Number (d+1) (l:=a) (by omega) (k:=9) (by omega) m
  rw[show((9:Nat):Int)=9 from rfl]at hnum
  have hsh:Sh10 (entX p):=by rw[hx];exact⟨by show a2.length<=60005;omega,by show b2.length<=60005;omega⟩
  have hsd:=λm=>x1ge (d+1) hn hsh m
  have hlt2:=x1c2 hn (entX p)
  have hdec:decide (a=decM (x17t q.1 (entX p)))=(okz&&decide (z=((x17t q.1 (entX p):Nat):Int))):=by
   cases okz with
   |false=>
    rw[x1v6]
    apply x1t6
    intro e
    have:=nbr_in (n:=(x17t q.1 (entX p):Nat)) (d:=9) (by omega) (by omega) (by omega)
    rw[<-e,hz2]at this
    cases this
   |true=>
    rw[x1sm]
    have h5:=nbrM_dec (d:=9) (by omega) (by rw[hz2];rfl:nbrM a 9=some z)
    apply decide_eq_decide.2
    constructor
    .intro e
     have:=nbr_in (n:=(x17t q.1 (entX p):Nat)) (d:=9) (by omega) (by omega) (by omega)
     rw[<-e,hz2]at this
     exact x1st this
    .intro e
     rw[<-h5.1,e]
  obtain⟨m1,hm1⟩:∃m1:Mem,m1=m.new (u,fc+49,13) (.row [Tx [],Tx []] 0 false):=⟨_,rfl⟩
  have g1:m1.get (u,fc+49,13)=some (.row [Tx [],Tx []] 0 false):=by rw[hm1,Mem.get_new,x1rq rfl]
  obtain⟨m2,hm2⟩:∃m2:Mem,m2=m1.set (u,fc+49,13) (.row (x17p [Tx [],Tx []] 0 (AV.agg (entX p).c).cells) 0 false):=⟨_,rfl⟩
  have g2:m2.get (u,fc+49,13)=some (.row (entX p).c 0 false):=by rw[hm2,Mem.get_set,x1rq rfl];rfl
  have lx:sLd true 2 (.ptr (u,fc+49,13) 0 0) m2=some (.agg (entX p).c):=by rw[x19l g2];rfl
  have hG2:Gk 2 Ent.c okQ m2 v q.2.1:=hG.frame λj hj=>by rw[hm2,Mem.get_set,x1rr (by rintro rfl;cases hj),hm1,Mem.get_new,x1rr (by rintro rfl;cases hj)]
  rw[x1t6 h3,x17d]
  simp only[i0,i1,x1ch,rd_f,List.head?_cons,x16y,hnum,hz,x1aq,x1t4,x1t5,x17q,x18m,w3,w4,hsl,bl_ent,al_ent]
  rw[<-hm1,show(AV.agg [Tx a2,Tx b2])=AV.agg (entX p).c by rw[hx];rfl,x19m (z:=2) (x:=.agg (entX p).c) g1 rfl (by simp) rfl,<-hm2]
  simp only[x18h]
  have bad:okX q.1 p=false->∀fc,RetF (RecR2 (if okX q.1 p=true then recC (x17t q.1 (entX p),q.2.1++[entX p],q.2.2+(p.length+1)) r else q) t.length) (x15 (x16z (d+2)) [] u (Tx t) v (I q.2.2) m2 fc):=λe fc=>by
   rw[e]
   exact x1dj _ _ _ ht (by omega) hG2 _
  rw[hdec]at hok
  cases okz with
  |false=>
   simp only[x1s0,x181,x182,x18w,sW_f,x1s3,x17n,x16y,x17l,x17j,x17b]
   exact bad (by rw[hok];simp) _
  |true=>
   have hnm:=λm=>w_rnmL (d+1) a2 m
   cases o3:nmL a2 with
   |false=>
    simp only[x1s0,x181,x182,x18w,sW_f,x1s3,x17n,x16y,x17l,x17j,x17b,i1,x1ch,rd_f,List.head?_cons,hnm,o3,x18h]
    exact bad (by rw[hok,o3];rfl) _
   |true=>
    by_cases c4:b2.length<=200
    .have c4':¬(200:Int)<(b2.length:Int):=by omega
     by_cases c5:z=((x17t q.1 (entX p):Nat):Int)
     .have hokt:okX q.1 p=true:=by rw[hok,o3,x1sh c4,x1sh c5];rfl
      obtain⟨v',m5,A5,G5,p1',p2',n5,f5⟩:=Gk.app (ok:=okQ) (l:=q.2.1) (bytes:=32) (id0:=(u,fc+75,87)) Ent.len (by omega) rfl (by unfold x17k;omega) hG2 (entX p)
      have w5:w64 ((q.2.2:Int)+(p.length:Int))=(q.2.2:Int)+(p.length:Int):=x17s (by omega) (by omega)
      have w6:w64 ((q.2.2:Int)+(p.length:Int)+1)=((q.2.2+(p.length+1):Nat):Int):=by rw[x17s (by omega) (by omega)];omega
      have w7:w64 ((i:Int)+1)=((i+1:Nat):Int):=by rw[x17s (by omega) (by omega)];omega
      have ap:∀a b,x178 (some [],some [a]) (tR (.plit b))=true:=λ_ _=>rfl
      have ap2:∀b,x178 (tX (.slit (entX p).c 1 true),tA (u,fc+75,87) v) (tR (.plit b))=true:=λb=>by
       show x178 _ (some [],some [])=true
       unfold x178
       split<;>first|rfl|simp_all
      simp only[x1s0,x181,x182,x18w,sW_f,x1s3,x17n,x16y,x17l,x17j,i1,x1ch,rd_f,List.head?_cons,hnm,o3,x18h,x17q,x189,c4',x1rx,lx,hsd,x19u,c5,x1rw,x17d,mk_ent,x1js,A5,hix,x18m,w5,w6,w7,ap,ap2,x1ud]
      rw[x1rq hokt]
      exact x1jv d u ht hxs hps hlen r (i+1) j (x17t q.1 (entX p),q.2.1++[entX p],q.2.2+(p.length+1)) v' m5 (fc+91) (by rw[<-x1vm,hi];rfl) (by simp at hj;omega) hlt2 (by show(q.2.1++[entX p]).length<=40;rw[x1sd];simp;omega) (by show q.2.2+(p.length+1)<=1001*(i+1);omega) (by omega) G5
     .simp only[x1s0,x181,x182,x18w,sW_f,x1s3,x17n,x16y,x17l,x17j,i1,x1ch,rd_f,List.head?_cons,hnm,o3,x18h,x17q,x189,c4',x1rx,lx,hsd,x19u,c5,x17b]
      exact bad (by rw[hok,o3,x1sh c4,x1t6 c5];rfl) _
    .have c4':(200:Int)<(b2.length:Int):=by omega
     simp only[x1s0,x181,x182,x18w,sW_f,x1s3,x17n,x16y,x17l,x17j,i1,x1ch,rd_f,List.head?_cons,hnm,o3,x18h,x17q,x189,c4',x1rw,x17b]
     exact bad (by rw[hok,o3,x1t6 c4];rfl) _
theorem x1lw(s w:List UInt8)(K:Nat)(h:∀p∈cutM 10 s,p.length<=K)(hw:w∈x18c s):w.length<=K+1:=by
 have key:∀(ps:List (List UInt8)),(∀p∈ps,p.length<=K)->∀w∈x19n ps,w.length<=K+1:=by
  intro ps
  induction ps with
  |nil=>intro _ w h;cases h
  |cons p r ih=>
   intro hp w hw
   cases r with
   |nil=>
    unfold x19n at hw
    split at hw
    .cases hw
    .simp at hw;subst hw;have:=hp w (by simp);omega
   |cons q r=>
    unfold x19n at hw
    rcases x1sa.1 hw with rfl|hw
    .have:=hp p (by simp);simp;omega
    .exact ih (λx hx=>hp x (x1s4 _ hx)) w hw
 exact key _ h w hw
def recM(t:List UInt8):StR:=goR q0R (x18c t)
theorem w_Recover(d:Nat){t:List UInt8}(ht:t.length<=60000)(hp:∀p∈cutM 10 t,p.length<=1000):∃a,Sl Ent.c a (recM t).2.1/\∀m,x16v (x16z (d+9)) xr [Tx t] m=some (.tup [a,I ((t.length:Int)-((recM t).2.2:Int)),I 0],m):=by
 obtain⟨x,m',x',h1,h2,a,rfl,h3⟩:=a_Recover d ht λw hw=>x1lw t w 1000 hp hw
 exact⟨a,h3,λm=>x1eh rfl h1 h2⟩
theorem x1lx(d:Nat){t:List UInt8}(ht:t.length<=60000)(hp:∀p∈cutM 10 t,p.length<=1000):∃a,Sl Ent.c a (recM t).2.1/\∀m,x16v (x16z (d+3)) x19 [Tx t] m=some (.tup [a,I ((t.length:Int)-((recM t).2.2:Int))],m):=by
 have key:RetF (RecR2 (recM t) t.length) (x16z (d+3) [] x19 [Tx t] mem0):=by
  rw[xz2]
  unfold x9o x7s
  obtain⟨xs,hxs,hcut⟩:=w_Cut (d:=d+1) 10 (l:=t) (by omega)
  have hcut':∀m,x16v (x16z (d+2)) xh [Tx t,AV.sc (.int .u8 10)] m=some (xs,m):=hcut
  dsimp only
  simp only[hcut',x16y]
  unfold xap
  have hcl:=x1gb 10 t
  have e:recM t=recC q0R (cutM 10 t):=by
   unfold recM x18c
   exact x1jt _ _ λp hp=>x1ju hp
  rw[e]
  exact x1jv d _ (by omega) hxs hp (by omega) (cutM 10 t) 0 NN q0R nilS _ _ rfl (by rw[x18s];omega) (by decide) (x1te _) (x1te _) (x1te _) Gk.nil
 obtain⟨x,m',x',h1,h2,a,rfl,h3⟩:=key
 exact⟨a,h3,λm=>x1eh rfl h1 h2⟩
end Go.Ix
