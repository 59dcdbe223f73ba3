import Derived.Test.YtibmppgmjbpdmaaGreatDoorWg14
import Derived.Test.YtibmppgmjbpdmaaGreatDoorWg15
set_option linter.unusedSimpArgs false
set_option linter.unusedVariables false
set_option maxRecDepth 10000
namespace Go.Ix
open Go.Proofs
theorem c_wstrJ(d:Nat)(hs:FHs){bid:Id}{T s:List UInt8}{m:Mem}(h:m.get bid=some (.bld xe x1 T))(hl:T.length+s.length<=1099511627776) :
 x16z (d+1) hs x40 [.ptr bid 0 0,Tx s] m=some (.tup [I s.length,.sc .nilIface],m.set bid (.bld xe x1 (T++s))):=by
 have h1:x16z (d+1) hs x40 [.ptr bid 0 0,Tx s] m=(x1af xe x1 m.get [.ptr bid 0 0,Tx s]).map λp=>(p.1,m.set p.2.1 p.2.2):=by kernel_rfl
 have h2:x1af xe x1 m.get [.ptr bid 0 0,Tx s]=(match m.get bid with
  |some (.bld t' e' l)=>if t'=xe/\e'=x1/\l.length+(⟨s.toArray⟩:ByteArray).size<=1099511627776 then some (.tup [.sc (.int .i64 (⟨s.toArray⟩:ByteArray).size),.sc .nilIface],bid,.bld xe x1 (l++s))else none
  |_=>none):=rfl
 rw[h1,h2,h]
 simp only
 rw[x1rq ⟨trivial,trivial,by rw[x1a7];exact hl⟩,x1a7]
 rfl
theorem c_bstrJ(d:Nat)(hs:FHs){bid:Id}{T:List UInt8}{m:Mem}(h:m.get bid=some (.bld xe x1 T))(hl:T.length<=1099511627776) :
 x16z (d+1) hs x3z [.ptr bid 0 0] m=some (Tx T,⟨[],m.next⟩):=by
 have h1:x16z (d+1) hs x3z [.ptr bid 0 0] m=(x1ae xe x1 m.get [.ptr bid 0 0]).map λv=>(v,⟨[],m.next⟩):=by kernel_rfl
 have h2:x1ae xe x1 m.get [.ptr bid 0 0]=(match m.get bid with
  |some (.bld t' e' l)=>if t'=xe/\e'=x1/\l.length<=1099511627776 then some (Tx l)else none
  |_=>none):=rfl
 rw[h1,h2,h]
 simp only
 rw[x1rq ⟨trivial,trivial,hl⟩]
 rfl
theorem mkM_J(n:Int):mkM 0 [I n]=2:=rfl
theorem cap_J{n:Nat}{id:Id}{v o:Nat}(h:id.1<n):cAp (some n) (tR (.ptr id v o)) 2=true:=by
 simp[cAp,tR,h]
theorem cap_lJ{n:Nat}{cs:List AV}:cAp (some n) (tR (.plit cs)) 2=true:=rfl
def entL(n:Nat)(x:Ent):List UInt8:=decM (x17t n x)++[32]++x.by_++[32]++x.tx++[10]
def x1as:Nat->List Ent->List UInt8
 |_,[]=>[]
 |n,x::r=>entL n x++x1as (x17t n x) r
theorem x1jn(n:Nat){x:Ent}(h:Br10 x):(entL n x).length<=2100:=by
 have:=x1gg (x17t n x)
 obtain⟨h1,h2⟩:=h
 unfold entL
 simp
 omega
theorem x1jo(d:Nat){bid:Id}(hbid:bid.2.2=5){a:AV}{L:List Ent}(ha:Sl Ent.c a L)(hL:∀x∈L,Br10 x)(hl:L.length<=1000):∀(suf:List Ent) (k j n:Nat) (T:List UInt8) (m:Mem) (fc:Nat),L.drop k=suf->suf.length<j->n<998244353->T.length<=2100*k->k<=L.length->0<m.next->m.get bid=some (.bld xe x1 T) ->
 ∃m',x2l (x16z (d+2)) [] 0 j (.ptr bid 0 0) (I n) a (I L.length) (I k) m fc=some (.tup [Tx (T++x1as n suf),I 0],m')
 |[],k,j,n,T,m,fc,hd,hj,hn,hT,hkl,hnx,hB=>by
  obtain⟨j,rfl⟩:∃i,j=i+1:=⟨j-1,by simp at hj;omega⟩
  have hk:¬((k:Int)<(L.length:Int)):=by have:=x1sw.mp hd;omega
  simp only[x2l]
  unfold x7x xas
  simp only[x180,hk,x1rx,x16y,x17d,c_bstrJ (d+1) [] hB (by omega)]
  exact⟨_,by rw[x1as,x1tl]⟩
 |e::r,k,j,n,T,m,fc,hd,hj,hn,hT,hkl,hnx,hB=>by
  obtain⟨j,rfl⟩:∃i,j=i+1:=⟨j-1,by simp at hj;omega⟩
  obtain⟨hk,he,hd⟩:=x197 hd
  have hk':(k:Int)<(L.length:Int):=by omega
  have ix:=ha.ix Ent.len hk
  have ld:=x1cq (m:=m) hk
  rw[he]at ld
  have hbr:=hL e (by rw[<-he];exact x1sz hk)
  have w1:w64 ((k:Int)+1)=((k+1:Nat):Int):=by rw[x17s (by omega) (by omega)];omega
  obtain⟨m1,hm1⟩:∃m1:Mem,m1=m.new (0,fc+3,8) (.row [Tx [],Tx []] 0 false):=⟨_,rfl⟩
  have g1:m1.get (0,fc+3,8)=some (.row [Tx [],Tx []] 0 false):=by rw[hm1,Mem.get_new,x1rq rfl]
  obtain⟨m2,hm2⟩:∃m2:Mem,m2=m1.set (0,fc+3,8) (.row (x17p [Tx [],Tx []] 0 (AV.agg e.c).cells) 0 false):=⟨_,rfl⟩
  have g2:m2.get (0,fc+3,8)=some (.row e.c 0 false):=by rw[hm2,Mem.get_set,x1rq rfl];rfl
  have hne:bid≠(0,fc+3,8):=by rintro rfl;cases hbid
  have gB:m2.get bid=some (.bld xe x1 T):=by rw[hm2,Mem.get_set,x1rr hne,hm1,Mem.get_new,x1rr hne];exact hB
  have n2:m2.next=m.next:=by rw[hm2,hm1];rfl
  have l2:sLd true 2 (.ptr (0,fc+3,8) 0 0) m2=some (.agg e.c):=by rw[x19l g2];rfl
  have l0:sLd false 1 (.ptr (0,fc+3,8) 0 0) m2=some (Tx e.by_):=by rw[x19l g2];rfl
  have l1:sLd false 1 (.ptr (0,fc+3,8) 0 1) m2=some (Tx e.tx):=by rw[x19l g2];rfl
  have hlt:=x1c2 hn e
  have hit:=λm=>w_Itoa (d+1) (n:=(x17t n e:Nat)) (by omega) (by omega) m
  have hd:=hd
  have hdl:=x1gg (x17t n e)
  obtain⟨b1,b2⟩:=hbr
  have hel:=x1jn n (x:=e) ⟨b1,b2⟩
  simp only[x2l]
  unfold x7x
  simp only[x180,hk',x1rw,x17b,x16y,ix,ld,x1eg,x1c1]
  rw[<-hm1,x19m (z:=2) (x:=.agg e.c) g1 rfl (by simp) rfl,<-hm2,show(AV.sc (.string ⟨#[10]⟩))=Tx [10]from rfl,show(AV.sc (.string ⟨#[32]⟩))=Tx [32]from rfl]
  simp only[l2,x16y,x1gd (d+1) hn (Br10.sh (x:=e) ⟨b1,b2⟩),hit,x1ee,x1su,x1tc,l0,l1]
  rw[x18n _ _ (by(try simp only[x1sd,x1s5,x1sn]);omega)]
  simp only[x16y]
  rw[x18n _ _ (by(try simp only[x1sd,x1s5,x1sn]);omega)]
  simp only[x16y]
  rw[x18n _ _ (by(try simp only[x1sd,x1s5,x1sn]);omega)]
  simp only[x16y]
  rw[x18n _ _ (by(try simp only[x1sd,x1s5,x1sn]);omega)]
  simp only[x16y]
  rw[x18n _ _ (by(try simp only[x1sd,x1s5,x1sn]);omega)]
  simp only[x16y]
  rw[show decM (x17t n e)++[32]++e.by_++[32]++e.tx++[10]=entL n e from rfl,c_wstrJ (d+1) [] gB (by omega)]
  simp only[x16y,mkM_J,cap_J (n:=m2.next) (id:=(0,fc+3,8)) (by show 0<m2.next;omega),show Nat.ble 1 2=true from rfl,x1ue,x17j,x18m,w1]
  obtain⟨m',h'⟩:=x1jo d hbid ha hL hl r (k+1) j (x17t n e) (T++entL n e) (m2.set bid (.bld xe x1 (T++entL n e))) (fc+23) hd (by simp at hj;omega) hlt (by rw[x1sd];omega) (by omega) (by show 0<m2.next;omega) (by rw[Mem.get_set,x1rq rfl])
  refine⟨m',?_⟩
  rw[h',x1as,x1v9]
theorem w_Journal(d:Nat){a:AV}{L:List Ent}(ha:Sl Ent.c a L)(hL:∀x∈L,Br10 x)(hl:L.length<=1000)(m:Mem):x16v (x16z (d+7)) x1w [a] m=some (.tup [Tx (if x19w L=0 then x1as 1 L else[]),I (x19w L)],m):=by
 refine Ans.call0_tup (m:=m) ?_ (by simp[ha.still]) rfl
 unfold Ans
 rw[xz6]
 unfold x9s x7y
 dsimp only
 simp only[mem0,w_alone d ha hL (by omega),x16y,x19u]
 by_cases he:x19w L=0
 .simp only[he,x1rw,x1s3,x17d,x1s6]
  unfold xat sBld
  simp only[ha.len x18i,x16y]
  exact x1jo (d+4) (bid:=(0,0+7,5)) rfl ha hL hl L 0 NN 1 [] _ _ rfl (by rw[x18s];omega) (by omega) (by simp) (by omega) (by show 0<0+1;omega) (by rw[Mem.get_new,x1rq rfl];rfl)
 .simp only[he,x1rx,x1s0,x17b,x1s1]
  exact⟨_,rfl⟩
theorem w_SealOf(d:Nat){a:AV}{L:List Ent}(ha:Sl Ent.c a L)(hL:∀x∈L,Br10 x)(hl:L.length<=1000)(m:Mem):x16v (x16z (d+7)) x1a [a] m=some (.tup [I (if x19w L=0 then((sealL 1 L:Nat):Int)else 0),I (x19w L)],m):=by
 refine Ans.call0_tup (m:=m) ?_ (by simp[ha.still]) rfl
 unfold Ans
 rw[xz4]
 unfold x9q x7v
 dsimp only
 have h2:=λm=>w_sealOf (d+4) ha (λx hx=>(hL x hx).sh) (by omega) m
 simp only[mem0,w_alone d ha hL (by omega),x16y,x19u]
 by_cases he:x19w L=0
 .simp only[he,x1rw,x1s3,x17d,x1s6,h2,x16y]
  exact⟨_,rfl⟩
 .simp only[he,x1rx,x1s0,x17b,x1s1]
  exact⟨_,rfl⟩
theorem x1jp(d:Nat)(u:Nat){a:AV}{L:List Ent}(ha:Sl Ent.c a L)(hL:∀x∈L,Br10 x)(hl:L.length<=1000):∀(suf:List Ent) (k j n:Nat) (T:List UInt8) (m:Mem) (fc:Nat),L.drop k=suf->suf.length<j->n<998244353->T.length<=2100*k ->
 ∃m',x2o (x16z (d+2)) [] u j a (Tx T) (I n) (I k) m fc=some (Tx (T++x1as n suf),m')
 |[],k,j,n,T,m,fc,hd,hj,hn,hT=>by
  obtain⟨j,rfl⟩:∃i,j=i+1:=⟨j-1,by simp at hj;omega⟩
  have hk:¬((k:Int)<(L.length:Int)):=by have:=x1sw.mp hd;omega
  simp only[x2o]
  unfold x83 xay
  simp only[ha.len x18i,x180,hk,x1rx,x16y,x17d]
  exact⟨_,by rw[x1as,x1tl]⟩
 |e::r,k,j,n,T,m,fc,hd,hj,hn,hT=>by
  obtain⟨j,rfl⟩:∃i,j=i+1:=⟨j-1,by simp at hj;omega⟩
  obtain⟨hk,he,hd⟩:=x197 hd
  have hk':(k:Int)<(L.length:Int):=by omega
  have ix:=ha.ix Ent.len hk
  have ld:=x1cq (m:=m) hk
  rw[he]at ld
  have f0:∀m,sLd false 1 (.plit (((L.drop k).flatMap Ent.c).drop 0)) m=some (Tx e.by_):=λm=>by
   rw[<-he];exact x1cm (enc:=Ent.c) (m:=m) hk 0 rfl
  have f1:∀m,sLd false 1 (.plit (((L.drop k).flatMap Ent.c).drop 1)) m=some (Tx e.tx):=λm=>by
   rw[<-he];exact x1cm (enc:=Ent.c) (m:=m) hk 1 rfl
  have hbr:=hL e (by rw[<-he];exact x1sz hk)
  have w1:w64 ((k:Int)+1)=((k+1:Nat):Int):=by rw[x17s (by omega) (by omega)];omega
  have hlt:=x1c2 hn e
  have hit:=λm=>w_Decimal d (n:=(x17t n e:Nat)) (by omega) (by omega) m
  have hdl:=x1gg (x17t n e)
  obtain⟨b1,b2⟩:=hbr
  have hel:=x1jn n (x:=e) ⟨b1,b2⟩
  simp only[x2o]
  unfold x83
  rw[show(AV.sc (.string ⟨#[10]⟩))=Tx [10]from rfl,show(AV.sc (.string ⟨#[32]⟩))=Tx [32]from rfl]
  simp only[ha.len x18i,x180,hk',x1rw,x17b,x16y,ix,ld,x1ge (d+1) hn (Br10.sh (x:=e) ⟨b1,b2⟩),hit,x1ef,f0,f1]
  rw[x18n _ _ (by(try simp only[x1sd,x1s5,x1sn]);omega)]
  try simp only[x16y]
  rw[x18n _ _ (by(try simp only[x1sd,x1s5,x1sn]);omega)]
  try simp only[x16y]
  rw[x18n _ _ (by(try simp only[x1sd,x1s5,x1sn]);omega)]
  try simp only[x16y]
  rw[x18n _ _ (by(try simp only[x1sd,x1s5,x1sn]);omega)]
  try simp only[x16y]
  rw[x18n _ _ (by(try simp only[x1sd,x1s5,x1sn]);omega)]
  try simp only[x16y]
  rw[x18n _ _ (by(try simp only[x1sd,x1s5,x1sn]);omega)]
  simp only[x16y,mkM_J,cap_lJ,show Nat.ble 1 2=true from rfl,x1ue,x17j,x18m,w1]
  rw[show T++decM (x17t n e)++[32]++e.by_++[32]++e.tx++[10]=T++entL n e by unfold entL;simp]
  obtain⟨m',h'⟩:=x1jp d u ha hL hl r (k+1) j (x17t n e) (T++entL n e) m (fc+34) hd (by simp at hj;omega) hlt (by rw[x1sd];omega)
  refine⟨m',?_⟩
  rw[h',x1as,x1v9]
theorem x1lu(d:Nat){a:AV}{L:List Ent}(ha:Sl Ent.c a L)(hL:∀x∈L,Br10 x)(hl:L.length<=1000)(m:Mem):x16v (x16z (d+3)) x1z [a] m=some (Tx (x1as 1 L),m):=by
 refine Ans.call0 (m:=m) ?_ (by simp[ha.still]) rfl
 unfold Ans
 rw[xz9]
 unfold x9v x84 xaz
 dsimp only
 exact x1jp d _ ha hL hl L 0 NN 1 [] _ _ rfl (by rw[x18s];omega) (by omega) (by simp)
def cutV:List UInt8->List UInt8×List UInt8×Bool
 |[]=>([],[],false)
 |x::r=>if x=32 then([],r,true)else((x::(cutV r).1),(cutV r).2.1,(cutV r).2.2)
theorem x1gh:∀{l:List UInt8},(32:UInt8)∉l->cutV l=(l,[],false)
 |[],_=>rfl
 |x::r,h=>by
  unfold cutV
  rw[x1rr (λe=>h (by rw[e];exact x1sc)),x1gh λe=>h (x1s4 _ e)]
theorem x1gi:∀{l:List UInt8} (k:List UInt8),(32:UInt8)∉l->cutV (l++32::k)=(l,k,true)
 |[],k,_=>by
  show cutV (32::k)=_
  rw[cutV,x1rq rfl]
 |x::r,k,h=>by
  rw[x1ti,cutV,x1rr (λe=>h (by rw[e];exact x1sc)),x1gi k λe=>h (x1s4 _ e)]
theorem x1gj(l:List UInt8):((32:UInt8)∉l/\cutV l=(l,[],false))\/∃a b,(32:UInt8)∉a/\l=a++32::b/\cutV l=(a,b,true):=by
 rcases x1dh 32 l with ⟨h1,h2⟩|⟨i,h1,h2,h3,h4⟩
 .exact .inl ⟨h2,x1gh h2⟩
 .refine .inr ⟨l.take i,l.drop (i+1),h3,?_,?_⟩
  .rw[<-h4,x1uo]
  .conv=>lhs;rw[<-x1uo i l,h4]
   exact x1gi _ h3
theorem x1ep(l:List UInt8):(cutV l).1.length<=l.length/\(cutV l).2.1.length<=l.length:=by
 rcases x1gj l with ⟨h,e⟩|⟨a,b,h,e1,e⟩
 .rw[e];simp
 .rw[e,e1];simp;omega
theorem w_CutS(d:Nat)(l:List UInt8)(hl:l.length<=100000)(m:Mem):x16v (x16z (d+5)) xk [Tx l,Tx [32]] m=some (.tup [Tx (cutV l).1,Tx (cutV l).2.1,B (cutV l).2.2],m):=by
 have hI:∀m,x16v (x16z (d+3)) x11 [Tx l,Tx [32]] m=some (I (Lib.indexByte l 32),m):=by
  intro m
  refine Ans.call0 (m:=m) ?_ rfl rfl
  unfold Ans
  rw[xki]
  unfold x51 x48
  have hix:sIdx Tryz.prog x0 (Tx [32]) (I 0)=some (U8 (32:UInt8).toNat):=x1c0 (k:=0) (l:=[32]) (by simp)
  have hl1:x179 (Tx [32])=some (I 1):=x17q [32]
  simp only[mem0,hl1,x16y,x1ap,x181,x182,show decide ((1:Int)=0)=false from rfl,sW_f,x1s0,x17j,x_eq,x17l,x17n]
  by_cases c1:[32]=l
  .subst c1
   have:Lib.indexByte [32] 32=0:=by simp[Lib.indexByte]
   rw[this]
   simp only[x1rw,x17b]
   exact⟨_,rfl⟩
  .simp only[c1,x1rx,x17d,show decide ((1:Int)=1)=true from rfl,x17b,hix,x16y,x1g9]
   exact⟨_,rfl⟩
 have h2:∀m,x16v (x16z (d+4)) x25 [Tx l,Tx [32]] m=some (.tup [Tx (cutV l).1,Tx (cutV l).2.1,B (cutV l).2.2],m):=by
  intro m
  refine Ans.call0_tup (m:=m) ?_ rfl rfl
  unfold Ans
  rw[xzp]
  unfold xaa x8x
  rw[show(AV.sc (.string ⟨#[]⟩))=Tx []from rfl]
  simp only[mem0,hI,x16y,sGe_I]
  rcases x1dh 32 l with ⟨h1,h2⟩|⟨i,h1,h2,h3,h4⟩
  .rw[h1,x1gh h2]
   simp only[show decide ((0:Int)<=-1)=false from rfl,x17d]
   exact⟨_,rfl⟩
  .rw[h1]
   have hc:cutV l=(l.take i,l.drop (i+1),true):=by
    conv=>lhs;rw[<-x1uo i l,h4]
    exact x1gi _ h3
   have hi:(0:Int)<=(i:Int):=by omega
   have hl1:x179 (Tx [32])=some (I 1):=x17q [32]
   have w2:w64 ((i:Int)+1)=((i+1:Nat):Int):=by rw[x17s (by omega) (by omega)];omega
   simp only[hi,x1rw,x17b,x_slh (show i<=l.length by omega),x16y,hl1,x18m,w2,x_slo (show i+1<=l.length by omega),hc]
   exact⟨_,rfl⟩
 refine Ans.call0_tup (m:=m) ?_ rfl rfl
 unfold Ans
 rw[xzc]
 unfold x9x x87
 dsimp only
 simp only[h2,x16y,x1aq,x1t4,x1t5]
 exact⟨_,rfl⟩
def entX(p:List UInt8):Ent:=⟨(cutV (cutV p).2.1).1,(cutV (cutV p).2.1).2.1⟩
def okX(n:Nat)(p:List UInt8):Bool:=(cutV p).2.2&&(cutV (cutV p).2.1).2.2&&nmL (entX p).by_&&decide ((entX p).tx.length<=200)&&decide ((cutV p).1=decM (x17t n (entX p)))
theorem entX_br{p:List UInt8}(h:p.length<=1000):Br10 (entX p):=by
 have h1:=x1ep p
 have h2:=x1ep (cutV p).2.1
 exact⟨by show(cutV (cutV p).2.1).1.length<=1000;omega,by show(cutV (cutV p).2.1).2.1.length<=1000;omega⟩
abbrev StR:=Nat×List Ent×Nat
def x18e(q:StR)(l:List UInt8):Option StR:=if endL l&&okX q.1 l.dropLast&&!decide (q.2.1.length=40)then some (x17t q.1 (entX l.dropLast),q.2.1++[entX l.dropLast],q.2.2+l.length)else none
def goR:StR->List (List UInt8)->StR
 |q,[]=>q
 |q,l::r=>match x18e q l with
  |some q'=>goR q' r
  |none=>q
def rdR:StR->List (List UInt8)->Option StR
 |q,[]=>some q
 |q,l::r=>match x18e q l with
  |some q'=>rdR q' r
  |none=>none
theorem x1gk:∀(pre:List (List UInt8)) {q q':StR} (post:List (List UInt8)),rdR q pre=some q'->goR q (pre++post)=goR q' post
 |[],q,q',post,h=>by cases h;rfl
 |l::r,q,q',post,h=>by
  unfold rdR at h
  rw[x1ti]
  conv=>lhs;unfold goR
  cases hs:x18e q l with
  |none=>rw[hs]at h;cases h
  |some q2=>
   rw[hs]at h
   exact x1gk r post h
theorem x1jq:∀(pre:List (List UInt8)) {q q' q2:StR} {l:List UInt8},rdR q pre=some q'->x18e q' l=some q2->rdR q (pre++[l])=some q2
 |[],q,q',q2,l,h,h1=>by cases h;rw[x1ua];unfold rdR;rw[h1];rfl
 |a::r,q,q',q2,l,h,h1=>by
  unfold rdR at h
  rw[x1ti]
  unfold rdR
  cases hs:x18e q a with
  |none=>rw[hs]at h;cases h
  |some q3=>
   rw[hs]at h
   exact x1jq r h h1
theorem x1jr{q q':StR}{l:List UInt8}(h:x18e q l=some q'):endL l=true/\okX q.1 l.dropLast=true/\q.2.1.length≠40/\q'=(x17t q.1 (entX l.dropLast),q.2.1++[entX l.dropLast],q.2.2+l.length):=by
 unfold x18e at h
 split at h
 .rename_i hc
  simp only[x1rv,x1ul,decide_eq_false_iff_not]at hc
  exact⟨hc.1.1,hc.1.2,hc.2,(x1st h).symm⟩
 .cases h
structure RdI (q:StR) (k:Nat):Prop where
 n:q.1<998244353
 l:q.2.1.length=k
 t:q.2.2<=1001*k
theorem x1gl:∀(pre:List (List UInt8)) {q q':StR} {k:Nat},RdI q k->(∀l∈pre,l.length<=1001)->rdR q pre=some q'->RdI q' (k+pre.length)
 |[],q,q',k,h,_,e=>by cases e;exact h
 |l::r,q,q',k,h,hl,e=>by
  unfold rdR at e
  cases hs:x18e q l with
  |none=>rw[hs]at e;cases e
  |some q2=>
   rw[hs]at e
   obtain⟨-,-,-,rfl⟩:=x1jr hs
   have h1:=hl l (by simp)
   have:=x1gl r (k:=k+1) ⟨x1c2 h.n _,by show(q.2.1++[entX l.dropLast]).length=k+1;rw[x1sd,h.l];rfl,by show q.2.2+l.length<=1001*(k+1);have:=h.t;omega⟩ (λx hx=>hl x (x1s4 _ hx)) e
   rw[x1s5,show k+(r.length+1)=k+1+r.length by omega]
   exact this
theorem ldSR{m:Mem}{id:Id}{x:AV}(h:m.get id=some (.row [x] 0 false))(hx:x.one=true):sLd false 1 (.ptr id 0 0) m=some x:=by
 simp[h,hx]
def okR:Id->Prop:=λid=>id.2.2=81
structure MR (lid:Id) (q:StR) (m:Mem):Prop where
 o:∃v,m.get (0,6,5)=some (.row [v] 0 false)/\Gk 2 Ent.c okR m v q.2.1
 s:m.get (0,7,6)=some (.row [I q.1] 0 false)
 t:m.get (0,8,7)=some (.row [I q.2.2] 0 false)
 nx:2<=m.next
theorem mk_ent{R:Type}(x:Ent)(id:Id)(m:Mem)(K:AV->Mem->Option R):x17g x8 [(0,2,.agg x.c)] 1 2 id m K=K (.slit x.c 1 true) m:=by
 rw[x1c1];rfl
theorem al_ent{R:Type}(id:Id)(m:Mem)(K:AV->Mem->Option R):x176 x8 id m K=K (.ptr id 0 0) (m.new id (.row [Tx [],Tx []] 0 false)):=by
 rw[x1c1];rfl
theorem bl_ent(a b:List UInt8):x177 x8 [(0,1,Tx a),(1,1,Tx b)]=some (.agg [Tx a,Tx b]):=by
 rw[x1c1];rfl
theorem x1js(objs:Id->Option Ob)(x:Ent):elems objs 2 (.slit x.c 1 true)=some (x.c,1):=rfl
theorem h_lineR(d:Nat)(u:Nat)(hu:1<=u){lid:Id}(h0:lid.2.2=1)(h00:lid.1=0){w:List UInt8}(hw:w.length<=1001){q:StR}{k:Nat}(hk:k<=70000)(hi:RdI q k){m:Mem}(h:MR lid q m)(hlp:m.get lid=some (.lp none)) :
 ∃m2,x3x (x16z (d+8)) [] u lid (.ptr (0,6,5) 0 0) (.ptr (0,7,6) 0 0) (.ptr (0,8,7) 0 0) (Tx w) m 0=some m2 /\
  (match x18e q w with
   |some q'=>MR lid q' m2/\m2.get lid=some (.lp none)/\m2.get (1,0,1)=m.get (1,0,1)
   |none=>MR lid q m2/\m2.get lid=some (.lp (some (.exit 0)))):=by
 obtain⟨⟨v,ho,hG⟩,hs,ht,nx⟩:=h
 obtain⟨hn,hl,htk⟩:=hi
 have hlpn:sLpN lid m=some m:=by unfold sLpN lpB;rw[hlp];rfl
 have hne:∀j:Id,j.2.2≠1->j≠lid:=λj hj e=>hj (by rw[e];exact h0)
 have hcs:=λm=>w_CutSuf (d+5) (l:=w) (by omega) m
 obtain⟨p,hp⟩:∃p,p=if endL w=true then w.dropLast else w:=⟨_,rfl⟩
 have hpl:p.length<=1001:=by
  rw[hp]
  split
  .rw[List.length_dropLast];omega
  .exact hw
 simp only[<-hp]at hcs
 have hc1:=λm=>w_CutS (d+3) p (by omega) m
 have hcl:=x1ep p
 have hcl2:=x1ep (cutV p).2.1
 have hc2:=λm=>w_CutS (d+3) (cutV p).2.1 (by omega) m
 have hsh:Sh10 (entX p):=⟨by show(cutV (cutV p).2.1).1.length<=60005;omega,by show(cutV (cutV p).2.1).2.1.length<=60005;omega⟩
 have hsd:=λm=>x1gd (d+7) hn hsh m
 have hlt:=x1c2 hn (entX p)
 have hit:=λm=>w_Itoa (d+7) (n:=(x17t q.1 (entX p):Nat)) (by omega) (by omega) m
 obtain⟨m1,hm1⟩:∃m1:Mem,m1=m.new (u,29,16) (.row [Tx [],Tx []] 0 false):=⟨_,rfl⟩
 have g1:m1.get (u,29,16)=some (.row [Tx [],Tx []] 0 false):=by rw[hm1,Mem.get_new,x1rq rfl]
 obtain⟨m2,hm2⟩:∃m2:Mem,m2=m1.set (u,29,16) (.row (x17p [Tx [],Tx []] 0 (AV.agg (entX p).c).cells) 0 false):=⟨_,rfl⟩
 have g2:m2.get (u,29,16)=some (.row (entX p).c 0 false):=by rw[hm2,Mem.get_set,x1rq rfl];rfl
 have f2:∀j:Id,j≠(u,29,16)->m2.get j=m.get j:=λj hj=>by rw[hm2,Mem.get_set,x1rr hj,hm1,Mem.get_new,x1rr hj]
 have ho2:m2.get (0,6,5)=some (.row [v] 0 false):=by rw[f2 _ (by simp)];exact ho
 have hs2:m2.get (0,7,6)=some (.row [I q.1] 0 false):=by rw[f2 _ (by simp)];exact hs
 have ht2:m2.get (0,8,7)=some (.row [I q.2.2] 0 false):=by rw[f2 _ (by simp)];exact ht
 have hl2:m2.get lid=some (.lp none):=by rw[f2 _ (hne _ (by simp)).symm];exact hlp
 have hb2:m2.get (1,0,1)=m.get (1,0,1):=f2 _ (by simp)
 have hG2:Gk 2 Ent.c okR m2 v q.2.1:=hG.frame λj hj=>f2 j (by rintro rfl;cases hj)
 have hn2:m2.next=m.next:=by rw[hm2,hm1];rfl
 have lo:sLd false 1 (.ptr (0,6,5) 0 0) m2=some v:=ldSR ho2 hG.one.2
 have ls:sLd false 1 (.ptr (0,7,6) 0 0) m2=some (I q.1):=ldSR hs2 rfl
 have lt:sLd false 1 (.ptr (0,8,7) 0 0) m2=some (I q.2.2):=ldSR ht2 rfl
 have lx:sLd true 2 (.ptr (u,29,16) 0 0) m2=some (.agg (entX p).c):=by rw[x19l g2];rfl
 have hlen:sLen Tryz.prog x5 v=some (I q.2.1.length):=by
  rcases hG2 with ⟨h1,h2⟩|⟨id,ver,_,h1,_⟩
  .rw[h1,h2];exact x1cg x18i
  .rw[h1];rfl
 have bad:x18e q w=none->∃m2',sLpX lid (.exit 0) m2=some m2'/\(match x18e q w with
  |some q'=>MR lid q' m2'/\m2'.get lid=some (.lp none)/\m2'.get (1,0,1)=m.get (1,0,1)
  |none=>MR lid q m2'/\m2'.get lid=some (.lp (some (.exit 0)))):=λhst=>by
  rw[hst]
  refine⟨m2.set lid (.lp (some (.exit 0))),by unfold sLpX lpB;rw[hl2];rfl,⟨⟨v,by rw[Mem.get_set,x1rr (hne _ (by simp))];exact ho2,hG2.frame λj hj=>by rw[Mem.get_set,x1rr (hne _ (by rw[hj];decide))]⟩,by rw[Mem.get_set,x1rr (hne _ (by simp))];exact hs2,by rw[Mem.get_set,x1rr (hne _ (by simp))];exact ht2,by show 2<=m2.next;omega⟩,by rw[Mem.get_set,x1rq rfl]⟩
 unfold x3x xam
 rw[show(AV.sc (.string ⟨#[10]⟩))=Tx [10]from rfl,show(AV.sc (.string ⟨#[32]⟩))=Tx [32]from rfl]
 simp only[hlpn,x16y,hcs,x1aq,x1t4,x1t5,hc1,hc2,bl_ent,al_ent,Nat.reduceAdd]
 rw[<-hm1,show(AV.agg [Tx (cutV (cutV p).2.1).1,Tx (cutV (cutV p).2.1).2.1])=AV.agg (entX p).c from rfl,x19m (z:=2) (x:=.agg (entX p).c) g1 rfl (by simp) rfl,<-hm2]
 simp only[ls,lx,x16y,hsd,x18h]
 have hst0:endL w=false->x18e q w=none:=λe=>by unfold x18e;rw[e];rfl
 cases he:endL w with
 |false=>
  simp only[x1s0,x181,x182,x18w,sW_f,x1s3,x17n,x16y,x17l,x17j,x17b]
  exact bad (hst0 he)
 |true=>
  have hpe:p=w.dropLast:=by rw[hp,x1rq he]
  have hstep:x18e q w=if okX q.1 p&&!decide (q.2.1.length=40)then some (x17t q.1 (entX p),q.2.1++[entX p],q.2.2+w.length)else none:=by
   unfold x18e;rw[he,<-hpe,x1sm]
  have hbad:okX q.1 p=false->x18e q w=none:=λe=>by rw[hstep,e];rfl
  have hnm:(entX p).by_.length<=1000->∀m,x16v (x16z (d+8)) xm [Tx (cutV (cutV p).2.1).1] m=some (B (nmL (entX p).by_),m):=λhb m=>w_nmL (d+7) hb m
  have hnl:=entX_br (p:=p) (by rw[hpe,List.length_dropLast];omega)
  have hnm:=hnm hnl.1
  cases o1:(cutV p).2.2 with
  |false=>
   simp only[x1s3,x1s0,x181,x182,x18w,sW_f,x17n,x16y,x17l,x17j,x17b,x18h]
   exact bad (hbad (by unfold okX;rw[o1];rfl))
  |true=>
   cases o2:(cutV (cutV p).2.1).2.2 with
   |false=>
    simp only[x1s3,x1s0,x181,x182,x18w,sW_f,x17n,x16y,x17l,x17j,x17b,x18h]
    exact bad (hbad (by unfold okX;rw[o1,o2];rfl))
   |true=>
    cases o3:nmL (entX p).by_ with
    |false=>
     simp only[x1s3,x1s0,x181,x182,x18w,sW_f,x17n,x16y,x17l,x17j,x17b,x18h,hnm,o3]
     exact bad (hbad (by unfold okX;rw[o1,o2,o3];rfl))
    |true=>
     by_cases c4:(entX p).tx.length<=200
     .have c4':¬(200:Int)<((cutV (cutV p).2.1).2.1.length:Int):=by
       have:(cutV (cutV p).2.1).2.1.length<=200:=c4
       omega
      by_cases c5:(cutV p).1=decM (x17t q.1 (entX p))
      .have hok:okX q.1 p=true:=by unfold okX;rw[o1,o2,o3,x1sh c4,x1sh c5];rfl
       by_cases c6:q.2.1.length=40
       .have c6':((q.2.1.length:Int)=40):=by omega
        simp only[x1s3,x1s0,x181,x182,x18w,sW_f,x17n,x16y,x17l,x17j,x17b,x18h,hnm,o3,x17q,x189,c4',x1rx,hit,x_ne,c5,x1rw,lo,hlen,x1ap,c6']
        exact bad (by rw[hstep,hok,x1sh c6];rfl)
       .have c6':¬((q.2.1.length:Int)=40):=by omega
        have hst:x18e q w=some (x17t q.1 (entX p),q.2.1++[entX p],q.2.2+w.length):=by rw[hstep,hok,x1t6 c6];rfl
        obtain⟨v',m5,A5,G5,p1,p2,n5,f5⟩:=Gk.app (ok:=okR) (l:=q.2.1) (bytes:=32) (id0:=(u,69,81)) Ent.len (by omega) rfl (by unfold x17k;omega) hG2 (entX p)
        have ho5:m5.get (0,6,5)=some (.row [v] 0 false):=by rw[f5 _ (by unfold okR;simp)];exact ho2
        have hs5:m5.get (0,7,6)=some (.row [I q.1] 0 false):=by rw[f5 _ (by unfold okR;simp)];exact hs2
        have ht5:m5.get (0,8,7)=some (.row [I q.2.2] 0 false):=by rw[f5 _ (by unfold okR;simp)];exact ht2
        have lt5:sLd false 1 (.ptr (0,8,7) 0 0) m5=some (I q.2.2):=ldSR ht5 rfl
        have w1:w64 ((q.2.2:Int)+(w.length:Int))=((q.2.2+w.length:Nat):Int):=by rw[x17s (by omega) (by omega)];omega
        obtain⟨m6,hm6⟩:∃m6:Mem,m6=m5.set (0,6,5) (.row [v'] 0 false):=⟨_,rfl⟩
        obtain⟨m7,hm7⟩:∃m7:Mem,m7=m6.set (0,7,6) (.row [I (x17t q.1 (entX p))] 0 false):=⟨_,rfl⟩
        obtain⟨m8,hm8⟩:∃m8:Mem,m8=m7.set (0,8,7) (.row [I (q.2.2+w.length:Nat)] 0 false):=⟨_,rfl⟩
        have s6:∀{R:Type} (K:Mem->Option R),sSt 1 (.ptr (0,6,5) 0 0) v' m5 K=K m6:=λK=>by
         rw[x19m (z:=1) (x:=v') ho5 (by rw[p1];rfl) (by simp) (by rw[p1];simp[p2]),p1,hm6];rfl
        have s7:∀{R:Type} (K:Mem->Option R),sSt 1 (.ptr (0,7,6) 0 0) (I (x17t q.1 (entX p))) m6 K=K m7:=λK=>by
         rw[x19m (z:=1) (x:=I (x17t q.1 (entX p))) (m:=m6) (by rw[hm6,Mem.get_set,x1rr (by simp)];exact hs5) rfl (by simp) rfl,hm7];rfl
        have s8:∀{R:Type} (K:Mem->Option R),sSt 1 (.ptr (0,8,7) 0 0) (I (q.2.2+w.length:Nat)) m7 K=K m8:=λK=>by
         rw[x19m (z:=1) (x:=I (q.2.2+w.length:Nat)) (m:=m7) (by rw[hm7,Mem.get_set,x1rr (by simp),hm6,Mem.get_set,x1rr (by simp)];exact ht5) rfl (by simp) rfl,hm8];rfl
        have f8:∀j:Id,j≠(0,6,5)->j≠(0,7,6)->j≠(0,8,7)->m8.get j=m5.get j:=λj a b c=>by rw[hm8,Mem.get_set,x1rr c,hm7,Mem.get_set,x1rr b,hm6,Mem.get_set,x1rr a]
        have hl8:m8.get lid=some (.lp none):=by rw[f8 _ (hne _ (by simp)).symm (hne _ (by simp)).symm (hne _ (by simp)).symm,f5 _ (by unfold okR;rw[h0];decide)];exact hl2
        have ap1:x178 (tR (.ptr (0,6,5) 0 0)) (some [],some [(u,68,80)])=true:=by simp[tR,x178,disj]
        have ap2:x178 (some [],some [(u,68,80)]) (tR (.ptr (0,8,7) 0 0))=true:=by simp[tR,x178,disj]
        have ap3:x178 (tX (.slit (entX p).c 1 true),tA (u,69,81) v) (tR (.ptr (0,8,7) 0 0))=true:=by
         rcases hG2 with ⟨rfl,_⟩|⟨id,ver,hid,rfl,_⟩
         .simp[tX,tA,tR,x178,disj]
         .have:((0,8,7):Id)≠id:=by rintro rfl;cases hid
          simp[tX,tA,tR,x178,disj,this,Ne.symm this]
        have ap4:x178 (tR (.ptr (0,8,7) 0 0)) (tS (.ptr (0,6,5) 0 0))=true:=by simp[tR,tS,x178,disj]
        have ap5:x178 (tR (.ptr (0,8,7) 0 0)) (tS (.ptr (0,7,6) 0 0))=true:=by simp[tR,tS,x178,disj]
        rw[hst]
        simp only[x1s3,x1s0,x181,x182,x18w,sW_f,x17n,x16y,x17l,x17j,x17d,x18h,hnm,o3,x17q,x189,c4',x1rx,hit,x_ne,c5,x1rw,lo,hlen,x1ap,c6',lx]
        simp only[mk_ent,x1js,A5,lt5,x16y,x18m,w1,s6,s7,s8,ap1,ap2,ap3,ap4,ap5,x1ud,x17j]
        refine⟨m8,by unfold sLpN lpB;rw[hl8];rfl,⟨⟨v',by rw[hm8,Mem.get_set,x1rr (by simp),hm7,Mem.get_set,x1rr (by simp),hm6,Mem.get_set,x1rq rfl],G5.frame λj hj=>f8 j (by rintro rfl;cases hj) (by rintro rfl;cases hj) (by rintro rfl;cases hj)⟩,by rw[hm8,Mem.get_set,x1rr (by simp),hm7,Mem.get_set,x1rq rfl],by rw[hm8,Mem.get_set,x1rq rfl],by rw[hm8,hm7,hm6];show 2<=m5.next;omega⟩,hl8,?_⟩
        rw[f8 _ (by simp) (by simp) (by simp),f5 _ (by unfold okR;simp)];exact hb2
      .simp only[x1s3,x1s0,x181,x182,x18w,sW_f,x17n,x16y,x17l,x17j,x17b,x18h,hnm,o3,x17q,x189,c4',x1rx,hit,x_ne,c5,x1rw]
       exact bad (hbad (by unfold okX;rw[o1,o2,o3,x1sh c4,x1t6 c5];rfl))
     .have c4':(200:Int)<((cutV (cutV p).2.1).2.1.length:Int):=by
       have:¬(cutV (cutV p).2.1).2.1.length<=200:=c4
       omega
      simp only[x1s3,x1s0,x181,x182,x18w,sW_f,x17n,x16y,x17l,x17j,x17b,x18h,hnm,o3,x17q,x189,c4',x1rw]
      exact bad (hbad (by unfold okX;rw[o1,o2,o3,x1t6 c4];rfl))
end Go.Ix
