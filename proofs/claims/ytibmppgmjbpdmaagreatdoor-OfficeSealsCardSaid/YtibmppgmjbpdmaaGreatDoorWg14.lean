import Derived.Test.YtibmppgmjbpdmaaGreatDoorWg13
import Derived.Test.YtibmppgmjbpdmaaGreatDoorWg8
import Derived.Test.YtibmppgmjbpdmaaGreatDoorWg3
import Derived.Test.YtibmppgmjbpdmaaGreatDoorWg12
import Derived.Test.YtibmppgmjbpdmaaGreatDoorWg6
import Derived.Test.YtibmppgmjbpdmaaGreatDoorFxSound
set_option linter.unusedSimpArgs false
namespace Go.Ix
open Go.Proofs
end Go.Ix
set_option linter.unusedVariables false
namespace Go.Ix
open Go.Proofs
theorem x1lq{α:Type}{enc:α->List AV}{z bytes:Nat}(hz:∀x,(enc x).length=z){a:AV}{l:List α}(h:Sl enc a l)(hr:x17k l.length bytes)(id:Id)(m:Mem) :
 (l=[]/\∀{R:Type} (k:AV->Mem->Option R),sApp z bytes id (elems m.get z a) (.slit [] 0 true) m k=k (.slit [] 0 true) m) \/
 (l≠[]/\∀{R:Type} (k:AV->Mem->Option R),sApp z bytes id (elems m.get z a) (.slit [] 0 true) m k=k (.sref id 0 0 l.length z true) (m.new id (.row (l.flatMap enc) 0 false))):=by
 have he:=h.elems hz m.get
 by_cases hq:l.length=0
 .refine .inl ⟨x1tv.mp hq,λk=>?_⟩
  rw[he,x1ix hr,x1sh hq]
  rfl
 .refine .inr ⟨λe=>hq (by rw[e];rfl),λk=>?_⟩
  rw[he,x1ix hr,x1t6 hq]
  rfl
theorem frz_row10{α:Type}{enc:α->List AV}{z k:Nat}(hz:∀x,(enc x).length=z)(hs:∀x,(enc x).all still1=true){objs:Id->Option Ob}{id:Id}{l:List α}{x:Bool}(hg:objs id=some (.row (l.flatMap enc) 0 false)) :
 frz objs (k+2) (.sref id 0 0 l.length z x)=some (.slit (l.flatMap enc) l.length false):=by
 have hl:=x19k hz l
 have:=x1cj (objs:=objs) (id:=id) (cs:=l.flatMap enc) (ver:=0) (off:=0) (n:=l.length) (z:=z) (k:=k) (f:=false) (x:=x) hg (by omega) (by
  rw[x1sg,x1s7 (by omega)];exact x1bb hs l)
 rw[x1sg,x1s7 (by omega)]at this
 exact this
end Go.Ix
set_option maxRecDepth 10000
namespace Go.Ix
open Go.Proofs
def nmL(l:List UInt8):Bool:=nmOK ⟨l.toArray⟩
def alE:List Ent->Int
 |[]=>0
 |x::r=>if nmL x.by_=false then 4 else if 200<x.tx.length then 8 else if(10:UInt8)∈x.tx then 7 else alE r
def x19w(L:List Ent):Int:=if 40<L.length then 8 else alE L
theorem x1lr(d:Nat)(l:List UInt8)(c:UInt8)(m:Mem):x16v (x16z (d+5)) x1f [Tx l,Tx [c]] m=some (B (decide (c∈l)),m):=by
 refine Ans.call0 (m:=m) ?_ rfl rfl
 unfold Ans
 rw[xzq]
 unfold xac x8y
 have h:decide (0<=Lib.indexByte l c)=decide (c∈l):=by
  rcases x1dh c l with ⟨h1,h2⟩|⟨i,h1,h2,h3,h4⟩
  .rw[h1];simp[h2]
  .have:c∈l:=x1v1 (by rw[h4];exact x1sc)
   rw[h1];simp[this]
 simp only[w_Index1,x16y,sGe_I,h]
 exact⟨_,rfl⟩
theorem w_nmL(d:Nat){l:List UInt8}(hl:l.length<=1000)(m:Mem):x16v (x16z (d+1)) xm [Tx l] m=some (B (nmL l),m):=
 x1lm d ⟨l.toArray⟩ m (by rw[x1a7];exact hl)
theorem w_rnmL(d:Nat)(l:List UInt8)(m:Mem):x16v (x16z (d+1)) xy [Tx l] m=some (B (nmL l),m):=
 w_IsName d ⟨l.toArray⟩ m
def Br10(x:Ent):Prop:=x.by_.length<=1000/\x.tx.length<=1000
theorem Br10.sh{x:Ent}(h:Br10 x):Sh10 x:=⟨by have:=h.1;omega,by have:=h.2;omega⟩
theorem l_alone(d:Nat)(u:Nat){a:AV}{L:List Ent}(ha:Sl Ent.c a L)(hL:∀x∈L,Br10 x)(hl:L.length<=100000):∀(suf:List Ent) (k j:Nat) (m:Mem) (fc:Nat),L.drop k=suf->suf.length<j ->
 ∃m',x2t (x16z (d+5)) [] u j a (I L.length) (I k) m fc=some (I (alE suf),m')
 |[],k,j,m,fc,hd,hj=>by
  obtain⟨j,rfl⟩:∃i,j=i+1:=⟨j-1,by simp at hj;omega⟩
  have hk:¬((k:Int)<(L.length:Int)):=by have:=x1sw.mp hd;omega
  simp only[x2t]
  unfold x8m xbo
  simp only[x180,hk,x1rx,x16y,x17d]
  exact⟨m,rfl⟩
 |e::r,k,j,m,fc,hd,hj=>by
  obtain⟨j,rfl⟩:∃i,j=i+1:=⟨j-1,by simp at hj;omega⟩
  obtain⟨hk,he,hd⟩:=x197 hd
  have hk':(k:Int)<(L.length:Int):=by omega
  have ix:=ha.ix Ent.len hk
  have ld:=x1cq (m:=m) hk
  rw[he]at ld
  have hsh:=hL e (by rw[<-he];exact x1sz hk)
  have w1:w64 ((k:Int)+1)=((k+1:Nat):Int):=by rw[x17s (by omega) (by omega)];omega
  obtain⟨m1,hm1⟩:∃m1:Mem,m1=m.new (u,fc+3,4) (.row [Tx [],Tx []] 0 false):=⟨_,rfl⟩
  have g1:m1.get (u,fc+3,4)=some (.row [Tx [],Tx []] 0 false):=by rw[hm1,Mem.get_new,x1rq rfl]
  obtain⟨m2,hm2⟩:∃m2:Mem,m2=m1.set (u,fc+3,4) (.row (x17p [Tx [],Tx []] 0 (AV.agg e.c).cells) 0 false):=⟨_,rfl⟩
  have g2:m2.get (u,fc+3,4)=some (.row e.c 0 false):=by rw[hm2,Mem.get_set,x1rq rfl];rfl
  have l0:sLd false 1 (.ptr (u,fc+3,4) 0 0) m2=some (Tx e.by_):=by rw[x19l g2];rfl
  have l1:sLd false 1 (.ptr (u,fc+3,4) 0 1) m2=some (Tx e.tx):=by rw[x19l g2];rfl
  obtain⟨m3,ih⟩:=l_alone d u ha hL hl r (k+1) j m2 (fc+21) hd (by simp at hj;omega)
  have hnm:=λm=>w_nmL (d+4) hsh.1 m
  simp only[x2t]
  unfold x8m
  simp only[x180,hk',x1rw,x17b,x16y,ix,ld,x1eg,x1c1]
  rw[<-hm1,x19m (z:=2) (x:=.agg e.c) g1 rfl (by simp) rfl,<-hm2,show(AV.sc (.string ⟨#[10]⟩))=Tx [10]from rfl]
  simp only[x1ee,x1su,x1tc,l0,l1,x16y,hnm,x18h,x17q,x189]
  unfold alE
  cases h1:nmL e.by_ with
  |false=>
   simp only[x1s0,x17b,x1s6]
   exact⟨_,rfl⟩
  |true=>
   simp only[x1s3,x17d,Bool.true_eq_false,x1s1]
   by_cases h2:200<e.tx.length
   .have h2':(200:Int)<(e.tx.length:Int):=by omega
    simp only[h2,h2',x1rw,x17b,x1s6]
    exact⟨_,rfl⟩
   .have h2':¬(200:Int)<(e.tx.length:Int):=by omega
    have hct:=λm=>x1lr d e.tx 10 m
    simp only[h2,h2',x1rx,x17d,x1s1,hct,x16y]
    by_cases h3:(10:UInt8)∈e.tx
    .simp only[h3,x1rw,x17b,x1s6]
     exact⟨_,rfl⟩
    .simp only[h3,x1rx,x17d,x1s1,x18m,x16y,w1]
     exact⟨m3,ih⟩
theorem w_alone(d:Nat){a:AV}{L:List Ent}(ha:Sl Ent.c a L)(hL:∀x∈L,Br10 x)(hl:L.length<=100000)(m:Mem):x16v (x16z (d+6)) x1e [a] m=some (I (x19w L),m):=by
 refine Ans.call0 (m:=m) ?_ (by simp[ha.still]) rfl
 unfold Ans
 rw[xzj]
 unfold xa4 x8n
 dsimp only
 simp only[ha.len x18i,x16y,x189]
 unfold x19w
 by_cases h:40<L.length
 .have h':(40:Int)<(L.length:Int):=by omega
  simp only[h,h',x1rw,x17b,x1s6]
  exact⟨_,rfl⟩
 .have h':¬(40:Int)<(L.length:Int):=by omega
  simp only[h,h',x1rx,x17d,x1s1]
  unfold xbp
  simp only[ha.len x18i,x16y]
  exact l_alone d _ ha hL hl L 0 NN _ _ rfl (by rw[x18s];omega)
theorem cut_one{c:UInt8}(l:List UInt8):(1<(cutM c l).length)↔c∈l:=by
 constructor
 .intro h
  rcases Classical.em (c∈l)with h1|h1
  .exact h1
  .rw[x1cl h1]at h;simp at h
 .intro h
  rw[x1jb]
  have:=List.count_pos_iff.2 h
  omega
theorem x1jk(d:Nat)(u:Nat){a:AV}{L:List Ent}(ha:Sl Ent.c a L)(hL:∀x∈L,Br10 x)(hl:L.length<=100000):∀(suf:List Ent) (k j:Nat) (m:Mem) (fc:Nat),L.drop k=suf->suf.length<j ->
 ∃m',x2m (x16z (d+1)) [] u j a (I k) m fc=some (I (alE suf),m')
 |[],k,j,m,fc,hd,hj=>by
  obtain⟨j,rfl⟩:∃i,j=i+1:=⟨j-1,by simp at hj;omega⟩
  have hk:¬((k:Int)<(L.length:Int)):=by have:=x1sw.mp hd;omega
  simp only[x2m]
  unfold x7z xau
  simp only[ha.len x18i,x180,hk,x1rx,x16y,x17d]
  exact⟨m,rfl⟩
 |e::r,k,j,m,fc,hd,hj=>by
  obtain⟨j,rfl⟩:∃i,j=i+1:=⟨j-1,by simp at hj;omega⟩
  obtain⟨hk,he,hd⟩:=x197 hd
  have hk':(k:Int)<(L.length:Int):=by omega
  have ix:=ha.ix Ent.len hk
  have f0:=λm=>x1cm (enc:=Ent.c) (m:=m) hk 0 rfl
  have f1:=λm=>x1cm (enc:=Ent.c) (m:=m) hk 1 rfl
  simp only[he]at f0 f1
  have hsh:=hL e (by rw[<-he];exact x1sz hk)
  have w1:w64 ((k:Int)+1)=((k+1:Nat):Int):=by rw[x17s (by omega) (by omega)];omega
  obtain⟨m3,ih⟩:=x1jk d u ha hL hl r (k+1) j m (fc+29) hd (by simp at hj;omega)
  obtain⟨xs,hxs,hcut⟩:=w_Cut (d:=d) 10 (l:=e.tx) (by have:=hsh.2;omega)
  have hcut':∀m,x16v (x16z (d+1)) xh [Tx e.tx,AV.sc (.int .u8 10)] m=some (xs,m):=hcut
  simp only[x2m]
  unfold x7z
  simp only[ha.len x18i,x180,hk',x1rw,x17b,x16y,ix,x1ef,f0,f1,w_rnmL,x18h,x17q,x189,hcut',hxs.len x1cp]
  unfold alE
  cases h1:nmL e.by_ with
  |false=>
   simp only[x1s0,x17b,x1s6]
   exact⟨_,rfl⟩
  |true=>
   simp only[x1s3,x17d,Bool.true_eq_false,x1s1]
   by_cases h2:200<e.tx.length
   .have h2':(200:Int)<(e.tx.length:Int):=by omega
    simp only[h2,h2',x1rw,x17b,x1s6]
    exact⟨_,rfl⟩
   .have h2':¬(200:Int)<(e.tx.length:Int):=by omega
    simp only[h2,h2',x1rx,x17d,x1s1]
    by_cases h3:(10:UInt8)∈e.tx
    .have h3':(1:Int)<((cutM 10 e.tx).length:Int):=by have:=(cut_one e.tx).2 h3;omega
     simp only[h3,h3',x1rw,x17b,x1s6]
     exact⟨_,rfl⟩
    .have h3':¬(1:Int)<((cutM 10 e.tx).length:Int):=λh=>h3 ((cut_one e.tx).1 (by omega))
     simp only[h3,h3',x1rx,x17d,x1s1,x18m,x16y,w1]
     exact⟨m3,ih⟩
theorem x1ls(d:Nat){a:AV}{L:List Ent}(ha:Sl Ent.c a L)(hL:∀x∈L,Br10 x)(hl:L.length<=100000)(m:Mem):x16v (x16z (d+2)) x1x [a] m=some (I (x19w L),m):=by
 refine Ans.call0 (m:=m) ?_ (by simp[ha.still]) rfl
 unfold Ans
 rw[xz7]
 unfold x9t x80
 dsimp only
 simp only[ha.len x18i,x16y,x189]
 unfold x19w
 by_cases h:40<L.length
 .have h':(40:Int)<(L.length:Int):=by omega
  simp only[h,h',x1rw,x17b,x1s6]
  exact⟨_,rfl⟩
 .have h':¬(40:Int)<(L.length:Int):=by omega
  simp only[h,h',x1rx,x17d,x1s1]
  unfold xav
  exact x1jk d _ ha hL hl L 0 NN _ _ rfl (by rw[x18s];omega)
theorem x1jl(d:Nat){a:AV}{L:List Ent}(ha:Sl Ent.c a L)(hl:L.length<=1000000)(m:Mem):∃b,Sl Ent.c b L/\x16v (x16z (d+1)) x1b [a] m=some (b,m):=by
 refine callF (by simp[ha.still]) ?_ m
 rw[xz5]
 unfold x9r x7w
 have key:∀(s t:Nat) (m:Mem),∃b m2 b',Sl Ent.c b' L/\Go.Ix.frz m2.get deep b=some b'/\∀{R:Type} (k:AV->Mem->Option R),sApp 2 32 (0,s,t) (elems m.get 2 a) (.slit [] 0 true) m k=k b m2:=by
  intro s t m
  rcases x1lq Ent.len ha (by unfold x17k;omega:x17k L.length 32) (0,s,t) m with ⟨rfl,h1⟩|⟨h0,h1⟩
  .exact⟨.slit [] 0 true,m,.slit [] 0 true,Sl.lit [] true,rfl,h1⟩
  .exact⟨_,_,.slit (L.flatMap Ent.c) L.length false,Sl.lit L false,frz_row10 (k:=4) Ent.len Ent.stl (by simp),h1⟩
 obtain⟨b,m2,b',h1,h2,h3⟩:=key 3 5 (⟨[],1⟩:Mem)
 simp[mem0,x1c1,x17g,x1b1,x186,h3]
 exact RetF.mk h2 h1
theorem x1lt(d:Nat)(t:TypeId)(s:ByteArray)(h:Tryz.prog.underlying t=some .string):x175 Tryz.prog (Op.equalIn (d+1) t (.string s) (.string s))=some true:=by
 simp[Op.equalIn,x1a8,x1jd h,x1di]
 first|exact beq_self_eq_true s|(cases s with|mk a=>show(a == a)=true;simp)|exact x1sh rfl
theorem ne_entry(X Y:Operand)(x:Ent):sBin Tryz.prog .neq xd X Y (.agg x.c) (.agg x.c)=some (B false):=by
 obtain⟨a,b⟩:=x
 generalize hs:(⟨a.toArray⟩:ByteArray)=s
 generalize ht:(⟨b.toArray⟩:ByteArray)=t
 have hS:Tryz.prog.underlying xd=some (.struct (Tryz.prog.fieldsOf xd)):=by kernel_rfl
 have hp:Tryz.prog.stoodInHeld xd=false:=by kernel_rfl
 have hF:((Tryz.prog.fieldsOf xd).toList.map λf=>(f.type,f.offset,decide (f.name = "_")))=[(x0,0,false),(x0,1,false)]:=by kernel_rfl
 have p0:x175 Tryz.prog (part x0 #[.string s,.string t] 0)=some (.string s):=by kernel_rfl
 have p1:x175 Tryz.prog (part x0 #[.string s,.string t] 1)=some (.string t):=by kernel_rfl
 have key:x175 Tryz.prog (Op.equalIn 10000 xd (.agg #[.string s,.string t]) (.agg #[.string s,.string t]))=some true:=by
  rw[show(10000:Nat)=9998+1+1 from rfl,x1ln _ _ _ _ hS hp]
  generalize (Tryz.prog.fieldsOf xd).toList=fs at hF
  have hl:=congrArg List.length hF
  simp only[x1u0,x1s5,x1sn]at hl
  match fs,hl with
  |[f0,f1],_=>
   simp only[x1s9,x1sk,x1up,x1rs,and_true,decide_eq_false_iff_not]at hF
   obtain⟨⟨t0,o0,n0⟩,t1,o1,n1⟩:=hF
   have q0:∀s:ByteArray,x175 Tryz.prog (Op.equalIn 9999 x0 (.string s) (.string s))=some true:=λs=>x1lt 9998 _ s (by kernel_rfl)
   simp only[Op.eqFields,n0,n1,ne_eq,not_false_eq_true,x1s6,t0,t1,o0,o1,x1a8,p0,p1,x16y,q0]
   simp[x1di,x1a8,p0,p1,q0]
 have:=x1lp (P:=Tryz.prog) (t:=xd) (r:=true) (x:=X) (y:=Y) (xs:=[.string s,.string t]) (ys:=[.string s,.string t]) (by kernel_rfl) key ⟨[T s,T t],rfl⟩ [T s,T t] [T s,T t] rfl rfl
 subst hs ht
 exact this
theorem x1jm(call:x16u)(hs:FHs)(u:Nat){a b:AV}{L:List Ent}(ha:Sl Ent.c a L)(hb:Sl Ent.c b L)(hl:L.length<1000000):∀(suf:List Ent) (k j:Nat) (m:Mem) (fc:Nat),L.drop k=suf->suf.length<j ->
 x2k call hs u j a b (I k) m fc=some (B true,m)
 |[],k,j,m,fc,hd,hj=>by
  obtain⟨j,rfl⟩:∃i,j=i+1:=⟨j-1,by simp at hj;omega⟩
  have hk:¬((k:Int)<(L.length:Int)):=by have:=x1sw.mp hd;omega
  simp only[x2k]
  unfold x7t xaq
  simp only[ha.len x18i,x180,hk,x1rx,x16y,x17d]
 |e::r,k,j,m,fc,hd,hj=>by
  obtain⟨j,rfl⟩:∃i,j=i+1:=⟨j-1,by simp at hj;omega⟩
  obtain⟨hk,he,hd⟩:=x197 hd
  have hk':(k:Int)<(L.length:Int):=by omega
  have ix:=ha.ix Ent.len hk
  have ix2:=hb.ix Ent.len hk
  have ld:=x1cq (m:=m) hk
  have w1:w64 ((k:Int)+1)=((k+1:Nat):Int):=by rw[x17s (by omega) (by omega)];omega
  have ih:=x1jm call hs u ha hb hl r (k+1) j m (fc+16) hd (by simp at hj;omega)
  simp only[x2k]
  unfold x7t
  simp only[ha.len x18i,x180,hk',x1rw,x17b,x16y,ix,ix2,ld,ne_entry,x17d,x18m,w1]
  exact ih
theorem w_SameLog(d:Nat){a b:AV}{L:List Ent}(ha:Sl Ent.c a L)(hb:Sl Ent.c b L)(hl:L.length<1000000)(m:Mem):x16v (x16z (d+1)) x1v [a,b] m=some (B true,m):=by
 refine Ans.call0 (m:=m) ?_ (by simp[ha.still,hb.still]) rfl
 unfold Ans
 rw[xz3]
 unfold x9p x7u xar
 dsimp only
 simp only[ha.len x18i,hb.len x18i,x16y,x19u,x1rw,x1s3,x17d]
 exact⟨_,x1jm _ _ _ ha hb hl L 0 NN _ _ rfl (by rw[x18s];omega)⟩
def x1bc(L:List Ent):Bool:=L.all λx=>decide (x.by_.length<=20)&&decide (x.tx.length<=220)
theorem l_Brief(call:x16u)(hs:FHs)(u:Nat){a:AV}{L:List Ent}(ha:Sl Ent.c a L):∀(suf:List Ent) (k j:Nat) (m:Mem) (fc:Nat),L.drop k=suf->suf.length<j->L.length<=9223372036854775807 ->
 x2i call hs u j a (I k) m fc=some (B (x1bc suf&&(decide (L.length<=20)||(decide (40<L.length)&&decide (L.length<=42)))),m)
 |[],k,j,m,fc,hd,hj,hl=>by
  obtain⟨j,rfl⟩:∃i,j=i+1:=⟨j-1,by simp at hj;omega⟩
  have hk:¬((k:Int)<(L.length:Int)):=by have:=x1sw.mp hd;omega
  simp only[x2i]
  unfold x7p xak
  simp only[ha.len x18i,x180,hk,x1rx,x16y,x17d,x1cf,x181,x182,sW_f,sW_t]
  have e1:decide ((L.length:Int)<=20)=decide (L.length<=20):=decide_eq_decide.2 (by omega)
  have e2:decide ((40:Int)<(L.length:Int))=decide (40<L.length):=decide_eq_decide.2 (by omega)
  have e3:decide ((L.length:Int)<=42)=decide (L.length<=42):=decide_eq_decide.2 (by omega)
  rw[e1]
  cases c1:decide (L.length<=20)
  .simp only[x1s0,x17j,x16y,ha.len x18i,x189,e2,sW_t]
   cases c2:decide (40<L.length)
   .simp only[x17n,x16y,x17l,x1bc,x1uq,x1sm,x1v6,Bool.or_false,Bool.or_self]
   .simp only[x17j,x16y,ha.len x18i,x1cf,e3,x17l,x1bc,x1uq,x1sm,Bool.false_or,x17n]
  .simp only[x1s3,x17n,x16y,x17l,x17j,x1bc,x1uq,x1sm,Bool.true_or,show sW U true=false from rfl]
 |e::r,k,j,m,fc,hd,hj,hl=>by
  obtain⟨j,rfl⟩:∃i,j=i+1:=⟨j-1,by simp at hj;omega⟩
  obtain⟨hk,he,hd⟩:=x197 hd
  have hk':(k:Int)<(L.length:Int):=by omega
  have ix:=ha.ix Ent.len hk
  have f0:=λm=>x1cm (enc:=Ent.c) (m:=m) hk 0 rfl
  have f1:=λm=>x1cm (enc:=Ent.c) (m:=m) hk 1 rfl
  simp only[he]at f0 f1
  have w1:w64 ((k:Int)+1)=((k+1:Nat):Int):=by rw[x17s (by omega) (by omega)];omega
  have ih:=l_Brief call hs u ha r (k+1) j m (fc+23) hd (by simp at hj;omega) hl
  simp only[x2i]
  unfold x7p
  simp only[ha.len x18i,x180,hk',x1rw,x17b,x16y,ix,x1ef,f0,x17q,x189,x181,x182,sW_f]
  simp only[x1bc,x1t7]at ih ⊢
  by_cases c1:e.by_.length<=20
  .have c1':¬(20:Int)<(e.by_.length:Int):=by omega
   simp only[c1,c1',x1rx,x1rw,x1s0,x17j,x16y,ix,x1ef,f1,x17q,x189,x17l,x17n,x1sm]
   by_cases c2:e.tx.length<=220
   .have c2':¬(220:Int)<(e.tx.length:Int):=by omega
    simp only[c2,c2',x1rx,x1rw,x17d,x18m,x16y,w1,x1sm]
    exact ih
   .have c2':(220:Int)<(e.tx.length:Int):=by omega
    simp only[c2,c2',x1rx,x1rw,x17b,x1v6]
  .have c1':(20:Int)<(e.by_.length:Int):=by omega
   simp only[c1,c1',x1rx,x1rw,x1s3,x17n,x16y,x17l,x17j,x17b,x1v6]
end Go.Ix
