import Derived.Test.YtibmppgmjbpdmaaGreatDoorWg12
import Derived.Test.YtibmppgmjbpdmaaGreatDoorWg7
import Derived.Test.YtibmppgmjbpdmaaGreatDoorWg3
import Derived.Test.YtibmppgmjbpdmaaGreatDoorWg11
import Derived.Test.YtibmppgmjbpdmaaGreatDoorWg6
import Derived.Test.YtibmppgmjbpdmaaGreatDoorFxSound
import Derived.Test.YtibmppgmjbpdmaaGreatDoorWg4
set_option linter.unusedSimpArgs false
namespace Go.Ix
open Go.Proofs
end Go.Ix
set_option linter.unusedVariables false
namespace Go.Ix
open Go.Proofs
theorem x1j8{α:Type}{enc:α->List AV}{z bytes:Nat}(hz:∀x,(enc x).length=z){a:AV}{l:List α}(h:Sl enc a l)(hr:x15e l.length bytes)(id:Id)(m:Mem) :
 (l=[]/\∀{R:Type} (k:AV->Mem->Option R),sApp z bytes id (elems m.get z a) (.slit [] 0 true) m k=k (.slit [] 0 true) m) \/
 (l≠[]/\∀{R:Type} (k:AV->Mem->Option R),sApp z bytes id (elems m.get z a) (.slit [] 0 true) m k=k (.sref id 0 0 l.length z true) (m.new id (.row (l.flatMap enc) 0 false))):=by
 have he:=h.elems hz m.get
 by_cases hq:l.length=0
 .refine .inl ⟨List.length_eq_zero_iff.mp hq,λk=>?_⟩
  rw[he,x1gm hr,x1pm hq]
  rfl
 .refine .inr ⟨λe=>hq (by rw[e];rfl),λk=>?_⟩
  rw[he,x1gm hr,x1q2 hq]
  rfl
theorem frz_row10{α:Type}{enc:α->List AV}{z k:Nat}(hz:∀x,(enc x).length=z)(hs:∀x,(enc x).all still1=true){objs:Id->Option Ob}{id:Id}{l:List α}{x:Bool}(hg:objs id=some (.row (l.flatMap enc) 0 false)) :
 frz objs (k+2) (.sref id 0 0 l.length z x)=some (.slit (l.flatMap enc) l.length false):=by
 have hl:=x172 hz l
 have:=x1ac (objs:=objs) (id:=id) (cs:=l.flatMap enc) (ver:=0) (off:=0) (n:=l.length) (z:=z) (k:=k) (f:=false) (x:=x) hg (by omega) (by
  rw[x1po,x1pf (by omega)];exact x196 hs l)
 rw[x1po,x1pf (by omega)]at this
 exact this
end Go.Ix
set_option maxRecDepth 10000
namespace Go.Ix
open Go.Proofs
def nmL(l:List UInt8):Bool:=nmOK ⟨l.toArray⟩
def alE:List Ent->Int
 |[]=>0
 |x::r=>if nmL x.by_=false then 4 else if 200<x.tx.length then 8 else if(10:UInt8)∈x.tx then 7 else alE r
def x16z(L:List Ent):Int:=if 40<L.length then 8 else alE L
theorem x1j9(d:Nat)(l:List UInt8)(c:UInt8)(m:Mem):x14q (x14z (d+5)) x18 [Tx l,Tx [c]] m=some (B (decide (c∈l)),m):=by
 refine Ans.call0 (m:=m) ?_ rfl rfl
 unfold Ans
 rw[xxu]
 unfold x8y x7t
 have h:decide (0<=Lib.indexByte l c)=decide (c∈l):=by
  rcases x1b3 c l with ⟨h1,h2⟩|⟨i,h1,h2,h3,h4⟩
  .rw[h1];simp[h2]
  .have:c∈l:=x1rw (by rw[h4];exact x1pp)
   rw[h1];simp[this]
 simp only[w_Index1,x14w,sGe_I,h]
 exact⟨_,rfl⟩
theorem w_nmL(d:Nat){l:List UInt8}(hl:l.length<=1000)(m:Mem):x14q (x14z (d+1)) xk [Tx l] m=some (B (nmL l),m):=
 x1j4 d ⟨l.toArray⟩ m (by rw[x18j];exact hl)
def Br10(x:Ent):Prop:=x.by_.length<=1000/\x.tx.length<=1000
theorem Br10.sh{x:Ent}(h:Br10 x):Sh10 x:=⟨by have:=h.1;omega,by have:=h.2;omega⟩
theorem l_alone(d:Nat)(u:Nat){a:AV}{L:List Ent}(ha:Sl Ent.c a L)(hL:∀x∈L,Br10 x)(hl:L.length<=100000):∀(suf:List Ent) (k j:Nat) (m:Mem) (fc:Nat),L.drop k=suf->suf.length<j ->
 ∃m',x2a (x14z (d+5)) [] u j a (I L.length) (I k) m fc=some (I (alE suf),m')
 |[],k,j,m,fc,hd,hj=>by
  obtain⟨j,rfl⟩:∃i,j=i+1:=⟨j-1,by simp at hj;omega⟩
  have hk:¬((k:Int)<(L.length:Int)):=by have:=x1rb.mp hd;omega
  simp only[x2a]
  unfold x7m x9x
  simp only[x16y,hk,x1pc,x14w,x15k]
  exact⟨m,rfl⟩
 |e::r,k,j,m,fc,hd,hj=>by
  obtain⟨j,rfl⟩:∃i,j=i+1:=⟨j-1,by simp at hj;omega⟩
  obtain⟨hk,he,hd⟩:=x1aa hd
  have hk':(k:Int)<(L.length:Int):=by omega
  have ix:=ha.ix Ent.len hk
  have ld:=ld_ent (m:=m) hk
  rw[he]at ld
  have hsh:=hL e (by rw[<-he];exact x1qb hk)
  have w1:w64 ((k:Int)+1)=((k+1:Nat):Int):=by rw[x16a (by omega) (by omega)];omega
  obtain⟨m1,hm1⟩:∃m1:Mem,m1=m.new (u,fc+3,4) (.row [Tx [],Tx []] 0 false):=⟨_,rfl⟩
  have g1:m1.get (u,fc+3,4)=some (.row [Tx [],Tx []] 0 false):=by rw[hm1,Mem.get_new,x1p0 rfl]
  obtain⟨m2,hm2⟩:∃m2:Mem,m2=m1.set (u,fc+3,4) (.row (x15h [Tx [],Tx []] 0 (AV.agg e.c).cells) 0 false):=⟨_,rfl⟩
  have g2:m2.get (u,fc+3,4)=some (.row e.c 0 false):=by rw[hm2,Mem.get_set,x1p0 rfl];rfl
  have l0:sLd false 1 (.ptr (u,fc+3,4) 0 0) m2=some (Tx e.by_):=by rw[x195 g2];rfl
  have l1:sLd false 1 (.ptr (u,fc+3,4) 0 1) m2=some (Tx e.tx):=by rw[x195 g2];rfl
  obtain⟨m3,ih⟩:=l_alone d u ha hL hl r (k+1) j m2 (fc+21) hd (by simp at hj;omega)
  have hnm:=λm=>w_nmL (d+4) hsh.1 m
  simp only[x2a]
  unfold x7m
  simp only[x16y,hk',x1pb,x15f,x14w,ix,ld,x1ds,x1ae]
  rw[<-hm1,x180 (z:=2) (x:=.agg e.c) g1 rfl (by simp) rfl,<-hm2,show(AV.sc (.string ⟨#[10]⟩))=Tx [10]from rfl]
  simp only[x1dr,x1q5,x1qn,l0,l1,x14w,hnm,x16k,x16c,x17g]
  unfold alE
  cases h1:nmL e.by_ with
  |false=>
   simp only[x1pa,x15f,x1pk]
   exact⟨_,rfl⟩
  |true=>
   simp only[x1pe,x15k,Bool.true_eq_false,x1p9]
   by_cases h2:200<e.tx.length
   .have h2':(200:Int)<(e.tx.length:Int):=by omega
    simp only[h2,h2',x1pb,x15f,x1pk]
    exact⟨_,rfl⟩
   .have h2':¬(200:Int)<(e.tx.length:Int):=by omega
    have hct:=λm=>x1j9 d e.tx 10 m
    simp only[h2,h2',x1pc,x15k,x1p9,hct,x14w]
    by_cases h3:(10:UInt8)∈e.tx
    .simp only[h3,x1pb,x15f,x1pk]
     exact⟨_,rfl⟩
    .simp only[h3,x1pc,x15k,x1p9,x17f,x14w,w1]
     exact⟨m3,ih⟩
theorem w_alone(d:Nat){a:AV}{L:List Ent}(ha:Sl Ent.c a L)(hL:∀x∈L,Br10 x)(hl:L.length<=100000)(m:Mem):x14q (x14z (d+6)) x17 [a] m=some (I (x16z L),m):=by
 refine Ans.call0 (m:=m) ?_ (by simp[ha.still]) rfl
 unfold Ans
 rw[xxp]
 unfold x8s x7n
 dsimp only
 simp only[ha.len x16u,x14w,x17g]
 unfold x16z
 by_cases h:40<L.length
 .have h':(40:Int)<(L.length:Int):=by omega
  simp only[h,h',x1pb,x15f,x1pk]
  exact⟨_,rfl⟩
 .have h':¬(40:Int)<(L.length:Int):=by omega
  simp only[h,h',x1pc,x15k,x1p9]
  unfold x9y
  simp only[ha.len x16u,x14w]
  exact l_alone d _ ha hL hl L 0 NN _ _ rfl (by rw[x197];omega)
theorem w_CopyLog(d:Nat){a:AV}{L:List Ent}(ha:Sl Ent.c a L)(hl:L.length<=1000000)(m:Mem):∃b,Sl Ent.c b L/\x14q (x14z (d+1)) x1n [a] m=some (b,m):=by
 refine callF (by simp[ha.still]) ?_ m
 rw[xxg]
 unfold x8k x7a
 have key:∀(s t:Nat) (m:Mem),∃b m2 b',Sl Ent.c b' L/\Go.Ix.frz m2.get deep b=some b'/\∀{R:Type} (k:AV->Mem->Option R),sApp 2 32 (0,s,t) (elems m.get 2 a) (.slit [] 0 true) m k=k b m2:=by
  intro s t m
  rcases x1j8 Ent.len ha (by unfold x15e;omega:x15e L.length 32) (0,s,t) m with ⟨rfl,h1⟩|⟨h0,h1⟩
  .exact⟨.slit [] 0 true,m,.slit [] 0 true,Sl.lit [] true,rfl,h1⟩
  .exact⟨_,_,.slit (L.flatMap Ent.c) L.length false,Sl.lit L false,frz_row10 (k:=4) Ent.len Ent.stl (by simp),h1⟩
 obtain⟨b,m2,b',h1,h2,h3⟩:=key 3 5 (⟨[],1⟩:Mem)
 simp[mem0,x1ae,x15c,x18u,x15z,h3]
 exact RetF.mk h2 h1
theorem x1ja(d:Nat)(t:TypeId)(s:ByteArray)(h:Tryz.prog.underlying t=some .string):x150 Tryz.prog (Op.equalIn (d+1) t (.string s) (.string s))=some true:=by
 simp[Op.equalIn,x182,x1h2 h,x1b4]
 first|exact beq_self_eq_true s|(cases s with|mk a=>show(a == a)=true;simp)|exact x1pm rfl
theorem ne_entry(X Y:Operand)(x:Ent):sBin Tryz.prog .neq xb X Y (.agg x.c) (.agg x.c)=some (B false):=by
 obtain⟨a,b⟩:=x
 generalize hs:(⟨a.toArray⟩:ByteArray)=s
 generalize ht:(⟨b.toArray⟩:ByteArray)=t
 have hS:Tryz.prog.underlying xb=some (.struct (Tryz.prog.fieldsOf xb)):=by kernel_rfl
 have hp:Tryz.prog.stoodInHeld xb=false:=by kernel_rfl
 have hF:((Tryz.prog.fieldsOf xb).toList.map λf=>(f.type,f.offset,decide (f.name = "_")))=[(x0,0,false),(x0,1,false)]:=by kernel_rfl
 have p0:x150 Tryz.prog (part x0 #[.string s,.string t] 0)=some (.string s):=by kernel_rfl
 have p1:x150 Tryz.prog (part x0 #[.string s,.string t] 1)=some (.string t):=by kernel_rfl
 have key:x150 Tryz.prog (Op.equalIn 10000 xb (.agg #[.string s,.string t]) (.agg #[.string s,.string t]))=some true:=by
  rw[show(10000:Nat)=9998+1+1 from rfl,x1j5 _ _ _ _ hS hp]
  generalize (Tryz.prog.fieldsOf xb).toList=fs at hF
  have hl:=congrArg List.length hF
  simp only[x1rf,x1ph,x1qa]at hl
  match fs,hl with
  |[f0,f1],_=>
   simp only[x1pi,x1pt,x1rl,x1p1,and_true,decide_eq_false_iff_not]at hF
   obtain⟨⟨t0,o0,n0⟩,t1,o1,n1⟩:=hF
   have q0:∀s:ByteArray,x150 Tryz.prog (Op.equalIn 9999 x0 (.string s) (.string s))=some true:=λs=>x1ja 9998 _ s (by kernel_rfl)
   simp only[Op.eqFields,n0,n1,ne_eq,not_false_eq_true,x1pk,t0,t1,o0,o1,x182,p0,p1,x14w,q0]
   simp[x1b4,x182,p0,p1,q0]
 have:=x1j7 (P:=Tryz.prog) (t:=xb) (r:=true) (x:=X) (y:=Y) (xs:=[.string s,.string t]) (ys:=[.string s,.string t]) (by kernel_rfl) key ⟨[T s,T t],rfl⟩ [T s,T t] [T s,T t] rfl rfl
 subst hs ht
 exact this
theorem x1h6(call:x14p)(hs:FHs)(u:Nat){a b:AV}{L:List Ent}(ha:Sl Ent.c a L)(hb:Sl Ent.c b L)(hl:L.length<1000000):∀(suf:List Ent) (k j:Nat) (m:Mem) (fc:Nat),L.drop k=suf->suf.length<j ->
 x27 call hs u j a b (I k) m fc=some (B true,m)
 |[],k,j,m,fc,hd,hj=>by
  obtain⟨j,rfl⟩:∃i,j=i+1:=⟨j-1,by simp at hj;omega⟩
  have hk:¬((k:Int)<(L.length:Int)):=by have:=x1rb.mp hd;omega
  simp only[x27]
  unfold x78 x9c
  simp only[ha.len x16u,x16y,hk,x1pc,x14w,x15k]
 |e::r,k,j,m,fc,hd,hj=>by
  obtain⟨j,rfl⟩:∃i,j=i+1:=⟨j-1,by simp at hj;omega⟩
  obtain⟨hk,he,hd⟩:=x1aa hd
  have hk':(k:Int)<(L.length:Int):=by omega
  have ix:=ha.ix Ent.len hk
  have ix2:=hb.ix Ent.len hk
  have ld:=ld_ent (m:=m) hk
  have w1:w64 ((k:Int)+1)=((k+1:Nat):Int):=by rw[x16a (by omega) (by omega)];omega
  have ih:=x1h6 call hs u ha hb hl r (k+1) j m (fc+16) hd (by simp at hj;omega)
  simp only[x27]
  unfold x78
  simp only[ha.len x16u,x16y,hk',x1pb,x15f,x14w,ix,ix2,ld,ne_entry,x15k,x17f,w1]
  exact ih
theorem x1e2(d:Nat){a b:AV}{L:List Ent}(ha:Sl Ent.c a L)(hb:Sl Ent.c b L)(hl:L.length<1000000)(m:Mem):x14q (x14z (d+1)) xw [a,b] m=some (B true,m):=by
 refine Ans.call0 (m:=m) ?_ (by simp[ha.still,hb.still]) rfl
 unfold Ans
 rw[xxf]
 unfold x8j x79 x9d
 dsimp only
 simp only[ha.len x16u,hb.len x16u,x14w,sNe_I,x1pb,x1pe,x15k]
 exact⟨_,x1h6 _ _ _ ha hb hl L 0 NN _ _ rfl (by rw[x197];omega)⟩
def x198(L:List Ent):Bool:=L.all λx=>decide (x.by_.length<=20)&&decide (x.tx.length<=220)
theorem l_Brief(call:x14p)(hs:FHs)(u:Nat){a:AV}{L:List Ent}(ha:Sl Ent.c a L):∀(suf:List Ent) (k j:Nat) (m:Mem) (fc:Nat),L.drop k=suf->suf.length<j->L.length<=9223372036854775807 ->
 x26 call hs u j a (I k) m fc=some (B (x198 suf&&(decide (L.length<=20)||(decide (40<L.length)&&decide (L.length<=42)))),m)
 |[],k,j,m,fc,hd,hj,hl=>by
  obtain⟨j,rfl⟩:∃i,j=i+1:=⟨j-1,by simp at hj;omega⟩
  have hk:¬((k:Int)<(L.length:Int)):=by have:=x1rb.mp hd;omega
  simp only[x26]
  unfold x75 x97
  simp only[ha.len x16u,x16y,hk,x1pc,x14w,x15k,sLe_I,x16l,x16m,sW_f,sW_t]
  have e1:decide ((L.length:Int)<=20)=decide (L.length<=20):=decide_eq_decide.2 (by omega)
  have e2:decide ((40:Int)<(L.length:Int))=decide (40<L.length):=decide_eq_decide.2 (by omega)
  have e3:decide ((L.length:Int)<=42)=decide (L.length<=42):=decide_eq_decide.2 (by omega)
  rw[e1]
  cases c1:decide (L.length<=20)
  .simp only[x1pa,x15p,x14w,ha.len x16u,x17g,e2,sW_t]
   cases c2:decide (40<L.length)
   .simp only[x15t,x14w,x15y,x198,x1s4,x1q0,x1sk,Bool.or_false,Bool.or_self]
   .simp only[x15p,x14w,ha.len x16u,sLe_I,e3,x15y,x198,x1s4,x1q0,Bool.false_or,x15t]
  .simp only[x1pe,x15t,x14w,x15y,x15p,x198,x1s4,x1q0,Bool.true_or,show sW U true=false from rfl]
 |e::r,k,j,m,fc,hd,hj,hl=>by
  obtain⟨j,rfl⟩:∃i,j=i+1:=⟨j-1,by simp at hj;omega⟩
  obtain⟨hk,he,hd⟩:=x1aa hd
  have hk':(k:Int)<(L.length:Int):=by omega
  have ix:=ha.ix Ent.len hk
  have f0:=λm=>ld_fld (enc:=Ent.c) (m:=m) hk 0 rfl
  have f1:=λm=>ld_fld (enc:=Ent.c) (m:=m) hk 1 rfl
  simp only[he]at f0 f1
  have w1:w64 ((k:Int)+1)=((k+1:Nat):Int):=by rw[x16a (by omega) (by omega)];omega
  have ih:=l_Brief call hs u ha r (k+1) j m (fc+23) hd (by simp at hj;omega) hl
  simp only[x26]
  unfold x75
  simp only[ha.len x16u,x16y,hk',x1pb,x15f,x14w,ix,x1gj,f0,x16c,x17g,x16l,x16m,sW_f]
  simp only[x198,x1qp]at ih ⊢
  by_cases c1:e.by_.length<=20
  .have c1':¬(20:Int)<(e.by_.length:Int):=by omega
   simp only[c1,c1',x1pc,x1pb,x1pa,x15p,x14w,ix,x1gj,f1,x16c,x17g,x15y,x15t,x1q0]
   by_cases c2:e.tx.length<=220
   .have c2':¬(220:Int)<(e.tx.length:Int):=by omega
    simp only[c2,c2',x1pc,x1pb,x15k,x17f,x14w,w1,x1q0]
    exact ih
   .have c2':(220:Int)<(e.tx.length:Int):=by omega
    simp only[c2,c2',x1pc,x1pb,x15f,x1sk]
  .have c1':(20:Int)<(e.by_.length:Int):=by omega
   simp only[c1,c1',x1pc,x1pb,x1pe,x15t,x14w,x15y,x15p,x15f,x1sk]
theorem w_Mod(d:Nat){x y:Int}(h1:0<y)(h2:y<=1000000000000)(m:Mem):x14q (x14z (d+1)) x1p [I x,I y] m=some (I (x % y),m):=by
 refine Ans.call0 ?_ rfl rfl
 unfold Ans
 rw[xxi]
 unfold x8m x7d x9h
 have h3:x.tmod y=if 0<=x\/y ∣ x then x % y else x % y-y:=by
  have:=Int.tmod_eq_emod (a:=x) (b:=y)
  rw[this]
  split<;>omega
 have h4:=Int.emod_nonneg x (show y≠0 by omega)
 have h5:=Int.emod_lt_of_pos x h1
 simp[mem0,sRem_I (show y≠0 by omega)]
 rw[h3]
 split
 .rename_i h
  simp[x3g,show ¬(x % y<0) by omega]
 .rename_i h
  have:x % y-y<0:=by omega
  simp(disch:=omega) [x3g,this]
end Go.Ix
