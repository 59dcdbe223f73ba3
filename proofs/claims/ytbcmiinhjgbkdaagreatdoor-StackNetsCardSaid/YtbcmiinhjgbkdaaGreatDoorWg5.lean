import Derived.Test.YtbcmiinhjgbkdaaGreatDoorWg4
import Derived.Test.YtbcmiinhjgbkdaaGreatDoorWg1
import Derived.Lib.Bytealg
set_option linter.unusedSimpArgs false
set_option linter.unusedVariables false
set_option maxRecDepth 10000
namespace Go.Ix
open Go.Proofs
def strE(l:List UInt8):List AV:=[Tx l]
theorem x13p(l:List UInt8):(strE l).length=1:=rfl
theorem x172(l:List UInt8):(strE l).all still1=true:=rfl
theorem x1b6{s:ByteArray}{id:Id}{m:Mem}{R:Type}{k:AV->Mem->Option R}:x113 xl [(0,1,T s)] 1 1 id m k=k (.slit [T s] 1 true) m:=by
 have hz:xl=[T ⟨#[]⟩]:=by kernel_rfl
 rw[hz]
 exact x1av rfl rfl rfl
theorem x153:Tryz.prog.underlying xh=some (.slice x0):=by kernel_rfl
theorem wrap_u8{n:Int}(h0:0<=n)(h1:n<256):IntKind.u8.wrap n=n:=by
 have:IntKind.u8.wrap n=n % 256:=by kernel_rfl
 rw[this];omega
theorem wrap_i64{n:Int}(h0:-9223372036854775808<=n)(h1:n<=9223372036854775807):IntKind.i64.wrap n=n:=by
 unfold IntKind.wrap
 have e1:((2:Int) ^ IntKind.i64.bits)=18446744073709551616:=by kernel_rfl
 have e2:((2:Int) ^ (IntKind.i64.bits-1))=9223372036854775808:=by kernel_rfl
 have e3:IntKind.i64.signed=true:=by kernel_rfl
 simp only[e1,e2,e3,x1n6,x1op]
 split<;>omega
theorem u8_lt256(c:UInt8):(c.toNat:Int)<256:=by have:=c.toNat_lt;omega
theorem take_snoc{l:List UInt8}{f i:Nat}(h0:f<=i)(h:i<l.length):(l.drop f).take (i+1-f)=(l.drop f).take (i-f)++[l[i]]:=by
 rw[show i+1-f=(i-f)+1 from by omega,List.take_add_one,x1nm,show f+(i-f)=i from by omega,x1ml h]
 rfl
theorem x1h1{l:List UInt8}{f i:Nat}(h0:f<=i)(h:i<l.length):l.drop f=(l.drop f).take (i-f)++l[i]::l.drop (i+1):=by
 have h1:=(x1q7 (i-f) (l.drop f)).symm
 rw[x1q8,show f+(i-f)=i from by omega,x1nu h]at h1
 exact h1
theorem l_Cut(d:Nat){c:UInt8}{l:List UInt8}(hl:l.length<=100000):∀(suf:List UInt8) (i j f:Nat) (acc:List (List UInt8)) (v:AV) (m:Mem) (fc:Nat),l.drop i=suf->suf.length<j->f<=i->i<=l.length->c∉(l.drop f).take (i-f)->acc++cutM c (l.drop f)=cutM c l->acc.length<=i->Gq 1 strE 0 [25,33] m v acc ->
 RetF (λx=>Sl strE x (cutM c l)) (x32 (x10p d) [] 0 j (Tx l) (U8 c.toNat) v (I f) (I i) m fc):=by
 intro suf
 induction suf with
 |nil=>
  intro i j f acc v m fc hd hj hfi hil hno hac hal hG
  obtain⟨j,rfl⟩:∃k,j=k+1:=⟨j-1,by simp at hj;omega⟩
  have hii:i=l.length:=by have:=x1na.mp hd;omega
  have hlt:¬((i:Int)<(l.length:Int)):=by omega
  rw[x1mb (by simp;omega)]at hno
  rw[x16y hno]at hac
  obtain⟨v',m',A1,G1,n1,f1⟩:=hG.app (t0:=33) (bytes:=16) (s0:=fc+4+5) x13p (by omega) (by simp) (by unfold x11c;omega) (l.drop f)
  have el:∀objs,elems objs 1 (.slit [Tx (l.drop f)] 1 true)=some (strE (l.drop f),1):=λ_=>rfl
  simp only[x32]
  unfold x7j xbj
  simp only[x120,x10r,x11t,hlt,x1m9,x116,x_slo (show f<=l.length by omega),x1b6,el,A1]
  obtain⟨b,hb,hz⟩:=G1.frz x13p x172
  exact RetF.mk hz (hac▸hb)
 |cons x suf ih=>
  intro i j f acc v m fc hd hj hfi hil hno hac hal hG
  obtain⟨j,rfl⟩:∃k,j=k+1:=⟨j-1,by simp at hj;omega⟩
  obtain⟨hi,hx,hd1⟩:=x13a hd
  have hlt:(i:Int)<(l.length:Int):=by omega
  have w7:w64 ((i:Int)+1)=((i+1:Nat):Int):=by rw[x11k (by omega) (by omega)];omega
  simp only[x32]
  unfold x7j xbk
  simp only[x120,x10r,x11t,hlt,x1m6,x112,x170 hi,x16v]
  by_cases c1:l[i]=c
  .have c2:((l[i]).toNat:Int)=c.toNat:=by rw[c1]
   obtain⟨v',m',A1,G1,n1,f1⟩:=hG.app (t0:=25) (bytes:=16) (s0:=fc+4+11) x13p (by omega) (by simp) (by unfold x11c;omega) ((l.drop f).take (i-f))
   have el:∀objs,elems objs 1 (.slit [Tx ((l.drop f).take (i-f))] 1 true)=some (strE ((l.drop f).take (i-f)),1):=λ_=>rfl
   have hcut:cutM c (l.drop f)=(l.drop f).take (i-f)::cutM c (l.drop (i+1)):=by
    conv=>lhs;rw[x1h1 hfi hi,c1]
    exact x16z _ hno
   simp only[c2,x1m6,x112,x_sl hfi (show i<=l.length by omega),x10r,x1b6,el,A1,x12k,w7]
   unfold x44
   simp only[x12k,x10r,w7]
   refine ih (i+1) j (i+1) (acc++[(l.drop f).take (i-f)]) v' m' _ hd1 (by simp at hj;omega) (x1m8 _) (by omega) (by rw[Nat.sub_self];simp) ?_ (by simp;omega) G1
   rw[<-hac,hcut];simp
  .have c2:¬((l[i]).toNat:Int)=c.toNat:=λh=>c1 (x16w (by omega))
   simp only[c2,x1m9,x116]
   unfold x44
   simp only[x12k,x10r,w7]
   refine ih (i+1) j f acc v m _ hd1 (by simp at hj;omega) (by omega) (by omega) ?_ hac (by omega) hG
   rw[take_snoc hfi hi]
   intro h
   rcases x1nf.1 h with h|h
   .exact hno h
   .rw[x1o8]at h;exact c1 h.symm
theorem w_Cut(d:Nat)(c:UInt8){l:List UInt8}(hl:l.length<=100000):∃x,Sl strE x (cutM c l)/\∀m,x10o (x10p (d+1)) xt [Tx l,U8 c.toNat] m=some (x,m):=by
 obtain⟨x,m',x',h1,h2,h3⟩:RetF (λx=>Sl strE x (cutM c l)) (x10p (d+1) [] xt [Tx l,U8 c.toNat] mem0):=by
  rw[xun]
  unfold x9e x7k xbl
  exact l_Cut d hl l 0 NN 0 [] nilS _ _ rfl (by rw[x12a];omega) (x1m8 _) (x1p6 _) (by simp) rfl (x1m8 _) Gq.nil
 exact⟨x',h3,λm=>x190 rfl h1 h2⟩
def numV(o:Option Int):AV:=match o with
 |some n=>.tup [I n,B true]
 |none=>.tup [I 0,B false]
theorem l_Number(d:Nat){l:List UInt8}{at_:Nat}(hat:at_<=1){r:List UInt8}(hr:l.drop at_=r)(h18:r.length<=18):∀(suf:List UInt8) (i j:Nat) (m:Mem) (fc:Nat),r.drop i=suf->suf.length<j->(r.take i).all isDig=true ->
 ∃m',x36 (x10p d) [] 0 j (Tx l) (I at_) (I (valD 0 (r.take i))) (I (at_+i:Nat)) m fc=some (numV (if r.all isDig=true then some (if at_=1 then -(valD 0 r:Int)else valD 0 r)else none),m'):=by
 have hrl:r.length=l.length-at_:=by rw[<-hr,x1o5]
 intro suf
 induction suf with
 |nil=>
  intro i j m fc hd hj hall
  obtain⟨j,rfl⟩:∃k,j=k+1:=⟨j-1,by simp at hj;omega⟩
  have hii:r.length<=i:=x1na.mp hd
  have hlt:¬(((at_+i:Nat):Int)<(l.length:Int)):=by omega
  rw[x1mb hii]at hall ⊢
  have hb:=x195 r 0 hall
  have hp:10 ^ r.length<=10 ^ 18:=Nat.pow_le_pow_right (by omega) h18
  rw[x1m1 hall]
  simp only[x36]
  unfold x85 xch x84
  simp only[x120,x10r,x11t,hlt,x1m9,x116,x12y]
  rcases(by omega:at_=0\/at_=1)with h|h
  .subst h
   exact⟨m,rfl⟩
  .subst h
   have w1:w64 (0-(valD 0 r:Int))=-(valD 0 r:Int):=by rw[x11k (by omega) (by omega)];omega
   simp only[show decide (((1:Nat):Int)=1)=true from rfl,x112,sNeg_I,x10r,w1]
   exact⟨m,rfl⟩
 |cons x suf ih=>
  intro i j m fc hd hj hall
  obtain⟨j,rfl⟩:∃k,j=k+1:=⟨j-1,by simp at hj;omega⟩
  obtain⟨hi,hx,hd1⟩:=x13a hd
  have hi2:at_+i<l.length:=by omega
  have hlt:((at_+i:Nat):Int)<(l.length:Int):=by omega
  have hxl:l[at_+i]=x:=by
   rw[<-hx]
   have:r[i]?=l[at_+i]?:=by rw[<-hr,x1nm]
   rw[x1ml hi,x1ml hi2]at this
   exact(x1nb this).symm
  have hidx:sIdx Tryz.prog x0 (Tx l) (I (at_+i:Nat))=some (U8 x.toNat):=by rw[x170 hi2,hxl]
  have hts:r.take (i+1)=r.take i++[x]:=by rw[List.take_add_one,x1ml hi,hx];rfl
  have w7:w64 (((at_+i:Nat):Int)+1)=((at_+(i+1):Nat):Int):=by rw[x11k (by omega) (by omega)];omega
  simp only[x36]
  unfold x85
  simp only[x120,x10r,x11t,hlt,x1m6,x112,hidx,u8_lt,x11p,x11y,sW_f]
  have hxlt:=u8_lt256 x
  cases hdg:isDig x
  .have hno:r.all isDig=false:=by
    rw[x1mx]
    intro h
    have:=x1m7.mp h x (by rw[<-hx];exact x1nc hi)
    rw[hdg]at this;cases this
   rw[x1m0 (by rw[hno];simp)]
   unfold isDig at hdg
   by_cases c1:(x.toNat:Int)<48
   .simp only[c1,x1m6,x1mh,x11i,x10r,x11b,x119,x112]
    exact⟨m,rfl⟩
   .have c2:(57:Int)<x.toNat:=by
     rw[x1n8 (show 48<=x.toNat by omega),x1n6,decide_eq_false_iff_not]at hdg
     omega
    simp only[c1,x1m9,x1md,x119,x10r,hidx,u8_gt,c2,x1m6,x11b,x11i,x112]
    exact⟨m,rfl⟩
  .have hg:=x16x hdg
   have c1:¬(x.toNat:Int)<48:=by omega
   have c2:¬(57:Int)<x.toNat:=by omega
   have hall2:(r.take (i+1)).all isDig=true:=by rw[hts,x1pq,hall];simp[hdg]
   have hb:=x195 (r.take i) 0 hall
   have hp:10 ^ (r.take i).length<=10 ^ 17:=Nat.pow_le_pow_right (by omega) (by rw[x1ni];omega)
   have e1:IntKind.u8.wrap ((x.toNat:Int)-48)=(x.toNat:Int)-48:=wrap_u8 (by omega) (by omega)
   have e2:IntKind.i64.wrap ((x.toNat:Int)-48)=(x.toNat:Int)-48:=wrap_i64 (by omega) (by omega)
   have w1:w64 (10*(valD 0 (r.take i):Int))=10*(valD 0 (r.take i):Int):=x11k (by omega) (by omega)
   have w2:w64 (10*(valD 0 (r.take i):Int)+((x.toNat:Int)-48))=(valD 0 (r.take (i+1)):Int):=by
    rw[hts,x1b1,x17v,x11k (by omega) (by omega)];omega
   simp only[c1,c2,x1m9,x1md,x119,x10r,hidx,u8_gt,x11b,x11i,x116,sMul_I,u8_sub,e1,c_int,e2,w1,x12k,w2,w7]
   exact ih (i+1) j m _ hd1 (by simp at hj;omega) hall2
theorem w_Number(d:Nat){l:List UInt8}(hl:l.length<=100000){k:Nat}(hk:k<=18)(m:Mem):x10o (x10p (d+1)) xu [Tx l,I k] m=some (numV (nbrM l k),m):=by
 suffices h:∃m',x10p (d+1) [] xu [Tx l,I k] mem0=some (numV (nbrM l k),m') by
  obtain⟨m',h⟩:=h
  cases hn:nbrM l k with
  |none=>rw[hn]at h;exact call0_tup rfl h rfl
  |some n=>rw[hn]at h;exact call0_tup rfl h rfl
 rw[xv1]
 unfold x9u x87 xci
 simp only[mem0,x120,x10r,x12x,x11p,x11y,sW_t]
 have four:∀(at_:Nat) (m:Mem) (fc:Nat),at_<=1->(at_=1↔l.head?=some 45)->∃m',x46 (x10p d) [] 0 (Tx l) (I k) (I at_) m fc=some (numV (nbrM l k),m'):=by
  intro at_ m fc hat hs
  have hr:(if l.head?=some 45 then l.tail else l)=l.drop at_:=by
   rcases(by omega:at_=0\/at_=1)with h|h
   .subst h
    rw[x1m0 (λh=>absurd (hs.2 h) (by decide))];rfl
   .subst h
    rw[x1m1 (hs.1 rfl),List.drop_one]
  have hsg:∀v:Nat,(if l.head?=some 45 then -(v:Int)else(v:Int))=if at_=1 then -(v:Int)else(v:Int):=λv=>by
   by_cases h:at_=1
   .rw[x1m1 h,x1m1 (hs.1 h)]
   .rw[x1m0 h,x1m0 (λh2=>h (hs.2 h2))]
  have hle:at_<=l.length:=by
   rcases(by omega:at_=0\/at_=1)with h|h
   .omega
   .have:=hs.1 h
    cases l with
    |nil=>simp at this
    |cons x t=>simp;omega
  have w1:w64 ((l.length:Int)-at_)=((l.length-at_:Nat):Int):=by rw[x11k (by omega) (by omega)];omega
  unfold nbrM
  dsimp only
  rw[hr,hsg]
  unfold x46
  simp only[x120,x10r,x12y,x11p,x11y,sW_f]
  have hdl:(l.drop at_).length=l.length-at_:=x1o5
  by_cases c1:(l.length:Int)=at_
  .have:l.drop at_=[]:=x1o3.1 (by omega)
   rw[x1m1 (.inl this)]
   have c1':decide ((l.length:Int)=(at_:Int))=true:=x1n8 c1
   rw[c1']
   simp only[x1mh,x11i,x10r,x11b,x119,x112,sW_U,sW_t,sW_f]
   exact⟨m,rfl⟩
  have hne:l.drop at_≠[]:=λh=>by rw[h]at hdl;simp at hdl;omega
  have c1':decide ((l.length:Int)=(at_:Int))=false:=x1oe c1
  rw[c1']
  simp only[x1md,x119,x10r,x120,x166,w1,x12x,x11b,x11i,sW_f]
  by_cases c2:(k:Int)<((l.length-at_:Nat):Int)
  .rw[x1m1 (.inr (.inl (by omega)))]
   simp only[c2,x1m6,x1mh,x11i,x10r,x11b,x119,x112,sW_U]
   exact⟨m,rfl⟩
  have hi:at_<l.length:=by omega
  have hh:(l.drop at_).head?=some l[at_]:=by rw[x1nu hi];rfl
  simp only[c2,x1m9,x1md,x119,x10r,x170 hi,x16v,x11b,x11i,sW_f,sW_t]
  have fin:¬((l.drop at_).head?=some 48/\1<l.length)->∀fc,∃m',x86 (x10p d) [] 0 (Tx l) (I at_) (I 0) m fc=some (numV (if l.drop at_=[]\/k<(l.drop at_).length\/((l.drop at_).head?=some 48/\1<l.length)\/(l.drop at_).all isDig=false then none else some (if at_=1 then -(valD 0 (l.drop at_):Int)else valD 0 (l.drop at_))),m'):=by
   intro h3 fc
   unfold x86
   obtain⟨m',h⟩:=l_Number d hat (r:=l.drop at_) rfl (by omega) (l.drop at_) 0 NN m (fc+2) rfl (by rw[x12a];omega) rfl
   refine⟨m',h.trans ?_⟩
   cases hall:(l.drop at_).all isDig
   .rw[x1m0 (by simp),x1m1 (.inr (.inr (.inr rfl)))]
   .have hn:¬(l.drop at_=[]\/k<(l.drop at_).length\/((l.drop at_).head?=some 48/\1<l.length)\/true=false):=by
     rintro(h|h|h|h)
     .exact hne h
     .omega
     .exact h3 h
     .cases h
    rw[x1m1 rfl,x1m0 hn]
  by_cases c3:((l[at_]).toNat:Int)=48
  .have c4:l[at_]=48:=x16w (by show(l[at_]).toNat=48;omega)
   simp only[c3,x1m6,x119,x10r,x120,x12x,x11b,x11i]
   by_cases c5:(1:Int)<l.length
   .rw[x1m1 (.inr (.inr (.inl ⟨by rw[hh,c4],by omega⟩)))]
    simp only[c5,x1m6,x112,x11b,x119,x10r,sW_t,x1md]
    exact⟨m,rfl⟩
   .simp only[c5,x1m9,x116,x11b,x11i,x10r]
    exact fin (λh=>c5 (by omega)) _
  .simp only[c3,x1m9,x11i,x10r,x11b,x116,sW_U]
   refine fin (λh=>c3 ?_) _
   have h1:=h.1
   rw[hh]at h1
   rw[x1nb h1];rfl
 by_cases c:0<l.length
 .have c':(0:Int)<l.length:=by omega
  have hh:l.head?=some l[0]:=by
   cases l with
   |nil=>simp at c
   |cons x t=>rfl
  have hix:sIdx Tryz.prog x0 (Tx l) (I 0)=some (U8 (l[0]).toNat):=x170 (k:=0) c
  simp only[c',x1m6,x119,x10r,hix,x16v,x11b]
  by_cases c2:((l[0]).toNat:Int)=45
  .simp only[c2,x1m6,x112]
   refine four 1 _ _ (x1m8 _) ⟨λ_=>?_,λ_=>rfl⟩
   rw[hh]
   congr 1
   exact x16w (by show(l[0]).toNat=45;omega)
  .simp only[c2,x1m9,x116]
   refine four 0 _ _ (by omega) ⟨λh=>(by cases h),λh=>?_⟩
   rw[hh]at h
   exact absurd (by rw[x1nb h];rfl) c2
 .have c':¬(0:Int)<l.length:=by omega
  have hl0:l=[]:=x1o3.1 (by omega)
  simp only[c',x1m9,x11i,x10r,x11b,x116]
  refine four 0 _ _ (by omega) ⟨λh=>(by cases h),λh=>?_⟩
  rw[hl0]at h;cases h
def dzF(k u:Nat):List UInt8:=if u=0 then[]else digF k u
theorem dzF_succ{k u:Nat}(h:u≠0):dzF (k+1) u=dzF k (u / 10)++[UInt8.ofNat (48+u % 10)]:=by
 unfold dzF
 rw[x1m0 h]
 by_cases c:u<10
 .rw[x1m1 (by omega),digF,x1m1 c,Nat.mod_eq_of_lt c];rfl
 .rw[x1m0 (by omega),digF,x1m0 c]
theorem z_u8:x7f=[U8 0]:=by kernel_rfl
theorem mkLit_u8{x:Int}{id:Id}{m:Mem}{R:Type}{k:AV->Mem->Option R}:x113 x7f [(0,1,U8 x)] 1 1 id m k=k (.slit [U8 x] 1 true) m:=by
 rw[z_u8]
 exact x1av rfl rfl rfl
theorem x1e9(d:Nat){sg:List UInt8}(hsg:sg.length<=1):∀(k:Nat) (n:Int) (t:List UInt8) (j:Nat) (m:Mem) (fc:Nat),n.natAbs<10 ^ k->k+t.length<=30->k<j->-9223372036854775808<=n->n<=9223372036854775807 ->
 ∃m',x1c (x10p (d+1)) [] 0 j (I n) (Tx t) (Tx sg) m fc=some (Tx (sg++(dzF k n.natAbs++t)),m'):=by
 intro k
 induction k with
 |zero=>
  intro n t j m fc hn ht hj h0 h1
  obtain⟨j,rfl⟩:∃k,j=k+1:=⟨j-1,by omega⟩
  have:n=0:=by simp at hn;omega
  subst this
  simp only[x1c]
  unfold x43 x7e
  rw[x143]
  simp only[x10r,ne_eq,not_true,x1m9,x116]
  rw[x136 _ _ (by omega)]
  exact⟨m,rfl⟩
 |succ k ih=>
  intro n t j m fc hn ht hj h0 h1
  obtain⟨j,rfl⟩:∃k,j=k+1:=⟨j-1,by omega⟩
  by_cases c:n=0
  .subst c
   simp only[x1c]
   unfold x43 x7e
   rw[x143]
   simp only[x10r,ne_eq,not_true,x1m9,x116]
   rw[x136 _ _ (by omega)]
   exact⟨m,rfl⟩
  .have hr1:-10<n.tmod 10:=by have:=Int.lt_tmod_of_pos n (show(0:Int)<10 by omega);omega
   have hr2:n.tmod 10<10:=Int.tmod_lt_of_pos n (by omega)
   have hmn:(n.tmod 10).natAbs=n.natAbs % 10:=by rw[Int.natAbs_tmod];rfl
   have hqn:(n.tdiv 10).natAbs=n.natAbs / 10:=by rw[Int.natAbs_tdiv];rfl
   have hsz:=λm=>w_Size d (n.tmod 10) m (by omega) (by omega)
   have w1:w64 (48+((n.tmod 10).natAbs:Int))=48+((n.tmod 10).natAbs:Int):=x11k (by omega) (by omega)
   have e1:IntKind.u8.wrap (48+((n.tmod 10).natAbs:Int))=48+((n.tmod 10).natAbs:Int):=wrap_u8 (by omega) (by omega)
   have e2:UInt8.ofNat (48+((n.tmod 10).natAbs:Int)).toNat=UInt8.ofNat (48+n.natAbs % 10):=by rw[hmn];congr 1
   have w2:w64 (n.tdiv 10)=n.tdiv 10:=by
    have:(n.tdiv 10).natAbs<=n.natAbs:=by rw[hqn];omega
    exact x11k (by omega) (by omega)
   have hnz:n.natAbs≠0:=by omega
   simp only[x1c]
   unfold x43
   rw[x143]
   simp only[x10r,ne_eq,c,not_false_eq_true,x1m6,x112]
   rw[sRem_I (by decide)]
   simp only[x10r,hsz,x12k,w1,c_u8,e1,mkLit_u8,txt_1,e2]
   rw[show(T ⟨#[UInt8.ofNat (48+n.natAbs % 10)]⟩)=Tx [UInt8.ofNat (48+n.natAbs % 10)]from rfl,x136 _ _ (by simp;omega)]
   rw[sQuo_I (by decide)]
   simp only[x10r,w2]
   have hs:=dzF_succ (k:=k) hnz
   obtain⟨m',h⟩:=ih (n.tdiv 10) ([UInt8.ofNat (48+n.natAbs % 10)]++t) j m (fc+17) (by rw[hqn];rw[Nat.pow_succ]at hn;omega) (by simp;omega) (by omega) (by omega) (by omega)
   refine⟨m',h.trans ?_⟩
   rw[hs,hqn]
   simp
theorem x199(d:Nat){n:Int}(h0:-9223372036854775808<=n)(h1:n<=9223372036854775807)(m:Mem):x10o (x10p (d+2)) xw [I n] m=some (Tx (decM n),m):=by
 refine Ans.call0 (m:=m) ?_ rfl rfl
 unfold Ans
 rw[xul]
 unfold x9c x7g xbg
 simp only[mem0,x12y,x10r,x11t]
 by_cases c:n=0
 .subst c
  simp only[x1m6,x112]
  exact⟨_,rfl⟩
 .simp only[c,x1m9,x116]
  have hp:n.natAbs<10 ^ 20:=by omega
  by_cases c2:n<0
  .simp only[c2,x1m6,x112]
   obtain⟨m',h⟩:=x1e9 d (sg:=[45]) (by simp) 20 n [] NN ⟨[],0+1⟩ (0+5+3) hp (by simp) (by rw[x12a];omega) h0 h1
   refine⟨m',h.trans ?_⟩
   unfold decM dzF
   rw[x1m1 c2,x1m0 (by omega),x1n0];rfl
  .simp only[c2,x1m9,x116]
   obtain⟨m',h⟩:=x1e9 d (sg:=[]) (by simp) 20 n [] NN ⟨[],0+1⟩ (0+5+2) hp (by simp) (by rw[x12a];omega) h0 h1
   refine⟨m',h.trans ?_⟩
   unfold decM dzF
   rw[x1m0 c2,x1m0 (by omega),x1n0,show n.natAbs=n.toNat by omega];rfl
theorem pr_idx(s:ByteArray)(c:Int):x10w Tryz.prog (callFunc x1d #[.string s,.int .u8 c])=some (.value (.int .i64 (firstIdx s c.toNat.toUInt8))):=by
 have h1:x10w Tryz.prog (callFunc x1d #[.string s,.int .u8 c])=x10w Tryz.prog (do let v <-Extern.BytealgIndexByte.indexByte #[.string s,.int .u8 c];pure (Next.value v)):=by kernel_rfl
 rw[h1]
 show x10w Tryz.prog (((match (List.range s.size).find? λi=>s[i]! == c.toNat.toUInt8 with
  |some i=>(pure (goInt i):Sem Value)
  |none=>pure (goInt (-1)))) >>= λv=>(pure (Next.value v):Sem Next))=_
 unfold firstIdx
 cases(List.range s.size).find? λi=>s[i]! == c.toNat.toUInt8<;>rfl
theorem x1h2(d:Nat)(l:List UInt8)(c:UInt8)(m:Mem):x10o (x10p (d+1)) x1d [Tx l,U8 c.toNat] m=some (I (Lib.indexByte l c),m):=by
 refine Ans.call0 (m:=m) ?_ rfl rfl
 unfold Ans
 have h1:x10p (d+1) [] x1d [Tx l,U8 c.toNat] mem0=(x15o Tryz.prog x1d [Tx l,U8 c.toNat]).map λv=>(v,mem0):=by kernel_rfl
 have h2:ext0 Tryz.prog x1d [Tx l,U8 c.toNat]=some (I (firstIdx ⟨l.toArray⟩ c)):=by
  unfold ext0
  show(match x10w Tryz.prog (callFunc x1d #[.string ⟨l.toArray⟩,.int .u8 c.toNat])with
   |some (.value u)=>some (x11l u)
   |_=>none)=_
  rw[pr_idx]
  have:((c.toNat:Int)).toNat.toUInt8=c:=by
   rw[x1ox];exact UInt8.ofNat_toNat
  rw[this];rfl
 rw[h1]
 unfold x15o
 rw[h2,Lib.firstIdx_eq]
 exact⟨mem0,rfl⟩
theorem x1ea(d:Nat)(l:List UInt8)(c:UInt8)(m:Mem):x10o (x10p (d+2)) x17 [Tx l,U8 c.toNat] m=some (I (Lib.indexByte l c),m):=by
 refine Ans.call0 (m:=m) ?_ rfl rfl
 unfold Ans
 rw[xv3]
 unfold x9w x8a
 simp only[x1h2,x10r]
 exact⟨_,rfl⟩
theorem x1b7(c:UInt8):∀l:List UInt8,(Lib.indexByte l c=-1/\c∉l)\/∃i:Nat,Lib.indexByte l c=i/\i<l.length/\c∉l.take i/\l.drop i=c::l.drop (i+1)
 |[]=>.inl ⟨rfl,by simp⟩
 |b::l=>by
  unfold Lib.indexByte
  by_cases h:b=c
  .subst h
   exact .inr ⟨0,by simp,by simp,by simp,rfl⟩
  .have hb:(b == c)=false:=by simpa using h
   rw[hb]
   rcases x1b7 c l with ⟨h1,h2⟩|⟨i,h1,h2,h3,h4⟩
   .refine .inl ⟨by rw[h1];simp,?_⟩
    rw[x1ma]
    rintro(h5|h5)
    .exact h h5.symm
    .exact h2 h5
   .refine .inr ⟨i+1,?_,by simp;omega,?_,by simpa using h4⟩
    .rw[h1]
     have:((i:Int) == -1)=false:=by rw[beq_eq_false_iff_ne];omega
     simp[this]
    .rw[x1pb,x1ma]
     rintro(h5|h5)
     .exact h h5.symm
     .exact h3 h5
theorem w_Index1(d:Nat)(l:List UInt8)(c:UInt8)(m:Mem):x10o (x10p (d+4)) x1o [Tx l,Tx [c]] m=some (I (Lib.indexByte l c),m):=by
 have h2:∀m,x10o (x10p (d+3)) x2m [Tx l,Tx [c]] m=some (I (Lib.indexByte l c),m):=by
  intro m
  refine Ans.call0 (m:=m) ?_ rfl rfl
  unfold Ans
  rw[xva]
  unfold xa5 x8m
  have hix:sIdx Tryz.prog x0 (Tx [c]) (I 0)=some (U8 c.toNat):=x170 (k:=0) (l:=[c]) (by simp)
  have hl1:x114 (Tx [c])=some (I 1):=x120 [c]
  simp only[mem0,hl1,x10r,x12y,x11p,x11y,show decide ((1:Int)=0)=false from rfl,sW_f,x1md,x119,x_eq,x11b,x11i]
  by_cases c1:[c]=l
  .subst c1
   have:Lib.indexByte [c] c=0:=by simp[Lib.indexByte]
   rw[this]
   simp only[x1m6,x112]
   exact⟨_,rfl⟩
  .simp only[c1,x1m9,x116,show decide ((1:Int)=1)=true from rfl,x112,hix,x10r,x1ea]
   exact⟨_,rfl⟩
 refine Ans.call0 (m:=m) ?_ rfl rfl
 unfold Ans
 rw[xv8]
 unfold xa1 x8h
 simp only[h2,x10r]
 exact⟨_,rfl⟩
theorem take1(l:List UInt8):decide (l.take 1=[45])=decide (l.head?=some 45):=by
 cases l with
 |nil=>rfl
 |cons x t=>simp
theorem w_HasPre(d:Nat)(l:List UInt8)(m:Mem):x10o (x10p (d+1)) x2n [Tx l,Tx [45]] m=some (B (decide (l.head?=some 45)),m):=by
 refine Ans.call0 (m:=m) ?_ rfl rfl
 unfold Ans
 rw[xvb]
 unfold xa6 x8p
 have hl1:x114 (Tx [45])=some (I 1):=x120 [45]
 simp only[mem0,hl1,x120,x10r,sGe_I,x11p,x11y,sW_t]
 by_cases c:(1:Int)<=l.length
 .have hs:x117 Tryz.prog x0 (Tx l) none (some (I 1))=some (Tx (l.take 1)):=x_slh (hi:=1) (by omega)
  simp only[c,x1m6,x119,x10r,hl1,hs,x_eq,x11b,take1]
  exact⟨_,rfl⟩
 .have:l=[]:=x1o3.1 (by omega)
  subst this
  simp only[c,x1m9,x11i,x10r,x11b]
  exact⟨_,rfl⟩
theorem w_Trim(d:Nat)(l:List UInt8)(m:Mem):x10o (x10p (d+3)) x2i [Tx l,Tx [45]] m=some (Tx (unsg l),m):=by
 have h2:∀m,x10o (x10p (d+2)) x2l [Tx l,Tx [45]] m=some (Tx (unsg l),m):=by
  intro m
  refine Ans.call0 (m:=m) ?_ rfl rfl
  unfold Ans
  rw[xv9]
  unfold xa4 x8j
  have hl1:x114 (Tx [45])=some (I 1):=x120 [45]
  simp only[w_HasPre,x10r,hl1]
  unfold unsg
  by_cases c:l.head?=some 45
  .have hll:1<=l.length:=by
    cases l with
    |nil=>simp at c
    |cons x t=>simp
   have hs:x117 Tryz.prog x0 (Tx l) (some (I 1)) none=some (Tx (l.drop 1)):=x_slo (lo:=1) hll
   rw[List.drop_one]at hs
   simp only[c,x1m6,x112,hs,x10r,x1mo]
   exact⟨_,rfl⟩
  .simp only[c,x1m9,x116,x1mg]
   exact⟨_,rfl⟩
 refine Ans.call0 (m:=m) ?_ rfl rfl
 unfold Ans
 rw[xv6]
 unfold x9z x8e
 simp only[h2,x10r]
 exact⟨_,rfl⟩
theorem inv_y{call:x10m}{id:Id}{h:List AV->Mem->Option Mem}{hs:FHs}{mode:Nat}{l:List AV}{m m2:Mem}(hl:x14a hs id=some h)(e:h l m=some m2):x128 call hs mode (.yld id) l m=some (B (live m2.get id),m2):=by
 show(match x14a hs id with
  |some h=>(h l m).map λ(m':Mem)=>(B (live m'.get id),m')
  |none=>none)=_
 rw[hl]
 simp only
 rw[e];rfl
end Go.Ix
set_option exponentiation.threshold 3000
namespace Go.Ix
open Ieee
def sg(s:Bool)(n:Nat):Int:=if s then -(n:Int)else(n:Int)
end Go.Ix
