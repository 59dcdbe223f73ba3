import Derived.Test.YtibmppgmjbpdmaaGreatDoorWg1
import Derived.Test.YtibmppgmjbpdmaaGreatDoorWg2
import Derived.Test.YtibmppgmjbpdmaaGreatDoorWg3
set_option linter.unusedSimpArgs false
namespace Go.Ix
variable{R:Type}{m:Mem}
theorem x1en:∀l:List Int,l.flatMap intE=l.map I
 |[]=>rfl
 |x::l=>by rw[x1tf,x1en l];rfl
theorem x1cn(l:List Int):(l.flatMap intE).length=l.length:=by rw[x1en];simp
abbrev srI(id:Id)(n:Nat):AV:=.sref id 0 0 n 1 true
@[simp high] theorem ldRow_int{l:List Int}{k:Nat}{fz:Bool}(hk:k<l.length):x1ci false 1 0 k (some (.row (l.flatMap intE) 0 fz))=some (I (at0 l k)):=by
  simp only[x1ci,Nat.beq_refl,cond_true,rd,x1sb,x1s1]
  rw[x1en,<-List.map_drop,x1de hk,at0_lt hk]
  rfl
@[simp high] theorem stRow_int{l:List Int}{k:Nat}{v:Int}(hk:k<l.length):stRow 1 0 k (I v) (some (.row (l.flatMap intE) 0 false))=some (.row ((l.set k v).flatMap intE) 0 false):=by
  have h:(0:Nat)=0/\(I v).cells.length=1/\k+1<=(l.flatMap intE).length/\((I v).cells.all AV.one)=true:=⟨rfl,rfl,by rw[x1cn];omega,rfl⟩
  rw[x1g1,x1sh h,cond_true]
  simp only[x1en,x17p,cells_I]
  congr 2
  rw[List.map_set,List.set_eq_take_append_cons_drop,x1rq (by simpa using hk)]
  simp
end Go.Ix
namespace Go.Ix
open Go.Proofs
variable{α:Type}{z:Nat}{enc:α->List AV}{l:List α}{a:AV}
def Gq{α:Type}(z:Nat)(enc:α->List AV)(u:Nat)(T:List Nat)(m:Mem)(a:AV)(l:List α):Prop:=
 (a=nilS/\l=[])\/∃s t ver,t∈T/\a=.sref (u,s,t) ver 0 l.length z true/\m.get (u,s,t)=some (.row (l.flatMap enc) ver false)
theorem Gq.nil{u:Nat}{T:List Nat}{m:Mem}:Gq z enc u T m nilS []:=Or.inl ⟨rfl,rfl⟩
theorem Gq.frame{u:Nat}{T:List Nat}{m m':Mem}(h:Gq z enc u T m a l)(hm:∀s t,t∈T->m'.get (u,s,t)=m.get (u,s,t)):Gq z enc u T m' a l:=by
 rcases h with h|⟨s,t,ver,h0,h1,h2⟩
 .exact Or.inl h
 .exact Or.inr ⟨s,t,ver,h0,h1,by rw[hm _ _ h0];exact h2⟩
theorem Gq.app(hz:∀x,(enc x).length=z)(h0:0<z){u t0 s0 bytes:Nat}{T:List Nat}{m:Mem}(ht:t0∈T)(hr:x17k (l.length+1) bytes)(h:Gq z enc u T m a l)(x:α) :
 ∃a' m',(∀{R:Type} (k:AV->Mem->Option R),sApp z bytes (u,s0,t0) (some (enc x,1)) a m k=k a' m')/\Gq z enc u T m' a' (l++[x])/\m'.next=m.next/\∀j:Id,j.2.2∉T->m'.get j=m.get j:=by
 rcases h with ⟨rfl,rfl⟩|⟨s,t,ver,h1,rfl,hg⟩
 .refine⟨.sref (u,s0,t0) 0 0 1 z true,m.new (u,s0,t0) (.row (enc x) 0 false),λk=>?_,Or.inr ⟨s0,t0,0,ht,rfl,by simp⟩,rfl,λj hj=>?_⟩
  .simp only[sApp]
   rw[x1rr (by omega),x1rq (by simpa using hr)]
  .rw[Mem.get_new,x1rr (by rintro rfl;exact hj ht)]
 .have hl:=x19k hz l
  refine⟨.sref (u,s,t) (ver+1) 0 (l.length+1) z true,m.set (u,s,t) (.row (l.flatMap enc++enc x) (ver+1) false),λk=>?_,Or.inr ⟨s,t,ver+1,h1,by simp,by simp⟩,rfl,λj hj=>?_⟩
  .simp only[sApp,hg]
   rw[x1rq ⟨trivial,trivial,by omega,hr⟩,x1rr (by omega),x1rr (by rw[hl,x1tg];omega),x1sg,x1s7 (by omega)]
  .rw[Mem.get_set,x1rr (by rintro rfl;exact hj h1)]
theorem Gq.frz(hz:∀x,(enc x).length=z)(hs:∀x,(enc x).all still1=true){u:Nat}{T:List Nat}{m:Mem}(h:Gq z enc u T m a l):∃a',Sl enc a' l/\Go.Ix.frz m.get deep a=some a':=by
 rcases h with ⟨rfl,rfl⟩|⟨s,t,ver,_,rfl,hg⟩
 .exact⟨nilS,Or.inl ⟨rfl,rfl⟩,rfl⟩
 .have hl:=x19k hz l
  refine⟨.slit (l.flatMap enc) l.length false,Sl.lit l false,?_⟩
  have:=x1cj (objs:=m.get) (id:=(u,s,t)) (cs:=l.flatMap enc) (ver:=ver) (off:=0) (n:=l.length) (z:=z) (k:=4) (f:=false) (x:=true) hg (by omega) (by
   rw[x1sg,x1s7 (by omega)];exact x1bb hs l)
  rw[x1sg,x1s7 (by omega)]at this
  exact this
theorem Gq.len{u:Nat}{T:List Nat}{m:Mem}{t e:TypeId}(ht:Tryz.prog.underlying t=some (.slice e))(h:Gq z enc u T m a l):sLen Tryz.prog t a=some (I l.length):=by
 rcases h with ⟨rfl,rfl⟩|⟨s,t,ver,_,rfl,hg⟩
 .exact x1cg ht
 .rfl
end Go.Ix
set_option linter.unusedVariables false
set_option maxRecDepth 10000
namespace Go.Ix
open Go.Proofs
def strE(l:List UInt8):List AV:=[Tx l]
theorem x1co(l:List UInt8):(strE l).length=1:=rfl
theorem x1ld(l:List UInt8):(strE l).all still1=true:=rfl
theorem mkLit_T{s:ByteArray}{id:Id}{m:Mem}{R:Type}{k:AV->Mem->Option R}:x17g xg [(0,1,T s)] 1 1 id m k=k (.slit [T s] 1 true) m:=by
 have hz:xg=[T ⟨#[]⟩]:=by kernel_rfl
 rw[hz]
 exact x1g3 rfl rfl rfl
theorem x1cp:Tryz.prog.underlying x7=some (.slice x0):=by kernel_rfl
theorem wrap_u8{n:Int}(h0:0<=n)(h1:n<256):IntKind.u8.wrap n=n:=by
 have:IntKind.u8.wrap n=n % 256:=by kernel_rfl
 rw[this];omega
theorem x1j7{n:Int}(h0:-9223372036854775808<=n)(h1:n<=9223372036854775807):IntKind.i64.wrap n=n:=by
 unfold IntKind.wrap
 have e1:((2:Int) ^ IntKind.i64.bits)=18446744073709551616:=by kernel_rfl
 have e2:((2:Int) ^ (IntKind.i64.bits-1))=9223372036854775808:=by kernel_rfl
 have e3:IntKind.i64.signed=true:=by kernel_rfl
 simp only[e1,e2,e3,x1sm,x1tj]
 split<;>omega
theorem u8_lt256(c:UInt8):(c.toNat:Int)<256:=by have:=c.toNat_lt;omega
theorem take_snoc{l:List UInt8}{f i:Nat}(h0:f<=i)(h:i<l.length):(l.drop f).take (i+1-f)=(l.drop f).take (i-f)++[l[i]]:=by
 rw[show i+1-f=(i-f)+1 from by omega,List.take_add_one,x1ta,show f+(i-f)=i from by omega,x1sf h]
 rfl
theorem x1le{l:List UInt8}{f i:Nat}(h0:f<=i)(h:i<l.length):l.drop f=(l.drop f).take (i-f)++l[i]::l.drop (i+1):=by
 have h1:=(x1uo (i-f) (l.drop f)).symm
 rw[x1vm,show f+(i-f)=i from by omega,x1v3 h]at h1
 exact h1
theorem l_Cut(d:Nat){c:UInt8}{l:List UInt8}(hl:l.length<=100000):∀(suf:List UInt8) (i j f:Nat) (acc:List (List UInt8)) (v:AV) (m:Mem) (fc:Nat),l.drop i=suf->suf.length<j->f<=i->i<=l.length->c∉(l.drop f).take (i-f)->acc++cutM c (l.drop f)=cutM c l->acc.length<=i->Gq 1 strE 0 [25,33] m v acc ->
 RetF (λx=>Sl strE x (cutM c l)) (x2q (x16z d) [] 0 j (Tx l) (U8 c.toNat) v (I f) (I i) m fc):=by
 intro suf
 induction suf with
 |nil=>
  intro i j f acc v m fc hd hj hfi hil hno hac hal hG
  obtain⟨j,rfl⟩:∃k,j=k+1:=⟨j-1,by simp at hj;omega⟩
  have hii:i=l.length:=by have:=x1sw.mp hd;omega
  have hlt:¬((i:Int)<(l.length:Int)):=by omega
  rw[x1s7 (by simp;omega)]at hno
  rw[x1cl hno]at hac
  obtain⟨v',m',A1,G1,n1,f1⟩:=hG.app (t0:=33) (bytes:=16) (s0:=fc+4+5) x1co (by omega) (by simp) (by unfold x17k;omega) (l.drop f)
  have el:∀objs,elems objs 1 (.slit [Tx (l.drop f)] 1 true)=some (strE (l.drop f),1):=λ_=>rfl
  simp only[x2q]
  unfold x8c xbf
  simp only[x17q,x16y,x180,hlt,x1rx,x17d,x_slo (show f<=l.length by omega),mkLit_T,el,A1]
  obtain⟨b,hb,hz⟩:=G1.frz x1co x1ld
  exact RetF.mk hz (hac▸hb)
 |cons x suf ih=>
  intro i j f acc v m fc hd hj hfi hil hno hac hal hG
  obtain⟨j,rfl⟩:∃k,j=k+1:=⟨j-1,by simp at hj;omega⟩
  obtain⟨hi,hx,hd1⟩:=x197 hd
  have hlt:(i:Int)<(l.length:Int):=by omega
  have w7:w64 ((i:Int)+1)=((i+1:Nat):Int):=by rw[x17s (by omega) (by omega)];omega
  simp only[x2q]
  unfold x8c xbg
  simp only[x17q,x16y,x180,hlt,x1rw,x17b,x1c0 hi,x1by]
  by_cases c1:l[i]=c
  .have c2:((l[i]).toNat:Int)=c.toNat:=by rw[c1]
   obtain⟨v',m',A1,G1,n1,f1⟩:=hG.app (t0:=25) (bytes:=16) (s0:=fc+4+11) x1co (by omega) (by simp) (by unfold x17k;omega) ((l.drop f).take (i-f))
   have el:∀objs,elems objs 1 (.slit [Tx ((l.drop f).take (i-f))] 1 true)=some (strE ((l.drop f).take (i-f)),1):=λ_=>rfl
   have hcut:cutM c (l.drop f)=(l.drop f).take (i-f)::cutM c (l.drop (i+1)):=by
    conv=>lhs;rw[x1le hfi hi,c1]
    exact x1bz _ hno
   simp only[c2,x1rw,x17b,x_sl hfi (show i<=l.length by omega),x16y,mkLit_T,el,A1,x18m,w7]
   unfold x44
   simp only[x18m,x16y,w7]
   refine ih (i+1) j (i+1) (acc++[(l.drop f).take (i-f)]) v' m' _ hd1 (by simp at hj;omega) (x1rz _) (by omega) (by rw[Nat.sub_self];simp) ?_ (by simp;omega) G1
   rw[<-hac,hcut];simp
  .have c2:¬((l[i]).toNat:Int)=c.toNat:=λh=>c1 (x1ck (by omega))
   simp only[c2,x1rx,x17d]
   unfold x44
   simp only[x18m,x16y,w7]
   refine ih (i+1) j f acc v m _ hd1 (by simp at hj;omega) (by omega) (by omega) ?_ hac (by omega) hG
   rw[take_snoc hfi hi]
   intro h
   rcases x1u2.1 h with h|h
   .exact hno h
   .rw[x1tw]at h;exact c1 h.symm
theorem w_Cut(d:Nat)(c:UInt8){l:List UInt8}(hl:l.length<=100000):∃x,Sl strE x (cutM c l)/\∀m,x16v (x16z (d+1)) xh [Tx l,U8 c.toNat] m=some (x,m):=by
 obtain⟨x,m',x',h1,h2,h3⟩:RetF (λx=>Sl strE x (cutM c l)) (x16z (d+1) [] xh [Tx l,U8 c.toNat] mem0):=by
  rw[xzf]
  unfold xa0 x8d xbh
  exact l_Cut d hl l 0 NN 0 [] nilS _ _ rfl (by rw[x18s];omega) (x1rz _) (x1te _) (by simp) rfl (x1rz _) Gq.nil
 exact⟨x',h3,λm=>x1eh rfl h1 h2⟩
def numV(o:Option Int):AV:=match o with
 |some n=>.tup [I n,B true]
 |none=>.tup [I 0,B false]
theorem l_Number(d:Nat){l:List UInt8}{at_:Nat}(hat:at_<=1){r:List UInt8}(hr:l.drop at_=r)(h18:r.length<=18):∀(suf:List UInt8) (i j:Nat) (m:Mem) (fc:Nat),r.drop i=suf->suf.length<j->(r.take i).all isDig=true ->
 ∃m',x2r (x16z d) [] 0 j (Tx l) (I at_) (I (valD 0 (r.take i))) (I (at_+i:Nat)) m fc=some (numV (if r.all isDig=true then some (if at_=1 then -(valD 0 r:Int)else valD 0 r)else none),m'):=by
 have hrl:r.length=l.length-at_:=by rw[<-hr,x1u8]
 intro suf
 induction suf with
 |nil=>
  intro i j m fc hd hj hall
  obtain⟨j,rfl⟩:∃k,j=k+1:=⟨j-1,by simp at hj;omega⟩
  have hii:r.length<=i:=x1sw.mp hd
  have hlt:¬(((at_+i:Nat):Int)<(l.length:Int)):=by omega
  rw[x1s7 hii]at hall ⊢
  have hb:=x1ek r 0 hall
  have hp:10 ^ r.length<=10 ^ 18:=Nat.pow_le_pow_right (by omega) h18
  rw[x1rq hall]
  simp only[x2r]
  unfold x8f xbi x8e
  simp only[x17q,x16y,x180,hlt,x1rx,x17d,x1ap]
  rcases(by omega:at_=0\/at_=1)with h|h
  .subst h
   exact⟨m,rfl⟩
  .subst h
   have w1:w64 (0-(valD 0 r:Int))=-(valD 0 r:Int):=by rw[x17s (by omega) (by omega)];omega
   simp only[show decide (((1:Nat):Int)=1)=true from rfl,x17b,sNeg_I,x16y,w1]
   exact⟨m,rfl⟩
 |cons x suf ih=>
  intro i j m fc hd hj hall
  obtain⟨j,rfl⟩:∃k,j=k+1:=⟨j-1,by simp at hj;omega⟩
  obtain⟨hi,hx,hd1⟩:=x197 hd
  have hi2:at_+i<l.length:=by omega
  have hlt:((at_+i:Nat):Int)<(l.length:Int):=by omega
  have hxl:l[at_+i]=x:=by
   rw[<-hx]
   have:r[i]?=l[at_+i]?:=by rw[<-hr,x1ta]
   rw[x1sf hi,x1sf hi2]at this
   exact(x1st this).symm
  have hidx:sIdx Tryz.prog x0 (Tx l) (I (at_+i:Nat))=some (U8 x.toNat):=by rw[x1c0 hi2,hxl]
  have hts:r.take (i+1)=r.take i++[x]:=by rw[List.take_add_one,x1sf hi,hx];rfl
  have w7:w64 (((at_+i:Nat):Int)+1)=((at_+(i+1):Nat):Int):=by rw[x17s (by omega) (by omega)];omega
  simp only[x2r]
  unfold x8f
  simp only[x17q,x16y,x180,hlt,x1rw,x17b,hidx,u8_lt,x181,x182,sW_f]
  have hxlt:=u8_lt256 x
  cases hdg:isDig x
  .have hno:r.all isDig=false:=by
    rw[x1sj]
    intro h
    have:=x1ry.mp h x (by rw[<-hx];exact x1sz hi)
    rw[hdg]at this;cases this
   rw[x1rr (by rw[hno];simp)]
   unfold isDig at hdg
   by_cases c1:(x.toNat:Int)<48
   .simp only[c1,x1rw,x1s3,x17n,x16y,x17l,x17j,x17b]
    exact⟨m,rfl⟩
   .have c2:(57:Int)<x.toNat:=by
     rw[x1sh (show 48<=x.toNat by omega),x1sm,decide_eq_false_iff_not]at hdg
     omega
    simp only[c1,x1rx,x1s0,x17j,x16y,hidx,u8_gt,c2,x1rw,x17l,x17n,x17b]
    exact⟨m,rfl⟩
  .have hg:=x1ej hdg
   have c1:¬(x.toNat:Int)<48:=by omega
   have c2:¬(57:Int)<x.toNat:=by omega
   have hall2:(r.take (i+1)).all isDig=true:=by rw[hts,x1v4,hall];simp[hdg]
   have hb:=x1ek (r.take i) 0 hall
   have hp:10 ^ (r.take i).length<=10 ^ 17:=Nat.pow_le_pow_right (by omega) (by rw[x1v2];omega)
   have e1:IntKind.u8.wrap ((x.toNat:Int)-48)=(x.toNat:Int)-48:=wrap_u8 (by omega) (by omega)
   have e2:IntKind.i64.wrap ((x.toNat:Int)-48)=(x.toNat:Int)-48:=x1j7 (by omega) (by omega)
   have w1:w64 (10*(valD 0 (r.take i):Int))=10*(valD 0 (r.take i):Int):=x17s (by omega) (by omega)
   have w2:w64 (10*(valD 0 (r.take i):Int)+((x.toNat:Int)-48))=(valD 0 (r.take (i+1)):Int):=by
    rw[hts,x1g7,x1dg,x17s (by omega) (by omega)];omega
   simp only[c1,c2,x1rx,x1s0,x17j,x16y,hidx,u8_gt,x17l,x17n,x17d,sMul_I,u8_sub,e1,c_int,e2,w1,x18m,w2,w7]
   exact ih (i+1) j m _ hd1 (by simp at hj;omega) hall2
theorem w_Number(d:Nat){l:List UInt8}(hl:l.length<=100000){k:Nat}(hk:k<=18)(m:Mem):x16v (x16z (d+1)) x1d [Tx l,I k] m=some (numV (nbrM l k),m):=by
 suffices h:∃m',x16z (d+1) [] x1d [Tx l,I k] mem0=some (numV (nbrM l k),m') by
  obtain⟨m',h⟩:=h
  cases hn:nbrM l k with
  |none=>rw[hn]at h;exact call0_tup rfl h rfl
  |some n=>rw[hn]at h;exact call0_tup rfl h rfl
 rw[xzg]
 unfold xa1 x8h xbj
 simp only[mem0,x17q,x16y,x189,x181,x182,sW_t]
 have four:∀(at_:Nat) (m:Mem) (fc:Nat),at_<=1->(at_=1↔l.head?=some 45)->∃m',x45 (x16z d) [] 0 (Tx l) (I k) (I at_) m fc=some (numV (nbrM l k),m'):=by
  intro at_ m fc hat hs
  have hr:(if l.head?=some 45 then l.tail else l)=l.drop at_:=by
   rcases(by omega:at_=0\/at_=1)with h|h
   .subst h
    rw[x1rr (λh=>absurd (hs.2 h) (by decide))];rfl
   .subst h
    rw[x1rq (hs.1 rfl),List.drop_one]
  have hsg:∀v:Nat,(if l.head?=some 45 then -(v:Int)else(v:Int))=if at_=1 then -(v:Int)else(v:Int):=λv=>by
   by_cases h:at_=1
   .rw[x1rq h,x1rq (hs.1 h)]
   .rw[x1rr h,x1rr (λh2=>h (hs.2 h2))]
  have hle:at_<=l.length:=by
   rcases(by omega:at_=0\/at_=1)with h|h
   .omega
   .have:=hs.1 h
    cases l with
    |nil=>simp at this
    |cons x t=>simp;omega
  have w1:w64 ((l.length:Int)-at_)=((l.length-at_:Nat):Int):=by rw[x17s (by omega) (by omega)];omega
  unfold nbrM
  dsimp only
  rw[hr,hsg]
  unfold x45
  simp only[x17q,x16y,x1ap,x181,x182,sW_f]
  have hdl:(l.drop at_).length=l.length-at_:=x1u8
  by_cases c1:(l.length:Int)=at_
  .have:l.drop at_=[]:=x1tv.1 (by omega)
   rw[x1rq (.inl this)]
   have c1':decide ((l.length:Int)=(at_:Int))=true:=x1sh c1
   rw[c1']
   simp only[x1s3,x17n,x16y,x17l,x17j,x17b,sW_U,sW_t,sW_f]
   exact⟨m,rfl⟩
  have hne:l.drop at_≠[]:=λh=>by rw[h]at hdl;simp at hdl;omega
  have c1':decide ((l.length:Int)=(at_:Int))=false:=x1t6 c1
  rw[c1']
  simp only[x1s0,x17j,x16y,x17q,x1ao,w1,x189,x17l,x17n,sW_f]
  by_cases c2:(k:Int)<((l.length-at_:Nat):Int)
  .rw[x1rq (.inr (.inl (by omega)))]
   simp only[c2,x1rw,x1s3,x17n,x16y,x17l,x17j,x17b,sW_U]
   exact⟨m,rfl⟩
  have hi:at_<l.length:=by omega
  have hh:(l.drop at_).head?=some l[at_]:=by rw[x1v3 hi];rfl
  simp only[c2,x1rx,x1s0,x17j,x16y,x1c0 hi,x1by,x17l,x17n,sW_f,sW_t]
  have fin:¬((l.drop at_).head?=some 48/\1<l.length)->∀fc,∃m',x8g (x16z d) [] 0 (Tx l) (I at_) (I 0) m fc=some (numV (if l.drop at_=[]\/k<(l.drop at_).length\/((l.drop at_).head?=some 48/\1<l.length)\/(l.drop at_).all isDig=false then none else some (if at_=1 then -(valD 0 (l.drop at_):Int)else valD 0 (l.drop at_))),m'):=by
   intro h3 fc
   unfold x8g
   obtain⟨m',h⟩:=l_Number d hat (r:=l.drop at_) rfl (by omega) (l.drop at_) 0 NN m (fc+2) rfl (by rw[x18s];omega) rfl
   refine⟨m',h.trans ?_⟩
   cases hall:(l.drop at_).all isDig
   .rw[x1rr (by simp),x1rq (.inr (.inr (.inr rfl)))]
   .have hn:¬(l.drop at_=[]\/k<(l.drop at_).length\/((l.drop at_).head?=some 48/\1<l.length)\/true=false):=by
     rintro(h|h|h|h)
     .exact hne h
     .omega
     .exact h3 h
     .cases h
    rw[x1rq rfl,x1rr hn]
  by_cases c3:((l[at_]).toNat:Int)=48
  .have c4:l[at_]=48:=x1ck (by show(l[at_]).toNat=48;omega)
   simp only[c3,x1rw,x17j,x16y,x17q,x189,x17l,x17n]
   by_cases c5:(1:Int)<l.length
   .rw[x1rq (.inr (.inr (.inl ⟨by rw[hh,c4],by omega⟩)))]
    simp only[c5,x1rw,x17b,x17l,x17j,x16y,sW_t,x1s0]
    exact⟨m,rfl⟩
   .simp only[c5,x1rx,x17d,x17l,x17n,x16y]
    exact fin (λh=>c5 (by omega)) _
  .simp only[c3,x1rx,x17n,x16y,x17l,x17d,sW_U]
   refine fin (λh=>c3 ?_) _
   have h1:=h.1
   rw[hh]at h1
   rw[x1st h1];rfl
 by_cases c:0<l.length
 .have c':(0:Int)<l.length:=by omega
  have hh:l.head?=some l[0]:=by
   cases l with
   |nil=>simp at c
   |cons x t=>rfl
  have hix:sIdx Tryz.prog x0 (Tx l) (I 0)=some (U8 (l[0]).toNat):=x1c0 (k:=0) c
  simp only[c',x1rw,x17j,x16y,hix,x1by,x17l]
  by_cases c2:((l[0]).toNat:Int)=45
  .simp only[c2,x1rw,x17b]
   refine four 1 _ _ (x1rz _) ⟨λ_=>?_,λ_=>rfl⟩
   rw[hh]
   congr 1
   exact x1ck (by show(l[0]).toNat=45;omega)
  .simp only[c2,x1rx,x17d]
   refine four 0 _ _ (by omega) ⟨λh=>(by cases h),λh=>?_⟩
   rw[hh]at h
   exact absurd (by rw[x1st h];rfl) c2
 .have c':¬(0:Int)<l.length:=by omega
  have hl0:l=[]:=x1tv.1 (by omega)
  simp only[c',x1rx,x17n,x16y,x17l,x17d]
  refine four 0 _ _ (by omega) ⟨λh=>(by cases h),λh=>?_⟩
  rw[hl0]at h;cases h
end Go.Ix
