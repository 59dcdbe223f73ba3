import Derived.Test.YtdfahbenacjgeaaGreatWg2
import Derived.Test.YtdfahbenacjgeaaGreatWg0
import Derived.Test.YtdfahbenacjgeaaGreatFxSound
set_option linter.unusedSimpArgs false
namespace Go.Ix
open Go.Proofs
variable{α:Type}{z:Nat}{enc:α->List AV}{l:List α}{a:AV}
def Gq{α:Type}(z:Nat)(enc:α->List AV)(u:Nat)(T:List Nat)(m:Mem)(a:AV)(l:List α):Prop:=
 (a=nilS/\l=[])\/∃s t ver,t∈T/\a=.sref (u,s,t) ver 0 l.length z true/\m.get (u,s,t)=some (.row (l.flatMap enc) ver false)
theorem Gq.nil{u:Nat}{T:List Nat}{m:Mem}:Gq z enc u T m nilS []:=Or.inl ⟨rfl,rfl⟩
theorem Gq.frame{u:Nat}{T:List Nat}{m m':Mem}(h:Gq z enc u T m a l)(hm:∀s t,t∈T->m'.get (u,s,t)=m.get (u,s,t)):Gq z enc u T m' a l:=by
 rcases h with h|⟨s,t,ver,h0,h1,h2⟩
 .exact Or.inl h
 .exact Or.inr ⟨s,t,ver,h0,h1,by rw[hm _ _ h0];exact h2⟩
theorem Gq.app(hz:∀x,(enc x).length=z)(h0:0<z){u t0 s0 bytes:Nat}{T:List Nat}{m:Mem}(ht:t0∈T)(hr:xt6 (l.length+1) bytes)(h:Gq z enc u T m a l)(x:α) :
 ∃a' m',(∀{R:Type} (k:AV->Mem->Option R),sApp z bytes (u,s0,t0) (some (enc x,1)) a m k=k a' m')/\Gq z enc u T m' a' (l++[x])/\m'.next=m.next/\∀j:Id,j.2.2∉T->m'.get j=m.get j:=by
 rcases h with ⟨rfl,rfl⟩|⟨s,t,ver,h1,rfl,hg⟩
 .refine⟨.sref (u,s0,t0) 0 0 1 z true,m.new (u,s0,t0) (.row (enc x) 0 false),λk=>?_,Or.inr ⟨s0,t0,0,ht,rfl,by simp⟩,rfl,λj hj=>?_⟩
  .simp only[sApp]
   rw[x1g6 (by omega),x1g7 (by simpa using hr)]
  .rw[Mem.get_new,x1g6 (by rintro rfl;exact hj ht)]
 .have hl:=xut hz l
  refine⟨.sref (u,s,t) (ver+1) 0 (l.length+1) z true,m.set (u,s,t) (.row (l.flatMap enc++enc x) (ver+1) false),λk=>?_,Or.inr ⟨s,t,ver+1,h1,by simp,by simp⟩,rfl,λj hj=>?_⟩
  .simp only[sApp,hg]
   rw[x1g7 ⟨trivial,trivial,by omega,hr⟩,x1g6 (by omega),x1g6 (by rw[hl,x1hb];omega),x1g8,x1gg (by omega)]
  .rw[Mem.get_set,x1g6 (by rintro rfl;exact hj h1)]
theorem Gq.app1(hz:∀x,(enc x).length=z)(h0:0<z){u bytes:Nat}{T:List Nat}{m:Mem}(hr:xt6 (l.length+1) bytes)(h:Gq z enc u T m a l)(hne:l≠[])(x:α) :
 ∃a' m',(∀(id:Id) {R:Type} (k:AV->Mem->Option R),sApp z bytes id (some (enc x,1)) a m k=k a' m')/\Gq z enc u T m' a' (l++[x])/\m'.next=m.next/\∀j:Id,j.2.2∉T->m'.get j=m.get j:=by
 rcases h with ⟨rfl,rfl⟩|⟨s,t,ver,h1,rfl,hg⟩
 .exact absurd rfl hne
 .have hl:=xut hz l
  refine⟨.sref (u,s,t) (ver+1) 0 (l.length+1) z true,m.set (u,s,t) (.row (l.flatMap enc++enc x) (ver+1) false),λid {R} k=>?_,Or.inr ⟨s,t,ver+1,h1,by simp,by simp⟩,rfl,λj hj=>?_⟩
  .simp only[sApp,hg]
   rw[x1g7 ⟨trivial,trivial,by omega,hr⟩,x1g6 (by omega),x1g6 (by rw[hl,x1hb];omega),x1g8,x1gg (by omega)]
  .rw[Mem.get_set,x1g6 (by rintro rfl;exact hj h1)]
theorem Gq.frz(hz:∀x,(enc x).length=z)(hs:∀x,(enc x).all still1=true){u:Nat}{T:List Nat}{m:Mem}(h:Gq z enc u T m a l):∃a',Sl enc a' l/\Go.Ix.frz m.get deep a=some a':=by
 rcases h with ⟨rfl,rfl⟩|⟨s,t,ver,_,rfl,hg⟩
 .exact⟨nilS,Or.inl ⟨rfl,rfl⟩,rfl⟩
 .have hl:=xut hz l
  refine⟨.slit (l.flatMap enc) l.length false,Sl.lit l false,?_⟩
  have:=xx3 (objs:=m.get) (id:=(u,s,t)) (cs:=l.flatMap enc) (ver:=ver) (off:=0) (n:=l.length) (z:=z) (k:=4) (f:=false) (x:=true) hg (by omega) (by
   rw[x1g8,x1gg (by omega)];exact xwm hs l)
  rw[x1g8,x1gg (by omega)]at this
  exact this
theorem Gq.len{u:Nat}{T:List Nat}{m:Mem}{t e:TypeId}(ht:Tryz.prog.underlying t=some (.slice e))(h:Gq z enc u T m a l):sLen Tryz.prog t a=some (I l.length):=by
 rcases h with ⟨rfl,rfl⟩|⟨s,t,ver,_,rfl,hg⟩
 .exact xzu ht
 .rfl
end Go.Ix
set_option linter.unusedVariables false
namespace Go.Ix
open Go.Proofs
variable{α:Type}{z:Nat}{enc:α->List AV}{l:List α}{a:AV}
def Gk{α:Type}(z:Nat)(enc:α->List AV)(ok:Id->Prop)(m:Mem)(a:AV)(l:List α):Prop:=
 (a=nilS/\l=[])\/∃id ver,ok id/\a=.sref id ver 0 l.length z true/\m.get id=some (.row (l.flatMap enc) ver false)
theorem Gk.nil{ok:Id->Prop}{m:Mem}:Gk z enc ok m nilS []:=Or.inl ⟨rfl,rfl⟩
theorem Gk.frame{ok:Id->Prop}{m m':Mem}(h:Gk z enc ok m a l)(hm:∀id,ok id->m'.get id=m.get id):Gk z enc ok m' a l:=by
 rcases h with h|⟨id,ver,h0,h1,h2⟩
 .exact Or.inl h
 .exact Or.inr ⟨id,ver,h0,h1,by rw[hm _ h0];exact h2⟩
theorem Gk.app(hz:∀x,(enc x).length=z)(h0:0<z){bytes:Nat}{ok:Id->Prop}{id0:Id}{m:Mem}(ht:ok id0)(hr:xt6 (l.length+1) bytes)(h:Gk z enc ok m a l)(x:α) :
 ∃a' m',(∀{R:Type} (k:AV->Mem->Option R),sApp z bytes id0 (some (enc x,1)) a m k=k a' m')/\Gk z enc ok m' a' (l++[x])/\a'.cells=[a']/\a'.one=true/\m'.next=m.next/\∀j:Id,¬ok j->m'.get j=m.get j:=by
 rcases h with ⟨rfl,rfl⟩|⟨id,ver,h1,rfl,hg⟩
 .refine⟨.sref id0 0 0 1 z true,m.new id0 (.row (enc x) 0 false),λk=>?_,Or.inr ⟨id0,0,ht,rfl,by simp⟩,rfl,rfl,rfl,λj hj=>?_⟩
  .simp only[sApp]
   rw[x1g6 (by omega),x1g7 (by simpa using hr)]
  .rw[Mem.get_new,x1g6 (by rintro rfl;exact hj ht)]
 .have hl:=xut hz l
  refine⟨.sref id (ver+1) 0 (l.length+1) z true,m.set id (.row (l.flatMap enc++enc x) (ver+1) false),λk=>?_,Or.inr ⟨id,ver+1,h1,by simp,by simp⟩,rfl,rfl,rfl,λj hj=>?_⟩
  .simp only[sApp,hg]
   rw[x1g7 ⟨trivial,trivial,by omega,hr⟩,x1g6 (by omega),x1g6 (by rw[hl,x1hb];omega),x1g8,x1gg (by omega)]
  .rw[Mem.get_set,x1g6 (by rintro rfl;exact hj h1)]
theorem Gk.one{ok:Id->Prop}{m:Mem}(h:Gk z enc ok m a l):a.cells=[a]/\a.one=true:=by
 rcases h with ⟨rfl,rfl⟩|⟨id,ver,h1,rfl,hg⟩<;>exact⟨rfl,rfl⟩
theorem Gk.frz(hz:∀x,(enc x).length=z)(hs:∀x,(enc x).all still1=true){ok:Id->Prop}{k:Nat}{m:Mem}(h:Gk z enc ok m a l):∃a',Sl enc a' l/\Go.Ix.frz m.get (k+2) a=some a':=by
 rcases h with ⟨rfl,rfl⟩|⟨id,ver,_,rfl,hg⟩
 .exact⟨nilS,Or.inl ⟨rfl,rfl⟩,rfl⟩
 .have hl:=xut hz l
  refine⟨.slit (l.flatMap enc) l.length false,Sl.lit l false,?_⟩
  have:=xx3 (objs:=m.get) (id:=id) (cs:=l.flatMap enc) (ver:=ver) (off:=0) (n:=l.length) (z:=z) (k:=k) (f:=false) (x:=true) hg (by omega) (by
   rw[x1g8,x1gg (by omega)];exact xwm hs l)
  rw[x1g8,x1gg (by omega)]at this
  exact this
theorem xz4{call:xsj}{f:FuncId}{l:List AV}{m m':Mem}{r:AV}(hl:l.all clean=true)(h:call [] f l ⟨[],m.next⟩=some (r,m')) :
 ∃M:Mem,xvb call f l m=some (r,M)/\M.next=m'.next/\∀i:Id,M.get i=if m.next<=i.1 then m'.get i else m.get i:=by
 refine⟨⟨(m'.hp.filter λe=>Nat.ble m.next e.1)++(m.hp.filter λe=>Nat.blt e.1 m.next),m'.next⟩,?_,rfl,λi=>congrFun (x17a m'.hp m.hp m.next) i⟩
 unfold xvb
 rw[x1g7 hl,h]
theorem x14j:∃i,Tryz.prog.info? xtg=some i/\i.size=1:=by
 have h:(Tryz.prog.info? xtg).map (λi=>i.size)=some 1:=by kernel_rfl
 obtain⟨i,h1,h2⟩:=x1gi.mp h
 exact⟨i,h1,h2⟩
theorem slice_hi{id:Id}{ver off n:Nat}{full:Bool}{hi:Int}(h1:0<=hi)(h2:hi<=n):xvk Tryz.prog x4 (.sref id ver off n 1 full) none (some (I hi))=some (.sref id ver off hi.toNat 1 full):=by
 obtain⟨i,e1,e2⟩:=x14j
 simp only[xvk,xtk,xt8,e1,asI,Option.getD_some,Option.getD_none]
 rw[x1g7 ⟨by omega,h1,h2,e2.symm⟩]
 simp
theorem x183{id:Id}{ver off n:Nat}{full:Bool}{lo:Int}(h0:0<=lo)(h2:lo<=n):xvk Tryz.prog x4 (.sref id ver off n 1 full) (some (I lo)) none=some (.sref id ver (off+lo.toNat) (n-lo.toNat) 1 full):=by
 obtain⟨i,e1,e2⟩:=x14j
 simp only[xvk,xtk,xt8,e1,asI,Option.getD_some,Option.getD_none]
 rw[x1g7 ⟨h0,by omega,by omega,e2.symm⟩,x1i4,show((n:Int)-lo).toNat=n-lo.toNat by omega]
theorem at0_left{l k:List Int}{i:Nat}(h:i<l.length):at0 (l++k) i=at0 l i:=by
 unfold at0
 simp only[x1gk]
 rw[x1iy h]
theorem Gk.len{α:Type}{z:Nat}{enc:α->List AV}{l:List α}{a:AV}{ok:Id->Prop}{m:Mem}{y e:TypeId}(ht:Tryz.prog.underlying y=some (.slice e))(h:Gk z enc ok m a l):sLen Tryz.prog y a=some (I l.length):=by
 rcases h with ⟨rfl,rfl⟩|⟨id,ver,_,rfl,hg⟩
 .exact xzu ht
 .rfl
theorem Gk.at{a:AV}{l:List Int}{ok:Id->Prop}{m:Mem}(h:Gk 1 intE ok m a l){k:Int}(h0:0<=k)(hk:k<l.length) :
 ∃q,sIx 1 a (I k)=some q/\sLd false 1 q m=some (I (at0 l k.toNat))/\∀v:Int,∃m',(∀{R:Type} (K:Mem->Option R),sSt 1 q (I v) m K=K m')/\Gk 1 intE ok m' a (l.set k.toNat v)/\m'.next=m.next/\∀j,¬ok j->m'.get j=m.get j:=by
 rcases h with ⟨rfl,rfl⟩|⟨id,ver,hok,rfl,hg⟩
 .simp at hk;omega
 .have hkl:k.toNat<l.length:=by omega
  refine⟨.ptr id ver k.toNat,?_,?_,λv=>⟨m.set id (.row ((l.set k.toNat v).flatMap intE) ver false),λK=>?_,Or.inr ⟨id,ver,hok,by simp,by simp⟩,rfl,λj hj=>?_⟩⟩
  .simp[sIx,asI,h0,hk]
  .rw[ld_ptr hg,rd,x1g6 (by simp),xwa,<-x1jv,xtm hkl,xt5 hkl]
   rfl
  .rw[st_ptr (z:=1) (x:=I v) (k:=K) hg rfl (by rw[xvx];omega) rfl]
   congr 3
   simp only[xwa,xth,x121]
   rw[List.map_set,x1kl,x1g7 (by simpa using hkl)]
   simp
  .rw[Mem.get_set,x1g6 (by rintro rfl;exact hj hok)]
theorem mix_at{l X:List Int}(hX:X.length=l.length){k:Nat}(hk:k<l.length):at0 (X.take k++l.drop k) k=at0 l k:=by
 rw[xt5 (by simp;omega),xt5 hk,x1lh (by simp;omega)]
 simp[hX,x1kk (Nat.le_of_lt hk)]
theorem x14k{l X:List Int}(hX:X.length=l.length){k:Nat}(hk:k<l.length):(X.take k++l.drop k).set k (at0 X k)=X.take (k+1)++l.drop (k+1):=by
 have hl:(X.take k).length=k:=by simp;omega
 rw[List.set_append,x1g6 (by omega),hl,x1ip,xtm hk,x1jx,x1gz (by omega),xt5 (by omega),x1i3]
 rfl
theorem mix_id{l X:List Int}(hX:X.length=l.length){k:Nat}(hk:k<l.length)(h:at0 X k=at0 l k):X.take k++l.drop k=X.take (k+1)++l.drop (k+1):=by
 rw[xtm hk,x1gz (by omega),<-xt5 (show k<X.length by omega),h,xt5 hk]
 simp
theorem x113{l X:List Int}(hX:X.length=l.length){k:Nat}(hk:k<=l.length):(X.take k++l.drop k).length=l.length:=by
 simp;omega
theorem u_union:Tryz.prog.underlying xhh=some (.slice xtg):=by kernel_rfl
def Keep(ok:Id->Prop)(m m':Mem):Prop:=∀j:Id,¬ok j->j.1<m.next->m'.get j=m.get j
theorem c_join(d:Nat)(hs:FHs){ok:Id->Prop}{m:Mem}{a:AV}{l:List Int}{p:Pq}(hG:Gk 1 intE ok m a l)(hok:∀j,ok j->j.1<m.next)(hp:PqIn l.length p)(hl:l.length<=1000) :
 ∃m',xsi (d+1) hs x14 [a,.agg [I p.a,I p.b]] m=some (B (!decide (at0 l p.a.toNat=at0 l p.b.toNat)),m')/\Gk 1 intE ok m' a (xtx l p)/\m'.next=m.next+1/\Keep ok m m':=by
 obtain⟨p0,p1,p2⟩:=hp
 rw[xmn]
 unfold xe6 x8y
 obtain⟨m0,hm0⟩:∃m0,m0=(⟨m.hp,m.next+1⟩:Mem).new (m.next,0,3) (.row [I p.a,I p.b] 0 false):=⟨_,rfl⟩
 have hf0:∀j:Id,j.1<m.next->m0.get j=m.get j:=λj hj=>by
  rw[hm0,Mem.get_new,x1g6 (by rintro rfl;exact Nat.lt_irrefl _ hj)];rfl
 have hn0:m0.next=m.next+1:=by rw[hm0];rfl
 have hg:m0.get (m.next,0,3)=some (.row [I p.a,I p.b] 0 false):=by rw[hm0];simp
 have hG0:Gk 1 intE ok m0 a l:=hG.frame λj hj=>hf0 j (hok j hj)
 obtain⟨q1,i1,l1,-⟩:=hG0.at (k:=p.a) p0 (by omega)
 obtain⟨q2,i2,l2,-⟩:=hG0.at (k:=p.b) (by omega) p2
 simp only[xxi,x142,x1h4,x1hn,one_I,x1hp,xsr,<-hm0]
 simp[hg,i1,l1,i2,l2]
 unfold xhg
 simp[hG0.len u_union]
 have hX:(xtx l p).length=l.length:=x12d l p
 refine xtd (N:=l.length) (σ:=Unit) (λn k _ m' fc=>x5i (xsi d) hs m.next n a (I (at0 l p.a.toNat)) (I (at0 l p.b.toNat)) a (I l.length) (I k) m' fc)
  (λk _ m'=>Gk 1 intE ok m' a ((xtx l p).take k++l.drop k)/\m'.next=m.next+1/\Keep ok m m')
  (λr=>∃m',r=some (B (!decide (at0 l p.a.toNat=at0 l p.b.toNat)),m')/\Gk 1 intE ok m' a (xtx l p)/\m'.next=m.next+1/\Keep ok m m') ?_ ?_ NN 0 () m0 _ (by omega) (by rw[xsu];omega) ⟨by simpa using hG0,hn0,λj _ hj=>hf0 j hj⟩
 .rintro n k-m1 fc hk ⟨h1,h2,h3⟩ next
  have hk':(k:Int)<(l.length:Int):=by omega
  have hml:=x113 (l:=l) (X:=xtx l p) hX (k:=k) (by omega)
  obtain⟨q,i3,l3,st⟩:=h1.at (k:=(k:Int)) (by omega) (by omega)
  rw[x1gb,mix_at hX hk]at l3
  have hj:=xxn (u:=l) (p:=p) hk
  simp only[x5i]
  unfold x8x xhf x8w
  by_cases c:at0 l k=at0 l p.a.toNat\/at0 l k=at0 l p.b.toNat
  .rw[x1g7 c]at hj
   obtain⟨m2,e1,e2,e3,e4⟩:=st (mn (at0 l p.a.toNat) (at0 l p.b.toNat))
   rw[x1gb,<-hj,x14k hX hk]at e2
   unfold mn at e1
   by_cases c1:at0 l k=at0 l p.a.toNat
   .simp(disch:=omega) [hk',i3,l3,c1,xso]
    rw[e1]
    exact next () m2 _ ⟨e2,by omega,λj hj hj2=>by rw[e4 j hj];exact h3 j hj hj2⟩
   .have c2:at0 l k=at0 l p.b.toNat:=c.resolve_left c1
    rw[c2]at l3 c1
    simp(disch:=omega) [hk',i3,l3,c1,xso]
    rw[e1]
    exact next () m2 _ ⟨e2,by omega,λj hj hj2=>by rw[e4 j hj];exact h3 j hj hj2⟩
  .rw[x1g6 c]at hj
   have c1:¬at0 l k=at0 l p.a.toNat:=λh=>c (Or.inl h)
   have c2:¬at0 l k=at0 l p.b.toNat:=λh=>c (Or.inr h)
   simp(disch:=omega) [hk',i3,l3,c1,c2,xso]
   exact next () m1 _ ⟨by rw[<-mix_id hX hk hj];exact h1,h2,h3⟩
 .rintro n-m1 fc ⟨h1,h2,h3⟩
  have hk:¬((l.length:Int)<(l.length:Int)):=by omega
  simp only[x5i]
  unfold x8x xhe
  simp[hk]
  rw[x1h5 (x1ga _),x1gg (by omega),x1hc]at h1
  exact⟨h1,h2,h3⟩
theorem xxp{n k:Nat}(h:k<n):(freshM n).take k++[(k:Int)]=(freshM n).take (k+1):=by
 rw[x1gz (by simpa[freshM]using h)]
 simp[freshM]
theorem x14l(d:Nat){n:Nat}(hn:n<=1000)(m:Mem):∃a M,xvb (xsi (d+1)) x13 [I n] m=some (a,M)/\Gk 1 intE (λid=>id.1=m.next) M a (freshM n)/\M.next=m.next+1/\∀j:Id,j.1<m.next->M.get j=m.get j:=by
 obtain⟨a,m',h1,h2,h3⟩:∃a m',xsi (d+1) [] x13 [I n] ⟨[],m.next⟩=some (a,m')/\Gk 1 intE (λid=>id.1=m.next) m' a (freshM n)/\m'.next=m.next+1:=by
  rw[xmm]
  unfold xe5 x8v xhd
  refine xtd (N:=n) (λj k a m' fc=>x5h (xsi d) [] m.next j a (I n) (I k) m' fc) (λk a m'=>Gk 1 intE (λid=>id.1=m.next) m' a ((freshM n).take k)/\m'.next=m.next+1)
   (λr=>∃a m',r=some (a,m')/\Gk 1 intE (λid=>id.1=m.next) m' a (freshM n)/\m'.next=m.next+1) ?_ ?_ NN 0 nilS _ _ (by omega) (by rw[xsu];omega) ⟨by simpa using Gk.nil,rfl⟩
  .rintro j k a m1 fc hk ⟨hG,hN⟩ next
   have hk':(k:Int)<(n:Int):=by omega
   have hlt:((freshM n).take k).length=k:=by simp[freshM];omega
   obtain⟨a2,m2,e1,e2,-,-,e3,-⟩:=Gk.app (ok:=λid=>id.1=m.next) (bytes:=8) (id0:=(m.next,fc+6,12)) xt2 (by omega) rfl (by unfold xt6;omega) hG (k:Int)
   simp only[x5h]
   unfold x8u
   simp(disch:=omega) [hk',xu3,xso]
   rw[show elems m1.get 1 (.slit [I (k:Int)] 1 true)=some ([I (k:Int)],1)from rfl]
   rw[show[I (k:Int)]=intE k from rfl,e1]
   exact next a2 m2 _ ⟨by rw[<-xxp hk];exact e2,by omega⟩
  .rintro j a m1 fc ⟨hG,hN⟩
   have hk:¬((n:Int)<(n:Int)):=by omega
   simp only[x5h]
   unfold x8u xhc
   simp[hk]
   exact⟨a,m1,⟨rfl,rfl⟩,by rw[x1gg (by simp[freshM])]at hG;exact hG,hN⟩
 obtain⟨M,hc,hM,hj⟩:=xz4 (l:=[I n]) rfl h1
 refine⟨a,M,hc,h2.frame λj hjj=>?_,by omega,λj hlt=>?_⟩
 .rw[hj j,x1g7 (by omega)]
 .rw[hj j,x1g6 (by omega)]
def scAt(l:List Scene)(i:Int):Scene:=l.getD i.toNat ⟨⟨#[]⟩,0,0⟩
def lenP(l:List Scene)(p:Pq):Int:=(((scAt l p.a).day-(scAt l p.b).day).natAbs:Int)+(((scAt l p.a).bl-(scAt l p.b).bl).natAbs:Int)
theorem x14m{l:List Scene}{i:Int}(h:i.toNat<l.length):scAt l i=l[i.toNat]:=by
 unfold scAt;rw[x1gk,x1gv h];rfl
theorem xxq{P:List Pq}{i:Int}(h:i.toNat<P.length):prAt P i=P[i.toNat]:=by
 unfold prAt;rw[x1gk,x1gv h];rfl
theorem x101{l:List Scene}(hb:InB l){i:Int}(h0:0<=i)(h:i<l.length):(0<=(scAt l i).day/\(scAt l i).day<=100000)/\(-100000<=(scAt l i).bl/\(scAt l i).bl<=100000):=by
 rw[x14m (by omega)]
 exact hb.get (by omega)
theorem x114{l:List Scene}(hb:InB l){p:Pq}(hp:PqIn l.length p):0<=lenP l p/\lenP l p<=300000:=by
 obtain⟨h0,h1,h2⟩:=hp
 have a:=x101 hb (i:=p.a) h0 (by omega)
 have b:=x101 hb (i:=p.b) (by omega) h2
 unfold lenP
 omega
theorem Sl.ixz{α:Type}{enc:α->List AV}{z:Nat}{a:AV}{l:List α}(hz:∀x,(enc x).length=z)(h:Sl enc a l){k:Int}(h0:0<=k)(hk:k<l.length):sIx z a (I k)=some (.plit ((l.drop k.toNat).flatMap enc)):=by
 have:=h.ix hz (k:=k.toNat) (by omega)
 rwa[x1hg h0]at this
theorem x14n(d:Nat){s p:AV}{l:List Scene}{P:List Pq}(hs:Sl Scene.c s l)(hp:Sl Pq.c p P)(hb:InB l){i:Int}(hi:0<=i/\i<P.length)(hP:PqIn l.length (prAt P i))(m:Mem) :
 xsl (xsi (d+2)) x1l [.agg [s,p],I i] m=some (I (lenP l (prAt P i)),m):=by
 refine xua (by simp[hs.still1,hp.still1]) ?_ m
 obtain⟨h0,h1,h2⟩:=hP
 have ba:=x101 hb (i:=(prAt P i).a) h0 (by omega)
 have bb:=x101 hb (i:=(prAt P i).b) (by omega) h2
 have ip:=hp.ixz Pq.len hi.1 hi.2
 have lp:=λm=>xtz (m:=m) (enc:=Pq.c) Pq.len (by omega) (show i.toNat<P.length by omega)
 rw[<-xxq (by omega)]at lp
 have ia:=hs.ixz Scene.len h0 (show(prAt P i).a<l.length by omega)
 have ib:=hs.ixz Scene.len (show 0<=(prAt P i).b by omega) h2
 have la:=λm=>xtz (m:=m) (enc:=Scene.c) Scene.len (by omega) (show(prAt P i).a.toNat<l.length by omega)
 have lb:=λm=>xtz (m:=m) (enc:=Scene.c) Scene.len (by omega) (show(prAt P i).b.toNat<l.length by omega)
 rw[<-x14m (by omega)]at la lb
 unfold lenP
 rw[xnh]
 unfold xez xah
 generalize scAt l (prAt P i).a=x at *
 generalize scAt l (prAt P i).b=y at *
 generalize prAt P i=e at *
 simp only[Pq.c]at lp
 simp only[Scene.c]at la lb
 simp(disch:=omega) [mem0,hs.one,hp.one,ip,lp,ia,ib,la,lb,xv3,x125,tR,tS,xsm,disj,xso,w_size7,cAp,show Nat.blt 0 1=true from rfl]
 refine RetF.st ?_ ?_<;>rfl
theorem x14o(d:Nat){s p:AV}{l:List Scene}{P:List Pq}(hs:Sl Scene.c s l)(hp:Sl Pq.c p P)(hb:InB l){i:Int}(hi:0<=i/\i<P.length)(hP:PqIn l.length (prAt P i))(m:Mem) :
 xsl (xsi (d+2)) x1j [.agg [s,p],I i] m=some (I (lenP l (prAt P i)),m):=by
 refine xua (by simp[hs.still1,hp.still1]) ?_ m
 obtain⟨h0,h1,h2⟩:=hP
 have ba:=x101 hb (i:=(prAt P i).a) h0 (by omega)
 have bb:=x101 hb (i:=(prAt P i).b) (by omega) h2
 have ip:=hp.ixz Pq.len hi.1 hi.2
 have l0:=λm=>xy8 (m:=m) (enc:=Pq.c) (show i.toNat<P.length by omega) 0 rfl
 have l1:=λm=>xy8 (m:=m) (enc:=Pq.c) (show i.toNat<P.length by omega) 1 rfl
 rw[<-xxq (by omega)]at l0 l1
 simp only[x1g8]at l0
 simp only[List.drop_one]at l1
 have ia:=hs.ixz Scene.len h0 (show(prAt P i).a<l.length by omega)
 have ib:=hs.ixz Scene.len (show 0<=(prAt P i).b by omega) h2
 have la:=λm=>xtz (m:=m) (enc:=Scene.c) Scene.len (by omega) (show(prAt P i).a.toNat<l.length by omega)
 have lb:=λm=>xtz (m:=m) (enc:=Scene.c) Scene.len (by omega) (show(prAt P i).b.toNat<l.length by omega)
 rw[<-x14m (by omega)]at la lb
 unfold lenP
 rw[xms]
 unfold xeb x98
 generalize scAt l (prAt P i).a=x at *
 generalize scAt l (prAt P i).b=y at *
 generalize prAt P i=e at *
 simp only[Scene.c]at la lb
 simp(disch:=omega) [mem0,hs.one,hp.one,ip,l0,l1,ia,ib,la,lb,xv3,x125,tR,tS,xsm,disj,xso,w_Size,cAp,show Nat.blt 0 1=true from rfl]
 refine RetF.st ?_ ?_<;>rfl
def sumL(l:List Scene)(P:List Pq):Int->List Int->Int
 |s,[]=>s
 |s,i::r=>sumL l P (s+lenP l (prAt P i)) r
def Rng(n:Nat)(P:List Pq)(F:List Int):Prop:=∀i∈F,(0<=i/\i<P.length)/\PqIn n (prAt P i)
theorem Rng.get{n:Nat}{P:List Pq}{F:List Int}(h:Rng n P F){k:Nat}(hk:k<F.length):(0<=at0 F k/\at0 F k<P.length)/\PqIn n (prAt P (at0 F k)):=by
 rw[xt5 hk];exact h _ (x1go hk)
theorem w_total(d:Nat){s p f:AV}{l:List Scene}{P:List Pq}{F:List Int}(hs:Sl Scene.c s l)(hp:Sl Pq.c p P)(hf:Ints f F)(hb:InB l)(hR:Rng l.length P F)(hF:F.length<=1000)(m:Mem) :
 xsl (xsi (d+3)) x44 [.agg [s,p],f] m=some (I (sumL l P 0 F),m):=by
 refine xua (by simp[hs.still1,hp.still1,hf.still]) ?_ m
 rw[xmq]
 unfold xe9 x92 xhj
 simp[mem0,hs.one,hp.one,hf.len xt8]
 refine xtd (N:=F.length) (σ:=Int) (λn k t m fc=>x5j (xsi (d+2)) [] 0 n (.ptr (0,0,2) 0 0) (I t) f (I F.length) (I k) m fc)
  (λk t m=>m.get (0,0,2)=some (.row [s,p] 0 false)/\(0<=t/\t<=k*300000)/\sumL l P t (F.drop k)=sumL l P 0 F) _ ?_ ?_ NN 0 0 _ _ (by omega) (by rw[xsu];omega) ⟨by simp,by omega,by simp⟩
 .rintro n k t m fc hk ⟨hg,ht,hT⟩ next
  have hk':(k:Int)<(F.length:Int):=by omega
  have ix:=hf.ix xt2 hk
  have ld:=xte (m:=m) hk
  obtain⟨hr,hq⟩:=hR.get hk
  have hl:=x114 hb hq
  rw[xtm hk,sumL,<-xt5 hk]at hT
  have hw:=x14n d hs hp hb hr hq m
  simp only[x5j]
  unfold x91
  simp[hk',ix,ld,hg,hw]
  rw[xso (by omega) (by omega),xso (by omega) (by omega)]
  exact next _ m _ ⟨hg,by omega,hT⟩
 .rintro n t m fc ⟨hg,ht,hT⟩
  have hk:¬((F.length:Int)<(F.length:Int)):=by omega
  simp only[x5j]
  unfold x91 xhi
  rw[x1h5 (x1ga _)]at hT
  simp[hk]
  exact RetF.st rfl (by rw[<-hT];rfl)
end Go.Ix
namespace Go.Ix
variable{P:List Pq}
theorem x12g{u:List Int}{p:Pq}(h:at0 u p.a.toNat=at0 u p.b.toNat):xtx u p=u:=by
 unfold xtx
 conv=>rhs;rw[<-List.map_id u]
 apply x1l5
 intro x _
 show _=x
 rw[h]
 by_cases c:x=at0 u p.b.toNat
 .rw[x1g7 (Or.inl c),c];unfold mn;simp
 .rw[x1g6 (by simp[c])]
def takeM(P:List Pq):List Int->List Int->List Int
 |_,[]=>[]
 |u,i::r=>if at0 u (prAt P i).a.toNat=at0 u (prAt P i).b.toNat then takeM P u r else i::takeM P (xtx u (prAt P i)) r
theorem x12h:∀(l u:List Int),joinsM u (prs P (takeM P u l))=joinsM u (prs P l)
 |[],_=>rfl
 |i::r,u=>by
  rw[takeM]
  by_cases c:at0 u (prAt P i).a.toNat=at0 u (prAt P i).b.toNat
  .rw[x1g7 c,x12h r u]
   show _=joinsM (xtx u (prAt P i)) (prs P r)
   rw[x12g c]
  .rw[x1g6 c]
   exact x12h r (xtx u (prAt P i))
theorem x14p:∀(l u:List Int),Indep u (prs P (takeM P u l))
 |[],_=>trivial
 |i::r,u=>by
  rw[takeM]
  by_cases c:at0 u (prAt P i).a.toNat=at0 u (prAt P i).b.toNat
  .rw[x1g7 c];exact x14p r u
  .rw[x1g6 c];exact⟨c,x14p r _⟩
theorem xyc:∀(l u:List Int),(takeM P u l).Sublist l
 |[],_=>List.Sublist.slnil
 |i::r,u=>by
  rw[takeM]
  by_cases c:at0 u (prAt P i).a.toNat=at0 u (prAt P i).b.toNat
  .rw[x1g7 c];exact(xyc r u).cons i
  .rw[x1g6 c];exact(xyc r _).cons_cons i
theorem x14q:∀(l k u:List Int),takeM P u (l++k)=takeM P u l++takeM P (joinsM u (prs P l)) k
 |[],_,_=>rfl
 |i::r,k,u=>by
  rw[x1i0,takeM,takeM]
  by_cases c:at0 u (prAt P i).a.toNat=at0 u (prAt P i).b.toNat
  .rw[x1g7 c,x1g7 c,x14q r k u]
   show _=takeM P u r++takeM P (joinsM (xtx u (prAt P i)) (prs P r)) k
   rw[x12g c]
  .rw[x1g6 c,x1g6 c,x14q r k _]
   rfl
theorem x184(l u:List Int)(i:Int):takeM P u (l++[i])=takeM P u l++(if at0 (joinsM u (prs P l)) (prAt P i).a.toNat=at0 (joinsM u (prs P l)) (prAt P i).b.toNat then[]else[i]):=by
 rw[x14q]
 congr 1
theorem x14r{α:Type}{R:α->α->Prop}(hi:∀a,¬R a a)(ha:∀a b,R a b->R b a->False):∀{l k:List α},l.Pairwise R->k.Pairwise R->(∀x,x∈l↔x∈k)->l=k
 |[],[],_,_,_=>rfl
 |[],y::k,_,_,h=>by have:=(h y).mpr (x1gf ..);cases this
 |x::l,[],_,_,h=>by have:=(h x).mp (x1gf ..);cases this
 |x::l,y::k,h1,h2,h=>by
  rw[x1i9]at h1 h2
  have e:x=y:=by
   rcases x1gn.mp ((h x).mp (x1gf ..))with e|e
   .exact e
   .rcases x1gn.mp ((h y).mpr (x1gf ..))with e2|e2
    .exact e2.symm
    .exact(ha _ _ (h2.1 x e) (h1.1 y e2)).elim
  subst e
  have:=x14r hi ha h1.2 h2.2 λz=>by
   constructor
   .intro hz
    rcases x1gn.mp ((h z).mp (x1ge _ hz))with e|e
    .rw[e]at hz;exact(hi _ (h1.1 _ hz)).elim
    .exact e
   .intro hz
    rcases x1gn.mp ((h z).mpr (x1ge _ hz))with e|e
    .rw[e]at hz;exact(hi _ (h2.1 _ hz)).elim
    .exact e
  rw[this]
theorem x185{α:Type}{R:α->α->Prop}(hi:∀a,¬R a a){l:List α}(h:l.Pairwise R):l.Nodup:=List.Pairwise.imp (S:=λa b=>a≠b) (λ{a b} hr (e:a=b)=>hi a (by rw[<-e]at hr;exact hr)) h
def lx(f:Int->Int)(i j:Int):Prop:=f i<f j\/(f i=f j/\i<j)
theorem lx_irr{f:Int->Int}(i:Int):¬lx f i i:=by unfold lx;omega
theorem lx_asym{f:Int->Int}(i j:Int)(h:lx f i j)(h2:lx f j i):False:=by unfold lx at *;omega
theorem x186{f:Int->Int}{i j k:Int}(h:lx f i j)(h2:lx f j k):lx f i k:=by unfold lx at *;omega
theorem lx_tot{f:Int->Int}{i j:Int}(h:i≠j):lx f i j\/lx f j i:=by unfold lx;omega
def Ordd(f:Int->Int)(N:Nat)(L:List Int):Prop:=L.Pairwise (lx f)/\∀x,x∈L↔(0<=x/\x<N)
theorem Ordd.one{f:Int->Int}{N:Nat}{L K:List Int}(h:Ordd f N L)(k:Ordd f N K):L=K:=x14r lx_irr lx_asym h.1 k.1 λx=>(h.2 x).trans (k.2 x).symm
theorem Ordd.nodup{f:Int->Int}{N:Nat}{L:List Int}(h:Ordd f N L):L.Nodup:=x185 lx_irr h.1
def Asc(F:List Int):Prop:=F.Pairwise (· < ·)
theorem Asc.one{F G:List Int}(h:Asc F)(k:Asc G)(e:∀x,x∈F↔x∈G):F=G:=x14r (λa=>by omega) (λa b=>by omega) h k e
theorem Asc.nodup{F:List Int}(h:Asc F):F.Nodup:=x185 (λa=>by omega) h
theorem x187{l k:List Int}(hl:l.Nodup)(hk:k.Nodup)(h:∀x,x∈l↔x∈k):l.length=k.length:=by
 have:=x14d hl λx hx=>(h x).mp hx
 have:=x14d hk λx hx=>(h x).mpr hx
 omega
theorem fresh_mem{N:Nat}{x:Int}:x∈freshM N↔(0<=x/\x<N):=by
 unfold freshM
 rw[x1gs]
 constructor
 .rintro⟨i,hi,rfl⟩
  have:=x1h0.mp hi
  omega
 .rintro⟨h0,h1⟩
  exact⟨x.toNat,x1h0.mpr (by omega),by omega⟩
theorem x14s(N:Nat):Asc (freshM N):=by
 unfold Asc freshM
 rw[List.pairwise_map]
 exact x1l7.imp λh=>by omega
theorem Asc.filter{F:List Int}(h:Asc F)(p:Int->Bool):Asc (F.filter p):=List.Pairwise.filter p h
variable{n:Nat}
theorem x188{t:List Int}{l:List Pq}(hl:∀p∈l,PqIn n p)(h:∀p∈l,Sm t p.a.toNat p.b.toNat){v w:Nat}(hv:v<n)(hw:w<n)(hs:Sm (joinsM (freshM n) l) v w):Sm t v w:=by
 refine x14h (R:=Sm t) (λh=>h.symm) (λh1 h2=>h1.trans h2) (Lab.fresh n) hl h (λa b ha hb e=>?_) v w hv hw hs
 unfold Sm at e
 rw[Lab.get_fresh ha,Lab.get_fresh hb]at e
 have:a=b:=by omega
 rw[this];rfl
theorem x189{l k:List Pq}(hl:∀p∈l,PqIn n p)(hk:∀p∈k,PqIn n p)(h1:∀p∈l,Sm (joinsM (freshM n) k) p.a.toNat p.b.toNat)(h2:∀p∈k,Sm (joinsM (freshM n) l) p.a.toNat p.b.toNat):joinsM (freshM n) l=joinsM (freshM n) k:=
 ((Lab.fresh n).joins hl).ext ((Lab.fresh n).joins hk) λv w hv hw=>⟨x188 hl h1 hv hw,x188 hk h2 hv hw⟩
theorem x18a{l k:List Pq}(hl:∀p∈l,PqIn n p)(hk:∀p∈k,PqIn n p)(h:∀p,p∈l↔p∈k):joinsM (freshM n) l=joinsM (freshM n) k:=
 x189 hl hk (λp hp=>xxo (Lab.fresh n) hk p ((h p).mp hp)) (λp hp=>xxo (Lab.fresh n) hl p ((h p).mpr hp))
theorem x18b:∀{l:List Pq} {u:List Int},Lab n u->(∀p∈l,PqIn n p)->xwb n u<=xwb n (joinsM u l)+l.length
 |[],_,_,_=>x1ga _
 |p::l,u,h,hp=>by
  have hq:=hp p (x1gf ..)
  have ih:=x18b (h.join hq) λq hq=>hp q (x1ge _ hq)
  have e:joinsM u (p::l)=joinsM (xtx u p) l:=rfl
  rw[e,x1gq]
  by_cases c:Sm u p.a.toNat p.b.toNat
  .rw[x12g c]at ih ⊢;omega
  .have:=x14i h hq c;omega
theorem x18c:∀{l:List Pq} {u:List Int},Lab n u->(∀p∈l,PqIn n p)->xwb n (joinsM u l)+l.length<=xwb n u->Indep u l
 |[],_,_,_,_=>trivial
 |p::l,u,h,hp,hr=>by
  have hq:=hp p (x1gf ..)
  have hl:∀q∈l,PqIn n q:=λq hq=>hp q (x1ge _ hq)
  have e:joinsM u (p::l)=joinsM (xtx u p) l:=rfl
  rw[e,x1gq]at hr
  by_cases c:Sm u p.a.toNat p.b.toNat
  .have:=x18b (h.join hq) hl
   rw[x12g c]at this hr
   omega
  .have:=x14i h hq c
   exact⟨c,x18c (h.join hq) hl (by omega)⟩
theorem For.perm(hP:∀p∈P,PqIn n p){F G:List Int}(h:For n P F)(hG:G.Nodup)(he:∀x,x∈F↔x∈G):For n P G:=by
 have hr:∀i∈G,0<=i/\i<P.length:=λi hi=>h.rng i ((he i).mpr hi)
 refine⟨hr,hG,x18c (Lab.fresh n) (xv4 hP hr) ?_⟩
 have h1:=x12e (Lab.fresh n) (xv4 hP h.rng) h.ind
 have h2:joinsM (freshM n) (prs P G)=joinsM (freshM n) (prs P F):=x18a (xv4 hP hr) (xv4 hP h.rng) λp=>by
  unfold prs
  rw[x1gs,x1gs]
  exact⟨λ⟨i,a,b⟩=>⟨i,(he i).mpr a,b⟩,λ⟨i,a,b⟩=>⟨i,(he i).mp a,b⟩⟩
 have h3:=x187 h.nod hG he
 rw[h2]
 have e1:(prs P F).length=F.length:=by unfold prs;simp
 have e2:(prs P G).length=G.length:=by unfold prs;simp
 omega
theorem For.sub(hP:∀p∈P,PqIn n p){F G:List Int}(h:For n P F)(hG:G.Nodup)(hs:∀x∈G,x∈F):For n P G:=by
 refine(h.perm (G:=G++F.filter λx=>!(G.contains x)) hP ?_ λx=>?_).take
 .rw[x1io]
  refine⟨hG,h.nod.filter _,λa ha b hb e=>?_⟩
  subst e
  have:=(x1h1.mp hb).2
  simp at this
  exact this ha
 .rw[x1h2,x1h1]
  by_cases c:x∈G
  .simp[c,hs x c]
  .simp[c]
theorem prs_fresh:prs P (freshM P.length)=P:=by
 apply x1j2
 .simp[prs,freshM]
 .intro k h1 h2
  have h3:k<P.length:=h2
  simp[prs,freshM,prAt,x1gk,h3]
structure Tree (n:Nat) (P:List Pq) (F:List Int):Prop where
 fo:For n P F
 asc:Asc F
 all:∀p∈P,Sm (joinsM (freshM n) (prs P F)) p.a.toNat p.b.toNat
theorem mem_prs{F':List Int}(hr:∀i∈F',0<=i/\i<P.length):∀p∈prs P F',p∈P:=by
 intro p hp
 obtain⟨i,hi,rfl⟩:=x1gs.mp hp
 have:=hr i hi
 have h2:i.toNat<P.length:=by omega
 unfold prAt
 rw[x1gk,x1gv h2]
 exact x1go h2
theorem Tree.uni(hP:∀p∈P,PqIn n p){F:List Int}(h:Tree n P F):joinsM (freshM n) (prs P F)=joinsM (freshM n) P:=
 x189 (xv4 hP h.fo.rng) hP (λp hp=>xxo (Lab.fresh n) hP p (mem_prs h.fo.rng p hp)) h.all
theorem Tree.len(hP:∀p∈P,PqIn n p){F:List Int}(h:Tree n P F):n=xwb n (joinsM (freshM n) P)+F.length:=by
 have:=x12e (Lab.fresh n) (xv4 hP h.fo.rng) h.fo.ind
 rw[x182,h.uni hP]at this
 have e:(prs P F).length=F.length:=by unfold prs;simp
 omega
def insM(f:Int->Int)(x:Int):List Int->List Int
 |[]=>[x]
 |y::r=>if f x<f y\/(f x=f y/\x<y)then x::y::r else y::insM f x r
theorem ins_mem{f:Int->Int}{x z:Int}:∀{l:List Int},z∈insM f x l↔z=x\/z∈l
 |[]=>by simp[insM]
 |y::r=>by
  rw[insM]
  split
  .simp
  .rw[x1gn,ins_mem,x1gn]
   constructor
   .rintro(h|h|h)<;>simp[h]
   .rintro(h|h|h)<;>simp[h]
theorem ins_srt{f:Int->Int}{x:Int}:∀{l:List Int},l.Pairwise (lx f)->x∉l->(insM f x l).Pairwise (lx f)
 |[],_,_=>by simp[insM]
 |y::r,h,hx=>by
  rw[insM]
  rw[x1i9]at h
  split
  .rename_i c
   rw[x1i9]
   refine⟨λz hz=>?_,x1i9.mpr h⟩
   rcases x1gn.mp hz with rfl|hz
   .exact c
   .exact x186 c (h.1 z hz)
  .rename_i c
   rw[x1i9]
   refine⟨λz hz=>?_,ins_srt h.2 λhm=>hx (x1ge _ hm)⟩
   rcases ins_mem.mp hz with rfl|hz
   .rcases lx_tot (f:=f) (i:=z) (j:=y) (λe=>hx (by rw[e];exact x1gf ..))with e|e
    .exact absurd e c
    .exact e
   .exact h.1 z hz
def ordM(f:Int->Int)(N:Nat):List Int:=(freshM N).foldr (insM f) []
theorem xxr(f:Int->Int)(N:Nat):Ordd f N (ordM f N):=by
 have main:∀l:List Int,l.Nodup->(l.foldr (insM f) []).Pairwise (lx f)/\∀x,x∈l.foldr (insM f) []↔x∈l:=by
  intro l
  induction l with
  |nil=>intro _;simp
  |cons y r ih=>
   intro h
   rw[x1hz]at h
   obtain⟨h1,h2⟩:=ih h.2
   rw[x1k8]
   exact⟨ins_srt h1 λhm=>h.1 ((h2 y).mp hm),λx=>by rw[ins_mem,h2,x1gn]⟩
 obtain⟨h1,h2⟩:=main (freshM N) (x14s N).nodup
 exact⟨h1,λx=>(h2 x).trans fresh_mem⟩
def xuf(f:Int->Int)(n:Nat)(P:List Pq):List Int:=takeM P (freshM n) (ordM f P.length)
def xu0(f:Int->Int)(n:Nat)(P:List Pq):List Int:=(freshM P.length).filter λi=>(xuf f n P).contains i
theorem x18d{f:Int->Int}{x:Int}(h:x∈xuf f n P):0<=x/\x<P.length:=((xxr f P.length).2 x).mp ((xyc _ _).subset h)
theorem x18e(f:Int->Int):(xuf f n P).Nodup:=(xyc _ _).nodup (xxr f P.length).nodup
theorem light_mem{f:Int->Int}{x:Int}:x∈xu0 f n P↔x∈xuf f n P:=by
 unfold xu0
 rw[x1h1,fresh_mem]
 constructor
 .rintro⟨_,h⟩;simpa using h
 .intro h;exact⟨x18d h,by simpa using h⟩
theorem x14t(f:Int->Int):Asc (xu0 f n P):=(x14s _).filter _
theorem x14u(hP:∀p∈P,PqIn n p)(f:Int->Int):For n P (xuf f n P):=⟨λi hi=>x18d hi,x18e f,x14p _ _⟩
theorem x102(hP:∀p∈P,PqIn n p)(f:Int->Int):For n P (xu0 f n P):=(x14u hP f).perm hP (x14t f).nodup λx=>light_mem.symm
theorem x18f(hP:∀p∈P,PqIn n p)(f:Int->Int):Tree n P (xu0 f n P):=by
 refine⟨x102 hP f,x14t f,λp hp=>?_⟩
 have hO:∀i∈ordM f P.length,0<=i/\i<P.length:=λi hi=>((xxr f P.length).2 i).mp hi
 have e:joinsM (freshM n) (prs P (xu0 f n P))=joinsM (freshM n) (prs P (ordM f P.length)):=by
  rw[<-x12h (P:=P) (ordM f P.length)]
  refine x18a (xv4 hP (x102 hP f).rng) (xv4 hP (x14u hP f).rng) λq=>?_
  unfold prs
  rw[x1gs,x1gs]
  exact⟨λ⟨i,a,b⟩=>⟨i,light_mem.mp a,b⟩,λ⟨i,a,b⟩=>⟨i,light_mem.mpr a,b⟩⟩
 rw[e]
 refine xxo (Lab.fresh n) (xv4 hP hO) p ?_
 unfold prs
 rw[x1gs]
 obtain⟨k,hk,rfl⟩:=x1is.mp hp
 refine⟨(k:Int),((xxr f P.length).2 _).mpr (by omega),?_⟩
 unfold prAt
 simp[x1gk,hk]
theorem Ordd.split{f:Int->Int}{N:Nat}{L:List Int}(h:Ordd f N L)(c:Int):L=L.filter (λi=>decide (f i<=c))++L.filter (λi=>!decide (f i<=c)):=by
 refine h.one ⟨?_,λx=>?_⟩
 .rw[x1j0]
  refine⟨h.1.filter _,h.1.filter _,λa ha b hb=>?_⟩
  have h1:=(x1h1.mp ha).2
  have h2:=(x1h1.mp hb).2
  simp at h1 h2
  unfold lx
  omega
 .rw[<-h.2,x1h2,x1h1,x1h1]
  cases decide (f x<=c)<;>simp
end Go.Ix
