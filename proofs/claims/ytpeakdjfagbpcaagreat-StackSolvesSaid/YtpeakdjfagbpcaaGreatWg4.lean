import Derived.Test.YtpeakdjfagbpcaaGreatWg3
import Derived.Test.YtpeakdjfagbpcaaGreatWg0
import Derived.Test.YtpeakdjfagbpcaaGreatFxSound
set_option linter.unusedSimpArgs false
namespace Go.Ix
open Go.Proofs
variable{α:Type}{z:Nat}{enc:α->List AV}{l:List α}{a:AV}
def Gq{α:Type}(z:Nat)(enc:α->List AV)(u:Nat)(T:List Nat)(m:Mem)(a:AV)(l:List α):Prop:=
 (a=nilS/\l=[])\/∃s t ver,t∈T/\a=.sref (u,s,t) ver 0 l.length z true/\m.get (u,s,t)=some (.row (l.flatMap enc) ver false)
theorem Gq.nil{u:Nat}{T:List Nat}{m:Mem}:Gq z enc u T m nilS []:=Or.inl ⟨rfl,rfl⟩
theorem Gq.frame{u:Nat}{T:List Nat}{m m':Mem}(h:Gq z enc u T m a l)(hm:∀s t,t∈T->m'.get (u,s,t)=m.get (u,s,t)):Gq z enc u T m' a l:=by
 rcases h with h|⟨s,t,ver,h0,h1,h2⟩
 .exact Or.inl h
 .exact Or.inr ⟨s,t,ver,h0,h1,by rw[hm _ _ h0];exact h2⟩
theorem Gq.app(hz:∀x,(enc x).length=z)(h0:0<z){u t0 s0 bytes:Nat}{T:List Nat}{m:Mem}(ht:t0∈T)(hr:x2cx (l.length+1) bytes)(h:Gq z enc u T m a l)(x:α) :
 ∃a' m',(∀{R:Type} (k:AV->Mem->Option R),sApp z bytes (u,s0,t0) (some (enc x,1)) a m k=k a' m')/\Gq z enc u T m' a' (l++[x])/\m'.next=m.next/\∀j:Id,j.2.2∉T->m'.get j=m.get j:=by
 rcases h with ⟨rfl,rfl⟩|⟨s,t,ver,h1,rfl,hg⟩
 .refine⟨.sref (u,s0,t0) 0 0 1 z true,m.new (u,s0,t0) (.row (enc x) 0 false),fun k=>?_,Or.inr ⟨s0,t0,0,ht,rfl,by simp⟩,rfl,fun j hj=>?_⟩
  .simp only[sApp]
   rw[if_neg (by omega),if_pos (by simpa using hr)]
  .rw[Mem.get_new,if_neg (by rintro rfl;exact hj ht)]
 .have hl:=x2f4 hz l
  refine⟨.sref (u,s,t) (ver+1) 0 (l.length+1) z true,m.set (u,s,t) (.row (l.flatMap enc++enc x) (ver+1) false),fun k=>?_,Or.inr ⟨s,t,ver+1,h1,by simp,by simp⟩,rfl,fun j hj=>?_⟩
  .simp only[sApp,hg]
   rw[if_pos ⟨trivial,trivial,by omega,hr⟩,if_neg (by omega),if_neg (by rw[hl,Nat.succ_mul];omega),List.drop_zero,List.take_of_length_le (by omega)]
  .rw[Mem.get_set,if_neg (by rintro rfl;exact hj h1)]
theorem Gq.frz(hz:∀x,(enc x).length=z)(hs:∀x,(enc x).all still1=true){u:Nat}{T:List Nat}{m:Mem}(h:Gq z enc u T m a l):∃a',Sl enc a' l/\Go.Ix.frz m.get deep a=some a':=by
 rcases h with ⟨rfl,rfl⟩|⟨s,t,ver,_,rfl,hg⟩
 .exact⟨nilS,Or.inl ⟨rfl,rfl⟩,rfl⟩
 .have hl:=x2f4 hz l
  refine⟨.slit (l.flatMap enc) l.length false,Sl.lit l false,?_⟩
  have:=x2ia (objs:=m.get) (id:=(u,s,t)) (cs:=l.flatMap enc) (ver:=ver) (off:=0) (n:=l.length) (z:=z) (k:=4) (f:=false) (x:=true) hg (by omega) (by
   rw[List.drop_zero,List.take_of_length_le (by omega)];exact x2hk hs l)
  rw[List.drop_zero,List.take_of_length_le (by omega)]at this
  exact this
theorem Gq.len{u:Nat}{T:List Nat}{m:Mem}{t e:TypeId}(ht:Tryz.prog.underlying t=some (.slice e))(h:Gq z enc u T m a l):sLen Tryz.prog t a=some (I l.length):=by
 rcases h with ⟨rfl,rfl⟩|⟨s,t,ver,_,rfl,hg⟩
 .exact x2kc ht
 .rfl
end Go.Ix
set_option linter.unusedVariables false
namespace Go.Ix
open Go.Proofs
variable{α:Type}{z:Nat}{enc:α->List AV}{l:List α}{a:AV}
def Gk{α:Type}(z:Nat)(enc:α->List AV)(ok:Id->Prop)(m:Mem)(a:AV)(l:List α):Prop:=
 (a=nilS/\l=[])\/∃id ver,ok id/\a=.sref id ver 0 l.length z true/\m.get id=some (.row (l.flatMap enc) ver false)
theorem Gk.nil{ok:Id->Prop}{m:Mem}:Gk z enc ok m nilS []:=Or.inl ⟨rfl,rfl⟩
theorem Gk.frame{ok:Id->Prop}{m m':Mem}(h:Gk z enc ok m a l)(hm:∀id,ok id->m'.get id=m.get id):Gk z enc ok m' a l:=by
 rcases h with h|⟨id,ver,h0,h1,h2⟩
 .exact Or.inl h
 .exact Or.inr ⟨id,ver,h0,h1,by rw[hm _ h0];exact h2⟩
theorem Gk.app(hz:∀x,(enc x).length=z)(h0:0<z){bytes:Nat}{ok:Id->Prop}{id0:Id}{m:Mem}(ht:ok id0)(hr:x2cx (l.length+1) bytes)(h:Gk z enc ok m a l)(x:α) :
 ∃a' m',(∀{R:Type} (k:AV->Mem->Option R),sApp z bytes id0 (some (enc x,1)) a m k=k a' m')/\Gk z enc ok m' a' (l++[x])/\a'.cells=[a']/\a'.one=true/\m'.next=m.next/\∀j:Id,¬ok j->m'.get j=m.get j:=by
 rcases h with ⟨rfl,rfl⟩|⟨id,ver,h1,rfl,hg⟩
 .refine⟨.sref id0 0 0 1 z true,m.new id0 (.row (enc x) 0 false),fun k=>?_,Or.inr ⟨id0,0,ht,rfl,by simp⟩,rfl,rfl,rfl,fun j hj=>?_⟩
  .simp only[sApp]
   rw[if_neg (by omega),if_pos (by simpa using hr)]
  .rw[Mem.get_new,if_neg (by rintro rfl;exact hj ht)]
 .have hl:=x2f4 hz l
  refine⟨.sref id (ver+1) 0 (l.length+1) z true,m.set id (.row (l.flatMap enc++enc x) (ver+1) false),fun k=>?_,Or.inr ⟨id,ver+1,h1,by simp,by simp⟩,rfl,rfl,rfl,fun j hj=>?_⟩
  .simp only[sApp,hg]
   rw[if_pos ⟨trivial,trivial,by omega,hr⟩,if_neg (by omega),if_neg (by rw[hl,Nat.succ_mul];omega),List.drop_zero,List.take_of_length_le (by omega)]
  .rw[Mem.get_set,if_neg (by rintro rfl;exact hj h1)]
theorem Gk.one{ok:Id->Prop}{m:Mem}(h:Gk z enc ok m a l):a.cells=[a]/\a.one=true:=by
 rcases h with ⟨rfl,rfl⟩|⟨id,ver,h1,rfl,hg⟩<;>exact⟨rfl,rfl⟩
theorem Gk.frz(hz:∀x,(enc x).length=z)(hs:∀x,(enc x).all still1=true){ok:Id->Prop}{k:Nat}{m:Mem}(h:Gk z enc ok m a l):∃a',Sl enc a' l/\Go.Ix.frz m.get (k+2) a=some a':=by
 rcases h with ⟨rfl,rfl⟩|⟨id,ver,_,rfl,hg⟩
 .exact⟨nilS,Or.inl ⟨rfl,rfl⟩,rfl⟩
 .have hl:=x2f4 hz l
  refine⟨.slit (l.flatMap enc) l.length false,Sl.lit l false,?_⟩
  have:=x2ia (objs:=m.get) (id:=id) (cs:=l.flatMap enc) (ver:=ver) (off:=0) (n:=l.length) (z:=z) (k:=k) (f:=false) (x:=true) hg (by omega) (by
   rw[List.drop_zero,List.take_of_length_le (by omega)];exact x2hk hs l)
  rw[List.drop_zero,List.take_of_length_le (by omega)]at this
  exact this
theorem call1{call:x2cj}{f:FuncId}{l:List AV}{m m':Mem}{r:AV}(hl:l.all clean=true)(h:call [] f l ⟨[],m.next⟩=some (r,m')) :
 ∃M:Mem,x2er call f l m=some (r,M)/\M.next=m'.next/\∀i:Id,M.get i=if m.next<=i.1 then m'.get i else m.get i:=by
 refine⟨⟨(m'.hp.filter fun e=>Nat.ble m.next e.1)++(m.hp.filter fun e=>Nat.blt e.1 m.next),m'.next⟩,?_,rfl,fun i=>congrFun (x2ox m'.hp m.hp m.next) i⟩
 unfold x2er
 rw[if_pos hl,h]
theorem x2po:∃i,Tryz.prog.info? x2d3=some i/\i.size=1:=by
 have h:(Tryz.prog.info? x2d3).map (fun i=>i.size)=some 1:=by kernel_rfl
 obtain⟨i,h1,h2⟩:=Option.map_eq_some_iff.mp h
 exact⟨i,h1,h2⟩
theorem slice_lo{id:Id}{ver off n:Nat}{full:Bool}{lo:Int}(h0:0<=lo)(h2:lo<=n):x2f2 Tryz.prog x2 (.sref id ver off n 1 full) (some (I lo)) none=some (.sref id ver (off+lo.toNat) (n-lo.toNat) 1 full):=by
 obtain⟨i,e1,e2⟩:=x2po
 simp only[x2f2,x2d8,x2cu,e1,asI,Option.getD_some,Option.getD_none]
 rw[if_pos ⟨h0,by omega,by omega,e2.symm⟩,Nat.mul_one,show((n:Int)-lo).toNat=n-lo.toNat by omega]
theorem Gk.len{α:Type}{z:Nat}{enc:α->List AV}{l:List α}{a:AV}{ok:Id->Prop}{m:Mem}{y e:TypeId}(ht:Tryz.prog.underlying y=some (.slice e))(h:Gk z enc ok m a l):sLen Tryz.prog y a=some (I l.length):=by
 rcases h with ⟨rfl,rfl⟩|⟨id,ver,_,rfl,hg⟩
 .exact x2kc ht
 .rfl
theorem Gk.at{a:AV}{l:List Int}{ok:Id->Prop}{m:Mem}(h:Gk 1 intE ok m a l){k:Int}(h0:0<=k)(hk:k<l.length) :
 ∃q,sIx 1 a (I k)=some q/\sLd false 1 q m=some (I (at0 l k.toNat))/\∀v:Int,∃m',(∀{R:Type} (K:Mem->Option R),sSt 1 q (I v) m K=K m')/\Gk 1 intE ok m' a (l.set k.toNat v)/\m'.next=m.next/\∀j,¬ok j->m'.get j=m.get j:=by
 rcases h with ⟨rfl,rfl⟩|⟨id,ver,hok,rfl,hg⟩
 .simp at hk;omega
 .have hkl:k.toNat<l.length:=by omega
  refine⟨.ptr id ver k.toNat,?_,?_,fun v=>⟨m.set id (.row ((l.set k.toNat v).flatMap intE) ver false),fun K=>?_,Or.inr ⟨id,ver,hok,by simp,by simp⟩,rfl,fun j hj=>?_⟩⟩
  .simp[sIx,asI,h0,hk]
  .rw[ld_ptr hg,rd,if_neg (by simp),x2hn,<-List.map_drop,x2e2 hkl,x2d4 hkl]
   rfl
  .rw[st_ptr (z:=1) (x:=I v) (k:=K) hg rfl (by rw[x2ho];omega) rfl]
   congr 3
   simp only[x2hn,x2dh,x2mn]
   rw[List.map_set,List.set_eq_take_append_cons_drop,if_pos (by simpa using hkl)]
   simp
  .rw[Mem.get_set,if_neg (by rintro rfl;exact hj hok)]
theorem mix_at{l X:List Int}(hX:X.length=l.length){k:Nat}(hk:k<l.length):at0 (X.take k++l.drop k) k=at0 l k:=by
 rw[x2d4 (by simp;omega),x2d4 hk,List.getElem_append_right (by simp;omega)]
 simp[hX,Nat.min_eq_left (Nat.le_of_lt hk)]
theorem mix_set{l X:List Int}(hX:X.length=l.length){k:Nat}(hk:k<l.length):(X.take k++l.drop k).set k (at0 X k)=X.take (k+1)++l.drop (k+1):=by
 have hl:(X.take k).length=k:=by simp;omega
 rw[List.set_append,if_neg (by omega),hl,Nat.sub_self,x2e2 hk,List.set_cons_zero,List.take_succ_eq_append_getElem (by omega),x2d4 (by omega),List.append_assoc]
 rfl
theorem mix_id{l X:List Int}(hX:X.length=l.length){k:Nat}(hk:k<l.length)(h:at0 X k=at0 l k):X.take k++l.drop k=X.take (k+1)++l.drop (k+1):=by
 rw[x2e2 hk,List.take_succ_eq_append_getElem (by omega),<-x2d4 (show k<X.length by omega),h,x2d4 hk]
 simp
theorem x2n3{l X:List Int}(hX:X.length=l.length){k:Nat}(hk:k<=l.length):(X.take k++l.drop k).length=l.length:=by
 simp;omega
theorem u_union:Tryz.prog.underlying xj1=some (.slice x2d3):=by kernel_rfl
def Keep(ok:Id->Prop)(m m':Mem):Prop:=∀j:Id,¬ok j->j.1<m.next->m'.get j=m.get j
theorem c_join(d:Nat)(hs:FHs){ok:Id->Prop}{m:Mem}{a:AV}{l:List Int}{p:Pq}(hG:Gk 1 intE ok m a l)(hok:∀j,ok j->j.1<m.next)(hp:PqIn l.length p)(hl:l.length<=1000) :
 ∃m',x2cl (d+1) hs x3g [a,.agg [I p.a,I p.b]] m=some (B (!decide (at0 l p.a.toNat=at0 l p.b.toNat)),m')/\Gk 1 intE ok m' a (x2df l p)/\m'.next=m.next+1/\Keep ok m m':=by
 obtain⟨p0,p1,p2⟩:=hp
 rw[x1bg]
 unfold xgn xj2
 obtain⟨m0,hm0⟩:∃m0,m0=(⟨m.hp,m.next+1⟩:Mem).new (m.next,0,3) (.row [I p.a,I p.b] 0 false):=⟨_,rfl⟩
 have hf0:∀j:Id,j.1<m.next->m0.get j=m.get j:=fun j hj=>by
  rw[hm0,Mem.get_new,if_neg (by rintro rfl;exact Nat.lt_irrefl _ hj)];rfl
 have hn0:m0.next=m.next+1:=by rw[hm0];rfl
 have hg:m0.get (m.next,0,3)=some (.row [I p.a,I p.b] 0 false):=by rw[hm0];simp
 have hG0:Gk 1 intE ok m0 a l:=hG.frame fun j hj=>hf0 j (hok j hj)
 obtain⟨q1,i1,l1,-⟩:=hG0.at (k:=p.a) p0 (by omega)
 obtain⟨q2,i2,l2,-⟩:=hG0.at (k:=p.b) (by omega) p2
 simp only[x2l5,x2p4,List.all_cons,List.all_nil,one_I,Bool.and_self,x2e7,<-hm0]
 simp[hg,i1,l1,i2,l2]
 unfold xds
 simp[hG0.len u_union]
 have hX:(x2df l p).length=l.length:=x2lb l p
 refine x2de (N:=l.length) (σ:=Unit) (fun n k _ m' fc=>x4n (x2cl d) hs m.next n a (I (at0 l p.a.toNat)) (I (at0 l p.b.toNat)) a (I l.length) (I k) m' fc)
  (fun k _ m'=>Gk 1 intE ok m' a ((x2df l p).take k++l.drop k)/\m'.next=m.next+1/\Keep ok m m')
  (fun r=>∃m',r=some (B (!decide (at0 l p.a.toNat=at0 l p.b.toNat)),m')/\Gk 1 intE ok m' a (x2df l p)/\m'.next=m.next+1/\Keep ok m m') ?_ ?_ NN 0 () m0 _ (by omega) (by rw[x2cz];omega) ⟨by simpa using hG0,hn0,fun j _ hj=>hf0 j hj⟩
 .rintro n k-m1 fc hk ⟨h1,h2,h3⟩ next
  have hk':(k:Int)<(l.length:Int):=by omega
  have hml:=x2n3 (l:=l) (X:=x2df l p) hX (k:=k) (by omega)
  obtain⟨q,i3,l3,st⟩:=h1.at (k:=(k:Int)) (by omega) (by omega)
  rw[Int.toNat_natCast,mix_at hX hk]at l3
  have hj:=x2h3 (u:=l) (p:=p) hk
  simp only[x4n]
  unfold xdr xdq x91
  by_cases c:at0 l k=at0 l p.a.toNat\/at0 l k=at0 l p.b.toNat
  .rw[if_pos c]at hj
   obtain⟨m2,e1,e2,e3,e4⟩:=st (mn (at0 l p.a.toNat) (at0 l p.b.toNat))
   rw[Int.toNat_natCast,<-hj,mix_set hX hk]at e2
   unfold mn at e1
   by_cases c1:at0 l k=at0 l p.a.toNat
   .simp(disch:=omega) [hk',i3,l3,c1,x2cq]
    rw[e1]
    exact next () m2 _ ⟨e2,by omega,fun j hj hj2=>by rw[e4 j hj];exact h3 j hj hj2⟩
   .have c2:at0 l k=at0 l p.b.toNat:=c.resolve_left c1
    rw[c2]at l3 c1
    simp(disch:=omega) [hk',i3,l3,c1,x2cq]
    rw[e1]
    exact next () m2 _ ⟨e2,by omega,fun j hj hj2=>by rw[e4 j hj];exact h3 j hj hj2⟩
  .rw[if_neg c]at hj
   have c1:¬at0 l k=at0 l p.a.toNat:=fun h=>c (Or.inl h)
   have c2:¬at0 l k=at0 l p.b.toNat:=fun h=>c (Or.inr h)
   simp(disch:=omega) [hk',i3,l3,c1,c2,x2cq]
   exact next () m1 _ ⟨by rw[<-mix_id hX hk hj];exact h1,h2,h3⟩
 .rintro n-m1 fc ⟨h1,h2,h3⟩
  have hk:¬((l.length:Int)<(l.length:Int)):=by omega
  simp only[x4n]
  unfold xdr x1t
  simp[hk]
  rw[List.drop_of_length_le (Nat.le_refl _),List.take_of_length_le (by omega),List.append_nil]at h1
  exact⟨h1,h2,h3⟩
theorem x2if{n k:Nat}(h:k<n):(freshM n).take k++[(k:Int)]=(freshM n).take (k+1):=by
 rw[List.take_succ_eq_append_getElem (by simpa[freshM]using h)]
 simp[freshM]
theorem x2pp(d:Nat){n:Nat}(hn:n<=1000)(m:Mem):∃a M,x2er (x2cl (d+1)) x2p [I n] m=some (a,M)/\Gk 1 intE (fun id=>id.1=m.next) M a (freshM n)/\M.next=m.next+1/\∀j:Id,j.1<m.next->M.get j=m.get j:=by
 obtain⟨a,m',h1,h2,h3⟩:∃a m',x2cl (d+1) [] x2p [I n] ⟨[],m.next⟩=some (a,m')/\Gk 1 intE (fun id=>id.1=m.next) m' a (freshM n)/\m'.next=m.next+1:=by
  rw[x1bf]
  unfold xgm xj0 xdp
  refine x2de (N:=n) (fun j k a m' fc=>x4m (x2cl d) [] m.next j a (I n) (I k) m' fc) (fun k a m'=>Gk 1 intE (fun id=>id.1=m.next) m' a ((freshM n).take k)/\m'.next=m.next+1)
   (fun r=>∃a m',r=some (a,m')/\Gk 1 intE (fun id=>id.1=m.next) m' a (freshM n)/\m'.next=m.next+1) ?_ ?_ NN 0 nilS _ _ (by omega) (by rw[x2cz];omega) ⟨by simpa using Gk.nil,rfl⟩
  .rintro j k a m1 fc hk ⟨hG,hN⟩ next
   have hk':(k:Int)<(n:Int):=by omega
   have hlt:((freshM n).take k).length=k:=by simp[freshM];omega
   obtain⟨a2,m2,e1,e2,-,-,e3,-⟩:=Gk.app (ok:=fun id=>id.1=m.next) (bytes:=8) (id0:=(m.next,fc+6,12)) x2cw (by omega) rfl (by unfold x2cx;omega) hG (k:Int)
   simp only[x4m]
   unfold xdo
   simp(disch:=omega) [hk',x2e3,x2cq]
   rw[show elems m1.get 1 (.slit [I (k:Int)] 1 true)=some ([I (k:Int)],1)from rfl]
   rw[show[I (k:Int)]=intE k from rfl,e1]
   exact next a2 m2 _ ⟨by rw[<-x2if hk];exact e2,by omega⟩
  .rintro j a m1 fc ⟨hG,hN⟩
   have hk:¬((n:Int)<(n:Int)):=by omega
   simp only[x4m]
   unfold xdo x4l
   simp[hk]
   exact⟨a,m1,⟨rfl,rfl⟩,by rw[List.take_of_length_le (by simp[freshM])]at hG;exact hG,hN⟩
 obtain⟨M,hc,hM,hj⟩:=call1 (l:=[I n]) rfl h1
 refine⟨a,M,hc,h2.frame fun j hjj=>?_,by omega,fun j hlt=>?_⟩
 .rw[hj j,if_pos (by omega)]
 .rw[hj j,if_neg (by omega)]
def scAt(l:List Scene)(i:Int):Scene:=l.getD i.toNat ⟨⟨#[]⟩,0,0⟩
def lenP(l:List Scene)(p:Pq):Int:=(((scAt l p.a).day-(scAt l p.b).day).natAbs:Int)+(((scAt l p.a).bl-(scAt l p.b).bl).natAbs:Int)
theorem x2n4{l:List Scene}{i:Int}(h:i.toNat<l.length):scAt l i=l[i.toNat]:=by
 unfold scAt;rw[List.getD_eq_getElem?_getD,List.getElem?_eq_getElem h];rfl
theorem x2hp{P:List Pq}{i:Int}(h:i.toNat<P.length):prAt P i=P[i.toNat]:=by
 unfold prAt;rw[List.getD_eq_getElem?_getD,List.getElem?_eq_getElem h];rfl
theorem x2jn{l:List Scene}(hb:InB l){i:Int}(h0:0<=i)(h:i<l.length):(0<=(scAt l i).day/\(scAt l i).day<=100000)/\(-100000<=(scAt l i).bl/\(scAt l i).bl<=100000):=by
 rw[x2n4 (by omega)]
 exact hb.get (by omega)
theorem x2ld{l:List Scene}(hb:InB l){p:Pq}(hp:PqIn l.length p):0<=lenP l p/\lenP l p<=300000:=by
 obtain⟨h0,h1,h2⟩:=hp
 have a:=x2jn hb (i:=p.a) h0 (by omega)
 have b:=x2jn hb (i:=p.b) (by omega) h2
 unfold lenP
 omega
theorem Sl.ixz{α:Type}{enc:α->List AV}{z:Nat}{a:AV}{l:List α}(hz:∀x,(enc x).length=z)(h:Sl enc a l){k:Int}(h0:0<=k)(hk:k<l.length):sIx z a (I k)=some (.plit ((l.drop k.toNat).flatMap enc)):=by
 have:=h.ix hz (k:=k.toNat) (by omega)
 rwa[Int.toNat_of_nonneg h0]at this
theorem x2pq(d:Nat){s p:AV}{l:List Scene}{P:List Pq}(hs:Sl Scene.c s l)(hp:Sl Pq.c p P)(hb:InB l){i:Int}(hi:0<=i/\i<P.length)(hP:PqIn l.length (prAt P i))(m:Mem) :
 x2cm (x2cl (d+2)) x3j [.agg [s,p],I i] m=some (I (lenP l (prAt P i)),m):=by
 refine x2ek (by simp[hs.still1,hp.still1]) ?_ m
 obtain⟨h0,h1,h2⟩:=hP
 have ba:=x2jn hb (i:=(prAt P i).a) h0 (by omega)
 have bb:=x2jn hb (i:=(prAt P i).b) (by omega) h2
 have ip:=hp.ixz Pq.len hi.1 hi.2
 have lp:=fun m=>x2eg (m:=m) (enc:=Pq.c) Pq.len (by omega) (show i.toNat<P.length by omega)
 rw[<-x2hp (by omega)]at lp
 have ia:=hs.ixz Scene.len h0 (show(prAt P i).a<l.length by omega)
 have ib:=hs.ixz Scene.len (show 0<=(prAt P i).b by omega) h2
 have la:=fun m=>x2eg (m:=m) (enc:=Scene.c) Scene.len (by omega) (show(prAt P i).a.toNat<l.length by omega)
 have lb:=fun m=>x2eg (m:=m) (enc:=Scene.c) Scene.len (by omega) (show(prAt P i).b.toNat<l.length by omega)
 rw[<-x2n4 (by omega)]at la lb
 unfold lenP
 rw[x1bz]
 unfold xh9 xjp
 generalize scAt l (prAt P i).a=x at *
 generalize scAt l (prAt P i).b=y at *
 generalize prAt P i=e at *
 simp only[Pq.c]at lp
 simp only[Scene.c]at la lb
 simp(disch:=omega) [mem0,hs.one,hp.one,ip,lp,ia,ib,la,lb,x2fo,x2l6,tR,tS,x2cn,disj,x2cq,w_size7,cAp,show Nat.blt 0 1=true from rfl]
 refine RetF.st ?_ ?_<;>rfl
theorem x2n5(d:Nat){s p:AV}{l:List Scene}{P:List Pq}(hs:Sl Scene.c s l)(hp:Sl Pq.c p P)(hb:InB l){i:Int}(hi:0<=i/\i<P.length)(hP:PqIn l.length (prAt P i))(m:Mem) :
 x2cm (x2cl (d+2)) x2n [.agg [s,p],I i] m=some (I (lenP l (prAt P i)),m):=by
 refine x2ek (by simp[hs.still1,hp.still1]) ?_ m
 obtain⟨h0,h1,h2⟩:=hP
 have ba:=x2jn hb (i:=(prAt P i).a) h0 (by omega)
 have bb:=x2jn hb (i:=(prAt P i).b) (by omega) h2
 have ip:=hp.ixz Pq.len hi.1 hi.2
 have l0:=fun m=>x2h1 (m:=m) (enc:=Pq.c) (show i.toNat<P.length by omega) 0 rfl
 have l1:=fun m=>x2h1 (m:=m) (enc:=Pq.c) (show i.toNat<P.length by omega) 1 rfl
 rw[<-x2hp (by omega)]at l0 l1
 simp only[List.drop_zero]at l0
 simp only[List.drop_one]at l1
 have ia:=hs.ixz Scene.len h0 (show(prAt P i).a<l.length by omega)
 have ib:=hs.ixz Scene.len (show 0<=(prAt P i).b by omega) h2
 have la:=fun m=>x2eg (m:=m) (enc:=Scene.c) Scene.len (by omega) (show(prAt P i).a.toNat<l.length by omega)
 have lb:=fun m=>x2eg (m:=m) (enc:=Scene.c) Scene.len (by omega) (show(prAt P i).b.toNat<l.length by omega)
 rw[<-x2n4 (by omega)]at la lb
 unfold lenP
 rw[x1b1]
 unfold xg8 xil
 generalize scAt l (prAt P i).a=x at *
 generalize scAt l (prAt P i).b=y at *
 generalize prAt P i=e at *
 simp only[Scene.c]at la lb
 simp(disch:=omega) [mem0,hs.one,hp.one,ip,l0,l1,ia,ib,la,lb,x2fo,x2l6,tR,tS,x2cn,disj,x2cq,w_Size,cAp,show Nat.blt 0 1=true from rfl]
 refine RetF.st ?_ ?_<;>rfl
def sumL(l:List Scene)(P:List Pq):Int->List Int->Int
 |s,[]=>s
 |s,i::r=>sumL l P (s+lenP l (prAt P i)) r
def Rng(n:Nat)(P:List Pq)(F:List Int):Prop:=∀i∈F,(0<=i/\i<P.length)/\PqIn n (prAt P i)
theorem Rng.get{n:Nat}{P:List Pq}{F:List Int}(h:Rng n P F){k:Nat}(hk:k<F.length):(0<=at0 F k/\at0 F k<P.length)/\PqIn n (prAt P (at0 F k)):=by
 rw[x2d4 hk];exact h _ (List.getElem_mem hk)
end Go.Ix
namespace Go.Ix
variable{P:List Pq}
theorem x2le{u:List Int}{p:Pq}(h:at0 u p.a.toNat=at0 u p.b.toNat):x2df u p=u:=by
 unfold x2df
 conv=>rhs;rw[<-List.map_id u]
 apply List.map_congr_left
 intro x _
 show _=x
 rw[h]
 by_cases c:x=at0 u p.b.toNat
 .rw[if_pos (Or.inl c),c];unfold mn;simp
 .rw[if_neg (by simp[c])]
def takeM(P:List Pq):List Int->List Int->List Int
 |_,[]=>[]
 |u,i::r=>if at0 u (prAt P i).a.toNat=at0 u (prAt P i).b.toNat then takeM P u r else i::takeM P (x2df u (prAt P i)) r
theorem x2lf:∀(l u:List Int),joinsM u (prs P (takeM P u l))=joinsM u (prs P l)
 |[],_=>rfl
 |i::r,u=>by
  rw[takeM]
  by_cases c:at0 u (prAt P i).a.toNat=at0 u (prAt P i).b.toNat
  .rw[if_pos c,x2lf r u]
   show _=joinsM (x2df u (prAt P i)) (prs P r)
   rw[x2le c]
  .rw[if_neg c]
   exact x2lf r (x2df u (prAt P i))
theorem x2n6:∀(l u:List Int),Indep u (prs P (takeM P u l))
 |[],_=>trivial
 |i::r,u=>by
  rw[takeM]
  by_cases c:at0 u (prAt P i).a.toNat=at0 u (prAt P i).b.toNat
  .rw[if_pos c];exact x2n6 r u
  .rw[if_neg c];exact⟨c,x2n6 r _⟩
theorem x2hq:∀(l u:List Int),(takeM P u l).Sublist l
 |[],_=>List.Sublist.slnil
 |i::r,u=>by
  rw[takeM]
  by_cases c:at0 u (prAt P i).a.toNat=at0 u (prAt P i).b.toNat
  .rw[if_pos c];exact(x2hq r u).cons i
  .rw[if_neg c];exact(x2hq r _).cons_cons i
theorem x2n7:∀(l k u:List Int),takeM P u (l++k)=takeM P u l++takeM P (joinsM u (prs P l)) k
 |[],_,_=>rfl
 |i::r,k,u=>by
  rw[List.cons_append,takeM,takeM]
  by_cases c:at0 u (prAt P i).a.toNat=at0 u (prAt P i).b.toNat
  .rw[if_pos c,if_pos c,x2n7 r k u]
   show _=takeM P u r++takeM P (joinsM (x2df u (prAt P i)) (prs P r)) k
   rw[x2le c]
  .rw[if_neg c,if_neg c,x2n7 r k _]
   rfl
theorem x2pr(l u:List Int)(i:Int):takeM P u (l++[i])=takeM P u l++(if at0 (joinsM u (prs P l)) (prAt P i).a.toNat=at0 (joinsM u (prs P l)) (prAt P i).b.toNat then[]else[i]):=by
 rw[x2n7]
 congr 1
theorem x2n8{α:Type}{R:α->α->Prop}(hi:∀a,¬R a a)(ha:∀a b,R a b->R b a->False):∀{l k:List α},l.Pairwise R->k.Pairwise R->(∀x,x∈l↔x∈k)->l=k
 |[],[],_,_,_=>rfl
 |[],y::k,_,_,h=>by have:=(h y).mpr (List.mem_cons_self ..);cases this
 |x::l,[],_,_,h=>by have:=(h x).mp (List.mem_cons_self ..);cases this
 |x::l,y::k,h1,h2,h=>by
  rw[List.pairwise_cons]at h1 h2
  have e:x=y:=by
   rcases List.mem_cons.mp ((h x).mp (List.mem_cons_self ..))with e|e
   .exact e
   .rcases List.mem_cons.mp ((h y).mpr (List.mem_cons_self ..))with e2|e2
    .exact e2.symm
    .exact(ha _ _ (h2.1 x e) (h1.1 y e2)).elim
  subst e
  have:=x2n8 hi ha h1.2 h2.2 fun z=>by
   constructor
   .intro hz
    rcases List.mem_cons.mp ((h z).mp (List.mem_cons_of_mem _ hz))with e|e
    .rw[e]at hz;exact(hi _ (h1.1 _ hz)).elim
    .exact e
   .intro hz
    rcases List.mem_cons.mp ((h z).mpr (List.mem_cons_of_mem _ hz))with e|e
    .rw[e]at hz;exact(hi _ (h2.1 _ hz)).elim
    .exact e
  rw[this]
theorem x2ps{α:Type}{R:α->α->Prop}(hi:∀a,¬R a a){l:List α}(h:l.Pairwise R):l.Nodup:=List.Pairwise.imp (S:=fun a b=>a≠b) (fun{a b} hr (e:a=b)=>hi a (by rw[<-e]at hr;exact hr)) h
def lx(f:Int->Int)(i j:Int):Prop:=f i<f j\/(f i=f j/\i<j)
theorem lx_irr{f:Int->Int}(i:Int):¬lx f i i:=by unfold lx;omega
theorem lx_asym{f:Int->Int}(i j:Int)(h:lx f i j)(h2:lx f j i):False:=by unfold lx at *;omega
theorem x2pt{f:Int->Int}{i j k:Int}(h:lx f i j)(h2:lx f j k):lx f i k:=by unfold lx at *;omega
theorem lx_tot{f:Int->Int}{i j:Int}(h:i≠j):lx f i j\/lx f j i:=by unfold lx;omega
def Ordd(f:Int->Int)(N:Nat)(L:List Int):Prop:=L.Pairwise (lx f)/\∀x,x∈L↔(0<=x/\x<N)
theorem Ordd.one{f:Int->Int}{N:Nat}{L K:List Int}(h:Ordd f N L)(k:Ordd f N K):L=K:=x2n8 lx_irr lx_asym h.1 k.1 fun x=>(h.2 x).trans (k.2 x).symm
theorem Ordd.nodup{f:Int->Int}{N:Nat}{L:List Int}(h:Ordd f N L):L.Nodup:=x2ps lx_irr h.1
def Asc(F:List Int):Prop:=F.Pairwise (· < ·)
theorem Asc.one{F G:List Int}(h:Asc F)(k:Asc G)(e:∀x,x∈F↔x∈G):F=G:=x2n8 (fun a=>by omega) (fun a b=>by omega) h k e
theorem Asc.nodup{F:List Int}(h:Asc F):F.Nodup:=x2ps (fun a=>by omega) h
theorem x2pu{l k:List Int}(hl:l.Nodup)(hk:k.Nodup)(h:∀x,x∈l↔x∈k):l.length=k.length:=by
 have:=x2mw hl fun x hx=>(h x).mp hx
 have:=x2mw hk fun x hx=>(h x).mpr hx
 omega
theorem fresh_mem{N:Nat}{x:Int}:x∈freshM N↔(0<=x/\x<N):=by
 unfold freshM
 rw[List.mem_map]
 constructor
 .rintro⟨i,hi,rfl⟩
  have:=List.mem_range.mp hi
  omega
 .rintro⟨h0,h1⟩
  exact⟨x.toNat,List.mem_range.mpr (by omega),by omega⟩
theorem x2n9(N:Nat):Asc (freshM N):=by
 unfold Asc freshM
 rw[List.pairwise_map]
 exact List.pairwise_lt_range.imp fun h=>by omega
theorem Asc.filter{F:List Int}(h:Asc F)(p:Int->Bool):Asc (F.filter p):=List.Pairwise.filter p h
variable{n:Nat}
theorem x2pv{t:List Int}{l:List Pq}(hl:∀p∈l,PqIn n p)(h:∀p∈l,Sm t p.a.toNat p.b.toNat){v w:Nat}(hv:v<n)(hw:w<n)(hs:Sm (joinsM (freshM n) l) v w):Sm t v w:=by
 refine x2n0 (R:=Sm t) (fun h=>h.symm) (fun h1 h2=>h1.trans h2) (Lab.fresh n) hl h (fun a b ha hb e=>?_) v w hv hw hs
 unfold Sm at e
 rw[Lab.get_fresh ha,Lab.get_fresh hb]at e
 have:a=b:=by omega
 rw[this];rfl
theorem x2pw{l k:List Pq}(hl:∀p∈l,PqIn n p)(hk:∀p∈k,PqIn n p)(h1:∀p∈l,Sm (joinsM (freshM n) k) p.a.toNat p.b.toNat)(h2:∀p∈k,Sm (joinsM (freshM n) l) p.a.toNat p.b.toNat):joinsM (freshM n) l=joinsM (freshM n) k:=
 ((Lab.fresh n).joins hl).ext ((Lab.fresh n).joins hk) fun v w hv hw=>⟨x2pv hl h1 hv hw,x2pv hk h2 hv hw⟩
theorem x2px{l k:List Pq}(hl:∀p∈l,PqIn n p)(hk:∀p∈k,PqIn n p)(h:∀p,p∈l↔p∈k):joinsM (freshM n) l=joinsM (freshM n) k:=
 x2pw hl hk (fun p hp=>x2h4 (Lab.fresh n) hk p ((h p).mp hp)) (fun p hp=>x2h4 (Lab.fresh n) hl p ((h p).mpr hp))
theorem x2py:∀{l:List Pq} {u:List Int},Lab n u->(∀p∈l,PqIn n p)->x2fp n u<=x2fp n (joinsM u l)+l.length
 |[],_,_,_=>Nat.le_refl _
 |p::l,u,h,hp=>by
  have hq:=hp p (List.mem_cons_self ..)
  have ih:=x2py (h.join hq) fun q hq=>hp q (List.mem_cons_of_mem _ hq)
  have e:joinsM u (p::l)=joinsM (x2df u p) l:=rfl
  rw[e,List.length_cons]
  by_cases c:Sm u p.a.toNat p.b.toNat
  .rw[x2le c]at ih ⊢;omega
  .have:=x2n1 h hq c;omega
theorem x2pz:∀{l:List Pq} {u:List Int},Lab n u->(∀p∈l,PqIn n p)->x2fp n (joinsM u l)+l.length<=x2fp n u->Indep u l
 |[],_,_,_,_=>trivial
 |p::l,u,h,hp,hr=>by
  have hq:=hp p (List.mem_cons_self ..)
  have hl:∀q∈l,PqIn n q:=fun q hq=>hp q (List.mem_cons_of_mem _ hq)
  have e:joinsM u (p::l)=joinsM (x2df u p) l:=rfl
  rw[e,List.length_cons]at hr
  by_cases c:Sm u p.a.toNat p.b.toNat
  .have:=x2py (h.join hq) hl
   rw[x2le c]at this hr
   omega
  .have:=x2n1 h hq c
   exact⟨c,x2pz (h.join hq) hl (by omega)⟩
theorem For.perm(hP:∀p∈P,PqIn n p){F G:List Int}(h:For n P F)(hG:G.Nodup)(he:∀x,x∈F↔x∈G):For n P G:=by
 have hr:∀i∈G,0<=i/\i<P.length:=fun i hi=>h.rng i ((he i).mpr hi)
 refine⟨hr,hG,x2pz (Lab.fresh n) (x2em hP hr) ?_⟩
 have h1:=x2lc (Lab.fresh n) (x2em hP h.rng) h.ind
 have h2:joinsM (freshM n) (prs P G)=joinsM (freshM n) (prs P F):=x2px (x2em hP hr) (x2em hP h.rng) fun p=>by
  unfold prs
  rw[List.mem_map,List.mem_map]
  exact⟨fun⟨i,a,b⟩=>⟨i,(he i).mpr a,b⟩,fun⟨i,a,b⟩=>⟨i,(he i).mp a,b⟩⟩
 have h3:=x2pu h.nod hG he
 rw[h2]
 have e1:(prs P F).length=F.length:=by unfold prs;simp
 have e2:(prs P G).length=G.length:=by unfold prs;simp
 omega
theorem For.sub(hP:∀p∈P,PqIn n p){F G:List Int}(h:For n P F)(hG:G.Nodup)(hs:∀x∈G,x∈F):For n P G:=by
 refine(h.perm (G:=G++F.filter fun x=>!(G.contains x)) hP ?_ fun x=>?_).take
 .rw[List.nodup_append]
  refine⟨hG,h.nod.filter _,fun a ha b hb e=>?_⟩
  subst e
  have:=(List.mem_filter.mp hb).2
  simp at this
  exact this ha
 .rw[List.mem_append,List.mem_filter]
  by_cases c:x∈G
  .simp[c,hs x c]
  .simp[c]
theorem prs_fresh:prs P (freshM P.length)=P:=by
 apply List.ext_getElem
 .simp[prs,freshM]
 .intro k h1 h2
  have h3:k<P.length:=h2
  simp[prs,freshM,prAt,List.getD_eq_getElem?_getD,h3]
structure Tree (n:Nat) (P:List Pq) (F:List Int):Prop where
 fo:For n P F
 asc:Asc F
 all:∀p∈P,Sm (joinsM (freshM n) (prs P F)) p.a.toNat p.b.toNat
theorem mem_prs{F':List Int}(hr:∀i∈F',0<=i/\i<P.length):∀p∈prs P F',p∈P:=by
 intro p hp
 obtain⟨i,hi,rfl⟩:=List.mem_map.mp hp
 have:=hr i hi
 have h2:i.toNat<P.length:=by omega
 unfold prAt
 rw[List.getD_eq_getElem?_getD,List.getElem?_eq_getElem h2]
 exact List.getElem_mem h2
theorem Tree.uni(hP:∀p∈P,PqIn n p){F:List Int}(h:Tree n P F):joinsM (freshM n) (prs P F)=joinsM (freshM n) P:=
 x2pw (x2em hP h.fo.rng) hP (fun p hp=>x2h4 (Lab.fresh n) hP p (mem_prs h.fo.rng p hp)) h.all
theorem Tree.len(hP:∀p∈P,PqIn n p){F:List Int}(h:Tree n P F):n=x2fp n (joinsM (freshM n) P)+F.length:=by
 have:=x2lc (Lab.fresh n) (x2em hP h.fo.rng) h.fo.ind
 rw[x2pn,h.uni hP]at this
 have e:(prs P F).length=F.length:=by unfold prs;simp
 omega
def insM(f:Int->Int)(x:Int):List Int->List Int
 |[]=>[x]
 |y::r=>if f x<f y\/(f x=f y/\x<y)then x::y::r else y::insM f x r
theorem ins_mem{f:Int->Int}{x z:Int}:∀{l:List Int},z∈insM f x l↔z=x\/z∈l
 |[]=>by simp[insM]
 |y::r=>by
  rw[insM]
  split
  .simp
  .rw[List.mem_cons,ins_mem,List.mem_cons]
   constructor
   .rintro(h|h|h)<;>simp[h]
   .rintro(h|h|h)<;>simp[h]
theorem ins_srt{f:Int->Int}{x:Int}:∀{l:List Int},l.Pairwise (lx f)->x∉l->(insM f x l).Pairwise (lx f)
 |[],_,_=>by simp[insM]
 |y::r,h,hx=>by
  rw[insM]
  rw[List.pairwise_cons]at h
  split
  .rename_i c
   rw[List.pairwise_cons]
   refine⟨fun z hz=>?_,List.pairwise_cons.mpr h⟩
   rcases List.mem_cons.mp hz with rfl|hz
   .exact c
   .exact x2pt c (h.1 z hz)
  .rename_i c
   rw[List.pairwise_cons]
   refine⟨fun z hz=>?_,ins_srt h.2 fun hm=>hx (List.mem_cons_of_mem _ hm)⟩
   rcases ins_mem.mp hz with rfl|hz
   .rcases lx_tot (f:=f) (i:=z) (j:=y) (fun e=>hx (by rw[e];exact List.mem_cons_self ..))with e|e
    .exact absurd e c
    .exact e
   .exact h.1 z hz
def ordM(f:Int->Int)(N:Nat):List Int:=(freshM N).foldr (insM f) []
theorem x2h5(f:Int->Int)(N:Nat):Ordd f N (ordM f N):=by
 have main:∀l:List Int,l.Nodup->(l.foldr (insM f) []).Pairwise (lx f)/\∀x,x∈l.foldr (insM f) []↔x∈l:=by
  intro l
  induction l with
  |nil=>intro _;simp
  |cons y r ih=>
   intro h
   rw[List.nodup_cons]at h
   obtain⟨h1,h2⟩:=ih h.2
   rw[List.foldr_cons]
   exact⟨ins_srt h1 fun hm=>h.1 ((h2 y).mp hm),fun x=>by rw[ins_mem,h2,List.mem_cons]⟩
 obtain⟨h1,h2⟩:=main (freshM N) (x2n9 N).nodup
 exact⟨h1,fun x=>(h2 x).trans fresh_mem⟩
def x2ds(f:Int->Int)(n:Nat)(P:List Pq):List Int:=takeM P (freshM n) (ordM f P.length)
def x2di(f:Int->Int)(n:Nat)(P:List Pq):List Int:=(freshM P.length).filter fun i=>(x2ds f n P).contains i
theorem x2q0{f:Int->Int}{x:Int}(h:x∈x2ds f n P):0<=x/\x<P.length:=((x2h5 f P.length).2 x).mp ((x2hq _ _).subset h)
theorem x2q1(f:Int->Int):(x2ds f n P).Nodup:=(x2hq _ _).nodup (x2h5 f P.length).nodup
theorem light_mem{f:Int->Int}{x:Int}:x∈x2di f n P↔x∈x2ds f n P:=by
 unfold x2di
 rw[List.mem_filter,fresh_mem]
 constructor
 .rintro⟨_,h⟩;simpa using h
 .intro h;exact⟨x2q0 h,by simpa using h⟩
theorem x2na(f:Int->Int):Asc (x2di f n P):=(x2n9 _).filter _
theorem x2nb(hP:∀p∈P,PqIn n p)(f:Int->Int):For n P (x2ds f n P):=⟨fun i hi=>x2q0 hi,x2q1 f,x2n6 _ _⟩
theorem x2jo(hP:∀p∈P,PqIn n p)(f:Int->Int):For n P (x2di f n P):=(x2nb hP f).perm hP (x2na f).nodup fun x=>light_mem.symm
theorem x2si(hP:∀p∈P,PqIn n p)(f:Int->Int):Tree n P (x2di f n P):=by
 refine⟨x2jo hP f,x2na f,fun p hp=>?_⟩
 have hO:∀i∈ordM f P.length,0<=i/\i<P.length:=fun i hi=>((x2h5 f P.length).2 i).mp hi
 have e:joinsM (freshM n) (prs P (x2di f n P))=joinsM (freshM n) (prs P (ordM f P.length)):=by
  rw[<-x2lf (P:=P) (ordM f P.length)]
  refine x2px (x2em hP (x2jo hP f).rng) (x2em hP (x2nb hP f).rng) fun q=>?_
  unfold prs
  rw[List.mem_map,List.mem_map]
  exact⟨fun⟨i,a,b⟩=>⟨i,light_mem.mp a,b⟩,fun⟨i,a,b⟩=>⟨i,light_mem.mpr a,b⟩⟩
 rw[e]
 refine x2h4 (Lab.fresh n) (x2em hP hO) p ?_
 unfold prs
 rw[List.mem_map]
 obtain⟨k,hk,rfl⟩:=List.mem_iff_getElem.mp hp
 refine⟨(k:Int),((x2h5 f P.length).2 _).mpr (by omega),?_⟩
 unfold prAt
 simp[List.getD_eq_getElem?_getD,hk]
theorem Ordd.split{f:Int->Int}{N:Nat}{L:List Int}(h:Ordd f N L)(c:Int):L=L.filter (fun i=>decide (f i<=c))++L.filter (fun i=>!decide (f i<=c)):=by
 refine h.one ⟨?_,fun x=>?_⟩
 .rw[List.pairwise_append]
  refine⟨h.1.filter _,h.1.filter _,fun a ha b hb=>?_⟩
  have h1:=(List.mem_filter.mp ha).2
  have h2:=(List.mem_filter.mp hb).2
  simp at h1 h2
  unfold lx
  omega
 .rw[<-h.2,List.mem_append,List.mem_filter,List.mem_filter]
  cases decide (f x<=c)<;>simp
end Go.Ix
