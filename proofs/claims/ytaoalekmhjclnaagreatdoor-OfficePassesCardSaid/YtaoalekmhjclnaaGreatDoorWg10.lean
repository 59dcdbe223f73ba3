import Derived.Test.YtaoalekmhjclnaaGreatDoorW10Ref3
import Derived.Test.YtaoalekmhjclnaaGreatDoorWg9
set_option linter.unusedSimpArgs false
set_option linter.unusedVariables false
namespace Go.Ix
open Go.Proofs
theorem x1bj:x16k=[I 0]:=by kernel_rfl
def GL(u t:Nat)(m:Mem)(a:AV)(l:List Int):Prop:=(∃x,a=.slit [I x] 1 true/\l=[x])\/∃s ver,a=.sref (u,s,t) ver 0 l.length 1 true/\m.get (u,s,t)=some (.row (l.flatMap intE) ver false)
theorem GL.frame{u t:Nat}{m m':Mem}{a:AV}{l:List Int}(h:GL u t m a l)(hm:∀s,m'.get (u,s,t)=m.get (u,s,t)):GL u t m' a l:=by
 rcases h with h|⟨s,ver,h1,h2⟩
 .exact .inl h
 .exact .inr ⟨s,ver,h1,by rw[hm];exact h2⟩
theorem GL.at{u t:Nat}{m:Mem}{a:AV}{l:List Int}(h:GL u t m a l){k:Nat}(hk:k<l.length):∃p,sIx 1 a (I k)=some p/\sLd false 1 p m=some (I (at0 l k)):=by
 rcases h with ⟨x,rfl,rfl⟩|⟨s,ver,rfl,hg⟩
 .have:k=0:=by simpa using hk
  subst this
  exact⟨_,rfl,rfl⟩
 .refine⟨.ptr (u,s,t) ver k,by simp[sIx,asI,hk],?_⟩
  rw[x1be,hg]
  simp only[x18q,Nat.beq_refl,cond_true,rd,x1op,x1oa]
  rw[x19l,<-List.map_drop,x16e (by omega),x17u (by omega)]
  rfl
theorem GL.len{u t:Nat}{m:Mem}{a:AV}{l:List Int}(h:GL u t m a l):sLen Tryz.prog x4 a=some (I l.length):=by
 rcases h with ⟨x,rfl,rfl⟩|⟨s,ver,rfl,hg⟩<;>rfl
theorem GL.app{u t s0 bytes:Nat}{m:Mem}{a:AV}{l:List Int}(hr:x15z (l.length+1) bytes)(h:GL u t m a l)(x:Int) :
 ∃a' m',(∀{R:Type} (k:AV->Mem->Option R),sApp 1 bytes (u,s0,t) (some (intE x,1)) a m k=k a' m')/\GL u t m' a' (l++[x])/\m'.next=m.next/\∀j:Id,j.2.2≠t->m'.get j=m.get j:=by
 rcases h with ⟨y,rfl,rfl⟩|⟨s,ver,rfl,hg⟩
 .refine⟨.sref (u,s0,t) 0 0 2 1 true,m.new (u,s0,t) (.row [I y,I x] 0 false),λk=>?_,.inr ⟨s0,0,rfl,by rw[Mem.get_new_same];rfl⟩,rfl,λj hj=>?_⟩
  .simp only[sApp]
   rw[x1nx (by simp),x1ny (by omega),x1nx (by simpa using hr)]
   rfl
  .rw[Mem.get_new,x1ny (by rintro rfl;exact hj rfl)]
 .have hl:=x18c x16u l
  refine⟨.sref (u,s,t) (ver+1) 0 (l.length+1) 1 true,m.set (u,s,t) (.row (l.flatMap intE++intE x) (ver+1) false),λk=>?_,.inr ⟨s,ver+1,by simp,by simp⟩,rfl,λj hj=>?_⟩
  .simp only[sApp,hg]
   rw[x1nx ⟨trivial,trivial,by omega,hr⟩,x1ny (by omega),x1ny (by rw[hl];omega),x1oh,x1os (by omega)]
  .rw[Mem.get_set,x1ny (by rintro rfl;exact hj rfl)]
def x16x(l:List Ps)(gap:Int)(lab:List Int)(k:Nat):Int:=if at0 lab k<(psAt l k).va+at0 lab (ahM gap (psAt l k).fr l)then(psAt l k).va+at0 lab (ahM gap (psAt l k).fr l)else at0 lab k
theorem cAp_tR(a:AV):cAp none (tR a) 2=true:=by cases a<;>rfl
def x15n(l:List Ps)(gap:Int):Nat->List Int
 |0=>[0]
 |k+1=>x15n l gap k++[x16x l gap (x15n l gap k) k]
theorem x172(l:List Ps)(gap:Int):∀k,(x15n l gap k).length=k+1
 |0=>rfl
 |k+1=>by simp[x15n,x172 l gap k]
theorem x1gn{l:List Int}{x:Int}{k:Nat}(h:k<l.length):at0 (l++[x]) k=at0 l k:=by
 rw[x17u (by simp;omega),x17u h,List.getElem_append_left h]
theorem x1go{l:List Int}{x:Int}:at0 (l++[x]) l.length=x:=by
 rw[x17u (by simp)];simp
theorem x1ar{l:List Ps}{kl:List Lk}{gap sto:Int}(R:RPlan l kl gap sto):∀(k:Nat),k<=l.length->∀i,i<=k->0<=at0 (x15n l gap k) i/\at0 (x15n l gap k) i<=1000000*i
 |0,_,i,hi=>by
  have:i=0:=by omega
  subst this
  exact⟨x1pj _,x1pj _⟩
 |k+1,hk,i,hi=>by
  have ih:=x1ar R k (by omega)
  have hlen:=x172 l gap k
  rcases Nat.lt_or_eq_of_le hi with h|rfl
  .unfold x15n
   rw[x1gn (by omega)]
   exact ih i (by omega)
  .unfold x15n
   rw[show k+1=(x15n l gap k).length by omega,x1go,hlen]
   unfold x16x
   have hkl:k<l.length:=by omega
   rw[x16w hkl]
   have h1:=ih k (by omega)
   have hx:=R.at (x1od hkl)
   have hg:=R.gap0
   have ha:=x18t (gap:=gap) (fr:=l[k].fr) hkl (by omega)
   have h2:=ih _ ha
   have h3:(1000000:Int)*(ahM gap l[k].fr l:Nat)<=1000000*(k:Nat):=by omega
   split<;>omega
theorem l_rbest(d u:Nat){pa li:AV}{gap sto:Int}{l:List Ps}{kl:List Lk}(h:Sl Ps.c pa l)(h2:Sl Lk.c li kl)(R:RPlan l kl gap sto) :
 ∀(suf:List Ps) (k j:Nat) (m:Mem) (fc:Nat) (la:AV),l.drop k=suf->suf.length<j->k<=l.length->m.get (u,0,1)=some (.row [pa,li,I gap,I sto] 0 false)->GL u 33 m la (x15n l gap k) ->
 ∃m',x2k (x15i (d+1)) [] u j (.ptr (u,0,1) 0 0) la (I k) m fc=some (I (at0 (x15n l gap l.length) l.length),m'):=by
 intro suf
 have hl40:=R.len
 induction suf with
 |nil=>
  intro k j m fc la hd hj hkl hm hla
  obtain⟨j,rfl⟩:∃i,j=i+1:=⟨j-1,by simp at hj;omega⟩
  have hkk:k=l.length:=by have:=x1oi.mp hd;omega
  subst hkk
  obtain⟨p,e1,e2⟩:=hla.at (k:=l.length) (by rw[x172];omega)
  have e3:=hla.len
  rw[x172]at e3
  have ew:w64 (((l.length+1:Nat):Int)-1)=(l.length:Int):=by rw[x15x (by omega) (by omega)];omega
  simp only[x2k]
  unfold x82 xai
  simp only[sFA_ptr,x1be,hm,x1du,x162,x1ov]
  simp[hm,h.len x16n,e3]
  simp at ew
  refine⟨m,?_⟩
  simp[ew,e1,e2]
 |cons e r ih=>
  intro k j m fc la hd hj hkl hm hla
  obtain⟨j,rfl⟩:∃i,j=i+1:=⟨j-1,by simp at hj;omega⟩
  obtain⟨hk,he,hd1⟩:=x16s hd
  have hk':(k:Int)<(l.length:Int):=by omega
  have ix:=h.ix Ps.len hk
  have fa:sFA 3 (.plit ((l.drop k).flatMap Ps.c))=some (.plit (((l.drop k).flatMap Ps.c).drop 3)):=rfl
  have ld:∀m,sLd false 1 (.plit (((l.drop k).flatMap Ps.c).drop 3)) m=some (I l[k].va):=λm=>by
   rw[x16e hk,x1o5];rfl
  obtain⟨p,e1,e2⟩:=hla.at (k:=k) (by rw[x172];omega)
  have hx:=R.at (x1od hk)
  have hg:=R.gap0
  have ha:=x18t (gap:=gap) (fr:=l[k].fr) hk (by omega)
  obtain⟨a,hae⟩:∃a,ahM gap l[k].fr l=a:=⟨_,rfl⟩
  rw[hae]at ha
  obtain⟨q,e3,e4⟩:=hla.at (k:=a) (by rw[x172];omega)
  have b1:=x1ar R k (by omega) k (by omega)
  have b2:=x1ar R k (by omega) a ha
  have hah:=x1gl d (sto:=sto) (gap:=gap) h h2 R hk
  rw[hae]at hah
  have hww:w64 (l[k].va+at0 (x15n l gap k) a)=l[k].va+at0 (x15n l gap k) a:=x15x (by omega) (by omega)
  have hwk:w64 ((k:Int)+1)=(k:Int)+1:=x15x (by omega) (by omega)
  have hst:x16x l gap (x15n l gap k) k=if at0 (x15n l gap k) k<l[k].va+at0 (x15n l gap k) a then l[k].va+at0 (x15n l gap k) a else at0 (x15n l gap k) k:=by
   unfold x16x;rw[x16w hk,hae]
  obtain⟨la',m2,happ,hg2,hnx,hoth⟩:=hla.app (s0:=fc+25) (bytes:=8) (by unfold x15z;rw[x172];omega) (x16x l gap (x15n l gap k) k)
  have hm2:m2.get (u,0,1)=some (.row [pa,li,I gap,I sto] 0 false):=by rw[hoth _ (by simp)];exact hm
  obtain⟨m',h'⟩:=ih (k+1) j m2 (fc+30) la' hd1 (by simp at hj;omega) (by omega) hm2 hg2
  simp only[x2k]
  unfold x82
  simp[hm,h.len x16n,hk,e1,e2,ix,fa,ld,hah,e3,e4,hww,h.one,h2.one,h.clean1,h2.clean1,cAp_tR]
  rw[<-hst]
  have hlit:∀{R:Type} (x:Int) (id:Id) (m:Mem) (q:AV->Mem->Option R),x15v x16k [(0,1,I x)] 1 1 id m q=q (.slit [I x] 1 true) m:=λx id m q=>by rw[x1bj];exact x1a7 rfl rfl rfl
  have hel:elems m.get 1 (.slit [I (x16x l gap (x15n l gap k) k)] 1 true)=some (intE (x16x l gap (x15n l gap k) k),1):=rfl
  simp only[hlit,hel,happ,hwk]
  exact⟨m',h'⟩
theorem w_rBest(d:Nat){pa li:AV}{gap sto:Int}{l:List Ps}{kl:List Lk}(h:Sl Ps.c pa l)(h2:Sl Lk.c li kl)(R:RPlan l kl gap sto)(m:Mem) :
 x15e (x15i (d+2)) x1c [.agg [pa,li,I gap,I sto]] m=some (I (at0 (x15n l gap l.length) l.length),m):=by
 obtain⟨m',h'⟩:∃m',x15i (d+2) [] x1c [.agg [pa,li,I gap,I sto]] mem0=some (I (at0 (x15n l gap l.length) l.length),m'):=by
  rw[xy2]
  have hlit:∀{R:Type} (x:Int) (id:Id) (m:Mem) (q:AV->Mem->Option R),x15v x16k [(0,1,I x)] 1 1 id m q=q (.slit [I x] 1 true) m:=λx id m q=>by rw[x1bj];exact x1a7 rfl rfl rfl
  unfold x9e x83 xaj
  simp only[mem0,x17f,x17l,x1oc,x1ox,h.one,h2.one,x17m,x1ou,x1oo,x16o,hlit]
  generalize hm0:Mem.new _ _ _=m0
  have hg:m0.get (0,0,1)=some (.row [pa,li,I gap,I sto] 0 false):=by rw[<-hm0,Mem.get_new_same]
  exact l_rbest d 0 h h2 R l 0 NN m0 5 (.slit [I 0] 1 true) rfl (by rw[x16v];have:=R.len;omega) (by omega) hg (.inl ⟨0,rfl,rfl⟩)
 exact call0 (by simp[h.still1,h2.still1]) h' rfl
theorem l_best(d u:Nat){pa li:AV}{gap sto:Int}{l:List Ps}{kl:List Lk}(h:Sl Ps.c pa l)(h2:Sl Lk.c li kl)(R:RPlan l kl gap sto){Q:Option (AV×Mem)->Prop}{i1 i6:Id}(hi1:i1.2.2≠46/\i1.2.2≠10)(hi6:i6.2.2≠46/\i6.2.2≠10)(hQ:∀m fc la,m.get i1=some (.row [pa,li,I gap,I sto] 0 false)->m.get i6=some (.row [pa,li,I gap,I sto] 0 false)->GL u 46 m la (x15n l gap l.length)->Q (x7y (x15i (d+1)) [] u (.ptr i1 0 0) (.ptr i6 0 0) la m fc)) :
 ∀(suf:List Ps) (k j:Nat) (m:Mem) (fc:Nat) (la:AV),l.drop k=suf->suf.length<j->k<=l.length->m.get i1=some (.row [pa,li,I gap,I sto] 0 false)->m.get i6=some (.row [pa,li,I gap,I sto] 0 false)->GL u 46 m la (x15n l gap k) ->
 Q (x2j (x15i (d+1)) [] u j (.ptr i1 0 0) (.ptr i6 0 0) la pa (I l.length) (I k) m fc):=by
 intro suf
 have hl40:=R.len
 induction suf with
 |nil=>
  intro k j m fc la hd hj hkl hm hm6 hla
  obtain⟨j,rfl⟩:∃i,j=i+1:=⟨j-1,by simp at hj;omega⟩
  have hkk:k=l.length:=by have:=x1oi.mp hd;omega
  subst hkk
  simp only[x2j]
  unfold x7z
  simp only[x171,Int.lt_irrefl,x1oz,x17t,x162]
  exact hQ m (fc+1) la hm hm6 hla
 |cons e r ih=>
  intro k j m fc la hd hj hkl hm hm6 hla
  obtain⟨j,rfl⟩:∃i,j=i+1:=⟨j-1,by simp at hj;omega⟩
  obtain⟨hk,he,hd1⟩:=x16s hd
  have hk':(k:Int)<(l.length:Int):=by omega
  have ix:=h.ix Ps.len hk
  have ld:=λm=>x1cc (m:=m) Ps.len (by omega) hk
  have hx:=R.at (x1od hk)
  have hg:=R.gap0
  have ha:=x18t (gap:=gap) (fr:=l[k].fr) hk (by omega)
  obtain⟨a,hae⟩:∃a,ahM gap l[k].fr l=a:=⟨_,rfl⟩
  rw[hae]at ha
  have b1:=x1ar R k (by omega) k (by omega)
  have b2:=x1ar R k (by omega) a ha
  have hah:=x1cg d (sto:=sto) (gap:=gap) h h2 (by omega) hk R.gap0 (λx hx=>(R.at hx).2.1)
  rw[hae]at hah
  have hww:w64 (l[k].va+at0 (x15n l gap k) a)=l[k].va+at0 (x15n l gap k) a:=x15x (by omega) (by omega)
  have hwk:w64 ((k:Int)+1)=(k:Int)+1:=x15x (by omega) (by omega)
  have hst:x16x l gap (x15n l gap k) k=if at0 (x15n l gap k) k<l[k].va+at0 (x15n l gap k) a then l[k].va+at0 (x15n l gap k) a else at0 (x15n l gap k) k:=by
   unfold x16x;rw[x16w hk,hae]
  have hlit:∀{R:Type} (x:Int) (id:Id) (m:Mem) (q:AV->Mem->Option R),x15v x16k [(0,1,I x)] 1 1 id m q=q (.slit [I x] 1 true) m:=λx id m q=>by rw[x1bj];exact x1a7 rfl rfl rfl
  simp only[x2j]
  unfold x7z
  rw[he]at ld hww hst hae
  simp only[x171,hk',x1p4,x184,x162,ix,ld,x19j,z_pass]
  simp[Ps.c]
  have hT1:(T e.nm).one=true:=rfl
  simp only[hT1,x16o,x162]
  generalize hm1:Mem.set _ _ _=m1
  have hg5:m1.get (u,fc+4,10)=some (.row e.c 0 false):=by rw[<-hm1,Mem.get_set_same];rfl
  have hg1:m1.get i1=some (.row [pa,li,I gap,I sto] 0 false):=by
   rw[<-hm1,Mem.get_set_ne (by rintro rfl;exact hi1.2 rfl),Mem.get_new_ne (by rintro rfl;exact hi1.2 rfl)];exact hm
  have hg6:m1.get i6=some (.row [pa,li,I gap,I sto] 0 false):=by
   rw[<-hm1,Mem.get_set_ne (by rintro rfl;exact hi6.2 rfl),Mem.get_new_ne (by rintro rfl;exact hi6.2 rfl)];exact hm6
  have hla1:GL u 46 m1 la (x15n l gap k):=hla.frame λs=>by
   rw[<-hm1,Mem.get_set_ne (by simp),Mem.get_new_ne (by simp)]
  obtain⟨p,e1,e2⟩:=hla1.at (k:=k) (by rw[x172];omega)
  obtain⟨q,e3,e4⟩:=hla1.at (k:=a) (by rw[x172];omega)
  obtain⟨la',m2,happ,hgl2,hnx,hoth⟩:=hla1.app (s0:=fc+23) (bytes:=8) (by unfold x15z;rw[x172];omega) (x16x l gap (x15n l gap k) k)
  have hm2:m2.get i1=some (.row [pa,li,I gap,I sto] 0 false):=by rw[hoth _ hi1.1];exact hg1
  have hm62:m2.get i6=some (.row [pa,li,I gap,I sto] 0 false):=by rw[hoth _ hi6.1];exact hg6
  have h':=ih (k+1) j m2 (fc+27) la' hd1 (by simp at hj;omega) (by omega) hm2 hm62 hgl2
  have hne6:i6≠(u,fc+4,10):=by rintro rfl;exact hi6.2 rfl
  have hne1:i1≠(u,fc+4,10):=by rintro rfl;exact hi1.2 rfl
  have hr3:x18q false 1 0 3 (some (Ob.row [T e.nm,I e.fr,I e.to,I e.va,I e.da] 0 false))=some (I e.va):=rfl
  simp[hne6,hne1,hm6,hg5,Ps.c,hr3,e1,e2,hg6,hah,e3,e4,hww,h.one,h2.one,h.clean1,h2.clean1,cAp_tR]
  rw[<-hst]
  have hel:elems m1.get 1 (.slit [I (x16x l gap (x15n l gap k) k)] 1 true)=some (intE (x16x l gap (x15n l gap k) k),1):=rfl
  simp only[hlit,hel,happ,hwk]
  exact h'
def x16y(l:List Ps)(gap:Int)(lab:List Int):Nat->Nat->List Int
 |0,_=>[]
 |_+1,0=>[]
 |n+1,k+1=>if at0 lab (k+1)=at0 lab k then x16y l gap lab n k else(k:Int)::x16y l gap lab n (ahM gap (psAt l k).fr l)
theorem l_back(d u:Nat){pa li la:AV}{gap sto:Int}{l:List Ps}{kl:List Lk}{lab:List Int}(h:Sl Ps.c pa l)(h2:Sl Lk.c li kl)(R:RPlan l kl gap sto)(hlen:lab.length=l.length+1){Q:Option (AV×Mem)->Prop}{i6:Id}(hi6:i6.2.2≠69){n0:Nat}(hQ:∀m fc oa,Gr 1 intE u 69 m oa (x16y l gap lab n0 l.length)->GL u 46 m la lab->Q (x7x (x15i (d+1)) [] u la oa m fc)) :
 ∀(n k j:Nat) (out:List Int) (m:Mem) (fc:Nat) (oa:AV),k<=n->k<j->k<=l.length->out.length+k<=100->out++x16y l gap lab n k=x16y l gap lab n0 l.length->m.get i6=some (.row [pa,li,I gap,I sto] 0 false)->GL u 46 m la lab->Gr 1 intE u 69 m oa out ->
 Q (x1s (x15i (d+1)) [] u j (.ptr i6 0 0) la oa (I k) m fc):=by
 intro n
 have hl40:=R.len
 induction n with
 |zero=>
  intro k j out m fc oa hkn hj hkl ho hb hm hla hoa
  have:k=0:=by omega
  subst this
  obtain⟨j,rfl⟩:∃i,j=i+1:=⟨j-1,by omega⟩
  simp only[x1s]
  unfold x3u
  have e0:sGt (I ((0:Nat):Int)) (I 0)=some (B false):=rfl
  simp only[e0,x162,x17t]
  rw[show x16y l gap lab 0 0=[]from rfl,x1q7]at hb
  exact hQ _ _ _ (hb▸hoa) hla
 |succ n ih=>
  intro k j out m fc oa hkn hj hkl ho hb hm hla hoa
  obtain⟨j,rfl⟩:∃i,j=i+1:=⟨j-1,by omega⟩
  rcases k with _|k
  .simp only[x1s]
   unfold x3u
   have e0:sGt (I ((0:Nat):Int)) (I 0)=some (B false):=rfl
   simp only[e0,x162,x17t]
   rw[show x16y l gap lab (n+1) 0=[]from rfl,x1q7]at hb
   exact hQ _ _ _ (hb▸hoa) hla
  .have hk:k<l.length:=by omega
   obtain⟨p,e1,e2⟩:=hla.at (k:=k+1) (by omega)
   obtain⟨q,e3,e4⟩:=hla.at (k:=k) (by omega)
   have e1':sIx 1 la (I ((k:Int)+1))=some p:=e1
   have hs1:w64 (k:Int)=k:=x15x (by omega) (by omega)
   have hpos:(0:Int)<(k:Int)+1:=by omega
   simp only[x1s]
   unfold x3u
   have hbk:x16y l gap lab (n+1) (k+1)=if at0 lab (k+1)=at0 lab k then x16y l gap lab n k else(k:Int)::x16y l gap lab n (ahM gap (psAt l k).fr l):=rfl
   rw[hbk]at hb
   by_cases hq:at0 lab (k+1)=at0 lab k
   .rw[x1nx hq]at hb
    have h':=ih k j out m (fc+15) oa (by omega) (by omega) (by omega) (by omega) hb hm hla hoa
    simp[hpos,e1',e2,hs1,e3,e4,hq]
    exact h'
   .rw[x1ny hq,x16w hk]at hb
    have ha:=x18t (gap:=gap) (fr:=l[k].fr) hk (by have:=(R.at (x1od hk)).2.2.2.2;have:=R.gap0;omega)
    have hah:=x1cg d (sto:=sto) (gap:=gap) h h2 (by omega) hk R.gap0 (λx hx=>(R.at hx).2.1)
    have hlit:∀{R:Type} (x:Int) (id:Id) (m:Mem) (q:AV->Mem->Option R),x15v x16k [(0,1,I x)] 1 1 id m q=q (.slit [I x] 1 true) m:=λx id m q=>by rw[x1bj];exact x1a7 rfl rfl rfl
    obtain⟨oa',m2,happ,hg2,hnx,hoth⟩:=hoa.app (s0:=fc+16) (bytes:=8) x16u (by omega) (by unfold x15z;omega) (k:Int)
    have hm2:m2.get i6=some (.row [pa,li,I gap,I sto] 0 false):=by rw[hoth _ hi6];exact hm
    have hla2:GL u 46 m2 la lab:=hla.frame λs=>hoth _ (by simp)
    have h':=ih (ahM gap l[k].fr l) j (out++[(k:Int)]) m2 (fc+23) oa' (by omega) (by omega) (by omega) (by simp;omega) (by rw[x1r3];exact hb) hm2 hla2 hg2
    have hel:elems m.get 1 (.slit [I (k:Int)] 1 true)=some (intE (k:Int),1):=rfl
    simp[hpos,e1',e2,hs1,e3,e4,hq,hlit,hel,happ,hm2,hah,h.one,h2.one]
    exact h'
end Go.Ix
