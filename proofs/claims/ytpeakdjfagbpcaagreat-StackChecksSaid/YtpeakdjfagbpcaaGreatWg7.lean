import Derived.Test.YtpeakdjfagbpcaaGreatWg6
import Derived.Test.YtpeakdjfagbpcaaGreatWg5
import Derived.Test.YtpeakdjfagbpcaaGreatWg3
set_option linter.unusedSimpArgs false
set_option linter.unusedVariables false
namespace Go.Ix
open Go.Proofs
theorem z_2i:xu4=[I 0,I 0]:=by kernel_rfl
theorem idx_2i0:sIdx Tryz.prog xa8 (.agg [I 1,I (-1)]) (I 0)=some (I 1):=by kernel_rfl
theorem idx_2i1:sIdx Tryz.prog xa8 (.agg [I 1,I (-1)]) (I 1)=some (I (-1)):=by kernel_rfl
theorem w_from(d:Nat){s p f:AV}{l:List Scene}{P:List Pq}{F:List Int}(hs:Sl Scene.c s l)(hp:Sl Pq.c p P)(hf:Ints f F)(v:Int)(m:Mem) :
 x2i8 (x2i6 (d+1)) x7e [.agg [s,p],I v,f] m=some (.clo x3w [.plit [f],.plit [s,p],.plit [I v]],m):=by
 refine x2ju (by simp[hs.still1,hp.still1,hf.still]) ?_ m
 rw[x1ez]
 unfold xi4 xl8
 simp[mem0,hs.one,hp.one,hf.one,hf.cells]
 generalize hm:Mem.new _ _ _=m1
 have g5:m1.get (0,2,5)=some (.row [f] 0 false):=by rw[<-hm];simp
 have g3:m1.get (0,0,3)=some (.row [s,p] 0 false):=by rw[<-hm];simp
 have g4:m1.get (0,1,4)=some (.row [I v] 0 false):=by rw[<-hm];simp
 have e5:Go.Ix.frz m1.get 5 (.ptr (0,2,5) 0 0)=some (.plit [f]):=frz_box g5 (x2kc _ 2 hf.still)
 have e4:Go.Ix.frz m1.get 5 (.ptr (0,1,4) 0 0)=some (.plit [I v]):=frz_box g4 rfl
 have e3:Go.Ix.frz m1.get 5 (.ptr (0,0,3) 0 0)=some (.plit [s,p]):=by
  rw[x2wz g3]
  simp only[List.drop_zero,List.mapM_cons,List.mapM_nil,x2kc m1.get 2 hs.still,x2kc m1.get 2 hp.still]
  rfl
 refine RetF.mk (a':=.clo x3w [.plit [f],.plit [s,p],.plit [I v]]) ?_ rfl
 show(([AV.ptr (0,2,5) 0 0,.ptr (0,0,3) 0 0,.ptr (0,1,4) 0 0].mapM (Go.Ix.frz m1.get 5)).map fun l=>AV.clo _ l)=_
 simp only[List.mapM_cons,List.mapM_nil,e5,e4,e3]
 rfl
theorem x2zo{F:List Int}{k:Nat}(hk:k<F.length):x2m1 (F.take (k+1))=x2m1 (F.take k)++[⟨at0 F k,1⟩]++[⟨at0 F k,-1⟩]:=by
 unfold x2m1
 rw[List.take_succ_eq_append_getElem hk,List.flatMap_append,x2io hk]
 simp
theorem c_from(d:Nat){hh:FHs}{id:Id}{h:List AV->Mem->Option Mem}{s p f:AV}{l:List Scene}{P:List Pq}{F:List Int}(hs:Sl Scene.c s l)(hp:Sl Pq.c p P)(hf:Ints f F)(hF:F.length<=1000)(hr:∀i∈F,0<=i/\i<P.length)(hl:x2ng hh id=some h)(v:Int){m0:Mem}(Inv:List Sp->Mem->Prop)(hst:∀pre m m',Inv pre m->m'.next=m.next->(∀i:Id,¬i.1=m0.next->m'.get i=m.get i)->Inv pre m')(hy:∀pre x m,InF F x->frS P x=v->Inv pre m->∃m2,h [.agg [I x.p,I x.s],I (toS P x)] m=some m2/\Inv (pre++[x]) m2)(hn:∀pre x m,InF F x->frS P x≠v->Inv pre m->Inv (pre++[x]) m)(h0:∀m,m.next=m0.next+1->(∀i:Id,m.get i=m0.get i)->Inv [] m) :
 ∃m',x2i6 (d+2) hh x3w [.yld id,.plit [f],.plit [s,p],.plit [I v]] m0=some (.tup [],m')/\Inv (x2m1 F) m':=by
 rw[x1fc]
 unfold xig xls
 generalize hu:m0.next=u at *
 simp only[sLd_cons,rd_f,x2ig,hf.len x2il]
 refine x2j1 (N:=F.length) (σ:=Unit) (fun n k _ m fc=>x2e (x2i6 (d+1)) hh u n (.yld id) (.plit [s,p]) (.plit [I v]) f (I F.length) (I k) m fc) (fun k _ m=>Inv (x2m1 (F.take k)) m)
  (fun r=>∃m',r=some (.tup [],m')/\Inv (x2m1 F) m') ?_ ?_ NN 0 () _ _ (by omega) (by rw[x2in];omega) (by simpa[x2m1]using h0 ⟨m0.hp,u+1⟩ rfl (fun _=>rfl))
 .rintro n k-m fc hk hI next
  have hk':(k:Int)<(F.length:Int):=by omega
  have ix:=hf.ix x2im hk
  have ld:=fun m=>x2j0 (m:=m) hk
  have hmem:at0 F k∈F:=by rw[x2io hk];exact List.getElem_mem hk
  have hx:=hr _ hmem
  have hsc:=x2zo hk
  generalize at0 F k=i at *
  simp only[x2e]
  unfold xfr xa9
  simp only[x2iv,hk',decide_true,x2iw,x2ig,ix,ld,z_2i]
  rw[show x2ih [I 0,I 0] [(0,1,I 1),(1,1,I (-1))]=some (.agg [I 1,I (-1)]) by simp[x2ih,x2j3]]
  simp only[x2ig]
  have one:∀(sg:Int) (q:Int) (pre:List Sp) (m:Mem) (fc n1:Nat),(sg=1\/sg=-1)->q<2->0<=q->sIdx Tryz.prog xa8 (.agg [I 1,I (-1)]) (I q)=some (I sg)->Inv pre m ->
   (∀m' fc',Inv (pre++[⟨i,sg⟩]) m'->∃m2,x3f (x2i6 (d+1)) hh u (x2e (x2i6 (d+1)) hh u n) n1 (.yld id) (.plit [s,p]) (.plit [I v]) (I i) f (I F.length) (I k) (.agg [I 1,I (-1)]) (I (q+1)) m' fc'=some (.tup [],m2)/\Inv (x2m1 F) m2) ->
   ∃m2,x3f (x2i6 (d+1)) hh u (x2e (x2i6 (d+1)) hh u n) (n1+1) (.yld id) (.plit [s,p]) (.plit [I v]) (I i) f (I F.length) (I k) (.agg [I 1,I (-1)]) (I q) m fc=some (.tup [],m2)/\Inv (x2m1 F) m2:=by
   intro sg q pre m fc n1 hsg hq2 hq0 hidx hI2 go
   have hIn:InF F ⟨i,sg⟩:=⟨hmem,hsg⟩
   have he:=fun m=>w_ends d ⟨hs.one,hs.still1⟩ hp (x:=⟨i,sg⟩) hx m
   simp only[x3f]
   unfold xfq
   simp only[x2iv,hq2,decide_true,x2iw,x2ig,hidx,x2s0]
   rw[show x2ih [I 0,I 0] [(0,1,I i),(1,1,I sg)]=some (.agg [I i,I sg]) by simp[x2ih,x2j3]]
   simp
   generalize hm1:Mem.set _ _ _=m1
   have q9:m1.get (u,fc+6,9)=some (.row [I i,I sg] 0 false):=by rw[<-hm1];simp
   have hI3:Inv pre m1:=hst pre m m1 hI2 (by rw[<-hm1];rfl) fun j hj=>by
    rw[<-hm1,Mem.get_set,if_neg (by rintro rfl;exact hj rfl),Mem.get_new,if_neg (by rintro rfl;exact hj rfl)]
   simp[q9,he]
   rw[x2ic (by omega) (by omega)]
   by_cases c:frS P ⟨i,sg⟩=v
   .obtain⟨m2,h1,h2⟩:=hy pre ⟨i,sg⟩ m1 hIn c hI3
    have hinv:x2jj (x2i6 (d+1)) hh 2 (.yld id) [.agg [I i,I sg],I (toS P ⟨i,sg⟩)] m1=some (B true,m2):=by
     show(match x2ng hh id with
      |some h=>(h [.agg [I i,I sg],I (toS P ⟨i,sg⟩)] m1).map fun m'=>(B true,m')
      |none=>none)=_
     rw[hl]
     simp only
     rw[h1]
     rfl
    simp[c,q9,hinv]
    exact go m2 _ h2
   .simp[c]
    exact go m1 _ (hn pre ⟨i,sg⟩ m1 hIn c hI3)
  obtain⟨NM,hNM⟩:∃NM,NN=NM+1+1+1:=⟨NN-3,by have:=x2in;omega⟩
  rw[hNM]
  refine one 1 0 _ m _ _ (.inl rfl) (by omega) (by omega) idx_2i0 hI fun m1 fc1 h1=>?_
  refine one (-1) 1 _ m1 _ _ (.inr rfl) (by omega) (by omega) idx_2i1 h1 fun m2 fc2 h2=>?_
  simp only[x3f]
  unfold xfq x1f
  simp(disch:=omega) [x2ic]
  exact next () m2 _ (by rw[hsc];exact h2)
 .rintro n-m fc hI
  rw[List.take_of_length_le (Nat.le_refl _)]at hI
  simp only[x2e]
  unfold xfr
  simp
  exact hI
end Go.Ix
namespace Go.Ix
variable{P:List Pq}{n:Nat}{F:List Int}
theorem at0_setI{l:List Int}{b v:Int}{x:Int}(h0:0<=b)(hb:b<l.length)(hv:0<=v):at0 (l.set b.toNat x) v.toNat=if v=b then x else at0 l v.toNat:=by
 unfold at0
 rw[List.getD_eq_getElem?_getD,List.getD_eq_getElem?_getD,List.getElem?_set]
 by_cases c:v=b
 .rw[if_pos c,c,if_pos rfl,if_pos (by omega)];rfl
 .rw[if_neg c,if_neg (by omega)]
def unk(K:List Bool):Nat:=(K.filter fun b=>!b).length
theorem x2tz:∀{K:List Bool} {k:Nat},k<K.length->K.getD k false=false->unk (K.set k true)+1=unk K
 |[],_,h,_=>by simp at h
 |b::r,0,_,hb=>by
  simp at hb
  subst hb
  simp[unk]
 |b::r,k+1,h,hb=>by
  have:=x2tz (K:=r) (k:=k) (by simpa using h) (by simpa using hb)
  unfold unk at this ⊢
  rw[List.set_cons_succ]
  cases b<;>simp<;>omega
theorem unk_le:∀{K L:List Bool},K.length=L.length->(∀k,k<K.length->K.getD k false=true->L.getD k false=true)->unk L<=unk K
 |[],[],_,_=>Nat.le_refl _
 |[],_::_,h,_=>by simp at h
 |_::_,[],h,_=>by simp at h
 |a::r,b::s,h,hk=>by
  have ih:=unk_le (K:=r) (L:=s) (by simpa using h) fun k hk2=>by
   have:=hk (k+1) (by simpa using hk2)
   simpa using this
  have h0:=hk 0 (by simp)
  simp only[List.getD_cons_zero]at h0
  unfold unk at ih ⊢
  cases a with
  |true=>
   rw[h0 rfl]
   exact ih
  |false=>
   cases b
   .show(r.filter fun b=>!b).length+1 ≥ (s.filter fun b=>!b).length+1
    omega
   .show(s.filter fun b=>!b).length<=(r.filter fun b=>!b).length+1
    omega
structure DS (n:Nat) (φ:Int->Int) (O:List Int) (K:List Bool):Prop where
 lo:O.length=n
 lk:K.length=n
 kn:∀v:Int,0<=v->v<n->boA K v=true->at0 O v.toNat=φ v
def Un(n:Nat)(O:List Int)(K:List Bool)(but:Int):Prop:=∀v:Int,0<=v->v<n->v≠but->boA K v=false->at0 O v.toNat=0
def Sub(n:Nat)(K L:List Bool):Prop:=∀v:Int,0<=v->v<n->boA K v=true->boA L v=true
theorem Sub.unk{K L:List Bool}(h:Sub n K L)(hk:K.length=n)(hl:L.length=n):unk L<=unk K:=unk_le (by omega) fun k hk2 e=>by
 have:=h (k:Int) (by omega) (by omega) (by unfold boA;simpa using e)
 unfold boA at this
 simpa using this
def Clo(P:List Pq)(F:List Int)(K L:List Bool):Prop:=∀x,InF F x->boA K (frS P x)=false->boA L (frS P x)=true->boA L (toS P x)=true
def Cls(P:List Pq)(F:List Int)(K:List Bool):Prop:=∀x,InF F x->boA K (frS P x)=true->boA K (toS P x)=true
theorem Clo.trans(hP:∀p∈P,PqIn n p)(hr:∀i∈F,0<=i/\i<P.length){K L M:List Bool}(h:Clo P F K L)(h2:Clo P F L M)(hs:Sub n L M):Clo P F K M:=fun x hx h0 h1=>by
 cases c:boA L (frS P x)with
 |true=>exact hs _ (x2kq hP hr hx).2.1 (x2kq hP hr hx).2.2 (h x hx h0 c)
 |false=>exact h2 x hx c h1
theorem Cls.grow(hP:∀p∈P,PqIn n p)(hr:∀i∈F,0<=i/\i<P.length){K L:List Bool}(h:Cls P F K)(h2:Clo P F K L)(hs:Sub n K L):Cls P F L:=fun x hx h1=>by
 cases c:boA K (frS P x)with
 |true=>exact hs _ (x2kq hP hr hx).2.1 (x2kq hP hr hx).2.2 (h x hx c)
 |false=>exact h2 x hx c h1
theorem Cls.walk{K:List Bool}(h:Cls P F K):∀{w:List Sp} {a b:Int},Wk P w a b->AllF F w->boA K a=true->boA K b=true
 |[],_,_,hw,_,ha=>by cases hw;exact ha
 |x::r,a,b,hw,hF,ha=>Cls.walk h hw.2 hF.tail (h x hF.head (by rw[hw.1];exact ha))
theorem root_of(hP:∀p∈P,PqIn n p)(hF:For n P F){K:List Bool}(h:Cls P F K){i:Nat}(hi:i<n)(hk:∀j:Nat,j<i->boA K j=true)(hn:boA K i=false):at0 (joinsM (freshM n) (prs P F)) i=i:=by
 have hL:=(Lab.fresh n).joins (x2k4 hP hF.rng)
 obtain⟨l0,l1,l2⟩:=hL.ok i hi
 apply Classical.byContradiction
 intro hne
 obtain⟨w,hw,hwF⟩:=x2ru hP hF.rng (v:=(at0 (joinsM (freshM n) (prs P F)) i).toNat) (w:=i) (by omega) hi (by unfold Sm;exact l2)
 have:=h.walk hw hwF (hk _ (by omega))
 rw[hn]at this
 cases this
def phiL(n:Nat)(φ:Int->Int):List Int:=(List.range n).map fun(v:Nat)=>φ v
theorem x2kz(n:Nat)(φ:Int->Int):(phiL n φ).length=n:=by simp[phiL]
theorem x2s1{φ:Int->Int}{v:Int}(h0:0<=v)(h1:v<n):at0 (phiL n φ) v.toNat=φ v:=by
 rw[x2io (by rw[x2kz];omega)]
 simp[phiL]
 rw[Int.max_eq_left h0]
theorem DS.all{φ:Int->Int}{O:List Int}{K:List Bool}(h:DS n φ O K)(hk:∀j:Nat,j<n->boA K j=true):O=phiL n φ:=by
 apply List.ext_getElem
 .rw[h.lo,x2kz]
 .intro i h1 h2
  have hi:i<n:=by rw[<-h.lo];exact h1
  have:=h.kn i (by omega) (by omega) (hk i hi)
  rw[Int.toNat_natCast,x2io h1]at this
  rw[this]
  simp[phiL]
open Go.Proofs
theorem Clo.refl{P:List Pq}{F:List Int}{K:List Bool}:Clo P F K K:=fun x _ h0 h1=>by rw[h0]at h1;cases h1
def idA:Id:=(0,7,14)
def idK:Id:=(0,12,19)
structure SM (s p f v:AV) (n:Nat) (O:List Int) (K:List Bool) (m:Mem):Prop where
 b2:m.get (0,0,2)=some (.row [s,p] 0 false)
 b3:m.get (0,1,3)=some (.row [f] 0 false)
 b5:m.get (0,13,5)=some (.row [.sref idA 0 0 n 1 true] 0 false)
 b6:m.get (0,14,6)=some (.row [.sref idK 0 0 n 1 true] 0 false)
 b7:m.get (0,19,7)=some (.row [v] 0 false)
 b8:m.get (0,21,8)=some (.row [.clo x1k [.ptr (0,14,6) 0 0,.ptr (0,0,2) 0 0,.ptr (0,19,7) 0 0,.ptr (0,13,5) 0 0,.ptr (0,1,3) 0 0,.ptr (0,21,8) 0 0]] 0 false)
 oA:Ow intE m idA O
 oK:Ow bE m idK K
 nx:1<=m.next
theorem SM.fr{s p f v:AV}{n:Nat}{O:List Int}{K:List Bool}{m m':Mem}(h:SM s p f v n O K m)(hn:1<=m'.next)(hg:∀j:Id,j.1=0->m'.get j=m.get j):SM s p f v n O K m':=
 ⟨by rw[hg _ rfl];exact h.b2,by rw[hg _ rfl];exact h.b3,by rw[hg _ rfl];exact h.b5,by rw[hg _ rfl];exact h.b6,by rw[hg _ rfl];exact h.b7,by rw[hg _ rfl];exact h.b8,h.oA.fr (hg _ rfl),h.oK.fr (hg _ rfl),hn⟩
def x2og:List AV:=[.ptr (0,14,6) 0 0,.ptr (0,0,2) 0 0,.ptr (0,19,7) 0 0,.ptr (0,13,5) 0 0,.ptr (0,1,3) 0 0,.ptr (0,21,8) 0 0]
def Fr1(m m':Mem):Prop:=∀j:Id,1<=j.1->j.1<m.next->m'.get j=m.get j
theorem c_spread(d:Nat){s p f v:AV}{l:List Scene}{P:List Pq}{F ph:List Int}(hs:Sl Scene.c s l)(hp:Sl Pq.c p P)(hf:Ints f ph)(hv:Ints v F)(hl:l.length<=60)(hP:∀p∈P,PqIn l.length p)(hF:For l.length P F)(hph:ph.length=P.length){φ:Int->Int}(hpot:Pot l.length P F (fun i=>at0 ph i.toNat) φ){M:Nat}(hM:∀i∈F,(at0 ph i.toNat).natAbs<=M)(hMb:M<=10000000000):∀(k:Nat) (hh:FHs) (a:Int) (m:Mem) (O:List Int) (K:List Bool),SM s p f v l.length O K m->DS l.length φ O K->(0<=a/\a<l.length)->boA K a=false->at0 O a.toNat=φ a->Un l.length O K a->unk K<=k ->
 ∃m' O' K',x2i6 (d+3+k) hh x1k (I a::x2og) m=some (.tup [],m')/\SM s p f v l.length O' K' m'/\DS l.length φ O' K'/\Un l.length O' K' a/\Sub l.length K K'/\Clo P F K K'/\boA K' a=true/\m.next<=m'.next/\Fr1 m m':=by
 have hFl:=hF.len hP
 intro k
 induction k with
 |zero=>
  intro hh a m O K hS hD ha hka _ _ hu
  have h1:=x2tz (K:=K) (k:=a.toNat) (by rw[hD.lk];omega) hka
  omega
 |succ k ih=>
  intro hh a m O K hS hD ha hka hoa hun hu
  suffices main:∀Q:O2->Prop,(∀m' O' K',SM s p f v l.length O' K' m'->DS l.length φ O' K'->Un l.length O' K' a->Sub l.length K K'->Clo P F K K'->boA K' a=true->m.next<=m'.next->Fr1 m m'->Q (some (.tup [],m')))->Q (x2i6 (d+3+(k+1)) hh x1k (I a::x2og) m)from
   main (fun r=>∃m' O' K',r=some (.tup [],m')/\SM s p f v l.length O' K' m'/\DS l.length φ O' K'/\Un l.length O' K' a/\Sub l.length K K'/\Clo P F K K'/\boA K' a=true/\m.next<=m'.next/\Fr1 m m') fun m' O' K' h1 h2 h3 h4 h5 h6 h7 h8=>⟨m',O',K',rfl,h1,h2,h3,h4,h5,h6,h7,h8⟩
  intro Q hQ
  rw[show d+3+(k+1)=(d+3+k)+1 by omega,x1ey]
  unfold x2og xi3 xl7
  generalize hU:m.next=u
  have hu1:1<=u:=by rw[<-hU];exact hS.nx
  simp only[x2ri,x2ta,List.all_cons,List.all_nil,one_I,Bool.and_self,x2jf]
  generalize hm1:Mem.new _ _ _=m1
  have g7:m1.get (u,0,7)=some (.row [I a] 0 false):=by rw[<-hm1];simp
  have hS1:SM s p f v l.length O K m1:=hS.fr (by rw[<-hm1];show 1<=u+1;omega) fun j hj=>by
   rw[<-hm1,Mem.get_new,if_neg (by rintro rfl;simp only at hj;omega)];rfl
  have hm1n:m1.next=u+1:=by rw[<-hm1];rfl
  have hm1f:Fr1 m m1:=fun j h1 h2=>by rw[<-hm1,Mem.get_new,if_neg (by rintro rfl;rw[hU]at h2;exact Nat.lt_irrefl _ h2)];rfl
  have ixK:sIx 1 (.sref idK 0 0 l.length 1 true) (I a)=some (.ptr idK 0 a.toNat):=x2ln ha.1 ha.2
  obtain⟨st1,st2⟩:=hS1.oK.st1 (g:=B) (fun _=>rfl) (k:=a) ha.1 (by rw[hD.lk];exact ha.2) (x:=true) rfl rfl
  simp only[x2jm,hS1.b6,g7,x2kd,Nat.beq_refl,x2jf,List.drop_zero,rd_f,x2ig,ixK,st1]
  generalize hm2:Mem.set _ _ _=m2 at st2
  obtain⟨K1,hK1⟩:∃K1,K1=K.set a.toNat true:=⟨_,rfl⟩
  rw[<-hK1]at st2
  have hm2g:∀j:Id,j≠idK->m2.get j=m1.get j:=fun j hj=>by rw[<-hm2,Mem.get_set,if_neg hj]
  have hS2:SM s p f v l.length O K1 m2:=⟨by rw[hm2g _ (by simp[idK])];exact hS1.b2,by rw[hm2g _ (by simp[idK])];exact hS1.b3,by rw[hm2g _ (by simp[idK])];exact hS1.b5,by rw[hm2g _ (by simp[idK])];exact hS1.b6,by rw[hm2g _ (by simp[idK])];exact hS1.b7,by rw[hm2g _ (by simp[idK])];exact hS1.b8,
   hS1.oA.fr (hm2g _ (by simp[idK,idA])),st2,by rw[<-hm2];exact hS1.nx⟩
  have hm2n:m2.next=u+1:=by rw[<-hm2];exact hm1n
  have g7':m2.get (u,0,7)=some (.row [I a] 0 false):=by rw[hm2g _ (by unfold idK;simp only[ne_eq,Prod.mk.injEq,not_and];omega)];exact g7
  have hkb:∀w:Int,0<=w->boA K1 w=if w=a then true else boA K w:=fun w hw=>by rw[hK1,x2of ha.1 (by rw[hD.lk];exact ha.2) hw]
  have hu2:=x2tz (K:=K) (k:=a.toNat) (by rw[hD.lk];omega) hka
  rw[<-hK1]at hu2
  have hD1:DS l.length φ O K1:=⟨hD.lo,by rw[hK1];simp[hD.lk],fun w w0 w1 hw=>by
   rw[hkb w w0]at hw
   by_cases c:w=a
   .rw[c];exact hoa
   .rw[if_neg c]at hw;exact hD.kn w w0 w1 hw⟩
  have hUn1:Un l.length O K1 a:=fun w w0 w1 hne hw=>by
   rw[hkb w w0,if_neg hne]at hw
   exact hun w w0 w1 hne hw
  have hsub1:Sub l.length K K1:=fun w w0 w1 hw=>by
   rw[hkb w w0];split
   .rfl
   .exact hw
  have hfrom:=w_from (d+2+k) hs hp hv a m2
  rw[show d+2+k+1=d+3+k by omega]at hfrom
  simp[g7',hS2.b2,hS2.b7,hfrom]
  unfold xfd
  simp only[sRng]
  generalize hH:(fun(args:List AV) (m:Mem)=>bif Nat.beq args.length 2&&true then xfc (x2i6 (d+3+k)) hh m.next (.ptr (0,14,6) 0 0) (.ptr (0,13,5) 0 0) (.ptr (0,1,3) 0 0) (.ptr (0,21,8) 0 0) (.ptr (u,0,7) 0 0) (args.getD 0 U) (args.getD 1 U) ⟨m.hp,m.next+1⟩ 0 else none)=H
  obtain⟨m3,hc,hI⟩:=c_from (d:=d+1+k) (hh:=((u,9,0),H)::hh) (id:=(u,9,0)) (h:=H) hs hp hv (by omega) hF.rng (by simp[x2ng]) a (m0:=m2)
   (fun pre m=>∃O' K',SM s p f v l.length O' K' m/\DS l.length φ O' K'/\Un l.length O' K' a/\Sub l.length K1 K'/\Clo P F K1 K'/\(∀x∈pre,InF F x/\(frS P x=a->boA K' (toS P x)=true))/\u+1<m.next/\(∀j:Id,1<=j.1->j.1<u+1->m.get j=m2.get j))
   (fun pre m m' ⟨O',K',h1,h2,h3,h4,h5,h6,h7,h8⟩ hn hg=>⟨O',K',h1.fr (by omega) (fun j hj=>hg j (by omega)),h2,h3,h4,h5,h6,by omega,fun j j1 j2=>by rw[hg j (by omega)];exact h8 j j1 j2⟩)
   (fun pre x m hx hfx ⟨O',K',h1,h2,h3,h4,h5,h6,h7,h8⟩=>by
    suffices step:∀Q2:Option Mem->Prop,(∀mm O2 K2,SM s p f v l.length O2 K2 mm->DS l.length φ O2 K2->Un l.length O2 K2 a->Sub l.length K1 K2->Clo P F K1 K2->(∀y∈pre++[x],InF F y/\(frS P y=a->boA K2 (toS P y)=true))->u+1<mm.next->(∀j:Id,1<=j.1->j.1<u+1->mm.get j=m2.get j)->Q2 (some mm))->Q2 (H [.agg [I x.p,I x.s],I (toS P x)] m)from
     step (fun r=>∃mm,r=some mm/\∃O2 K2,SM s p f v l.length O2 K2 mm/\DS l.length φ O2 K2/\Un l.length O2 K2 a/\Sub l.length K1 K2/\Clo P F K1 K2/\(∀y∈pre++[x],InF F y/\(frS P y=a->boA K2 (toS P y)=true))/\u+1<mm.next/\(∀j:Id,1<=j.1->j.1<u+1->mm.get j=m2.get j)) fun mm O2 K2 a1 a2 a3 a4 a5 a6 a7 a8=>⟨mm,rfl,O2,K2,a1,a2,a3,a4,a5,a6,a7,a8⟩
    intro Q2 hQ2
    obtain⟨-,t0,t1⟩:=x2kq hP hF.rng hx
    have hpx:=hF.rng x.p hx.1
    rw[<-hH]
    simp only[List.length_cons,List.length_nil,Nat.zero_add,Nat.reduceAdd,Nat.beq_refl,Bool.and_true,x2jf,List.getD_cons_zero,List.getD_cons_succ]
    unfold xfc xfb
    generalize hU3:m.next=u3 at *
    simp only[x2s0]
    simp
    generalize hm4:Mem.set _ _ _=m4
    have hm4g:∀j:Id,¬j.1=u3->m4.get j=m.get j:=fun j hj=>by
     rw[<-hm4,Mem.get_set,if_neg (by rintro rfl;exact hj rfl),Mem.get_new,if_neg (by rintro rfl;exact hj rfl)];rfl
    have q8:m4.get (u3,0,8)=some (.row [I x.p,I x.s] 0 false):=by rw[<-hm4];simp
    have hm4n:m4.next=u3+1:=by rw[<-hm4];rfl
    have hS4:SM s p f v l.length O' K' m4:=h1.fr (by omega) fun j hj=>hm4g j (by omega)
    have q7:m4.get (u,0,7)=some (.row [I a] 0 false):=by rw[hm4g _ (by simp only;omega),h8 _ (by simp only;omega) (by simp only;omega)];exact g7'
    have ixT:sIx 1 (.sref idK 0 0 l.length 1 true) (I (toS P x))=some (.ptr idK 0 (toS P x).toNat):=x2ln t0 t1
    have ldT:=hS4.oK.ldB (k:=toS P x) t0 (by rw[h2.lk];exact t1)
    have ldT':sLd false 1 (.ptr idK 0 (toS P x).toNat) m4=some (B (boA K' (toS P x))):=ldT
    have hb:∀i,({hp:=m.hp,next:=u3+1}:Mem).get i=m.get i:=fun _=>rfl
    have q7m:m.get (u,0,7)=some (.row [I a] 0 false):=by rw[h8 _ (by simp only;omega) (by simp only;omega)];exact g7'
    have ixA:sIx 1 (.sref idA 0 0 l.length 1 true) (I a)=some (.ptr idA 0 a.toNat):=x2ln ha.1 ha.2
    have ixA2:sIx 1 (.sref idA 0 0 l.length 1 true) (I (toS P x))=some (.ptr idA 0 (toS P x).toNat):=x2ln t0 t1
    have ldA:=hS4.oA.ldI (k:=a) ha.1 (by rw[h2.lo];exact ha.2)
    have hKa:boA K' a=true:=h4 a ha.1 ha.2 (by rw[hkb a ha.1,if_pos rfl])
    have hOa:at0 O' a.toNat=φ a:=h2.kn a ha.1 ha.2 hKa
    rw[hOa]at ldA
    have ixP:=hf.ixI x2im (k:=x.p) hpx.1 (by rw[hph];exact hpx.2)
    have ldP:=x2j0 (m:=m4) (l:=ph) (k:=x.p.toNat) (by omega)
    cases hkt:boA K' (toS P x)with
    |true=>
     rw[hkt]at ldT'
     simp[hb,h1.b6,ixT,ldT']
     exact hQ2 m4 O' K' hS4 h2 h3 h4 h5 (fun y hy=>by
      rcases List.mem_append.mp hy with hy|hy
      .exact h6 y hy
      .simp at hy;subst hy;exact⟨hx,fun _=>hkt⟩) (by omega) (fun j j1 j2=>by rw[hm4g j (by omega)];exact h8 j j1 j2)
    |false=>
     rw[hkt]at ldT'
     have hstep:=hpot.st.step hx
     rw[hfx]at hstep
     have ba:=Pot.abs hP hF hpot hM (v:=a.toNat) (by omega)
     have bt:=Pot.abs hP hF hpot hM (v:=(toS P x).toNat) (by omega)
     rw[Int.toNat_of_nonneg ha.1]at ba
     rw[Int.toNat_of_nonneg t0]at bt
     have hnM:l.length*M<=60*10000000000:=Nat.mul_le_mul hl hMb
     obtain⟨st1,st2⟩:=hS4.oA.st1 (g:=I) (fun _=>rfl) (k:=toS P x) t0 (by rw[h2.lo];exact t1) (x:=φ (toS P x)) rfl rfl
     simp[-x2ll,hb,h1.b6,h1.b5,h1.b3,q7m,ixT,ldT',ixA,ixA2,ldA,ixP,ldP]
     have hw1:w64 (φ (toS P x)-φ a)=φ (toS P x)-φ a:=x2ic (by omega) (by omega)
     rw[hstep,hw1,x2ic (by omega) (by omega),show φ a+(φ (toS P x)-φ a)=φ (toS P x) by omega]
     simp only[st1]
     generalize hm5:Mem.set m4 _ _=m5 at st2 ⊢
     have hm5g:∀j:Id,j≠idA->m5.get j=m4.get j:=fun j hj=>by rw[<-hm5,Mem.get_set,if_neg hj]
     have hm5n:m5.next=u3+1:=by rw[<-hm5];exact hm4n
     have hS5:SM s p f v l.length (O'.set (toS P x).toNat (φ (toS P x))) K' m5:=⟨by rw[hm5g _ (by simp[idA])];exact hS4.b2,by rw[hm5g _ (by simp[idA])];exact hS4.b3,by rw[hm5g _ (by simp[idA])];exact hS4.b5,by rw[hm5g _ (by simp[idA])];exact hS4.b6,by rw[hm5g _ (by simp[idA])];exact hS4.b7,by rw[hm5g _ (by simp[idA])];exact hS4.b8,st2,hS4.oK.fr (hm5g _ (by simp[idK,idA])),by omega⟩
     have hog:∀w:Int,0<=w->at0 (O'.set (toS P x).toNat (φ (toS P x))) w.toNat=if w=toS P x then φ (toS P x)else at0 O' w.toNat:=fun w hw=>at0_setI t0 (by rw[h2.lo];exact t1) hw
     have hD5:DS l.length φ (O'.set (toS P x).toNat (φ (toS P x))) K':=⟨by simp[h2.lo],h2.lk,fun w w0 w1 hw=>by
      rw[hog w w0];split
      .rename_i e;rw[e]
      .exact h2.kn w w0 w1 hw⟩
     have hU5:Un l.length (O'.set (toS P x).toNat (φ (toS P x))) K' (toS P x):=fun w w0 w1 hne hw=>by
      rw[hog w w0,if_neg hne]
      refine h3 w w0 w1 ?_ hw
      rintro rfl
      rw[hKa]at hw;cases hw
     have hsu:=h4.unk (by rw[hK1];simp[hD.lk]) h2.lk
     obtain⟨m6,O6,K6,e1,e2,e3,e4,e5,e6,e7,e8,e9⟩:=ih hh (toS P x) m5 _ K' hS5 hD5 ⟨t0,t1⟩ hkt (by rw[hog _ t0,if_pos rfl]) hU5 (by omega)
     have hinv:x2jj (x2i6 (d+3+k)) hh 2 (.clo x1k x2og) [I (toS P x)] m5=some (.tup [],m6):=e1
     unfold x2og at hinv
     simp[hS5.b8,hinv]
     refine hQ2 m6 O6 K6 e2 e3 (fun w w0 w1 hne hw=>?_) (fun w w0 w1 hw=>e5 w w0 w1 (h4 w w0 w1 hw)) (h5.trans hP hF.rng e6 e5) (fun y hy=>?_) (by omega) (fun j j1 j2=>?_)
     .by_cases c:w=toS P x
      .rw[c,e7]at hw;cases hw
      .exact e4 w w0 w1 c hw
     .rcases List.mem_append.mp hy with hy|hy
      .obtain⟨y1,y2⟩:=h6 y hy
       exact⟨y1,fun hfy=>e5 _ (x2kq hP hF.rng y1).2.1 (x2kq hP hF.rng y1).2.2 (y2 hfy)⟩
      .simp at hy;subst hy;exact⟨hx,fun _=>e7⟩
     .rw[e9 j j1 (by omega),hm5g j (by unfold idA;rintro rfl;simp at j1),hm4g j (by omega)]
      exact h8 j j1 j2)
   (fun pre x m hx hfx ⟨O',K',h1,h2,h3,h4,h5,h6,h7,h8⟩=>⟨O',K',h1,h2,h3,h4,h5,fun y hy=>by
    rcases List.mem_append.mp hy with hy|hy
    .exact h6 y hy
    .simp at hy;subst hy;exact⟨hx,fun hfy=>absurd hfy hfx⟩,h7,h8⟩)
   (fun m hn hg=>⟨O,K1,hS2.fr (by omega) (fun j _=>hg j),hD1,hUn1,fun _ _ _ h=>h,Clo.refl,(fun x hx=>by cases hx),by omega,fun j _ _=>hg j⟩)
  obtain⟨O',K',h1,h2,h3,h4,h5,h6,h7,h8⟩:=hI
  rw[show d+1+k+2=d+3+k by omega]at hc
  simp only[hc,x2ig]
  refine hQ m3 O' K' h1 h2 h3 (fun w w0 w1 hw=>h4 w w0 w1 (hsub1 w w0 w1 hw)) (fun x hx x0 x1=>?_) (h4 a ha.1 ha.2 (by rw[hkb a ha.1,if_pos rfl])) (by omega) (fun j j1 j2=>?_)
  .by_cases c:frS P x=a
   .exact(h6 x (mem_stepsOf.mpr hx)).2 c
   .exact h5 x hx (by rw[hkb _ (x2kq hP hF.rng hx).1.1,if_neg c];exact x0) x1
  .rw[h8 j j1 (by omega),hm2g j (by unfold idK;rintro rfl;simp at j1),hm1f j j1 j2]
def phI(ph:List Int)(i:Int):Int:=at0 ph i.toNat
theorem z_func1:∃c,xkb=[c]:=by
 have:xkb.length=1:=by kernel_rfl
 exact List.length_eq_one_iff.mp this
theorem z_sli:x4t=[nilS]:=by kernel_rfl
theorem z_slb:xth=[nilS]:=by kernel_rfl
theorem a_sums(d:Nat){s p f:AV}{l:List Scene}{P:List Pq}{ph:List Int}(hs:Sl Scene.c s l)(hp:Sl Pq.c p P)(hf:Ints f ph)(hR:Right7 l P)(hl:l.length<=8)(hPl:P.length<=14)(hph:ph.length=P.length){M:Nat}(hM:∀k,k<ph.length->(at0 ph k).natAbs<=M)(hMb:M<=10000000000) :
 RetF (fun v=>Ints v (phiL l.length (potM l.length P (x2jb (fW l P) l.length P) (phI ph)))) (x2i6 (d+12) [] x3n [.agg [s,p],f] mem0):=by
 have hP:=hR.pr
 obtain⟨F,hFe⟩:∃F,F=x2jb (fW l P) l.length P:=⟨_,rfl⟩
 have hF:For l.length P F:=by rw[hFe];exact x2oe hP _
 have hpot:=x2qs hP (phI ph) hF
 rw[<-hFe]
 generalize potM l.length P F (phI ph)=φ at *
 rw[x1e9]
 unfold xhe xka
 obtain⟨zc,hzc⟩:=z_func1
 simp[mem0,hs.one,hp.one,hf.one,hf.cells,hs.len x2jk,mkSl_i (n:=l.length) (by omega),mkSl_b (n:=l.length) (by omega),z_sli,z_slb,tR,tS,x2i9,disj]
 generalize hm1:Mem.set _ (0,14,6) _=m1
 have i2:m1.get (0,0,2)=some (.row [s,p] 0 false):=by rw[<-hm1];simp
 have i3:m1.get (0,1,3)=some (.row [f] 0 false):=by rw[<-hm1];simp
 have i5:m1.get (0,13,5)=some (.row [.sref idA 0 0 l.length 1 true] 0 false):=by rw[<-hm1];simp[idA]
 have i6:m1.get (0,14,6)=some (.row [.sref idK 0 0 l.length 1 true] 0 false):=by rw[<-hm1];simp[idK]
 have iA:Ow intE m1 idA (List.replicate l.length 0):=by unfold Ow;rw[<-hm1];simp[idA]
 have iK:Ow bE m1 idK (List.replicate l.length false):=by unfold Ow;rw[<-hm1];simp[idK]
 have in1:m1.next=1:=by rw[<-hm1];rfl
 obtain⟨v,hv,hw⟩:=x2zk (d+4) hs hp hR hl hPl m1
 rw[<-hFe]at hv
 have hcl:∀(g:FuncId) (c:List AV),(AV.clo g c).cells=[AV.clo g c]:=fun _ _=>rfl
 have hco:∀(g:FuncId) (c:List AV),(AV.clo g c).one=true:=fun _ _=>rfl
 simp[hw,hv.cells,hv.one,hzc,hcl,hco]
 generalize hm2:Mem.set _ (0,21,8) _=m2
 have hmg:∀j:Id,j≠(0,19,7)->j≠(0,21,8)->m2.get j=m1.get j:=fun j h1 h2=>by rw[<-hm2,Mem.get_set,if_neg h2,Mem.get_new,if_neg h2,Mem.get_set,if_neg h1,Mem.get_new,if_neg h1]
 have hS:SM s p f v l.length (List.replicate l.length 0) (List.replicate l.length false) m2:=⟨by rw[hmg _ (by simp) (by simp)];exact i2,by rw[hmg _ (by simp) (by simp)];exact i3,by rw[hmg _ (by simp) (by simp)];exact i5,by rw[hmg _ (by simp) (by simp)];exact i6,by rw[<-hm2];simp,by rw[<-hm2];simp,
  iA.fr (hmg _ (by simp[idA]) (by simp[idA])),iK.fr (hmg _ (by simp[idK]) (by simp[idK])),by rw[<-hm2];show 1<=m1.next;omega⟩
 have hrep:∀v:Int,boA (List.replicate l.length false) v=false:=fun v=>by
  unfold boA
  rw[List.getD_eq_getElem?_getD,List.getElem?_replicate]
  split<;>rfl
 have hrep0:∀v:Nat,at0 (List.replicate l.length 0) v=0:=fun v=>by
  unfold at0
  rw[List.getD_eq_getElem?_getD,List.getElem?_replicate]
  split<;>rfl
 unfold xe6
 simp[hS.b5]
 rw[show sLen Tryz.prog x2 (.sref idA 0 0 l.length 1 true)=some (I l.length)from rfl]
 simp only[x2ig]
 refine x2j1 (N:=l.length) (σ:=Unit) (fun n k _ m fc=>x4s (x2i6 (d+11)) [] 0 n (.ptr (0,13,5) 0 0) (.ptr (0,14,6) 0 0) (.ptr (0,21,8) 0 0) (I l.length) (I k) m fc)
  (fun k _ m=>∃O K,SM s p f v l.length O K m/\DS l.length φ O K/\Un l.length O K (-1)/\Cls P F K/\∀j:Nat,j<k->boA K j=true) _ ?_ ?_ NN 0 () m2 _ (by omega) (by rw[x2in];omega)
  ⟨_,_,hS,⟨by simp,by simp,fun v _ _ h=>by rw[hrep]at h;cases h⟩,fun v _ _ _ _=>hrep0 _,(show Cls P F _ from fun x _ h=>by rw[hrep]at h;cases h),fun j h=>by omega⟩
 .rintro n k-m fc hk ⟨O,K,hS,hD,hU,hC,hB⟩ next
  have hk':(k:Int)<(l.length:Int):=by omega
  have ixK:sIx 1 (.sref idK 0 0 l.length 1 true) (I (k:Int))=some (.ptr idK 0 (k:Int).toNat):=x2ln (by omega) hk'
  have ldK:=hS.oK.ldB (k:=(k:Int)) (by omega) (by rw[hD.lk];exact hk')
  have ldK':sLd false 1 (.ptr idK 0 (k:Int).toNat) m=some (B (boA K k)):=ldK
  simp only[x4s]
  unfold xe5 xe4
  simp only[x2iv,hk',decide_true,x2iw,x2ig,x2jm,hS.b6,x2kd,Nat.beq_refl,x2jf,List.drop_zero,rd_f,ixK]
  rw[<-x2jm,ldK']
  cases hkk:boA K k with
  |true=>
   unfold x7w
   simp(disch:=omega) [x2ic]
   refine next () m _ ⟨O,K,hS,hD,hU,hC,fun j hj=>?_⟩
   by_cases c:j=k
   .rw[c];exact hkk
   .exact hB j (by omega)
  |false=>
   have hz:=hpot.z k hk (root_of hP hF hC hk hB hkk)
   obtain⟨m3,O3,K3,e1,e2,e3,e4,e5,e6,e7,e8,e9⟩:=c_spread d hs hp hf hv hR.ll hP hF hph hpot (M:=M) (fun i hi=>hM _ (by have:=hF.rng i hi;omega)) hMb 8 [] (k:Int) m O K hS hD ⟨by omega,hk'⟩ hkk (by rw[hU _ (by omega) hk' (by omega) hkk,hz]) (fun w w0 w1 hne hw=>hU w w0 w1 (by omega) hw) (by
    have h1:unk K<=K.length:=List.length_filter_le _ _
    rw[hD.lk]at h1
    omega)
   have hinv:x2jj (x2i6 (d+11)) [] 2 (.clo x1k x2og) [I (k:Int)] m=some (.tup [],m3):=e1
   unfold x2og at hinv
   simp only[sNot_B,Bool.not_false,x2ig,x2iw,x2jm,hS.b8,x2kd,Nat.beq_refl,x2jf,List.drop_zero,rd_f,hinv]
   unfold x7w
   simp(disch:=omega) [x2ic]
   refine next () m3 _ ⟨O3,K3,e2,e3,fun w w0 w1 hne hw=>?_,hC.grow hP hF.rng e6 e5,fun j hj=>?_⟩
   .by_cases c:w=(k:Int)
    .rw[c,e7]at hw;cases hw
    .exact e4 w w0 w1 c hw
   .by_cases c:j=k
    .rw[c];exact e7
    .exact e5 _ (by omega) (by omega) (hB j (by omega))
 .rintro n-m fc ⟨O,K,hS,hD,hU,hC,hB⟩
  have:=hD.all hB
  subst this
  simp only[x4s]
  unfold xe5 x1s
  simp[hS.b5]
  have hoA:=hS.oA
  unfold Ow at hoA
  have h1:=x2nm (k:=4) x2im x2l8 (x:=true) (l:=phiL l.length φ) hoA
  have h2:Ints (.slit ((phiL l.length φ).flatMap intE) (phiL l.length φ).length false) (phiL l.length φ):=Sl.lit _ false
  rw[x2kz]at h1 h2
  exact RetF.mk h1 h2
theorem w_sums(d:Nat){s p f:AV}{l:List Scene}{P:List Pq}{ph:List Int}(hs:Sl Scene.c s l)(hp:Sl Pq.c p P)(hf:Ints f ph)(hR:Right7 l P)(hl:l.length<=8)(hPl:P.length<=14)(hph:ph.length=P.length){M:Nat}(hM:∀k,k<ph.length->(at0 ph k).natAbs<=M)(hMb:M<=10000000000)(m:Mem) :
 ∃v,Ints v (phiL l.length (potM l.length P (x2jb (fW l P) l.length P) (phI ph)))/\x2i8 (x2i6 (d+12)) x3n [.agg [s,p],f] m=some (v,m):=
 x2k6 (by simp[hs.still1,hp.still1,hf.still]) (a_sums d hs hp hf hR hl hPl hph hM hMb) m
noncomputable def potL(l:List Scene)(P:List Pq)(ph:List Int):Int->Int:=potM l.length P (x2jb (fW l P) l.length P) (phI ph)
noncomputable def x2ie(l:List Scene)(P:List Pq)(ph:List Int):List Int:=(List.range P.length).map fun(k:Nat)=>at0 ph k-potL l P ph (prAt P k).b+potL l P ph (prAt P k).a
theorem x2lo(l:List Scene)(P:List Pq)(ph:List Int):(x2ie l P ph).length=P.length:=by simp[x2ie]
theorem x2s2{l:List Scene}{P:List Pq}{ph:List Int}{k:Nat}(h:k<P.length):at0 (x2ie l P ph) k=at0 ph k-potL l P ph (prAt P k).b+potL l P ph (prAt P k).a:=by
 rw[x2io (by rw[x2lo];exact h)]
 simp[x2ie]
theorem x2x3{l:List Scene}{P:List Pq}{ph:List Int}{k:Nat}(h:k<P.length):(x2ie l P ph).take (k+1)=(x2ie l P ph).take k++[at0 ph k-potL l P ph (prAt P k).b+potL l P ph (prAt P k).a]:=by
 rw[List.take_succ_eq_append_getElem (by rw[x2lo];exact h),<-x2io,x2s2 h]
theorem x2po{l:List Scene}{P:List Pq}{ph:List Int}(hR:Right7 l P)(hph:ph.length=P.length){M:Nat}(hM:∀k,k<ph.length->(at0 ph k).natAbs<=M){v:Int}(h0:0<=v)(h1:v<l.length):(potL l P ph v).natAbs<=l.length*M:=by
 have hF:=x2oe (P:=P) (n:=l.length) hR.pr (fW l P)
 have:=Pot.abs hR.pr hF (x2qs hR.pr (phI ph) hF) (M:=M) (fun i hi=>hM _ (by have:=hF.rng i hi;omega)) (v:=v.toNat) (by omega)
 rw[Int.toNat_of_nonneg h0]at this
 exact this
theorem x2m3{P:List Pq}{k:Nat}(h:k<P.length):prAt P (k:Int)=P[k]:=x2nq (by simpa using h)
theorem x2x4(d:Nat){s p f:AV}{l:List Scene}{P:List Pq}{ph:List Int}(hs:Sl Scene.c s l)(hp:Sl Pq.c p P)(hf:Ints f ph)(hR:Right7 l P)(hl:l.length<=8)(hPl:P.length<=14)(hph:ph.length=P.length){M:Nat}(hM:∀k,k<ph.length->(at0 ph k).natAbs<=M)(hMb:M<=10000000000) :
 RetF (fun v=>Ints v (x2ie l P ph)) (x2i6 (d+13) [] x1y [.agg [s,p],f] mem0):=by
 rw[x1e8]
 unfold xhd xk9
 have hw:=w_sums d hs hp hf hR hl hPl hph hM hMb ((⟨[],1⟩:Mem).new (0,0,2) (.row [s,p] 0 false))
 obtain⟨v,hv,hw⟩:=hw
 have hnM:l.length*M<=8*10000000000:=Nat.mul_le_mul hl hMb
 simp[mem0,hs.one,hp.one,hw]
 unfold xe3
 simp[hp.len x2jn]
 refine x2j1 (N:=P.length) (fun n k a m fc=>x4r (x2i6 (d+12)) [] 0 n f v a p (I P.length) (I k) m fc)
  (fun k a m=>Gr 1 intE 0 39 m a ((x2ie l P ph).take k)) _ ?_ ?_ NN 0 nilS _ _ (by omega) (by rw[x2in];omega) (by simpa using Gr.nil)
 .rintro n k a m fc hk hG next
  have hk':(k:Int)<(P.length:Int):=by omega
  have ip:=hp.ix Pq.len hk
  have lp:=fun m=>x2jr (m:=m) (enc:=Pq.c) Pq.len (by omega) hk
  have ixf:=hf.ix x2im (show k<ph.length by omega)
  have ldf:=fun m=>x2j0 (m:=m) (show k<ph.length by omega)
  have hsn:=x2x3 (l:=l) (P:=P) (ph:=ph) hk
  obtain⟨q0,q1,q2⟩:=hR.pr P[k] (List.getElem_mem hk)
  rw[x2m3 hk]at hsn
  generalize P[k]=q at *
  have ia:=hv.ixI x2im (k:=q.a) q0 (by rw[x2kz];omega)
  have ib:=hv.ixI x2im (k:=q.b) (by omega) (by rw[x2kz];omega)
  have la:=fun m=>x2j0 (m:=m) (l:=phiL l.length (potL l P ph)) (k:=q.a.toNat) (by rw[x2kz];omega)
  have lb:=fun m=>x2j0 (m:=m) (l:=phiL l.length (potL l P ph)) (k:=q.b.toNat) (by rw[x2kz];omega)
  rw[x2s1 q0 (by omega)]at la
  rw[x2s1 (by omega) q2]at lb
  have ba:=x2po hR hph hM (v:=q.a) q0 (by omega)
  have bb:=x2po hR hph hM (v:=q.b) (by omega) q2
  have bp:=hM k (by omega)
  unfold potL at *
  simp only[Pq.c]at lp
  simp only[x4r]
  unfold xe2
  simp[hk',ip,lp,x2l9]
  generalize hm1:Mem.set _ _ _=m1
  have g8:m1.get (0,fc+4,8)=some (.row [I q.a,I q.b] 0 false):=by rw[<-hm1];simp
  have hG1:Gr 1 intE 0 39 m1 a ((x2ie l P ph).take k):=hG.frame fun s=>by rw[<-hm1];simp
  obtain⟨a2,m2,e1,e2,e3,-⟩:=hG1.app (s0:=fc+25) (bytes:=8) x2im (by omega) (by unfold x2ik;simp[x2lo];omega) (at0 ph k-potM l.length P (x2jb (fW l P) l.length P) (phI ph) q.b+potM l.length P (x2jb (fW l P) l.length P) (phI ph) q.a)
  simp[g8,ixf,ldf,ia,ib,la,lb,x2jy]
  have hw1:w64 (at0 ph k-potM l.length P (x2jb (fW l P) l.length P) (phI ph) q.b)=at0 ph k-potM l.length P (x2jb (fW l P) l.length P) (phI ph) q.b:=x2ic (by omega) (by omega)
  rw[hw1,x2ic (by omega) (by omega),x2ic (by omega) (by omega)]
  rw[show ∀x:Int,elems m1.get 1 (.slit [I x] 1 true)=some (intE x,1)from fun _=>rfl,e1]
  exact next a2 m2 _ (by rw[hsn];exact e2)
 .rintro n a m fc hG
  rw[List.take_of_length_le (by rw[x2lo];exact Nat.le_refl _)]at hG
  simp only[x4r]
  unfold xe2 x4q
  simp
  obtain⟨a',h1,h2⟩:=hG.frzk (k:=4) x2im x2l8
  exact RetF.mk h2 h1
theorem w_misses(d:Nat){s p f:AV}{l:List Scene}{P:List Pq}{ph:List Int}(hs:Sl Scene.c s l)(hp:Sl Pq.c p P)(hf:Ints f ph)(hR:Right7 l P)(hl:l.length<=8)(hPl:P.length<=14)(hph:ph.length=P.length){M:Nat}(hM:∀k,k<ph.length->(at0 ph k).natAbs<=M)(hMb:M<=10000000000)(m:Mem) :
 ∃v,Ints v (x2ie l P ph)/\x2i8 (x2i6 (d+13)) x1y [.agg [s,p],f] m=some (v,m):=
 x2k6 (by simp[hs.still1,hp.still1,hf.still]) (x2x4 d hs hp hf hR hl hPl hph hM hMb) m
theorem sumW_snoc(ph:Int->Int){w:List Sp}{k:Nat}(hk:k<w.length):sumW ph (w.take (k+1))=sumW ph (w.take k)+w[k].s*ph w[k].p:=by
 rw[List.take_succ_eq_append_getElem hk,x2ww]
 simp[sumW]
def StOK7(N:Nat)(w:List Sp):Prop:=∀x∈w,(0<=x.p/\x.p<N)/\(x.s=1\/x.s=-1)
theorem StOK7.abs{ph:List Int}{M:Nat}(hM:∀k,k<ph.length->(at0 ph k).natAbs<=M):∀{w:List Sp},StOK7 ph.length w->(sumW (phI ph) w).natAbs<=w.length*M
 |[],_=>by simp[sumW]
 |x::r,h=>by
  have ih:=StOK7.abs hM (w:=r) fun y hy=>h y (List.mem_cons_of_mem _ hy)
  obtain⟨h1,h2⟩:=h x (List.mem_cons_self ..)
  have h3:=hM x.p.toNat (by omega)
  have h4:(x.s*phI ph x.p).natAbs=(at0 ph x.p.toNat).natAbs:=by
   unfold phI
   rcases h2 with e|e<;>rw[e]<;>simp
  rw[sumW,List.length_cons,Nat.succ_mul]
  omega
theorem w_rSum(d:Nat){f c:AV}{ph:List Int}{w:List Sp}(hf:Ints f ph)(hc:Sl Sp.c c w)(hw:StOK7 ph.length w)(hwl:w.length<=1000){M:Nat}(hM:∀k,k<ph.length->(at0 ph k).natAbs<=M)(hMb:M<=10000000000)(m:Mem) :
 x2i8 (x2i6 (d+1)) x78 [f,c] m=some (I (sumW (phI ph) w),m):=by
 refine x2ju (by simp[hf.still,hc.still]) ?_ m
 rw[x1e5]
 unfold xha xk6 xe1
 refine x2j1 (N:=w.length) (σ:=Unit) (fun n k _ m fc=>x4p (x2i6 d) [] 0 n f c (I (sumW (phI ph) (w.take k))) (I k) m fc) (fun _ _ _=>True) _ ?_ ?_ NN 0 () _ _ (by omega) (by rw[x2in];omega) trivial
 .rintro n k-m fc hk-next
  have hk':(k:Int)<(w.length:Int):=by omega
  have ix:=hc.ix Sp.len hk
  have l0:=fun m=>x2oc (m:=m) (enc:=Sp.c) hk 0 rfl
  have l1:=fun m=>x2oc (m:=m) (enc:=Sp.c) hk 1 rfl
  simp only[List.drop_zero]at l0
  simp only[List.drop_one]at l1
  have hsn:=sumW_snoc (phI ph) hk
  obtain⟨h1,h2⟩:=hw w[k] (List.getElem_mem hk)
  have ha:(sumW (phI ph) (w.take k)).natAbs<=(w.take k).length*M:=StOK7.abs hM fun y hy=>hw y (List.mem_of_mem_take hy)
  have hb:(w.take k).length*M<=1000*10000000000:=Nat.mul_le_mul (by simp;omega) hMb
  generalize w[k]=x at *
  have ip:=hf.ixI x2im h1.1 h1.2
  have lp:=fun m=>x2j0 (m:=m) (show x.p.toNat<ph.length by omega)
  have h3:=hM x.p.toNat (by omega)
  have h4:(x.s*at0 ph x.p.toNat).natAbs=(at0 ph x.p.toNat).natAbs:=by rcases h2 with e|e<;>rw[e]<;>simp
  simp only[x4p]
  unfold xe0
  simp[hc.len x2x2,hk',ix,l0,l1,ip,lp]
  have hw1:w64 (x.s*at0 ph x.p.toNat)=x.s*at0 ph x.p.toNat:=x2ic (by omega) (by omega)
  rw[hw1,x2ic (by omega) (by omega),x2ic (by omega) (by omega)]
  have:=next () m (fc+24) trivial
  rw[hsn]at this
  exact this
 .rintro n-m fc -
  simp only[x4p]
  unfold xe0 x4o
  simp[hc.len x2x2]
  exact RetF.st rfl rfl
def allM(N:Nat)(but:Int):List Int:=(freshM N).filter fun i=>!decide (i=but)
theorem all_1(N:Nat):allM N (-1)=freshM N:=by
 unfold allM
 rw[List.filter_eq_self]
 intro x hx
 have:=fresh_mem.mp hx
 simp;omega
theorem w_all(d:Nat){s p:AV}{P:List Pq}(hs:s.one=true/\still1 s=true)(hp:Sl Pq.c p P)(hpl:P.length<=1000)(but:Int)(m:Mem):∃a,Ints a (allM P.length but)/\x2i8 (x2i6 (d+1)) x62 [.agg [s,p],I but] m=some (a,m):=by
 refine x2k6 (by simp[hs.2,hp.still1]) ?_ m
 rw[x1eq]
 unfold xhv xky xey
 simp[mem0,hs.1,hp.one]
 refine x2j1 (N:=P.length) (fun n k o m fc=>x54 (x2i6 d) [] 0 n (I but) (.ptr (0,0,2) 0 0) o (I k) m fc)
  (fun k o m=>m.get (0,0,2)=some (.row [s,p] 0 false)/\Gr 1 intE 0 20 m o (((freshM P.length).take k).filter fun i=>!decide (i=but))) _ ?_ ?_ NN 0 nilS _ _ (by omega) (by rw[x2in];omega) ⟨by simp,by simpa using Gr.nil⟩
 .rintro n k o m fc hk ⟨hg,hG⟩ next
  have hk':(k:Int)<(P.length:Int):=by omega
  have hsn:((freshM P.length).take (k+1)).filter (fun i=>!decide (i=but))=((freshM P.length).take k).filter (fun i=>!decide (i=but))++(if(k:Int)=but then[]else[(k:Int)]):=by
   rw[<-x2qq hk,List.filter_append]
   congr 1
   by_cases c:(k:Int)=but<;>simp[List.filter_cons,c]
  have hfl:(((freshM P.length).take k).filter fun i=>!decide (i=but)).length<=P.length:=by
   have h1:=List.length_filter_le (fun i:Int=>!decide (i=but)) ((freshM P.length).take k)
   have h2:((freshM P.length).take k).length<=P.length:=by simp[freshM];omega
   omega
  simp only[x54]
  unfold xex xew
  by_cases c:(k:Int)=but
  .rw[if_pos c,List.append_nil]at hsn
   obtain rfl:but=(k:Int):=c.symm
   simp[hg,hp.len x2jn,hk]
   unfold x7z
   simp(disch:=omega) [x2ic]
   exact next o m _ ⟨hg,by rw[hsn];exact hG⟩
  .rw[if_neg c]at hsn
   obtain⟨o2,m2,e1,e2,e3,e4⟩:=hG.app (s0:=fc+5+6) (bytes:=8) x2im (by omega) (by unfold x2ik;omega) (k:Int)
   simp[hg,hp.len x2jn,hk',c,x2jy]
   rw[show ∀x:Int,elems m.get 1 (.slit [I x] 1 true)=some (intE x,1)from fun _=>rfl,e1]
   unfold x7z
   simp(disch:=omega) [x2ic]
   exact next o2 m2 _ ⟨by rw[e4 _ (by simp)];exact hg,by rw[hsn];exact e2⟩
 .rintro n o m fc ⟨hg,hG⟩
  rw[List.take_of_length_le (by simp[freshM])]at hG
  simp only[x54]
  unfold xex x1u
  simp[hg,hp.len x2jn]
  obtain⟨a',h1,h2⟩:=hG.frzk (k:=4) x2im x2l8
  exact RetF.mk h2 h1
theorem all_rng{l:List Scene}{P:List Pq}(hR:Right7 l P)(but:Int):Rng l.length P (allM P.length but):=fun i hi=>by
 have:=fresh_mem.mp (List.mem_filter.mp hi).1
 exact⟨this,hR.at this⟩
theorem uni_all{n:Nat}{P:List Pq}:uniM n P (allM P.length (-1))=joinsM (freshM n) P:=by
 unfold uniM
 rw[all_1,prs_fresh]
theorem phi_snoc(n:Nat)(φ:Int->Int){k:Nat}(hk:k<n):(phiL n φ).take (k+1)=(phiL n φ).take k++[φ k]:=by
 rw[List.take_succ_eq_append_getElem (by rw[x2kz];exact hk)]
 simp[phiL]
theorem root_way{l:List Scene}{P:List Pq}(hR:Right7 l P){ph:List Int}{k:Nat}(hk:k<l.length):∃w,Wk P w (at0 (joinsM (freshM l.length) P) k) k/\AllF (x2jb (fW l P) l.length P) w/\NB P w/\sumW (phI ph) w=potL l P ph k:=by
 have hF:=x2oe (P:=P) (n:=l.length) hR.pr (fW l P)
 have hT:=x2zf (P:=P) (n:=l.length) hR.pr (fW l P)
 have hL:=(Lab.fresh l.length).joins hR.pr
 obtain⟨l0,l1,l2⟩:=hL.ok k hk
 have hu:=hT.uni hR.pr
 obtain⟨w,hw,hwF⟩:=x2ru hR.pr hF.rng (v:=(at0 (joinsM (freshM l.length) P) k).toNat) (w:=k) (by omega) hk (by rw[hu];unfold Sm;exact l2)
 obtain⟨w2,hw2,hwF2,hN⟩:=nb_of hw hwF
 rw[Int.toNat_of_nonneg l0]at hw2
 have hpot:=x2qs hR.pr (phI ph) hF
 refine⟨w2,hw2,hwF2,hN,?_⟩
 have:=hpot.st.walk hw2 hwF2
 rw[this]
 have hz:=hpot.z (at0 (joinsM (freshM l.length) P) k).toNat (by omega) (by rw[hu,l2];omega)
 rw[Int.toNat_of_nonneg l0]at hz
 unfold potL
 omega
theorem a_rAlong(d:Nat){s p f g v:AV}{l:List Scene}{P:List Pq}{ph:List Int}(hs:Sl Scene.c s l)(hp:Sl Pq.c p P)(hf:Ints f ph)(hg1:g.one=true/\still1 g=true/\clean1 g=true)(hv:Ints v (x2jb (fW l P) l.length P))(hR:Right7 l P)(hph:ph.length=P.length){M:Nat}(hM:∀k,k<ph.length->(at0 ph k).natAbs<=M)(hMb:M<=10000000000) :
 RetF (fun a=>Ints a (phiL l.length (potL l P ph))) (x2i6 (d+3) [] x3o [.agg [s,p,f,g],v] mem0):=by
 have hll:=hR.ll
 have hF:=x2oe (P:=P) (n:=l.length) hR.pr (fW l P)
 rw[x1eb]
 unfold xhg xkf
 generalize hm1:(⟨[],1⟩:Mem).new (0,0,2) (.row [s,p,f,g] 0 false)=m1
 have g2:m1.get (0,0,2)=some (.row [s,p,f,g] 0 false):=by rw[<-hm1];simp
 obtain⟨a,ha,hca⟩:=w_all (d+1) ⟨hs.one,hs.still1⟩ hp (by have:=hR.pl;omega) (-1) m1
 have hal:(allM P.length (-1)).length=P.length:=by rw[all_1];simp[freshM]
 obtain⟨u,hu,hcu⟩:=w_joined (d+1) hs hp ha (all_rng hR (-1)) hll (by have:=hR.pl;omega) m1
 rw[uni_all]at hu
 have hul:=((Lab.fresh l.length).joins hR.pr).len
 simp[mem0,hs.one,hp.one,hf.one,hg1.1,hm1,g2,hca,hcu,hs.clean1,hp.clean1,cAp,tR]
 unfold xeb
 refine x2j1 (N:=l.length) (fun n k o m fc=>x4x (x2i6 (d+2)) [] 0 n v (.ptr (0,0,2) 0 0) u o (I k) m fc)
  (fun k o m=>m.get (0,0,2)=some (.row [s,p,f,g] 0 false)/\Gr 1 intE 0 34 m o ((phiL l.length (potL l P ph)).take k)) _ ?_ ?_ NN 0 nilS m1 _ (by omega) (by rw[x2in];omega) ⟨g2,by simpa using Gr.nil⟩
 .rintro n k o m fc hk ⟨hg,hG⟩ next
  have hk':(k:Int)<(l.length:Int):=by omega
  have hku:(k:Int)<((joinsM (freshM l.length) P).length:Int):=by omega
  have ixu:=hu.ix x2im (show k<(joinsM (freshM l.length) P).length by omega)
  have ldu:=fun m=>x2j0 (m:=m) (show k<(joinsM (freshM l.length) P).length by omega)
  obtain⟨l0,l1,l2⟩:=((Lab.fresh l.length).joins hR.pr).ok k hk
  obtain⟨w,hw,hwF,hN,hsum⟩:=root_way hR (ph:=ph) hk
  have hwl:=x2ro (hF.cut hR.pr) hw hwF hN
  have hFl:=hF.len hR.pr
  obtain⟨c,hc,hway⟩:=w_rway d hs hp hv hll hR.pr hF (fr:=at0 (joinsM (freshM l.length) P) k) (b:=k) l0 (by omega) (by omega) hk' hw hwF hN m
  have hS:=w_rSum (d+1) hf hc (fun x hx=>⟨by have:=hF.rng x.p (hwF x hx).1;omega,(hwF x hx).2⟩) (by omega) hM hMb m
  rw[hsum]at hS
  have hsn:=phi_snoc l.length (potL l P ph) hk
  obtain⟨o2,m2,e1,e2,e3,e4⟩:=hG.app (s0:=fc+18) (bytes:=8) x2im (by omega) (by unfold x2ik;simp[x2kz];omega) (potL l P ph k)
  simp only[x4x]
  unfold xea
  simp[hu.len x2il,hku,hul,hg,ixu,ldu,hway,hS,x2jy,hk']
  rw[show ∀x:Int,elems m.get 1 (.slit [I x] 1 true)=some (intE x,1)from fun _=>rfl,e1]
  simp[hs.clean1,hp.clean1,hv.clean,hf.clean,hc.clean,cAp,tR]
  rw[x2ic (by omega) (by omega)]
  exact next o2 m2 _ ⟨by rw[e4 _ (by simp)];exact hg,by rw[hsn];exact e2⟩
 .rintro n o m fc ⟨hg,hG⟩
  rw[List.take_of_length_le (by rw[x2kz];exact Nat.le_refl _)]at hG
  simp only[x4x]
  unfold xea x4w
  simp[hu.len x2il,hul]
  obtain⟨a',h1,h2⟩:=hG.frzk (k:=4) x2im x2l8
  exact RetF.mk h2 h1
end Go.Ix
