import Derived.Test.YtpeakdjfagbpcaaGreatWg3
import Derived.Test.YtpeakdjfagbpcaaGreatWg0
import Derived.Test.YtpeakdjfagbpcaaGreatWg5
import Derived.Test.YtpeakdjfagbpcaaGreatWg2
set_option linter.unusedSimpArgs false
set_option linter.unusedVariables false
namespace Go.Ix
open Go.Proofs
def bE(b:Bool):List AV:=[B b]
theorem bE_len(b:Bool):(bE b).length=1:=rfl
variable{α:Type}{z:Nat}{enc:α->List AV}
def Ow(enc:α->List AV)(m:Mem)(id:Id)(l:List α):Prop:=m.get id=some (.row (l.flatMap enc) 0 false)
theorem Ow.fr{m m':Mem}{id:Id}{l:List α}(h:Ow enc m id l)(e:m'.get id=m.get id):Ow enc m' id l:=by unfold Ow;rw[e];exact h
theorem ow_ix{id:Id}{n:Nat}{k:Int}(h0:0<=k)(h1:k<n):sIx z (.sref id 0 0 n z true) (I k)=some (.ptr id 0 (k.toNat*z)):=by
 simp[sIx,asI,h0,h1]
theorem Ow.ld(hz:∀x,(enc x).length=z){m:Mem}{id:Id}{l:List α}(h:Ow enc m id l){k:Nat}(hk:k<l.length){g:Bool}:sLd g z (.ptr id 0 (k*z)) m=rd g z (enc l[k]++(l.drop (k+1)).flatMap enc):=by
 rw[ld_ptr h,x2td hz,x2j9 hk,List.flatMap_cons]
theorem Ow.ldS(hz:∀x,(enc x).length=z){m:Mem}{id:Id}{l:List α}(h:Ow enc m id l){k:Nat}(hk:k<l.length):sLd true z (.ptr id 0 (k*z)) m=some (.agg (enc l[k])):=by
 rw[h.ld hz hk,rd_t,decide_eq_true (by simp[hz]),List.take_append_of_le_length (by rw[hz];exact Nat.le_refl _),List.take_of_length_le (by rw[hz];exact Nat.le_refl _)]
 rfl
theorem x2x0(hz:∀x,(enc x).length=z)(x:α):∀(l:List α) (k:Nat),k<l.length->x2iy (l.flatMap enc) (k*z) (enc x)=(l.set k x).flatMap enc
 |[],_,h=>by simp at h
 |y::r,0,_=>by
  simp only[x2iy,Nat.zero_mul,Nat.zero_add,List.take_zero,List.nil_append,List.set_cons_zero,List.flatMap_cons]
  rw[hz,<-hz y,List.drop_append_of_le_length (Nat.le_refl _),List.drop_of_length_le (Nat.le_refl _),List.nil_append]
 |y::r,k+1,h=>by
  have ih:=x2x0 hz x r k (by simpa using h)
  simp only[x2iy,List.set_cons_succ,List.flatMap_cons]at ih ⊢
  rw[Nat.succ_mul,show k*z+z=(enc y).length+k*z by rw[hz];omega,List.take_length_add_append,Nat.add_assoc,List.drop_append,List.append_assoc,<-ih]
  have e:(enc y).length+(k*z+(enc x).length)-(enc y).length=k*z+(enc x).length:=by omega
  rw[e,List.drop_of_length_le (by omega),List.nil_append]
theorem Ow.st(hz:∀x,(enc x).length=z){m:Mem}{id:Id}{l:List α}(h:Ow enc m id l){k:Nat}(hk:k<l.length){x:α}{v:AV}(hv:v.cells=enc x)(h1:(enc x).all AV.one=true) :
 (∀{R:Type} (K:Mem->Option R),sSt z (.ptr id 0 (k*z)) v m K=K (m.set id (.row ((l.set k x).flatMap enc) 0 false)))/\Ow enc (m.set id (.row ((l.set k x).flatMap enc) 0 false)) id (l.set k x):=by
 refine⟨fun K=>?_,by unfold Ow;simp⟩
 have hl:=x2kn hz l
 rw[st_ptr (z:=z) (x:=v) (k:=K) h (by rw[hv,hz]) (by rw[hl];have:=Nat.mul_le_mul_right z (show k+1<=l.length from hk);rw[Nat.succ_mul]at this;exact this) (by rw[hv];exact h1),hv,x2x0 hz x l k hk]
theorem zeros_c{z:List AV}{c:AV}(hc:∀i,i<z.length->z.getD i (.sc undef)=c)(h0:0<z.length)(k:Nat):x2j5 z k=List.replicate k c:=by
 unfold x2j5
 apply List.ext_getElem
 .simp
 .intro i h1 h2
  simp only[List.getElem_map,List.getElem_range,List.getElem_replicate]
  exact hc _ (Nat.mod_lt _ h0)
theorem rep_flat(n:Nat)(c:AV)(x:α)(hx:enc x=List.replicate z c):(List.replicate n x).flatMap enc=List.replicate (n*z) c:=by
 induction n with
 |zero=>simp
 |succ n ih=>
  rw[List.replicate_succ,List.flatMap_cons,ih,hx,Nat.succ_mul,Nat.add_comm,List.replicate_append_replicate]
theorem mkSl_c{R:Type}{zc:List AV}{c:AV}{bytes:Nat}(hb:bytes<=64)(hzl:zc.length=z)(hc:∀i,i<zc.length->zc.getD i (.sc undef)=c)(h0:0<zc.length){x:α}(hx:enc x=List.replicate z c){n:Nat}(hn:n<=1000000)(id:Id)(m:Mem)(k:AV->Mem->Option R) :
 x2je zc z bytes (I n) (I n) id m k=k (.sref id 0 0 n z true) (m.new id (.row ((List.replicate n x).flatMap enc) 0 false)):=by
 have h1:bytes*n<=64*1000000:=Nat.mul_le_mul hb hn
 simp only[x2je,asI]
 rw[if_pos ⟨by omega,Int.le_refl _,by omega,by omega⟩,zeros_c hc h0,rep_flat n c x hx]
 simp
theorem zb_b7:x7v=[B false]:=by kernel_rfl
theorem mkSl_b{R:Type}{n:Nat}(hn:n<=1000000)(id:Id)(m:Mem)(k:AV->Mem->Option R):x2je x7v 1 1 (I n) (I n) id m k=k (.sref id 0 0 n 1 true) (m.new id (.row ((List.replicate n false).flatMap bE) 0 false)):=
 mkSl_c (enc:=bE) (c:=B false) (by omega) (by rw[zb_b7];rfl) (by rw[zb_b7];intro i hi;simp at hi;subst hi;rfl) (by rw[zb_b7];simp) rfl hn id m k
theorem mkSl_i{R:Type}{n:Nat}(hn:n<=1000000)(id:Id)(m:Mem)(k:AV->Mem->Option R):x2je x2ip 1 8 (I n) (I n) id m k=k (.sref id 0 0 n 1 true) (m.new id (.row ((List.replicate n (0:Int)).flatMap intE) 0 false)):=
 mkSl_c (enc:=intE) (c:=I 0) (by omega) (by rw[x2jy];rfl) (by rw[x2jy];intro i hi;simp at hi;subst hi;rfl) (by rw[x2jy];simp) rfl hn id m k
theorem x2ty:x16=[I 0,I 0]:=by kernel_rfl
theorem mkSl_s{R:Type}{n:Nat}(hn:n<=1000000)(id:Id)(m:Mem)(k:AV->Mem->Option R):x2je x16 2 16 (I n) (I n) id m k=k (.sref id 0 0 n 2 true) (m.new id (.row ((List.replicate n (⟨0,0⟩:Sp)).flatMap Sp.c) 0 false)):=
 mkSl_c (enc:=Sp.c) (c:=I 0) (by omega) (by rw[x2ty];rfl) (by
  rw[x2ty];intro i hi
  match i,hi with
  |0,_=>rfl
  |1,_=>rfl
  |i+2,h=>simp at h;omega) (by rw[x2ty];simp) rfl hn id m k
theorem Ow.ldB{m:Mem}{id:Id}{l:List Bool}(h:Ow bE m id l){k:Int}(h0:0<=k)(hk:k<l.length):sLd false 1 (.ptr id 0 k.toNat) m=some (B (l.getD k.toNat false)):=by
 have h1:k.toNat<l.length:=by omega
 have:=h.ld bE_len h1 (g:=false)
 rw[Nat.mul_one]at this
 rw[this,List.getD_eq_getElem?_getD,List.getElem?_eq_getElem h1]
 rfl
theorem Ow.ldI{m:Mem}{id:Id}{l:List Int}(h:Ow intE m id l){k:Int}(h0:0<=k)(hk:k<l.length):sLd false 1 (.ptr id 0 k.toNat) m=some (I (at0 l k.toNat)):=by
 have h1:k.toNat<l.length:=by omega
 have:=h.ld x2im h1 (g:=false)
 rw[Nat.mul_one]at this
 rw[this,x2io h1]
 rfl
theorem x2ln{id:Id}{n:Nat}{k:Int}(h0:0<=k)(h1:k<n):sIx 1 (.sref id 0 0 n 1 true) (I k)=some (.ptr id 0 k.toNat):=by
 simpa using ow_ix (z:=1) (id:=id) h0 h1
theorem Ow.st1{g:α->AV}(he:∀x,enc x=[g x]){m:Mem}{id:Id}{l:List α}(h:Ow enc m id l){k:Int}(h0:0<=k)(hk:k<l.length){x:α}(hc:(g x).cells=[g x])(h1:(g x).one=true) :
 (∀{R:Type} (K:Mem->Option R),sSt 1 (.ptr id 0 k.toNat) (g x) m K=K (m.set id (.row ((l.set k.toNat x).flatMap enc) 0 false)))/\Ow enc (m.set id (.row ((l.set k.toNat x).flatMap enc) 0 false)) id (l.set k.toNat x):=by
 have:=h.st (z:=1) (fun x=>by rw[he];rfl) (k:=k.toNat) (by omega) (x:=x) (v:=g x) (by rw[hc,he]) (by rw[he];simp[h1])
 simpa using this
theorem l_Has(d:Nat)(hs:FHs){a:AV}{l:List Int}{x:Int}(h:Ints a l)(hl:l.length<=1000000)(u:Nat):∀(suf:List Int) (k j:Nat) (m:Mem) (fc:Nat),l.drop k=suf->suf.length<j ->
 x4c (x2i6 d) hs u j a (I x) (I k) m fc=some (B (suf.any fun y=>decide (y=x)),m):=by
 intro suf
 induction suf with
 |nil=>
  intro k j m fc hd hj
  obtain⟨j,rfl⟩:∃i,j=i+1:=⟨j-1,by simp at hj;omega⟩
  have hk:¬((k:Int)<(l.length:Int)):=by have:=List.drop_eq_nil_iff.mp hd;omega
  simp only[x4c]
  unfold xde
  simp[h.len x2il,hk,x4b]
 |cons y r ih=>
  intro k j m fc hd hj
  obtain⟨j,rfl⟩:∃i,j=i+1:=⟨j-1,by simp at hj;omega⟩
  obtain⟨hk,hke,hd⟩:=x2l7 hd
  have hk':(k:Int)<(l.length:Int):=by omega
  have ix:=h.ix x2im hk
  have e1:at0 l k=y:=by rw[x2io hk,hke]
  have ih':=ih (k+1) j m (fc+13) hd (by simp at hj;omega)
  simp only[x4c,List.any_cons]
  unfold xde
  by_cases c:y=x
  .simp(disch:=omega) [h.len x2il,hk',ix,x2j0,e1,c]
  .simp(disch:=omega) [h.len x2il,hk',ix,x2j0,e1,c]
   simpa using ih'
theorem w_Has(d:Nat){a:AV}{l:List Int}{x:Int}(h:Ints a l)(hl:l.length<=1000000)(m:Mem):x2i8 (x2i6 (d+1)) x3k [a,I x] m=some (B (l.any fun y=>decide (y=x)),m):=by
 refine Ans.call0 ?_ (by simp[h.still]) rfl
 unfold Ans
 refine⟨⟨[],1⟩,?_⟩
 rw[x1dx]
 exact l_Has d [] h hl 0 l 0 NN ⟨[],1⟩ 2 rfl (by rw[x2in];omega)
def GkF(ok:Id->Prop)(m:Mem)(a:AV)(l:List Int):Prop:=(a=nilS/\l=[])\/∃id ver b,ok id/\a=.sref id ver 0 l.length 1 true/\m.get id=some (.row (l.flatMap intE) ver b)
theorem Gk.toF{ok:Id->Prop}{m:Mem}{a:AV}{l:List Int}(h:Gk 1 intE ok m a l):GkF ok m a l:=by
 rcases h with h|⟨id,ver,h1,h2,h3⟩
 .exact .inl h
 .exact .inr ⟨id,ver,false,h1,h2,h3⟩
theorem GkF.frame{ok:Id->Prop}{m m':Mem}{a:AV}{l:List Int}(h:GkF ok m a l)(hm:∀id,ok id->m'.get id=m.get id):GkF ok m' a l:=by
 rcases h with h|⟨id,ver,b,h0,h1,h2⟩
 .exact Or.inl h
 .exact Or.inr ⟨id,ver,b,h0,h1,by rw[hm _ h0];exact h2⟩
theorem x2x1(objs:Id->Option Ob)(k:Nat):∀l:List Int,(l.flatMap intE).flatMap (x2ii objs k)=[]
 |[]=>rfl
 |x::r=>by
  rw[List.flatMap_cons,List.flatMap_append,x2x1 objs k r]
  cases k<;>rfl
theorem w_HasF(d:Nat){ok:Id->Prop}{m:Mem}{a:AV}{l:List Int}{x:Int}(h:GkF ok m a l)(hl:l.length<=1000000) :
 ∃m2,x2i8 (x2i6 (d+1)) x3k [a,I x] m=some (B (l.any fun y=>decide (y=x)),m2)/\GkF ok m2 a l/\m2.next=m.next/\x2m2 ok m m2:=by
 rcases h with ⟨rfl,rfl⟩|⟨id,ver,b,h0,rfl,hg⟩
 .exact⟨m,w_Has d (Or.inl ⟨rfl,rfl⟩) (by simp) m,.inl ⟨rfl,rfl⟩,rfl,fun _ _=>rfl⟩
 .have hfl:=x2n3 l
  obtain⟨a',ha',hfz⟩:∃a',Ints a' l/\Go.Ix.frz m.get deep (.sref id ver 0 l.length 1 true)=some a':=by
   refine⟨.slit (l.flatMap intE) l.length false,Sl.lit l false,?_⟩
   have:=x2n1 (objs:=m.get) (id:=id) (cs:=l.flatMap intE) (ver:=ver) (off:=0) (n:=l.length) (z:=1) (k:=4) (f:=b) (x:=true) hg (by omega) (by
    rw[List.drop_zero,List.take_of_length_le (by omega)];exact x2me x2l8 l)
   rw[List.drop_zero,List.take_of_length_le (by omega)]at this
   exact this
  have hw:=w_Has d (x:=x) ha' hl mem0
  have hl2:[a',I x].mapM (Go.Ix.frz mem0.get deep)=some [a',I x]:=x2rh _ (by simp[ha'.still])
  unfold x2i8 at hw ⊢
  rw[hl2]at hw
  rw[show[AV.sref id ver 0 l.length 1 true,I x].mapM (Go.Ix.frz m.get deep)=some [a',I x]from by simp only[List.mapM_cons,List.mapM_nil,hfz];rfl]
  simp only at hw ⊢
  cases hc:x2i6 (d+1) [] x3k [a',I x] mem0 with
  |none=>rw[hc]at hw;cases hw
  |some r=>
   obtain⟨r,m'⟩:=r
   rw[hc]at hw
   simp only[Option.map_eq_some_iff,Prod.mk.injEq]at hw
   obtain⟨v,hv,rfl,-⟩:=hw
   have hr:[AV.sref id ver 0 l.length 1 true,I x].flatMap (x2ii m.get deep)=[id]:=by
    have h1:x2ii m.get deep (.sref id ver 0 l.length 1 true)=[id]:=by
     show(match m.get id with
      |some (.row cs _ _)=>id::((cs.drop 0).take (l.length*1)).flatMap (x2ii m.get 5)
      |_=>[id])=[id]
     rw[hg]
     simp only[List.drop_zero]
     rw[List.take_of_length_le (by omega),x2x1]
    simp only[List.flatMap_cons,List.flatMap_nil,h1]
    rfl
   have hm2:∀j,(⟨x2lk [id] m.hp,m.next⟩:Mem).get j=shut [id] m.get j:=fun j=>congrFun (x2re [id] m.hp) j
   refine⟨⟨x2lk [id] m.hp,m.next⟩,?_,.inr ⟨id,ver,true,h0,rfl,?_⟩,rfl,fun j hj=>?_⟩
   .simp only[hv,hr]
    rfl
   .rw[hm2];unfold shut;rw[if_pos (by simp),hg]
   .rw[hm2];unfold shut;rw[if_neg (by simp;rintro rfl;exact hj h0)]
def BestI(f:Int->Int)(S:List Int)(i:Nat)(b:Int):Prop:=(b=-1/\∀j:Nat,j<i->(j:Int)∈S)\/((0<=b/\b<i)/\b∉S/\∀j:Nat,j<i->(j:Int)∉S->(j:Int)=b\/lx f b j)
theorem BestI.in_{f:Int->Int}{S:List Int}{i:Nat}{b:Int}(h:BestI f S i b)(hi:(i:Int)∈S):BestI f S (i+1) b:=by
 rcases h with ⟨h1,h2⟩|⟨h1,h2,h3⟩
 .refine .inl ⟨h1,fun j hj=>?_⟩
  by_cases c:j=i
  .rw[c];exact hi
  .exact h2 j (by omega)
 .refine .inr ⟨by omega,h2,fun j hj hn=>?_⟩
  by_cases c:j=i
  .rw[c]at hn;exact absurd hi hn
  .exact h3 j (by omega) hn
theorem BestI.take_{f:Int->Int}{S:List Int}{i:Nat}{b:Int}(h:BestI f S i b)(hi:(i:Int)∉S)(hc:b<0\/f i<f b):BestI f S (i+1) i:=by
 refine .inr ⟨by omega,hi,fun j hj hn=>?_⟩
 by_cases c:j=i
 .exact .inl (by rw[c])
 .right
  rcases h with ⟨h1,h2⟩|⟨h1,h2,h3⟩
  .exact absurd (h2 j (by omega)) hn
  .have hfb:f i<f b:=hc.resolve_left (by omega)
   rcases h3 j (by omega) hn with e|e
   .rw[e];exact .inl hfb
   .unfold lx at *;omega
theorem BestI.leave{f:Int->Int}{S:List Int}{i:Nat}{b:Int}(h:BestI f S i b)(hi:(i:Int)∉S)(hb:0<=b)(hc:¬f i<f b):BestI f S (i+1) b:=by
 rcases h with ⟨h1,h2⟩|⟨h1,h2,h3⟩
 .omega
 .refine .inr ⟨by omega,h2,fun j hj hn=>?_⟩
  by_cases c:j=i
  .right;rw[c];unfold lx;omega
  .exact h3 j (by omega) hn
theorem BestI.fin{f:Int->Int}{N:Nat}{k:Nat}{b:Int}(h:BestI f ((ordM f N).take k) N b)(hk:k<N):b=at0 (ordM f N) k:=by
 have hl:=x2qt f N
 have hO:=x2n5 f N
 have hkl:k<(ordM f N).length:=by omega
 have hx:=(InN.get (ord_rng (f:=f) (N:=N)) hkl)
 have hnd:=hO.nodup
 have hxn:at0 (ordM f N) k∉(ordM f N).take k:=fun hm=>by
  obtain⟨j,hj,e⟩:=List.mem_iff_getElem.mp hm
  rw[List.getElem_take,x2io hkl]at e
  simp at hj
  exact List.pairwise_iff_getElem.mp hnd j k (by omega) hkl (by omega) e
 rcases h with ⟨h1,h2⟩|⟨h1,h2,h3⟩
 .have:=h2 (at0 (ordM f N) k).toNat (by omega)
  rw[Int.toNat_of_nonneg hx.1]at this
  exact absurd this hxn
 .have h4:=h3 (at0 (ordM f N) k).toNat (by omega) (by rw[Int.toNat_of_nonneg hx.1];exact hxn)
  rw[Int.toNat_of_nonneg hx.1]at h4
  rcases h4 with e|e
  .exact e.symm
  .have hb:b∈ordM f N:=(hO.2 b).mpr h1
   rw[<-List.take_append_drop k (ordM f N),List.mem_append]at hb
   have hb2:=hb.resolve_left h2
   rw[x2j9 hkl,List.mem_cons]at hb2
   rcases hb2 with e2|e2
   .rw[x2io hkl];exact e2
   .have hs:=hO.1
    rw[<-List.take_append_drop k (ordM f N),x2j9 hkl]at hs
    have:=(List.pairwise_cons.mp (List.pairwise_append.mp hs).2.1).1 b e2
    rw[x2io hkl]at e
    exact(lx_asym _ _ this e).elim
def idD:Id:=(0,8,15)
def DoneI(f:Int->Int)(N k:Nat)(D:List Bool):Prop:=D.length=N/\∀i:Nat,i<N->D.getD i false=decide ((i:Int)∈(ordM f N).take k)
theorem DoneI.next{f:Int->Int}{N k:Nat}{D:List Bool}(h:DoneI f N k D)(hk:k<N):DoneI f N (k+1) (D.set (at0 (ordM f N) k).toNat true):=by
 have hl:=x2qt f N
 have hkl:k<(ordM f N).length:=by omega
 have hx:=InN.get (ord_rng (f:=f) (N:=N)) hkl
 refine⟨by simp[h.1],fun i hi=>?_⟩
 rw[List.take_succ_eq_append_getElem hkl,<-x2io hkl,List.getD_eq_getElem?_getD,List.getElem?_set]
 have h2:=h.2 i hi
 rw[List.getD_eq_getElem?_getD]at h2
 by_cases c:(at0 (ordM f N) k).toNat=i
 .rw[if_pos c,if_pos (by rw[h.1];omega)]
  have:(i:Int)=at0 (ordM f N) k:=by omega
  simp[this]
 .rw[if_neg c,h2]
  have:¬(i:Int)=at0 (ordM f N) k:=by omega
  simp[this]
structure RL (s p:AV) (f:Int->Int) (n:Nat) (P:List Pq) (k:Nat) (t4:AV) (m:Mem):Prop where
 b1:m.get (0,0,1)=some (.row [s,p] 0 false)
 dn:∃D,Ow bE m idD D/\DoneI f P.length k D
 tk:Gk 1 intE (okU7 0 75) m t4 (takeM P (freshM n) ((ordM f P.length).take k))
 nx:1<=m.next
theorem takeS(f:Int->Int)(n:Nat)(P:List Pq){k:Nat}(hk:k<P.length):takeM P (freshM n) ((ordM f P.length).take (k+1))=takeM P (freshM n) ((ordM f P.length).take k)++(if at0 (uniM n P ((ordM f P.length).take k)) (prAt P (at0 (ordM f P.length) k)).a.toNat=at0 (uniM n P ((ordM f P.length).take k)) (prAt P (at0 (ordM f P.length) k)).b.toNat then[]else[at0 (ordM f P.length) k]):=by
 have hkl:k<(ordM f P.length).length:=by rw[x2qt];exact hk
 rw[List.take_succ_eq_append_getElem hkl,x2wh,x2io hkl]
 rfl
theorem sumT_in{l:List Scene}{P:List Pq}(hR:Right7 l P){T:List Int}(hT:∀i∈T,0<=i/\i<P.length):0<=(T.map (fW l P)).sum/\(T.map (fW l P)).sum<=T.length*300000:=by
 have:=sumL_in hR.ib (F:=T) fun i hi=>⟨hT i hi,hR.at (hT i hi)⟩
 rw[x2tx]at this
 rw[show fW l P=fun i=>lenP l (prAt P i)from rfl]
 simpa using this
theorem l_rbest(d:Nat){s p:AV}{l:List Scene}{P:List Pq}(hs:Sl Scene.c s l)(hp:Sl Pq.c p P)(hR:Right7 l P){k:Nat}(hk:k<P.length)(t4 t5 t18:AV)(rec1:AV->AV->AV->AV->AV->AV->Mem->Nat->O2)(Q:O2->Prop){D:List Bool}(hD:DoneI (fW l P) P.length k D){m:Mem}(b1:m.get (0,0,1)=some (.row [s,p] 0 false))(bD:Ow bE m idD D)(hn:1<=m.next)(hQ:∀fc,Q (x1m (x2i6 (d+3)) [] 0 rec1 (.ptr (0,0,1) 0 0) t4 t5 (.sref idD 0 0 P.length 1 true) (I (at0 (ordM (fW l P) P.length) k)) t18 (I k) m fc)) :
 ∀(n i:Nat) (b:Int) (m':Mem) (fc:Nat),i<=P.length->P.length<n+i->(m'=m/\BestI (fW l P) ((ordM (fW l P) P.length).take k) i b) ->
 Q (x35 (x2i6 (d+3)) [] 0 rec1 n (.ptr (0,0,1) 0 0) t4 t5 (.sref idD 0 0 P.length 1 true) (I b) (I i) t18 (I k) m' fc):=by
 have hpl:=hR.pl
 refine x2j1 (fun n i b m fc=>x35 (x2i6 (d+3)) [] 0 rec1 n (.ptr (0,0,1) 0 0) t4 t5 (.sref idD 0 0 P.length 1 true) (I b) (I i) t18 (I k) m fc) (fun i b m'=>m'=m/\BestI (fW l P) ((ordM (fW l P) P.length).take k) i b) Q ?_ ?_
 .rintro n i b m' fc hi ⟨rfl,hB⟩ next
  have hi':(i:Int)<(P.length:Int):=by omega
  have ixD:sIx 1 (.sref idD 0 0 P.length 1 true) (I (i:Int))=some (.ptr idD 0 (i:Int).toNat):=x2ln (by omega) hi'
  have ldD:=bD.ldB (k:=(i:Int)) (by omega) (by rw[hD.1];exact hi')
  rw[Int.toNat_natCast,hD.2 i hi]at ldD
  rw[Int.toNat_natCast]at ixD
  have hbn:Nat.blt 0 m'.next=true:=by rw[Nat.blt_eq];omega
  simp only[x35]
  unfold xdu xdt
  by_cases c1:(i:Int)∈(ordM (fW l P) P.length).take k
  .rw[decide_eq_true c1]at ldD
   simp only[x2m0,x2jm,b1,x2kd,Nat.beq_refl,x2jf,Nat.zero_add,List.drop_succ_cons,List.drop_zero,rd_f,x2ig,hp.len x2jn,x2iv,hi',decide_true,x2iw,ixD]
   rw[<-x2jm,ldD]
   simp[cAp,tR,hbn]
   unfold x4l
   simp(disch:=omega) [x2ic]
   exact next b _ _ ⟨rfl,hB.in_ c1⟩
  .rw[decide_eq_false c1]at ldD
   have hi2:=hR.at (i:=(i:Int)) ⟨by omega,hi'⟩
   have hli:=x2tp (d+1) hs hp hR.ib ⟨by omega,hi'⟩ hi2 m'
   simp only[x2m0,x2jm,b1,x2kd,Nat.beq_refl,x2jf,Nat.zero_add,List.drop_succ_cons,List.drop_zero,rd_f,x2ig,hp.len x2jn,x2iv,hi',decide_true,x2iw,ixD]
   rw[<-x2jm,ldD]
   by_cases c2:b<0
   .simp[c2,cAp,tR,hbn]
    unfold x4l
    simp(disch:=omega) [x2ic]
    exact next (i:Int) _ _ ⟨rfl,hB.take_ c1 (.inl c2)⟩
   .have hb:0<=b/\b<P.length:=by
     rcases hB with ⟨h1,-⟩|⟨h1,-⟩<;>omega
    have hlb:=x2tp (d+1) hs hp hR.ib hb (hR.at hb) m'
    simp[c2,b1,hli,hlb,hs.clean1,hp.clean1,cAp,tR,hbn]
    by_cases c3:fW l P i<fW l P b
    .have c3':lenP l (prAt P (i:Int))<lenP l (prAt P b):=c3
     simp[c3']
     unfold x4l
     simp(disch:=omega) [x2ic]
     exact next (i:Int) _ _ ⟨rfl,hB.take_ c1 (.inr c3)⟩
    .have c3':¬lenP l (prAt P (i:Int))<lenP l (prAt P b):=c3
     simp[c3']
     unfold x4l
     simp(disch:=omega) [x2ic]
     exact next b _ _ ⟨rfl,hB.leave c1 hb.1 c3⟩
 .rintro n b m' fc ⟨rfl,hB⟩
  have hb:=hB.fin hk
  subst hb
  simp only[x35]
  unfold xdu
  simp[b1,hp.len x2jn]
  exact hQ _
theorem x2zl(d:Nat){s p:AV}{l:List Scene}{P:List Pq}(hs:Sl Scene.c s l)(hp:Sl Pq.c p P)(hR:Right7 l P) :
 RetF (fun v=>∃a,v=.tup [a,I ((x2jg (fW l P) l.length P).map (fW l P)).sum]/\Ints a (x2jb (fW l P) l.length P)) (x2i6 (d+4) [] x3l [.agg [s,p]] mem0):=by
 have hpl:=hR.pl
 have hll:=hR.ll
 rw[x1e1]
 unfold xh6 xk2 xdx
 simp[mem0,hs.one,hp.one,hp.len x2jn,mkSl_b (n:=P.length) (by omega)]
 have hol:=x2qt (fW l P) P.length
 refine x2j1 (N:=P.length) (fun n k t4 m fc=>x28 (x2i6 (d+3)) [] 0 n (.ptr (0,0,1) 0 0) t4 (I ((takeM P (freshM l.length) ((ordM (fW l P) P.length).take k)).map (fW l P)).sum) (.sref idD 0 0 P.length 1 true) (I P.length) (I k) m fc)
  (fun k t4 m=>RL s p (fW l P) l.length P k t4 m) _ ?_ ?_ NN 0 nilS _ _ (by omega) (by rw[x2in];omega)
  ⟨by simp,⟨List.replicate P.length false,by unfold Ow;simp[idD],by simp,fun i hi=>by simp[List.getD_eq_getElem?_getD,hi]⟩,by simpa[takeM]using Gk.nil,by simp⟩
 .rintro n k t4 m fc hk ⟨b1,⟨D,bD,hD⟩,hT,hn⟩ next
  have hk':(k:Int)<(P.length:Int):=by omega
  simp only[x28]
  unfold xdw x9p xdv
  simp only[x2iv,hk',decide_true,x2iw,x2ig]
  refine l_rbest d hs hp hR hk t4 _ (I P.length) (x28 (x2i6 (d+3)) [] 0 n) _ hD b1 bD hn (fun fc=>?_) NN 0 (-1) m _ (by omega) (by rw[x2in];omega) ⟨rfl,.inl ⟨rfl,fun j hj=>by omega⟩⟩
  have hkl:k<(ordM (fW l P) P.length).length:=by omega
  have hx:=InN.get (ord_rng (f:=fW l P) (N:=P.length)) hkl
  have hts:=takeS (fW l P) l.length P hk
  have hDn:=hD.next hk
  have hTr:∀i∈takeM P (freshM l.length) ((ordM (fW l P) P.length).take k),0<=i/\i<P.length:=fun i hi=>ord_rng _ (List.mem_of_mem_take ((x2nr _ _).subset hi))
  have htl:(takeM P (freshM l.length) ((ordM (fW l P) P.length).take k)).length<=P.length:=by
   have h1:=(x2nr (P:=P) ((ordM (fW l P) P.length).take k) (freshM l.length)).length_le
   simp at h1
   omega
  have hTj:uniM l.length P (takeM P (freshM l.length) ((ordM (fW l P) P.length).take k))=uniM l.length P ((ordM (fW l P) P.length).take k):=x2ry _ _
  have hsum:=sumT_in hR hTr
  obtain⟨x,hxe⟩:∃x,x=at0 (ordM (fW l P) P.length) k:=⟨_,rfl⟩
  rw[<-hxe]at hx hts hDn ⊢
  have hq:=hR.at hx
  obtain⟨q0,q1,q2⟩:=hq
  have ixD:sIx 1 (.sref idD 0 0 P.length 1 true) (I x)=some (.ptr idD 0 x.toNat):=x2ln hx.1 hx.2
  obtain⟨st1,st2⟩:=bD.st1 (g:=B) (fun _=>rfl) (k:=x) hx.1 (by rw[hD.1];exact hx.2) (x:=true) rfl rfl
  unfold x1m
  simp only[ixD,x2ig,st1]
  generalize hm1:Mem.set m _ _=m1 at st2 ⊢
  have hm1g:∀j:Id,j≠idD->m1.get j=m.get j:=fun j hj=>by rw[<-hm1,Mem.get_set,if_neg hj]
  have hm1n:m1.next=m.next:=by rw[<-hm1];rfl
  have c1:m1.get (0,0,1)=some (.row [s,p] 0 false):=by rw[hm1g _ (by simp[idD])];exact b1
  have hT1:Gk 1 intE (okU7 0 75) m1 t4 (takeM P (freshM l.length) ((ordM (fW l P) P.length).take k)):=hT.frame fun j hj=>hm1g j (by unfold idD;rintro rfl;exact absurd hj.2 (by simp))
  obtain⟨a,m2,e1,e2,e3,e4⟩:=x2wu (d+2) [] (m0:=m1) (f:=t4) (F:=takeM P (freshM l.length) ((ordM (fW l P) P.length).take k)) hs hp (hT1.len x2il)
   (fun mm hmm j hj=>by
    have hG:Gk 1 intE (okU7 0 75) mm t4 (takeM P (freshM l.length) ((ordM (fW l P) P.length).take k)):=hT1.frame fun i hi=>hmm i (by have:=hi.1;omega)
    rcases hG with ⟨_,h0⟩|⟨id,ver,hid,rfl,hg⟩
    .rw[h0]at hj;simp at hj
    .refine⟨.ptr id ver j,?_,?_,fun aa bb=>?_⟩
     .have:(j:Int)<((takeM P (freshM l.length) ((ordM (fW l P) P.length).take k)).length:Int):=by omega
      simp[sIx,asI,this]
     .rw[ld_ptr hg,rd,if_neg (by simp),x2nn,<-List.map_drop,x2j9 hj,<-x2io hj]
      rfl
     .have:=hid.1
      simp only[tR,x2i9,disj]
      simp
      intro h1
      rw[h1]at this
      simp at this
      omega) (fun i hi=>⟨hTr i hi,hR.at (hTr i hi)⟩) hll (by omega)
  rw[hTj]at e2
  have k0:∀j:Id,j.1=0->m2.get j=m1.get j:=fun j hj=>e4 j (by omega)
  have c2:m2.get (0,0,1)=some (.row [s,p] 0 false):=by rw[k0 _ rfl];exact c1
  have hT2:Gk 1 intE (okU7 0 75) m2 t4 (takeM P (freshM l.length) ((ordM (fW l P) P.length).take k)):=hT1.frame fun j hj=>k0 j hj.1
  have hL:=(x2tw (ord_Rng hR (fW l P) k)).len
  obtain⟨qa,ia,la,-⟩:=e2.at (k:=(prAt P x).a) q0 (by rw[hL];omega)
  obtain⟨qb,ib,lb,-⟩:=e2.at (k:=(prAt P x).b) (by omega) (by rw[hL];omega)
  have ip:=hp.ixz Pq.len hx.1 hx.2
  have l0:=fun m=>x2oc (m:=m) (enc:=Pq.c) (show x.toNat<P.length by omega) 0 rfl
  have l1:=fun m=>x2oc (m:=m) (enc:=Pq.c) (show x.toNat<P.length by omega) 1 rfl
  rw[<-x2nq (by omega)]at l0 l1
  simp only[List.drop_zero]at l0
  simp only[List.drop_one]at l1
  simp[c1,e1,c2,ip,l0,l1,ia,ib,la,lb]
  by_cases c3:at0 (uniM l.length P ((ordM (fW l P) P.length).take k)) (prAt P x).a.toNat=at0 (uniM l.length P ((ordM (fW l P) P.length).take k)) (prAt P x).b.toNat
  .rw[if_pos c3,List.append_nil]at hts
   simp[c3]
   unfold xf
   simp(disch:=omega) [x2ic]
   have:=next t4 m2 (fc+27+2) ⟨c2,⟨_,st2.fr (k0 _ rfl),hDn⟩,by rw[hts];exact hT2,by omega⟩
   rw[hts]at this
   exact this
  .rw[if_neg c3]at hts
   obtain⟨t42,m3,a1,a2,-,-,a3,a4⟩:=hT2.app (bytes:=8) (id0:=(0,fc+30,75)) x2im (by omega) ⟨rfl,rfl⟩ (by unfold x2ik;omega) x
   have hlx:=x2tp (d+1) hs hp hR.ib hx (hR.at hx) m3
   have hlin:=x2rw hR.ib (hR.at hx)
   have c3m:m3.get (0,0,1)=some (.row [s,p] 0 false):=by rw[a4 _ (by unfold okU7;simp)];exact c2
   simp[c3,x2jy]
   rw[show ∀x:Int,elems m2.get 1 (.slit [I x] 1 true)=some (intE x,1)from fun _=>rfl,a1]
   simp[c3m,hlx,hs.clean1,hp.clean1,tR,tX,x2i9,disj]
   rw[x2ic (by omega) (by omega)]
   have hfin:∀fc2,RetF (fun v=>∃a,v=.tup [a,I ((x2jg (fW l P) l.length P).map (fW l P)).sum]/\Ints a (x2jb (fW l P) l.length P)) (xf (x2i6 (d+3)) [] 0 (x28 (x2i6 (d+3)) [] 0 n) (.ptr (0,0,1) 0 0) t42 (I (((takeM P (freshM l.length) ((ordM (fW l P) P.length).take k)).map (fW l P)).sum+lenP l (prAt P x))) (.sref idD 0 0 P.length 1 true) (I P.length) (I k) m3 fc2):=fun fc2=>by
    unfold xf
    simp(disch:=omega) [x2ic]
    have:=next t42 m3 (fc2+2) ⟨c3m,⟨_,st2.fr (by rw[a4 _ (by unfold okU7 idD;simp),k0 _ rfl]),hDn⟩,by rw[hts];exact a2,by omega⟩
    rw[hts,List.map_append,List.sum_append]at this
    simpa[fW]using this
   rcases hT2 with ⟨rfl,-⟩|⟨id,ver,hid,rfl,hg⟩
   .have e:tA (0,fc+30,75) nilS=some [(0,fc+30,75)]:=rfl
    simp[e]
    exact hfin _
   .have hne:¬((0,0,1):Id)=id:=by rintro rfl;exact absurd hid.2 (by simp)
    have e:tA (0,fc+30,75) (.sref id ver 0 (takeM P (freshM l.length) ((ordM (fW l P) P.length).take k)).length 1 true)=some [id]:=rfl
    simp[e,hne]
    exact hfin _
 .rintro n t4 m fc ⟨b1,-,hT,hn⟩
  rw[List.take_of_length_le (by omega)]at hT ⊢
  have hTL:takeM P (freshM l.length) (ordM (fW l P) P.length)=x2jg (fW l P) l.length P:=rfl
  rw[hTL]at hT ⊢
  simp only[x28]
  unfold xdw xe xds
  simp
  have hlm:∀j:Nat,(x2jb (fW l P) l.length P)=(freshM P.length).filter fun i=>(x2jg (fW l P) l.length P).contains i:=fun _=>rfl
  have htl:(x2jg (fW l P) l.length P).length<=P.length:=by
   have h1:=(x2nr (P:=P) (ordM (fW l P) P.length) (freshM l.length)).length_le
   rw[hol]at h1
   exact h1
  refine x2j1 (N:=P.length) (fun n k o m fc=>x4k (x2i6 (d+3)) [] 0 n (.ptr (0,0,1) 0 0) t4 (I ((x2jg (fW l P) l.length P).map (fW l P)).sum) o (I k) m fc)
   (fun k o m=>m.get (0,0,1)=some (.row [s,p] 0 false)/\GkF (okU7 0 75) m t4 (x2jg (fW l P) l.length P)/\Gk 1 intE (okU7 0 95) m o (((freshM P.length).take k).filter fun i=>(x2jg (fW l P) l.length P).contains i)) _ ?_ ?_ NN 0 nilS m _ (by omega) (by rw[x2in];omega) ⟨b1,hT.toF,by simpa using Gk.nil⟩
  .rintro n k o m fc hk ⟨b1,hF,hO⟩ next
   have hk':(k:Int)<(P.length:Int):=by omega
   obtain⟨m2,h1,h2,h3,h4⟩:=w_HasF (d+2) (x:=(k:Int)) hF (by omega)
   have c1:m2.get (0,0,1)=some (.row [s,p] 0 false):=by rw[h4 _ (by unfold okU7;simp)];exact b1
   have hO2:Gk 1 intE (okU7 0 95) m2 o (((freshM P.length).take k).filter fun i=>(x2jg (fW l P) l.length P).contains i):=hO.frame fun j hj=>h4 j (by have:=hj.2;unfold okU7;omega)
   have hsn:((freshM P.length).take (k+1)).filter (fun i=>(x2jg (fW l P) l.length P).contains i)=((freshM P.length).take k).filter (fun i=>(x2jg (fW l P) l.length P).contains i)++(if(x2jg (fW l P) l.length P).contains (k:Int)then[(k:Int)]else[]):=by
    rw[<-x2qq hk,List.filter_append]
    congr 1
    simp[List.filter_cons]
   have hany:((x2jg (fW l P) l.length P).any fun y=>decide (y=(k:Int)))=(x2jg (fW l P) l.length P).contains (k:Int):=by
    rw[Bool.eq_iff_iff,List.any_eq_true,List.contains_iff_mem]
    simp
   have hfl:(((freshM P.length).take k).filter fun i=>(x2jg (fW l P) l.length P).contains i).length<=P.length:=by
    have h1:=List.length_filter_le (fun i=>(x2jg (fW l P) l.length P).contains i) ((freshM P.length).take k)
    have h2:((freshM P.length).take k).length<=P.length:=by simp[freshM];omega
    omega
   rw[hany]at h1
   simp only[x4k]
   unfold xdr xdq
   simp only[x2m0,x2jm,b1,x2kd,Nat.beq_refl,x2jf,Nat.zero_add,List.drop_succ_cons,List.drop_zero,rd_f,x2ig,hp.len x2jn,x2iv,hk',decide_true,x2iw,h1]
   cases hc:(x2jg (fW l P) l.length P).contains (k:Int)with
   |true=>
    rw[hc,if_pos rfl]at hsn
    obtain⟨o2,m3,a1,a2,-,-,a3,a4⟩:=hO2.app (bytes:=8) (id0:=(0,fc+5+6,95)) x2im (by omega) ⟨rfl,rfl⟩ (by unfold x2ik;omega) (k:Int)
    simp only[x2iw,x2jy,mkLit_I]
    rw[show ∀x:Int,elems m2.get 1 (.slit [I x] 1 true)=some (intE x,1)from fun _=>rfl,a1]
    unfold x7u
    simp(disch:=omega) [x2ic]
    exact next o2 m3 _ ⟨by rw[a4 _ (by unfold okU7;simp)];exact c1,h2.frame fun j hj=>a4 j (by have:=hj.2;unfold okU7;omega),by rw[hsn];exact a2⟩
   |false=>
    rw[hc,if_neg (by simp),List.append_nil]at hsn
    simp only[x2ky]
    unfold x7u
    simp(disch:=omega) [x2ic]
    exact next o m2 _ ⟨c1,h2,by rw[hsn];exact hO2⟩
  .rintro n o m fc ⟨b1,hF,hO⟩
   rw[List.take_of_length_le (by simp[freshM])]at hO
   simp only[x4k]
   unfold xdr x1r
   simp[b1,hp.len x2jn]
   obtain⟨a',h1,h2⟩:=hO.sl1 3
   exact RetF.mk (x2vy h2 frz_I) ⟨a',rfl,h1⟩
theorem x2zm(d:Nat){s p:AV}{l:List Scene}{P:List Pq}(hs:Sl Scene.c s l)(hp:Sl Pq.c p P)(hR:Right7 l P)(m:Mem) :
 ∃a,Ints a (x2jb (fW l P) l.length P)/\x2i8 (x2i6 (d+4)) x3l [.agg [s,p]] m=some (.tup [a,I ((x2jg (fW l P) l.length P).map (fW l P)).sum],m):=by
 obtain⟨v,⟨a,rfl,h1⟩,hc⟩:=x2k6 (by simp[hs.still1,hp.still1]) (x2zl d hs hp hR) m
 exact⟨a,h1,hc⟩
theorem x2x2:Tryz.prog.underlying x1d=some (.slice xwn):=by kernel_rfl
theorem x2s0:x16=[I 0,I 0]:=by kernel_rfl
theorem w_ends(d:Nat){s p:AV}{P:List Pq}(hs:s.one=true/\still1 s=true)(hp:Sl Pq.c p P){x:Sp}(hx:0<=x.p/\x.p<P.length)(m:Mem) :
 x2i8 (x2i6 (d+1)) x63 [.agg [s,p],.agg [I x.p,I x.s]] m=some (.tup [I (frS P x),I (toS P x)],m):=by
 refine x2ju (by simp[hs.2,hp.still1]) ?_ m
 have ip:=hp.ixz Pq.len hx.1 hx.2
 have lp:=fun m=>x2jr (m:=m) (enc:=Pq.c) Pq.len (by omega) (show x.p.toNat<P.length by omega)
 rw[<-x2nq (by omega)]at lp
 unfold frS toS
 generalize prAt P x.p=q at *
 simp only[Pq.c]at lp
 rw[x1er]
 unfold xhw xkz
 by_cases c:x.s<0
 .simp[mem0,hs.1,hp.one,ip,lp,x2l9,c]
  exact RetF.tup rfl rfl
 .simp[mem0,hs.1,hp.one,ip,lp,x2l9,c]
  exact RetF.tup rfl rfl
theorem w_rends(d:Nat){s p:AV}{P:List Pq}(hs:s.one=true/\still1 s=true)(hp:Sl Pq.c p P){x:Sp}(hx:0<=x.p/\x.p<P.length)(h1:x.s=1\/x.s=-1)(m:Mem) :
 x2i8 (x2i6 (d+1)) x3s [.agg [s,p],.agg [I x.p,I x.s]] m=some (.tup [I (frS P x),I (toS P x)],m):=by
 refine x2ju (by simp[hs.2,hp.still1]) ?_ m
 have ip:=hp.ixz Pq.len hx.1 hx.2
 have lp:=fun m=>x2jr (m:=m) (enc:=Pq.c) Pq.len (by omega) (show x.p.toNat<P.length by omega)
 rw[<-x2nq (by omega)]at lp
 unfold frS toS
 generalize prAt P x.p=q at *
 simp only[Pq.c]at lp
 rw[x1es]
 unfold xhx xl0
 rcases h1 with c|c
 .simp[mem0,hs.1,hp.one,ip,lp,x2l9,c]
  exact RetF.tup rfl rfl
 .simp[mem0,hs.1,hp.one,ip,lp,x2l9,c]
  exact RetF.tup rfl rfl
def idY:Id:=(0,5,21)
def idS:Id:=(0,10,25)
structure WM (s p:AV) (st:RSt) (m:Mem):Prop where
 b4:m.get (0,0,4)=some (.row [s,p] 0 false)
 oY:Ow Sp.c m idY st.y
 oS:Ow bE m idS st.k
theorem WM.fr{s p:AV}{st:RSt}{m m':Mem}(h:WM s p st m)(e:∀j:Id,j=(0,0,4)\/j=idY\/j=idS->m'.get j=m.get j):WM s p st m':=
 ⟨by rw[e _ (.inl rfl)];exact h.b4,h.oY.fr (e _ (.inr (.inl rfl))),h.oS.fr (e _ (.inr (.inr rfl)))⟩
theorem ow_ix2{id:Id}{n:Nat}{k:Int}(h0:0<=k)(h1:k<n):sIx 2 (.sref id 0 0 n 2 true) (I k)=some (.ptr id 0 (k.toNat*2)):=ow_ix h0 h1
theorem l_rtry(d:Nat){s p f:AV}{l:List Scene}{P:List Pq}{F:List Int}(hs:Sl Scene.c s l)(hp:Sl Pq.c p P)(hf:Ints f F)(hP:∀p∈P,PqIn l.length p)(hr:∀i∈F,0<=i/\i<P.length)(hF:F.length<=1000){k:Nat}(hk:k<F.length){fr:Int}(sg:Int)(hsg:sg=1\/sg=-1){st:RSt}(hI:RInv7 l.length P F fr st){rec1:AV->AV->AV->AV->AV->AV->AV->AV->Mem->Nat->O2}{rec2:AV->AV->AV->AV->AV->AV->AV->AV->AV->Mem->Nat->O2}{n1:Nat}{t2 t3 t31 t32:AV}{Q:O2->Prop}{m:Mem}(fc:Nat)(hM:WM s p st m)(go:∀m' fc',WM s p (x2kp P st ⟨at0 F k,sg⟩) m'->Q (x2c (x2i6 (d+1)) [] 0 rec1 rec2 n1 f t2 t3 (.ptr (0,0,4) 0 0) (.sref idY 0 0 l.length 2 true) (.sref idS 0 0 l.length 1 true) (I k) (I (sg+2)) t31 t32 m' fc')) :
 Q (x2c (x2i6 (d+1)) [] 0 rec1 rec2 (n1+1) f t2 t3 (.ptr (0,0,4) 0 0) (.sref idY 0 0 l.length 2 true) (.sref idS 0 0 l.length 1 true) (I k) (I sg) t31 t32 m fc):=by
 have ix:=hf.ix x2im hk
 have ld:=fun m=>x2j0 (m:=m) hk
 have hmem:at0 F k∈F:=by rw[x2io hk];exact List.getElem_mem hk
 have hx:=hr _ hmem
 obtain⟨x,hxe⟩:∃x:Sp,x=⟨at0 F k,sg⟩:=⟨_,rfl⟩
 have hIn:InF F x:=by rw[hxe];exact⟨hmem,hsg⟩
 obtain⟨⟨a0,a1⟩,t0,t1⟩:=x2kq hP hr hIn
 have he:=fun m=>w_rends d ⟨hs.one,hs.still1⟩ hp (x:=x) (by rw[hxe];exact hx) (by rw[hxe];exact hsg) m
 rw[<-hxe]at go
 have hxp:x.p=at0 F k:=by rw[hxe]
 have hxs:x.s=sg:=by rw[hxe]
 rw[<-hxp]at ld
 rw[<-hxs]at go ⊢
 have hle:x.s<=1:=by rcases hIn.2 with e|e<;>omega
 have hbuild:x2ih [I 0,I 0] [(0,1,I x.p),(1,1,I x.s)]=some (.agg [I x.p,I x.s]):=by simp[x2ih,x2j3]
 simp only[x2c]
 unfold xf7 xf6
 simp only[sLe_I,hle,decide_true,x2iw,x2ig,ix,ld,x2s0,hbuild]
 simp only[x2qg,x2ll,Mem.get_new,if_true,x2qh]
 simp
 generalize hm1:Mem.set _ _ _=m1
 have q13:m1.get (0,fc+2+6,13)=some (.row [I x.p,I x.s] 0 false):=by rw[<-hm1];simp
 have hM1:WM s p st m1:=hM.fr fun j hj=>by
  rw[<-hm1]
  rcases hj with rfl|rfl|rfl
  .simp
  .simp[idY]
  .simp[idS]
 have ixA:sIx 1 (.sref idS 0 0 l.length 1 true) (I (frS P x))=some (.ptr idS 0 (frS P x).toNat):=x2ln a0 a1
 have ldA:sLd false 1 (.ptr idS 0 (frS P x).toNat) m1=some (B (boA st.k (frS P x))):=hM1.oS.ldB a0 (by rw[hI.k];exact a1)
 have ixT:sIx 1 (.sref idS 0 0 l.length 1 true) (I (toS P x))=some (.ptr idS 0 (toS P x).toNat):=x2ln t0 t1
 have ldT:sLd false 1 (.ptr idS 0 (toS P x).toNat) m1=some (B (boA st.k (toS P x))):=hM1.oS.ldB t0 (by rw[hI.k];exact t1)
 have ixY:sIx 2 (.sref idY 0 0 l.length 2 true) (I (toS P x))=some (.ptr idY 0 ((toS P x).toNat*2)):=ow_ix2 t0 t1
 have hb4:=hM1.b4
 have skip:x2kp P st x=st->∀fc2,Q (x6p (x2i6 (d+1)) [] 0 rec1 rec2 (x2c (x2i6 (d+1)) [] 0 rec1 rec2 n1) f t2 t3 (.ptr (0,0,4) 0 0) (.sref idY 0 0 l.length 2 true) (.sref idS 0 0 l.length 1 true) (I k) (I x.s) t31 t32 m1 fc2):=fun e fc2=>by
  unfold x6p
  simp only[x2qe,x2ig]
  rw[x2ic (by rcases hIn.2 with e|e<;>omega) (by rcases hIn.2 with e|e<;>omega)]
  exact go m1 _ (by rw[e];exact hM1)
 have hb4m:=hM.b4
 simp[-x2ll,hb4m,hb4,q13,he,ixA]
 rw[<-x2jm,ldA]
 cases ca:boA st.k (frS P x)with
 |false=>
  simp
  exact skip (by unfold x2kp;simp[ca]) _
 |true=>
  simp[-x2ll,ixT]
  rw[<-x2jm,ldT]
  cases cb:boA st.k (toS P x)with
  |true=>
   simp
   exact skip (by unfold x2kp;simp[cb]) _
  |false=>
   have hst:x2kp P st x=⟨st.y.set (toS P x).toNat x,st.k.set (toS P x).toNat true⟩:=by unfold x2kp;simp[ca,cb]
   obtain⟨y1,y2⟩:=hM1.oY.st Sp.len (k:=(toS P x).toNat) (by rw[hI.y];omega) (x:=x) (v:=.agg [I x.p,I x.s]) rfl rfl
   have hM2:WM s p ⟨st.y.set (toS P x).toNat x,st.k⟩ (m1.set idY (.row ((st.y.set (toS P x).toNat x).flatMap Sp.c) 0 false)):=⟨by rw[Mem.get_set,if_neg (by simp[idY])];exact hM1.b4,y2,hM1.oS.fr (by rw[Mem.get_set,if_neg (by simp[idY,idS])])⟩
   generalize hm2:Mem.set m1 _ _=m2 at y1 hM2
   obtain⟨s1,s2⟩:=hM2.oS.st1 (g:=B) (fun _=>rfl) (k:=toS P x) t0 (by rw[hI.k];exact t1) (x:=true) rfl rfl
   have hM3:WM s p ⟨st.y.set (toS P x).toNat x,st.k.set (toS P x).toNat true⟩ (m2.set idS (.row ((st.k.set (toS P x).toNat true).flatMap bE) 0 false)):=⟨by rw[Mem.get_set,if_neg (by simp[idS])];exact hM2.b4,hM2.oY.fr (by rw[Mem.get_set,if_neg (by simp[idY,idS])]),s2⟩
   simp[-x2ll,q13,ixY,y1,s1]
   unfold x6p
   simp only[x2qe,x2ig]
   rw[x2ic (by rcases hIn.2 with e|e<;>omega) (by rcases hIn.2 with e|e<;>omega)]
   exact go _ _ (by rw[hst];exact hM3)
theorem x2zn{F:List Int}{k:Nat}(hk:k<F.length):x2ns (F.drop k)=⟨at0 F k,-1⟩::⟨at0 F k,1⟩::x2ns (F.drop (k+1)):=by
 unfold x2ns
 rw[x2j9 hk,List.flatMap_cons,x2io hk]
 rfl
def OutS(m:Mem)(a:AV)(l:List Sp):Prop:=Sl Sp.c a l\/∃id:Id,id.1=0/\id.2.2=85/\a=.sref id 0 0 l.length 2 true/\Ow Sp.c m id l
theorem OutS.elems{m:Mem}{a:AV}{l:List Sp}(h:OutS m a l):elems m.get 2 a=some (l.flatMap Sp.c,l.length):=by
 rcases h with h|⟨id,-,-,rfl,h⟩
 .exact h.elems Sp.len m.get
 .have hl:=x2kn Sp.len l
  unfold Go.Ix.elems
  simp only
  unfold Ow at h
  rw[h]
  simp only
  rw[if_pos ⟨trivial,trivial,by omega⟩,List.drop_zero,List.take_of_length_le (by omega)]
theorem OutS.frz{m:Mem}{a:AV}{l:List Sp}(h:OutS m a l)(k:Nat):∃a',Sl Sp.c a' l/\Go.Ix.frz m.get (k+2) a=some a':=by
 rcases h with h|⟨id,-,-,rfl,h⟩
 .exact⟨a,h,x2kc _ k h.still⟩
 .exact⟨_,Sl.lit l false,x2nm (k:=k) Sp.len Sp.still h⟩
theorem l_rback(d:Nat){s p:AV}{l:List Scene}{P:List Pq}{F:List Int}(hs:Sl Scene.c s l)(hp:Sl Pq.c p P)(hP:∀p∈P,PqIn l.length p)(hr:∀i∈F,0<=i/\i<P.length){fr:Int}{st:RSt}(hI:RInv7 l.length P F fr st){T:List Sp}(hT:T.length<=1000) :
 ∀(r:List Sp) (v:Int) (acc:List Sp) (n:Nat) (o:AV) (m:Mem) (fc:Nat),Bw P F st fr r v->0<=v->v<l.length->r.length<n->WM s p st m->OutS m o acc->r.reverse++acc=T ->
 RetF (fun a=>Sl Sp.c a T) (x59 (x2i6 (d+1)) [] 0 n (I fr) (.ptr (0,0,4) 0 0) (.sref idY 0 0 l.length 2 true) o (I v) m fc):=by
 intro r
 induction r with
 |nil=>
  intro v acc n o m fc hB v0 v1 hn hM hO hE
  obtain⟨n,rfl⟩:∃i,n=i+1:=⟨n-1,by omega⟩
  have:=hB.2
  subst this
  simp only[x59]
  unfold xf4 x58
  simp
  obtain⟨a',h1,h2⟩:=hO.frz 4
  rw[<-hE]
  exact RetF.mk h2 h1
 |cons x r ih=>
  intro v acc n o m fc hB v0 v1 hn hM hO hE
  obtain⟨n,rfl⟩:∃i,n=i+1:=⟨n-1,by omega⟩
  obtain⟨b1,b2,b3,b4,b5,b6⟩:=hB
  obtain⟨⟨a0,a1⟩,-,-⟩:=x2kq hP hr b5
  have hx:=hr x.p b5.1
  have ixY:sIx 2 (.sref idY 0 0 l.length 2 true) (I v)=some (.ptr idY 0 (v.toNat*2)):=ow_ix2 v0 v1
  have hvl:v.toNat<st.y.length:=by rw[hI.y];omega
  have ldY:∀mm,WM s p st mm->sLd true 2 (.ptr idY 0 (v.toNat*2)) mm=some (.agg [I x.p,I x.s]):=fun mm hmm=>by
   have:=hmm.oY.ldS Sp.len (k:=v.toNat) hvl
   have e:st.y[v.toNat]=x:=by
    have:=b3
    unfold byA at this
    rw[List.getD_eq_getElem?_getD,List.getElem?_eq_getElem hvl]at this
    exact this
   rw[e]at this
   exact this
  have he:=fun m=>w_rends d ⟨hs.one,hs.still1⟩ hp (x:=x) hx b5.2 m
  have hlen:(r.reverse++x::acc).length<=1000:=by rw[<-List.singleton_append,<-List.append_assoc,<-List.reverse_cons,hE];exact hT
  simp at hlen
  obtain⟨o2,m2,h1,h2,h3⟩:∃o2 m2,(∀{R:Type} (K:AV->Mem->Option R),sApp 2 16 (0,fc+9,85) (Go.Ix.elems m.get 2 o) (.slit [I x.p,I x.s] 1 true) m K=K o2 m2)/\OutS m2 o2 (x::acc)/\∀j:Id,j.2.2≠85->m2.get j=m.get j:=by
   by_cases h0:acc.length=0
   .have:=List.length_eq_zero_iff.mp h0
    subst this
    refine⟨.slit [I x.p,I x.s] 1 true,m,fun K=>?_,.inl (Sl.lit [x] true),fun _ _=>rfl⟩
    rw[hO.elems]
    simp[sApp]
   .refine⟨.sref (0,fc+9,85) 0 0 (x::acc).length 2 true,m.new (0,fc+9,85) (.row ((x::acc).flatMap Sp.c) 0 false),fun K=>?_,.inr ⟨(0,fc+9,85),rfl,rfl,rfl,by unfold Ow;simp⟩,fun j hj=>by rw[Mem.get_new,if_neg (by rintro rfl;exact hj rfl)]⟩
    rw[hO.elems]
    simp only[sApp]
    rw[if_pos (by simp),if_neg h0,if_pos (by unfold x2ik;omega)]
    rw[Nat.add_comm 1]
    rfl
  have hM2:WM s p st m2:=hM.fr fun j hj=>h3 j (by rcases hj with rfl|rfl|rfl<;>simp[idY,idS])
  have hb4:=hM2.b4
  simp only[x59]
  unfold xf4
  simp only[sNe_I,decide_not,show(decide (v=fr))=false from decide_eq_false b2,Bool.not_false,x2iw,x2ig,ixY,ldY m hM,x2s0,mkLit_P]
  rw[h1]
  simp only[x2jm,hb4,x2kd,Nat.beq_refl,x2jf,List.drop_zero,rd_2,x2ig]
  rw[<-x2jm,ldY m2 hM2]
  simp[he]
  exact ih (frS P x) (x::acc) n o2 m2 _ b6 a0 a1 (by simp at hn;omega) hM2 h2 (by rw[<-hE,List.reverse_cons,List.append_assoc];rfl)
theorem a_rway(d:Nat){s p f:AV}{l:List Scene}{P:List Pq}{F:List Int}(hs:Sl Scene.c s l)(hp:Sl Pq.c p P)(hf:Ints f F)(hl:l.length<=60)(hP:∀p∈P,PqIn l.length p)(hF:For l.length P F){fr b:Int}(h0:0<=fr)(h1:fr<l.length)(b0:0<=b)(b1:b<l.length){w:List Sp}(hw:Wk P w fr b)(hwF:AllF F w)(hN:NB P w) :
 RetF (fun v=>Sl Sp.c v w) (x2i6 (d+2) [] x66 [.agg [s,p],f,I fr,I b] mem0):=by
 have hFl:=hF.len hP
 have hwl:=x2ro (hF.cut hP) hw hwF hN
 rw[x1ex]
 unfold xi2 xl6
 have ixS:sIx 1 (.sref idS 0 0 l.length 1 true) (I fr)=some (.ptr idS 0 fr.toNat):=x2ln h0 h1
 simp[-x2ll,mem0,hs.one,hp.one,hs.len x2jk,mkSl_s (n:=l.length) (by omega),mkSl_b (n:=l.length) (by omega)]
 generalize hm1:Mem.new _ _ _=m1
 have hM1:WM s p ⟨List.replicate l.length ⟨0,0⟩,List.replicate l.length false⟩ m1:=⟨by rw[<-hm1];simp,by unfold Ow;rw[<-hm1];simp[idY],by unfold Ow;rw[<-hm1];simp[idS]⟩
 obtain⟨s1,s2⟩:=hM1.oS.st1 (g:=B) (fun _=>rfl) (k:=fr) h0 (by simpa using h1) (x:=true) rfl rfl
 rw[show((0,10,25):Id)=idS from rfl,show((0,5,21):Id)=idY from rfl,ixS]
 simp only[x2ig,s1]
 generalize hm2:Mem.set m1 _ _=m2 at s2
 have hM2:WM s p (r0 l.length fr) m2:=⟨by rw[<-hm2,Mem.get_set,if_neg (by simp[idS])];exact hM1.b4,hM1.oY.fr (by rw[<-hm2,Mem.get_set,if_neg (by simp[idY,idS])]),s2⟩
 have hB:=rway_ok hP hF h0 h1 b0 b1 hw hwF hN
 have hI0:=r0_ok (P:=P) (F:=F) h0 h1
 obtain⟨hIE,-⟩:=hI0.rounds hP hF.rng h0 (k:=l.length)
 unfold xfa
 simp only[x2m0,x2jm,hM2.b4,x2kd,Nat.beq_refl,x2jf,Nat.zero_add,List.drop_zero,rd_f,x2ig,hs.len x2jk]
 refine x2j1 (N:=l.length) (fun n k (st:RSt) m fc=>x3c (x2i6 (d+1)) [] 0 n f (I fr) (I b) (.ptr (0,0,4) 0 0) (.sref idY 0 0 l.length 2 true) (.sref idS 0 0 l.length 1 true) (I l.length) (I k) m fc)
  (fun k st m=>WM s p st m/\RInv7 l.length P F fr st/\x2nt P F (l.length-k) st=x2nt P F l.length (r0 l.length fr)) _ ?_ ?_ NN 0 (r0 l.length fr) m2 _ (by omega) (by rw[x2in];omega) ⟨hM2,hI0,rfl⟩
 .rintro n k st m fc hk ⟨hM,hI,hT⟩ next
  have hk':(k:Int)<(l.length:Int):=by omega
  rw[show l.length-k=(l.length-(k+1))+1 by omega,x2nt]at hT
  simp only[x3c]
  unfold xf9 x9z
  simp only[x2iv,hk',decide_true,x2iw,x2ig]
  refine x2j1 (N:=F.length) (fun n2 j (st2:RSt) m fc=>x5a (x2i6 (d+1)) [] 0 (x3c (x2i6 (d+1)) [] 0 n) n2 f (I fr) (I b) (.ptr (0,0,4) 0 0) (.sref idY 0 0 l.length 2 true) (.sref idS 0 0 l.length 1 true) (I j) (I l.length) (I k) m fc)
   (fun j st2 m=>WM s p st2 m/\RInv7 l.length P F fr st2/\(x2ns (F.drop j)).foldl (x2kp P) st2=x2rz P F st) _ ?_ ?_ NN 0 st m _ (by omega) (by rw[x2in];omega) ⟨hM,hI,by simp[x2rz]⟩
  .rintro n2 j st2 m fc hj ⟨hM,hI,hR⟩ next2
   have hj':(j:Int)<(F.length:Int):=by omega
   have hmem:at0 F j∈F:=by rw[x2io hj];exact List.getElem_mem hj
   rw[x2zn hj,List.foldl_cons,List.foldl_cons]at hR
   simp only[x5a]
   unfold xf8 x9y
   simp only[hf.len x2il,x2iv,hj',decide_true,x2iw,x2ig]
   obtain⟨NM,hNM⟩:∃NM,NN=NM+1+1+1:=⟨NN-3,by have:=x2in;omega⟩
   rw[hNM]
   obtain⟨i1,-,-⟩:=hI.step hP hF.rng h0 (x:=⟨at0 F j,-1⟩) ⟨hmem,.inr rfl⟩
   obtain⟨i2,-,-⟩:=i1.step hP hF.rng h0 (x:=⟨at0 F j,1⟩) ⟨hmem,.inl rfl⟩
   refine l_rtry d hs hp hf hP hF.rng (by omega) hj (-1) (.inr rfl) hI _ hM fun m3 fc3 hM3=>?_
   refine l_rtry d hs hp hf hP hF.rng (by omega) hj 1 (.inl rfl) i1 _ hM3 fun m4 fc4 hM4=>?_
   simp only[x2c]
   unfold xf7 xj
   simp(disch:=omega) [x2ic]
   exact next2 _ m4 _ ⟨hM4,i2,hR⟩
  .rintro n2 st2 m fc ⟨hM,hI,hR⟩
   rw[List.drop_of_length_le (Nat.le_refl _)]at hR
   have hR':st2=x2rz P F st:=hR
   subst hR'
   simp only[x5a]
   unfold xf8 x6
   simp(disch:=omega) [hf.len x2il,x2ic]
   exact next _ m _ ⟨hM,hI,hT⟩
 .rintro n st m fc ⟨hM,hI,hT⟩
  rw[Nat.sub_self,x2nt]at hT
  rw[<-hT]at hB
  simp only[x3c]
  unfold xf9 xb xf5
  simp
  refine l_rback d hs hp hP hF.rng hI (T:=w) (by omega) w.reverse b [] NN nilS m _ hB b0 b1 (by rw[x2in];simp;omega) hM (.inl (Or.inl ⟨rfl,rfl⟩)) (by simp)
theorem w_rway(d:Nat){s p f:AV}{l:List Scene}{P:List Pq}{F:List Int}(hs:Sl Scene.c s l)(hp:Sl Pq.c p P)(hf:Ints f F)(hl:l.length<=60)(hP:∀p∈P,PqIn l.length p)(hF:For l.length P F){fr b:Int}(h0:0<=fr)(h1:fr<l.length)(b0:0<=b)(b1:b<l.length){w:List Sp}(hw:Wk P w fr b)(hwF:AllF F w)(hN:NB P w)(m:Mem) :
 ∃v,Sl Sp.c v w/\x2i8 (x2i6 (d+2)) x66 [.agg [s,p],f,I fr,I b] m=some (v,m):=
 x2k6 (by simp[hs.still1,hp.still1,hf.still]) (a_rway d hs hp hf hl hP hF h0 h1 b0 b1 hw hwF hN) m
end Go.Ix
