import Derived.Test.YtpeakdjfagbpcaaGreatWg7
import Derived.Test.YtpeakdjfagbpcaaGreatWg5
import Derived.Test.YtpeakdjfagbpcaaGreatWg6
import Derived.Test.YtpeakdjfagbpcaaGreatWg4
import Derived.Test.YtpeakdjfagbpcaaGreatWg3
set_option linter.unusedSimpArgs false
set_option linter.unusedVariables false
namespace Go.Ix
open Go.Proofs
def GkF(ok:Id->Prop)(m:Mem)(a:AV)(l:List Int):Prop:=(a=nilS/\l=[])\/∃id ver b,ok id/\a=.sref id ver 0 l.length 1 true/\m.get id=some (.row (l.flatMap intE) ver b)
theorem Gk.toF{ok:Id->Prop}{m:Mem}{a:AV}{l:List Int}(h:Gk 1 intE ok m a l):GkF ok m a l:=by
 rcases h with h|⟨id,ver,h1,h2,h3⟩
 .exact .inl h
 .exact .inr ⟨id,ver,false,h1,h2,h3⟩
theorem GkF.frame{ok:Id->Prop}{m m':Mem}{a:AV}{l:List Int}(h:GkF ok m a l)(hm:∀id,ok id->m'.get id=m.get id):GkF ok m' a l:=by
 rcases h with h|⟨id,ver,b,h0,h1,h2⟩
 .exact Or.inl h
 .exact Or.inr ⟨id,ver,b,h0,h1,by rw[hm _ h0];exact h2⟩
theorem x1gf(objs:Id->Option Ob)(k:Nat):∀l:List Int,(l.flatMap intE).flatMap (x13l objs k)=[]
 |[]=>rfl
 |x::r=>by
  rw[List.flatMap_cons,List.flatMap_append,x1gf objs k r]
  cases k<;>rfl
theorem w_HasF(d:Nat){ok:Id->Prop}{m:Mem}{a:AV}{l:List Int}{x:Int}(h:GkF ok m a l)(hl:l.length<=1000000) :
 ∃m2,x13f (x13e (d+1)) x1d [a,I x] m=some (B (l.any fun y=>decide (y=x)),m2)/\GkF ok m2 a l/\m2.next=m.next/\x169 ok m m2:=by
 rcases h with ⟨rfl,rfl⟩|⟨id,ver,b,h0,rfl,hg⟩
 .exact⟨m,w_Has d (Or.inl ⟨rfl,rfl⟩) (by simp) m,.inl ⟨rfl,rfl⟩,rfl,fun _ _=>rfl⟩
 .have hfl:=x17k l
  obtain⟨a',ha',hfz⟩:∃a',Ints a' l/\Go.Ix.frz m.get deep (.sref id ver 0 l.length 1 true)=some a':=by
   refine⟨.slit (l.flatMap intE) l.length false,Sl.lit l false,?_⟩
   have:=x194 (objs:=m.get) (id:=id) (cs:=l.flatMap intE) (ver:=ver) (off:=0) (n:=l.length) (z:=1) (k:=4) (f:=b) (x:=true) hg (by omega) (by
    rw[List.drop_zero,List.take_of_length_le (by omega)];exact x185 x195 l)
   rw[List.drop_zero,List.take_of_length_le (by omega)]at this
   exact this
  have hw:=w_Has d (x:=x) ha' hl mem0
  have hl2:[a',I x].mapM (Go.Ix.frz mem0.get deep)=some [a',I x]:=x1ax _ (by simp[ha'.still])
  unfold x13f at hw ⊢
  rw[hl2]at hw
  rw[show[AV.sref id ver 0 l.length 1 true,I x].mapM (Go.Ix.frz m.get deep)=some [a',I x]from by simp only[List.mapM_cons,List.mapM_nil,hfz];rfl]
  simp only at hw ⊢
  cases hc:x13e (d+1) [] x1d [a',I x] mem0 with
  |none=>rw[hc]at hw;cases hw
  |some r=>
   obtain⟨r,m'⟩:=r
   rw[hc]at hw
   simp only[Option.map_eq_some_iff,Prod.mk.injEq]at hw
   obtain⟨v,hv,rfl,-⟩:=hw
   have hr:[AV.sref id ver 0 l.length 1 true,I x].flatMap (x13l m.get deep)=[id]:=by
    have h1:x13l m.get deep (.sref id ver 0 l.length 1 true)=[id]:=by
     show(match m.get id with
      |some (.row cs _ _)=>id::((cs.drop 0).take (l.length*1)).flatMap (x13l m.get 5)
      |_=>[id])=[id]
     rw[hg]
     simp only[List.drop_zero]
     rw[List.take_of_length_le (by omega),x1gf]
    simp only[List.flatMap_cons,List.flatMap_nil,h1]
    rfl
   have hm2:∀j,(⟨x165 [id] m.hp,m.next⟩:Mem).get j=shut [id] m.get j:=fun j=>congrFun (x1av [id] m.hp) j
   refine⟨⟨x165 [id] m.hp,m.next⟩,?_,.inr ⟨id,ver,true,h0,rfl,?_⟩,rfl,fun j hj=>?_⟩
   .simp only[hv,hr]
    rfl
   .rw[hm2];unfold shut;rw[if_pos (by simp),hg]
   .rw[hm2];unfold shut;rw[if_neg (by simp;rintro rfl;exact hj h0)]
def BestI(f:Int->Int)(S:List Int)(i:Nat)(b:Int):Prop:=(b=-1/\∀j:Nat,j<i->(j:Int)∈S)\/((0<=b/\b<i)/\b∉S/\∀j:Nat,j<i->(j:Int)∉S->(j:Int)=b\/lx f b j)
theorem BestI.in_{f:Int->Int}{S:List Int}{i:Nat}{b:Int}(h:BestI f S i b)(hi:(i:Int)∈S):BestI f S (i+1) b:=by
 rcases h with ⟨h1,h2⟩|⟨h1,h2,h3⟩
 .refine .inl ⟨h1,fun j hj=>?_⟩
  by_cases c:j=i
  .rw[c];exact hi
  .exact h2 j (by omega)
 .refine .inr ⟨by omega,h2,fun j hj hn=>?_⟩
  by_cases c:j=i
  .rw[c]at hn;exact absurd hi hn
  .exact h3 j (by omega) hn
theorem BestI.take_{f:Int->Int}{S:List Int}{i:Nat}{b:Int}(h:BestI f S i b)(hi:(i:Int)∉S)(hc:b<0\/f i<f b):BestI f S (i+1) i:=by
 refine .inr ⟨by omega,hi,fun j hj hn=>?_⟩
 by_cases c:j=i
 .exact .inl (by rw[c])
 .right
  rcases h with ⟨h1,h2⟩|⟨h1,h2,h3⟩
  .exact absurd (h2 j (by omega)) hn
  .have hfb:f i<f b:=hc.resolve_left (by omega)
   rcases h3 j (by omega) hn with e|e
   .rw[e];exact .inl hfb
   .unfold lx at *;omega
theorem BestI.leave{f:Int->Int}{S:List Int}{i:Nat}{b:Int}(h:BestI f S i b)(hi:(i:Int)∉S)(hb:0<=b)(hc:¬f i<f b):BestI f S (i+1) b:=by
 rcases h with ⟨h1,h2⟩|⟨h1,h2,h3⟩
 .omega
 .refine .inr ⟨by omega,h2,fun j hj hn=>?_⟩
  by_cases c:j=i
  .right;rw[c];unfold lx;omega
  .exact h3 j (by omega) hn
theorem BestI.fin{f:Int->Int}{N:Nat}{k:Nat}{b:Int}(h:BestI f ((ordM f N).take k) N b)(hk:k<N):b=at0 (ordM f N) k:=by
 have hl:=x1ab f N
 have hO:=x174 f N
 have hkl:k<(ordM f N).length:=by omega
 have hx:=(InN.get (ord_rng (f:=f) (N:=N)) hkl)
 have hnd:=hO.nodup
 have hxn:at0 (ordM f N) k∉(ordM f N).take k:=fun hm=>by
  obtain⟨j,hj,e⟩:=List.mem_iff_getElem.mp hm
  rw[List.getElem_take,x13s hkl]at e
  simp at hj
  exact List.pairwise_iff_getElem.mp hnd j k (by omega) hkl (by omega) e
 rcases h with ⟨h1,h2⟩|⟨h1,h2,h3⟩
 .have:=h2 (at0 (ordM f N) k).toNat (by omega)
  rw[Int.toNat_of_nonneg hx.1]at this
  exact absurd this hxn
 .have h4:=h3 (at0 (ordM f N) k).toNat (by omega) (by rw[Int.toNat_of_nonneg hx.1];exact hxn)
  rw[Int.toNat_of_nonneg hx.1]at h4
  rcases h4 with e|e
  .exact e.symm
  .have hb:b∈ordM f N:=(hO.2 b).mpr h1
   rw[<-List.take_append_drop k (ordM f N),List.mem_append]at hb
   have hb2:=hb.resolve_left h2
   rw[x14f hkl,List.mem_cons]at hb2
   rcases hb2 with e2|e2
   .rw[x13s hkl];exact e2
   .have hs:=hO.1
    rw[<-List.take_append_drop k (ordM f N),x14f hkl]at hs
    have:=(List.pairwise_cons.mp (List.pairwise_append.mp hs).2.1).1 b e2
    rw[x13s hkl]at e
    exact(lx_asym _ _ this e).elim
def idD:Id:=(0,8,15)
def DoneI(f:Int->Int)(N k:Nat)(D:List Bool):Prop:=D.length=N/\∀i:Nat,i<N->D.getD i false=decide ((i:Int)∈(ordM f N).take k)
theorem DoneI.next{f:Int->Int}{N k:Nat}{D:List Bool}(h:DoneI f N k D)(hk:k<N):DoneI f N (k+1) (D.set (at0 (ordM f N) k).toNat true):=by
 have hl:=x1ab f N
 have hkl:k<(ordM f N).length:=by omega
 have hx:=InN.get (ord_rng (f:=f) (N:=N)) hkl
 refine⟨by simp[h.1],fun i hi=>?_⟩
 rw[List.take_succ_eq_append_getElem hkl,<-x13s hkl,List.getD_eq_getElem?_getD,List.getElem?_set]
 have h2:=h.2 i hi
 rw[List.getD_eq_getElem?_getD]at h2
 by_cases c:(at0 (ordM f N) k).toNat=i
 .rw[if_pos c,if_pos (by rw[h.1];omega)]
  have:(i:Int)=at0 (ordM f N) k:=by omega
  simp[this]
 .rw[if_neg c,h2]
  have:¬(i:Int)=at0 (ordM f N) k:=by omega
  simp[this]
structure RL (s p:AV) (f:Int->Int) (n:Nat) (P:List Pq) (k:Nat) (t4:AV) (m:Mem):Prop where
 b1:m.get (0,0,1)=some (.row [s,p] 0 false)
 dn:∃D,Ow bE m idD D/\DoneI f P.length k D
 tk:Gk 1 intE (okU7 0 75) m t4 (takeM P (freshM n) ((ordM f P.length).take k))
 nx:1<=m.next
theorem takeS(f:Int->Int)(n:Nat)(P:List Pq){k:Nat}(hk:k<P.length):takeM P (freshM n) ((ordM f P.length).take (k+1))=takeM P (freshM n) ((ordM f P.length).take k)++(if at0 (uniM n P ((ordM f P.length).take k)) (prAt P (at0 (ordM f P.length) k)).a.toNat=at0 (uniM n P ((ordM f P.length).take k)) (prAt P (at0 (ordM f P.length) k)).b.toNat then[]else[at0 (ordM f P.length) k]):=by
 have hkl:k<(ordM f P.length).length:=by rw[x1ab];exact hk
 rw[List.take_succ_eq_append_getElem hkl,x1fx,x13s hkl]
 rfl
theorem sumT_in{l:List Scene}{P:List Pq}(hR:Right7 l P){T:List Int}(hT:∀i∈T,0<=i/\i<P.length):0<=(T.map (fW l P)).sum/\(T.map (fW l P)).sum<=T.length*300000:=by
 have:=sumL_in hR.ib (F:=T) fun i hi=>⟨hT i hi,hR.at (hT i hi)⟩
 rw[x1d7]at this
 rw[show fW l P=fun i=>lenP l (prAt P i)from rfl]
 simpa using this
theorem l_rbest(d:Nat){s p:AV}{l:List Scene}{P:List Pq}(hs:Sl Scene.c s l)(hp:Sl Pq.c p P)(hR:Right7 l P){k:Nat}(hk:k<P.length)(t4 t5 t18:AV)(rec1:AV->AV->AV->AV->AV->AV->Mem->Nat->O2)(Q:O2->Prop){D:List Bool}(hD:DoneI (fW l P) P.length k D){m:Mem}(b1:m.get (0,0,1)=some (.row [s,p] 0 false))(bD:Ow bE m idD D)(hn:1<=m.next)(hQ:∀fc,Q (xv (x13e (d+3)) [] 0 rec1 (.ptr (0,0,1) 0 0) t4 t5 (.sref idD 0 0 P.length 1 true) (I (at0 (ordM (fW l P) P.length) k)) t18 (I k) m fc)) :
 ∀(n i:Nat) (b:Int) (m':Mem) (fc:Nat),i<=P.length->P.length<n+i->(m'=m/\BestI (fW l P) ((ordM (fW l P) P.length).take k) i b) ->
 Q (x1j (x13e (d+3)) [] 0 rec1 n (.ptr (0,0,1) 0 0) t4 t5 (.sref idD 0 0 P.length 1 true) (I b) (I i) t18 (I k) m' fc):=by
 have hpl:=hR.pl
 refine x142 (fun n i b m fc=>x1j (x13e (d+3)) [] 0 rec1 n (.ptr (0,0,1) 0 0) t4 t5 (.sref idD 0 0 P.length 1 true) (I b) (I i) t18 (I k) m fc) (fun i b m'=>m'=m/\BestI (fW l P) ((ordM (fW l P) P.length).take k) i b) Q ?_ ?_
 .rintro n i b m' fc hi ⟨rfl,hB⟩ next
  have hi':(i:Int)<(P.length:Int):=by omega
  have ixD:sIx 1 (.sref idD 0 0 P.length 1 true) (I (i:Int))=some (.ptr idD 0 (i:Int).toNat):=x1a9 (by omega) hi'
  have ldD:=bD.ldB (k:=(i:Int)) (by omega) (by rw[hD.1];exact hi')
  rw[Int.toNat_natCast,hD.2 i hi]at ldD
  rw[Int.toNat_natCast]at ixD
  have hbn:Nat.blt 0 m'.next=true:=by rw[Nat.blt_eq];omega
  simp only[x1j]
  unfold x6r x6q
  by_cases c1:(i:Int)∈(ordM (fW l P) P.length).take k
  .rw[decide_eq_true c1]at ldD
   simp only[x183,x15b,b1,x170,Nat.beq_refl,x14t,Nat.zero_add,List.drop_succ_cons,List.drop_zero,rd_f,x13n,hp.len x14n,x14b,hi',decide_true,x14c,ixD]
   rw[<-x15b,ldD]
   simp[cAp,tR,hbn]
   unfold x2g
   simp(disch:=omega) [x13j]
   exact next b _ _ ⟨rfl,hB.in_ c1⟩
  .rw[decide_eq_false c1]at ldD
   have hi2:=hR.at (i:=(i:Int)) ⟨by omega,hi'⟩
   have hli:=x1cy (d+1) hs hp hR.ib ⟨by omega,hi'⟩ hi2 m'
   simp only[x183,x15b,b1,x170,Nat.beq_refl,x14t,Nat.zero_add,List.drop_succ_cons,List.drop_zero,rd_f,x13n,hp.len x14n,x14b,hi',decide_true,x14c,ixD]
   rw[<-x15b,ldD]
   by_cases c2:b<0
   .simp[c2,cAp,tR,hbn]
    unfold x2g
    simp(disch:=omega) [x13j]
    exact next (i:Int) _ _ ⟨rfl,hB.take_ c1 (.inl c2)⟩
   .have hb:0<=b/\b<P.length:=by
     rcases hB with ⟨h1,-⟩|⟨h1,-⟩<;>omega
    have hlb:=x1cy (d+1) hs hp hR.ib hb (hR.at hb) m'
    simp[c2,b1,hli,hlb,hs.clean1,hp.clean1,cAp,tR,hbn]
    by_cases c3:fW l P i<fW l P b
    .have c3':lenP l (prAt P (i:Int))<lenP l (prAt P b):=c3
     simp[c3']
     unfold x2g
     simp(disch:=omega) [x13j]
     exact next (i:Int) _ _ ⟨rfl,hB.take_ c1 (.inr c3)⟩
    .have c3':¬lenP l (prAt P (i:Int))<lenP l (prAt P b):=c3
     simp[c3']
     unfold x2g
     simp(disch:=omega) [x13j]
     exact next b _ _ ⟨rfl,hB.leave c1 hb.1 c3⟩
 .rintro n b m' fc ⟨rfl,hB⟩
  have hb:=hB.fin hk
  subst hb
  simp only[x1j]
  unfold x6r
  simp[b1,hp.len x14n]
  exact hQ _
theorem x1iq(d:Nat){s p:AV}{l:List Scene}{P:List Pq}(hs:Sl Scene.c s l)(hp:Sl Pq.c p P)(hR:Right7 l P) :
 RetF (fun v=>∃a,v=.tup [a,I ((x14h (fW l P) l.length P).map (fW l P)).sum]/\Ints a (x143 (fW l P) l.length P)) (x13e (d+4) [] x3h [.agg [s,p]] mem0):=by
 have hpl:=hR.pl
 have hll:=hR.ll
 rw[xlp]
 unfold x99 xb8 x6u
 simp[mem0,hs.one,hp.one,hp.len x14n,mkSl_b (n:=P.length) (by omega)]
 have hol:=x1ab (fW l P) P.length
 refine x142 (N:=P.length) (fun n k t4 m fc=>x16 (x13e (d+3)) [] 0 n (.ptr (0,0,1) 0 0) t4 (I ((takeM P (freshM l.length) ((ordM (fW l P) P.length).take k)).map (fW l P)).sum) (.sref idD 0 0 P.length 1 true) (I P.length) (I k) m fc)
  (fun k t4 m=>RL s p (fW l P) l.length P k t4 m) _ ?_ ?_ NN 0 nilS _ _ (by omega) (by rw[x13p];omega)
  ⟨by simp,⟨List.replicate P.length false,by unfold Ow;simp[idD],by simp,fun i hi=>by simp[List.getD_eq_getElem?_getD,hi]⟩,by simpa[takeM]using Gk.nil,by simp⟩
 .rintro n k t4 m fc hk ⟨b1,⟨D,bD,hD⟩,hT,hn⟩ next
  have hk':(k:Int)<(P.length:Int):=by omega
  simp only[x16]
  unfold x6t x5j x6s
  simp only[x14b,hk',decide_true,x14c,x13n]
  refine l_rbest d hs hp hR hk t4 _ (I P.length) (x16 (x13e (d+3)) [] 0 n) _ hD b1 bD hn (fun fc=>?_) NN 0 (-1) m _ (by omega) (by rw[x13p];omega) ⟨rfl,.inl ⟨rfl,fun j hj=>by omega⟩⟩
  have hkl:k<(ordM (fW l P) P.length).length:=by omega
  have hx:=InN.get (ord_rng (f:=fW l P) (N:=P.length)) hkl
  have hts:=takeS (fW l P) l.length P hk
  have hDn:=hD.next hk
  have hTr:∀i∈takeM P (freshM l.length) ((ordM (fW l P) P.length).take k),0<=i/\i<P.length:=fun i hi=>ord_rng _ (List.mem_of_mem_take ((x17l _ _).subset hi))
  have htl:(takeM P (freshM l.length) ((ordM (fW l P) P.length).take k)).length<=P.length:=by
   have h1:=(x17l (P:=P) ((ordM (fW l P) P.length).take k) (freshM l.length)).length_le
   simp at h1
   omega
  have hTj:uniM l.length P (takeM P (freshM l.length) ((ordM (fW l P) P.length).take k))=uniM l.length P ((ordM (fW l P) P.length).take k):=x1b9 _ _
  have hsum:=sumT_in hR hTr
  obtain⟨x,hxe⟩:∃x,x=at0 (ordM (fW l P) P.length) k:=⟨_,rfl⟩
  rw[<-hxe]at hx hts hDn ⊢
  have hq:=hR.at hx
  obtain⟨q0,q1,q2⟩:=hq
  have ixD:sIx 1 (.sref idD 0 0 P.length 1 true) (I x)=some (.ptr idD 0 x.toNat):=x1a9 hx.1 hx.2
  obtain⟨st1,st2⟩:=bD.st1 (g:=B) (fun _=>rfl) (k:=x) hx.1 (by rw[hD.1];exact hx.2) (x:=true) rfl rfl
  unfold xv
  simp only[ixD,x13n,st1]
  generalize hm1:Mem.set m _ _=m1 at st2 ⊢
  have hm1g:∀j:Id,j≠idD->m1.get j=m.get j:=fun j hj=>by rw[<-hm1,Mem.get_set,if_neg hj]
  have hm1n:m1.next=m.next:=by rw[<-hm1];rfl
  have c1:m1.get (0,0,1)=some (.row [s,p] 0 false):=by rw[hm1g _ (by simp[idD])];exact b1
  have hT1:Gk 1 intE (okU7 0 75) m1 t4 (takeM P (freshM l.length) ((ordM (fW l P) P.length).take k)):=hT.frame fun j hj=>hm1g j (by unfold idD;rintro rfl;exact absurd hj.2 (by simp))
  obtain⟨a,m2,e1,e2,e3,e4⟩:=g_joined (d+2) [] (m0:=m1) (f:=t4) (F:=takeM P (freshM l.length) ((ordM (fW l P) P.length).take k)) hs hp (hT1.len x13w)
   (fun mm hmm j hj=>by
    have hG:Gk 1 intE (okU7 0 75) mm t4 (takeM P (freshM l.length) ((ordM (fW l P) P.length).take k)):=hT1.frame fun i hi=>hmm i (by have:=hi.1;omega)
    rcases hG with ⟨_,h0⟩|⟨id,ver,hid,rfl,hg⟩
    .rw[h0]at hj;simp at hj
    .refine⟨.ptr id ver j,?_,?_,fun aa bb=>?_⟩
     .have:(j:Int)<((takeM P (freshM l.length) ((ordM (fW l P) P.length).take k)).length:Int):=by omega
      simp[sIx,asI,this]
     .rw[ld_ptr hg,rd,if_neg (by simp),x18a,<-List.map_drop,x14f hj,<-x13s hj]
      rfl
     .have:=hid.1
      simp only[tR,x13i,disj]
      simp
      intro h1
      rw[h1]at this
      simp at this
      omega) (fun i hi=>⟨hTr i hi,hR.at (hTr i hi)⟩) hll (by omega)
  rw[hTj]at e2
  have k0:∀j:Id,j.1=0->m2.get j=m1.get j:=fun j hj=>e4 j (by omega)
  have c2:m2.get (0,0,1)=some (.row [s,p] 0 false):=by rw[k0 _ rfl];exact c1
  have hT2:Gk 1 intE (okU7 0 75) m2 t4 (takeM P (freshM l.length) ((ordM (fW l P) P.length).take k)):=hT1.frame fun j hj=>k0 j hj.1
  have hL:=(x1cz (ord_Rng hR (fW l P) k)).len
  obtain⟨qa,ia,la,-⟩:=e2.at (k:=(prAt P x).a) q0 (by rw[hL];omega)
  obtain⟨qb,ib,lb,-⟩:=e2.at (k:=(prAt P x).b) (by omega) (by rw[hL];omega)
  have ip:=hp.ixz Pq.len hx.1 hx.2
  have l0:=fun m=>x171 (m:=m) (enc:=Pq.c) (show x.toNat<P.length by omega) 0 rfl
  have l1:=fun m=>x171 (m:=m) (enc:=Pq.c) (show x.toNat<P.length by omega) 1 rfl
  rw[<-x18d (by omega)]at l0 l1
  simp only[List.drop_zero]at l0
  simp only[List.drop_one]at l1
  simp[c1,e1,c2,ip,l0,l1,ia,ib,la,lb]
  by_cases c3:at0 (uniM l.length P ((ordM (fW l P) P.length).take k)) (prAt P x).a.toNat=at0 (uniM l.length P ((ordM (fW l P) P.length).take k)) (prAt P x).b.toNat
  .rw[if_pos c3,List.append_nil]at hts
   simp[c3]
   unfold xc
   simp(disch:=omega) [x13j]
   have:=next t4 m2 (fc+27+2) ⟨c2,⟨_,st2.fr (k0 _ rfl),hDn⟩,by rw[hts];exact hT2,by omega⟩
   rw[hts]at this
   exact this
  .rw[if_neg c3]at hts
   obtain⟨t42,m3,a1,a2,-,-,a3,a4⟩:=hT2.app (bytes:=8) (id0:=(0,fc+30,75)) x14m (by omega) ⟨rfl,rfl⟩ (by unfold x13o;omega) x
   have hlx:=x1cy (d+1) hs hp hR.ib hx (hR.at hx) m3
   have hlin:=x1b7 hR.ib (hR.at hx)
   have c3m:m3.get (0,0,1)=some (.row [s,p] 0 false):=by rw[a4 _ (by unfold okU7;simp)];exact c2
   simp[c3,x17h]
   rw[show ∀x:Int,elems m2.get 1 (.slit [I x] 1 true)=some (intE x,1)from fun _=>rfl,a1]
   simp[c3m,hlx,hs.clean1,hp.clean1,tR,tX,x13i,disj]
   rw[x13j (by omega) (by omega)]
   have hfin:∀fc2,RetF (fun v=>∃a,v=.tup [a,I ((x14h (fW l P) l.length P).map (fW l P)).sum]/\Ints a (x143 (fW l P) l.length P)) (xc (x13e (d+3)) [] 0 (x16 (x13e (d+3)) [] 0 n) (.ptr (0,0,1) 0 0) t42 (I (((takeM P (freshM l.length) ((ordM (fW l P) P.length).take k)).map (fW l P)).sum+lenP l (prAt P x))) (.sref idD 0 0 P.length 1 true) (I P.length) (I k) m3 fc2):=fun fc2=>by
    unfold xc
    simp(disch:=omega) [x13j]
    have:=next t42 m3 (fc2+2) ⟨c3m,⟨_,st2.fr (by rw[a4 _ (by unfold okU7 idD;simp),k0 _ rfl]),hDn⟩,by rw[hts];exact a2,by omega⟩
    rw[hts,List.map_append,List.sum_append]at this
    simpa[fW]using this
   rcases hT2 with ⟨rfl,-⟩|⟨id,ver,hid,rfl,hg⟩
   .have e:tA (0,fc+30,75) nilS=some [(0,fc+30,75)]:=rfl
    simp[e]
    exact hfin _
   .have hne:¬((0,0,1):Id)=id:=by rintro rfl;exact absurd hid.2 (by simp)
    have e:tA (0,fc+30,75) (.sref id ver 0 (takeM P (freshM l.length) ((ordM (fW l P) P.length).take k)).length 1 true)=some [id]:=rfl
    simp[e,hne]
    exact hfin _
 .rintro n t4 m fc ⟨b1,-,hT,hn⟩
  rw[List.take_of_length_le (by omega)]at hT ⊢
  have hTL:takeM P (freshM l.length) (ordM (fW l P) P.length)=x14h (fW l P) l.length P:=rfl
  rw[hTL]at hT ⊢
  simp only[x16]
  unfold x6t xb x6p
  simp
  have hlm:∀j:Nat,(x143 (fW l P) l.length P)=(freshM P.length).filter fun i=>(x14h (fW l P) l.length P).contains i:=fun _=>rfl
  have htl:(x14h (fW l P) l.length P).length<=P.length:=by
   have h1:=(x17l (P:=P) (ordM (fW l P) P.length) (freshM l.length)).length_le
   rw[hol]at h1
   exact h1
  refine x142 (N:=P.length) (fun n k o m fc=>x2f (x13e (d+3)) [] 0 n (.ptr (0,0,1) 0 0) t4 (I ((x14h (fW l P) l.length P).map (fW l P)).sum) o (I k) m fc)
   (fun k o m=>m.get (0,0,1)=some (.row [s,p] 0 false)/\GkF (okU7 0 75) m t4 (x14h (fW l P) l.length P)/\Gk 1 intE (okU7 0 95) m o (((freshM P.length).take k).filter fun i=>(x14h (fW l P) l.length P).contains i)) _ ?_ ?_ NN 0 nilS m _ (by omega) (by rw[x13p];omega) ⟨b1,hT.toF,by simpa using Gk.nil⟩
  .rintro n k o m fc hk ⟨b1,hF,hO⟩ next
   have hk':(k:Int)<(P.length:Int):=by omega
   obtain⟨m2,h1,h2,h3,h4⟩:=w_HasF (d+2) (x:=(k:Int)) hF (by omega)
   have c1:m2.get (0,0,1)=some (.row [s,p] 0 false):=by rw[h4 _ (by unfold okU7;simp)];exact b1
   have hO2:Gk 1 intE (okU7 0 95) m2 o (((freshM P.length).take k).filter fun i=>(x14h (fW l P) l.length P).contains i):=hO.frame fun j hj=>h4 j (by have:=hj.2;unfold okU7;omega)
   have hsn:((freshM P.length).take (k+1)).filter (fun i=>(x14h (fW l P) l.length P).contains i)=((freshM P.length).take k).filter (fun i=>(x14h (fW l P) l.length P).contains i)++(if(x14h (fW l P) l.length P).contains (k:Int)then[(k:Int)]else[]):=by
    rw[<-x18c hk,List.filter_append]
    congr 1
    simp[List.filter_cons]
   have hany:((x14h (fW l P) l.length P).any fun y=>decide (y=(k:Int)))=(x14h (fW l P) l.length P).contains (k:Int):=by
    rw[Bool.eq_iff_iff,List.any_eq_true,List.contains_iff_mem]
    simp
   have hfl:(((freshM P.length).take k).filter fun i=>(x14h (fW l P) l.length P).contains i).length<=P.length:=by
    have h1:=List.length_filter_le (fun i=>(x14h (fW l P) l.length P).contains i) ((freshM P.length).take k)
    have h2:((freshM P.length).take k).length<=P.length:=by simp[freshM];omega
    omega
   rw[hany]at h1
   simp only[x2f]
   unfold x6o x6n
   simp only[x183,x15b,b1,x170,Nat.beq_refl,x14t,Nat.zero_add,List.drop_succ_cons,List.drop_zero,rd_f,x13n,hp.len x14n,x14b,hk',decide_true,x14c,h1]
   cases hc:(x14h (fW l P) l.length P).contains (k:Int)with
   |true=>
    rw[hc,if_pos rfl]at hsn
    obtain⟨o2,m3,a1,a2,-,-,a3,a4⟩:=hO2.app (bytes:=8) (id0:=(0,fc+5+6,95)) x14m (by omega) ⟨rfl,rfl⟩ (by unfold x13o;omega) (k:Int)
    simp only[x14c,x17h,mkLit_I]
    rw[show ∀x:Int,elems m2.get 1 (.slit [I x] 1 true)=some (intE x,1)from fun _=>rfl,a1]
    unfold x51
    simp(disch:=omega) [x13j]
    exact next o2 m3 _ ⟨by rw[a4 _ (by unfold okU7;simp)];exact c1,h2.frame fun j hj=>a4 j (by have:=hj.2;unfold okU7;omega),by rw[hsn];exact a2⟩
   |false=>
    rw[hc,if_neg (by simp),List.append_nil]at hsn
    simp only[x17f]
    unfold x51
    simp(disch:=omega) [x13j]
    exact next o m2 _ ⟨c1,h2,by rw[hsn];exact hO2⟩
  .rintro n o m fc ⟨b1,hF,hO⟩
   rw[List.take_of_length_le (by simp[freshM])]at hO
   simp only[x2f]
   unfold x6o xz
   simp[b1,hp.len x14n]
   obtain⟨a',h1,h2⟩:=hO.sl1 3
   exact RetF.mk (x1az h2 x188) ⟨a',rfl,h1⟩
theorem x1ir(d:Nat){s p:AV}{l:List Scene}{P:List Pq}(hs:Sl Scene.c s l)(hp:Sl Pq.c p P)(hR:Right7 l P)(m:Mem) :
 ∃a,Ints a (x143 (fW l P) l.length P)/\x13f (x13e (d+4)) x3h [.agg [s,p]] m=some (.tup [a,I ((x14h (fW l P) l.length P).map (fW l P)).sum],m):=by
 obtain⟨v,⟨a,rfl,h1⟩,hc⟩:=x15c (by simp[hs.still1,hp.still1]) (x1iq d hs hp hR) m
 exact⟨a,h1,hc⟩
end Go.Ix
namespace Go.Ix
variable{P:List Pq}{n:Nat}{F:List Int}
structure DS (n:Nat) (φ:Int->Int) (O:List Int) (K:List Bool):Prop where
 lo:O.length=n
 lk:K.length=n
 kn:∀v:Int,0<=v->v<n->boA K v=true->at0 O v.toNat=φ v
def Sub(n:Nat)(K L:List Bool):Prop:=∀v:Int,0<=v->v<n->boA K v=true->boA L v=true
def Clo(P:List Pq)(F:List Int)(K L:List Bool):Prop:=∀x,InF F x->boA K (frS P x)=false->boA L (frS P x)=true->boA L (toS P x)=true
def Cls(P:List Pq)(F:List Int)(K:List Bool):Prop:=∀x,InF F x->boA K (frS P x)=true->boA K (toS P x)=true
theorem Clo.trans(hP:∀p∈P,PqIn n p)(hr:∀i∈F,0<=i/\i<P.length){K L M:List Bool}(h:Clo P F K L)(h2:Clo P F L M)(hs:Sub n L M):Clo P F K M:=fun x hx h0 h1=>by
 cases c:boA L (frS P x)with
 |true=>exact hs _ (x16o hP hr hx).2.1 (x16o hP hr hx).2.2 (h x hx h0 c)
 |false=>exact h2 x hx c h1
theorem Cls.walk{K:List Bool}(h:Cls P F K):∀{w:List Sp} {a b:Int},Wk P w a b->AllF F w->boA K a=true->boA K b=true
 |[],_,_,hw,_,ha=>by cases hw;exact ha
 |x::r,a,b,hw,hF,ha=>Cls.walk h hw.2 hF.tail (h x hF.head (by rw[hw.1];exact ha))
def phiL(n:Nat)(φ:Int->Int):List Int:=(List.range n).map fun(v:Nat)=>φ v
theorem phiL_len(n:Nat)(φ:Int->Int):(phiL n φ).length=n:=by simp[phiL]
theorem DS.all{φ:Int->Int}{O:List Int}{K:List Bool}(h:DS n φ O K)(hk:∀j:Nat,j<n->boA K j=true):O=phiL n φ:=by
 apply List.ext_getElem
 .rw[h.lo,phiL_len]
 .intro i h1 h2
  have hi:i<n:=by rw[<-h.lo];exact h1
  have:=h.kn i (by omega) (by omega) (hk i hi)
  rw[Int.toNat_natCast,x13s h1]at this
  rw[this]
  simp[phiL]
open Go.Proofs
theorem Clo.refl{P:List Pq}{F:List Int}{K:List Bool}:Clo P F K K:=fun x _ h0 h1=>by rw[h0]at h1;cases h1
def idA:Id:=(0,7,14)
def idK:Id:=(0,12,19)
structure SM (s p f v:AV) (n:Nat) (O:List Int) (K:List Bool) (m:Mem):Prop where
 b2:m.get (0,0,2)=some (.row [s,p] 0 false)
 b3:m.get (0,1,3)=some (.row [f] 0 false)
 b5:m.get (0,13,5)=some (.row [.sref idA 0 0 n 1 true] 0 false)
 b6:m.get (0,14,6)=some (.row [.sref idK 0 0 n 1 true] 0 false)
 b7:m.get (0,19,7)=some (.row [v] 0 false)
 b8:m.get (0,21,8)=some (.row [.clo xpf [.ptr (0,14,6) 0 0,.ptr (0,0,2) 0 0,.ptr (0,19,7) 0 0,.ptr (0,13,5) 0 0,.ptr (0,1,3) 0 0,.ptr (0,21,8) 0 0]] 0 false)
 oA:Ow intE m idA O
 oK:Ow bE m idK K
 nx:1<=m.next
theorem SM.fr{s p f v:AV}{n:Nat}{O:List Int}{K:List Bool}{m m':Mem}(h:SM s p f v n O K m)(hn:1<=m'.next)(hg:∀j:Id,j.1=0->m'.get j=m.get j):SM s p f v n O K m':=
 ⟨by rw[hg _ rfl];exact h.b2,by rw[hg _ rfl];exact h.b3,by rw[hg _ rfl];exact h.b5,by rw[hg _ rfl];exact h.b6,by rw[hg _ rfl];exact h.b7,by rw[hg _ rfl];exact h.b8,h.oA.fr (hg _ rfl),h.oK.fr (hg _ rfl),hn⟩
def phI(ph:List Int)(i:Int):Int:=at0 ph i.toNat
end Go.Ix
