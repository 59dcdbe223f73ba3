import Derived.Test.YtpeakdjfagbpcaaGreatWg6
import Derived.Test.YtpeakdjfagbpcaaGreatWg3
import Derived.Test.YtpeakdjfagbpcaaGreatWg2
import Derived.Test.YtpeakdjfagbpcaaGreatWg5
set_option linter.unusedSimpArgs false
set_option linter.unusedVariables false
namespace Go.Ix
open Go.Proofs
theorem x2nu:Tryz.prog.underlying xv=some (.slice xak):=by kernel_rfl
theorem x2mz:x1g=[I 0,I 0]:=by kernel_rfl
theorem w_ends(d:Nat){s p:AV}{P:List Pq}(hs:s.one=true/\still1 s=true)(hp:Sl Pq.c p P){x:Sp}(hx:0<=x.p/\x.p<P.length)(m:Mem) :
 x2f8 (x2f7 (d+1)) x50 [.agg [s,p],.agg [I x.p,I x.s]] m=some (.tup [I (frS P x),I (toS P x)],m):=by
 refine x2gy (by simp[hs.2,hp.still1]) ?_ m
 have ip:=hp.ixz Pq.len hx.1 hx.2
 have lp:=fun m=>x2he (m:=m) (enc:=Pq.c) Pq.len (by omega) (show x.p.toNat<P.length by omega)
 rw[<-x2nr (by omega)]at lp
 unfold frS toS
 generalize prAt P x.p=q at *
 simp only[Pq.c]at lp
 rw[x1d3]
 unfold xgb xj5
 by_cases c:x.s<0
 .simp[mem0,hs.1,hp.one,ip,lp,x2km,c]
  exact RetF.tup rfl rfl
 .simp[mem0,hs.1,hp.one,ip,lp,x2km,c]
  exact RetF.tup rfl rfl
def cyE(P:List Pq):Nat->Int->Int->List Sp->Int
 |_,b,e,[]=>bif !decide (b=e)then 25 else 0
 |k,b,e,x::r=>
  bif !(wi x.p 0 ((P.length:Int)-1))then 6
  else bif !decide (x.s=1)&&!decide (x.s=-1)then 2
  else bif decide (k=0)then cyE P (k+1) (frS P x) (toS P x) r
  else bif !decide (frS P x=e)then 14
  else cyE P (k+1) b (toS P x) r
def cycE(P:List Pq)(w:List Sp):Int:=bif decide (w.length=0)then 10 else bif decide (400<w.length)then 8 else cyE P 0 0 0 w
theorem x2uv(d:Nat){s p c:AV}{l:List Scene}{P:List Pq}{w:List Sp}(hs:Sl Scene.c s l)(hp:Sl Pq.c p P)(hc:Sl Sp.c c w)(hw:w.length<=1000)(m:Mem) :
 x2f8 (x2f7 (d+8)) x4s [.agg [s,p],c] m=some (I (bif !decide ((net7 l P).2=0)then(net7 l P).2 else cycE P w),m):=by
 refine x2gy (by simp[hs.still1,hp.still1,hc.still]) ?_ m
 rw[x1ch]
 unfold xfn xhy
 simp[hs.one,hp.one,mem0,x2ry (d+1) hs hp]
 by_cases he:(net7 l P).2=0
 rotate_left
 .simp[he]
  exact RetF.st rfl rfl
 have hR:=x2sl he
 have hpl:=hR.pl
 simp[he,hc.len x2nu]
 by_cases c1:w.length=0
 .have:w=[]:=List.length_eq_zero_iff.mp c1
  simp[this]
  exact RetF.st rfl (by simp[cycE,c1])
 have c1':¬(w.length:Int)=0:=by omega
 have c1'':¬w=[]:=fun e=>c1 (by rw[e];rfl)
 simp[c1'']
 by_cases c2:400<w.length
 .have c2':(400:Int)<(w.length:Int):=by omega
  simp[c2']
  exact RetF.st rfl (by simp[cycE,c1,c2])
 have c2':¬(400:Int)<(w.length:Int):=by omega
 have hE:cycE P w=cyE P 0 0 0 w:=by simp[cycE,c1,c2]
 simp[c2',hE]
 unfold xcw
 simp[hc.len x2nu]
 refine x2gh (N:=w.length) (fun n k (b:Int×Int) m fc=>x2w (x2f7 (d+7)) [] 0 n (.ptr (0,0,2) 0 0) (I b.1) (I b.2) c (I w.length) (I k) m fc)
  (fun k b m=>m.get (0,0,2)=some (.row [s,p] 0 false)/\cyE P k b.1 b.2 (w.drop k)=cyE P 0 0 0 w) _ ?_ ?_ NN 0 (0,0) _ _ (by omega) (by rw[x2fs];omega) ⟨by simp,by simp⟩
 .rintro n k ⟨b,e⟩ m fc hk ⟨g2,hT⟩ next
  have hk':(k:Int)<(w.length:Int):=by omega
  have ix:=hc.ix Sp.len hk
  have ld:=fun m=>x2he (m:=m) (enc:=Sp.c) Sp.len (by omega) hk
  rw[x2go hk]at hT
  generalize w[k]=x at *
  simp only[cyE]at hT
  simp only[x2w]
  unfold xcv x8k
  simp only[Sp.c]at ld
  simp[hk',ix,ld,x2mz]
  generalize hm1:Mem.set _ _ _=m1
  have q2:m1.get (0,0,2)=some (.row [s,p] 0 false):=by rw[<-hm1];simp[g2]
  have q9:m1.get (0,fc+1+3,9)=some (.row [I x.p,I x.s] 0 false):=by rw[<-hm1];simp
  simp[q2,g2,hp.len x2h6]
  rw[x2fe (by omega) (by omega)]
  simp[x2kl]
  cases c3:wi x.p 0 ((P.length:Int)-1)with
  |false=>
   simp[c3]at hT ⊢
   exact RetF.st rfl (by rw[<-hT])
  |true=>
   have hx:=wi_t c3
   have he2:=fun m=>w_ends (d+6) ⟨hs.one,hs.still1⟩ hp (x:=x) ⟨hx.1,by omega⟩ m
   have tl:(x.s=1\/x.s=-1)->∀fc2,RetF (fun v=>v=I (cyE P 0 0 0 w)) (x8j (x2f7 (d+7)) [] 0 (x2w (x2f7 (d+7)) [] 0 n) (.ptr (0,0,2) 0 0) (I b) (I e) (I k) (I (frS P x)) (I (toS P x)) c (I w.length) (I k) m1 fc2):=fun hs1 fc2=>by
    have hs2:(!decide (x.s=1)&&!decide (x.s=-1))=false:=by rcases hs1 with q|q<;>simp[q]
    rw[c3,hs2]at hT
    unfold x8j x8i x1n
    by_cases c4:k=0
    .simp[c4]at hT
     simp(disch:=omega) [c4,x2fe]
     have:=next (frS P x,toS P x) m1 (fc2+5+2+2) ⟨q2,by simpa[c4]using hT⟩
     simpa[c4]using this
    .have c4':¬(k:Int)=0:=by omega
     by_cases c5:frS P x=e
     .simp[c4,c5]at hT
      simp(disch:=omega) [c4,c5,x2fe]
      exact next (b,toS P x) m1 _ ⟨q2,hT⟩
     .simp[c4,c5]at hT
      simp[c4,c5]
      exact RetF.st rfl (by rw[<-hT])
   simp[q9]
   by_cases s1:x.s=1
   .have:=tl (.inl s1)
    simp[s1,q2,q9,x2nt,x2fi,x2gc]
    rw[<-s1]
    simp[he2]
    exact this _
   .simp[s1,q9]
    by_cases s2:x.s=-1
    .have:=tl (.inr s2)
     simp[s2,q2,q9,x2nt,x2fi,x2gc]
     rw[<-s2]
     simp[he2]
     exact this _
    .simp[c3,s1,s2]at hT
     simp[s2]
     exact RetF.st rfl (by rw[<-hT])
 .rintro n ⟨b,e⟩ m fc ⟨g2,hT⟩
  rw[List.drop_of_length_le (Nat.le_refl _)]at hT
  simp only[cyE]at hT
  simp only[x2w]
  unfold xcv xz
  rw[<-hT]
  by_cases c:b=e
  .simp[c]
   exact RetF.st rfl rfl
  .simp[c]
   exact RetF.st rfl rfl
def idY:Id:=(0,5,21)
def idS:Id:=(0,10,25)
structure WM (s p:AV) (st:RSt) (m:Mem):Prop where
 b4:m.get (0,0,4)=some (.row [s,p] 0 false)
 oY:Ow Sp.c m idY st.y
 oS:Ow bE m idS st.k
theorem WM.fr{s p:AV}{st:RSt}{m m':Mem}(h:WM s p st m)(e:∀j:Id,j=(0,0,4)\/j=idY\/j=idS->m'.get j=m.get j):WM s p st m':=
 ⟨by rw[e _ (.inl rfl)];exact h.b4,h.oY.fr (e _ (.inr (.inl rfl))),h.oS.fr (e _ (.inr (.inr rfl)))⟩
def OutS(m:Mem)(a:AV)(l:List Sp):Prop:=Sl Sp.c a l\/∃id:Id,id.1=0/\id.2.2=85/\a=.sref id 0 0 l.length 2 true/\Ow Sp.c m id l
theorem OutS.elems{m:Mem}{a:AV}{l:List Sp}(h:OutS m a l):elems m.get 2 a=some (l.flatMap Sp.c,l.length):=by
 rcases h with h|⟨id,-,-,rfl,h⟩
 .exact h.elems Sp.len m.get
 .have hl:=x2hd Sp.len l
  unfold Go.Ix.elems
  simp only
  unfold Ow at h
  rw[h]
  simp only
  rw[if_pos ⟨trivial,trivial,by omega⟩,List.drop_zero,List.take_of_length_le (by omega)]
theorem OutS.frz{m:Mem}{a:AV}{l:List Sp}(h:OutS m a l)(k:Nat):∃a',Sl Sp.c a' l/\Go.Ix.frz m.get (k+2) a=some a':=by
 rcases h with h|⟨id,-,-,rfl,h⟩
 .exact⟨a,h,x2hc _ k h.still⟩
 .exact⟨_,Sl.lit l false,x2jk (k:=k) Sp.len Sp.still h⟩
theorem z_2i:xsl=[I 0,I 0]:=by kernel_rfl
theorem idx_2i0:sIdx Tryz.prog x9h (.agg [I 1,I (-1)]) (I 0)=some (I 1):=by kernel_rfl
theorem idx_2i1:sIdx Tryz.prog x9h (.agg [I 1,I (-1)]) (I 1)=some (I (-1)):=by kernel_rfl
theorem w_from(d:Nat){s p f:AV}{l:List Scene}{P:List Pq}{F:List Int}(hs:Sl Scene.c s l)(hp:Sl Pq.c p P)(hf:Ints f F)(v:Int)(m:Mem) :
 x2f8 (x2f7 (d+1)) x6c [.agg [s,p],I v,f] m=some (.clo x3e [.plit [f],.plit [s,p],.plit [I v]],m):=by
 refine x2gy (by simp[hs.still1,hp.still1,hf.still]) ?_ m
 rw[x1d9]
 unfold xgi xje
 simp[mem0,hs.one,hp.one,hf.one,hf.cells]
 generalize hm:Mem.new _ _ _=m1
 have g5:m1.get (0,2,5)=some (.row [f] 0 false):=by rw[<-hm];simp
 have g3:m1.get (0,0,3)=some (.row [s,p] 0 false):=by rw[<-hm];simp
 have g4:m1.get (0,1,4)=some (.row [I v] 0 false):=by rw[<-hm];simp
 have e5:Go.Ix.frz m1.get 5 (.ptr (0,2,5) 0 0)=some (.plit [f]):=frz_box g5 (x2hc _ 2 hf.still)
 have e4:Go.Ix.frz m1.get 5 (.ptr (0,1,4) 0 0)=some (.plit [I v]):=frz_box g4 rfl
 have e3:Go.Ix.frz m1.get 5 (.ptr (0,0,3) 0 0)=some (.plit [s,p]):=by
  rw[x2sp g3]
  simp only[List.drop_zero,List.mapM_cons,List.mapM_nil,x2hc m1.get 2 hs.still,x2hc m1.get 2 hp.still]
  rfl
 refine RetF.mk (a':=.clo x3e [.plit [f],.plit [s,p],.plit [I v]]) ?_ rfl
 show(([AV.ptr (0,2,5) 0 0,.ptr (0,0,3) 0 0,.ptr (0,1,4) 0 0].mapM (Go.Ix.frz m1.get 5)).map fun l=>AV.clo _ l)=_
 simp only[List.mapM_cons,List.mapM_nil,e5,e4,e3]
 rfl
theorem x2uw{F:List Int}{k:Nat}(hk:k<F.length):x2ie (F.take (k+1))=x2ie (F.take k)++[⟨at0 F k,1⟩]++[⟨at0 F k,-1⟩]:=by
 unfold x2ie
 rw[List.take_succ_eq_append_getElem hk,List.flatMap_append,x2fr hk]
 simp
theorem c_from(d:Nat){hh:FHs}{id:Id}{h:List AV->Mem->Option Mem}{s p f:AV}{l:List Scene}{P:List Pq}{F:List Int}(hs:Sl Scene.c s l)(hp:Sl Pq.c p P)(hf:Ints f F)(hF:F.length<=1000)(hr:∀i∈F,0<=i/\i<P.length)(hl:x2jt hh id=some h)(v:Int){m0:Mem}(Inv:List Sp->Mem->Prop)(hst:∀pre m m',Inv pre m->m'.next=m.next->(∀i:Id,¬i.1=m0.next->m'.get i=m.get i)->Inv pre m')(hy:∀pre x m,InF F x->frS P x=v->Inv pre m->∃m2,h [.agg [I x.p,I x.s],I (toS P x)] m=some m2/\Inv (pre++[x]) m2)(hn:∀pre x m,InF F x->frS P x≠v->Inv pre m->Inv (pre++[x]) m)(h0:∀m,m.next=m0.next+1->(∀i:Id,m.get i=m0.get i)->Inv [] m) :
 ∃m',x2f7 (d+2) hh x3e [.yld id,.plit [f],.plit [s,p],.plit [I v]] m0=some (.tup [],m')/\Inv (x2ie F) m':=by
 rw[x1dj]
 unfold xgr xjx
 generalize hu:m0.next=u at *
 simp only[sLd_cons,rd_f,x2fj,hf.len x2fu]
 refine x2gh (N:=F.length) (σ:=Unit) (fun n k _ m fc=>x26 (x2f7 (d+1)) hh u n (.yld id) (.plit [s,p]) (.plit [I v]) f (I F.length) (I k) m fc) (fun k _ m=>Inv (x2ie (F.take k)) m)
  (fun r=>∃m',r=some (.tup [],m')/\Inv (x2ie F) m') ?_ ?_ NN 0 () _ _ (by omega) (by rw[x2fs];omega) (by simpa[x2ie]using h0 ⟨m0.hp,u+1⟩ rfl (fun _=>rfl))
 .rintro n k-m fc hk hI next
  have hk':(k:Int)<(F.length:Int):=by omega
  have ix:=hf.ix x2fq hk
  have ld:=fun m=>x2gr (m:=m) hk
  have hmem:at0 F k∈F:=by rw[x2fr hk];exact List.getElem_mem hk
  have hx:=hr _ hmem
  have hsc:=x2uw hk
  generalize at0 F k=i at *
  simp only[x26]
  unfold xef x9i
  simp only[x2g6,hk',decide_true,x2gd,x2fj,ix,ld,z_2i]
  rw[show x2fi [I 0,I 0] [(0,1,I 1),(1,1,I (-1))]=some (.agg [I 1,I (-1)]) by simp[x2fi,x2gc]]
  simp only[x2fj]
  have one:∀(sg:Int) (q:Int) (pre:List Sp) (m:Mem) (fc n1:Nat),(sg=1\/sg=-1)->q<2->0<=q->sIdx Tryz.prog x9h (.agg [I 1,I (-1)]) (I q)=some (I sg)->Inv pre m ->
   (∀m' fc',Inv (pre++[⟨i,sg⟩]) m'->∃m2,x32 (x2f7 (d+1)) hh u (x26 (x2f7 (d+1)) hh u n) n1 (.yld id) (.plit [s,p]) (.plit [I v]) (I i) f (I F.length) (I k) (.agg [I 1,I (-1)]) (I (q+1)) m' fc'=some (.tup [],m2)/\Inv (x2ie F) m2) ->
   ∃m2,x32 (x2f7 (d+1)) hh u (x26 (x2f7 (d+1)) hh u n) (n1+1) (.yld id) (.plit [s,p]) (.plit [I v]) (I i) f (I F.length) (I k) (.agg [I 1,I (-1)]) (I q) m fc=some (.tup [],m2)/\Inv (x2ie F) m2:=by
   intro sg q pre m fc n1 hsg hq2 hq0 hidx hI2 go
   have hIn:InF F ⟨i,sg⟩:=⟨hmem,hsg⟩
   have he:=fun m=>w_ends d ⟨hs.one,hs.still1⟩ hp (x:=⟨i,sg⟩) hx m
   simp only[x32]
   unfold xee
   simp only[x2g6,hq2,decide_true,x2gd,x2fj,hidx,x2mz]
   rw[show x2fi [I 0,I 0] [(0,1,I i),(1,1,I sg)]=some (.agg [I i,I sg]) by simp[x2fi,x2gc]]
   simp
   generalize hm1:Mem.set _ _ _=m1
   have q9:m1.get (u,fc+6,9)=some (.row [I i,I sg] 0 false):=by rw[<-hm1];simp
   have hI3:Inv pre m1:=hst pre m m1 hI2 (by rw[<-hm1];rfl) fun j hj=>by
    rw[<-hm1,Mem.get_set,if_neg (by rintro rfl;exact hj rfl),Mem.get_new,if_neg (by rintro rfl;exact hj rfl)]
   simp[q9,he]
   rw[x2fe (by omega) (by omega)]
   by_cases c:frS P ⟨i,sg⟩=v
   .obtain⟨m2,h1,h2⟩:=hy pre ⟨i,sg⟩ m1 hIn c hI3
    have hinv:x2g9 (x2f7 (d+1)) hh 2 (.yld id) [.agg [I i,I sg],I (toS P ⟨i,sg⟩)] m1=some (B true,m2):=by
     show(match x2jt hh id with
      |some h=>(h [.agg [I i,I sg],I (toS P ⟨i,sg⟩)] m1).map fun m'=>(B true,m')
      |none=>none)=_
     rw[hl]
     simp only
     rw[h1]
     rfl
    simp[c,q9,hinv]
    exact go m2 _ h2
   .simp[c]
    exact go m1 _ (hn pre ⟨i,sg⟩ m1 hIn c hI3)
  obtain⟨NM,hNM⟩:∃NM,NN=NM+1+1+1:=⟨NN-3,by have:=x2fs;omega⟩
  rw[hNM]
  refine one 1 0 _ m _ _ (.inl rfl) (by omega) (by omega) idx_2i0 hI fun m1 fc1 h1=>?_
  refine one (-1) 1 _ m1 _ _ (.inr rfl) (by omega) (by omega) idx_2i1 h1 fun m2 fc2 h2=>?_
  simp only[x32]
  unfold xee x1c
  simp(disch:=omega) [x2fe]
  exact next () m2 _ (by rw[hsc];exact h2)
 .rintro n-m fc hI
  rw[List.take_of_length_le (Nat.le_refl _)]at hI
  simp only[x26]
  unfold xef
  simp
  exact hI
end Go.Ix
namespace Go.Ix
variable{P:List Pq}{n:Nat}{F:List Int}
theorem at0_setI{l:List Int}{b v:Int}{x:Int}(h0:0<=b)(hb:b<l.length)(hv:0<=v):at0 (l.set b.toNat x) v.toNat=if v=b then x else at0 l v.toNat:=by
 unfold at0
 rw[List.getD_eq_getElem?_getD,List.getD_eq_getElem?_getD,List.getElem?_set]
 by_cases c:v=b
 .rw[if_pos c,c,if_pos rfl,if_pos (by omega)];rfl
 .rw[if_neg c,if_neg (by omega)]
def unk(K:List Bool):Nat:=(K.filter fun b=>!b).length
theorem x2pt:∀{K:List Bool} {k:Nat},k<K.length->K.getD k false=false->unk (K.set k true)+1=unk K
 |[],_,h,_=>by simp at h
 |b::r,0,_,hb=>by
  simp at hb
  subst hb
  simp[unk]
 |b::r,k+1,h,hb=>by
  have:=x2pt (K:=r) (k:=k) (by simpa using h) (by simpa using hb)
  unfold unk at this ⊢
  rw[List.set_cons_succ]
  cases b<;>simp<;>omega
theorem unk_le:∀{K L:List Bool},K.length=L.length->(∀k,k<K.length->K.getD k false=true->L.getD k false=true)->unk L<=unk K
 |[],[],_,_=>Nat.le_refl _
 |[],_::_,h,_=>by simp at h
 |_::_,[],h,_=>by simp at h
 |a::r,b::s,h,hk=>by
  have ih:=unk_le (K:=r) (L:=s) (by simpa using h) fun k hk2=>by
   have:=hk (k+1) (by simpa using hk2)
   simpa using this
  have h0:=hk 0 (by simp)
  simp only[List.getD_cons_zero]at h0
  unfold unk at ih ⊢
  cases a with
  |true=>
   rw[h0 rfl]
   exact ih
  |false=>
   cases b
   .show(r.filter fun b=>!b).length+1 ≥ (s.filter fun b=>!b).length+1
    omega
   .show(s.filter fun b=>!b).length<=(r.filter fun b=>!b).length+1
    omega
structure DS (n:Nat) (φ:Int->Int) (O:List Int) (K:List Bool):Prop where
 lo:O.length=n
 lk:K.length=n
 kn:∀v:Int,0<=v->v<n->boA K v=true->at0 O v.toNat=φ v
def Un(n:Nat)(O:List Int)(K:List Bool)(but:Int):Prop:=∀v:Int,0<=v->v<n->v≠but->boA K v=false->at0 O v.toNat=0
def Sub(n:Nat)(K L:List Bool):Prop:=∀v:Int,0<=v->v<n->boA K v=true->boA L v=true
theorem Sub.unk{K L:List Bool}(h:Sub n K L)(hk:K.length=n)(hl:L.length=n):unk L<=unk K:=unk_le (by omega) fun k hk2 e=>by
 have:=h (k:Int) (by omega) (by omega) (by unfold boA;simpa using e)
 unfold boA at this
 simpa using this
def Clo(P:List Pq)(F:List Int)(K L:List Bool):Prop:=∀x,InF F x->boA K (frS P x)=false->boA L (frS P x)=true->boA L (toS P x)=true
def Cls(P:List Pq)(F:List Int)(K:List Bool):Prop:=∀x,InF F x->boA K (frS P x)=true->boA K (toS P x)=true
theorem Clo.trans(hP:∀p∈P,PqIn n p)(hr:∀i∈F,0<=i/\i<P.length){K L M:List Bool}(h:Clo P F K L)(h2:Clo P F L M)(hs:Sub n L M):Clo P F K M:=fun x hx h0 h1=>by
 cases c:boA L (frS P x)with
 |true=>exact hs _ (x2iu hP hr hx).2.1 (x2iu hP hr hx).2.2 (h x hx h0 c)
 |false=>exact h2 x hx c h1
theorem Cls.grow(hP:∀p∈P,PqIn n p)(hr:∀i∈F,0<=i/\i<P.length){K L:List Bool}(h:Cls P F K)(h2:Clo P F K L)(hs:Sub n K L):Cls P F L:=fun x hx h1=>by
 cases c:boA K (frS P x)with
 |true=>exact hs _ (x2iu hP hr hx).2.1 (x2iu hP hr hx).2.2 (h x hx c)
 |false=>exact h2 x hx c h1
theorem Cls.walk{K:List Bool}(h:Cls P F K):∀{w:List Sp} {a b:Int},Wk P w a b->AllF F w->boA K a=true->boA K b=true
 |[],_,_,hw,_,ha=>by cases hw;exact ha
 |x::r,a,b,hw,hF,ha=>Cls.walk h hw.2 hF.tail (h x hF.head (by rw[hw.1];exact ha))
theorem root_of(hP:∀p∈P,PqIn n p)(hF:For n P F){K:List Bool}(h:Cls P F K){i:Nat}(hi:i<n)(hk:∀j:Nat,j<i->boA K j=true)(hn:boA K i=false):at0 (joinsM (freshM n) (prs P F)) i=i:=by
 have hL:=(Lab.fresh n).joins (x2hk hP hF.rng)
 obtain⟨l0,l1,l2⟩:=hL.ok i hi
 apply Classical.byContradiction
 intro hne
 obtain⟨w,hw,hwF⟩:=x2s3 hP hF.rng (v:=(at0 (joinsM (freshM n) (prs P F)) i).toNat) (w:=i) (by omega) hi (by unfold Sm;exact l2)
 have:=h.walk hw hwF (hk _ (by omega))
 rw[hn]at this
 cases this
def phiL(n:Nat)(φ:Int->Int):List Int:=(List.range n).map fun(v:Nat)=>φ v
theorem x2i3(n:Nat)(φ:Int->Int):(phiL n φ).length=n:=by simp[phiL]
theorem x2nv{φ:Int->Int}{v:Int}(h0:0<=v)(h1:v<n):at0 (phiL n φ) v.toNat=φ v:=by
 rw[x2fr (by rw[x2i3];omega)]
 simp[phiL]
 rw[Int.max_eq_left h0]
theorem DS.all{φ:Int->Int}{O:List Int}{K:List Bool}(h:DS n φ O K)(hk:∀j:Nat,j<n->boA K j=true):O=phiL n φ:=by
 apply List.ext_getElem
 .rw[h.lo,x2i3]
 .intro i h1 h2
  have hi:i<n:=by rw[<-h.lo];exact h1
  have:=h.kn i (by omega) (by omega) (hk i hi)
  rw[Int.toNat_natCast,x2fr h1]at this
  rw[this]
  simp[phiL]
open Go.Proofs
theorem Clo.refl{P:List Pq}{F:List Int}{K:List Bool}:Clo P F K K:=fun x _ h0 h1=>by rw[h0]at h1;cases h1
def idA:Id:=(0,7,14)
def idK:Id:=(0,12,19)
structure SM (s p f v:AV) (n:Nat) (O:List Int) (K:List Bool) (m:Mem):Prop where
 b2:m.get (0,0,2)=some (.row [s,p] 0 false)
 b3:m.get (0,1,3)=some (.row [f] 0 false)
 b5:m.get (0,13,5)=some (.row [.sref idA 0 0 n 1 true] 0 false)
 b6:m.get (0,14,6)=some (.row [.sref idK 0 0 n 1 true] 0 false)
 b7:m.get (0,19,7)=some (.row [v] 0 false)
 b8:m.get (0,21,8)=some (.row [.clo x1f [.ptr (0,14,6) 0 0,.ptr (0,0,2) 0 0,.ptr (0,19,7) 0 0,.ptr (0,13,5) 0 0,.ptr (0,1,3) 0 0,.ptr (0,21,8) 0 0]] 0 false)
 oA:Ow intE m idA O
 oK:Ow bE m idK K
 nx:1<=m.next
theorem SM.fr{s p f v:AV}{n:Nat}{O:List Int}{K:List Bool}{m m':Mem}(h:SM s p f v n O K m)(hn:1<=m'.next)(hg:∀j:Id,j.1=0->m'.get j=m.get j):SM s p f v n O K m':=
 ⟨by rw[hg _ rfl];exact h.b2,by rw[hg _ rfl];exact h.b3,by rw[hg _ rfl];exact h.b5,by rw[hg _ rfl];exact h.b6,by rw[hg _ rfl];exact h.b7,by rw[hg _ rfl];exact h.b8,h.oA.fr (hg _ rfl),h.oK.fr (hg _ rfl),hn⟩
def x2ks:List AV:=[.ptr (0,14,6) 0 0,.ptr (0,0,2) 0 0,.ptr (0,19,7) 0 0,.ptr (0,13,5) 0 0,.ptr (0,1,3) 0 0,.ptr (0,21,8) 0 0]
def Fr1(m m':Mem):Prop:=∀j:Id,1<=j.1->j.1<m.next->m'.get j=m.get j
theorem c_spread(d:Nat){s p f v:AV}{l:List Scene}{P:List Pq}{F ph:List Int}(hs:Sl Scene.c s l)(hp:Sl Pq.c p P)(hf:Ints f ph)(hv:Ints v F)(hl:l.length<=60)(hP:∀p∈P,PqIn l.length p)(hF:For l.length P F)(hph:ph.length=P.length){φ:Int->Int}(hpot:Pot l.length P F (fun i=>at0 ph i.toNat) φ){M:Nat}(hM:∀i∈F,(at0 ph i.toNat).natAbs<=M)(hMb:M<=10000000000):∀(k:Nat) (hh:FHs) (a:Int) (m:Mem) (O:List Int) (K:List Bool),SM s p f v l.length O K m->DS l.length φ O K->(0<=a/\a<l.length)->boA K a=false->at0 O a.toNat=φ a->Un l.length O K a->unk K<=k ->
 ∃m' O' K',x2f7 (d+3+k) hh x1f (I a::x2ks) m=some (.tup [],m')/\SM s p f v l.length O' K' m'/\DS l.length φ O' K'/\Un l.length O' K' a/\Sub l.length K K'/\Clo P F K K'/\boA K' a=true/\m.next<=m'.next/\Fr1 m m':=by
 have hFl:=hF.len hP
 intro k
 induction k with
 |zero=>
  intro hh a m O K hS hD ha hka _ _ hu
  have h1:=x2pt (K:=K) (k:=a.toNat) (by rw[hD.lk];omega) hka
  omega
 |succ k ih=>
  intro hh a m O K hS hD ha hka hoa hun hu
  suffices main:∀Q:O2->Prop,(∀m' O' K',SM s p f v l.length O' K' m'->DS l.length φ O' K'->Un l.length O' K' a->Sub l.length K K'->Clo P F K K'->boA K' a=true->m.next<=m'.next->Fr1 m m'->Q (some (.tup [],m')))->Q (x2f7 (d+3+(k+1)) hh x1f (I a::x2ks) m)from
   main (fun r=>∃m' O' K',r=some (.tup [],m')/\SM s p f v l.length O' K' m'/\DS l.length φ O' K'/\Un l.length O' K' a/\Sub l.length K K'/\Clo P F K K'/\boA K' a=true/\m.next<=m'.next/\Fr1 m m') fun m' O' K' h1 h2 h3 h4 h5 h6 h7 h8=>⟨m',O',K',rfl,h1,h2,h3,h4,h5,h6,h7,h8⟩
  intro Q hQ
  rw[show d+3+(k+1)=(d+3+k)+1 by omega,x1d8]
  unfold x2ks xgh xjd
  generalize hU:m.next=u
  have hu1:1<=u:=by rw[<-hU];exact hS.nx
  simp only[x2nk,x2p4,List.all_cons,List.all_nil,one_I,Bool.and_self,x2gx]
  generalize hm1:Mem.new _ _ _=m1
  have g7:m1.get (u,0,7)=some (.row [I a] 0 false):=by rw[<-hm1];simp
  have hS1:SM s p f v l.length O K m1:=hS.fr (by rw[<-hm1];show 1<=u+1;omega) fun j hj=>by
   rw[<-hm1,Mem.get_new,if_neg (by rintro rfl;simp only at hj;omega)];rfl
  have hm1n:m1.next=u+1:=by rw[<-hm1];rfl
  have hm1f:Fr1 m m1:=fun j h1 h2=>by rw[<-hm1,Mem.get_new,if_neg (by rintro rfl;rw[hU]at h2;exact Nat.lt_irrefl _ h2)];rfl
  have ixK:sIx 1 (.sref idK 0 0 l.length 1 true) (I a)=some (.ptr idK 0 a.toNat):=x2kr ha.1 ha.2
  obtain⟨st1,st2⟩:=hS1.oK.st1 (g:=B) (fun _=>rfl) (k:=a) ha.1 (by rw[hD.lk];exact ha.2) (x:=true) rfl rfl
  simp only[x2i1,hS1.b6,g7,x2jh,Nat.beq_refl,x2gx,List.drop_zero,rd_f,x2fj,ixK,st1]
  generalize hm2:Mem.set _ _ _=m2 at st2
  obtain⟨K1,hK1⟩:∃K1,K1=K.set a.toNat true:=⟨_,rfl⟩
  rw[<-hK1]at st2
  have hm2g:∀j:Id,j≠idK->m2.get j=m1.get j:=fun j hj=>by rw[<-hm2,Mem.get_set,if_neg hj]
  have hS2:SM s p f v l.length O K1 m2:=⟨by rw[hm2g _ (by simp[idK])];exact hS1.b2,by rw[hm2g _ (by simp[idK])];exact hS1.b3,by rw[hm2g _ (by simp[idK])];exact hS1.b5,by rw[hm2g _ (by simp[idK])];exact hS1.b6,by rw[hm2g _ (by simp[idK])];exact hS1.b7,by rw[hm2g _ (by simp[idK])];exact hS1.b8,
   hS1.oA.fr (hm2g _ (by simp[idK,idA])),st2,by rw[<-hm2];exact hS1.nx⟩
  have hm2n:m2.next=u+1:=by rw[<-hm2];exact hm1n
  have g7':m2.get (u,0,7)=some (.row [I a] 0 false):=by rw[hm2g _ (by unfold idK;simp only[ne_eq,Prod.mk.injEq,not_and];omega)];exact g7
  have hkb:∀w:Int,0<=w->boA K1 w=if w=a then true else boA K w:=fun w hw=>by rw[hK1,x2m2 ha.1 (by rw[hD.lk];exact ha.2) hw]
  have hu2:=x2pt (K:=K) (k:=a.toNat) (by rw[hD.lk];omega) hka
  rw[<-hK1]at hu2
  have hD1:DS l.length φ O K1:=⟨hD.lo,by rw[hK1];simp[hD.lk],fun w w0 w1 hw=>by
   rw[hkb w w0]at hw
   by_cases c:w=a
   .rw[c];exact hoa
   .rw[if_neg c]at hw;exact hD.kn w w0 w1 hw⟩
  have hUn1:Un l.length O K1 a:=fun w w0 w1 hne hw=>by
   rw[hkb w w0,if_neg hne]at hw
   exact hun w w0 w1 hne hw
  have hsub1:Sub l.length K K1:=fun w w0 w1 hw=>by
   rw[hkb w w0];split
   .rfl
   .exact hw
  have hfrom:=w_from (d+2+k) hs hp hv a m2
  rw[show d+2+k+1=d+3+k by omega]at hfrom
  simp[g7',hS2.b2,hS2.b7,hfrom]
  unfold xe5
  simp only[sRng]
  generalize hH:(fun(args:List AV) (m:Mem)=>bif Nat.beq args.length 2&&true then xe4 (x2f7 (d+3+k)) hh m.next (.ptr (0,14,6) 0 0) (.ptr (0,13,5) 0 0) (.ptr (0,1,3) 0 0) (.ptr (0,21,8) 0 0) (.ptr (u,0,7) 0 0) (args.getD 0 U) (args.getD 1 U) ⟨m.hp,m.next+1⟩ 0 else none)=H
  obtain⟨m3,hc,hI⟩:=c_from (d:=d+1+k) (hh:=((u,9,0),H)::hh) (id:=(u,9,0)) (h:=H) hs hp hv (by omega) hF.rng (by simp[x2jt]) a (m0:=m2)
   (fun pre m=>∃O' K',SM s p f v l.length O' K' m/\DS l.length φ O' K'/\Un l.length O' K' a/\Sub l.length K1 K'/\Clo P F K1 K'/\(∀x∈pre,InF F x/\(frS P x=a->boA K' (toS P x)=true))/\u+1<m.next/\(∀j:Id,1<=j.1->j.1<u+1->m.get j=m2.get j))
   (fun pre m m' ⟨O',K',h1,h2,h3,h4,h5,h6,h7,h8⟩ hn hg=>⟨O',K',h1.fr (by omega) (fun j hj=>hg j (by omega)),h2,h3,h4,h5,h6,by omega,fun j j1 j2=>by rw[hg j (by omega)];exact h8 j j1 j2⟩)
   (fun pre x m hx hfx ⟨O',K',h1,h2,h3,h4,h5,h6,h7,h8⟩=>by
    suffices step:∀Q2:Option Mem->Prop,(∀mm O2 K2,SM s p f v l.length O2 K2 mm->DS l.length φ O2 K2->Un l.length O2 K2 a->Sub l.length K1 K2->Clo P F K1 K2->(∀y∈pre++[x],InF F y/\(frS P y=a->boA K2 (toS P y)=true))->u+1<mm.next->(∀j:Id,1<=j.1->j.1<u+1->mm.get j=m2.get j)->Q2 (some mm))->Q2 (H [.agg [I x.p,I x.s],I (toS P x)] m)from
     step (fun r=>∃mm,r=some mm/\∃O2 K2,SM s p f v l.length O2 K2 mm/\DS l.length φ O2 K2/\Un l.length O2 K2 a/\Sub l.length K1 K2/\Clo P F K1 K2/\(∀y∈pre++[x],InF F y/\(frS P y=a->boA K2 (toS P y)=true))/\u+1<mm.next/\(∀j:Id,1<=j.1->j.1<u+1->mm.get j=m2.get j)) fun mm O2 K2 a1 a2 a3 a4 a5 a6 a7 a8=>⟨mm,rfl,O2,K2,a1,a2,a3,a4,a5,a6,a7,a8⟩
    intro Q2 hQ2
    obtain⟨-,t0,t1⟩:=x2iu hP hF.rng hx
    have hpx:=hF.rng x.p hx.1
    rw[<-hH]
    simp only[List.length_cons,List.length_nil,Nat.zero_add,Nat.reduceAdd,Nat.beq_refl,Bool.and_true,x2gx,List.getD_cons_zero,List.getD_cons_succ]
    unfold xe4 xe3
    generalize hU3:m.next=u3 at *
    simp only[x2mz]
    simp
    generalize hm4:Mem.set _ _ _=m4
    have hm4g:∀j:Id,¬j.1=u3->m4.get j=m.get j:=fun j hj=>by
     rw[<-hm4,Mem.get_set,if_neg (by rintro rfl;exact hj rfl),Mem.get_new,if_neg (by rintro rfl;exact hj rfl)];rfl
    have q8:m4.get (u3,0,8)=some (.row [I x.p,I x.s] 0 false):=by rw[<-hm4];simp
    have hm4n:m4.next=u3+1:=by rw[<-hm4];rfl
    have hS4:SM s p f v l.length O' K' m4:=h1.fr (by omega) fun j hj=>hm4g j (by omega)
    have q7:m4.get (u,0,7)=some (.row [I a] 0 false):=by rw[hm4g _ (by simp only;omega),h8 _ (by simp only;omega) (by simp only;omega)];exact g7'
    have ixT:sIx 1 (.sref idK 0 0 l.length 1 true) (I (toS P x))=some (.ptr idK 0 (toS P x).toNat):=x2kr t0 t1
    have ldT:=hS4.oK.ldB (k:=toS P x) t0 (by rw[h2.lk];exact t1)
    have ldT':sLd false 1 (.ptr idK 0 (toS P x).toNat) m4=some (B (boA K' (toS P x))):=ldT
    have hb:∀i,({hp:=m.hp,next:=u3+1}:Mem).get i=m.get i:=fun _=>rfl
    have q7m:m.get (u,0,7)=some (.row [I a] 0 false):=by rw[h8 _ (by simp only;omega) (by simp only;omega)];exact g7'
    have ixA:sIx 1 (.sref idA 0 0 l.length 1 true) (I a)=some (.ptr idA 0 a.toNat):=x2kr ha.1 ha.2
    have ixA2:sIx 1 (.sref idA 0 0 l.length 1 true) (I (toS P x))=some (.ptr idA 0 (toS P x).toNat):=x2kr t0 t1
    have ldA:=hS4.oA.ldI (k:=a) ha.1 (by rw[h2.lo];exact ha.2)
    have hKa:boA K' a=true:=h4 a ha.1 ha.2 (by rw[hkb a ha.1,if_pos rfl])
    have hOa:at0 O' a.toNat=φ a:=h2.kn a ha.1 ha.2 hKa
    rw[hOa]at ldA
    have ixP:=hf.ixI x2fq (k:=x.p) hpx.1 (by rw[hph];exact hpx.2)
    have ldP:=x2gr (m:=m4) (l:=ph) (k:=x.p.toNat) (by omega)
    cases hkt:boA K' (toS P x)with
    |true=>
     rw[hkt]at ldT'
     simp[hb,h1.b6,ixT,ldT']
     exact hQ2 m4 O' K' hS4 h2 h3 h4 h5 (fun y hy=>by
      rcases List.mem_append.mp hy with hy|hy
      .exact h6 y hy
      .simp at hy;subst hy;exact⟨hx,fun _=>hkt⟩) (by omega) (fun j j1 j2=>by rw[hm4g j (by omega)];exact h8 j j1 j2)
    |false=>
     rw[hkt]at ldT'
     have hstep:=hpot.st.step hx
     rw[hfx]at hstep
     have ba:=Pot.abs hP hF hpot hM (v:=a.toNat) (by omega)
     have bt:=Pot.abs hP hF hpot hM (v:=(toS P x).toNat) (by omega)
     rw[Int.toNat_of_nonneg ha.1]at ba
     rw[Int.toNat_of_nonneg t0]at bt
     have hnM:l.length*M<=60*10000000000:=Nat.mul_le_mul hl hMb
     obtain⟨st1,st2⟩:=hS4.oA.st1 (g:=I) (fun _=>rfl) (k:=toS P x) t0 (by rw[h2.lo];exact t1) (x:=φ (toS P x)) rfl rfl
     simp[-x2pa,hb,h1.b6,h1.b5,h1.b3,q7m,ixT,ldT',ixA,ixA2,ldA,ixP,ldP]
     have hw1:w64 (φ (toS P x)-φ a)=φ (toS P x)-φ a:=x2fe (by omega) (by omega)
     rw[hstep,hw1,x2fe (by omega) (by omega),show φ a+(φ (toS P x)-φ a)=φ (toS P x) by omega]
     simp only[st1]
     generalize hm5:Mem.set m4 _ _=m5 at st2 ⊢
     have hm5g:∀j:Id,j≠idA->m5.get j=m4.get j:=fun j hj=>by rw[<-hm5,Mem.get_set,if_neg hj]
     have hm5n:m5.next=u3+1:=by rw[<-hm5];exact hm4n
     have hS5:SM s p f v l.length (O'.set (toS P x).toNat (φ (toS P x))) K' m5:=⟨by rw[hm5g _ (by simp[idA])];exact hS4.b2,by rw[hm5g _ (by simp[idA])];exact hS4.b3,by rw[hm5g _ (by simp[idA])];exact hS4.b5,by rw[hm5g _ (by simp[idA])];exact hS4.b6,by rw[hm5g _ (by simp[idA])];exact hS4.b7,by rw[hm5g _ (by simp[idA])];exact hS4.b8,st2,hS4.oK.fr (hm5g _ (by simp[idK,idA])),by omega⟩
     have hog:∀w:Int,0<=w->at0 (O'.set (toS P x).toNat (φ (toS P x))) w.toNat=if w=toS P x then φ (toS P x)else at0 O' w.toNat:=fun w hw=>at0_setI t0 (by rw[h2.lo];exact t1) hw
     have hD5:DS l.length φ (O'.set (toS P x).toNat (φ (toS P x))) K':=⟨by simp[h2.lo],h2.lk,fun w w0 w1 hw=>by
      rw[hog w w0];split
      .rename_i e;rw[e]
      .exact h2.kn w w0 w1 hw⟩
     have hU5:Un l.length (O'.set (toS P x).toNat (φ (toS P x))) K' (toS P x):=fun w w0 w1 hne hw=>by
      rw[hog w w0,if_neg hne]
      refine h3 w w0 w1 ?_ hw
      rintro rfl
      rw[hKa]at hw;cases hw
     have hsu:=h4.unk (by rw[hK1];simp[hD.lk]) h2.lk
     obtain⟨m6,O6,K6,e1,e2,e3,e4,e5,e6,e7,e8,e9⟩:=ih hh (toS P x) m5 _ K' hS5 hD5 ⟨t0,t1⟩ hkt (by rw[hog _ t0,if_pos rfl]) hU5 (by omega)
     have hinv:x2g9 (x2f7 (d+3+k)) hh 2 (.clo x1f x2ks) [I (toS P x)] m5=some (.tup [],m6):=e1
     unfold x2ks at hinv
     simp[hS5.b8,hinv]
     refine hQ2 m6 O6 K6 e2 e3 (fun w w0 w1 hne hw=>?_) (fun w w0 w1 hw=>e5 w w0 w1 (h4 w w0 w1 hw)) (h5.trans hP hF.rng e6 e5) (fun y hy=>?_) (by omega) (fun j j1 j2=>?_)
     .by_cases c:w=toS P x
      .rw[c,e7]at hw;cases hw
      .exact e4 w w0 w1 c hw
     .rcases List.mem_append.mp hy with hy|hy
      .obtain⟨y1,y2⟩:=h6 y hy
       exact⟨y1,fun hfy=>e5 _ (x2iu hP hF.rng y1).2.1 (x2iu hP hF.rng y1).2.2 (y2 hfy)⟩
      .simp at hy;subst hy;exact⟨hx,fun _=>e7⟩
     .rw[e9 j j1 (by omega),hm5g j (by unfold idA;rintro rfl;simp at j1),hm4g j (by omega)]
      exact h8 j j1 j2)
   (fun pre x m hx hfx ⟨O',K',h1,h2,h3,h4,h5,h6,h7,h8⟩=>⟨O',K',h1,h2,h3,h4,h5,fun y hy=>by
    rcases List.mem_append.mp hy with hy|hy
    .exact h6 y hy
    .simp at hy;subst hy;exact⟨hx,fun hfy=>absurd hfy hfx⟩,h7,h8⟩)
   (fun m hn hg=>⟨O,K1,hS2.fr (by omega) (fun j _=>hg j),hD1,hUn1,fun _ _ _ h=>h,Clo.refl,(fun x hx=>by cases hx),by omega,fun j _ _=>hg j⟩)
  obtain⟨O',K',h1,h2,h3,h4,h5,h6,h7,h8⟩:=hI
  rw[show d+1+k+2=d+3+k by omega]at hc
  simp only[hc,x2fj]
  refine hQ m3 O' K' h1 h2 h3 (fun w w0 w1 hw=>h4 w w0 w1 (hsub1 w w0 w1 hw)) (fun x hx x0 x1=>?_) (h4 a ha.1 ha.2 (by rw[hkb a ha.1,if_pos rfl])) (by omega) (fun j j1 j2=>?_)
  .by_cases c:frS P x=a
   .exact(h6 x (mem_stepsOf.mpr hx)).2 c
   .exact h5 x hx (by rw[hkb _ (x2iu hP hF.rng hx).1.1,if_neg c];exact x0) x1
  .rw[h8 j j1 (by omega),hm2g j (by unfold idK;rintro rfl;simp at j1),hm1f j j1 j2]
def phI(ph:List Int)(i:Int):Int:=at0 ph i.toNat
theorem z_func1:∃c,xig=[c]:=by
 have:xig.length=1:=by kernel_rfl
 exact List.length_eq_one_iff.mp this
theorem z_sli:x3y=[nilS]:=by kernel_rfl
theorem z_slb:xre=[nilS]:=by kernel_rfl
theorem a_sums(d:Nat){s p f:AV}{l:List Scene}{P:List Pq}{ph:List Int}(hs:Sl Scene.c s l)(hp:Sl Pq.c p P)(hf:Ints f ph)(hR:Right7 l P)(hl:l.length<=8)(hPl:P.length<=14)(hph:ph.length=P.length){M:Nat}(hM:∀k,k<ph.length->(at0 ph k).natAbs<=M)(hMb:M<=10000000000) :
 RetF (fun v=>Ints v (phiL l.length (potM l.length P (x2gj (fW l P) l.length P) (phI ph)))) (x2f7 (d+12) [] x37 [.agg [s,p],f] mem0):=by
 have hP:=hR.pr
 obtain⟨F,hFe⟩:∃F,F=x2gj (fW l P) l.length P:=⟨_,rfl⟩
 have hF:For l.length P F:=by rw[hFe];exact x2si hP _
 have hpot:=potM_ok hP (phI ph) hF
 rw[<-hFe]
 generalize potM l.length P F (phI ph)=φ at *
 rw[x1cp]
 unfold xfw xif
 obtain⟨zc,hzc⟩:=z_func1
 simp[mem0,hs.one,hp.one,hf.one,hf.cells,hs.len x2gl,mkSl_i (n:=l.length) (by omega),mkSl_b (n:=l.length) (by omega),z_sli,z_slb,tR,tS,x2f9,disj]
 generalize hm1:Mem.set _ (0,14,6) _=m1
 have i2:m1.get (0,0,2)=some (.row [s,p] 0 false):=by rw[<-hm1];simp
 have i3:m1.get (0,1,3)=some (.row [f] 0 false):=by rw[<-hm1];simp
 have i5:m1.get (0,13,5)=some (.row [.sref idA 0 0 l.length 1 true] 0 false):=by rw[<-hm1];simp[idA]
 have i6:m1.get (0,14,6)=some (.row [.sref idK 0 0 l.length 1 true] 0 false):=by rw[<-hm1];simp[idK]
 have iA:Ow intE m1 idA (List.replicate l.length 0):=by unfold Ow;rw[<-hm1];simp[idA]
 have iK:Ow bE m1 idK (List.replicate l.length false):=by unfold Ow;rw[<-hm1];simp[idK]
 have in1:m1.next=1:=by rw[<-hm1];rfl
 obtain⟨v,hv,hw⟩:=x2uu (d+4) hs hp hR hl hPl m1
 rw[<-hFe]at hv
 have hcl:∀(g:FuncId) (c:List AV),(AV.clo g c).cells=[AV.clo g c]:=fun _ _=>rfl
 have hco:∀(g:FuncId) (c:List AV),(AV.clo g c).one=true:=fun _ _=>rfl
 simp[hw,hv.cells,hv.one,hzc,hcl,hco]
 generalize hm2:Mem.set _ (0,21,8) _=m2
 have hmg:∀j:Id,j≠(0,19,7)->j≠(0,21,8)->m2.get j=m1.get j:=fun j h1 h2=>by rw[<-hm2,Mem.get_set,if_neg h2,Mem.get_new,if_neg h2,Mem.get_set,if_neg h1,Mem.get_new,if_neg h1]
 have hS:SM s p f v l.length (List.replicate l.length 0) (List.replicate l.length false) m2:=⟨by rw[hmg _ (by simp) (by simp)];exact i2,by rw[hmg _ (by simp) (by simp)];exact i3,by rw[hmg _ (by simp) (by simp)];exact i5,by rw[hmg _ (by simp) (by simp)];exact i6,by rw[<-hm2];simp,by rw[<-hm2];simp,
  iA.fr (hmg _ (by simp[idA]) (by simp[idA])),iK.fr (hmg _ (by simp[idK]) (by simp[idK])),by rw[<-hm2];show 1<=m1.next;omega⟩
 have hrep:∀v:Int,boA (List.replicate l.length false) v=false:=fun v=>by
  unfold boA
  rw[List.getD_eq_getElem?_getD,List.getElem?_replicate]
  split<;>rfl
 have hrep0:∀v:Nat,at0 (List.replicate l.length 0) v=0:=fun v=>by
  unfold at0
  rw[List.getD_eq_getElem?_getD,List.getElem?_replicate]
  split<;>rfl
 unfold xd8
 simp[hS.b5]
 rw[show sLen Tryz.prog x2 (.sref idA 0 0 l.length 1 true)=some (I l.length)from rfl]
 simp only[x2fj]
 refine x2gh (N:=l.length) (σ:=Unit) (fun n k _ m fc=>x3x (x2f7 (d+11)) [] 0 n (.ptr (0,13,5) 0 0) (.ptr (0,14,6) 0 0) (.ptr (0,21,8) 0 0) (I l.length) (I k) m fc)
  (fun k _ m=>∃O K,SM s p f v l.length O K m/\DS l.length φ O K/\Un l.length O K (-1)/\Cls P F K/\∀j:Nat,j<k->boA K j=true) _ ?_ ?_ NN 0 () m2 _ (by omega) (by rw[x2fs];omega)
  ⟨_,_,hS,⟨by simp,by simp,fun v _ _ h=>by rw[hrep]at h;cases h⟩,fun v _ _ _ _=>hrep0 _,(show Cls P F _ from fun x _ h=>by rw[hrep]at h;cases h),fun j h=>by omega⟩
 .rintro n k-m fc hk ⟨O,K,hS,hD,hU,hC,hB⟩ next
  have hk':(k:Int)<(l.length:Int):=by omega
  have ixK:sIx 1 (.sref idK 0 0 l.length 1 true) (I (k:Int))=some (.ptr idK 0 (k:Int).toNat):=x2kr (by omega) hk'
  have ldK:=hS.oK.ldB (k:=(k:Int)) (by omega) (by rw[hD.lk];exact hk')
  have ldK':sLd false 1 (.ptr idK 0 (k:Int).toNat) m=some (B (boA K k)):=ldK
  simp only[x3x]
  unfold xd7 xd6
  simp only[x2g6,hk',decide_true,x2gd,x2fj,x2i1,hS.b6,x2jh,Nat.beq_refl,x2gx,List.drop_zero,rd_f,ixK]
  rw[<-x2i1,ldK']
  cases hkk:boA K k with
  |true=>
   unfold x6s
   simp(disch:=omega) [x2fe]
   refine next () m _ ⟨O,K,hS,hD,hU,hC,fun j hj=>?_⟩
   by_cases c:j=k
   .rw[c];exact hkk
   .exact hB j (by omega)
  |false=>
   have hz:=hpot.z k hk (root_of hP hF hC hk hB hkk)
   obtain⟨m3,O3,K3,e1,e2,e3,e4,e5,e6,e7,e8,e9⟩:=c_spread d hs hp hf hv hR.ll hP hF hph hpot (M:=M) (fun i hi=>hM _ (by have:=hF.rng i hi;omega)) hMb 8 [] (k:Int) m O K hS hD ⟨by omega,hk'⟩ hkk (by rw[hU _ (by omega) hk' (by omega) hkk,hz]) (fun w w0 w1 hne hw=>hU w w0 w1 (by omega) hw) (by
    have h1:unk K<=K.length:=List.length_filter_le _ _
    rw[hD.lk]at h1
    omega)
   have hinv:x2g9 (x2f7 (d+11)) [] 2 (.clo x1f x2ks) [I (k:Int)] m=some (.tup [],m3):=e1
   unfold x2ks at hinv
   simp only[sNot_B,Bool.not_false,x2fj,x2gd,x2i1,hS.b8,x2jh,Nat.beq_refl,x2gx,List.drop_zero,rd_f,hinv]
   unfold x6s
   simp(disch:=omega) [x2fe]
   refine next () m3 _ ⟨O3,K3,e2,e3,fun w w0 w1 hne hw=>?_,hC.grow hP hF.rng e6 e5,fun j hj=>?_⟩
   .by_cases c:w=(k:Int)
    .rw[c,e7]at hw;cases hw
    .exact e4 w w0 w1 c hw
   .by_cases c:j=k
    .rw[c];exact e7
    .exact e5 _ (by omega) (by omega) (hB j (by omega))
 .rintro n-m fc ⟨O,K,hS,hD,hU,hC,hB⟩
  have:=hD.all hB
  subst this
  simp only[x3x]
  unfold xd7 x1o
  simp[hS.b5]
  have hoA:=hS.oA
  unfold Ow at hoA
  have h1:=x2jk (k:=4) x2fq x2ji (x:=true) (l:=phiL l.length φ) hoA
  have h2:Ints (.slit ((phiL l.length φ).flatMap intE) (phiL l.length φ).length false) (phiL l.length φ):=Sl.lit _ false
  rw[x2i3]at h1 h2
  exact RetF.mk h1 h2
end Go.Ix
