import Derived.Test.YtpeakdjfagbpcaaGreatW7Small
import Derived.Test.YtpeakdjfagbpcaaGreatWAwake7
set_option linter.unusedSimpArgs false
set_option linter.unusedVariables false
namespace Go.Ix
open Go.Proofs
theorem callR{T:AV->Prop}{call:x1nj}{f:FuncId}{l l':List AV}{m:Mem}(hl:l.mapM (Go.Ix.frz m.get deep)=some l')(h:RetF T (call [] f l' mem0)) :
 ∃a m2,T a/\x1nm call f l m=some (a,m2)/\m2.next=m.next/\∀i cs v b,m.get i=some (.row cs v b)->∃b',m2.get i=some (.row cs v b'):=by
 obtain⟨a,m',a',h1,h2,h3⟩:=h
 obtain⟨m2,h4,h5,h6⟩:=x1wl hl h1 h2
 exact⟨a',m2,h3,h4,h5,h6⟩
theorem near_size{x y:Scene}{days bl:Int}:(decide (((x.day-y.day).natAbs:Int)<=days)&&decide (((x.bl-y.bl).natAbs:Int)<=bl))=near days bl x y:=by
 unfold near wi
 rw[Bool.eq_iff_iff]
 simp only[Bool.and_eq_true,decide_eq_true_iff]
 omega
theorem l_rsmall1(d u:Nat){a:AV}{l:List Scene}(h:Sl Scene.c a l)(hl:l.length<=60)(hb:InB l){days bl:Int}{i:Nat}(hi:i<l.length){x:Scene}(hxi:l[i]=x)(rec0:AV->AV->AV->AV->AV->Mem->Nat->O2){T:List Pq}(hT:T.length<=1000000)(Q:O2->Prop)(hQ:∀oa m fc,Gr 2 Pq.c u 59 m oa T->Q (rec0 a (I days) (I bl) oa (I ((i:Int)+1)) m fc)) :
 ∀(n k:Nat) (oa:AV) (m:Mem) (fc:Nat),k<=l.length->l.length<n+k->(∃out,Gr 2 Pq.c u 59 m oa out/\out++x1oj days bl i x k (l.drop k)=T) ->
 Q (x14 (x1no (d+2)) [] u rec0 n a (I days) (I bl) oa (I i) (I k) m fc):=by
 refine loopW (fun n k oa m fc=>x14 (x1no (d+2)) [] u rec0 n a (I days) (I bl) oa (I i) (I k) m fc)
  (fun k oa m=>∃out,Gr 2 Pq.c u 59 m oa out/\out++x1oj days bl i x k (l.drop k)=T) Q ?_ ?_
 .rintro n k oa m fc hk ⟨out,hG,hE⟩ next
  have hk':(k:Int)<(l.length:Int):=by omega
  have ix:=h.ix Scene.len hk
  have ix2:=h.ix Scene.len hi
  have f1:=x1sv (enc:=Scene.c) (m:=m) hk 1 rfl
  have f2:=x1sv (enc:=Scene.c) (m:=m) hk 2 rfl
  have g1:=x1sv (enc:=Scene.c) (m:=m) hi 1 rfl
  have g2:=x1sv (enc:=Scene.c) (m:=m) hi 2 rfl
  rw[x1ql hk]at hE
  obtain⟨e1,e2⟩:=hb.get hk
  obtain⟨e3,e4⟩:=hb.get hi
  rw[hxi]at g1 g2 e3 e4
  have hns:=near_size (x:=x) (y:=l[k]) (days:=days) (bl:=bl)
  generalize l[k]=e at f1 f2 hE e1 e2 hns
  simp only[x14]
  unfold x8k x8j x4y
  simp only[h.len x1on,x1ps,hk',decide_true,x1pj,x1oi,ix,ix2,x1tg,f1,g1]
  simp(disch:=omega) [x1ou,w_Size]
  have skip:near days bl x e=false->∀fc,Q (x14 (x1no (d+2)) [] u rec0 n a (I days) (I bl) oa (I i) (I ((k:Int)+1)) m fc):=fun hn fc=>
   next oa m fc ⟨out,hG,by rw[x1oj,hn]at hE;exact hE⟩
  by_cases c1:((x.day-e.day).natAbs:Int)<=days
  .simp only[c1,decide_true,cond_t,x1oi,ix,ix2,x1tg,f2,g2]
   simp(disch:=omega) [x1ou,w_Size,f2,g2]
   by_cases c2:((x.bl-e.bl).natAbs:Int)<=bl
   .have hE2:(out++[⟨(i:Int),(k:Int)⟩])++x1oj days bl i x ((k+1:Nat):Int) (l.drop (k+1))=T:=by
     rw[<-hE]
     simp[x1oj,<-hns,c1,c2]
    have hr:x1o4 (out.length+1) 16:=by
     unfold x1o4
     have:out.length<=T.length:=by rw[<-hE];simp
     omega
    obtain⟨oa2,m2,ha,hG2,_,hm2⟩:=hG.app (s0:=fc+4+35) (bytes:=16) Pq.len (by omega) hr ⟨i,k⟩
    simp[c2,z_pair,build_P,mkLit_P,elems_P,ha]
    exact next oa2 m2 _ ⟨_,hG2,hE2⟩
   .simp[c2]
    exact skip (by rw[<-hns];simp[c2]) _
  .simp[c1]
   exact skip (by rw[<-hns];simp[c1]) _
 .rintro n oa m fc ⟨out,hG,hE⟩
  have hk:¬((l.length:Int)<(l.length:Int)):=by omega
  simp only[x14]
  unfold x8k x9
  simp(disch:=omega) [h.len x1on,hk,x1ou]
  refine hQ _ _ _ ?_
  rw[List.drop_of_length_le (Nat.le_refl _)]at hE
  simp[x1oj]at hE
  rw[<-hE];exact hG
theorem l_rsmall0(d u:Nat){a:AV}{l:List Scene}(h:Sl Scene.c a l)(hl:l.length<=60)(hb:InB l){days bl:Int}{T:List Pq}(hT:T.length<=1000000)(Q:O2->Prop)(hQ:∀oa m,Gr 2 Pq.c u 59 m oa T->Q (some (oa,m))) :
 ∀(n k:Nat) (oa:AV) (m:Mem) (fc:Nat),k<=l.length->l.length<n+k->(∃out,Gr 2 Pq.c u 59 m oa out/\out++x1oa days bl k (l.drop k)=T) ->
 Q (x15 (x1no (d+2)) [] u n a (I days) (I bl) oa (I k) m fc):=by
 refine loopW (fun n k oa m fc=>x15 (x1no (d+2)) [] u n a (I days) (I bl) oa (I k) m fc)
  (fun k oa m=>∃out,Gr 2 Pq.c u 59 m oa out/\out++x1oa days bl k (l.drop k)=T) Q ?_ ?_
 .rintro n k oa m fc hk ⟨out,hG,hE⟩ next
  have hk':(k:Int)<(l.length:Int):=by omega
  rw[x1ql hk]at hE
  simp only[x15]
  unfold x8l x4z
  simp(disch:=omega) [h.len x1on,hk,x1ou]
  have hlen:(out++x1oj days bl k l[k] (k+1) (l.drop (k+1))).length<=1000000:=by
   have:(out++x1oj days bl k l[k] (k+1) (l.drop (k+1))).length<=T.length:=by
    rw[<-hE];simp[x1oa]
   omega
  refine l_rsmall1 d u h hl hb (i:=k) hk rfl (x15 (x1no (d+2)) [] u n) (T:=out++x1oj days bl k l[k] (k+1) (l.drop (k+1))) hlen Q (fun oa m fc hG=>?_) NN (k+1) oa m _ (by omega) (by rw[x1pk];omega) ⟨out,hG,rfl⟩
  exact next oa m fc ⟨_,hG,by rw[<-hE];simp[x1oa]⟩
 .rintro n oa m fc ⟨out,hG,hE⟩
  have hk:¬((l.length:Int)<(l.length:Int)):=by omega
  simp only[x15]
  unfold x8l xc
  simp[hk,h.len x1on]
  refine hQ _ _ ?_
  rw[List.drop_of_length_le (Nat.le_refl _)]at hE
  simp[x1oa]at hE
  rw[<-hE];exact hG
theorem x1yf(d:Nat){a:AV}{l:List Scene}(h:Sl Scene.c a l)(hl:l.length<=60)(hb:InB l)(days bl:Int)(m:Mem) :
 ∃p,Sl Pq.c p (x1oa days bl 0 l)/\x1nm (x1no (d+3)) x36 [a,I days,I bl] m=some (p,m):=by
 refine callF (by simp[h.still]) ?_ m
 rw[xxb]
 unfold x9y xai x8m
 have hlen:=x1to days bl l 0
 have h60:l.length*l.length<=3600:=Nat.mul_le_mul hl hl
 refine l_rsmall0 d 0 h hl hb (T:=x1oa days bl 0 l) (by omega) _ (fun oa m hG=>?_) NN 0 nilS _ _ (by omega) (by rw[x1pk];omega) ⟨[],Gr.nil,by simp⟩
 obtain⟨p,hp,hf⟩:=hG.frzk (k:=4) Pq.len Pq.still
 exact RetF.mk hf hp
theorem frz_one1{a a':AV}{m:Mem}{l:List AV}(h:Go.Ix.frz m.get deep a=some a')(hl:l.all still=true):(a::l).mapM (Go.Ix.frz m.get deep)=some (a'::l):=by
 rw[List.mapM_cons,h,x1tf _ hl];rfl
theorem Scene.stillA(s:Scene):s.c.all still1=true:=rfl
theorem x1yg{a:AV}{l:List Scene}(h:Sl Scene.c a l)(hl:l.length<=1000000)(s t:Nat)(m:Mem):∃b m2 b',Sl Scene.c b' l/\Go.Ix.frz m2.get deep b=some b' /\
 ∀{R:Type} (k:AV->Mem->Option R),sApp 3 32 (0,s,t) (elems m.get 3 a) (.slit [] 0 true) m k=k b m2:=by
 have he:=h.elems Scene.len m.get
 have hr:x1o4 l.length 32:=by unfold x1o4;omega
 by_cases hq:l.length=0
 .refine⟨.slit [] 0 true,m,.slit [] 0 true,Or.inr ⟨true,by rw[List.length_eq_zero_iff.mp hq];rfl⟩,rfl,fun k=>?_⟩
  rw[he,x1wj hr,decide_eq_true hq]
  rfl
 .have hlen:=x1qy Scene.len l
  refine⟨.sref (0,s,t) 0 0 l.length 3 true,m.new (0,s,t) (.row (l.flatMap Scene.c) 0 false),.slit (l.flatMap Scene.c) l.length false,Sl.lit l false,?_,fun k=>?_⟩
  .have:=x1ut (objs:=(m.new (0,s,t) (.row (l.flatMap Scene.c) 0 false)).get) (id:=(0,s,t)) (cs:=l.flatMap Scene.c) (ver:=0) (off:=0) (n:=l.length) (z:=3) (k:=4) (f:=false) (x:=true) (by simp) (by omega) (by
    rw[List.drop_zero,List.take_of_length_le (by omega)];exact x1tj Scene.stillA l)
   rw[List.drop_zero,List.take_of_length_le (by omega)]at this
   exact this
  .rw[he,x1wj hr,decide_eq_false hq]
   rfl
theorem law_StackSmall{a:AV}{l:List Scene}(h:Sl Scene.c a l)(days bl:Int):∃m',x1no 31 [] x47 [a,I days,I bl] mem0=some (B true,m'):=by
 rw[xx7]
 unfold x9u xa9
 simp[mem0,w_awake7,h.len x1on]
 by_cases h62:(62:Int)<(l.length:Int)
 .simp[h62]
 simp[h62]
 unfold x88
 refine loopW (N:=l.length) (σ:=Unit) (fun n k _ m fc=>x1z (x1no 30) [] 0 n a (I days) (I bl) (I k) m fc) (fun _ _ _=>True) (fun r=>∃m',r=some (B true,m')) ?_ ?_ NN 0 () _ _ (by omega) (by rw[x1pk];omega) trivial
 .rintro n k-m fc hk-next
  have hk':(k:Int)<(l.length:Int):=by omega
  have ix:=h.ix Scene.len hk
  have f1:=x1sv (enc:=Scene.c) (m:=m) hk 0 rfl
  simp only[x1z]
  unfold x87
  simp only[h.len x1on,x1ps,hk',decide_true,x1pj,x1oi,ix,x1tg,f1,sLenS_T,sGt_I]
  by_cases c:(20:Int)<(l[k].nm.size:Int)
  .simp[c]
  .simp(disch:=omega) [c,x1ou]
   exact next () m _ trivial
 .rintro n-m fc -
  have hk:¬((l.length:Int)<(l.length:Int)):=by omega
  simp only[x1z]
  unfold x87 x1y
  simp[h.len x1on,hk]
  obtain⟨b,m2,b',hb',hfb,hcp⟩:=x1yg h (by omega) (fc+4+2) 34 m
  simp only[hcp]
  obtain⟨v,m3,⟨p,rfl,hp⟩,hc,-,-⟩:=callR (m:=m2) (frz_one1 hfb (l:=[I days,I bl]) rfl) (x1ye 25 hb' days bl)
  have hpl:=hp.len x1rd
  simp[hc,x1y7 28 h]
  unfold x86
  by_cases he:(x1ov l).2=0
  .obtain⟨hl,hbd⟩:=x1wq he
   obtain⟨rp,hrp,hrc⟩:=x1yf 27 h hl hbd days bl m3
   have hrl:=hrp.len x1rd
   have hlen:=x1to days bl l 0
   have h60:l.length*l.length<=3600:=Nat.mul_le_mul hl hl
   simp[he,x1tk]
   cases c1:wi days 0 100000 with
   |false=>
    simp
    unfold x1x
    have hE:x1ok l days bl=2:=by simp[x1ok,he,c1]
    have hP:x1p9 l days bl=[]:=by simp[x1p9,hE]
    rw[hP]at hpl
    simp[hE,hpl]
   |true=>
    simp[x1tk]
    cases c2:wi bl 0 200000 with
    |false=>
     simp
     unfold x1x
     have hE:x1ok l days bl=2:=by simp[x1ok,he,c1,c2]
     have hP:x1p9 l days bl=[]:=by simp[x1p9,hE]
     rw[hP]at hpl
     simp[hE,hpl]
    |true=>
     simp
     unfold x1x
     simp[hrc,hrl]
     by_cases c3:200<(x1oa days bl 0 l).length
     .have c3':(200:Int)<((x1oa days bl 0 l).length:Int):=by omega
      have hE:x1ok l days bl=8:=by simp[x1ok,he,c1,c2,c3]
      have hP:x1p9 l days bl=[]:=by simp[x1p9,hE]
      rw[hP]at hpl
      simp[c3',hE,hpl]
     .have c3':¬(200:Int)<((x1oa days bl 0 l).length:Int):=by omega
      have hE:x1ok l days bl=0:=by simp[x1ok,he,c1,c2,c3]
      have hP:x1p9 l days bl=x1oa days bl 0 l:=by simp[x1p9,hE]
      rw[hP]at hp
      simp[c3',hE,x1yd 29 hp hrp (by omega)]
  .simp[he]
   unfold x1x
   have hE:x1ok l days bl=(x1ov l).2:=by simp[x1ok,he]
   have hP:x1p9 l days bl=[]:=by simp[x1p9,hE,he]
   rw[hP]at hpl
   simp[he,hE,hpl]
end Go.Ix
