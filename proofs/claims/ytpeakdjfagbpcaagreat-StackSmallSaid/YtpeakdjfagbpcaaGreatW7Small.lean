import Derived.Test.YtpeakdjfagbpcaaGreatW7Pair
import Derived.Test.YtpeakdjfagbpcaaGreatW7Loop
set_option linter.unusedSimpArgs false
set_option linter.unusedVariables false
namespace Go.Ix
open Go.Proofs
theorem mkLit_P{p q:Int}{id:Id}{m:Mem}{R:Type}{k:AV->Mem->Option R}:x1nw [I 0,I 0] [(0,2,.agg [I p,I q])] 1 2 id m k=k (.slit [I p,I q] 1 true) m:=by
 simp[x1nw,x1qg,x1og,List.range_succ,clean1,AV.one,Value.oneCell']
theorem elems_P{p q:Int}(objs:Id->Option Ob):elems objs 2 (.slit [I p,I q] 1 true)=some (Pq.c ⟨p,q⟩,1):=rfl
theorem build_P{p q:Int}:x1o2 [I 0,I 0] [(0,1,I p),(1,1,I q)]=some (.agg [I p,I q]):=by
 simp[x1o2,x1qg]
theorem InB.get{l:List Scene}(h:InB l){k:Nat}(hk:k<l.length):(0<=l[k].day/\l[k].day<=100000)/\(-100000<=l[k].bl/\l[k].bl<=100000):=h _ (List.getElem_mem hk)
theorem l_small1(d u:Nat){a:AV}{l:List Scene}(h:Sl Scene.c a l)(hl:l.length<=60)(hb:InB l){days bl:Int}(hdy:0<=days/\days<=100000)(hbl:0<=bl/\bl<=200000){i:Nat}(hi:i<60){x:Scene}(hx:(0<=x.day/\x.day<=100000)/\(-100000<=x.bl/\x.bl<=100000))(s12:Nat)(rec0:AV->AV->AV->AV->AV->AV->AV->Mem->Nat->O2){T:List Pq}(hT:T.length<=1000000)(Q:O2->Prop)(hQ:∀oa m fc,Gr 2 Pq.c u 71 m oa T->Q (rec0 a (I days) (I bl) oa a (I l.length) (I ((i:Int)+1)) m fc)) :
 ∀(n k:Nat) (oa:AV) (m:Mem) (fc:Nat),k<=l.length->l.length<n+k->(m.get (u,s12,12)=some (.row x.c 0 false)/\∃out,Gr 2 Pq.c u 71 m oa out/\out++x1oj days bl i x k (l.drop k)=T) ->
 Q (x11 (x1no (d+2)) [] u rec0 n a (I days) (I bl) oa (I i) (.ptr (u,s12,12) 0 0) (I k) a (I l.length) (I i) m fc):=by
 refine loopW (fun n k oa m fc=>x11 (x1no (d+2)) [] u rec0 n a (I days) (I bl) oa (I i) (.ptr (u,s12,12) 0 0) (I k) a (I l.length) (I i) m fc)
  (fun k oa m=>m.get (u,s12,12)=some (.row x.c 0 false)/\∃out,Gr 2 Pq.c u 71 m oa out/\out++x1oj days bl i x k (l.drop k)=T) Q ?_ ?_
 .rintro n k oa m fc hk ⟨hg,out,hG,hE⟩ next
  have hk':(k:Int)<(l.length:Int):=by omega
  have ix:=h.ix Scene.len hk
  have ld:=x1s7 (m:=m) Scene.len (by omega) hk
  rw[x1ql hk]at hE
  obtain⟨e1,e2⟩:=hb.get hk
  generalize l[k]=e at ld hE e1 e2
  simp only[x11]
  unfold x8c x8b x4v
  simp only[h.len x1on,x1ps,hk',decide_true,x1pj,x1oi,ix,ld,x1th,x1tm,x1us,Mem.get_new,if_true,x1ti]
  simp(disch:=omega) [Scene.c,hg,x1ou,x1uu]
  generalize hm1:Mem.set _ _ _=m1
  have hg12:m1.get (u,s12,12)=some (.row x.c 0 false):=by rw[<-hm1];simp[hg]
  have hg14:m1.get (u,fc+4+4,14)=some (.row e.c 0 false):=by rw[<-hm1];simp[Scene.c]
  have hG1:Gr 2 Pq.c u 71 m1 oa out:=hG.frame fun s=>by rw[<-hm1];simp
  have skip:near days bl x e=false->∀fc,Q (x11 (x1no (d+2)) [] u rec0 n a (I days) (I bl) oa (I i) (.ptr (u,s12,12) 0 0) (I ((k:Int)+1)) a (I l.length) (I i) m1 fc):=fun hn fc=>
   next oa m1 fc ⟨hg12,out,hG1,by rw[x1oj,hn]at hE;exact hE⟩
  cases c1:wi (x.day-e.day) (-days) days with
  |false=>
   simp
   exact skip (by simp[near,c1]) _
  |true=>
   simp(disch:=omega) [hg12,hg14,Scene.c,x1ou,x1uu]
   cases c2:wi (x.bl-e.bl) (-bl) bl with
   |false=>
    simp
    exact skip (by simp[near,c2]) _
   |true=>
    have hE2:(out++[⟨(i:Int),(k:Int)⟩])++x1oj days bl i x ((k+1:Nat):Int) (l.drop (k+1))=T:=by
     rw[<-hE]
     simp[x1oj,near,c1,c2]
    have hr:x1o4 (out.length+1) 16:=by
     unfold x1o4
     have:out.length<=T.length:=by rw[<-hE];simp
     omega
    obtain⟨oa2,m2,ha,hG2,_,hm2⟩:=hG1.app (s0:=fc+4+27) (bytes:=16) Pq.len (by omega) hr ⟨i,k⟩
    simp[z_pair,build_P,mkLit_P,elems_P,ha]
    exact next oa2 m2 _ ⟨by rw[hm2 _ (by simp)];exact hg12,_,hG2,hE2⟩
 .rintro n oa m fc ⟨hg,out,hG,hE⟩
  have hk:¬((l.length:Int)<(l.length:Int)):=by omega
  simp only[x11]
  unfold x8c x8
  simp(disch:=omega) [h.len x1on,hk,x1ou]
  refine hQ _ _ _ ?_
  rw[List.drop_of_length_le (Nat.le_refl _)]at hE
  simp[x1oj]at hE
  rw[<-hE];exact hG
theorem x1to(days bl:Int):∀(l:List Scene) (i:Int),(x1oa days bl i l).length<=l.length*l.length
 |[],_=>by simp[x1oa]
 |x::r,i=>by
  have h1:=x1wr days bl i x r (i+1)
  have h2:=x1to days bl r (i+1)
  simp only[x1oa,List.length_append,List.length_cons]
  have:(r.length+1)*(r.length+1)=r.length*r.length+r.length+r.length+1:=by rw[Nat.add_mul,Nat.mul_add];omega
  omega
theorem l_small0(d u:Nat){a:AV}{l:List Scene}(h:Sl Scene.c a l)(hl:l.length<=60)(hb:InB l){days bl:Int}(hdy:0<=days/\days<=100000)(hbl:0<=bl/\bl<=200000){T:List Pq}(hT:T.length<=1000000)(Q:O2->Prop)(hQ:∀oa m fc,Gr 2 Pq.c u 71 m oa T->Q (x7 (x1no (d+2)) [] u oa m fc)) :
 ∀(n k:Nat) (oa:AV) (m:Mem) (fc:Nat),k<=l.length->l.length<n+k->(∃out,Gr 2 Pq.c u 71 m oa out/\out++x1oa days bl k (l.drop k)=T) ->
 Q (x12 (x1no (d+2)) [] u n a (I days) (I bl) oa a (I l.length) (I k) m fc):=by
 refine loopW (fun n k oa m fc=>x12 (x1no (d+2)) [] u n a (I days) (I bl) oa a (I l.length) (I k) m fc)
  (fun k oa m=>∃out,Gr 2 Pq.c u 71 m oa out/\out++x1oa days bl k (l.drop k)=T) Q ?_ ?_
 .rintro n k oa m fc hk ⟨out,hG,hE⟩ next
  have hk':(k:Int)<(l.length:Int):=by omega
  have ix:=h.ix Scene.len hk
  have ld:=x1s7 (m:=m) Scene.len (by omega) hk
  rw[x1ql hk]at hE
  have hx:=hb.get hk
  generalize l[k]=e at ld hE hx
  simp only[x12]
  unfold x8d x4w
  simp only[h.len x1on,x1ps,hk',decide_true,x1pj,x1oi,ix,ld,x1th,x1tm,x1us,Mem.get_new,if_true,x1ti]
  simp(disch:=omega) [Scene.c,x1ou]
  generalize hm1:Mem.set _ _ _=m1
  have hg12:m1.get (u,fc+1+3,12)=some (.row e.c 0 false):=by rw[<-hm1];simp[Scene.c]
  have hG1:Gr 2 Pq.c u 71 m1 oa out:=hG.frame fun s=>by rw[<-hm1];simp
  have hlen:(out++x1oj days bl k e (k+1) (l.drop (k+1))).length<=1000000:=by
   have:(out++x1oj days bl k e (k+1) (l.drop (k+1))).length<=T.length:=by
    rw[<-hE];simp[x1oa]
   omega
  refine l_small1 d u h hl hb hdy hbl (i:=k) (by omega) hx (fc+1+3) (x12 (x1no (d+2)) [] u n) (T:=out++x1oj days bl k e (k+1) (l.drop (k+1))) hlen Q (fun oa m fc hG=>?_) NN (k+1) oa m1 _ (by omega) (by rw[x1pk];omega) ⟨hg12,out,hG1,rfl⟩
  exact next oa m fc ⟨_,hG,by rw[<-hE];simp[x1oa]⟩
 .rintro n oa m fc ⟨out,hG,hE⟩
  have hk:¬((l.length:Int)<(l.length:Int)):=by omega
  simp only[x12]
  unfold x8d
  simp[hk]
  refine hQ _ _ _ ?_
  rw[List.drop_of_length_le (Nat.le_refl _)]at hE
  simp[x1oa]at hE
  rw[<-hE];exact hG
def x1ok(l:List Scene)(days bl:Int):Int:=
 bif !decide ((x1ov l).2=0)then(x1ov l).2 else bif !(wi days 0 100000)||!(wi bl 0 200000)then 2 else bif decide (200<(x1oa days bl 0 l).length)then 8 else 0
def x1p9(l:List Scene)(days bl:Int):List Pq:=bif decide (x1ok l days bl=0)then x1oa days bl 0 l else[]
theorem x1ye(d:Nat){a:AV}{l:List Scene}(h:Sl Scene.c a l)(days bl:Int) :
 RetF (fun v=>∃p,v=.tup [p,I (x1ok l days bl)]/\Sl Pq.c p (x1p9 l days bl)) (x1no (d+5) [] x35 [a,I days,I bl] mem0):=by
 rw[xx9]
 unfold x9w xag
 have hnil:∀e:Int,e≠0->x1ok l days bl=e->∀m:Mem,RetF (fun v=>∃p,v=.tup [p,I (x1ok l days bl)]/\Sl Pq.c p (x1p9 l days bl)) (some (.tup [nilS,I e],m)):=fun e h0 he m=>
  RetF.tup rfl ⟨nilS,by rw[he],Or.inl ⟨rfl,by unfold x1p9;rw[he];simp[h0]⟩⟩
 simp[mem0,x1y4 d h,x1tl]
 by_cases he:(x1ov l).2=0
 .simp[he]
  obtain⟨hl,hb⟩:=x1wq he
  cases c1:wi days 0 100000 with
  |false=>simp;exact hnil 2 (by omega) (by simp[x1ok,he,c1]) _
  |true=>
   simp[x1tl]
   cases c2:wi bl 0 200000 with
   |false=>simp;exact hnil 2 (by omega) (by simp[x1ok,he,c1,c2]) _
   |true=>
    simp
    unfold x8e
    simp[h.len x1on]
    have hlen:=x1to days bl l 0
    have h60:l.length*l.length<=3600:=Nat.mul_le_mul hl hl
    refine l_small0 (d+2) 0 h hl hb (wi_t c1) (wi_t c2) (T:=x1oa days bl 0 l) (by omega) _ (fun oa m fc hG=>?_) NN 0 nilS _ _ (by omega) (by rw[x1pk];omega) ⟨[],Gr.nil,by simp⟩
    unfold x7
    simp[hG.len x1rd]
    by_cases c3:200<(x1oa days bl 0 l).length
    .have c3':(200:Int)<((x1oa days bl 0 l).length:Int):=by omega
     simp[c3']
     exact hnil 8 (by omega) (by simp[x1ok,he,c1,c2,c3]) _
    .have c3':¬(200:Int)<((x1oa days bl 0 l).length:Int):=by omega
     simp[c3']
     obtain⟨p,hp,hf⟩:=hG.frzk (k:=3) Pq.len Pq.still
     have hE:x1ok l days bl=0:=by simp[x1ok,he,c1,c2,c3]
     refine RetF.mk (frz_tup2 hf frz_I) ⟨p,by rw[hE],?_⟩
     unfold x1p9
     rw[hE]
     exact hp
 .simp[he]
  exact hnil _ he (by simp[x1ok,he]) _
end Go.Ix
