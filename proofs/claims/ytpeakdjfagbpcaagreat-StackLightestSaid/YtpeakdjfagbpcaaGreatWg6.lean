import Derived.Test.YtpeakdjfagbpcaaGreatWg5
import Derived.Test.YtpeakdjfagbpcaaGreatWg3
import Derived.Test.YtpeakdjfagbpcaaGreatWg4
import Derived.Test.YtpeakdjfagbpcaaGreatWg2
set_option linter.unusedSimpArgs false
set_option linter.unusedVariables false
namespace Go.Ix
open Go.Proofs
def Wy7(P:List Pq)(F:List Int)(a b bef:Int)(w:List Sp):Prop:=Wk P w a b/\AllF F w/\NB P w/\Aw P bef w
theorem z_slst:x6q=[nilS]:=by kernel_rfl
theorem z_bl7:x4n=[B false]:=by kernel_rfl
theorem x195{y:AV}{w:List Sp}(h:Sl Sp.c y w)(hw:w.length<=1000)(id:Id)(x:Sp)(m:Mem) :
 ∃o m2,(∀{R:Type} (K:AV->Mem->Option R),sApp 2 16 id (elems m.get 2 y) (.slit [I x.p,I x.s] 1 true) m K=K o m2)/\(o.cells=[o]/\o.one=true) /\
  (∃y',Sl Sp.c y' (x::w)/\∀(m3:Mem) (k:Nat),m3.get id=m2.get id->Go.Ix.frz m3.get (k+2) o=some y')/\m2.next=m.next/\∀j,j≠id->m2.get j=m.get j:=by
 have he:=h.elems Sp.len m.get
 by_cases h0:w.length=0
 .have:=List.length_eq_zero_iff.mp h0
  subst this
  refine⟨.slit [I x.p,I x.s] 1 true,m,fun K=>?_,⟨rfl,rfl⟩,⟨.slit [I x.p,I x.s] 1 true,Sl.lit [x] true,fun m3 k _=>xyl _ k rfl⟩,rfl,fun _ _=>rfl⟩
  rw[he]
  simp[sApp]
 .refine⟨.sref id 0 0 (x::w).length 2 true,m.new id (.row ((x::w).flatMap Sp.c) 0 false),fun K=>?_,⟨rfl,rfl⟩,⟨_,Sl.lit (x::w) false,fun m3 k h3=>x11e (k:=k) Sp.len Sp.still (by rw[h3];simp)⟩,rfl,fun j hj=>by rw[Mem.get_new,if_neg hj]⟩
  rw[he]
  simp only[sApp]
  rw[if_pos (by simp),if_neg h0,if_pos (by unfold xx6;omega)]
  rw[Nat.add_comm 1]
  rfl
structure WyM (s p f:AV) (a b bef:Int) (m:Mem):Prop where
 b5:m.get (0,0,5)=some (.row [s,p] 0 false)
 b6:m.get (0,1,6)=some (.row [f] 0 false)
 b7:m.get (0,2,7)=some (.row [I a] 0 false)
 b8:m.get (0,3,8)=some (.row [I b] 0 false)
 b9:m.get (0,4,9)=some (.row [I bef] 0 false)
 b10:m.get (0,5,10)=some (.row [nilS] 0 false)
 b11:m.get (0,6,11)=some (.row [B false] 0 false)
 nx:1<=m.next
theorem WyM.fr{s p f:AV}{a b bef:Int}{m m':Mem}(h:WyM s p f a b bef m)(hn:1<=m'.next)(hg:∀j:Id,j.1=0->j.2.2≠1->m'.get j=m.get j):WyM s p f a b bef m':=
 ⟨by rw[hg _ rfl (by simp)];exact h.b5,by rw[hg _ rfl (by simp)];exact h.b6,by rw[hg _ rfl (by simp)];exact h.b7,by rw[hg _ rfl (by simp)];exact h.b8,by rw[hg _ rfl (by simp)];exact h.b9,by rw[hg _ rfl (by simp)];exact h.b10,by rw[hg _ rfl (by simp)];exact h.b11,hn⟩
def WayR(P:List Pq)(F:List Int)(a b bef:Int)(v:AV):Prop:=
 (∃w y,Wy7 P F a b bef w/\Sl Sp.c y w/\v=.tup [y,B true])\/((∀w,¬Wy7 P F a b bef w)/\v=.tup [nilS,B false])
theorem a_way(d:Nat){s p f:AV}{l:List Scene}{P:List Pq}{F:List Int}(hs:Sl Scene.c s l)(hp:Sl Pq.c p P)(hf:Ints f F)(hF:F.length<=1000)(hr:∀i∈F,0<=i/\i<P.length)(b:Int) :
 ∀(k:Nat) (a bef:Int),k<=1000->(∀w c,Wy7 P F a c bef w->w.length<k)->RetF (WayR P F a b bef) (xwy (d+3+k) [] xz [.agg [s,p],f,I a,I b,I bef] mem0):=by
 intro k
 induction k with
 |zero=>
  intro a bef _ hk
  exact absurd (hk [] a ⟨rfl,(fun _ h=>by cases h),trivial,trivial⟩) (by simp)
 |succ k ih=>
  intro a bef hk1 hk
  rw[show d+3+(k+1)=(d+3+k)+1 by omega,xj6]
  unfold x8p xai
  simp[mem0,hs.one,hp.one,hf.one,hf.cells,z_slst,z_bl7]
  generalize hm1:Mem.new _ _ _=m1
  have hW:WyM s p f a b bef m1:=by
   refine⟨?_,?_,?_,?_,?_,?_,?_,?_⟩
   all_goals first|(rw[<-hm1];simp;done)|(rw[<-hm1];exact Nat.le_refl 1)
  by_cases hab:a=b
  .subst hab
   simp[hW.b10,hW.b11,sLdP]
   exact RetF.mk (T:=WayR P F a a bef) (x12a rfl rfl) (Or.inl ⟨[],nilS,⟨rfl,(fun _ h=>by cases h),trivial,trivial⟩,Or.inl ⟨rfl,rfl⟩,rfl⟩)
  .simp[hab]
   unfold x70
   have hfrom:=w_from (d+2+k) hs hp hf a m1
   rw[show d+2+k+1=d+3+k by omega]at hfrom
   simp[hW.b5,hW.b6,hW.b7,hfrom]
   unfold x6z
   simp only[sRng]
   generalize hL:((0,14,1):Id)=lid
   have hl1:lid.1=0/\lid.2.2=1:=by rw[<-hL];exact⟨rfl,rfl⟩
   generalize hH:(fun(args:List AV) (m:Mem)=>bif Nat.beq args.length 2&&true then x6y (xwy (d+3+k)) [] m.next lid (.ptr (0,0,5) 0 0) (.ptr (0,1,6) 0 0) (.ptr (0,2,7) 0 0) (.ptr (0,3,8) 0 0) (.ptr (0,4,9) 0 0) (.ptr (0,5,10) 0 0) (.ptr (0,6,11) 0 0) (args.getD 0 U) (args.getD 1 U) ⟨m.hp,m.next+1⟩ 0 else none)=H
   generalize hm2:m1.new lid (.lp none)=m2
   have hW2:WyM s p f a b bef m2:=hW.fr (by rw[<-hm2];exact hW.nx) fun j h0 h1=>by
    rw[<-hm2,Mem.get_new,if_neg (by rintro rfl;exact h1 hl1.2)]
   have hl2:m2.get lid=some (.lp none):=by rw[<-hm2];simp
   have hn2:1<=m2.next:=hW2.nx
   obtain⟨m3,hc,hI⟩:=c_from2 (d:=d+1+k) (hh:=[(lid,H)]) (id:=lid) (h:=H) hs hp hf hF hr (by simp[xz7]) a (m0:=m2)
    (fun pre m=>WyM s p f a b bef m/\m.get lid=some (.lp none)/\∀x∈pre,InF F x->frS P x=a->toS P x≠bef->∀w,¬Wy7 P F (toS P x) b a w)
    (fun m=>m.get lid=some (.lp (some .ret))/\∃w o y,Wy7 P F a b bef w/\Sl Sp.c y w/\m.get (0,5,10)=some (.row [o] 0 false)/\m.get (0,6,11)=some (.row [B true] 0 false)/\Go.Ix.frz m.get 5 o=some y)
    (fun pre m m' ⟨h1,h2,h3⟩ hn hg=>⟨h1.fr (by rw[hn];exact h1.nx) (fun j hj _=>hg j (by omega)),by rw[hg _ (by omega)];exact h2,h3⟩)
    (fun pre x m hx hfx ⟨h1,h2,h3⟩=>by
     rw[<-hH]
     simp only[List.length_cons,List.length_nil,Nat.zero_add,Nat.reduceAdd,Nat.beq_refl,Bool.and_true,xym,List.getD_cons_zero,List.getD_cons_succ]
     unfold x6y
     have hmn:=h1.nx
     generalize hU3:m.next=u3 at *
     simp only[x12e]
     simp
     generalize hm4:Mem.set _ _ _=m4
     have hm4g:∀j:Id,¬j.1=u3->m4.get j=m.get j:=fun j hj=>by
      rw[<-hm4,Mem.get_set,if_neg (by rintro rfl;exact hj rfl),Mem.get_new,if_neg (by rintro rfl;exact hj rfl)];rfl
     have q12:m4.get (u3,0,12)=some (.row [I x.p,I x.s] 0 false):=by rw[<-hm4];simp
     have hm4n:m4.next=u3+1:=by rw[<-hm4];rfl
     have hW4:WyM s p f a b bef m4:=h1.fr (by omega) fun j hj _=>hm4g j (by omega)
     have hl4:m4.get lid=some (.lp none):=by rw[hm4g _ (by omega)];exact h2
     have hlp:sLpN lid m4=some m4:=by unfold sLpN lpB;rw[hl4];rfl
     have hlv:live m4.get lid=true:=by unfold live;rw[hl1.2,hl4];rfl
     have hwr:∀w,Wy7 P F (toS P x) b a w->Wy7 P F a b bef (x::w)\/toS P x=bef:=fun w ⟨w1,w2,w3,w4⟩=>by
      by_cases e:toS P x=bef
      .exact .inr e
      .refine .inl ⟨⟨hfx,w1⟩,fun z hz=>?_,aw_nb (by rw[hfx];exact w4) w3,e⟩
       rcases List.mem_cons.mp hz with rfl|hz
       .exact hx
       .exact w2 z hz
     rw[hlp]
     simp only[xx7]
     unfold x6x
     by_cases e:toS P x=bef
     .simp[hW4.b9,e,hlp]
      refine .inl ⟨hlv,hW4,hl4,fun z hz=>?_⟩
      rcases hz with hz|rfl
      .exact h3 z hz
      .exact fun _ _ he=>absurd e he
     .obtain⟨v,hv,hvc⟩:=xzj (l:=[.agg [s,p],f,I (toS P x),I b,I a]) (by simp[hs.still1,hp.still1,hf.still]) (ih (toS P x) a (by omega) fun w c ⟨w1,w2,w3,w4⟩=>by
       have:=hk (x::w) c ⟨⟨hfx,w1⟩,(fun z hz=>by
        rcases List.mem_cons.mp hz with rfl|hz
        .exact hx
        .exact w2 z hz),aw_nb (by rw[hfx];exact w4) w3,e⟩
       simp at this
       omega) m4
      rcases hv with ⟨w,y,hw,hy,rfl⟩|⟨hno,rfl⟩
      .have hlen:=hk _ _ ((hwr w hw).resolve_right e)
       simp at hlen
       obtain⟨o,m5,e1,⟨e2,e3⟩,⟨y',e4,e5⟩,e6,e7⟩:=x195 hy (by omega) (u3,21,41) x m4
       have q10:m5.get (0,5,10)=some (.row [nilS] 0 false):=by rw[e7 _ (by intro e;cases e)];exact hW4.b10
       have q11:m5.get (0,6,11)=some (.row [B false] 0 false):=by rw[e7 _ (by intro e;cases e)];exact hW4.b11
       have ql:m5.get lid=some (.lp none):=by rw[e7 _ (by rintro rfl;simp at hl1)];exact hl4
       simp[hW4.b9,hW4.b5,hW4.b6,hW4.b7,hW4.b8,e,hvc,sExt,q12,x15v,e1,e2,e3,q10,q11]
       simp only[x12e,x15v]
       rw[e1]
       simp[q10,q11,e2,e3]
       generalize hm6:Mem.set (Mem.set m5 _ _) _ _=m6
       have g6:∀j:Id,j≠(0,5,10)->j≠(0,6,11)->m6.get j=m5.get j:=fun j j1 j2=>by
        rw[<-hm6,Mem.get_set,if_neg j2,Mem.get_set,if_neg j1]
       have ql6:m6.get lid=some (.lp none):=by rw[g6 _ (by rintro rfl;simp at hl1) (by rintro rfl;simp at hl1)];exact ql
       have hlx:sLpX lid .ret m6=some (m6.set lid (.lp (some .ret))):=by unfold sLpX lpB;rw[ql6];rfl
       refine⟨_,hlx,.inr ⟨by unfold live;rw[hl1.2];simp;rfl,by simp,x::w,(hwr w hw).resolve_right e,o,y',e4,?_,?_,?_⟩⟩
       .rw[Mem.get_set,if_neg (by rintro rfl;simp at hl1),<-hm6];simp
       .rw[Mem.get_set,if_neg (by rintro rfl;simp at hl1),<-hm6];simp
       .exact e5 _ 3 (by rw[Mem.get_set,if_neg (by rintro rfl;simp at hl1),g6 _ (by simp) (by simp)])
      .simp[hW4.b9,hW4.b5,hW4.b6,hW4.b7,hW4.b8,e,hvc,hlp,sExt]
       refine .inl ⟨hlv,hW4,hl4,fun z hz=>?_⟩
       rcases hz with hz|rfl
       .exact h3 z hz
       .exact fun _ _ _=>hno)
    (fun pre x m hx hfx ⟨h1,h2,h3⟩=>⟨h1,h2,fun z hz hz1 hz2=>by
     rcases List.mem_append.mp hz with hz|hz
     .exact h3 z hz hz1 hz2
     .simp at hz;subst hz;exact absurd hz2 hfx⟩)
    (fun m hn hg=>⟨hW2.fr (by omega) (fun j _ _=>hg j),by rw[hg];exact hl2,fun z hz=>by cases hz⟩)
   rw[show d+1+k+2=d+3+k by omega]at hc
   rw[hc]
   simp only[xx7]
   rcases hI with ⟨h1,h2,h3⟩|⟨h1,w,o,y,h2,h3,h4,h5,h6⟩
   .unfold sLp
    rw[h2]
    simp only
    unfold x2o
    simp[h1.b10,h1.b11,sLdP]
    refine RetF.mk (T:=WayR P F a b bef) (x12a rfl rfl) (Or.inr ⟨fun w ⟨w1,w2,w3,w4⟩=>?_,rfl⟩)
    cases w with
    |nil=>exact hab w1
    |cons x w=>exact h3 x (mem_stepsOf.mpr w2.head) w2.head w1.1 w4 w ⟨w1.2,w2.tail,w3.tail,by rw[<-w1.1];exact nb_aw w3⟩
   .unfold sLp
    rw[h1]
    simp only
    simp[sLdP,h4,h5]
    exact RetF.mk (T:=WayR P F a b bef) (x12a h6 rfl) (Or.inl ⟨w,y,h2,h3,rfl⟩)
def idY:Id:=(0,5,21)
def idS:Id:=(0,10,25)
structure WM (s p:AV) (st:RSt) (m:Mem):Prop where
 b4:m.get (0,0,4)=some (.row [s,p] 0 false)
 oY:Ow Sp.c m idY st.y
 oS:Ow bE m idS st.k
theorem WM.fr{s p:AV}{st:RSt}{m m':Mem}(h:WM s p st m)(e:∀j:Id,j=(0,0,4)\/j=idY\/j=idS->m'.get j=m.get j):WM s p st m':=
 ⟨by rw[e _ (.inl rfl)];exact h.b4,h.oY.fr (e _ (.inr (.inl rfl))),h.oS.fr (e _ (.inr (.inr rfl)))⟩
def OutS(m:Mem)(a:AV)(l:List Sp):Prop:=Sl Sp.c a l\/∃id:Id,id.1=0/\id.2.2=85/\a=.sref id 0 0 l.length 2 true/\Ow Sp.c m id l
theorem OutS.elems{m:Mem}{a:AV}{l:List Sp}(h:OutS m a l):elems m.get 2 a=some (l.flatMap Sp.c,l.length):=by
 rcases h with h|⟨id,-,-,rfl,h⟩
 .exact h.elems Sp.len m.get
 .have hl:=xyv Sp.len l
  unfold Go.Ix.elems
  simp only
  unfold Ow at h
  rw[h]
  simp only
  rw[if_pos ⟨trivial,trivial,by omega⟩,List.drop_zero,List.take_of_length_le (by omega)]
theorem OutS.frz{m:Mem}{a:AV}{l:List Sp}(h:OutS m a l)(k:Nat):∃a',Sl Sp.c a' l/\Go.Ix.frz m.get (k+2) a=some a':=by
 rcases h with h|⟨id,-,-,rfl,h⟩
 .exact⟨a,h,xyl _ k h.still⟩
 .exact⟨_,Sl.lit l false,x11e (k:=k) Sp.len Sp.still h⟩
open Classical in
noncomputable def wayC(P:List Pq)(F:List Int)(a b:Int):List Sp:=if h:∃w,Wk P w a b/\AllF F w/\NB P w then Classical.choose h else[]
theorem wayC_ok{P:List Pq}{F:List Int}{a b:Int}(h:∃w,Wk P w a b/\AllF F w):Wk P (wayC P F a b) a b/\AllF F (wayC P F a b)/\NB P (wayC P F a b):=by
 obtain⟨w,h1,h2⟩:=h
 have hx:∃w,Wk P w a b/\AllF F w/\NB P w:=by
  obtain⟨v,h3,h4,h5⟩:=nb_of h1 h2
  exact⟨v,h3,h4,h5⟩
 unfold wayC
 rw[dif_pos hx]
 exact Classical.choose_spec hx
theorem wayC_one{P:List Pq}{F:List Int}(hC:Cut P F){a b:Int}{w:List Sp}(h1:Wk P w a b)(h2:AllF F w)(h3:NB P w):w=wayC P F a b:=by
 obtain⟨w1,w2,w3⟩:=wayC_ok ⟨w,h1,h2⟩
 exact x18f hC h1 w1 h2 w2 h3 w3
noncomputable def cycC(P:List Pq)(F:List Int)(i:Int):List Sp:=⟨i,1⟩::wayC P F (prAt P i).b (prAt P i).a
theorem prAt_mem{P:List Pq}{i:Int}(h0:0<=i)(h1:i<P.length):prAt P i∈P:=by
 unfold prAt
 rw[List.getD_eq_getElem?_getD,List.getElem?_eq_getElem (by omega)]
 exact List.getElem_mem _
theorem tree_way{n:Nat}{P:List Pq}{F:List Int}(hP:∀p∈P,PqIn n p)(hF:Tree n P F){i:Int}(h0:0<=i)(h1:i<P.length):∃w,Wk P w (prAt P i).b (prAt P i).a/\AllF F w:=by
 have hm:=prAt_mem h0 h1
 obtain⟨a0,a1,a2⟩:=hP _ hm
 have:=hF.all _ hm
 obtain⟨w,w1,w2⟩:=x18n hP hF.fo.rng (v:=(prAt P i).b.toNat) (w:=(prAt P i).a.toNat) (by omega) (by omega) (Eq.symm this)
 rw[Int.toNat_of_nonneg (by omega),Int.toNat_of_nonneg (by omega)]at w1
 exact⟨w,w1,w2⟩
theorem x14f{n:Nat}{P:List Pq}{F:List Int}(hP:∀p∈P,PqIn n p)(hF:Tree n P F){i:Int}(h0:0<=i)(h1:i<P.length) :
 Wk P (wayC P F (prAt P i).b (prAt P i).a) (prAt P i).b (prAt P i).a/\AllF F (wayC P F (prAt P i).b (prAt P i).a)/\NB P (wayC P F (prAt P i).b (prAt P i).a)/\(wayC P F (prAt P i).b (prAt P i).a).length<=n:=by
 obtain⟨w1,w2,w3⟩:=wayC_ok (tree_way hP hF h0 h1)
 have h2:=nb_len (hF.fo.cut hP) w1 w2 w3
 have h3:=hF.fo.len hP
 exact⟨w1,w2,w3,by omega⟩
theorem prAt_get{P:List Pq}{i:Int}(h1:i.toNat<P.length):P[i.toNat]=prAt P i:=by
 unfold prAt
 rw[List.getD_eq_getElem?_getD,List.getElem?_eq_getElem h1]
 rfl
theorem aw_neg{n:Nat}{P:List Pq}{F:List Int}(hP:∀p∈P,PqIn n p)(hr:∀i∈F,0<=i/\i<P.length){w:List Sp}(h:AllF F w):Aw P (-1) w:=by
 cases w with
 |nil=>trivial
 |cons x w=>
  have:=(x13d hP hr h.head).2
  show toS P x≠-1
  omega
theorem a_cycle(d:Nat){s p f:AV}{l:List Scene}{P:List Pq}{F:List Int}(hs:Sl Scene.c s l)(hp:Sl Pq.c p P)(hf:Ints f F)(hl:l.length<=8)(hP:∀p∈P,PqIn l.length p)(hF:Tree l.length P F){i:Int}(h0:0<=i)(h1:i<P.length) :
 RetF (fun v=>Sl Sp.c v (cycC P F i)) (xwy (d+13) [] x35 [.agg [s,p],f,I i] mem0):=by
 obtain⟨w1,w2,w3,w4⟩:=x14f hP hF h0 h1
 have hFl:=hF.fo.len hP
 have hway:=a_way d hs hp hf (by omega) hF.fo.rng (prAt P i).a 9 (prAt P i).b (-1) (by omega) fun w c ⟨a1,a2,a3,a4⟩=>by
  have:=nb_len (hF.fo.cut hP) a1 a2 a3
  omega
 obtain⟨a0,a1,a2⟩:=x11g hP ⟨h0,h1⟩
 have ix:=hp.ixI Pq.len h0 h1
 have ld:=fun m=>xya (m:=m) Pq.len (by omega) (show i.toNat<P.length by omega)
 rw[prAt_get (by omega)]at ld
 rw[show d+13=(d+3+9)+1 by omega,xis]
 unfold x8b xa2
 simp[mem0,hs.one,hp.one,ix,ld,Pq.c,x100]
 generalize hm1:Mem.set _ _ _=m1
 have q3:m1.get (0,0,3)=some (.row [s,p] 0 false):=by rw[<-hm1];simp
 have q7:m1.get (0,8,7)=some (.row [I (prAt P i).a,I (prAt P i).b] 0 false):=by rw[<-hm1];simp
 obtain⟨v,hv,hvc⟩:=xzj (by simp[hs.still1,hp.still1,hf.still]) hway m1
 rw[show d+3+9=d+12 by omega]at hvc
 rw[hvc]
 rcases hv with ⟨w,y,hw,hy,rfl⟩|⟨hno,rfl⟩
 .have hwe:=wayC_one (hF.fo.cut hP) hw.1 hw.2.1 hw.2.2.1
  subst hwe
  obtain⟨o,m2,e1,-,⟨y',e4,e5⟩,-,-⟩:=x195 hy (by omega) (0,26,30) ⟨i,1⟩ m1
  have hb:xxp x1a [(0,1,I i),(1,1,I 1)]=some (.agg [I i,I 1]):=by rw[x12e];simp[xxp,xyc]
  simp only[xx7,sExt_tup,List.getElem?_cons_zero,List.getElem?_cons_succ,hb]
  simp only[x12e,x15v]
  rw[e1]
  exact RetF.mk (e5 m2 4 rfl) e4
 .exact absurd ⟨w1,w2,w3,aw_neg hP hF.fo.rng w2⟩ (hno _)
theorem w_cycle(d:Nat){s p f:AV}{l:List Scene}{P:List Pq}{F:List Int}(hs:Sl Scene.c s l)(hp:Sl Pq.c p P)(hf:Ints f F)(hl:l.length<=8)(hP:∀p∈P,PqIn l.length p)(hF:Tree l.length P F){i:Int}(h0:0<=i)(h1:i<P.length)(m:Mem) :
 ∃v,Sl Sp.c v (cycC P F i)/\xwz (xwy (d+13)) x35 [.agg [s,p],f,I i] m=some (v,m):=
 xzj (by simp[hs.still1,hp.still1,hf.still]) (a_cycle d hs hp hf hl hP hF h0 h1) m
def idxM(x:Int):List Int->Int->Int
 |[],_=>-1
 |y::r,k=>if x=y then k else idxM x r (k+1)
theorem x196{x:Int}:∀(F:List Int) (k:Int),0<=k->(decide (0<=idxM x F k)=F.any fun y=>decide (y=x))
 |[],_,_=>rfl
 |y::r,k,h=>by
  rw[idxM,List.any_cons]
  by_cases c:x=y
  .rw[if_pos c];simp[h,c]
  .rw[if_neg c,x196 r (k+1) (by omega)]
   have:¬y=x:=fun e=>c e.symm
   simp[this]
theorem x1bc(d:Nat){f:AV}{F:List Int}{x:Int}(hf:Ints f F)(hF:F.length<=1000000)(m:Mem):xwz (xwy (d+2)) x3w [f,I x] m=some (B (F.any fun y=>decide (y=x)),m):=by
 have hidx:∀m,xwz (xwy (d+1)) x44 [f,I x] m=some (I (idxM x F 0),m):=fun m=>by
  refine xy7 (by simp[hf.still]) ?_ m
  rw[xj5]
  unfold x8o xah x6w
  simp only[hf.len xxy,xx7]
  refine xxu (N:=F.length) (σ:=Unit) (fun n k _ m fc=>x2n (xwy d) [] 0 n f (I x) (I F.length) (I k) m fc) (fun k _ m=>idxM x (F.drop k) k=idxM x F 0) _ ?_ ?_ NN 0 () _ _ (by omega) (by rw[xxb];omega) (by simp)
  .rintro n k-m fc hk hI next
   have hk':(k:Int)<(F.length:Int):=by omega
   have ix:=hf.ix xy2 hk
   rw[xxx hk,idxM,<-xxa hk]at hI
   simp only[x2n]
   unfold x6v
   simp(disch:=omega) [hk',ix,xzy]
   by_cases c:x=at0 F k
   .rw[if_pos c]at hI
    simp[c]
    exact RetF.st rfl (by rw[<-c,<-hI])
   .rw[if_neg c]at hI
    simp[c]
    exact next () _ _ (by rw[<-hI];norm_cast)
  .rintro n-m fc hI
   simp only[x2n]
   unfold x6v x2m
   simp
   rw[List.drop_length]at hI
   exact RetF.st rfl (by rw[<-hI];rfl)
 refine xy7 (by simp[hf.still]) ?_ m
 rw[xir]
 unfold x8a xa1
 simp[hidx]
 exact RetF.st rfl (by rw[x196 F 0 (by omega)])
@[simp] theorem still1_plit(l:List AV):still1 (.plit l)=true:=rfl
def xyw(F:List Int)(l:List Int):List Int:=l.filter fun i=>!(F.any fun y=>decide (y=i))
def xyd(P:List Pq)(F:List Int):List Int:=xyw F (freshM P.length)
theorem w_cycles(d:Nat){s p f:AV}{l:List Scene}{P:List Pq}{F:List Int}(hs:Sl Scene.c s l)(hp:Sl Pq.c p P)(hf:Ints f F)(m:Mem) :
 xwz (xwy (d+1)) x3v [.agg [s,p],f] m=some (.clo xy [.plit [s,p],.plit [f]],m):=by
 refine xy7 (by simp[hs.still1,hp.still1,hf.still]) ?_ m
 rw[xiq]
 unfold x89 xa0
 simp[mem0,hs.one,hp.one,hf.one,hf.cells]
 generalize hm:Mem.new _ _ _=m1
 have g2:m1.get (0,0,2)=some (.row [s,p] 0 false):=by rw[<-hm];simp
 have g3:m1.get (0,1,3)=some (.row [f] 0 false):=by rw[<-hm];simp
 have e3:Go.Ix.frz m1.get 5 (.ptr (0,1,3) 0 0)=some (.plit [f]):=x14e g3 (xyl _ 2 hf.still)
 have e2:Go.Ix.frz m1.get 5 (.ptr (0,0,2) 0 0)=some (.plit [s,p]):=by
  rw[x16b g2]
  simp only[List.drop_zero,List.mapM_cons,List.mapM_nil,xyl m1.get 2 hs.still,xyl m1.get 2 hp.still]
  rfl
 refine RetF.mk (a':=.clo xy [.plit [s,p],.plit [f]]) ?_ rfl
 show(([AV.ptr (0,0,2) 0 0,.ptr (0,1,3) 0 0].mapM (Go.Ix.frz m1.get 5)).map fun l=>AV.clo _ l)=_
 simp only[List.mapM_cons,List.mapM_nil,e3,e2]
 rfl
theorem restK_app(F l k:List Int):xyw F (l++k)=xyw F l++xyw F k:=List.filter_append ..
theorem c_cycs(d:Nat){hh:FHs}{id:Id}{h:List AV->Mem->Option Mem}{s p f:AV}{l:List Scene}{P:List Pq}{F:List Int}(hs:Sl Scene.c s l)(hp:Sl Pq.c p P)(hf:Ints f F)(hl:l.length<=8)(hPl:P.length<=1000)(hP:∀p∈P,PqIn l.length p)(hF:Tree l.length P F)(hh1:xz7 hh id=some h){m0:Mem}(Inv:List Int->Mem->Prop)(Fin:Mem->Prop)(hy:∀(pre:List Int) (i:Int) v m,pre.length<P.length->0<=i->i<P.length->i∉F->Sl Sp.c v (cycC P F i)->Inv pre m->∃m2,h [v] m=some m2/\(live m2.get id=true/\Inv (pre++[i]) m2\/live m2.get id=false/\Fin m2))(h0:∀m,m.next=m0.next+1->(∀i:Id,m.get i=m0.get i)->Inv [] m) :
 ∃m',xwy (d+14) hh xy [.yld id,.plit [s,p],.plit [f]] m0=some (.tup [],m')/\(Inv (xyd P F) m'\/Fin m'):=by
 have hFl:=hF.fo.len hP
 rw[xj4]
 unfold x8n xag
 generalize hu:m0.next=u at *
 simp[hp.len xy8]
 refine xxu (N:=P.length) (σ:=Unit) (fun n k _ m fc=>x2l (xwy (d+13)) hh u n (.yld id) (.plit [s,p]) (.plit [f]) (I P.length) (I k) m fc) (fun k _ m=>Inv (xyw F ((freshM P.length).take k)) m)
  (fun r=>∃m',r=some (.tup [],m')/\(Inv (xyd P F) m'\/Fin m')) ?_ ?_ NN 0 () _ _ (by omega) (by rw[xxb];omega) (by simpa[xyw]using h0 ⟨m0.hp,u+1⟩ rfl (fun _=>rfl))
 .rintro n k-m fc hk hI next
  have hk':(k:Int)<(P.length:Int):=by omega
  have hc:=fun m=>x1bc (d+11) (x:=(k:Int)) hf (by omega) m
  rw[<-x136 hk,restK_app]at next
  simp only[x2l]
  unfold x6u
  cases hh2:F.any fun y=>decide (y=(k:Int))with
  |true=>
   have e:xyw F [(k:Int)]=[]:=by simp[xyw,hh2]
   rw[e,List.append_nil]at next
   simp(disch:=omega) [hk',hc,hh2]
   exact next () m _ hI
  |false=>
   have e:xyw F [(k:Int)]=[(k:Int)]:=by simp[xyw,hh2]
   rw[e]at next
   obtain⟨v,hv,hvc⟩:=w_cycle d hs hp hf hl hP hF (i:=(k:Int)) (by omega) (by omega) m
   obtain⟨m2,q1,q2⟩:=hy _ (k:Int) v m (by
    have:=List.length_filter_le (fun i=>!(F.any fun y=>decide (y=i))) ((freshM P.length).take k)
    rw[List.length_take]at this
    unfold xyw
    omega) (by omega) (by omega) (fun hm=>by
    rw[List.any_eq_false]at hh2
    have:=hh2 _ hm
    simp at this) hv hI
   have hinv:xys (xwy (d+13)) hh 2 (.yld id) [v] m=some (B (live m2.get id),m2):=by
    show(match xz7 hh id with
     |some h=>(h [v] m).map fun(m':Mem)=>(B (live m'.get id),m')
     |none=>none)=_
    rw[hh1]
    simp only
    rw[q1]
    rfl
   rcases q2 with ⟨hlv,q2⟩|⟨hlv,q2⟩
   .rw[hlv]at hinv
    simp(disch:=omega) [hk',hc,hh2,hvc,hinv]
    exact next () m2 _ q2
   .rw[hlv]at hinv
    simp(disch:=omega) [hk',hc,hh2,hvc,hinv]
    exact .inr q2
 .rintro n-m fc hI
  rw[List.take_of_length_le (by simp[freshM])]at hI
  simp only[x2l]
  unfold x6u
  simp
  exact .inl hI
structure Wv where
 v:AV
 w:List Sp
 h:Sl Sp.c v w
def Wv.c(x:Wv):List AV:=[x.v]
theorem Wv.len(x:Wv):x.c.length=1:=rfl
theorem Wv.still(x:Wv):x.c.all still1=true:=by simp[Wv.c,x.h.still1]
theorem z_walks:x6q=[nilS]:=by kernel_rfl
theorem x16d:Tryz.prog.underlying x90=some (.slice x1u):=by kernel_rfl
theorem w_Collect(d:Nat){s p f:AV}{l:List Scene}{P:List Pq}{F:List Int}(hs:Sl Scene.c s l)(hp:Sl Pq.c p P)(hf:Ints f F)(hl:l.length<=8)(hPl:P.length<=1000)(hP:∀p∈P,PqIn l.length p)(hF:Tree l.length P F)(m:Mem) :
 ∃v L,Sl Wv.c v L/\L.map Wv.w=(xyd P F).map (cycC P F)/\xwz (xwy (d+16)) x3u [.clo xy [.plit [s,p],.plit [f]]] m=some (v,m):=by
 have happ:RetF (fun v=>∃L,Sl Wv.c v L/\L.map Wv.w=(xyd P F).map (cycC P F)) (xwy (d+15) [] x1s [nilS,.clo xy [.plit [s,p],.plit [f]]] mem0):=by
  rw[xj3]
  unfold x8m xaf
  simp[mem0]
  unfold x6t x6s
  simp only[sRng]
  generalize hm1:Mem.new _ _ _=m1
  have q2:m1.get (0,0,2)=some (.row [nilS] 0 false):=by rw[<-hm1];simp
  have hn1:m1.next=1:=by rw[<-hm1];rfl
  generalize hH:(fun(args:List AV) (m:Mem)=>bif Nat.beq args.length 1&&true then x6r (xwy (d+14)) [] m.next (.ptr (0,0,2) 0 0) (args.getD 0 U) ⟨m.hp,m.next+1⟩ 0 else none)=H
  obtain⟨m',e1,e2⟩:=c_cycs d (hh:=[((0,3,0),H)]) (id:=(0,3,0)) (h:=H) hs hp hf hl hPl hP hF (by simp[xz7]) (m0:=m1)
   (fun pre m=>1<=m.next/\∃a L,m.get (0,0,2)=some (.row [a] 0 false)/\Gk 1 Wv.c (fun id=>id.2.2=11) m a L/\L.map Wv.w=pre.map (cycC P F)) (fun _=>False)
   (fun pre i v m hpl i0 i1 hi hv ⟨hn,a,L,ha,hG,hL⟩=>by
    have hLl:L.length=pre.length:=by simpa using congrArg List.length hL
    have hG1:Gk 1 Wv.c (fun id=>id.2.2=11) ⟨m.hp,m.next+1⟩ a L:=hG.frame fun _ _=>rfl
    obtain⟨a',m2,k1,k2,k3,k4,k5,k6⟩:=Gk.app (ok:=fun id=>id.2.2=11) Wv.len (by omega) (bytes:=24) (id0:=(m.next,0+1+3,11)) rfl (by unfold xx6;omega) hG1 ⟨v,_,hv⟩
    have g2:m2.get (0,0,2)=some (.row [a] 0 false):=by rw[k6 _ (by simp)];exact ha
    have he:∀M:Mem,elems M.get 1 (.slit [v] 1 true)=some (Wv.c ⟨v,_,hv⟩,1):=fun M=>by simp[elems,Wv.c]
    have ha':(⟨m.hp,m.next+1⟩:Mem).get (0,0,2)=some (.row [a] 0 false):=ha
    refine⟨m2.set (0,0,2) (.row [a'] 0 false),?_,.inl ⟨rfl,by show 1<=m2.next;rw[k5];show 1<=m.next+1;omega,a',L++[⟨v,_,hv⟩],by simp,k2.frame fun id hid=>by rw[Mem.get_set,if_neg (by rintro rfl;simp at hid)],by simp[hL]⟩⟩
    rw[<-hH]
    simp only[List.length_cons,List.length_nil,Nat.zero_add,Nat.beq_refl,Bool.and_true,xym,List.getD_cons_zero]
    unfold x6r x6p
    simp only[xzx,ha',x11a,Nat.beq_refl,xym,List.drop_zero,rd_f,xx7,z_walks,x186 hv.cells hv.one hv.clean1,he]
    rw[k1]
    simp[g2,k3,k4])
   (fun m hn hg=>⟨by omega,nilS,[],by rw[hg];exact q2,.nil,rfl⟩)
  obtain⟨hn,a,L,ha,hG,hL⟩:=e2.resolve_right fun x=>x
  obtain⟨a',f1,f2⟩:=hG.frz (k:=4) Wv.len Wv.still
  rw[e1]
  unfold x3c
  simp[ha]
  exact RetF.mk f2 ⟨L,f1,hL⟩
 refine(fun⟨v,⟨L,h1,h2⟩,h3⟩=>⟨v,L,h1,h2,h3⟩:(∃v,(∃L,Sl Wv.c v L/\L.map Wv.w=(xyd P F).map (cycC P F))/\_)->_) (xzj (T:=fun v=>∃L,Sl Wv.c v L/\L.map Wv.w=(xyd P F).map (cycC P F)) (by simp) ?_ m)
 rw[xip]
 unfold x88 x9z
 obtain⟨v,⟨L,h1,h2⟩,h3⟩:=xzj (by simp) happ ⟨[],1⟩
 simp[mem0,h3]
 exact RetF.st h1.still ⟨L,h1,h2⟩
end Go.Ix
