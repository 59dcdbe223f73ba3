import Derived.Test.YtdfahbenacjgeaaGreatWg17
import Derived.Test.YtdfahbenacjgeaaGreatWg15
import Derived.Test.YtdfahbenacjgeaaGreatWg0
import Derived.ProofKit
import Derived.Test.YtdfahbenacjgeaaGreatWg6
import Derived.Test.YtdfahbenacjgeaaGreatWg5
import Derived.Test.YtdfahbenacjgeaaGreatWg2
import Derived.Test.YtdfahbenacjgeaaGreatWg4
import Derived.Test.YtdfahbenacjgeaaGreatWg3
set_option linter.unusedSimpArgs false
set_option linter.unusedVariables false
namespace Go.Ix
open Go.Proofs
theorem e_stacked:((xsi 30 [] xga [] mem0).map (λp=>p.1))=some (B true):=by kernel_rfl
theorem w_stacked(m:Mem):xsl (xsi 30) xga [] m=some (B true,m):=by
 have h:=e_stacked
 rw[x1gi]at h
 obtain⟨⟨r,m'⟩,h1,rfl⟩:=h
 exact call0 rfl h1 rfl
def IsBf(l:List Scene)(P:List Pq)(ph wt:List Int)(v:AV):Prop:=∃b,v=B b/\(b=true->Br7 l P ph wt/\taskE l P ph wt=0)
theorem w_Brief(d:Nat){s p f g:AV}{l:List Scene}{P:List Pq}{ph wt:List Int}(hs:Sl Scene.c s l)(hp:Sl Pq.c p P)(hf:Ints f ph)(hg:Ints g wt)(m:Mem) :
 ∃b,(b=true->Br7 l P ph wt/\taskE l P ph wt=0)/\xsl (xsi (d+8)) x25 [.agg [s,p,f,g]] m=some (B b,m):=by
 suffices key:RetF (IsBf l P ph wt) (xsi (d+8) [] x25 [.agg [s,p,f,g]] mem0) by
  obtain⟨v,⟨b,rfl,h⟩,hc⟩:=xu6 (by simp[hs.still1,hp.still1,hf.still1,hg.still1]) key m
  exact⟨b,h,hc⟩
 rw[xm4]
 unfold xdn x7v
 generalize hm1:(⟨[],1⟩:Mem).new (0,0,1) (.row [s,p,f,g] 0 false)=m1
 have g1:m1.get (0,0,1)=some (.row [s,p,f,g] 0 false):=by rw[<-hm1];simp
 obtain⟨bl,hbl,hlc⟩:=w_brief7 d hs hp hf hg m1
 simp[mem0,hs.one,hp.one,hf.one,hg.one,hm1,g1,hlc]
 cases bl with
 |false=>exact RetF.st rfl ⟨false,rfl,λh=>by cases h⟩
 |true=>
  have hL:=(hbl rfl).1
  have ha:=hL.a
  have hb:=hL.b
  simp[g1,x12l (d+2) hs hp hf hg (by omega) (by omega)]
  exact RetF.st rfl ⟨decide (taskE l P ph wt=0),rfl,λh=>⟨hbl rfl,x1i2 h⟩⟩
def Wy7(P:List Pq)(F:List Int)(a b bef:Int)(w:List Sp):Prop:=Wk P w a b/\AllF F w/\NB P w/\Aw P bef w
theorem z_slst:x50=[nilS]:=by kernel_rfl
theorem z_bl7:x1a=[B false]:=by kernel_rfl
theorem x19y{y:AV}{w:List Sp}(h:Sl Sp.c y w)(hw:w.length<=1000)(id:Id)(x:Sp)(m:Mem) :
 ∃o m2,(∀{R:Type} (K:AV->Mem->Option R),sApp 2 16 id (elems m.get 2 y) (.slit [I x.p,I x.s] 1 true) m K=K o m2)/\(o.cells=[o]/\o.one=true) /\
  (∃y',Sl Sp.c y' (x::w)/\∀(m3:Mem) (k:Nat),m3.get id=m2.get id->Go.Ix.frz m3.get (k+2) o=some y')/\m2.next=m.next/\∀j,j≠id->m2.get j=m.get j:=by
 have he:=h.elems Sp.len m.get
 by_cases h0:w.length=0
 .have:=x1hv.mp h0
  subst this
  refine⟨.slit [I x.p,I x.s] 1 true,m,λK=>?_,⟨rfl,rfl⟩,⟨.slit [I x.p,I x.s] 1 true,Sl.lit [x] true,λm3 k _=>xuh _ k rfl⟩,rfl,λ_ _=>rfl⟩
  rw[he]
  simp[sApp]
 .refine⟨.sref id 0 0 (x::w).length 2 true,m.new id (.row ((x::w).flatMap Sp.c) 0 false),λK=>?_,⟨rfl,rfl⟩,⟨_,Sl.lit (x::w) false,λm3 k h3=>xxm (k:=k) Sp.len Sp.still (by rw[h3];simp)⟩,rfl,λj hj=>by rw[Mem.get_new,x1g6 hj]⟩
  rw[he]
  simp only[sApp]
  rw[x1g7 (by simp),x1g6 h0,x1g7 (by unfold xt6;omega)]
  rw[x1jg 1]
  rfl
structure WyM (s p f:AV) (a b bef:Int) (m:Mem):Prop where
 b5:m.get (0,0,5)=some (.row [s,p] 0 false)
 b6:m.get (0,1,6)=some (.row [f] 0 false)
 b7:m.get (0,2,7)=some (.row [I a] 0 false)
 b8:m.get (0,3,8)=some (.row [I b] 0 false)
 b9:m.get (0,4,9)=some (.row [I bef] 0 false)
 b10:m.get (0,5,10)=some (.row [nilS] 0 false)
 b11:m.get (0,6,11)=some (.row [B false] 0 false)
 nx:1<=m.next
theorem WyM.fr{s p f:AV}{a b bef:Int}{m m':Mem}(h:WyM s p f a b bef m)(hn:1<=m'.next)(hg:∀j:Id,j.1=0->j.2.2≠1->m'.get j=m.get j):WyM s p f a b bef m':=
 ⟨by rw[hg _ rfl (by simp)];exact h.b5,by rw[hg _ rfl (by simp)];exact h.b6,by rw[hg _ rfl (by simp)];exact h.b7,by rw[hg _ rfl (by simp)];exact h.b8,by rw[hg _ rfl (by simp)];exact h.b9,by rw[hg _ rfl (by simp)];exact h.b10,by rw[hg _ rfl (by simp)];exact h.b11,hn⟩
def WayR(P:List Pq)(F:List Int)(a b bef:Int)(v:AV):Prop:=
 (∃w y,Wy7 P F a b bef w/\Sl Sp.c y w/\v=.tup [y,B true])\/((∀w,¬Wy7 P F a b bef w)/\v=.tup [nilS,B false])
theorem a_way(d:Nat){s p f:AV}{l:List Scene}{P:List Pq}{F:List Int}(hs:Sl Scene.c s l)(hp:Sl Pq.c p P)(hf:Ints f F)(hF:F.length<=1000)(hr:∀i∈F,0<=i/\i<P.length)(b:Int) :
 ∀(k:Nat) (a bef:Int),k<=1000->(∀w c,Wy7 P F a c bef w->w.length<k)->RetF (WayR P F a b bef) (xsi (d+3+k) [] x33 [.agg [s,p],f,I a,I b,I bef] mem0):=by
 intro k
 induction k with
 |zero=>
  intro a bef _ hk
  exact absurd (hk [] a ⟨rfl,(λ_ h=>by cases h),trivial,trivial⟩) (by simp)
 |succ k ih=>
  intro a bef hk1 hk
  rw[show d+3+(k+1)=(d+3+k)+1 by omega,xod]
  unfold xfp xc6
  simp[mem0,hs.one,hp.one,hf.one,hf.cells,z_slst,z_bl7]
  generalize hm1:Mem.new _ _ _=m1
  have hW:WyM s p f a b bef m1:=by
   refine⟨?_,?_,?_,?_,?_,?_,?_,?_⟩
   all_goals first|(rw[<-hm1];simp;done)|(rw[<-hm1];exact x1ga 1)
  by_cases hab:a=b
  .subst hab
   simp[hW.b10,hW.b11,sLdP]
   exact RetF.mk (T:=WayR P F a a bef) (xxk rfl rfl) (Or.inl ⟨[],nilS,⟨rfl,(λ_ h=>by cases h),trivial,trivial⟩,Or.inl ⟨rfl,rfl⟩,rfl⟩)
  .simp[hab]
   unfold xk1
   have hfrom:=w_from (d+2+k) hs hp hf a m1
   rw[show d+2+k+1=d+3+k by omega]at hfrom
   simp[hW.b5,hW.b6,hW.b7,hfrom]
   unfold xk0
   simp only[sRng]
   generalize hL:((0,14,1):Id)=lid
   have hl1:lid.1=0/\lid.2.2=1:=by rw[<-hL];exact⟨rfl,rfl⟩
   generalize hH:(λ(args:List AV) (m:Mem)=>bif Nat.beq args.length 2&&true then xc5 (xsi (d+3+k)) [] m.next lid (.ptr (0,0,5) 0 0) (.ptr (0,1,6) 0 0) (.ptr (0,2,7) 0 0) (.ptr (0,3,8) 0 0) (.ptr (0,4,9) 0 0) (.ptr (0,5,10) 0 0) (.ptr (0,6,11) 0 0) (args.getD 0 U) (args.getD 1 U) ⟨m.hp,m.next+1⟩ 0 else none)=H
   generalize hm2:m1.new lid (.lp none)=m2
   have hW2:WyM s p f a b bef m2:=hW.fr (by rw[<-hm2];exact hW.nx) λj h0 h1=>by
    rw[<-hm2,Mem.get_new,x1g6 (by rintro rfl;exact h1 hl1.2)]
   have hl2:m2.get lid=some (.lp none):=by rw[<-hm2];simp
   have hn2:1<=m2.next:=hW2.nx
   obtain⟨m3,hc,hI⟩:=c_from2 (d:=d+1+k) (hh:=[(lid,H)]) (id:=lid) (h:=H) hs hp hf hF hr (by simp[xvj]) a (m0:=m2)
    (λpre m=>WyM s p f a b bef m/\m.get lid=some (.lp none)/\∀x∈pre,InF F x->frS P x=a->toS P x≠bef->∀w,¬Wy7 P F (toS P x) b a w)
    (λm=>m.get lid=some (.lp (some .ret))/\∃w o y,Wy7 P F a b bef w/\Sl Sp.c y w/\m.get (0,5,10)=some (.row [o] 0 false)/\m.get (0,6,11)=some (.row [B true] 0 false)/\Go.Ix.frz m.get 5 o=some y)
    (λpre m m' ⟨h1,h2,h3⟩ hn hg=>⟨h1.fr (by rw[hn];exact h1.nx) (λj hj _=>hg j (by omega)),by rw[hg _ (by omega)];exact h2,h3⟩)
    (λpre x m hx hfx ⟨h1,h2,h3⟩=>by
     rw[<-hH]
     simp only[x1gq,x1i6,x1gl,Nat.reduceAdd,x1gd,x1if,xsr,x1kq,List.getD_cons_succ]
     unfold xc5
     have hmn:=h1.nx
     generalize hU3:m.next=u3 at *
     simp only[xws]
     simp
     generalize hm4:Mem.set _ _ _=m4
     have hm4g:∀j:Id,¬j.1=u3->m4.get j=m.get j:=λj hj=>by
      rw[<-hm4,Mem.get_set,x1g6 (by rintro rfl;exact hj rfl),Mem.get_new,x1g6 (by rintro rfl;exact hj rfl)];rfl
     have q12:m4.get (u3,0,12)=some (.row [I x.p,I x.s] 0 false):=by rw[<-hm4];simp
     have hm4n:m4.next=u3+1:=by rw[<-hm4];rfl
     have hW4:WyM s p f a b bef m4:=h1.fr (by omega) λj hj _=>hm4g j (by omega)
     have hl4:m4.get lid=some (.lp none):=by rw[hm4g _ (by omega)];exact h2
     have hlp:sLpN lid m4=some m4:=by unfold sLpN lpB;rw[hl4];rfl
     have hlv:live m4.get lid=true:=by unfold live;rw[hl1.2,hl4];rfl
     have hwr:∀w,Wy7 P F (toS P x) b a w->Wy7 P F a b bef (x::w)\/toS P x=bef:=λw ⟨w1,w2,w3,w4⟩=>by
      by_cases e:toS P x=bef
      .exact .inr e
      .refine .inl ⟨⟨hfx,w1⟩,λz hz=>?_,aw_nb (by rw[hfx];exact w4) w3,e⟩
       rcases x1gn.mp hz with rfl|hz
       .exact hx
       .exact w2 z hz
     rw[hlp]
     simp only[xsn]
     unfold xjz
     by_cases e:toS P x=bef
     .simp[hW4.b9,e,hlp]
      refine .inl ⟨hlv,hW4,hl4,λz hz=>?_⟩
      rcases hz with hz|rfl
      .exact h3 z hz
      .exact λ_ _ he=>absurd e he
     .obtain⟨v,hv,hvc⟩:=xu6 (l:=[.agg [s,p],f,I (toS P x),I b,I a]) (by simp[hs.still1,hp.still1,hf.still]) (ih (toS P x) a (by omega) λw c ⟨w1,w2,w3,w4⟩=>by
       have:=hk (x::w) c ⟨⟨hfx,w1⟩,(λz hz=>by
        rcases x1gn.mp hz with rfl|hz
        .exact hx
        .exact w2 z hz),aw_nb (by rw[hfx];exact w4) w3,e⟩
       simp at this
       omega) m4
      rcases hv with ⟨w,y,hw,hy,rfl⟩|⟨hno,rfl⟩
      .have hlen:=hk _ _ ((hwr w hw).resolve_right e)
       simp at hlen
       obtain⟨o,m5,e1,⟨e2,e3⟩,⟨y',e4,e5⟩,e6,e7⟩:=x19y hy (by omega) (u3,21,41) x m4
       have q10:m5.get (0,5,10)=some (.row [nilS] 0 false):=by rw[e7 _ (by intro e;cases e)];exact hW4.b10
       have q11:m5.get (0,6,11)=some (.row [B false] 0 false):=by rw[e7 _ (by intro e;cases e)];exact hW4.b11
       have ql:m5.get lid=some (.lp none):=by rw[e7 _ (by rintro rfl;simp at hl1)];exact hl4
       simp[hW4.b9,hW4.b5,hW4.b6,hW4.b7,hW4.b8,e,hvc,sExt,q12,x129,e1,e2,e3,q10,q11]
       simp only[xws,x129]
       rw[e1]
       simp[q10,q11,e2,e3]
       generalize hm6:Mem.set (Mem.set m5 _ _) _ _=m6
       have g6:∀j:Id,j≠(0,5,10)->j≠(0,6,11)->m6.get j=m5.get j:=λj j1 j2=>by
        rw[<-hm6,Mem.get_set,x1g6 j2,Mem.get_set,x1g6 j1]
       have ql6:m6.get lid=some (.lp none):=by rw[g6 _ (by rintro rfl;simp at hl1) (by rintro rfl;simp at hl1)];exact ql
       have hlx:sLpX lid .ret m6=some (m6.set lid (.lp (some .ret))):=by unfold sLpX lpB;rw[ql6];rfl
       refine⟨_,hlx,.inr ⟨by unfold live;rw[hl1.2];simp;rfl,by simp,x::w,(hwr w hw).resolve_right e,o,y',e4,?_,?_,?_⟩⟩
       .rw[Mem.get_set,x1g6 (by rintro rfl;simp at hl1),<-hm6];simp
       .rw[Mem.get_set,x1g6 (by rintro rfl;simp at hl1),<-hm6];simp
       .exact e5 _ 3 (by rw[Mem.get_set,x1g6 (by rintro rfl;simp at hl1),g6 _ (by simp) (by simp)])
      .simp[hW4.b9,hW4.b5,hW4.b6,hW4.b7,hW4.b8,e,hvc,hlp,sExt]
       refine .inl ⟨hlv,hW4,hl4,λz hz=>?_⟩
       rcases hz with hz|rfl
       .exact h3 z hz
       .exact λ_ _ _=>hno)
    (λpre x m hx hfx ⟨h1,h2,h3⟩=>⟨h1,h2,λz hz hz1 hz2=>by
     rcases x1h2.mp hz with hz|hz
     .exact h3 z hz hz1 hz2
     .simp at hz;subst hz;exact absurd hz2 hfx⟩)
    (λm hn hg=>⟨hW2.fr (by omega) (λj _ _=>hg j),by rw[hg];exact hl2,λz hz=>by cases hz⟩)
   rw[show d+1+k+2=d+3+k by omega]at hc
   rw[hc]
   simp only[xsn]
   rcases hI with ⟨h1,h2,h3⟩|⟨h1,w,o,y,h2,h3,h4,h5,h6⟩
   .unfold sLp
    rw[h2]
    simp only
    unfold xc4
    simp[h1.b10,h1.b11,sLdP]
    refine RetF.mk (T:=WayR P F a b bef) (xxk rfl rfl) (Or.inr ⟨λw ⟨w1,w2,w3,w4⟩=>?_,rfl⟩)
    cases w with
    |nil=>exact hab w1
    |cons x w=>exact h3 x (mem_stepsOf.mpr w2.head) w2.head w1.1 w4 w ⟨w1.2,w2.tail,w3.tail,by rw[<-w1.1];exact nb_aw w3⟩
   .unfold sLp
    rw[h1]
    simp only
    simp[sLdP,h4,h5]
    exact RetF.mk (T:=WayR P F a b bef) (xxk h6 rfl) (Or.inl ⟨w,y,h2,h3,rfl⟩)
open Classical in
noncomputable def wayC(P:List Pq)(F:List Int)(a b:Int):List Sp:=if h:∃w,Wk P w a b/\AllF F w/\NB P w then Classical.choose h else[]
theorem wayC_ok{P:List Pq}{F:List Int}{a b:Int}(h:∃w,Wk P w a b/\AllF F w):Wk P (wayC P F a b) a b/\AllF F (wayC P F a b)/\NB P (wayC P F a b):=by
 obtain⟨w,h1,h2⟩:=h
 have hx:∃w,Wk P w a b/\AllF F w/\NB P w:=by
  obtain⟨v,h3,h4,h5⟩:=nb_of h1 h2
  exact⟨v,h3,h4,h5⟩
 unfold wayC
 rw[dif_pos hx]
 exact Classical.choose_spec hx
theorem wayC_one{P:List Pq}{F:List Int}(hC:Cut P F){a b:Int}{w:List Sp}(h1:Wk P w a b)(h2:AllF F w)(h3:NB P w):w=wayC P F a b:=by
 obtain⟨w1,w2,w3⟩:=wayC_ok ⟨w,h1,h2⟩
 exact x17v hC h1 w1 h2 w2 h3 w3
noncomputable def cycC(P:List Pq)(F:List Int)(i:Int):List Sp:=⟨i,1⟩::wayC P F (prAt P i).b (prAt P i).a
theorem x19z{P:List Pq}{i:Int}(h0:0<=i)(h1:i<P.length):prAt P i∈P:=by
 unfold prAt
 rw[x1gk,x1gv (by omega)]
 exact x1go _
theorem tree_way{n:Nat}{P:List Pq}{F:List Int}(hP:∀p∈P,PqIn n p)(hF:Tree n P F){i:Int}(h0:0<=i)(h1:i<P.length):∃w,Wk P w (prAt P i).b (prAt P i).a/\AllF F w:=by
 have hm:=x19z h0 h1
 obtain⟨a0,a1,a2⟩:=hP _ hm
 have:=hF.all _ hm
 obtain⟨w,w1,w2⟩:=x12f hP hF.fo.rng (v:=(prAt P i).b.toNat) (w:=(prAt P i).a.toNat) (by omega) (by omega) (Eq.symm this)
 rw[x1hg (by omega),x1hg (by omega)]at w1
 exact⟨w,w1,w2⟩
theorem x15o{n:Nat}{P:List Pq}{F:List Int}(hP:∀p∈P,PqIn n p)(hF:Tree n P F){i:Int}(h0:0<=i)(h1:i<P.length) :
 Wk P (wayC P F (prAt P i).b (prAt P i).a) (prAt P i).b (prAt P i).a/\AllF F (wayC P F (prAt P i).b (prAt P i).a)/\NB P (wayC P F (prAt P i).b (prAt P i).a)/\(wayC P F (prAt P i).b (prAt P i).a).length<=n:=by
 obtain⟨w1,w2,w3⟩:=wayC_ok (tree_way hP hF h0 h1)
 have h2:=xzy (hF.fo.cut hP) w1 w2 w3
 have h3:=hF.fo.len hP
 exact⟨w1,w2,w3,by omega⟩
theorem prAt_get{P:List Pq}{i:Int}(h1:i.toNat<P.length):P[i.toNat]=prAt P i:=by
 unfold prAt
 rw[x1gk,x1gv h1]
 rfl
theorem aw_neg{n:Nat}{P:List Pq}{F:List Int}(hP:∀p∈P,PqIn n p)(hr:∀i∈F,0<=i/\i<P.length){w:List Sp}(h:AllF F w):Aw P (-1) w:=by
 cases w with
 |nil=>trivial
 |cons x w=>
  have:=(xvg hP hr h.head).2
  show toS P x≠-1
  omega
theorem a_cycle(d:Nat){s p f:AV}{l:List Scene}{P:List Pq}{F:List Int}(hs:Sl Scene.c s l)(hp:Sl Pq.c p P)(hf:Ints f F)(hl:l.length<=8)(hP:∀p∈P,PqIn l.length p)(hF:Tree l.length P F){i:Int}(h0:0<=i)(h1:i<P.length) :
 RetF (λv=>Sl Sp.c v (cycC P F i)) (xsi (d+13) [] x2v [.agg [s,p],f,I i] mem0):=by
 obtain⟨w1,w2,w3,w4⟩:=x15o hP hF h0 h1
 have hFl:=hF.fo.len hP
 have hway:=a_way d hs hp hf (by omega) hF.fo.rng (prAt P i).a 9 (prAt P i).b (-1) (by omega) λw c ⟨a1,a2,a3,a4⟩=>by
  have:=xzy (hF.fo.cut hP) a1 a2 a3
  omega
 obtain⟨a0,a1,a2⟩:=x100 hP ⟨h0,h1⟩
 have ix:=hp.ixI Pq.len h0 h1
 have ld:=λm=>xtz (m:=m) Pq.len (by omega) (show i.toNat<P.length by omega)
 rw[prAt_get (by omega)]at ld
 rw[show d+13=(d+3+9)+1 by omega,xnu]
 unfold xfa xb2
 simp[mem0,hs.one,hp.one,ix,ld,Pq.c,xv3]
 generalize hm1:Mem.set _ _ _=m1
 have q3:m1.get (0,0,3)=some (.row [s,p] 0 false):=by rw[<-hm1];simp
 have q7:m1.get (0,8,7)=some (.row [I (prAt P i).a,I (prAt P i).b] 0 false):=by rw[<-hm1];simp
 obtain⟨v,hv,hvc⟩:=xu6 (by simp[hs.still1,hp.still1,hf.still]) hway m1
 rw[show d+3+9=d+12 by omega]at hvc
 rw[hvc]
 rcases hv with ⟨w,y,hw,hy,rfl⟩|⟨hno,rfl⟩
 .have hwe:=wayC_one (hF.fo.cut hP) hw.1 hw.2.1 hw.2.2.1
  subst hwe
  obtain⟨o,m2,e1,-,⟨y',e4,e5⟩,-,-⟩:=x19y hy (by omega) (0,26,30) ⟨i,1⟩ m1
  have hb:xsw x9 [(0,1,I i),(1,1,I 1)]=some (.agg [I i,I 1]):=by rw[xws];simp[xsw,xtj]
  simp only[xsn,xzs,x1id,x1ij,hb]
  simp only[xws,x129]
  rw[e1]
  exact RetF.mk (e5 m2 4 rfl) e4
 .exact absurd ⟨w1,w2,w3,aw_neg hP hF.fo.rng w2⟩ (hno _)
theorem w_cycle(d:Nat){s p f:AV}{l:List Scene}{P:List Pq}{F:List Int}(hs:Sl Scene.c s l)(hp:Sl Pq.c p P)(hf:Ints f F)(hl:l.length<=8)(hP:∀p∈P,PqIn l.length p)(hF:Tree l.length P F){i:Int}(h0:0<=i)(h1:i<P.length)(m:Mem) :
 ∃v,Sl Sp.c v (cycC P F i)/\xsl (xsi (d+13)) x2v [.agg [s,p],f,I i] m=some (v,m):=
 xu6 (by simp[hs.still1,hp.still1,hf.still]) (a_cycle d hs hp hf hl hP hF h0 h1) m
def idxM(x:Int):List Int->Int->Int
 |[],_=>-1
 |y::r,k=>if x=y then k else idxM x r (k+1)
theorem x1a0{x:Int}:∀(F:List Int) (k:Int),0<=k->(decide (0<=idxM x F k)=F.any λy=>decide (y=x))
 |[],_,_=>rfl
 |y::r,k,h=>by
  rw[idxM,x1im]
  by_cases c:x=y
  .rw[x1g7 c];simp[h,c]
  .rw[x1g6 c,x1a0 r (k+1) (by omega)]
   have:¬y=x:=λe=>c e.symm
   simp[this]
theorem x1cz(d:Nat){f:AV}{F:List Int}{x:Int}(hf:Ints f F)(hF:F.length<=1000000)(m:Mem):xsl (xsi (d+2)) x4j [f,I x] m=some (B (F.any λy=>decide (y=x)),m):=by
 have hidx:∀m,xsl (xsi (d+1)) x4q [f,I x] m=some (I (idxM x F 0),m):=λm=>by
  refine xua (by simp[hf.still]) ?_ m
  rw[xoc]
  unfold xfo xc3 xjy
  simp only[hf.len xt8,xsn]
  refine xtd (N:=F.length) (σ:=Unit) (λn k _ m fc=>x68 (xsi d) [] 0 n f (I x) (I F.length) (I k) m fc) (λk _ m=>idxM x (F.drop k) k=idxM x F 0) _ ?_ ?_ NN 0 () _ _ (by omega) (by rw[xsu];omega) (by simp)
  .rintro n k-m fc hk hI next
   have hk':(k:Int)<(F.length:Int):=by omega
   have ix:=hf.ix xt2 hk
   rw[xtm hk,idxM,<-xt5 hk]at hI
   simp only[x68]
   unfold xc2
   simp(disch:=omega) [hk',ix,xte]
   by_cases c:x=at0 F k
   .rw[x1g7 c]at hI
    simp[c]
    exact RetF.st rfl (by rw[<-c,<-hI])
   .rw[x1g6 c]at hI
    simp[c]
    exact next () _ _ (by rw[<-hI];norm_cast)
  .rintro n-m fc hI
   simp only[x68]
   unfold xc2 xjx
   simp
   rw[List.drop_length]at hI
   exact RetF.st rfl (by rw[<-hI];rfl)
 refine xua (by simp[hf.still]) ?_ m
 rw[xnt]
 unfold xf9 xb1
 simp[hidx]
 exact RetF.st rfl (by rw[x1a0 F 0 (by omega)])
@[simp] theorem still1_plit(l:List AV):still1 (.plit l)=true:=rfl
def xvt(F:List Int)(l:List Int):List Int:=l.filter λi=>!(F.any λy=>decide (y=i))
def xv6(P:List Pq)(F:List Int):List Int:=xvt F (freshM P.length)
theorem w_cycles(d:Nat){s p f:AV}{l:List Scene}{P:List Pq}{F:List Int}(hs:Sl Scene.c s l)(hp:Sl Pq.c p P)(hf:Ints f F)(m:Mem) :
 xsl (xsi (d+1)) x4e [.agg [s,p],f] m=some (.clo xu [.plit [s,p],.plit [f]],m):=by
 refine xua (by simp[hs.still1,hp.still1,hf.still]) ?_ m
 rw[xn6]
 unfold xeo x9x
 simp[mem0,hs.one,hp.one,hf.one,hf.cells]
 generalize hm:Mem.new _ _ _=m1
 have g2:m1.get (0,0,2)=some (.row [s,p] 0 false):=by rw[<-hm];simp
 have g3:m1.get (0,1,3)=some (.row [f] 0 false):=by rw[<-hm];simp
 have e3:Go.Ix.frz m1.get 5 (.ptr (0,1,3) 0 0)=some (.plit [f]):=x12j g3 (xuh _ 2 hf.still)
 have e2:Go.Ix.frz m1.get 5 (.ptr (0,0,2) 0 0)=some (.plit [s,p]):=by
  rw[x14y g2]
  simp only[x1g8,x1gw,x1hd,xuh m1.get 2 hs.still,xuh m1.get 2 hp.still]
  rfl
 refine RetF.mk (a':=.clo xu [.plit [s,p],.plit [f]]) ?_ rfl
 show(([AV.ptr (0,0,2) 0 0,.ptr (0,1,3) 0 0].mapM (Go.Ix.frz m1.get 5)).map λl=>AV.clo _ l)=_
 simp only[x1gw,x1hd,e3,e2]
 rfl
theorem x15p(F l k:List Int):xvt F (l++k)=xvt F l++xvt F k:=x1iq ..
theorem c_cycs(d:Nat){hh:FHs}{id:Id}{h:List AV->Mem->Option Mem}{s p f:AV}{l:List Scene}{P:List Pq}{F:List Int}(hs:Sl Scene.c s l)(hp:Sl Pq.c p P)(hf:Ints f F)(hl:l.length<=8)(hPl:P.length<=1000)(hP:∀p∈P,PqIn l.length p)(hF:Tree l.length P F)(hh1:xvj hh id=some h){m0:Mem}(Inv:List Int->Mem->Prop)(Fin:Mem->Prop)(hy:∀(pre r:List Int) (i:Int) v m,xv6 P F=pre++i::r->pre.length<P.length->0<=i->i<P.length->i∉F->Sl Sp.c v (cycC P F i)->Inv pre m->∃m2,h [v] m=some m2/\(live m2.get id=true/\Inv (pre++[i]) m2\/live m2.get id=false/\Fin m2))(h0:∀m,m.next=m0.next+1->(∀i:Id,m.get i=m0.get i)->Inv [] m) :
 ∃m',xsi (d+14) hh xu [.yld id,.plit [s,p],.plit [f]] m0=some (.tup [],m')/\(Inv (xv6 P F) m'\/Fin m'):=by
 have hFl:=hF.fo.len hP
 rw[xns]
 unfold xf8 xb0
 generalize hu:m0.next=u at *
 simp[hp.len xu7]
 refine xtd (N:=P.length) (σ:=Unit) (λn k _ m fc=>x61 (xsi (d+13)) hh u n (.yld id) (.plit [s,p]) (.plit [f]) (I P.length) (I k) m fc) (λk _ m=>Inv (xvt F ((freshM P.length).take k)) m)
  (λr=>∃m',r=some (.tup [],m')/\(Inv (xv6 P F) m'\/Fin m')) ?_ ?_ NN 0 () _ _ (by omega) (by rw[xsu];omega) (by simpa[xvt]using h0 ⟨m0.hp,u+1⟩ rfl (λ_=>rfl))
 .rintro n k-m fc hk hI next
  have hk':(k:Int)<(P.length:Int):=by omega
  have hc:=λm=>x1cz (d+11) (x:=(k:Int)) hf (by omega) m
  rw[<-xxp hk,x15p]at next
  simp only[x61]
  unfold xaz
  cases hh2:F.any λy=>decide (y=(k:Int))with
  |true=>
   have e:xvt F [(k:Int)]=[]:=by simp[xvt,hh2]
   rw[e,x1hc]at next
   simp(disch:=omega) [hk',hc,hh2]
   exact next () m _ hI
  |false=>
   have e:xvt F [(k:Int)]=[(k:Int)]:=by simp[xvt,hh2]
   rw[e]at next
   obtain⟨v,hv,hvc⟩:=w_cycle d hs hp hf hl hP hF (i:=(k:Int)) (by omega) (by omega) m
   obtain⟨m2,q1,q2⟩:=hy _ (xvt F ((freshM P.length).drop (k+1))) (k:Int) v m (by
    unfold xv6
    conv=>lhs;rw[<-x1k9 (k+1) (freshM P.length),x15p,<-xxp hk,x15p,e]
    rw[x1i3]
    rfl) (by
    have:=x1it (λi=>!(F.any λy=>decide (y=i))) ((freshM P.length).take k)
    rw[x1ia]at this
    unfold xvt
    omega) (by omega) (by omega) (λhm=>by
    rw[x1ir]at hh2
    have:=hh2 _ hm
    simp at this) hv hI
   have hinv:xu2 (xsi (d+13)) hh 2 (.yld id) [v] m=some (B (live m2.get id),m2):=by
    show(match xvj hh id with
     |some h=>(h [v] m).map λ(m':Mem)=>(B (live m'.get id),m')
     |none=>none)=_
    rw[hh1]
    simp only
    rw[q1]
    rfl
   rcases q2 with ⟨hlv,q2⟩|⟨hlv,q2⟩
   .rw[hlv]at hinv
    simp(disch:=omega) [hk',hc,hh2,hvc,hinv]
    exact next () m2 _ q2
   .rw[hlv]at hinv
    simp(disch:=omega) [hk',hc,hh2,hvc,hinv]
    exact .inr q2
 .rintro n-m fc hI
  rw[x1gg (by simp[freshM])]at hI
  simp only[x61]
  unfold xaz
  simp
  exact .inl hI
structure Wv where
 v:AV
 w:List Sp
 h:Sl Sp.c v w
def Wv.c(x:Wv):List AV:=[x.v]
theorem Wv.len(x:Wv):x.c.length=1:=rfl
theorem Wv.still(x:Wv):x.c.all still1=true:=by simp[Wv.c,x.h.still1]
theorem z_walks:x50=[nilS]:=by kernel_rfl
theorem u_walks:Tryz.prog.underlying xg8=some (.slice xg):=by kernel_rfl
theorem w_Collect(d:Nat){s p f:AV}{l:List Scene}{P:List Pq}{F:List Int}(hs:Sl Scene.c s l)(hp:Sl Pq.c p P)(hf:Ints f F)(hl:l.length<=8)(hPl:P.length<=1000)(hP:∀p∈P,PqIn l.length p)(hF:Tree l.length P F)(m:Mem) :
 ∃v L,Sl Wv.c v L/\L.map Wv.w=(xv6 P F).map (cycC P F)/\xsl (xsi (d+16)) x4d [.clo xu [.plit [s,p],.plit [f]]] m=some (v,m):=by
 have happ:RetF (λv=>∃L,Sl Wv.c v L/\L.map Wv.w=(xv6 P F).map (cycC P F)) (xsi (d+15) [] x4i [nilS,.clo xu [.plit [s,p],.plit [f]]] mem0):=by
  rw[xnr]
  unfold xf7 xay
  simp[mem0]
  unfold xjb xja
  simp only[sRng]
  generalize hm1:Mem.new _ _ _=m1
  have q2:m1.get (0,0,2)=some (.row [nilS] 0 false):=by rw[<-hm1];simp
  have hn1:m1.next=1:=by rw[<-hm1];rfl
  generalize hH:(λ(args:List AV) (m:Mem)=>bif Nat.beq args.length 1&&true then xax (xsi (d+14)) [] m.next (.ptr (0,0,2) 0 0) (args.getD 0 U) ⟨m.hp,m.next+1⟩ 0 else none)=H
  obtain⟨m',e1,e2⟩:=c_cycs d (hh:=[((0,3,0),H)]) (id:=(0,3,0)) (h:=H) hs hp hf hl hPl hP hF (by simp[xvj]) (m0:=m1)
   (λpre m=>1<=m.next/\∃a L,m.get (0,0,2)=some (.row [a] 0 false)/\Gk 1 Wv.c (λid=>id.2.2=11) m a L/\L.map Wv.w=pre.map (cycC P F)) (λ_=>False)
   (λpre r i v m _ hpl i0 i1 hi hv ⟨hn,a,L,ha,hG,hL⟩=>by
    have hLl:L.length=pre.length:=by simpa using congrArg List.length hL
    have hG1:Gk 1 Wv.c (λid=>id.2.2=11) ⟨m.hp,m.next+1⟩ a L:=hG.frame λ_ _=>rfl
    obtain⟨a',m2,k1,k2,k3,k4,k5,k6⟩:=Gk.app (ok:=λid=>id.2.2=11) Wv.len (by omega) (bytes:=24) (id0:=(m.next,0+1+3,11)) rfl (by unfold xt6;omega) hG1 ⟨v,_,hv⟩
    have g2:m2.get (0,0,2)=some (.row [a] 0 false):=by rw[k6 _ (by simp)];exact ha
    have he:∀M:Mem,elems M.get 1 (.slit [v] 1 true)=some (Wv.c ⟨v,_,hv⟩,1):=λM=>by simp[elems,Wv.c]
    have ha':(⟨m.hp,m.next+1⟩:Mem).get (0,0,2)=some (.row [a] 0 false):=ha
    refine⟨m2.set (0,0,2) (.row [a'] 0 false),?_,.inl ⟨rfl,by show 1<=m2.next;rw[k5];show 1<=m.next+1;omega,a',L++[⟨v,_,hv⟩],by simp,k2.frame λid hid=>by rw[Mem.get_set,x1g6 (by rintro rfl;simp at hid)],by simp[hL]⟩⟩
    rw[<-hH]
    simp only[x1gq,x1i6,x1gl,x1gd,x1if,xsr,x1kq]
    unfold xax xj9
    simp only[xsv,ha',xt1,x1gd,xsr,x1g8,rd_f,xsn,z_walks,x146 hv.cells hv.one hv.clean1,he]
    rw[k1]
    simp[g2,k3,k4])
   (λm hn hg=>⟨by omega,nilS,[],by rw[hg];exact q2,.nil,rfl⟩)
  obtain⟨hn,a,L,ha,hG,hL⟩:=e2.resolve_right λx=>x
  obtain⟨a',f1,f2⟩:=hG.frz (k:=4) Wv.len Wv.still
  rw[e1]
  unfold xj8
  simp[ha]
  exact RetF.mk f2 ⟨L,f1,hL⟩
 refine(λ⟨v,⟨L,h1,h2⟩,h3⟩=>⟨v,L,h1,h2,h3⟩:(∃v,(∃L,Sl Wv.c v L/\L.map Wv.w=(xv6 P F).map (cycC P F))/\_)->_) (xu6 (T:=λv=>∃L,Sl Wv.c v L/\L.map Wv.w=(xv6 P F).map (cycC P F)) (by simp) ?_ m)
 rw[xn5]
 unfold xen x9w
 obtain⟨v,⟨L,h1,h2⟩,h3⟩:=xu6 (by simp) happ ⟨[],1⟩
 simp[mem0,h3]
 exact RetF.st h1.still ⟨L,h1,h2⟩
theorem x1a1{l:List Scene}{P:List Pq}{F:List Int}(h:cfE l P F=0):(net7 l P).2=0/\Right7 l P/\Tree l.length P F:=by
 unfold cfE at h
 by_cases c:(net7 l P).2=0
 .have hR:=x116 c
  rw[c]at h
  simp at h
  exact⟨c,hR,(x1c3 hR).mp h⟩
 .simp[c]at h
theorem w_Cycles(d:Nat){s p f:AV}{l:List Scene}{P:List Pq}{F:List Int}(hs:Sl Scene.c s l)(hp:Sl Pq.c p P)(hf:Ints f F)(hF:F.length<=1000)(hl:(net7 l P).2=0->l.length<=8)(m:Mem) :
 ∃v L,Sl Wv.c v L/\L.map Wv.w=(if cfE l P F=0 then(xv6 P F).map (cycC P F)else[])/\xsl (xsi (d+17)) x2d [.agg [s,p],f] m=some (.tup [v,I (cfE l P F)],m):=by
 have key:RetF (λa=>∃v L,Sl Wv.c v L/\L.map Wv.w=(if cfE l P F=0 then(xv6 P F).map (cycC P F)else[])/\a=.tup [v,I (cfE l P F)]) (xsi (d+17) [] x2d [.agg [s,p],f] mem0):=by
  rw[xme]
  unfold xdx x8i
  generalize hm1:(⟨[],1⟩:Mem).new (0,0,2) (.row [s,p] 0 false)=m1
  have g3:m1.get (0,0,2)=some (.row [s,p] 0 false):=by rw[<-hm1];simp
  simp[mem0,hs.one,hp.one,hm1,g3,x1c5 (d+8) hs hp hf hF]
  by_cases c:cfE l P F=0
  rotate_left
  .simp[c]
   exact RetF.mk (T:=λa=>∃v L,Sl Wv.c v L/\L=[]/\a=.tup [v,I (cfE l P F)]) (xxk rfl rfl) ⟨nilS,[],.inl ⟨rfl,rfl⟩,rfl,rfl⟩
  obtain⟨hn,hR,hT⟩:=x1a1 c
  have hPl:=hR.pl
  have hb:xsw x1n [(0,2,.agg [s,p])]=some (.agg [s,p]):=by rw[x104];simp[xsw,xtj]
  obtain⟨v,L,h1,h2,h3⟩:=w_Collect d hs hp hf (hl hn) (by omega) hR.pr hT m1
  simp[c,g3,hb,w_cycles (d+15) hs hp hf,h3]
  exact RetF.mk (T:=λa=>∃v L,Sl Wv.c v L/\L.map Wv.w=(xv6 P F).map (cycC P F)/\a=.tup [v,I 0]) (xxk (xuh _ 3 h1.still) rfl) ⟨v,L,h1,h2,rfl⟩
 obtain⟨a,⟨v,L,h1,h2,rfl⟩,h⟩:=xu6 (by simp[hs.still1,hp.still1,hf.still]) key m
 exact⟨v,L,h1,h2,h⟩
theorem cyc_len{n:Nat}{P:List Pq}{F:List Int}(hP:∀p∈P,PqIn n p)(hT:Tree n P F){L:List Wv}(h:L.map Wv.w=(xv6 P F).map (cycC P F)):L.length<=P.length/\∀x∈L,∃i:Int,0<=i/\i<P.length/\i∉F/\x.w=cycC P F i/\x.w.length<=n+1:=by
 have hl:L.length=(xv6 P F).length:=by simpa using congrArg List.length h
 have hr:(xv6 P F).length<=P.length:=by
  have:=x1it (λi=>!(F.any λy=>decide (y=i))) (freshM P.length)
  unfold xv6 xvt
  simpa[freshM]using this
 refine⟨by omega,λx hx=>?_⟩
 have hm:x.w∈(xv6 P F).map (cycC P F):=by rw[<-h];exact x1kh hx
 obtain⟨i,hi,e⟩:=x1gs.mp hm
 unfold xv6 xvt at hi
 rw[x1h1]at hi
 obtain⟨hi1,hi2⟩:=hi
 have hi3:=fresh_mem.mp hi1
 refine⟨i,hi3.1,hi3.2,λhF=>?_,e.symm,?_⟩
 .rw[x1ki,x1ir]at hi2
  have:=hi2 i hF
  simp at this
 .rw[<-e]
  have:=(x15o hP hT hi3.1 hi3.2).2.2.2
  simp only[cycC,x1gq]
  omega
end Go.Ix
