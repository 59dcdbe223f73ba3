import Derived.Test.YtpeakdjfagbpcaaGreatWg5
import Derived.Test.YtpeakdjfagbpcaaGreatWg3
import Derived.Test.YtpeakdjfagbpcaaGreatWg4
import Derived.Test.YtpeakdjfagbpcaaGreatWg2
import Derived.Test.YtpeakdjfagbpcaaGreatWg0
set_option linter.unusedSimpArgs false
set_option linter.unusedVariables false
namespace Go.Ix
open Go.Proofs
def Wy7(P:List Pq)(F:List Int)(a b bef:Int)(w:List Sp):Prop:=Wk P w a b/\AllF F w/\NB P w/\Aw P bef w
theorem z_slst:x5k=[nilS]:=by kernel_rfl
theorem z_bl7:x52=[B false]:=by kernel_rfl
theorem x1dc{y:AV}{w:List Sp}(h:Sl Sp.c y w)(hw:w.length<=1000)(id:Id)(x:Sp)(m:Mem) :
 ∃o m2,(∀{R:Type} (K:AV->Mem->Option R),sApp 2 16 id (elems m.get 2 y) (.slit [I x.p,I x.s] 1 true) m K=K o m2)/\(o.cells=[o]/\o.one=true) /\
  (∃y',Sl Sp.c y' (x::w)/\∀(m3:Mem) (k:Nat),m3.get id=m2.get id->Go.Ix.frz m3.get (k+2) o=some y')/\m2.next=m.next/\∀j,j≠id->m2.get j=m.get j:=by
 have he:=h.elems Sp.len m.get
 by_cases h0:w.length=0
 .have:=List.length_eq_zero_iff.mp h0
  subst this
  refine⟨.slit [I x.p,I x.s] 1 true,m,fun K=>?_,⟨rfl,rfl⟩,⟨.slit [I x.p,I x.s] 1 true,Sl.lit [x] true,fun m3 k _=>x14x _ k rfl⟩,rfl,fun _ _=>rfl⟩
  rw[he]
  simp[sApp]
 .refine⟨.sref id 0 0 (x::w).length 2 true,m.new id (.row ((x::w).flatMap Sp.c) 0 false),fun K=>?_,⟨rfl,rfl⟩,⟨_,Sl.lit (x::w) false,fun m3 k h3=>x172 (k:=k) Sp.len Sp.still (by rw[h3];simp)⟩,rfl,fun j hj=>by rw[Mem.get_new,if_neg hj]⟩
  rw[he]
  simp only[sApp]
  rw[if_pos (by simp),if_neg h0,if_pos (by unfold x13o;omega)]
  rw[Nat.add_comm 1]
  rfl
structure WyM (s p f:AV) (a b bef:Int) (m:Mem):Prop where
 b5:m.get (0,0,5)=some (.row [s,p] 0 false)
 b6:m.get (0,1,6)=some (.row [f] 0 false)
 b7:m.get (0,2,7)=some (.row [I a] 0 false)
 b8:m.get (0,3,8)=some (.row [I b] 0 false)
 b9:m.get (0,4,9)=some (.row [I bef] 0 false)
 b10:m.get (0,5,10)=some (.row [nilS] 0 false)
 b11:m.get (0,6,11)=some (.row [B false] 0 false)
 nx:1<=m.next
theorem WyM.fr{s p f:AV}{a b bef:Int}{m m':Mem}(h:WyM s p f a b bef m)(hn:1<=m'.next)(hg:∀j:Id,j.1=0->j.2.2≠1->m'.get j=m.get j):WyM s p f a b bef m':=
 ⟨by rw[hg _ rfl (by simp)];exact h.b5,by rw[hg _ rfl (by simp)];exact h.b6,by rw[hg _ rfl (by simp)];exact h.b7,by rw[hg _ rfl (by simp)];exact h.b8,by rw[hg _ rfl (by simp)];exact h.b9,by rw[hg _ rfl (by simp)];exact h.b10,by rw[hg _ rfl (by simp)];exact h.b11,hn⟩
def WayR(P:List Pq)(F:List Int)(a b bef:Int)(v:AV):Prop:=
 (∃w y,Wy7 P F a b bef w/\Sl Sp.c y w/\v=.tup [y,B true])\/((∀w,¬Wy7 P F a b bef w)/\v=.tup [nilS,B false])
theorem a_way(d:Nat){s p f:AV}{l:List Scene}{P:List Pq}{F:List Int}(hs:Sl Scene.c s l)(hp:Sl Pq.c p P)(hf:Ints f F)(hF:F.length<=1000)(hr:∀i∈F,0<=i/\i<P.length)(b:Int) :
 ∀(k:Nat) (a bef:Int),k<=1000->(∀w c,Wy7 P F a c bef w->w.length<k)->RetF (WayR P F a b bef) (x13e (d+3+k) [] x14 [.agg [s,p],f,I a,I b,I bef] mem0):=by
 intro k
 induction k with
 |zero=>
  intro a bef _ hk
  exact absurd (hk [] a ⟨rfl,(fun _ h=>by cases h),trivial,trivial⟩) (by simp)
 |succ k ih=>
  intro a bef hk1 hk
  rw[show d+3+(k+1)=(d+3+k)+1 by omega,xmx]
  unfold xag xci
  simp[mem0,hs.one,hp.one,hf.one,hf.cells,z_slst,z_bl7]
  generalize hm1:Mem.new _ _ _=m1
  have hW:WyM s p f a b bef m1:=by
   refine⟨?_,?_,?_,?_,?_,?_,?_,?_⟩
   all_goals first|(rw[<-hm1];simp;done)|(rw[<-hm1];exact Nat.le_refl 1)
  by_cases hab:a=b
  .subst hab
   simp[hW.b10,hW.b11,sLdP]
   exact RetF.mk (T:=WayR P F a a bef) (x1az rfl rfl) (Or.inl ⟨[],nilS,⟨rfl,(fun _ h=>by cases h),trivial,trivial⟩,Or.inl ⟨rfl,rfl⟩,rfl⟩)
  .simp[hab]
   unfold x8h
   have hfrom:=w_from (d+2+k) hs hp hf a m1
   rw[show d+2+k+1=d+3+k by omega]at hfrom
   simp[hW.b5,hW.b6,hW.b7,hfrom]
   unfold x8g
   simp only[sRng]
   generalize hL:((0,14,1):Id)=lid
   have hl1:lid.1=0/\lid.2.2=1:=by rw[<-hL];exact⟨rfl,rfl⟩
   generalize hH:(fun(args:List AV) (m:Mem)=>bif Nat.beq args.length 2&&true then x8f (x13e (d+3+k)) [] m.next lid (.ptr (0,0,5) 0 0) (.ptr (0,1,6) 0 0) (.ptr (0,2,7) 0 0) (.ptr (0,3,8) 0 0) (.ptr (0,4,9) 0 0) (.ptr (0,5,10) 0 0) (.ptr (0,6,11) 0 0) (args.getD 0 U) (args.getD 1 U) ⟨m.hp,m.next+1⟩ 0 else none)=H
   generalize hm2:m1.new lid (.lp none)=m2
   have hW2:WyM s p f a b bef m2:=hW.fr (by rw[<-hm2];exact hW.nx) fun j h0 h1=>by
    rw[<-hm2,Mem.get_new,if_neg (by rintro rfl;exact h1 hl1.2)]
   have hl2:m2.get lid=some (.lp none):=by rw[<-hm2];simp
   have hn2:1<=m2.next:=hW2.nx
   obtain⟨m3,hc,hI⟩:=c_from2 (d:=d+1+k) (hh:=[(lid,H)]) (id:=lid) (h:=H) hs hp hf hF hr (by simp[x15v]) a (m0:=m2)
    (fun pre m=>WyM s p f a b bef m/\m.get lid=some (.lp none)/\∀x∈pre,InF F x->frS P x=a->toS P x≠bef->∀w,¬Wy7 P F (toS P x) b a w)
    (fun m=>m.get lid=some (.lp (some .ret))/\∃w o y,Wy7 P F a b bef w/\Sl Sp.c y w/\m.get (0,5,10)=some (.row [o] 0 false)/\m.get (0,6,11)=some (.row [B true] 0 false)/\Go.Ix.frz m.get 5 o=some y)
    (fun pre m m' ⟨h1,h2,h3⟩ hn hg=>⟨h1.fr (by rw[hn];exact h1.nx) (fun j hj _=>hg j (by omega)),by rw[hg _ (by omega)];exact h2,h3⟩)
    (fun pre x m hx hfx ⟨h1,h2,h3⟩=>by
     rw[<-hH]
     simp only[List.length_cons,List.length_nil,Nat.zero_add,Nat.reduceAdd,Nat.beq_refl,Bool.and_true,x14t,List.getD_cons_zero,List.getD_cons_succ]
     unfold x8f
     have hmn:=h1.nx
     generalize hU3:m.next=u3 at *
     simp only[x15m]
     simp
     generalize hm4:Mem.set _ _ _=m4
     have hm4g:∀j:Id,¬j.1=u3->m4.get j=m.get j:=fun j hj=>by
      rw[<-hm4,Mem.get_set,if_neg (by rintro rfl;exact hj rfl),Mem.get_new,if_neg (by rintro rfl;exact hj rfl)];rfl
     have q12:m4.get (u3,0,12)=some (.row [I x.p,I x.s] 0 false):=by rw[<-hm4];simp
     have hm4n:m4.next=u3+1:=by rw[<-hm4];rfl
     have hW4:WyM s p f a b bef m4:=h1.fr (by omega) fun j hj _=>hm4g j (by omega)
     have hl4:m4.get lid=some (.lp none):=by rw[hm4g _ (by omega)];exact h2
     have hlp:sLpN lid m4=some m4:=by unfold sLpN lpB;rw[hl4];rfl
     have hlv:live m4.get lid=true:=by unfold live;rw[hl1.2,hl4];rfl
     have hwr:∀w,Wy7 P F (toS P x) b a w->Wy7 P F a b bef (x::w)\/toS P x=bef:=fun w ⟨w1,w2,w3,w4⟩=>by
      by_cases e:toS P x=bef
      .exact .inr e
      .refine .inl ⟨⟨hfx,w1⟩,fun z hz=>?_,aw_nb (by rw[hfx];exact w4) w3,e⟩
       rcases List.mem_cons.mp hz with rfl|hz
       .exact hx
       .exact w2 z hz
     rw[hlp]
     simp only[x13n]
     unfold x8e
     by_cases e:toS P x=bef
     .simp[hW4.b9,e,hlp]
      refine .inl ⟨hlv,hW4,hl4,fun z hz=>?_⟩
      rcases hz with hz|rfl
      .exact h3 z hz
      .exact fun _ _ he=>absurd e he
     .obtain⟨v,hv,hvc⟩:=x15c (l:=[.agg [s,p],f,I (toS P x),I b,I a]) (by simp[hs.still1,hp.still1,hf.still]) (ih (toS P x) a (by omega) fun w c ⟨w1,w2,w3,w4⟩=>by
       have:=hk (x::w) c ⟨⟨hfx,w1⟩,(fun z hz=>by
        rcases List.mem_cons.mp hz with rfl|hz
        .exact hx
        .exact w2 z hz),aw_nb (by rw[hfx];exact w4) w3,e⟩
       simp at this
       omega) m4
      rcases hv with ⟨w,y,hw,hy,rfl⟩|⟨hno,rfl⟩
      .have hlen:=hk _ _ ((hwr w hw).resolve_right e)
       simp at hlen
       obtain⟨o,m5,e1,⟨e2,e3⟩,⟨y',e4,e5⟩,e6,e7⟩:=x1dc hy (by omega) (u3,21,41) x m4
       have q10:m5.get (0,5,10)=some (.row [nilS] 0 false):=by rw[e7 _ (by intro e;cases e)];exact hW4.b10
       have q11:m5.get (0,6,11)=some (.row [B false] 0 false):=by rw[e7 _ (by intro e;cases e)];exact hW4.b11
       have ql:m5.get lid=some (.lp none):=by rw[e7 _ (by rintro rfl;simp at hl1)];exact hl4
       simp[hW4.b9,hW4.b5,hW4.b6,hW4.b7,hW4.b8,e,hvc,sExt,q12,x1a8,e1,e2,e3,q10,q11]
       simp only[x15m,x1a8]
       rw[e1]
       simp[q10,q11,e2,e3]
       generalize hm6:Mem.set (Mem.set m5 _ _) _ _=m6
       have g6:∀j:Id,j≠(0,5,10)->j≠(0,6,11)->m6.get j=m5.get j:=fun j j1 j2=>by
        rw[<-hm6,Mem.get_set,if_neg j2,Mem.get_set,if_neg j1]
       have ql6:m6.get lid=some (.lp none):=by rw[g6 _ (by rintro rfl;simp at hl1) (by rintro rfl;simp at hl1)];exact ql
       have hlx:sLpX lid .ret m6=some (m6.set lid (.lp (some .ret))):=by unfold sLpX lpB;rw[ql6];rfl
       refine⟨_,hlx,.inr ⟨by unfold live;rw[hl1.2];simp;rfl,by simp,x::w,(hwr w hw).resolve_right e,o,y',e4,?_,?_,?_⟩⟩
       .rw[Mem.get_set,if_neg (by rintro rfl;simp at hl1),<-hm6];simp
       .rw[Mem.get_set,if_neg (by rintro rfl;simp at hl1),<-hm6];simp
       .exact e5 _ 3 (by rw[Mem.get_set,if_neg (by rintro rfl;simp at hl1),g6 _ (by simp) (by simp)])
      .simp[hW4.b9,hW4.b5,hW4.b6,hW4.b7,hW4.b8,e,hvc,hlp,sExt]
       refine .inl ⟨hlv,hW4,hl4,fun z hz=>?_⟩
       rcases hz with hz|rfl
       .exact h3 z hz
       .exact fun _ _ _=>hno)
    (fun pre x m hx hfx ⟨h1,h2,h3⟩=>⟨h1,h2,fun z hz hz1 hz2=>by
     rcases List.mem_append.mp hz with hz|hz
     .exact h3 z hz hz1 hz2
     .simp at hz;subst hz;exact absurd hz2 hfx⟩)
    (fun m hn hg=>⟨hW2.fr (by omega) (fun j _ _=>hg j),by rw[hg];exact hl2,fun z hz=>by cases hz⟩)
   rw[show d+1+k+2=d+3+k by omega]at hc
   rw[hc]
   simp only[x13n]
   rcases hI with ⟨h1,h2,h3⟩|⟨h1,w,o,y,h2,h3,h4,h5,h6⟩
   .unfold sLp
    rw[h2]
    simp only
    unfold x39
    simp[h1.b10,h1.b11,sLdP]
    refine RetF.mk (T:=WayR P F a b bef) (x1az rfl rfl) (Or.inr ⟨fun w ⟨w1,w2,w3,w4⟩=>?_,rfl⟩)
    cases w with
    |nil=>exact hab w1
    |cons x w=>exact h3 x (mem_stepsOf.mpr w2.head) w2.head w1.1 w4 w ⟨w1.2,w2.tail,w3.tail,by rw[<-w1.1];exact nb_aw w3⟩
   .unfold sLp
    rw[h1]
    simp only
    simp[sLdP,h4,h5]
    exact RetF.mk (T:=WayR P F a b bef) (x1az h6 rfl) (Or.inl ⟨w,y,h2,h3,rfl⟩)
def idY:Id:=(0,5,21)
def idS:Id:=(0,10,25)
structure WM (s p:AV) (st:RSt) (m:Mem):Prop where
 b4:m.get (0,0,4)=some (.row [s,p] 0 false)
 oY:Ow Sp.c m idY st.y
 oS:Ow bE m idS st.k
theorem WM.fr{s p:AV}{st:RSt}{m m':Mem}(h:WM s p st m)(e:∀j:Id,j=(0,0,4)\/j=idY\/j=idS->m'.get j=m.get j):WM s p st m':=
 ⟨by rw[e _ (.inl rfl)];exact h.b4,h.oY.fr (e _ (.inr (.inl rfl))),h.oS.fr (e _ (.inr (.inr rfl)))⟩
theorem ow_ix2{id:Id}{n:Nat}{k:Int}(h0:0<=k)(h1:k<n):sIx 2 (.sref id 0 0 n 2 true) (I k)=some (.ptr id 0 (k.toNat*2)):=ow_ix h0 h1
theorem l_rtry(d:Nat){s p f:AV}{l:List Scene}{P:List Pq}{F:List Int}(hs:Sl Scene.c s l)(hp:Sl Pq.c p P)(hf:Ints f F)(hP:∀p∈P,PqIn l.length p)(hr:∀i∈F,0<=i/\i<P.length)(hF:F.length<=1000){k:Nat}(hk:k<F.length){fr:Int}(sg:Int)(hsg:sg=1\/sg=-1){st:RSt}(hI:RInv7 l.length P F fr st){rec1:AV->AV->AV->AV->AV->AV->AV->AV->Mem->Nat->O2}{rec2:AV->AV->AV->AV->AV->AV->AV->AV->AV->Mem->Nat->O2}{n1:Nat}{t2 t3 t31 t32:AV}{Q:O2->Prop}{m:Mem}(fc:Nat)(hM:WM s p st m)(go:∀m' fc',WM s p (x15d P st ⟨at0 F k,sg⟩) m'->Q (x18 (x13e (d+1)) [] 0 rec1 rec2 n1 f t2 t3 (.ptr (0,0,4) 0 0) (.sref idY 0 0 l.length 2 true) (.sref idS 0 0 l.length 1 true) (I k) (I (sg+2)) t31 t32 m' fc')) :
 Q (x18 (x13e (d+1)) [] 0 rec1 rec2 (n1+1) f t2 t3 (.ptr (0,0,4) 0 0) (.sref idY 0 0 l.length 2 true) (.sref idS 0 0 l.length 1 true) (I k) (I sg) t31 t32 m fc):=by
 have ix:=hf.ix x14m hk
 have ld:=fun m=>x15w (m:=m) hk
 have hmem:at0 F k∈F:=by rw[x13s hk];exact List.getElem_mem hk
 have hx:=hr _ hmem
 obtain⟨x,hxe⟩:∃x:Sp,x=⟨at0 F k,sg⟩:=⟨_,rfl⟩
 have hIn:InF F x:=by rw[hxe];exact⟨hmem,hsg⟩
 obtain⟨⟨a0,a1⟩,t0,t1⟩:=x16o hP hr hIn
 have he:=fun m=>x1bb d ⟨hs.one,hs.still1⟩ hp (x:=x) (by rw[hxe];exact hx) (by rw[hxe];exact hsg) m
 rw[<-hxe]at go
 have hxp:x.p=at0 F k:=by rw[hxe]
 have hxs:x.s=sg:=by rw[hxe]
 rw[<-hxp]at ld
 rw[<-hxs]at go ⊢
 have hle:x.s<=1:=by rcases hIn.2 with e|e<;>omega
 have hbuild:x13z [I 0,I 0] [(0,1,I x.p),(1,1,I x.s)]=some (.agg [I x.p,I x.s]):=by simp[x13z,x14k]
 simp only[x18]
 unfold x81 x80
 simp only[sLe_I,hle,decide_true,x14c,x13n,ix,ld,x15m,hbuild]
 simp only[x1ay,x184,Mem.get_new,if_true,x1a2]
 simp
 generalize hm1:Mem.set _ _ _=m1
 have q13:m1.get (0,fc+2+6,13)=some (.row [I x.p,I x.s] 0 false):=by rw[<-hm1];simp
 have hM1:WM s p st m1:=hM.fr fun j hj=>by
  rw[<-hm1]
  rcases hj with rfl|rfl|rfl
  .simp
  .simp[idY]
  .simp[idS]
 have ixA:sIx 1 (.sref idS 0 0 l.length 1 true) (I (frS P x))=some (.ptr idS 0 (frS P x).toNat):=x1a9 a0 a1
 have ldA:sLd false 1 (.ptr idS 0 (frS P x).toNat) m1=some (B (boA st.k (frS P x))):=hM1.oS.ldB a0 (by rw[hI.k];exact a1)
 have ixT:sIx 1 (.sref idS 0 0 l.length 1 true) (I (toS P x))=some (.ptr idS 0 (toS P x).toNat):=x1a9 t0 t1
 have ldT:sLd false 1 (.ptr idS 0 (toS P x).toNat) m1=some (B (boA st.k (toS P x))):=hM1.oS.ldB t0 (by rw[hI.k];exact t1)
 have ixY:sIx 2 (.sref idY 0 0 l.length 2 true) (I (toS P x))=some (.ptr idY 0 ((toS P x).toNat*2)):=ow_ix2 t0 t1
 have hb4:=hM1.b4
 have skip:x15d P st x=st->∀fc2,Q (x41 (x13e (d+1)) [] 0 rec1 rec2 (x18 (x13e (d+1)) [] 0 rec1 rec2 n1) f t2 t3 (.ptr (0,0,4) 0 0) (.sref idY 0 0 l.length 2 true) (.sref idS 0 0 l.length 1 true) (I k) (I x.s) t31 t32 m1 fc2):=fun e fc2=>by
  unfold x41
  simp only[sAdd_I,x13n]
  rw[x13j (by rcases hIn.2 with e|e<;>omega) (by rcases hIn.2 with e|e<;>omega)]
  exact go m1 _ (by rw[e];exact hM1)
 have hb4m:=hM.b4
 simp[-x184,hb4m,hb4,q13,he,ixA]
 rw[<-x15b,ldA]
 cases ca:boA st.k (frS P x)with
 |false=>
  simp
  exact skip (by unfold x15d;simp[ca]) _
 |true=>
  simp[-x184,ixT]
  rw[<-x15b,ldT]
  cases cb:boA st.k (toS P x)with
  |true=>
   simp
   exact skip (by unfold x15d;simp[cb]) _
  |false=>
   have hst:x15d P st x=⟨st.y.set (toS P x).toNat x,st.k.set (toS P x).toNat true⟩:=by unfold x15d;simp[ca,cb]
   obtain⟨y1,y2⟩:=hM1.oY.st Sp.len (k:=(toS P x).toNat) (by rw[hI.y];omega) (x:=x) (v:=.agg [I x.p,I x.s]) rfl rfl
   have hM2:WM s p ⟨st.y.set (toS P x).toNat x,st.k⟩ (m1.set idY (.row ((st.y.set (toS P x).toNat x).flatMap Sp.c) 0 false)):=⟨by rw[Mem.get_set,if_neg (by simp[idY])];exact hM1.b4,y2,hM1.oS.fr (by rw[Mem.get_set,if_neg (by simp[idY,idS])])⟩
   generalize hm2:Mem.set m1 _ _=m2 at y1 hM2
   obtain⟨s1,s2⟩:=hM2.oS.st1 (g:=B) (fun _=>rfl) (k:=toS P x) t0 (by rw[hI.k];exact t1) (x:=true) rfl rfl
   have hM3:WM s p ⟨st.y.set (toS P x).toNat x,st.k.set (toS P x).toNat true⟩ (m2.set idS (.row ((st.k.set (toS P x).toNat true).flatMap bE) 0 false)):=⟨by rw[Mem.get_set,if_neg (by simp[idS])];exact hM2.b4,hM2.oY.fr (by rw[Mem.get_set,if_neg (by simp[idY,idS])]),s2⟩
   simp[-x184,q13,ixY,y1,s1]
   unfold x41
   simp only[sAdd_I,x13n]
   rw[x13j (by rcases hIn.2 with e|e<;>omega) (by rcases hIn.2 with e|e<;>omega)]
   exact go _ _ (by rw[hst];exact hM3)
theorem x1ih{F:List Int}{k:Nat}(hk:k<F.length):x17m (F.drop k)=⟨at0 F k,-1⟩::⟨at0 F k,1⟩::x17m (F.drop (k+1)):=by
 unfold x17m
 rw[x14f hk,List.flatMap_cons,x13s hk]
 rfl
def OutS(m:Mem)(a:AV)(l:List Sp):Prop:=Sl Sp.c a l\/∃id:Id,id.1=0/\id.2.2=85/\a=.sref id 0 0 l.length 2 true/\Ow Sp.c m id l
theorem OutS.elems{m:Mem}{a:AV}{l:List Sp}(h:OutS m a l):elems m.get 2 a=some (l.flatMap Sp.c,l.length):=by
 rcases h with h|⟨id,-,-,rfl,h⟩
 .exact h.elems Sp.len m.get
 .have hl:=x15l Sp.len l
  unfold Go.Ix.elems
  simp only
  unfold Ow at h
  rw[h]
  simp only
  rw[if_pos ⟨trivial,trivial,by omega⟩,List.drop_zero,List.take_of_length_le (by omega)]
theorem OutS.frz{m:Mem}{a:AV}{l:List Sp}(h:OutS m a l)(k:Nat):∃a',Sl Sp.c a' l/\Go.Ix.frz m.get (k+2) a=some a':=by
 rcases h with h|⟨id,-,-,rfl,h⟩
 .exact⟨a,h,x14x _ k h.still⟩
 .exact⟨_,Sl.lit l false,x172 (k:=k) Sp.len Sp.still h⟩
theorem l_rback(d:Nat){s p:AV}{l:List Scene}{P:List Pq}{F:List Int}(hs:Sl Scene.c s l)(hp:Sl Pq.c p P)(hP:∀p∈P,PqIn l.length p)(hr:∀i∈F,0<=i/\i<P.length){fr:Int}{st:RSt}(hI:RInv7 l.length P F fr st){T:List Sp}(hT:T.length<=1000) :
 ∀(r:List Sp) (v:Int) (acc:List Sp) (n:Nat) (o:AV) (m:Mem) (fc:Nat),Bw P F st fr r v->0<=v->v<l.length->r.length<n->WM s p st m->OutS m o acc->r.reverse++acc=T ->
 RetF (fun a=>Sl Sp.c a T) (x31 (x13e (d+1)) [] 0 n (I fr) (.ptr (0,0,4) 0 0) (.sref idY 0 0 l.length 2 true) o (I v) m fc):=by
 intro r
 induction r with
 |nil=>
  intro v acc n o m fc hB v0 v1 hn hM hO hE
  obtain⟨n,rfl⟩:∃i,n=i+1:=⟨n-1,by omega⟩
  have:=hB.2
  subst this
  simp only[x31]
  unfold x7y x30
  simp
  obtain⟨a',h1,h2⟩:=hO.frz 4
  rw[<-hE]
  exact RetF.mk h2 h1
 |cons x r ih=>
  intro v acc n o m fc hB v0 v1 hn hM hO hE
  obtain⟨n,rfl⟩:∃i,n=i+1:=⟨n-1,by omega⟩
  obtain⟨b1,b2,b3,b4,b5,b6⟩:=hB
  obtain⟨⟨a0,a1⟩,-,-⟩:=x16o hP hr b5
  have hx:=hr x.p b5.1
  have ixY:sIx 2 (.sref idY 0 0 l.length 2 true) (I v)=some (.ptr idY 0 (v.toNat*2)):=ow_ix2 v0 v1
  have hvl:v.toNat<st.y.length:=by rw[hI.y];omega
  have ldY:∀mm,WM s p st mm->sLd true 2 (.ptr idY 0 (v.toNat*2)) mm=some (.agg [I x.p,I x.s]):=fun mm hmm=>by
   have:=hmm.oY.ldS Sp.len (k:=v.toNat) hvl
   have e:st.y[v.toNat]=x:=by
    have:=b3
    unfold byA at this
    rw[List.getD_eq_getElem?_getD,List.getElem?_eq_getElem hvl]at this
    exact this
   rw[e]at this
   exact this
  have he:=fun m=>x1bb d ⟨hs.one,hs.still1⟩ hp (x:=x) hx b5.2 m
  have hlen:(r.reverse++x::acc).length<=1000:=by rw[<-List.singleton_append,<-List.append_assoc,<-List.reverse_cons,hE];exact hT
  simp at hlen
  obtain⟨o2,m2,h1,h2,h3⟩:∃o2 m2,(∀{R:Type} (K:AV->Mem->Option R),sApp 2 16 (0,fc+9,85) (Go.Ix.elems m.get 2 o) (.slit [I x.p,I x.s] 1 true) m K=K o2 m2)/\OutS m2 o2 (x::acc)/\∀j:Id,j.2.2≠85->m2.get j=m.get j:=by
   by_cases h0:acc.length=0
   .have:=List.length_eq_zero_iff.mp h0
    subst this
    refine⟨.slit [I x.p,I x.s] 1 true,m,fun K=>?_,.inl (Sl.lit [x] true),fun _ _=>rfl⟩
    rw[hO.elems]
    simp[sApp]
   .refine⟨.sref (0,fc+9,85) 0 0 (x::acc).length 2 true,m.new (0,fc+9,85) (.row ((x::acc).flatMap Sp.c) 0 false),fun K=>?_,.inr ⟨(0,fc+9,85),rfl,rfl,rfl,by unfold Ow;simp⟩,fun j hj=>by rw[Mem.get_new,if_neg (by rintro rfl;exact hj rfl)]⟩
    rw[hO.elems]
    simp only[sApp]
    rw[if_pos (by simp),if_neg h0,if_pos (by unfold x13o;omega)]
    rw[Nat.add_comm 1]
    rfl
  have hM2:WM s p st m2:=hM.fr fun j hj=>h3 j (by rcases hj with rfl|rfl|rfl<;>simp[idY,idS])
  have hb4:=hM2.b4
  simp only[x31]
  unfold x7y
  simp only[sNe_I,decide_not,show(decide (v=fr))=false from decide_eq_false b2,Bool.not_false,x14c,x13n,ixY,ldY m hM,x15m,x1a8]
  rw[h1]
  simp only[x15b,hb4,x170,Nat.beq_refl,x14t,List.drop_zero,rd_2,x13n]
  rw[<-x15b,ldY m2 hM2]
  simp[he]
  exact ih (frS P x) (x::acc) n o2 m2 _ b6 a0 a1 (by simp at hn;omega) hM2 h2 (by rw[<-hE,List.reverse_cons,List.append_assoc];rfl)
theorem a_rway(d:Nat){s p f:AV}{l:List Scene}{P:List Pq}{F:List Int}(hs:Sl Scene.c s l)(hp:Sl Pq.c p P)(hf:Ints f F)(hl:l.length<=60)(hP:∀p∈P,PqIn l.length p)(hF:For l.length P F){fr b:Int}(h0:0<=fr)(h1:fr<l.length)(b0:0<=b)(b1:b<l.length){w:List Sp}(hw:Wk P w fr b)(hwF:AllF F w)(hN:NB P w) :
 RetF (fun v=>Sl Sp.c v w) (x13e (d+2) [] x4p [.agg [s,p],f,I fr,I b] mem0):=by
 have hFl:=hF.len hP
 have hwl:=x1a6 (hF.cut hP) hw hwF hN
 rw[xmk]
 unfold xa4 xc3
 have ixS:sIx 1 (.sref idS 0 0 l.length 1 true) (I fr)=some (.ptr idS 0 fr.toNat):=x1a9 h0 h1
 simp[-x184,mem0,hs.one,hp.one,hs.len x14p,mkSl_s (n:=l.length) (by omega),mkSl_b (n:=l.length) (by omega)]
 generalize hm1:Mem.new _ _ _=m1
 have hM1:WM s p ⟨List.replicate l.length ⟨0,0⟩,List.replicate l.length false⟩ m1:=⟨by rw[<-hm1];simp,by unfold Ow;rw[<-hm1];simp[idY],by unfold Ow;rw[<-hm1];simp[idS]⟩
 obtain⟨s1,s2⟩:=hM1.oS.st1 (g:=B) (fun _=>rfl) (k:=fr) h0 (by simpa using h1) (x:=true) rfl rfl
 rw[show((0,10,25):Id)=idS from rfl,show((0,5,21):Id)=idY from rfl,ixS]
 simp only[x13n,s1]
 generalize hm2:Mem.set m1 _ _=m2 at s2
 have hM2:WM s p (r0 l.length fr) m2:=⟨by rw[<-hm2,Mem.get_set,if_neg (by simp[idS])];exact hM1.b4,hM1.oY.fr (by rw[<-hm2,Mem.get_set,if_neg (by simp[idY,idS])]),s2⟩
 have hB:=rway_ok hP hF h0 h1 b0 b1 hw hwF hN
 have hI0:=r0_ok (P:=P) (F:=F) h0 h1
 obtain⟨hIE,-⟩:=hI0.rounds hP hF.rng h0 (k:=l.length)
 unfold x84
 simp only[x183,x15b,hM2.b4,x170,Nat.beq_refl,x14t,Nat.zero_add,List.drop_zero,rd_f,x13n,hs.len x14p]
 refine x142 (N:=l.length) (fun n k (st:RSt) m fc=>x1r (x13e (d+1)) [] 0 n f (I fr) (I b) (.ptr (0,0,4) 0 0) (.sref idY 0 0 l.length 2 true) (.sref idS 0 0 l.length 1 true) (I l.length) (I k) m fc)
  (fun k st m=>WM s p st m/\RInv7 l.length P F fr st/\x17n P F (l.length-k) st=x17n P F l.length (r0 l.length fr)) _ ?_ ?_ NN 0 (r0 l.length fr) m2 _ (by omega) (by rw[x13p];omega) ⟨hM2,hI0,rfl⟩
 .rintro n k st m fc hk ⟨hM,hI,hT⟩ next
  have hk':(k:Int)<(l.length:Int):=by omega
  rw[show l.length-k=(l.length-(k+1))+1 by omega,x17n]at hT
  simp only[x1r]
  unfold x83 x5r
  simp only[x14b,hk',decide_true,x14c,x13n]
  refine x142 (N:=F.length) (fun n2 j (st2:RSt) m fc=>x32 (x13e (d+1)) [] 0 (x1r (x13e (d+1)) [] 0 n) n2 f (I fr) (I b) (.ptr (0,0,4) 0 0) (.sref idY 0 0 l.length 2 true) (.sref idS 0 0 l.length 1 true) (I j) (I l.length) (I k) m fc)
   (fun j st2 m=>WM s p st2 m/\RInv7 l.length P F fr st2/\(x17m (F.drop j)).foldl (x15d P) st2=x1ba P F st) _ ?_ ?_ NN 0 st m _ (by omega) (by rw[x13p];omega) ⟨hM,hI,by simp[x1ba]⟩
  .rintro n2 j st2 m fc hj ⟨hM,hI,hR⟩ next2
   have hj':(j:Int)<(F.length:Int):=by omega
   have hmem:at0 F j∈F:=by rw[x13s hj];exact List.getElem_mem hj
   rw[x1ih hj,List.foldl_cons,List.foldl_cons]at hR
   simp only[x32]
   unfold x82 x5q
   simp only[hf.len x13w,x14b,hj',decide_true,x14c,x13n]
   obtain⟨NM,hNM⟩:∃NM,NN=NM+1+1+1:=⟨NN-3,by have:=x13p;omega⟩
   rw[hNM]
   obtain⟨i1,-,-⟩:=hI.step hP hF.rng h0 (x:=⟨at0 F j,-1⟩) ⟨hmem,.inr rfl⟩
   obtain⟨i2,-,-⟩:=i1.step hP hF.rng h0 (x:=⟨at0 F j,1⟩) ⟨hmem,.inl rfl⟩
   refine l_rtry d hs hp hf hP hF.rng (by omega) hj (-1) (.inr rfl) hI _ hM fun m3 fc3 hM3=>?_
   refine l_rtry d hs hp hf hP hF.rng (by omega) hj 1 (.inl rfl) i1 _ hM3 fun m4 fc4 hM4=>?_
   simp only[x18]
   unfold x81 xe
   simp(disch:=omega) [x13j]
   exact next2 _ m4 _ ⟨hM4,i2,hR⟩
  .rintro n2 st2 m fc ⟨hM,hI,hR⟩
   rw[List.drop_of_length_le (Nat.le_refl _)]at hR
   have hR':st2=x1ba P F st:=hR
   subst hR'
   simp only[x32]
   unfold x82 x3
   simp(disch:=omega) [hf.len x13w,x13j]
   exact next _ m _ ⟨hM,hI,hT⟩
 .rintro n st m fc ⟨hM,hI,hT⟩
  rw[Nat.sub_self,x17n]at hT
  rw[<-hT]at hB
  simp only[x1r]
  unfold x83 x4 x7z
  simp
  refine l_rback d hs hp hP hF.rng hI (T:=w) (by omega) w.reverse b [] NN nilS m _ hB b0 b1 (by rw[x13p];simp;omega) hM (.inl (Or.inl ⟨rfl,rfl⟩)) (by simp)
open Classical in
noncomputable def wayC(P:List Pq)(F:List Int)(a b:Int):List Sp:=if h:∃w,Wk P w a b/\AllF F w/\NB P w then Classical.choose h else[]
theorem wayC_ok{P:List Pq}{F:List Int}{a b:Int}(h:∃w,Wk P w a b/\AllF F w):Wk P (wayC P F a b) a b/\AllF F (wayC P F a b)/\NB P (wayC P F a b):=by
 obtain⟨w,h1,h2⟩:=h
 have hx:∃w,Wk P w a b/\AllF F w/\NB P w:=by
  obtain⟨v,h3,h4,h5⟩:=nb_of h1 h2
  exact⟨v,h3,h4,h5⟩
 unfold wayC
 rw[dif_pos hx]
 exact Classical.choose_spec hx
theorem wayC_one{P:List Pq}{F:List Int}(hC:Cut P F){a b:Int}{w:List Sp}(h1:Wk P w a b)(h2:AllF F w)(h3:NB P w):w=wayC P F a b:=by
 obtain⟨w1,w2,w3⟩:=wayC_ok ⟨w,h1,h2⟩
 exact x1fk hC h1 w1 h2 w2 h3 w3
noncomputable def cycC(P:List Pq)(F:List Int)(i:Int):List Sp:=⟨i,1⟩::wayC P F (prAt P i).b (prAt P i).a
theorem prAt_mem{P:List Pq}{i:Int}(h0:0<=i)(h1:i<P.length):prAt P i∈P:=by
 unfold prAt
 rw[List.getD_eq_getElem?_getD,List.getElem?_eq_getElem (by omega)]
 exact List.getElem_mem _
theorem tree_way{n:Nat}{P:List Pq}{F:List Int}(hP:∀p∈P,PqIn n p)(hF:Tree n P F){i:Int}(h0:0<=i)(h1:i<P.length):∃w,Wk P w (prAt P i).b (prAt P i).a/\AllF F w:=by
 have hm:=prAt_mem h0 h1
 obtain⟨a0,a1,a2⟩:=hP _ hm
 have:=hF.all _ hm
 obtain⟨w,w1,w2⟩:=x1fr hP hF.fo.rng (v:=(prAt P i).b.toNat) (w:=(prAt P i).a.toNat) (by omega) (by omega) (Eq.symm this)
 rw[Int.toNat_of_nonneg (by omega),Int.toNat_of_nonneg (by omega)]at w1
 exact⟨w,w1,w2⟩
theorem x19c{n:Nat}{P:List Pq}{F:List Int}(hP:∀p∈P,PqIn n p)(hF:Tree n P F){i:Int}(h0:0<=i)(h1:i<P.length) :
 Wk P (wayC P F (prAt P i).b (prAt P i).a) (prAt P i).b (prAt P i).a/\AllF F (wayC P F (prAt P i).b (prAt P i).a)/\NB P (wayC P F (prAt P i).b (prAt P i).a)/\(wayC P F (prAt P i).b (prAt P i).a).length<=n:=by
 obtain⟨w1,w2,w3⟩:=wayC_ok (tree_way hP hF h0 h1)
 have h2:=x1a6 (hF.fo.cut hP) w1 w2 w3
 have h3:=hF.fo.len hP
 exact⟨w1,w2,w3,by omega⟩
theorem x1dd{P:List Pq}{i:Int}(h1:i.toNat<P.length):P[i.toNat]=prAt P i:=by
 unfold prAt
 rw[List.getD_eq_getElem?_getD,List.getElem?_eq_getElem h1]
 rfl
theorem aw_neg{n:Nat}{P:List Pq}{F:List Int}(hP:∀p∈P,PqIn n p)(hr:∀i∈F,0<=i/\i<P.length){w:List Sp}(h:AllF F w):Aw P (-1) w:=by
 cases w with
 |nil=>trivial
 |cons x w=>
  have:=(x16o hP hr h.head).2
  show toS P x≠-1
  omega
theorem a_cycle(d:Nat){s p f:AV}{l:List Scene}{P:List Pq}{F:List Int}(hs:Sl Scene.c s l)(hp:Sl Pq.c p P)(hf:Ints f F)(hl:l.length<=8)(hP:∀p∈P,PqIn l.length p)(hF:Tree l.length P F){i:Int}(h0:0<=i)(h1:i<P.length) :
 RetF (fun v=>Sl Sp.c v (cycC P F i)) (x13e (d+13) [] x3u [.agg [s,p],f,I i] mem0):=by
 obtain⟨w1,w2,w3,w4⟩:=x19c hP hF h0 h1
 have hFl:=hF.fo.len hP
 have hway:=a_way d hs hp hf (by omega) hF.fo.rng (prAt P i).a 9 (prAt P i).b (-1) (by omega) fun w c ⟨a1,a2,a3,a4⟩=>by
  have:=x1a6 (hF.fo.cut hP) a1 a2 a3
  omega
 obtain⟨a0,a1,a2⟩:=x18b hP ⟨h0,h1⟩
 have ix:=hp.ixI Pq.len h0 h1
 have ld:=fun m=>x14s (m:=m) Pq.len (by omega) (show i.toNat<P.length by omega)
 rw[x1dd (by omega)]at ld
 rw[show d+13=(d+3+9)+1 by omega,xmj]
 unfold xa3 xc2
 simp[mem0,hs.one,hp.one,ix,ld,Pq.c,x16m]
 generalize hm1:Mem.set _ _ _=m1
 have q3:m1.get (0,0,3)=some (.row [s,p] 0 false):=by rw[<-hm1];simp
 have q7:m1.get (0,8,7)=some (.row [I (prAt P i).a,I (prAt P i).b] 0 false):=by rw[<-hm1];simp
 obtain⟨v,hv,hvc⟩:=x15c (by simp[hs.still1,hp.still1,hf.still]) hway m1
 rw[show d+3+9=d+12 by omega]at hvc
 rw[hvc]
 rcases hv with ⟨w,y,hw,hy,rfl⟩|⟨hno,rfl⟩
 .have hwe:=wayC_one (hF.fo.cut hP) hw.1 hw.2.1 hw.2.2.1
  subst hwe
  obtain⟨o,m2,e1,-,⟨y',e4,e5⟩,-,-⟩:=x1dc hy (by omega) (0,26,30) ⟨i,1⟩ m1
  have hb:x13z xa [(0,1,I i),(1,1,I 1)]=some (.agg [I i,I 1]):=by rw[x15m];simp[x13z,x14k]
  simp only[x13n,sExt_tup,List.getElem?_cons_zero,List.getElem?_cons_succ,hb]
  simp only[x15m,x1a8]
  rw[e1]
  exact RetF.mk (e5 m2 4 rfl) e4
 .exact absurd ⟨w1,w2,w3,aw_neg hP hF.fo.rng w2⟩ (hno _)
theorem w_cycle(d:Nat){s p f:AV}{l:List Scene}{P:List Pq}{F:List Int}(hs:Sl Scene.c s l)(hp:Sl Pq.c p P)(hf:Ints f F)(hl:l.length<=8)(hP:∀p∈P,PqIn l.length p)(hF:Tree l.length P F){i:Int}(h0:0<=i)(h1:i<P.length)(m:Mem) :
 ∃v,Sl Sp.c v (cycC P F i)/\x13f (x13e (d+13)) x3u [.agg [s,p],f,I i] m=some (v,m):=
 x15c (by simp[hs.still1,hp.still1,hf.still]) (a_cycle d hs hp hf hl hP hF h0 h1) m
def idxM(x:Int):List Int->Int->Int
 |[],_=>-1
 |y::r,k=>if x=y then k else idxM x r (k+1)
theorem x1gd{x:Int}:∀(F:List Int) (k:Int),0<=k->(decide (0<=idxM x F k)=F.any fun y=>decide (y=x))
 |[],_,_=>rfl
 |y::r,k,h=>by
  rw[idxM,List.any_cons]
  by_cases c:x=y
  .rw[if_pos c];simp[h,c]
  .rw[if_neg c,x1gd r (k+1) (by omega)]
   have:¬y=x:=fun e=>c e.symm
   simp[this]
theorem x1ii(d:Nat){f:AV}{F:List Int}{x:Int}(hf:Ints f F)(hF:F.length<=1000000)(m:Mem):x13f (x13e (d+2)) x4o [f,I x] m=some (B (F.any fun y=>decide (y=x)),m):=by
 have hidx:∀m,x13f (x13e (d+1)) x4w [f,I x] m=some (I (idxM x F 0),m):=fun m=>by
  refine x14g (by simp[hf.still]) ?_ m
  rw[xmw]
  unfold xaf xch x8d
  simp only[hf.len x13w,x13n]
  refine x142 (N:=F.length) (σ:=Unit) (fun n k _ m fc=>x38 (x13e d) [] 0 n f (I x) (I F.length) (I k) m fc) (fun k _ m=>idxM x (F.drop k) k=idxM x F 0) _ ?_ ?_ NN 0 () _ _ (by omega) (by rw[x13p];omega) (by simp)
  .rintro n k-m fc hk hI next
   have hk':(k:Int)<(F.length:Int):=by omega
   have ix:=hf.ix x14m hk
   rw[x14f hk,idxM,<-x13s hk]at hI
   simp only[x38]
   unfold x8c
   simp(disch:=omega) [hk',ix,x15w]
   by_cases c:x=at0 F k
   .rw[if_pos c]at hI
    simp[c]
    exact RetF.st rfl (by rw[<-c,<-hI])
   .rw[if_neg c]at hI
    simp[c]
    exact next () _ _ (by rw[<-hI];norm_cast)
  .rintro n-m fc hI
   simp only[x38]
   unfold x8c x37
   simp
   rw[List.drop_length]at hI
   exact RetF.st rfl (by rw[<-hI];rfl)
 refine x14g (by simp[hf.still]) ?_ m
 rw[xmi]
 unfold xa2 xc1
 simp[hidx]
 exact RetF.st rfl (by rw[x1gd F 0 (by omega)])
@[simp] theorem still1_plit(l:List AV):still1 (.plit l)=true:=rfl
def x14l(F:List Int)(l:List Int):List Int:=l.filter fun i=>!(F.any fun y=>decide (y=i))
def x14u(P:List Pq)(F:List Int):List Int:=x14l F (freshM P.length)
theorem w_cycles(d:Nat){s p f:AV}{l:List Scene}{P:List Pq}{F:List Int}(hs:Sl Scene.c s l)(hp:Sl Pq.c p P)(hf:Ints f F)(m:Mem) :
 x13f (x13e (d+1)) x4n [.agg [s,p],f] m=some (.clo x22 [.plit [s,p],.plit [f]],m):=by
 refine x14g (by simp[hs.still1,hp.still1,hf.still]) ?_ m
 rw[xme]
 unfold x9y xbx
 simp[mem0,hs.one,hp.one,hf.one,hf.cells]
 generalize hm:Mem.new _ _ _=m1
 have g2:m1.get (0,0,2)=some (.row [s,p] 0 false):=by rw[<-hm];simp
 have g3:m1.get (0,1,3)=some (.row [f] 0 false):=by rw[<-hm];simp
 have e3:Go.Ix.frz m1.get 5 (.ptr (0,1,3) 0 0)=some (.plit [f]):=x1d9 g3 (x14x _ 2 hf.still)
 have e2:Go.Ix.frz m1.get 5 (.ptr (0,0,2) 0 0)=some (.plit [s,p]):=by
  rw[x1d8 g2]
  simp only[List.drop_zero,List.mapM_cons,List.mapM_nil,x14x m1.get 2 hs.still,x14x m1.get 2 hp.still]
  rfl
 refine RetF.mk (a':=.clo x22 [.plit [s,p],.plit [f]]) ?_ rfl
 show(([AV.ptr (0,0,2) 0 0,.ptr (0,1,3) 0 0].mapM (Go.Ix.frz m1.get 5)).map fun l=>AV.clo _ l)=_
 simp only[List.mapM_cons,List.mapM_nil,e3,e2]
 rfl
theorem x1bc(F l k:List Int):x14l F (l++k)=x14l F l++x14l F k:=List.filter_append ..
theorem c_cycs(d:Nat){hh:FHs}{id:Id}{h:List AV->Mem->Option Mem}{s p f:AV}{l:List Scene}{P:List Pq}{F:List Int}(hs:Sl Scene.c s l)(hp:Sl Pq.c p P)(hf:Ints f F)(hl:l.length<=8)(hPl:P.length<=1000)(hP:∀p∈P,PqIn l.length p)(hF:Tree l.length P F)(hh1:x15v hh id=some h){m0:Mem}(Inv:List Int->Mem->Prop)(Fin:Mem->Prop)(hy:∀(pre r:List Int) (i:Int) v m,x14u P F=pre++i::r->pre.length<P.length->0<=i->i<P.length->i∉F->Sl Sp.c v (cycC P F i)->Inv pre m->∃m2,h [v] m=some m2/\(live m2.get id=true/\Inv (pre++[i]) m2\/live m2.get id=false/\Fin m2))(h0:∀m,m.next=m0.next+1->(∀i:Id,m.get i=m0.get i)->Inv [] m) :
 ∃m',x13e (d+14) hh x22 [.yld id,.plit [s,p],.plit [f]] m0=some (.tup [],m')/\(Inv (x14u P F) m'\/Fin m'):=by
 have hFl:=hF.fo.len hP
 rw[xmv]
 unfold xae xcg
 generalize hu:m0.next=u at *
 simp[hp.len x14n]
 refine x142 (N:=P.length) (σ:=Unit) (fun n k _ m fc=>x36 (x13e (d+13)) hh u n (.yld id) (.plit [s,p]) (.plit [f]) (I P.length) (I k) m fc) (fun k _ m=>Inv (x14l F ((freshM P.length).take k)) m)
  (fun r=>∃m',r=some (.tup [],m')/\(Inv (x14u P F) m'\/Fin m')) ?_ ?_ NN 0 () _ _ (by omega) (by rw[x13p];omega) (by simpa[x14l]using h0 ⟨m0.hp,u+1⟩ rfl (fun _=>rfl))
 .rintro n k-m fc hk hI next
  have hk':(k:Int)<(P.length:Int):=by omega
  have hc:=fun m=>x1ii (d+11) (x:=(k:Int)) hf (by omega) m
  rw[<-x18c hk,x1bc]at next
  simp only[x36]
  unfold x8b
  cases hh2:F.any fun y=>decide (y=(k:Int))with
  |true=>
   have e:x14l F [(k:Int)]=[]:=by simp[x14l,hh2]
   rw[e,List.append_nil]at next
   simp(disch:=omega) [hk',hc,hh2]
   exact next () m _ hI
  |false=>
   have e:x14l F [(k:Int)]=[(k:Int)]:=by simp[x14l,hh2]
   rw[e]at next
   obtain⟨v,hv,hvc⟩:=w_cycle d hs hp hf hl hP hF (i:=(k:Int)) (by omega) (by omega) m
   obtain⟨m2,q1,q2⟩:=hy _ (x14l F ((freshM P.length).drop (k+1))) (k:Int) v m (by
    unfold x14u
    conv=>lhs;rw[<-List.take_append_drop (k+1) (freshM P.length),x1bc,<-x18c hk,x1bc,e]
    rw[List.append_assoc]
    rfl) (by
    have:=List.length_filter_le (fun i=>!(F.any fun y=>decide (y=i))) ((freshM P.length).take k)
    rw[List.length_take]at this
    unfold x14l
    omega) (by omega) (by omega) (fun hm=>by
    rw[List.any_eq_false]at hh2
    have:=hh2 _ hm
    simp at this) hv hI
   have hinv:x15a (x13e (d+13)) hh 2 (.yld id) [v] m=some (B (live m2.get id),m2):=by
    show(match x15v hh id with
     |some h=>(h [v] m).map fun(m':Mem)=>(B (live m'.get id),m')
     |none=>none)=_
    rw[hh1]
    simp only
    rw[q1]
    rfl
   rcases q2 with ⟨hlv,q2⟩|⟨hlv,q2⟩
   .rw[hlv]at hinv
    simp(disch:=omega) [hk',hc,hh2,hvc,hinv]
    exact next () m2 _ q2
   .rw[hlv]at hinv
    simp(disch:=omega) [hk',hc,hh2,hvc,hinv]
    exact .inr q2
 .rintro n-m fc hI
  rw[List.take_of_length_le (by simp[freshM])]at hI
  simp only[x36]
  unfold x8b
  simp
  exact .inl hI
structure Wv where
 v:AV
 w:List Sp
 h:Sl Sp.c v w
def Wv.c(x:Wv):List AV:=[x.v]
theorem Wv.len(x:Wv):x.c.length=1:=rfl
theorem Wv.still(x:Wv):x.c.all still1=true:=by simp[Wv.c,x.h.still1]
theorem z_walks:x5k=[nilS]:=by kernel_rfl
theorem u_walks:Tryz.prog.underlying xex=some (.slice x9):=by kernel_rfl
theorem copy_sl{α:Type}{enc:α->List AV}{z bytes:Nat}(hz:∀x,(enc x).length=z)(hst:∀x,(enc x).all still1=true){a:AV}{l:List α}(h:Sl enc a l)(hr:x13o l.length bytes)(s t:Nat)(m:Mem):∃b m2 b',Sl enc b' l/\Go.Ix.frz m2.get deep b=some b' /\
 ∀{R:Type} (k:AV->Mem->Option R),sApp z bytes (0,s,t) (elems m.get z a) (.slit [] 0 true) m k=k b m2:=by
 rcases x1b4 hz h hr (0,s,t) m with ⟨rfl,h1⟩|⟨h0,h1⟩
 .exact⟨.slit [] 0 true,m,.slit [] 0 true,Sl.lit [] true,rfl,h1⟩
 .exact⟨_,_,.slit (l.flatMap enc) l.length false,Sl.lit l false,x172 (k:=4) hz hst (by simp),h1⟩
theorem w_steps7(d:Nat){a:AV}{l:List Sp}(h:Sl Sp.c a l)(hl:l.length<=1000000)(m:Mem):∃b,Sl Sp.c b l/\x13f (x13e (d+1)) x4c [a] m=some (b,m):=by
 refine x15c (by simp[h.still]) ?_ m
 rw[xln]
 unfold x97 xb6
 obtain⟨b,m2,b',h1,h2,h3⟩:=copy_sl (bytes:=16) Sp.len Sp.still h (by unfold x13o;omega) 3 5 (⟨[],1⟩:Mem)
 simp[mem0,x15m,x14a,x14k,x149,h3]
 exact RetF.mk h2 h1
theorem l_Has(d:Nat)(hs:FHs){a:AV}{l:List Int}{x:Int}(h:Ints a l)(hl:l.length<=1000000)(u:Nat):∀(suf:List Int) (k j:Nat) (m:Mem) (fc:Nat),l.drop k=suf->suf.length<j ->
 x2e (x13e d) hs u j a (I x) (I k) m fc=some (B (suf.any fun y=>decide (y=x)),m):=by
 intro suf
 induction suf with
 |nil=>
  intro k j m fc hd hj
  obtain⟨j,rfl⟩:∃i,j=i+1:=⟨j-1,by simp at hj;omega⟩
  have hk:¬((k:Int)<(l.length:Int)):=by have:=List.drop_eq_nil_iff.mp hd;omega
  simp only[x2e]
  unfold x6h
  simp[h.len x13w,hk,x2d]
 |cons y r ih=>
  intro k j m fc hd hj
  obtain⟨j,rfl⟩:∃i,j=i+1:=⟨j-1,by simp at hj;omega⟩
  obtain⟨hk,hke,hd⟩:=x16z hd
  have hk':(k:Int)<(l.length:Int):=by omega
  have ix:=h.ix x14m hk
  have e1:at0 l k=y:=by rw[x13s hk,hke]
  have ih':=ih (k+1) j m (fc+13) hd (by simp at hj;omega)
  simp only[x2e,List.any_cons]
  unfold x6h
  by_cases c:y=x
  .simp(disch:=omega) [h.len x13w,hk',ix,x15w,e1,c]
  .simp(disch:=omega) [h.len x13w,hk',ix,x15w,e1,c]
   simpa using ih'
theorem w_Has(d:Nat){a:AV}{l:List Int}{x:Int}(h:Ints a l)(hl:l.length<=1000000)(m:Mem):x13f (x13e (d+1)) x1d [a,I x] m=some (B (l.any fun y=>decide (y=x)),m):=by
 refine Ans.call0 ?_ (by simp[h.still]) rfl
 unfold Ans
 refine⟨⟨[],1⟩,?_⟩
 rw[xll]
 exact l_Has d [] h hl 0 l 0 NN ⟨[],1⟩ 2 rfl (by rw[x13p];omega)
end Go.Ix
