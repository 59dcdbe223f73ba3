import Derived.Test.YtibmppgmjbpdmaaGreatDoorWg16
import Derived.Test.YtibmppgmjbpdmaaGreatDoorWg13
set_option linter.unusedSimpArgs false
set_option linter.unusedVariables false
set_option maxRecDepth 10000
namespace Go.Ix
open Go.Proofs
theorem x1jf{q:List UInt8}{i:Nat}(h:i<q.length):(q.take (i+1)).count 10=(q.take i).count 10+(if q[i]=10 then 1 else 0):=by
 rw[List.take_add_one,x1pr h,List.count_append]
 simp[List.count_cons]
theorem l_whole{Q:O2->Prop}(d:Nat){a t2:AV}{q:List UInt8}(hq:q.length<=100000){at_:Nat}(hat:at_<=q.length){l lf g:AV}(hQ:∀m fc,Q (x3a (x14z d) [] 0 a t2 (Tx q) (I at_) l lf g (I ((q.take at_).count 10:Nat)) m fc)):∀(n i j:Nat) (m:Mem) (fc:Nat),i+n=at_->n<j ->
 Q (x24 (x14z d) [] 0 j a t2 (Tx q) (I at_) l lf g (I ((q.take i).count 10:Nat)) (I i) m fc):=by
 intro n
 induction n with
 |zero=>
  intro i j m fc hi hj
  obtain⟨j,rfl⟩:∃k,j=k+1:=⟨j-1,by omega⟩
  have:i=at_:=by omega
  subst this
  have hlt:¬((i:Int)<(i:Int)):=by omega
  simp only[x24]
  unfold x72
  simp only[x16y,hlt,x1pc,x14w,x15k]
  exact hQ _ _
 |succ n ih=>
  intro i j m fc hi hj
  obtain⟨j,rfl⟩:∃k,j=k+1:=⟨j-1,by omega⟩
  have hlt:((i:Int)<(at_:Int)):=by omega
  have hil:i<q.length:=by omega
  have ix:=x_idx hil
  have hc:=x1jf hil
  have hcl:(q.take i).count 10<=100000:=x1q1 List.count_le_length (by rw[x1q6];omega)
  have w1:w64 ((i:Int)+1)=((i+1:Nat):Int):=by rw[x16a (by omega) (by omega)];omega
  have w2:w64 ((((q.take i).count 10:Nat):Int)+1)=(((q.take i).count 10+1:Nat):Int):=by rw[x16a (by omega) (by omega)];omega
  have ih':=λm fc=>ih (i+1) j m fc (by omega) (by omega)
  simp only[x24]
  unfold x72 x94
  simp only[x16y,hlt,x1pb,x14w,x15f,ix,x17o]
  by_cases h10:q[i]=10
  .have hd:decide (((q[i]).toNat:Int)=10)=true:=by rw[h10];rfl
   rw[x1p0 h10]at hc
   rw[hc]at ih'
   rw[hd,x15f]
   unfold x3b
   simp only[x17f,x14w,w1,w2]
   exact ih' _ _
  .have hd:decide (((q[i]).toNat:Int)=10)=false:=by
    apply x1q2
    intro e
    exact h10 (UInt8.toNat_inj.1 (by show(q[i]).toNat=10;omega))
   rw[x1oz h10,x1qn]at hc
   rw[hc]at ih'
   rw[hd,x15k]
   unfold x3b
   simp only[x17f,x14w,w1]
   exact ih' _ _
theorem Sl.take_ents{x:AV}{L:List Ent}{n:Nat}(hx:Sl Ent.c x L)(hn:n<=L.length):∃y,x159 Tryz.prog x5 x none (some (I n))=some y/\Sl Ent.c y (L.take n):=by
 have hi:∃i,Tryz.prog.info? xb=some i/\i.size=2:=by
  have h1:(Tryz.prog.info? xb).map (λi=>i.size)=some 2:=by kernel_rfl
  rw[x1p3]at h1
  exact h1
 obtain⟨ii,ie1,ie2⟩:=hi
 rcases hx with ⟨rfl,rfl⟩|⟨f,rfl⟩
 .have:n=0:=by simpa using hn
  subst this
  exact⟨nilS,by kernel_rfl,.inl ⟨rfl,rfl⟩⟩
 .have hfl:=x172 Ent.len L
  have htk:=x1dq Ent.len L
  refine⟨.slit ((L.flatMap Ent.c).take (n*2)) n (f&&decide ((n:Int)=(L.length:Int))),?_,.inr ⟨f&&decide ((n:Int)=(L.length:Int)),?_⟩⟩
  .simp only[x159,x15b,x16u,ie1,ie2,asI,Option.getD_some,Option.getD_none]
   rw[x1p0 ⟨by omega,by omega,by omega,by omega⟩]
   simp
  .have hl:(L.take n).length=n:=by rw[x1q6];omega
   rw[hl]
   congr 1
   have key:∀(L:List Ent) (k:Nat),(L.flatMap Ent.c).take (k*2)=(L.take k).flatMap Ent.c:=by
    intro L
    induction L with
    |nil=>intro k;simp
    |cons x r ih=>
     intro k
     cases k with
     |zero=>simp
     |succ k=>
      rw[x1ps,x1r2,x1ps,x1qm,show k*2+2=x.c.length+k*2 by rw[Ent.len];omega,x1t0,ih]
   exact key L n
theorem txt_one(b:UInt8)(m:Mem):sTxt Tryz.prog x7 x0 (.slit [U8 b.toNat] 1 true) m=some (Tx [b]):=by
 have h:sTxt Tryz.prog x7 x0 (.slit [U8 b.toNat] 1 true) m=some (Tx [((b.toNat:Int)).toNat.toUInt8]):=by kernel_rfl
 rw[h]
 have:((b.toNat:Int)).toNat.toUInt8=b:=by
  rw[x1sy];exact UInt8.ofNat_toNat
 rw[this]
theorem b_rec0{a:AV}{L:List Ent}(ha:Sl Ent.c a L)(h0:x16z L=0)(hl:L.length<=20)(hK:∀l∈x15u 1 L,l.length<=1000)(hj:(x155 1 L).length<=50000){b':UInt8}{at_:Nat}(hat:at_<=(x155 1 L).length){l:AV}{w:Nat}(hw:w=((x155 1 L).take at_).count 10)(hwl:w<=L.length)(hlw:Sl Ent.c l (L.take w)){left:Int}(h1:0<=left)(h2:left<=at_)(m:Mem)(fc:Nat):∃m',x3a (x14z 30) [] 0 a (U8 b'.toNat) (Tx (x155 1 L)) (I at_) l (I left) (I 0) (I w) m fc=some (B true,m'):=by
 obtain⟨y,y1,y2⟩:=Sl.take_ents ha hwl
 have hlen:(L.take w).length=w:=by rw[x1q6];omega
 have e1:sLen Tryz.prog x5 l=some (I w):=by rw[hlw.len x16u,hlen]
 have e2:=λm=>x1e2 29 hlw y2 (by omega) m
 have e3:∀m,x14q (x14z 30) x15 [I left,I 0,I at_] m=some (B true,m):=λm=>by
  have:=w_Within 29 left 0 (at_:Int) m
  rw[this,show wi left 0 (at_:Int)=true from x1pm ⟨h1,h2⟩]
 have c1:¬((L.length:Int)<(w:Int)):=by omega
 unfold x3a
 simp only[sNe_I,x1pb,x1pe,x14w,x16l,x16m,x17n,sW_f,x1pa,x15p,e1,x15y,x15t,ha.len x16u,x17g,c1,x1pc,y1,e2,x16k,e3,x15k,x16c,x1a8]
 by_cases c2:at_=(x155 1 L).length
 .have c2':((at_:Int)=((x155 1 L).length:Int)):=by omega
  simp only[c2',x1pb,x1pe,x15t,x14w,x15y,x15p,sW_f,x15f]
  exact⟨_,rfl⟩
 have c2':¬((at_:Int)=((x155 1 L).length:Int)):=by omega
 have hlt:at_<(x155 1 L).length:=by omega
 have ix:=x_idx hlt
 obtain⟨b,hb⟩:∃b,b=(x155 1 L)[at_]:=⟨_,rfl⟩
 rw[<-hb]at ix
 have tn:∀(x y:UInt8),decide (((x.toNat:Int))=(y.toNat:Int))=decide (x=y):=λx y=>decide_eq_decide.2 ⟨λe=>UInt8.toNat_inj.1 (by omega),λe=>by rw[e]⟩
 have t10:∀x:UInt8,decide (((x.toNat:Int))=10)=decide (x=10):=λx=>tn x 10
 have t32:∀x:UInt8,decide (((x.toNat:Int))=32)=decide (x=32):=λx=>tn x 32
 simp only[c2',x1pc,x1pa,x15p,x14w,sW_f,ix,x17o,tn,t10,t32,x15y,x15t]
 by_cases d1:b'=b
 .have D1:decide (b'=b)=true:=x1pm d1
  simp only[D1,x1pb,x1pc,x1pe,x1pa,x15t,x15p,x14w,x15y,sW_f,x15f,x15k,ix,x17o,tn,t10,t32]
  exact⟨_,rfl⟩
 have D1:decide (b'=b)=false:=x1q2 d1
 by_cases d2:b'=10
 .have D2:decide (b'=10)=true:=x1pm d2
  simp only[D1,D2,x1pb,x1pc,x1pe,x1pa,x15t,x15p,x14w,x15y,sW_f,x15f,x15k,ix,x17o,tn,t10,t32]
  exact⟨_,rfl⟩
 have D2:decide (b'=10)=false:=x1q2 d2
 by_cases d3:b=10
 .have D3:decide (b=10)=true:=x1pm d3
  simp only[D1,D2,D3,x1pb,x1pc,x1pe,x1pa,x15t,x15p,x14w,x15y,sW_f,x15f,x15k,ix,x17o,tn,t10,t32]
  exact⟨_,rfl⟩
 have D3:decide (b=10)=false:=x1q2 d3
 by_cases d4:b'=32
 .have D4:decide (b'=32)=true:=x1pm d4
  simp only[D1,D2,D3,D4,x1pb,x1pc,x1pe,x1pa,x15t,x15p,x14w,x15y,sW_f,x15f,x15k,ix,x17o,tn,t10,t32]
  exact⟨_,rfl⟩
 have D4:decide (b'=32)=false:=x1q2 d4
 by_cases d5:b=32
 .have D5:decide (b=32)=true:=x1pm d5
  simp only[D1,D2,D3,D4,D5,x1pb,x1pc,x1pe,x1pa,x15t,x15p,x14w,x15y,sW_f,x15f,x15k,ix,x17o,tn,t10,t32]
  exact⟨_,rfl⟩
 have D5:decide (b=32)=false:=x1q2 d5
 have hd:(x155 1 L).drop at_=b::(x155 1 L).drop (at_+1):=by rw[hb];exact x1sg hlt
 obtain⟨r1,r2⟩:=x1je h0 hd (b':=b') (λe=>d1 e.symm) d3 d2 d5 d4
 have hlen2:((x155 1 L).take at_++b'::(x155 1 L).drop (at_+1)).length<=60000:=by
  rw[x1pn,x1ph,x1q6,x1s0];omega
 obtain⟨z,z1,z2⟩:=x1e9 21 hlen2 (r2 1000 hK)
 rw[r1,<-hw]at z1
 have e4:sLen Tryz.prog x5 z=some (I w):=by rw[z1.len x16u,hlen]
 have e5:=λm=>x1e2 29 z1 y2 (by omega) m
 have w1:w64 ((at_:Int)+1)=((at_+1:Nat):Int):=by rw[x16a (by omega) (by omega)];omega
 simp only[D1,D2,D3,D4,D5,x1pb,x1pc,x1pe,x1pa,x15t,x15p,x14w,x15y,sW_f,x15f,x15k,ix,x17o,tn,t10,t32,x_slh (show at_<=(x155 1 L).length from hat),mkLit_u8,txt_one]
 rw[x181 _ _ (by rw[x1q6];simp;omega)]
 simp only[x14w,x17f,w1,x_slo (show at_+1<=(x155 1 L).length by omega)]
 rw[x181 _ _ (by rw[x1pn,x1q6,x1s0];simp;omega)]
 rw[show(x155 1 L).take at_++[b']++(x155 1 L).drop (at_+1)=(x155 1 L).take at_++b'::(x155 1 L).drop (at_+1) by simp]
 simp only[x14w,z2,x1a9,x1qu,x1qo]
 have ap1:∀q id,x153 (tR (Tx q)) (some [],some [id])=true:=λ_ _=>rfl
 have ap2:∀q id,x153 (some [],some [id]) (tR (Tx q))=true:=λ_ _=>rfl
 simp only[isRf,Bool.or_self,x1pa,x1s5,x15p,ap1,ap2,x1a8,x1pb,x14w,x16l,x16m,x17n,sW_t,e4,x15y,y1,e5]
 exact⟨_,rfl⟩
theorem rows_bd:∀(L:List Ent) (n:Nat),(∀x∈L,x.by_.length<=20/\x.tx.length<=220)->∀l∈x15u n L,l.length<=1000
 |[],n,_=>λl h=>by cases h
 |x::r,n,h=>by
  intro l hl
  rw[x15u]at hl
  rcases x1pd.1 hl with rfl|hl
  .have h1:=h x (by simp)
   have h2:=x1e4 (x15l n x)
   unfold rowE
   simp only[x1pn,x1ph]
   omega
  .exact rows_bd r _ (λy hy=>h y (x1p7 _ hy)) l hl
theorem law_OfficeRecovers{a:AV}{L:List Ent}(ha:Sl Ent.c a L)(hmax:L.length<=9223372036854775807)(c:Int)(b':UInt8):∃m',x14z 31 [] x2e [a,I c,U8 b'.toNat] mem0=some (B true,m'):=by
 rw[xxc]
 unfold x8g x73
 dsimp only
 have hb:=λm=>w_Brief 29 ha hmax m
 simp only[mem0,w_awake10,x14w,x16k,x1pe,x15k,hb]
 cases hf:(x198 L&&(decide (L.length<=20)||(decide (40<L.length)&&decide (L.length<=42))))with
 |false=>
  simp only[x1pa,x15f]
  exact⟨_,rfl⟩
 |true=>
  obtain⟨hL,hl⟩:=brief_br hf
  have hbr:∀x∈L,x.by_.length<=20/\x.tx.length<=220:=λx hx=>by
   simp only[x1p4]at hf
   have:=x1p5.1 hf.1 x hx
   simp only[x1p4,x1qf]at this
   exact this
  simp only[x1pe,x15k]
  obtain⟨b1,k0,k1⟩:=w_CopyLog 29 ha (by omega) (⟨[],0+1⟩:Mem)
  have s2:=λm=>w_Journal 23 k0 hL (by omega) m
  rw[k1]
  simp only[x14w,s2,x1a9,x1qu,x1qo,sNe_I]
  by_cases he:x16z L=0
  .have hl20:L.length<=20:=by
    simp only[x1p4,x1pw,x1qf]at hf
    unfold x16z at he
    split at he
    .cases he
    .omega
   have hK:=rows_bd L 1 hbr
   have hjl:=x1h8 L 1 hL
   have hj:(x155 1 L).length<=50000:=by omega
   obtain⟨_,_,_,_,_,hpc⟩:=rec_cut he (at_:=(x155 1 L).length) (x1p6 _)
   rw[x1rs]at hpc
   obtain⟨z,z1,z2⟩:=x1e9 21 (t:=x155 1 L) (by omega) (hpc 1000 hK)
   rw[rec_jour he]at z1 z2
   have e1:=λm=>x1e2 29 z1 ha (by show L.length<1000000;omega) m
   have e0:((x155 1 L).length:Int)-((x155 1 L).length:Int)=0:=by omega
   have w1:w64 (((x155 1 L).length:Int)+1)=((x155 1 L).length:Int)+1:=x16a (by omega) (by omega)
   have hm:=λm=>w_Mod 29 (x:=c) (y:=((x155 1 L).length:Int)+1) (by omega) (by omega) m
   obtain⟨at_,hat⟩:∃at_:Nat,c % (((x155 1 L).length:Int)+1)=(at_:Int):=⟨(c % (((x155 1 L).length:Int)+1)).toNat,by
    have:=Int.emod_nonneg c (show((x155 1 L).length:Int)+1≠0 by omega)
    omega⟩
   have hatl:at_<=(x155 1 L).length:=by
    have:=Int.emod_lt_of_pos c (show(0:Int)<((x155 1 L).length:Int)+1 by omega)
    omega
   obtain⟨w,q1,q2,q3,q4,q5⟩:=rec_cut he hatl
   have htl:((x155 1 L).take at_).length=at_:=by rw[x1q6];omega
   obtain⟨y,y1,y2⟩:=x1e9 21 (t:=(x155 1 L).take at_) (by omega) (q5 1000 hK)
   rw[q3]at y1
   rw[htl]at y2
   have fin:=λm fc=>b_rec0 ha he hl20 hK hj (b':=b') hatl (w:=w) q2.symm q1 y1 (left:=(at_:Int)-((recM ((x155 1 L).take at_)).2.2:Int)) (by omega) (by omega) m fc
   simp only[he,x1pb,x1pe,x15k,x1pk,z2,e0,x14w,x1a9,x1qu,x1qo,sNe_I,x16l,x16m,x17n,sW_f,x1pa,x15p,x15y,x15t,e1,x16k,x16c,x17f,w1,hm,hat,x_slh hatl,y2]
   unfold x95
   have:=l_whole (Q:=λr=>∃m',r=some (B true,m')) 30 (a:=a) (t2:=U8 b'.toNat) (q:=x155 1 L) (by omega) hatl (l:=y) (lf:=I ((at_:Int)-((recM ((x155 1 L).take at_)).2.2:Int))) (g:=I 0) (λm fc=>by rw[q2];exact fin m fc) at_ 0 NN
   exact this _ _ (by omega) (by rw[x197];omega)
  .simp only[he,x1pc,x1pa,x15f,x1p9]
   exact⟨_,rfl⟩
end Go.Ix
