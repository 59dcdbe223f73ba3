import Derived.Test.YtibmppgmjbpdmaaGreatDoorWg1
import Derived.ProofKit
import Derived.Test.YtibmppgmjbpdmaaGreatDoorWg17
namespace Go.Ix
theorem e_awake10:((x16z 30 [] x1t [] mem0).map (λp=>p.1))=some (B true):=by kernel_rfl
theorem w_awake10(m:Mem):x16v (x16z 30) x1t [] m=some (B true,m):=by
 have h:=e_awake10
 rw[x1ru]at h
 obtain⟨⟨r,m'⟩,h1,rfl⟩:=h
 exact call0 rfl h1 rfl
end Go.Ix
set_option linter.unusedSimpArgs false
set_option linter.unusedVariables false
set_option maxRecDepth 10000
namespace Go.Ix
open Go.Proofs
theorem w_Brief(d:Nat){a:AV}{L:List Ent}(ha:Sl Ent.c a L)(hl:L.length<=9223372036854775807)(m:Mem):x16v (x16z (d+1)) x1u [a] m=some (B (x1bc L&&(decide (L.length<=20)||(decide (40<L.length)&&decide (L.length<=42)))),m):=by
 refine Ans.call0 (m:=m) ?_ (by simp[ha.still]) rfl
 unfold Ans
 rw[xz1]
 unfold x9n x7q xal
 exact⟨_,l_Brief _ _ _ ha L 0 NN _ _ rfl (by rw[x18s];omega) hl⟩
theorem brief_br{L:List Ent}(h:(x1bc L&&(decide (L.length<=20)||(decide (40<L.length)&&decide (L.length<=42))))=true):(∀x∈L,Br10 x)/\L.length<=42:=by
 simp only[x1rv,x1so,x1tj]at h
 refine⟨λx hx=>?_,by omega⟩
 have:=x1ry.1 h.1 x hx
 simp only[x1rv,x1tj]at this
 exact⟨by omega,by omega⟩
theorem x1jw{a:AV}{L:List Ent}(ha:Sl Ent.c a L)(hL:∀x∈L,Br10 x)(hl:L.length<=42)(m:Mem)(fc:Nat):∃m',x3u (x16z 30) [] 0 a m fc=some (B true,m'):=by
 obtain⟨b1,h1,k1⟩:=x1jl 29 ha (by omega) m
 obtain⟨b2,h2,k2⟩:=x1jl 29 ha (by omega) m
 have s1:=λm=>w_SealOf 23 h1 hL (by omega) m
 have s2:=λm=>w_Journal 23 h2 hL (by omega) m
 have s3:=λm=>x1ls 28 ha hL (by omega) m
 have s4:=λm=>w_rsealOf 28 ha (λx hx=>(hL x hx).sh) (by omega) m
 have s5:=λm=>x1lu 27 ha hL (by omega) m
 unfold x3u
 rw[show(AV.sc (.string ⟨#[]⟩))=Tx []from rfl]
 rw[k1]
 simp only[x16y,s1,x1aq,x1t4,x1t5]
 rw[k2]
 simp only[x16y,s2,x1aq,x1t4,x1t5,s3,x19u]
 by_cases he:x19w L=0
 .simp only[he,x1rw,x1s3,x17d,x1s6,x1ap,x16y,x181,x182,x18w,sW_t,x17j,s4,x17l,s5,x_eq]
  exact⟨_,rfl⟩
 .simp only[he,x1rx,x1s0,x17b,x1s1,x1ap,x1rw,x16y,x181,x182,x18w,sW_t,x17j,x17l,x_eq]
  exact⟨_,rfl⟩
theorem x1ly(d:Nat){t:List UInt8}(ht:60000<t.length)(h2:t.length<=1000000)(m:Mem):x16v (x16z (d+1)) xr [Tx t] m=some (.tup [nilS,I 0,I 8],m):=by
 refine Ans.call0_tup (m:=m) ?_ rfl rfl
 unfold Ans
 rw[xkh]
 unfold x4e x3y
 have c':(60000:Int)<(t.length:Int):=by omega
 dsimp only
 simp only[mem0,x17q,x16y,x189,c',x1rw,x17b]
 exact⟨_,rfl⟩
theorem recM_len(t:List UInt8):(recM t).2.1.length<=40:=by
 have key:∀(ls:List (List UInt8)) (q:StR),q.2.1.length<=40->(goR q ls).2.1.length<=40:=by
  intro ls
  induction ls with
  |nil=>intro q h;exact h
  |cons l r ih=>
   intro q h
   rw[goR]
   cases hs:x18e q l with
   |none=>exact h
   |some q'=>
    obtain⟨-,-,h3,rfl⟩:=x1jr hs
    refine ih _ ?_
    show(q.2.1++[entX l.dropLast]).length<=40
    rw[x1sd]
    simp;omega
 exact key _ _ (x1te _)
theorem law_OfficeSeals{a:AV}{L:List Ent}(ha:Sl Ent.c a L)(hmax:L.length<=9223372036854775807)(t:ByteArray):∃m',x16z 31 [] x2y [a,T t] mem0=some (B true,m'):=by
 obtain⟨q,hq⟩:∃q,q=t.data.toList:=⟨_,rfl⟩
 rw[Tx_of t,<-hq]
 rw[xz0]
 unfold x9m x7n
 dsimp only
 have hb:=λm=>w_Brief 29 ha hmax m
 simp only[mem0,w_awake10,x16y,x18h,x1s3,x17d,hb,x17q]
 have key:(∀x∈L,Br10 x)->L.length<=42->(q.length<=800\/60000<q.length)->q.length<=60005->∀(m:Mem) (fc:Nat),∃m',((x16v (x16z 30) xr [Tx q] m).bind λp37=>
  (sExt p37.1 0).bind λt38=>(sExt p37.1 1).bind λt39=>(sExt p37.1 2).bind λt40=>x3v (x16z 30) [] 0 a (Tx q) t38 t39 t40 p37.2 fc)=some (B true,m'):=by
  intro hL hl h1 h2 m fc
  rcases h1 with h1|h1
  .have hp:∀p∈cutM 10 q,p.length<=1000:=λp hp=>by have:=x1ja 10 q p hp;omega
   obtain⟨b,k1,k2⟩:=w_Recover 21 (t:=q) (by omega) hp
   obtain⟨b',k3,k4⟩:=x1lx 27 (t:=q) (by omega) hp
   have hln:=recM_len q
   have k5:=λm=>w_SameLog 29 k1 k3 (by omega) m
   have c1:¬(60000:Int)<(q.length:Int):=by omega
   simp only[k2,x16y,x1aq,x1t4,x1t5]
   unfold x3v
   simp only[x17q,x16y,x189,c1,x1rx,x17d,k4,x1aq,x1t4,x1t5,x19u,x1rw,x1s3,x181,x182,x18w,sW_f,x1s0,x17j,k5,x18h,x17l,x17n]
   exact x1jw ha hL hl _ _
  .have c1:(60000:Int)<(q.length:Int):=by omega
   have k2:=λm=>x1ly 29 (t:=q) h1 (by omega) m
   have hn:sLen Tryz.prog x5 nilS=some (I 0):=x1cg x18i
   simp only[k2,x16y,x1aq,x1t4,x1t5]
   unfold x3v
   simp only[x17q,x16y,x189,c1,x1rw,x17b,x19u,x1s3,x181,x182,x18w,sW_f,x1s0,x17j,hn,x17l,x17n,x17d]
   exact x1jw ha hL hl _ _
 cases hf:(x1bc L&&(decide (L.length<=20)||(decide (40<L.length)&&decide (L.length<=42))))with
 |false=>
  simp only[x1s0,x181,x182,sW_f,sW_t,x1s3,x17n,x17j,x16y,x17l,x17b]
  exact⟨_,rfl⟩
 |true=>
  obtain⟨hL,hl⟩:=brief_br hf
  simp only[x1s3,x181,x182,sW_f,x1s0,x17j,x16y,x189,x17l,x17n,x17q]
  by_cases c1:(800:Int)<(q.length:Int)
  .by_cases c2:(q.length:Int)<=60000
   .simp only[c1,c2,x1rw,sW_t,sW_f,x1s3,x1s0,x17j,x17n,x16y,x1cf,x17l,x17b,x17q,x189]
    exact⟨_,rfl⟩
   .by_cases c3:(60005:Int)<(q.length:Int)
    .simp only[c1,c2,c3,x1rw,x1rx,sW_t,sW_f,x1s3,x1s0,x17j,x17n,x16y,x1cf,x17l,x17b,x17q,x189]
     exact⟨_,rfl⟩
    .simp only[c1,c2,c3,x1rw,x1rx,sW_t,sW_f,x1s3,x1s0,x17j,x17n,x16y,x1cf,x17l,x17b,x17d,x17q,x189]
     exact key hL hl (.inr (by omega)) (by omega) _ _
  .have c3:¬(60005:Int)<(q.length:Int):=by omega
   simp only[c1,c3,x1rw,x1rx,sW_t,sW_f,x1s3,x1s0,x17j,x17n,x16y,x1cf,x17l,x17b,x17d,x17q,x189]
   exact key hL hl (.inl (by omega)) (by omega) _ _
end Go.Ix
