import Derived.Test.YtljibmnhhdiakaaWLawSolves
import Derived.Test.YtljibmnhhdiakaaWgE
import Derived.Test.YtljibmnhhdiakaaWgF
import Derived.Test.YtljibmnhhdiakaaWAlong
set_option linter.unusedSimpArgs false
set_option linter.unusedVariables false
namespace Go.Ix
open Go.Proofs
def x1tc (ph T:List Int):List Int:=(List.range ph.length).map fun i=>if at0 ph i=void then 0 else at0 T i
theorem x21a (ph T:List Int):(x1tc ph T).length=ph.length:=by simp [x1tc]
theorem x21b {ph T:List Int} {i:Nat} (h:i < ph.length):at0 (x1tc ph T) i=if at0 ph i=void then 0 else at0 T i:=by
 rw [x1pu (by rw [x21a];exact h)]
 simp [x1tc]
theorem x24k {ph T:List Int} (hph:PhIn ph) (hT:∀ k,-12000≤at0 T k∧at0 T k≤12000):∀ (r k:Nat) (out:List Int),k+r=ph.length→out=(x1tc ph T).take k →
 x1r4 out (ph.drop k) ((unwM ph.length ph T).drop k)=(x1tc ph T,0)
 | 0,k,out,hk,ho=>by
   have hk':k=ph.length:=by omega
   subst hk'
   rw [List.drop_length,ho,List.take_of_length_le (by rw [x21a];exact Nat.le_refl _)]
   rfl
 | r+1,k,out,hk,ho=>by
   have hkl:k < ph.length:=by omega
   have hku:k < (unwM ph.length ph T).length:=by rw [x1uc];exact hkl
   have hkt:k < (x1tc ph T).length:=by rw [x21a];exact hkl
   have ih:=x24k hph hT r (k+1) ((x1tc ph T).take (k+1)) (by omega) rfl
   have eg:=x219 (ph:=ph) (tu:=T) hkl
   have et:=x21b (T:=T) hkl
   rw [x1pu hkt] at et
   have hp:=hph k
   have ht:=hT k
   rw [x1r6 hkl,x1r6 hku,eg,← x1pu hkl]
   rw [List.take_succ_eq_append_getElem hkt,← ho,et] at ih
   by_cases c:at0 ph k=void
   ·rw [if_pos c] at ih ⊢
    simp only [x1r4]
    rw [decide_eq_true c]
    simpa using ih
   ·rw [if_neg c] at ih ⊢
    have hne:¬ (at0 ph k+at0 T k*4096=void):=by unfold void;omega
    have h1:isP (at0 ph k+at0 T k*4096)=true:=wi_iff.mpr ⟨by omega,by omega⟩
    have h2:(at0 ph k+at0 T k*4096 - at0 ph k) % 4096=0:=by omega
    have h3:(at0 ph k+at0 T k*4096 - at0 ph k).tdiv 4096=at0 T k:=by
     rw [show at0 ph k+at0 T k*4096 - at0 ph k=at0 T k*4096 by omega]
     exact Int.mul_tdiv_cancel _ (by omega)
    simp only [x1r4]
    rw [decide_eq_false c,decide_eq_false hne,h1,decide_eq_true h2,h3]
    simpa using ih
theorem x270 {r c:Int} {ph T:List Int} (hph:PhIn ph) (hT:∀ k,-12000≤at0 T k∧at0 T k≤12000):x1rs r c ph r c (unwM ph.length ph T)=(x1tc ph T,0):=by
 have:=x24k hph hT ph.length 0 [] (by omega) (by simp)
 unfold x1rs
 simp only [List.drop_zero] at this
 simp [x1uc,this]
theorem x24l {p q:Nat→Int}:∀ {l:List Edge},(∀ e∈l,p e.fr.toNat=q e.fr.toNat∧p e.to.toNat=q e.to.toNat)→x1rk p l=x1rk q l
 | [],_=>rfl
 | e::r,h=>by
   obtain ⟨h1,h2⟩:=h e (List.mem_cons_self ..)
   have ih:=x24l (l:=r) fun x hx=>h x (List.mem_cons_of_mem _ hx)
   unfold x1rk exF
   rw [h1,h2,ih]
theorem cost_told {r c:Int} {ph ac dn T:List Int} (h:x1qm r c ph ac dn=0):x1r2 (x1tc ph T) 0 (x1qr r c ph ac dn)=x1r2 T 0 (x1qr r c ph ac dn):=by
 obtain ⟨r0,r1,c0,c1,hlen,-⟩:=x1uw h
 rw [x1xe,x1xe]
 congr 1
 refine x24l fun e he=>?_
 obtain ⟨i,p,h3,h4,rfl⟩:=x1xj he
 obtain ⟨hi,hie⟩:=List.getElem?_eq_some_iff.mp h3
 obtain ⟨s0,s1,s2,s3,-⟩:=x1yp r0 c0 (hie ▸ List.getElem_mem hi)
 simp only [x1qh,Bool.or_eq_false_iff,decide_eq_false_iff_not] at h4
 simp only [mkE]
 rw [x21b (by omega),x21b (by omega),if_neg h4.1,if_neg h4.2]
 exact ⟨rfl,rfl⟩
theorem x271 (d:Nat) {r c r' c':Int} {p a b u:AV} {ph ac dn us:List Int} (hp:Ints p ph) (ha:Ints a ac) (hb:Ints b dn) (hu:Ints u us) (hr:x1qm r c ph ac dn=0) (hf:(x1rs r c ph r' c' us).2=0) (m:Mem) :
 x1pb (x1pa (d+6)) x4d [.agg [I r,I c,p,a,b],.agg [I r',I c',u]] m=some (.tup [I (x1r2 (x1rs r c ph r' c' us).1 0 (x1qr r c ph ac dn)),I 0],m):=by
 obtain ⟨r0,r1,c0,c1,hlen,hph,hac,hdn,h144,hw⟩:=x1uw hr
 obtain ⟨m2,hm2⟩:∃ m2:Mem,m2=((⟨[],1⟩:Mem).new (0,0,2) (.row [I r,I c,p,a,b] 0 false)).new (0,1,3) (.row [I r',I c',u] 0 false):=⟨_,rfl⟩
 have g2:m2.get (0,0,2)=some (.row [I r,I c,p,a,b] 0 false):=by rw [hm2];simp
 have g3:m2.get (0,1,3)=some (.row [I r',I c',u] 0 false):=by rw [hm2];simp
 obtain ⟨t,ht,hT⟩:=x26u (d+2) (r:=r) (c:=c) (r':=r') (c':=c') hp ⟨ha.still1,ha.one⟩ ⟨hb.still1,hb.one⟩ hu (x1uv hph) (by omega) m2
 obtain ⟨ev,hev,hN⟩:=x24c (d+1) (r:=r) (c:=c) hp ha hb hr m2
 obtain ⟨hTI,hTl⟩:=fieldM_in (x1uv hph) hf
 have hR:=x1ys hr
 have hC:=w_Cost (d+3) (n:=(ph.length:Int)) hev hR.len ht (edgeIn_of hR (by rw [hTl])) hTI m2
 rw [hf] at hT
 refine Ans.call0_tup ⟨m2,?_⟩ (by simp [hp.still1,ha.still1,hb.still1,hu.still1]) rfl
 rw [xxz]
 unfold x8v xhb
 simp [mem0,hp.one,ha.one,hb.one,hu.one]
 rw [← hm2]
 simp [hT,g2,hN,hC]
theorem x272 (d:Nat) {r c:Int} {p a b fa:AV} {ph ac dn fl:List Int} (hp:Ints p ph) (ha:Ints a ac) (hb:Ints b dn) (hf:Ints fa fl) (hl:ph.length≤300000) (h1:ac.length≤300000) (h2:dn.length≤300000) (hr:x1qm r c ph ac dn=0) (m:Mem) :
 x1pb (x1pa (d+10)) x5t [.agg [I r,I c,p,a,b],fa] m=some (.tup [I (x1sh ph.length (x1qr r c ph ac dn) fl).1,I (x1sh ph.length (x1qr r c ph ac dn) fl).2],m):=by
 obtain ⟨m2,hm2⟩:∃ m2:Mem,m2=(⟨[],1⟩:Mem).new (0,0,2) (.row [I r,I c,p,a,b] 0 false):=⟨_,rfl⟩
 have g2:m2.get (0,0,2)=some (.row [I r,I c,p,a,b] 0 false):=by rw [hm2];simp
 have hck:=x20u d (r:=r) (c:=c) hp ha hb hl h1 h2 m2
 obtain ⟨ev,hev,hN⟩:=w_netOf (d+5) hp ha hb hr m2
 have hR:=x1ys hr
 have hv:=w_value (d+5) (n:=(ph.length:Int)) hev hR hf m2
 have hbn:x1pl x16 [(0,2,.agg [I (ph.length:Int),ev])]=some (.agg [I (ph.length:Int),ev]):=by simp [x1pl,x1qi,z_pnet,hev.cells]
 refine Ans.call0_tup ⟨m2,?_⟩ (by simp [hp.still1,ha.still1,hb.still1,hf.still]) rfl
 rw [xy0]
 unfold x8w xhc
 simp [mem0,hp.one,ha.one,hb.one]
 rw [← hm2]
 simp [hck,hr,g2,hN,hbn,hv]
theorem x273 (d:Nat) (m:Mem):x1pb (x1pa (d+2)) x5s [.agg [I 0,I 0,nilS],.agg [I 0,I 0,nilS]] m=some (B true,m):=by
 have hn:Ints nilS []:=Or.inl ⟨rfl,rfl⟩
 have hI:=fun m=>w_Ints d hn hn (by simp) m
 refine Ans.call0 ⟨((⟨[],1⟩:Mem).new (0,0,2) (.row [I 0,I 0,nilS] 0 false)).new (0,1,3) (.row [I 0,I 0,nilS] 0 false),?_⟩ (by simp [hn.still1]) rfl
 rw [xxy]
 unfold x8u xha
 simp [mem0,hn.one,hI]
theorem l_BestL (d:Nat) {n:Nat} {r c r' c':Int} {p a b u:AV} {P ph ac dn un:List Int} (hp:Ints p ph) (ha:Ints a ac) (hb:Ints b dn) (hu:Ints u un) (hpl:ph.length=n) (hul:un.length=n) (hP:P.length=n) (hn:n≤200) (hz:∀ i,i < n→fst0 P i=i→at0 un i=at0 ph i) :
 ∀ (s k j:Nat) (m:Mem) (fc:Nat),k+s=n→s < j→m.get (0,0,1)=some (.row [I r,I c,p,a,b] 0 false)→m.get (0,15,3)=some (.row [I r',I c',u] 0 false) →
 ∃ m',x36 (x1pa (d+1)) [] 0 j (.ptr (0,0,1) 0 0) (.ptr (0,15,3) 0 0) (.slit (P.flatMap intE) n false) (I k) m fc=some (B true,m'):=by
 intro s
 induction s with
 | zero=>
   intro k j m fc hk hj g1 g3
   obtain ⟨j,rfl⟩:∃ i,j=i+1:=⟨j - 1,by omega⟩
   have hi:¬ ((k:Int) < (n:Int)):=by omega
   have hlen:sLen Try.prog x5 (.slit (P.flatMap intE) n false)=some (I n):=rfl
   refine ⟨m,?_⟩
   simp only [x36]
   unfold xbp x4z
   simp [hlen,hi]
 | succ s ih=>
   intro k j m fc hk hj g1 g3
   obtain ⟨j,rfl⟩:∃ i,j=i+1:=⟨j - 1,by omega⟩
   have hi:(k:Int) < (n:Int):=by omega
   have hlen:sLen Try.prog x5 (.slit (P.flatMap intE) n false)=some (I n):=rfl
   have hPa:Ints (.slit (P.flatMap intE) n false) P:=by have:=Sl.lit P false (enc:=intE);rwa [hP] at this
   obtain ⟨a',ha',hsl⟩:=slice_pre P false (k:=k) (by omega)
   rw [hP] at hsl
   have ixP:=hPa.ix x1pv (k:=k) (by omega)
   have ixp:=hp.ix x1pv (k:=k) (by omega)
   have ixu:=hu.ix x1pv (k:=k) (by omega)
   have hh:=fun m=>w_Has d (x:=at0 P k) ha' (by rw [List.length_take];omega) m
   obtain ⟨m',hm'⟩:=ih (k+1) j m (fc+30) (by omega) (by omega) g1 g3
   refine ⟨m',?_⟩
   have lP:k < P.length:=by omega
   have lp:k < ph.length:=by omega
   have lu:k < un.length:=by omega
   rw [← hm']
   simp only [x36]
   unfold xbp
   cases e:(P.take k).any fun y=>decide (y=at0 P k)
   ·have hz':=hz k (by omega) (first_of (by omega) e)
    simp only [e] at hh
    simp (disch:=omega) [hlen,hi,hsl,ixP,x1pr lP,hh,g1,g3,hp.one,hu.one,ixp,ixu,x1pr lp,x1pr lu,hz']
   ·simp only [e] at hh
    simp (disch:=omega) [hlen,hi,hsl,ixP,x1pr lP,hh]
theorem law_UnwrapBest {r c:Int} {p a b:AV} {ph ac dn:List Int} (hp:Ints p ph) (ha:Ints a ac) (hb:Ints b dn):∃ m',x1pa 31 [] x6k [.agg [I r,I c,p,a,b]] mem0=some (B true,m'):=by
 rw [xxl]
 unfold x8e xgr
 simp [mem0,hp.one,ha.one,hb.one,w_awake,w_small 25 hp ha hb]
 cases c1:x1sb r c ph ac dn
 ·simp
 obtain ⟨l1,l2,l3⟩:=small_len c1
 obtain ⟨m0,hm0⟩:∃ m0:Mem,m0=(⟨[],1⟩:Mem).new (0,0,1) (.row [I r,I c,p,a,b] 0 false):=⟨_,rfl⟩
 have g0:m0.get (0,0,1)=some (.row [I r,I c,p,a,b] 0 false):=by rw [hm0];simp
 rw [← hm0]
 obtain ⟨p',a',b',hp',ha',hb',hcp⟩:=x246 27 (r:=r) (c:=c) hp ha hb (by omega) (by omega) (by omega) m0
 have hck:=fun m=>x245 26 (r:=r) (c:=c) hp ha hb (by omega) (by omega) (by omega) m
 by_cases c2:x1qm r c ph ac dn=0
 rotate_left
 ·have hu:=w_Unwrap0 20 (r:=r) (c:=c) hp' ha' hb' (by omega) (by omega) (by omega) c2 m0
  have hln:sLen Try.prog x5 nilS=some (I 0):=x1w8 x1pi
  have hno:Ints nilS []:=Or.inl ⟨rfl,rfl⟩
  have hsm:=fun m=>x273 28 m
  have hb0:x1pl [I 0,I 0,nilS] []=some (.agg [I 0,I 0,nilS]):=rfl
  simp [hcp,hu,x1ua,g0,hck,c2,hp.one,ha.one,hb.one,hno.one,hb0,hsm,hln]
 obtain ⟨r0,r1,q0,q1,hlen,hph,hac,hdn,h144,hw⟩:=x1uw c2
 have hin:=x1uv hph
 have hR:=x1ys c2
 have hS:=x24j c2 c1
 obtain ⟨fl,tu,ex,hSo,hu⟩:=w_Unwrap 20 (r:=r) (c:=c) hp' ha' hb' (by omega) (by omega) (by omega) c2 c1 m0
 obtain ⟨T,hT⟩:∃ T,T=x1qv ph.length (x1q3 ph.length (x1qr r c ph ac dn)) tu:=⟨_,rfl⟩
 obtain ⟨l,hle⟩:∃ l,l=x1qr r c ph ac dn:=⟨_,rfl⟩
 obtain ⟨n,hn⟩:∃ n,n=ph.length:=⟨_,rfl⟩
 obtain ⟨un,hun⟩:∃ un,un=unwM ph.length ph T:=⟨_,rfl⟩
 have hul:un.length=ph.length:=by rw [hun];exact x1uc _ _ _
 have hTb:=hSo.turns (by omega)
 obtain ⟨hB,hC⟩:=hSo.best
 rw [← hT] at hTb hC hu
 have hft:=x270 (r:=r) (c:=c) (T:=T) hin (fun k=>by have:=hTb k;omega)
 have hct:=cost_told (T:=T) c2
 rw [← hun] at hft hu
 have hus:Ints (.slit (un.flatMap intE) ph.length false) un:=by have:=Sl.lit un false (enc:=intE);rwa [hul] at this
 obtain ⟨us,hus'⟩:∃ us,us=AV.slit (un.flatMap intE) ph.length false:=⟨_,rfl⟩
 rw [← hus'] at hu hus
 have hFl:Ints (.slit (fl.flatMap intE) l.length false) fl:=by
  have:=Sl.lit fl false (enc:=intE);rw [hSo.f.fll] at this;rw [hle];exact this
 obtain ⟨m1,hm1⟩:∃ m1:Mem,m1=(m0.new (0,15,3) (.row [I 0,I 0,nilS] 0 false)).set (0,15,3) (.row [I r,I c,us] 0 false):=⟨_,rfl⟩
 have g1:m1.get (0,0,1)=some (.row [I r,I c,p,a,b] 0 false):=by rw [hm1,hm0];simp
 have g3:m1.get (0,15,3)=some (.row [I r,I c,us] 0 false):=by rw [hm1];simp
 obtain ⟨ev,hev,hN⟩:=x24c 26 (r:=r) (c:=c) hp ha hb c2 m1
 obtain ⟨m2,hm2⟩:∃ m2:Mem,m2=(m1.new (0,27,8) (.row [I 0,nilS] 0 false)).set (0,27,8) (.row [I n,ev] 0 false):=⟨_,rfl⟩
 have k1:m2.get (0,0,1)=some (.row [I r,I c,p,a,b] 0 false):=by rw [hm2,Mem.get_set,if_neg (by simp),Mem.get_new,if_neg (by simp)];exact g1
 have k3:m2.get (0,15,3)=some (.row [I r,I c,us] 0 false):=by rw [hm2,Mem.get_set,if_neg (by simp),Mem.get_new,if_neg (by simp)];exact g3
 have k8:m2.get (0,27,8)=some (.row [I n,ev] 0 false):=by rw [hm2];simp
 have hcf:=x271 24 (r:=r) (c:=c) (r':=r) (c':=c) hp ha hb hus c2 (by rw [hft]) m2
 rw [hft] at hcf
 have hcf:x1pb (x1pa 30) x4d [.agg [I r,I c,p,a,b],.agg [I r,I c,us]] m2=some (.tup [I (x1r2 (x1tc ph T) 0 (x1qr r c ph ac dn)),I 0],m2):=hcf
 rw [hct] at hcf
 have hfo:x1sh ph.length (x1qr r c ph ac dn) fl=(valF ((x1qr r c ph ac dn).zip fl),0):=x26z hS.ed hSo.f.fll hB
 rw [← hle] at hR hS hSo hC hB hfo hcf hev hu
 rw [← hn] at hR hS hSo hB hfo hN
 have hzl:(l.zip fl).map Prod.fst=l:=by rw [List.map_fst_zip];rw [hSo.f.fll];exact Nat.le_refl _
 have hcost:x1r2 T 0 l=valF (l.zip fl):=by
  have:=(tight hB (at0 T)).mpr hC
  rw [hzl] at this
  rw [x1xe,this];omega
 have hrF:=x265 28 (n:=(n:Int)) hev hR hFl m2
 rw [hfo] at hrF
 obtain ⟨p2,a2,b2,hp2,ha2,hb2,hcp2⟩:=x246 27 (r:=r) (c:=c) hp ha hb (by omega) (by omega) (by omega) m2
 obtain ⟨f',hf',hcf2⟩:=x1yb 29 hFl (by rw [hSo.f.fll];have:=hS.ll;omega) m2
 have hpF:=x272 20 (r:=r) (c:=c) hp2 ha2 hb2 hf' (by omega) (by omega) (by omega) c2 m2
 rw [← hle,← hn,hfo] at hpF
 obtain ⟨fr,hBF,hLe⟩:=w_Least 26 hev hS m2
 have hlq:=least_eq hSo hBF
 have hnn:=hS.nn
 have hll:=hS.ll
 have hPa:=w_rParts 28 hev (by omega) (by omega) hS.ed m2
 have hpl:(x1q3 n l).length=n:=(x1wf (by omega) (x1wg hS.ed)).l
 have hT':T=x1qv n (x1q3 n l) tu:=by rw [hT,hle,hn]
 rw [← hT'] at hlq
 have hz:∀ i,i < n→fst0 (x1q3 n l) i=i→at0 un i=at0 ph i:=fun i hi hf=>by
  have e:i < (x1qv n (x1q3 n l) tu).length:=by rw [x1ub];exact hi
  have eT:at0 T i=0:=by
   rw [hT',x1pu e,x216 hi,hf]
   omega
  rw [x1pu (by omega)]
  have:=x219 (n:=ph.length) (ph:=ph) (tu:=T) (k:=i) (by omega)
  simp only [hun]
  rw [this,eT]
  split<;>omega
 obtain ⟨V,hV⟩:∃ V,V=valF (l.zip fl):=⟨_,rfl⟩
 have hle':valF (l.zip fr)=V:=by omega
 rw [hle'] at hLe
 have hcV:x1r2 T 0 l=V:=by omega
 rw [hcV] at hu hcf
 rw [← hV] at hrF hpF
 obtain ⟨m',hm'⟩:=l_BestL 29 (r:=r) (c:=c) (r':=r) (c':=c) hp ha hb hus hn.symm (by omega) hpl (by omega) hz n 0 NN m2 94 (by omega) (by rw [x1pp];omega) k1 k3
 simp [hcp,hu,x1ua,hus.one,hus.clean]
 rw [← hm1]
 simp [g0,g1,g3,hck,c2,hp.one,ha.one,hb.one,hN,z_net,hev.one,hev.clean1]
 rw [← hm2]
 simp [g0,g1,g3,k1,k3,k8,hp.one,ha.one,hb.one,hus.one,hev.one,hcf,hrF,hcp2,hcf2,hpF,hLe,hPa]
 unfold xbq
 exact ⟨m',hm'⟩
end Go.Ix
