import Derived.Test.YtljibmnhhdiakaaWUnd
import Derived.Test.YtljibmnhhdiakaaWLawBest
set_option linter.unusedSimpArgs false
set_option linter.unusedVariables false
namespace Go.Ix
open Go.Proofs
theorem told_at{r c:Int}{ph ac dn T:List Int}(h:x1rq r c ph ac dn=0){e:Edge}(he:e∈x1rn r c ph ac dn):exI (x1v9 ph T) e=exF (at0 T) e:=by
 obtain⟨r0,r1,c0,c1,hlen,-⟩:=x1v7 h
 obtain⟨i,p,h3,h4,rfl⟩:=x1zg he
 obtain⟨hi,hie⟩:=List.getElem?_eq_some_iff.mp h3
 obtain⟨s0,s1,s2,s3,-⟩:=x20l r0 c0 (hie▸List.getElem_mem hi)
 simp only[x1s8,Bool.or_eq_false_iff,decide_eq_false_iff_not]at h4
 unfold exI exF
 simp only[mkE]
 rw[x23c (by omega),x23c (by omega),if_neg h4.1,if_neg h4.2]
theorem same_ex{J:Int}{n:Nat}{l:List Edge}{fl tu ex fr t:List Int}(hS:Slim J n l)(hB:BestF n l fr)(h:Solved J n l fl tu ex)(hu:x1rv (fun e=>!(relB n l fr e.fr.toNat e.to.toNat)) l=[])(hc:x1tb (at0 t) l=x1tb (at0 (x1ra n (x1r9 n l) tu)) l) :
 ∀e∈l,exF (at0 t) e=exF (at0 (x1ra n (x1r9 n l) tu)) e:=by
 intro e he
 obtain⟨⟨f0,f1,t0,t1,-⟩,-⟩:=hS.ed e he
 have hrel:relB n l fr e.fr.toNat e.to.toNat=true:=by
  cases hr:relB n l fr e.fr.toNat e.to.toNat
  .exfalso
   have:(e.fr,e.to)∈x1rv (fun e=>!(relB n l fr e.fr.toNat e.to.toNat)) l:=by
    unfold x1rv
    exact List.mem_map.mpr ⟨e,List.mem_filter.mpr ⟨he,by rw[hr];rfl⟩,rfl⟩
   rw[hu]at this
   simp at this
  .rfl
 have F:=x23a hS h
 have hf:=(x26s hS hB h (a:=e.fr.toNat) (b:=e.to.toNat) (by omega) (by omega)).mp hrel
 have e1:(l.zip fl).map Prod.fst=l:=by rw[List.map_fst_zip];rw[h.f.fll];exact Nat.le_refl _
 have hCt:CS (at0 t) (l.zip fl):=by
  rw[<-tight h.best.1 (at0 t),e1,hc]
  have:=(tight h.best.1 _).mpr F.cs
  rwa[e1]at this
 have w1:=((F.ds e.fr.toNat (by omega)).way e.to.toNat (by omega) _ hf.1).le hCt
 have w2:=((F.ds e.to.toNat (by omega)).way e.fr.toNat (by omega) _ hf.2).le hCt
 unfold exF
 omega
theorem law_UnwrapUndecided{r c r1 c1:Int}{p a b u:AV}{ph ac dn us:List Int}(hp:Ints p ph)(ha:Ints a ac)(hb:Ints b dn)(hu:Ints u us):∃m',x1qp 31 [] x7j [.agg [I r,I c,p,a,b],.agg [I r1,I c1,u]] mem0=some (B true,m'):=by
 rw[xyu]
 unfold xdw xf9
 simp[mem0,hp.one,ha.one,hb.one,hu.one,w_awake,w_small 25 hp ha hb]
 cases k1:x1tt r c ph ac dn
 .simp
 simp[hu.len x1r8]
 by_cases k2:20<(us.length:Int)
 .simp[k2]
 simp[k2]
 obtain⟨l1,l2,l3⟩:=small_len k1
 obtain⟨m0,hm0⟩:∃m0:Mem,m0=((⟨[],1⟩:Mem).new (0,0,2) (.row [I r,I c,p,a,b] 0 false)).new (0,1,3) (.row [I r1,I c1,u] 0 false):=⟨_,rfl⟩
 have g2:m0.get (0,0,2)=some (.row [I r,I c,p,a,b] 0 false):=by rw[hm0];simp
 have g3:m0.get (0,1,3)=some (.row [I r1,I c1,u] 0 false):=by rw[hm0];simp
 have hn0:m0.next=1:=by rw[hm0];rfl
 rw[<-hm0]
 obtain⟨p',a',b',hp',ha',hb',hcp⟩:=x26c 27 (r:=r) (c:=c) hp ha hb (by omega) (by omega) (by omega) m0
 have hck:=fun m=>x26b 26 (r:=r) (c:=c) hp ha hb (by omega) (by omega) (by omega) m
 by_cases k3:x1rq r c ph ac dn=0
 rotate_left
 .have hund:=x295 20 (r:=r) (c:=c) hp' ha' hb' (by omega) (by omega) (by omega) k3 m0
  have hln:sLen Try.prog x2z nilS=some (I 0):=x1y3 x1w3
  simp[hcp,hund,g2,hck,k3,hp.one,ha.one,hb.one,hln]
 obtain⟨r0,r1',q0,q1,hlen,hph,hac,hdn,h144,hw⟩:=x1v7 k3
 have hin:=x1w0 hph
 have hR:=x1zh k3
 have hS:=x237 k3 k1
 obtain⟨fl0,tu0,ex0,x,hSo0,hx,hund⟩:=x296 20 (r:=r) (c:=c) hp' ha' hb' (by omega) (by omega) (by omega) k3 k1 m0
 obtain⟨ev,hev,hN⟩:=w_rNetOf 26 (r:=r) (c:=c) hp ha hb k3 m0
 obtain⟨fr,y,hBF,hy,hrund⟩:=x297 26 hev hS m0
 rw[und_same hS hBF hSo0]at hx
 obtain⟨L,hL⟩:∃L,L=x1rv (fun e=>!(relB ph.length (x1rn r c ph ac dn) fr e.fr.toNat e.to.toNat)) (x1rn r c ph ac dn):=⟨_,rfl⟩
 rw[<-hL]at hx hy
 have hLl:L.length<=1000:=by
  rw[hL]
  unfold x1rv
  have:=List.length_filter_le (fun e=>!(relB ph.length (x1rn r c ph ac dn) fr e.fr.toNat e.to.toNat)) (x1rn r c ph ac dn)
  have:=hR.len
  rw[List.length_map]
  omega
 have hsame:=w_same 29 hx hy (by omega) m0
 obtain⟨fl,tu,ex,hSo,hun'⟩:=w_Unwrap 20 (r:=r) (c:=c) hp' ha' hb' (by omega) (by omega) (by omega) k3 k1 m0
 obtain⟨T,hT⟩:∃T,T=x1ra ph.length (x1r9 ph.length (x1rn r c ph ac dn)) tu:=⟨_,rfl⟩
 obtain⟨un,hun⟩:∃un,un=unwM ph.length ph T:=⟨_,rfl⟩
 have hul:un.length=ph.length:=by rw[hun];exact x1w1 _ _ _
 have hTb:=hSo.turns (by omega)
 rw[<-hT]at hTb hun'
 have hft:=x298 (r:=r) (c:=c) (T:=T) hin (fun k=>by have:=hTb k;omega)
 rw[<-hun]at hft hun'
 have hus:Ints (.slit (un.flatMap intE) ph.length false) un:=by have:=Sl.lit un false (enc:=intE);rwa[hul]at this
 obtain⟨uu,huu⟩:∃uu,uu=AV.slit (un.flatMap intE) ph.length false:=⟨_,rfl⟩
 rw[<-huu]at hun' hus
 obtain⟨V,hV⟩:∃V,V=x1tg T 0 (x1rn r c ph ac dn):=⟨_,rfl⟩
 rw[<-hV]at hun'
 obtain⟨m1,hm1⟩:∃m1:Mem,m1=(m0.new (0,45,8) (.row [I 0,I 0,nilS] 0 false)).set (0,45,8) (.row [I r,I c,uu] 0 false):=⟨_,rfl⟩
 have s2:m1.get (0,0,2)=some (.row [I r,I c,p,a,b] 0 false):=by rw[hm1,Mem.get_set,if_neg (by simp),Mem.get_new,if_neg (by simp)];exact g2
 have s3:m1.get (0,1,3)=some (.row [I r1,I c1,u] 0 false):=by rw[hm1,Mem.get_set,if_neg (by simp),Mem.get_new,if_neg (by simp)];exact g3
 have s8:m1.get (0,45,8)=some (.row [I r,I c,uu] 0 false):=by rw[hm1];simp
 have hn1:m1.next=1:=by rw[hm1];exact hn0
 obtain⟨p2,a2,b2,hp2,ha2,hb2,hcp2⟩:=x26c 27 (r:=r) (c:=c) hp ha hb (by omega) (by omega) (by omega) m1
 obtain⟨u2,hu2,hcu2⟩:=x26a 28 (r:=r1) (c:=c1) hu (by omega) m1
 have hcf:=x293 19 (r:=r) (c:=c) (r':=r1) (c':=c1) hp2 ha2 hb2 hu2 (by omega) (by omega) (by omega) m1
 obtain⟨z1,hz1,hcut1⟩:=w_Cuts 19 (r:=r) (c:=c) (r':=r1) (c':=c1) hp2 ha2 hb2 hu2 (by omega) (by omega) (by omega) m1
 obtain⟨z2,hz2,hcut2⟩:=w_Cuts 19 (r:=r) (c:=c) (r':=r) (c':=c) hp2 ha2 hb2 hus (by omega) (by omega) (by omega) m1
 have hE2:x1t3 r c ph ac dn r c un=0:=by unfold x1t3;rw[decide_eq_true k3,cond_true,hft]
 rw[hE2]at hz2 hcut2
 have hxl:=hx.len x1w3
 simp[hcp,hund,g2,hck,k3,hp.one,ha.one,hb.one,hN,hrund,hsame,hun',x1ut,hus.one,hus.clean]
 rw[<-hm1]
 simp[g2,s2,s3,s8,hp.one,ha.one,hb.one,hu.one,hus.one,hcp2,hcu2,hcf,hxl,hn1,x1y4,hp.clean1,ha.clean1,hb.clean1,cAp,tR,Nat.blt]
 have hb1:Nat.ble 1 m0.next=true:=by rw[hn0];rfl
 have hb2:Nat.ble 1 m1.next=true:=by rw[hn1];rfl
 by_cases e1:0<L.length
 .simp[e1,hb1,hb2]
 by_cases e2:x1t3 r c ph ac dn r1 c1 us=0
 rotate_left
 .simp[e1,e2,hb1,hb2]
 simp only[e2,decide_true,cond_true]at hz1 hcut1 hcf ⊢
 by_cases e3:x1tg (x1s9 r c ph r1 c1 us).1 0 (x1rn r c ph ac dn)=V
 rotate_left
 .simp[e1,e3,hb1,hb2]
 have hL0:x1rv (fun e=>!(relB ph.length (x1rn r c ph ac dn) fr e.fr.toNat e.to.toNat)) (x1rn r c ph ac dn)=[]:=by
  rw[<-hL]
  exact List.length_eq_zero_iff.mp (by omega)
 have hsx:=same_ex (t:=(x1s9 r c ph r1 c1 us).1) hS hBF hSo hL0 (by
  rw[<-hT]
  rw[hV,x22v,x22v]at e3
  omega)
 rw[<-hT]at hsx
 have hcuts:x1rv (fun e=>!decide (exI (x1s9 r c ph r1 c1 us).1 e=0)) (x1rn r c ph ac dn)=x1rv (fun e=>!decide (exI (x1s9 r c ph r c un).1 e=0)) (x1rn r c ph ac dn):=by
  refine x26t fun e he=>?_
  have h1:exI (x1s9 r c ph r1 c1 us).1 e=exF (at0 (x1s9 r c ph r1 c1 us).1) e:=rfl
  rw[h1,hsx e he,hft,told_at k3 he]
 rw[hcuts]at hz1
 simp only[decide_true,cond_true]at hz2
 have hsm2:=w_same 29 hz1 hz2 (by
  unfold x1rv
  have:=List.length_filter_le (fun e=>!decide (exI (x1s9 r c ph r c un).1 e=0)) (x1rn r c ph ac dn)
  have:=hR.len
  rw[List.length_map]
  omega) m1
 simp[e1,e2,e3,hb1,hb2,s2,s3,s8,hp.one,ha.one,hb.one,hu.one,hus.one,hcp2,hcu2,hcut1,hcut2,hn1,x1y4,hp.clean1,ha.clean1,hb.clean1,cAp,tR,Nat.blt,hsm2]
end Go.Ix
