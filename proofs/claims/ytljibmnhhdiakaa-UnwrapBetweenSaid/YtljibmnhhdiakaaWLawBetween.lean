import Derived.Test.YtljibmnhhdiakaaWgG
import Derived.Test.YtljibmnhhdiakaaWEq
import Derived.Test.YtljibmnhhdiakaaWAlong
set_option linter.unusedSimpArgs false
set_option linter.unusedVariables false
namespace Go.Ix
open Go.Proofs
theorem partR (w0 w1:Int):∀ o∈[0,1],x1m2 Try.prog (part x1n3 #[.int .i64 w0,.int .i64 w1] o)=some (.int .i64 ([w0,w1].getD o 0)):=by
 intro o ho
 simp only [List.mem_cons,List.not_mem_nil,or_false] at ho
 rcases ho with rfl | rfl<;>kernel_rfl
theorem x1rf (x y:Operand) (a b c d:Int):sBin Try.prog .eql x2x x y (.agg [I a,I b]) (.agg [I c,I d])=some (B (decide (a=c)&&decide (b=d))):=by
 refine x21p (xs:=[.int .i64 a,.int .i64 b]) (ys:=[.int .i64 c,.int .i64 d]) (by kernel_rfl) ?_ _ _ rfl rfl
 refine (eq_ints (offs:=[0,1]) (ga:=fun o=>[a,b].getD o 0) (gb:=fun o=>[c,d].getD o 0) (by kernel_rfl) (by kernel_rfl) (by kernel_rfl) fun o ho=>⟨partR _ _ o ho,partR _ _ o ho⟩).trans ?_
 simp [List.getD]
 by_cases h0:a=c<;>by_cases h1:b=d<;>simp [h0,h1]
def mP (n:Nat) (l:List Edge) (fl T:List Int) (a b:Nat):Int:=at0 (x1mt n (waysF n l fl T a).len T a) b
theorem mP_eq {n:Nat} {l:List Edge} {fl T:List Int} (hTb:∀ k,-1000000≤at0 T k∧at0 T k≤1000000) {a b:Nat} (hb:b < n) (hL:LenB ((200:Nat)*GB) (waysF n l fl T a).len) :
 (∃ x,dOf n l fl T a b=some x∧mP n l fl T a b=x∧-402200000≤x∧x≤402200000)∨(dOf n l fl T a b=none∧¬ mP n l fl T a b < farM):=by
 have hG:((200:Nat):Int)*GB=400200000:=by rfl
 rw [hG] at hL
 have h1:=hL b
 have h2:=hTb a
 have h3:=hTb b
 have hfar:farM=1152921504606846976:=rfl
 have e:mP n l fl T a b=if at0 (waysF n l fl T a).len b < farM then at0 (waysF n l fl T a).len b+(at0 T b - at0 T a) else at0 (waysF n l fl T a).len b:=by
  unfold mP
  rw [x1mo (by rw [x1oy];exact hb),x1ti hb]
 rw [e]
 unfold dOf x1rc
 by_cases c:at0 (waysF n l fl T a).len b < farM
 ·left
  rw [if_pos c,if_pos ⟨hb,c⟩]
  exact ⟨_,rfl,by omega,by omega,by omega⟩
 ·right
  rw [if_neg c,if_neg fun x=>c x.2]
  exact ⟨rfl,c⟩
structure Facts (n:Nat) (l:List Edge) (fl T:List Int):Prop where
 tb:∀ k,-1000000≤at0 T k∧at0 T k≤1000000
 cs:CS (at0 T) (l.zip fl)
 ds:∀ a,a < n→Dist n (l.zip fl) a (dOf n l fl T a)
 lb:∀ a,a < n→LenB ((200:Nat)*GB) (waysF n l fl T a).len
theorem x1ui {J:Int} {n:Nat} {l:List Edge} {fl tu ex:List Int} (hS:Slim J n l) (h:Solved J n l fl tu ex):Facts n l fl (x1m3 n (x1lw n l) tu):=by
 have hj0:=hS.j0
 have hj1:=hS.j1
 have hT:=fun k=>h.turns hj0 k
 have tb:∀ k,-1000000≤at0 (x1m3 n (x1lw n l) tu) k∧at0 (x1m3 n (x1lw n l) tu) k≤1000000:=fun k=>by have:=hT k;omega
 exact ⟨tb,h.best.2,fun a ha=>x1ug h.flow (fun k=>h.f.flb k) tb ha,fun a ha=>lenB_of h.flow (fun k=>h.f.flb k) tb ha⟩
theorem x1zq {n:Nat} {l:List Edge} {fl T:List Int} (F:Facts n l fl T) {a b:Nat} (ha:a < n) (hb:b < n):fixP (mP n l fl T) a b=true↔Fixd (dOf n l fl T) (at0 T) a b:=by
 rw [x1zn F.cs F.ds ha hb]
 have hfar:farM=1152921504606846976:=rfl
 unfold fixP
 simp only [Bool.and_eq_true,decide_eq_true_eq]
 rcases mP_eq F.tb hb (F.lb a ha) with ⟨x,h1,h2,h3,h4⟩ | ⟨h1,h2⟩
 ·rcases mP_eq F.tb ha (F.lb b hb) with ⟨y,k1,k2,k3,k4⟩ | ⟨k1,k2⟩
  ·rw [h2,k2]
   constructor
   ·rintro ⟨-,-,e⟩;exact ⟨x,y,h1,k1,e⟩
   ·rintro ⟨x',y',e1,e2,e3⟩
    rw [h1] at e1;rw [k1] at e2
    cases e1;cases e2
    exact ⟨by omega,by omega,e3⟩
  ·constructor
   ·rintro ⟨-,e,-⟩;exact absurd e k2
   ·rintro ⟨x',y',e1,e2,e3⟩;rw [k1] at e2;cases e2
 ·constructor
  ·rintro ⟨e,-⟩;exact absurd e h2
  ·rintro ⟨x',y',e1,e2,e3⟩;rw [h1] at e1;cases e1
theorem dR_eq {J:Int} {n:Nat} {l:List Edge} {fl tu ex fr:List Int} (hS:Slim J n l) (hB:BestF n l fr) (h:Solved J n l fl tu ex) {a b:Nat} (ha:a < n) (hb:b < n):dR n l fr a b=(dOf n l fl (x1m3 n (x1lw n l) tu) a b).getD farR:=(most_same hS hB h ha).2 b hb
theorem relB_iff {J:Int} {n:Nat} {l:List Edge} {fl tu ex fr:List Int} (hS:Slim J n l) (hB:BestF n l fr) (h:Solved J n l fl tu ex) {a b:Nat} (ha:a < n) (hb:b < n):relB n l fr a b=true↔Fixd (dOf n l fl (x1m3 n (x1lw n l) tu)) (at0 (x1m3 n (x1lw n l) tu)) a b:=by
 have F:=x1ui hS h
 rw [x1zn F.cs F.ds ha hb]
 have hff:farR=1000000000:=rfl
 unfold relB
 rw [dR_eq hS hB h ha hb,dR_eq hS hB h hb ha]
 simp only [Bool.and_eq_true,decide_eq_true_eq,Bool.not_eq_true',Bool.or_eq_false_iff,decide_eq_false_iff_not]
 rcases mP_eq F.tb hb (F.lb a ha) with ⟨x,h1,h2,h3,h4⟩ | ⟨h1,h2⟩
 ·rcases mP_eq F.tb ha (F.lb b hb) with ⟨y,k1,k2,k3,k4⟩ | ⟨k1,k2⟩
  ·rw [h1,k1,Option.getD_some,Option.getD_some]
   constructor
   ·rintro ⟨-,e⟩;exact ⟨x,y,rfl,rfl,by omega⟩
   ·rintro ⟨x',y',e1,e2,e3⟩
    cases e1;cases e2
    exact ⟨⟨by omega,by omega⟩,by omega⟩
  ·rw [k1,Option.getD_none]
   constructor
   ·rintro ⟨⟨-,e⟩,-⟩;exact absurd hff e
   ·rintro ⟨x',y',e1,e2,e3⟩;cases e2
 ·rw [h1,Option.getD_none]
  constructor
  ·rintro ⟨⟨e,-⟩,-⟩;exact absurd hff e
  ·rintro ⟨x',y',e1,e2,e3⟩;cases e1
theorem nbP_mem {n:Nat} {M:Nat→Nat→Int} {a b:Nat}:(b:Int)∈nbP n M a↔b < n∧fixP M a b=true:=by
 unfold nbP
 rw [List.mem_map]
 constructor
 ·rintro ⟨k,hk,e⟩
  have:k=b:=by simp only [Int.ofNat_eq_natCast] at e;omega
  subst this
  obtain ⟨h1,h2⟩:=List.mem_filter.mp hk
  exact ⟨List.mem_range.mp h1,h2⟩
 ·rintro ⟨h1,h2⟩
  exact ⟨b,List.mem_filter.mpr ⟨List.mem_range.mpr h1,h2⟩,rfl⟩
theorem cls_num {J:Int} {n:Nat} {l:List Edge} {fl tu ex:List Int} (hS:Slim J n l) (h:Solved J n l fl tu ex):Sym n (nbP n (mP n l fl (x1m3 n (x1lw n l) tu))) ∧
 ∀ a b,a < n→b < n→(at0 (numM n (nbP n (mP n l fl (x1m3 n (x1lw n l) tu)))).1 a=at0 (numM n (nbP n (mP n l fl (x1m3 n (x1lw n l) tu)))).1 b↔Fixd (dOf n l fl (x1m3 n (x1lw n l) tu)) (at0 (x1m3 n (x1lw n l) tu)) a b):=by
 have F:=x1ui hS h
 refine num_fix (by have:=hS.nn;omega) F.cs F.ds (fun a b ha=>?_) (fun a _ b hb=>nbP_in hb)
 rw [nbP_mem]
 constructor
 ·rintro ⟨h1,h2⟩;exact ⟨h1,(x1zq F ha h1).mp h2⟩
 ·rintro ⟨h1,h2⟩;exact ⟨h1,(x1zq F ha h1).mpr h2⟩
theorem x1zr {J:Int} {n:Nat} {l:List Edge} {fl tu ex fr:List Int} (hS:Slim J n l) (hB:BestF n l fr) (h:Solved J n l fl tu ex) :
 (∀ v,v < n→x1nh (relB n l fr) (x1nh (relB n l fr) v)=x1nh (relB n l fr) v)∧(nmM (x1oe (relB n l fr) n)).1=(numM n (nbP n (mP n l fl (x1m3 n (x1lw n l) tu)))).1:=by
 have hn:n≤200:=by have:=hS.nn;omega
 obtain ⟨hSy,hK⟩:=cls_num hS h
 obtain ⟨P,hP⟩:∃ P,P=at0 (numM n (nbP n (mP n l fl (x1m3 n (x1lw n l) tu)))).1:=⟨_,rfl⟩
 have hfm:∀ v,v < n→x1nh (relB n l fr) v=muN P v:=fun v hv=>first_mu hv fun a b ha hb=>by
  rw [relB_iff hS hB h ha hb,hP]
  exact (hK a b ha hb).symm
 refine ⟨fun v hv=>?_,?_⟩
 ·have:=muN_le P v
  rw [hfm v hv,hfm _ (by omega),x1z6]
 ·obtain ⟨b1,b2,b3⟩:=nb_can (mu:=muN P) (muN_le P) (x1z6 P) (x1uh (relB n l fr) n) (fun v hv=>by rw [x1wq hv,hfm v hv])
  refine num_eq b1 (x1sj hn hSy).l b2 (num_can hn hSy) fun i j hi hj=>?_
  rw [b3 i j hi hj,muN_iff,hP]
theorem x1wr {J:Int} {n:Nat} {l:List Edge} {fr:List Int} (hS:Slim J n l) (hB:BestF n l fr):(∀ a,a < n→(x1ml (x1m6 l fr) n (x1mm n a)).length=n)∧∀ a b,a < n→b < n→-1000000≤dR n l fr a b∧dR n l fr a b≤1000000000:=by
 have hA:=x1wm hS hB.len
 have hnn:=hS.nn
 have hsl:(x1m6 l fr).length≤40:=by
  have:=x1si l fr l.length
  have:=hS.ll
  unfold x1m6
  omega
 have hns:n*(x1m6 l fr).length≤12*40:=Nat.mul_le_mul hnn hsl
 have key:∀ a,a < n→OInv n (l.zip fr) a (n*(x1m6 l fr).length) (x1ml (x1m6 l fr) n (x1mm n a)):=fun a ha=>(x1re hA (x1uf ha (l.zip fr)).1 n (by omega)).1
 refine ⟨fun a ha=>(key a ha).len,fun a b ha hb=>?_⟩
 have hff:farR=1000000000:=rfl
 unfold dR
 rcases (key a ha).ok b hb with e | ⟨e1,e2,-⟩<;>omega
theorem way_part {n:Nat} {l:List Edge} {fl:List Int} (hn:n≤200) (hed:∀ e∈l,EdgeIn n e∧e.fr≠e.to) (hF:Feas n (l.zip fl)) {a b:Nat} {c:Int} (h:Way (l.zip fl) a b c):at0 (x1lw n l) a=at0 (x1lw n l) b:=by
 induction h with
 | nil=>rfl
 | cons _ ha ih=>
   rw [ih]
   obtain ⟨x,hx,h⟩:=ha
   have hc:=hF.cap x hx
   have hx1:x.1∈l:=(List.of_mem_zip hx).1
   have hp:=x1ze hn hed hx1 (by rcases h with ⟨h1,-⟩ | ⟨h1,-⟩<;>omega)
   rcases h with ⟨h1,rfl,rfl,-⟩ | ⟨h1,rfl,rfl,-⟩
   ·exact hp
   ·exact hp.symm
theorem d_none {J:Int} {n:Nat} {l:List Edge} {fl tu ex:List Int} (hS:Slim J n l) (h:Solved J n l fl tu ex) {a b:Nat} (ha:a < n) (hb:b < n) (hp:at0 (x1lw n l) a≠at0 (x1lw n l) b):dOf n l fl (x1m3 n (x1lw n l) tu) a b=none:=by
 have F:=x1ui hS h
 cases e:dOf n l fl (x1m3 n (x1lw n l) tu) a b with
 | none=>rfl
 | some x=>exact absurd (way_part (by have:=hS.nn;omega) hS.ed h.best.1 ((F.ds a ha).way b hb x e)) hp
theorem x1uj {J:Int} {n:Nat} {l:List Edge} {fl tu ex fr:List Int} (hS:Slim J n l) (hB:BestF n l fr) (h:Solved J n l fl tu ex) {a b:Nat} (ha:a < n) (hb:b < n) (hp:at0 (x1lw n l) a=at0 (x1lw n l) b) :
 mP n l fl (x1m3 n (x1lw n l) tu) a b=dR n l fr a b∧dR n l fr a b≠1000000000∧-402200000≤dR n l fr a b∧dR n l fr a b≤402200000:=by
 have F:=x1ui hS h
 obtain ⟨rk,W⟩:=x1u9 h.flow.red ha (by have:=hS.nn;omega)
 have hfin:=same_fin h.flow h.best.1 ha W (F.lb a ha) F.tb hb hp
 rw [dR_eq hS hB h ha hb]
 rcases mP_eq F.tb hb (F.lb a ha) with ⟨x,h1,h2,h3,h4⟩ | ⟨h1,h2⟩
 ·rw [h1,Option.getD_some,h2]
  exact ⟨rfl,by omega,h3,h4⟩
 ·unfold dOf x1rc at h1
  rw [if_pos ⟨hb,hfin⟩] at h1
  cases h1
theorem x21v (d:Nat) {n:Int} {ev:AV} {l:List Edge} (hev:Sl Edge.c ev l) (hc:(x1mp n l).2≠0) (m:Mem):x1lq (x1lp (d+9)) x2u [.agg [I n,ev]] m=some (.tup [nilS,I (x1mp n l).2],m):=by
 refine Ans.call0_tup ?_ (by simp [hev.still1]) rfl
 unfold Ans
 rw [xjs]
 unfold x5h xaj
 simp [mem0,hev.one,x1r5 _ hev,x1qr,hc]
theorem x21w (d:Nat) {n:Nat} {J:Int} {ev:AV} {l:List Edge} (hev:Sl Edge.c ev l) (hc:(x1mp n l).2=0) (hS:Slim J n l) (m:Mem) :
 ∃ fl tu ex,Solved J n l fl tu ex∧(numM n (nbP n (mP n l fl (x1m3 n (x1lw n l) tu)))).1.length=n ∧
   x1lq (x1lp (d+9)) x2u [.agg [I n,ev]] m=some (.tup [.slit ((numM n (nbP n (mP n l fl (x1m3 n (x1lw n l) tu)))).1.flatMap intE) n false,I 0],m):=by
 obtain ⟨m2,hm2⟩:∃ m2:Mem,m2=(((⟨[],1⟩:Mem).new (0,0,1) (.row [I n,ev] 0 false)).new (0,8,4) (.row [I 0,nilS] 0 false)).set (0,8,4) (.row [I n,ev] 0 false):=⟨_,rfl⟩
 have g4:m2.get (0,8,4)=some (.row [I n,ev] 0 false):=by rw [hm2];simp
 obtain ⟨fl,tu,ex,h1,h2,h3,h4⟩:=w_classes d hev hS m2
 refine ⟨fl,tu,ex,h1,h4,?_⟩
 have h3:x1lq (x1lp (d+8)) x2w [.agg [I n,ev]] m2=some (.slit ((numM n (nbP n (mP n l fl (x1m3 n (x1lw n l) tu)))).1.flatMap intE) n false,m2):=h3
 refine Ans.call0_tup ⟨m2,?_⟩ (by simp [hev.still1]) rfl
 rw [xjs]
 unfold x5h xaj
 simp [mem0,hev.one,x1r5 _ hev,x1qr,hc]
 rw [← hm2]
 simp [g4,h3]
theorem law_UnwrapBetween {n x y:Int} {ev:AV} {l:List Edge} (h:Sl Edge.c ev l):∃ m',x1lp 31 [] x5e [.agg [I n,ev],I x,I y] mem0=some (B true,m'):=by
 rw [xvv]
 unfold x7d xf3
 have hb0:x1m4 [I 0,I 0] []=some (.agg [I 0,I 0]):=rfl
 simp [mem0,h.one,w_awake,w_Few 26 h]
 cases c1:few n l
 ·simp
 obtain ⟨M,hM⟩:∃ M:Mem,M=(⟨[],1⟩:Mem).new (0,0,3) (.row [I n,ev] 0 false):=⟨_,rfl⟩
 have gM:M.get (0,0,3)=some (.row [I n,ev] 0 false):=by rw [hM];simp
 have hMn:M.next=1:=by rw [hM];rfl
 rw [← hM]
 have hll:l.length≤1000000:=by
  unfold few at c1
  by_cases e:(x1mp n l).2=0
  ·have:=(x1t7 e).len;omega
  ·simp [e] at c1
   omega
 obtain ⟨ev',hev,hcp⟩:=x1u7 29 (n:=n) h hll M
 by_cases c2:(x1mp n l).2=0
 rotate_left
 ·obtain ⟨M2,hM2⟩:∃ M2:Mem,M2=(M.new (0,15,7) (.row [I 0,I 0] 0 false)).set (0,15,7) (.row [I 0,I 0] 0 false):=⟨_,rfl⟩
  have k3:M2.get (0,0,3)=some (.row [I n,ev] 0 false):=by rw [hM2,Mem.get_set,if_neg (by simp),Mem.get_new,if_neg (by simp)];exact gM
  have k7:M2.get (0,15,7)=some (.row [I 0,I 0] 0 false):=by rw [hM2];simp
  have hnb:=x21k 22 (a:=x) (b:=y) hev c2 M
  obtain ⟨ev2,hev2,hcp2⟩:=x1u7 29 (n:=n) h hll M2
  have hnc:=x21v 21 hev2 c2 M2
  have hE:=w_Err 27 h (n:=n) M2
  have hln:sLen Try.prog x4 nilS=some (I 0):=x1u1 x1nv
  simp [hcp,hnb,x1nx,gM]
  rw [← hM2]
  simp [gM,k3,h.one,hcp2,hnc,hE,c2,k7,hb0,x1rf,hln]
 obtain ⟨hS,hnn⟩:=slim_of c1 c2
 obtain ⟨k,rfl⟩:∃ k:Nat,n=k:=⟨n.toNat,hnn⟩
 rw [Int.toNat_natCast] at hS
 have hkn:=hS.nn
 have hq:∀ fr,BestF k l fr→(∀ a,a < k→(x1ml (x1m6 l fr) k (x1mm k a)).length=k)∧(∀ a b,a < k→b < k→-1000000≤dR k l fr a b∧dR k l fr a b≤1000000000)∧∀ v,v < k→x1nh (relB k l fr) (x1nh (relB k l fr) v)=x1nh (relB k l fr) v:=fun fr hB=>by
  obtain ⟨fl0,tu0,ex0,hS0,-⟩:=x1zf 22 hev c2 hS M
  obtain ⟨d1,d2⟩:=x1wr hS hB
  exact ⟨d1,d2,(x1zr hS hB hS0).1⟩
 have hcls:∀ m:Mem,∃ a b q,Ints a q∧Ints b q∧q.length=k∧(∃ ev2,x1lq (x1lp 30) xc [.agg [I (k:Int),ev]] m=some (.agg [I (k:Int),ev2],m)∧x1lq (x1lp 30) x2u [.agg [I (k:Int),ev2]] m=some (.tup [a,I 0],m))∧x1lq (x1lp 30) x3p [.agg [I (k:Int),ev]] m=some (b,m):=fun m=>by
  obtain ⟨ev2,hev2,hcp2⟩:=x1u7 29 (n:=(k:Int)) h hll m
  obtain ⟨fl,tu,ex,hSo,hlen,hnc⟩:=x21w 21 hev2 c2 hS m
  obtain ⟨fr,hB,hlen2,hrc⟩:=x21u 26 h hS hq m
  have he:=(x1zr hS hB hSo).2
  rw [he] at hrc
  have A:=Sl.lit (numM k (nbP k (mP k l fl (x1m3 k (x1lw k l) tu)))).1 false (enc:=intE)
  rw [hlen] at A
  exact ⟨_,_,_,A,A,hlen,⟨ev2,hcp2,hnc⟩,hrc⟩
 have hE:=fun m=>w_Err 27 h (n:=(k:Int)) m
 have hks:w64 ((k:Int) - 1)=(k:Int) - 1:=x1mv (by omega) (by omega)
 by_cases hxy:(0≤x∧x≤(k:Int) - 1)∧(0≤y∧y≤(k:Int) - 1)
 rotate_left
 ·obtain ⟨M2,hM2⟩:∃ M2:Mem,M2=(M.new (0,15,7) (.row [I 0,I 0] 0 false)).set (0,15,7) (.row [I 0,I 0] 0 false):=⟨_,rfl⟩
  have k3:M2.get (0,0,3)=some (.row [I (k:Int),ev] 0 false):=by rw [hM2,Mem.get_set,if_neg (by simp),Mem.get_new,if_neg (by simp)];exact gM
  have k7:M2.get (0,15,7)=some (.row [I 0,I 0] 0 false):=by rw [hM2];simp
  have hnb:=x21l 22 hev c2 hxy M
  obtain ⟨a,b,q,ha,hb,hql,⟨ev2,hcp2,hnc⟩,hrc⟩:=hcls M2
  have hI:=w_Ints 29 ha hb (by omega) M2
  simp [hcp,hnb,x1nx,gM]
  rw [← hM2]
  cases w1:wi x 0 ((k:Int) - 1)
  ·simp [gM,k3,h.one,hcp2,hnc,hE,c2,k7,hb0,x1rf,hrc,hI,hks,x1pm,w1]
  ·cases w2:wi y 0 ((k:Int) - 1)
   ·simp [gM,k3,h.one,hcp2,hnc,hE,c2,k7,hb0,x1rf,hrc,hI,hks,x1pm,w1,w2]
   ·exact absurd ⟨wi_t w1,wi_t w2⟩ hxy
 obtain ⟨⟨x0,x1⟩,y0,y1⟩:=hxy
 obtain ⟨a0,rfl⟩:∃ a0:Nat,x=a0:=⟨x.toNat,by omega⟩
 obtain ⟨b0,rfl⟩:∃ b0:Nat,y=b0:=⟨y.toNat,by omega⟩
 have ha0:a0 < k:=by omega
 have hb0':b0 < k:=by omega
 have w1:wi (a0:Int) 0 ((k:Int) - 1)=true:=wi_iff.mpr ⟨x0,x1⟩
 have w2:wi (b0:Int) 0 ((k:Int) - 1)=true:=wi_iff.mpr ⟨y0,y1⟩
 rcases x1zh 22 hev c2 hS ha0 hb0' M with ⟨hp,hnb⟩ | ⟨hp,fl,tu,ex,hSo,-,-,hnb⟩
 ·obtain ⟨M2,hM2⟩:∃ M2:Mem,M2=(M.new (0,15,7) (.row [I 0,I 0] 0 false)).set (0,15,7) (.row [I 0,I 0] 0 false):=⟨_,rfl⟩
  have k3:M2.get (0,0,3)=some (.row [I (k:Int),ev] 0 false):=by rw [hM2,Mem.get_set,if_neg (by simp),Mem.get_new,if_neg (by simp)];exact gM
  have k7:M2.get (0,15,7)=some (.row [I 0,I 0] 0 false):=by rw [hM2];simp
  have kn:M2.next=1:=by rw [hM2,hM];rfl
  obtain ⟨a,b,q,ha,hb,hql,⟨ev2,hcp2,hnc⟩,hrc⟩:=hcls M2
  have hI:=w_Ints 29 ha hb (by omega) M2
  obtain ⟨fa,fr,hf,hB,hbf⟩:=x1wb 27 h hS M2
  obtain ⟨d1,d2⟩:=x1wr hS hB
  have hrb:=x1wo 27 h hS hf hB ha0 hb0' d1 d2 M2
  obtain ⟨fl0,tu0,ex0,hS0,-⟩:=x1zf 22 hev c2 hS M
  have hdn:dR k l fr a0 b0=1000000000:=by rw [dR_eq hS hB hS0 ha0 hb0',d_none hS hS0 ha0 hb0' hp];rfl
  rw [hdn] at hrb
  simp only [decide_true,Bool.true_or,cond_true] at hrb
  obtain ⟨M3,hM3⟩:∃ M3:Mem,M3=(M2.new (0,63,12) (.row [I 0,I 0] 0 false)).set (0,63,12) (.row [I 0,I 0] 0 false):=⟨_,rfl⟩
  have r7:M3.get (0,15,7)=some (.row [I 0,I 0] 0 false):=by rw [hM3,Mem.get_set,if_neg (by simp),Mem.get_new,if_neg (by simp)];exact k7
  simp [hcp,hnb,x1nx,gM]
  rw [← hM2]
  simp [gM,k3,h.one,hcp2,hnc,hE,c2,k7,hb0,x1rf,hrc,hI,hks,x1pm,w1,w2,hbf,hrb,x1nx]
  rw [← hM3]
  simp [r7,hb0,x1rf,kn,x1se,h.clean1,hf.clean,cAp,tR,Nat.blt,x1ls,disj]
 ·obtain ⟨P1,hP1⟩:∃ P1,P1=at0 (x1mt k (waysF k l fl (x1m3 k (x1lw k l) tu) a0).len (x1m3 k (x1lw k l) tu) a0) b0:=⟨_,rfl⟩
  obtain ⟨P2,hP2⟩:∃ P2,P2=at0 (x1mt k (waysF k l fl (x1m3 k (x1lw k l) tu) b0).len (x1m3 k (x1lw k l) tu) b0) a0:=⟨_,rfl⟩
  rw [← hP1,← hP2] at hnb
  obtain ⟨M2,hM2⟩:∃ M2:Mem,M2=(M.new (0,15,7) (.row [I 0,I 0] 0 false)).set (0,15,7) (.row [I (-P2),I P1] 0 false):=⟨_,rfl⟩
  have k3:M2.get (0,0,3)=some (.row [I (k:Int),ev] 0 false):=by rw [hM2,Mem.get_set,if_neg (by simp),Mem.get_new,if_neg (by simp)];exact gM
  have k7:M2.get (0,15,7)=some (.row [I (-P2),I P1] 0 false):=by rw [hM2];simp
  have kn:M2.next=1:=by rw [hM2,hM];rfl
  obtain ⟨a,b,q,ha,hb,hql,⟨ev2,hcp2,hnc⟩,hrc⟩:=hcls M2
  have hI:=w_Ints 29 ha hb (by omega) M2
  obtain ⟨fa,fr,hf,hB,hbf⟩:=x1wb 27 h hS M2
  obtain ⟨d1,d2⟩:=x1wr hS hB
  have hrb:=x1wo 27 h hS hf hB ha0 hb0' d1 d2 M2
  obtain ⟨e1,e2,e3,e4⟩:=x1uj hS hB hSo ha0 hb0' hp
  obtain ⟨f1,f2,f3,f4⟩:=x1uj hS hB hSo hb0' ha0 hp.symm
  have e1:P1=dR k l fr a0 b0:=by rw [hP1];exact e1
  have f1:P2=dR k l fr b0 a0:=by rw [hP2];exact f1
  rw [← e1] at e2 e3 e4 hrb
  rw [← f1] at f2 f3 f4 hrb
  rw [decide_eq_false e2,decide_eq_false f2] at hrb
  simp only [Bool.or_self,cond_false] at hrb
  obtain ⟨M3,hM3⟩:∃ M3:Mem,M3=(M2.new (0,63,12) (.row [I 0,I 0] 0 false)).set (0,63,12) (.row [I (-P2),I P1] 0 false):=⟨_,rfl⟩
  have r3:M3.get (0,0,3)=some (.row [I (k:Int),ev] 0 false):=by rw [hM3,Mem.get_set,if_neg (by simp),Mem.get_new,if_neg (by simp)];exact k3
  have r7:M3.get (0,15,7)=some (.row [I (-P2),I P1] 0 false):=by rw [hM3,Mem.get_set,if_neg (by simp),Mem.get_new,if_neg (by simp)];exact k7
  have r12:M3.get (0,63,12)=some (.row [I (-P2),I P1] 0 false):=by rw [hM3];simp
  obtain ⟨ev3,hev3,hcp3⟩:=x1u7 29 (n:=(k:Int)) h hll M3
  have hnb2:x1lq (x1lp 30) xu [.agg [I (k:Int),ev3],I (b0:Int),I (a0:Int)] M3=some (.tup [.agg [I (-P1),I P2],I 0],M3):=by
   rcases x1zh 22 hev3 c2 hS hb0' ha0 M3 with ⟨hp2,-⟩ | ⟨hp2,fl2,tu2,ex2,hSo2,-,-,hnb2⟩
   ·exact absurd hp.symm hp2
   ·obtain ⟨g1,-⟩:=x1uj hS hB hSo2 ha0 hb0' hp
    obtain ⟨g2,-⟩:=x1uj hS hB hSo2 hb0' ha0 hp.symm
    have g1:at0 (x1mt k (waysF k l fl2 (x1m3 k (x1lw k l) tu2) a0).len (x1m3 k (x1lw k l) tu2) a0) b0=P1:=by rw [e1];exact g1
    have g2:at0 (x1mt k (waysF k l fl2 (x1m3 k (x1lw k l) tu2) b0).len (x1m3 k (x1lw k l) tu2) b0) a0=P2:=by rw [f1];exact g2
    rw [g1,g2] at hnb2
    exact hnb2
  obtain ⟨M4,hM4⟩:∃ M4:Mem,M4=(M3.new (0,76,14) (.row [I 0,I 0] 0 false)).set (0,76,14) (.row [I (-P1),I P2] 0 false):=⟨_,rfl⟩
  have s7:M4.get (0,15,7)=some (.row [I (-P2),I P1] 0 false):=by rw [hM4,Mem.get_set,if_neg (by simp),Mem.get_new,if_neg (by simp)];exact r7
  have s12:M4.get (0,63,12)=some (.row [I (-P2),I P1] 0 false):=by rw [hM4,Mem.get_set,if_neg (by simp),Mem.get_new,if_neg (by simp)];exact r12
  have s14:M4.get (0,76,14)=some (.row [I (-P1),I P2] 0 false):=by rw [hM4];simp
  simp [hcp,hnb,x1nx,gM]
  rw [← hM2]
  simp [gM,k3,h.one,hcp2,hnc,hE,c2,k7,hb0,x1rf,hrc,hI,hks,x1pm,w1,w2,hbf,hrb,x1nx]
  rw [← hM3]
  simp [k3,r3,r7,r12,h.one,hcp3,hnb2,x1nx,kn,x1se,h.clean1,hf.clean,cAp,tR,Nat.blt,x1ls,disj]
  rw [← hM4]
  simp (disch:=omega) [r7,r12,s7,s12,s14,x1rf]
end Go.Ix
