import Derived.Test.YtljibmnhhdiakaaWgC
import Derived.Test.YtljibmnhhdiakaaWgF
set_option linter.unusedSimpArgs false
set_option linter.unusedVariables false
namespace Go.Ix
open Go.Proofs
def unwM(n:Nat)(ph tu:List Int):List Int:=(List.range n).map fun i=>if at0 ph i=void then at0 ph i else at0 ph i+at0 tu i*4096
theorem x1w1(n:Nat)(ph tu:List Int):(unwM n ph tu).length=n:=by simp[unwM]
theorem x26l{n:Nat}{ph tu:List Int}{k:Nat}(h:k<n):(unwM n ph tu)[k]'(by rw[x1w1];exact h)=if at0 ph k=void then at0 ph k else at0 ph k+at0 tu k*4096:=by simp[unwM]
theorem a_Clone(d:Nat){p:AV}{ph:List Int}(hp:Ints p ph)(h0:ph≠[])(hl:ph.length<=100000)(u:Nat):∃m',x1qp (d+1) [] x5k [p] ⟨[],u⟩=some (srI (u,5,7) ph.length,m')/\m'.get (u,5,7)=some (.row (ph.flatMap intE) 0 false)/\m'.next=u+1:=by
 have he:=hp.elems x1rk
 refine⟨(⟨[],u+1⟩:Mem).new (u,5,7) (.row (ph.flatMap intE) 0 false),?_,by simp,rfl⟩
 rw[xzq]
 show xcb (x1qp d) [] u p ⟨[],u+1⟩ 0=_
 unfold xcb
 have hnil:sBin Try.prog .eql x5 (.tmp 3) (.const (.slice none 0 0)) p nilS=some (B false):=by
  rcases hp with ⟨-,h⟩|⟨x,rfl⟩
  .exact absurd h h0
  .unfold sBin
   have e1:x1rj (.slit (ph.flatMap intE) ph.length x)=none:=_root_.id rfl
   have e2:x1rj nilS=some (.slice none 0 0):=_root_.id rfl
   simp only[e1,e2,x1r8]
 have hq:¬ph.length=0:=fun h=>h0 (List.length_eq_zero_iff.mp h)
 have hr:x1r4 (0+ph.length) 8:=by unfold x1r4;omega
 simp only[hnil,x1qt,x1sz,x1t8,x24v,he]
 simp only[sApp]
 rw[if_pos (by simp),if_neg hq,if_pos hr]
 simp
theorem l_unwrap(d:Nat)(hs:FHs){us N n:Nat}{ev x0 x1 t2 t7:AV}{l:List Edge}{fl T ex ph:List Int}(hN:us<N)(hn:n<=200)(hpl:ph.length=n)(hph:PhIn ph)(hT:∀k,-1000000<=at0 T k/\at0 T k<=1000000) :
 ∀(s k j:Nat) (m:Mem) (fc:Nat),k+s=n->s<j->SolMem us n ev l fl T ex m->m.get (0,29,9)=some (.row [x0,x1,srI (N,5,7) n] 0 false)->m.get (N,5,7)=some (.row (((unwM n ph T).take k++ph.drop k).flatMap intE) 0 false)->0<us ->
 ∃m' fc',x2g (x1qp (d+1)) hs 0 j t2 t7 (.ptr (us,21,25) 0 0) (.ptr (0,29,9) 0 0) (srI (us,11,15) n) (I n) (I k) m fc=x1k (x1qp (d+1)) hs 0 t2 t7 (.ptr (us,21,25) 0 0) (.ptr (0,29,9) 0 0) m' fc' /\
  m'.get (N,5,7)=some (.row ((unwM n ph T).flatMap intE) 0 false)/\m'.next=m.next/\∀id:Id,id≠(N,5,7)->m'.get id=m.get id:=by
 intro s
 induction s with
 |zero=>
  intro k j m fc hk hj hS h9 hm hu0
  obtain⟨j,rfl⟩:∃i,j=i+1:=⟨j-1,by omega⟩
  have hkn:k=n:=by omega
  subst hkn
  rw[List.take_of_length_le (by rw[x1w1];omega),List.drop_eq_nil_of_le (by omega),List.append_nil]at hm
  refine⟨m,fc+1,?_,hm,rfl,fun _ _=>rfl⟩
  simp only[x2g]
  unfold x8m
  simp
 |succ s ih=>
  intro k j m fc hk hj hS h9 hm hu0
  obtain⟨j,rfl⟩:∃i,j=i+1:=⟨j-1,by omega⟩
  have hkn:k<n:=by omega
  have hk':(k:Int)<(n:Int):=by omega
  have lT:k<T.length:=by rw[hS.tul];exact hkn
  have iT:sIx 1 (srI (us,11,15) n) (I k)=some (.ptr (us,11,15) 0 k):=by simpa using x1re (id:=(us,11,15)) (n:=n) (k:=(k:Int)) (by omega) hk'
  have iP:sIx 1 (srI (N,5,7) n) (I k)=some (.ptr (N,5,7) 0 k):=by simpa using x1re (id:=(N,5,7)) (n:=n) (k:=(k:Int)) (by omega) hk'
  obtain⟨cur,hcur⟩:∃cur,cur=(unwM n ph T).take k++ph.drop k:=⟨_,rfl⟩
  rw[<-hcur]at hm
  have hcl:k<cur.length:=by rw[hcur];simp[x1w1];omega
  have hck:at0 cur k=at0 ph k:=by rw[hcur];exact x208 (by omega) (by rw[x1w1];omega)
  have b1:=hT k
  have b2:=hph k
  have h2:=x1z7 (a:=unwM n ph T) (b:=ph) (k:=k) (by omega) (by rw[x1w1];exact hkn)
  rw[x26l hkn,<-hcur]at h2
  by_cases c:at0 ph k=void
  .rw[if_pos c]at h2
   have hnext:cur=(unwM n ph T).take (k+1)++ph.drop (k+1):=by
    rw[<-h2,<-hck,x1ri hcl,List.set_getElem_self]
   obtain⟨m',fc',h3,h4,h5,h6⟩:=ih (k+1) j m (fc+1+12+2) (by omega) (by omega) hS h9 (by rw[<-hnext];exact hm) hu0
   refine⟨m',fc',?_,h4,h5,h6⟩
   rw[<-h3]
   simp only[x2g]
   unfold x8m x8l x6w
   simp(disch:=omega)only[x1s6,x1qt,hk',decide_true,x1ru,iT,x1qy,hS.t,x1r0,Nat.beq_refl,x1qw,x1s3 lT,x1rh,Nat.zero_add,h9,List.drop_zero,List.drop_succ_cons,rd_f,iP,hm,x1s3 hcl,hck,x1uf,c,sNot_B,Bool.not_true,x1sz,x1sl,x1rs]
   rfl
  .rw[if_neg c]at h2
   have b3:-2048<=at0 ph k/\at0 ph k<=2047:=by rcases b2 with h|h;exact absurd h c;exact h
   obtain⟨M,hM⟩:∃M,M=m.set (N,5,7) (.row ((cur.set k (at0 ph k+at0 T k*4096)).flatMap intE) 0 false):=⟨_,rfl⟩
   have q:∀id:Id,id≠(N,5,7)->M.get id=m.get id:=fun id hid=>by rw[hM,Mem.get_set,if_neg hid]
   obtain⟨m',fc',h3,h4,h5,h6⟩:=ih (k+1) j M (fc+1+22+2) (by omega) (by omega) (hS.frame fun id hid=>q id (by rintro rfl;simp only at hid;omega)) (by rw[q _ (by simp)];exact h9) (by rw[hM,<-h2];simp) hu0
   refine⟨m',fc',?_,h4,by rw[h5,hM];rfl,fun id hid=>by rw[h6 id hid,q id hid]⟩
   rw[<-h3]
   simp only[x2g]
   unfold x8m x8l x6w
   simp(disch:=omega)only[x1s6,x1qt,hk',decide_true,x1ru,iT,x1qy,hS.t,x1r0,Nat.beq_refl,x1qw,x1s3 lT,x1rh,Nat.zero_add,h9,List.drop_zero,List.drop_succ_cons,rd_f,iP,hm,x1s3 hcl,hck,x1uf,c,decide_false,sNot_B,Bool.not_false,x200,x1sl,x1rs,x1rl]
   rw[x1ss hcl]
   simp(disch:=omega)only[x1sl,x1rs,x1qt]
   rw[<-hM]
   rfl
theorem few_sides(r c:Nat)(hr:1<=r)(hc:1<=c)(h:r*c<=12):2*(r*c)<=17+r+c:=by
 have hr2:r<=12:=Nat.le_trans (Nat.le_mul_of_pos_right r hc) h
 have hc2:c<=12:=Nat.le_trans (Nat.le_mul_of_pos_left c hr) h
 have key:∀r:Fin 13,∀c:Fin 13,r.val*c.val<=12->2*(r.val*c.val)<=17+r.val+c.val:=by decide
 exact key ⟨r,by omega⟩ ⟨c,by omega⟩ h
theorem x237{r c:Int}{ph ac dn:List Int}(h:x1rq r c ph ac dn=0)(hs:x1tt r c ph ac dn=true):Slim 1 ph.length (x1rn r c ph ac dn):=by
 obtain⟨r0,r1,c0,c1,hlen,hph,hac,hdn,h144,hw⟩:=x1v7 h
 have hin:=x1w0 hph
 have hR:=x1zh h
 have h1:=x1x1 ph (ac++dn) (x1tj r c) 0
 have h2:=x20m r0 c0
 have e1:r*(c-1)=r*c-r:=by rw[Int.mul_sub];omega
 have e2:(r-1)*c=r*c-c:=by rw[Int.sub_mul];omega
 have hsm:ph.length<=12/\(ac++dn).any (fun x=>decide (20<x))=false:=by
  unfold x1tt at hs
  by_cases d1:164<(ph.length:Int)
  .simp[d1]at hs
  by_cases d2:300<(ac.length:Int)
  .simp[d1,d2]at hs
  by_cases d3:300<(dn.length:Int)
  .simp[d1,d2,d3]at hs
  by_cases d5:12<(ph.length:Int)
  .simp[d1,d2,d3,h,d5]at hs
  .refine⟨by omega,?_⟩
   cases e:(ac++dn).any (fun x=>decide (20<x))
   .rfl
   .simp only[d1,d2,d3,h,d5,e]at hs
    simp at hs
 obtain⟨hs1,hs2⟩:=hsm
 have hk:=few_sides r.toNat c.toNat (by omega) (by omega) (by
  have:((r.toNat*c.toNat:Nat):Int)=r*c:=by rw[Int.natCast_mul,Int.toNat_of_nonneg (by omega),Int.toNat_of_nonneg (by omega)]
  omega)
 have hk':((r.toNat*c.toNat:Nat):Int)=r*c:=by rw[Int.natCast_mul,Int.toNat_of_nonneg (by omega),Int.toNat_of_nonneg (by omega)]
 refine⟨by omega,by omega,hs1,by unfold x1rn;omega,fun e he=>?_,fun e he=>?_⟩
 .have:=inEdge hR e he
  rwa[Int.toNat_natCast]at this
 .obtain⟨i,p,h3,h4,rfl⟩:=x1zg he
  obtain⟨hi,hie⟩:=List.getElem?_eq_some_iff.mp h3
  have hsd:=x20l r0 c0 (hie▸List.getElem_mem hi)
  simp only[x1s8,Bool.or_eq_false_iff,decide_eq_false_iff_not]at h4
  have b1:=hin p.1.toNat
  have b2:=hin p.2.toNat
  have hj:=x231 (a:=at0 ph p.1.toNat) (b:=at0 ph p.2.toNat) (by omega) (by omega) (by omega) (by omega)
  refine⟨by simp only[mkE];omega,by simp only[mkE];omega,?_⟩
  simp only[mkE]
  by_cases hwi:0+i<(ac++dn).length
  .rw[x1ri hwi]
   have:=List.any_eq_false.mp hs2 _ (List.getElem_mem hwi)
   simpa using this
  .unfold at0
   rw[List.getD_eq_getElem?_getD,List.getElem?_eq_none (by omega)]
   decide
theorem w_Unwrap(d:Nat){r c:Int}{p a b:AV}{ph ac dn:List Int}(hp:Ints p ph)(ha:Ints a ac)(hb:Ints b dn)(hl:ph.length<=300000)(h1:ac.length<=300000)(h2:dn.length<=300000)(hc:x1rq r c ph ac dn=0)(hsm:x1tt r c ph ac dn=true)(m:Mem) :
 ∃fl tu ex,Solved 1 ph.length (x1rn r c ph ac dn) fl tu ex/\x1qq (x1qp (d+10)) x3r [.agg [I r,I c,p,a,b]] m =
  some (.tup [.agg [I r,I c,.slit ((unwM ph.length ph (x1ra ph.length (x1r9 ph.length (x1rn r c ph ac dn)) tu)).flatMap intE) ph.length false],.slit (fl.flatMap intE) (x1rn r c ph ac dn).length false,I (x1tg (x1ra ph.length (x1r9 ph.length (x1rn r c ph ac dn)) tu) 0 (x1rn r c ph ac dn)),I 0],m):=by
 obtain⟨r0,r1,c0,c1,hlen,hph,hac,hdn,h144,hw⟩:=x1v7 hc
 have hS:=x237 hc hsm
 obtain⟨l,hle⟩:∃l,l=x1rn r c ph ac dn:=⟨_,rfl⟩
 obtain⟨n,hn⟩:∃n,n=ph.length:=⟨_,rfl⟩
 rw[<-hle,<-hn]at hS ⊢
 have hnn:=hS.nn
 have hll:=hS.ll
 have hne:ph≠[]:=by
  rintro rfl
  simp at hlen
  have:0<r*c:=Int.mul_pos (by omega) (by omega)
  omega
 obtain⟨m1,hm1⟩:∃m1,m1=((⟨[],1⟩:Mem).new (0,0,1) (.row [I r,I c,p,a,b] 0 false)).new (0,1,2) (.row [I 0,I 0,nilS] 0 false):=⟨_,rfl⟩
 obtain⟨ev,hev,hnet⟩:=x232 (d+5) hp ha hb hc m1
 rw[<-hle]at hev
 rw[<-hn]at hnet
 obtain⟨m3,hm3⟩:∃m3,m3=(m1.new (0,13,7) (.row [I 0,nilS] 0 false)).set (0,13,7) (.row [I n,ev] 0 false):=⟨_,rfl⟩
 have hn3:m3.next=1:=by rw[hm3,hm1];rfl
 have g31:m3.get (0,0,1)=some (.row [I r,I c,p,a,b] 0 false):=by rw[hm3,hm1];simp[Mem.get_set,Mem.get_new]
 have g32:m3.get (0,1,2)=some (.row [I 0,I 0,nilS] 0 false):=by rw[hm3,hm1];simp[Mem.get_set,Mem.get_new]
 have g37:m3.get (0,13,7)=some (.row [I n,ev] 0 false):=by rw[hm3];simp
 obtain⟨mS,fl,tu,ex,a1,a2,a3,a4⟩:=w_solve (d+3) hev hS 1
 obtain⟨m4,b1,b2,b3⟩:=x1vw (call:=x1qp (d+9)) (f:=x1w) (l:=[.agg [I n,ev]]) (m:=m3) (m':=mS) (r:=.ptr (1+1,21,25) 0 0) (by simp[clean,hev.clean1]) (by rw[hn3];exact a1)
 refine⟨fl,tu,ex,a3,?_⟩
 obtain⟨T,hT⟩:∃T,T=x1ra n (x1r9 n l) tu:=⟨_,rfl⟩
 rw[<-hT]at a2 ⊢
 have low4:∀s t:Nat,m4.get (0,s,t)=m3.get (0,s,t):=fun s t=>by rw[b3,if_neg (by simp[hn3])]
 have hM4:SolMem (1+1) n ev l fl T ex m4:=a2.frame fun id hid=>by rw[b3,if_pos (by omega)]
 obtain⟨mC,e1,e2,e3⟩:=a_Clone (d+8) hp hne (by omega) m4.next
 rw[<-hn]at e1
 obtain⟨m5,f1,f2,f3⟩:=x1vw (call:=x1qp (d+9)) (f:=x5k) (l:=[p]) (m:=m4) (m':=mC) (r:=srI (m4.next,5,7) n) (by simp[hp.clean]) e1
 obtain⟨N,hN⟩:∃N,N=m4.next:=⟨_,rfl⟩
 rw[<-hN]at f1 f3 e2 e3
 have hN2:1+1<N:=by rw[hN,b2];exact a4
 obtain⟨m6,hm6⟩:∃m6,m6=(m5.new (0,29,9) (.row [I 0,I 0,nilS] 0 false)).set (0,29,9) (.row [I r,I c,srI (N,5,7) n] 0 false):=⟨_,rfl⟩
 have q6:∀id:Id,id≠(0,29,9)->m6.get id=m5.get id:=fun id h=>by rw[hm6,Mem.get_set,if_neg h,Mem.get_new,if_neg h]
 have low5:∀id:Id,id.1<N->m5.get id=m4.get id:=fun id h=>by rw[f3,if_neg (by omega)]
 have hM6:SolMem (1+1) n ev l fl T ex m6:=hM4.frame fun id hid=>by rw[q6 id (by rintro rfl;simp at hid),low5 id (by omega)]
 have g69:m6.get (0,29,9)=some (.row [I r,I c,srI (N,5,7) n] 0 false):=by rw[hm6];simp
 have g6P:m6.get (N,5,7)=some (.row (ph.flatMap intE) 0 false):=by rw[q6 _ (by simp),f3,if_pos (Nat.le_refl _)];exact e2
 have hTb:=a3.turns (by omega)
 rw[<-hT]at hTb
 obtain⟨m7,fc7,k1,k2,k3,k4⟩:=l_unwrap (d+8) [] (us:=1+1) (N:=N) (n:=n) (ev:=ev) (x0:=I r) (x1:=I c) (t2:=.ptr (0,1,2) 0 0) (t7:=.ptr (0,13,7) 0 0) (l:=l) (fl:=fl) (T:=T) (ex:=ex) hN2 (by omega) hn.symm (x1w0 hph) (fun k=>by have:=hTb k;omega) n 0 NN m6 37 (by omega) (by rw[x1r6];omega) hM6 g69 (by rw[List.take_zero,List.drop_zero,List.nil_append];exact g6P) (by omega)
 have hM7:SolMem (1+1) n ev l fl T ex m7:=hM6.frame fun id hid=>k4 id (by rintro rfl;simp only at hid;omega)
 have g79:m7.get (0,29,9)=some (.row [I r,I c,srI (N,5,7) n] 0 false):=by rw[k4 _ (by simp)];exact g69
 have g77:m7.get (0,13,7)=some (.row [I n,ev] 0 false):=by rw[k4 _ (by simp),q6 _ (by simp),low5 _ (by show 0<N;omega),low4];exact g37
 have g72:m7.get (0,1,2)=some (.row [I 0,I 0,nilS] 0 false):=by rw[k4 _ (by simp),q6 _ (by simp),low5 _ (by show 0<N;omega),low4];exact g32
 have hTl:T.length=n:=by rw[hT];exact x1v6 _ _ _
 have hTI:TurnsIn T:=fun x hx=>by
  obtain⟨k,hk,rfl⟩:=List.mem_iff_getElem.mp hx
  have:=hTb k
  rw[x1ri hk]at this
  omega
 have y1:=x20g hM7.t 4
 rw[hTl]at y1
 obtain⟨mc,hcost⟩:=a_cost (d+7) (n:=n) hev (by omega) (a:=.slit (T.flatMap intE) n false) (t:=T) (by have:=Sl.lit T false (enc:=intE);rwa[hTl]at this) (fun e he=>by rw[hTl];exact(hS.ed e he).1) hTI
 have h3:x1ua (x1qp (d+9)) x1x [.agg [I n,ev],srI (1+1,11,15) n] m7=some (I (x1tg T 0 l),m7):=by
  refine call3_any ?_ hcost rfl
  have z1:Go.Ix.frz m7.get deep (.agg [I n,ev])=some (.agg [I n,ev]):=x1y2 _ 4 (by simp[still,hev.still1])
  simp only[List.mapM_cons,List.mapM_nil,z1]
  rw[show Go.Ix.frz m7.get deep (srI (1+1,11,15) n)=some (.slit (T.flatMap intE) n false)from y1]
  rfl
 obtain⟨m8,hm8⟩:∃m8,m8=m7.set (0,1,2) (.row [I r,I c,srI (N,5,7) n] 0 false):=⟨_,rfl⟩
 have q8:∀id:Id,id≠(0,1,2)->m8.get id=m7.get id:=fun id h=>by rw[hm8,Mem.get_set,if_neg h]
 have hM8:SolMem (1+1) n ev l fl T ex m8:=hM7.frame fun id hid=>q8 id (by rintro rfl;simp at hid)
 have g8P:m8.get (N,5,7)=some (.row ((unwM n ph T).flatMap intE) 0 false):=by rw[q8 _ (by simp)];exact k2
 have z2:=x20g g8P 2
 rw[x1w1]at z2
 have z3:=x20g hM8.f 3
 rw[hM8.fll]at z3
 refine x1t6 (m':=m8) (r:=.tup [.agg [I r,I c,srI (N,5,7) n],srI (1+1,7,11) l.length,I (x1tg T 0 l),I 0]) (by simp[hp.still1,ha.still1,hb.still1]) ?_ ?_
 .rw[xz3]
  show xb1 (x1qp (d+9)) [] 0 (.agg [I r,I c,p,a,b]) ⟨[],1⟩ 0=_
  unfold xb1
  simp[hp.one,ha.one,hb.one,x20i d hp ha hb hl h1 h2,x1ut,hc,x1y5]
  rw[<-hm1]
  have hbn:x1qx [I 0,nilS] [(0,2,.agg [I (n:Int),ev])]=some (.agg [I (n:Int),ev]):=by simp[x1qx,x1rx,hev.cells]
  have hbm:x1qx [I 0,I 0,nilS] [(0,1,I r),(1,1,I c),(2,1,srI (N,5,7) n)]=some (.agg [I r,I c,srI (N,5,7) n]):=by simp[x1qx,x1rx]
  have g41:m4.get (0,0,1)=some (.row [I r,I c,p,a,b] 0 false):=by rw[low4];exact g31
  simp[hnet,hbn,hev.one,hp.clean]
  rw[<-hm3,b1]
  simp[g41,hp.clean,f1,hbm]
  have k1':cAp (some m4.next) (some [],some [(0,29,9)]) 2=true:=by
   have:(0:Nat).blt m4.next=true:=by simp[Nat.blt];omega
   simp[cAp,this]
  rw[k1']
  simp[x1qs,disj,tR]
  rw[<-hm6]
  unfold xb0
  have hlen:sLen Try.prog x5 (srI (2,11,15) n)=some (I n):=rfl
  simp only[sNil,x1qt,x1rh,Nat.zero_add,x1qy,hM6.s,x1r0,Nat.beq_refl,x1qw,List.drop_zero,List.drop_succ_cons,rd_f,hlen]
  rw[show((0:Nat):Int)=0 from rfl]at k1
  show x2g (x1qp (d+9)) [] 0 NN (.ptr (0,1,2) 0 0) (.ptr (0,13,7) 0 0) (.ptr (1+1,21,25) 0 0) (.ptr (0,29,9) 0 0) (srI (1+1,11,15) n) (I n) (I 0) m6 37=_
  rw[k1]
  unfold x1k
  have hst:x1s2 3 0 0 (.agg [I r,I c,srI (N,5,7) n]) (some (.row [I 0,I 0,nilS] 0 false))=some (.row [I r,I c,srI (N,5,7) n] 0 false):=by
   rw[x1u3,decide_eq_true ⟨rfl,rfl,Nat.le_refl _,rfl⟩];rfl
  simp only[sNil,x1qt,x1rh,Nat.zero_add,x1qy,hM7.s,g79,g77,x1r0,Nat.beq_refl,x1qw,List.drop_zero,List.drop_succ_cons,rd_f,rd_3,rd_2,h3,x1rl,g72,hst]
  rw[<-hm8]
  have g82:m8.get (0,1,2)=some (.row [I r,I c,srI (N,5,7) n] 0 false):=by rw[hm8];simp
  rw[show mkM 3 [.agg [I (n:Int),ev],srI (1+1,11,15) n]=1 from rfl,cAp_R1,cAp_R1]
  simp[x1qs,disj,tR,tS,sLdP,g82]
 .show([.agg [I r,I c,srI (N,5,7) n],srI (1+1,7,11) l.length,I (x1tg T 0 l),I 0].mapM (Go.Ix.frz m8.get 5)).map AV.tup=_
  have z4:Go.Ix.frz m8.get 5 (.agg [I r,I c,srI (N,5,7) n])=some (.agg [I r,I c,.slit ((unwM n ph T).flatMap intE) n false]):=by
   show([I r,I c,srI (N,5,7) n].mapM (Go.Ix.frz m8.get 4)).map AV.agg=_
   simp only[List.mapM_cons,List.mapM_nil]
   rw[z2]
   rfl
  simp only[List.mapM_cons,List.mapM_nil]
  rw[z4,z3]
  rfl
end Go.Ix
