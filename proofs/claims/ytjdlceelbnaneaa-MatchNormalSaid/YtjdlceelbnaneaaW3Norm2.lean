import Derived.Test.YtjdlceelbnaneaaWg17
set_option linter.unusedSimpArgs false
set_option linter.unusedVariables false
namespace Go.Ix
open Go.Proofs
attribute [local simp high] rd_5
variable{a:AV}{l:List Mp}{f:Aff}
theorem miss_zero(hD:0<DD l)(kk:Nat):su (x68 (fitM l) kk) l=0/\su (λx=>x68 (fitM l) kk x*x.ln) l=0/\su (λx=>x68 (fitM l) kk x*x.sm) l=0:=by
 obtain⟨⟨a0,a1,a2⟩,b0,b1,b2⟩:=xf1 hD
 cases kk with
 |zero=>exact miss_of (h:=Mp.b0) a0 a1 a2
 |succ k=>exact miss_of (h:=Mp.b1) b0 b1 b2
theorem fit_sm(hin:x5s l)(hl:l.length<=13)(hD:0<DD l):AffSm (fitM l):=by
 obtain⟨⟨d0,d1⟩,e0,e1,e2,e3,e4,e5⟩:=fit_bd hin hl hD
 exact⟨d0,d1,e0,e1,e2,e3,e4,e5⟩
def okT(id:Id):Prop:=id.1=0/\(id.2.2=104\/id.2.2=160)
theorem mkLit_5{R:Type}(x:Mp)(id:Id)(m:Mem)(k:AV->Mem->Option R):x6y [I 0,I 0,I 0,I 0,I 0] [(0,5,.agg [I x.ln,I x.sm,I x.b0,I x.b1,I x.sc])] 1 5 id m k=k (.slit [I x.ln,I x.sm,I x.b0,I x.b1,I x.sc] 1 true) m:=by
 simp[x6y,x6x,x5y,xku]
theorem l_turn(d:Nat)(hs:FHs)(Q:O2->Prop)(ha:Pts a l)(hl:l.length<=12):∀(n:Nat) (j:Nat) (v:AV) (m:Mem) (fc:Nat),n<=l.length->n<j->Gk 5 Mp.c okT m v (l.drop n).reverse->m.next=1 ->
 (∀v' m' fc',Gk 5 Mp.c okT m' v' l.reverse->m'.get (0,17,3)=m.get (0,17,3)->m'.next=1->Q (x1w (x59 d) hs 0 (.ptr (0,17,3) 0 0) v' m' fc')) ->
 Q (x15 (x59 d) hs 0 j a (.ptr (0,17,3) 0 0) v (I ((n:Int)-1)) m fc):=by
 intro n
 induction n with
 |zero=>
  intro j v m fc hn hj hG hm hQ
  obtain⟨j,rfl⟩:∃i,j=i+1:=⟨j-1,by omega⟩
  simp only[x15]
  unfold x1x
  simp
  exact hQ v m _ (by simpa using hG) rfl hm
 |succ n ih=>
  intro j v m fc hn hj hG hm hQ
  obtain⟨j,rfl⟩:∃i,j=i+1:=⟨j-1,by omega⟩
  have hk:n<l.length:=by omega
  have ix:=ha.ix Mp.len hk
  have ld:=x98 (m:=m) Mp.len (by omega) hk
  have e1:(((n+1:Nat):Int)-1)=(n:Int):=by omega
  rw[e1]
  obtain⟨v',m3,A,hG3,u1,u2,n3,f3⟩:=Gk.app (ok:=okT) Mp.len (by omega) (bytes:=40) (id0:=(0,fc+8,104)) ⟨rfl,.inl rfl⟩ (by unfold x5h;simp;omega) hG l[n]
  have hlast:(l.drop (n+1)).reverse++[l[n]]=(l.drop n).reverse:=by rw[x8o hk,xjt]
  rw[hlast]at hG3
  have step:=ih j v' m3 (fc+13) (by omega) (by omega) hG3 (by rw[n3];exact hm) λv2 m2 fc2 q1 q2 q3=>hQ v2 m2 fc2 q1 (by rw[q2,f3 _ (by unfold okT;simp)]) q3
  generalize l[n]=x at *
  have hn0:(0:Int)<=(n:Int):=by omega
  have hel:∀M:Mem,elems M.get 5 (.slit [I x.ln,I x.sm,I x.b0,I x.b1,I x.sc] 1 true)=some ([I x.ln,I x.sm,I x.b0,I x.b1,I x.sc],1):=λ_=>rfl
  simp only[Mp.c]at A
  simp only[x15]
  unfold x1x
  simp only[sGe_I,hn0,xit,x5t,x78,ix,ld,Mp.c,z_pt,mkLit_5,hel,A,sSub_I]
  rw[x66 (by omega) (by omega)]
  exact step
def xN(n:Nat):Mp:=⟨n,63-n,0,0,0⟩
theorem xN_in{n:Nat}(h:n<=63):PtIn (xN n):=⟨by simp[xN],by simp[xN];omega,by simp[xN];omega,by simp[xN];omega,by unfold bd;simp[xN],by unfold bd;simp[xN]⟩
def More(f:Aff)(x:Mp):Prop:=ptOK x=true/\x6g f x=0/\x6h f x=0
theorem more_of{f:Aff}{n:Nat}(hn:n<=63)(hd:0<f.den)(h1:-x6g f (xN n) % f.den=0)(h2:-x6h f (xN n) % f.den=0)(w1:wi (-x6g f (xN n) / f.den) (-8) 8=true)(w2:wi (-x6h f (xN n) / f.den) (-8) 8=true) :
 More f ⟨n,63-n,-x6g f (xN n) / f.den,-x6h f (xN n) / f.den,0⟩:=by
 refine⟨?_,?_,?_⟩
 .have a1:wi (n:Int) 0 63=true:=xi6 (by omega)
  have a2:wi (63-(n:Int)) 0 63=true:=xi6 (by omega)
  have a3:wi (0:Int) 0 1000=true:=by decide
  simp[ptOK,a1,a2,a3,w1,w2]
 .have e:x6g f (xN n)=-f.l0-f.l1*n-f.l2*(63-n):=by simp only[x6g,xN,Int.mul_zero];omega
  show f.den*(-x6g f (xN n) / f.den)-f.l0-f.l1*n-f.l2*(63-n)=0
  have h3:f.den*(-x6g f (xN n) / f.den)=-x6g f (xN n):=Int.mul_ediv_cancel' (Int.dvd_of_emod_eq_zero h1)
  rw[h3,e];omega
 .have e:x6h f (xN n)=-f.s0-f.s1*n-f.s2*(63-n):=by simp only[x6h,xN,Int.mul_zero];omega
  show f.den*(-x6h f (xN n) / f.den)-f.s0-f.s1*n-f.s2*(63-n)=0
  have h3:f.den*(-x6h f (xN n) / f.den)=-x6h f (xN n):=Int.mul_ediv_cancel' (Int.dvd_of_emod_eq_zero h2)
  rw[h3,e];omega
theorem l_place(d:Nat)(hs:FHs)(Q:O2->Prop)(hA:AffSm f){T:List Mp}(hT:T.length<=12):∀(g n j:Nat) (v:AV) (m:Mem) (fc:Nat),n+g=64->g<j->Gk 5 Mp.c okT m v T->m.next=1->m.get (0,17,3)=some (.row [I f.den,I f.l0,I f.l1,I f.l2,I f.s0,I f.s1,I f.s2] 0 false) ->
 (∀v' m' fc' T',Gk 5 Mp.c okT m' v' T'->(T'=T\/∃x,More f x/\T'=T++[x])->m'.get (0,17,3)=some (.row [I f.den,I f.l0,I f.l1,I f.l2,I f.s0,I f.s1,I f.s2] 0 false)->Q (x1f (x59 (d+1)) hs 0 (.ptr (0,17,3) 0 0) v' m' fc')) ->
 Q (xp (x59 (d+1)) hs 0 j (.ptr (0,17,3) 0 0) v (I n) m fc):=by
 intro g
 induction g with
 |zero=>
  intro n j v m fc hn hj hG hm h3 hQ
  obtain⟨j,rfl⟩:∃i,j=i+1:=⟨j-1,by omega⟩
  have hk:¬((n:Int)<64):=by omega
  simp only[xp]
  unfold x1v
  simp only[x77,hk,decide_false,x5t,xcn]
  exact hQ v m _ T hG (.inl rfl) h3
 |succ g ih=>
  intro n j v m fc hn hj hG hm h3 hQ
  obtain⟨j,rfl⟩:∃i,j=i+1:=⟨j-1,by omega⟩
  have hk:((n:Int)<64):=by omega
  have hxin:=xN_in (n:=n) (by omega)
  have mF:=w_missF d hA hxin
  have mT:=w_missT d hA hxin
  have bL:=xd3 hA hxin
  have bS:=xd4 hA hxin
  have hd0:=hA.d0
  have hd1:=hA.d1
  have hmore:=more_of (f:=f) (n:=n) (by omega) hd0
  simp only[Aff.c,Mp.c]at mF mT
  simp only[show(xN n).ln=(n:Int)from rfl,show(xN n).sm=63-(n:Int)from rfl,show(xN n).b0=0 from rfl,show(xN n).b1=0 from rfl,show(xN n).sc=0 from rfl]at mF mT
  generalize x6g f (xN n)=aL at *
  generalize x6h f (xN n)=aS at *
  have o1:=w_Mod d (x:=-aL) hd0 hd1
  have o2:=w_Mod d (x:=-aS) hd0 hd1
  have q1:=w_Floor d (x:=-aL) hd0 (bL.neg.mono (by omega))
  have q2:=w_Floor d (x:=-aS) hd0 (bS.neg.mono (by omega))
  unfold bd at bL bS
  obtain⟨M,hM⟩:∃M:Mem,M=(m.new (0,fc+6,14) (.row [I 0,I 0,I 0,I 0,I 0] 0 false)).set (0,fc+6,14) (.row [I (n:Int),I (63-(n:Int)),I 0,I 0,I 0] 0 false):=⟨_,rfl⟩
  have hGM:Gk 5 Mp.c okT M v T:=hG.frame λid hid=>by
   rw[hM,Mem.get_set,xhl (by rintro rfl;simp[okT]at hid),Mem.get_new,xhl (by rintro rfl;simp[okT]at hid)]
  have h3M:M.get (0,17,3)=some (.row [I f.den,I f.l0,I f.l1,I f.l2,I f.s0,I f.s1,I f.s2] 0 false):=by rw[hM];simp[h3]
  have h14:M.get (0,fc+6,14)=some (.row [I (n:Int),I (63-(n:Int)),I 0,I 0,I 0] 0 false):=by rw[hM];simp
  have hnM:M.next=1:=by rw[hM];simp[hm]
  have eb:∀x y:Int,x6c [I 0,I 0,I 0,I 0,I 0] [(0,1,I x),(1,1,I y)]=some (.agg [I x,I y,I 0,I 0,I 0]):=λx y=>by simp[x6c,x6x]
  have next:=ih (n+1) j v M (fc+47) (by omega) (by omega) hGM hnM h3M hQ
  simp only[xp]
  generalize xp (x59 (d+1)) hs 0 j=R at *
  unfold x1v
  simp(disch:=omega) [hk,z_pt,eb,x66]
  rw[<-hM]
  simp(disch:=omega) [h3,h3M,h14,mF,mT,x66,hm,hnM,cAp_p,o1]
  by_cases c1:-aL % f.den=0
  rotate_left
  .simpa[c1]using next
  by_cases c2:-aS % f.den=0
  rotate_left
  .simpa[c1,c2,h3M,o2]using next
  cases c3:wi (-aL / f.den) (-8) 8
  .simpa[c1,c2,h3M,o2,q1,x6n,c3]using next
  cases c4:wi (-aS / f.den) (-8) 8
  .simpa[c1,c2,h3M,o2,q1,q2,x6n,c3,c4]using next
  obtain⟨M2,hM2⟩:∃M2:Mem,M2=M.set (0,fc+6,14) (.row [I (n:Int),I (63-(n:Int)),I (-aL / f.den),I (-aS / f.den),I 0] 0 false):=⟨_,rfl⟩
  have hGM2:Gk 5 Mp.c okT M2 v T:=hGM.frame λid hid=>by
   rw[hM2,Mem.get_set,xhl (by rintro rfl;simp[okT]at hid)]
  have h3M2:M2.get (0,17,3)=some (.row [I f.den,I f.l0,I f.l1,I f.l2,I f.s0,I f.s1,I f.s2] 0 false):=by rw[hM2];simp[h3M]
  obtain⟨v',m3,A,hG3,u1,u2,n3,f3⟩:=Gk.app (ok:=okT) Mp.len (by omega) (bytes:=40) (id0:=(0,fc+58,160)) ⟨rfl,.inr rfl⟩ (by unfold x5h;omega) hGM2 (⟨n,63-n,-aL / f.den,-aS / f.den,0⟩:Mp)
  have hel:∀M:Mem,elems M.get 5 (.slit [I (n:Int),I (63-(n:Int)),I (-aL / f.den),I (-aS / f.den),I 0] 1 true)=some (Mp.c ⟨n,63-n,-aL / f.den,-aS / f.den,0⟩,1):=λ_=>rfl
  have mk:=λ(R:Type)=>mkLit_5 (R:=R) (⟨n,63-n,-aL / f.den,-aS / f.den,0⟩:Mp)
  simp only at mk
  have fin:=hQ v' m3 (fc+60) _ hG3 (.inr ⟨_,hmore c1 c2 c3 c4,rfl⟩) (by rw[f3 _ (by simp[okT])];exact h3M2)
  simp[c1,c2,h3M,o2,q1,q2,x6n,c3,c4,h14,z_2int,build_F,hnM,cAp_p]
  rw[<-hM2]
  simp[mk,hel,A]
  exact fin
theorem cpM_all:∀{l:List Mp} (k:Nat),(cpM k l).2=0->∀x∈l,ptOK x=true
 |[],_,_=>λx h=>by cases h
 |y::l,k,h=>by
  simp only[cpM]at h
  cases c:ptOK y
  .simp[c]at h
  .simp only[c,xa1]at h
   intro x hx
   rcases xhu.mp hx with rfl|hx
   .exact c
   .exact cpM_all (k+1) h x hx
theorem cpM_of:∀{l:List Mp} (k:Nat),(∀x∈l,ptOK x=true)->(cpM k l).2=0
 |[],_,_=>rfl
 |y::l,k,h=>by
  simp only[cpM,h y (xhs ..),xa1]
  exact cpM_of (k+1) λx hx=>h x (xhr _ hx)
theorem chkPts_of{l:List Mp}(hl:l.length<=30)(h:∀x∈l,ptOK x=true):(x60 l).2=0:=by
 unfold x60
 rw[xhl (by omega)]
 exact cpM_of 0 h
theorem xh0{l:List Mp}(h:(x60 l).2=0):∀x∈l,ptOK x=true:=by
 have h30:=(xcy h).1
 unfold x60 at h
 rw[xhl (by omega)]at h
 exact cpM_all 0 h
theorem law_MatchNormal(ha:Pts a l):∃m',x59 31 [] x1e [a] mem0=some (B true,m'):=by
 rw[x44]
 unfold x2t x21
 simp[mem0,w_awake3,ha.len x7m]
 by_cases c12:(12:Int)<(l.length:Int)
 .simp[c12]
 have hl:l.length<=12:=by omega
 simp[c12,xgv 26 ha (show l.length<=1000 by omega)]
 by_cases c:(x60 l).2=0
 rotate_left
 .simp[c]
 obtain⟨-,-,hin⟩:=xcy c
 obtain⟨a1,ha1,hc1⟩:=w_points 29 ha (by omega) (⟨[],1⟩:Mem)
 have hf:=w_Fit 24 ha1 (by omega) (λ_=>by omega)
 simp only[Aff.c]at hf
 simp[c,hc1,hf,xa7]
 by_cases c3:rkM l=3
 rotate_left
 .have e:fitE l=30:=by unfold fitE;rw[xhk c,xhl c3]
  simp[e]
 have e:fitE l=0:=by unfold fitE;rw[xhk c,xhk c3]
 have e2:fitA l=fitM l:=by unfold fitA;rw[xhk e]
 have hD:=rk_det c3
 have hA:=fit_sm hin (by omega) hD
 have hca:=xgo 28 (fitM l)
 rw[chkA_of hA.inn]at hca
 simp only[Aff.c]at hca
 simp[e,e2,hca]
 obtain⟨M,hM⟩:∃M:Mem,M=((⟨[],1⟩:Mem).new (0,17,3) (.row [I 0,I 0,I 0,I 0,I 0,I 0,I 0] 0 false)).set (0,17,3) (.row [I (fitM l).den,I (fitM l).l0,I (fitM l).l1,I (fitM l).l2,I (fitM l).s0,I (fitM l).s1,I (fitM l).s2] 0 false):=⟨_,rfl⟩
 rw[<-hM]
 have h3:M.get (0,17,3)=some (.row [I (fitM l).den,I (fitM l).l0,I (fitM l).l1,I (fitM l).l2,I (fitM l).s0,I (fitM l).s1,I (fitM l).s2] 0 false):=by rw[hM];simp
 have hnM:M.next=1:=by rw[hM];simp
 unfold x3f
 obtain⟨NM,hNM⟩:∃NM,NN=NM+3:=⟨NN-3,by have:=x6l;omega⟩
 have step:∀(n kk fc:Nat),kk<=1->∃fc',xj (x59 30) [] 0 (n+1) a (.ptr (0,17,3) 0 0) nilS (I kk) M fc=xj (x59 30) [] 0 n a (.ptr (0,17,3) 0 0) nilS (I ((kk+1:Nat):Int)) M fc':=by
  intro n kk fc hkk
  obtain⟨z0,z1,z2⟩:=miss_zero hD kk
  obtain⟨fc',h'⟩:=l_sums 29 [] (t5:=nilS) (xj (x59 30) [] 0 n) ha hl hin hA kk hkk h3 l 0 NN (fc+2+3+1) rfl (by rw[x6l];omega)
  rw[z0,z1,z2]at h'
  simp only[List.take_zero,su]at h'
  rw[show I ((0:Nat):Int)=I 0 from rfl]at h'
  have hk2:(kk:Int)<2:=by omega
  refine⟨fc'+10+3,?_⟩
  simp only[xj]
  unfold x20 x3e x3d
  simp only[x77,hk2,xit,x5t,x78,h']
  unfold x1y x3c
  simp(disch:=omega) [x66]
 obtain⟨f1,s1⟩:=step (NM+2) 0 (26+1) (by omega)
 obtain⟨f2,s2⟩:=step (NM+1) 1 f1 (by omega)
 rw[show I ((0:Nat):Int)=I 0 from rfl]at s1
 rw[hNM,s1,show I ((0+1:Nat):Int)=I ((1:Nat):Int)from rfl,s2]
 simp only[xj]
 unfold x20 x3b
 simp(disch:=omega) [ha.len x7m,x66]
 refine l_turn 30 [] (λr=>∃m',r=some (B true,m')) ha hl l.length NN nilS M _ (xht _) (by rw[x6l];omega) (by rw[List.drop_length];exact Gk.nil) hnM λv m1 fc1 k1 k2 k3=>?_
 unfold x1w
 rw[show I 0=I ((0:Nat):Int)from rfl]
 refine l_place 29 [] (λr=>∃m',r=some (B true,m')) hA (T:=l.reverse) (by simpa using hl) 64 0 NN v m1 _ rfl (by rw[x6l];omega) k1 k3 (by rw[k2];exact h3) λv2 m2 fc2 T' j1 j2 j3=>?_
 have hDr:0<DD l.reverse:=by rw[DD_rev];exact hD
 have hok:=xh0 c
 have hT:T'.length<=13/\(∀x∈T',ptOK x=true)/\0<DD T'/\fitM T'=fitM l:=by
  rcases j2 with rfl|⟨x,hx,rfl⟩
  .exact⟨by simp;omega,λx hx=>hok x (by simpa using hx),hDr,xba l⟩
  .obtain⟨p1,p2,p3⟩:=hx
   obtain⟨q1,q2⟩:=fit_more (l:=l.reverse) (x:=x) hDr (by rw[xba];exact p2) (by rw[xba];exact p3)
   refine⟨by simp;omega,λy hy=>?_,q1,by rw[q2,xba]⟩
   rcases xij.mp hy with hy|hy
   .exact hok y (by simpa using hy)
   .simp at hy;subst hy;exact p1
 obtain⟨t1,t2,t3,t4⟩:=hT
 have tc:=chkPts_of (by omega) t2
 have te:fitE T'=0:=by unfold fitE;rw[xhk tc,xhk (det_rk t3)]
 have ta:fitA T'=fitM l:=by unfold fitA;rw[xhk te,t4]
 obtain⟨m3,r1,r2,r3⟩:=sCall0_gk (call:=x59 30) (f:=xh) (r:=.tup [.agg (fitA T').c,I (fitE T')]) Mp.len Mp.still j1 λa' ha' m=>w_Fit 24 ha' (by omega) (λ_=>t1) m
 rw[te,ta]at r1
 have g3:m3.get (0,17,3)=some (.row [I (fitM l).den,I (fitM l).l0,I (fitM l).l1,I (fitM l).l2,I (fitM l).s0,I (fitM l).s1,I (fitM l).s2] 0 false):=by rw[r3 _ (by simp[okT])];exact j3
 have ez:=eq_aff (.tmp 169) (.tmp 170) (fitM l)
 simp only[Aff.c]at r1 ez
 unfold x1f
 simp[r1,xa7,g3,ez]
end Go.Ix
