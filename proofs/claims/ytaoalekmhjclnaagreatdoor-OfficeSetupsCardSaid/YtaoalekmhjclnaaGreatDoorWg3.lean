import Derived.Test.YtaoalekmhjclnaaGreatDoorWg2
import Derived.Test.YtaoalekmhjclnaaGreatDoorWg0
import Derived.Test.YtaoalekmhjclnaaGreatDoorWg1
set_option maxRecDepth 100000
namespace Go.Proofs.YtaoalekmhjclnaaGreatDoor
open Go.ChangeShapes Go.WideShapes Go.ChangeAt Go.RowKit Go.Ix
end Go.Proofs.YtaoalekmhjclnaaGreatDoor
set_option linter.unusedSimpArgs false
set_option linter.unusedVariables false
namespace Go.Ix
structure Pl where
 x:Int
 y:Int
 z:Int
deriving DecidableEq
def crP(a b c:Pl):Int:=(b.x-a.x)*(c.y-a.y)-(b.y-a.y)*(c.x-a.x)
def trP(n:Int):Int:=if n > 0 then 1 else if n<0 then -1 else 0
def x18o(a b p:Pl):Int:=trP (crP a b p)
def dotP(a b p:Pl):Int:=(a.x-p.x)*(b.x-p.x)+(a.y-p.y)*(b.y-p.y)
def hasP(a b p:Pl):Bool:=decide (x18o a b p=0)&&decide (dotP a b p<=0)
def onP(a b p:Pl):Bool:=decide (crP a b p=0)&&(decide (min a.x b.x<=p.x)&&decide (p.x<=max a.x b.x))&&(decide (min a.y b.y<=p.y)&&decide (p.y<=max a.y b.y))
def x1eo(a b c d:Pl):Bool:=hasP a b c||hasP a b d||hasP c d a||hasP c d b||(decide (x18o a b c≠x18o a b d)&&decide (x18o c d a≠x18o c d b))
def x1bp(a b c d:Pl):Bool:=onP a b c||onP a b d||onP c d a||onP c d b||(decide (x18o a b c*x18o a b d<0)&&decide (x18o c d a*x18o c d b<0))
def x1dp(t a b:Pl):Bool:=decide (crP t a b=0)&&decide (dotP a b t > 0)
theorem x1hf{u v:Int}:u*v<=0↔(u<=0/\0<=v)\/(0<=u/\v<=0):=by
 constructor
 .intro h
  rcases x1vb u 0 with hu|hu|hu<;>rcases x1vb v 0 with hv|hv|hv
  .have:=Int.mul_pos_of_neg_of_neg hu hv;omega
  .omega
  .omega
  .omega
  .omega
  .omega
  .omega
  .omega
  .have:=x1vc hu hv;omega
 .rintro(⟨h1,h2⟩|⟨h1,h2⟩)
  .exact Int.mul_nonpos_of_nonpos_of_nonneg h1 h2
  .exact Int.mul_nonpos_of_nonneg_of_nonpos h1 h2
theorem x1cf(a b:Int):a<b\/b<=a:=by omega
theorem sq0(u:Int):0<=u*u:=by
 rcases Int.le_total 0 u with h|h
 .exact Int.mul_nonneg h h
 .exact Int.mul_nonneg_of_nonpos_of_nonpos h h
theorem dot_box{a b c d:Int}(h:a*d=b*c):a*c+b*d<=0↔a*c<=0/\b*d<=0:=by
 have e:(a*c)*(b*d)=(a*d)*(a*d):=by
  rw[show(a*c)*(b*d)=(a*d)*(b*c) by grind,<-h]
 have h0:=sq0 (a*d)
 rw[<-e]at h0
 constructor
 .intro h1
  rcases x1cf 0 (a*c)with h2|h2
  .have h3:b*d<0:=by omega
   have:=Int.mul_neg_of_pos_of_neg h2 h3
   omega
  .rcases x1cf 0 (b*d)with h3|h3
   .have h4:a*c<0:=by omega
    have:=Int.mul_neg_of_neg_of_pos h4 h3
    omega
   .exact⟨h2,h3⟩
 .omega
theorem x1fq(a b p:Pl):crP a b p=(a.x-p.x)*(b.y-p.y)-(a.y-p.y)*(b.x-p.x):=by
 unfold crP
 grind
theorem x1dq(a b p:Pl):x18o a b p=0↔crP a b p=0:=by
 unfold x18o trP
 split
 .omega
 .split<;>omega
theorem x1d8(a b p:Pl):hasP a b p=onP a b p:=by
 unfold hasP onP
 by_cases c:crP a b p=0
 .have h0:=(x1dq a b p).mpr c
  rw[x1fq]at c
  have h1:=dot_box (a:=a.x-p.x) (b:=a.y-p.y) (c:=b.x-p.x) (d:=b.y-p.y) (by omega)
  rw[x1fq]
  have h2:=x1hf (u:=a.x-p.x) (v:=b.x-p.x)
  have h3:=x1hf (u:=a.y-p.y) (v:=b.y-p.y)
  rw[x1vd]
  simp only[x1sl,x1tt]
  unfold dotP
  rw[h1,h2,h3]
  constructor
  .rintro⟨-,g1,g2⟩
   refine⟨⟨by omega,by omega,by omega⟩,by omega,by omega⟩
  .rintro⟨⟨-,g1,g2⟩,g3,g4⟩
   exact⟨h0,by omega,by omega⟩
 .have h0:¬x18o a b p=0:=λh=>c ((x1dq a b p).mp h)
  simp[c,h0]
theorem x1k9{q1 q2 u1 u2 v1 v2:Int}(hp:u1*v2=u2*v1)(hd:u1*v1+u2*v2 > 0):trP (q1*u2-q2*u1)=trP (q1*v2-q2*v1):=by
 have e:(q1*v2-q2*v1)*(u1*u1+u2*u2)=(q1*u2-q2*u1)*(u1*v1+u2*v2):=by
  have h:=hp
  grind
 have hu:0<u1*u1+u2*u2:=by
  have g1:=sq0 u1
  have g2:=sq0 u2
  rcases x1cf 0 (u1*u1+u2*u2)with h|h
  .exact h
  .exfalso
   have z1:u1*u1=0:=by omega
   have z2:u2*u2=0:=by omega
   have y1:u1=0:=(x1uq.mp z1).elim id id
   have y2:u2=0:=(x1uq.mp z2).elim id id
   subst y1 y2
   simp at hd
 generalize q1*v2-q2*v1=A at *
 generalize q1*u2-q2*u1=C at *
 generalize u1*u1+u2*u2=D at *
 generalize u1*v1+u2*v2=F at *
 unfold trP
 rcases x1vb A 0 with hA|hA|hA<;>rcases x1vb C 0 with hC|hC|hC
 .simp[show ¬A > 0 by omega,show ¬C > 0 by omega,hA,hC]
 .subst hC;have:=Int.mul_neg_of_neg_of_pos hA hu;omega
 .have h1:=Int.mul_neg_of_neg_of_pos hA hu
  have h2:=x1vc hC hd
  omega
 .subst hA;have:=Int.mul_neg_of_neg_of_pos hC hd;omega
 .subst hA hC;rfl
 .subst hA;have:=x1vc hC hd;omega
 .have h1:=x1vc hA hu
  have h2:=Int.mul_neg_of_neg_of_pos hC hd
  omega
 .subst hC;have:=x1vc hA hu;omega
 .simp[hA,hC]
theorem x1dr(n:Int):trP n=1\/trP n=0\/trP n=-1:=by
 unfold trP
 split
 .exact .inl rfl
 .split
  .exact .inr (.inr rfl)
  .exact .inr (.inl rfl)
theorem x1fr{a b p q:Pl}(h0:x18o a b p=0)(h1:hasP a b p=false):x18o p q a=x18o p q b/\x18o q p a=x18o q p b:=by
 have c:=(x1dq a b p).mp h0
 rw[x1fq]at c
 have hd:dotP a b p > 0:=by
  unfold hasP at h1
  simp only[h0,x1si,x1t4,decide_eq_false_iff_not]at h1
  omega
 unfold dotP at hd
 have k:=x1k9 (q1:=q.x-p.x) (q2:=q.y-p.y) (u1:=a.x-p.x) (u2:=a.y-p.y) (v1:=b.x-p.x) (v2:=b.y-p.y) (by omega) hd
 have k2:=x1k9 (q1:=p.x-q.x) (q2:=p.y-q.y) (u1:=a.x-p.x) (u2:=a.y-p.y) (v1:=b.x-p.x) (v2:=b.y-p.y) (by omega) hd
 refine⟨k,?_⟩
 unfold x18o crP
 have e:∀c:Pl,(p.x-q.x)*(c.y-q.y)-(p.y-q.y)*(c.x-q.x)=(p.x-q.x)*(c.y-p.y)-(p.y-q.y)*(c.x-p.x):=λc=>by grind
 rw[e,e]
 exact k2
theorem x1m2(a b c d:Pl):x1eo a b c d=x1bp a b c d:=by
 unfold x1eo x1bp
 rw[x1d8,x1d8,x1d8,x1d8]
 by_cases h:(onP a b c||onP a b d||onP c d a||onP c d b)=true
 .rw[h];rfl
 .have h':(onP a b c||onP a b d||onP c d a||onP c d b)=false:=by simpa using h
  rw[h',x1uz,x1uz]
  simp only[Bool.or_eq_false_iff]at h'
  obtain⟨⟨⟨n1,n2⟩,n3⟩,n4⟩:=h'
  rw[<-x1d8]at n1 n2 n3 n4
  rw[x1vd]
  simp only[x1sl,x1tt]
  have t1:=x1dr (crP a b c)
  have t2:=x1dr (crP a b d)
  have t3:=x1dr (crP c d a)
  have t4:=x1dr (crP c d b)
  have o1:x18o a b c=0->x18o c d a=x18o c d b:=λe=>(x1fr (q:=d) e n1).1
  have o2:x18o a b d=0->x18o c d a=x18o c d b:=λe=>(x1fr (q:=c) e n2).2
  have o3:x18o c d a=0->x18o a b c=x18o a b d:=λe=>(x1fr (q:=b) e n3).1
  have o4:x18o c d b=0->x18o a b c=x18o a b d:=λe=>(x1fr (q:=a) e n4).2
  unfold x18o at *
  generalize trP (crP a b c)=w at *
  generalize trP (crP a b d)=x at *
  generalize trP (crP c d a)=y at *
  generalize trP (crP c d b)=z at *
  rcases t1 with rfl|rfl|rfl<;>rcases t2 with rfl|rfl|rfl<;>rcases t3 with rfl|rfl|rfl<;>rcases t4 with rfl|rfl|rfl<;>omega
theorem meet_symm(a b c d:Pl):x1bp a b c d=x1bp c d a b:=by
 unfold x1bp
 rw[Int.mul_comm (x18o a b c),Int.mul_comm (x18o c d a),Int.mul_comm (x18o a b d),Int.mul_comm (x18o c d b)]
 cases onP a b c<;>cases onP a b d<;>cases onP c d a<;>cases onP c d b<;>simp[Bool.and_comm]
theorem x1ka{a b c:Pl}(hab:¬(a.x=b.x/\a.y=b.y))(hcb:¬(c.x=b.x/\c.y=b.y)):(hasP b c a||hasP a b c)=x1dp b c a:=by
 unfold hasP x1dp
 have e1:crP b c a=(c.x-b.x)*(a.y-b.y)-(c.y-b.y)*(a.x-b.x):=rfl
 have e2:crP a b c=crP b c a:=by unfold crP;grind
 have e0:x18o b c a=0↔crP b c a=0:=x1dq _ _ _
 have e3:x18o a b c=0↔crP b c a=0:=by rw[x1dq,e2]
 by_cases hc:crP b c a=0
 .rw[x1vd]
  simp only[x1tc,x1sl,x1tt,e0,e3,hc,true_and]
  rw[e1]at hc
  have pos:∀{s t:Int},¬(s=0/\t=0)->0<s*s+t*t:=λ{s t} h=>by
   have g1:=sq0 s
   have g2:=sq0 t
   rcases x1cf 0 (s*s+t*t)with k|k
   .exact k
   .exfalso
    have z1:s*s=0:=by omega
    have z2:t*t=0:=by omega
    exact h ⟨(x1uq.mp z1).elim id id,(x1uq.mp z2).elim id id⟩
  have pv:=pos (s:=a.x-b.x) (t:=a.y-b.y) (by omega)
  have pu:=pos (s:=c.x-b.x) (t:=c.y-b.y) (by omega)
  unfold dotP
  have d1:(b.x-a.x)*(c.x-a.x)+(b.y-a.y)*(c.y-a.y)=((a.x-b.x)*(a.x-b.x)+(a.y-b.y)*(a.y-b.y))-((c.x-b.x)*(a.x-b.x)+(c.y-b.y)*(a.y-b.y)):=by grind
  have d2:(a.x-c.x)*(b.x-c.x)+(a.y-c.y)*(b.y-c.y)=((c.x-b.x)*(c.x-b.x)+(c.y-b.y)*(c.y-b.y))-((c.x-b.x)*(a.x-b.x)+(c.y-b.y)*(a.y-b.y)):=by grind
  have d3:((a.x-b.x)*(a.x-b.x)+(a.y-b.y)*(a.y-b.y))*((c.x-b.x)*(c.x-b.x)+(c.y-b.y)*(c.y-b.y))=((c.x-b.x)*(a.x-b.x)+(c.y-b.y)*(a.y-b.y))*((c.x-b.x)*(a.x-b.x)+(c.y-b.y)*(a.y-b.y))+((c.x-b.x)*(a.y-b.y)-(c.y-b.y)*(a.x-b.x))*((c.x-b.x)*(a.y-b.y)-(c.y-b.y)*(a.x-b.x)):=by grind
  rw[hc]at d3
  rw[d1,d2]
  generalize (a.x-b.x)*(a.x-b.x)+(a.y-b.y)*(a.y-b.y)=V at *
  generalize (c.x-b.x)*(c.x-b.x)+(c.y-b.y)*(c.y-b.y)=U at *
  generalize (c.x-b.x)*(a.x-b.x)+(c.y-b.y)*(a.y-b.y)=D at *
  simp only[Int.mul_zero,Int.add_zero]at d3
  constructor
  .omega
  .intro hD
   rcases x1cf D V with h1|h1
   .rcases x1cf D U with h2|h2
    .exfalso
     have k1:D*D<V*U:=by
      have q1:D*D<V*D:=Int.mul_lt_mul_of_pos_right h1 (by omega)
      have q2:V*D<V*U:=Int.mul_lt_mul_of_pos_left h2 pv
      omega
     omega
    .right;omega
   .left;omega
 .have n0:¬x18o b c a=0:=λh=>hc (e0.mp h)
  have n3:¬x18o a b c=0:=λh=>hc (e3.mp h)
  simp[hc,n0,n3]
theorem ray_on{a b p:Pl}(h0:crP a b p=0)(hr:decide (a.y > p.y)≠decide (b.y > p.y)):hasP a b p=true:=by
 unfold hasP
 rw[x1tg ((x1dq a b p).mpr h0),x1t4,x1tt]
 rw[x1fq]at h0
 have hy:(a.y-p.y)*(b.y-p.y)<=0:=by
  rw[x1hf]
  by_cases c1:a.y > p.y<;>by_cases c2:b.y > p.y<;>simp[c1,c2]at hr<;>omega
 unfold dotP
 rw[dot_box (by omega)]
 refine⟨?_,hy⟩
 have e:((a.x-p.x)*(b.x-p.x))*((a.y-p.y)*(b.y-p.y))=((a.x-p.x)*(b.y-p.y))*((a.x-p.x)*(b.y-p.y)):=by
  have h1:(a.x-p.x)*(b.y-p.y)=(a.y-p.y)*(b.x-p.x):=by omega
  rw[show((a.x-p.x)*(b.x-p.x))*((a.y-p.y)*(b.y-p.y))=((a.x-p.x)*(b.y-p.y))*((a.y-p.y)*(b.x-p.x)) by grind,<-h1]
 have h2:=sq0 ((a.x-p.x)*(b.y-p.y))
 rw[<-e]at h2
 rcases x1cf 0 ((a.x-p.x)*(b.x-p.x))with h3|h3
 .rcases x1cf ((a.y-p.y)*(b.y-p.y)) 0 with h4|h4
  .have:=Int.mul_neg_of_pos_of_neg h3 h4
   omega
  .have h5:(a.y-p.y)*(b.y-p.y)=0:=by omega
   rcases x1uq.mp h5 with h6|h6
   .have h7:(a.x-p.x)*(b.y-p.y)=0:=by rw[h6]at h0;omega
    rcases x1uq.mp h7 with h8|h8
    .rw[h8]at h3;simp at h3
    .exfalso
     by_cases c1:a.y > p.y<;>by_cases c2:b.y > p.y<;>simp[c1,c2]at hr<;>omega
   .have h7:(a.y-p.y)*(b.x-p.x)=0:=by rw[h6]at h0;omega
    rcases x1uq.mp h7 with h8|h8
    .exfalso
     by_cases c1:a.y > p.y<;>by_cases c2:b.y > p.y<;>simp[c1,c2]at hr<;>omega
    .rw[h8]at h3;simp at h3
 .exact h3
def rayP(a b p:Pl):Bool:=decide (decide (a.y > p.y)≠decide (b.y > p.y))&&decide (x18o a b p=if b.y<a.y then -1 else 1)
def rayR(a b p:Pl):Bool:=decide (decide (a.y > p.y)≠decide (b.y > p.y))&&decide (decide (crP a b p > 0)=decide (b.y > a.y))
theorem ray_eq{a b p:Pl}(h:hasP a b p=false):rayP a b p=rayR a b p:=by
 unfold rayP rayR
 by_cases hr:decide (a.y > p.y)≠decide (b.y > p.y)
 .have h0:crP a b p≠0:=λh0=>by rw[ray_on h0 hr]at h;cases h
  rw[x1tg hr,x1t4,x1t4]
  have hne:a.y≠b.y:=λe=>hr (by rw[e])
  unfold x18o trP
  rcases x1vb (crP a b p) 0 with c|c|c
  .by_cases k:b.y<a.y
   .simp[c,k,show ¬crP a b p > 0 by omega,show ¬b.y > a.y by omega]
   .simp[c,k,show ¬crP a b p > 0 by omega,show b.y > a.y by omega]
  .exact absurd c h0
  .by_cases k:b.y<a.y
   .simp[c,k,show ¬b.y > a.y by omega]
   .simp[c,k,show b.y > a.y by omega]
 .rw[x1up hr];rfl
open Go.Proofs
def RetF(T:AV->Prop)(r:O2):Prop:=∃a m' a',r=some (a,m')/\frz m'.get deep a=some a'/\T a'
theorem RetF.st{T:AV->Prop}{a:AV}{m:Mem}(h:still a=true)(ht:T a):RetF T (some (a,m)):=⟨a,m,a,rfl,x1ce _ 4 h,ht⟩
theorem RetF.tup{T:AV->Prop}{l:List AV}{m:Mem}(h:l.all still=true)(ht:T (.tup l)):RetF T (some (.tup l,m)):=⟨_,m,_,rfl,frz_tup h,ht⟩
theorem RetF.mk{T:AV->Prop}{a a':AV}{m:Mem}(h:frz m.get deep a=some a')(ht:T a'):RetF T (some (a,m)):=⟨a,m,a',rfl,h,ht⟩
theorem x1ds{T:AV->Prop}{call:x17y}{f:FuncId}{l:List AV}(hl:l.all still=true)(h:RetF T (call [] f l mem0))(m:Mem):∃a,T a/\x17z call f l m=some (a,m):=by
 obtain⟨a,m',a',h1,h2,h3⟩:=h
 exact⟨a',h3,call0_frz hl h1 h2⟩
theorem x195{v:AV}{call:x17y}{f:FuncId}{l:List AV}(hl:l.all still=true)(h:RetF (λa=>a=v) (call [] f l mem0))(m:Mem):x17z call f l m=some (v,m):=by
 obtain⟨a,h1,h2⟩:=x1ds hl h m
 rw[h2,h1]
theorem frz_tup2{objs:Id->Option Ob}{a b a' b':AV}(ha:frz objs 5 a=some a')(hb:frz objs 5 b=some b'):frz objs deep (.tup [a,b])=some (.tup [a',b']):=by
 show([a,b].mapM (frz objs 5)).map AV.tup=_
 simp only[x1te,x1ty,ha,hb]
 rfl
theorem frz_I{objs:Id->Option Ob}{k:Nat}{x:Int}:frz objs (k+1) (I x)=some (I x):=rfl
theorem Gr.len{α:Type}{z:Nat}{enc:α->List AV}{l:List α}{a:AV}{u t:Nat}{m:Mem}{y e:TypeId}(ht:Tryz.prog.underlying y=some (.slice e))(h:Gr z enc u t m a l):sLen Tryz.prog y a=some (I l.length):=by
 rcases h with ⟨rfl,rfl⟩|⟨s,ver,rfl,hg⟩
 .exact x1h9 ht
 .rfl
end Go.Ix
