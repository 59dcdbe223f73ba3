import Derived.Test.YtaoalekmhjclnaaGreatDoorWg6
import Derived.Test.YtaoalekmhjclnaaGreatDoorWg4
set_option linter.unusedSimpArgs false
set_option linter.unusedVariables false
namespace Go.Ix
open Go.Proofs
theorem live_0{objs:Id->Option Ob}{id:Id}(h:id.2.2=0):live objs id=true:=by unfold live;rw[h];rfl
theorem inv_yld{call:x17y}{id:Id}{h:List AV->Mem->Option Mem}{hs:FHs}{mode:Nat}{l:List AV}{m:Mem}(hid:id.2.2=0):x19e call ((id,h)::hs) mode (.yld id) l m=(h l m).map λm'=>(B true,m'):=by
 simp[x19e,x1cr,live_0 hid]
theorem Edge.still1(e:Edge):e.c.all Go.Ix.still1=true:=rfl
theorem x1ke(x y:Operand)(a b:Bool):sBin Tryz.prog .neq x15 x y (B a) (B b)=some (B (a != b)):=by
 cases a<;>cases b<;>kernel_rfl
abbrev Pr:=Int×Int
def Pr.c(x:Pr):List AV:=[I x.1,I x.2]
theorem Pr.len(x:Pr):(Pr.c x).length=2:=rfl
theorem Pr.still(x:Pr):(Pr.c x).all Go.Ix.still1=true:=rfl
theorem part2(w0 w1:Int):∀o∈[0,1],x18p Tryz.prog (part x18n #[.int .i64 w0,.int .i64 w1] o)=some (.int .i64 ([w0,w1].getD o 0)):=by
 intro o ho
 simp only[x1t6,List.not_mem_nil,or_false]at ho
 rcases ho with rfl|rfl<;>kernel_rfl
end Go.Ix
set_option maxRecDepth 10000
namespace Go.Ix
open Go.Proofs
def Pl.v(p:Pl):Value:=.agg [.int .i64 p.x,.int .i64 p.y].toArray
def Pl.same(p q:Pl):Bool:=decide (p.x=q.x)&&decide (p.y=q.y)
def mpK(L:List Pl):List (Value×AV):=L.map λp=>(p.v,B true)
theorem x1fx(p q:Pl):x19j p.v q.v=p.same q:=by
 unfold x19j Pl.v Pl.same
 simp[x1cm]
 by_cases h:p.x=q.x<;>by_cases h2:p.y=q.y<;>simp[h,h2]
theorem find_mpK(L:List Pl)(p:Pl):findKey p.v (mpK L)=if L.any (Pl.same p)=true then some (B true)else none:=by
 induction L with
 |nil=>rfl
 |cons x r ih=>
  unfold mpK at ih ⊢
  simp only[x1su,findKey,x1fx,x1va]
  by_cases hs:p.same x=true
  .simp[hs]
  .have hs':p.same x=false:=by simpa using hs
   have e:(x::r).any p.same=r.any p.same:=by rw[x1va,hs',x1uz]
   rw[x1sd hs,ih]
   simp[hs']
theorem set_mpK(L:List Pl)(p:Pl)(h:L.any (Pl.same p)=false):setKey p.v (B true) (mpK L)=mpK (L++[p]):=by
 induction L with
 |nil=>rfl
 |cons x r ih=>
  rw[x1va,Bool.or_eq_false_iff]at h
  unfold mpK at ih ⊢
  simp only[x1su,x1u5,setKey,x1fx,h.1,x1sw,x1sp,ih h.2]
theorem chkK_t(p:Pl):(x18p Tryz.prog (Instr.checkKey true 10000 xl p.v)).isSome=true:=by kernel_rfl
theorem chkK_f(p:Pl):(x18p Tryz.prog (Instr.checkKey false 10000 xl p.v)).isSome=true:=by kernel_rfl
theorem equal_pl(p q:Pl):x18p Tryz.prog (Op.equal xl p.v q.v)=some (p.same q):=by
 obtain⟨px,py,pz⟩:=p
 obtain⟨qx,qy,qz⟩:=q
 have hu:Tryz.prog.underlying xl=some (.array 2 x18n):=by kernel_rfl
 have hz:x18p Tryz.prog (sizeOf x18n)=some 1:=by kernel_rfl
 have pa:=part2 px py
 have pb:=part2 qx qy
 have pa0:=pa 0 (by simp)
 have pa1:=pa 1 (by simp)
 have pb0:=pb 0 (by simp)
 have pb1:=pb 1 (by simp)
 simp only[List.getD_cons_zero,List.getD_cons_succ]at pa0 pa1 pb0 pb1
 show x18p Tryz.prog (Op.equalIn 10000 xl (.agg #[.int .i64 px,.int .i64 py]) (.agg #[.int .i64 qx,.int .i64 qy]))=_
 rw[show(10000:Nat)=9998+1+1 from rfl,Op.equalIn]
 simp only[x1d9,x1kb hu,x182,hz]
 simp only[Std.Legacy.Range.forIn_eq_forIn_range',Std.Legacy.Range.size,Nat.sub_zero,Nat.add_sub_cancel,Nat.div_one,List.range'_succ,List.range'_zero,List.forIn_cons,List.forIn_nil,x1d9,x1ub,x1sg,Nat.one_mul,Nat.mul_one]
 simp only[pa0,pa1,pb0,pb1,x182,x1hg _ _ _ _ _ _ x1hh]
 unfold Pl.same
 by_cases h0:px=qx
 .subst h0
  by_cases h1:py=qy
  .subst h1
   simp[x1fs,x1d9,pa0,pa1,pb0,pb1,x1hg _ _ _ _ _ _ x1hh]
  .simp[x1fs,x1d9,pa0,pa1,pb0,pb1,h1,x1hg _ _ _ _ _ _ x1hh]
 .simp[x1fs,x1d9,h0]
theorem x1kf:Tryz.prog.underlying xl=some (.array 2 x18n):=by kernel_rfl
theorem u_mpK:Tryz.prog.underlying x5c=some (.map xl x15):=by kernel_rfl
theorem x1kg(L:List Pl)(p:Pl):x1br Tryz.prog xl (.array 2 x18n) p.v (mpK L)=true:=by
 have h1:x1g1 Tryz.prog xl (.array 2 x18n) p.v (mpK L)=true:=by
  show(x19j p.v p.v&&((x18p Tryz.prog (Instr.checkKey true 10000 xl p.v)).isSome&&(x18p Tryz.prog (Instr.checkKey false 10000 xl p.v)).isSome) &&
   (mpK L).all λe=>match e.1,x18p Tryz.prog (Op.equal xl p.v e.1)with
    | .agg _,some b=>b == x19j p.v e.1
    |_,_=>false)=true
  rw[chkK_t,chkK_f,x1fx,show p.same p=true by simp[Pl.same]]
  simp only[x1tm,x1t4,x1sq]
  intro e he
  unfold mpK at he
  obtain⟨x,-,rfl⟩:=x1tp.mp he
  rw[equal_pl,x1fx]
  show(p.same x == p.same x)=true
  simp
 unfold x1br
 rw[h1,Bool.or_true]
theorem zv_bool:x1ez Tryz.prog x15=some (B false):=by kernel_rfl
theorem look_pl{id:Id}{L:List Pl}(p:Pl){m:Mem}(h:m.get id=some (.map (mpK L))):x1ct Tryz.prog x5c (.mp id) p.k false m=some (B (L.any (Pl.same p))):=by
 unfold x1ct
 have e:x18u p.k=some p.v:=rfl
 simp only[u_mpK,e,x1kf,zv_bool,x1bc,h]
 rw[x1sc (x1kg L p),find_mpK]
 cases L.any (Pl.same p)<;>rfl
theorem up_pl{R:Type}{id:Id}{L:List Pl}(p:Pl){m:Mem}(h:m.get id=some (.map (mpK L)))(hn:L.any (Pl.same p)=false)(k:Mem->Option R):x1ak Tryz.prog x5c (.mp id) p.k (B true) m k=k (m.set id (.map (mpK (L++[p])))):=by
 unfold x1ak
 have e:x18u p.k=some p.v:=rfl
 simp only[u_mpK,e,x1kf,h]
 rw[x1sc (x1kg L p),set_mpK L p hn]
def pl0:Pl:=⟨0,0,0⟩
def gP(l:List Pl)(k:Nat):Pl:=l.getD k pl0
theorem x1ab{l:List Pl}{k:Nat}(h:k<l.length):gP l k=l[k]:=by simp[gP,h]
def sdAt(l:List Pl)(k:Nat):Pl×Pl:=(gP l k,gP l ((k+1) % l.length))
def x19l(l:List Pl):List (Pl×Pl):=(List.range l.length).map (sdAt l)
theorem x1fy(l:List Pl):(x19l l).length=l.length:=by simp[x19l]
theorem x1m5{l:List Pl}{k:Nat}(h:k<(x19l l).length):(x19l l)[k]=sdAt l k:=by simp[x19l]
theorem x1da:Tryz.prog.underlying xk=some (.slice x17):=by kernel_rfl
theorem x1du:Tryz.prog.underlying x2h=some (.slice xba):=by kernel_rfl
theorem x1eq:xa=[I 0,I 0,I 0]:=by kernel_rfl
theorem z_corner:x1s=[I 0,I 0]:=by kernel_rfl
theorem x1er:xz=[I 0,I 0,I 0,I 0]:=by kernel_rfl
theorem build_co(x y:Int):x18d x1s [(0,1,I x),(1,1,I y)]=some (.agg [I x,I y]):=by
 rw[z_corner];simp[x18d,x1ao,x18v]
theorem build_sd(a b c d:Int):x18d xz [(0,2,.agg [I a,I b]),(2,2,.agg [I c,I d])]=some (.agg [I a,I b,I c,I d]):=by
 rw[x1er];simp[x18d,x1ao,x18v]
theorem mkLit_sd{R:Type}{a b c d:Int}{id:Id}{m:Mem}{k:AV->Mem->Option R}:x18l xz [(0,4,.agg [I a,I b,I c,I d])] 1 4 id m k=k (.slit [I a,I b,I c,I d] 1 true) m:=by
 rw[x1er]
 simp[x18l,x1ao,x19d,x1ux,x18v]
theorem x1ar{u s t:Nat}{m:Mem}{z cs:List AV}{n:Nat}(hz:z.length=n)(hc:cs.length=n)(ho:cs.all AV.one=true):∃M:Mem,(∀{R:Type} (K:Mem->Option R),sSt n (.ptr (u,s,t) 0 0) (.agg cs) (m.new (u,s,t) (.row z 0 false)) K=K M)/\M.get (u,s,t)=some (.row cs 0 false)/\M.next=m.next/\∀j:Id,¬(j.1=u/\j.2.2=t)->M.get j=m.get j:=by
 refine⟨(m.new (u,s,t) (.row z 0 false)).set (u,s,t) (.row cs 0 false),λK=>?_,Mem.get_set_same _ _ _,rfl,λj hj=>?_⟩
 .rw[x1ej (off:=0) (z:=n) (x:=.agg cs) (k:=K) (Mem.get_new_same _ _ _) hc (by rw[hz];omega) ho]
  congr 3
  simp[x18v,hz,hc]
 .rw[Mem.get_set,x1sd (by rintro rfl;exact hj ⟨rfl,rfl⟩),Mem.get_new,x1sd (by rintro rfl;exact hj ⟨rfl,rfl⟩)]
def okS9:Id->Prop:=λid=>id.1=0/\id.2.2=45
theorem l_sides(call:x17y)(hs:FHs){a:AV}{l:List Pl}(h:Sl Pl.c a l)(hl:l.length<=1000)(hin:∀p∈l,InP p):∀(n k j:Nat) (v:AV) (m:Mem) (fc:Nat),k+n=l.length->n<j->Gk 4 sdC okS9 m v ((List.range k).map (sdAt l)) ->
 ∃v' m',x43 call hs 0 j a (I 1) v a (I l.length) (I k) m fc=some (v',m')/\Gk 4 sdC okS9 m' v' (x19l l):=by
 intro n
 induction n with
 |zero=>
  intro k j v m fc hk hj hG
  obtain⟨j,rfl⟩:∃i,j=i+1:=⟨j-1,by omega⟩
  obtain rfl:k=l.length:=by omega
  refine⟨v,m,?_,hG⟩
  simp only[x43]
  unfold xa4 xf5
  simp
 |succ n ih=>
  intro k j v m fc hk hj hG
  obtain⟨j,rfl⟩:∃i,j=i+1:=⟨j-1,by omega⟩
  have hk1:k<l.length:=by omega
  have hk2:(k+1) % l.length<l.length:=x1u2 _ (by omega)
  have hk':(k:Int)<(l.length:Int):=by omega
  have ix1:=h.ix Pl.len hk1
  have ix2:=h.ix Pl.len hk2
  have ld1:=λm=>x1a2 (m:=m) Pl.len (by omega) hk1
  have ld2:=λm=>x1a2 (m:=m) Pl.len (by omega) hk2
  rw[<-x1ab hk1]at ld1
  rw[<-x1ab hk2]at ld2
  have in1:=hin (gP l k) (by rw[x1ab hk1];exact x1t0 hk1)
  have in2:=hin (gP l ((k+1) % l.length)) (by rw[x1ab hk2];exact x1t0 hk2)
  obtain⟨M1,s1,g1,n1,f1⟩:=x1ar (u:=0) (s:=fc+4) (t:=7) (m:=m) (z:=xa) (cs:=(gP l k).c) (n:=3) (by rw[x1eq];rfl) rfl rfl
  obtain⟨M2,s2,g2,n2,f2⟩:=x1ar (u:=0) (s:=fc+15) (t:=8) (m:=M1) (z:=xa) (cs:=(gP l ((k+1) % l.length)).c) (n:=3) (by rw[x1eq];rfl) rfl rfl
  have g1':M2.get (0,fc+4,7)=some (.row [I (gP l k).x,I (gP l k).y,I (gP l k).z] 0 false):=by rw[f2 _ (by simp)];exact g1
  have g2':M2.get (0,fc+15,8)=some (.row [I (gP l ((k+1) % l.length)).x,I (gP l ((k+1) % l.length)).y,I (gP l ((k+1) % l.length)).z] 0 false):=g2
  have G2:Gk 4 sdC okS9 M2 v ((List.range k).map (sdAt l)):=hG.frame λj hj=>by
   have h45:=hj.2
   rw[f2 j (by omega),f1 j (by omega)]
  obtain⟨v',m3,A,G3,-,-,n3,f3⟩:=G2.app x1b7 (by omega) (bytes:=32) (id0:=(0,fc+38,45)) ⟨rfl,rfl⟩ (by unfold x18q;simp;omega) (sdAt l k)
  have e:(List.range k).map (sdAt l)++[sdAt l k]=(List.range (k+1)).map (sdAt l):=by rw[x1ux,x1uc];rfl
  rw[e]at G3
  obtain⟨v2,m4,r4,G4⟩:=ih (k+1) j v' m3 (fc+42) (by omega) (by omega) G3
  refine⟨v2,m4,?_,G4⟩
  rw[<-r4]
  obtain⟨a1,a2⟩:=in1
  obtain⟨b1,b2⟩:=in2
  have q1:w64 (1*(gP l k).x)=(gP l k).x:=by rw[x1vu,x18i (by omega) (by omega)]
  have q2:w64 (1*(gP l k).y)=(gP l k).y:=by rw[x1vu,x18i (by omega) (by omega)]
  have q3:w64 (1*(gP l ((k+1) % l.length)).x)=(gP l ((k+1) % l.length)).x:=by rw[x1vu,x18i (by omega) (by omega)]
  have q4:w64 (1*(gP l ((k+1) % l.length)).y)=(gP l ((k+1) % l.length)).y:=by rw[x1vu,x18i (by omega) (by omega)]
  have hw:w64 ((k:Int)+1)=((k+1:Nat):Int):=by rw[x18i (by omega) (by omega)];omega
  have hr:sRem (I ((k+1:Nat):Int)) (I (l.length:Int))=some (I (((k+1) % l.length:Nat):Int)):=by
   rw[x1fk (by omega)]
   congr 2
  have hel:∀(M:Mem) (a b c d:Int),elems M.get 4 (.slit [I a,I b,I c,I d] 1 true)=some ([I a,I b,I c,I d],1):=λ_ _ _ _ _=>rfl
  have A':∀{R:Type} (k':AV->Mem->Option R),sApp 4 32 (0,fc+38,45) (some ([I (gP l k).x,I (gP l k).y,I (gP l ((k+1) % l.length)).x,I (gP l ((k+1) % l.length)).y],1)) v M2 k'=k' v' m3:=A
  simp only[x43]
  unfold xa4
  simp only[x18k,hk',x1si,x182,x18a,ix1,ld1,x1al,s1,x18y,hw,h.len x1da,hr,ix2,ld2,s2,x18g,x183 g1',x183 g2',x1sg,rd_f,x1sf,x1sj,List.head?_cons,sMul_I,q1,q2,q3,q4,build_co,build_sd,mkLit_sd,hel,A']
theorem w_sides(d:Nat){a:AV}{l:List Pl}(h:Sl Pl.c a l)(hl:l.length<=1000)(hin:∀p∈l,InP p)(m:Mem):∃s,Sl sdC s (x19l l)/\x17z (x180 (d+1)) x1o [a,I 1] m=some (s,m):=by
 have key:RetF (λs=>Sl sdC s (x19l l)) (x180 (d+1) [] x1o [a,I 1] mem0):=by
  rw[x10g]
  unfold xc3 xa5 xf6
  obtain⟨v,m',r,G⟩:=l_sides (x180 d) [] h hl hin l.length 0 NN nilS ⟨[],1⟩ (0+2+3) (by omega) (by rw[x197];omega) Gk.nil
  simp only[mem0,h.len x1da,x182]
  rw[show I ((0:Nat):Int)=I 0 from rfl]at r
  rw[r]
  obtain⟨v',h1,h2⟩:=G.frz (k:=4) x1b7 sdC_still
  exact RetF.mk h2 h1
 obtain⟨s,h1,h2⟩:=x1ds (by simp[h.still]) key m
 exact⟨s,h1,h2⟩
def clS(S:List (Pl×Pl))(i k:Nat):Bool:=
 let s:=S.getD i (pl0,pl0);let o:=S.getD k (pl0,pl0)
 if i=k+1 then hasP s.1 s.2 o.1||hasP o.1 o.2 s.2
 else if k=0/\i+1=S.length then hasP s.1 s.2 o.2||hasP o.1 o.2 s.1
 else x1eo s.1 s.2 o.1 o.2
def clB(S:List (Pl×Pl)):Bool:=(List.range S.length).any λi=>(List.range i).any (clS S i)
def InS(s:Pl×Pl):Prop:=InP s.1/\InP s.2
theorem info_side:∃i,Tryz.prog.info? xba=some i/\i.size=4:=by
 have:((Tryz.prog.info? xba).map λi=>i.size)=some 4:=by kernel_rfl
 rw[x1sk]at this
 exact this
theorem sides_pre{a:AV}{l:List (Pl×Pl)}(h:Sl sdC a l){k:Nat}(hk:k<=l.length)(h0:l≠[]):∃a',Sl sdC a' (l.take k)/\x191 Tryz.prog x2h a none (some (I k))=some a':=by
 rcases h with ⟨_,rfl⟩|⟨x,rfl⟩
 .exact absurd rfl h0
 obtain⟨i,hi,hs⟩:=info_side
 have hl:=x1aq x1b7 l
 refine⟨.slit ((l.take k).flatMap sdC) (l.take k).length (x&&decide ((k:Int)=(l.length:Int))),Sl.lit _ _,?_⟩
 have e1:x18u (.slit (l.flatMap sdC) l.length x)=none:=_root_.id rfl
 have e2:asI (I (k:Int))=some (k:Int):=rfl
 have e3:asI (I 0)=some 0:=rfl
 unfold x191
 simp only[e1,x1du,hi,Option.getD_some,Option.getD_none,e2,e3,hs,Int.sub_zero,x1uy,Int.toNat_zero,x1ub,x1sf]
 rw[x1sc ⟨by omega,by omega,by omega,by omega⟩,x1wa,Nat.min_eq_left hk]
 have ht:∀(l:List (Pl×Pl)) (k:Nat),(l.flatMap sdC).take (k*4)=(l.take k).flatMap sdC:=by
  intro l
  induction l with
  |nil=>intro k;simp
  |cons x r ih=>
   intro k
   cases k with
   |zero=>simp
   |succ k=>
    rw[x1st,x1t8,x1st,x1u3,Nat.add_comm,<-x1b7 x,x1we,x1b7,ih]
 rw[ht]
theorem l_cl1(d:Nat)(hs:FHs){sv t52:AV}{S:List (Pl×Pl)}(h:Sl sdC sv S)(hS:S.length<=1000)(hin:∀s∈S,InS s)(rec0:x184){i:Nat}(hi:i<S.length)(h52:Sl sdC t52 (S.take i)){id9:Id}(h9:id9.1=0/\id9.2.2=9)(Q:O2->Prop)(hyes:∀m:Mem,(List.range i).any (clS S i)=true->Q (some (I 13,m)))(hno:∀(m:Mem) (fc:Nat),(List.range i).any (clS S i)=false->Q (rec0 sv sv (I S.length) (I (i+1:Nat)) m fc)) :
 ∀(n k j:Nat) (m:Mem) (fc:Nat),k+n=i->n<j->m.get id9=some (.row (sdC S[i]) 0 false)->(∀q,q<k->clS S i q=false) ->
 Q (x2i (x180 (d+4)) hs 0 rec0 j sv (I i) (.ptr id9 0 0) sv (I S.length) (I i) t52 (I i) (I k) m fc):=by
 have hlen:(S.take i).length=i:=by simp;omega
 intro n
 induction n with
 |zero=>
  intro k j m fc hk hj hm hq
  obtain⟨j,rfl⟩:∃i,j=i+1:=⟨j-1,by omega⟩
  obtain rfl:k=i:=by omega
  have hw:w64 ((k:Int)+1)=((k+1:Nat):Int):=by rw[x18i (by omega) (by omega)];omega
  simp only[x2i]
  unfold x9d xdv
  simp only[x18k,x1vv,x1sm,x182,x18b,x18y,hw]
  refine hno m _ ?_
  rw[x1v8]
  intro q hq'
  rw[hq q (x1sy.mp hq')]
  simp
 |succ n ih=>
  intro k j m fc hk hj hm hq
  obtain⟨j,rfl⟩:∃i,j=i+1:=⟨j-1,by omega⟩
  have hki:k<i:=by omega
  have hk':(k:Int)<(i:Int):=by omega
  have hks:k<S.length:=by omega
  have hkt:k<(S.take i).length:=by omega
  have ix:=h52.ix x1b7 hkt
  have ld:=λm=>x1a2 (m:=m) x1b7 (by omega) hkt
  have et:(S.take i)[k]=S[k]:=by simp
  rw[et]at ld
  obtain⟨M,s1,g1,n1,f1⟩:=x1ar (u:=0) (s:=fc+1+3) (t:=11) (m:=m) (z:=xz) (cs:=sdC S[k]) (n:=4) (by rw[x1er];rfl) rfl rfl
  have hM:M.get id9=some (.row (sdC S[i]) 0 false):=by rw[f1 id9 (by omega)];exact hm
  obtain⟨a1,a2⟩:=hin S[i] (x1t0 hi)
  obtain⟨b1,b2⟩:=hin S[k] (x1t0 hks)
  have hw:w64 ((k:Int)+1)=((k+1:Nat):Int):=by rw[x18i (by omega) (by omega)];omega
  have hwn:w64 ((S.length:Int)-1)=(S.length:Int)-1:=x18i (by omega) (by omega)
  have gi:S.getD i (pl0,pl0)=S[i]:=by simp[hi]
  have gk:S.getD k (pl0,pl0)=S[k]:=by simp[hks]
  have stop:∀fc,Q (x3x (x180 (d+4)) hs 0 rec0 (x2i (x180 (d+4)) hs 0 rec0 j) sv (I i) (.ptr id9 0 0) (B (clS S i k)) sv (I S.length) (I i) t52 (I i) (I k) M fc):=λfc=>by
   unfold x3x
   cases hc:clS S i k with
   |true=>
    simp only[x18a]
    exact hyes M (x1ua.mpr ⟨k,x1sy.mpr hki,hc⟩)
   |false=>
    simp only[x18b]
    unfold xdw
    simp only[x18y,hw,x182]
    refine ih (k+1) j M _ (by omega) (by omega) hM λq hq'=>?_
    by_cases e:q=k
    .subst e;exact hc
    .exact hq q (by omega)
  unfold clS at stop
  simp only[gi,gk]at stop
  have hM':M.get id9=some (.row [I S[i].1.x,I S[i].1.y,I S[i].2.x,I S[i].2.y] 0 false):=hM
  have g1':M.get (0,fc+1+3,11)=some (.row [I S[k].1.x,I S[k].1.y,I S[k].2.x,I S[k].2.y] 0 false):=g1
  simp only[x2i]
  unfold x9d xdy
  simp only[x18k,hk',x1si,x182,x18a,ix,ld,x1al,s1]
  unfold xdx
  simp only[x18y,hw,x182,x1a9]
  by_cases c1:i=k+1
  .have c1':((i:Int)=((k+1:Nat):Int)):=by omega
   rw[x1sc c1]at stop
   have e1:=x1by (d+1) a1 a2 b1
   have e2:=x1by (d+1) b1 b2 a2
   simp only[Pl.k,sdC]at e1 e2
   have d1:decide ((i:Int)=((k+1:Nat):Int))=true:=x1tg c1'
   simp only[d1,x18a,x183 hM',x183 g1',x18g,x1sg,x1sf,x1sj,rd,x1so,x1sx,x1t7,x1t8,x1t2,x1sn,show(2:Nat)<=4 from by decide,x182,e1]
   cases x1:hasP S[i].1 S[i].2 S[k].1
   .simp only[x192,x19q,sW_f,x1ss,x18m,x183 hM',x183 g1',x18g,x1sg,x1sf,x1sj,rd,x1so,x1sx,x1t7,x1t8,x1t2,x1sn,x182,e2,x18z,x199]
    rw[x1,x1uz]at stop
    exact stop _
   .simp only[x192,x19q,sW_f,x1sr,x199,x182,x18z,x18m]
    rw[x1,x1ve]at stop
    exact stop _
  .have c1':¬((i:Int)=((k+1:Nat):Int)):=by omega
   rw[x1sd c1]at stop
   simp only[c1',x1sm,x18b]
   by_cases c2:k=0/\i+1=S.length
   .rw[x1sc c2]at stop
    have c3:((k:Int)=0):=by omega
    have c4:((i:Int)=(S.length:Int)-1):=by omega
    have e1:=x1by (d+1) a1 a2 b2
    have e2:=x1by (d+1) b1 b2 a1
    simp only[Pl.k,sdC]at e1 e2
    simp only[c3,x1si,x19z,x192,x19q,sW_t,x18m,x182,h.len x1du,sSub_I,hwn,x1a9,c4,x18z,x18a,x183 hM',x183 g1',x18g,x1sg,x1sf,x1sj,rd,x1so,x1sx,x1t7,x1t8,x1t2,x1sn,e1]
    rw[c3]at stop
    rw[c4]at stop
    cases x1:hasP S[i].1 S[i].2 S[k].2
    .simp only[sW_f,x1ss,x18m,x183 hM',x183 g1',x18g,x1sg,x1sf,x1sj,rd,x1so,x1sx,x1t7,x1t8,x1t2,x1sn,x182,e2,x18z,x199,show(2:Nat)<=4 from by decide]
     rw[x1,x1uz]at stop
     exact stop _
    .simp only[sW_f,x1sr,x199,x182,x18z,x18m]
     rw[x1,x1ve]at stop
     exact stop _
   .rw[x1sd c2]at stop
    have e1:=w_meets d a1 a2 b1 b2
    simp only[sdC]at e1
    by_cases c3:(k:Int)=0
    .have c4:¬((i:Int)=(S.length:Int)-1):=by omega
     simp only[c3,x1si,x19z,x192,x19q,sW_t,x18m,x182,h.len x1du,sSub_I,hwn,x1a9,c4,x1sm,x18z,x18b,x183 hM',x183 g1',x1sg,x1sf,rd,x1so,x1sx,x1t7,x1t8,x1t2,x1sn,e1]
     rw[c3]at stop
     exact stop _
    .simp only[c3,x1sm,x19z,x192,x19q,sW_t,x199,x182,x18z,x18b,x183 hM',x183 g1',x1sg,x1sf,rd,x1so,x1sx,x1t7,x1t8,x1t2,x1sn,e1]
     exact stop _
end Go.Ix
