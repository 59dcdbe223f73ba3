import Derived.Test.YtibmppgmjbpdmaaGreatDoorWg10
import Derived.Test.YtibmppgmjbpdmaaGreatDoorWg5
import Derived.Test.YtibmppgmjbpdmaaGreatDoorWg6
import Derived.Test.YtibmppgmjbpdmaaGreatDoorWg8
import Derived.Test.YtibmppgmjbpdmaaGreatDoorWg3
import Derived.Lib.Bytealg
set_option linter.unusedSimpArgs false
set_option linter.unusedVariables false
namespace Go.Ix
open Go.Proofs
def PartC(n:Nat)(l:List Edge)(m:Mem):Prop:=m.get (0,6,3)=some (.row [srI (0,5,9) n] 0 false)/\∃cells,m.get (0,5,9)=some (.row cells 0 false)/\cells.length=n/\∀(v:Nat) (hv:v<cells.length),Gk 1 intE (λid=>id.1=0) m cells[v] (nearU l v)
theorem PartC.frame{n:Nat}{l:List Edge}{m m':Mem}(h:PartC n l m)(hm:∀id:Id,id.1<1->m'.get id=m.get id):PartC n l m':=by
 obtain⟨h1,cells,h2,h3,h4⟩:=h
 exact⟨by rw[hm _ (by simp)];exact h1,cells,by rw[hm _ (by simp)];exact h2,h3,λv hv=>(h4 v hv).frame λid hid=>hm id (by omega)⟩
end Go.Ix
set_option maxRecDepth 10000
namespace Go.Ix
open Go.Proofs
theorem w_Itoa(d:Nat){n:Int}(h0:-9223372036854775808<=n)(h1:n<=9223372036854775807)(m:Mem):x16v (x16z (d+1)) xw [I n] m=some (Tx (decM n),m):=by
 refine Ans.call0 (m:=m) ?_ rfl rfl
 have h:x16z (d+1) [] xw [I n] mem0=(x1az 1 [I n]).map λv=>(v,mem0):=by kernel_rfl
 unfold Ans
 have h2:x1az 1 [I n]=if -9223372036854775808<=n/\n<=9223372036854775807 then some (.sc (.string ⟨(decM n).toArray⟩))else none:=rfl
 rw[h,h2,x1rq ⟨h0,h1⟩]
 exact⟨_,rfl⟩
theorem OkR.run{P:Program}{α:Type}{R:α->Prop}{a:α}(hr:R a):∀{s:Sem α},x175 P s=some a->OkR P s R
 | .pure b,h=>by
   simp only[x175,x1rt]at h
   exact OkR.pure (by rw[h];exact hr)
 | .program k,h=>OkR.run hr (s:=k P) h
 | .mark _ k,h=>OkR.run hr (s:=k) h
 | .choose ..,h=>by simp[x175]at h
 | .load ..,h=>by simp[x175]at h
 | .store ..,h=>by simp[x175]at h
 | .new ..,h=>by simp[x175]at h
 | .shape ..,h=>by simp[x175]at h
 | .freeze ..,h=>by simp[x175]at h
 | .halt ..,h=>by simp[x175]at h
theorem x1gb(c:UInt8):∀l:List UInt8,(cutM c l).length<=l.length+1
 |[]=>by simp[cutM]
 |x::l=>by
  have ih:=x1gb c l
  unfold cutM
  split
  .simp;omega
  .split<;>simp_all<;>omega
theorem x1ja(c:UInt8):∀(l:List UInt8) (w:List UInt8),w∈cutM c l->w.length<=l.length
 |[],w,h=>by
  simp[cutM]at h
  rw[h];exact x1rz _
 |x::l,w,h=>by
  have ih:=x1ja c l
  unfold cutM at h
  split at h
  .rcases x1sa.1 h with rfl|h
   .simp
   .have:=ih w h;simp;omega
  .split at h
   .rename_i h2
    exact absurd h2 (x1el c l)
   .rename_i y r h2
    rw[h2]at ih
    rcases x1sa.1 h with rfl|h
    .have:=ih y (x1sc ..);simp;omega
    .have:=ih w (x1s4 _ h);simp;omega
theorem x1jb(c:UInt8):∀l:List UInt8,(cutM c l).length=l.count c+1
 |[]=>rfl
 |x::l=>by
  have ih:=x1jb c l
  by_cases h:x=c
  .subst h
   rw[show x::l=[]++x::l from rfl,x1bz l (by simp),x1s5,ih]
   simp
  .rw[List.count_cons_of_ne (by simpa using h),<-ih]
   have hu:cutM c (x::l)=(match cutM c l with|[]=>[[x]]|h::t=>(x::h)::t):=by
    rw[cutM,x1rr h]
    rfl
   rw[hu]
   cases hc:cutM c l with
   |nil=>exact absurd hc (x1el c l)
   |cons a r=>rfl
def x19n:List (List UInt8)->List (List UInt8)
 |[]=>[]
 |[p]=>if p=[]then[]else[p]
 |p::q::r=>(p++[10])::x19n (q::r)
def x18c(s:List UInt8):List (List UInt8):=x19n (cutM 10 s)
theorem x1jc:x18c []=[]:=rfl
theorem linesM_no{s:List UInt8}(h0:s≠[])(h:(10:UInt8)∉s):x18c s=[s]:=by
 unfold x18c
 rw[x1cl h]
 simp[x19n,h0]
theorem x1lj{l:List UInt8}(k:List UInt8)(h:(10:UInt8)∉l):x18c (l++10::k)=(l++[10])::x18c k:=by
 unfold x18c
 rw[x1bz k h]
 cases hc:cutM 10 k with
 |nil=>exact absurd hc (x1el 10 k)
 |cons a r=>rfl
theorem x1lk(d:Nat)(l:List UInt8)(c:UInt8)(m:Mem):x16v (x16z (d+3)) x23 [Tx l,U8 c.toNat] m=some (I (Lib.indexByte l c),m):=by
 refine Ans.call0 (m:=m) ?_ rfl rfl
 unfold Ans
 rw[xzn]
 unfold xa8 x8v
 simp only[x1g9,x16y]
 exact⟨_,rfl⟩
theorem w_Lines(d:Nat)(s:List UInt8)(m:Mem):∃M,x1b2 (x16z (d+1)) x1c [Tx s] m=some (.clo xt [.ptr (m.next,0,1) 0 0],M) /\
 M.get (m.next,0,1)=some (.row [Tx s] 0 false)/\M.next=m.next+1/\∀j:Id,j.1<m.next->M.get j=m.get j:=by
 have h1:x16z (d+1) [] x1c [Tx s] ⟨[],m.next⟩=some (.clo xt [.ptr (m.next,0,1) 0 0],(⟨[],m.next+1⟩:Mem).new (m.next,0,1) (.row [Tx s] 0 false)):=by
  rw[xza];rfl
 obtain⟨M,hc,hn,hj⟩:=call1 (m:=m) (l:=[Tx s]) rfl h1
 refine⟨M,hc,?_,hn,λj hlt=>?_⟩
 .rw[hj,x1rq (x1rz _)];simp
 .rw[hj,x1rr (by omega)]
theorem c_lines(d:Nat){hh:FHs}{id:Id}{h:List AV->Mem->Option Mem}{s:List UInt8}(hs:s.length<=100000)(hl:x1a0 hh id=some h){i2:Id}{m0:Mem}(g2:m0.get i2=some (.row [Tx s] 0 false))(Inv:List (List UInt8)->Mem->Prop)(Fin:Mem->Prop)(hst:∀pre m l,Inv pre m->Inv pre (m.set i2 (.row [Tx l] 0 false)))(hy:∀pre w post m,x18c s=pre++w::post->Inv pre m->∃m2,h [Tx w] m=some m2/\((live m2.get id=true/\Inv (pre++[w]) m2/\m2.get i2=m.get i2)\/(live m2.get id=false/\Fin m2)))(h0:Inv [] ⟨m0.hp,m0.next+1⟩) :
 ∃m',x16z (d+4) hh xt [.yld id,.ptr i2 0 0] m0=some (.tup [],m')/\(Inv (x18c s) m'\/Fin m'):=by
 rw[xzm]
 unfold xa7
 have e2:(⟨m0.hp,m0.next+1⟩:Mem).get i2=some (.row [Tx s] 0 false):=g2
 simp only
 generalize (⟨m0.hp,m0.next+1⟩:Mem)=m at *
 generalize m0.next=u
 have ld:∀{m:Mem} {i:Id} {x:AV},m.get i=some (.row [x] 0 false)->x.one=true->sLd false 1 (.ptr i 0 0) m=some x:=λhg hx=>by
  simp[hg,hx]
 have loop:∀(n j:Nat) (r:List UInt8) (pre:List (List UInt8)) (m:Mem) (fc:Nat),r.length<n->n<=j->r.length<=100000->x18c s=pre++x18c r->m.get i2=some (.row [Tx r] 0 false)->Inv pre m ->
  ∃m',x2v (x16z (d+3)) hh u j (.yld id) (.ptr i2 0 0) m fc=some (.tup [],m')/\(Inv (x18c s) m'\/Fin m'):=by
  intro n
  induction n with
  |zero=>intro j r pre m fc hn;omega
  |succ n ih=>
   intro j r pre m fc hn hj hr hc f2 hI
   obtain⟨j,rfl⟩:∃k,j=k+1:=⟨j-1,by omega⟩
   simp only[x2v]
   unfold xc8
   simp only[ld f2 rfl,x16y,x17q,x189]
   by_cases hz:r=[]
   .subst hz
    simp only[x1sn,show decide ((0:Int)<((0:Nat):Int))=false from rfl,x17d]
    refine⟨m,rfl,.inl ?_⟩
    rw[hc,x1jc,x1tl];exact hI
   have hpos:(0:Int)<(r.length:Int):=by
    have:=x1ub.mpr hz
    omega
   simp only[hpos,x1rw,x17b]
   unfold xc7 xc6
   have hib:=λm=>x1lk d r 10 m
   rw[show((10:UInt8).toNat:Int)=10 from rfl]at hib
   simp only[ld f2 rfl,x16y]
   rw[show(AV.sc (.int .u8 10))=U8 10 from rfl]
   simp only[hib,x16y,sGe_I]
   rcases x1dh 10 r with ⟨q1,q2⟩|⟨i,q1,q2,q3,q4⟩
   .rw[q1]
    simp only[show decide ((0:Int)<=-1)=false from rfl,x17d,ld f2 rfl,x16y]
    rw[linesM_no hz q2]at hc
    rw[show(AV.sc (.string ⟨#[]⟩))=Tx []from rfl,x19m (z:=1) (x:=Tx []) f2 rfl (by simp) rfl]
    have hset:x17p [Tx r] 0 (Tx []).cells=[Tx []]:=rfl
    rw[hset]
    unfold x47
    obtain⟨m2,k1,k2⟩:=hy pre r [] (m.set i2 (.row [Tx []] 0 false)) hc (hst _ _ _ hI)
    simp only[inv_y hl k1,x16y]
    rcases k2 with ⟨kl,k2,k3⟩|⟨kl,k2⟩
    .rw[kl]
     simp only[x18h,x1s3,x17d,x16y]
     rw[Mem.get_set,x1rq rfl]at k3
     refine ih j [] (pre++[r]) m2 _ (by simp;omega) (by omega) (by simp) (by rw[hc,x1jc];simp) k3 k2
    .rw[kl]
     simp only[x18h,x1s0,x17b,x16y]
     exact⟨m2,rfl,.inr k2⟩
   .rw[q1]
    have hi:(0:Int)<=(i:Int):=by omega
    have hr2:x18c r=(r.take i++[10])::x18c (r.drop (i+1)):=by
     conv=>lhs;rw[<-x1uo i r,q4]
     exact x1lj _ q3
    rw[hr2]at hc
    have ht:r.take (i+1)=r.take i++[10]:=by
     rw[List.take_add_one]
     have:r[i]?=some 10:=by
      have h5:=congrArg List.head? q4
      rw[x1vc]at h5
      exact h5
     rw[this];rfl
    have w2:w64 ((i:Int)+1)=((i+1:Nat):Int):=by rw[x17s (by omega) (by omega)];omega
    simp only[hi,x1rw,x17b,ld f2 rfl,x16y,x18m,w2,x_slh (show i+1<=r.length by omega),x_slo (show i+1<=r.length by omega),ht]
    rw[x19m (z:=1) (x:=Tx (r.drop (i+1))) f2 rfl (by simp) rfl]
    have hset:x17p [Tx r] 0 (Tx (r.drop (i+1))).cells=[Tx (r.drop (i+1))]:=rfl
    rw[hset]
    unfold x47
    obtain⟨m2,k1,k2⟩:=hy pre (r.take i++[10]) _ (m.set i2 (.row [Tx (r.drop (i+1))] 0 false)) hc (hst _ _ _ hI)
    simp only[inv_y hl k1,x16y]
    rcases k2 with ⟨kl,k2,k3⟩|⟨kl,k2⟩
    .rw[kl]
     simp only[x18h,x1s3,x17d,x16y]
     rw[Mem.get_set,x1rq rfl]at k3
     refine ih j (r.drop (i+1)) (pre++[r.take i++[10]]) m2 _ (by simp;omega) (by omega) (by simp;omega) (by rw[hc];simp) k3 k2
    .rw[kl]
     simp only[x18h,x1s0,x17b,x16y]
     exact⟨m2,rfl,.inr k2⟩
 exact loop (s.length+1) NN s [] m _ (by omega) (by rw[x18s];omega) hs rfl e2 h0
def endL(l:List UInt8):Bool:=decide (l.getLast?=some 10)
theorem w_HasSuf(d:Nat){l:List UInt8}(hl:l.length<=100000)(m:Mem):x16v (x16z (d+1)) x27 [Tx l,Tx [10]] m=some (B (endL l),m):=by
 refine Ans.call0 (m:=m) ?_ rfl rfl
 unfold Ans
 rw[xzt]
 unfold xaf x97
 have hl1:x179 (Tx [10])=some (I 1):=x17q [10]
 simp only[mem0,x17q,hl1,x16y,sGe_I]
 by_cases c:l=[]
 .subst c
  simp only[x1sn,show decide ((1:Int)<=((0:Nat):Int))=false from rfl,x181,x182,sW_t,x17n,x16y,x17l]
  exact⟨_,rfl⟩
 .have hp:=x1ub.mpr c
  have h1:(1:Int)<=(l.length:Int):=by omega
  have w1:w64 ((l.length:Int)-1)=((l.length-1:Nat):Int):=by rw[x17s (by omega) (by omega)];omega
  have hlast:(l.drop (l.length-1)=[10])↔l.getLast?=some 10:=by
   rw[List.getLast?_eq_getElem?]
   constructor
   .intro h
    have:=congrArg List.head? h
    rw[x1vc]at this
    exact this
   .intro h
    obtain⟨h2,h3⟩:=x1sl.mp h
    rw[x1v3 h2,h3,show l.length-1+1=l.length by omega,List.drop_length]
  simp only[h1,x1rw,x181,x182,sW_t,x17j,x16y,x17q,hl1,x1ao,w1,x_slo (show l.length-1<=l.length by omega),x_eq,x17l]
  have he:decide (l.drop (l.length-1)=[10])=endL l:=decide_eq_decide.mpr hlast
  rw[he]
  exact⟨_,rfl⟩
theorem w_CutSuf(d:Nat){l:List UInt8}(hl:l.length<=100000)(m:Mem):x16v (x16z (d+3)) x20 [Tx l,Tx [10]] m=some (.tup [Tx (if endL l=true then l.dropLast else l),B (endL l)],m):=by
 have h2:∀m,x16v (x16z (d+2)) x24 [Tx l,Tx [10]] m=some (.tup [Tx (if endL l=true then l.dropLast else l),B (endL l)],m):=λm=>by
  refine Ans.call0_tup (m:=m) ?_ rfl rfl
  unfold Ans
  rw[xzo]
  unfold xa9 x8w
  have hl1:x179 (Tx [10])=some (I 1):=x17q [10]
  have hh:=λm=>w_HasSuf d hl m
  simp only[mem0,hh,x16y,x18h]
  cases he:endL l
  .simp only[x1s0,x17b,x1sb,x1s1]
   exact⟨_,rfl⟩
  .have hne:l≠[]:=by
    rintro rfl
    cases he
   have hp:=x1ub.mpr hne
   have w1:w64 ((l.length:Int)-1)=((l.length-1:Nat):Int):=by rw[x17s (by omega) (by omega)];omega
   simp only[x1s3,x17d,x17q,hl1,x16y,x1ao,w1,x_slh (show l.length-1<=l.length by omega),x1s6,List.dropLast_eq_take]
   exact⟨_,rfl⟩
 refine Ans.call0_tup (m:=m) ?_ rfl rfl
 unfold Ans
 rw[xzb]
 unfold x9w x86
 simp only[mem0,h2,x16y,x1aq,x1t4,x1t5]
 exact⟨_,rfl⟩
end Go.Ix
