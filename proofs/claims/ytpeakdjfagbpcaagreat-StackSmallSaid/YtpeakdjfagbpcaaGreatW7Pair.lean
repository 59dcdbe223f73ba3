import Derived.Test.YtpeakdjfagbpcaaGreatW7Scenes
import Derived.Test.YtpeakdjfagbpcaaGreatWEqG
set_option linter.unusedSimpArgs false
set_option linter.unusedVariables false
namespace Go.Ix
open Go.Proofs
structure Pq where
 a:Int
 b:Int
def Pq.c(p:Pq):List AV:=[I p.a,I p.b]
theorem Pq.len(p:Pq):p.c.length=2:=rfl
theorem Pq.still(p:Pq):p.c.all still1=true:=rfl
theorem x1rd:Tryz.prog.underlying xj=some (.slice x50):=by kernel_rfl
theorem z_pair:xg=[I 0,I 0]:=by kernel_rfl
def Pq.same(p q:Pq):Bool:=decide (p.a=q.a)&&decide (p.b=q.b)
theorem Pq.same_iff{a b:Pq}:a.same b=true↔a=b:=by
 cases a;cases b
 simp[Pq.same]
theorem Pq.same_self(a:Pq):a.same a=true:=Pq.same_iff.2 rfl
theorem part2(w0 w1:Int):∀o∈[0,1],x1np Tryz.prog (part x1ny #[.int .i64 w0,.int .i64 w1] o)=some (.int .i64 ([w0,w1].getD o 0)):=by
 intro o ho
 simp only[List.mem_cons,List.not_mem_nil,or_false]at ho
 rcases ho with rfl|rfl<;>kernel_rfl
theorem pr_pairs(p q:Pq):x1np Tryz.prog (Op.equalIn 10000 x50 (.agg [.int .i64 p.a,.int .i64 p.b].toArray) (.agg [.int .i64 q.a,.int .i64 q.b].toArray))=some (p.same q):=by
 refine(eq_ints (offs:=[0,1]) (ga:=fun o=>[p.a,p.b].getD o 0) (gb:=fun o=>[q.a,q.b].getD o 0) (by kernel_rfl) (by kernel_rfl) (by kernel_rfl) fun o ho=>⟨part2 _ _ o ho,part2 _ _ o ho⟩).trans ?_
 simp[Pq.same,List.getD]
 by_cases h0:p.a=q.a<;>by_cases h1:p.b=q.b<;>simp[h0,h1]
theorem ne_pair(x y:Operand)(p q:Pq):sBin Tryz.prog .neq x50 x y (.agg p.c) (.agg q.c)=some (B (!(p.same q))):=
 x1yb (xs:=[.int .i64 p.a,.int .i64 p.b]) (ys:=[.int .i64 q.a,.int .i64 q.b]) (by kernel_rfl) (pr_pairs p q) ⟨p.c,rfl⟩ _ _ rfl rfl
theorem x1yc(call:x1nj)(hs:FHs)(u:Nat){a b:AV}{l:List Pq}(ha:Sl Pq.c a l)(hb:Sl Pq.c b l)(hl:l.length<1000000):∀(suf:List Pq) (k j:Nat) (m:Mem) (fc:Nat),l.drop k=suf->suf.length<j ->
 x22 call hs u j a b (I k) m fc=some (B true,m):=by
 intro suf
 induction suf with
 |nil=>
  intro k j m fc hd hj
  obtain⟨j,rfl⟩:∃i,j=i+1:=⟨j-1,by simp at hj;omega⟩
  have hk:¬((k:Int)<(l.length:Int)):=by have:=List.drop_eq_nil_iff.mp hd;omega
  simp only[x22]
  unfold x8n
  simp[ha.len x1rd,hk,x21]
 |cons e r ih=>
  intro k j m fc hd hj
  obtain⟨j,rfl⟩:∃i,j=i+1:=⟨j-1,by simp at hj;omega⟩
  obtain⟨hk,he,hd⟩:=x1rc hd
  have hk':(k:Int)<(l.length:Int):=by omega
  have ix:=ha.ix Pq.len hk
  have ix2:=hb.ix Pq.len hk
  have ld:=x1s7 (m:=m) Pq.len (by omega) hk
  have h':=ih (k+1) j m (fc+16) hd (by simp at hj;omega)
  simp only[x22]
  unfold x8n
  simp only[ha.len x1rd,x1oi,x1ps,hk',decide_true,x1pj,ix,ix2,ld,ne_pair,Pq.same_self,Bool.not_true,sCond_f]
  simp(disch:=omega) [x1ou]
  simpa using h'
theorem x1yd(d:Nat){a b:AV}{l:List Pq}(ha:Sl Pq.c a l)(hb:Sl Pq.c b l)(hl:l.length<1000000)(m:Mem):x1nm (x1no (d+1)) x37 [a,b] m=some (B true,m):=by
 refine call0 (by simp[ha.still,hb.still]) (m':=⟨[],1⟩) ?_ rfl
 rw[xxc]
 have:=x1yc (x1no d) [] 0 ha hb hl l 0 NN ⟨[],1⟩ 7 rfl (by rw[x1pk];omega)
 unfold x9z xaj x8o
 simp[ha.len x1rd,hb.len x1rd,mem0]
 exact this
def InB(l:List Scene):Prop:=∀s∈l,(0<=s.day/\s.day<=100000)/\(-100000<=s.bl/\s.bl<=100000)
theorem x1wp{l:List Scene}:∀(suf:List Scene) (k:Nat),(x1p0 l k suf).2=0->InB suf
 |[],_,_=>fun s h=>by cases h
 |x::r,k,h=>by
  simp only[x1p0]at h
  cases hn:nmOK x.nm with
  |false=>simp[hn]at h
  |true=>
   cases ha:(l.take k).any fun y=>teq y.nm x.nm with
   |true=>simp[hn,ha]at h
   |false=>
    cases hw:wi x.day 0 100000 with
    |false=>simp[hn,ha,hw]at h
    |true=>
     cases hw2:wi x.bl (-100000) 100000 with
     |false=>simp[hn,ha,hw,hw2]at h
     |true=>
      simp[hn,ha,hw,hw2]at h
      have ih:=x1wp r (k+1) h
      intro s hs
      rcases List.mem_cons.mp hs with rfl|hs
      .exact⟨wi_t hw,wi_t hw2⟩
      .exact ih s hs
theorem x1wq{l:List Scene}(h:(x1ov l).2=0):l.length<=60/\InB l:=by
 unfold x1ov at h
 by_cases hl:60<l.length
 .simp[hl]at h
 .simp[hl]at h
  exact⟨by omega,x1wp l 0 h⟩
def near(days bl:Int)(x y:Scene):Bool:=wi (x.day-y.day) (-days) days&&wi (x.bl-y.bl) (-bl) bl
def x1oj(days bl:Int)(i:Int)(x:Scene):Int->List Scene->List Pq
 |_,[]=>[]
 |k,y::r=>(bif near days bl x y then[⟨i,k⟩]else[])++x1oj days bl i x (k+1) r
def x1oa(days bl:Int):Int->List Scene->List Pq
 |_,[]=>[]
 |i,x::r=>x1oj days bl i x (i+1) r++x1oa days bl (i+1) r
theorem x1wr(days bl i:Int)(x:Scene):∀(l:List Scene) (k:Int),(x1oj days bl i x k l).length<=l.length
 |[],_=>Nat.le_refl _
 |y::r,k=>by
  have:=x1wr days bl i x r (k+1)
  simp only[x1oj,List.length_append,List.length_cons]
  cases near days bl x y<;>simp<;>omega
end Go.Ix
