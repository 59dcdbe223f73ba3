import Derived.Test.YthfjdkhccimggaaGreatDoorWg7
set_option linter.unusedSimpArgs false
set_option linter.unusedVariables false
namespace Go.Ix
open Go.Proofs
def tE(s:ByteArray):List AV:=[T s]
theorem tE_len(s:ByteArray):(tE s).length=1:=rfl
theorem tE_still(s:ByteArray):(tE s).all still1=true:=rfl
theorem u_strs:Tryz.prog.underlying x7=some (.slice x0):=by kernel_rfl
theorem z_str:xj=[T ⟨#[]⟩]:=by kernel_rfl
theorem l_HasText(d:Nat)(hs:FHs){a:AV}{l:List ByteArray}{x:ByteArray}(h:Sl tE a l)(hl:l.length<=1000000)(u:Nat):∀(suf:List ByteArray) (k j:Nat) (m:Mem) (fc:Nat),l.drop k=suf->suf.length<j ->
 x2b (x14k d) hs u j a (T x) (I k) m fc=some (B (suf.any λy=>teq y x),m):=by
 intro suf
 induction suf with
 |nil=>
  intro k j m fc hd hj
  obtain⟨j,rfl⟩:∃i,j=i+1:=⟨j-1,by simp at hj;omega⟩
  have hk:¬((k:Int)<(l.length:Int)):=by have:=x1mu.mp hd;omega
  simp only[x2b]
  unfold x7m
  simp[h.len u_strs,hk,x9v]
 |cons y r ih=>
  intro k j m fc hd hj
  obtain⟨j,rfl⟩:∃i,j=i+1:=⟨j-1,by simp at hj;omega⟩
  obtain⟨hk,hke,hd⟩:=x160 hd
  have hk':(k:Int)<(l.length:Int):=by omega
  have ix:=h.ix tE_len hk
  have ld:∀m,sLd false 1 (.plit ((l.drop k).flatMap tE)) m=some (T y):=λm=>by
   rw[x15l hk,x1mc,hke];rfl
  have ih':=ih (k+1) j m (fc+13) hd (by simp at hj;omega)
  simp only[x2b,List.any_cons]
  unfold x7m
  cases c:teq y x with
  |true=>simp(disch:=omega) [h.len u_strs,hk',ix,ld,t_eq,c]
  |false=>
   simp(disch:=omega) [h.len u_strs,hk',ix,ld,t_eq,c]
   simpa using ih'
theorem x1gj(d:Nat){a:AV}{l:List ByteArray}{x:ByteArray}{u t:Nat}{m:Mem}(h:Gr 1 tE u t m a l)(hl:l.length<=1000000) :
 x15w (x14k (d+1)) x19 [a,T x] m=some (B (l.any λy=>teq y x),m):=by
 obtain⟨a',ha,hf⟩:=h.frz tE_len tE_still
 have hc:x14k (d+1) [] x19 [a',T x] mem0=some (B (l.any λy=>teq y x),⟨[],1⟩):=by
  rw[xx9]
  exact l_HasText d [] ha hl 0 l 0 NN ⟨[],1⟩ 2 rfl (by rw[x16g];omega)
 refine x1ex ?_ hc rfl
 have f6:Go.Ix.frz m.get deep (T x)=some (T x):=x17g _ 4 rfl
 simp only[x1ne,x1ok,hf,f6];rfl
theorem l_rpplan(d u:Nat){pa li:AV}{gap sto:Int}{l:List Ps}(h:Sl Ps.c pa l)(hl:l.length<=40){res:Int×Int}(hB:∀m fc,m.get (u,0,1)=some (.row [pa,li,I gap,I sto] 0 false)->∃m',x7c (x14k (d+1)) [] u (.ptr (u,0,1) 0 0) m fc=some (.tup [I res.1,I res.2],m')) :
 ∀(suf:List Ps) (k j:Nat) (m:Mem) (fc:Nat) (na:AV),l.drop k=suf->suf.length<j->m.get (u,0,1)=some (.row [pa,li,I gap,I sto] 0 false)->Gr 1 tE u 82 m na ((l.take k).map Ps.nm) ->
 ∃m',x1l (x14k (d+1)) [] u j (.ptr (u,0,1) 0 0) na (I k) m fc=some (.tup [I (x165 res l k suf).1,I (x165 res l k suf).2],m'):=by
 intro suf
 induction suf with
 |nil=>
  intro k j m fc na hd hj hm hna
  obtain⟨j,rfl⟩:∃i,j=i+1:=⟨j-1,by simp at hj;omega⟩
  have hk:¬((k:Int)<(l.length:Int)):=by have:=x1mu.mp hd;omega
  obtain⟨m',h'⟩:=hB m (fc+5) hm
  refine⟨m',?_⟩
  simp only[x1l]
  unfold x7d
  simp[hm,h.len x15r,hk,x1ev]
  exact h'
 |cons e r ih=>
  intro k j m fc na hd hj hm hna
  obtain⟨j,rfl⟩:∃i,j=i+1:=⟨j-1,by simp at hj;omega⟩
  obtain⟨hk,he,hd1⟩:=x160 hd
  have hk':(k:Int)<(l.length:Int):=by omega
  have ix:=h.ix Ps.len hk
  have ld:=λm=>x1c9 (m:=m) Ps.len (by omega) hk
  simp only[he]at ld
  have next:∀m fc na,m.get (u,0,1)=some (.row [pa,li,I gap,I sto] 0 false)->Gr 1 tE u 82 m na ((l.take k).map Ps.nm++[e.nm])->∃m',x1l (x14k (d+1)) [] u j (.ptr (u,0,1) 0 0) na (I ((k:Int)+1)) m fc=some (.tup [I (x165 res l (k+1) r).1,I (x165 res l (k+1) r).2],m'):=λm fc na hm hg=>by
   refine ih (k+1) j m fc na hd1 (by simp at hj;omega) hm ?_
   rw[List.take_succ_eq_append_getElem hk,List.map_append,he]
   exact hg
  simp only[x1l]
  unfold x7d
  simp[hm,h.len x15r,hk,ix,ld,z_pass,Ps.c]
  have hT1:(T e.nm).one=true:=rfl
  simp only[hT1,x15s,x15d]
  generalize hm1:Mem.set _ _ _=m1
  have hg:m1.get (u,fc+10,6)=some (.row e.c 0 false):=by rw[<-hm1,Mem.get_set_same];rfl
  have hg0:m1.get (u,0,1)=some (.row [pa,li,I gap,I sto] 0 false):=by
   rw[<-hm1,Mem.get_set_ne (by simp),Mem.get_new_ne (by simp)];exact hm
  have hna1:Gr 1 tE u 82 m1 na ((l.take k).map Ps.nm):=hna.frame λs=>by
   rw[<-hm1,Mem.get_set_ne (by simp),Mem.get_new_ne (by simp)]
  have hr0:ldRow false 1 0 0 (some (Ob.row [T e.nm,I e.fr,I e.to,I e.va,I e.da] 0 false))=some (T e.nm):=rfl
  have hht:=x1gj d (x:=e.nm) hna1 (by simp;omega)
  simp only[hr0,x15d,w_IsName]
  have hnm:x17t e.nm ((l.take k).map Ps.nm)=bif !nmOK e.nm then 4 else bif((l.take k).map Ps.nm).any (λy=>teq y e.nm)then 5 else 0:=rfl
  obtain⟨z2,hz2⟩:∃z2,((l.take k).map Ps.nm).any (λy=>teq y e.nm)=z2:=⟨_,rfl⟩
  rw[hz2]at hht hnm
  cases hn:nmOK e.nm with
  |false=>
   rw[hn]at hnm
   rw[x166 (z:=4) (by unfold pwErr;rw[hnm];rfl) (by decide)]
   simp
  |true=>
  rw[hn]at hnm
  simp[hg,Ps.c,hht]
  cases z2 with
  |true=>
   rw[x166 (z:=5) (by unfold pwErr;rw[hnm];rfl) (by decide)]
   simp
  |false=>
  have hp:pwErr (l.take k) e=pw2 (l.take k) e:=by unfold pwErr;rw[hnm];rfl
  simp[hg,Ps.c,x172]
  cases hw1:wi e.fr 0 1000000000 with
  |false=>
   rw[x166 (z:=2) (by rw[hp];simp[pw2,hw1]) (by decide)]
   simp
  |true=>
  simp[hg,Ps.c,x172]
  cases hw2:wi e.to 0 1000000000 with
  |false=>
   rw[x166 (z:=2) (by rw[hp];simp[pw2,hw2]) (by decide)]
   simp
  |true=>
  simp[hg,Ps.c,x172]
  cases hw3:wi e.va 0 1000000 with
  |false=>
   rw[x166 (z:=2) (by rw[hp];simp[pw2,hw3]) (by decide)]
   simp
  |true=>
  simp[hg,Ps.c,x172]
  cases hw4:wi e.da 0 1000000 with
  |false=>
   rw[x166 (z:=2) (by rw[hp];simp[pw2,hw4]) (by decide)]
   simp
  |true=>
  simp[hg,Ps.c,x172]
  by_cases hb:e.to<=e.fr
  .rw[x166 (z:=26) (by rw[hp];simp[pw2,hw1,hw2,hw3,hw4,hb]) (by decide)]
   simp[hb]
  .obtain⟨na',m2,happ,hg2,hnx,hoth⟩:=hna1.app (s0:=fc+65) (bytes:=16) tE_len (by omega) (by unfold x14z;simp;omega) e.nm
   have hlit:∀{R:Type} (id:Id) (m:Mem) (q:AV->Mem->Option R),x14x [T ⟨#[]⟩] [(0,1,T e.nm)] 1 1 id m q=q (.slit [T e.nm] 1 true) m:=λid m q=>x1eq rfl rfl rfl
   have hel:elems m1.get 1 (.slit [T e.nm] 1 true)=some (tE e.nm,1):=rfl
   have hg02:m2.get (u,0,1)=some (.row [pa,li,I gap,I sto] 0 false):=by rw[hoth _ (by simp)];exact hg0
   rcases k with _|k
   .rw[x19z (by rw[hp];simp[pw2,hw1,hw2,hw3,hw4,hb])]
    obtain⟨m',h'⟩:=next m2 (fc+70) na' hg02 hg2
    simp[hb,hg,Ps.c,z_str,hlit,hel,happ]
    exact⟨m',by simpa using h'⟩
   .have hk1:k<l.length:=by omega
    have ix1:=h.ix Ps.len hk1
    have fa1:sFA 2 (.plit ((l.drop k).flatMap Ps.c))=some (.plit (((l.drop k).flatMap Ps.c).drop 2)):=rfl
    have ld1:∀m,sLd false 1 (.plit (((l.drop k).flatMap Ps.c).drop 2)) m=some (I l[k].to):=λm=>by
     rw[x15l hk1,x1mc];rfl
    have hs1:w64 (k:Int)=k:=x153 (by omega) (by omega)
    have hs2:w64 ((k:Int)+1+1)=(k:Int)+1+1:=x153 (by omega) (by omega)
    have hlast:=x18y hk1
    by_cases ho:e.to<l[k].to
    .rw[x166 (z:=9) (by rw[hp];simp[pw2,hw1,hw2,hw3,hw4,hb,hlast,ho]) (by decide)]
     simp[hb,hg0,hg,Ps.c,hs1,ix1,fa1,ld1,ho]
    .rw[x19z (by rw[hp];simp[pw2,hw1,hw2,hw3,hw4,hb,hlast,ho])]
     obtain⟨m',h'⟩:=next m2 (fc+70) na' hg02 hg2
     simp[hb,hg0,hg,Ps.c,hs1,ix1,fa1,ld1,ho,z_str,hlit,hel,happ]
     exact⟨m',by rw[hs2];simpa using h'⟩
end Go.Ix
