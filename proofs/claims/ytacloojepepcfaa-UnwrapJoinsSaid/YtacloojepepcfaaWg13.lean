import Derived.Test.YtacloojepepcfaaWg12
import Derived.Test.YtacloojepepcfaaWg3
set_option linter.unusedSimpArgs false
set_option linter.unusedVariables false
namespace Go.Ix
open Go.Proofs
theorem a_Clone(d:Nat){p:AV}{ph:List Int}(hp:Ints p ph)(h0:ph≠[])(hl:ph.length<=100000)(u:Nat):∃m',x7v (d+1) [] xv [p] ⟨[],u⟩=some (srI (u,5,7) ph.length,m')/\m'.get (u,5,7)=some (.row (ph.flatMap intE) 0 false)/\m'.next=u+1:=by
 have he:=hp.elems x8n
 refine⟨(⟨[],u+1⟩:Mem).new (u,5,7) (.row (ph.flatMap intE) 0 false),?_,by simp,rfl⟩
 rw[x6s]
 show x24 (x7v d) [] u p ⟨[],u+1⟩ 0=_
 unfold x24
 have hnil:sBin Try.prog .eql x7 (.tmp 3) (.const (.slice none 0 0)) p nilS=some (B false):=by
  rcases hp with ⟨-,h⟩|⟨x,rfl⟩
  .exact absurd h h0
  .refine sBin_0 ?_
   unfold bin0
   have e1:x85 (.slit (ph.flatMap intE) ph.length x)=none:=_root_.id rfl
   have e2:x85 nilS=some (.slice none 0 0):=_root_.id rfl
   simp only[e1,e2,x8q]
 have hq:¬ph.length=0:=λh=>h0 (xol.mp h)
 have hr:x83 (0+ph.length) 8:=by unfold x83;omega
 simp only[hnil,x7x,x86,xcq,xj2,he]
 simp only[sApp]
 rw[xmv (by simp),xmw hq,xmv hr]
 simp
end Go.Ix
set_option maxRecDepth 10000
namespace Go.Ix
open Go.Proofs
theorem a_Concat(d u:Nat)(y:Bool){a b:AV}{k l:List Int}(ha:Ints a k)(hb:Ints b l)(hk:k.length<=300000)(hl:l.length<=300000)(h0:k.length+l.length≠0) :
 ∃s m2,x7v (d+2) [] xn [.slit [a,b] 2 y] ⟨[],u⟩=some (srI (u+1,s,22) (k++l).length,m2)/\OwnI m2 (u+1,s,22) (k++l)/\m2.next=u+2:=by
 rw[x6v]
 unfold x4a x3i x5z
 obtain⟨j,hj⟩:=NN_3
 have hlen:sLen Try.prog x5u (.slit [a,b] 2 y)=some (I 2):=rfl
 have i0:sIx 1 (.slit [a,b] 2 y) (I 0)=some (.plit [a,b]):=rfl
 have i1:sIx 1 (.slit [a,b] 2 y) (I 1)=some (.plit [b]):=rfl
 have l0:∀m,sLd false 1 (.plit [a,b]) m=some a:=λ_=>rfl
 have l1:∀m,sLd false 1 (.plit [b]) m=some b:=λ_=>rfl
 have e0:=λm:Mem=>ha.elems x8n m.get
 have e1:=λm:Mem=>hb.elems x8n m.get
 simp only[hlen,x7x,hj,x3h,x5y,x5x,x5w]
 have hn0:¬((0:Int)+k.length<0):=by omega
 obtain⟨s,mg,hG,hgg,hgn⟩:=a_Grow d (u+1) (n:=(k.length:Int)+l.length) (by omega) (by omega)
 obtain⟨M,hM,hMn,hMg⟩:=call1 (m:=⟨[],u+1⟩) (l:=[nilS,I ((k.length:Int)+l.length)]) rfl hG
 have hz:((k.length:Int)+l.length).toNat=k.length+l.length:=by omega
 have hg0:M.get (u+1,s,22)=some (.row (([]:List Int).flatMap intE++x8d [I 0] (k.length+l.length)) 0 false):=by
  rw[hMg,xmv (xn3 _),hgg,hz];rfl
 have hzl:(x8d [I 0] (k.length+l.length)).length=k.length+l.length:=by simp[x8d]
 obtain⟨m1,A1,g1,n1⟩:=xj5 (l:=[]) (k:=k) hg0 (by omega) (xgf _ (by simp;omega))
 obtain⟨m2,A2,g2,n2⟩:=xj5 (l:=[]++k) (k:=l) g1 (by simp only[xot,hzl];omega) (xgf _ (by simp;omega))
 simp only[xof,xoj]at A1 A2 g1 g2
 refine⟨s,m2,?_,?_,?_⟩
 .simp(disch:=omega)only[i0,i1,l0,l1,ha.len x8q,hb.len x8q,x5v,x5t,hlen,hj,x3g,x5s,e0,e1,A1,A2,x5r,x7x,x8m,x8c,x82,x89,x86,xny,xq6,Int.zero_add,hM,show((1:Int)+1=2)from rfl]
 .unfold OwnI
  rw[g2,List.drop_drop,xp6 (by rw[hzl];omega),xp3]
 .rw[n2,n1,hMn,hgn]
theorem Gr.apps{u t s0:Nat}{m:Mem}{a:AV}{l k:List Int}(hr:x83 (l.length+k.length) 8)(hk:k≠[])(h:Gr 1 intE u t m a l) :
 ∃a' m',(∀{R:Type} (K:AV->Mem->Option R),sApp 1 8 (u,s0,t) (some (k.flatMap intE,k.length)) a m K=K a' m')/\Gr 1 intE u t m' a' (l++k)/\m'.next=m.next/\∀j:Id,j.2.2≠t->m'.get j=m.get j:=by
 have hk0:k.length≠0:=λh=>hk (xol.1 h)
 rcases h with ⟨rfl,rfl⟩|⟨s,ver,rfl,hg⟩
 .refine⟨.sref (u,s0,t) 0 0 k.length 1 true,m.new (u,s0,t) (.row (k.flatMap intE) 0 false),λK=>?_,Or.inr ⟨s0,0,by simp,by simp⟩,rfl,λj hj=>?_⟩
  .simp only[sApp]
   rw[xmw hk0,xmv (by simpa using hr)]
  .rw[Mem.get_new,xmw (by rintro rfl;exact hj rfl)]
 .have hl:=xaf x8n l
  refine⟨.sref (u,s,t) (ver+1) 0 (l.length+k.length) 1 true,m.set (u,s,t) (.row (l.flatMap intE++k.flatMap intE) (ver+1) false),λK=>?_,Or.inr ⟨s,ver+1,by simp,by simp⟩,rfl,λj hj=>?_⟩
  .simp only[sApp,hg]
   rw[xmv ⟨trivial,trivial,by omega,hr⟩,xmw hk0,xmw (by omega),xnc,xn9 (by omega)]
  .rw[Mem.get_set,xmw (by rintro rfl;exact hj rfl)]
theorem xlr{cs:List AV}{n:Nat}{x:Bool}{lo hi:Int}(h0:0<=lo)(h1:lo<=hi)(h2:hi<=n)(hl:cs.length=n):x98 Try.prog x7 (.slit cs n x) (some (I lo)) (some (I hi))=some (.slit ((cs.drop lo.toNat).take (hi-lo).toNat) (hi-lo).toNat (x&&decide (hi=n))):=by
 obtain⟨i,e1,e2⟩:=xex
 simp only[x98,x85,x8q,e1,asI,Option.getD_some]
 rw[xmv ⟨h0,h1,h2,by rw[e2];omega⟩,e2,xoa,xoa]
theorem slice_mid{a:AV}{A:List Int}(ha:Ints a A)(hne:A≠[]){lo k:Nat}(h:lo+k<=A.length):∃cs x,x98 Try.prog x7 a (some (I lo)) (some (I (lo+k:Nat)))=some (.slit cs k x)/\cs=((A.drop lo).take k).flatMap intE:=by
 rcases ha with ⟨-,rfl⟩|⟨x,rfl⟩
 .exact absurd rfl hne
 .have h3:=xlr (cs:=A.flatMap intE) (n:=A.length) (x:=x) (lo:=lo) (hi:=(lo+k:Nat)) (by omega) (by omega) (by omega) (xar A)
  rw[show((lo:Int)).toNat=lo from by omega,show(((lo+k:Nat):Int)-lo).toNat=k from by omega]at h3
  refine⟨_,_,h3,?_⟩
  rw[xag,xag,List.map_take,xpj]
def xas(A B:List Int)(ca cb ov:Nat)(sh:Int)(r k j:Nat):Int:=
 if j<(ca-ov)+k then xah A B ca cb ov sh r j else if j<ca then at0 A (r*ca+j)else shF sh (at0 B (r*cb+(j-(ca-ov))))
def x9e(A B:List Int)(ca cb ov:Nat)(sh:Int)(r k:Nat):List Int:=(List.range (ca+cb-ov)).map (xas A B ca cb ov sh r k)
section
variable{A B':List Int}{n ca cb ov r:Nat}{sh:Int}
theorem xf1{k j:Nat}(h:j<(x9e A B' ca cb ov sh r k).length):(x9e A B' ca cb ov sh r k)[j]=xas A B' ca cb ov sh r k j:=by simp[x9e]
theorem xe6{k:Nat}:(x9e A B' ca cb ov sh r k).length=ca+cb-ov:=by unfold x9e;simp
theorem lineL_end(h1:ov<=ca)(h2:ov<=cb):x9e A B' ca cb ov sh r ov=rowJ A B' ca cb ov sh r:=by
 unfold x9e rowJ
 refine xpg λj hj=>?_
 rw[xni]at hj
 unfold xas
 by_cases c:j<(ca-ov)+ov
 .rw[xmv c]
 .rw[xmw c,xmw (by omega)]
  unfold xah
  rw[xmw (by omega)]
theorem lineL_0(hA:A.length=n*ca)(hB:B'.length=n*cb)(hr:r<n)(h1:ov<=ca)(h2:ov<=cb):((A.drop (r*ca)).take ca)++((((shL sh B').drop (r*cb)).take cb).drop ov)=x9e A B' ca cb ov sh r 0:=by
 have q1:r*ca+ca<=n*ca:=by
  have:=xoh (show r+1<=n from hr) (xn3 ca);rwa[xnu]at this
 have q2:r*cb+cb<=n*cb:=by
  have:=xoh (show r+1<=n from hr) (xn3 cb);rwa[xnu]at this
 have hsl:(shL sh B').length=B'.length:=by unfold shL;simp
 have l1:((A.drop (r*ca)).take ca).length=ca:=by rw[xom,xot];omega
 refine xqo (by unfold x9e;simp only[xo9,xom,xot,xo6,xpk,hsl];omega) λj g1 g2=>?_
 have hj:j<ca+cb-ov:=by unfold x9e at g2;simpa using g2
 rw[xf1]
 unfold xas xah
 by_cases c:j<ca
 .rw[List.getElem_append_left (by rw[l1];exact c),List.getElem_take,List.getElem_drop]
  have e:at0 A (r*ca+j)=A[r*ca+j]:=x8j (by omega)
  split
  .rw[xmv ⟨c,by omega⟩,e]
  .rw[e]
 .rw[List.getElem_append_right (by rw[l1];omega)]
  rw[xmw (by omega),xmw c]
  simp only[List.getElem_drop,List.getElem_take,l1]
  rw[<-xe5 sh B' (by omega),x8j (by rw[hsl];omega)]
  congr 1
  omega
theorem lineL_at{k:Nat}(hk:k<ov)(h1:ov<=ca)(h2:ov<=cb):at0 (x9e A B' ca cb ov sh r k) ((ca-ov)+k)=at0 A (r*ca+((ca-ov)+k)):=by
 rw[x8j (by rw[xe6];omega),xf1]
 unfold xas
 rw[xmw (by omega),xmv (by omega)]
theorem xls{k:Nat}(hk:k<ov)(h1:ov<=ca)(h2:ov<=cb) :
 x9e A B' ca cb ov sh r (k+1)=if at0 A (r*ca+((ca-ov)+k))=void then(x9e A B' ca cb ov sh r k).set ((ca-ov)+k) (shF sh (at0 B' (r*cb+k)))else x9e A B' ca cb ov sh r k:=by
 have key:∀j,j≠(ca-ov)+k->xas A B' ca cb ov sh r (k+1) j=xas A B' ca cb ov sh r k j:=λj hj=>by
  unfold xas
  by_cases c:j<(ca-ov)+k
  .rw[xmv (by omega),xmv c]
  .rw[xmw (by omega),xmw c]
 have here:xas A B' ca cb ov sh r (k+1) ((ca-ov)+k)=if at0 A (r*ca+((ca-ov)+k))=void then shF sh (at0 B' (r*cb+k))else at0 A (r*ca+((ca-ov)+k)):=by
  unfold xas xah
  rw[xmv (by omega)]
  by_cases c:at0 A (r*ca+((ca-ov)+k))=void
  .rw[xmw (by intro h;exact h.2 ⟨c,by omega⟩),xmv c,show(ca-ov)+k-(ca-ov)=k from by omega]
  .rw[xmv ⟨by omega,λh=>c h.1⟩,xmw c]
 split
 .rename_i c
  refine xqo (by rw[xop,xe6,xe6]) λj g1 g2=>?_
  rw[List.getElem_set,xf1,xf1]
  split
  .rename_i e
   subst e
   rw[here,xmv c]
  .rename_i e
   exact key j λh=>e h.symm
 .rename_i c
  unfold x9e
  refine xpg λj hj=>?_
  by_cases e:j=(ca-ov)+k
  .subst e
   rw[here,xmw c]
   unfold xas
   rw[xmw (by omega),xmv (by omega)]
  .exact key j e
end
end Go.Ix
