import Derived.Test.YtacloojepepcfaaWg13
set_option linter.unusedSimpArgs false
set_option linter.unusedVariables false
set_option maxRecDepth 10000
namespace Go.Ix
open Go.Proofs
theorem xdd{α β:Type}{f:α->List β}{z:Nat}(h:∀x,(f x).length=z):∀l:List α,(l.flatMap f).length=l.length*z
 |[]=>by simp
 |x::r=>by rw[xo1,xo9,h,xdd h r,xnp,xnu];omega
theorem mkLit_2s{a b:AV}{id:Id}{m:Mem}{R:Type}{K:AV->Mem->Option R}(h1:a.cells=[a])(h2:a.one=true)(h3:b.cells=[b])(h4:b.one=true)(hc:clean1 b=false):x9l x34 [(0,1,a),(1,1,b)] 2 1 id m K=K (.sref id 0 0 2 1 true) (m.new id (.row [a,b] 0 false)):=by
 rw[z_slint]
 have e:xb3 (x8d [nilS] (2*1)) [(0,1,a),(1,1,b)]=some [a,b]:=by
  simp only[xb3,h1,h3]
  rfl
 unfold x9l
 rw[e]
 simp[h2,h4,hc]
theorem xf2{l:List Int}{i:Nat}(h:i<l.length):rd false 1 ((l.flatMap intE).drop i)=some (I (at0 l i)):=by
 rw[xag,<-xpj,xp4 h,xn5,rd_f,x8j h]
theorem st_own{R:Type}{l:List Int}{i:Nat}{x:Int}{id:Id}{m:Mem}(hg:m.get id=some (.row (l.flatMap intE) 0 false))(h:i<l.length)(K:Mem->Option R):sSt 1 (.ptr id 0 i) (I x) m K=K (m.set id (.row ((l.set i x).flatMap intE) 0 false)):=by
 have hl:=xar l
 rw[x8y (off:=i) (z:=1) (x:=I x) (k:=K) hg rfl (by omega) rfl]
 congr 3
 unfold x8b
 rw[xag,xag,cells_I,List.length_singleton,xqq,xmv h,xqf,xn5,List.map_take,xpj]
 rfl
theorem xjn(l:List Int):(l.flatMap intE).all isSc=true:=by
 rw[xn1]
 intro x hx
 obtain⟨y,-,hy⟩:=xo0.1 hx
 unfold intE at hy
 rw[xoe]at hy
 rw[hy];rfl
theorem c_Concat(d:Nat){la:AV}{x:Bool}{cl:List AV}{L R:List Int}{nl:Nat}(hl:la=.slit cl nl x)(hcl:cl=L.flatMap intE)(hnl:nl=L.length)(hL:L≠[])(hLl:L.length<=300000)(hRl:R.length<=300000){m:Mem}{idr idq:Id}{cs:List AV}{v off:Nat}{f:Bool}(gq:m.get idq=some (.row [la,.sref idr v off R.length 1 f] 0 false))(gr:m.get idr=some (.row cs v false))(hcs:off+R.length<=cs.length)(hR:(cs.drop off).take R.length=R.flatMap intE) :
 ∃s M,xd4 (x7v (d+2)) xn [.sref idq 0 0 2 1 true] m=some (srI (m.next+1,s,22) (L++R).length,M)/\OwnI M (m.next+1,s,22) (L++R)/\M.next=m.next+2/\∀j:Id,j≠(m.next+1,s,22)->M.get j=m.get j:=by
 subst hl hcl hnl
 have hLa:Ints (.slit (L.flatMap intE) L.length x) L:=Sl.lit L x
 have hRa:Ints (.slit (R.flatMap intE) R.length false) R:=Sl.lit R false
 have hne:L.length+R.length≠0:=λh=>hL (xol.1 (by omega))
 obtain⟨s,m2,h1,h2,h3⟩:=a_Concat d m.next false hLa hRa hLl hRl hne
 have hz:[AV.sref idq 0 0 2 1 true].mapM (Go.Ix.frz m.get deep)=some [.slit [.slit (L.flatMap intE) L.length x,.slit (R.flatMap intE) R.length false] 2 false]:=by
  have e1:Go.Ix.frz m.get 5 (.sref idr v off R.length 1 f)=some (.slit (R.flatMap intE) R.length false):=by
   have:=xco (objs:=m.get) (id:=idr) (cs:=cs) (ver:=v) (off:=off) (n:=R.length) (z:=1) (k:=3) (f:=false) (x:=f) gr (by omega) (by rw[xoa,hR];exact xbj xb6 R)
   rw[xoa,hR]at this
   exact this
  have e2:Go.Ix.frz m.get 5 (.slit (L.flatMap intE) L.length x)=some (.slit (L.flatMap intE) L.length x):=rfl
  have e3:Go.Ix.frz m.get deep (.sref idq 0 0 2 1 true)=some (.slit [.slit (L.flatMap intE) L.length x,.slit (R.flatMap intE) R.length false] 2 false):=by
   show(match m.get idq with|some (.row cs v _)=>if v=0/\0+2*1<=cs.length then(((cs.drop 0).take (2*1)).mapM (Go.Ix.frz m.get 5)).map (λl=>AV.slit l 2 false)else none|_=>none)=_
   rw[gq]
   simp only[xnp,xoj]
   rw[xmv (by simp)]
   simp only[xnc,List.take_succ_cons,xpo,xnw,xoo,e1,e2,show(2*1=2)from rfl]
   rfl
  simp only[xnw,xoo,e3]
  rfl
 obtain⟨M,c1,c2,c3⟩:=call4 (call:=x7v (d+2)) (f:=xn) (m':=m2) (ids:=[(m.next+1,s,22)]) hz h1 rfl (xln h2 (xjn _)) (by
  intro i hi
  rw[xoe]at hi
  subst hi
  exact⟨by show m.next<=m.next+1;omega,_,_,h2,xjn _⟩)
 refine⟨s,M,c1,?_,by rw[c2,h3],λj hj=>?_⟩
 .unfold OwnI
  rw[c3,xmv (by simp)];exact h2
 .rw[c3,xmw (by simpa using hj)]
section
variable{a b:AV}{A B':List Int}{n ca cb ov:Nat}{sh:Int}
structure JnM (A B':List Int) (n ca cb ov:Nat) (sh:Int) (a b:AV) (s8:Nat) (v:AV) (m:Mem):Prop where
 g2:m.get (0,0,2)=some (.row [I n,I ca,a,I n,I cb,b,I ov] 0 false)
 g4:m.get (0,1,4)=some (.row [I 0,I 0,nilS] 0 false)
 g5:m.get (0,4,5)=some (.row [I n,I cb,srI (1,5,7) B'.length] 0 false)
 gB:OwnI m (1,5,7) (shL sh B')
 g8:m.get (0,s8,8)=some (.row [I n,I (ca+cb-ov:Nat),v] 0 false)
 nx:2<=m.next
theorem JnM.frame{s8:Nat}{v:AV}{m m':Mem}(h:JnM A B' n ca cb ov sh a b s8 v m)(hn:2<=m'.next)(hf:∀j:Id,j=(0,0,2)\/j=(0,1,4)\/j=(0,4,5)\/j=(1,5,7)\/j=(0,s8,8)->m'.get j=m.get j):JnM A B' n ca cb ov sh a b s8 v m':=
 ⟨(hf _ (by simp)).trans h.g2,(hf _ (by simp)).trans h.g4,(hf _ (by simp)).trans h.g5,(hf _ (by simp)).trans h.gB,(hf _ (by simp)).trans h.g8,hn⟩
theorem l_fill(d:Nat)(hA:A.length=n*ca)(hB:B'.length=n*cb)(hn:n<=64)(hca:ca<=64)(hcb:cb<=64)(h0:1<=ca+cb-ov)(h1:ov<=ca)(h2:ov<=cb){r s8:Nat}(hr:r<n)(rec0:AV->AV->AV->AV->AV->AV->Mem->Nat->O2){v:AV}{acc:List Int}(hac:acc.length=r*(ca+cb-ov)){q sl nl:Nat}{cl:List AV}{x:Bool}(hq:2<=q)(hcl:nl=ca){Q:O2->Prop}(hnext:∀v' m fc,JnM A B' n ca cb ov sh a b s8 v' m->Gr 1 intE 0 122 m v' (acc++rowJ A B' ca cb ov sh r)->Q (rec0 (.ptr (0,0,2) 0 0) (.ptr (0,1,4) 0 0) (.ptr (0,4,5) 0 0) (.ptr (0,s8,8) 0 0) (I n) (I (r+1:Nat)) m fc)) :
 ∀(s k j:Nat) (m:Mem) (fc:Nat),k+s=ov->s<j->JnM A B' n ca cb ov sh a b s8 v m->Gr 1 intE 0 122 m v acc->OwnI m (q,sl,22) (x9e A B' ca cb ov sh r k) ->
  Q (x1n (x7v (d+2)) [] 0 rec0 j (.ptr (0,0,2) 0 0) (.ptr (0,1,4) 0 0) (.ptr (0,4,5) 0 0) (.ptr (0,s8,8) 0 0) (.slit cl nl x) (.sref (1,5,7) 0 (r*cb) cb 1 true) (srI (q,sl,22) (ca+cb-ov)) (I n) (I r) (I ov) (I k) m fc):=by
 subst hcl
 intro s
 induction s with
 |zero=>
  intro k j m fc hk hj hM hG hO
  obtain⟨j,rfl⟩:∃i,j=i+1:=⟨j-1,by omega⟩
  have hkk:k=ov:=by omega
  subst hkk
  have hlt:¬((k:Int)<(k:Int)):=by omega
  rw[lineL_end h1 h2]at hO
  have hrl:(rowJ A B' nl cb k sh r).length=nl+cb-k:=by unfold rowJ;simp
  have hne:rowJ A B' nl cb k sh r≠[]:=λh=>by rw[h]at hrl;simp at hrl;omega
  have w7:w64 ((r:Int)+1)=((r+1:Nat):Int):=by rw[x82 (by omega) (by omega)];omega
  have q3:r*(nl+cb-k)<=64*128:=xoh (by omega) (by omega)
  obtain⟨v',m',A1,G1,n1,f1⟩:=hG.apps (s0:=fc+1+3) (k:=rowJ A B' nl cb k sh r) (by unfold x83;rw[hac,hrl];omega) hne
  obtain⟨ho,hc⟩:=G1.own1
  have a1:sFA 2 (.ptr (0,s8,8) 0 0)=some (.ptr (0,s8,8) 0 2):=rfl
  have a2:sLd false 1 (.ptr (0,s8,8) 0 2) m=some v:=by rw[x7z hM.g8];rfl
  have el:elems m.get 1 (srI (q,sl,22) (nl+cb-k))=some ((rowJ A B' nl cb k sh r).flatMap intE,(rowJ A B' nl cb k sh r).length):=by
   have hO':m.get (q,sl,22)=some (.row ((rowJ A B' nl cb k sh r).flatMap intE) 0 false):=hO
   unfold elems
   simp only[hO']
   have:=xar (rowJ A B' nl cb k sh r)
   rw[xmv ⟨trivial,trivial,by omega⟩,xnc,xn9 (by omega),hrl]
  have M1:=hM.frame (m':=m') (by rw[n1];exact hM.nx) (λj hj=>f1 j (by rcases hj with rfl|rfl|rfl|rfl|rfl<;>simp))
  have S1:∀{R:Type} (K:Mem->Option R),sSt 1 (.ptr (0,s8,8) 0 2) v' m' K=K (m'.set (0,s8,8) (.row [I n,I (nl+cb-k:Nat),v'] 0 false)):=λK=>by
   rw[x8y (off:=2) (z:=1) (x:=v') (k:=K) M1.g8 (by rw[hc];rfl) (by simp) (by rw[hc];simp[ho]),hc];rfl
  simp only[x1n]
  unfold x33 x5j x5i
  simp only[x8m,hlt,xn2,x7x,x86,a1,a2,el,A1,S1,x8c,w7]
  refine hnext v' _ _ ⟨?_,?_,?_,?_,?_,M1.nx⟩ (G1.frame λs=>by rw[Mem.get_set_ne (by simp)])
  .rw[Mem.get_set_ne (by simp)];exact M1.g2
  .rw[Mem.get_set_ne (by simp)];exact M1.g4
  .rw[Mem.get_set_ne (by simp)];exact M1.g5
  .unfold OwnI;rw[Mem.get_set_ne (by simp)];exact M1.gB
  .rw[Mem.get_set_same]
 |succ s ih=>
  intro k j m fc hk hj hM hG hO
  obtain⟨j,rfl⟩:∃i,j=i+1:=⟨j-1,by omega⟩
  have hkv:k<ov:=by omega
  have hlt:(k:Int)<(ov:Int):=by omega
  have w1:w64 ((nl:Int)-ov)=((nl-ov:Nat):Int):=by rw[x82 (by omega) (by omega)];omega
  have w2:w64 (((nl-ov:Nat):Int)+k)=((nl-ov+k:Nat):Int):=by rw[x82 (by omega) (by omega)];omega
  have w7:w64 ((k:Int)+1)=((k+1:Nat):Int):=by rw[x82 (by omega) (by omega)];omega
  have fa:sFA 6 (.ptr (0,0,2) 0 0)=some (.ptr (0,0,2) 0 6):=rfl
  have l6:sLd false 1 (.ptr (0,0,2) 0 6) m=some (I ov):=by rw[x7z hM.g2];rfl
  have hO':m.get (q,sl,22)=some (.row ((x9e A B' nl cb ov sh r k).flatMap intE) 0 false):=hO
  have hll:(x9e A B' nl cb ov sh r k).length=nl+cb-ov:=xe6
  have ix:sIx 1 (srI (q,sl,22) (nl+cb-ov)) (I (nl-ov+k:Nat))=some (.ptr (q,sl,22) 0 (nl-ov+k)):=by
   have:=ix_own (id:=(q,sl,22)) (n:=nl+cb-ov) (k:=((nl-ov+k:Nat):Int)) (by omega) (by omega)
   rwa[show(((nl-ov+k:Nat):Int)).toNat=nl-ov+k from by omega]at this
  have ld1:sLd false 1 (.ptr (q,sl,22) 0 (nl-ov+k)) m=some (I (at0 A (r*nl+(nl-ov+k)))):=by
   rw[x7z hO',<-lineL_at (A:=A) (B':=B') (cb:=cb) (sh:=sh) (r:=r) hkv h1 h2]
   exact xf2 (by omega)
  have hlen:sLen Try.prog x7 (.slit cl nl x)=some (I nl):=rfl
  have ixr:sIx 1 (.sref (1,5,7) 0 (r*cb) cb 1 true) (I k)=some (.ptr (1,5,7) 0 (r*cb+k)):=by
   simp only[sIx,asI]
   rw[xmv ⟨by omega,by omega,trivial⟩,xoa,show((k:Int)).toNat=k from by omega]
  have i2:=xbm (n:=n) (c:=cb) (r:=r) (k:=k) hr (by omega)
  have hsl:(shL sh B').length=B'.length:=by unfold shL;simp
  have gB':m.get (1,5,7)=some (.row ((shL sh B').flatMap intE) 0 false):=hM.gB
  have ld2:sLd false 1 (.ptr (1,5,7) 0 (r*cb+k)) m=some (I (shF sh (at0 B' (r*cb+k)))):=by
   rw[x7z gB',<-xe5 sh B' (by omega)]
   exact xf2 (by omega)
  simp only[x1n]
  unfold x33 x5k
  simp only[x8m,hlt,xn4,x7x,x89,hlen,fa,l6,xbh,x8c,w1,w2,ix,ld1,xdb]
  have hnx:=xls (A:=A) (B':=B') (ca:=nl) (cb:=cb) (sh:=sh) (r:=r) hkv h1 h2
  by_cases c:at0 A (r*nl+(nl-ov+k))=void
  .rw[xmv c]at hnx
   have S1:∀{R:Type} (K:Mem->Option R),sSt 1 (.ptr (q,sl,22) 0 (nl-ov+k)) (I (shF sh (at0 B' (r*cb+k)))) m K=K (m.set (q,sl,22) (.row ((x9e A B' nl cb ov sh r (k+1)).flatMap intE) 0 false)):=λK=>by
    rw[hnx]
    exact st_own hO' (by omega) K
   simp only[c,xn4,x89,ixr,x7x,ld2,ix,S1]
   unfold x21
   simp only[x8c,x7x,w7]
   refine ih (k+1) j _ _ (by omega) (by omega) (hM.frame hM.nx λj hj=>Mem.get_set_ne ?_) (hG.frame λs=>Mem.get_set_ne (by simp)) ?_
   .rintro rfl
    rcases hj with h|h|h|h|h<;>(simp at h<;>omega)
   .unfold OwnI;rw[Mem.get_set_same]
  .rw[xmw c]at hnx
   simp only[c,xn2,x86]
   unfold x21
   simp only[x8c,x7x,w7]
   exact ih (k+1) j _ _ (by omega) (by omega) hM hG (by rw[hnx];exact hO)
theorem l_rows(d:Nat)(ha:Ints a A)(hA:A.length=n*ca)(hB:B'.length=n*cb)(hn:n<=64)(hca:ca<=64)(hcb:cb<=64)(hca1:1<=ca)(h0:1<=ca+cb-ov)(h1:ov<=ca)(h2:ov<=cb){s8:Nat} :
 ∀(s r j:Nat) (v:AV) (m:Mem) (fc:Nat),r+s=n->s<j->JnM A B' n ca cb ov sh a b s8 v m->Gr 1 intE 0 122 m v (((List.range n).take r).flatMap (rowJ A B' ca cb ov sh)) ->
  RetF (λx=>∃y,Ints y (jnL A B' ca cb ov n sh)/\x=.agg [I n,I (ca+cb-ov:Nat),y]) (x1o (x7v (d+2)) [] 0 j (.ptr (0,0,2) 0 0) (.ptr (0,1,4) 0 0) (.ptr (0,4,5) 0 0) (.ptr (0,s8,8) 0 0) (I n) (I r) m fc):=by
 intro s
 induction s with
 |zero=>
  intro r j v m fc hk hj hM hG
  obtain⟨j,rfl⟩:∃i,j=i+1:=⟨j-1,by omega⟩
  have hkk:r=n:=by omega
  subst hkk
  have hlt:¬((r:Int)<(r:Int)):=by omega
  rw[xn9 (by simp)]at hG
  obtain⟨ho,hc⟩:=hG.own1
  have l8:sLd true 3 (.ptr (0,s8,8) 0 0) m=some (.agg [I r,I (ca+cb-ov:Nat),v]):=by rw[x7z hM.g8];rfl
  obtain⟨M,hMM⟩:∃M:Mem,M=m.set (0,1,4) (.row [I r,I (ca+cb-ov:Nat),v] 0 false):=⟨_,rfl⟩
  have S1:∀{R:Type} (K:Mem->Option R),sSt 3 (.ptr (0,1,4) 0 0) (.agg [I r,I (ca+cb-ov:Nat),v]) m K=K M:=λK=>by
   rw[x8y (off:=0) (z:=3) (x:=.agg [I r,I (ca+cb-ov:Nat),v]) (k:=K) hM.g4 rfl (by simp) (by rw[x9z];simp[ho]),hMM];rfl
  have p4:M.get (0,1,4)=some (.row [I r,I (ca+cb-ov:Nat),v] 0 false):=by rw[hMM,Mem.get_set_same]
  have l4:sLdP true 3 (.ptr (0,1,4) 0 0) M=some (.agg [I r,I (ca+cb-ov:Nat),v]):=by show sLd true 3 (.ptr (0,1,4) 0 0) M=_;rw[x7z p4];rfl
  simp only[x1o]
  unfold x35 x5h
  simp only[x8m,hlt,xn2,x7x,x86,l8,S1,l4]
  obtain⟨y,hy,hz⟩:=(hG.frame (m':=M) λs=>by rw[hMM,Mem.get_set_ne (by simp)]).frzk x8n xb6 (k:=3)
  have hz5:Go.Ix.frz M.get deep (.agg [I r,I (ca+cb-ov:Nat),v])=some (.agg [I r,I (ca+cb-ov:Nat),y]):=by
   show([I r,I (ca+cb-ov:Nat),v].mapM (Go.Ix.frz M.get 5)).map AV.agg=_
   simp only[xnw,xoo,hz]
   rfl
  exact RetF.mk hz5 ⟨y,hy,rfl⟩
 |succ s ih=>
  intro r j v m fc hk hj hM hG
  obtain⟨j,rfl⟩:∃i,j=i+1:=⟨j-1,by omega⟩
  have hr:r<n:=by omega
  have hlt:(r:Int)<(n:Int):=by omega
  have q1:r*ca+ca<=n*ca:=by
   have:=xoh (show r+1<=n from hr) (xn3 ca);rwa[xnu]at this
  have q2:r*cb+cb<=n*cb:=by
   have:=xoh (show r+1<=n from hr) (xn3 cb);rwa[xnu]at this
  have k1:=x9h (c:=ca) (r:=r) (by omega) hca
  have k2:=x9h (c:=cb) (r:=r) (by omega) hcb
  have hsl:(shL sh B').length=B'.length:=by unfold shL;simp
  have c1:(r:Int)*(ca:Int)=((r*ca:Nat):Int):=by push_cast;rfl
  have c2:(r:Int)*(cb:Int)=((r*cb:Nat):Int):=by push_cast;rfl
  have w0:w64 ((r:Int)+1)=((r+1:Nat):Int):=by rw[x82 (by omega) (by omega)];omega
  have w1:w64 ((r:Int)*(ca:Int))=((r*ca:Nat):Int):=by rw[c1];exact x82 (by omega) (by omega)
  have w2:w64 (((r+1:Nat):Int)*(ca:Int))=((r*ca+ca:Nat):Int):=by
   rw[show((r+1:Nat):Int)*(ca:Int)=((r*ca+ca:Nat):Int) by push_cast;rw[Int.add_mul,Int.one_mul]]
   exact x82 (by omega) (by omega)
  have w3:w64 ((r:Int)*(cb:Int))=((r*cb:Nat):Int):=by rw[c2];exact x82 (by omega) (by omega)
  have w4:w64 (((r+1:Nat):Int)*(cb:Int))=((r*cb+cb:Nat):Int):=by
   rw[show((r+1:Nat):Int)*(cb:Int)=((r*cb+cb:Nat):Int) by push_cast;rw[Int.add_mul,Int.one_mul]]
   exact x82 (by omega) (by omega)
  have fa:∀o,sFA o (.ptr (0,0,2) 0 0)=some (.ptr (0,0,2) 0 o):=λo=>by rw[xa0,xng]
  have fb:∀o,sFA o (.ptr (0,4,5) 0 0)=some (.ptr (0,4,5) 0 o):=λo=>by rw[xa0,xng]
  have l1:sLd false 1 (.ptr (0,0,2) 0 1) m=some (I ca):=by rw[x7z hM.g2];rfl
  have l2:sLd false 1 (.ptr (0,0,2) 0 2) m=some a:=by rw[x7z hM.g2];rfl
  have l6:sLd false 1 (.ptr (0,0,2) 0 6) m=some (I ov):=by rw[x7z hM.g2];rfl
  have l51:sLd false 1 (.ptr (0,4,5) 0 1) m=some (I cb):=by rw[x7z hM.g5];rfl
  have l52:sLd false 1 (.ptr (0,4,5) 0 2) m=some (srI (1,5,7) B'.length):=by rw[x7z hM.g5];rfl
  have hAne:A≠[]:=by rintro rfl;simp at hA;omega
  obtain⟨cs,x,sl1,hcs⟩:=slice_mid ha hAne (lo:=r*ca) (k:=ca) (by omega)
  have sl2:x98 Try.prog x7 (srI (1,5,7) B'.length) (some (I (r*cb:Nat))) (some (I (r*cb+cb:Nat)))=some (.sref (1,5,7) 0 (r*cb) cb 1 true):=by
   have:=xlb (id:=(1,5,7)) (ver:=0) (off:=0) (n:=B'.length) (full:=true) (lo:=(r*cb:Nat)) (hi:=(r*cb+cb:Nat)) (by omega) (by omega) (by omega)
   rw[this,xng,show(((r*cb:Nat):Int)).toNat=r*cb from by omega,show(((r*cb+cb:Nat):Int)-((r*cb:Nat):Int)).toNat=cb from by omega]
  have sl3:x98 Try.prog x7 (.sref (1,5,7) 0 (r*cb) cb 1 true) (some (I ov)) none=some (.sref (1,5,7) 0 (r*cb+ov) (cb-ov) 1 true):=by
   have:=slice_lo (id:=(1,5,7)) (ver:=0) (off:=r*cb) (n:=cb) (full:=true) (lo:=(ov:Int)) (by omega) (by omega)
   rw[this,show((ov:Int)).toNat=ov from by omega]
  have hb0:=lineL_0 (A:=A) (B':=B') (sh:=sh) hA hB hr h1 h2
  have hLl:((A.drop (r*ca)).take ca).length=ca:=by rw[xom,xot];omega
  have hRl:((((shL sh B').drop (r*cb)).take cb).drop ov).length=cb-ov:=by rw[xot,xom,xot];omega
  have hLne:(A.drop (r*ca)).take ca≠[]:=λh=>by rw[h]at hLl;simp at hLl;omega
  have gB:m.get (1,5,7)=some (.row ((shL sh B').flatMap intE) 0 false):=hM.gB
  obtain⟨m1,hm1⟩:∃m1,m1=m.new (0,fc+1+36,92) (.row [.slit cs ca x,.sref (1,5,7) 0 (r*cb+ov) (cb-ov) 1 true] 0 false):=⟨_,rfl⟩
  have f1:∀j:Id,j≠(0,fc+1+36,92)->m1.get j=m.get j:=λj hj=>by rw[hm1,Mem.get_new_ne hj]
  have hmk:∀K:AV->Mem->O2,x9l x34 [(0,1,.slit cs ca x),(1,1,.sref (1,5,7) 0 (r*cb+ov) (cb-ov) 1 true)] 2 1 (0,fc+1+36,92) m K=K (.sref (0,fc+1+36,92) 0 0 2 1 true) m1:=λK=>by rw[mkLit_2s rfl rfl rfl rfl rfl,hm1]
  obtain⟨s',M,hc,hO,hMn,hMf⟩:=c_Concat d (L:=(A.drop (r*ca)).take ca) (R:=(((shL sh B').drop (r*cb)).take cb).drop ov) (nl:=ca) rfl hcs hLl.symm hLne (by omega) (by omega) (m:=m1) (idr:=(1,5,7)) (idq:=(0,fc+1+36,92)) (v:=0) (off:=r*cb+ov) (f:=true)
   (by rw[hm1,Mem.get_new_same,hRl]) ((f1 _ (by simp)).trans gB) (by have:=xar (shL sh B');omega) (by
    rw[hRl,xag,xag,<-xpj,<-List.map_take]
    congr 1
    rw[List.drop_take,List.drop_drop])
  have hmn:m1.next=m.next:=by rw[hm1];rfl
  rw[hb0,xe6]at hc
  rw[hb0]at hO
  rw[hmn]at hc hO hMn hMf
  have h2n:=hM.nx
  have hMM:JnM A B' n ca cb ov sh a b s8 v M:=hM.frame (by omega) λj hj=>by
   rw[hMf j (by rintro rfl;rcases hj with h|h|h|h|h<;>(simp at h<;>omega)),f1 j (by rintro rfl;rcases hj with h|h|h|h|h<;>simp at h)]
  have hGM:Gr 1 intE 0 122 M v (((List.range n).take r).flatMap (rowJ A B' ca cb ov sh)):=hG.frame λs=>by
   rw[hMf _ (by simp),f1 _ (by simp)]
  have hacl:(((List.range n).take r).flatMap (rowJ A B' ca cb ov sh)).length=r*(ca+cb-ov):=by
   rw[xdd (z:=ca+cb-ov) (λx=>by unfold rowJ;simp)]
   rw[xom,xpk,Nat.min_eq_left (by omega)]
  simp only[x1o]
  unfold x35 x5m x5l
  simp only[x8m,hlt,xn4,x7x,x89,fa,fb,l1,l2,l6,l51,l52,xc0,x8c,w0,w1,w2,w3,w4,sl1,sl2,sl3,hmk,hc]
  have l6':sLd false 1 (.ptr (0,0,2) 0 6) M=some (I ov):=by rw[x7z hMM.g2];rfl
  simp only[l6',x7x]
  refine l_fill d hA hB hn hca hcb h0 h1 h2 hr _ hacl (q:=m.next+1) (by omega) rfl (λv' m' fc' hM' hG'=>?_) ov 0 NN M _ (by omega) (by rw[x9s];omega) hMM hGM hO
  refine ih (r+1) j v' m' _ (by omega) (by omega) hM' ?_
  rw[show(List.range n).take (r+1)=(List.range n).take r++[r] by rw[List.take_add_one];simp[hr],List.flatMap_append,xo1,xqa,xp3]
  exact hG'
theorem l_shB(d:Nat)(hB:B'.length<=5000)(hsh:-1000000<=sh/\sh<=1000000)(hPB:∀y∈B',y=void\/isP y=true){Q:O2->Prop}(hnext:∀m fc,m.get (0,0,2)=some (.row [I n,I ca,a,I n,I cb,b,I ov] 0 false)->m.get (0,1,4)=some (.row [I 0,I 0,nilS] 0 false)->m.get (0,4,5)=some (.row [I n,I cb,srI (1,5,7) B'.length] 0 false)->OwnI m (1,5,7) (shL sh B')->m.next=2 ->
 Q (x36 (x7v (d+2)) [] 0 (.ptr (0,0,2) 0 0) (.ptr (0,1,4) 0 0) (.ptr (0,4,5) 0 0) m fc)) :
 ∀(s k j:Nat) (m:Mem) (fc:Nat),k+s=B'.length->s<j->m.get (0,0,2)=some (.row [I n,I ca,a,I n,I cb,b,I ov] 0 false)->m.get (0,1,4)=some (.row [I 0,I 0,nilS] 0 false)->m.get (0,4,5)=some (.row [I n,I cb,srI (1,5,7) B'.length] 0 false)->OwnI m (1,5,7) ((shL sh B').take k++B'.drop k)->m.next=2 ->
  Q (x1p (x7v (d+2)) [] 0 j (I sh) (.ptr (0,0,2) 0 0) (.ptr (0,1,4) 0 0) (.ptr (0,4,5) 0 0) (srI (1,5,7) B'.length) (I B'.length) (I k) m fc):=by
 have hsl:(shL sh B').length=B'.length:=by unfold shL;simp
 intro s
 induction s with
 |zero=>
  intro k j m fc hk hj g2 g4 g5 gB hnx
  obtain⟨j,rfl⟩:∃i,j=i+1:=⟨j-1,by omega⟩
  have hlt:¬((k:Int)<(B'.length:Int)):=by omega
  rw[xn9 (by omega),xp6 (by omega),xp3]at gB
  simp only[x1p]
  unfold x37
  simp only[x8m,hlt,xn2,x7x,x86]
  exact hnext m _ g2 g4 g5 gB hnx
 |succ s ih=>
  intro k j m fc hk hj g2 g4 g5 gB hnx
  obtain⟨j,rfl⟩:∃i,j=i+1:=⟨j-1,by omega⟩
  have hkl:k<B'.length:=by omega
  have hlt:(k:Int)<(B'.length:Int):=by omega
  have gB':m.get (1,5,7)=some (.row (((shL sh B').take k++B'.drop k).flatMap intE) 0 false):=gB
  have hcl:((shL sh B').take k++B'.drop k).length=B'.length:=by simp[hsl];omega
  have ix:sIx 1 (srI (1,5,7) B'.length) (I k)=some (.ptr (1,5,7) 0 k):=by
   have:=ix_own (id:=(1,5,7)) (n:=B'.length) (k:=(k:Int)) (by omega) hlt
   rwa[show((k:Int)).toNat=k from by omega]at this
  have hat:at0 ((shL sh B').take k++B'.drop k) k=at0 B' k:=by
   have h1:=at0_right (l:=(shL sh B').take k) (k:=B'.drop k) (i:=0)
   rw[xom,Nat.min_eq_left (by omega),xoi]at h1
   rw[h1,x8j (by simp;omega),x8j hkl]
   simp
  have ld1:sLd false 1 (.ptr (1,5,7) 0 k) m=some (I (at0 B' k)):=by
   rw[x7z gB',<-hat];exact xf2 (by omega)
  have hxP:=hPB (at0 B' k) (by rw[x8j hkl];exact List.getElem_mem hkl)
  obtain⟨h64,h64'⟩:=xez (t:=sh) hsh hxP
  have w7:w64 ((k:Int)+1)=((k+1:Nat):Int):=by rw[x82 (by omega) (by omega)];omega
  have hstep:((shL sh B').take k++B'.drop k).set k (shF sh (at0 B' k))=(shL sh B').take (k+1)++B'.drop (k+1):=by
   rw[<-xe5 sh B' hkl,x8j (show k<(shL sh B').length by omega)]
   exact xlq hkl (by omega)
  simp only[x1p]
  unfold x37 x5o
  simp only[x8m,hlt,xn4,x7x,x89,ix,ld1,xdb,xa6]
  by_cases c:at0 B' k=void
  .simp only[c,xn4,xnb,x86]
   unfold x22
   simp only[x8c,x7x,w7]
   refine ih (k+1) j m _ (by omega) (by omega) g2 g4 g5 ?_ hnx
   rw[<-hstep,c,show shF sh void=void from by unfold shF;rw[xmv rfl]]
   have:((shL sh B').take k++B'.drop k).set k void=(shL sh B').take k++B'.drop k:=by
    rw[<-c,<-hat,x8j (by omega)]
    exact List.set_getElem_self (by omega)
   rw[this]
   exact gB
  .have fb:sFA 2 (.ptr (0,4,5) 0 0)=some (.ptr (0,4,5) 0 2):=rfl
   have l52:sLd false 1 (.ptr (0,4,5) 0 2) m=some (srI (1,5,7) B'.length):=by rw[x7z g5];rfl
   have S1:∀{R:Type} (K:Mem->Option R),sSt 1 (.ptr (1,5,7) 0 k) (I (shF sh (at0 B' k))) m K=K (m.set (1,5,7) (.row (((shL sh B').take (k+1)++B'.drop (k+1)).flatMap intE) 0 false)):=λK=>by
    rw[st_own gB' (by omega) K,hstep]
   simp only[c,xn2,xn8,x89,fb,x7x,l52,xc0,h64,x8c,h64' c,ix,S1]
   unfold x22
   simp only[x8c,x7x,w7]
   refine ih (k+1) j _ _ (by omega) (by omega) ?_ ?_ ?_ ?_ hnx
   .rw[Mem.get_set_ne (by simp)];exact g2
   .rw[Mem.get_set_ne (by simp)];exact g4
   .rw[Mem.get_set_ne (by simp)];exact g5
   .unfold OwnI;rw[Mem.get_set_same]
theorem r_joined(d:Nat)(ha:Ints a A)(hA:A.length=n*ca)(hb:Ints b B')(hB:B'.length=n*cb)(hn:n<=64)(hn1:1<=n)(hca:ca<=64)(hcb:cb<=64)(hca1:1<=ca)(hcb1:1<=cb)(h1:ov<=ca)(h2:ov<=cb)(hsh:-1000000<=sh/\sh<=1000000)(hPB:∀y∈B',y=void\/isP y=true) :
 RetF (λx=>∃y,Ints y (jnL A B' ca cb ov n sh)/\x=.agg [I n,I (ca+cb-ov:Nat),y]) (x7v (d+3) [] xu [.agg [I n,I ca,a,I n,I cb,b,I ov],I sh] mem0):=by
 have k2:=x9h (c:=cb) (r:=n) hn hcb
 have hBne:B'≠[]:=by
  rintro rfl
  have:=xoh hn1 hcb1
  simp at hB;omega
 obtain⟨mC,e1,e2,e3⟩:=a_Clone (d+1) hb hBne (by omega) 1
 rw[x6m]
 unfold x43 x38
 simp only[mem0]
 have ho:(AV.agg [I n,I ca,a,I n,I cb,b,I ov]).cells.all AV.one=true:=by rw[x9z];simp[ha.one,hb.one]
 simp only[xgc,ho,x94,xbi,x8s]
 have x1:(0:Nat)+1=1:=rfl
 have x4:(0:Nat)+4=4:=rfl
 rw[x1,x4]
 generalize hm0:Mem.new (Mem.new _ _ _) _ _=m0
 have g2:m0.get (0,0,2)=some (.row [I n,I ca,a,I n,I cb,b,I ov] 0 false):=by rw[<-hm0];simp
 have g4:m0.get (0,1,4)=some (.row [I 0,I 0,nilS] 0 false):=by rw[<-hm0];simp
 have hnx:m0.next=1:=by rw[<-hm0];rfl
 have fa:sFA 3 (.ptr (0,0,2) 0 0)=some (.ptr (0,0,2) 0 3):=rfl
 have l3:sLd true 3 (.ptr (0,0,2) 0 3) m0=some (.agg [I n,I cb,b]):=by rw[x7z g2];rfl
 simp only[fa,x7x,l3]
 obtain⟨m1,hm1⟩:∃m1,m1=(m0.new (0,4,5) (.row [I 0,I 0,nilS] 0 false)).set (0,4,5) (.row [I n,I cb,b] 0 false):=⟨_,rfl⟩
 have S1:∀{R:Type} (K:Mem->Option R),sSt 3 (.ptr (0,4,5) 0 0) (.agg [I n,I cb,b]) (m0.new (0,4,5) (.row [I 0,I 0,nilS] 0 false)) K=K m1:=λK=>by
  rw[x8y (cs:=[I 0,I 0,nilS]) (off:=0) (z:=3) (x:=.agg [I n,I cb,b]) (k:=K) (by rw[Mem.get_new_same]) rfl (by simp) (by rw[x9z];simp[hb.one]),hm1];rfl
 have g5:m1.get (0,4,5)=some (.row [I n,I cb,b] 0 false):=by rw[hm1,Mem.get_set_same]
 have f1:∀j:Id,j≠(0,4,5)->m1.get j=m0.get j:=λj hj=>by rw[hm1,Mem.get_set_ne hj,Mem.get_new_ne hj]
 have hn1':m1.next=1:=by rw[hm1];exact hnx
 have fb:sFA 2 (.ptr (0,4,5) 0 0)=some (.ptr (0,4,5) 0 2):=rfl
 have l52:sLd false 1 (.ptr (0,4,5) 0 2) m1=some b:=by rw[x7z g5];rfl
 obtain⟨M,hM,hMn,hMg⟩:=call1 (call:=x7v (d+2)) (f:=xv) (m:=m1) (l:=[b]) (m':=mC) (r:=srI (m1.next,5,7) B'.length) (by simp[hb.clean]) (by rw[hn1'];exact e1)
 rw[hn1']at hM hMg
 have hMo:∀j:Id,j.1=0->M.get j=m1.get j:=λj hj=>by rw[hMg,xmw (by omega)]
 obtain⟨M2,hM2⟩:∃M2,M2=M.set (0,4,5) (.row [I n,I cb,srI (1,5,7) B'.length] 0 false):=⟨_,rfl⟩
 have S2:∀{R:Type} (K:Mem->Option R),sSt 1 (.ptr (0,4,5) 0 2) (srI (1,5,7) B'.length) M K=K M2:=λK=>by
  rw[x8y (off:=2) (z:=1) (x:=srI (1,5,7) B'.length) (k:=K) ((hMo _ rfl).trans g5) rfl (by simp) rfl,hM2];rfl
 simp only[S1,fb,x7x,l52,hM,S2]
 unfold x5p
 have g5':M2.get (0,4,5)=some (.row [I n,I cb,srI (1,5,7) B'.length] 0 false):=by rw[hM2,Mem.get_set_same]
 have l52':sLd false 1 (.ptr (0,4,5) 0 2) M2=some (srI (1,5,7) B'.length):=by rw[x7z g5'];rfl
 have hlen:sLen Try.prog x7 (srI (1,5,7) B'.length)=some (I B'.length):=rfl
 simp only[fb,x7x,l52',hlen]
 refine l_shB (a:=a) (b:=b) (ca:=ca) (ov:=ov) d (by omega) hsh hPB (λm fc h2' h4' h5' hB' hnx'=>?_) B'.length 0 NN M2 _ (by omega) (by rw[x9s];omega) ?_ ?_ g5' ?_ ?_
 .unfold x36 x5n
  have fa':∀o,sFA o (.ptr (0,0,2) 0 0)=some (.ptr (0,0,2) 0 o):=λo=>by rw[xa0,xng]
  have fb1:sFA 1 (.ptr (0,4,5) 0 0)=some (.ptr (0,4,5) 0 1):=rfl
  have k0:sLd false 1 (.ptr (0,0,2) 0 0) m=some (I n):=by rw[x7z h2'];rfl
  have k1:sLd false 1 (.ptr (0,0,2) 0 1) m=some (I ca):=by rw[x7z h2'];rfl
  have k6:sLd false 1 (.ptr (0,0,2) 0 6) m=some (I ov):=by rw[x7z h2'];rfl
  have k51:sLd false 1 (.ptr (0,4,5) 0 1) m=some (I cb):=by rw[x7z h5'];rfl
  have w1:w64 ((ca:Int)+cb)=((ca+cb:Nat):Int):=by rw[x82 (by omega) (by omega)];omega
  have w2:w64 (((ca+cb:Nat):Int)-ov)=((ca+cb-ov:Nat):Int):=by rw[x82 (by omega) (by omega)];omega
  have hbb:x8i [I 0,I 0,nilS] [(0,1,I n),(1,1,I (ca+cb-ov:Nat))]=some (.agg [I n,I (ca+cb-ov:Nat),nilS]):=rfl
  obtain⟨m3,hm3⟩:∃m3,m3=(m.new (0,fc+13,8) (.row [I 0,I 0,nilS] 0 false)).set (0,fc+13,8) (.row [I n,I (ca+cb-ov:Nat),nilS] 0 false):=⟨_,rfl⟩
  have S3:∀{R:Type} (K:Mem->Option R),sSt 3 (.ptr (0,fc+13,8) 0 0) (.agg [I n,I (ca+cb-ov:Nat),nilS]) (m.new (0,fc+13,8) (.row [I 0,I 0,nilS] 0 false)) K=K m3:=λK=>by
   rw[x8y (cs:=[I 0,I 0,nilS]) (off:=0) (z:=3) (x:=.agg [I n,I (ca+cb-ov:Nat),nilS]) (k:=K) (by rw[Mem.get_new_same]) rfl (by simp) rfl,hm3];rfl
  have f3:∀j:Id,j≠(0,fc+13,8)->m3.get j=m.get j:=λj hj=>by rw[hm3,Mem.get_set_ne hj,Mem.get_new_ne hj]
  have k0':sLd false 1 (.ptr (0,0,2) 0 0) m3=some (I n):=by rw[x7z ((f3 _ (by simp)).trans h2')];rfl
  simp only[fa',fb1,x7x,k0,k1,k6,k51,x8c,xbh,w1,w2,x8s,hbb,xbi,S3,k0']
  refine l_rows d ha hA hB hn hca hcb hca1 (by omega) h1 h2 n 0 NN nilS m3 _ (by omega) (by rw[x9s];omega) ⟨(f3 _ (by simp)).trans h2',(f3 _ (by simp)).trans h4',(f3 _ (by simp)).trans h5',(f3 _ (by simp)).trans hB',by rw[hm3,Mem.get_set_same],?_⟩ Gr.nil
  rw[hm3];show 2<=m.next;omega
 .rw[hM2,Mem.get_set_ne (by simp),hMo _ rfl,f1 _ (by simp)];exact g2
 .rw[hM2,Mem.get_set_ne (by simp),hMo _ rfl,f1 _ (by simp)];exact g4
 .unfold OwnI
  rw[hM2,Mem.get_set_ne (by simp),hMg,xmv (by simp),xpo,xof,xnc]
  exact e2
 .rw[hM2];show M.next=2;rw[hMn,e3]
end
end Go.Ix
