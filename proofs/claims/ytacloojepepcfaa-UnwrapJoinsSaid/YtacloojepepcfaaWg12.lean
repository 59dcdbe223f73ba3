import Derived.Test.YtacloojepepcfaaWg4
import Derived.Test.YtacloojepepcfaaWg11
set_option linter.unusedSimpArgs false
set_option linter.unusedVariables false
set_option maxRecDepth 10000
namespace Go.Ix
open Go.Proofs
theorem xjl:∀(E:List (Int×Int)) (p:Int),setKey (.int .i64 p) (I ((lkp E p).getD 0+1)) (mpE E)=mpE (addC E p)
 |[],p=>rfl
 |x::r,p=>by
  have ih:=xjl r p
  unfold mpE at ih ⊢
  simp only[xn5,setKey,xjj,lkp,addC]
  by_cases c:p=x.1
  .simp[c]
  .simp only[c,xn2,xnm,xne,ih,xn5]
theorem up_addC{R:Type}(id:Id)(E:List (Int×Int))(p:Int)(m:Mem)(k:Mem->Option R)(h:m.get id=some (.map (mpE E))):xby Try.prog x1l (.mp id) (I p) (I ((lkp E p).getD 0+1)) m k=k (m.set id (.map (mpE (addC E p)))):=by
 unfold xby
 simp only[um_map,um_int,x85,h]
 rw[xmv (xjk E p),xjl]
theorem lkp_mem:∀{E:List (Int×Int)} {p v:Int},lkp E p=some v->(p,v)∈E
 |[],p,v,h=>by simp[lkp]at h
 |x::r,p,v,h=>by
  unfold lkp at h
  split at h
  .rename_i e
   cases h
   rw[e];exact xnd
  .exact xn6 _ (lkp_mem h)
theorem Cn.lkp{E:List (Int×Int)}{l:List Int}(h:Cn E l)(p:Int):0<=(lkp E p).getD 0/\(Go.Ix.lkp E p).getD 0<=l.length:=by
 cases e:Go.Ix.lkp E p with
 |none=>exact⟨xp8 _,by simp⟩
 |some v=>
  obtain⟨h1,h2⟩:=h.cnt _ (lkp_mem e)
  dsimp only at h1
  have:=List.count_le_length (a:=p) (l:=l)
  simp only[Option.getD_some]
  omega
theorem xjm{A B:List Int}{ca cb ov r k:Nat}(h:k<ov):(ovR A B ca cb ov r).drop k=(at0 A (r*ca+(ca-ov)+k),at0 B (r*cb+k))::(ovR A B ca cb ov r).drop (k+1):=by
 unfold ovR
 rw[xp4 (by simpa using h)]
 simp
theorem ovR_end{A B:List Int}{ca cb ov r:Nat}:(ovR A B ca cb ov r).drop ov=[]:=by
 unfold ovR
 rw[xp5]
 simp
theorem xbm{n c r k:Nat}(h:r<n)(hk:k<c):r*c+k<n*c:=by
 have:=xoh (show r+1<=n from h) (xn3 c)
 rw[xnu]at this
 omega
theorem x9h{c r:Nat}(h:r<=64)(hk:c<=64):r*c<=4096:=xoh h hk
def VotQ(u:Nat)(tot:Option (List Int))(r:O2):Prop:=
 ∃m',m'.next=u+1/\match tot with
  |none=>r=some (.tup [.sc (.map none),B false],m')
  |some l=>r=some (.tup [.mp (u,3,9),B true],m')/\∃E,Cn E l/\m'.get (u,3,9)=some (.map (mpE E))
section
variable{a b:AV}{A B':List Int}{n ca cb ov u:Nat}{tot:Option (List Int)}
theorem l_votesI(d:Nat)(ha:Ints a A)(hA:A.length=n*ca)(hb:Ints b B')(hB:B'.length=n*cb)(hn:n<=64)(hca:ca<=64)(hcb:cb<=64)(h1:ov<=ca)(h2:ov<=cb)(hPA:∀y∈A,y=void\/isP y=true)(hPB:∀y∈B',y=void\/isP y=true)(rec0:AV->AV->AV->AV->Mem->Nat->O2){r:Nat}(hr:r<n)(rest:List (Int×Int))(hnext:∀E acc m fc,Cn E acc->acc.length<=(r+1)*64->m.get (u,0,1)=some (.row [I n,I ca,a,I n,I cb,b,I ov] 0 false)->m.get (u,3,9)=some (.map (mpE E))->m.next=u+1->tot=(votL rest).map (acc++·)->VotQ u tot (x2z (x7v (d+1)) [] u rec0 (.ptr (u,0,1) 0 0) (.mp (u,3,9)) (I n) (I r) m fc)) :
 ∀(s k j:Nat) (E:List (Int×Int)) (acc:List Int) (m:Mem) (fc:Nat),k+s=ov->s<j->Cn E acc->acc.length<=r*64+k->m.get (u,0,1)=some (.row [I n,I ca,a,I n,I cb,b,I ov] 0 false)->m.get (u,3,9)=some (.map (mpE E))->m.next=u+1 ->
  tot=(votL ((ovR A B' ca cb ov r).drop k++rest)).map (acc++·) ->
  VotQ u tot (x11 (x7v (d+1)) [] u rec0 j (.ptr (u,0,1) 0 0) (.mp (u,3,9)) (I r) (I n) (I r) (I ov) (I k) m fc):=by
 intro s
 induction s with
 |zero=>
  intro k j E acc m fc hk hj hE hac g1 g9 hnx ht
  obtain⟨j,rfl⟩:∃i,j=i+1:=⟨j-1,by omega⟩
  have hkk:k=ov:=by omega
  subst hkk
  have hlt:¬((k:Int)<(k:Int)):=by omega
  rw[ovR_end,xof]at ht
  simp only[x11]
  unfold x30
  simp only[x8m,hlt,xn2,x7x,x86]
  exact hnext E acc m _ hE (by omega) g1 g9 hnx ht
 |succ s ih=>
  intro k j E acc m fc hk hj hE hac g1 g9 hnx ht
  obtain⟨j,rfl⟩:∃i,j=i+1:=⟨j-1,by omega⟩
  have hkv:k<ov:=by omega
  have hlt:(k:Int)<(ov:Int):=by omega
  rw[xjm hkv,xp2]at ht
  have i1:=xbm (n:=n) (c:=ca) (r:=r) (k:=(ca-ov)+k) hr (by omega)
  have i2:=xbm (n:=n) (c:=cb) (r:=r) (k:=k) hr (by omega)
  have q1:=x9h (c:=ca) (r:=r) (by omega) hca
  have q2:=x9h (c:=cb) (r:=r) (by omega) hcb
  have c1:(r:Int)*(ca:Int)=((r*ca:Nat):Int):=by push_cast;rfl
  have c2:(r:Int)*(cb:Int)=((r*cb:Nat):Int):=by push_cast;rfl
  have w1:w64 ((r:Int)*(ca:Int))=((r*ca:Nat):Int):=by rw[c1];exact x82 (by omega) (by omega)
  have w2:w64 (((r*ca:Nat):Int)+ca)=((r*ca+ca:Nat):Int):=by rw[x82 (by omega) (by omega)];omega
  have w3:w64 (((r*ca+ca:Nat):Int)-ov)=((r*ca+(ca-ov):Nat):Int):=by rw[x82 (by omega) (by omega)];omega
  have w4:w64 (((r*ca+(ca-ov):Nat):Int)+k)=((r*ca+(ca-ov)+k:Nat):Int):=by rw[x82 (by omega) (by omega)];omega
  have w5:w64 ((r:Int)*(cb:Int))=((r*cb:Nat):Int):=by rw[c2];exact x82 (by omega) (by omega)
  have w6:w64 (((r*cb:Nat):Int)+k)=((r*cb+k:Nat):Int):=by rw[x82 (by omega) (by omega)];omega
  have w7:w64 ((k:Int)+1)=((k+1:Nat):Int):=by rw[x82 (by omega) (by omega)];omega
  have ixA:=ha.ix x8n (k:=r*ca+(ca-ov)+k) (by omega)
  have ixB:=hb.ix x8n (k:=r*cb+k) (by omega)
  obtain⟨x,hx⟩:∃x,x=at0 A (r*ca+(ca-ov)+k):=⟨_,rfl⟩
  obtain⟨y,hy⟩:∃y,y=at0 B' (r*cb+k):=⟨_,rfl⟩
  have ldA:∀m,sLd false 1 (.plit ((A.drop (r*ca+(ca-ov)+k)).flatMap intE)) m=some (I x):=λm=>by rw[xa7 (by omega),hx]
  have ldB:∀m,sLd false 1 (.plit ((B'.drop (r*cb+k)).flatMap intE)) m=some (I y):=λm=>by rw[xa7 (by omega),hy]
  have hxP:x=void\/isP x=true:=by rw[hx,x8j (by omega)];exact hPA _ (List.getElem_mem _)
  have hyP:y=void\/isP y=true:=by rw[hy,x8j (by omega)];exact hPB _ (List.getElem_mem _)
  rw[<-hx,<-hy]at ht
  have fa:∀o,sFA o (.ptr (u,0,1) 0 0)=some (.ptr (u,0,1) 0 o):=λo=>by rw[xa0,xng]
  have fa3:∀o,sFA o (.ptr (u,0,1) 0 3)=some (.ptr (u,0,1) 0 (3+o)):=λo=>rfl
  have l1:sLd false 1 (.ptr (u,0,1) 0 1) m=some (I ca):=by rw[x7z g1];rfl
  have l2:sLd false 1 (.ptr (u,0,1) 0 2) m=some a:=by rw[x7z g1];rfl
  have l4:sLd false 1 (.ptr (u,0,1) 0 (3+1)) m=some (I cb):=by rw[x7z g1];rfl
  have l5:sLd false 1 (.ptr (u,0,1) 0 (3+2)) m=some b:=by rw[x7z g1];rfl
  have l6:sLd false 1 (.ptr (u,0,1) 0 6) m=some (I ov):=by rw[x7z g1];rfl
  simp only[x11]
  unfold x30 x5e
  simp only[x8m,hlt,xn4,x7x,x89,fa,fa3,l1,l2,l4,l5,l6,xc0,x8c,xbh,w1,w2,w3,w4,w5,w6,ixA,ldA,ixB,ldB,xdb,xaq,xe1,sW_f]
  have skip:(x=void\/y=void)->∀fc',VotQ u tot (x1k (x7v (d+1)) [] u rec0 (x11 (x7v (d+1)) [] u rec0 j) (.ptr (u,0,1) 0 0) (.mp (u,3,9)) (I r) (I n) (I r) (I ov) (I k) m fc'):=by
   intro hv fc'
   unfold x1k
   simp only[x8c,x7x,w7]
   refine ih (k+1) j E acc m _ (by omega) (by omega) hE (by omega) g1 g9 hnx ?_
   rw[ht]
   simp only[votL]
   rw[xmv hv]
  by_cases cx:x=void
  .simp only[cx,xn4,xnb,x99,x7x,x9m,x94,x89]
   exact skip (.inl cx) _
  simp only[cx,xn2,xn8,x94,x7x,xdb,x9m,x99]
  by_cases cy:y=void
  .simp only[cy,xn4,x89]
   exact skip (.inr cy) _
  have hxi:=wi_t (hxP.resolve_left cx)
  have hyi:=wi_t (hyP.resolve_left cy)
  have w8:w64 (x-y)=x-y:=x82 (by omega) (by omega)
  simp only[cy,xn2,x86,w8,sRem_I (show(4096:Int)≠0 by decide),x9x,x7x,tmod_zero]
  simp only[votL,show ¬(x=void\/y=void)from λh=>h.elim cx cy,xne]at ht
  by_cases cm:(x-y) % 4096=0
  .rw[xmv cm]at ht
   have hq:-200000<=(x-y).tdiv 4096/\(x-y).tdiv 4096<=200000:=by
    obtain⟨q,hq⟩:∃q,x-y=4096*q:=⟨(x-y) / 4096,by omega⟩
    rw[hq,Int.mul_tdiv_cancel_left _ (by omega)]
    omega
   have w9:w64 ((x-y).tdiv 4096)=(x-y).tdiv 4096:=x82 (by omega) (by omega)
   simp only[cm,xn4,xnb,x86,sQuo_I (show(4096:Int)≠0 by decide),x7x]
   generalize (x-y).tdiv 4096=p at ht hq w9 ⊢
   have hlk:=hE.lkp p
   have hac2:r*64<=4096:=x9h (by omega) (xn3 _)
   have w10:w64 ((lkp E p).getD 0+1)=(lkp E p).getD 0+1:=x82 (by omega) (by omega)
   have U:∀K:Mem->O2,xby Try.prog x1l (.mp (u,3,9)) (I p) (I ((lkp E p).getD 0+1)) m K=K (m.set (u,3,9) (.map (mpE (addC E p)))):=λK=>up_addC _ E p m K g9
   simp only[w9,x7x,look_at _ E p m g9,x8c,w10,U]
   unfold x1k
   simp only[x8c,x7x,w7]
   refine ih (k+1) j (addC E p) (acc++[p]) _ _ (by omega) (by omega) (hE.add p) (by simp;omega) ?_ ?_ hnx ?_
   .rw[Mem.get_set_ne (by simp)];exact g1
   .rw[Mem.get_set_same]
   .rw[ht]
    cases votL ((ovR A B' ca cb ov r).drop (k+1)++rest)with
    |none=>rfl
    |some l=>simp
  .rw[xmw cm]at ht
   simp only[cm,xn2,xn8,x89]
   subst ht
   exact⟨m,hnx,rfl⟩
theorem l_votes(d:Nat)(ha:Ints a A)(hA:A.length=n*ca)(hb:Ints b B')(hB:B'.length=n*cb)(hn:n<=64)(hca:ca<=64)(hcb:cb<=64)(h1:ov<=ca)(h2:ov<=cb)(hPA:∀y∈A,y=void\/isP y=true)(hPB:∀y∈B',y=void\/isP y=true) :
 ∀(s r j:Nat) (E:List (Int×Int)) (acc:List Int) (m:Mem) (fc:Nat),r+s=n->s<j->Cn E acc->acc.length<=r*64->m.get (u,0,1)=some (.row [I n,I ca,a,I n,I cb,b,I ov] 0 false)->m.get (u,3,9)=some (.map (mpE E))->m.next=u+1 ->
  tot=(votL (((List.range n).drop r).flatMap (ovR A B' ca cb ov))).map (acc++·) ->
  VotQ u tot (x1m (x7v (d+1)) [] u j (.ptr (u,0,1) 0 0) (.mp (u,3,9)) (I n) (I r) m fc):=by
 intro s
 induction s with
 |zero=>
  intro r j E acc m fc hk hj hE hac g1 g9 hnx ht
  obtain⟨j,rfl⟩:∃i,j=i+1:=⟨j-1,by omega⟩
  have hkk:r=n:=by omega
  subst hkk
  have hlt:¬((r:Int)<(r:Int)):=by omega
  rw[xp6 (by simp),xqa]at ht
  simp only[x1m]
  unfold x31 x5d
  simp only[x8m,hlt,xn2,x7x,x86]
  have ht':tot=some acc:=by rw[ht];simp[votL]
  subst ht'
  exact⟨m,hnx,rfl,E,hE,g9⟩
 |succ s ih=>
  intro r j E acc m fc hk hj hE hac g1 g9 hnx ht
  obtain⟨j,rfl⟩:∃i,j=i+1:=⟨j-1,by omega⟩
  have hr:r<n:=by omega
  have hlt:(r:Int)<(n:Int):=by omega
  have w7:w64 ((r:Int)+1)=((r+1:Nat):Int):=by rw[x82 (by omega) (by omega)];omega
  have fa:sFA 6 (.ptr (u,0,1) 0 0)=some (.ptr (u,0,1) 0 6):=rfl
  have l6:sLd false 1 (.ptr (u,0,1) 0 6) m=some (I ov):=by rw[x7z g1];rfl
  rw[show(List.range n).drop r=r::(List.range n).drop (r+1) by rw[xp4 (by simpa using hr)];simp,xo1]at ht
  simp only[x1m]
  unfold x31 x5f
  simp only[x8m,hlt,xn4,x7x,x89,fa,l6]
  refine l_votesI d ha hA hb hB hn hca hcb h1 h2 hPA hPB _ hr _ (λE' acc' m' fc' hE' hac' g1' g9' hnx' ht'=>?_) ov 0 NN E acc m _ (by omega) (by rw[x9s];omega) hE (by omega) g1 g9 hnx (by rw[xnc];exact ht)
  unfold x2z
  simp only[x8c,x7x,w7]
  exact ih (r+1) j E' acc' m' _ (by omega) (by omega) hE' hac' g1' g9' hnx' ht'
theorem a_votes(d:Nat)(ha:Ints a A)(hA:A.length=n*ca)(hb:Ints b B')(hB:B'.length=n*cb)(hn:n<=64)(hca:ca<=64)(hcb:cb<=64)(h1:ov<=ca)(h2:ov<=cb)(hPA:∀y∈A,y=void\/isP y=true)(hPB:∀y∈B',y=void\/isP y=true) :
 VotQ u (votL (ovL A B' ca cb ov n)) (x7v (d+2) [] xl [.agg [I n,I ca,a,I n,I cb,b,I ov]] ⟨[],u⟩):=by
 rw[x6l]
 unfold x42 x32 x5g
 simp[ha.one,hb.one,sMkMap]
 refine l_votes d ha hA hb hB hn hca hcb h1 h2 hPA hPB n 0 NN [] [] _ _ (by omega) (by rw[x9s];omega) Cn.nil (by simp) ?_ ?_ rfl ?_
 .simp
 .simp;rfl
 .unfold ovL;simp
end
inductive Reach (nb:Nat->List Int) (r:Nat):Nat->Prop
 |refl:Reach nb r r
 |step {a b:Nat}:Reach nb r a->(b:Int)∈nb a->Reach nb r b
end Go.Ix
