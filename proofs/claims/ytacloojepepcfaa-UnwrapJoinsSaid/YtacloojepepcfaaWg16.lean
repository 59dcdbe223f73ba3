import Derived.Test.YtacloojepepcfaaWg15
import Derived.Test.YtacloojepepcfaaWg2
set_option linter.unusedSimpArgs false
set_option linter.unusedVariables false
set_option maxRecDepth 10000
namespace Go.Ix
open Go.Proofs
section
variable{a b:AV}{A B':List Int}{n ca cb ov:Nat}
theorem l_rCnt(d:Nat){t3 t4 t6 t9:AV}{cols:Int}{v:AV}{l:List Int}{m:Mem}(hG:Gr 1 intE 0 106 m v l)(hl:l.length<=100000){sh mo:Int}{i:Nat}(hi:i<l.length)(rec2:AV->AV->AV->AV->AV->AV->AV->AV->AV->AV->Mem->Nat->O2){Q:O2->Prop}(hnext:∀fc,Q (x2k (x7v d) [] 0 rec2 (I ov) t3 t4 t6 t9 (I cols) v (I sh) (I mo) (I i) (I (l.count (at0 l i))) m fc)) :
 ∀(s k j:Nat) (fc:Nat),k+s=l.length->s<j->Q (x1f (x7v d) [] 0 rec2 j (I ov) t3 t4 t6 t9 (I cols) v (I sh) (I mo) (I i) (I ((l.take k).count (at0 l i))) (I k) m fc):=by
 have hlen:=hG.len x8q
 intro s
 induction s with
 |zero=>
  intro k j fc hk hj
  obtain⟨j,rfl⟩:∃i,j=i+1:=⟨j-1,by omega⟩
  have hlt:¬((k:Int)<(l.length:Int)):=by omega
  rw[xn9 (by omega)]
  simp only[x1f]
  unfold x2m
  simp only[hlen,x7x,x8m,hlt,xn2,x86]
  exact hnext _
 |succ s ih=>
  intro k j fc hk hj
  obtain⟨j,rfl⟩:∃i,j=i+1:=⟨j-1,by omega⟩
  have hkl:k<l.length:=by omega
  have hlt:(k:Int)<(l.length:Int):=by omega
  obtain⟨p,ix1,ld1⟩:=hG.atI hkl
  obtain⟨q,ix2,ld2⟩:=hG.atI hi
  have w7:w64 ((k:Int)+1)=((k+1:Nat):Int):=by rw[x82 (by omega) (by omega)];omega
  have hcl:=List.count_le_length (a:=at0 l i) (l:=l.take k)
  rw[xom]at hcl
  have w8:w64 (((l.take k).count (at0 l i):Int)+1)=(((l.take k).count (at0 l i)+1:Nat):Int):=by rw[x82 (by omega) (by omega)];omega
  have hc:(l.take (k+1)).count (at0 l i)=(l.take k).count (at0 l i)+if at0 l k=at0 l i then 1 else 0:=by
   rw[List.take_add_one,xnj hkl,List.count_append,<-x8j hkl]
   simp only[Option.toList]
   rw[List.count_singleton]
   by_cases e:at0 l k=at0 l i<;>simp[e]
  have ih':=λfc=>ih (k+1) j fc (by omega) (by omega)
  rw[hc]at ih'
  simp only[x1f]
  unfold x2m x4y x2l
  simp only[hlen,x7x,x8m,hlt,xn4,x89,ix1,ld1,ix2,ld2,xa5,x8c,w7]
  by_cases c:at0 l k=at0 l i
  .simp only[c,xn4,x89,w8]
   have:=ih' (fc+4+12+3)
   rw[xmv c]at this
   exact this
  .simp only[c,xn2,x86]
   have:=ih' (fc+4+9+3)
   rw[xmw c,xoi]at this
   exact this
theorem prL_at{l:List Int}{i:Nat}(hi:i<l.length):(prL l).take (i+1)=(prL l).take i++[(at0 l i,(l.count (at0 l i):Int))]:=by
 have:i<(prL l).length:=by unfold prL;simpa using hi
 rw[List.take_add_one,xnj this]
 congr 1
 show[(l.map λn=>(n,(l.count n:Int)))[i]'(by simpa using hi)]=_
 rw[List.getElem_map,x8j hi]
theorem l_rEl(d:Nat){t3 t4 t6 t9:AV}{cols:Int}{v:AV}{l:List Int}{m:Mem}(hG:Gr 1 intE 0 106 m v l)(hl:l.length<=100000){Q:O2->Prop}(hnext:∀fc,Q (x1x (x7v d) [] 0 (I ov) t3 t4 t6 t9 (I cols) v (I (elB l)) (I (elM l)) m fc)) :
 ∀(s i j:Nat) (fc:Nat),i+s=l.length->s<j->Q (x1g (x7v d) [] 0 j (I ov) t3 t4 t6 t9 (I cols) v (I (((prL l).take i).foldl x81 (0,0,0)).1) (I (((prL l).take i).foldl x81 (0,0,0)).2.1) (I i) m fc):=by
 have hlen:=hG.len x8q
 intro s
 induction s with
 |zero=>
  intro i j fc hk hj
  obtain⟨j,rfl⟩:∃i,j=i+1:=⟨j-1,by omega⟩
  have hlt:¬((i:Int)<(l.length:Int)):=by omega
  rw[xn9 (by unfold prL;simp;omega)]
  simp only[x1g]
  unfold x2n
  simp only[hlen,x7x,x8m,hlt,xn2,x86]
  exact hnext _
 |succ s ih=>
  intro i j fc hk hj
  obtain⟨j,rfl⟩:∃i,j=i+1:=⟨j-1,by omega⟩
  have hi:i<l.length:=by omega
  have hlt:(i:Int)<(l.length:Int):=by omega
  obtain⟨q,ix2,ld2⟩:=hG.atI hi
  have w7:w64 ((i:Int)+1)=((i+1:Nat):Int):=by rw[x82 (by omega) (by omega)];omega
  have ih':=λfc=>ih (i+1) j fc (by omega) (by omega)
  rw[prL_at hi,List.foldl_append,xow,List.foldl_nil]at ih'
  generalize ((prL l).take i).foldl x81 (0,0,0)=S at ih' ⊢
  obtain⟨sh,mo,al⟩:=S
  dsimp only at ih' ⊢
  simp only[x1g]
  unfold x2n x50 x4z
  simp only[hlen,x7x,x8m,hlt,xn4,x89]
  refine l_rCnt d hG hl hi _ (λfc'=>?_) l.length 0 NN _ (by omega) (by rw[x9s];omega)
  unfold x2k x2j
  generalize hx:at0 l i=x at ih' ld2 ⊢
  by_cases c:mo<(l.count x:Int)\/((l.count x:Int)=mo/\x<sh)
  .rw[xb7 c]at ih'
   dsimp only at ih'
   by_cases c1:mo<(l.count x:Int)
   .simp only[xcm,c1,xn4,x7x,xaq,xb5,sW_f,xnb,x99,sW_U,x9m,x94,x89,ix2,ld2,x8c,w7]
    exact ih' _
   .obtain⟨c2,c3⟩:=c.resolve_left c1
    have e2:decide ((l.count x:Int)=mo)=true:=xny c2
    simp only[xcm,c1,xn2,x7x,xaq,xb5,sW_f,sW_t,xn8,x94,xa5,e2,xn4,ix2,ld2,x8m,c3,x9m,x99,x89,x8c,w7]
    exact ih' _
  .rw[xa1 c]at ih'
   dsimp only at ih'
   have c1:¬mo<(l.count x:Int):=λh=>c (.inl h)
   by_cases c2:(l.count x:Int)=mo
   .have c3:¬x<sh:=λh=>c (.inr ⟨c2,h⟩)
    have e2:decide ((l.count x:Int)=mo)=true:=xny c2
    simp only[xcm,c1,xn2,x7x,xaq,xb5,sW_f,sW_t,xn8,x94,xa5,e2,ix2,ld2,x8m,c3,x9m,x99,x86,x8c,w7]
    exact ih' _
   .simp only[xcm,c1,xn2,x7x,xaq,xb5,sW_f,sW_t,xn8,x94,xa5,c2,x9m,x99,x86,x8c,w7]
    exact ih' _
theorem b_rJ21(d:Nat)(ha:Ints a A)(hA:A.length=n*ca)(hb:Ints b B')(hB:B'.length=n*cb)(hn:n<=64)(hca:ca<=64)(hcb:cb<=64)(h1:ov<=ca)(h2:ov<=cb)(h64:ca+cb-ov<=64)(hPA:∀y∈A,y=void\/isP y=true)(hPB:∀y∈B',y=void\/isP y=true){l:List Int}(hvl:votL (ovL A B' ca cb ov n)=some l){v:AV}{m:Mem}{fc:Nat}(hM:JR n ca a n cb b m)(hG:Gr 1 intE 0 106 m v l) :
 RetF (JoT n ca cb ov A B') (x2o (x7v (d+2)) [] 0 (I ov) (.ptr (0,0,3) 0 0) (.ptr (0,1,4) 0 0) (.ptr (0,2,6) 0 0) (.ptr (0,6,9) 0 0) (I (ca+cb-ov:Nat)) v m fc):=by
 have hlen:=hG.len x8q
 obtain⟨b1,b2⟩:=xf3 hvl (ovL_in hA hB h1 h2 hPA hPB)
 rw[ovL_len]at b2
 have k64:=x9h (c:=ov) (r:=n) hn (by omega)
 unfold x2o
 simp only[hlen,x7x,xa5]
 by_cases hne:l=[]
 .have hj:joR A B' ca cb ov n=([],0,12):=by unfold joR;rw[hvl,hne];rfl
  simp only[hne,xoj,show decide (((0:Nat):Int)=0)=true from rfl,x89]
  exact jzerr hM hj (by decide)
 have h0:¬((l.length:Int)=0):=λh=>hne (xol.1 (by omega))
 simp only[h0,xn2,x86]
 unfold x51
 have hmem:=b1 _ (elB_mem hne)
 have hbm:0<=elM l/\elM l<=100000:=by
  have h3:=(xe4 hne).1
  unfold prL at h3
  obtain⟨x,hx,e⟩:=xnf.1 h3
  have:=List.count_le_length (a:=x) (l:=l)
  have e2:=congrArg Prod.snd e
  dsimp only at e2
  omega
 suffices hs:∀fc',RetF (JoT n ca cb ov A B') (x1x (x7v (d+2)) [] 0 (I ov) (.ptr (0,0,3) 0 0) (.ptr (0,1,4) 0 0) (.ptr (0,2,6) 0 0) (.ptr (0,6,9) 0 0) (I (ca+cb-ov:Nat)) v (I (elB l)) (I (elM l)) m fc')from
  l_rEl (ov:=ov) (d+2) (t3:=.ptr (0,0,3) 0 0) (t4:=.ptr (0,1,4) 0 0) (t6:=.ptr (0,2,6) 0 0) (t9:=.ptr (0,6,9) 0 0) (cols:=(ca+cb-ov:Nat)) hG (by omega) (Q:=RetF (JoT n ca cb ov A B')) hs l.length 0 NN _ (by omega) (by rw[x9s];omega)
 intro fc'
 unfold x1x x4x
 have fa:sFA 0 (.ptr (0,0,3) 0 0)=some (.ptr (0,0,3) 0 0):=rfl
 have k30:sLd false 1 (.ptr (0,0,3) 0 0) m=some (I n):=by rw[x7z hM.g3];rfl
 have hbb:x8i [I 0,I 0,nilS] [(0,1,I n),(1,1,I (ca+cb-ov:Nat))]=some (.agg [I n,I (ca+cb-ov:Nat),nilS]):=rfl
 obtain⟨m3,hm3⟩:∃m3,m3=(m.new (0,fc'+4,21) (.row [I 0,I 0,nilS] 0 false)).set (0,fc'+4,21) (.row [I n,I (ca+cb-ov:Nat),nilS] 0 false):=⟨_,rfl⟩
 have S3:∀{R:Type} (K:Mem->Option R),sSt 3 (.ptr (0,fc'+4,21) 0 0) (.agg [I n,I (ca+cb-ov:Nat),nilS]) (m.new (0,fc'+4,21) (.row [I 0,I 0,nilS] 0 false)) K=K m3:=λK=>by
  rw[x8y (cs:=[I 0,I 0,nilS]) (off:=0) (z:=3) (x:=.agg [I n,I (ca+cb-ov:Nat),nilS]) (k:=K) (by rw[Mem.get_new_same]) rfl (by simp) rfl,hm3];rfl
 have f3:∀j:Id,j≠(0,fc'+4,21)->m3.get j=m.get j:=λj hj=>by rw[hm3,Mem.get_set_ne hj,Mem.get_new_ne hj]
 simp only[fa,x7x,k30,x8s,hbb,xbi,S3]
 refine l_rOut0 d ha hA hb hB hn hca hcb h1 h2 h64 hPA hPB (l:=l) (by omega) (by omega) hbm (λh=>?_) (λh=>?_) hlen n 0 NN nilS [] m3 _ (by omega) (by rw[x9s];omega) (hM.frame λj hj=>f3 j (by rintro rfl;simp at hj)) (by rw[hm3,Mem.get_set_same]) Gr.nil (by unfold jnL;simp) rfl
 .unfold joR;rw[hvl];simp only[xmw hne,h,xno]
 .unfold joR;rw[hvl];simp only[xmw hne,h,xnm,xne]
theorem l_rVotI(d:Nat)(ha:Ints a A)(hA:A.length=n*ca)(hb:Ints b B')(hB:B'.length=n*cb)(hn:n<=64)(hca:ca<=64)(hcb:cb<=64)(h1:ov<=ca)(h2:ov<=cb)(hPA:∀y∈A,y=void\/isP y=true)(hPB:∀y∈B',y=void\/isP y=true)(rec4:AV->AV->AV->AV->AV->AV->AV->AV->Mem->Nat->O2){r:Nat}(hr:r<n)(rest:List (Int×Int))(hnext:∀v acc m fc,JR n ca a n cb b m->Gr 1 intE 0 106 m v acc->acc.length<=(r+1)*64->votL (ovL A B' ca cb ov n)=(votL rest).map (acc++·)->RetF (JoT n ca cb ov A B') (rec4 (I ov) (.ptr (0,0,3) 0 0) (.ptr (0,1,4) 0 0) (.ptr (0,2,6) 0 0) (.ptr (0,6,9) 0 0) (I (ca+cb-ov:Nat)) v (I (r+1:Nat)) m fc)) :
 ∀(s k j:Nat) (v:AV) (acc:List Int) (m:Mem) (fc:Nat),k+s=ov->s<j->JR n ca a n cb b m->Gr 1 intE 0 106 m v acc->acc.length<=r*64+k ->
  votL (ovL A B' ca cb ov n)=(votL ((ovR A B' ca cb ov r).drop k++rest)).map (acc++·) ->
  RetF (JoT n ca cb ov A B') (xz (x7v (d+2)) [] 0 rec4 j (I ov) (.ptr (0,0,3) 0 0) (.ptr (0,1,4) 0 0) (.ptr (0,2,6) 0 0) (.ptr (0,6,9) 0 0) (I (ca+cb-ov:Nat)) v (I r) (I k) m fc):=by
 intro s
 induction s with
 |zero=>
  intro k j v acc m fc hk hj hM hG hac ht
  obtain⟨j,rfl⟩:∃i,j=i+1:=⟨j-1,by omega⟩
  have hkk:k=ov:=by omega
  subst hkk
  have hlt:¬((k:Int)<(k:Int)):=by omega
  have w7:w64 ((r:Int)+1)=((r+1:Nat):Int):=by rw[x82 (by omega) (by omega)];omega
  rw[ovR_end,xof]at ht
  simp only[xz]
  unfold x2p x52
  simp only[x8m,hlt,xn2,x7x,x86,x8c,w7]
  exact hnext v acc m _ hM hG (by omega) ht
 |succ s ih=>
  intro k j v acc m fc hk hj hM hG hac ht
  obtain⟨j,rfl⟩:∃i,j=i+1:=⟨j-1,by omega⟩
  have hkv:k<ov:=by omega
  have hlt:(k:Int)<(ov:Int):=by omega
  rw[xjm hkv,xp2]at ht
  have i1:=xbm (n:=n) (c:=ca) (r:=r) (k:=(ca-ov)+k) hr (by omega)
  have i2:=xbm (n:=n) (c:=cb) (r:=r) (k:=k) hr (by omega)
  have q1:=x9h (c:=ca) (r:=r) (by omega) hca
  have q2:=x9h (c:=cb) (r:=r) (by omega) hcb
  have c1:(r:Int)*(ca:Int)=((r*ca:Nat):Int):=by push_cast;rfl
  have c2:(r:Int)*(cb:Int)=((r*cb:Nat):Int):=by push_cast;rfl
  have w1:w64 ((r:Int)*(ca:Int))=((r*ca:Nat):Int):=by rw[c1];exact x82 (by omega) (by omega)
  have w2:w64 (((r*ca:Nat):Int)+ca)=((r*ca+ca:Nat):Int):=by rw[x82 (by omega) (by omega)];omega
  have w3:w64 (((r*ca+ca:Nat):Int)-ov)=((r*ca+(ca-ov):Nat):Int):=by rw[x82 (by omega) (by omega)];omega
  have w4:w64 (((r*ca+(ca-ov):Nat):Int)+k)=((r*ca+(ca-ov)+k:Nat):Int):=by rw[x82 (by omega) (by omega)];omega
  have w5:w64 ((r:Int)*(cb:Int))=((r*cb:Nat):Int):=by rw[c2];exact x82 (by omega) (by omega)
  have w6:w64 (((r*cb:Nat):Int)+k)=((r*cb+k:Nat):Int):=by rw[x82 (by omega) (by omega)];omega
  have w7:w64 ((k:Int)+1)=((k+1:Nat):Int):=by rw[x82 (by omega) (by omega)];omega
  have ixA:=ha.ix x8n (k:=r*ca+(ca-ov)+k) (by omega)
  have ixB:=hb.ix x8n (k:=r*cb+k) (by omega)
  obtain⟨x,hx⟩:∃x,x=at0 A (r*ca+(ca-ov)+k):=⟨_,rfl⟩
  obtain⟨y,hy⟩:∃y,y=at0 B' (r*cb+k):=⟨_,rfl⟩
  have ldA:∀m,sLd false 1 (.plit ((A.drop (r*ca+(ca-ov)+k)).flatMap intE)) m=some (I x):=λm=>by rw[xa7 (by omega),hx]
  have ldB:∀m,sLd false 1 (.plit ((B'.drop (r*cb+k)).flatMap intE)) m=some (I y):=λm=>by rw[xa7 (by omega),hy]
  have hxP:x=void\/isP x=true:=by rw[hx,x8j (by omega)];exact hPA _ (List.getElem_mem _)
  have hyP:y=void\/isP y=true:=by rw[hy,x8j (by omega)];exact hPB _ (List.getElem_mem _)
  rw[<-hx,<-hy]at ht
  have hv:void=1000000000000:=rfl
  have fa3:∀o,sFA o (.ptr (0,0,3) 0 0)=some (.ptr (0,0,3) 0 o):=λo=>by rw[xa0,xng]
  have fa4:∀o,sFA o (.ptr (0,1,4) 0 0)=some (.ptr (0,1,4) 0 o):=λo=>by rw[xa0,xng]
  have k31:sLd false 1 (.ptr (0,0,3) 0 1) m=some (I ca):=by rw[x7z hM.g3];rfl
  have k32:sLd false 1 (.ptr (0,0,3) 0 2) m=some a:=by rw[x7z hM.g3];rfl
  have k41:sLd false 1 (.ptr (0,1,4) 0 1) m=some (I cb):=by rw[x7z hM.g4];rfl
  have k42:sLd false 1 (.ptr (0,1,4) 0 2) m=some b:=by rw[x7z hM.g4];rfl
  simp only[xz]
  unfold x2p x53
  simp only[x8m,hlt,xn4,x7x,x89,fa3,fa4,k31,k32,k41,k42,xc0,x8c,xbh,w1,w2,w3,w4,w5,w6,ixA,ldA,ixB,ldB,xa5,xaq,xb5,sW_f]
  have skip:(x=void\/y=void)->∀fc',RetF (JoT n ca cb ov A B') (x1h (x7v (d+2)) [] 0 rec4 (xz (x7v (d+2)) [] 0 rec4 j) (I ov) (.ptr (0,0,3) 0 0) (.ptr (0,1,4) 0 0) (.ptr (0,2,6) 0 0) (.ptr (0,6,9) 0 0) (I (ca+cb-ov:Nat)) v (I r) (I k) m fc'):=by
   intro hv fc'
   unfold x1h
   simp only[x8c,x7x,w7]
   refine ih (k+1) j v acc m _ (by omega) (by omega) hM hG (by omega) ?_
   rw[ht]
   simp only[votL]
   rw[xmv hv]
  by_cases cx:x=void
  .have cx':x=1000000000000:=cx
   simp only[cx',xn4,xnb,x99,x7x,x9m,x94,x89]
   exact skip (.inl cx) _
  have cx':¬x=1000000000000:=cx
  simp only[cx',xn2,xn8,x94,x7x,xa5,x9m,x99]
  by_cases cy:y=void
  .have cy':y=1000000000000:=cy
   simp only[cy',xn4,x89]
   exact skip (.inr cy) _
  have cy':¬y=1000000000000:=cy
  have hxi:=wi_t (hxP.resolve_left cx)
  have hyi:=wi_t (hyP.resolve_left cy)
  have w8:w64 (x-y)=x-y:=x82 (by omega) (by omega)
  simp only[cy',xn2,x86,w8,w_Mod (d+1) (show(0:Int)<4096 by decide) (show(4096:Int)<=1000000000000 by decide),x9x,x7x]
  simp only[votL,show ¬(x=void\/y=void)from λh=>h.elim cx cy,xne]at ht
  by_cases cm:(x-y) % 4096=0
  .rw[xmv cm]at ht
   have hq:-200000<=(x-y).tdiv 4096/\(x-y).tdiv 4096<=200000:=by
    obtain⟨q,hq⟩:∃q,x-y=4096*q:=⟨(x-y) / 4096,by omega⟩
    rw[hq,Int.mul_tdiv_cancel_left _ (by omega)]
    omega
   have w9:w64 ((x-y).tdiv 4096)=(x-y).tdiv 4096:=x82 (by omega) (by omega)
   simp only[cm,xn4,xnb,x86,sQuo_I (show(4096:Int)≠0 by decide),x7x,w9]
   generalize (x-y).tdiv 4096=p at ht hq w9 ⊢
   have hac2:r*64<=4096:=x9h (by omega) (xn3 _)
   obtain⟨v',m',A1,G1,n1,f1⟩:=hG.app (bytes:=8) (s0:=fc+3+44) x8n (by omega) (by unfold x83;omega) p
   have el:∀objs,elems objs 1 (.slit [I p] 1 true)=some (intE p,1):=λ_=>rfl
   simp only[xcq,xe2,el,A1]
   unfold x1h
   simp only[x8c,x7x,w7]
   refine ih (k+1) j v' (acc++[p]) _ _ (by omega) (by omega) (hM.frame λj hj=>f1 j (by omega)) G1 (by simp;omega) ?_
   rw[ht]
   cases votL ((ovR A B' ca cb ov r).drop (k+1)++rest)with
   |none=>rfl
   |some l=>simp
  .rw[xmw cm]at ht
   have hj:joR A B' ca cb ov n=([],0,27):=by unfold joR;rw[ht];rfl
   simp only[cm,xn2,xn8,x89]
   exact jzerr hM hj (by decide)
theorem l_rVot(d:Nat)(ha:Ints a A)(hA:A.length=n*ca)(hb:Ints b B')(hB:B'.length=n*cb)(hn:n<=64)(hca:ca<=64)(hcb:cb<=64)(h1:ov<=ca)(h2:ov<=cb)(h64:ca+cb-ov<=64)(hPA:∀y∈A,y=void\/isP y=true)(hPB:∀y∈B',y=void\/isP y=true) :
 ∀(s r j:Nat) (v:AV) (acc:List Int) (m:Mem) (fc:Nat),r+s=n->s<j->JR n ca a n cb b m->Gr 1 intE 0 106 m v acc->acc.length<=r*64 ->
  votL (ovL A B' ca cb ov n)=(votL (((List.range n).drop r).flatMap (ovR A B' ca cb ov))).map (acc++·) ->
  RetF (JoT n ca cb ov A B') (x1i (x7v (d+2)) [] 0 j (I ov) (.ptr (0,0,3) 0 0) (.ptr (0,1,4) 0 0) (.ptr (0,2,6) 0 0) (.ptr (0,6,9) 0 0) (I (ca+cb-ov:Nat)) v (I r) m fc):=by
 intro s
 induction s with
 |zero=>
  intro r j v acc m fc hk hj hM hG hac ht
  obtain⟨j,rfl⟩:∃i,j=i+1:=⟨j-1,by omega⟩
  have hkk:r=n:=by omega
  subst hkk
  have hlt:¬((r:Int)<(r:Int)):=by omega
  rw[xp6 (by simp),xqa]at ht
  have ht':votL (ovL A B' ca cb ov r)=some acc:=by rw[ht];simp[votL]
  have fa:sFA 0 (.ptr (0,0,3) 0 0)=some (.ptr (0,0,3) 0 0):=rfl
  have k30:sLd false 1 (.ptr (0,0,3) 0 0) m=some (I r):=by rw[x7z hM.g3];rfl
  simp only[x1i]
  unfold x2q
  simp only[fa,x7x,k30,x8m,hlt,xn2,x86]
  exact b_rJ21 d ha hA hb hB hn hca hcb h1 h2 h64 hPA hPB ht' hM hG
 |succ s ih=>
  intro r j v acc m fc hk hj hM hG hac ht
  obtain⟨j,rfl⟩:∃i,j=i+1:=⟨j-1,by omega⟩
  have hr:r<n:=by omega
  have hlt:(r:Int)<(n:Int):=by omega
  have fa:sFA 0 (.ptr (0,0,3) 0 0)=some (.ptr (0,0,3) 0 0):=rfl
  have k30:sLd false 1 (.ptr (0,0,3) 0 0) m=some (I n):=by rw[x7z hM.g3];rfl
  rw[show(List.range n).drop r=r::(List.range n).drop (r+1) by rw[xp4 (by simpa using hr)];simp,xo1]at ht
  simp only[x1i]
  unfold x2q x54
  simp only[fa,x7x,k30,x8m,hlt,xn4,x89]
  exact l_rVotI d ha hA hb hB hn hca hcb h1 h2 hPA hPB _ hr _ (λv' acc' m' fc' hM' hG' hac' ht'=>ih (r+1) j v' acc' m' fc' (by omega) (by omega) hM' hG' hac' ht') ov 0 NN v acc m _ (by omega) (by rw[x9s];omega) hM hG (by omega) (by rw[xnc];exact ht)
end
theorem xlv(d:Nat){a b:AV}{A B':List Int}{ra ca rb cb ov:Int}(ha:Ints a A)(hb:Ints b B')(hra:wi ra 1 64=true)(hca:wi ca 1 64=true)(hrb:wi rb 1 64=true)(hcb:wi cb 1 64=true)(he:joE ra ca rb cb ov≠0)(m:Mem) :
 x7y (x7v (d+3)) xi [.agg [I ra,I ca,a],.agg [I rb,I cb,b],I ov] m=some (.tup [.agg [I 0,I 0,nilS],I 0,I (joE ra ca rb cb ov)],m):=by
 have hca':=wi_t hca
 have hcb':=wi_t hcb
 refine callV (by simp[ha.still1,hb.still1]) ?_ m
 rw[x67]
 unfold x26 x1y
 have hbb:x8i [I 0,I 0,nilS] []=some (.agg [I 0,I 0,nilS]):=rfl
 have hw:=λm=>xcp (d+1) ov 1 (if cb<ca then cb else ca) m
 unfold joE at he ⊢
 by_cases c1:ra=rb
 rotate_left
 .simp[mem0,ha.one,hb.one,x8s,hbb,c1]
  exact RetF.tup rfl rfl
 rw[xmw (by simpa using c1)]at he ⊢
 cases c2:wi ov 1 (if cb<ca then cb else ca)
 .simp[mem0,ha.one,hb.one,x8s,hbb,c1,hw,c2]
  exact RetF.tup rfl rfl
 have h3:=wi_t c2
 have h4:ov<=ca/\ov<=cb:=by
  obtain⟨h5,h6⟩:=h3
  split at h6<;>omega
 have w1:w64 (ca+cb)=ca+cb:=x82 (by omega) (by omega)
 have w2:w64 (ca+cb-ov)=ca+cb-ov:=x82 (by omega) (by omega)
 simp only[c2,xnb,x99]at he ⊢
 by_cases c3:64<ca+cb-ov
 .simp[mem0,ha.one,hb.one,x8s,hbb,c1,hw,c2,w1,w2,c3]
  exact RetF.tup rfl rfl
 .exact absurd (xmw c3) he
theorem r_rJoined(d:Nat){a b:AV}{A B':List Int}{n p q o:Nat}(ha:Ints a A)(hb:Ints b B')(h:jE n p n q o A B'=0):RetF (JoT n p q o A B') (x7v (d+3) [] xi [.agg [I n,I p,a],.agg [I n,I q,b],I o] mem0):=by
 obtain⟨n',p',q',o',e1,-,e2,e3,e4,hA,hB,c1,c2,c3,c4,c5,c6,c7,c8,c9,c10,hPA,hPB⟩:=xde h
 obtain rfl:n=n':=by omega
 obtain rfl:p=p':=by omega
 obtain rfl:q=q':=by omega
 obtain rfl:o=o':=by omega
 have hbb:x8i [I 0,I 0,nilS] []=some (.agg [I 0,I 0,nilS]):=rfl
 have hw:=λm=>xcp (d+1) (o:Int) 1 (if(q:Int)<p then(q:Int)else p) m
 have hwi:wi o 1 (if(q:Int)<p then(q:Int)else p)=true:=by
  unfold wi
  split<;>(simp;omega)
 have w1:w64 ((p:Int)+q)=((p+q:Nat):Int):=by rw[x82 (by omega) (by omega)];omega
 have w2:w64 (((p+q:Nat):Int)-o)=((p+q-o:Nat):Int):=by rw[x82 (by omega) (by omega)];omega
 have hgt:¬((64:Int)<((p+q-o:Nat):Int)):=by omega
 rw[x67]
 unfold x26 x1y
 have ho1:(AV.agg [I n,I p,a]).cells.all AV.one=true:=by rw[x9z];simp[ha.one]
 have ho2:(AV.agg [I n,I q,b]).cells.all AV.one=true:=by rw[x9z];simp[hb.one]
 simp only[mem0,xgc,ho1,ho2,x94,xbi,x8s,hbb,x7x]
 have x1:(0:Nat)+1=1:=rfl
 have x2:(0:Nat)+2=2:=rfl
 have x6:(0:Nat)+6=6:=rfl
 rw[x1,x2,x6]
 generalize hm0:Mem.new (Mem.new _ _ _) _ _=m0
 obtain⟨m1,hm1⟩:∃m1,m1=m0.set (0,6,9) (.row [I 0,I 0,nilS] 0 false):=⟨_,rfl⟩
 have g9:m0.get (0,6,9)=some (.row [I 0,I 0,nilS] 0 false):=by rw[<-hm0];simp
 have S1:∀{R:Type} (K:Mem->Option R),sSt 3 (.ptr (0,6,9) 0 0) (.agg [I 0,I 0,nilS]) m0 K=K m1:=λK=>by
  rw[x8y (off:=0) (z:=3) (x:=.agg [I 0,I 0,nilS]) (k:=K) g9 rfl (by simp) rfl,hm1];rfl
 have hM:JR n p a n q b m1:=by
  refine⟨?_,?_,?_,by rw[hm1,Mem.get_set_same]⟩
  .rw[hm1,Mem.get_set_ne (by simp),<-hm0];simp
  .rw[hm1,Mem.get_set_ne (by simp),<-hm0];simp
  .rw[hm1,Mem.get_set_ne (by simp),<-hm0];simp
 have fa3:∀o,sFA o (.ptr (0,0,3) 0 0)=some (.ptr (0,0,3) 0 o):=λo=>by rw[xa0,xng]
 have fa4:∀o,sFA o (.ptr (0,1,4) 0 0)=some (.ptr (0,1,4) 0 o):=λo=>by rw[xa0,xng]
 have k30:sLd false 1 (.ptr (0,0,3) 0 0) m1=some (I n):=by rw[x7z hM.g3];rfl
 have k31:sLd false 1 (.ptr (0,0,3) 0 1) m1=some (I p):=by rw[x7z hM.g3];rfl
 have k40:sLd false 1 (.ptr (0,1,4) 0 0) m1=some (I n):=by rw[x7z hM.g4];rfl
 have k41:sLd false 1 (.ptr (0,1,4) 0 1) m1=some (I q):=by rw[x7z hM.g4];rfl
 simp only[S1,fa3,fa4,x7x,k30,k31,k40,k41,x9x,xn4,xnb,x86,sMin_I,hw,hwi,xa6,x8c,xbh,w1,w2,xcm,hgt,xn2]
 unfold x55
 exact l_rVot d ha hA hb hB c2 c4 c6 c8 c9 c10 hPA hPB n 0 NN nilS [] m1 _ (by omega) (by rw[x9s];omega) hM Gr.nil (by simp) (by unfold ovL;simp)
theorem xf4{T:AV->Prop}{call:x7w}{f:FuncId}{l:List AV}(hl:l.all still=true)(h:RetF T (call [] f l mem0)):∃a,T a/\∀m,x7y call f l m=some (a,m):=by
 obtain⟨a,m',a',h1,h2,h3⟩:=h
 exact⟨a',h3,λm=>xda hl h1 h2⟩
theorem call0_all{call:x7w}{f:FuncId}{l:List AV}{r:AV}{m0 m1:Mem}(hst:l.all still=true)(h:x7y call f l m0=some (r,m1))(m:Mem):x7y call f l m=some (r,m):=by
 unfold x7y at h
 rw[xev _ hst]at h
 dsimp only at h
 cases hc:call [] f l mem0 with
 |none=>rw[hc]at h;cases h
 |some p=>
  rw[hc]at h
  dsimp only at h
  cases hf:Go.Ix.frz p.2.get deep p.1 with
  |none=>rw[hf]at h;cases h
  |some r0=>
   rw[hf]at h
   have:=congrArg Prod.fst (xo8 h)
   dsimp only at this
   subst this
   exact xda hst hc hf
theorem xjr(d:Nat){a:AV}{l:List Int}(h:Ints a l)(hl:l.length<=1000000)(r c:Int):∃a',Ints a' l/\∀m,x7y (x7v (d+2)) xa [.agg [I r,I c,a]] m=some (.agg [I r,I c,a'],m):=by
 obtain⟨a',h1,h2⟩:=xgg d (r:=r) (c:=c) h hl mem0
 exact⟨a',h1,call0_all (by simp[h.still1]) h2⟩
theorem mapM1_sh{r c t:Int}{l:List Int}(h:x88 isP r c l=0)(hs:shE t l=0):x88 isP r c (shL t l)=0/\-1000<=t/\t<=1000:=by
 obtain⟨h1,h2,h3,-⟩:=xbl h
 unfold shE at hs
 cases ct:wi t (-1000) 1000
 .rw[ct]at hs;simp at hs
 cases ca:(shL t l).any (badP isP)
 .refine⟨?_,wi_t ct⟩
  have hl:(shL t l).length=l.length:=by unfold shL;simp
  unfold x88 x9y x9d
  rw[hl,h1,h2,xny h3,ca]
  rfl
 .rw[ct,ca]at hs;simp at hs
section
variable{a b:AV}{A B':List Int}{ra ca rb cb x0 x1:Int}
def sE(rb cb x1:Int)(B':List Int):Int:=if x88 isP rb cb B'≠0 then x88 isP rb cb B' else shE x1 B'
def jEE(ra ca rb cb x0:Int)(A B':List Int):Int:=if jE ra ca rb cb x0 A B'≠0 then jE ra ca rb cb x0 A B' else(joR A B' ca.toNat cb.toNat x0.toNat ra.toNat).2.2
def jEL(ra ca rb cb x0:Int)(A B':List Int):List Int×Int:=if jE ra ca rb cb x0 A B'≠0 then([],0)else((joR A B' ca.toNat cb.toNat x0.toNat ra.toNat).1,(joR A B' ca.toNat cb.toNat x0.toNat ra.toNat).2.1)
def SU(rb cb x1:Int)(B':List Int)(v:AV):Prop:=∃s,v=.tup [.agg [I (if sE rb cb x1 B'=0 then rb else 0),I (if sE rb cb x1 B'=0 then cb else 0),s],I (sE rb cb x1 B')]/\Ints s (if sE rb cb x1 B'=0 then shL x1 B' else[])
def JU(ra ca rb cb x0:Int)(A B':List Int)(v:AV):Prop:=∃y,v=.tup [.agg [I (if jEE ra ca rb cb x0 A B'=0 then ra else 0),I (if jEE ra ca rb cb x0 A B'=0 then ca+cb-x0 else 0),y],I (jEL ra ca rb cb x0 A B').2,I (jEE ra ca rb cb x0 A B')]/\Ints y (jEL ra ca rb cb x0 A B').1
theorem u_Shifted(d:Nat)(x1:Int)(hb:Ints b B')(hl:B'.length<=5000):∃v,SU rb cb x1 B' v/\∀m,x7y (x7v (d+8)) xh [.agg [I rb,I cb,b],I x1] m=some (v,m):=by
 by_cases e:x88 isP rb cb B'=0
 .obtain⟨v,⟨y,rfl,hy⟩,h⟩:=xf4 (l:=[.agg [I rb,I cb,b],I x1]) (by simp[hb.still1]) (r_Shifted d x1 (r:=rb) (c:=cb) hb hl e)
  have h1:sE rb cb x1 B'=shE x1 B':=by unfold sE;rw[xmw (by simpa using e)]
  exact⟨_,⟨y,by rw[h1],by rw[h1];exact hy⟩,h⟩
 .have h1:sE rb cb x1 B'=x88 isP rb cb B':=by unfold sE;rw[xmv e]
  refine⟨_,⟨nilS,?_,?_⟩,λm=>xlk d x1 hb hl e m⟩
  .rw[h1,xmw e,xmw e]
  .rw[h1,xmw e];exact Or.inl ⟨rfl,rfl⟩
theorem xlw(d:Nat)(x1:Int)(hb:Ints b B')(hl:B'.length<=5000)(e:x88 isP rb cb B'=0):∃v,SU rb cb x1 B' v/\∀m,x7y (x7v (d+3)) xr [.agg [I rb,I cb,b],I x1] m=some (v,m):=by
 obtain⟨v,⟨y,rfl,hy⟩,h⟩:=xf4 (l:=[.agg [I rb,I cb,b],I x1]) (by simp[hb.still1]) (xlm d x1 (r:=rb) (c:=cb) hb hl e)
 have h1:sE rb cb x1 B'=shE x1 B':=by unfold sE;rw[xmw (by simpa using e)]
 exact⟨_,⟨y,by rw[h1],by rw[h1];exact hy⟩,h⟩
theorem JU_of{n p q o:Nat}{v:AV}(hz:jE (n:Int) p n q o A B'=0)(ho:o<=p)(hv:JoT n p q o A B' v):JU n p n q o A B' v:=by
 obtain⟨y,rfl,hy⟩:=hv
 have e1:jEE n p n q o A B'=(joR A B' p q o n).2.2:=by
  unfold jEE;rw[xmw (by simpa using hz)];simp
 have e2:jEL n p n q o A B'=((joR A B' p q o n).1,(joR A B' p q o n).2.1):=by
  unfold jEL;rw[xmw (by simpa using hz)];simp
 refine⟨y,?_,by rw[e2];exact hy⟩
 rw[e1,e2,show((p:Int)+q-o)=((p+q-o:Nat):Int)from by omega]
theorem JU_err(he:jE ra ca rb cb x0 A B'≠0):JU ra ca rb cb x0 A B' (.tup [.agg [I 0,I 0,nilS],I 0,I (jE ra ca rb cb x0 A B')]):=by
 have e1:jEE ra ca rb cb x0 A B'=jE ra ca rb cb x0 A B':=by unfold jEE;rw[xmv he]
 have e2:jEL ra ca rb cb x0 A B'=([],0):=by unfold jEL;rw[xmv he]
 refine⟨nilS,?_,by rw[e2];exact Or.inl ⟨rfl,rfl⟩⟩
 rw[e1,e2,xmw he,xmw he]
theorem xjs(d:Nat)(ha:Ints a A)(hAl:A.length<=5000)(hb:Ints b B')(hBl:B'.length<=5000):∃v,JU ra ca rb cb x0 A B' v/\∀m,x7y (x7v (d+9)) xb [.agg [I ra,I ca,a],.agg [I rb,I cb,b],I x0] m=some (v,m):=by
 by_cases e:jE ra ca rb cb x0 A B'=0
 .obtain⟨n,p,q,o,rfl,rfl,rfl,rfl,rfl,-,-,-,-,-,-,-,-,-,h8,-⟩:=xde e
  obtain⟨v,hv,h⟩:=xf4 (l:=[.agg [I n,I p,a],.agg [I n,I q,b],I o]) (by simp[ha.still1,hb.still1]) (r_Joined d ha hb e)
  exact⟨v,JU_of e h8 hv,h⟩
 .exact⟨_,JU_err e,λm=>w_JoinedE d ha hAl hb hBl e m⟩
theorem u_rJoined(d:Nat)(ha:Ints a A)(hb:Ints b B')(e1:x88 isP ra ca A=0)(e2:x88 isP rb cb B'=0):∃v,JU ra ca rb cb x0 A B' v/\∀m,x7y (x7v (d+3)) xi [.agg [I ra,I ca,a],.agg [I rb,I cb,b],I x0] m=some (v,m):=by
 by_cases e:jE ra ca rb cb x0 A B'=0
 .obtain⟨n,p,q,o,rfl,rfl,rfl,rfl,rfl,-,-,-,-,-,-,-,-,-,h8,-⟩:=xde e
  obtain⟨v,hv,h⟩:=xf4 (l:=[.agg [I n,I p,a],.agg [I n,I q,b],I o]) (by simp[ha.still1,hb.still1]) (r_rJoined d ha hb e)
  exact⟨v,JU_of e h8 hv,h⟩
 .have e3:jE ra ca rb cb x0 A B'=joE ra ca rb cb x0:=by unfold jE;rw[xmw (by simpa using e1),xmw (by simpa using e2)]
  obtain⟨h1,h2,-,-⟩:=xbl e1
  obtain⟨h3,h4,-,-⟩:=xbl e2
  refine⟨_,JU_err e,λm=>?_⟩
  rw[e3]at e ⊢
  exact xlv d ha hb h1 h2 h3 h4 e m
theorem jE_sh(hs:sE rb cb x1 B'=0)(hj:jEE ra ca rb cb x0 A B'=0):jEE ra ca rb cb x0 A (shL x1 B')=0/\jEL ra ca rb cb x0 A (shL x1 B')=jEL ra ca rb cb x0 A B':=by
 have e0:jE ra ca rb cb x0 A B'=0:=by
  unfold jEE at hj
  by_cases c:jE ra ca rb cb x0 A B'=0
  .exact c
  .rw[xmv c]at hj;exact absurd hj c
 obtain⟨n,p,q,o,rfl,rfl,rfl,rfl,rfl,hA,hB,c1,c2,c3,c4,c5,c6,c7,c8,c9,c10,hPA,hPB⟩:=xde e0
 obtain⟨g1,g2,g3⟩:=jE_0 e0
 have hs':shE x1 B'=0:=by unfold sE at hs;rwa[xmw (by simpa using g2)]at hs
 obtain⟨k1,k2⟩:=mapM1_sh g2 hs'
 have e3:jE n p n q o A (shL x1 B')=0:=by
  unfold jE;rw[xmw (by simpa using g1),xmw (by simpa using k1)];exact g3
 have e4:(joR A B' p q o n).2.2=0:=by
  unfold jEE at hj;rw[xmw (by simpa using e0)]at hj;simpa using hj
 have e5:=joR_sh (A:=A) (B:=B') (ca:=p) (cb:=q) (ov:=o) (n:=n) (t:=x1) k2 hB c9 c8 hPB hPA hA e4
 unfold jEE jEL
 rw[xmw (by simpa using e3),xmw (by simpa using e3),xmw (by simpa using e0)]
 simp only[Int.toNat_natCast]
 rw[e5]
 exact⟨e4,rfl⟩
theorem e_J0(d:Nat){s s' y y':AV}{rs cs rj cj nj es ej:Int}{LS LJ A:List Int}(hs:Ints s LS)(hs':Ints s' LS)(hy:Ints y LJ)(hy':Ints y' LJ)(hLS:LS.length<=5000)(hLJ:LJ.length<=5000)(ha:Ints a A)(hAl:A.length<=5000)(h3:es=0->ej=0->∀a' s'',Ints a' A->Ints s'' LS->∃y'',Ints y'' LJ/\∀m,x7y (x7v 30) xb [.agg [I ra,I ca,a'],.agg [I rs,I cs,s''],I x0] m=some (.tup [.agg [I rj,I cj,y''],I nj,I 0],m)){i3 i5 i7 i9 i14 i15:Nat}{m:Mem}{fc:Nat}(g3:m.get (0,i3,3)=some (.row [I ra,I ca,a] 0 false))(g5:m.get (0,i5,5)=some (.row [I x0,I x1] 0 false))(g7:m.get (0,i7,7)=some (.row [I rs,I cs,s] 0 false))(g9:m.get (0,i9,9)=some (.row [I rj,I cj,y] 0 false))(g14:m.get (0,i14,14)=some (.row [I rs,I cs,s'] 0 false))(g15:m.get (0,i15,15)=some (.row [I rj,I cj,y'] 0 false))(hnx:0<m.next) :
 ∃m',x1a (x7v 30) [] 0 (.ptr (0,i3,3) 0 0) (.ptr (0,i5,5) 0 0) (.ptr (0,i7,7) 0 0) (I es) (.ptr (0,i9,9) 0 0) (I nj) (I ej) (I es) (I ej) (.ptr (0,i14,14) 0 0) (.ptr (0,i15,15) 0 0) (I nj) m fc=some (B true,m'):=by
 have l7:sLd true 3 (.ptr (0,i7,7) 0 0) m=some (.agg [I rs,I cs,s]):=by rw[x7z g7];rfl
 have l9:sLd true 3 (.ptr (0,i9,9) 0 0) m=some (.agg [I rj,I cj,y]):=by rw[x7z g9];rfl
 have l14:sLd true 3 (.ptr (0,i14,14) 0 0) m=some (.agg [I rs,I cs,s']):=by rw[x7z g14];rfl
 have l15:sLd true 3 (.ptr (0,i15,15) 0 0) m=some (.agg [I rj,I cj,y']):=by rw[x7z g15];rfl
 have l3:sLd true 3 (.ptr (0,i3,3) 0 0) m=some (.agg [I ra,I ca,a]):=by rw[x7z g3];rfl
 have a1:sIxA 2 1 (.ptr (0,i5,5) 0 0) (I 0)=some (.ptr (0,i5,5) 0 0):=rfl
 have l5:sLd false 1 (.ptr (0,i5,5) 0 0) m=some (I x0):=by rw[x7z g5];rfl
 have q1:=λm=>xgk 28 rs cs hs hs' (by omega) m
 have q2:=λm=>xgk 28 rj cj hy hy' (by omega) m
 unfold x1a
 simp only[x9x,xn4,xnb,x7x,xb5,xe1,xaq,sW_f,xn8,x94,l7,l14,q1,xa6,x9m,x99,l9,l15,q2,x86]
 by_cases c1:es=0
 rotate_left
 .simp only[c1,xn2,xn8,xnb,x99,x94,x7x,x9m,x89]
  exact⟨_,rfl⟩
 by_cases c2:ej=0
 rotate_left
 .simp only[c1,c2,xn4,xn2,xn8,xnb,x99,x94,x7x,x9x,x9m,x89]
  exact⟨_,rfl⟩
 obtain⟨ac,hac,cc1⟩:∃a',Ints a' A/\x7y (x7v 30) xa [.agg [I ra,I ca,a]] m=some (.agg [I ra,I ca,a'],m):=xgg 28 ha (by omega) m
 obtain⟨sc,hsc,cc2⟩:∃a',Ints a' LS/\x7y (x7v 30) xa [.agg [I rs,I cs,s]] m=some (.agg [I rs,I cs,a'],m):=xgg 28 hs (by omega) m
 obtain⟨y'',hy'',cc3⟩:=h3 c1 c2 ac sc hac hsc
 have q3:=λm=>xgk 28 rj cj hy'' hy (by omega) m
 obtain⟨m2,hm2⟩:∃m2,m2=(m.new (0,fc+42,17) (.row [I 0,I 0,nilS] 0 false)).set (0,fc+42,17) (.row [I rj,I cj,y''] 0 false):=⟨_,rfl⟩
 have S1:∀{R:Type} (K:Mem->Option R),sSt 3 (.ptr (0,fc+42,17) 0 0) (.agg [I rj,I cj,y'']) (m.new (0,fc+42,17) (.row [I 0,I 0,nilS] 0 false)) K=K m2:=λK=>by
  rw[x8y (cs:=[I 0,I 0,nilS]) (off:=0) (z:=3) (x:=.agg [I rj,I cj,y'']) (k:=K) (by rw[Mem.get_new_same]) rfl (by simp) (by rw[x9z];simp[hy''.one]),hm2];rfl
 have l17:sLd true 3 (.ptr (0,fc+42,17) 0 0) m2=some (.agg [I rj,I cj,y'']):=by rw[hm2,x7z (Mem.get_set_same ..)];rfl
 have l9':sLd true 3 (.ptr (0,i9,9) 0 0) m2=some (.agg [I rj,I cj,y]):=by rw[hm2,x7z (by rw[Mem.get_set_ne (by simp),Mem.get_new_ne (by simp)];exact g9)];rfl
 have x0':∀p q r:AV,sExt (.tup [p,q,r]) 0=some p:=λ_ _ _=>rfl
 have x1':∀p q r:AV,sExt (.tup [p,q,r]) 1=some q:=λ_ _ _=>rfl
 have x2':∀p q r:AV,sExt (.tup [p,q,r]) 2=some r:=λ_ _ _=>rfl
 have hb1:Nat.blt 0 m.next=true:=by simp[Nat.blt,Nat.ble_eq];omega
 simp only[c1,c2,xn4,xnb,xn8,x99,x94,x7x,x9x,x9m,x86,l3,cc1,l7,cc2,a1,l5,cc3,x0',x1',x2',x8s,xbi,S1]
 have hcl1:mkM 0 [AV.agg [I ra,I ca,a]]=2:=by simp[ha.clean1]
 have hcl2:mkM 0 [AV.agg [I rs,I cs,s]]=2:=by simp[hs.clean1]
 have hcl3:mkM 0 [AV.agg [I ra,I ca,ac],AV.agg [I rs,I cs,sc],I x0]=2:=by simp[hac.clean1,hsc.clean1]
 rw[hcl1,hcl2,hcl3]
 simp[cAp,tR,x9p,disj,hb1,l17,l9',q3]
theorem jEL_len(e:jE ra ca rb cb x0 A B'=0):(jEL ra ca rb cb x0 A B').1.length<=5000:=by
 obtain⟨n,p,q,o,rfl,rfl,rfl,rfl,rfl,hA,hB,c1,c2,c3,c4,c5,c6,c7,c8,c9,c10,hPA,hPB⟩:=xde e
 unfold jEL
 rw[xmw (by simpa using e)]
 simp only[Int.toNat_natCast]
 unfold joR
 have k:=x9h (c:=p+q-o) (r:=n) c2 c10
 split
 .simp
 .rename_i l _
  split
  .simp
  .split
   .simp
   .unfold jnL
    rw[xdd (z:=p+q-o) (λx=>by unfold rowJ;simp),xpk];omega
theorem jEL_len':(jEL ra ca rb cb x0 A B').1.length<=5000:=by
 by_cases e:jE ra ca rb cb x0 A B'=0
 .exact jEL_len e
 .unfold jEL;rw[xmv e];simp
theorem law_UnwrapJoins(ra ca:Int)(ha:Ints a A)(rb cb:Int)(hb:Ints b B')(x0 x1:Int):∃m',x7v 31 [] x1r [.agg [I ra,I ca,a],.agg [I rb,I cb,b],.agg [I x0,I x1]] mem0=some (B true,m'):=by
 rw[x6a]
 unfold x3s x28
 have hlA:=ha.len x8q
 have hlB:=hb.len x8q
 by_cases cl:A.length<=40
 rotate_left
 .simp[mem0,ha.one,hb.one,xgh,hlA,show(40:Int)<A.length by omega]
 by_cases cr:B'.length<=40
 rotate_left
 .simp[mem0,ha.one,hb.one,xgh,hlA,hlB,show ¬(40:Int)<A.length by omega,show(40:Int)<B'.length by omega]
 obtain⟨b1,hb1,eb1⟩:=xjr 28 hb (by omega) rb cb
 obtain⟨a1,ha1,ea1⟩:=xjr 28 ha (by omega) ra ca
 obtain⟨v1,⟨s,rfl,hs⟩,ec1⟩:=u_Shifted 22 x1 (rb:=rb) (cb:=cb) hb1 (by omega)
 obtain⟨v2,⟨y,rfl,hy⟩,ec2⟩:=xjs 21 (ra:=ra) (ca:=ca) (rb:=rb) (cb:=cb) (x0:=x0) ha1 (by omega) hb1 (by omega)
 have pb:=λm=>xjh 27 (r:=rb) (c:=cb) hb (by omega) m
 have pa:=λm=>xjh 27 (r:=ra) (c:=ca) ha (by omega) m
 have h3:sE rb cb x1 B'=0->jEE ra ca rb cb x0 A B'=0->∀a' s'',Ints a' A->Ints s'' (if sE rb cb x1 B'=0 then shL x1 B' else[])->∃y'',Ints y'' (jEL ra ca rb cb x0 A B').1/\∀m,x7y (x7v 30) xb [.agg [I ra,I ca,a'],.agg [I (if sE rb cb x1 B'=0 then rb else 0),I (if sE rb cb x1 B'=0 then cb else 0),s''],I x0] m=some (.tup [.agg [I (if jEE ra ca rb cb x0 A B'=0 then ra else 0),I (if jEE ra ca rb cb x0 A B'=0 then ca+cb-x0 else 0),y''],I (jEL ra ca rb cb x0 A B').2,I 0],m):=by
  intro h1 h2 a' s'' ha' hs''
  rw[xmv h1]at hs''
  have hl2:(shL x1 B').length<=5000:=by unfold shL;rw[xo6];omega
  obtain⟨v,⟨y3,rfl,hy3⟩,e3⟩:=xjs 21 (ra:=ra) (ca:=ca) (rb:=rb) (cb:=cb) (x0:=x0) ha' (by omega) hs'' hl2
  obtain⟨k1,k2⟩:=jE_sh h1 h2
  rw[k1,k2]at e3
  rw[k2]at hy3
  refine⟨y3,hy3,λm=>?_⟩
  rw[xmv h1,xmv h1,xmv h2,xmv h2,e3 m,xmv rfl,xmv rfl]
 have hLS:(if sE rb cb x1 B'=0 then shL x1 B' else[]).length<=5000:=by
  split
  .unfold shL;rw[xo6];omega
  .simp
 have hLJ:(jEL ra ca rb cb x0 A B').1.length<=5000:=jEL_len'
 have c40:¬(40:Int)<A.length:=by omega
 have c40':¬(40:Int)<B'.length:=by omega
 have fin:∀(s' y':AV) (m:Mem) (fc i14 i15:Nat),Ints s' (if sE rb cb x1 B'=0 then shL x1 B' else[])->Ints y' (jEL ra ca rb cb x0 A B').1->m.get (0,0,3)=some (.row [I ra,I ca,a] 0 false)->m.get (0,2,5)=some (.row [I x0,I x1] 0 false)->m.get (0,24,7)=some (.row [I (if sE rb cb x1 B'=0 then rb else 0),I (if sE rb cb x1 B'=0 then cb else 0),s] 0 false)->m.get (0,38,9)=some (.row [I (if jEE ra ca rb cb x0 A B'=0 then ra else 0),I (if jEE ra ca rb cb x0 A B'=0 then ca+cb-x0 else 0),y] 0 false) ->
  m.get (0,i14,14)=some (.row [I (if sE rb cb x1 B'=0 then rb else 0),I (if sE rb cb x1 B'=0 then cb else 0),s'] 0 false)->m.get (0,i15,15)=some (.row [I (if jEE ra ca rb cb x0 A B'=0 then ra else 0),I (if jEE ra ca rb cb x0 A B'=0 then ca+cb-x0 else 0),y'] 0 false)->0<m.next ->
  ∃m',x1a (x7v 30) [] 0 (.ptr (0,0,3) 0 0) (.ptr (0,2,5) 0 0) (.ptr (0,24,7) 0 0) (I (sE rb cb x1 B')) (.ptr (0,38,9) 0 0) (I (jEL ra ca rb cb x0 A B').2) (I (jEE ra ca rb cb x0 A B')) (I (sE rb cb x1 B')) (I (jEE ra ca rb cb x0 A B')) (.ptr (0,i14,14) 0 0) (.ptr (0,i15,15) 0 0) (I (jEL ra ca rb cb x0 A B').2) m fc=some (B true,m'):=
  λs' y' m fc i14 i15 hs' hy' g3 g5 g7 g9 g14 g15 hn=>e_J0 30 hs hs' hy hy' hLS hLJ ha (by omega) h3 g3 g5 g7 g9 g14 g15 hn
 simp[mem0,ha.one,hb.one,xgh,hlA,hlB,c40,c40',eb1,ea1,ec1,ec2,pa,pb,x8s,hs.one,hy.one,cAp,tR,x9p,disj,ha.clean1,hb.clean1,ha1.clean1,hb1.clean1,sIxA,asI,show Nat.blt 0 1=true from rfl]
 generalize hm0:Mem.set _ _ _=m0
 have g3:m0.get (0,0,3)=some (.row [I ra,I ca,a] 0 false):=by rw[<-hm0];simp
 have g4:m0.get (0,1,4)=some (.row [I rb,I cb,b] 0 false):=by rw[<-hm0];simp
 have g5:m0.get (0,2,5)=some (.row [I x0,I x1] 0 false):=by rw[<-hm0];simp
 have g7:m0.get (0,24,7)=some (.row [I (if sE rb cb x1 B'=0 then rb else 0),I (if sE rb cb x1 B'=0 then cb else 0),s] 0 false):=by rw[<-hm0];simp
 have g9:m0.get (0,38,9)=some (.row [I (if jEE ra ca rb cb x0 A B'=0 then ra else 0),I (if jEE ra ca rb cb x0 A B'=0 then ca+cb-x0 else 0),y] 0 false):=by rw[<-hm0];simp
 have hn0:m0.next=1:=by rw[<-hm0];rfl
 clear hm0
 have three:∀fc c,c=(if x88 isP ra ca A=0 then x88 isP rb cb B' else x88 isP ra ca A) ->
  ∃m',x1t (x7v 30) [] 0 (.ptr (0,0,3) 0 0) (.ptr (0,1,4) 0 0) (.ptr (0,2,5) 0 0) (.ptr (0,24,7) 0 0) (I (sE rb cb x1 B')) (.ptr (0,38,9) 0 0) (I (jEL ra ca rb cb x0 A B').2) (I (jEE ra ca rb cb x0 A B')) (I (x88 isP rb cb B')) (I c) m0 fc=some (B true,m'):=by
  intro fc c hc
  have hEc:c≠0->jEE ra ca rb cb x0 A B'=c/\jEL ra ca rb cb x0 A B'=([],0):=by
   intro hne
   have h1:jE ra ca rb cb x0 A B'=c:=by
    unfold jE
    rw[hc]at hne ⊢
    by_cases e1:x88 isP ra ca A=0
    .rw[xmv e1]at hne ⊢
     rw[xmw (by simpa using e1),xmv hne]
    .rw[xmw e1]at hne ⊢
     rw[xmv e1]
   have h2:jE ra ca rb cb x0 A B'≠0:=by rw[h1];exact hne
   exact⟨by unfold jEE;rw[xmv h2,h1],by unfold jEL;rw[xmv h2]⟩
  have hEs:x88 isP rb cb B'≠0->sE rb cb x1 B'=x88 isP rb cb B':=λhne=>by unfold sE;rw[xmv hne]
  have hEs0:x88 isP rb cb B'≠0->¬sE rb cb x1 B'=0:=λhne=>by rw[hEs hne];exact hne
  unfold x1t
  simp only[xbi,x8s]
  generalize hm2:Mem.new (Mem.new _ _ _) _ _=m2
  have q14:m2.get (0,fc,14)=some (.row [I 0,I 0,nilS] 0 false):=by rw[<-hm2];simp
  have q15:m2.get (0,fc+1,15)=some (.row [I 0,I 0,nilS] 0 false):=by rw[<-hm2];simp
  have fo:∀j:Id,j.2.2<14->m2.get j=m0.get j:=λj hj=>by rw[<-hm2,Mem.get_new_ne (by rintro rfl;simp at hj),Mem.get_new_ne (by rintro rfl;simp at hj)]
  have hn2:m2.next=1:=by rw[<-hm2];exact hn0
  clear hm2
  have zero:Ints nilS []:=Or.inl ⟨rfl,rfl⟩
  have one:∀(s':AV) (M:Mem) (fc':Nat),Ints s' (if sE rb cb x1 B'=0 then shL x1 B' else[])->M.get (0,fc,14)=some (.row [I (if sE rb cb x1 B'=0 then rb else 0),I (if sE rb cb x1 B'=0 then cb else 0),s'] 0 false)->(∀j:Id,j≠(0,fc,14)->M.get j=m2.get j)->M.next=1 ->
   ∃m',x1s (x7v 30) [] 0 (.ptr (0,0,3) 0 0) (.ptr (0,1,4) 0 0) (.ptr (0,2,5) 0 0) (.ptr (0,24,7) 0 0) (I (sE rb cb x1 B')) (.ptr (0,38,9) 0 0) (I (jEL ra ca rb cb x0 A B').2) (I (jEE ra ca rb cb x0 A B')) (I (sE rb cb x1 B')) (I c) (.ptr (0,fc,14) 0 0) (.ptr (0,fc+1,15) 0 0) (I 0) M fc'=some (B true,m'):=by
   intro s' M fc' hs' h14 hfo hnM
   have r3:M.get (0,0,3)=some (.row [I ra,I ca,a] 0 false):=by rw[hfo _ (by simp),fo _ (by simp)];exact g3
   have r4:M.get (0,1,4)=some (.row [I rb,I cb,b] 0 false):=by rw[hfo _ (by simp),fo _ (by simp)];exact g4
   have r5:M.get (0,2,5)=some (.row [I x0,I x1] 0 false):=by rw[hfo _ (by simp),fo _ (by simp)];exact g5
   have r7:=(hfo (0,24,7) (by simp)).trans ((fo _ (by simp)).trans g7)
   have r9:=(hfo (0,38,9) (by simp)).trans ((fo _ (by simp)).trans g9)
   have r15:M.get (0,fc+1,15)=some (.row [I 0,I 0,nilS] 0 false):=by rw[hfo _ (by simp)];exact q15
   unfold x1s
   simp only[xa5,x7x]
   by_cases hc0:c=0
   .have e1:x88 isP ra ca A=0:=by
     rw[hc0]at hc
     by_cases e:x88 isP ra ca A=0
     .exact e
     .rw[xmw e]at hc;exact hc.symm
    have e2:x88 isP rb cb B'=0:=by rw[hc0,xmv e1]at hc;exact hc.symm
    obtain⟨v,⟨y',rfl,hy'⟩,ej⟩:=u_rJoined 27 (x0:=x0) ha hb e1 e2
    have l3:sLd true 3 (.ptr (0,0,3) 0 0) M=some (.agg [I ra,I ca,a]):=by rw[x7z r3];rfl
    have l4:sLd true 3 (.ptr (0,1,4) 0 0) M=some (.agg [I rb,I cb,b]):=by rw[x7z r4];rfl
    have a5:sIxA 2 1 (.ptr (0,2,5) 0 0) (I 0)=some (.ptr (0,2,5) 0 0):=rfl
    have l5:sLd false 1 (.ptr (0,2,5) 0 0) M=some (I x0):=by rw[x7z r5];rfl
    have X0:∀p q r:AV,sExt (.tup [p,q,r]) 0=some p:=λ_ _ _=>rfl
    have X1:∀p q r:AV,sExt (.tup [p,q,r]) 1=some q:=λ_ _ _=>rfl
    have X2:∀p q r:AV,sExt (.tup [p,q,r]) 2=some r:=λ_ _ _=>rfl
    have S1:∀(p q:Int) (K:Mem->O2),sSt 3 (.ptr (0,fc+1,15) 0 0) (.agg [I p,I q,y']) M K=K (M.set (0,fc+1,15) (.row [I p,I q,y'] 0 false)):=λp q K=>by
     rw[x8y (off:=0) (z:=3) (x:=.agg [I p,I q,y']) (k:=K) r15 rfl (by simp) (by rw[x9z];simp[hy'.one])];rfl
    simp only[hc0,xn4,x89,l3,l4,a5,l5,x7x,ej,X0,X1,X2,S1]
    refine fin s' y' _ _ fc (fc+1) hs' hy' ?_ ?_ ?_ ?_ ?_ ?_ ?_
    .rw[Mem.get_set_ne (by simp)];exact r3
    .rw[Mem.get_set_ne (by simp)];exact r5
    .rw[Mem.get_set_ne (by simp)];exact r7
    .rw[Mem.get_set_ne (by simp)];exact r9
    .rw[Mem.get_set_ne (by simp)];exact h14
    .rw[Mem.get_set_same]
    .show 0<M.next;omega
   .obtain⟨k1,k2⟩:=hEc hc0
    simp only[hc0,xn2,x86]
    have key:=fin s' nilS M (fc'+2) fc (fc+1) hs' (by rw[k2];exact zero) r3 r5 r7 r9 h14 (by rw[xmw (by rw[k1];exact hc0),xmw (by rw[k1];exact hc0)];exact r15) (by omega)
    rw[k1,k2]at key ⊢
    exact key
  unfold x4e
  simp only[xa5,x7x]
  by_cases e2:x88 isP rb cb B'=0
  .obtain⟨v,⟨s',rfl,hs'⟩,es⟩:=xlw 27 x1 (rb:=rb) (cb:=cb) hb (by omega) e2
   have l4:sLd true 3 (.ptr (0,1,4) 0 0) m2=some (.agg [I rb,I cb,b]):=by rw[x7z ((fo _ (by simp)).trans g4)];rfl
   have a5:sIxA 2 1 (.ptr (0,2,5) 0 0) (I 1)=some (.ptr (0,2,5) 0 1):=rfl
   have l5:sLd false 1 (.ptr (0,2,5) 0 1) m2=some (I x1):=by rw[x7z ((fo _ (by simp)).trans g5)];rfl
   have X0:∀p q:AV,sExt (.tup [p,q]) 0=some p:=λ_ _=>rfl
   have X1:∀p q:AV,sExt (.tup [p,q]) 1=some q:=λ_ _=>rfl
   have S1:∀(p q:Int) (K:Mem->O2),sSt 3 (.ptr (0,fc,14) 0 0) (.agg [I p,I q,s']) m2 K=K (m2.set (0,fc,14) (.row [I p,I q,s'] 0 false)):=λp q K=>by
    rw[x8y (off:=0) (z:=3) (x:=.agg [I p,I q,s']) (k:=K) q14 rfl (by simp) (by rw[x9z];simp[hs'.one])];rfl
   simp only[e2,xn4,x89,l4,a5,l5,x7x,es,X0,X1,S1]
   exact one s' _ _ hs' (Mem.get_set_same ..) (λj hj=>Mem.get_set_ne hj) hn2
  .simp only[e2,xn2,x86]
   have key:=one nilS m2 (fc+3+2) (by rw[xmw (hEs0 e2)];exact zero) (by rw[xmw (hEs0 e2),xmw (hEs0 e2)];exact q14) (λ_ _=>rfl) hn2
   rw[hEs e2]at key ⊢
   exact key
 unfold x4f
 simp only[xa5,x7x]
 by_cases e1:x88 isP ra ca A=0
 .simp only[e1,xn4,x89]
  exact three _ _ (by rw[xmv e1])
 .simp only[e1,xn2,x86]
  exact three _ _ (by rw[xmw e1])
end
end Go.Ix
