import Derived.Test.YtjdlceelbnaneaaWg14
import Derived.Test.YtjdlceelbnaneaaWg13
import Derived.Test.YtjdlceelbnaneaaWg10
set_option linter.unusedSimpArgs false
set_option linter.unusedVariables false
namespace Go.Ix
open Go.Proofs
theorem cvt_small:∀n:Nat,n<=12->sCvt Try.prog x8b x48 (I n)=some (.sc (.int .u64 n))
 |0,_=>by kernel_rfl
 |1,_=>by kernel_rfl
 |2,_=>by kernel_rfl
 |3,_=>by kernel_rfl
 |4,_=>by kernel_rfl
 |5,_=>by kernel_rfl
 |6,_=>by kernel_rfl
 |7,_=>by kernel_rfl
 |8,_=>by kernel_rfl
 |9,_=>by kernel_rfl
 |10,_=>by kernel_rfl
 |11,_=>by kernel_rfl
 |12,_=>by kernel_rfl
 |n+13,h=>by omega
theorem a_Len64(call:x6f):∀n:Nat,n<=12->∃v:Int,x3j call [] [.sc (.int .u64 n)] mem0=some (I v,⟨[],1⟩)
 |0,_=>⟨0,by kernel_rfl⟩
 |1,_=>⟨1,by kernel_rfl⟩
 |2,_=>⟨2,by kernel_rfl⟩
 |3,_=>⟨2,by kernel_rfl⟩
 |4,_=>⟨3,by kernel_rfl⟩
 |5,_=>⟨3,by kernel_rfl⟩
 |6,_=>⟨3,by kernel_rfl⟩
 |7,_=>⟨3,by kernel_rfl⟩
 |8,_=>⟨4,by kernel_rfl⟩
 |9,_=>⟨4,by kernel_rfl⟩
 |10,_=>⟨4,by kernel_rfl⟩
 |11,_=>⟨4,by kernel_rfl⟩
 |12,_=>⟨4,by kernel_rfl⟩
 |n+13,h=>by omega
theorem w_bitsLen(d:Nat){n:Nat}(hn:n<=12)(m:Mem):∃v:Int,x6h (x6e (d+2)) x14 [.sc (.int .u64 n)] m=some (I v,m):=by
 obtain⟨v,hv⟩:=a_Len64 (x6e d) n hn
 have h64:∀m,x6h (x6e (d+1)) x16 [.sc (.int .u64 n)] m=some (I v,m):=λm=>by
  refine x78 rfl ?_ m
  rw[x5b,hv]
  exact RetF.st rfl rfl
 refine⟨v,x78 rfl ?_ m⟩
 rw[x57]
 unfold x3f x2q
 simp[mem0,h64]
 exact RetF.st rfl rfl
theorem c_Sort(d:Nat)(hs:FHs){a:AV}{ok:Id->Prop}{L:List Int}{m:Mem}(hL:L.length<=12)(hG:Gk 1 intE ok m a L) :
 ∃m',x6e (d+5) hs x13 [a] m=some (.tup [],m')/\Gk 1 intE ok m' a (isoM (λx y=>decide (x<y)) (L.length-1) L)/\m.next<=m'.next/\Sames ok m m':=by
 rw[x55]
 unfold x3d x2n
 obtain⟨v,hv⟩:=w_bitsLen (d+2) hL (⟨m.hp,m.next+1⟩:Mem)
 simp only[hG.len x8a,x6z,cvt_small _ hL,hv]
 rw[x56]
 unfold x3e x2p
 obtain⟨NM,hNM⟩:∃NM,NN=NM+1:=⟨NN-1,by have:=x7f;omega⟩
 rw[hNM]
 simp only[x2o]
 unfold x4c
 obtain⟨m',e1,e2,e3,e4⟩:=c_insertO d hs (L:=L) (m:=⟨m.hp,m.next+1+1⟩) (by omega) (hG.frame λ_ _=>rfl)
 have h12:(L.length:Int)<=12:=by omega
 simp[e1]
 rw[x6u (by omega) (by omega)]
 simp[h12]
 exact⟨e2,by have:m'.next=m.next+1+1+1:=e3;omega,λj hj=>by rw[e4 j hj];rfl⟩
attribute [local simp high] rd_5
def byK:Nat->Mp->Int
 |0,x=>x.b0
 |_+1,x=>x.b1
def medP(kk:Nat)(l:List Mp):Int:=medI (l.map (byK kk))
variable{a:AV}{l:List Mp}
theorem l_medIn(call:x6f)(hs:FHs)(u:Nat){t2 t3 t8:AV}(rec0:AV->AV->AV->AV->Mem->Nat->O2)(ha:Pts a l)(hl:l.length<=1000)(kk:Nat)(hk1:kk<=1):∀(suf:List Mp) (k j:Nat) (v:AV) (m:Mem) (fc:Nat),l.drop k=suf->suf.length<j ->
 Gk 1 intE (λid=>id.1=u/\id.2.2=23) m v ((l.take k).map (byK kk)) ->
 ∃v' m' fc',xq call hs u rec0 j a t2 t3 (I kk) v t8 a (I l.length) (I k) m fc=x1l call hs u rec0 a t2 t3 (I kk) v' t8 m' fc' /\
  Gk 1 intE (λid=>id.1=u/\id.2.2=23) m' v' (l.map (byK kk))/\m'.next=m.next/\∀id:Id,id.2.2≠23->id.2.2≠7->m'.get id=m.get id:=by
 intro suf
 induction suf with
 |nil=>
  intro k j v m fc hd hj hG
  obtain⟨j,rfl⟩:∃i,j=i+1:=⟨j-1,by simp at hj;omega⟩
  have hk0:=xjq.mp hd
  have hk:¬((k:Int)<(l.length:Int)):=by omega
  rw[xiu hk0]at hG
  refine⟨v,m,fc+1,?_,hG,rfl,λ_ _ _=>rfl⟩
  simp only[xq]
  unfold x2f
  simp[hk]
 |cons e r ih=>
  intro k j v m fc hd hj hG
  obtain⟨j,rfl⟩:∃i,j=i+1:=⟨j-1,by simp at hj;omega⟩
  obtain⟨hk,he,hd⟩:=x9m hd
  have hk':(k:Int)<(l.length:Int):=by omega
  have ix:=ha.ix Mp.len hk
  have ld:=xbs (m:=m) Mp.len (by omega) hk
  rw[he]at ld
  have hG1:Gk 1 intE (λid=>id.1=u/\id.2.2=23) ((m.new (u,fc+3,7) (.row [I 0,I 0,I 0,I 0,I 0] 0 false)).set (u,fc+3,7) (.row [I e.ln,I e.sm,I e.b0,I e.b1,I e.sc] 0 false)) v ((l.take k).map (byK kk)):=hG.frame λid hid=>by
   rw[Mem.get_set,xi6 (by rintro rfl;simp at hid),Mem.get_new,xi6 (by rintro rfl;simp at hid)]
  obtain⟨v',m3,A,hG3,u1,u2,n3,f3⟩:=Gk.app (ok:=λid=>id.1=u/\id.2.2=23) x9p (by omega) (bytes:=8) (id0:=(u,fc+11,23)) ⟨rfl,rfl⟩ (by unfold x6m;simp;omega) hG1 (byK kk e)
  have hlast:(l.take k).map (byK kk)++[byK kk e]=(l.take (k+1)).map (byK kk):=by
   rw[xlo hk,xkc,he];rfl
  rw[hlast]at hG3
  obtain⟨v2,m4,fc4,h1,h2,h3,h4⟩:=ih (k+1) j v' m3 (fc+15) hd (by simp at hj;omega) hG3
  refine⟨v2,m4,fc4,?_,h2,by rw[h3,n3];rfl,λid h5 h6=>?_⟩
  .rw[<-h1]
   simp only[xq]
   unfold x2f
   simp only[x6z,x8r,hk',xj1,x89,ix,ld]
   have hel:∀(M:Mem) (x:Int),elems M.get 1 (.slit [I x] 1 true)=some (intE x,1):=λ_ _=>rfl
   have hkc:kk=0\/kk=1:=by omega
   rcases hkc with rfl|rfl
   .simp only[byK]at A
    simp(disch:=omega) [Mp.c,z_pt,sIxA,asI,xbu,hel,A,x6u]
   .simp only[byK]at A
    simp(disch:=omega) [Mp.c,z_pt,sIxA,asI,xbu,hel,A,x6u]
  .rw[h4 id h5 h6,f3 id (by simp[h5]),Mem.get_set,xi6 (by rintro rfl;exact h6 rfl),Mem.get_new,xi6 (by rintro rfl;exact h6 rfl)]
theorem tdiv2{n:Nat}(h:0<n):(((n:Int)-1).tdiv 2)=(((n-1) / 2:Nat):Int):=by
 rw[Int.tdiv_eq_ediv_of_nonneg (by omega)]
 omega
theorem b_med(d:Nat)(hs:FHs){u:Nat}{t2 t8:AV}(rec0:AV->AV->AV->AV->Mem->Nat->O2)(h0:l≠[])(hl:l.length<=12)(kk:Nat)(hk1:kk<=1){v:AV}{m:Mem}{fc:Nat}{p q:Int}(hG:Gk 1 intE (λid=>id.1=u/\id.2.2=23) m v (l.map (byK kk)))(hg:m.get (u,1,3)=some (.row [I p,I q] 0 false)) :
 ∃m' fc',x1l (x6e (d+5)) hs u rec0 a t2 (.ptr (u,1,3) 0 0) (I kk) v (I kk) m fc=rec0 a t2 (.ptr (u,1,3) 0 0) (I ((kk+1:Nat):Int)) m' fc' /\
  m'.get (u,1,3)=some (.row (if kk=0 then[I (medP kk l),I q]else[I p,I (medP kk l)]) 0 false)/\m'.get (u,0,2)=m.get (u,0,2):=by
 have hlen:(l.map (byK kk)).length=l.length:=by simp
 have hpos:0<l.length:=xkb.mpr h0
 obtain⟨m1,e1,e2,e3,e4⟩:=c_Sort d hs (L:=l.map (byK kk)) (by rw[hlen];exact hl) hG
 have g1:m1.get (u,1,3)=some (.row [I p,I q] 0 false):=by rw[e4 _ (by simp)];exact hg
 have g2:m1.get (u,0,2)=m.get (u,0,2):=e4 _ (by simp)
 have hsl:(isoM (λx y=>decide (x<y)) ((l.map (byK kk)).length-1) (l.map (byK kk))).length=l.length:=by rw[iso_len,hlen]
 obtain⟨q0,i0,l0,-⟩:=e2.at (k:=(((l.length-1) / 2:Nat):Int)) (by omega) (by omega)
 have hln:sLen Try.prog xb v=some (I l.length):=by rw[hG.len x8a,hlen]
 have hmed:at0 (isoM (λx y=>decide (x<y)) ((l.map (byK kk)).length-1) (l.map (byK kk))) ((l.length-1) / 2)=medP kk l:=by
  unfold medP medI x9s
  rw[hlen]
 rw[xkl,hmed]at l0
 have hq:sQuo (I ((l.length:Int)-1)) (I 2)=some (I (((l.length-1) / 2:Nat):Int)):=by
  rw[sQuo_I (by omega),tdiv2 hpos,x6u (by omega) (by omega)]
 unfold x1l x41
 have hkc:kk=0\/kk=1:=by omega
 rcases hkc with rfl|rfl
 .refine⟨m1.set (u,1,3) (.row [I (medP 0 l),I q] 0 false),fc+12+2,?_,by simp,by rw[Mem.get_set,xi6 (by simp)];exact g2⟩
  simp only[e1,x6z,hln,xax]
  rw[x6u (by omega) (by omega)]
  simp only[hq,x6z,i0,l0]
  simp(disch:=omega) [sIxA,asI,g1,x6u]
 .refine⟨m1.set (u,1,3) (.row [I p,I (medP 1 l)] 0 false),fc+12+2,?_,by simp,by rw[Mem.get_set,xi6 (by simp)];exact g2⟩
  simp only[e1,x6z,hln,xax]
  rw[x6u (by omega) (by omega)]
  simp only[hq,x6z,i0,l0]
  simp(disch:=omega) [sIxA,asI,g1,x6u]
theorem xfz(d:Nat)(ha:Pts a l)(h0:l≠[])(hl:l.length<=12)(m:Mem):x6h (x6e (d+6)) xm [a] m=some (.agg [I (medP 0 l),I (medP 1 l)],m):=by
 refine x78 (by simp[ha.still]) ?_ m
 rw[x51]
 unfold x39 x2h
 simp[mem0,xac]
 unfold x44
 obtain⟨NM,hNM⟩:∃NM,NN=NM+3:=⟨NN-3,by have:=x7f;omega⟩
 rw[hNM]
 obtain⟨m0,hm0⟩:∃m0:Mem,m0=((⟨[],1⟩:Mem).new (0,0,2) (.row [I 0,I 0] 0 false)).new (0,1,3) (.row [I 0,I 0] 0 false):=⟨_,rfl⟩
 rw[<-hm0]
 have g0:m0.get (0,1,3)=some (.row [I 0,I 0] 0 false):=by rw[hm0];simp
 have f0:m0.get (0,0,2)=some (.row [I 0,I 0] 0 false):=by rw[hm0];simp
 have hlen:sLen Try.prog x1m a=some (I l.length):=ha.len xfm
 have c0:(0:Int)<2:=by omega
 have c1:((0+1:Nat):Int)<2:=by omega
 have c2:¬((1+1:Nat):Int)<2:=by omega
 obtain⟨v1,m1,fc1,h1,h2,h3,h4⟩:=l_medIn (x6e (d+5)) [] 0 (t2:=.ptr (0,0,2) 0 0) (t3:=.ptr (0,1,3) 0 0) (t8:=I (0:Nat)) (x9 (x6e (d+5)) [] 0 (NM+2)) ha (by omega) 0 (by omega) l 0 NN nilS m0 (2+1+1+3+3) rfl (by rw[x7f];omega) Gk.nil
 obtain⟨m2,fc2,h5,h6,h7⟩:=b_med (a:=a) (t2:=.ptr (0,0,2) 0 0) (t8:=I (0:Nat)) d [] (x9 (x6e (d+5)) [] 0 (NM+2)) h0 hl 0 (by omega) (fc:=fc1) (p:=0) (q:=0) h2 (by rw[h4 _ (by simp) (by simp)];exact g0)
 obtain⟨v3,m3,fc3,h8,h9,h10,h11⟩:=l_medIn (x6e (d+5)) [] 0 (t2:=.ptr (0,0,2) 0 0) (t3:=.ptr (0,1,3) 0 0) (t8:=I (1:Nat)) (x9 (x6e (d+5)) [] 0 (NM+1)) ha (by omega) 1 (by omega) l 0 NN nilS m2 (fc2+1+3+3) rfl (by rw[x7f];omega) Gk.nil
 simp only[xis]at h6
 obtain⟨m4,fc4,h12,h13,h14⟩:=b_med (a:=a) (t2:=.ptr (0,0,2) 0 0) (t8:=I (1:Nat)) d [] (x9 (x6e (d+5)) [] 0 (NM+1)) h0 hl 1 (by omega) (fc:=fc3) (p:=medP 0 l) (q:=0) h9 (by rw[h11 _ (by simp) (by simp)];exact h6)
 have f4:m4.get (0,0,2)=some (.row [I 0,I 0] 0 false):=by rw[h14,h11 _ (by simp) (by simp),h7,h4 _ (by simp) (by simp)];exact f0
 have step:∀(n:Nat) (kk:Nat) (M:Mem) (fc:Nat),((kk:Int)<2)->x9 (x6e (d+5)) [] 0 (n+1) a (.ptr (0,0,2) 0 0) (.ptr (0,1,3) 0 0) (I kk) M fc =
  xq (x6e (d+5)) [] 0 (x9 (x6e (d+5)) [] 0 n) NN a (.ptr (0,0,2) 0 0) (.ptr (0,1,3) 0 0) (I kk) nilS (I kk) a (I l.length) (I 0) M (fc+1+3+3):=λn kk M fc hkk=>by
  simp only[x9]
  unfold x2g x43 x42
  simp only[x8r,hkk,xj1,x6z,x89,hlen]
 have s0:=step (NM+2) 0 m0 (2+1) (by omega)
 have s1:=step (NM+1) 1 m2 fc2 (by omega)
 rw[show(I ((0:Nat):Int))=I 0 from rfl]at *
 rw[s0,h1,h5]
 rw[show(I ((0+1:Nat):Int))=I ((1:Nat):Int)from rfl,s1]
 rw[h8,h12]
 simp only[x9]
 unfold x2g x40
 simp[h13,f4,sLdP]
 exact RetF.st (a:=.agg [I (medP 0 l),I (medP 1 l)]) rfl rfl
end Go.Ix
