import Derived.Test.YtacloojepepcfaaWJoin4
set_option linter.unusedSimpArgs false
set_option linter.unusedVariables false
set_option maxRecDepth 10000
namespace Go.Ix
open Go.Proofs
theorem xjo:∀E:List (Int×Int),xc7 (mpE E)=some E
 |[]=>rfl
 |x::r=>by
  have:=xjo r
  unfold mpE at this ⊢
  rw[xn5,xc7,this];rfl
theorem xlt(d:Nat)(hs:FHs)(args:List AV)(m:Mem):x7v (d+1) hs x4h args m=tellM 4 args m:=by kernel_rfl
theorem c_elected(d:Nat)(hs:FHs){id:Id}{E:List (Int×Int)}{l:List Int}{m:Mem}(hE:Cn E l)(hne:l≠[])(hl:l.length<=100000)(hg:m.get id=some (.map (mpE E))):x7v (d+1) hs x4h [.mp id] m=some (.tup [I (elB l),I (l.length-elM l)],m):=by
 rw[xlt]
 have e4:tell4 m.get [.mp id]=some (.tup [I (elB l),I (l.length-elM l)]):=by
  unfold tell4
  simp only[hg,xjo]
  obtain⟨h1,h2⟩:=hE.elect hne
  have h5:(E.all λx=>decide (0<=x.2/\x.2<=4294967296))=true:=by
   rw[xn1]
   intro x hx
   obtain⟨h3,h4⟩:=hE.cnt x hx
   have:=List.count_le_length (a:=x.1) (l:=l)
   exact xny (by omega)
  rw[xmv ⟨h5,by have:=hE.len;omega⟩,h1,h2]
 unfold tellM
 simp only[show Nat.beq 4 3=false from by rfl,show Nat.ble 4 4=true from by rfl,cond_false,cond_true]
 unfold tellR
 simp only[show Nat.beq 4 4=true from by rfl,cond_true,e4]
 rfl
theorem xf3:∀{L:List (Int×Int)} {l:List Int},votL L=some l->(∀x∈L,(x.1=void\/isP x.1=true)/\(x.2=void\/isP x.2=true))->(∀p∈l,-200000<=p/\p<=200000)/\l.length<=L.length
 |[],l,h,_=>by simp[votL]at h;subst h;exact⟨by simp,by simp⟩
 |x::r,l,h,hb=>by
  have hb':∀y∈r,(y.1=void\/isP y.1=true)/\(y.2=void\/isP y.2=true):=λy hy=>hb y (xn6 _ hy)
  unfold votL at h
  by_cases c:x.1=void\/x.2=void
  .rw[xmv c]at h
   obtain⟨h1,h2⟩:=xf3 h hb'
   exact⟨h1,by simp;omega⟩
  .rw[xmw c]at h
   by_cases c2:(x.1-x.2) % 4096=0
   .rw[xmv c2]at h
    simp only[xmz]at h
    obtain⟨l',h',rfl⟩:=h
    obtain⟨h1,h2⟩:=xf3 h' hb'
    obtain⟨b1,b2⟩:=hb x xnd
    have e1:=wi_t (b1.resolve_left λh=>c (.inl h))
    have e2:=wi_t (b2.resolve_left λh=>c (.inr h))
    refine⟨λp hp=>?_,by simp;omega⟩
    rcases xnh.1 hp with rfl|hp
    .obtain⟨q,hq⟩:∃q,x.1-x.2=4096*q:=⟨(x.1-x.2) / 4096,by omega⟩
     rw[hq,Int.mul_tdiv_cancel_left _ (by omega)]
     omega
    .exact h1 p hp
   .rw[xmw c2]at h;cases h
section
variable{a b:AV}{A B':List Int}{n ca cb ov:Nat}
theorem ovL_in(hA:A.length=n*ca)(hB:B'.length=n*cb)(h1:ov<=ca)(h2:ov<=cb)(hPA:∀y∈A,y=void\/isP y=true)(hPB:∀y∈B',y=void\/isP y=true):∀x∈ovL A B' ca cb ov n,(x.1=void\/isP x.1=true)/\(x.2=void\/isP x.2=true):=by
 intro x hx
 unfold ovL at hx
 obtain⟨r,hr,hx⟩:=xo0.1 hx
 unfold ovR at hx
 obtain⟨k,hk,rfl⟩:=xnf.1 hx
 rw[xni]at hr hk
 have i1:=xbm (n:=n) (c:=ca) (r:=r) (k:=(ca-ov)+k) hr (by omega)
 have i2:=xbm (n:=n) (c:=cb) (r:=r) (k:=k) hr (by omega)
 constructor
 .dsimp only;rw[x8j (by omega)];exact hPA _ (List.getElem_mem _)
 .dsimp only;rw[x8j (show r*cb+k<B'.length by omega)];exact hPB _ (List.getElem_mem _)
theorem ovL_len:(ovL A B' ca cb ov n).length=n*ov:=by
 unfold ovL
 rw[xdd (z:=ov) (λx=>by unfold ovR;simp),xpk]
theorem elB_mem{l:List Int}(hne:l≠[]):elB l∈l:=by
 have:=(xe4 hne).1
 unfold prL at this
 obtain⟨n,hn,e⟩:=xnf.1 this
 rw[<-(xmx ..▸e:n=elB l/\_).1]
 exact hn
def JoT(n ca cb ov:Nat)(A B':List Int)(v:AV):Prop:=
 ∃y,v=.tup [.agg [I (if(joR A B' ca cb ov n).2.2=0 then n else 0),I (if(joR A B' ca cb ov n).2.2=0 then((ca+cb-ov:Nat):Int)else 0),y],I (joR A B' ca cb ov n).2.1,I (joR A B' ca cb ov n).2.2]/\Ints y (joR A B' ca cb ov n).1
theorem JoT.err{e:Int}(h:joR A B' ca cb ov n=([],0,e))(he:e≠0):JoT n ca cb ov A B' (.tup [.agg [I 0,I 0,nilS],I 0,I e]):=by
 unfold JoT
 rw[h]
 dsimp only
 rw[xmw he,xmw he]
 exact⟨nilS,rfl,Or.inl ⟨rfl,rfl⟩⟩
theorem JoT.ok{L:List Int}{k:Int}{y:AV}(h:joR A B' ca cb ov n=(L,k,0))(hy:Ints y L):JoT n ca cb ov A B' (.tup [.agg [I n,I (ca+cb-ov:Nat),y],I k,I 0]):=by
 unfold JoT
 rw[h]
 dsimp only
 rw[xmv rfl,xmv rfl]
 exact⟨y,rfl,hy⟩
theorem w_joined(d:Nat){sh:Int}(ha:Ints a A)(hA:A.length=n*ca)(hb:Ints b B')(hB:B'.length=n*cb)(hn:n<=64)(hn1:1<=n)(hca:ca<=64)(hcb:cb<=64)(hca1:1<=ca)(hcb1:1<=cb)(h1:ov<=ca)(h2:ov<=cb)(hsh:-1000000<=sh/\sh<=1000000)(hPB:∀y∈B',y=void\/isP y=true) :
 ∃y,Ints y (jnL A B' ca cb ov n sh)/\∀m,x7y (x7v (d+3)) xu [.agg [I n,I ca,a,I n,I cb,b,I ov],I sh] m=some (.agg [I n,I (ca+cb-ov:Nat),y],m):=by
 obtain⟨x,m',x',g1,g2,y,hy,rfl⟩:=r_joined d ha hA hb hB hn hn1 hca hcb hca1 hcb1 h1 h2 hsh hPB
 exact⟨y,hy,λm=>xda (by simp[ha.still1,hb.still1]) g1 g2⟩
theorem b_Joined0(d:Nat)(ha:Ints a A)(hA:A.length=n*ca)(hb:Ints b B')(hB:B'.length=n*cb)(hn:n<=64)(hn1:1<=n)(hca:ca<=64)(hcb:cb<=64)(hca1:1<=ca)(hcb1:1<=cb)(hPA:∀y∈A,y=void\/isP y=true)(hPB:∀y∈B',y=void\/isP y=true)(h1:ov<=ca)(h2:ov<=cb)(h0:1<=ov)(h64:ca+cb-ov<=64){m:Mem}{fc:Nat}(g3:m.get (0,0,3)=some (.row [I n,I ca,a] 0 false))(g4:m.get (0,1,4)=some (.row [I n,I cb,b] 0 false))(g6:m.get (0,2,6)=some (.row [I 0,I 0,nilS] 0 false))(g9:m.get (0,6,9)=some (.row [I 0,I 0,nilS] 0 false))(hnx:m.next=1) :
 RetF (JoT n ca cb ov A B') (xx (x7v (d+8)) [] 0 (I ov) (.ptr (0,0,3) 0 0) (.ptr (0,1,4) 0 0) (.ptr (0,2,6) 0 0) (.ptr (0,6,9) 0 0) m fc):=by
 have fa3:∀o,sFA o (.ptr (0,0,3) 0 0)=some (.ptr (0,0,3) 0 o):=λo=>by rw[xa0,xng]
 have fa4:∀o,sFA o (.ptr (0,1,4) 0 0)=some (.ptr (0,1,4) 0 o):=λo=>by rw[xa0,xng]
 have k30:sLd false 1 (.ptr (0,0,3) 0 0) m=some (I n):=by rw[x7z g3];rfl
 have k31:sLd false 1 (.ptr (0,0,3) 0 1) m=some (I ca):=by rw[x7z g3];rfl
 have k40:sLd false 1 (.ptr (0,1,4) 0 0) m=some (I n):=by rw[x7z g4];rfl
 have k41:sLd false 1 (.ptr (0,1,4) 0 1) m=some (I cb):=by rw[x7z g4];rfl
 have k3:sLd true 3 (.ptr (0,0,3) 0 0) m=some (.agg [I n,I ca,a]):=by rw[x7z g3];rfl
 have k4:sLd true 3 (.ptr (0,1,4) 0 0) m=some (.agg [I n,I cb,b]):=by rw[x7z g4];rfl
 have hwi:wi ov 1 (if(cb:Int)<ca then(cb:Int)else ca)=true:=by
  unfold wi
  split<;>(simp;omega)
 have w1:w64 ((ca:Int)+cb)=((ca+cb:Nat):Int):=by rw[x82 (by omega) (by omega)];omega
 have w2:w64 (((ca+cb:Nat):Int)-ov)=((ca+cb-ov:Nat):Int):=by rw[x82 (by omega) (by omega)];omega
 have hgt:¬((64:Int)<((ca+cb-ov:Nat):Int)):=by omega
 have hbb:x8i xo [(0,3,.agg [I n,I ca,a]),(3,3,.agg [I n,I cb,b]),(6,1,I ov)]=some (.agg [I n,I ca,a,I n,I cb,b,I ov]):=by
  rw[show xo=[I 0,I 0,nilS,I 0,I 0,nilS,I 0] by kernel_rfl];rfl
 have zov:xo=[I 0,I 0,nilS,I 0,I 0,nilS,I 0]:=by kernel_rfl
 unfold xx
 have hw:=λm=>xc1 (d+7) (ov:Int) 1 (if(cb:Int)<ca then(cb:Int)else ca) m
 simp only[fa3,fa4,x7x,k30,k40,x9x,xn4,xnb,x86,k31,k41,sMin_I,hw,hwi,xa6,x8c,xbh,w1,w2,xcm,hgt,xn2,k3,k4,hbb,xbi]
 obtain⟨m5,hm5⟩:∃m5,m5=(m.new (0,fc+28,13) (.row xo 0 false)).set (0,fc+28,13) (.row [I n,I ca,a,I n,I cb,b,I ov] 0 false):=⟨_,rfl⟩
 have S1:∀{R:Type} (K:Mem->Option R),sSt 7 (.ptr (0,fc+28,13) 0 0) (.agg [I n,I ca,a,I n,I cb,b,I ov]) (m.new (0,fc+28,13) (.row xo 0 false)) K=K m5:=λK=>by
  rw[x8y (cs:=xo) (off:=0) (z:=7) (x:=.agg [I n,I ca,a,I n,I cb,b,I ov]) (k:=K) (by rw[Mem.get_new_same]) rfl (by rw[zov];simp) (by rw[x9z];simp[ha.one,hb.one]),hm5,zov];rfl
 have f5:∀j:Id,j≠(0,fc+28,13)->m5.get j=m.get j:=λj hj=>by rw[hm5,Mem.get_set_ne hj,Mem.get_new_ne hj]
 have g13:m5.get (0,fc+28,13)=some (.row [I n,I ca,a,I n,I cb,b,I ov] 0 false):=by rw[hm5,Mem.get_set_same]
 have hnx5:m5.next=1:=by rw[hm5];exact hnx
 have l13:sLd true 7 (.ptr (0,fc+28,13) 0 0) m5=some (.agg [I n,I ca,a,I n,I cb,b,I ov]):=by rw[x7z g13];rfl
 obtain⟨mv,hv1,hv2⟩:=a_votes (u:=m5.next) (d+6) ha hA hb hB hn hca hcb h1 h2 hPA hPB
 have hcl:[AV.agg [I n,I ca,a,I n,I cb,b,I ov]].all clean=true:=by simp[ha.clean1,hb.clean1]
 have errZ:∀(e:Int) (M:Mem),M.get (0,2,6)=some (.row [I 0,I 0,nilS] 0 false)->M.get (0,6,9)=some (.row [I 0,I 0,nilS] 0 false)->joR A B' ca cb ov n=([],0,e)->e≠0 ->
  RetF (JoT n ca cb ov A B') ((sLd true 3 (.ptr (0,6,9) 0 0) M).bind λt=>sSt 3 (.ptr (0,2,6) 0 0) t M λM'=>(sLdP true 3 (.ptr (0,2,6) 0 0) M').bind λr0=>some (AV.tup [r0,I 0,I e],M')):=by
  intro e M q6 q9 hj he
  have l9:sLd true 3 (.ptr (0,6,9) 0 0) M=some (.agg [I 0,I 0,nilS]):=by rw[x7z q9];rfl
  have S6:∀{R:Type} (K:Mem->Option R),sSt 3 (.ptr (0,2,6) 0 0) (.agg [I 0,I 0,nilS]) M K=K (M.set (0,2,6) (.row [I 0,I 0,nilS] 0 false)):=λK=>by
   rw[x8y (off:=0) (z:=3) (x:=.agg [I 0,I 0,nilS]) (k:=K) q6 rfl (by simp) rfl];rfl
  have l6:sLdP true 3 (.ptr (0,2,6) 0 0) (M.set (0,2,6) (.row [I 0,I 0,nilS] 0 false))=some (.agg [I 0,I 0,nilS]):=by show sLd true 3 (.ptr (0,2,6) 0 0) _=_;rw[x7z (Mem.get_set_same ..)];rfl
  simp only[l9,x7x,S6,l6]
  exact RetF.tup rfl (JoT.err hj he)
 simp only[S1,l13,x7x]
 cases hvl:votL (ovL A B' ca cb ov n)with
 |none=>
  rw[hvl]at hv2
  have hj:joR A B' ca cb ov n=([],0,27):=by unfold joR;rw[hvl]
  obtain⟨M,c1,c2,c3⟩:=call1 (call:=x7v (d+8)) (f:=xl) (m:=m5) hcl hv2
  have fM:∀j:Id,j.1=0->M.get j=m5.get j:=λj hj=>by rw[c3,xmw (by omega)]
  have x0:∀a b:AV,sExt (.tup [a,b]) 0=some a:=λ_ _=>rfl
  have x1:∀a b:AV,sExt (.tup [a,b]) 1=some b:=λ_ _=>rfl
  simp only[c1,x7x,x0,x1,xa6,xn8,x89]
  exact errZ 27 M (by rw[fM _ rfl,f5 _ (by simp)];exact g6) (by rw[fM _ rfl,f5 _ (by simp)];exact g9) hj (by decide)
 |some l=>
  rw[hvl]at hv2
  obtain⟨hv2,E,hE,hgE⟩:=hv2
  obtain⟨M,c1,c2,c3⟩:=call1 (call:=x7v (d+8)) (f:=xl) (m:=m5) hcl hv2
  have fM:∀j:Id,j.1=0->M.get j=m5.get j:=λj hj=>by rw[c3,xmw (by omega)]
  have gE:M.get (m5.next,3,9)=some (.map (mpE E)):=by rw[c3,xmv (xn3 _)];exact hgE
  have x0:∀a b:AV,sExt (.tup [a,b]) 0=some a:=λ_ _=>rfl
  have x1:∀a b:AV,sExt (.tup [a,b]) 1=some b:=λ_ _=>rfl
  have hlm:sLenM (.mp (m5.next,3,9)) M=some (I E.length):=by
   unfold sLenM;simp only[gE];unfold mpE;rw[xo6]
  have q6:M.get (0,2,6)=some (.row [I 0,I 0,nilS] 0 false):=by rw[fM _ rfl,f5 _ (by simp)];exact g6
  have q9:M.get (0,6,9)=some (.row [I 0,I 0,nilS] 0 false):=by rw[fM _ rfl,f5 _ (by simp)];exact g9
  have q13:M.get (0,fc+28,13)=some (.row [I n,I ca,a,I n,I cb,b,I ov] 0 false):=by rw[fM _ rfl];exact g13
  simp only[c1,x7x,x0,x1,xa6,xnb,x86,hlm,xa5]
  by_cases hne:l=[]
  .subst hne
   have hE0:E.length=0:=by have:=hE.len;simpa using this
   have hj:joR A B' ca cb ov n=([],0,12):=by unfold joR;rw[hvl];rfl
   simp only[hE0,show decide (((0:Nat):Int)=0)=true from rfl,x89]
   exact errZ 12 M q6 q9 hj (by decide)
  have hE0:¬((E.length:Int)=0):=by
   intro h
   have h2:E=[]:=xol.1 (by omega)
   subst h2
   have:=hE.sum
   simp at this
   exact hne (xol.1 (by omega))
  obtain⟨b1,b2⟩:=xf3 hvl (ovL_in hA hB h1 h2 hPA hPB)
  rw[ovL_len]at b2
  have k64:=x9h (c:=ov) (r:=n) hn (by omega)
  have hel:=c_elected (d+7) [] hE hne (by omega) gE
  have hb:=b1 _ (elB_mem hne)
  obtain⟨y,hy,hjn⟩:=w_joined (d+5) (sh:=elB l) ha hA ‹Ints b B'› hB hn hn1 hca hcb hca1 hcb1 h1 h2 (by omega) hPB
  have q1:n*(ca+cb-ov)<=4096:=x9h hn h64
  have hjl:(jnL A B' ca cb ov n (elB l)).length<1000000:=by
   unfold jnL
   rw[xdd (z:=ca+cb-ov) (λx=>by unfold rowJ;simp),xpk];omega
  have hpe:=λm=>xjg (d+2) (r:=n) (c:=(ca+cb-ov:Nat)) hy hjl m
  have l13':sLd true 7 (.ptr (0,fc+28,13) 0 0) M=some (.agg [I n,I ca,a,I n,I cb,b,I ov]):=by rw[x7z q13];rfl
  obtain⟨m9,hm9⟩:∃m9,m9=(M.new (0,fc+54,18) (.row [I 0,I 0,nilS] 0 false)).set (0,fc+54,18) (.row [I n,I (ca+cb-ov:Nat),y] 0 false):=⟨_,rfl⟩
  have S9:∀{R:Type} (K:Mem->Option R),sSt 3 (.ptr (0,fc+54,18) 0 0) (.agg [I n,I (ca+cb-ov:Nat),y]) (M.new (0,fc+54,18) (.row [I 0,I 0,nilS] 0 false)) K=K m9:=λK=>by
   rw[x8y (cs:=[I 0,I 0,nilS]) (off:=0) (z:=3) (x:=.agg [I n,I (ca+cb-ov:Nat),y]) (k:=K) (by rw[Mem.get_new_same]) rfl (by simp) (by rw[x9z];simp[hy.one]),hm9];rfl
  have f9:∀j:Id,j≠(0,fc+54,18)->m9.get j=M.get j:=λj hj=>by rw[hm9,Mem.get_set_ne hj,Mem.get_new_ne hj]
  have l18:sLd true 3 (.ptr (0,fc+54,18) 0 0) m9=some (.agg [I n,I (ca+cb-ov:Nat),y]):=by rw[hm9,x7z (Mem.get_set_same ..)];rfl
  simp only[hE0,xn2,x86,hel,x7x,x0,x1,l13',hjn,x8s,xbi,S9,l18,hpe,x9x,xgm]
  cases cbad:(jnL A B' ca cb ov n (elB l)).any (badP isP)
  .have hj:joR A B' ca cb ov n=(jnL A B' ca cb ov n (elB l),l.length-elM l,0):=by
    unfold joR;rw[hvl];simp only[xmw hne,cbad,xnm,xne]
   have S6:∀{R:Type} (K:Mem->Option R),sSt 3 (.ptr (0,2,6) 0 0) (.agg [I n,I (ca+cb-ov:Nat),y]) m9 K=K (m9.set (0,2,6) (.row [I n,I (ca+cb-ov:Nat),y] 0 false)):=λK=>by
    rw[x8y (cs:=[I 0,I 0,nilS]) (off:=0) (z:=3) (x:=.agg [I n,I (ca+cb-ov:Nat),y]) (k:=K) (by rw[f9 _ (by simp)];exact q6) rfl (by simp) (by rw[x9z];simp[hy.one])];rfl
   have l6:sLdP true 3 (.ptr (0,2,6) 0 0) (m9.set (0,2,6) (.row [I n,I (ca+cb-ov:Nat),y] 0 false))=some (.agg [I n,I (ca+cb-ov:Nat),y]):=by show sLd true 3 (.ptr (0,2,6) 0 0) _=_;rw[x7z (Mem.get_set_same ..)];rfl
   simp only[xn8,xnb,x86,S6,x7x,l6]
   exact RetF.tup (by simp[hy.still1]) (JoT.ok hj hy)
  .have hj:joR A B' ca cb ov n=([],0,8):=by
    unfold joR;rw[hvl];simp only[xmw hne,cbad,xno]
   simp only[xnb,xn8,x89]
   exact errZ 8 m9 (by rw[f9 _ (by simp)];exact q6) (by rw[f9 _ (by simp)];exact q9) hj (by decide)
end
def jE(ra ca rb cb ov:Int)(A B':List Int):Int:=if x88 isP ra ca A≠0 then x88 isP ra ca A else if x88 isP rb cb B'≠0 then x88 isP rb cb B' else joE ra ca rb cb ov
section
variable{a b:AV}{A B':List Int}{ra ca rb cb ov:Int}
theorem sIdx_m0(x0 x1 x2 x3 x4 x5:AV):sIdx Try.prog x2a (.agg [x0,x1,x2,x3,x4,x5]) (I 0)=some (.agg [x0,x1,x2]):=by kernel_rfl
theorem sIdx_m1(x0 x1 x2 x3 x4 x5:AV):sIdx Try.prog x2a (.agg [x0,x1,x2,x3,x4,x5]) (I 1)=some (.agg [x3,x4,x5]):=by kernel_rfl
theorem zerr{e:Int}{M:Mem}(q6:M.get (0,2,6)=some (.row [I 0,I 0,nilS] 0 false))(q9:M.get (0,6,9)=some (.row [I 0,I 0,nilS] 0 false)) :
 RetF (λv=>v=.tup [.agg [I 0,I 0,nilS],I 0,I e]) ((sLd true 3 (.ptr (0,6,9) 0 0) M).bind λt=>sSt 3 (.ptr (0,2,6) 0 0) t M λM'=>(sLdP true 3 (.ptr (0,2,6) 0 0) M').bind λr0=>some (AV.tup [r0,I 0,I e],M')):=by
 have l9:sLd true 3 (.ptr (0,6,9) 0 0) M=some (.agg [I 0,I 0,nilS]):=by rw[x7z q9];rfl
 have S6:∀{R:Type} (K:Mem->Option R),sSt 3 (.ptr (0,2,6) 0 0) (.agg [I 0,I 0,nilS]) M K=K (M.set (0,2,6) (.row [I 0,I 0,nilS] 0 false)):=λK=>by
  rw[x8y (off:=0) (z:=3) (x:=.agg [I 0,I 0,nilS]) (k:=K) q6 rfl (by simp) rfl];rfl
 have l6:sLdP true 3 (.ptr (0,2,6) 0 0) (M.set (0,2,6) (.row [I 0,I 0,nilS] 0 false))=some (.agg [I 0,I 0,nilS]):=by show sLd true 3 (.ptr (0,2,6) 0 0) _=_;rw[x7z (Mem.get_set_same ..)];rfl
 simp only[l9,x7x,S6,l6]
 exact RetF.tup rfl rfl
theorem xlu(d:Nat)(hra:wi ra 1 64=true)(hca:wi ca 1 64=true)(hrb:wi rb 1 64=true)(hcb:wi cb 1 64=true)(he:joE ra ca rb cb ov≠0){m:Mem}{fc:Nat}(g3:m.get (0,0,3)=some (.row [I ra,I ca,a] 0 false))(g4:m.get (0,1,4)=some (.row [I rb,I cb,b] 0 false))(g6:m.get (0,2,6)=some (.row [I 0,I 0,nilS] 0 false))(g9:m.get (0,6,9)=some (.row [I 0,I 0,nilS] 0 false)) :
 RetF (λv=>v=.tup [.agg [I 0,I 0,nilS],I 0,I (joE ra ca rb cb ov)]) (xx (x7v (d+8)) [] 0 (I ov) (.ptr (0,0,3) 0 0) (.ptr (0,1,4) 0 0) (.ptr (0,2,6) 0 0) (.ptr (0,6,9) 0 0) m fc):=by
 have hca':=wi_t hca
 have hcb':=wi_t hcb
 have fa3:∀o,sFA o (.ptr (0,0,3) 0 0)=some (.ptr (0,0,3) 0 o):=λo=>by rw[xa0,xng]
 have fa4:∀o,sFA o (.ptr (0,1,4) 0 0)=some (.ptr (0,1,4) 0 o):=λo=>by rw[xa0,xng]
 have k30:sLd false 1 (.ptr (0,0,3) 0 0) m=some (I ra):=by rw[x7z g3];rfl
 have k31:sLd false 1 (.ptr (0,0,3) 0 1) m=some (I ca):=by rw[x7z g3];rfl
 have k40:sLd false 1 (.ptr (0,1,4) 0 0) m=some (I rb):=by rw[x7z g4];rfl
 have k41:sLd false 1 (.ptr (0,1,4) 0 1) m=some (I cb):=by rw[x7z g4];rfl
 unfold xx
 simp only[fa3,fa4,x7x,k30,k40,x9x]
 unfold joE at he ⊢
 by_cases c1:ra=rb
 rotate_left
 .simp only[c1,not_false_eq_true,xno,xn2,xn8,x89]
  exact zerr g6 g9
 have hw:=λm=>xc1 (d+7) ov 1 (if cb<ca then cb else ca) m
 simp only[c1,not_true_eq_false,xne,xn4,xnb,x86,k31,k41,x7x,sMin_I,hw,xa6]at he ⊢
 cases c2:wi ov 1 (if cb<ca then cb else ca)
 .simp only[xn8,x94,x89]
  exact zerr g6 g9
 have h3:=wi_t c2
 have h4:ov<=ca/\ov<=cb:=by
  obtain⟨h5,h6⟩:=h3
  split at h6<;>omega
 have w1:w64 (ca+cb)=ca+cb:=x82 (by omega) (by omega)
 have w2:w64 (ca+cb-ov)=ca+cb-ov:=x82 (by omega) (by omega)
 simp only[c2,xnb,x99]at he
 simp only[xnb,x99,x86,x8c,xbh,w1,w2,xcm,x7x]
 by_cases c3:64<ca+cb-ov
 .simp only[c3,xn4,x89,xno]
  exact zerr g6 g9
 .exact absurd (xmw c3) he
theorem xjp(d:Nat)(ha:Ints a A)(hAl:A.length<=5000)(hb:Ints b B')(hBl:B'.length<=5000){Q:O2->Prop}{m:Mem}{fc:Nat}(g3:m.get (0,0,3)=some (.row [I ra,I ca,a] 0 false))(g4:m.get (0,1,4)=some (.row [I rb,I cb,b] 0 false))(g6:m.get (0,2,6)=some (.row [I 0,I 0,nilS] 0 false))(g9:m.get (0,6,9)=some (.row [I 0,I 0,nilS] 0 false))(hnx:m.next=1)(hE:∀e,e≠0->e=(if x88 isP ra ca A≠0 then x88 isP ra ca A else x88 isP rb cb B')->∀r,RetF (λv=>v=.tup [.agg [I 0,I 0,nilS],I 0,I e]) r->Q r)(hO:x88 isP ra ca A=0->x88 isP rb cb B'=0->∀m' fc',m'.get (0,0,3)=some (.row [I ra,I ca,a] 0 false)->m'.get (0,1,4)=some (.row [I rb,I cb,b] 0 false)->m'.get (0,2,6)=some (.row [I 0,I 0,nilS] 0 false)->m'.get (0,6,9)=some (.row [I 0,I 0,nilS] 0 false)->m'.next=1 ->
 Q (xx (x7v (d+8)) [] 0 (I ov) (.ptr (0,0,3) 0 0) (.ptr (0,1,4) 0 0) (.ptr (0,2,6) 0 0) (.ptr (0,6,9) 0 0) m' fc')) :
 Q (x1b (x7v (d+8)) [] 0 NN (I ov) (.ptr (0,0,3) 0 0) (.ptr (0,1,4) 0 0) (.ptr (0,2,6) 0 0) (.ptr (0,6,9) 0 0) (.agg [I ra,I ca,a,I rb,I cb,b]) (I 0) m fc):=by
 obtain⟨j,hj⟩:=NN_3
 have e1:=λm=>xey (d+1) (r:=ra) (c:=ca) ha (by omega) m
 have e2:=λm=>xey (d+1) (r:=rb) (c:=cb) hb (by omega) m
 have S:∀(s:Nat) (x y z:AV) (M:Mem) (K:Mem->O2),([x,y,z].all AV.one=true)->sSt 3 (.ptr (0,s,11) 0 0) (.agg [x,y,z]) (M.new (0,s,11) (.row [I 0,I 0,nilS] 0 false)) K=K ((M.new (0,s,11) (.row [I 0,I 0,nilS] 0 false)).set (0,s,11) (.row [x,y,z] 0 false)):=λs x y z M K h=>by
  rw[x8y (cs:=[I 0,I 0,nilS]) (off:=0) (z:=3) (x:=.agg [x,y,z]) (k:=K) (by rw[Mem.get_new_same]) rfl (by simp) h];rfl
 have L:∀(s:Nat) (x y z:AV) (M:Mem),sLd true 3 (.ptr (0,s,11) 0 0) ((M.new (0,s,11) (.row [I 0,I 0,nilS] 0 false)).set (0,s,11) (.row [x,y,z] 0 false))=some (.agg [x,y,z]):=λs x y z M=>by
  rw[x7z (Mem.get_set_same ..)];rfl
 have F:∀(s:Nat) (x y z:AV) (M:Mem) (j:Id),j.2.2≠11->((M.new (0,s,11) (.row [I 0,I 0,nilS] 0 false)).set (0,s,11) (.row [x,y,z] 0 false)).get j=M.get j:=λs x y z M j hj=>by
  rw[Mem.get_set_ne (by rintro rfl;exact hj rfl),Mem.get_new_ne (by rintro rfl;exact hj rfl)]
 rw[hj]
 simp only[x1b,x4i]
 have w1:w64 ((0:Int)+1)=1:=rfl
 have w2:w64 ((1:Int)+1)=2:=rfl
 have lt0:decide ((0:Int)<2)=true:=rfl
 have lt1:decide ((1:Int)<2)=true:=rfl
 have lt2:decide ((2:Int)<2)=false:=rfl
 have oa:[I ra,I ca,a].all AV.one=true:=by simp[ha.one]
 have ob:[I rb,I cb,b].all AV.one=true:=by simp[hb.one]
 simp only[x8m,lt0,lt1,lt2,x7x,x89,x86,sIdx_m0,sIdx_m1,x8s,xbi,S _ _ _ _ _ _ oa,S _ _ _ _ _ _ ob,L,e1,e2,x9x,x8c,w1,w2]
 by_cases c1:x88 isP ra ca A=0
 rotate_left
 .simp only[c1,xn2,xn8,x89]
  refine hE _ c1 (by rw[xmv c1]) _ (zerr ?_ ?_)
  .rw[F _ _ _ _ _ _ (by simp)];exact g6
  .rw[F _ _ _ _ _ _ (by simp)];exact g9
 simp only[c1,xn4,xnb,x86]
 by_cases c2:x88 isP rb cb B'=0
 rotate_left
 .simp only[c2,xn2,xn8,x89]
  refine hE _ c2 (by rw[xmw (by simpa using c1)]) _ (zerr ?_ ?_)
  .rw[F _ _ _ _ _ _ (by simp),F _ _ _ _ _ _ (by simp)];exact g6
  .rw[F _ _ _ _ _ _ (by simp),F _ _ _ _ _ _ (by simp)];exact g9
 simp only[c2,xn4,xnb,x86]
 refine hO c1 c2 _ _ ?_ ?_ ?_ ?_ hnx
 .rw[F _ _ _ _ _ _ (by simp),F _ _ _ _ _ _ (by simp)];exact g3
 .rw[F _ _ _ _ _ _ (by simp),F _ _ _ _ _ _ (by simp)];exact g4
 .rw[F _ _ _ _ _ _ (by simp),F _ _ _ _ _ _ (by simp)];exact g6
 .rw[F _ _ _ _ _ _ (by simp),F _ _ _ _ _ _ (by simp)];exact g9
theorem xjq(d:Nat)(ha:Ints a A)(hb:Ints b B'){Q:O2->Prop}(h:∀m fc,m.get (0,0,3)=some (.row [I ra,I ca,a] 0 false)->m.get (0,1,4)=some (.row [I rb,I cb,b] 0 false)->m.get (0,2,6)=some (.row [I 0,I 0,nilS] 0 false)->m.get (0,6,9)=some (.row [I 0,I 0,nilS] 0 false)->m.next=1 ->
 Q (x1b (x7v (d+8)) [] 0 NN (I ov) (.ptr (0,0,3) 0 0) (.ptr (0,1,4) 0 0) (.ptr (0,2,6) 0 0) (.ptr (0,6,9) 0 0) (.agg [I ra,I ca,a,I rb,I cb,b]) (I 0) m fc)) :
 Q (x7v (d+9) [] xb [.agg [I ra,I ca,a],.agg [I rb,I cb,b],I ov] mem0):=by
 rw[x6c]
 unfold x3u x2b x4j
 have hbb:x8i [I 0,I 0,nilS] []=some (.agg [I 0,I 0,nilS]):=rfl
 have hb2:x8i x4k [(0,3,.agg [I ra,I ca,a]),(3,3,.agg [I rb,I cb,b])]=some (.agg [I ra,I ca,a,I rb,I cb,b]):=by
  rw[show x4k=[I 0,I 0,nilS,I 0,I 0,nilS] by kernel_rfl];rfl
 simp[mem0,ha.one,hb.one,x8s,hbb,hb2]
 refine h _ _ ?_ ?_ ?_ ?_ rfl
 .simp
 .simp
 .simp
 .simp
theorem w_JoinedE(d:Nat)(ha:Ints a A)(hAl:A.length<=5000)(hb:Ints b B')(hBl:B'.length<=5000)(he:jE ra ca rb cb ov A B'≠0)(m:Mem) :
 x7y (x7v (d+9)) xb [.agg [I ra,I ca,a],.agg [I rb,I cb,b],I ov] m=some (.tup [.agg [I 0,I 0,nilS],I 0,I (jE ra ca rb cb ov A B')],m):=by
 refine callV (by simp[ha.still1,hb.still1]) (xjq d ha hb λm fc g3 g4 g6 g9 hnx=>xjp d ha hAl hb hBl g3 g4 g6 g9 hnx (λe he' hee r hr=>?_) (λc1 c2 m' fc' g3 g4 g6 g9 _=>?_)) m
 .have:jE ra ca rb cb ov A B'=e:=by
   unfold jE
   rw[hee]at he' ⊢
   split
   .rfl
   .rename_i c
    rw[xmw c]at he'
    rw[xmv he']
  rw[this];exact hr
 .have e1:jE ra ca rb cb ov A B'=joE ra ca rb cb ov:=by unfold jE;rw[xmw (by simpa using c1),xmw (by simpa using c2)]
  rw[e1]at he ⊢
  obtain⟨h1,h2,-,-⟩:=xbl c1
  obtain⟨h3,h4,-,-⟩:=xbl c2
  exact xlu d h1 h2 h3 h4 he g3 g4 g6 g9
theorem jE_0(h:jE ra ca rb cb ov A B'=0):x88 isP ra ca A=0/\x88 isP rb cb B'=0/\joE ra ca rb cb ov=0:=by
 unfold jE at h
 split at h
 .rename_i c;exact absurd h c
 .rename_i c1
  split at h
  .rename_i c;exact absurd h c
  .rename_i c2
   exact⟨by simpa using c1,by simpa using c2,h⟩
theorem joE_0(h:joE ra ca rb cb ov=0):ra=rb/\wi ov 1 (if cb<ca then cb else ca)=true/\ca+cb-ov<=64:=by
 unfold joE at h
 by_cases c1:ra=rb
 .rw[xmw (by simpa using c1)]at h
  cases c2:wi ov 1 (if cb<ca then cb else ca)
  .rw[c2]at h;simp at h
  .rw[c2]at h
   simp only[xnb,x99]at h
   refine⟨c1,rfl,?_⟩
   rcases Int.lt_or_le 64 (ca+cb-ov)with c3|c3
   .rw[xmv c3]at h;simp at h
   .exact c3
 .rw[xmv c1]at h;simp at h
end
theorem xde{ra ca rb cb ov:Int}{A B':List Int}(h:jE ra ca rb cb ov A B'=0):∃n p q o:Nat,ra=n/\rb=n/\ca=p/\cb=q/\ov=o/\A.length=n*p/\B'.length=n*q/\1<=n/\n<=64/\1<=p/\p<=64/\1<=q/\q<=64/\1<=o/\o<=p/\o<=q/\p+q-o<=64/\(∀y∈A,y=void\/isP y=true)/\(∀y∈B',y=void\/isP y=true):=by
 obtain⟨h1,h2,h3⟩:=jE_0 h
 obtain⟨a1,a2,a3,a4⟩:=xbl h1
 obtain⟨b1,b2,b3,b4⟩:=xbl h2
 obtain⟨c1,c2,c3⟩:=joE_0 h3
 have a1:=wi_t a1
 have a2:=wi_t a2
 have b2:=wi_t b2
 have c2:=wi_t c2
 have c4:ov<=ca/\ov<=cb:=by
  obtain⟨h5,h6⟩:=c2
  split at h6<;>omega
 obtain⟨n,rfl⟩:∃n:Nat,ra=n:=⟨ra.toNat,by omega⟩
 obtain⟨p,rfl⟩:∃n:Nat,ca=n:=⟨ca.toNat,by omega⟩
 obtain⟨q,rfl⟩:∃n:Nat,cb=n:=⟨cb.toNat,by omega⟩
 obtain⟨o,rfl⟩:∃n:Nat,ov=n:=⟨ov.toNat,by omega⟩
 subst c1
 exact⟨n,p,q,o,rfl,rfl,rfl,rfl,rfl,by exact_mod_cast a3,by exact_mod_cast b3,by omega,by omega,by omega,by omega,by omega,by omega,by omega,by omega,by omega,by omega,a4,b4⟩
theorem r_Joined(d:Nat){a b:AV}{A B':List Int}{n p q o:Nat}(ha:Ints a A)(hb:Ints b B')(h:jE n p n q o A B'=0):RetF (JoT n p q o A B') (x7v (d+9) [] xb [.agg [I n,I p,a],.agg [I n,I q,b],I o] mem0):=by
 obtain⟨n',p',q',o',e1,-,e2,e3,e4,hA,hB,c1,c2,c3,c4,c5,c6,c7,c8,c9,c10,hPA,hPB⟩:=xde h
 obtain rfl:n=n':=by omega
 obtain rfl:p=p':=by omega
 obtain rfl:q=q':=by omega
 obtain rfl:o=o':=by omega
 have k1:=x9h (c:=p) (r:=n) c2 c4
 have k2:=x9h (c:=q) (r:=n) c2 c6
 obtain⟨g1,g2,-⟩:=jE_0 h
 refine xjq d ha hb λm fc g3 g4 g6 g9 hnx=>xjp d ha (by omega) hb (by omega) g3 g4 g6 g9 hnx (λe he' hee r hr=>?_) (λc1 c2 m' fc' g3 g4 g6 g9 hnx=>?_)
 .rw[xmw (by simpa using g1),g2]at hee
  exact absurd hee he'
 .exact b_Joined0 d ha hA hb hB (by omega) (by omega) c4 c6 c3 c5 hPA hPB c8 c9 c7 c10 g3 g4 g6 g9 hnx
theorem Gr.atI{u t:Nat}{m:Mem}{v:AV}{l:List Int}(h:Gr 1 intE u t m v l){k:Nat}(hk:k<l.length):∃p,sIx 1 v (I k)=some p/\sLd false 1 p m=some (I (at0 l k)):=by
 rcases h with ⟨rfl,rfl⟩|⟨s,ver,rfl,hg⟩
 .simp at hk
 .refine⟨.ptr (u,s,t) ver k,?_,?_⟩
  .simp only[sIx,asI]
   rw[xmv ⟨by omega,by omega,trivial⟩,xoa,xng,show((k:Int)).toNat=k from by omega]
  .rw[x7z hg];exact xf2 hk
structure JR (ra ca:Int) (a:AV) (rb cb:Int) (b:AV) (m:Mem):Prop where
 g3:m.get (0,0,3)=some (.row [I ra,I ca,a] 0 false)
 g4:m.get (0,1,4)=some (.row [I rb,I cb,b] 0 false)
 g6:m.get (0,2,6)=some (.row [I 0,I 0,nilS] 0 false)
 g9:m.get (0,6,9)=some (.row [I 0,I 0,nilS] 0 false)
theorem JR.frame{ra ca:Int}{a:AV}{rb cb:Int}{b:AV}{m m':Mem}(h:JR ra ca a rb cb b m)(hf:∀j:Id,j.2.2<=9->m'.get j=m.get j):JR ra ca a rb cb b m':=
 ⟨(hf _ (by simp)).trans h.g3,(hf _ (by simp)).trans h.g4,(hf _ (by simp)).trans h.g6,(hf _ (by simp)).trans h.g9⟩
section
variable{a b:AV}{A B':List Int}{n ca cb ov:Nat}
theorem jzerr{e:Int}{M:Mem}{ra' ca' rb' cb':Int}(h:JR ra' ca' a rb' cb' b M)(hj:joR A B' ca cb ov n=([],0,e))(he:e≠0) :
 RetF (JoT n ca cb ov A B') ((sLd true 3 (.ptr (0,6,9) 0 0) M).bind λt=>sSt 3 (.ptr (0,2,6) 0 0) t M λM'=>(sLdP true 3 (.ptr (0,2,6) 0 0) M').bind λr0=>some (AV.tup [r0,I 0,I e],M')):=by
 obtain⟨x,m',x',h1,h2,rfl⟩:=zerr (e:=e) h.g6 h.g9
 exact⟨x,m',_,h1,h2,JoT.err hj he⟩
theorem l_rOut1(d:Nat)(ha:Ints a A)(hA:A.length=n*ca)(hb:Ints b B')(hB:B'.length=n*cb)(hn:n<=64)(hca:ca<=64)(hcb:cb<=64)(h1:ov<=ca)(h2:ov<=cb)(h64:ca+cb-ov<=64)(hPA:∀y∈A,y=void\/isP y=true)(hPB:∀y∈B',y=void\/isP y=true){l:List Int}{sh mo:Int}(hsh:-1000000<=sh/\sh<=1000000)(hbad:(jnL A B' ca cb ov n sh).any (badP isP)=true->joR A B' ca cb ov n=([],0,8)){t11:AV}{s21:Nat}{r:Nat}(hr:r<n)(rec0:AV->AV->AV->AV->AV->AV->AV->AV->AV->AV->AV->Mem->Nat->O2){rest:List Int}(hnext:∀v acc m fc,JR n ca a n cb b m->m.get (0,s21,21)=some (.row [I n,I (ca+cb-ov:Nat),v] 0 false)->Gr 1 intE 0 224 m v acc->acc++rest=jnL A B' ca cb ov n sh->acc.any (badP isP)=false ->
 RetF (JoT n ca cb ov A B') (rec0 (I ov) (.ptr (0,0,3) 0 0) (.ptr (0,1,4) 0 0) (.ptr (0,2,6) 0 0) (.ptr (0,6,9) 0 0) (I (ca+cb-ov:Nat)) t11 (I sh) (I mo) (.ptr (0,s21,21) 0 0) (I (r+1:Nat)) m fc)) :
 ∀(s k j:Nat) (v:AV) (acc:List Int) (m:Mem) (fc:Nat),k+s=ca+cb-ov->s<j->JR n ca a n cb b m->m.get (0,s21,21)=some (.row [I n,I (ca+cb-ov:Nat),v] 0 false)->Gr 1 intE 0 224 m v acc->acc++((rowJ A B' ca cb ov sh r).drop k++rest)=jnL A B' ca cb ov n sh->acc.any (badP isP)=false ->
  RetF (JoT n ca cb ov A B') (xg (x7v (d+2)) [] 0 rec0 j (I ov) (.ptr (0,0,3) 0 0) (.ptr (0,1,4) 0 0) (.ptr (0,2,6) 0 0) (.ptr (0,6,9) 0 0) (I (ca+cb-ov:Nat)) t11 (I sh) (I mo) (.ptr (0,s21,21) 0 0) (I r) (I k) m fc):=by
 have hrl:(rowJ A B' ca cb ov sh r).length=ca+cb-ov:=by unfold rowJ;simp
 intro s
 induction s with
 |zero=>
  intro k j v acc m fc hk hj hM g21 hG hac hok
  obtain⟨j,rfl⟩:∃i,j=i+1:=⟨j-1,by omega⟩
  have hkk:k=ca+cb-ov:=by omega
  subst hkk
  have hlt:¬(((ca+cb-ov:Nat):Int)<((ca+cb-ov:Nat):Int)):=by omega
  rw[xp6 (by omega),xof]at hac
  have w7:w64 ((r:Int)+1)=((r+1:Nat):Int):=by rw[x82 (by omega) (by omega)];omega
  simp only[xg]
  unfold x2h x4t
  simp only[x8m,hlt,xn2,x7x,x86,x8c,w7]
  exact hnext v acc m _ hM g21 hG hac hok
 |succ s ih=>
  intro k j v acc m fc hk hj hM g21 hG hac hok
  obtain⟨j,rfl⟩:∃i,j=i+1:=⟨j-1,by omega⟩
  have hkl:k<ca+cb-ov:=by omega
  have hlt:(k:Int)<((ca+cb-ov:Nat):Int):=by omega
  have k1:=x9h (c:=ca) (r:=r) (by omega) hca
  have k2:=x9h (c:=cb) (r:=r) (by omega) hcb
  have hcell:(rowJ A B' ca cb ov sh r).drop k=xah A B' ca cb ov sh r k::(rowJ A B' ca cb ov sh r).drop (k+1):=by
   rw[xp4 (by omega)]
   congr 1
   unfold rowJ;simp
  rw[hcell,xp2]at hac
  have w7:w64 ((k:Int)+1)=((k+1:Nat):Int):=by rw[x82 (by omega) (by omega)];omega
  have hv:void=1000000000000:=rfl
  have fa3:∀o,sFA o (.ptr (0,0,3) 0 0)=some (.ptr (0,0,3) 0 o):=λo=>by rw[xa0,xng]
  have fa4:∀o,sFA o (.ptr (0,1,4) 0 0)=some (.ptr (0,1,4) 0 o):=λo=>by rw[xa0,xng]
  have k31:sLd false 1 (.ptr (0,0,3) 0 1) m=some (I ca):=by rw[x7z hM.g3];rfl
  have k32:sLd false 1 (.ptr (0,0,3) 0 2) m=some a:=by rw[x7z hM.g3];rfl
  have k41:sLd false 1 (.ptr (0,1,4) 0 1) m=some (I cb):=by rw[x7z hM.g4];rfl
  have k42:sLd false 1 (.ptr (0,1,4) 0 2) m=some b:=by rw[x7z hM.g4];rfl
  have fin:∀(p:Int) (fc':Nat),p=xah A B' ca cb ov sh r k->RetF (JoT n ca cb ov A B') (x1d (x7v (d+2)) [] 0 rec0 (xg (x7v (d+2)) [] 0 rec0 j) (I ov) (.ptr (0,0,3) 0 0) (.ptr (0,1,4) 0 0) (.ptr (0,2,6) 0 0) (.ptr (0,6,9) 0 0) (I (ca+cb-ov:Nat)) t11 (I sh) (I mo) (.ptr (0,s21,21) 0 0) (I r) (I k) (I p) m fc'):=by
   intro p fc' hp
   unfold x1d
   cases hb2:badP isP p
   .obtain⟨v',m',A1,G1,n1,f1⟩:=hG.app (bytes:=8) (s0:=fc'+11) x8n (by omega) (by
     have h5:=congrArg List.length hac
     have h6:(jnL A B' ca cb ov n sh).length=n*(ca+cb-ov):=by unfold jnL;rw[xdd (z:=ca+cb-ov) (λx=>by unfold rowJ;simp),xpk]
     have h7:=x9h (c:=ca+cb-ov) (r:=n) hn h64
     rw[h6]at h5
     simp only[xo9,xnp]at h5
     unfold x83;omega) p
    obtain⟨ho,hc⟩:=G1.own1
    have a1:sFA 2 (.ptr (0,s21,21) 0 0)=some (.ptr (0,s21,21) 0 2):=rfl
    have a2:sLd false 1 (.ptr (0,s21,21) 0 2) m=some v:=by rw[x7z g21];rfl
    have el:∀objs,elems objs 1 (.slit [I p] 1 true)=some (intE p,1):=λ_=>rfl
    have S1:∀{R:Type} (K:Mem->Option R),sSt 1 (.ptr (0,s21,21) 0 2) v' m' K=K (m'.set (0,s21,21) (.row [I n,I (ca+cb-ov:Nat),v'] 0 false)):=λK=>by
     rw[x8y (off:=2) (z:=1) (x:=v') (k:=K) ((f1 _ (by simp)).trans g21) (by rw[hc];rfl) (by simp) (by rw[hc];simp[ho]),hc];rfl
    have go:RetF (JoT n ca cb ov A B') (x2g (x7v (d+2)) [] 0 rec0 (xg (x7v (d+2)) [] 0 rec0 j) (I ov) (.ptr (0,0,3) 0 0) (.ptr (0,1,4) 0 0) (.ptr (0,2,6) 0 0) (.ptr (0,6,9) 0 0) (I (ca+cb-ov:Nat)) t11 (I sh) (I mo) (.ptr (0,s21,21) 0 0) (I r) (I k) (m'.set (0,s21,21) (.row [I n,I (ca+cb-ov:Nat),v'] 0 false)) (fc'+14)):=by
     unfold x2g
     simp only[x8c,x7x,w7]
     refine ih (k+1) j v' (acc++[p]) _ _ (by omega) (by omega) ((hM.frame λj hj=>f1 j (by omega)).frame λj hj=>Mem.get_set_ne (by rintro rfl;simp at hj)) (Mem.get_set_same ..) (G1.frame λs=>Mem.get_set_ne (by simp)) ?_ ?_
     .rw[<-hac,hp];simp
     .rw[xq8,hok];simp[hb2]
    unfold badP at hb2
    simp only[Bool.and_eq_false_iff,Bool.not_eq_false',xp9]at hb2
    by_cases c:p=void
    .simp only[c,<-hv,x9x,xn4,xnb,x7x,xaq,xe1,xb5,sW_t,x99,x9m,x86,a1,a2,xcq,xe2,el]
     rw[c]at A1 el
     simp only[el,A1,S1]
     exact go
    .have hp2:isP p=true:=hb2.resolve_left c
     have c':¬p=1000000000000:=c
     simp only[c',x9x,xn2,xn8,x7x,xaq,xe1,xb5,sW_t,x94,xdc,hp2,xa6,xnb,x9m,x86,a1,a2,xcq,xe2,el,A1,S1]
     exact go
   .have hany:(jnL A B' ca cb ov n sh).any (badP isP)=true:=by
     rw[<-hac,<-hp,xq8,List.any_cons,hb2];simp
    unfold badP at hb2
    simp only[xn0,xph,decide_eq_false_iff_not]at hb2
    have c':¬p=1000000000000:=hb2.1
    simp only[c',x9x,xn2,xn8,x7x,xaq,xe1,xb5,sW_t,x94,xdc,hb2.2,xa6,x9m,x89]
    exact jzerr hM (hbad hany) (by decide)
  have mid:∀(p:Int) (fc':Nat),p=(if k<ca then at0 A (r*ca+k)else void)->RetF (JoT n ca cb ov A B') (x1w (x7v (d+2)) [] 0 rec0 (xg (x7v (d+2)) [] 0 rec0 j) (I ov) (.ptr (0,0,3) 0 0) (.ptr (0,1,4) 0 0) (.ptr (0,2,6) 0 0) (.ptr (0,6,9) 0 0) (I (ca+cb-ov:Nat)) t11 (I sh) (I mo) (.ptr (0,s21,21) 0 0) (I r) (I k) (I p) m fc'):=by
   intro p fc' hp
   have w1:w64 ((ca:Int)-ov)=(ca:Int)-ov:=x82 (by omega) (by omega)
   have w2:w64 ((k:Int)-((ca:Int)-ov))=(k:Int)-((ca:Int)-ov):=x82 (by omega) (by omega)
   unfold x1w
   simp only[fa3,fa4,x7x,k31,xbh,w1,w2,xa5,xaq,xb5,sW_t]
   by_cases c:p=void
   .have c':p=1000000000000:=c
    simp only[c',xn4,x94,x7x,sGe_I,x9m]
    by_cases c2:(0:Int)<=(k:Int)-((ca:Int)-ov)
    .have i2:=xbm (n:=n) (c:=cb) (r:=r) (k:=k-(ca-ov)) hr (by omega)
     have c3:(r:Int)*(cb:Int)=((r*cb:Nat):Int):=by push_cast;rfl
     have w3:w64 ((r:Int)*(cb:Int))=((r*cb:Nat):Int):=by rw[c3];exact x82 (by omega) (by omega)
     have w4:w64 (((r*cb:Nat):Int)+((k:Int)-((ca:Int)-ov)))=((r*cb+(k-(ca-ov)):Nat):Int):=by rw[x82 (by omega) (by omega)];omega
     have ixB:=hb.ix x8n (k:=r*cb+(k-(ca-ov))) (by omega)
     have ldB:∀m,sLd false 1 (.plit ((B'.drop (r*cb+(k-(ca-ov)))).flatMap intE)) m=some (I (at0 B' (r*cb+(k-(ca-ov))))):=λm=>xa7 (by omega)
     have hcJ:xah A B' ca cb ov sh r k=shF sh (at0 B' (r*cb+(k-(ca-ov)))):=by
      unfold xah
      rw[xmw]
      rintro⟨h3,h4⟩
      rw[xmv h3]at hp
      exact h4 ⟨hp▸c,by omega⟩
     have hyP:=hPB (at0 B' (r*cb+(k-(ca-ov)))) (by rw[x8j (by omega)];exact List.getElem_mem _)
     obtain⟨h64a,h64b⟩:=xez (t:=sh) hsh hyP
     simp only[c2,xn4,x89,x7x,k42,k41,xc0,w3,x8c,w4,ixB,ldB,x9x]
     generalize at0 B' (r*cb+(k-(ca-ov)))=y at hcJ hyP h64a h64b
     by_cases c4:y=void
     .have c5:y=1000000000000:=c4
      have e:shF sh y=y:=by unfold shF;rw[xmv c4]
      rw[e]at hcJ
      simp only[c5,xn4,xnb,x86]
      exact fin _ _ (by rw[hcJ,c5])
     .have c5:¬y=1000000000000:=c4
      simp only[c5,xn2,xn8,x89]
      rw[h64a,h64b c4]
      exact fin _ _ hcJ.symm
    .simp only[c2,xn2,x86]
     refine fin _ _ ?_
     have h3:k<ca:=by omega
     rw[xmv h3]at hp
     unfold xah
     rw[xmv ⟨h3,λh=>by omega⟩,<-hp,c']
   .have c':¬p=1000000000000:=c
    simp only[c',xn2,x99,x7x,x9m,x86]
    refine fin _ _ ?_
    by_cases h3:k<ca
    .rw[xmv h3]at hp
     unfold xah
     rw[xmv ⟨h3,λh=>c (hp.trans h.1)⟩,hp]
    .rw[xmw h3]at hp;exact absurd hp c
  simp only[xg]
  unfold x2h x4v x4u
  simp only[x8m,hlt,xn4,x7x,x89,fa3,k31]
  by_cases c:k<ca
  .have i1:=xbm (n:=n) (c:=ca) (r:=r) (k:=k) hr c
   have c1:(r:Int)*(ca:Int)=((r*ca:Nat):Int):=by push_cast;rfl
   have w1:w64 ((r:Int)*(ca:Int))=((r*ca:Nat):Int):=by rw[c1];exact x82 (by omega) (by omega)
   have w2:w64 (((r*ca:Nat):Int)+k)=((r*ca+k:Nat):Int):=by rw[x82 (by omega) (by omega)];omega
   have ixA:=ha.ix x8n (k:=r*ca+k) (by omega)
   have ldA:∀m,sLd false 1 (.plit ((A.drop (r*ca+k)).flatMap intE)) m=some (I (at0 A (r*ca+k))):=λm=>xa7 (by omega)
   have hlt2:(k:Int)<(ca:Int):=by omega
   simp only[hlt2,xn4,x89,x7x,k32,k31,xc0,w1,x8c,w2,ixA,ldA]
   exact mid _ _ (by rw[xmv c])
  .have hlt2:¬(k:Int)<(ca:Int):=by omega
   simp only[hlt2,xn2,x86]
   exact mid _ _ (by rw[xmw c])
theorem l_rOut0(d:Nat)(ha:Ints a A)(hA:A.length=n*ca)(hb:Ints b B')(hB:B'.length=n*cb)(hn:n<=64)(hca:ca<=64)(hcb:cb<=64)(h1:ov<=ca)(h2:ov<=cb)(h64:ca+cb-ov<=64)(hPA:∀y∈A,y=void\/isP y=true)(hPB:∀y∈B',y=void\/isP y=true){l:List Int}(hl:l.length<=100000){sh mo:Int}(hsh:-1000000<=sh/\sh<=1000000)(hmo:0<=mo/\mo<=100000)(hbad:(jnL A B' ca cb ov n sh).any (badP isP)=true->joR A B' ca cb ov n=([],0,8))(hgood:(jnL A B' ca cb ov n sh).any (badP isP)=false->joR A B' ca cb ov n=(jnL A B' ca cb ov n sh,l.length-mo,0)){t11:AV}(ht11:sLen Try.prog x7 t11=some (I l.length)){s21:Nat} :
 ∀(s r j:Nat) (v:AV) (acc:List Int) (m:Mem) (fc:Nat),r+s=n->s<j->JR n ca a n cb b m->m.get (0,s21,21)=some (.row [I n,I (ca+cb-ov:Nat),v] 0 false)->Gr 1 intE 0 224 m v acc->acc++((List.range n).drop r).flatMap (rowJ A B' ca cb ov sh)=jnL A B' ca cb ov n sh->acc.any (badP isP)=false ->
  RetF (JoT n ca cb ov A B') (x1e (x7v (d+2)) [] 0 j (I ov) (.ptr (0,0,3) 0 0) (.ptr (0,1,4) 0 0) (.ptr (0,2,6) 0 0) (.ptr (0,6,9) 0 0) (I (ca+cb-ov:Nat)) t11 (I sh) (I mo) (.ptr (0,s21,21) 0 0) (I r) m fc):=by
 intro s
 induction s with
 |zero=>
  intro r j v acc m fc hk hj hM g21 hG hac hok
  obtain⟨j,rfl⟩:∃i,j=i+1:=⟨j-1,by omega⟩
  have hkk:r=n:=by omega
  subst hkk
  rw[xp6 (by simp),xqa,xp3]at hac
  subst hac
  have hlt:¬((r:Int)<(r:Int)):=by omega
  have fa:sFA 0 (.ptr (0,0,3) 0 0)=some (.ptr (0,0,3) 0 0):=rfl
  have k30:sLd false 1 (.ptr (0,0,3) 0 0) m=some (I r):=by rw[x7z hM.g3];rfl
  obtain⟨ho,hc⟩:=hG.own1
  have l21:sLd true 3 (.ptr (0,s21,21) 0 0) m=some (.agg [I r,I (ca+cb-ov:Nat),v]):=by rw[x7z g21];rfl
  obtain⟨M,hMM⟩:∃M:Mem,M=m.set (0,2,6) (.row [I r,I (ca+cb-ov:Nat),v] 0 false):=⟨_,rfl⟩
  have S1:∀{R:Type} (K:Mem->Option R),sSt 3 (.ptr (0,2,6) 0 0) (.agg [I r,I (ca+cb-ov:Nat),v]) m K=K M:=λK=>by
   rw[x8y (off:=0) (z:=3) (x:=.agg [I r,I (ca+cb-ov:Nat),v]) (k:=K) hM.g6 rfl (by simp) (by rw[x9z];simp[ho]),hMM];rfl
  have p6:M.get (0,2,6)=some (.row [I r,I (ca+cb-ov:Nat),v] 0 false):=by rw[hMM,Mem.get_set_same]
  have l6:sLdP true 3 (.ptr (0,2,6) 0 0) M=some (.agg [I r,I (ca+cb-ov:Nat),v]):=by show sLd true 3 (.ptr (0,2,6) 0 0) M=_;rw[x7z p6];rfl
  have w1:w64 ((l.length:Int)-mo)=(l.length:Int)-mo:=x82 (by omega) (by omega)
  simp only[x1e]
  unfold x2i x4s
  simp only[fa,x7x,k30,x8m,hlt,xn2,x86,l21,ht11,xbh,w1,S1,l6]
  obtain⟨y,hy,hz⟩:=(hG.frame (m':=M) λs=>by rw[hMM,Mem.get_set_ne (by simp)]).frzk x8n xb6 (k:=2)
  exact RetF.mk (frz_tup3 (xgl hz) rfl rfl) (JoT.ok (hgood hok) hy)
 |succ s ih=>
  intro r j v acc m fc hk hj hM g21 hG hac hok
  obtain⟨j,rfl⟩:∃i,j=i+1:=⟨j-1,by omega⟩
  have hr:r<n:=by omega
  have hlt:(r:Int)<(n:Int):=by omega
  have fa:sFA 0 (.ptr (0,0,3) 0 0)=some (.ptr (0,0,3) 0 0):=rfl
  have k30:sLd false 1 (.ptr (0,0,3) 0 0) m=some (I n):=by rw[x7z hM.g3];rfl
  rw[show(List.range n).drop r=r::(List.range n).drop (r+1) by rw[xp4 (by simpa using hr)];simp,xo1]at hac
  simp only[x1e]
  unfold x2i x4w
  simp only[fa,x7x,k30,x8m,hlt,xn4,x89]
  exact l_rOut1 d ha hA hb hB hn hca hcb h1 h2 h64 hPA hPB (l:=l) hsh hbad hr _ (λv' acc' m' fc' hM' g21' hG' hac' hok'=>ih (r+1) j v' acc' m' fc' (by omega) (by omega) hM' g21' hG' hac' hok') (ca+cb-ov) 0 NN v acc m _ (by omega) (by rw[x9s];omega) hM g21 hG (by rw[xnc];exact hac) hok
end
end Go.Ix
