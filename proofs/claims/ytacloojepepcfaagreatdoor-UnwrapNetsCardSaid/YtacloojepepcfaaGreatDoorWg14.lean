import Derived.Test.YtacloojepepcfaaGreatDoorWg13
set_option linter.unusedSimpArgs false
set_option linter.unusedVariables false
set_option maxRecDepth 10000
namespace Go.Ix
open Go.Proofs
theorem x12a(d:Nat){s:List UInt8}(hs:s.length<=100000):RetF (ParR (xpt s)) (xow (d+6) [] x1g [Tx s] mem0):=by
 rw[xkg]
 unfold x7e x5n
 simp only[mem0,xrj,xv3,zz_err,zz_ints,x187]
 obtain⟨m1,hm1⟩:∃m1:Mem,m1=(((⟨[],1⟩:Mem).new (0,0,2) (.row [I 0,nilS] 0 false)).new (0,1,3) (.row [I 0] 0 false)).new (0,2,4) (.row [nilS] 0 false):=⟨_,rfl⟩
 rw[<-hm1]
 have g2:m1.get (0,0,2)=some (.row [I 0,nilS] 0 false):=by rw[hm1];simp
 have g3:m1.get (0,1,3)=some (.row [I 0] 0 false):=by rw[hm1];simp
 have g4:m1.get (0,2,4)=some (.row [nilS] 0 false):=by rw[hm1];simp
 have hn1:m1.next=1:=by rw[hm1];rfl
 obtain⟨M,hsp,b1,b2,b3,hn2,fr⟩:=x14g (d+3) s 32 m1
 rw[hn1]at b1 b2 b3 hsp fr
 simp only[Nat.reduceAdd]at b1 b2 b3 hsp
 unfold x8t
 rw[show(AV.sc (.string ⟨#[32]⟩))=Tx [32]from rfl,hsp]
 simp only[xoy]
 unfold x8s
 simp only[sRng]
 generalize hL:((0,3+2,1):Id)=lid
 have hl1:lid.2.2=1/\lid.1=0/\lid.2.1=5:=by rw[<-hL];exact⟨rfl,rfl,rfl⟩
 generalize hH:(λ(args:List AV) (m:Mem)=>bif Nat.beq args.length 1&&true then x2h (xow (d+5)) [] m.next lid (.ptr (0,0,2) 0 0) (.ptr (0,1,3) 0 0) (.ptr (0,2,4) 0 0) (args.getD 0 U) ⟨m.hp,m.next+1⟩ 0 else none)=H
 generalize hm2:M.new lid (.lp none)=m2
 have hne:∀j:Id,j.2.2≠1->j≠lid:=λj hj e=>hj (by rw[e];exact hl1.1)
 have c1:m2.get (2,1,4)=some (.row [Tx [32]] 0 false):=by rw[<-hm2,Mem.get_new,x17t (hne _ (by simp))];exact b1
 have c2:m2.get (2,0,3)=some (.row [Tx s] 0 false):=by rw[<-hm2,Mem.get_new,x17t (hne _ (by simp))];exact b2
 have c3:m2.get (2,2,5)=some (.row [I 0] 0 false):=by rw[<-hm2,Mem.get_new,x17t (hne _ (by simp))];exact b3
 have hP2:PnM lid [] m2:=by
  refine⟨?_,?_,⟨nilS,?_,Gk.nil⟩,?_⟩
  .rw[<-hm2,Mem.get_new,x17t (hne _ (by simp)),fr _ (by simp)];exact g2
  .rw[<-hm2,Mem.get_new,x17t (hne _ (by simp)),fr _ (by simp)];exact g3
  .rw[<-hm2,Mem.get_new,x17t (hne _ (by simp)),fr _ (by simp)];exact g4
  .rw[<-hm2,Mem.get_new,x17u rfl]
 have hcl:=xvy 32 s
 obtain⟨m3,hc,hI⟩:=c_words d (hh:=[(lid,H)]) (id:=lid) (h:=H) (s:=s) (c:=32) hs (by simp[xrv]) (i1:=(2,1,4)) (i2:=(2,0,3)) (i3:=(2,2,5)) (by decide) (by decide) (m0:=m2) c1 c2 c3
  (λpre m=>∃l,xqi 7 pre=some l/\PnM lid l m) (λm=>xpt s=(0,[],7)/\PnF lid m)
  (λpre m l ⟨q,h1,h2⟩=>⟨q,h1,⟨by rw[Mem.get_set,x17t (by decide)];exact h2.n2,by rw[Mem.get_set,x17t (by decide)];exact h2.n3,(by
   obtain⟨v,h3,h4⟩:=h2.n4
   refine⟨v,by rw[Mem.get_set,x17t (by decide)];exact h3,h4.frame λj hj=>?_⟩
   rw[Mem.get_set,x17t (by rintro rfl;cases hj)]),by rw[Mem.get_set,x17t (hne _ (by simp)).symm];exact h2.lp⟩⟩)
  (λpre w post m hcut ⟨q,h1,h2⟩=>by
   have hw:w.length<=100000:=by
    have:=xz6 32 s w (by rw[hcut];simp)
    omega
   have hq:q.length<=200000:=by
    have h3:=xv1 h1
    rw[hcut]at hcl
    simp at hcl
    omega
   have hh:=h_word (d+2) [] m.next hl1.1 hw (m:=⟨m.hp,m.next+1⟩) hq ⟨h2.n2,h2.n3,h2.n4,h2.lp⟩
   rw[<-hH]
   cases hn:nbrM w 7 with
   |some n=>
    rw[hn]at hh
    obtain⟨m5,k1,k2,k3⟩:=hh
    refine⟨m5,k1,.inl ⟨?_,⟨_,xz4 hn h1,k2⟩,k3 _ (by simp) (by simp),k3 _ (by simp) (by simp),k3 _ (by simp) (by simp)⟩⟩
    unfold live;rw[hl1.1,k2.lp];rfl
   |none=>
    rw[hn]at hh
    obtain⟨m5,k1,k2⟩:=hh
    refine⟨m5,k1,.inr ⟨?_,?_,k2⟩⟩
    .unfold live;rw[hl1.1,k2.1];rfl
    .unfold xpt
     rw[hcut,xz5 hn post pre])
  ⟨[],rfl,⟨hP2.n2,hP2.n3,hP2.n4,hP2.lp⟩⟩
 rw[show(AV.yld lid::[AV.ptr (2,1,4) 0 0,.ptr (2,0,3) 0 0,.ptr (2,2,5) 0 0])=[.yld lid,.ptr (2,1,4) 0 0,.ptr (2,0,3) 0 0,.ptr (2,2,5) 0 0]from rfl,hc]
 simp only[xoy]
 unfold sLp
 rcases hI with ⟨l,hl,hP⟩|⟨hp,f1,f2,f3⟩
 .rw[hP.lp]
  simp only
  have hll:l.length<=200000:=by
   have:=xv1 hl
   omega
  rw[<-hL]at hP
  have:=n_net (d+2) (3+2+1) hll hP
  unfold xpt
  rw[hl]
  exact this
 .rw[f1]
  simp only
  have p2:sLdP true 2 (.ptr (0,0,2) 0 0) m3=some (.agg [I 0,nilS]):=by
   show sLd true 2 (.ptr (0,0,2) 0 0) m3=_
   rw[xqe f2];rfl
  have p3:sLdP false 1 (.ptr (0,1,3) 0 0) m3=some (I 7):=by unfold sLdP;exact ld1 f3 rfl
  simp only[p2,p3,xoy]
  rw[hp]
  exact RetF.mk (a':=.tup [.agg [I 0,nilS],I 7]) rfl ⟨nilS,rfl,.inl ⟨rfl,rfl⟩⟩
def okN2:Id->Prop:=λid=>id.2.2=34
def okE2:Id->Prop:=λid=>id.2.2=73
theorem rE_net(d:Nat)(hs:FHs)(u:Nat){f9:Nat}{N:Int}{es:List Edge}{m:Mem}(fc:Nat)(n2:m.get (0,0,2)=some (.row [I 0,nilS] 0 false)){e:AV}(n9:m.get (0,f9,9)=some (.row [I N,e] 0 false))(hG:Gk 4 Edge.c okE2 m e es) :
 RetF (ParR (if(xpo N es).2≠0 then(0,[],(xpo N es).2)else(N,es,0))) (x5o (xow (d+3)) hs u (.ptr (0,0,2) 0 0) (.ptr (0,f9,9) 0 0) m fc):=by
 obtain⟨e',he',hfz⟩:=hG.frz (k:=3) Edge.len Edge.still1
 have hck:=xz7 (m:=m) (l:=[.agg [I N,e]]) (l':=[.agg [I N,e']]) (by
  simp only[x18h,x196]
  rw[show Go.Ix.frz m.get deep (.agg [I N,e])=some (.agg [I N,e'])from by
   show(([I N,e].mapM (Go.Ix.frz m.get 5)).map AV.agg)=_
   simp only[x18h,x196,hfz]
   rfl]
  rfl) (by simp[he'.still1]) (λm=>w_Err d (n:=N) he' m)
 obtain⟨m2,hm2⟩:∃m2:Mem,m2=⟨xrd ([AV.agg [I N,e]].flatMap (Go.Ix.reach m.get deep)) m.hp,m.next⟩:=⟨_,rfl⟩
 rw[<-hm2]at hck
 have hids:∀i∈[AV.agg [I N,e]].flatMap (Go.Ix.reach m.get deep),i.2.2=73:=by
  intro i hi
  have h1:i∈Go.Ix.reach m.get 5 (I N)++Go.Ix.reach m.get 5 e:=by
   simpa[Go.Ix.reach,deep]using hi
  rcases x19k.1 h1 with h2|h2
  .cases h2
  .exact hG.reachK Edge.still1 3 i h2
 have hfr:∀j:Id,j.2.2≠73->m2.get j=m.get j:=λj hj=>by rw[hm2];exact xz8 λh=>hj (hids j h)
 have k2:m2.get (0,0,2)=some (.row [I 0,nilS] 0 false):=by rw[hfr _ (by simp)];exact n2
 have k9:m2.get (0,f9,9)=some (.row [I N,e] 0 false):=by rw[hfr _ (by simp)];exact n9
 have hA:GkA m2 e es:=by
  rcases hG with h|⟨id,ver,h0,rfl,hg⟩
  .exact .inl h
  .obtain⟨b,hb⟩:=x121 (ids:=[AV.agg [I N,.sref id ver 0 es.length 4 true]].flatMap (Go.Ix.reach m.get deep)) hg
   exact .inr ⟨id,ver,b,rfl,by rw[hm2];exact hb⟩
 have ho:=hG.one
 have l9:∀{m:Mem} {id:Id},m.get id=some (.row [I N,e] 0 false)->sLd true 2 (.ptr id 0 0) m=some (.agg [I N,e]):=λh=>by
  rw[xqe h];simp[ho.2]
 unfold x5o
 simp only[l9 n9,xoy,hck,xro]
 by_cases c:(xpo N es).2=0
 .rw[x17t (by simp[c])]
  simp only[c,x184,x18k,xpl,l9 k9,xoy]
  rw[xq6 (z:=2) (x:=.agg [I N,e]) k2 (by rw[xpz];rfl) (by simp) (by rw[xpz];simp[ho.2])]
  obtain⟨m4,hm4⟩:∃m4:Mem,m4=m2.set (0,0,2) (.row (xp7 [I 0,nilS] 0 (AV.agg [I N,e]).cells) 0 false):=⟨_,rfl⟩
  rw[<-hm4]
  have i2:m4.get (0,0,2)=some (.row [I N,e] 0 false):=by rw[hm4,Mem.get_set,x17u rfl,xpz];rfl
  have p2:sLdP true 2 (.ptr (0,0,2) 0 0) m4=some (.agg [I N,e]):=by unfold sLdP;exact l9 i2
  simp only[p2,xoy]
  have hA4:GkA m4 e es:=by
   rcases hG with h|⟨id,ver,h0,rfl,hg⟩
   .exact .inl h
   .rcases hA with ⟨h,h'⟩|⟨id',ver',b,h,hb⟩
    .cases h
    .cases h
     refine .inr ⟨id,ver,b,rfl,?_⟩
     rw[hm4,Mem.get_set,x17t (by rintro rfl;cases h0)]
     exact hb
  obtain⟨e4,he4,hf4⟩:=hA4.frz 2
  refine RetF.mk (a':=.tup [.agg [I N,e4],I 0]) ?_ ⟨e4,rfl,he4⟩
  show(([AV.agg [I N,e],I 0].mapM (Go.Ix.frz m4.get 5)).map AV.tup)=_
  rw[show[AV.agg [I N,e],I 0].mapM (Go.Ix.frz m4.get 5)=some [.agg [I N,e4],I 0]from by
   simp only[x18h,x196]
   rw[show Go.Ix.frz m4.get 5 (.agg [I N,e])=some (.agg [I N,e4])from by
    show(([I N,e].mapM (Go.Ix.frz m4.get 4)).map AV.agg)=_
    simp only[x18h,x196,hf4]
    rfl]
   rfl]
  rfl
 .rw[x17u c]
  simp only[c,x185,x18b,xph,xto,xoy]
  rw[xq6 (z:=2) (x:=.agg [I 0,nilS]) k2 rfl (by simp) rfl]
  obtain⟨m4,hm4⟩:∃m4:Mem,m4=m2.set (0,0,2) (.row (xp7 [I 0,nilS] 0 (AV.agg [I 0,nilS]).cells) 0 false):=⟨_,rfl⟩
  rw[<-hm4]
  have i2:m4.get (0,0,2)=some (.row [I 0,nilS] 0 false):=by rw[hm4,Mem.get_set,x17u rfl];rfl
  have p2:sLdP true 2 (.ptr (0,0,2) 0 0) m4=some (.agg [I 0,nilS]):=by
   show sLd true 2 (.ptr (0,0,2) 0 0) m4=_
   rw[xqe i2];rfl
  simp only[p2,xoy]
  exact RetF.mk (a':=.tup [.agg [I 0,nilS],I (xpo N es).2]) rfl ⟨nilS,rfl,.inl ⟨rfl,rfl⟩⟩
theorem lR_edges(d:Nat){f9:Nat}{N:Int}{l:List Int}{v:AV}(hl:l.length<=200000)(h4:l.length % 4=1):∀(n k j:Nat) (es:List Edge) (e:AV) (m:Mem) (fc:Nat),l.length=1+4*k+4*n->n<j->es=xq8 ((l.drop 1).take (4*k))->Gk 1 intE okN2 m v l ->
 m.get (0,0,2)=some (.row [I 0,nilS] 0 false)->m.get (0,f9,9)=some (.row [I N,e] 0 false)->Gk 4 Edge.c okE2 m e es ->
 RetF (ParR (if(xpo N (xq8 (l.drop 1))).2≠0 then(0,[],(xpo N (xq8 (l.drop 1))).2)else(N,xq8 (l.drop 1),0))) (x2i (xow (d+3)) [] 0 j (.ptr (0,0,2) 0 0) v (.ptr (0,f9,9) 0 0) (I (1+4*k:Nat)) m fc):=by
 intro n
 induction n with
 |zero=>
  intro k j es e m fc hk hj hes hG n2 n9 hE
  obtain⟨j,rfl⟩:∃k,j=k+1:=⟨j-1,by omega⟩
  have hlt:¬(((1+4*k:Nat):Int)<(l.length:Int)):=by omega
  rw[x182 (by rw[x19i];omega)]at hes
  simp only[x2i]
  unfold x5p
  simp only[hG.lenP,xoy,xq1,hlt,x185,xpl]
  rw[<-hes]
  exact rE_net d [] 0 (fc+4) n2 n9 hE
 |succ n ih=>
  intro k j es e m fc hk hj hes hG n2 n9 hE
  obtain⟨j,rfl⟩:∃k,j=k+1:=⟨j-1,by omega⟩
  have hlt:(((1+4*k:Nat):Int)<(l.length:Int)):=by omega
  obtain⟨p0,i0,q0⟩:=hG.atP (k:=1+4*k) (by omega)
  obtain⟨p1,i1,q1⟩:=hG.atP (k:=2+4*k) (by omega)
  obtain⟨p2,i2,q2⟩:=hG.atP (k:=3+4*k) (by omega)
  obtain⟨p3,i3,q3⟩:=hG.atP (k:=4+4*k) (by omega)
  have w1:w64 (((1+4*k:Nat):Int)+1)=((2+4*k:Nat):Int):=by rw[xq4 (by omega) (by omega)];omega
  have w2:w64 (((1+4*k:Nat):Int)+2)=((3+4*k:Nat):Int):=by rw[xq4 (by omega) (by omega)];omega
  have w3:w64 (((1+4*k:Nat):Int)+3)=((4+4*k:Nat):Int):=by rw[xq4 (by omega) (by omega)];omega
  have w4:w64 (((1+4*k:Nat):Int)+4)=((1+4*(k+1):Nat):Int):=by rw[xq4 (by omega) (by omega)];omega
  obtain⟨y0,hy0⟩:∃y,y=at0 l (1+4*k):=⟨_,rfl⟩
  obtain⟨y1,hy1⟩:∃y,y=at0 l (2+4*k):=⟨_,rfl⟩
  obtain⟨y2,hy2⟩:∃y,y=at0 l (3+4*k):=⟨_,rfl⟩
  obtain⟨y3,hy3⟩:∃y,y=at0 l (4+4*k):=⟨_,rfl⟩
  rw[<-hy0]at q0
  rw[<-hy1]at q1
  rw[<-hy2]at q2
  rw[<-hy3]at q3
  have hdr:(l.drop 1).drop (4*k)=y0::y1::y2::y3::(l.drop 1).drop (4*k+4):=by
   have g:∀i,i<l.length->l.drop i=at0 l i::l.drop (i+1):=λi hi=>by rw[x1ba hi,xs9 hi]
   rw[x1bc,x1bc,g _ (by omega),g _ (by omega),g _ (by omega),g _ (by omega),hy0,hy1,hy2,hy3]
   rw[show 1+4*k+1=2+4*k by omega,show 2+4*k+1=3+4*k by omega,show 3+4*k+1=4+4*k by omega,show 4+4*k+1=1+(4*k+4) by omega]
  have hlen:es.length<=200000:=by
   have:=xx6 ((l.drop 1).take (4*k))
   rw[x19n]at this
   rw[hes];omega
  obtain⟨a',m1,e1,G1,o1,o2,nx1,fr1⟩:=Gk.app (ok:=okE2) (l:=es) (bytes:=32) (id0:=(0,fc+27,73)) Edge.len (by omega) rfl (by unfold xpc;omega) hE ⟨y0,y1,y2,y3⟩
  have n9':m1.get (0,f9,9)=some (.row [I N,e] 0 false):=by rw[fr1 _ (by simp[okE2])];exact n9
  have el:∀objs,elems objs 4 (.slit [I y0,I y1,I y2,I y3] 1 true)=some (Edge.c ⟨y0,y1,y2,y3⟩,1):=λ_=>rfl
  have ld9:sLd false 1 (.ptr (0,f9,9) 0 1) m=some e:=by rw[xqe n9];simp[hE.one.2]
  simp only[x2i]
  unfold x5p
  simp only[hG.lenP,xoy,xq1,hlt,x184,xph,xqw,x187,ld9,i0,q0,xqv,w1,i1,q1,w2,i2,q2,w3,i3,q3,x125,mkLit_4,el]
  rw[e1,xq6 (z:=1) (x:=a') n9' (by rw[o1];rfl) (by simp) (by rw[o1];simp[o2])]
  obtain⟨m2,hm2⟩:∃m2:Mem,m2=m1.set (0,f9,9) (.row (xp7 [I N,e] 1 a'.cells) 0 false):=⟨_,rfl⟩
  rw[<-hm2]
  rw[show(xoz (tR (.ptr (0,f9,9) 0 1)) (some [],some [(0,fc+26,72)])&&true)=true from by simp[xoz,disj,tR]]
  simp only[xpf,xoy,w4]
  refine ih (k+1) j (es++[⟨y0,y1,y2,y3⟩]) a' m2 _ (by omega) (by omega) ?_ ?_ ?_ ?_ ?_
  .rw[hes];exact(x129 hdr).symm
  .exact hG.frame λj hj=>by rw[hm2,Mem.get_set,x17t (by rintro rfl;cases hj),fr1 _ (by unfold okN2 at hj;unfold okE2;omega)]
  .rw[hm2,Mem.get_set,x17t (by simp),fr1 _ (by simp[okE2])];exact n2
  .rw[hm2,Mem.get_set,x17u rfl,o1];rfl
  .exact G1.frame (m':=m2) λj hj=>by rw[hm2,Mem.get_set,x17t (by rintro rfl;cases hj)]
theorem rN_net(d:Nat){l:List Int}{v:AV}{m:Mem}(fc:Nat)(hl:l.length<=200000)(n2:m.get (0,0,2)=some (.row [I 0,nilS] 0 false))(hG:Gk 1 intE okN2 m v l) :
 RetF (ParR (netL l)) (x5q (xow (d+3)) [] 0 (.ptr (0,0,2) 0 0) v m fc):=by
 have htm:((l.length:Int)).tmod 4=((l.length % 4:Nat):Int):=by rw[Int.ofNat_tmod];rfl
 unfold x5q
 simp only[xoy,hG.lenP]
 rw[sRem_I (by decide)]
 simp only[xoy,xro,htm]
 by_cases c:l.length % 4=1
 rotate_left
 .have c':¬((l.length % 4:Nat):Int)=1:=by omega
  simp only[c',x185,x18b,xph,xto,xoy]
  rw[xq6 (z:=2) (x:=.agg [I 0,nilS]) n2 rfl (by simp) rfl]
  obtain⟨m4,hm4⟩:∃m4:Mem,m4=m.set (0,0,2) (.row (xp7 [I 0,nilS] 0 (AV.agg [I 0,nilS]).cells) 0 false):=⟨_,rfl⟩
  rw[<-hm4]
  have i2:m4.get (0,0,2)=some (.row [I 0,nilS] 0 false):=by rw[hm4,Mem.get_set,x17u rfl];rfl
  have p2:sLdP true 2 (.ptr (0,0,2) 0 0) m4=some (.agg [I 0,nilS]):=by
   show sLd true 2 (.ptr (0,0,2) 0 0) m4=_
   rw[xqe i2];rfl
  simp only[p2,xoy]
  unfold netL
  rw[x17u c]
  exact RetF.mk (a':=.tup [.agg [I 0,nilS],I 7]) rfl ⟨nilS,rfl,.inl ⟨rfl,rfl⟩⟩
 have c':((l.length % 4:Nat):Int)=1:=by omega
 obtain⟨p,hp,hq⟩:=hG.atP (k:=0) (by omega)
 have hp:sIx 1 v (I 0)=some p:=hp
 obtain⟨N,hN⟩:∃N,N=at0 l 0:=⟨_,rfl⟩
 rw[<-hN]at hq
 have hbn:xp9 [I 0,nilS] [(0,1,I N)]=some (.agg [I N,nilS]):=by simp[xp9,xrc]
 simp only[c',x184,x18k,xpl,xoy,hp,hq,xrj,xv3,hbn]
 obtain⟨m1,hm1⟩:∃m1:Mem,m1=m.new (0,fc+8,9) (.row [I 0,nilS] 0 false):=⟨_,rfl⟩
 have q9:m1.get (0,fc+8,9)=some (.row [I 0,nilS] 0 false):=by rw[hm1,Mem.get_new,x17u rfl]
 rw[<-hm1,xq6 (z:=2) (x:=.agg [I N,nilS]) q9 rfl (by simp) rfl]
 obtain⟨m2,hm2⟩:∃m2:Mem,m2=m1.set (0,fc+8,9) (.row (xp7 [I 0,nilS] 0 (AV.agg [I N,nilS]).cells) 0 false):=⟨_,rfl⟩
 rw[<-hm2]
 have fr2:∀j:Id,j.2.2≠9->m2.get j=m.get j:=λj hj=>by
  rw[hm2,Mem.get_set,x17t (by rintro rfl;exact hj rfl),hm1,Mem.get_new,x17t (by rintro rfl;exact hj rfl)]
 have r9:m2.get (0,fc+8,9)=some (.row [I N,nilS] 0 false):=by rw[hm2,Mem.get_set,x17u rfl];rfl
 unfold x8u netL
 rw[x17t (by simp[c]),<-hN]
 exact lR_edges d hl c (l.length / 4) 0 NN [] nilS m2 _ (by omega) (by rw[xq7];omega) rfl (hG.frame λj hj=>fr2 j (by unfold okN2 at hj;omega)) (by rw[fr2 _ (by simp)];exact n2) r9 Gk.nil
theorem lR_words(d:Nat){s:List UInt8}(hs:s.length<=100000){x:AV}(hx:Sl strE x (cutM 32 s)):∀(suf:List (List UInt8)) (i j:Nat) (l:List Int) (v:AV) (m:Mem) (fc:Nat),(cutM 32 s).drop i=suf->suf.length<j->xqi 7 ((cutM 32 s).take i)=some l->Gk 1 intE okN2 m v l->m.get (0,0,2)=some (.row [I 0,nilS] 0 false) ->
 RetF (ParR (xpt s)) (x2j (xow (d+3)) [] 0 j (.ptr (0,0,2) 0 0) x v (I i) m fc):=by
 have hcl:=xvy 32 s
 intro suf
 induction suf with
 |nil=>
  intro i j l v m fc hd hj hl hG n2
  obtain⟨j,rfl⟩:∃k,j=k+1:=⟨j-1,by simp at hj;omega⟩
  have hii:=x19a.mp hd
  have hlt:¬((i:Int)<((cutM 32 s).length:Int)):=by omega
  rw[x182 hii]at hl
  simp only[x2j]
  unfold x5r
  simp only[hx.len u_strs,xoy,xq1,hlt,x185,xpl]
  have:=xv1 hl
  have:=rN_net d (fc+4) (by omega) n2 hG
  unfold xpt
  rw[hl]
  exact this
 |cons w suf ih=>
  intro i j l v m fc hd hj hl hG n2
  obtain⟨j,rfl⟩:∃k,j=k+1:=⟨j-1,by simp at hj;omega⟩
  obtain⟨hi,hw,hd1⟩:=xrx hd
  have hlt:(i:Int)<((cutM 32 s).length:Int):=by omega
  have hix:=hx.ix xue hi
  rw[hd]at hix
  have hwl:w.length<=100000:=by
   have:=xz6 32 s w (by rw[<-hw];exact x194 hi)
   omega
  have hll:=xv1 hl
  rw[x19n]at hll
  have hnb:=λm=>w_Number (d+2) hwl (k:=7) (by omega) m
  have w7:w64 ((i:Int)+1)=((i+1:Nat):Int):=by rw[xq4 (by omega) (by omega)];omega
  simp only[x2j]
  unfold x5r
  have hnb':∀m,xox (xow (d+3)) x16 [Tx w,I 7] m=some (numV (nbrM w 7),m):=hnb
  simp only[hx.len u_strs,xoy,xq1,hlt,x184,xph,hix,x19l,strE,x1a6,x1a5,xws,rd_f,List.head?_cons,hnb']
  have hspl:cutM 32 s=(cutM 32 s).take i++w::suf:=by
   conv=>lhs;rw[<-x1bu i (cutM 32 s),hd]
  cases hn:nbrM w 7 with
  |none=>
   simp only[numV,xrw,x192,x193,xoy,xtj,x18b,xph,xto]
   rw[xq6 (z:=2) (x:=.agg [I 0,nilS]) n2 rfl (by simp) rfl]
   obtain⟨m4,hm4⟩:∃m4:Mem,m4=m.set (0,0,2) (.row (xp7 [I 0,nilS] 0 (AV.agg [I 0,nilS]).cells) 0 false):=⟨_,rfl⟩
   rw[<-hm4]
   have i2:m4.get (0,0,2)=some (.row [I 0,nilS] 0 false):=by rw[hm4,Mem.get_set,x17u rfl];rfl
   have p2:sLdP true 2 (.ptr (0,0,2) 0 0) m4=some (.agg [I 0,nilS]):=by
    show sLd true 2 (.ptr (0,0,2) 0 0) m4=_
    rw[xqe i2];rfl
   simp only[p2,xoy]
   unfold xpt
   rw[hspl,xz5 hn suf _]
   exact RetF.mk (a':=.tup [.agg [I 0,nilS],I 7]) rfl ⟨nilS,rfl,.inl ⟨rfl,rfl⟩⟩
  |some n=>
   obtain⟨a',m1,e1,G1,o1,o2,nx1,fr1⟩:=Gk.app (ok:=okN2) (l:=l) (bytes:=8) (id0:=(0,fc+19,34)) xt5 (by omega) rfl (by unfold xpc;omega) hG n
   have el:∀objs,elems objs 1 (.slit [I n] 1 true)=some (intE n,1):=λ_=>rfl
   simp only[numV,xrw,x192,x193,xoy,xtj,x18k,xpl,zz_int,xub,el]
   rw[e1]
   simp only[xqv,w7,xoy]
   refine ih (i+1) j (l++[n]) a' m1 _ hd1 (by simp at hj;omega) ?_ G1 (by rw[fr1 _ (by simp[okN2])];exact n2)
   rw[List.take_add_one,x18d hi,hw]
   exact xz4 hn hl
theorem x12b(d:Nat){s:List UInt8}(hs:s.length<=100000):RetF (ParR (xpt s)) (xow (d+4) [] x1h [Tx s] mem0):=by
 rw[xkh]
 unfold x7f x5s
 simp only[mem0,xrj,xv3,x187]
 obtain⟨m1,hm1⟩:∃m1:Mem,m1=(⟨[],1⟩:Mem).new (0,0,2) (.row [I 0,nilS] 0 false):=⟨_,rfl⟩
 rw[<-hm1]
 obtain⟨x,hx,hc⟩:=w_Cut (d+2) 32 hs
 have hc':xox (xow (d+3)) x15 [Tx s,(AV.sc (.int .u8 32))] m1=some (x,m1):=hc m1
 simp only[hc',xoy]
 unfold x8v
 have hcl:=xvy 32 s
 exact lR_words d hs hx (cutM 32 s) 0 NN [] nilS m1 _ rfl (by rw[xq7];omega) rfl Gk.nil (by rw[hm1];simp)
def okT:Id->Prop:=λid=>id.2.2=35
theorem idx_4(a b c e:Int):sIdx Tryz.prog x1t (.agg [I a,I b,I c,I e]) (I 0)=some (I a)/\sIdx Tryz.prog x1t (.agg [I a,I b,I c,I e]) (I 1)=some (I b)/\sIdx Tryz.prog x1t (.agg [I a,I b,I c,I e]) (I 2)=some (I c)/\sIdx Tryz.prog x1t (.agg [I a,I b,I c,I e]) (I 3)=some (I e):=⟨by kernel_rfl,by kernel_rfl,by kernel_rfl,by kernel_rfl⟩
theorem build_4(a b c e:Int):xp9 x8i [(0,1,I a),(1,1,I b),(2,1,I c),(3,1,I e)]=some (.agg [I a,I b,I c,I e]):=by
 simp[xp9,xrc,show x8i=[I 0,I 0,I 0,I 0] by kernel_rfl]
theorem xx8(d:Nat)(u:Nat)(rec0:AV->AV->AV->AV->Mem->Nat->Option (AV×Mem)){t t13 t14 t15 t27:AV}{ws:List (List UInt8)}{m:Mem}{fc j:Nat}{q:Int}{n:Int}(hq0:0<=q)(hq:q<4)(hix:sIdx Tryz.prog x1t t27 (I q)=some (I n))(hn:I64 n)(hl:ws.length<=100000)(hG:GkL 1 strE okT m t ws) :
 ∃t' m' fc',x1u (xow (d+1)) [] u rec0 (j+1) t t13 t14 t15 t27 (I q) m fc=x1u (xow (d+1)) [] u rec0 j t' t13 t14 t15 t27 (I (q+1)) m' fc'/\GkL 1 strE okT m' t' (ws++[decM n]):=by
 obtain⟨a',m1,e1,G1,nx1,fr1⟩:=GkL.app (ok:=okT) (l:=ws) (bytes:=16) (id0:=(u,fc+7,35)) xue (by omega) rfl (by unfold xpc;omega) hG (decM n)
 have el:∀objs,elems objs 1 (.slit [Tx (decM n)] 1 true)=some (strE (decM n),1):=λ_=>rfl
 have hit:=λm=>w_Itoa d hn.1 hn.2 m
 have w7:w64 (q+1)=q+1:=xq4 (by omega) (by omega)
 refine⟨a',m1,fc+11,?_,G1⟩
 conv=>lhs;simp only[x1u]
 conv=>lhs;unfold x5f
 simp only[xq1,hq,x184,xoy,xph,hix,hit,xx0,el]
 rw[e1]
 simp only[xqv,w7,xoy]
theorem l_Fmt(d:Nat){n:Int}{ev:AV}{l:List Edge}(h:Sl Edge.c ev l)(hb:∀e∈l,e.i64)(hl:l.length<=700):∀(suf:List Edge) (i j:Nat) (t:AV) (m:Mem) (fc:Nat),l.drop i=suf->suf.length<j->GkL 1 strE okT m t (decM n::(l.take i).flatMap xri) ->
 ∃m',xq (xow (d+1)) [] 0 j t ev (I l.length) (I i) m fc=some (Tx (xsp n l),m'):=by
 intro suf
 induction suf with
 |nil=>
  intro i j t m fc hd hj hG
  obtain⟨j,rfl⟩:∃k,j=k+1:=⟨j-1,by simp at hj;omega⟩
  have hii:=x19a.mp hd
  have hlt:¬((i:Int)<(l.length:Int)):=by omega
  rw[x182 hii]at hG
  obtain⟨x,hx,hf⟩:=hG.frz (k:=4) xue xyv
  have hwl:=xx5 l
  have hj1:=xx4 _ (xzc (n:=n) (l:=l))
  have hjn:=λm=>w_Join d hx (by simp only[x188,hwl]at hj1;omega) (by simp only[x188,hwl];omega) m
  have hth:=xz7 (m:=m) (l:=[t,Tx [32]]) (l':=[x,Tx [32]]) (by
   simp only[x18h,x196]
   rw[show Go.Ix.frz m.get deep t=some x from hf]
   rfl) (by simp only[x18u,x1ai,hx.still];rfl) hjn
  simp only[xq]
  unfold x5g x8e
  simp only[xq1,hlt,x185,xoy,xpl]
  rw[show(AV.sc (.string ⟨#[32]⟩))=Tx [32]from rfl,hth]
  exact⟨_,rfl⟩
 |cons e suf ih=>
  intro i j t m fc hd hj hG
  obtain⟨j,rfl⟩:∃k,j=k+1:=⟨j-1,by simp at hj;omega⟩
  obtain⟨hi,hw,hd1⟩:=xrx hd
  have hlt:(i:Int)<(l.length:Int):=by omega
  have hix:=h.ix Edge.len hi
  rw[hd]at hix
  have hbe:=hb e (by rw[<-hw];exact x194 hi)
  obtain⟨b1,b2,b3,b4⟩:=hbe
  obtain⟨k1,k2,k3,k4⟩:=idx_4 e.fr e.to e.jump e.wt
  have w7:w64 ((i:Int)+1)=((i+1:Nat):Int):=by rw[xq4 (by omega) (by omega)];omega
  have hlen:(decM n::(l.take i).flatMap xri).length<=10000:=by
   have:=xx5 (l.take i)
   simp only[x188,this,x19n]
   omega
  simp only[xq]
  unfold x5g
  simp only[xq1,hlt,x184,xoy,xph]
  unfold x8h
  have hld:sLd true 4 (.plit (((e::suf)).flatMap Edge.c)) m=some (.agg [I e.fr,I e.to,I e.jump,I e.wt]):=by
   simp[Edge.c]
  simp only[hix,xoy,hld,xrj,xsa]
  obtain⟨m1,hm1⟩:∃m1:Mem,m1=m.new (0,fc+1+2,5) (.row [I 0,I 0,I 0,I 0] 0 false):=⟨_,rfl⟩
  have q5:m1.get (0,fc+1+2,5)=some (.row [I 0,I 0,I 0,I 0] 0 false):=by rw[hm1,Mem.get_new,x17u rfl]
  rw[<-hm1,xq6 (z:=4) (x:=.agg [I e.fr,I e.to,I e.jump,I e.wt]) q5 rfl (by simp) rfl]
  obtain⟨m2,hm2⟩:∃m2:Mem,m2=m1.set (0,fc+1+2,5) (.row (xp7 [I 0,I 0,I 0,I 0] 0 (AV.agg [I e.fr,I e.to,I e.jump,I e.wt]).cells) 0 false):=⟨_,rfl⟩
  rw[<-hm2]
  have r5:m2.get (0,fc+1+2,5)=some (.row [I e.fr,I e.to,I e.jump,I e.wt] 0 false):=by rw[hm2,Mem.get_set,x17u rfl];rfl
  have hG2:GkL 1 strE okT m2 t (decM n::(l.take i).flatMap xri):=hG.frame λj hj=>by
   rw[hm2,Mem.get_set,x17t (by rintro rfl;cases hj),hm1,Mem.get_new,x17t (by rintro rfl;cases hj)]
  simp only[xqw,x187,xoy,xqe r5,x180,x19h,rd_f,List.head?_cons,build_4]
  obtain⟨NM,hNM⟩:∃NM,NN=NM+1+1+1+1+1:=⟨NN-5,by have:=xq7;omega⟩
  rw[hNM]
  obtain⟨t1,n1,f1,E1,G1⟩:=xx8 d 0 (xq (xow (d+1)) [] 0 j) (t13:=ev) (t14:=I l.length) (t15:=I i) (j:=NM+1+1+1+1) (fc:=fc+1+14) (q:=0) (by omega) (by omega) k1 b1 (by omega) hG2
  obtain⟨t2,n2,f2,E2,G2⟩:=xx8 d 0 (xq (xow (d+1)) [] 0 j) (t13:=ev) (t14:=I l.length) (t15:=I i) (j:=NM+1+1+1) (fc:=f1) (q:=0+1) (by omega) (by omega) k2 b2 (by simp only[x19b,x188,x19q]at hlen ⊢;omega) G1
  obtain⟨t3,n3,f3,E3,G3⟩:=xx8 d 0 (xq (xow (d+1)) [] 0 j) (t13:=ev) (t14:=I l.length) (t15:=I i) (j:=NM+1+1) (fc:=f2) (q:=0+1+1) (by omega) (by omega) k3 b3 (by simp only[x19b,x188,x19q]at hlen ⊢;omega) G2
  obtain⟨t4,n4,f4,E4,G4⟩:=xx8 d 0 (xq (xow (d+1)) [] 0 j) (t13:=ev) (t14:=I l.length) (t15:=I i) (j:=NM+1) (fc:=f3) (q:=0+1+1+1) (by omega) (by omega) k4 b4 (by simp only[x19b,x188,x19q]at hlen ⊢;omega) G3
  rw[E1,E2,E3,E4]
  simp only[x1u]
  unfold x5f x8g
  simp only[xq1,show decide ((0+1+1+1+1:Int)<4)=false from rfl,xoy,xpl,xqv,w7]
  refine ih (i+1) j t4 n4 _ hd1 (by simp at hj;omega) ?_
  have ht:l.take (i+1)=l.take i++[e]:=by rw[List.take_add_one,x18d hi,hw];rfl
  rw[ht]
  simpa[xri]using G4
theorem x14h(d:Nat){n:Int}{ev:AV}{l:List Edge}(h:Sl Edge.c ev l)(hn:I64 n)(hb:∀e∈l,e.i64)(hl:l.length<=700)(m:Mem):xox (xow (d+2)) x21 [.agg [I n,ev]] m=some (Tx (xsp n l),m):=by
 refine Ans.call0 (m:=m) ?_ (by simp[h.still1]) rfl
 unfold Ans
 rw[xkd]
 unfold x7b x5h
 have ho:[I n,ev].all AV.one=true:=by simp[h.one]
 simp only[mem0,xtk,xpz,ho,xpf,x187]
 obtain⟨m1,hm1⟩:∃m1:Mem,m1=(⟨[],1⟩:Mem).new (0,0,1) (.row [I n,ev] 0 false):=⟨_,rfl⟩
 have q1:m1.get (0,0,1)=some (.row [I n,ev] 0 false):=by rw[hm1];simp
 rw[<-hm1]
 have l0:sLd false 1 (.ptr (0,0,1) 0 0) m1=some (I n):=by rw[xqe q1];rfl
 have l1:sLd false 1 (.ptr (0,0,1) 0 1) m1=some ev:=by rw[xqe q1];simp[h.one]
 have hit:=λm=>w_Itoa d hn.1 hn.2 m
 simp only[xqw,x187,xoy,l0,hit,xx0]
 unfold x8j
 simp only[xqw,x187,xoy,l1,h.len xqf]
 exact l_Fmt d (n:=n) h hb hl l 0 NN _ m1 _ rfl (by rw[xq7];omega) (Or.inl rfl)
theorem lR_Fmt(d:Nat){n:Int}{ev:AV}{l:List Edge}(h:Sl Edge.c ev l)(hb:∀e∈l,e.i64)(hl:l.length<=700):∀(suf:List Edge) (i j:Nat) (t:List UInt8) (m:Mem) (fc:Nat),l.drop i=suf->suf.length<j->t=xqd [32] (decM n::(l.take i).flatMap xri)->m.next=1->m.get (0,0,1)=some (.row [I n,ev] 0 false) ->
 ∃m',x2f (xow (d+2)) [] 0 j (.ptr (0,0,1) 0 0) (Tx t) (I i) m fc=some (Tx (xsp n l),m'):=by
 intro suf
 induction suf with
 |nil=>
  intro i j t m fc hd hj ht hm hg
  obtain⟨j,rfl⟩:∃k,j=k+1:=⟨j-1,by simp at hj;omega⟩
  have hii:=x19a.mp hd
  have hlt:¬((i:Int)<(l.length:Int)):=by omega
  rw[x182 hii]at ht
  have l1:sLd false 1 (.ptr (0,0,1) 0 1) m=some ev:=by rw[xqe hg];simp[h.one]
  simp only[x2f]
  unfold x5k x8m
  simp only[xqw,x187,xoy,l1,h.len xqf,xq1,hlt,x185,xpl]
  rw[ht]
  exact⟨m,rfl⟩
 |cons e suf ih=>
  intro i j t m fc hd hj ht hm hg
  obtain⟨j,rfl⟩:∃k,j=k+1:=⟨j-1,by simp at hj;omega⟩
  obtain⟨hi,hw,hd1⟩:=xrx hd
  have hlt:(i:Int)<(l.length:Int):=by omega
  have hix:=h.ix Edge.len hi
  rw[hd]at hix
  have hbe:=hb e (by rw[<-hw];exact x194 hi)
  obtain⟨b1,b2,b3,b4⟩:=hbe
  have w7:w64 ((i:Int)+1)=((i+1:Nat):Int):=by rw[xq4 (by omega) (by omega)];omega
  have htl:t.length<=200000:=by
   have h1:=xx4 _ (xzc (n:=n) (l:=l.take i))
   have:=xx5 (l.take i)
   simp only[x188,this,x19n]at h1
   rw[ht];omega
  have l1:∀{m:Mem},m.get (0,0,1)=some (.row [I n,ev] 0 false)->sLd false 1 (.ptr (0,0,1) 0 1) m=some ev:=λhg=>by rw[xqe hg];simp[h.one]
  have hld:sLd true 4 (.plit (((e::suf)).flatMap Edge.c)) m=some (.agg [I e.fr,I e.to,I e.jump,I e.wt]):=by
   simp[Edge.c]
  simp only[x2f]
  unfold x5k
  simp only[xqw,x187,xoy,l1 hg,h.len xqf,xq1,hlt,x184,xph,hix,hld,xrj,xsa]
  obtain⟨m1,hm1⟩:∃m1:Mem,m1=m.new (0,fc+10,5) (.row [I 0,I 0,I 0,I 0] 0 false):=⟨_,rfl⟩
  have q5:m1.get (0,fc+10,5)=some (.row [I 0,I 0,I 0,I 0] 0 false):=by rw[hm1,Mem.get_new,x17u rfl]
  rw[<-hm1,xq6 (z:=4) (x:=.agg [I e.fr,I e.to,I e.jump,I e.wt]) q5 rfl (by simp) rfl]
  obtain⟨m2,hm2⟩:∃m2:Mem,m2=m1.set (0,fc+10,5) (.row (xp7 [I 0,I 0,I 0,I 0] 0 (AV.agg [I e.fr,I e.to,I e.jump,I e.wt]).cells) 0 false):=⟨_,rfl⟩
  rw[<-hm2]
  have r5:m2.get (0,fc+10,5)=some (.row [I e.fr,I e.to,I e.jump,I e.wt] 0 false):=by rw[hm2,Mem.get_set,x17u rfl];rfl
  have hn2:m2.next=1:=by rw[hm2,hm1];exact hm
  have g2:m2.get (0,0,1)=some (.row [I n,ev] 0 false):=by rw[hm2,Mem.get_set,x17t (by simp),hm1,Mem.get_new,x17t (by simp)];exact hg
  have d1:=λm=>xvt d b1.1 b1.2 m
  have d2:=λm=>xvt d b2.1 b2.2 m
  have d3:=λm=>xvt d b3.1 b3.2 m
  have d4:=λm=>xvt d b4.1 b4.2 m
  have e1:=xv2 e.fr
  have e2:=xv2 e.to
  have e3:=xv2 e.jump
  have e4:=xv2 e.wt
  obtain⟨x1,hx1⟩:∃x,x=decM e.fr:=⟨_,rfl⟩
  obtain⟨x2,hx2⟩:∃x,x=decM e.to:=⟨_,rfl⟩
  obtain⟨x3,hx3⟩:∃x,x=decM e.jump:=⟨_,rfl⟩
  obtain⟨x4,hx4⟩:∃x,x=decM e.wt:=⟨_,rfl⟩
  rw[<-hx1]at e1 d1
  rw[<-hx2]at e2 d2
  rw[<-hx3]at e3 d3
  rw[<-hx4]at e4 d4
  have a1:=λo1 o2=>xsb o1 o2 (l:=t) (k:=[32]) (by simp;omega)
  have a2:=λo1 o2=>xsb o1 o2 (l:=t++[32]) (k:=x1) (by simp;omega)
  have a3:=λo1 o2=>xsb o1 o2 (l:=t++[32]++x1) (k:=[32]) (by simp;omega)
  have a4:=λo1 o2=>xsb o1 o2 (l:=t++[32]++x1++[32]) (k:=x2) (by simp;omega)
  have a5:=λo1 o2=>xsb o1 o2 (l:=t++[32]++x1++[32]++x2) (k:=[32]) (by simp;omega)
  have a6:=λo1 o2=>xsb o1 o2 (l:=t++[32]++x1++[32]++x2++[32]) (k:=x3) (by simp;omega)
  have a7:=λo1 o2=>xsb o1 o2 (l:=t++[32]++x1++[32]++x2++[32]++x3) (k:=[32]) (by simp;omega)
  have a8:=λo1 o2=>xsb o1 o2 (l:=t++[32]++x1++[32]++x2++[32]++x3++[32]) (k:=x4) (by simp;omega)
  rw[a1]
  simp only[xqw,x187,xoy,xqe r5,x180,x19h,rd_f,List.head?_cons,d1]
  rw[a2]
  simp only[xoy]
  rw[a3]
  simp only[xoy,d2,xqe r5,x180,x19h,rd_f,List.head?_cons]
  rw[a4]
  simp only[xoy]
  rw[a5]
  simp only[xoy,d3,xqe r5,x180,x19h,rd_f,List.head?_cons]
  rw[a6]
  simp only[xoy]
  rw[a7]
  simp only[xoy,d4,xqe r5,x180,x19h,rd_f,List.head?_cons]
  rw[a8]
  simp only[xoy]
  have hmk:∀x:Int,mkM 0 [I x]=2:=λx=>rfl
  rw[show ∀A B:Option (AV×Mem),(bif(Nat.ble 1 (mkM 0 [I e.fr])&&(Nat.ble 1 (mkM 0 [I e.to])&&(Nat.ble 1 (mkM 0 [I e.jump])&&(Nat.ble 1 (mkM 0 [I e.wt])&&true))))&&(cAp (some m2.next) (tR (.ptr (0,fc+10,5) 0 1)) (mkM 0 [I e.fr])&&(cAp (some m2.next) (tR (.ptr (0,fc+10,5) 0 2)) (mkM 0 [I e.fr])&&(cAp (some m2.next) (tR (.ptr (0,fc+10,5) 0 2)) (mkM 0 [I e.to])&&(cAp (some m2.next) (tR (.ptr (0,fc+10,5) 0 3)) (mkM 0 [I e.fr])&&(cAp (some m2.next) (tR (.ptr (0,fc+10,5) 0 3)) (mkM 0 [I e.to])&&(cAp (some m2.next) (tR (.ptr (0,fc+10,5) 0 3)) (mkM 0 [I e.jump])&&true))))))then A else B)=A from λA B=>by
   rw[hmk,hmk,hmk,hmk,hn2];rfl]
  simp only[xqv,w7,xoy]
  refine ih (i+1) j _ m2 _ hd1 (by simp at hj;omega) ?_ hn2 g2
  have ht2:l.take (i+1)=l.take i++[e]:=by rw[List.take_add_one,x18d hi,hw];rfl
  rw[ht2,ht,hx1,hx2,hx3,hx4]
  have hs:decM n::(l.take i++[e]).flatMap xri=(((decM n::(l.take i).flatMap xri)++[decM e.fr])++[decM e.to]++[decM e.jump])++[decM e.wt]:=by
   simp[xri]
  rw[hs,xvs _ (by simp),xvs _ (by simp),xvs _ (by simp),xvs _ (by simp)]
  simp only[x1bh]
theorem x14i(d:Nat){n:Int}{ev:AV}{l:List Edge}(h:Sl Edge.c ev l)(hn:I64 n)(hb:∀e∈l,e.i64)(hl:l.length<=700)(m:Mem):xox (xow (d+3)) x22 [.agg [I n,ev]] m=some (Tx (xsp n l),m):=by
 refine Ans.call0 (m:=m) ?_ (by simp[h.still1]) rfl
 unfold Ans
 rw[xkf]
 unfold x7d x5l
 have ho:[I n,ev].all AV.one=true:=by simp[h.one]
 simp only[mem0,xtk,xpz,ho,xpf,x187]
 obtain⟨m1,hm1⟩:∃m1:Mem,m1=(⟨[],1⟩:Mem).new (0,0,1) (.row [I n,ev] 0 false):=⟨_,rfl⟩
 have q1:m1.get (0,0,1)=some (.row [I n,ev] 0 false):=by rw[hm1];simp
 rw[<-hm1]
 have l0:sLd false 1 (.ptr (0,0,1) 0 0) m1=some (I n):=by rw[xqe q1];rfl
 have hdm:=λm=>xvt d hn.1 hn.2 m
 simp only[xqw,x187,xoy,l0,hdm]
 unfold x8n
 exact lR_Fmt d (n:=n) h hb hl l 0 NN _ m1 _ rfl (by rw[xq7];omega) (by simp[xqd]) (by rw[hm1];rfl) q1
end Go.Ix
