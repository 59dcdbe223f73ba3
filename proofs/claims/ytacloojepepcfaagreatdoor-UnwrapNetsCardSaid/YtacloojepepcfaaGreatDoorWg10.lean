import Derived.Test.YtacloojepepcfaaGreatDoorWg9
set_option linter.unusedSimpArgs false
set_option linter.unusedVariables false
namespace Go.Ix
open Go.Proofs
def xq2(g:Int)(bs:List Int)(s:List Int×List Int):List Int×List Int:=bs.foldl (addM g) s
def bfsM(nb:Nat->List Int)(g:Int):Nat->List Int×List Int->List Int
 |0,s=>s.1
 |f+1,s=>match s.2 with
  |[]=>s.1
  |a::q=>bfsM nb g f (xq2 g (nb a.toNat) (s.1,q))
def xrh(nb:Nat->List Int)(s:List Int×Int)(r:Nat):List Int×Int:=if 0<=at0 s.1 r then s else(bfsM nb s.2 NN (s.1.set r s.2,[(r:Int)]),s.2+1)
def numM(n:Nat)(nb:Nat->List Int):List Int×Int:=(List.range n).foldl (xrh nb) (List.replicate n (-1),0)
def negC:List Int->Nat
 |[]=>0
 |x::r=>(if x<0 then 1 else 0)+negC r
theorem xz1:∀{l:List Int} {k:Nat} {g:Int},k<l.length->at0 l k<0->0<=g->negC (l.set k g)+1=negC l
 |[],k,g,h,_,_=>by simp at h
 |x::r,0,g,h,hx,hg=>by
  have hx:x<0:=hx
  have:¬g<0:=by omega
  simp[negC,hx,this];omega
 |x::r,k+1,g,h,hx,hg=>by
  have:=xz1 (l:=r) (k:=k) (g:=g) (by simpa using h) hx hg
  simp only[List.set_cons_succ,negC];omega
theorem xz2:∀l:List Int,negC l<=l.length
 |[]=>x17z _
 |x::r=>by have:=xz2 r;simp only[negC,x188];split<;>omega
structure StOK (n:Nat) (s:List Int×List Int):Prop where
 l:s.1.length=n
 q:∀a∈s.2,0<=a/\a<n
theorem addM_ok{n:Nat}{g b:Int}{s:List Int×List Int}(h:StOK n s)(hg:0<=g)(b0:0<=b)(b1:b<n):StOK n (addM g s b)/\negC (addM g s b).1+(addM g s b).2.length=negC s.1+s.2.length:=by
 unfold addM
 by_cases c:at0 s.1 b.toNat<0
 .rw[x17u c]
  refine⟨⟨by simp[h.l],λa ha=>?_⟩,?_⟩
  .rcases x19k.mp ha with ha|ha
   .exact h.q a ha
   .rw[x18w]at ha;subst ha;exact⟨b0,b1⟩
  .have:=xz1 (l:=s.1) (k:=b.toNat) (g:=g) (by rw[h.l];omega) c hg
   simp only[x19b,x1bw];omega
 .rw[x17t c];exact⟨h,rfl⟩
theorem xvx{n:Nat}{g:Int}(hg:0<=g):∀(bs:List Int) (s:List Int×List Int),StOK n s->(∀b∈bs,0<=b/\b<n)->StOK n (xq2 g bs s)/\negC (xq2 g bs s).1+(xq2 g bs s).2.length=negC s.1+s.2.length
 |[],s,h,_=>⟨h,rfl⟩
 |b::bs,s,h,hb=>by
  obtain⟨b0,b1⟩:=hb b (x18a ..)
  obtain⟨h1,h2⟩:=addM_ok h hg b0 b1
  obtain⟨h3,h4⟩:=xvx hg bs (addM g s b) h1 (λx hx=>hb x (x183 _ hx))
  exact⟨h3,h4.trans h2⟩
def xx2(call:xou)(f:AV)(n:Nat)(nb:Nat->List Int)(u:Nat)(C:Mem->Prop):Prop:=
 ∀(hs:FHs) (sL fq:Nat) (out q:List Int) (g:Int) (a:Nat) (m:Mem),a<n->C m->NumMem u sL fq n out q g m->0<=g->StOK n (out,q)->negC out+q.length<=n ->
  ∃x m',xql call hs 2 f [I a,.clo xk [.ptr (u,4,5) 0 0,.ptr (u,6,6) 0 0,.ptr (u,fq,8) 0 0]] m=some (x,m') /\
   NumMem u sL fq n (xq2 g (nb a) (out,q)).1 (xq2 g (nb a) (out,q)).2 g m'/\m.next<=m'.next/\FrU u sL fq m m'
theorem l_queue(d:Nat)(hs:FHs){u sL fq n:Nat}{nb:Nat->List Int}{f:AV}{C:Mem->Prop}(hf:xx2 (xow d) f n nb u C)(hC:∀m m',C m->(∀id:Id,id.1<u->m'.get id=m.get id)->C m')(hnb:∀a,a<n->∀b∈nb a,0<=b/\b<n)(rec0:AV->AV->AV->AV->AV->Mem->Nat->Option (AV×Mem))(t14 t15:AV){g:Int}(hg:0<=g):∀(c:Nat) (out q:List Int) (j F:Nat) (m:Mem) (fc:Nat),negC out+q.length=c->c<=n->c<j->c<F->C m->NumMem u sL fq n out q g m->StOK n (out,q) ->
 ∃m' fc',x1w (xow d) hs u rec0 j f (.ptr (u,4,5) 0 0) (.ptr (u,6,6) 0 0) (.ptr (u,fq,8) 0 0) t14 t15 m fc=x6l (xow d) hs u rec0 f (.ptr (u,4,5) 0 0) (.ptr (u,6,6) 0 0) t14 t15 m' fc'/\fc<=fc' /\
  NumMem u sL fq n (bfsM nb g F (out,q)) [] g m'/\m.next<=m'.next/\FrU u sL fq m m':=by
 intro c
 induction c with
 |zero=>
  intro out q j F m fc hc hn hj hF hCm hM hO
  obtain⟨j,rfl⟩:∃i,j=i+1:=⟨j-1,by omega⟩
  obtain⟨F,rfl⟩:∃i,F=i+1:=⟨F-1,by omega⟩
  have hq:q=[]:=x19s.mp (by omega)
  subst hq
  obtain⟨a,ta,hQ⟩:=hM.t8
  refine⟨m,fc+3,?_,by omega,hM,x17z _,λ_ _ _ _=>rfl⟩
  simp only[x1w]
  unfold x3p
  simp only[xqt,ta,xqx,x18o,xpf,x180,rd_f,xoy,hQ.len]
  simp
 |succ c ih=>
  intro out q j F m fc hc hn hj hF hCm hM hO
  obtain⟨j,rfl⟩:∃i,j=i+1:=⟨j-1,by omega⟩
  obtain⟨F,rfl⟩:∃i,F=i+1:=⟨F-1,by omega⟩
  obtain⟨a,ta,hQ⟩:=hM.t8
  cases q with
  |nil=>
   refine⟨m,fc+3,?_,by omega,hM,x17z _,λ_ _ _ _=>rfl⟩
   simp only[x1w]
   unfold x3p
   simp only[xqt,ta,xqx,x18o,xpf,x180,rd_f,xoy,hQ.len]
   simp
  |cons x q=>
   obtain⟨x0,x1⟩:=hO.q x (x18a ..)
   obtain⟨xn,rfl⟩:∃xn:Nat,x=xn:=⟨x.toNat,by omega⟩
   have hxn:xn<n:=by omega
   obtain⟨p,hp1,hp2⟩:=hQ.head
   obtain⟨a',ha1,ha2⟩:=hQ.tail
   obtain⟨c1,c2⟩:=ha2.one
   obtain⟨m1,hm1⟩:∃m1,m1=m.set (u,fq,8) (.row [a'] 0 false):=⟨_,rfl⟩
   have q1:∀id:Id,id≠(u,fq,8)->m1.get id=m.get id:=λid hid=>by rw[hm1,Mem.get_set,x17t hid]
   have hM1:NumMem u sL fq n out q g m1:=⟨by rw[q1 _ (by simp)];exact hM.t5,by rw[q1 _ (by simp)];exact hM.t6,by rw[q1 _ (by simp)];exact hM.o,⟨a',by rw[hm1];simp,ha2.frame λid hid=>q1 id (by rintro rfl;have:u+2<=u:=hid;omega)⟩,hM.ol,by rw[hm1];exact hM.nx⟩
   have hO1:StOK n (out,q):=⟨hO.l,λb hb=>hO.q b (x183 _ hb)⟩
   obtain⟨z,m2,e1,e2,e3,e4⟩:=hf hs sL fq out q g xn m1 hxn (hC m m1 hCm (λid hid=>q1 id (by rintro rfl;simp at hid))) hM1 hg hO1 (by simp only[x188]at hc;omega)
   obtain⟨o1,o2⟩:=xvx hg (nb xn) (out,q) hO1 (hnb xn hxn)
   simp only at o2
   obtain⟨m',fc',r1,r0,r2,r3,r4⟩:=ih (xq2 g (nb xn) (out,q)).1 (xq2 g (nb xn) (out,q)).2 j F m2 (fc+14) (by simp only[x188]at hc;omega) (by omega) (by omega) (by omega)
    (hC m m2 hCm (λid hid=>by rw[e4 id (by omega) (by rintro rfl;have:u+1<u:=hid;omega) (by rintro rfl;simp at hid),q1 id (by rintro rfl;simp at hid)])) e2 o1
   refine⟨m',fc',?_,by omega,?_,by rw[hm1,Mem.next_set]at e3;omega,λid h1 h2 h3=>by rw[r4 id h1 h2 h3,e4 id h1 h2 h3,q1 id h3]⟩
   .rw[<-r1]
    simp only[x1w]
    unfold x3p
    have hst:xrq 1 0 0 a' (some (.row [a] 0 false))=some (.row [a'] 0 false):=by
     rw[xu9,c1];simp[c2]
    have hpos:(0:Int)<((((xn:Int)::q).length:Nat):Int):=by rw[x188];omega
    simp only[xqt,ta,xqx,x18o,xpf,x180,rd_f,xoy,hQ.len,xsm,hpos,x184,xph,hp1,hp2,ha1,xs8,hst]
    rw[<-hm1]
    simp only[e1,xoy]
   .have:bfsM nb g (F+1) (out,(xn:Int)::q)=bfsM nb g F (xq2 g (nb xn) (out,q)):=by
     simp only[bfsM,x18g]
    rw[this]
    exact r2
structure NumBase (u sL n:Nat) (out:List Int) (g:Int) (m:Mem):Prop where
 t5:m.get (u,4,5)=some (.row [srL u sL n] 0 false)
 t6:m.get (u,6,6)=some (.row [I g] 0 false)
 o:m.get (u+1,sL,30)=some (.row (out.flatMap intE) 0 false)
 ol:out.length=n
 nx:u+1<m.next
theorem bfs_len{n:Nat}{nb:Nat->List Int}{g:Int}(hg:0<=g)(hnb:∀a,a<n->∀b∈nb a,0<=b/\b<n):∀(F:Nat) (s:List Int×List Int),StOK n s->(bfsM nb g F s).length=n
 |0,s,h=>h.l
 |F+1,s,h=>by
  obtain⟨out,q⟩:=s
  cases q with
  |nil=>exact h.l
  |cons a q=>
   simp only[bfsM]
   have ha:=h.q a (x18a ..)
   exact bfs_len hg hnb F _ (xvx hg (nb a.toNat) (out,q) ⟨h.l,λb hb=>h.q b (x183 _ hb)⟩ (hnb _ (by omega))).1
theorem l_roots(d:Nat)(hs:FHs){u sL n:Nat}{nb:Nat->List Int}{f:AV}{C:Mem->Prop}(hn:n<=200)(hf:xx2 (xow d) f n nb u C)(hC:∀m m',C m->(∀id:Id,id.1<u->m'.get id=m.get id)->C m')(hnb:∀a,a<n->∀b∈nb a,0<=b/\b<n) :
 ∀(s k j:Nat) (out:List Int) (g:Int) (m:Mem) (fc:Nat),k+s=n->s<j->0<=g->g<=k->C m->NumBase u sL n out g m ->
 ∃m',x1c (xow d) hs u j f (.ptr (u,4,5) 0 0) (.ptr (u,6,6) 0 0) (I n) (I k) m fc=some (srL u sL n,m') /\
  NumBase u sL n ((List.range' k s).foldl (xrh nb) (out,g)).1 ((List.range' k s).foldl (xrh nb) (out,g)).2 m'/\m.next<=m'.next/\∀id:Id,id.1<u->m'.get id=m.get id:=by
 intro s
 induction s with
 |zero=>
  intro k j out g m fc hk hj hg hgk hCm hM
  obtain⟨j,rfl⟩:∃i,j=i+1:=⟨j-1,by omega⟩
  have hkn:k=n:=by omega
  subst hkn
  refine⟨m,?_,hM,x17z _,λ_ _=>rfl⟩
  simp only[x1c]
  unfold x3q xab
  simp[hM.t5]
 |succ s ih=>
  intro k j out g m fc hk hj hg hgk hCm hM
  obtain⟨j,rfl⟩:∃i,j=i+1:=⟨j-1,by omega⟩
  have hkn:k<n:=by omega
  have hk':(k:Int)<(n:Int):=by omega
  have hko:k<out.length:=by rw[hM.ol];exact hkn
  have ik:sIx 1 (srL u sL n) (I k)=some (.ptr (u+1,sL,30) 0 k):=by simpa using xso (id:=(u+1,sL,30)) (n:=n) (k:=(k:Int)) (by omega) hk'
  have e0:(List.range' k (s+1)).foldl (xrh nb) (out,g)=(List.range' (k+1) s).foldl (xrh nb) (xrh nb (out,g) k):=by rw[List.range'_succ];rfl
  rw[e0]
  by_cases c:0<=at0 out k
  .have e1:xrh nb (out,g) k=(out,g):=by unfold xrh;rw[x17u c]
   rw[e1]
   obtain⟨m',r1,r2,r3,r4⟩:=ih (k+1) j out g m (fc+1+7+2) (by omega) (by omega) hg (by omega) hCm hM
   refine⟨m',?_,r2,r3,r4⟩
   rw[<-r1]
   simp only[x1c]
   unfold x3q x6m x3o
   simp(disch:=omega)only[xq1,xoy,hk',x184,xph,xqt,hM.t5,hM.o,xqx,x18o,xpf,x180,rd_f,ik,xvw hko,sGe_I,c,xqv,xq4]
   rfl
  .have e1:xrh nb (out,g) k=(bfsM nb g NN (out.set k g,[(k:Int)]),g+1):=by unfold xrh;rw[x17t c]
   rw[e1]
   obtain⟨m1,hm1⟩:∃m1,m1=m.set (u+1,sL,30) (.row ((out.set k g).flatMap intE) 0 false):=⟨_,rfl⟩
   obtain⟨m2,hm2⟩:∃m2,m2=(m1.new (u,fc+1+14,8) (.row [nilS] 0 false)).set (u,fc+1+14,8) (.row [.slit [I (k:Int)] 1 true] 0 false):=⟨_,rfl⟩
   have q2:∀id:Id,id≠(u,fc+1+14,8)->id≠(u+1,sL,30)->m2.get id=m.get id:=λid h1 h2=>by rw[hm2,Mem.get_set,x17t h1,Mem.get_new,x17t h1,hm1,Mem.get_set,x17t h2]
   have hM2:NumMem u sL (fc+1+14) n (out.set k g) [(k:Int)] g m2:=by
    refine⟨by rw[q2 _ (by simp) (by simp)];exact hM.t5,by rw[q2 _ (by simp) (by simp)];exact hM.t6,?_,⟨_,by rw[hm2];simp;rfl,Or.inl rfl⟩,by simp[hM.ol],by rw[hm2,hm1];exact hM.nx⟩
    rw[hm2,Mem.get_set,x17t (by simp),Mem.get_new,x17t (by simp),hm1];simp
   have hng:=xz1 hko (by omega) hg
   have hnl:=xz2 out
   rw[hM.ol]at hnl
   have hO:StOK n (out.set k g,[(k:Int)]):=⟨by simp[hM.ol],λa ha=>by rw[x18w]at ha;subst ha;omega⟩
   obtain⟨m3,fc3,r1,r0,r2,r3,r4⟩:=l_queue d hs hf hC hnb (x1c (xow d) hs u j) (I n) (I k) hg (negC (out.set k g)+1) (out.set k g) [(k:Int)] NN NN m2 (fc+1+16) rfl (by omega) (by rw[xq7];omega) (by rw[xq7];omega)
    (hC m m2 hCm (λid hid=>q2 id (by rintro rfl;simp at hid) (by rintro rfl;have:u+1<u:=hid;omega))) hM2 hO
   obtain⟨m4,hm4⟩:∃m4,m4=m3.set (u,6,6) (.row [I (g+1)] 0 false):=⟨_,rfl⟩
   have q4:∀id:Id,id≠(u,6,6)->m4.get id=m3.get id:=λid hid=>by rw[hm4,Mem.get_set,x17t hid]
   have hM4:NumBase u sL n (bfsM nb g NN (out.set k g,[(k:Int)])) (g+1) m4:=⟨by rw[q4 _ (by simp)];exact r2.t5,by rw[hm4];simp,by rw[q4 _ (by simp)];exact r2.o,bfs_len hg hnb NN _ hO,by rw[hm4];exact r2.nx⟩
   have low:∀id:Id,id.1<u->m4.get id=m.get id:=λid hid=>by
    rw[q4 id (by rintro rfl;simp at hid),r4 id (by omega) (by rintro rfl;have:u+1<u:=hid;omega) (by rintro rfl;simp at hid),q2 id (by rintro rfl;simp at hid) (by rintro rfl;have:u+1<u:=hid;omega)]
   obtain⟨m',s1,s2,s3,s4⟩:=ih (k+1) j _ (g+1) m4 (fc3+3+2) (by omega) (by omega) (by omega) (by omega) (hC m m4 hCm low) hM4
   refine⟨m',?_,s2,?_,λid hid=>by rw[s4 id hid,low id hid]⟩
   .rw[<-s1]
    simp only[x1c]
    unfold x3q x6m
    have hz:xj=[nilS]:=xyy
    simp(disch:=omega)only[xq1,xoy,hk',x184,xph,xqt,hM.t5,hM.t6,hM.o,xqx,x18o,xpf,x180,rd_f,ik,xvw hko,sGe_I,c,x185,xpl,xs8]
    rw[xyt hko]
    simp only[xoy]
    rw[<-hm1]
    simp only[xtl,hz,xub,xrj,xs8,Mem.get_new,x18m]
    have hst:xrq 1 0 0 (.slit [I (k:Int)] 1 true) (some (.row [nilS] 0 false))=some (.row [.slit [I (k:Int)] 1 true] 0 false):=by
     rw[xu9];simp[AV.one]
    rw[hst]
    simp only[xoy]
    rw[<-hm2,r1]
    unfold x6l x3o
    simp(disch:=omega)only[xqt,r2.t6,xqx,x18o,xpf,x180,rd_f,xoy,xqv,xq4,xs8,xu9]
    rw[x190 (by exact⟨rfl,rfl⟩)]
    simp only[xpf,xoy]
    rw[show(I (g+1)).cells=[I (g+1)]from rfl,<-hm4]
    rfl
   .rw[hm4,Mem.next_set]at s3
    have:m2.next=m.next:=by rw[hm2,hm1];rfl
    omega
theorem x149(d:Nat)(hs:FHs){n:Nat}{nb:Nat->List Int}{f:AV}{C:Mem->Prop}(hn:n<=200){m:Mem}(hf:xx2 (xow (d+3)) f n nb m.next C)(hC:∀m1 m',C m1->(∀id:Id,id.1<m.next->m'.get id=m1.get id)->C m')(hnb:∀a,a<n->∀b∈nb a,0<=b/\b<n)(hCm:C m) :
 ∃sL m',xow (d+4) hs x1o [I n,f] m=some (srL m.next sL n,m')/\m'.get (m.next+1,sL,30)=some (.row ((numM n nb).1.flatMap intE) 0 false)/\(numM n nb).1.length=n/\m.next<=m'.next/\∀id:Id,id.1<m.next->m'.get id=m.get id:=by
 obtain⟨u,hu⟩:∃u,u=m.next:=⟨_,rfl⟩
 rw[<-hu]at hf hC ⊢
 obtain⟨m0,hm0⟩:∃m0:Mem,m0=⟨m.hp,u+1⟩:=⟨_,rfl⟩
 have g0:∀id,m0.get id=m.get id:=λ_=>by rw[hm0];rfl
 obtain⟨sL,mR,hR,hRg,hRn⟩:=a_Repeat d (u+1) (-1) hn
 obtain⟨m1,h1,n1,q1⟩:=call1 (call:=xow (d+3)) (f:=xu) (l:=[.slit [I (-1)] 1 true,I n]) (m:=m0) (m':=mR) (r:=.sref (u+1,sL,30) 0 0 n 1 true) rfl (by rw[hm0];exact hR)
 obtain⟨m2,hm2⟩:∃m2,m2=(m1.new (u,4,5) (.row [nilS] 0 false)).set (u,4,5) (.row [srL u sL n] 0 false):=⟨_,rfl⟩
 obtain⟨m3,hm3⟩:∃m3,m3=(m2.new (u,6,6) (.row [I 0] 0 false)).set (u,6,6) (.row [I 0] 0 false):=⟨_,rfl⟩
 have q2:∀id:Id,id≠(u,4,5)->m2.get id=m1.get id:=λid h=>by rw[hm2,Mem.get_set,x17t h,Mem.get_new,x17t h]
 have q3:∀id:Id,id≠(u,6,6)->m3.get id=m2.get id:=λid h=>by rw[hm3,Mem.get_set,x17t h,Mem.get_new,x17t h]
 have low:∀id:Id,id.1<u->m3.get id=m.get id:=λid h=>by
  rw[q3 id (by rintro rfl;simp at h),q2 id (by rintro rfl;simp at h),q1,x17t (by rw[hm0];show ¬(u+1<=id.1);omega),g0]
 have hB:NumBase u sL n (List.replicate n (-1)) 0 m3:=by
  refine⟨by rw[q3 _ (by simp),hm2];simp,by rw[hm3];simp,?_,by simp,?_⟩
  .rw[q3 _ (by simp),q2 _ (by simp),q1,x17u (by rw[hm0];exact x17z _)];exact hRg
  .rw[hm3,Mem.next_set,Mem.next_new,hm2,Mem.next_set,Mem.next_new,n1,hRn];omega
 obtain⟨m',r1,r2,r3,r4⟩:=l_roots (d+3) hs hn hf hC hnb n 0 NN (List.replicate n (-1)) 0 m3 (8+3) (by omega) (by rw[xq7];omega) (by omega) (by omega) (hC m m3 hCm low) hB
 rw[<-List.range_eq_range']at r2
 refine⟨sL,m',?_,r2.o,r2.ol,?_,λid h=>by rw[r4 id h,low id h]⟩
 .rw[xkx]
  unfold x7t x6n xac
  have hz:xj=[nilS]:=xyy
  simp only
  rw[<-hu,<-hm0]
  have hst:xrq 1 0 0 (srL u sL n) (some (.row [nilS] 0 false))=some (.row [srL u sL n] 0 false):=by
   rw[xu9];simp[AV.one]
  have hst2:xrq 1 0 0 (I 0) (some (.row [I 0] 0 false))=some (.row [I 0] 0 false):=by
   rw[xu9,x190 ⟨rfl,rfl⟩];rfl
  simp only[xtl,hz,xub,h1,xoy,xrj,xs8,Mem.get_new,x18m,hst]
  rw[<-hm2]
  simp only[hst2,xoy]
  rw[<-hm3]
  have hlen:sLen Tryz.prog x8 (srL u sL n)=some (I n):=rfl
  simp only[xqt,hB.t5,xqx,x18o,xpf,x180,rd_f,xoy,hlen]
  exact r1
 .have:m3.next=u+2:=by rw[hm3,Mem.next_set,Mem.next_new,hm2,Mem.next_set,Mem.next_new,n1,hRn]
  omega
def nearU(l:List Edge)(a:Int):List Int:=l.flatMap λe=>if 0<e.wt then(if e.fr=a then[e.to]else if e.to=a then[e.fr]else[])else[]
theorem x11z(l:List Edge)(e:Edge)(a:Int):nearU (l++[e]) a=nearU l a++(if 0<e.wt then(if e.fr=a then[e.to]else if e.to=a then[e.fr]else[])else[]):=by
 unfold nearU;simp
theorem xz3{n:Nat}{l:List Edge}(hed:∀e∈l,EdgeIn n e/\e.fr≠e.to){a b:Int}(h:b∈nearU l a):0<=b/\b<n:=by
 unfold nearU at h
 obtain⟨e,he,hb⟩:=x18y.mp h
 obtain⟨⟨f0,f1,t0,t1,-⟩,-⟩:=hed e he
 split at hb
 .split at hb
  .rw[x18w]at hb;omega
  .split at hb
   .rw[x18w]at hb;omega
   .simp at hb
 .simp at hb
def okjd(u fc:Nat)(id:Id):Prop:=id.1=u/\(id.2.2=35\/id.2.2=44)/\id.2.1<fc
structure AtJ (u fc:Nat) (cells:List AV) (adj:Nat->List Int) (m:Mem):Prop where
 sh:∃ids:Nat->Id,(∀(v:Nat) (hv:v<cells.length),(cells[v]=nilS/\adj v=[])\/(∃ver,cells[v]=.sref (ids v) ver 0 (adj v).length 1 true/\m.get (ids v)=some (.row ((adj v).flatMap intE) ver false)/\okjd u fc (ids v)/\adj v≠[])) /\
  ∀v w,v<cells.length->w<cells.length->adj v≠[]->adj w≠[]->v≠w->ids v≠ids w
theorem AtJ.frame{u fc fc':Nat}{cells:List AV}{adj:Nat->List Int}{m m':Mem}(h:AtJ u fc cells adj m)(hm:∀id,okjd u fc id->m'.get id=m.get id)(hfc:fc<=fc'):AtJ u fc' cells adj m':=by
 obtain⟨ids,h1,h2⟩:=h.sh
 refine⟨ids,λv hv=>?_,h2⟩
 rcases h1 v hv with h|⟨ver,a,b,c,d⟩
 .exact Or.inl h
 .exact Or.inr ⟨ver,a,by rw[hm _ c];exact b,⟨c.1,c.2.1,by have:=c.2.2;omega⟩,d⟩
theorem AtJ.app{u fc fc':Nat}{cells:List AV}{adj:Nat->List Int}{m:Mem}(h:AtJ u fc cells adj m){v:Nat}(hv:v<cells.length)(x:Int){id0:Id}(h1:id0.1=u)(h2:id0.2.2=35\/id0.2.2=44)(h3:fc<=id0.2.1)(h4:id0.2.1<fc')(hr:(adj v).length<=100000) :
 ∃a' m' idA,(∀{R:Type} (k:AV->Mem->Option R),sApp 1 8 id0 (some (intE x,1)) cells[v] m k=k a' m')/\AtJ u fc' (cells.set v a') (λw=>if w=v then adj v++[x]else adj w) m'/\a'.cells=[a']/\a'.one=true/\m'.next=m.next/\(∀j:Id,¬okjd u fc' j->m'.get j=m.get j) /\
  tA id0 cells[v]=some [idA]/\(idA.2.2=35\/idA.2.2=44)/\idA.1=u:=by
 obtain⟨ids,e1,e2⟩:=h.sh
 have hro:∀k,k<=100001->xpc k 8:=λk hk=>by unfold xpc;omega
 have others:∀(w:Nat) (hw:w<cells.length),((cells[w]=nilS/\adj w=[])\/(∃ver,cells[w]=.sref (ids w) ver 0 (adj w).length 1 true/\m.get (ids w)=some (.row ((adj w).flatMap intE) ver false)/\okjd u fc (ids w)/\adj w≠[])):=e1
 rcases e1 v hv with ⟨c1,c2⟩|⟨ver,c1,c2,c3,c4⟩
 ·
  refine⟨.sref id0 0 0 1 1 true,m.new id0 (.row (intE x) 0 false),id0,λk=>?_,⟨λw=>if w=v then id0 else ids w,λw hw=>?_,λw w' hw hw' n1 n2 hne=>?_⟩,rfl,rfl,rfl,λj hj=>?_,by rw[c1];rfl,h2,h1⟩
  .rw[c1]
   simp only[sApp]
   rw[x17t (by omega),x17u (hro 1 (by omega))]
  .simp only[x19t]at hw
   by_cases hwv:w=v
   .subst hwv
    right
    refine⟨0,?_,?_,?_,by simp⟩
    .simp[c2]
    .simp[c2]
    .simp only[x18m];exact⟨h1,h2,h4⟩
   .rw[x1at (λe=>hwv e.symm)]
    simp only[x17t hwv]
    rcases others w hw with h|⟨ver,a,b,c,d⟩
    .exact Or.inl h
    .refine Or.inr ⟨ver,a,?_,⟨c.1,c.2.1,by have:=c.2.2;omega⟩,d⟩
     rw[Mem.get_new,x17t (by rintro e;rw[e]at c;have:=c.2.2;omega)];exact b
  .simp only[x19t]at hw hw'
   by_cases hwv:w=v
   .have hwv':w'≠v:=by omega
    simp only[x17u hwv,x17t hwv']
    simp only[x17t hwv']at n2
    rcases others w' hw' with ⟨_,h⟩|⟨_,_,_,c,_⟩
    .exact absurd h n2
    .intro e;rw[<-e]at c;have:=c.2.2;omega
   .by_cases hwv':w'=v
    .simp only[x17t hwv,x17u hwv']
     simp only[x17t hwv]at n1
     rcases others w hw with ⟨_,h⟩|⟨_,_,_,c,_⟩
     .exact absurd h n1
     .intro e;rw[e]at c;have:=c.2.2;omega
    .simp only[x17t hwv,x17t hwv']at n1 n2 ⊢
     exact e2 w w' hw hw' n1 n2 hne
  .rw[Mem.get_new,x17t (by rintro rfl;exact hj ⟨h1,h2,h4⟩)]
 .have hl:=xrk (adj v)
  refine⟨.sref (ids v) (ver+1) 0 ((adj v).length+1) 1 true,m.set (ids v) (.row ((adj v).flatMap intE++intE x) (ver+1) false),ids v,λk=>?_,⟨ids,λw hw=>?_,λw w' hw hw' n1 n2 hne=>?_⟩,rfl,rfl,rfl,λj hj=>?_,by rw[c1];rfl,c3.2.1,c3.1⟩
  .rw[c1]
   simp only[sApp,c2]
   rw[x17u ⟨trivial,trivial,by omega,hro _ (by omega)⟩,x17t (by omega),x17t (by omega),x180,x182 (by omega)]
  .simp only[x19t]at hw
   by_cases hwv:w=v
   .subst hwv
    right
    refine⟨ver+1,by simp,by simp,⟨c3.1,c3.2.1,by have:=c3.2.2;omega⟩,by simp⟩
   .rw[x1at (λe=>hwv e.symm)]
    simp only[x17t hwv]
    rcases others w hw with h|⟨ver',a,b,c,d⟩
    .exact Or.inl h
    .refine Or.inr ⟨ver',a,?_,⟨c.1,c.2.1,by have:=c.2.2;omega⟩,d⟩
     rw[Mem.get_set,x17t (e2 w v hw hv d c4 hwv)];exact b
  .simp only[x19t]at hw hw'
   refine e2 w w' hw hw' ?_ ?_ hne
   .by_cases hwv:w=v
    .subst hwv;exact c4
    .simpa[hwv]using n1
   .by_cases hwv:w'=v
    .subst hwv;exact c4
    .simpa[hwv]using n2
  .rw[Mem.get_set,x17t (by rintro rfl;exact hj ⟨c3.1,c3.2.1,by have:=c3.2.2;omega⟩)]
structure PInv (fc n:Nat) (ev:AV) (l:List Edge) (k:Nat) (m:Mem):Prop where
 b:m.get (0,0,1)=some (.row [I n,ev] 0 false)
 t3:m.get (0,6,3)=some (.row [srI (0,5,9) n] 0 false)
 a:∃cells,m.get (0,5,9)=some (.row cells 0 false)/\cells.length=n/\AtJ 0 fc cells (λv=>nearU (l.take k) v) m
 nx:m.next=1
theorem x120(l:List Edge)(a:Int):(nearU l a).length<=l.length:=by
 unfold nearU
 induction l with
 |nil=>simp
 |cons e r ih=>
  rw[x19l,x19b,x188]
  have:(if 0<e.wt then(if e.fr=a then[e.to]else if e.to=a then[e.fr]else[])else[]).length<=1:=by
   split
   .split
    .simp
    .split<;>simp
   .simp
  omega
theorem p_loop(d:Nat)(hs:FHs){n:Nat}{ev:AV}{l:List Edge}(hev:Sl Edge.c ev l)(hl:l.length<=600)(hn:n<=200)(hed:∀e∈l,EdgeIn n e/\e.fr≠e.to):∀(suf:List Edge) (k j:Nat) (m:Mem) (fc:Nat),l.drop k=suf->suf.length<j->k<=l.length->PInv fc n ev l k m ->
 ∃m' fc',x1a (xow d) hs 0 j (.ptr (0,0,1) 0 0) (.ptr (0,6,3) 0 0) ev (I l.length) (I k) m fc=x63 (xow d) hs 0 (.ptr (0,0,1) 0 0) (.ptr (0,6,3) 0 0) m' fc'/\(∃fc',PInv fc' n ev l l.length m'):=by
 intro suf
 induction suf with
 |nil=>
  intro k j m fc hd hj hk hi
  obtain⟨j,rfl⟩:∃i,j=i+1:=⟨j-1,by simp at hj;omega⟩
  have hke:k=l.length:=by have:=x19a.mp hd;omega
  subst hke
  refine⟨m,fc+1,?_,fc,hi⟩
  simp only[x1a]
  unfold x3f
  simp
 |cons e r ih=>
  intro k j m fc hd hj hk hi
  obtain⟨j,rfl⟩:∃i,j=i+1:=⟨j-1,by simp at hj;omega⟩
  obtain⟨hk,hke,hd⟩:=xrx hd
  have hk':(k:Int)<(l.length:Int):=by omega
  have ix:=hev.ix Edge.len hk
  have ld:=xuw (m:=m) Edge.len (by omega) hk
  rw[hke]at ld
  obtain⟨⟨f0,f1,t0,t1,j0,j1,w0,w1⟩,hne⟩:=hed e (hke▸x194 hk)
  obtain⟨m1,hm1⟩:∃m1:Mem,m1=(m.new (0,fc+1+2,5) (.row [I 0,I 0,I 0,I 0] 0 false)).set (0,fc+1+2,5) (.row e.c 0 false):=⟨_,rfl⟩
  have q1:∀id:Id,id≠(0,fc+1+2,5)->m1.get id=m.get id:=λid hid=>by rw[hm1,Mem.get_set,x17t hid,Mem.get_new,x17t hid]
  have hE:m1.get (0,fc+1+2,5)=some (.row [I e.fr,I e.to,I e.jump,I e.wt] 0 false):=by rw[hm1];simp[Edge.c]
  have hn1:m1.next=m.next:=by rw[hm1];simp
  have htk:l.take (k+1)=l.take k++[e]:=by rw[List.take_succ_eq_append_getElem hk,hke]
  obtain⟨cells,ha0,hcl,hA0⟩:=hi.a
  have g3:m1.get (0,6,3)=some (.row [srI (0,5,9) n] 0 false):=by rw[q1 _ (by simp)];exact hi.t3
  have ga:m1.get (0,5,9)=some (.row cells 0 false):=by rw[q1 _ (by simp)];exact ha0
  have hA1:AtJ 0 fc cells (λv=>nearU (l.take k) v) m1:=hA0.frame (λid hid=>q1 id (by rintro rfl;rcases hid.2.1 with h|h<;>simp at h)) (x17z _)
  by_cases c:0<e.wt
  .have cfr:e.fr.toNat<cells.length:=by omega
   have cto:e.to.toNat<cells.length:=by omega
   have afr:sIx 1 (srI (0,5,9) n) (I e.fr)=some (.ptr (0,5,9) 0 e.fr.toNat):=xso f0 f1
   have ato:sIx 1 (srI (0,5,9) n) (I e.to)=some (.ptr (0,5,9) 0 e.to.toNat):=xso t0 t1
   have nl:∀v:Int,(nearU (l.take k) v).length<=600:=λv=>by have:=x120 (l.take k) v;simp at this;omega
   have hA2:AtJ 0 (fc+1+7) cells (λv=>nearU (l.take k) v) m1:=hA1.frame (λ_ _=>rfl) (by omega)
   obtain⟨a1,m4,id1,A1,AI1,c11,c12,n4,q4,tA1,ty1,iu1⟩:=hA2.app cfr e.to (id0:=(0,fc+1+21,35)) (fc':=fc+1+25) rfl (Or.inl rfl) (by simp only;omega) (by simp only;omega) (by have:=nl (e.fr.toNat:Int);omega)
   have e24:(cells.set e.fr.toNat a1)[e.to.toNat]'(by simpa using cto)=cells[e.to.toNat]:=by rw[x1at (by omega)]
   obtain⟨a2,m6,id2,A2,AI2,c21,c22,n6,q6,tA2,ty2,iu2⟩:=AI1.app (v:=e.to.toNat) (by simpa using cto) e.fr (id0:=(0,fc+1+30,44)) (fc':=fc+1+35+2) rfl (Or.inr rfl) (by simp only;omega) (by simp only;omega) (by have h1:=nl (e.fr.toNat:Int);have h2:=nl (e.to.toNat:Int);show(if _ then _ else _:List Int).length<=_;split<;>first|(rw[x19b,x1bw];omega)|exact x191 h2 (by omega))
   rw[e24]at A2 tA2
   have nok:∀(s t g:Nat),t≠35->t≠44->¬okjd 0 g (0,s,t):=λs t g h1 h2 h=>by rcases h.2.1 with h|h<;>simp at h<;>omega
   have r4:∀(s t:Nat),t≠35->t≠44->m4.get (0,s,t)=m1.get (0,s,t):=λs t h1 h2=>q4 _ (nok s t _ h1 h2)
   have r6:∀(s t:Nat),t≠35->t≠44->m6.get (0,s,t)=m1.get (0,s,t):=λs t h1 h2=>by rw[q6 _ (nok s t _ h1 h2),r4 s t h1 h2]
   obtain⟨m7,hm7⟩:∃m7,m7=m6.set (0,5,9) (.row (cells.set e.fr.toNat a1) 0 false):=⟨_,rfl⟩
   obtain⟨m8,hm8⟩:∃m8,m8=m7.set (0,5,9) (.row ((cells.set e.fr.toNat a1).set e.to.toNat a2) 0 false):=⟨_,rfl⟩
   have q8:∀id:Id,id≠(0,5,9)->m8.get id=m6.get id:=λid hid=>by rw[hm8,Mem.get_set,x17t hid,hm7,Mem.get_set,x17t hid]
   obtain⟨m',fc',z1,z2⟩:=ih (k+1) j m8 (fc+1+35+2) hd (by simp at hj;omega) (by omega) ⟨by rw[q8 _ (by simp),r6 _ _ (by simp) (by simp),q1 _ (by simp)];exact hi.b,by rw[q8 _ (by simp),r6 _ _ (by simp) (by simp)];exact g3,
    ⟨(cells.set e.fr.toNat a1).set e.to.toNat a2,by rw[hm8];simp,by simp[hcl],by
      have hfe:(λv:Nat=>nearU (l.take (k+1)) (v:Int))=(λw:Nat=>if w=e.to.toNat then(if e.to.toNat=e.fr.toNat then nearU (l.take k) (e.fr.toNat:Int)++[e.to]else nearU (l.take k) (e.to.toNat:Int))++[e.fr]else if w=e.fr.toNat then nearU (l.take k) (e.fr.toNat:Int)++[e.to]else nearU (l.take k) (w:Int)):=by
       funext w
       rw[htk,x11z,x17u c]
       have hn':¬(e.to.toNat=e.fr.toNat):=by omega
       by_cases h1:w=e.to.toNat
       .rw[x17u h1,x17t hn',x17t (show ¬e.fr=(w:Int) by omega),x17u (show e.to=(w:Int) by omega),h1]
       .by_cases h2:w=e.fr.toNat
        .rw[x17t h1,x17u h2,x17u (show e.fr=(w:Int) by omega),h2]
        .rw[x17t h1,x17t h2,x17t (show ¬e.fr=(w:Int) by omega),x17t (show ¬e.to=(w:Int) by omega),x1a7]
      rw[hfe]
      exact AI2.frame (λid hid=>q8 id (by rintro rfl;rcases hid.2.1 with h|h<;>simp at h)) (x17z _)⟩,
    by rw[hm8,hm7];simp only[Mem.next_set,n6,n4,hn1];exact hi.nx⟩
   refine⟨m',fc',?_,z2⟩
   rw[<-z1]
   simp only[x1a]
   unfold x3f x64
   simp only[xsa]
   simp only[xq1,xoy,hk',x184,xph,ix,ld,xrj,xs8,Mem.get_new,x18m,Edge.c,stRow_4]
   rw[show([I e.fr,I e.to,I e.jump,I e.wt].all AV.one)=true from rfl]
   simp only[xpf,xoy]
   rw[show(m.new (0,fc+1+2,5) (.row [I 0,I 0,I 0,I 0] 0 false)).set (0,fc+1+2,5) (.row [I e.fr,I e.to,I e.jump,I e.wt] 0 false)=m1 from hm1.symm]
   have hel:∀(M:Mem) (x:Int),elems M.get 1 (.slit [I x] 1 true)=some (intE x,1):=λ_ _=>rfl
   have h4E:m4.get (0,fc+1+2,5)=some (.row [I e.fr,I e.to,I e.jump,I e.wt] 0 false):=by rw[r4 _ _ (by simp) (by simp)];exact hE
   have h43:m4.get (0,6,3)=some (.row [srI (0,5,9) n] 0 false):=by rw[r4 _ _ (by simp) (by simp)];exact g3
   have h4a:m4.get (0,5,9)=some (.row cells 0 false):=by rw[r4 _ _ (by simp) (by simp)];exact ga
   have h6a:m6.get (0,5,9)=some (.row cells 0 false):=by rw[r6 _ _ (by simp) (by simp)];exact ga
   simp only[xqw,xoy,x187,xqt,hE,g3,ga,xqx,x18o,xpf,x180,x19h,rd_f,xsm,c,x184,xph,afr,ato,rd_av cfr,xtl,xub,hel,A1]
   simp only[xqw,xoy,x187,xqt,h4E,h43,h4a,xqx,x18o,xpf,x180,x19h,rd_f,afr,ato,rd_av cto,xtl,xub,hel,A2,xs8,h6a,x11x cfr c11 c12]
   rw[<-hm7]
   have h7a:m7.get (0,5,9)=some (.row (cells.set e.fr.toNat a1) 0 false):=by rw[hm7];simp
   have cto7:e.to.toNat<(cells.set e.fr.toNat a1).length:=by simpa using cto
   simp only[h7a,x11x cto7 c21 c22,xoy]
   rw[<-hm8]
   have ne1:∀s t:Nat,t≠35->t≠44->((0,s,t)=id1)=False:=λs t h1 h2=>eq_false (by rintro h;rw[<-h]at ty1;simp at ty1;omega)
   have ne2:∀s t:Nat,t≠35->t≠44->((0,s,t)=id2)=False:=λs t h1 h2=>eq_false (by rintro h;rw[<-h]at ty2;simp at ty2;omega)
   have ne3:(id1=(0,fc+1+29,43))=False:=eq_false (by rintro h;rw[h]at ty1;simp at ty1)
   simp[xoz,disj,tR,tS,tX,tA1,tA2,ne1,ne2,ne3]
   unfold x3e
   simp(disch:=omega) [xqv,xq4]
  .obtain⟨m',fc',r1,r2⟩:=ih (k+1) j m1 (fc+1+7+2) hd (by simp at hj;omega) (by omega) ⟨by rw[q1 _ (by simp)];exact hi.b,g3,⟨cells,ga,hcl,by
    have:(λv:Nat=>nearU (l.take (k+1)) (v:Int))=λv:Nat=>nearU (l.take k) (v:Int):=by
     funext v;rw[htk,x11z,x17t c,x1a7]
    rw[this]
    exact hA1.frame (λ_ _=>rfl) (by omega)⟩,by rw[hn1];exact hi.nx⟩
   refine⟨m',fc',?_,r2⟩
   rw[<-r1]
   simp only[x1a]
   unfold x3f x64
   simp only[xsa]
   simp(disch:=omega) [hk',ix,ld,Edge.c]
   rw[show(m.new (0,fc+1+2,5) (.row [I 0,I 0,I 0,I 0] 0 false)).set (0,fc+1+2,5) (.row [I e.fr,I e.to,I e.jump,I e.wt] 0 false)=m1 from hm1.symm]
   simp(disch:=omega) [hE,c,x3e]
theorem Gk.atP{ok:Id->Prop}{m:Mem}{a:AV}{l:List Int}(h:Gk 1 intE ok m a l){k:Nat}(hk:k<l.length):∃p,sIx 1 a (I k)=some p/\sLd false 1 p m=some (I (at0 l k)):=by
 rcases h with ⟨rfl,rfl⟩|⟨id,ver,h0,rfl,hg⟩
 .simp at hk
 .refine⟨.ptr id ver k,?_,?_⟩
  .simp[sIx,asI,hk]
  .rw[xqt,hg]
   simp only[xu8,x18o,cond_true]
   exact xvw hk
theorem Gk.lenP{ok:Id->Prop}{m:Mem}{a:AV}{l:List Int}(h:Gk 1 intE ok m a l):sLen Tryz.prog x8 a=some (I l.length):=by
 rcases h with ⟨rfl,rfl⟩|⟨id,ver,h0,rfl,hg⟩
 .exact xwr xr3
 .rfl
def PartC(n:Nat)(l:List Edge)(m:Mem):Prop:=m.get (0,6,3)=some (.row [srI (0,5,9) n] 0 false)/\∃cells,m.get (0,5,9)=some (.row cells 0 false)/\cells.length=n/\∀(v:Nat) (hv:v<cells.length),Gk 1 intE (λid=>id.1=0) m cells[v] (nearU l v)
theorem PartC.frame{n:Nat}{l:List Edge}{m m':Mem}(h:PartC n l m)(hm:∀id:Id,id.1<1->m'.get id=m.get id):PartC n l m':=by
 obtain⟨h1,cells,h2,h3,h4⟩:=h
 exact⟨by rw[hm _ (by simp)];exact h1,cells,by rw[hm _ (by simp)];exact h2,h3,λv hv=>(h4 v hv).frame λid hid=>hm id (by omega)⟩
theorem l_from(d:Nat)(hs:FHs){u0 sL fq n:Nat}{a:AV}{nb:List Int}(hn:n<=200)(hnb:∀b∈nb,0<=b/\b<n)(hnl:nb.length<=100000){g:Int}(hg:0<=g):∀(suf:List Int) (k j:Nat) (out q:List Int) (m:Mem) (fc:Nat),nb.drop k=suf->suf.length<j->Gk 1 intE (λid=>id.1=0) m a nb ->
 NumMem 1 sL fq n out q g m->StOK n (out,q)->negC out+q.length<=n ->
 ∃m',x2s (xow (d+1)) hs u0 j (.clo xk [.ptr (1,4,5) 0 0,.ptr (1,6,6) 0 0,.ptr (1,fq,8) 0 0]) a (I nb.length) (I k) m fc=some (.tup [],m') /\
  NumMem 1 sL fq n (xq2 g suf (out,q)).1 (xq2 g suf (out,q)).2 g m'/\m.next<=m'.next/\FrU 1 sL fq m m':=by
 intro suf
 induction suf with
 |nil=>
  intro k j out q m fc hd hj hG hM hO hq
  obtain⟨j,rfl⟩:∃i,j=i+1:=⟨j-1,by simp at hj;omega⟩
  have hk:¬((k:Int)<(nb.length:Int)):=by have:=x19a.mp hd;omega
  refine⟨m,?_,hM,x17z _,λ_ _ _ _=>rfl⟩
  simp only[x2s]
  unfold x6o
  simp[hk]
 |cons b r ih=>
  intro k j out q m fc hd hj hG hM hO hq
  obtain⟨j,rfl⟩:∃i,j=i+1:=⟨j-1,by simp at hj;omega⟩
  obtain⟨hk,hke,hd⟩:=xrx hd
  have hk':(k:Int)<(nb.length:Int):=by omega
  obtain⟨p,p1,p2⟩:=hG.atP hk
  have e1:at0 nb k=b:=by rw[xs9 hk,hke]
  rw[e1]at p2
  obtain⟨b0,b1⟩:=hnb b (hke▸x194 hk)
  obtain⟨m1,h1,h2,h3,h4⟩:=a_add d hs hM (by omega) b0 b1
  obtain⟨o1,o2⟩:=addM_ok hO hg b0 b1
  simp only at o2
  obtain⟨m',r1,r2,r3,r4⟩:=ih (k+1) j (addM g (out,q) b).1 (addM g (out,q) b).2 m1 (fc+9) hd (by simp at hj;omega) (hG.frame λid hid=>h4 id (by omega) (by rintro rfl;have:(1:Nat)+1=0:=hid;omega) (by rintro rfl;have:(1:Nat)=0:=hid;omega)) h2 o1 (by omega)
  refine⟨m',?_,r2,by omega,λid e1 e2 e3=>by rw[r4 id e1 e2 e3,h4 id e1 e2 e3]⟩
  rw[<-r1]
  simp only[x2s]
  unfold x6o
  simp(disch:=omega)only[xq1,xoy,hk',x184,xph,p1,p2,h1,xqv,xq4]
  rfl
theorem x14a(d:Nat){n:Nat}{l:List Edge}(hn:n<=200)(hl:l.length<=600)(hed:∀e∈l,EdgeIn n e/\e.fr≠e.to):xx2 (xow (d+2)) (.clo xz [.ptr (0,6,3) 0 0]) n (λa=>nearU l a) 1 (PartC n l):=by
 intro hs sL fq out q g a m han hC hM hg hO hq
 obtain⟨h1,cells,h2,h3,h4⟩:=hC
 have hac:a<cells.length:=by omega
 have hG:=h4 a hac
 have hlen:=x120 l (a:Int)
 obtain⟨m',r1,r2,r3,r4⟩:=l_from d hs (u0:=m.next) (sL:=sL) (fq:=fq) (a:=cells[a]) (nb:=nearU l a) hn (λb hb=>xz3 hed hb) (by omega) hg (nearU l a) 0 NN out q ⟨m.hp,m.next+1⟩ 6 rfl (by rw[xq7];omega) (hG.frame λ_ _=>rfl) ⟨hM.t5,hM.t6,hM.o,by
  obtain⟨x,x1,x2⟩:=hM.t8
  exact⟨x,x1,x2.frame λ_ _=>rfl⟩,hM.ol,by have:=hM.nx;show 1+1<m.next+1;omega⟩ hO hq
 refine⟨.tup [],m',?_,r2,by have:m.next+1<=m'.next:=r3;omega,r4⟩
 show xow (d+2) hs xz _ m=_
 rw[xky]
 have ia:sIx 1 (srI (0,5,9) n) (I a)=some (.ptr (0,5,9) 0 a):=by simpa using xso (id:=(0,5,9)) (n:=n) (k:=(a:Int)) (by omega) (by omega)
 show x3r (xow (d+1)) hs m.next (I a) _ (.ptr (0,6,3) 0 0) ⟨m.hp,m.next+1⟩ 0=_
 unfold x3r
 have G1:(⟨m.hp,m.next+1⟩:Mem).get (0,6,3)=some (.row [srI (0,5,9) n] 0 false):=h1
 have G2:(⟨m.hp,m.next+1⟩:Mem).get (0,5,9)=some (.row cells 0 false):=h2
 simp only[xqt,G1,G2,xqx,x18o,xpf,x180,rd_f,xoy,ia,rd_av hac,hG.lenP]
 exact r1
def xqb(n:Nat)(l:List Edge):List Int:=(numM n (λa=>nearU l a)).1
theorem w_parts(d:Nat){n:Nat}{ev:AV}{l:List Edge}(hev:Sl Edge.c ev l)(hl:l.length<=600)(hn:n<=200)(hed:∀e∈l,EdgeIn n e/\e.fr≠e.to)(m:Mem) :
 xox (xow (d+5)) x14 [.agg [I n,ev]] m=some (.slit ((xqb n l).flatMap intE) n false,m)/\(xqb n l).length=n:=by
 have hel:=hev.len xqf
 have ho:=hev.one
 obtain⟨m1,hm1⟩:∃m1,m1=(⟨[],1⟩:Mem).new (0,0,1) (.row [I n,ev] 0 false):=⟨_,rfl⟩
 obtain⟨m2,hm2⟩:∃m2,m2=m1.new (0,5,9) (.row (List.replicate n nilS) 0 false):=⟨_,rfl⟩
 obtain⟨m3,hm3⟩:∃m3,m3=(m2.new (0,6,3) (.row [nilS] 0 false)).set (0,6,3) (.row [srI (0,5,9) n] 0 false):=⟨_,rfl⟩
 have g1:m1.get (0,0,1)=some (.row [I n,ev] 0 false):=by rw[hm1];simp
 have g3:m3.get (0,0,1)=some (.row [I n,ev] 0 false):=by rw[hm3,hm2];simp[Mem.get_set,Mem.get_new,g1]
 have h0:PInv 13 n ev l 0 m3:=⟨g3,by rw[hm3];simp,⟨List.replicate n nilS,by rw[hm3,hm2];simp[Mem.get_set,Mem.get_new],by simp,⟨λ_=>(0,0,0),λv hv=>Or.inl ⟨by simp,by rw[x1ac];rfl⟩,λv w hv hw n1=>absurd (by rw[x1ac];rfl) n1⟩⟩,by rw[hm3,hm2,hm1];rfl⟩
 obtain⟨m4,fc4,r1,⟨fcx,r2⟩⟩:=p_loop (d+4) [] hev hl hn hed l 0 NN m3 13 rfl (by rw[xq7];omega) (by omega) h0
 have hat:l.take l.length=l:=x182 (x17z _)
 obtain⟨cells,ha,hcl,hA⟩:=r2.a
 rw[hat]at hA
 have hC:PartC n l m4:=⟨r2.t3,cells,ha,hcl,λv hv=>by
  obtain⟨ids,e1,e2⟩:=hA.sh
  rcases e1 v hv with ⟨a,b⟩|⟨ver,a,b,c,-⟩
  .exact Or.inl ⟨a,b⟩
  .exact Or.inr ⟨ids v,ver,c.1,a,b⟩⟩
 have hn4:=r2.nx
 obtain⟨sL,m5,s1,s2,s3,s4,s5⟩:=x149 d [] hn (m:=m4) (f:=.clo xz [.ptr (0,6,3) 0 0]) (nb:=λa=>nearU l a) (C:=PartC n l) (by rw[hn4];exact x14a (d+1) hn hl hed) (by rw[hn4];exact λa b h1 h2=>h1.frame h2) (λa _ b hb=>xz3 hed hb) hC
 rw[hn4]at s1 s2
 refine⟨?_,s3⟩
 have hfz:=frz_own (m:=m5) (id:=(1+1,sL,30)) (l:=xqb n l) s2
 have hpl:(xqb n l).length=n:=s3
 rw[hpl]at hfz
 refine xwu (m':=m5) (r:=srL 1 sL n) (by simp[hev.still1]) ?_ hfz
 rw[xkn]
 show x3g (xow (d+4)) [] 0 (.agg [I (n:Int),ev]) ⟨[],1⟩ 0=_
 unfold x3g x9e
 simp only[xtk,AV.cells,x18u,x1ai,ho,show(I (n:Int)).one=true from rfl,Bool.and_self,xpf,xyy]
 rw[<-hm1]
 simp only[xqt,xqw,g1,xqx,x18o,xpf,x180,x187,rd_f,xoy,mkSl_sl _ hn]
 rw[<-hm2]
 have hz2:x9f=[nilS]:=by kernel_rfl
 have hst:xrq 1 0 0 (srI (0,5,9) n) (some (.row [nilS] 0 false))=some (.row [srI (0,5,9) n] 0 false):=by
  rw[xu9];simp[AV.one]
 simp only[hz2,xrj,xs8,Mem.get_new,x18m,hst,xoy]
 rw[<-hm3]
 simp only[xqt,xqw,g3,xqx,x18o,xpf,x180,x187,x19h,rd_f,xoy,hel]
 rw[show((0:Nat):Int)=0 from rfl]at r1
 show x1a (xow (d+4)) [] 0 NN (.ptr (0,0,1) 0 0) (.ptr (0,6,3) 0 0) ev (I l.length) (I 0) m3 13=_
 rw[r1]
 unfold x63
 simp only[xqt,xqw,r2.b,xqx,x18o,xpf,x180,x187,rd_f,xoy,s1]
end Go.Ix
