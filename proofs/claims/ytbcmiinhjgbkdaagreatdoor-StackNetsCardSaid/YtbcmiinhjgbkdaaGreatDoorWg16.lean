import Derived.Test.YtbcmiinhjgbkdaaGreatDoorWg15
import Derived.Test.YtbcmiinhjgbkdaaGreatDoorWg13
set_option linter.unusedSimpArgs false
set_option linter.unusedVariables false
set_option maxRecDepth 10000
namespace Go.Ix
open Go.Proofs
def PaR(r:Res7)(v:AV):Prop:=∃a b,v=.tup [.agg [a,b],I r.2.1,I r.2.2]/\Sl Scene.c a r.1.1/\Sl Pq.c b r.1.2
theorem x19g{α:Type}{z:Nat}{enc:α->List AV}{l:List α}{a:AV}(hz:∀x,(enc x).length=z)(hs:∀x,(enc x).all still1=true){ok:Id->Prop}{k:Nat}{m m':Mem}(h:Gk z enc ok m a l)(hm:∀id cs v b,ok id->m.get id=some (.row cs v b)->∃b',m'.get id=some (.row cs v b')) :
 ∃a',Sl enc a' l/\Go.Ix.frz m'.get (k+2) a=some a':=by
 rcases h with ⟨rfl,rfl⟩|⟨id,ver,h0,rfl,hg⟩
 .exact⟨nilS,Or.inl ⟨rfl,rfl⟩,rfl⟩
 .have hl:=x135 hz l
  obtain⟨b',hg'⟩:=hm id _ _ _ h0 hg
  refine⟨.slit (l.flatMap enc) l.length false,Sl.lit l false,?_⟩
  have:=x15m (objs:=m'.get) (id:=id) (cs:=l.flatMap enc) (ver:=ver) (off:=0) (n:=l.length) (z:=z) (k:=k) (f:=b') (x:=true) hg' (by omega) (by
   rw[x1mi,x1mb (by omega)];exact x13c hs l)
  rw[x1mi,x1mb (by omega)]at this
  exact this
theorem frz_net{objs:Id->Option Ob}{a b a' b' n e:AV}(ha:Go.Ix.frz objs 4 a=some a')(hb:Go.Ix.frz objs 4 b=some b')(hn:still n=true)(he:still e=true):Go.Ix.frz objs deep (.tup [.agg [a,b],n,e])=some (.tup [.agg [a',b'],n,e]):=by
 have h1:Go.Ix.frz objs 5 (.agg [a,b])=some (.agg [a',b']):=x174 ha hb
 have h2:Go.Ix.frz objs 5 n=some n:=x150 objs 3 hn
 have h3:Go.Ix.frz objs 5 e=some e:=x150 objs 3 he
 show([.agg [a,b],n,e].mapM (Go.Ix.frz objs 5)).map AV.tup=_
 simp only[x1n9,x1of,h1,h2,h3]
 rfl
theorem a_Parse7(d:Nat){t:List UInt8}(ht:t.length<=60005):RetF (PaR (x12p t)) (x10p (d+8) [] x14 [Tx t] mem0):=by
 rw[xu8]
 unfold x90 x6t
 obtain⟨m1,hm1⟩:∃m1:Mem,m1=(((⟨[],1⟩:Mem).new (0,0,2) (.row [nilS,nilS] 0 false)).new (0,1,3) (.row [I 0] 0 false)).new (0,2,4) (.row [I 0] 0 false):=⟨_,rfl⟩
 have g2:m1.get (0,0,2)=some (.row [nilS,nilS] 0 false):=by rw[hm1];simp
 have g3:m1.get (0,1,3)=some (.row [I 0] 0 false):=by rw[hm1];simp
 have g4:m1.get (0,2,4)=some (.row [I 0] 0 false):=by rw[hm1];simp
 have hn1:m1.next=1:=by rw[hm1];rfl
 dsimp only
 simp only[mem0,x14h,x19f,zz_int7,zz_err7,x1mn]
 rw[<-hm1]
 simp only[x120,x10r,x12x]
 have stores:∀(m:Mem) (a b:AV) (x y:Int) (T:AV->Prop),a.one=true->b.one=true->m.get (0,0,2)=some (.row [nilS,nilS] 0 false)->m.get (0,1,3)=some (.row [I 0] 0 false)->m.get (0,2,4)=some (.row [I 0] 0 false) ->
  (∀m',(∀j,j≠(0,0,2)->j≠(0,1,3)->j≠(0,2,4)->m'.get j=m.get j)->RetF T (some (AV.tup [.agg [a,b],I x,I y],m'))) ->
  RetF T (sSt 2 (.ptr (0,0,2) 0 0) (.agg [a,b]) m λm_1=>sSt 1 (.ptr (0,1,3) 0 0) (I x) m_1 λm_2=>sSt 1 (.ptr (0,2,4) 0 0) (I y) m_2 λm_3=>
   (sLdP true 2 (.ptr (0,0,2) 0 0) m_3).bind λr0=>(sLdP false 1 (.ptr (0,1,3) 0 0) m_3).bind λr1=>(sLdP false 1 (.ptr (0,2,4) 0 0) m_3).bind λr2=>some (AV.tup [r0,r1,r2],m_3)):=by
  intro m a b x y T ha hb p2 p3 p4 hk
  have ho:[a,b].all AV.one=true:=by simp[ha,hb]
  rw[x124 (z:=2) (x:=.agg [a,b]) p2 (by rw[x11z];rfl) (by simp) (by rw[x11z];exact ho)]
  obtain⟨a1,ha1⟩:∃a1:Mem,a1=m.set (0,0,2) (.row (x11e [nilS,nilS] 0 (AV.agg [a,b]).cells) 0 false):=⟨_,rfl⟩
  rw[<-ha1]
  have q3:a1.get (0,1,3)=some (.row [I 0] 0 false):=by rw[ha1,Mem.get_set,x1m0 (by decide)];exact p3
  rw[x124 (z:=1) (x:=I x) q3 rfl (by simp) rfl]
  obtain⟨a2,ha2⟩:∃a2:Mem,a2=a1.set (0,1,3) (.row (x11e [I 0] 0 (I x).cells) 0 false):=⟨_,rfl⟩
  rw[<-ha2]
  have q4:a2.get (0,2,4)=some (.row [I 0] 0 false):=by rw[ha2,Mem.get_set,x1m0 (by decide),ha1,Mem.get_set,x1m0 (by decide)];exact p4
  rw[x124 (z:=1) (x:=I y) q4 rfl (by simp) rfl]
  obtain⟨a3,ha3⟩:∃a3:Mem,a3=a2.set (0,2,4) (.row (x11e [I 0] 0 (I y).cells) 0 false):=⟨_,rfl⟩
  rw[<-ha3]
  have l0:sLdP true 2 (.ptr (0,0,2) 0 0) a3=some (.agg [a,b]):=by
   show sLd true 2 (.ptr (0,0,2) 0 0) a3=_
   rw[x11g (cs:=[a,b]) (fz:=false) (by rw[ha3,Mem.get_set,x1m0 (by decide),ha2,Mem.get_set,x1m0 (by decide),ha1,Mem.get_set,x1m1 rfl,x11z];rfl)]
   simp[ha,hb]
  have l1:sLdP false 1 (.ptr (0,1,3) 0 0) a3=some (I x):=by
   unfold sLdP
   exact ldS (by rw[ha3,Mem.get_set,x1m0 (by decide),ha2,Mem.get_set,x1m1 rfl];rfl) rfl
  have l2:sLdP false 1 (.ptr (0,2,4) 0 0) a3=some (I y):=by
   unfold sLdP
   exact ldS (by rw[ha3,Mem.get_set,x1m1 rfl];rfl) rfl
  simp only[l0,l1,l2,x10r]
  exact hk a3 λj h1 h2 h3=>by rw[ha3,Mem.get_set,x1m0 h3,ha2,Mem.get_set,x1m0 h2,ha1,Mem.get_set,x1m0 h1]
 have nil0:∀{m:Mem} {x y:Int} {r:Res7},r=(([],[]),x,y)->RetF (PaR r) (some (AV.tup [.agg [nilS,nilS],I x,I y],m)):=λ{m x y r} h=>by
  subst h
  exact RetF.mk (a':=.tup [.agg [nilS,nilS],I x,I y]) rfl ⟨nilS,nilS,rfl,.inl ⟨rfl,rfl⟩,.inl ⟨rfl,rfl⟩⟩
 by_cases c:60000<t.length
 .have c':(60000:Int)<(t.length:Int):=by omega
  simp only[c',x1m6,x112,x175,x10r]
  refine stores m1 nilS nilS 0 8 _ rfl rfl g2 g3 g4 λm' _=>nil0 ?_
  unfold x12p
  rw[x1m1 c]
 have c':¬(60000:Int)<(t.length:Int):=by omega
 simp only[c',x1m9,x116]
 obtain⟨m2,hm2⟩:∃m2:Mem,m2=(m1.new (0,6,5) (.row [nilS,nilS] 0 false)).new (0,7,6) (.row [I 0] 0 false):=⟨_,rfl⟩
 rw[<-hm2]
 have k6:m2.get (0,7,6)=some (.row [I 0] 0 false):=by rw[hm2,Mem.get_new,x1m1 rfl]
 rw[x124 (z:=1) (x:=I 0) k6 rfl (by simp) rfl]
 obtain⟨m3,hm3⟩:∃m3:Mem,m3=m2.set (0,7,6) (.row (x11e [I 0] 0 (I 0).cells) 0 false):=⟨_,rfl⟩
 rw[<-hm3]
 have gm:∀j:Id,j≠(0,7,6)->j≠(0,6,5)->m3.get j=m1.get j:=λj h1 h2=>by rw[hm3,Mem.get_set,x1m0 h1,hm2,Mem.get_new,x1m0 h1,Mem.get_new,x1m0 h2]
 have hn3:m3.next=1:=by rw[hm3,hm2];exact hn1
 unfold xal
 obtain⟨M,hL,b1,hn4,fr⟩:=w_Lines (d+6) t m3
 rw[hn3]at b1 hn4 hL fr
 simp only[hL,x10r]
 unfold xak
 simp only[sRng]
 generalize hlid:((0,9+2,1):Id)=lid
 have hl1:lid.2.2=1:=by rw[<-hlid]
 have hl0:lid.1=0:=by rw[<-hlid]
 generalize hH:(λ(args:List AV) (m:Mem)=>bif Nat.beq args.length 1&&true then x3z (x10p (d+7)) [] m.next lid (.ptr (0,0,2) 0 0) (.ptr (0,1,3) 0 0) (.ptr (0,2,4) 0 0) (.ptr (0,6,5) 0 0) (.ptr (0,7,6) 0 0) (args.getD 0 U) ⟨m.hp,m.next+1⟩ 0 else none)=H
 generalize hm4:M.new lid (.lp none)=m4
 have hne:∀j:Id,j.2.2≠1->j≠lid:=λj hj e=>hj (by rw[e];exact hl1)
 have hne1:((1,0,1):Id)≠lid:=λe=>by rw[<-e]at hl0;cases hl0
 have c1:m4.get (1,0,1)=some (.row [Tx t] 0 false):=by rw[<-hm4,Mem.get_new,x1m0 hne1];exact b1
 have old:∀j:Id,j.1=0->j.2.2≠1->m4.get j=m3.get j:=λj h1 h2=>by rw[<-hm4,Mem.get_new,x1m0 (hne j h2),fr j (by rw[h1];decide)]
 have hP4:PM lid 0 [] [] m4:=by
  refine⟨?_,?_,?_,?_,⟨nilS,nilS,?_,Gk.nil,Gk.nil⟩,by rw[<-hm4,Mem.get_new,x1m1 rfl],by rw[<-hm4];show 2<=M.next;omega⟩
  .rw[old _ rfl (by decide),gm _ (by decide) (by decide)];exact g2
  .rw[old _ rfl (by decide),gm _ (by decide) (by decide)];exact g3
  .rw[old _ rfl (by decide),gm _ (by decide) (by decide)];exact g4
  .rw[old _ rfl (by decide),hm3,Mem.get_set,x1m1 rfl];rfl
  .rw[show sidP=(0,6,5)from rfl,old _ rfl (by decide),hm3,Mem.get_set,x1m0 (by decide),hm2,Mem.get_new,x1m0 (by decide),Mem.get_new,x1m1 rfl]
 have hll:=x1ep t
 obtain⟨m5,hc,hI⟩:=c_lines (d+3) (hh:=[(lid,H)]) (id:=lid) (h:=H) (s:=t) (by omega) (by simp[x14a]) (i2:=(1,0,1)) (m0:=m4) c1
  (λpre m=>∃S P,rdL [] [] pre=some (S,P)/\PM lid pre.length S P m) (λm=>∃n:Int,goL [] [] 0 (x12d t)=(([],[]),n,7)/\PF lid n m)
  (λpre m l ⟨S,P,h1,h2⟩=>⟨S,P,h1,⟨by rw[Mem.get_set,x1m0 (by decide)];exact h2.n2,by rw[Mem.get_set,x1m0 (by decide)];exact h2.n3,by rw[Mem.get_set,x1m0 (by decide)];exact h2.n4,by rw[Mem.get_set,x1m0 (by decide)];exact h2.n6,
   h2.sr.frame (by rw[Mem.get_set,x1m0 (by unfold sidP;decide)]) λj hj=>by rw[Mem.get_set,x1m0 (by rintro rfl;rcases hj with hj|hj<;>cases hj)],by rw[Mem.get_set,x1m0 hne1.symm];exact h2.lp,h2.nx⟩⟩)
  (λpre w post m hcut ⟨S,P,h1,h2⟩=>by
   have hw:w.length<=100000:=by
    have:=x1hc t w (by rw[hcut];simp)
    omega
   have hlen:=rdL_len pre h1
   simp only[x1mt]at hlen
   have hpl:pre.length<=60001:=by
    rw[hcut]at hll
    simp at hll
    omega
   obtain⟨m6,q1,q2⟩:=h_line7 d m.next hl1 hl0 hw (n:=pre.length) (by omega) (S:=S) (P:=P) (by omega) (by omega) (m:=⟨m.hp,m.next+1⟩) ⟨h2.n2,h2.n3,h2.n4,h2.n6,h2.sr,h2.lp,by have:=h2.nx;show 2<=m.next+1;omega⟩
   rw[<-hH]
   refine⟨m6,q1,?_⟩
   have hgo:=x1bf pre 0 (w::post) h1
   rw[<-hcut,x1mn]at hgo
   cases he:endL w
   .rw[he]at q2
    simp only[x1mp,x1mg]at q2
    refine .inr ⟨by unfold live;rw[hl1,q2.1];rfl,_,?_,q2⟩
    rw[hgo]
    unfold goL
    rw[he];rfl
   .rw[he]at q2
    simp only[x1mo]at q2
    cases hl:x121 S P w.dropLast with
    |none=>
     rw[hl]at q2
     simp only at q2
     refine .inr ⟨by unfold live;rw[hl1,q2.1];rfl,_,?_,q2⟩
     rw[hgo]
     unfold goL
     rw[x1m1 he,hl]
    |some q=>
     rw[hl]at q2
     simp only at q2
     refine .inl ⟨by unfold live;rw[hl1,q2.1.lp];rfl,⟨q.1,q.2,x1en pre h1 he hl,?_⟩,q2.2⟩
     rw[x1mk,x1q9]
     exact q2.1)
  ⟨[],[],rfl,⟨hP4.n2,hP4.n3,hP4.n4,hP4.n6,hP4.sr,hP4.lp,by have:=hP4.nx;show 2<=m4.next+1;omega⟩⟩
 have hc':x10p (d+7) [(lid,H)] xx (AV.yld lid::[AV.ptr (1,0,1) 0 0]) m4=some (.tup [],m5):=hc
 rw[hc']
 simp only[x10r]
 have hpa:x12p t=goL [] [] 0 (x12d t):=by
  unfold x12p
  rw[x1m0 c]
 rw[hpa]
 unfold sLp
 rcases hI with ⟨S,P,hr,hP⟩|⟨n,hgo,f1,f2,f3,f4⟩
 .rw[hP.lp]
  simp only
  have hgo:=x1bf (x12d t) 0 [] hr
  rw[x1n0]at hgo
  rw[hgo]
  show RetF (PaR (finM S P)) _
  obtain⟨v,w,s1,s2,s3⟩:=hP.sr
  unfold sidP at s1
  have ho1:=s2.one
  have ho2:=s3.one
  have ldn:sLd true 2 (.ptr (0,6,5) 0 0) m5=some (.agg [v,w]):=by rw[x11g s1];simp[ho1.2,ho2.2]
  obtain⟨v',hv1,hv2⟩:=s2.frz (k:=4) Scene.len Scene.stl
  obtain⟨w',hw1,hw2⟩:=s3.frz (k:=4) Pq.len Pq.still
  have hne7:=λm=>x1be (d+1) hv1 hw1 m
  obtain⟨v3,hv3,hv4⟩:=s2.frz (k:=3) Scene.len Scene.stl
  obtain⟨w3,hw3,hw4⟩:=s3.frz (k:=3) Pq.len Pq.still
  have hth:x10o (x10p (d+7)) xq [.agg [v,w]] m5=some (I (net7 S P).2,⟨x12o ([AV.agg [v,w]].flatMap (reach m5.get deep)) m5.hp,m5.next⟩):=
   x1bc (m:=m5) (l':=[.agg [v3,w3]]) (by
    simp only[x1n9,x1of]
    rw[show Go.Ix.frz m5.get deep (.agg [v,w])=some (.agg [v3,w3])from x174 hv4 hw4]
    rfl) (by simp[still,hv3.still1,hw3.still1]) (λm=>x1be (d+1) hv3 hw3 m)
  unfold x6s
  simp only[ldn,x10r,hth,x143]
  obtain⟨ids,hids⟩:∃ids,ids=[AV.agg [v,w]].flatMap (reach m5.get deep):=⟨_,rfl⟩
  rw[<-hids]
  have hin:∀i∈ids,okA7 i\/okB7 i:=λi hi=>by
   rw[hids,x1mj,x1nx,x1n0]at hi
   have hi':i∈[v,w].flatMap (reach m5.get (3+2)):=hi
   rw[x1mj,x1mj,x1nx,x1n0,x1nf]at hi'
   rcases hi' with h|h
   .exact .inl (s2.reachK Scene.stl 3 i h)
   .exact .inr (s3.reachK Pq.still 3 i h)
  have hni:∀j:Id,j.2.2≠47->j.2.2≠69->j∉ids:=λj h1 h2 h3=>by
   rcases hin j h3 with h|h
   .exact h1 h
   .exact h2 h
  obtain⟨m6,hm6⟩:∃m6:Mem,m6=⟨x12o ids m5.hp,m5.next⟩:=⟨_,rfl⟩
  have e6:∀j:Id,j.2.2≠47->j.2.2≠69->m6.get j=m5.get j:=λj h1 h2=>by rw[hm6];exact x1bd (hni j h1 h2)
  have r6:∀j cs v b,m5.get j=some (.row cs v b)->∃b',m6.get j=some (.row cs v b'):=λj cs v b h=>by rw[hm6];exact x1ee h
  rw[<-hm6]
  have t2:m6.get (0,0,2)=some (.row [nilS,nilS] 0 false):=by rw[e6 _ (by decide) (by decide)];exact hP.n2
  have t3:m6.get (0,1,3)=some (.row [I 0] 0 false):=by rw[e6 _ (by decide) (by decide)];exact hP.n3
  have t4:m6.get (0,2,4)=some (.row [I 0] 0 false):=by rw[e6 _ (by decide) (by decide)];exact hP.n4
  have t6:m6.get (0,6,5)=some (.row [v,w] 0 false):=by rw[e6 _ (by decide) (by decide)];exact s1
  unfold finM
  by_cases hz:(net7 S P).2=0
  .rw[x1m1 hz]
   have ldn6:sLd true 2 (.ptr (0,6,5) 0 0) m6=some (.agg [v,w]):=by rw[x11g t6];simp[ho1.2,ho2.2]
   simp only[hz,x1m6,x1mh,x116,ldn6,x10r]
   refine stores m6 v w 0 0 _ ho1.2 ho2.2 t2 t3 t4 λm7 h7=>?_
   have f7:∀id cs v b,okA7 id\/okB7 id->m5.get id=some (.row cs v b)->∃b',m7.get id=some (.row cs v b'):=λid cs v b ho hg=>by
    obtain⟨b',hb'⟩:=r6 id cs v b hg
    exact⟨b',by rw[h7 id (by rintro rfl;rcases ho with h|h<;>cases h) (by rintro rfl;rcases ho with h|h<;>cases h) (by rintro rfl;rcases ho with h|h<;>cases h)];exact hb'⟩
   obtain⟨a7,ha7,ha8⟩:=x19g (k:=2) (m':=m7) Scene.len Scene.stl s2 λid cs v b ho=>f7 id cs v b (.inl ho)
   obtain⟨b7,hb7,hb8⟩:=x19g (k:=2) (m':=m7) Pq.len Pq.still s3 λid cs v b ho=>f7 id cs v b (.inr ho)
   exact RetF.mk (frz_net ha8 hb8 rfl rfl) ⟨a7,b7,rfl,ha7,hb7⟩
  .rw[x1m0 hz]
   simp only[hz,x1m9,x1md,x112,x175,x10r]
   exact stores m6 nilS nilS 0 _ _ rfl rfl t2 t3 t4 λm7 h7=>nil0 rfl
 .rw[f1]
  simp only
  have p2:sLdP true 2 (.ptr (0,0,2) 0 0) m5=some (.agg [nilS,nilS]):=by show sLd true 2 (.ptr (0,0,2) 0 0) m5=_;rw[x11g f2];rfl
  have p3:sLdP false 1 (.ptr (0,1,3) 0 0) m5=some (I n):=by unfold sLdP;exact ldS f3 rfl
  have p4:sLdP false 1 (.ptr (0,2,4) 0 0) m5=some (I 7):=by unfold sLdP;exact ldS f4 rfl
  simp only[p2,p3,p4,x10r]
  exact nil0 hgo
def okC7:Id->Prop:=λid=>id.2.2=55/\1<=id.1
def okD7:Id->Prop:=λid=>id.2.2=91/\1<=id.1
theorem num_V(o:Option Int):∃(a:Int) (b:Bool),numV o=.tup [I a,B b]/\o=if b=true then some a else none:=by
 cases o with
 |none=>exact⟨0,false,rfl,rfl⟩
 |some n=>exact⟨n,true,rfl,rfl⟩
theorem bl_sc3(nm:List UInt8)(a b:Int):x11a x9 [(0,1,Tx nm),(1,1,I a),(2,1,I b)]=some (.agg [Tx nm,I a,I b]):=by
 rw[x152];rfl
theorem bl_pq3(a b:Int):x11a xd [(0,1,I a),(1,1,I b)]=some (.agg [I a,I b]):=by
 rw[x16c];rfl
theorem c_line7r(d:Nat){v w:AV}{S:List Scene}{P:List Pq}(hS:S.length<=100000)(hP:P.length<=100000){t:List UInt8}(ht:t.length<=100000){m:Mem}(hn:1<=m.next)(hA:Gk 3 Scene.c okC7 m v S)(hB:Gk 2 Pq.c okD7 m w P) :
 ∃m' x y,x10p (d+2) [] x15 [.agg [v,w],Tx t] m=some (.tup [.agg [x,y],B (x121 S P t).isSome],m')/\x.one=true/\y.one=true /\
  (∀q,x121 S P t=some q->Gk 3 Scene.c okC7 m' x q.1/\Gk 2 Pq.c okD7 m' y q.2)/\m.next<=m'.next/\∀j,j.1<m.next->¬okC7 j->¬okD7 j->m'.get j=m.get j:=by
 rw[xuo]
 unfold x9f x7l
 have hl1:=hA.one
 have hl2:=hB.one
 obtain⟨m1,hm1⟩:∃m1:Mem,m1=((⟨m.hp,m.next+1⟩:Mem).new (m.next,0,2) (.row [v,w] 0 false)).new (m.next,0+1,4) (.row [nilS,nilS] 0 false):=⟨_,rfl⟩
 have nes:∀{a b:Nat} {x y:Nat},((m.next,a,x):Id)=(m.next,b,y)->x=y:=λh=>(Prod.mk.inj (Prod.mk.inj h).2).2
 have g1:∀j:Id,j≠(m.next,0,2)->j≠(m.next,0+1,4)->m1.get j=m.get j:=λj h1 h2=>by rw[hm1,Mem.get_new,x1m0 h2,Mem.get_new,x1m0 h1];rfl
 have hs1:m1.get (m.next,0,2)=some (.row [v,w] 0 false):=by rw[hm1,Mem.get_new,x1m0 (λe=>absurd (nes e) (by decide)),Mem.get_new,x1m1 rfl]
 have hr1:m1.get (m.next,0+1,4)=some (.row [nilS,nilS] 0 false):=by rw[hm1,Mem.get_new,x1m1 rfl]
 have hn1:m1.next=m.next+1:=by rw[hm1];rfl
 have hA1:Gk 3 Scene.c okC7 m1 v S:=hA.frame λj hj=>g1 j (by rintro rfl;cases hj.1) (by rintro rfl;cases hj.1)
 have hB1:Gk 2 Pq.c okD7 m1 w P:=hB.frame λj hj=>g1 j (by rintro rfl;cases hj.1) (by rintro rfl;cases hj.1)
 obtain⟨ws,hws⟩:∃ws,ws=cutM 32 t:=⟨_,rfl⟩
 have hwl:∀k,(wd ws k).length<=100000:=λk=>by
  unfold wd
  rw[x1mu]
  cases hk:ws[k]? with
  |none=>simp
  |some x=>
   have:=x17x 32 t x (by rw[<-hws];exact x1n1 hk)
   simp only[Option.getD_some];omega
 have hne:ws≠[]:=by rw[hws];exact x16e 32 t
 have hpos:=x1nv.mpr hne
 obtain⟨xs,hxs,hcut⟩:=w_Cut (d:=d) 32 ht
 rw[<-hws]at hxs
 have hcut':∀m,x10o (x10p (d+1)) xt [Tx t,AV.sc (.int .u8 32)] m=some (xs,m):=hcut
 have hix:∀k,k<ws.length->sIx 1 xs (I k)=some (.plit (Tx (wd ws k)::(ws.drop (k+1)).flatMap strE)):=λk hk=>by
  have:=hxs.ix x13p hk
  rw[x1nu hk,x1mj]at this
  rw[this]
  unfold wd
  rw[x1mu,x1ml hk]
  rfl
 have hlw:sLd false 1 (.ptr (m.next,0,2) 0 1) m1=some w:=by rw[x11g hs1];simp[hl2.2]
 have hlP:sLen Tryz.prog x8 w=some (I P.length):=by
  rcases hB1 with ⟨rfl,rfl⟩|⟨id,ver,_,rfl,hg⟩
  .exact x17t x130
  .rfl
 have hlv:sLd false 1 (.ptr (m.next,0,2) 0 0) m1=some v:=by rw[x11g hs1];simp[hl1.2]
 have hlen:sLen Tryz.prog xh xs=some (I ws.length):=hxs.len x153
 have hx0:=hix 0 hpos
 rw[show((0:Nat):Int)=0 from rfl]at hx0
 have hnum:=λk (m:Mem)=>w_Number d (hwl k) (k:=7) (by omega) m
 rw[show((7:Nat):Int)=7 from rfl]at hnum
 have hone:[v,w].all AV.one=true:=by simp[hl1.2,hl2.2]
 dsimp only
 simp only[x168,x11z,hone,x119,x14h,x19f]
 rw[<-hm1]
 rw[show(AV.sc (.string ⟨#[115,99,101,110,101]⟩))=Tx scnB from rfl,show(AV.sc (.string ⟨#[112,97,105,114]⟩))=Tx prB from rfl]
 unfold x121
 rw[<-hws]
 have fin:∀(m4:Mem) (x y:AV) (b:Bool) (o:Option (List Scene×List Pq)),o.isSome=b->x.one=true->y.one=true->m4.get (m.next,0,2)=some (.row [x,y] 0 false)->m4.get (m.next,0+1,4)=some (.row [nilS,nilS] 0 false) ->
  (∀q,o=some q->Gk 3 Scene.c okC7 m4 x q.1/\Gk 2 Pq.c okD7 m4 y q.2)->m.next<=m4.next->(∀j,j.1<m.next->¬okC7 j->¬okD7 j->m4.get j=m.get j) ->
  ∃m' x y,(sLd true 2 (.ptr (m.next,0,2) 0 0) m4).bind (λt=>sSt 2 (.ptr (m.next,0+1,4) 0 0) t m4 λm_6=>(sLdP true 2 (.ptr (m.next,0+1,4) 0 0) m_6).bind λr0=>some (AV.tup [r0,B b],m_6))=some (.tup [.agg [x,y],B o.isSome],m')/\x.one=true/\y.one=true /\
  (∀q,o=some q->Gk 3 Scene.c okC7 m' x q.1/\Gk 2 Pq.c okD7 m' y q.2)/\m.next<=m'.next/\∀j,j.1<m.next->¬okC7 j->¬okD7 j->m'.get j=m.get j:=by
  intro m4 x y b o hb hx hy h2 h4 hq hnx hf
  have ho:[x,y].all AV.one=true:=by simp[hx,hy]
  have l2:sLd true 2 (.ptr (m.next,0,2) 0 0) m4=some (.agg [x,y]):=by rw[x11g h2];simp[hx,hy]
  obtain⟨m5,hm5⟩:∃m5:Mem,m5=m4.set (m.next,0+1,4) (.row [x,y] 0 false):=⟨_,rfl⟩
  have hst:∀{R:Type} (K:Mem->Option R),sSt 2 (.ptr (m.next,0+1,4) 0 0) (.agg [x,y]) m4 K=K m5:=λK=>by
   rw[x124 (z:=2) (x:=.agg [x,y]) h4 (by rw[x11z];rfl) (by simp) (by rw[x11z];exact ho),hm5,x11z];rfl
  have l4:sLdP true 2 (.ptr (m.next,0+1,4) 0 0) m5=some (.agg [x,y]):=by
   show sLd true 2 (.ptr (m.next,0+1,4) 0 0) m5=_
   rw[x11g (cs:=[x,y]) (fz:=false) (by rw[hm5,Mem.get_set,x1m1 rfl])]
   simp[hx,hy]
  simp only[l2,x10r,hst,l4]
  refine⟨m5,x,y,by rw[hb],hx,hy,λq h=>?_,by rw[hm5];exact hnx,λj h1 h2 h3=>?_⟩
  .obtain⟨p1,p2⟩:=hq q h
   exact⟨p1.frame λj hj=>by rw[hm5,Mem.get_set,x1m0 (by rintro rfl;cases hj.1)],p2.frame λj hj=>by rw[hm5,Mem.get_set,x1m0 (by rintro rfl;cases hj.1)]⟩
  .rw[hm5,Mem.get_set,x1m0 (by rintro rfl;exact x1ns _ h1),hf j h1 h2 h3]
 have old:∀j:Id,j.1<m.next->m1.get j=m.get j:=λj hj=>g1 j (by rintro rfl;exact x1ns _ hj) (by rintro rfl;exact x1ns _ hj)
 have none1:=fin m1 v w false none rfl hl1.2 hl2.2 hs1 hr1 (λq h=>by cases h) (by omega) λj h1 _ _=>old j h1
 simp only[x1mn]at none1 fin hr1
 have hap:x10q (tR (.ptr (m.next,0,2) 0 0)) (some [],some [(m.next,47,54)])=true:=by
  simp[tR,x10q,disj]
 simp only[hcut',x10r,hx0,x12c,rd_f,List.head?_cons,x_eq,x1mn,x12z,hlv,hlw]
 by_cases c0:wd ws 0=scnB
 .have hnp:¬wd ws 0=prB:=by rw[c0];decide
  by_cases c1:ws.length=4
  .have c1':((ws.length:Int)=4):=by omega
   by_cases c2:P=[]
   .rw[x1m1 ⟨c0,by omega,c2⟩]
    have c2':((P.length:Int)=0):=by rw[c2];rfl
    have hx1:=hix 1 (by omega)
    have hx2:=hix 2 (by omega)
    have hx3:=hix 3 (by omega)
    rw[show((1:Nat):Int)=1 from rfl]at hx1
    rw[show((2:Nat):Int)=2 from rfl]at hx2
    rw[show((3:Nat):Int)=3 from rfl]at hx3
    obtain⟨a,ba,ha,ha2⟩:=num_V (nbrM (wd ws 2) 7)
    obtain⟨b,bb,hb,hb2⟩:=num_V (nbrM (wd ws 3) 7)
    have htwo:twoM (ws.drop 2)=if(ba&&bb)=true then some (a,b)else none:=by
     rw[x1nu (by omega:2<ws.length),x1nu (by omega:2+1<ws.length),x1nt (by omega)]
     have e2:ws[2]'(by omega)=wd ws 2:=by unfold wd;rw[x1mu,x1ml (by omega)];rfl
     have e3:ws[2+1]'(by omega)=wd ws 3:=by unfold wd;rw[x1mu,x1ml (by omega)];rfl
     rw[e2,e3]
     unfold twoM
     simp only[ha2,hb2]
     cases ba<;>cases bb<;>rfl
    obtain⟨v',m5,A5,G5,o1,o2,n5,f5⟩:=Gk.app (ok:=okC7) (l:=S) (bytes:=32) (id0:=(m.next,48,55)) Scene.len (by omega) ⟨rfl,hn⟩ (by unfold x11c;omega) hA1 ⟨⟨(wd ws 1).toArray⟩,a,b⟩
    have hel:∀objs,elems objs 3 (.slit [Tx (wd ws 1),I a,I b] 1 true)=some (Scene.c ⟨⟨(wd ws 1).toArray⟩,a,b⟩,1):=λ_=>rfl
    have hs5:m5.get (m.next,0,2)=some (.row [v,w] 0 false):=by rw[f5 _ (by unfold okC7;simp)];exact hs1
    have hr5:m5.get (m.next,1,4)=some (.row [nilS,nilS] 0 false):=by rw[f5 _ (by unfold okC7;simp)];exact hr1
    have hst6:∀{R:Type} (K:Mem->Option R),sSt 1 (.ptr (m.next,0,2) 0 0) v' m5 K=K (m5.set (m.next,0,2) (.row [v',w] 0 false)):=λK=>by
     rw[x124 (z:=1) (x:=v') hs5 (by rw[o1];rfl) (by simp) (by rw[o1];simp[o2]),o1];rfl
    simp only[c0,x1m6,x11p,x11y,sW_t,x119,x10r,hlen,x12y,c1',x11b,hlP,c2',x112,hx1,hx2,hx3,x12c,rd_f,List.head?_cons,hnum,ha,hb,x144,x1nd,x1ne,bl_sc3,mk_sc,hel,A5,hst6,hap,x1oh,hlv,hlw]
    obtain⟨m6,hm6⟩:∃m6:Mem,m6=m5.set (m.next,0,2) (.row [v',w] 0 false):=⟨_,rfl⟩
    rw[<-hm6]
    have hp:∀(m:Mem),((if(sW (B ba) true)=true then some (B bb,m)else some (U,m)):Option (AV×Mem))=some (if ba=true then(B bb,m)else(U,m)):=λm=>by cases ba<;>rfl
    have hfin:=fin m6 v' w (ba&&bb) (if(ba&&bb)=true then some (S++[⟨⟨(wd ws 1).toArray⟩,a,b⟩],P)else none) (by cases(ba&&bb)<;>rfl) o2 hl2.2 (by rw[hm6,Mem.get_set,x1m1 rfl]) (by rw[hm6,Mem.get_set,x1m0 (λe=>absurd (nes e) (by decide))];exact hr5)
     (λq hq=>by
      cases hbb:(ba&&bb)with
      |false=>rw[hbb]at hq;cases hq
      |true=>
       rw[hbb]at hq;cases hq
       exact⟨G5.frame λj hj=>by rw[hm6,Mem.get_set,x1m0 (by rintro rfl;cases hj.1)],hB1.frame λj hj=>by rw[hm6,Mem.get_set,x1m0 (by rintro rfl;cases hj.1),f5 _ (by rintro⟨h,_⟩;rw[hj.1]at h;cases h)]⟩)
     (by rw[hm6];show m.next<=m5.next;omega)
     (λj h1 h2 h3=>by rw[hm6,Mem.get_set,x1m0 (by rintro rfl;exact x1ns _ h1),f5 j h2,old j h1])
    rw[htwo,show(Option.map (λq:Int×Int=>(S++[(⟨⟨(wd ws 1).toArray⟩,q.1,q.2⟩:Scene)],P)) (if(ba&&bb)=true then some (a,b)else none))=(if(ba&&bb)=true then some (S++[⟨⟨(wd ws 1).toArray⟩,a,b⟩],P)else none) by cases(ba&&bb)<;>rfl]
    have l6:sLd true 2 (.ptr (m.next,0,2) 0 0) m6=some (.agg [v',w]):=by rw[x11g (cs:=[v',w]) (fz:=false) (by rw[hm6,Mem.get_set,x1m1 rfl])];simp[o2,hl2.2]
    simp only[l6,x10r]at hfin ⊢
    cases ba
    .simp only[sW_f,x11i,x10r,x11b,x1qa,x1mh,x11p]at hfin ⊢
     exact hfin
    .simp only[sW_t,x119,x10r,x11b,x1n6,x11p]at hfin ⊢
     exact hfin
   .rw[x1m0 (λh=>c2 h.2.2),x1m0 hnp]
    have c2':¬((P.length:Int)=0):=by
     have:=x1nv.mpr c2
     omega
    simp only[c0,x1m6,x11p,x11y,sW_t,x119,x10r,hlen,x12y,c1',x11b,hlP,c2',x1m9,x116,hx0,x12c,rd_f,List.head?_cons,x_eq,show decide (scnB=prB)=false from by decide,sW_f,x11i,hlv,hlw]
    exact none1
  .have hl:(if wd ws 0=scnB/\1<ws.length/\P=[]then Option.map (λq:Int×Int=>(S++[(⟨⟨(wd ws 1).toArray⟩,q.1,q.2⟩:Scene)],P)) (twoM (ws.drop 2))else if wd ws 0=prB then(twoM (ws.drop 1)).map λq=>(S,P++[⟨q.1,q.2⟩])else none)=none:=by
    rw[x1m0 hnp]
    split
    .have:twoM (ws.drop 2)=none:=by
      unfold twoM
      split
      .rename_i u v e
       have:=congrArg List.length e
       rw[x1o5]at this
       simp at this;omega
      .rfl
     rw[this];rfl
    .rfl
   rw[hl]
   have c1':¬((ws.length:Int)=4):=by omega
   simp only[c0,x1m6,x11p,x11y,sW_t,x119,x10r,hlen,x12y,c1',x1m9,x11b,x11i,x116,hx0,x12c,rd_f,List.head?_cons,x_eq,show decide (scnB=prB)=false from by decide,sW_f,hlv,hlw]
   exact none1
 .rw[x1m0 (λh=>c0 h.1)]
  by_cases c3:wd ws 0=prB
  .rw[x1m1 c3]
   by_cases c1:ws.length=3
   .have c1':((ws.length:Int)=3):=by omega
    have hx1:=hix 1 (by omega)
    have hx2:=hix 2 (by omega)
    rw[show((1:Nat):Int)=1 from rfl]at hx1
    rw[show((2:Nat):Int)=2 from rfl]at hx2
    obtain⟨a,ba,ha,ha2⟩:=num_V (nbrM (wd ws 1) 7)
    obtain⟨b,bb,hb,hb2⟩:=num_V (nbrM (wd ws 2) 7)
    have htwo:twoM (ws.drop 1)=if(ba&&bb)=true then some (a,b)else none:=by
     rw[x1nu (by omega:1<ws.length),x1nu (by omega:1+1<ws.length),x1nt (by omega)]
     have e2:ws[1]'(by omega)=wd ws 1:=by unfold wd;rw[x1mu,x1ml (by omega)];rfl
     have e3:ws[1+1]'(by omega)=wd ws 2:=by unfold wd;rw[x1mu,x1ml (by omega)];rfl
     rw[e2,e3]
     unfold twoM
     simp only[ha2,hb2]
     cases ba<;>cases bb<;>rfl
    obtain⟨w',m5,A5,G5,o1,o2,n5,f5⟩:=Gk.app (ok:=okD7) (l:=P) (bytes:=16) (id0:=(m.next,54,91)) Pq.len (by omega) ⟨rfl,hn⟩ (by unfold x11c;omega) hB1 ⟨a,b⟩
    have hel:∀objs,elems objs 2 (.slit [I a,I b] 1 true)=some (Pq.c ⟨a,b⟩,1):=λ_=>rfl
    have hs5:m5.get (m.next,0,2)=some (.row [v,w] 0 false):=by rw[f5 _ (by unfold okD7;simp)];exact hs1
    have hr5:m5.get (m.next,1,4)=some (.row [nilS,nilS] 0 false):=by rw[f5 _ (by unfold okD7;simp)];exact hr1
    have hst6:∀{R:Type} (K:Mem->Option R),sSt 1 (.ptr (m.next,0,2) 0 1) w' m5 K=K (m5.set (m.next,0,2) (.row [v,w'] 0 false)):=λK=>by
     rw[x124 (z:=1) (x:=w') hs5 (by rw[o1];rfl) (by simp) (by rw[o1];simp[o2]),o1];rfl
    simp only[c0,c3,x1m9,show decide (prB=scnB)=false from by decide,x1m6,x11p,x11y,sW_t,sW_f,x11i,x119,x10r,hlen,x12y,c1',x11b,x116,x112,hx0,hx1,hx2,x12c,rd_f,List.head?_cons,x_eq,hnum,ha,hb,x144,x1nd,x1ne,bl_pq3,mk_pq,hel,A5,hst6,hlv,hlw]
    obtain⟨m6,hm6⟩:∃m6:Mem,m6=m5.set (m.next,0,2) (.row [v,w'] 0 false):=⟨_,rfl⟩
    rw[<-hm6]
    have hfin:=fin m6 v w' (ba&&bb) (if(ba&&bb)=true then some (S,P++[⟨a,b⟩])else none) (by cases(ba&&bb)<;>rfl) hl1.2 o2 (by rw[hm6,Mem.get_set,x1m1 rfl]) (by rw[hm6,Mem.get_set,x1m0 (λe=>absurd (nes e) (by decide))];exact hr5)
     (λq hq=>by
      cases hbb:(ba&&bb)with
      |false=>rw[hbb]at hq;cases hq
      |true=>
       rw[hbb]at hq;cases hq
       exact⟨hA1.frame λj hj=>by rw[hm6,Mem.get_set,x1m0 (by rintro rfl;cases hj.1),f5 _ (by rintro⟨h,_⟩;rw[hj.1]at h;cases h)],G5.frame λj hj=>by rw[hm6,Mem.get_set,x1m0 (by rintro rfl;cases hj.1)]⟩)
     (by rw[hm6];show m.next<=m5.next;omega)
     (λj h1 h2 h3=>by rw[hm6,Mem.get_set,x1m0 (by rintro rfl;exact x1ns _ h1),f5 j h3,old j h1])
    rw[htwo,show(Option.map (λq:Int×Int=>(S,P++[(⟨q.1,q.2⟩:Pq)])) (if(ba&&bb)=true then some (a,b)else none))=(if(ba&&bb)=true then some (S,P++[⟨a,b⟩])else none) by cases(ba&&bb)<;>rfl]
    have l6:sLd true 2 (.ptr (m.next,0,2) 0 0) m6=some (.agg [v,w']):=by rw[x11g (cs:=[v,w']) (fz:=false) (by rw[hm6,Mem.get_set,x1m1 rfl])];simp[o2,hl1.2]
    simp only[l6,x10r]at hfin ⊢
    cases ba
    .simp only[sW_f,x11i,x10r,x11b,x1qa,x1mh,x11p]at hfin ⊢
     exact hfin
    .simp only[sW_t,x119,x10r,x11b,x1n6,x11p]at hfin ⊢
     exact hfin
   .have htwo:twoM (ws.drop 1)=none:=by
     unfold twoM
     split
     .rename_i u v e
      have:=congrArg List.length e
      rw[x1o5]at this
      simp at this;omega
     .rfl
    rw[htwo]
    have c1':¬((ws.length:Int)=3):=by omega
    simp only[c0,c3,x1m9,show decide (prB=scnB)=false from by decide,x1m6,x11p,x11y,sW_t,sW_f,x11i,x119,x10r,hlen,x12y,c1',x11b,x116,hx0,x12c,rd_f,List.head?_cons,x_eq,hlv,hlw,Option.map_none]
    exact none1
  .rw[x1m0 c3]
   simp only[c0,c3,x1m9,x11p,x11y,sW_f,x11i,x10r,x11b,x116,hx0,x12c,rd_f,List.head?_cons,x_eq,hlv,hlw]
   exact none1
theorem x1er{c:UInt8}:∀{l w:List UInt8},w∈cutM c l->c∉w
 |[],w,h=>by
  simp[cutM]at h
  rw[h];simp
 |x::l,w,h=>by
  have ih:=λw=>@x1er c l w
  unfold cutM at h
  split at h
  .rcases x1ma.1 h with rfl|h
   .simp
   .exact ih w h
  .rename_i hx
   split at h
   .simp at h;rw[h];simp;exact λe=>hx e.symm
   .rename_i a r e
    rcases x1ma.1 h with rfl|h
    .intro hm
     rcases x1ma.1 hm with hm|hm
     .exact hx hm.symm
     .exact ih a (by rw[e];exact x1mr) hm
    .exact ih w (by rw[e];exact x1me _ h)
def goC:List Scene->List Pq->Nat->List (List UInt8)->Res7
 |S,P,_,[]=>finM S P
 |S,P,n,p::r=>if r=[]/\p=[]then finM S P else match x121 S P p with
  |some q=>if r=[]then(([],[]),((n+1:Nat):Int),7)else goC q.1 q.2 (n+1) r
  |none=>(([],[]),((n+1:Nat):Int),7)
theorem x1es:∀(ps:List (List UInt8)) (S:List Scene) (P:List Pq) (n:Nat),(∀p∈ps,(10:UInt8)∉p)->goL S P n (x13q ps)=goC S P n ps
 |[],S,P,n,_=>rfl
 |[p],S,P,n,h=>by
  unfold x13q goC
  by_cases hp:p=[]
  .rw[x1m1 hp,x1m1 ⟨rfl,hp⟩];rfl
  .rw[x1m0 hp,x1m0 (λe=>hp e.2)]
   unfold goL
   have he:endL p=false:=by
    unfold endL
    apply x1oe
    intro e
    exact h p (by simp) (List.mem_of_getLast? e)
   rw[he]
   simp only[x1mp,x1mg,x1mo]
   cases x121 S P p<;>rfl
 |p::q::r,S,P,n,h=>by
  unfold x13q goC
  rw[x1m0 (λe=>by cases e.1)]
  unfold goL
  have he:endL (p++[10])=true:=by simp[endL]
  rw[x1m1 he,List.dropLast_concat]
  cases x121 S P p with
  |none=>rfl
  |some x=>
   simp only
   rw[x1m0 (by simp),x1es (q::r) x.1 x.2 (n+1) λp hp=>h p (x1me _ hp)]
theorem x17y{R:Type}(id:Id)(m:Mem)(K:AV->Mem->Option R):x110 xc id m K=K (.ptr id 0 0) (m.new id (.row [nilS,nilS] 0 false)):=by
 rw[x19f];rfl
theorem fin7r(d:Nat){v w:AV}{S:List Scene}{P:List Pq}{m:Mem}(fc:Nat)(h2:m.get (0,0,2)=some (.row [nilS,nilS] 0 false))(h6:m.get (0,9,6)=some (.row [v,w] 0 false))(s2:Gk 3 Scene.c okC7 m v S)(s3:Gk 2 Pq.c okD7 m w P) :
 RetF (PaR (finM S P)) (x40 (x10p (d+4)) [] 0 (.ptr (0,0,2) 0 0) (.ptr (0,9,6) 0 0) m fc):=by
 have ho1:=s2.one
 have ho2:=s3.one
 have ldn:sLd true 2 (.ptr (0,9,6) 0 0) m=some (.agg [v,w]):=by rw[x11g h6];simp[ho1.2,ho2.2]
 obtain⟨v3,hv3,hv4⟩:=s2.frz (k:=3) Scene.len Scene.stl
 obtain⟨w3,hw3,hw4⟩:=s3.frz (k:=3) Pq.len Pq.still
 have hth:x10o (x10p (d+4)) x1n [.agg [v,w]] m=some (I (net7 S P).2,⟨x12o ([AV.agg [v,w]].flatMap (reach m.get deep)) m.hp,m.next⟩):=
  x1bc (m:=m) (l':=[.agg [v3,w3]]) (by
   simp only[x1n9,x1of]
   rw[show Go.Ix.frz m.get deep (.agg [v,w])=some (.agg [v3,w3])from x174 hv4 hw4]
   rfl) (by simp[still,hv3.still1,hw3.still1]) (λm=>w_Err7 d hv3 hw3 m)
 unfold x40
 simp only[ldn,x10r,hth,x143]
 obtain⟨ids,hids⟩:∃ids,ids=[AV.agg [v,w]].flatMap (reach m.get deep):=⟨_,rfl⟩
 rw[<-hids]
 have hin:∀i∈ids,okC7 i\/okD7 i:=λi hi=>by
  rw[hids,x1mj,x1nx,x1n0]at hi
  have hi':i∈[v,w].flatMap (reach m.get (3+2)):=hi
  rw[x1mj,x1mj,x1nx,x1n0,x1nf]at hi'
  rcases hi' with h|h
  .exact .inl (s2.reachK Scene.stl 3 i h)
  .exact .inr (s3.reachK Pq.still 3 i h)
 have hni:∀j:Id,j.2.2≠55->j.2.2≠91->j∉ids:=λj h1 h2 h3=>by
  rcases hin j h3 with h|h
  .exact h1 h.1
  .exact h2 h.1
 obtain⟨m6,hm6⟩:∃m6:Mem,m6=⟨x12o ids m.hp,m.next⟩:=⟨_,rfl⟩
 have e6:∀j:Id,j.2.2≠55->j.2.2≠91->m6.get j=m.get j:=λj h1 h2=>by rw[hm6];exact x1bd (hni j h1 h2)
 have r6:∀j cs v b,m.get j=some (.row cs v b)->∃b',m6.get j=some (.row cs v b'):=λj cs v b h=>by rw[hm6];exact x1ee h
 rw[<-hm6]
 have t2:m6.get (0,0,2)=some (.row [nilS,nilS] 0 false):=by rw[e6 _ (by decide) (by decide)];exact h2
 have t6:m6.get (0,9,6)=some (.row [v,w] 0 false):=by rw[e6 _ (by decide) (by decide)];exact h6
 have stores:∀(a b:AV) (e:Int) (T:AV->Prop),a.one=true->b.one=true->(∀m',(∀j,j≠(0,0,2)->m'.get j=m6.get j)->RetF T (some (AV.tup [.agg [a,b],I 0,I e],m'))) ->
  RetF T (sSt 2 (.ptr (0,0,2) 0 0) (.agg [a,b]) m6 λm_1=>(sLdP true 2 (.ptr (0,0,2) 0 0) m_1).bind λr0=>some (AV.tup [r0,I 0,I e],m_1)):=by
  intro a b e T ha hb hk
  have ho:[a,b].all AV.one=true:=by simp[ha,hb]
  rw[x124 (z:=2) (x:=.agg [a,b]) t2 (by rw[x11z];rfl) (by simp) (by rw[x11z];exact ho)]
  obtain⟨a1,ha1⟩:∃a1:Mem,a1=m6.set (0,0,2) (.row (x11e [nilS,nilS] 0 (AV.agg [a,b]).cells) 0 false):=⟨_,rfl⟩
  rw[<-ha1]
  have l0:sLdP true 2 (.ptr (0,0,2) 0 0) a1=some (.agg [a,b]):=by
   show sLd true 2 (.ptr (0,0,2) 0 0) a1=_
   rw[x11g (cs:=[a,b]) (fz:=false) (by rw[ha1,Mem.get_set,x1m1 rfl,x11z];rfl)]
   simp[ha,hb]
  simp only[l0,x10r]
  exact hk a1 λj h1=>by rw[ha1,Mem.get_set,x1m0 h1]
 unfold finM
 by_cases hz:(net7 S P).2=0
 .rw[x1m1 hz]
  have ldn6:sLd true 2 (.ptr (0,9,6) 0 0) m6=some (.agg [v,w]):=by rw[x11g t6];simp[ho1.2,ho2.2]
  simp only[hz,x1m6,x1mh,x116,ldn6,x10r]
  refine stores v w 0 _ ho1.2 ho2.2 λm7 h7=>?_
  have f7:∀id cs v b,okC7 id\/okD7 id->m.get id=some (.row cs v b)->∃b',m7.get id=some (.row cs v b'):=λid cs v b ho hg=>by
   obtain⟨b',hb'⟩:=r6 id cs v b hg
   exact⟨b',by rw[h7 id (by rintro rfl;rcases ho with h|h<;>cases h.1)];exact hb'⟩
  obtain⟨a7,ha7,ha8⟩:=x19g (k:=2) (m':=m7) Scene.len Scene.stl s2 λid cs v b ho=>f7 id cs v b (.inl ho)
  obtain⟨b7,hb7,hb8⟩:=x19g (k:=2) (m':=m7) Pq.len Pq.still s3 λid cs v b ho=>f7 id cs v b (.inr ho)
  exact RetF.mk (frz_net ha8 hb8 rfl rfl) ⟨a7,b7,rfl,ha7,hb7⟩
 .rw[x1m0 hz]
  simp only[hz,x1m9,x1md,x112,x175,x10r]
  exact stores nilS nilS _ _ rfl rfl λm7 h7=>RetF.mk (a':=.tup [.agg [nilS,nilS],I 0,I (net7 S P).2]) rfl ⟨nilS,nilS,rfl,.inl ⟨rfl,rfl⟩,.inl ⟨rfl,rfl⟩⟩
theorem x1et(d:Nat){ps:List (List UInt8)}{xs:AV}(hxs:Sl strE xs ps)(hps:∀p∈ps,p.length<=100000)(hlen:ps.length<=90000):∀(suf:List (List UInt8)) (i j:Nat) (S:List Scene) (P:List Pq) (v w:AV) (m:Mem) (fc:Nat),
 ps.drop i=suf->suf.length<j->S.length+P.length<=i->1<=m.next->10<=fc->m.get (0,0,2)=some (.row [nilS,nilS] 0 false)->m.get (0,9,6)=some (.row [v,w] 0 false)->Gk 3 Scene.c okC7 m v S->Gk 2 Pq.c okD7 m w P ->
 RetF (PaR (goC S P i suf)) (x2x (x10p (d+4)) [] 0 j (.ptr (0,0,2) 0 0) xs (.ptr (0,9,6) 0 0) (I i) m fc)
 |[],i,j,S,P,v,w,m,fc,hi,hj,hn,hnx,hfc,h2,h6,hA,hB=>by
  obtain⟨j,rfl⟩:∃k,j=k+1:=⟨j-1,by omega⟩
  have hge:ps.length<=i:=x1na.1 hi
  have hlt:¬((i:Int)<(ps.length:Int)):=by omega
  simp only[x2x]
  unfold x6z
  simp only[hxs.len x153,x10r,x11t,hlt,x1m9,x116]
  exact fin7r d _ h2 h6 hA hB
 |p::r,i,j,S,P,v,w,m,fc,hi,hj,hn,hnx,hfc,h2,h6,hA,hB=>by
  obtain⟨j,rfl⟩:∃k,j=k+1:=⟨j-1,by omega⟩
  have hil:i<ps.length:=by
   rcases x1mv i ps.length with h|h
   .exact h
   .rw[x1nt h]at hi;cases hi
  have hrl:r.length+1=ps.length-i:=by rw[<-x1o5,hi];rfl
  have hlt:((i:Int)<(ps.length:Int)):=by omega
  have hpm:p∈ps:=x1ow (by rw[hi];exact x1mr)
  have hpl:=hps p hpm
  have hix:sIx 1 xs (I i)=some (.plit (Tx p::r.flatMap strE)):=by
   have:=hxs.ix x13p hil
   rw[hi,x1mj]at this
   exact this
  have w1:w64 ((ps.length:Int)-1)=((ps.length-1:Nat):Int):=by rw[x11k (by omega) (by omega)];omega
  have w2:w64 ((i:Int)+1)=((i+1:Nat):Int):=by rw[x11k (by omega) (by omega)];omega
  have ho1:=hA.one
  have ho2:=hB.one
  have ldn:sLd true 2 (.ptr (0,9,6) 0 0) m=some (.agg [v,w]):=by rw[x11g h6];simp[ho1.2,ho2.2]
  obtain⟨M,hM⟩:∃M:Mem,M=hideM 0 (fc+16) m:=⟨_,rfl⟩
  have hgM:∀j:Id,hidB 0 (fc+16) j=false->M.get j=m.get j:=λj hj=>by rw[hM,x1bv,hj];rfl
  have nC:∀j:Id,1<=j.1->hidB 0 (fc+16) j=false:=λj hj=>by
   cases e:hidB 0 (fc+16) j with
   |false=>rfl
   |true=>have:=(x15b.1 e).1;omega
  have nL:∀j:Id,j.2.1<fc+16->hidB 0 (fc+16) j=false:=λj hj=>by
   cases e:hidB 0 (fc+16) j with
   |false=>rfl
   |true=>have:=(x15b.1 e).2;omega
  have n2:=nL (0,0,2) (by show 0<fc+16;omega)
  have n6:=nL (0,9,6) (by show 9<fc+16;omega)
  have hMn:M.next=m.next:=by rw[hM];rfl
  obtain⟨m',x,y,k1,k2,k3,k4,k5,k6⟩:=c_line7r (d+2) (S:=S) (P:=P) (by omega) (by omega) hpl (m:=M) (by omega) (hA.frame λj hj=>hgM j (nC j hj.2)) (hB.frame λj hj=>hgM j (nC j hj.2))
  obtain⟨m2,hm2⟩:∃m2:Mem,m2=backM 0 (fc+16) m m':=⟨_,rfl⟩
  have hg2:∀j:Id,hidB 0 (fc+16) j=false->m2.get j=m'.get j:=λj hj=>by rw[hm2,x1bw,hj];rfl
  have hn2:m2.next=m'.next:=by rw[hm2];rfl
  have hcall:x179 (x10p (d+4)) 0 (fc+16) x15 [.agg [v,w],Tx p] m=some (.tup [.agg [x,y],B (x121 S P p).isSome],m2):=by
   unfold x179
   rw[<-hM]
   rw[show x10p (d+4) [] x15 [.agg [v,w],Tx p] M=_ from k1]
   rw[hm2];rfl
  have b2:m2.get (0,0,2)=some (.row [nilS,nilS] 0 false):=by
   rw[hg2 _ n2,k6 _ (by show 0<M.next;omega) (by rintro⟨h,_⟩;cases h) (by rintro⟨h,_⟩;cases h),hgM _ n2];exact h2
  have b6:m2.get (0,9,6)=some (.row [v,w] 0 false):=by
   rw[hg2 _ n6,k6 _ (by show 0<M.next;omega) (by rintro⟨h,_⟩;cases h) (by rintro⟨h,_⟩;cases h),hgM _ n6];exact h6
  obtain⟨m4,hm4⟩:∃m4:Mem,m4=(m2.new (0,fc+25,8) (.row [nilS,nilS] 0 false)).set (0,fc+25,8) (.row [x,y] 0 false):=⟨_,rfl⟩
  have hst:∀{R:Type} (K:Mem->Option R),sSt 2 (.ptr (0,fc+25,8) 0 0) (.agg [x,y]) (m2.new (0,fc+25,8) (.row [nilS,nilS] 0 false)) K=K m4:=λK=>by
   rw[x124 (z:=2) (x:=.agg [x,y]) (Mem.get_new_same _ _ _) (by rw[x11z];rfl) (by simp) (by rw[x11z];simp[k2,k3]),hm4,x11z];rfl
  have g4:∀j:Id,j.2.2≠8->m4.get j=m2.get j:=λj hj=>by
   rw[hm4,Mem.get_set,x1m0 (by rintro rfl;exact hj rfl),Mem.get_new,x1m0 (by rintro rfl;exact hj rfl)]
  have c2:m4.get (0,0,2)=some (.row [nilS,nilS] 0 false):=by rw[g4 _ (by decide)];exact b2
  have c6:m4.get (0,9,6)=some (.row [v,w] 0 false):=by rw[g4 _ (by decide)];exact b6
  have c8:m4.get (0,fc+25,8)=some (.row [x,y] 0 false):=by rw[hm4,Mem.get_set,x1m1 rfl]
  have hap:x10q (tR (.ptr (0,9,6) 0 0)) (some [],some [(0,fc+25,8)])=true:=by simp[tR,x10q,disj]
  have hap2:x10q (tR (.plit (Tx p::r.flatMap strE))) (some [],some [(0,fc+25,8)])=true:=rfl
  have bad:RetF (PaR (([],[]),((i+1:Nat):Int),7)) ((x11a xc []).bind λt53=>(sAdd (I i) (I 1)).bind λt55=>sSt 2 (.ptr (0,0,2) 0 0) t53 m4 λm_5=>(sLdP true 2 (.ptr (0,0,2) 0 0) m_5).bind λr0=>some (AV.tup [r0,t55,I 7],m_5)):=by
   simp only[x175,x10r,x12k,w2]
   rw[x124 (z:=2) (x:=.agg [nilS,nilS]) c2 rfl (by simp) rfl]
   obtain⟨a1,ha1⟩:∃a1:Mem,a1=m4.set (0,0,2) (.row (x11e [nilS,nilS] 0 (AV.agg [nilS,nilS]).cells) 0 false):=⟨_,rfl⟩
   rw[<-ha1]
   have l0:sLdP true 2 (.ptr (0,0,2) 0 0) a1=some (.agg [nilS,nilS]):=by
    show sLd true 2 (.ptr (0,0,2) 0 0) a1=_
    rw[x11g (cs:=[nilS,nilS]) (fz:=false) (by rw[ha1,Mem.get_set,x1m1 rfl];rfl)]
    rfl
   simp only[l0,x10r]
   exact RetF.mk (a':=.tup [.agg [nilS,nilS],I ((i+1:Nat):Int),I 7]) rfl ⟨nilS,nilS,rfl,.inl ⟨rfl,rfl⟩,.inl ⟨rfl,rfl⟩⟩
  simp only[x2x]
  unfold x6z
  rw[show(AV.sc (.string ⟨#[]⟩))=Tx []from rfl]
  simp only[hxs.len x153,x10r,x11t,hlt,x1m6,x112,x166,w1,x12y]
  by_cases hr:r=[]
  .have hlast:((i:Int)=((ps.length-1:Nat):Int)):=by
    have:r.length=0:=by rw[hr];rfl
    omega
   have d1:decide ((i:Int)=((ps.length-1:Nat):Int))=true:=x1n8 hlast
   by_cases hp:p=[]
   .have:goC S P i (p::r)=finM S P:=by unfold goC;rw[x1m1 ⟨hr,hp⟩]
    rw[this]
    simp only[d1,x11p,x11y,sW_t,x119,x10r,hix,x12c,rd_f,List.head?_cons,x_eq,hp,x1m6,x11b,x112]
    exact fin7r d _ h2 h6 hA hB
   .have:goC S P i (p::r)=(([],[]),((i+1:Nat):Int),7):=by
     unfold goC
     rw[x1m0 (λe=>hp e.2)]
     cases x121 S P p with
     |none=>rfl
     |some q=>simp only;rw[x1m1 hr]
    rw[this]
    simp only[d1,x11p,x11y,sW_t,x119,x10r,hix,x12c,rd_f,List.head?_cons,x_eq,hp,x1m9,x11b,x116,ldn,hcall,x144,x1nd,x1ne,x17y,hst,hap,hap2,x1oh,x13n]
    cases(x121 S P p).isSome
    .simp only[x1md,sW_f,x1mh,x11i,x10r,x11b,x119,x112]
     exact bad
    .simp only[x1mh,sW_f,sW_t,x1md,x119,x11i,x10r,hxs.len x153,x166,w1,x12y,d1,x11b,x112]
     exact bad
  .have hnl:¬((i:Int)=((ps.length-1:Nat):Int)):=by
    have:=x1nv.mpr hr
    omega
   have d1:decide ((i:Int)=((ps.length-1:Nat):Int))=false:=x1oe hnl
   simp only[d1,x11p,x11y,sW_t,sW_f,x1mh,x11i,x10r,hix,x12c,rd_f,List.head?_cons,x_eq,x11b,x116,ldn,hcall,x144,x1nd,x1ne,x17y,hst,hap,hap2,x1oh,x119,x13n]
   unfold goC
   rw[x1m0 (λe=>hr e.1)]
   cases hl:x121 S P p with
   |none=>
    simp only[x1ot,x1md,sW_f,x1mh,x11i,x10r,x11b,x119,x112]
    exact bad
   |some q=>
    obtain⟨qa,qb⟩:=k4 q hl
    have ld8:sLd true 2 (.ptr (0,fc+25,8) 0 0) m4=some (.agg [x,y]):=by rw[x11g c8];simp[k2,k3]
    simp only[Option.isSome_some,x1mh,sW_f,sW_t,x1md,x119,x11i,x10r,hxs.len x153,x166,w1,x12y,d1,x11b,x116,ld8,x12k,w2]
    rw[x1m0 hr]
    rw[x124 (z:=2) (x:=.agg [x,y]) c6 (by rw[x11z];rfl) (by simp) (by rw[x11z];simp[k2,k3])]
    obtain⟨m7,hm7⟩:∃m7:Mem,m7=m4.set (0,9,6) (.row (x11e [v,w] 0 (AV.agg [x,y]).cells) 0 false):=⟨_,rfl⟩
    rw[<-hm7]
    have hq:=x1bg hl
    refine x1et d hxs hps hlen r (i+1) j q.1 q.2 x y m7 (fc+42) (by rw[<-x1q8,hi];rfl) (by simp at hj;omega) (by omega) (by rw[hm7,hm4];show 1<=m2.next;omega) (by omega) ?_ ?_ ?_ ?_
    .rw[hm7,Mem.get_set,x1m0 (by decide)];exact c2
    .rw[hm7,Mem.get_set,x1m1 rfl,x11z];rfl
    .refine qa.frame λj hj=>?_
     rw[hm7,Mem.get_set,x1m0 (by rintro rfl;cases hj.1),g4 _ (by rw[hj.1];decide),hg2 _ (nC j hj.2)]
    .refine qb.frame λj hj=>?_
     rw[hm7,Mem.get_set,x1m0 (by rintro rfl;cases hj.1),g4 _ (by rw[hj.1];decide),hg2 _ (nC j hj.2)]
theorem a_rParse7(d:Nat){t:List UInt8}(ht:t.length<=60005):RetF (PaR (x12p t)) (x10p (d+5) [] x1i [Tx t] mem0):=by
 rw[xub]
 unfold x93 x70
 obtain⟨m1,hm1⟩:∃m1:Mem,m1=(⟨[],1⟩:Mem).new (0,0,2) (.row [nilS,nilS] 0 false):=⟨_,rfl⟩
 have g2:m1.get (0,0,2)=some (.row [nilS,nilS] 0 false):=by rw[hm1];simp
 have hn1:m1.next=1:=by rw[hm1];rfl
 dsimp only
 simp only[mem0,x17y,x1mn]
 rw[<-hm1]
 simp only[x120,x10r,x12x]
 unfold x12p
 by_cases c:60000<t.length
 .have c':(60000:Int)<(t.length:Int):=by omega
  rw[x1m1 c]
  simp only[c',x1m6,x112,x175,x10r]
  rw[x124 (z:=2) (x:=.agg [nilS,nilS]) g2 rfl (by simp) rfl]
  obtain⟨a1,ha1⟩:∃a1:Mem,a1=m1.set (0,0,2) (.row (x11e [nilS,nilS] 0 (AV.agg [nilS,nilS]).cells) 0 false):=⟨_,rfl⟩
  rw[<-ha1]
  have l0:sLdP true 2 (.ptr (0,0,2) 0 0) a1=some (.agg [nilS,nilS]):=by
   show sLd true 2 (.ptr (0,0,2) 0 0) a1=_
   rw[x11g (cs:=[nilS,nilS]) (fz:=false) (by rw[ha1,Mem.get_set,x1m1 rfl];rfl)]
   rfl
  simp only[l0,x10r]
  exact RetF.mk (a':=.tup [.agg [nilS,nilS],I 0,I 8]) rfl ⟨nilS,nilS,rfl,.inl ⟨rfl,rfl⟩,.inl ⟨rfl,rfl⟩⟩
 have c':¬(60000:Int)<(t.length:Int):=by omega
 rw[x1m0 c]
 simp only[c',x1m9,x116]
 obtain⟨xs,hxs,hcut⟩:=w_Cut (d:=d+3) 10 (l:=t) (by omega)
 have hcut':∀m,x10o (x10p (d+4)) xt [Tx t,AV.sc (.int .u8 10)] m=some (xs,m):=hcut
 simp only[hcut',x10r]
 obtain⟨m2,hm2⟩:∃m2:Mem,m2=m1.new (0,9,6) (.row [nilS,nilS] 0 false):=⟨_,rfl⟩
 rw[<-hm2]
 unfold xaq
 have hcl:=x173 10 t
 unfold x12d
 rw[x1es (cutM 10 t) [] [] 0 λp hp=>x1er hp]
 have:=x1et d hxs (λp hp=>by have:=x17x 10 t p hp;omega) (by omega) (cutM 10 t) 0 NN [] [] nilS nilS m2 (10+1) rfl (by rw[x12a];omega) (x1m8 _) (by rw[hm2];show 1<=m1.next;omega) (by omega) (by rw[hm2,Mem.get_new,x1m0 (by decide)];exact g2) (by rw[hm2,Mem.get_new,x1m1 rfl]) Gk.nil Gk.nil
 exact this
end Go.Ix
