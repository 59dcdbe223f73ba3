import Derived.Test.YtljibmnhhdiakaaWgF
set_option linter.unusedSimpArgs false
set_option linter.unusedVariables false
namespace Go.Ix
open Go.Proofs
def x1t3(r c:Int)(ph ac dn:List Int)(r' c':Int)(us:List Int):Int:=bif decide (x1rq r c ph ac dn=0)then(x1s9 r c ph r' c' us).2 else x1rq r c ph ac dn
theorem w_field(d:Nat){r c r' c':Int}{p a b u:AV}{ph ac dn us:List Int}(hp:Ints p ph)(ha:Ints a ac)(hb:Ints b dn)(hu:Ints u us)(hl:ph.length<=100000)(h1:ac.length<=100000)(h2:dn.length<=100000)(m:Mem) :
 ∃n ev t,Sl Edge.c ev (bif decide (x1rq r c ph ac dn=0)then x1rn r c ph ac dn else[])/\Ints t (bif decide (x1rq r c ph ac dn=0)then(x1s9 r c ph r' c' us).1 else[]) /\
  x1qq (x1qp (d+10)) x5l [.agg [I r,I c,p,a,b],.agg [I r',I c',u]] m=some (.tup [.agg [I n,ev],t,I (x1t3 r c ph ac dn r' c' us)],m):=by
 have hck:=fun m=>x20i d (r:=r) (c:=c) hp ha hb (by omega) (by omega) (by omega) m
 by_cases hr:x1rq r c ph ac dn=0
 .obtain⟨r0,r1,c0,c1,hlen,hph,-⟩:=x1v7 hr
  obtain⟨m3,hm3⟩:∃m3:Mem,m3=(((⟨[],1⟩:Mem).new (0,0,2) (.row [I r,I c,p,a,b] 0 false)).new (0,1,3) (.row [I r',I c',u] 0 false)).new (0,2,4) (.row [I 0,nilS] 0 false):=⟨_,rfl⟩
  obtain⟨t,ht,hT⟩:=w_turnsOf (d+6) (r:=r) (c:=c) (r':=r') (c':=c') hp ⟨ha.still1,ha.one⟩ ⟨hb.still1,hb.one⟩ hu (x1w0 hph) hl m3
  obtain⟨ev,hev,hn⟩:=x232 (d+5) hp ha hb hr m3
  refine⟨ph.length,ev,t,by simpa[hr]using hev,by simpa[hr]using ht,Ans.call0_tup ?_ (by simp[hp.still1,ha.still1,hb.still1,hu.still1]) (by simp[hev.still1,ht.still])⟩
  unfold Ans
  rw[xl2]
  unfold xa9 xcd
  have g2:m3.get (0,0,2)=some (.row [I r,I c,p,a,b] 0 false):=by rw[hm3];simp
  have g3:m3.get (0,1,3)=some (.row [I r',I c',u] 0 false):=by rw[hm3];simp
  have g4:m3.get (0,2,4)=some (.row [I 0,nilS] 0 false):=by rw[hm3];simp
  have hbn:x1qx [I 0,nilS] [(0,2,.agg [I (ph.length:Int),ev])]=some (.agg [I ph.length,ev]):=by simp[x1qx,x1rx]
  simp[mem0,hp.one,ha.one,hb.one,hu.one,x1y5]
  rw[<-hm3]
  simp[hck,hr,g2,g3]
  rw[hT]
  simp[g2,hn,hbn,g4,hev.one,sLdP,x1t3,hr]
 .refine⟨0,nilS,nilS,by simp[hr];exact Or.inl ⟨rfl,rfl⟩,by simp[hr];exact Or.inl ⟨rfl,rfl⟩,Ans.call0_tup ?_ (by simp[hp.still1,ha.still1,hb.still1,hu.still1]) rfl⟩
  unfold Ans
  rw[xl2]
  unfold xa9 xcd
  have hb0:x1qx [I 0,nilS] []=some (.agg [I 0,nilS]):=rfl
  simp[mem0,hp.one,ha.one,hb.one,hu.one,x1y5,hck,hr,hb0,sLdP,x1t3]
theorem x293(d:Nat){r c r' c':Int}{p a b u:AV}{ph ac dn us:List Int}(hp:Ints p ph)(ha:Ints a ac)(hb:Ints b dn)(hu:Ints u us)(hl:ph.length<=100000)(h1:ac.length<=100000)(h2:dn.length<=100000)(m:Mem) :
 x1qq (x1qp (d+11)) x59 [.agg [I r,I c,p,a,b],.agg [I r',I c',u]] m=some (.tup [I (bif decide (x1t3 r c ph ac dn r' c' us=0)then x1tg (x1s9 r c ph r' c' us).1 0 (x1rn r c ph ac dn)else 0),I (x1t3 r c ph ac dn r' c' us)],m):=by
 obtain⟨m2,hm2⟩:∃m2:Mem,m2=((⟨[],1⟩:Mem).new (0,0,2) (.row [I r,I c,p,a,b] 0 false)).new (0,1,3) (.row [I r',I c',u] 0 false):=⟨_,rfl⟩
 obtain⟨n,ev,t,hev,ht,hF⟩:=w_field d (r:=r) (c:=c) (r':=r') (c':=c') hp ha hb hu hl h1 h2 m2
 have g2:m2.get (0,0,2)=some (.row [I r,I c,p,a,b] 0 false):=by rw[hm2];simp
 have g3:m2.get (0,1,3)=some (.row [I r',I c',u] 0 false):=by rw[hm2];simp
 refine Ans.call0_tup ?_ (by simp[hp.still1,ha.still1,hb.still1,hu.still1]) rfl
 unfold Ans
 rw[xz5]
 unfold xe6 xfz
 have hev1:=hev.one
 simp[mem0,hp.one,ha.one,hb.one,hu.one]
 rw[<-hm2]
 rw[hF]
 simp only[x1qt,x220,List.getElem?_cons_zero,List.getElem?_cons_succ]
 simp[x1y5]
 rw[hev1]
 simp
 by_cases e:x1t3 r c ph ac dn r' c' us=0
 rotate_left
 .simp[e]
 have hr:x1rq r c ph ac dn=0:=by
  unfold x1t3 at e
  by_cases h:x1rq r c ph ac dn=0
  .exact h
  .simp[h]at e
 have hfm:(x1s9 r c ph r' c' us).2=0:=by simpa[x1t3,hr]using e
 obtain⟨-,-,-,-,-,hph,-⟩:=x1v7 hr
 obtain⟨hT,hTl⟩:=x26i (x1w0 hph) hfm
 simp[hr]at hev ht
 have hR:=x1zh hr
 have hcost:=fun m=>w_cost (d+8) (n:=n) hev hR.len ht (x24y hR (by rw[hTl])) hT m
 simp[e,hcost]
abbrev Pr:=Int×Int
def Pr.c(x:Pr):List AV:=[I x.1,I x.2]
theorem Pr.len(x:Pr):(Pr.c x).length=2:=rfl
theorem Pr.still(x:Pr):(Pr.c x).all Go.Ix.still1=true:=rfl
abbrev Prs(a:AV)(l:List Pr):Prop:=Sl Pr.c a l
theorem x1w3:Try.prog.underlying x2z=some (.slice x34):=by kernel_rfl
theorem mkLit_2{id:Id}{a b:Int}{m:Mem}{R:Type}(k:AV->Mem->Option R):x1r2 [I 0,I 0] [(0,2,.agg [I a,I b])] 1 2 id m k=k (.slit [I a,I b] 1 true) m:=by
 simp[x1r2,x1rx,x1rd,List.range_succ,x1rc]
def x1rv(q:Edge->Bool)(l:List Edge):List Pr:=(l.filter q).map fun e=>(e.fr,e.to)
theorem x20s(q:Edge->Bool)(l:List Edge)(e:Edge):x1rv q (l++[e])=if q e=true then x1rv q l++[(e.fr,e.to)]else x1rv q l:=by
 unfold x1rv
 rw[List.filter_append]
 cases h:q e<;>simp[h]
def x20t(call:x1qo)(f:AV)(u:Nat)(P:Mem->Prop)(q:Edge->Bool)(l:List Edge):Prop:=∀(hs:FHs) (e:Edge) (m:Mem),e∈l->u<m.next->P m->∃m',x1sj call hs 2 f [.agg e.c] m=some (B (q e),m')/\m.next<=m'.next/\(∀id:Id,id.1<m.next->m'.get id=m.get id)
theorem l_pairs(d:Nat)(hs:FHs)(u:Nat){ev f:AV}{l:List Edge}{q:Edge->Bool}{P:Mem->Prop}(h:Sl Edge.c ev l)(hl:l.length<=100000)(hf:x20t (x1qp d) f u P q l)(hP:∀m m':Mem,P m->(∀id:Id,id.1<u->m'.get id=m.get id)->P m') :
 ∀(suf:List Edge) (k j:Nat) (o:AV) (m:Mem) (fc:Nat),l.drop k=suf->suf.length<j->u<m.next->P m->Gk 2 Pr.c (fun id=>id.1=u/\id.2.2=26) m o (x1rv q (l.take k)) ->
 ∃a m',x24 (x1qp d) hs u j f o ev (I l.length) (I k) m fc=some (a,m')/\Gk 2 Pr.c (fun id=>id.1=u/\id.2.2=26) m' a (x1rv q l):=by
 intro suf
 induction suf with
 |nil=>
  intro k j o m fc hd hj hu hPm hG
  obtain⟨j,rfl⟩:∃i,j=i+1:=⟨j-1,by simp at hj;omega⟩
  have hk0:=List.drop_eq_nil_iff.mp hd
  have hk:¬((k:Int)<(l.length:Int)):=by omega
  rw[List.take_of_length_le hk0]at hG
  refine⟨o,m,?_,hG⟩
  simp only[x24]
  unfold xcf
  simp[hk,x23]
 |cons e r ih=>
  intro k j o m fc hd hj hu hPm hG
  obtain⟨j,rfl⟩:∃i,j=i+1:=⟨j-1,by simp at hj;omega⟩
  obtain⟨hk,hke,hd⟩:=x1sm hd
  have hk':(k:Int)<(l.length:Int):=by omega
  have ix:=h.ix Edge.len hk
  have ld:=x1vt (m:=m) Edge.len (by omega) hk
  rw[hke]at ld
  obtain⟨M,hM⟩:∃M,M=(m.new (u,fc+1+2,7) (.row [I 0,I 0,I 0,I 0] 0 false)).set (u,fc+1+2,7) (.row e.c 0 false):=⟨_,rfl⟩
  have hMg:∀i:Id,i≠(u,fc+1+2,7)->M.get i=m.get i:=fun i hi=>by rw[hM,Mem.get_set,if_neg hi,Mem.get_new,if_neg hi]
  have g7:M.get (u,fc+1+2,7)=some (.row e.c 0 false):=by rw[hM];simp
  have hMn:M.next=m.next:=by rw[hM];rfl
  have hPM:P M:=hP m M hPm fun id hid=>hMg id (by rintro rfl;simp at hid)
  obtain⟨m2,h2,hn2,hg2⟩:=hf hs e M (hke▸List.getElem_mem hk) (by omega) hPM
  have g72:m2.get (u,fc+1+2,7)=some (.row [I e.fr,I e.to,I e.jump,I e.wt] 0 false):=by rw[hg2 _ (by simp only;omega)];exact g7
  have hPM2:P m2:=hP M m2 hPM fun id hid=>hg2 id (by omega)
  have hG2:Gk 2 Pr.c (fun id=>id.1=u/\id.2.2=26) m2 o (x1rv q (l.take k)):=hG.frame fun id hid=>by
   rw[hg2 id (by omega),hMg id (by rintro rfl;simp at hid)]
  have htk:l.take (k+1)=l.take k++[e]:=by rw[List.take_succ_eq_append_getElem hk,hke]
  have start:∀K,(x1qr (B (q e))
   ((sFA 0 (.ptr (u,fc+1+2,7) 0 0)).bind fun t20=>(sLd false 1 t20 m2).bind fun t21=>(sFA 1 (.ptr (u,fc+1+2,7) 0 0)).bind fun t22=>(sLd false 1 t22 m2).bind fun t23=>
     (x1qx x11 [(0,1,t21),(1,1,t23)]).bind fun t24=>x1r2 x11 [(0,2,t24)] 1 2 (u,fc+1+13,25) m2 fun t25 m_3=>sApp 2 16 (u,fc+1+14,26) (elems m_3.get 2 t25) o m_3 fun t26 m_4=>
      x4s (x1qp d) hs u (x24 (x1qp d) hs u j) f t26 ev (I l.length) (I k) m_4 (fc+1+16))
   (x4s (x1qp d) hs u (x24 (x1qp d) hs u j) f o ev (I l.length) (I k) m2 (fc+1+7)))=K ->
   x24 (x1qp d) hs u (j+1) f o ev (I l.length) (I k) m fc=K:=by
   intro K hK
   rw[<-hK]
   simp only[x24]
   unfold xcf xce
   simp only[x1s6,x1qt,hk',decide_true,x1ru,ix,ld,x1ub,x1t7,x1rl,Mem.get_new,if_true]
   rw[show e.c=[I e.fr,I e.to,I e.jump,I e.wt]from rfl,x203]
   simp only[List.all_cons,List.all_nil,one_I,Bool.and_self,x1qw,x1qt]
   rw[show[I e.fr,I e.to,I e.jump,I e.wt]=e.c from rfl,<-hM]
   simp only[x1qy,g7,x1r0,Nat.beq_refl,x1qw,List.drop_zero]
   rw[show rd true 4 e.c=some (.agg e.c)from rfl]
   simp only[x1qt,h2]
  cases hq:q e
  .obtain⟨a,m',h5,h6⟩:=ih (k+1) j o m2 (fc+1+7+2) hd (by simp at hj;omega) (by omega) hPM2 (by rw[htk,x20s,hq];exact hG2)
   refine⟨a,m',start _ ?_,h6⟩
   rw[hq]
   unfold x4s
   simp(disch:=omega)
   exact h5
  .obtain⟨a',m3,A,hG3,u1,u2,n3,f3⟩:=hG2.app Pr.len (by omega) (bytes:=16) (id0:=(u,fc+1+14,26)) ⟨rfl,rfl⟩ (by unfold x1r4 x1rv;have:=List.length_filter_le q (l.take k);simp at this ⊢;omega) (e.fr,e.to)
   obtain⟨a,m',h5,h6⟩:=ih (k+1) j a' m3 (fc+1+16+2) hd (by simp at hj;omega) (by omega) (hP m2 m3 hPM2 fun id hid=>f3 id (by omega)) (by rw[htk,x20s,hq];exact hG3)
   refine⟨a,m',start _ ?_,h6⟩
   have hel:∀M:Mem,elems M.get 2 (.slit [I e.fr,I e.to] 1 true)=some (Pr.c (e.fr,e.to),1):=fun _=>rfl
   rw[hq]
   simp(disch:=omega) [g72,x20n,mkLit_2,x1qx,x1rx,hel,A,x4s]
   exact h5
theorem w_pairs(d:Nat)(hs:FHs){n:Int}{ev f:AV}{l:List Edge}{q:Edge->Bool}{P:Mem->Prop}(h:Sl Edge.c ev l)(hl:l.length<=100000)(m:Mem)(hf:x20t (x1qp d) f m.next P q l)(hP:∀m1 m2:Mem,P m1->(∀id:Id,id.1<m.next->m2.get id=m1.get id)->P m2)(h0:P m) :
 ∃a m',x1qp (d+1) hs x3z [.agg [I n,ev],f] m=some (a,m')/\Gk 2 Pr.c (fun id=>id.1=m.next/\id.2.2=26) m' a (x1rv q l):=by
 obtain⟨M,hM⟩:∃M,M=(⟨m.hp,m.next+1⟩:Mem).new (m.next,0,2) (.row [I n,ev] 0 false):=⟨_,rfl⟩
 have hMg:∀i:Id,i.1<m.next->M.get i=m.get i:=fun i hi=>by
  rw[hM,Mem.get_new,if_neg (by rintro rfl;simp at hi)];rfl
 obtain⟨a,m',h1,h2⟩:=l_pairs d hs m.next h hl hf hP l 0 NN nilS M 8 rfl (by rw[x1r6];omega) (by rw[hM];simp) (hP m M h0 hMg) (by rw[List.take_zero];exact Gk.nil)
 refine⟨a,m',?_,h2⟩
 rw[xzt]
 unfold xem xgw xcg
 have h1':=h.one
 simp only[x1vu,x201,List.all_cons,List.all_nil,one_I,h1',Bool.and_self,x1qw]
 rw[<-hM]
 have g:M.get (m.next,0,2)=some (.row [I n,ev] 0 false):=by rw[hM];simp
 simp[g,h.len x1v5]
 exact h1
theorem x294(d:Nat){t:AV}{l:List Edge}{ts:List Int}{id:Id}{u:Nat}(hiu:id.1<=u)(ht:Ints t ts)(hT:TurnsIn ts)(he:∀e∈l,EdgeIn ts.length e) :
 x20t (x1qp (d+2)) (.clo x40 [.ptr id 0 0]) u (fun m=>m.get id=some (.row [t] 0 false)) (fun e=>!decide (exI ts e=0)) l:=by
 intro hs e m hel hu hg
 obtain⟨M,hM⟩:∃M,M=(⟨m.hp,m.next+1⟩:Mem).new (m.next,0,2) (.row e.c 0 false):=⟨_,rfl⟩
 refine⟨M,?_,by rw[hM];simp,fun i hi=>by rw[hM,Mem.get_new,if_neg (by rintro rfl;simp at hi)];rfl⟩
 show x1qp (d+2) hs x40 [.agg e.c,.ptr id 0 0] m=_
 rw[xzu]
 unfold xen xgx
 have hx:=x24w d ht (he e hel) hT
 have hid:id≠(m.next,0,2):=by rintro rfl;simp at hiu;omega
 have g1:M.get id=some (.row [t] 0 false):=by rw[hM,Mem.get_new,if_neg hid];exact hg
 have g2:M.get (m.next,0,2)=some (.row e.c 0 false):=by rw[hM];simp
 have hal:e.c.all AV.one=true:=rfl
 simp only[x1vu,x201,hal,x1qw]
 rw[<-hM]
 simp only[x1qy,g1,g2,x1r0,Nat.beq_refl,x1qw,List.drop_zero]
 rw[show rd true 4 e.c=some (.agg e.c)from rfl]
 simp only[x1qt,rd_f,hx,sNe_I]
theorem w_Cuts(d:Nat){r c r' c':Int}{p a b u:AV}{ph ac dn us:List Int}(hp:Ints p ph)(ha:Ints a ac)(hb:Ints b dn)(hu:Ints u us)(hl:ph.length<=100000)(h1:ac.length<=100000)(h2:dn.length<=100000)(m:Mem) :
 ∃x,Prs x (bif decide (x1t3 r c ph ac dn r' c' us=0)then x1rv (fun e=>!decide (exI (x1s9 r c ph r' c' us).1 e=0)) (x1rn r c ph ac dn)else[]) /\
  x1qq (x1qp (d+11)) x2x [.agg [I r,I c,p,a,b],.agg [I r',I c',u]] m=some (.tup [x,I (x1t3 r c ph ac dn r' c' us)],m):=by
 obtain⟨m2,hm2⟩:∃m2:Mem,m2=((⟨[],1⟩:Mem).new (0,0,2) (.row [I r,I c,p,a,b] 0 false)).new (0,1,3) (.row [I r',I c',u] 0 false):=⟨_,rfl⟩
 obtain⟨n,ev,t,hev,ht,hF⟩:=w_field d (r:=r) (c:=c) (r':=r') (c':=c') hp ha hb hu hl h1 h2 m2
 have g2:m2.get (0,0,2)=some (.row [I r,I c,p,a,b] 0 false):=by rw[hm2];simp
 have g3:m2.get (0,1,3)=some (.row [I r',I c',u] 0 false):=by rw[hm2];simp
 obtain⟨m6,hm6⟩:∃m6:Mem,m6=(((m2.new (0,11,6) (.row [I 0,nilS] 0 false)).new (0,12,7) (.row [nilS] 0 false)).set (0,11,6) (.row [I n,ev] 0 false)).set (0,12,7) (.row [t] 0 false):=⟨_,rfl⟩
 have g6:m6.get (0,11,6)=some (.row [I n,ev] 0 false):=by rw[hm6];simp
 have g7:m6.get (0,12,7)=some (.row [t] 0 false):=by rw[hm6];simp
 have hev1:=hev.one
 have ht1:=ht.one
 have htc:=ht.cells
 have start:∀K:Option (AV×Mem),(x1qr (B (!decide (x1t3 r c ph ac dn r' c' us=0))) (some (.tup [nilS,I (x1t3 r c ph ac dn r' c' us)],m6))
  ((sLd true 2 (.ptr (0,11,6) 0 0) m6).bind fun t19=>(x1qp (d+10) [] x3z [t19,(AV.clo x40 [.ptr (0,12,7) 0 0])] m6).bind fun p21=>some (AV.tup [p21.1,(I 0)],p21.2)))=K ->
  x1qp (d+11) [] x2x [.agg [I r,I c,p,a,b],.agg [I r',I c',u]] mem0=K:=by
  intro K hK
  rw[<-hK,xz6]
  unfold xe7 xg0
  simp[mem0,hp.one,ha.one,hb.one,hu.one]
  rw[<-hm2]
  rw[hF]
  simp only[x1qt,x220,List.getElem?_cons_zero,List.getElem?_cons_succ]
  simp[x1y5,x1vx]
  rw[hev1,htc]
  simp[ht1]
  rw[<-hm6]
  simp[g6]
 by_cases e:x1t3 r c ph ac dn r' c' us=0
 rotate_left
 .refine⟨nilS,by simp[e];exact Or.inl ⟨rfl,rfl⟩,Ans.call0_tup ⟨m6,start _ ?_⟩ (by simp[hp.still1,ha.still1,hb.still1,hu.still1]) rfl⟩
  simp[e]
 have hr:x1rq r c ph ac dn=0:=by
  unfold x1t3 at e
  by_cases h:x1rq r c ph ac dn=0
  .exact h
  .simp[h]at e
 have hfm:(x1s9 r c ph r' c' us).2=0:=by simpa[x1t3,hr]using e
 obtain⟨-,-,-,-,-,hph,-⟩:=x1v7 hr
 obtain⟨hT,hTl⟩:=x26i (x1w0 hph) hfm
 simp[hr]at hev ht
 have hR:=x1zh hr
 obtain⟨x,m',h3,h4⟩:=w_pairs (d+9) [] (n:=n) hev (by have:=hR.len;omega) m6 (x294 (d+7) (id:=(0,12,7)) (Nat.zero_le _) ht hT (x24y hR (by rw[hTl])))
  (fun m1 m2 hg hm=>by rw[hm _ (by rw[hm6,hm2];simp)];exact hg) g7
 obtain⟨x',hx',hfz⟩:=h4.frz (k:=3) Pr.len Pr.still
 refine⟨x',by simpa[e]using hx',x1t6 (by simp[hp.still1,ha.still1,hb.still1,hu.still1]) (start _ ?_) (r:=.tup [x,I 0]) (m':=m') ?_⟩
 .simp[e,g6,h3]
 .rw[e]
  show([x,I 0].mapM (frz m'.get 5)).map AV.tup=_
  simp only[List.mapM_cons,List.mapM_nil,hfz]
  rfl
theorem part2(w0 w1:Int):∀o∈[0,1],x1r3 Try.prog (part x1sq #[.int .i64 w0,.int .i64 w1] o)=some (.int .i64 ([w0,w1].getD o 0)):=by
 intro o ho
 simp only[List.mem_cons,List.not_mem_nil,or_false]at ho
 rcases ho with rfl|rfl<;>kernel_rfl
theorem eq_pair(x y:Operand)(a b:Pr):sBin Try.prog .neq x34 x y (.agg (Pr.c a)) (.agg (Pr.c b))=some (B (!decide (a=b))):=by
 obtain⟨a1,a2⟩:=a
 obtain⟨b1,b2⟩:=b
 refine x28y (xs:=[.int .i64 a1,.int .i64 a2]) (ys:=[.int .i64 b1,.int .i64 b2]) (by kernel_rfl) ?_ ⟨Pr.c (a1,a2),rfl⟩ _ _ rfl rfl
 have hu:Try.prog.underlying x34=some (.array 2 x1sq):=by kernel_rfl
 have hz:x1r3 Try.prog (sizeOf x1sq)=some 1:=by kernel_rfl
 have pa:=part2 a1 a2
 have pb:=part2 b1 b2
 have pa0:=pa 0 (by simp)
 have pa1:=pa 1 (by simp)
 have pb0:=pb 0 (by simp)
 have pb1:=pb 1 (by simp)
 simp only[List.getD_cons_zero,List.getD_cons_succ]at pa0 pa1 pb0 pb1
 rw[show(10000:Nat)=9998+1+1 from rfl,Op.equalIn]
 simp only[x1v8,x26k hu,x1qt,hz]
 simp only[Std.Legacy.Range.forIn_eq_forIn_range',Std.Legacy.Range.size,Nat.sub_zero,Nat.add_sub_cancel,Nat.div_one,List.range'_succ,List.range'_zero,List.forIn_cons,List.forIn_nil,x1v8,Nat.zero_mul,Nat.zero_add,Nat.one_mul,Nat.mul_one]
 simp only[pa0,pa1,pb0,pb1,x1qt,x235 _ _ _ _ _ _ x236]
 have e:decide ((a1,a2)=(b1,b2))=(decide (a1=b1)&&decide (a2=b2)):=by
  rw[<-Bool.decide_and,decide_eq_decide,Prod.mk.injEq]
 rw[e]
 by_cases h0:a1=b1
 .subst h0
  by_cases h1:a2=b2
  .subst h1;simp[x1ye,x1v8,pa1,x235 _ _ _ _ _ _ x236]
  .simp[x1ye,x1v8,pa1,pb1,h1,x235 _ _ _ _ _ _ x236]
 .simp[x1ye,x1v8,h0]
theorem l_same(d:Nat)(hs:FHs){a b:AV}{l k:List Pr}(ha:Prs a l)(hb:Prs b k)(he:l.length=k.length)(hl:l.length<=1000000):∀(suf suk:List Pr) (i j:Nat) (m:Mem) (fc:Nat),l.drop i=suf->k.drop i=suk->suf.length<j ->
 ∃m',x4f (x1qp d) hs 0 j a b (I i) m fc=some (B (decide (suf=suk)),m'):=by
 intro suf
 induction suf with
 |nil=>
  intro suk i j m fc hd hk hj
  obtain⟨j,rfl⟩:∃i,j=i+1:=⟨j-1,by simp at hj;omega⟩
  have hd0:=List.drop_eq_nil_iff.mp hd
  have hsk:suk=[]:=by rw[<-hk];exact List.drop_eq_nil_iff.mpr (by omega)
  have hi:¬((i:Int)<(l.length:Int)):=by omega
  simp only[x4f]
  unfold xb7
  simp[ha.len x1w3,hi,x4e,hsk]
 |cons x r ih=>
  intro suk i j m fc hd hk hj
  obtain⟨j,rfl⟩:∃i,j=i+1:=⟨j-1,by simp at hj;omega⟩
  obtain⟨hi,hie,hd⟩:=x1sm hd
  have hi2:i<k.length:=by omega
  have hk2:suk=k[i]::k.drop (i+1):=by rw[<-hk,x1t5 hi2]
  have hi':(i:Int)<(l.length:Int):=by omega
  have ix:=ha.ix Pr.len hi
  have ix2:=hb.ix Pr.len hi2
  have ld:=x1vt (m:=m) Pr.len (by omega) hi
  have ld2:=x1vt (m:=m) Pr.len (by omega) hi2
  rw[hie]at ld
  simp only[x4f]
  unfold xb7
  have hq:=fun X Y=>eq_pair X Y x k[i]
  by_cases c:x=k[i]
  .obtain⟨m',h'⟩:=ih _ (i+1) j m (fc+16) hd rfl (by simp at hj;omega)
   have e:decide (x::r=suk)=decide (r=k.drop (i+1)):=by rw[hk2,<-c,decide_eq_decide,List.cons_inj_right]
   rw[e]
   rw[decide_eq_true c]at hq
   simp(disch:=omega) [ha.len x1w3,hi',ix,ix2,ld,ld2,hq]
   exact⟨m',h'⟩
  .have e:decide (x::r=suk)=false:=by rw[hk2];exact decide_eq_false fun h=>c (List.cons.inj h).1
   rw[e]
   have hq':∀X Y,sBin Try.prog .neq x34 X Y (.agg (Pr.c x)) (.agg (Pr.c k[i]))=some (B true):=fun X Y=>by rw[hq,decide_eq_false c];rfl
   simp(disch:=omega)only[ha.len x1w3,hi',ix,ix2,ld,ld2,hq',x1qt,x1s6,decide_true,x1ru]
   exact⟨m,rfl⟩
theorem w_same(d:Nat){a b:AV}{l k:List Pr}(ha:Prs a l)(hb:Prs b k)(hl:l.length<=1000000)(m:Mem):x1qq (x1qp (d+1)) x3s [a,b] m=some (B (decide (l=k)),m):=by
 refine Ans.call0 ?_ (by simp[ha.still,hb.still]) rfl
 unfold Ans
 rw[xz7]
 unfold xe8 xg4 xb8
 by_cases he:l.length=k.length
 .obtain⟨m',h'⟩:=l_same d [] ha hb he hl l k 0 NN ⟨[],1⟩ 7 rfl rfl (by rw[x1r6];omega)
  simp[mem0,ha.len x1w3,hb.len x1w3,he]
  exact⟨m',h'⟩
 .have:¬(l=k):=fun e=>he (by rw[e])
  have he2:¬((l.length:Int)=(k.length:Int)):=by omega
  simp[mem0,ha.len x1w3,hb.len x1w3,he2,this]
end Go.Ix
