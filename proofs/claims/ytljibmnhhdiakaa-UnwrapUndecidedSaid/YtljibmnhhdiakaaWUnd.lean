import Derived.Test.YtljibmnhhdiakaaWLawBetween
import Derived.Test.YtljibmnhhdiakaaWgH
import Derived.Test.YtljibmnhhdiakaaWgE
set_option linter.unusedSimpArgs false
set_option linter.unusedVariables false
namespace Go.Ix
open Go.Proofs
def twoC(q:List Int)(e:Edge):Bool:=!decide (at0 q e.fr.toNat=at0 q e.to.toNat)
theorem tells_Und(d:Nat){t:AV}{l:List Edge}{q:List Int}{id:Id}{u:Nat}(hiu:id.1<=u)(ht:Ints t q)(he:∀e∈l,EdgeIn q.length e) :
 x20t (x1qp (d+1)) (.clo x5n [.ptr id 0 0]) u (fun m=>m.get id=some (.row [t] 0 false)) (twoC q) l:=by
 intro hs e m hel hu hg
 obtain⟨M,hM⟩:∃M,M=(⟨m.hp,m.next+1⟩:Mem).new (m.next,0,2) (.row e.c 0 false):=⟨_,rfl⟩
 refine⟨M,?_,by rw[hM];simp,fun i hi=>by rw[hM,Mem.get_new,if_neg (by rintro rfl;simp at hi)];rfl⟩
 show x1qp (d+1) hs x5n [.agg e.c,.ptr id 0 0] m=_
 rw[xzx]
 unfold xep xh0
 obtain⟨f0,f1,t0,t1,-⟩:=he e hel
 have hid:id≠(m.next,0,2):=by rintro rfl;simp at hiu;omega
 have g1:M.get id=some (.row [t] 0 false):=by rw[hM,Mem.get_new,if_neg hid];exact hg
 have g2:M.get (m.next,0,2)=some (.row [I e.fr,I e.to,I e.jump,I e.wt] 0 false):=by rw[hM];simp[Edge.c]
 have i1:=ht.ixI x1rk f0 f1
 have i2:=ht.ixI x1rk t0 t1
 have l1:e.fr.toNat<q.length:=by omega
 have l2:e.to.toNat<q.length:=by omega
 have hal:e.c.all AV.one=true:=rfl
 simp only[x1vu,x201,hal,x1qw]
 rw[<-hM]
 simp only[x1qy,x1rh,Nat.zero_add,g1,g2,x1r0,Nat.beq_refl,x1qw,List.drop_zero,List.drop_succ_cons,x1qt,rd_f,i1,i2,x1rg l1,x1rg l2,sNe_I]
 rfl
theorem x295(d:Nat){r c:Int}{p a b:AV}{ph ac dn:List Int}(hp:Ints p ph)(ha:Ints a ac)(hb:Ints b dn)(hl:ph.length<=300000)(h1:ac.length<=300000)(h2:dn.length<=300000)(hc:x1rq r c ph ac dn≠0)(m:Mem) :
 x1qq (x1qp (d+10)) x3t [.agg [I r,I c,p,a,b]] m=some (.tup [nilS,I (x1rq r c ph ac dn)],m):=by
 refine Ans.call0_tup ?_ (by simp[hp.still1,ha.still1,hb.still1]) rfl
 unfold Ans
 rw[xl0]
 unfold xa1 xba
 simp[mem0,hp.one,ha.one,hb.one,x20i d hp ha hb hl h1 h2,hc]
theorem x296(d:Nat){r c:Int}{p a b:AV}{ph ac dn:List Int}(hp:Ints p ph)(ha:Ints a ac)(hb:Ints b dn)(hl:ph.length<=300000)(h1:ac.length<=300000)(h2:dn.length<=300000)(hc:x1rq r c ph ac dn=0)(hsm:x1tt r c ph ac dn=true)(m:Mem) :
 ∃fl tu ex x,Solved 1 ph.length (x1rn r c ph ac dn) fl tu ex/\Prs x (x1rv (twoC (numM ph.length (nbP ph.length (mP ph.length (x1rn r c ph ac dn) fl (x1ra ph.length (x1r9 ph.length (x1rn r c ph ac dn)) tu)))).1) (x1rn r c ph ac dn)) /\
  x1qq (x1qp (d+10)) x3t [.agg [I r,I c,p,a,b]] m=some (.tup [x,I 0],m):=by
 have hS:=x237 hc hsm
 have hR:=x1zh hc
 obtain⟨l,hle⟩:∃l,l=x1rn r c ph ac dn:=⟨_,rfl⟩
 obtain⟨n,hn⟩:∃n,n=ph.length:=⟨_,rfl⟩
 obtain⟨m1,hm1⟩:∃m1:Mem,m1=(⟨[],1⟩:Mem).new (0,0,1) (.row [I r,I c,p,a,b] 0 false):=⟨_,rfl⟩
 have g1:m1.get (0,0,1)=some (.row [I r,I c,p,a,b] 0 false):=by rw[hm1];simp
 have hck:=x20i d (r:=r) (c:=c) hp ha hb hl h1 h2 m1
 obtain⟨ev,hev,hnet⟩:=x232 (d+5) hp ha hb hc m1
 rw[<-hle]at hev hS hR ⊢
 rw[<-hn]at hnet hS hR ⊢
 obtain⟨m2,hm2⟩:∃m2:Mem,m2=(m1.new (0,11,5) (.row [I 0,nilS] 0 false)).set (0,11,5) (.row [I n,ev] 0 false):=⟨_,rfl⟩
 have g25:m2.get (0,11,5)=some (.row [I n,ev] 0 false):=by rw[hm2];simp
 obtain⟨fl,tu,ex,hSo,-,hcl,hql⟩:=w_classes (d+1) hev hS m2
 obtain⟨q,hq⟩:∃q,q=(numM n (nbP n (mP n l fl (x1ra n (x1r9 n l) tu)))).1:=⟨_,rfl⟩
 have hql:(numM n (nbP n (mP n l fl (x1ra n (x1r9 n l) tu)))).1.length=n:=hql
 have hcl:x1qq (x1qp (d+9)) x3x [.agg [I n,ev]] m2=some (.slit ((numM n (nbP n (mP n l fl (x1ra n (x1r9 n l) tu)))).1.flatMap intE) n false,m2):=hcl
 rw[<-hq]at hql hcl
 have hqa:Ints (.slit (q.flatMap intE) n false) q:=by have:=Sl.lit q false (enc:=intE);rwa[hql]at this
 obtain⟨t,ht⟩:∃t,t=AV.slit (q.flatMap intE) n false:=⟨_,rfl⟩
 rw[<-ht]at hcl hqa
 obtain⟨m3,hm3⟩:∃m3:Mem,m3=(m2.new (0,15,6) (.row [nilS] 0 false)).set (0,15,6) (.row [t] 0 false):=⟨_,rfl⟩
 have g35:m3.get (0,11,5)=some (.row [I n,ev] 0 false):=by rw[hm3,Mem.get_set,if_neg (by simp),Mem.get_new,if_neg (by simp)];exact g25
 have g36:m3.get (0,15,6)=some (.row [t] 0 false):=by rw[hm3];simp
 have hn3:m3.next=1:=by rw[hm3,hm2,hm1];rfl
 obtain⟨x,m',h3,h4⟩:=w_pairs (d+8) [] (n:=(n:Int)) hev (by have:=hR.len;omega) m3 (tells_Und (d+7) (id:=(0,15,6)) (Nat.zero_le _) hqa (fun e he=>by rw[hql];exact(hS.ed e he).1))
  (fun m1 m2 hg hm=>by rw[hm _ (by rw[hn3];decide)];exact hg) g36
 obtain⟨x',hx',hfz⟩:=h4.frz (k:=3) Pr.len Pr.still
 refine⟨fl,tu,ex,x',hSo,by rw[<-hq];exact hx',x1t6 (by simp[hp.still1,ha.still1,hb.still1]) (r:=.tup [x,I 0]) (m':=m') ?_ ?_⟩
 .rw[xl0]
  unfold xa1 xba
  have hbn:x1qx [I 0,nilS] [(0,2,.agg [I (n:Int),ev])]=some (.agg [I (n:Int),ev]):=by simp[x1qx,x1rx,hev.cells]
  simp[mem0,hp.one,ha.one,hb.one]
  rw[<-hm1]
  simp[hck,hc,g1,hnet,hbn,x1y5,hev.one]
  rw[<-hm2]
  simp[g25,hcl,x1vx,hqa.one,hqa.cells]
  rw[<-hm3]
  simp[g35,h3]
 .show([x,I 0].mapM (frz m'.get 5)).map AV.tup=_
  simp only[List.mapM_cons,List.mapM_nil,hfz]
  rfl
def okU(id:Id):Prop:=id.2.2=49
theorem l_rUnd(d:Nat){J:Int}{n:Nat}{ev fa:AV}{l:List Edge}{fr:List Int}(h:Sl Edge.c ev l)(hSl:Slim J n l)(hf:Ints fa fr)(hB:BestF n l fr) :
 ∀(suf:List Edge) (k j:Nat) (o:AV) (m:Mem) (fc:Nat),l.drop k=suf->suf.length<j->m.get (0,0,1)=some (.row [I n,ev] 0 false)->Gk 2 Pr.c okU m o (x1rv (fun e=>!(relB n l fr e.fr.toNat e.to.toNat)) (l.take k)) ->
 ∃a m',x1f (x1qp (d+3)) [] 0 j (.ptr (0,0,1) 0 0) fa o (I k) m fc=some (a,m')/\Gk 2 Pr.c okU m' a (x1rv (fun e=>!(relB n l fr e.fr.toNat e.to.toNat)) l):=by
 have hll:=hSl.ll
 obtain⟨d1,d2⟩:=dR_bound hSl hB
 intro suf
 induction suf with
 |nil=>
  intro k j o m fc hd hj g1 hG
  obtain⟨j,rfl⟩:∃i,j=i+1:=⟨j-1,by simp at hj;omega⟩
  have hk0:=List.drop_eq_nil_iff.mp hd
  have hk:¬((k:Int)<(l.length:Int)):=by omega
  rw[List.take_of_length_le hk0]at hG
  refine⟨o,m,?_,hG⟩
  simp only[x1f]
  unfold x8t x1z
  simp[g1,h.one,h.len x1v5,hk]
 |cons e r ih=>
  intro k j o m fc hd hj g1 hG
  obtain⟨j,rfl⟩:∃i,j=i+1:=⟨j-1,by simp at hj;omega⟩
  obtain⟨hk,hke,hd⟩:=x1sm hd
  have hk':(k:Int)<(l.length:Int):=by omega
  have ix:=h.ix Edge.len hk
  have ld:=x1vt (m:=m) Edge.len (by omega) hk
  rw[hke]at ld
  simp only[Edge.c]at ld
  obtain⟨⟨f0,f1,t0,t1,-⟩,-⟩:=hSl.ed e (hke▸List.getElem_mem hk)
  obtain⟨x,hx⟩:∃x:Nat,e.fr=x:=⟨e.fr.toNat,by omega⟩
  obtain⟨y,hy⟩:∃y:Nat,e.to=y:=⟨e.to.toNat,by omega⟩
  have htk:l.take (k+1)=l.take k++[e]:=by rw[List.take_succ_eq_append_getElem hk,hke]
  have hplen:(x1rv (fun e=>!(relB n l fr e.fr.toNat e.to.toNat)) (l.take k)).length<=1000:=by
   unfold x1rv
   have:=List.length_filter_le (fun e=>!(relB n l fr e.fr.toNat e.to.toNat)) (l.take k)
   rw[List.length_map]
   rw[List.length_take]at this
   omega
  obtain⟨M,hM⟩:∃M:Mem,M=(m.new (0,fc+5+5,6) (.row [I 0,I 0,I 0,I 0] 0 false)).set (0,fc+5+5,6) (.row [I (x:Int),I (y:Int),I e.jump,I e.wt] 0 false):=⟨_,rfl⟩
  have hMg:∀id:Id,id.2.2≠6->M.get id=m.get id:=fun id hid=>by rw[hM,Mem.get_set,if_neg (by rintro rfl;exact hid rfl),Mem.get_new,if_neg (by rintro rfl;exact hid rfl)]
  have gM:M.get (0,0,1)=some (.row [I n,ev] 0 false):=by rw[hMg _ (by simp)];exact g1
  have gM6:M.get (0,fc+5+5,6)=some (.row [I (x:Int),I (y:Int),I e.jump,I e.wt] 0 false):=by rw[hM];simp
  have hb:=x290 d h hSl hf hB (a:=x) (b:=y) (by omega) (by omega) d1 d2 M
  obtain⟨X,hX⟩:∃X,X=dR n l fr x y:=⟨_,rfl⟩
  obtain⟨Y,hY⟩:∃Y,Y=dR n l fr y x:=⟨_,rfl⟩
  have hRel:relB n l fr e.fr.toNat e.to.toNat=(!(decide (X=1000000000)||decide (Y=1000000000))&&decide (-Y=X)):=by rw[hx,hy,Int.toNat_natCast,Int.toNat_natCast,hX,hY];rfl
  rw[<-hX,<-hY]at hb
  have hL:∀(t1 t3 t4 t5:AV) (N:Mem) (fc:Nat),x1f (x1qp (d+3)) [] 0 (j+1) t1 t3 t4 t5 N fc=x8t (x1qp (d+3)) [] 0 (x1f (x1qp (d+3)) [] 0 j) t1 t3 t4 t5 N fc:=fun _ _ _ _ _ _=>rfl
  rw[hx,hy]at ld
  have step:∀(lo hi:Int) (ok:Bool),x1qq (x1qp (d+3)) x2w [.agg [I n,ev],fa,I (x:Int),I (y:Int)] M=some (.tup [.agg [I lo,I hi],B ok],M)->(ok&&decide (lo=hi))=relB n l fr e.fr.toNat e.to.toNat ->
   ∃a m',x1f (x1qp (d+3)) [] 0 (j+1) (.ptr (0,0,1) 0 0) fa o (I k) m fc=some (a,m')/\Gk 2 Pr.c okU m' a (x1rv (fun e=>!(relB n l fr e.fr.toNat e.to.toNat)) l):=by
   intro lo hi ok hcall hok
   obtain⟨M3,hM3⟩:∃M3:Mem,M3=(M.new (0,fc+5+17,7) (.row [I 0,I 0] 0 false)).set (0,fc+5+17,7) (.row [I lo,I hi] 0 false):=⟨_,rfl⟩
   have hM3g:∀id:Id,id.2.2≠7->M3.get id=M.get id:=fun id hid=>by rw[hM3,Mem.get_set,if_neg (by rintro rfl;exact hid rfl),Mem.get_new,if_neg (by rintro rfl;exact hid rfl)]
   have gM3:M3.get (0,fc+5+17,7)=some (.row [I lo,I hi] 0 false):=by rw[hM3];simp
   have g36:M3.get (0,fc+5+5,6)=some (.row [I (x:Int),I (y:Int),I e.jump,I e.wt] 0 false):=by rw[hM3g _ (by simp)];exact gM6
   have g31:M3.get (0,0,1)=some (.row [I n,ev] 0 false):=by rw[hM3g _ (by simp)];exact gM
   have hG3:Gk 2 Pr.c okU M3 o (x1rv (fun e=>!(relB n l fr e.fr.toNat e.to.toNat)) (l.take k)):=hG.frame fun id hid=>by rw[hM3g id (by rw[hid];decide),hMg id (by rw[hid];decide)]
   have hb2:x1qx x11 [(0,1,I (x:Int)),(1,1,I (y:Int))]=some (.agg [I (x:Int),I (y:Int)]):=x20p _ _
   have z2:x11=[I 0,I 0]:=x20n
   have start:∀K:Option (AV×Mem),(x1qr (B (!(ok&&decide (lo=hi)))) (x1r2 x11 [(0,2,.agg [I (x:Int),I (y:Int)])] 1 2 (0,fc+5+35,48) M3 fun t48 m_5=>
    sApp 2 16 (0,fc+5+36,49) (elems m_5.get 2 t48) o m_5 fun t49 m_6=>x1f (x1qp (d+3)) [] 0 j (.ptr (0,0,1) 0 0) fa t49 (I ((k:Int)+1)) m_6 (fc+5+38+3))
    (x1f (x1qp (d+3)) [] 0 j (.ptr (0,0,1) 0 0) fa o (I ((k:Int)+1)) M3 (fc+5+29+3)))=K->x1f (x1qp (d+3)) [] 0 (j+1) (.ptr (0,0,1) 0 0) fa o (I k) m fc=K:=by
    intro K hK
    rw[<-hK,hL]
    unfold x8t xbb x8s
    simp(disch:=omega) [g1,h.one,h.len x1v5,hk',ix,ld,x1t7]
    rw[<-hM]
    simp[g1,gM,gM6,h.one,hcall,z_range]
    rw[<-hM3]
    cases ok
    .simp(disch:=omega) [g36,gM6,hb2]
    .by_cases e0:lo=hi
     .simp(disch:=omega) [gM3,g36,e0,hb2]
     .simp(disch:=omega) [gM3,g36,gM6,e0,hb2]
   rw[hok]at start
   cases hr:relB n l fr e.fr.toNat e.to.toNat
   .rw[hr]at start
    obtain⟨a',m2,A,hG2,c1,c2,n2,q2⟩:=hG3.app Pr.len (by omega) (bytes:=16) (id0:=(0,fc+5+36,49)) (show okU (0,fc+5+36,49)from rfl) (by unfold x1r4;omega) ((x:Int),(y:Int))
    obtain⟨a2,m3,r1,r2⟩:=ih (k+1) j a' m2 (fc+5+38+3) hd (by simp at hj;omega) (by rw[q2 _ (by unfold okU;simp)];exact g31) (by
     rw[htk,x20s,if_pos (by rw[hr];rfl),hx,hy]
     exact hG2)
    refine⟨a2,m3,start _ ?_,r2⟩
    have hel:∀N:Mem,elems N.get 2 (.slit [I (x:Int),I (y:Int)] 1 true)=some (Pr.c ((x:Int),(y:Int)),1):=fun _=>rfl
    simp only[Bool.not_false,x1ru,z2,mkLit_2,hel,A]
    simpa using r1
   .rw[hr]at start
    obtain⟨a2,m3,r1,r2⟩:=ih (k+1) j o M3 (fc+5+29+3) hd (by simp at hj;omega) g31 (by
     rw[htk,x20s,if_neg (by rw[hr];simp)]
     exact hG3)
    refine⟨a2,m3,start _ ?_,r2⟩
    simp only[Bool.not_true,x1sz]
    simpa using r1
  cases c:(decide (X=1000000000)||decide (Y=1000000000))
  .rw[c]at hb hRel
   exact step (-Y) X true hb (by rw[hRel];rfl)
  .rw[c]at hb hRel
   exact step 0 0 false hb (by rw[hRel];rfl)
theorem x297(d:Nat){J:Int}{n:Nat}{ev:AV}{l:List Edge}(h:Sl Edge.c ev l)(hSl:Slim J n l)(m:Mem) :
 ∃fr x,BestF n l fr/\Prs x (x1rv (fun e=>!(relB n l fr e.fr.toNat e.to.toNat)) l)/\x1qq (x1qp (d+4)) x6n [.agg [I n,ev]] m=some (x,m):=by
 have hll:=hSl.ll
 obtain⟨m1,hm1⟩:∃m1:Mem,m1=(⟨[],1⟩:Mem).new (0,0,1) (.row [I n,ev] 0 false):=⟨_,rfl⟩
 have g1:m1.get (0,0,1)=some (.row [I n,ev] 0 false):=by rw[hm1];simp
 obtain⟨fa,fr,hf,hB,hc⟩:=x28h d h hSl m1
 obtain⟨a,m',r1,r2⟩:=l_rUnd d h hSl hf hB l 0 NN nilS m1 7 rfl (by rw[x1r6];omega) g1 Gk.nil
 obtain⟨x',hx',hfz⟩:=r2.frz (k:=4) Pr.len Pr.still
 refine⟨fr,x',hB,hx',x1t6 (by simp[h.still1]) (m':=m') (r:=a) ?_ hfz⟩
 rw[xz8]
 unfold xe9 xg7 xbc
 simp[mem0,h.one]
 rw[<-hm1,hc]
 exact r1
theorem x26t{q r:Edge->Bool}:∀{l:List Edge},(∀e∈l,q e=r e)->x1rv q l=x1rv r l:=fun{l} h=>by
 unfold x1rv
 rw[List.filter_congr h]
theorem und_same{J:Int}{n:Nat}{l:List Edge}{fl tu ex fr:List Int}(hS:Slim J n l)(hB:BestF n l fr)(h:Solved J n l fl tu ex) :
 x1rv (twoC (numM n (nbP n (mP n l fl (x1ra n (x1r9 n l) tu)))).1) l=x1rv (fun e=>!(relB n l fr e.fr.toNat e.to.toNat)) l:=by
 refine x26t fun e he=>?_
 obtain⟨⟨f0,f1,t0,t1,-⟩,-⟩:=hS.ed e he
 obtain⟨-,hK⟩:=cls_num hS h
 have h1:=hK e.fr.toNat e.to.toNat (by omega) (by omega)
 have h2:=x26s hS hB h (a:=e.fr.toNat) (b:=e.to.toNat) (by omega) (by omega)
 rw[<-h2]at h1
 unfold twoC
 congr 1
 rw[Bool.eq_iff_iff,decide_eq_true_eq]
 exact h1
end Go.Ix
