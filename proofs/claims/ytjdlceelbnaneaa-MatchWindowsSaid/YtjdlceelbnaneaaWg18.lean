import Derived.Test.YtjdlceelbnaneaaWg17
import Derived.Test.YtjdlceelbnaneaaWg6
set_option linter.unusedSimpArgs false
set_option linter.unusedVariables false
set_option exponentiation.threshold 3000
namespace Go.Ix
open Go.Proofs Ieee
theorem el1(objs:Id->Option Ob)(x y:Nat):elems objs 1 (.slit [C32 x y] 1 true)=some ([C32 x y],1):=rfl
theorem xh6(L S:Int):x7y [I 0,I 0,nilS] [(0,1,I L),(1,1,I S)]=some (.agg [I L,I S,nilS]):=rfl
variable{a:AV}{D:List Px}{L S:Int}
def okR(t:Nat):Id->Prop:=λid=>id.1=0/\id.2.2=t
section
variable(d:Nat)(hs:FHs)(ha:Sl pxE a D)(hR:RtI L S D){k:Int}(hk:wi k 0 2=true){f:Aff}(hf:AffIn f)
include ha hR hk hf
end
theorem s_c128{r:AV}{p q:Int}(hr:Is (Fzi p q) r)(hp:bd p 2047)(hq:bd q 2047):∃r2,sCvt Try.prog x8 x6 r=some r2/\Is (Fzs p q) r2:=by
 unfold bd at hp hq
 refine sCvt_R (A:=Fzi p q) hr (λu hu=>by obtain⟨x,y,rfl,-⟩:=hr.2 u hu;rfl) ?_
 rintro _ ⟨x,y,rfl,hx,hy⟩
 have h:nfS Try.prog (convert x8 x6 (.complex .f64 x y))=nfS Try.prog (Conv.complexToComplex .f64 x y .f32):=by kernel_rfl
 rw[<-x8c,h,x8c]
 exact(c2s hx hy (by omega) (by omega)).mono λv hv=>⟨one_Zs hv,hv⟩
theorem s_add0{r:AV}{p q:Int}{t:TypeId}{X Y:Operand}(hr:Is (Fzs p q) r)(hp:bd p 2047)(hq:bd q 2047):sBin Try.prog .add t X Y r (AV.sc (.complex .f32 0 0))=some (sPX (p,q)):=by
 unfold bd at hp hq
 refine sBin_1 (B:=(·=.complex .f32 0 0)) (v0:=.complex .f32 (f32w p) (f32w q)) hr (Is.sc rfl) rfl ?_
 rintro _ _ ⟨x,y,rfl,hx,hy⟩ rfl
 have hb:binS .add t X Y [.complex .f32 x y,.complex .f32 0 0]=Op.complexOp .add .f32 x y 0 0:=rfl
 rw[hb]
 have e:Op.complexOp .add .f32 x y 0 0=.pure (.complex .f32 (f32w p) (f32w q)):=by
  show(do pure (Value.complex .f32 (<-Op.Complex.arith .add .f32 x 0) (<-Op.Complex.arith .add .f32 y 0)):Sem Value)=_
  rw[ar_add0 hx (by omega),ar_add0 hy (by omega)];rfl
 rw[e]
 exact OkR.pure rfl
theorem frz_img5{objs:Id->Option Ob}{L S:Int}{v v':AV}(h:Go.Ix.frz objs 4 v=some v'):Go.Ix.frz objs 5 (.agg [I L,I S,v])=some (.agg [I L,I S,v']):=by
 show([I L,I S,v].mapM (Go.Ix.frz objs 4)).map AV.agg=_
 simp only[xkt,xm2,h]
 rfl
theorem grid_eq{α:Type}(g:Nat->Nat->α){w:Nat}(hw:0<w):∀n:Nat,(List.range (n*w)).map (λi=>g (i / w) (i % w))=(List.range n).flatMap λl=>(List.range w).map (g l)
 |0=>by simp
 |n+1=>by
  rw[xky,List.range_add,xlv,grid_eq g hw n,xmm,List.flatMap_append]
  congr 1
  simp only[List.map_map,xkp,List.flatMap_nil,xmk]
  refine xme λi hi=>?_
  have hi:=xk8.mp hi
  show g ((n*w+i) / w) ((n*w+i) % w)=g n i
  rw[Nat.mul_comm n w,Nat.mul_add_div hw,Nat.mul_add_mod,Nat.div_eq_of_lt hi,Nat.mod_eq_of_lt hi,xl8]
def gRow{α:Type}(g:Nat->Nat->α)(l s n:Nat):List α:=(List.range' s n).map (g l)
def gAll{α:Type}(g:Nat->Nat->α)(w l n:Nat):List α:=(List.range' l n).flatMap λl=>gRow g l 0 w
theorem gRow_s{α:Type}(g:Nat->Nat->α)(l s n:Nat):gRow g l s (n+1)=g l s::gRow g l (s+1) n:=by
 unfold gRow;rw[List.range'_succ,xk3]
theorem gAll_s{α:Type}(g:Nat->Nat->α)(w l n:Nat):gAll g w l (n+1)=gRow g l 0 w++gAll g w (l+1) n:=by
 unfold gAll;rw[List.range'_succ,xkp]
theorem gRow_len{α:Type}(g:Nat->Nat->α)(l s n:Nat):(gRow g l s n).length=n:=by
 unfold gRow;simp
theorem gAll_eq{α:Type}(g:Nat->Nat->α){w:Nat}(hw:0<w)(n:Nat):gAll g w 0 n=(List.range (n*w)).map (λi=>g (i / w) (i % w)):=by
 rw[grid_eq g hw n]
 unfold gAll gRow
 rw[<-List.range_eq_range',<-List.range_eq_range']
variable{a:AV}{D:List Px}{L S:Int}
def wpx(L S:Int)(D:List Px)(x y:Int)(l s:Nat):Px:=spx (atM L S D (x+l) (y+s))
def okC:Id->Prop:=λid=>id.2.2=34
def cutL(L S:Int)(D:List Px)(x y:Int)(w:Nat)(i:Nat):List Px:=(List.range i).map λi=>wpx L S D x y (i / w) (i % w)
structure CInv (L S:Int) (D:List Px) (x y z w:Int) (i:Nat) (m:Mem):Prop where
 ex:∃v,m.get (0,15,7)=some (.row [I z,I w,v] 0 false)/\Gk 1 pxE okC m v (cutL L S D x y w.toNat i)
 g4:m.get (0,2,4)=some (.row [I 0,I 0,nilS] 0 false)
theorem xeg{m m':Mem}(h:m'.hp=m.hp)(i:Id):m'.get i=m.get i:=by
 show hget m'.hp i=hget m.hp i
 rw[h]
theorem w_Cut(d:Nat)(ha:Sl pxE a D)(hl:D.length<=5000)(x y z w:Int)(he:cwE L S D x y z w=0):∃b,Sl pxE b (gAll (wpx L S D x y) w.toNat 0 z.toNat)/\∀m,x70 (x6z (d+9)) xk [.agg [I L,I S,a],.agg [I x,I y,I z,I w]] m=some (.tup [.agg [I z,I w,b],I 0],m):=by
 have hce:=λm=>xee (L:=L) (S:=S) d ha hl x y z w m
 rw[he]at hce
 have c0:(imE L S D).2=0:=by
  unfold cwE at he
  by_cases c:(imE L S D).2=0
  .exact c
  .rw[xjs c]at he;exact absurd he c
 have hR:=imE_0 c0
 have we:winE L S x y z w=0:=by unfold cwE at he;rwa[xjr c0]at he
 have hzw:(wi z 1 8=true/\wi w 1 8=true)/\fitB L S x y z w=true:=by
  unfold winE at we
  cases c1:wi z 1 8
  .simp[c1]at we
  cases c2:wi w 1 8
  .simp[c1,c2]at we
  cases c3:fitB L S x y z w
  .simp[c1,c2,c3]at we
  exact⟨⟨rfl,rfl⟩,rfl⟩
 obtain⟨⟨hz,hw⟩,hf⟩:=hzw
 have hz:=wi_t hz
 have hw:=wi_t hw
 unfold fitB at hf
 rw[xjv]at hf
 have hx:=wi_t hf.1
 have hy:=wi_t hf.2
 have hL:=wi_t hR.l
 have hS:=wi_t hR.s
 obtain⟨M,hM⟩:∃M:Mem,((((((⟨[],1⟩:Mem).new (0,0,2) (.row [I L,I S,a] 0 false)).new (0,1,3) (.row [I x,I y,I z,I w] 0 false)).new (0,2,4) (.row [I 0,I 0,nilS] 0 false)).new (0,15,7) (.row [I 0,I 0,nilS] 0 false)).set (0,15,7) (.row [I z,I w,nilS] 0 false))=M:=⟨_,rfl⟩
 have g2:M.get (0,0,2)=some (.row [I L,I S,a] 0 false):=by rw[<-hM];simp
 have g3:M.get (0,1,3)=some (.row [I x,I y,I z,I w] 0 false):=by rw[<-hM];simp
 have h0:CInv L S D x y z w 0 M:=⟨⟨nilS,by rw[<-hM];simp,Gk.nil⟩,by rw[<-hM];simp⟩
 have hst:∀(i:Nat) (m m':Mem),CInv L S D x y z w i m->m'.hp=m.hp->CInv L S D x y z w i m':=λi m m' h hp=>by
  obtain⟨⟨v,q1,q2⟩,q3⟩:=h
  exact⟨⟨v,by rw[xeg hp];exact q1,q2.frame λid _=>xeg hp id⟩,by rw[xeg hp];exact q3⟩
 let h:List AV->Mem->Option Mem:=λargs m=>bif Nat.beq args.length 2&&true then x1q (x6z (d+8)) [] m.next (.ptr (0,15,7) 0 0) (args.getD 1 U) ⟨m.hp,m.next+1⟩ 0 else none
 have hb:∀(i:Nat) (r:AV) (m:Mem),(i:Int)<z*w->Is (Fzi (atM L S D (x+i / w) (y+i % w)).1 (atM L S D (x+i / w) (y+i % w)).2) r->CInv L S D x y z w i m->∃m2,h [I i,r] m=some m2/\CInv L S D x y z w (i+1) m2:=by
  intro i r m hi hr hI
  have hat:=atM_bd hR (x+i / w) (y+i % w)
  obtain⟨r2,e2,hr2⟩:=s_c128 hr hat.1 hat.2
  have e3:=λX Y=>s_add0 (t:=x6) (X:=X) (Y:=Y) hr2 hat.1 hat.2
  obtain⟨⟨v,q1,q2⟩,q4⟩:=hI
  have hzw64:z*w<=8*8:=xlw (by omega) (by omega) (by omega) (by omega)
  have q2':Gk 1 pxE okC ⟨m.hp,m.next+1⟩ v (cutL L S D x y w.toNat i):=q2.frame λid _=>rfl
  have hrm:x79 ((cutL L S D x y w.toNat i).length+1) 8:=by unfold x79 cutL;simp;omega
  obtain⟨v2,m2,hA,hG2,c2,o2,hn2,hfr⟩:=q2'.app pxL (by decide) (bytes:=8) (id0:=(m.next,7,34)) (show okC (m.next,7,34)from rfl) hrm (spx (atM L S D (x+i / w) (y+i % w)))
  have hA':∀(k':AV->Mem->Option Mem),sApp 1 8 (m.next,7,34) (some ([sPX (atM L S D (x+i / w) (y+i % w))],1)) v ⟨m.hp,m.next+1⟩ k'=k' v2 m2:=hA
  have G7:m2.get (0,15,7)=some (.row [I z,I w,v] 0 false):=by rw[hfr _ (by unfold okC;decide)];exact q1
  refine⟨m2.set (0,15,7) (.row [I z,I w,v2] 0 false),?_,?_⟩
  .show x1q (x6z (d+8)) [] m.next (.ptr (0,15,7) 0 0) r ⟨m.hp,m.next+1⟩ 0=_
   unfold x1q x4g
   have q1':(⟨m.hp,m.next+1⟩:Mem).get (0,15,7)=some (.row [I z,I w,v] 0 false):=q1
   simp[q1',e2,e3,z_c64]
   rw[xck (xeb _ _) rfl rfl,el1,hA']
   simp[G7,o2,c2]
  .refine⟨⟨v2,by simp,?_⟩,by rw[Mem.get_set_ne (by decide),hfr _ (by unfold okC;decide)];exact q4⟩
   have hl1:cutL L S D x y w.toNat (i+1)=cutL L S D x y w.toNat i++[spx (atM L S D (x+i / w) (y+i % w))]:=by
    unfold cutL
    rw[xmm,xlv]
    congr 1
    simp only[xk3,xkl]
    congr 1
    unfold wpx
    rw[Int.natCast_ediv,Int.natCast_emod,xml (by omega)]
   rw[hl1]
   exact hG2.frame λid hid=>Mem.get_set_ne (by rintro rfl;exact absurd hid (by unfold okC;decide))
 obtain⟨m',e,hI⟩:=c_values (d+5) (hh:=[((0,21,0),h)]) (id:=(0,21,0)) ha hR rfl rfl (x:=x) (y:=y) (z:=z) (w:=w) (by omega) (by omega) (by unfold bd;omega) (by unfold bd;omega) (CInv L S D x y z w) hst hb h0
 obtain⟨⟨v,q1,q2⟩,q4⟩:=hI
 have hG2:Gk 1 pxE okC (m'.set (0,2,4) (.row [I z,I w,v] 0 false)) v (cutL L S D x y w.toNat (z*w).toNat):=q2.frame λid hid=>Mem.get_set_ne (by rintro rfl;exact absurd hid (by unfold okC;decide))
 obtain⟨v',hv',hf⟩:=hG2.frz (k:=2) pxL pxS
 have hzn:(z*w).toNat=z.toNat*w.toNat:=by
  have:z*w=((z.toNat*w.toNat:Nat):Int):=by rw[Int.natCast_mul,xml (by omega),xml (by omega)]
  omega
 refine⟨v',?_,λm=>x7e (by simp[ha.still1]) ?_ m⟩
 .rw[gAll_eq _ (by omega)]
  unfold cutL at hv'
  rw[hzn]at hv'
  exact hv'
 rw[x4v]
 unfold x22 x1r
 simp[mem0,ha.one,x90,x7x,hce,xh6]
 rw[hM]
 unfold x4i
 have wv:=λm=>w_values (L:=L) (S:=S) (d+7) ha.still1 ha.one x y z w m
 simp[g2,g3,xh5,wv]
 unfold x4h
 show RetF _ ((x6z (d+8) [((0,21,0),h)] xe [.yld (0,21,0),.plit [I x,I y,I z,I w],.plit [I L,I S,a]] M).bind λp=>x2d (x6z (d+8)) [] 0 (AV.ptr (0,2,4) 0 0) (AV.ptr (0,15,7) 0 0) p.snd (21+1))
 rw[e]
 have o:=q2.one
 unfold x2d
 simp[q1,q4,o.1,o.2,sLdP]
 exact RetF.mk (frz_tup2 (frz_img5 hf) rfl) rfl
end Go.Ix
namespace Go.Ix
open Go.Proofs Ieee
variable{a:AV}{D:List Px}{L S:Int}
theorem xeh:x7y [I 0,I 0,nilS] []=some (.agg [I 0,I 0,nilS]):=rfl
theorem w_CutE(d:Nat)(ha:Sl pxE a D)(hl:D.length<=5000)(x y z w:Int)(he:cwE L S D x y z w≠0)(m:Mem):x70 (x6z (d+9)) xk [.agg [I L,I S,a],.agg [I x,I y,I z,I w]] m=some (.tup [.agg [I 0,I 0,nilS],I (cwE L S D x y z w)],m):=by
 have hce:=λm=>xee (L:=L) (S:=S) d ha hl x y z w m
 refine x7e (by simp[ha.still1]) ?_ m
 rw[x4v]
 unfold x22 x1r
 simp[mem0,ha.one,x90,x7x,hce,he,xeh,sLdP]
 exact RetF.tup rfl rfl
structure WInv (a:AV) (L S x y z w:Int) (v:AV) (acc:List Px) (m:Mem):Prop where
 g2:m.get (0,0,2)=some (.row [I L,I S,a] 0 false)
 g3:m.get (0,1,3)=some (.row [I x,I y,I z,I w] 0 false)
 g4:m.get (0,2,4)=some (.row [I 0,I 0,nilS] 0 false)
 g5:m.get (0,8,5)=some (.row [I z,I w,v] 0 false)
 gk:Gk 1 pxE (okR 46) m v acc
section
variable(d:Nat)(hs:FHs)(ha:Sl pxE a D)(hR:RtI L S D){x y:Int}{z w:Nat}(hx:bd x 100000)(hy:bd y 100000)(hz:z<=8)(hw:w<=8)
include ha hR hx hy hw
theorem l_cut1(rec0:x8h)(l:Nat)(hl:l<=8):∀(n s j:Nat) (v:AV) (acc:List Px) (m:Mem) (fc:Nat),s+n=w->n<j->acc.length<=8*l+s->WInv a L S x y z w v acc m ->
 ∃v' m' fc',x1h (x6z (d+3)) hs 0 rec0 j (.ptr (0,0,2) 0 0) (.ptr (0,1,3) 0 0) (.ptr (0,2,4) 0 0) (.ptr (0,8,5) 0 0) (I l) (I s) m fc
  = x2k (x6z (d+3)) hs 0 rec0 (.ptr (0,0,2) 0 0) (.ptr (0,1,3) 0 0) (.ptr (0,2,4) 0 0) (.ptr (0,8,5) 0 0) (I l) m' fc'/\WInv a L S x y z w v' (acc++gRow (wpx L S D x y) l s n) m':=by
 intro n
 induction n with
 |zero=>
  intro s j v acc m fc hn hj hacc hI
  obtain⟨j,rfl⟩:∃i,j=i+1:=⟨j-1,by omega⟩
  have hk0:¬((s:Int)<(w:Int)):=by omega
  have g3:=hI.g3
  refine⟨v,m,fc+4,?_,by simpa[gRow]using hI⟩
  simp only[x1h]
  unfold x2l
  simp[hk0,g3]
 |succ n ih=>
  intro s j v acc m fc hn hj hacc hI
  obtain⟨j,rfl⟩:∃i,j=i+1:=⟨j-1,by omega⟩
  have hk0:(s:Int)<(w:Int):=by omega
  obtain⟨g2,g3,g4,g5,gk⟩:=hI
  have hat:=atM_bd hR (x+l) (y+s)
  have ra:=λm=>w_rAt d ha hR (x+l) (y+s) m
  have hS:∀m,x70 (x6z (d+3)) xj [I (atM L S D (x+l) (y+s)).1,I (atM L S D (x+l) (y+s)).2] m=some (sPX (atM L S D (x+l) (y+s)),m):=λm=>w_Sample (d+2) hat.1 hat.2 m
  obtain⟨v2,m2,hA,hG2,c2,o2,hn2,hfr⟩:=gk.app pxL (by decide) (bytes:=8) (id0:=(0,fc+25,46)) ⟨rfl,rfl⟩ (by unfold x79;omega) (wpx L S D x y l s)
  have hA':∀(k':AV->Mem->O2),sApp 1 8 (0,fc+25,46) (some ([sPX (atM L S D (x+l) (y+s))],1)) v m k'=k' v2 m2:=hA
  have fr2:∀id:Id,id.2.2≠46->m2.get id=m.get id:=λid h'=>hfr _ (λq=>h' q.2)
  obtain⟨v',m',fc',e,hI'⟩:=ih (s+1) j v2 (acc++[wpx L S D x y l s]) (m2.set (0,8,5) (.row [I z,I w,v2] 0 false)) (fc+31) (by omega) (by omega) (by simp;omega)
   ⟨by rw[Mem.get_set_ne (by decide),fr2 _ (by decide)];exact g2,by rw[Mem.get_set_ne (by decide),fr2 _ (by decide)];exact g3,by rw[Mem.get_set_ne (by decide),fr2 _ (by decide)];exact g4,by simp,hG2.frame λid hid=>Mem.get_set_ne (by rintro rfl;exact absurd hid.2 (by decide))⟩
  refine⟨v',m',fc',?_,by rw[gRow_s];simpa using hI'⟩
  rw[<-e]
  have G5':m2.get (0,8,5)=some (.row [I z,I w,v] 0 false):=by rw[fr2 _ (by decide)];exact g5
  simp only[x1h]
  conv=>lhs;unfold x2l
  unfold bd at hx hy
  simp(disch:=omega) [g2,g3,g5,hk0,x7n,ra]
  simp only[xm0,x7v]
  simp(disch:=omega) [g5,x7n,hS,z_c64]
  rw[xck (xeb _ _) rfl rfl,el1,hA']
  simp[G5',o2,c2,tR,x80,disj,cAp,mkM,clean,ha.clean1]
include hz
theorem l_cut0:∀(n l j:Nat) (v:AV) (acc:List Px) (m:Mem) (fc:Nat),l+n=z->n<j->acc.length<=8*l->WInv a L S x y z w v acc m ->
 ∃v' m' fc',xt (x6z (d+3)) hs 0 j (.ptr (0,0,2) 0 0) (.ptr (0,1,3) 0 0) (.ptr (0,2,4) 0 0) (.ptr (0,8,5) 0 0) (I l) m fc
  = x2j (x6z (d+3)) hs 0 (.ptr (0,2,4) 0 0) (.ptr (0,8,5) 0 0) m' fc'/\WInv a L S x y z w v' (acc++gAll (wpx L S D x y) w l n) m':=by
 intro n
 induction n with
 |zero=>
  intro l j v acc m fc hn hj hacc hI
  obtain⟨j,rfl⟩:∃i,j=i+1:=⟨j-1,by omega⟩
  have hk0:¬((l:Int)<(z:Int)):=by omega
  have g3:=hI.g3
  refine⟨v,m,fc+4,?_,by simpa[gAll]using hI⟩
  simp only[xt]
  unfold x2m
  simp[hk0,g3]
 |succ n ih=>
  intro l j v acc m fc hn hj hacc hI
  obtain⟨j,rfl⟩:∃i,j=i+1:=⟨j-1,by omega⟩
  have hk0:(l:Int)<(z:Int):=by omega
  obtain⟨v1,m1,fc1,e1,hI1⟩:=l_cut1 d hs ha hR hx hy hw (xt (x6z (d+3)) hs 0 j) l (by omega) w 0 NN v acc m (fc+4+1) (by omega) (by rw[x9y];omega) (by omega) hI
  have hlen:(acc++gRow (wpx L S D x y) l 0 w).length<=8*(l+1):=by rw[xl6,gRow_len];omega
  obtain⟨v',m',fc',e,hI'⟩:=ih (l+1) j v1 _ m1 (fc1+3) (by omega) (by omega) hlen hI1
  refine⟨v',m',fc',?_,by rw[gAll_s,<-List.append_assoc];exact hI'⟩
  rw[<-e]
  have g3:=hI.g3
  simp only[xt]
  conv=>lhs;unfold x2m x4j
  simp[g3,hk0]
  rw[show(0:Int)=((0:Nat):Int)from rfl,e1]
  unfold x2k
  simp(disch:=omega) [x7n]
theorem w_rCut:∃b,Sl pxE b (gAll (wpx L S D x y) w 0 z)/\∀m,x70 (x6z (d+4)) xz [.agg [I L,I S,a],.agg [I x,I y,I z,I w]] m=some (.agg [I z,I w,b],m):=by
 obtain⟨M,hM⟩:∃M:Mem,((((((⟨[],1⟩:Mem).new (0,0,2) (.row [I L,I S,a] 0 false)).new (0,1,3) (.row [I x,I y,I z,I w] 0 false)).new (0,2,4) (.row [I 0,I 0,nilS] 0 false)).new (0,8,5) (.row [I 0,I 0,nilS] 0 false)).set (0,8,5) (.row [I z,I w,nilS] 0 false))=M:=⟨_,rfl⟩
 have hI:WInv a L S x y z w nilS [] M:=⟨by rw[<-hM];simp,by rw[<-hM];simp,by rw[<-hM];simp,by rw[<-hM];simp,Gk.nil⟩
 obtain⟨v',m',fc',e,hI'⟩:=l_cut0 d [] ha hR hx hy hz hw z 0 NN nilS [] M 11 (by omega) (by rw[x9y];omega) (by simp) hI
 have hG2:Gk 1 pxE (okR 46) (m'.set (0,2,4) (.row [I z,I w,v'] 0 false)) v' ([]++gAll (wpx L S D x y) w 0 z):=hI'.gk.frame λid hid=>Mem.get_set_ne (by rintro rfl;exact absurd hid.2 (by decide))
 obtain⟨v2,hv2,hfz⟩:=hG2.frz (k:=3) pxL pxS
 rw[xmj]at hv2
 refine⟨v2,hv2,λm=>x7e (by simp[ha.still1]) ?_ m⟩
 rw[x59]
 unfold x3p x2n
 simp[mem0,ha.one,x90,x7x,xh6]
 rw[hM]
 unfold x4k
 rw[show(0:Int)=((0:Nat):Int)from rfl,e]
 unfold x2j
 have h4:=hI'.g4
 have h5:=hI'.g5
 have o:=hI'.gk.one
 simp[h4,h5,o.1,o.2,sLdP]
 exact⟨_,_,_,rfl,frz_img hfz,rfl⟩
end
theorem cwE_0{x y z w:Int}(he:cwE L S D x y z w=0):(imE L S D).2=0/\(1<=z/\z<=8)/\(1<=w/\w<=8)/\fitB L S x y z w=true/\bd x 64/\bd y 64:=by
 have c0:(imE L S D).2=0:=by
  unfold cwE at he
  by_cases c:(imE L S D).2=0
  .exact c
  .rw[xjs c]at he;exact absurd he c
 have hR:=imE_0 c0
 have we:winE L S x y z w=0:=by unfold cwE at he;rwa[xjr c0]at he
 unfold winE at we
 cases c1:wi z 1 8
 .simp[c1]at we
 cases c2:wi w 1 8
 .simp[c1,c2]at we
 cases c3:fitB L S x y z w
 .simp[c1,c2,c3]at we
 have hf:=c3
 unfold fitB at hf
 rw[xjv]at hf
 have hx:=wi_t hf.1
 have hy:=wi_t hf.2
 have hL:=wi_t hR.l
 have hS:=wi_t hR.s
 have h1:=wi_t c1
 have h2:=wi_t c2
 exact⟨c0,h1,h2,rfl,by unfold bd;omega,by unfold bd;omega⟩
theorem law_MatchWindows(L S:Int){l:List Nat}(h0:Sl f32E a l)(x y z w:Int):∃m',x6z 31 [] x1n [.agg [I L,I S,a],.agg [I x,I y,I z,I w]] mem0=some (B true,m'):=by
 rw[x4y]
 unfold x3e x24
 have hsm:=λm=>w_small3 29 L S h0 m
 by_cases cl:l.length<=200
 rotate_left
 .simp[mem0,h0.one,xe5,hsm,cl]
 obtain⟨b,hb,eb⟩:=w_LImage 28 L S h0 (by omega)
 have hD:=prs_len l
 have ei:=λm=>xio (L:=L) (S:=S) 25 hb (by omega) m
 have ec:=λm=>xee (L:=L) (S:=S) 22 hb (by omega) x y z w m
 by_cases c:cwE L S (prsM l) x y z w=0
 rotate_left
 .have es:=λm=>w_CutE (L:=L) (S:=S) 21 hb (by omega) x y z w c m
  have s0:=λm=>xh2 (a:=nilS) (b:=nilS) (A:=[]) (B':=[]) 27 (L:=0) (S:=0) (L':=0) (S':=0) (Or.inl ⟨rfl,rfl⟩) (Or.inl ⟨rfl,rfl⟩) (by simp) m
  simp[mem0,h0.one,xe5,hsm,cl,eb,x90,hb.one,es,ei,cAp,tR,mkM,show Nat.blt 0 1=true from rfl,x80,disj,h0.clean1,hb.clean1,clean]
  unfold x23 x1p
  by_cases c0:(imE L S (prsM l)).2=0
  .have we:=λm=>xh4 27 hb (imE_0 c0) x y z w m
   have hc:winE L S x y z w≠0:=by unfold cwE at c;rwa[xjr c0]at c
   have e1:cwE L S (prsM l) x y z w=winE L S x y z w:=by unfold cwE;rw[xjr c0]
   rw[e1]at ec ⊢
   simp[c0,we,hc,ec,s0,eb,xeh,x90,cAp,tR,mkM,show Nat.blt 0 1=true from rfl,x80,disj,h0.clean1,hb.clean1,clean,h0.one]
  .have e1:cwE L S (prsM l) x y z w=(imE L S (prsM l)).2:=by unfold cwE;rw[xjs c0]
   rw[e1]at ec ⊢
   simp[c0,ec,s0,eb,xeh,x90,cAp,tR,mkM,show Nat.blt 0 1=true from rfl,x80,disj,h0.clean1,hb.clean1,clean,h0.one]
 obtain⟨c0,hz,hw,hf,hx,hy⟩:=cwE_0 c
 have hR:=imE_0 c0
 have we:=λm=>xh4 27 hb hR x y z w m
 have hc:winE L S x y z w=0:=by unfold cwE at c;rwa[xjr c0]at c
 obtain⟨p,hp,ep⟩:=w_Cut (L:=L) (S:=S) 21 hb (by omega) x y z w c
 obtain⟨zn,hzn⟩:∃n:Nat,z=n:=⟨z.toNat,by omega⟩
 obtain⟨wn,hwn⟩:∃n:Nat,w=n:=⟨w.toNat,by omega⟩
 obtain⟨q,hq,eq⟩:=w_rCut 26 hb hR (x:=x) (y:=y) (z:=zn) (w:=wn) (hx.mono (by decide)) (hy.mono (by decide)) (by omega) (by omega)
 rw[<-hzn,<-hwn]at eq
 have e1:gAll (wpx L S (prsM l) x y) w.toNat 0 z.toNat=gAll (wpx L S (prsM l) x y) wn 0 zn:=by
  rw[hzn,hwn,xna,xna]
 rw[e1]at hp
 have hlen:(gAll (wpx L S (prsM l) x y) wn 0 zn).length<=100000:=by
  rw[gAll_eq _ (by omega)]
  have:=xmp (show zn<=8 by omega) (show wn<=8 by omega)
  simp;omega
 have s1:=λm=>xh2 27 (L:=z) (S:=w) (L':=z) (S':=w) hp hq hlen m
 simp[mem0,h0.one,xe5,hsm,cl,eb,x90,hb.one,ep,ei,cAp,tR,mkM,show Nat.blt 0 1=true from rfl,x80,disj,h0.clean1,hb.clean1,clean,hp.one]
 unfold x23 x1p
 rw[c]at ec
 simp[c0,we,hc,ec,s1,eb,eq,hb.one,hp.one,h0.one,x90,cAp,tR,mkM,show Nat.blt 0 1=true from rfl,x80,disj,h0.clean1,hb.clean1,clean]
end Go.Ix
