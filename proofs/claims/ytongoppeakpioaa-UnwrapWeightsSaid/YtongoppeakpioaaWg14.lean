import Derived.Test.YtongoppeakpioaaRows
import Derived.Test.YtongoppeakpioaaFxLaw
import Derived.Test.YtongoppeakpioaaWg13
set_option maxRecDepth 100000
namespace Go.Proofs.Ytongoppeakpioaa
open Go.ChangeShapes Go.WideShapes Go.ChangeAt Go.RowKit Go.Ix
theorem Try.own:ownKnob Try.prog.godebug=none:=by kernel_rfl
theorem Try.laidOut:laidOutB Try.prog=true:=by kernel_rfl
theorem int_in{a:AV}(h:ArgSh Try.prog x4n a):∃n,a=I n:=by
 obtain⟨n,h,-⟩:=h.int (t:=x4n) (k:=.i64) (by kernel_rfl)
 exact⟨n,h⟩
theorem sh_f5{q:List AV}(h:Sh Try.prog x6 q):∃x,q=f5E x:=by
 have e:Try.prog.underlying x6=some (.float .f32):=by kernel_rfl
 cases h with
 |float h' b wf=>rw[e]at h';cases h';exact⟨b,rfl⟩
 |string h'=>rw[e]at h';cases h'
 |int h'=>rw[e]at h';cases h'
 |nilS h'=>rw[e]at h';cases h'
 |slice h'=>rw[e]at h';cases h'
 |bool h'=>rw[e]at h';cases h'
 |struct h'=>rw[e]at h';cases h'
 |array h'=>rw[e]at h';cases h'
theorem sl_sh5{α:Type}{enc:α->List AV}{P:Program}{t e:TypeId}{z:AV}(ht:P.underlying t=some (.slice e))(hr:∀r,r.length=P.cellsOf e->Sh P e r->∃x,r=enc x)(f:Sh P t [z]):∃l,Sl enc z l:=by
 rcases Sh.slice_inv ht f with h1|⟨rows,x,h1,h2,h3,h4⟩
 .simp at h1;exact⟨[],Or.inl ⟨h1,rfl⟩⟩
 .obtain⟨l,rfl⟩:=xdh (enc:=enc) λr hm=>hr r (h2 r hm) (h3 r hm)
  simp at h1
  exact⟨l,Or.inr ⟨x,by simpa[List.flatMap]using h1⟩⟩
theorem f5s_in{a:AV}(h:ArgSh Try.prog x8 a):∃l,Sl f5E a l:=sl_sh5 (e:=x6) (by kernel_rfl) (λ_ _ hr=>sh_f5 hr) (h.slice (t:=x8) (e:=x6) (by kernel_rfl))
end Go.Proofs.Ytongoppeakpioaa
set_option linter.unusedSimpArgs false
set_option linter.unusedVariables false
set_option exponentiation.threshold 3000
set_option maxRecDepth 10000
namespace Go.Ix
open Go.Proofs
theorem sz_0{r c n:Int}(h:x4l r c n=0):1<=r/\r<=64/\1<=c/\c<=64/\n=r*c:=by
 unfold x4l at h
 cases h1:wi r 1 64
 .rw[h1]at h;simp at h
 cases h2:wi c 1 64
 .rw[h1,h2]at h;simp at h
 rw[h1,h2]at h
 have h:n=r*c:=by
  by_cases e:n=r*c
  .exact e
  .simp[e]at h
 have a:=wi_t h1
 have b:=wi_t h2
 exact⟨a.1,a.2,b.1,b.2,h⟩
theorem ac_len{r c:Int}(hr:1<=r)(hc:1<=c):((sideL (acrossS c) 1 (r*c).toNat 0).length:Int)=r*(c-1):=by
 have h:(r*c).toNat=r.toNat*c.toNat:=Int.toNat_mul (by omega) (by omega)
 have h1:=xbk hc r.toNat 0
 rw[Int.zero_mul]at h1
 rw[h,h1,x9u,Int.natCast_mul]
 rw[show((r.toNat:Nat):Int)=r by omega,show((c.toNat-1:Nat):Int)=c-1 by omega]
theorem x8y:∀l:List Int,l.flatMap intE=l.map (λx=>I x)
 |[]=>rfl
 |x::r=>by rw[xhr,x8y r];rfl
theorem xed{objs:Id->Option Ob}{id:Id}{ver off n k:Nat}{L:List Int}{b f:Bool}(hg:objs id=some (.row (L.flatMap intE) ver b))(h:off+n<=L.length):Go.Ix.frz objs (k+2) (.sref id ver off n 1 f)=some (.slit (((L.drop off).take n).flatMap intE) n false):=by
 have e:((L.flatMap intE).drop off).take (n*1)=((L.drop off).take n).flatMap intE:=by
  rw[x8y,x8y,Nat.mul_one,List.map_take,List.map_drop]
 have e2:(((L.drop off).take n).flatMap intE).mapM (Go.Ix.frz objs (k+1))=some (((L.drop off).take n).flatMap intE):=x7i λa ha=>by
  obtain⟨x,-,hx⟩:=xhi.mp ha
  rcases xje.mp hx with rfl
  rfl
 have hl:off+n*1<=(L.flatMap intE).length:=by rw[x8y,xhs];omega
 show(match objs id with
  |some (.row cs v _)=>if v=ver/\off+n*1<=cs.length then(((cs.drop off).take (n*1)).mapM (Go.Ix.frz objs (k+1))).map λl=>AV.slit l n false else none
  |_=>none)=_
 rw[hg]
 show(if ver=ver/\off+n*1<=(L.flatMap intE).length then _ else _)=_
 rw[xgh ⟨rfl,hl⟩,e,e2]
 rfl
theorem sl3_nil:sSl3 Try.prog x7 nilS none (I 0) (I 0)=some nilS:=by kernel_rfl
theorem slo_nil:x7e Try.prog x7 nilS (some (I 0)) none=some nilS:=by kernel_rfl
theorem sl3_sref{id:Id}{ver n:Nat}{full:Bool}{hi:Nat}(h2:hi<=n):sSl3 Try.prog x7 (.sref id ver 0 n 1 full) none (I hi) (I hi)=some (.sref id ver 0 hi 1 false):=by
 obtain⟨i,e1,e2⟩:=xe7
 simp only[sSl3,x3s,x6u,e1,asI,Option.getD_none]
 rw[xgh ⟨by omega,by omega,by omega,by first|rfl|trivial,e2.symm⟩]
 simp
theorem lo_sref{id:Id}{ver n:Nat}{full:Bool}{lo:Nat}(h2:lo<=n):x7e Try.prog x7 (.sref id ver 0 n 1 full) (some (I lo)) none=some (.sref id ver lo (n-lo) 1 full):=by
 have:=slice_lo (id:=id) (ver:=ver) (off:=0) (n:=n) (full:=full) (lo:=(lo:Int)) (by omega) (by omega)
 rw[this]
 simp
def WT(E:Int)(A D:List Int)(v:AV):Prop:=∃a b,Ints a (if E≠0 then[]else A)/\Ints b (if E≠0 then[]else D)/\v=.tup [a,b,I E]
theorem WT.err{E:Int}{A D:List Int}{m:Mem}(h:E≠0):RetF (WT E A D) (some (.tup [nilS,nilS,I E],m)):=
 RetF.tup rfl ⟨nilS,nilS,by rw[xgh h];exact Or.inl ⟨rfl,rfl⟩,by rw[xgh h];exact Or.inl ⟨rfl,rfl⟩,rfl⟩
theorem xg0(d:Nat)(r c:Int){a:AV}{l:List Nat}(h:Sl f5E a l)(hl:l.length<=1000) :
 RetF (WT (wtE r c l) (wAc r c (l.map fvl)) (wDn r c (l.map fvl))) (x3q (d+5) [] xn [.agg [I r,I c,a]] mem0):=by
 rw[x2u]
 unfold x1y x1a
 have ho:(AV.agg [I r,I c,a]).cells.all AV.one=true:=by rw[xb7];simp[h.one]
 simp only[mem0,xbd,ho,x58]
 generalize hm1:Mem.new _ _ _=m1
 have hg:m1.get (0,0,1)=some (.row [I r,I c,a] 0 false):=by rw[<-hm1,Mem.get_new_same];rfl
 have hn1:m1.next=1:=by rw[<-hm1];rfl
 have hsz:x3u (x3q (d+4)) xf [I r,I c,I l.length] m1=some (I (x4l r c l.length),m1):=w_sizeErr (d+2) r c l.length m1
 simp only[x4u,x3y,x4c hg,xgr,xgq,xhc,rd_f,List.head?_cons,h.len u_f5,hsz,sNe_I,sGt_I]
 by_cases c1:x4l r c l.length=0
 rotate_left
 .simp only[c1,xho,xhh,x4f]
  have e:wtE r c l=x4l r c l.length:=by unfold wtE;rw[xgh c1]
  rw[<-e]
  rw[<-e]at c1
  exact WT.err c1
 obtain⟨r0,r1,c0,c2,hlen⟩:=sz_0 c1
 simp only[c1,xhm,xht,x4k]
 by_cases c3:144<l.length
 .simp only[show(144:Int)<(l.length:Int) by omega,xhm,x4f]
  have e:wtE r c l=8:=by unfold wtE;rw[xgi (by simp[c1]),xgh c3]
  rw[e]
  exact WT.err (by decide)
 have hwt:wtE r c l=fE l:=by unfold wtE;rw[xgi (by simp[c1]),xgi c3]
 simp only[show ¬(144:Int)<(l.length:Int) by omega,xho,x4k]
 unfold x2f
 simp only[x4u,x3y,x4c hg,xgr,xgq,xhc,rd_f,List.head?_cons,h.len u_f5]
 refine l_wck d [] 0 (t1:=.ptr (0,0,1) 0 0) h hl (RetF (WT (wtE r c l) (wAc r c (l.map fvl)) (wDn r c (l.map fvl)))) (λm e he h0=>?_) m1 (λfc hE=>?_) l 0 NN _ rfl (by rw[x7k];omega) rfl
 .rw[hwt,he];exact WT.err h0
 unfold x18 x2e
 obtain⟨m5,hm5⟩:∃m5:Mem,m5=m1.new (0,fc,9) (.row [nilS] 0 false):=⟨_,rfl⟩
 have g1:m5.get (0,0,1)=some (.row [I r,I c,a] 0 false):=by rw[hm5,Mem.get_new_ne (by simp)];exact hg
 have g2:m5.get (0,fc,9)=some (.row [nilS] 0 false):=by rw[hm5,Mem.get_new_same]
 have hsd:x3u (x3q (d+4)) xp [I r,I c] m5=some (.clo xb [.plit [I c],.plit [I r]],m5):=by
  refine xdz (m':=((⟨[],1⟩:Mem).new (0,0,2) (.row [I r] 0 false)).new (0,1,3) (.row [I c] 0 false)) (r:=.clo xb [.ptr (0,1,3) 0 0,.ptr (0,0,2) 0 0]) rfl ?_ ?_
  .rw[x30]
   unfold x24 x1l
   simp[mem0]
  .rfl
 have hzs:x2r=[nilS]:=by kernel_rfl
 simp only[xbb,hzs,<-hm5,x4u,x3y,x4c g1,xgr,xgq,xhc,rd_f,List.head?_cons,hsd]
 unfold x2d
 simp only[sRng]
 have hsl:=xeb r0 c0
 have hac:=ac_len r0 c0
 have hrc:=x83 (wi_iff.mpr ⟨r0,r1⟩) (wi_iff.mpr ⟨c0,c2⟩)
 have q1:r*(c-1)=r*c-r:=by rw[Int.mul_sub];omega
 have q2:(r-1)*c=r*c-c:=by rw[Int.sub_mul];omega
 obtain⟨H,hH⟩:∃H:List AV->Mem->Option Mem,H=λargs m=>bif Nat.beq args.length 2&&true then x10 (x3q (d+4)) [] m.next (.ptr (0,0,1) 0 0) (.ptr (0,fc,9) 0 0) (args.getD 1 U) ⟨m.hp,m.next+1⟩ 0 else none:=⟨_,rfl⟩
 obtain⟨m',hcall,hI⟩:=w_sides1 (d+3) (0,fc+1+5,0) rfl H [] r0 r1 c0 c2 (λk m=>WI r c a fc l k m) m5 ⟨g1,nilS,g2,by simp;exact Gk.nil⟩ (by
  intro k x m hx hI
  obtain⟨hk,hxe⟩:=xgx.mp hx
  have hb:=sides_in r0 c0 (hxe▸xi6 hk)
  obtain⟨m',h1,h2⟩:=w_wstep (x3q (d+4)) [] h hl hE hx (by omega) ⟨hb.1,by omega,hb.2.2.1,by omega⟩ hI
  rw[hH]
  exact⟨m',h1,h2⟩)
 rw[<-hH,hcall]
 obtain⟨k1,v,k2,G⟩:=hI
 rw[xik]at G
 unfold x2b
 have hw1:w64 (c-1)=c-1:=x53 (by omega) (by omega)
 have hw2:w64 (r*(c-1))=((sideL (acrossS c) 1 (r*c).toNat 0).length:Int):=by rw[x53 (by omega) (by omega)];omega
 have kv:sLd false 1 (.ptr (0,fc,9) 0 0) m'=some v:=by rw[x4c k2];rfl
 simp only[x3y,x4u,x4c k1,xgr,xgq,xhc,rd_f,List.head?_cons,sSub_I,hw1,x8r,hw2,kv]
 generalize hcnt:(sideL (acrossS c) 1 (r*c).toNat 0).length=cnt at *
 have hL:(sidesM r c).map (mn2 (l.map fvl))=wAc r c (l.map fvl)++wDn r c (l.map fvl):=by unfold sidesM wAc wDn;rw[xj0]
 have hA:(wAc r c (l.map fvl)).length=cnt:=by unfold wAc;rw[xhs,hcnt]
 rw[hL]at G
 have hE0:wtE r c l=0:=by rw[hwt,hE]
 rcases G with ⟨rfl,hnil⟩|⟨id,ver,-,rfl,hrow⟩
 .obtain⟨n1,n2⟩:=List.append_eq_nil_iff.mp hnil
  have hc0:cnt=0:=by rw[<-hA,n1];rfl
  subst hc0
  rw[show I ((0:Nat):Int)=I 0 from rfl,sl3_nil,x3y,slo_nil,x3y]
  refine RetF.tup rfl ⟨nilS,nilS,?_,?_,by rw[hE0]⟩
  .rw[n1];split<;>exact Or.inl ⟨rfl,rfl⟩
  .rw[n2];split<;>exact Or.inl ⟨rfl,rfl⟩
 .have hle:cnt<=(wAc r c (l.map fvl)++wDn r c (l.map fvl)).length:=by rw[xhu];omega
  rw[sl3_sref hle,x3y,lo_sref hle,x3y]
  have z1:=xed (k:=3) (off:=0) (n:=cnt) (f:=false) hrow (by omega)
  have z2:=xed (k:=3) (off:=cnt) (n:=(wAc r c (l.map fvl)++wDn r c (l.map fvl)).length-cnt) (f:=true) hrow (by omega)
  rw[xgq,<-hA,List.take_left]at z1
  have hD:((wAc r c (l.map fvl)++wDn r c (l.map fvl)).drop cnt).take ((wAc r c (l.map fvl)++wDn r c (l.map fvl)).length-cnt)=wDn r c (l.map fvl):=by
   rw[<-hA,List.drop_left,xhu,Nat.add_sub_cancel_left,xik]
  rw[hD]at z2
  have hlD:(wAc r c (l.map fvl)++wDn r c (l.map fvl)).length-cnt=(wDn r c (l.map fvl)).length:=by rw[xhu];omega
  rw[hlD]at z2 ⊢
  rw[<-hA]at z2 ⊢
  refine RetF.mk (xe6 z1 z2 frz_I) ⟨.slit ((wAc r c (l.map fvl)).flatMap intE) (wAc r c (l.map fvl)).length false,.slit ((wDn r c (l.map fvl)).flatMap intE) (wDn r c (l.map fvl)).length false,?_,?_,by rw[hE0]⟩
  .rw[xgi (by simp[hE0])];exact Sl.lit (enc:=intE) _ _
  .rw[xgi (by simp[hE0])];exact Sl.lit (enc:=intE) _ _
theorem Gr.at5{t:Nat}{m:Mem}{v:AV}{l:List Int}(h:Gr 1 intE 0 t m v l){k:Nat}(hk:k<l.length):∃p,sIx 1 v (I k)=some p/\sLd false 1 p m=some (I (at0 l k)):=by
 rcases h with ⟨rfl,rfl⟩|⟨s,ver,rfl,hg⟩
 .simp at hk
 .refine⟨.ptr (0,s,t) ver (0+k*1),by simp[sIx,asI,hk],?_⟩
  rw[x4c hg,x8y,xgr,Nat.mul_one,<-List.map_drop,x6f hk,xgu]
  rw[x80 hk]
  rfl
theorem Gr.frz5{t k:Nat}{m:Mem}{a:AV}{l:List Int}(h:Gr 1 intE 0 t m a l):∃a',Ints a' l/\Go.Ix.frz m.get (k+2) a=some a':=by
 have g:Gk 1 intE (λ_=>True) m a l:=by
  rcases h with h|⟨s,ver,h1,h2⟩
  .exact .inl h
  .exact .inr ⟨(0,s,t),ver,trivial,h1,h2⟩
 exact g.frz x7j xfr
structure RW (r c:Int) (a v6:AV) (v:List Int) (t:Nat) (m:Mem) (v8 v9:AV):Prop where
 s:m.get (0,0,1)=some (.row [I r,I c,a] 0 false)
 g6:Gr 1 intE 0 67 m v6 v
 g8:Gr 1 intE 0 103 m v8 ((sideL (acrossS c) 1 t 0).map (mn2 v))
 g9:Gr 1 intE 0 123 m v9 ((sideL (downS r c) c t 0).map (mn2 v))
theorem xa0(g:Int->Bool)(st:Int)(t:Nat):sideL g st (t+1) 0=sideL g st t 0++(bif g t then[]else[((t:Int),(t:Int)+st)]):=by
 rw[x9t g st t 1 0]
 simp only[sideL,Int.zero_add]
theorem x85(g:Int->Bool)(st:Int):∀(t:Nat) (k:Int),(sideL g st t k).length<=t
 |0,_=>xgo _
 |t+1,k=>by
  have:=x85 g st t (k+1)
  rw[sideL]
  cases g k<;>simp<;>omega
theorem mn2_at{v:List Int}{i j:Nat}:mn2 v ((i:Int),(j:Int))=if at0 v j<at0 v i then at0 v j else at0 v i:=by
 unfold mn2
 simp only[xk2]
theorem l_rw1(call:x3p)(hs:FHs){r c:Int}{a v6:AV}{v:List Int}(r0:1<=r)(r1:r<=64)(c0:1<=c)(c1:c<=64)(hv:(v.length:Int)=r*c)(rec0:x55){q:Nat}(hq:(q:Int)<r) :
 ∀(s k j:Nat) (v8 v9:AV) (m:Mem) (fc:Nat),(k:Int)+s=c->s<j->RW r c a v6 v (q*c.toNat+k) m v8 v9 ->
 ∃v8' v9' m' fc',xk call hs 0 rec0 j (.ptr (0,0,1) 0 0) v6 v8 v9 (I q) (I k) m fc=rec0 (.ptr (0,0,1) 0 0) v6 v8' v9' (I ((q+1:Nat):Int)) m' fc'/\RW r c a v6 v ((q+1)*c.toNat) m' v8' v9':=by
 have hct:((c.toNat:Nat):Int)=c:=by omega
 have hrc:=x83 (wi_iff.mpr ⟨r0,r1⟩) (wi_iff.mpr ⟨c0,c1⟩)
 have hq1:w64 ((q:Int)+1)=((q+1:Nat):Int):=by rw[x53 (by omega) (by omega)];omega
 have hqc:((q:Int)+1)*c<=r*c:=xk6 (by omega) (by omega)
 rw[xi8,xiz]at hqc
 have hqn:0<=(q:Int)*c:=xjl (by omega) (by omega)
 have hqcN:((q*c.toNat:Nat):Int)=(q:Int)*c:=by rw[Int.natCast_mul,hct]
 intro s
 induction s with
 |zero=>
  intro k j v8 v9 m fc hk hj h
  obtain⟨j,rfl⟩:∃i,j=i+1:=⟨j-1,by omega⟩
  have hk':¬((k:Int)<c):=by omega
  simp only[xk]
  unfold x1b x2h
  simp only[x4u,x3y,x4c h.s,xgr,xgq,xhc,rd_f,List.head?_cons,x5n,hk',xho,x4k,x7h,hq1]
  have:q*c.toNat+k=(q+1)*c.toNat:=by rw[xhl];omega
  exact⟨v8,v9,m,_,rfl,this▸h⟩
 |succ s ih=>
  intro k j v8 v9 m fc hk hj h
  obtain⟨j,rfl⟩:∃i,j=i+1:=⟨j-1,by omega⟩
  have hk':(k:Int)<c:=by omega
  have hw1:w64 ((q:Int)*c)=((q*c.toNat:Nat):Int):=by rw[x53 (by omega) (by omega),hqcN]
  have hw2:w64 (((q*c.toNat:Nat):Int)+k)=((q*c.toNat+k:Nat):Int):=by rw[x53 (by omega) (by omega)];omega
  have hw3:w64 ((k:Int)+1)=((k+1:Nat):Int):=by rw[x53 (by omega) (by omega)];omega
  generalize ht:q*c.toNat+k=t at *
  have htn:(t:Int)=(q:Int)*c+k:=by omega
  have htl:t<v.length:=by omega
  have hmm:=x8x (q:=(q:Int)) (show 0<=(k:Int) by omega) hk'
  rw[<-htn]at hmm
  have eA:acrossS c (t:Int)=decide ((k:Int)=c-1):=by unfold acrossS;rw[hmm.1]
  have eD:downS r c (t:Int)=decide ((q:Int)=r-1):=by unfold downS;rw[hmm.2]
  obtain⟨pt,ixt,-⟩:=h.g6.at5 htl
  have lA:=x85 (acrossS c) 1 t 0
  have lD:=x85 (downS r c) c t 0
  have down:∀(v8':AV) (m1:Mem) (fc1:Nat),m1.get (0,0,1)=some (.row [I r,I c,a] 0 false)->Gr 1 intE 0 67 m1 v6 v->Gr 1 intE 0 103 m1 v8' ((sideL (acrossS c) 1 (t+1) 0).map (mn2 v))->Gr 1 intE 0 123 m1 v9 ((sideL (downS r c) c t 0).map (mn2 v)) ->
   ∃v8'' v9' m' fc',x12 call hs 0 rec0 (xk call hs 0 rec0 j) (.ptr (0,0,1) 0 0) v6 v8' v9 (I q) (I k) (I t) m1 fc1=rec0 (.ptr (0,0,1) 0 0) v6 v8'' v9' (I ((q+1:Nat):Int)) m' fc'/\RW r c a v6 v ((q+1)*c.toNat) m' v8'' v9':=by
   intro v8' m1 fc1 u1 u2 u3 u4
   unfold x12
   simp only[x7h,hq1,x3y,x4u,x4c u1,xgr,xgq,xhc,rd_f,List.head?_cons,x5n]
   by_cases cd:((q+1:Nat):Int)<r
   .have hnd:downS r c (t:Int)=false:=by rw[eD];exact xhv (by omega)
    have hrow:((q:Int)+1+1)*c<=r*c:=xk6 (by omega) (by omega)
    rw[xi8,xiz,xi8,xiz]at hrow
    have hwc:w64 ((t:Int)+c)=((t+c.toNat:Nat):Int):=by rw[x53 (by omega) (by omega)];omega
    have htc:t+c.toNat<v.length:=by omega
    obtain⟨p1,i1,d1⟩:=u2.at5 htl
    obtain⟨p2,i2,d2⟩:=u2.at5 htc
    have hmn:mn2 v ((t:Int),(t:Int)+c)=if at0 v (t+c.toNat)<at0 v t then at0 v (t+c.toNat)else at0 v t:=by
     rw[show(t:Int)+c=((t+c.toNat:Nat):Int) by omega,mn2_at]
    obtain⟨v9',m2,A,G9,n2,f2⟩:=u4.app x7j (by omega) (bytes:=8) (s0:=fc1+19) (by unfold x3x;simp;omega) (mn2 v ((t:Int),(t:Int)+c))
    rw[hmn]at A
    have hD9:(sideL (downS r c) c (t+1) 0).map (mn2 v)=(sideL (downS r c) c t 0).map (mn2 v)++[mn2 v ((t:Int),(t:Int)+c)]:=by rw[xa0,hnd,cond_false,xj0];rfl
    rw[<-hD9]at G9
    obtain⟨v8'',v9'',m',fc',r3,R3⟩:=ih (k+1) j v8' v9' m2 (fc1+21+3) (by omega) (by omega) ⟨by rw[f2 _ (by simp)];exact u1,u2.frame λs=>f2 _ (by simp),by rw[show q*c.toNat+(k+1)=t+1 by omega];exact u3.frame λs=>f2 _ (by simp),by rw[show q*c.toNat+(k+1)=t+1 by omega];exact G9⟩
    simp only[cd,xhm,x4f,i1,d1,hwc,i2,d2,sMin_I,x9z,el_i5,A,x3y,x11,x7h,hw3]
    exact⟨v8'',v9'',m',fc',r3,R3⟩
   .have hnd:downS r c (t:Int)=true:=by rw[eD];exact xgw (by omega)
    have hD9:(sideL (downS r c) c (t+1) 0).map (mn2 v)=(sideL (downS r c) c t 0).map (mn2 v):=by rw[xa0,hnd,cond_true,xiy]
    rw[<-hD9]at u4
    obtain⟨v8'',v9'',m',fc',r3,R3⟩:=ih (k+1) j v8' v9 m1 (fc1+5+3) (by omega) (by omega) ⟨u1,u2,by rw[show q*c.toNat+(k+1)=t+1 by omega];exact u3,by rw[show q*c.toNat+(k+1)=t+1 by omega];exact u4⟩
    simp only[cd,xho,x4k,x11,x7h,hw3,x3y]
    exact⟨v8'',v9'',m',fc',r3,R3⟩
  simp only[xk]
  unfold x1b x2j x2i
  simp only[x4u,x3y,x4c h.s,xgr,xgq,xhc,rd_f,List.head?_cons,x5n,hk',xhm,x4f,x8r,hw1,x7h,hw2,hw3]
  by_cases ca:((k+1:Nat):Int)<c
  .have hna:acrossS c (t:Int)=false:=by rw[eA];exact xhv (by omega)
   have hwt:w64 ((t:Int)+1)=((t+1:Nat):Int):=by rw[x53 (by omega) (by omega)];omega
   have ht1:t+1<v.length:=by omega
   obtain⟨p1,i1,d1⟩:=h.g6.at5 htl
   obtain⟨p2,i2,d2⟩:=h.g6.at5 ht1
   have hmn:mn2 v ((t:Int),(t:Int)+1)=if at0 v (t+1)<at0 v t then at0 v (t+1)else at0 v t:=by
    rw[show(t:Int)+1=((t+1:Nat):Int) by omega,mn2_at]
   obtain⟨v8',m2,A,G8,n2,f2⟩:=h.g8.app x7j (by omega) (bytes:=8) (s0:=fc+4+7+17) (by unfold x3x;simp;omega) (mn2 v ((t:Int),(t:Int)+1))
   rw[hmn]at A
   have hA8:(sideL (acrossS c) 1 (t+1) 0).map (mn2 v)=(sideL (acrossS c) 1 t 0).map (mn2 v)++[mn2 v ((t:Int),(t:Int)+1)]:=by rw[xa0,hna,cond_false,xj0];rfl
   rw[<-hA8]at G8
   simp only[ca,xhm,x4f,i1,d1,hwt,i2,d2,sMin_I,x9z,el_i5,A,x3y]
   exact down v8' m2 _ (by rw[f2 _ (by simp)];exact h.s) (h.g6.frame λs=>f2 _ (by simp)) G8 (h.g9.frame λs=>f2 _ (by simp))
  .have hna:acrossS c (t:Int)=true:=by rw[eA];exact xgw (by omega)
   have hA8:(sideL (acrossS c) 1 (t+1) 0).map (mn2 v)=(sideL (acrossS c) 1 t 0).map (mn2 v):=by rw[xa0,hna,cond_true,xiy]
   simp only[ca,xho,x4k]
   exact down v8 m _ h.s h.g6 (hA8▸h.g8) h.g9
theorem l_rw0(call:x3p)(hs:FHs){r c:Int}{a v6:AV}{v:List Int}(r0:1<=r)(r1:r<=64)(c0:1<=c)(c1:c<=64)(hv:(v.length:Int)=r*c) :
 ∀(s q j:Nat) (v8 v9:AV) (m:Mem) (fc:Nat),(q:Int)+s=r->s<j->RW r c a v6 v (q*c.toNat) m v8 v9 ->
 ∃v8' v9' m',xl call hs 0 j (.ptr (0,0,1) 0 0) v6 v8 v9 (I q) m fc=some (.tup [v8',v9',I 0],m')/\RW r c a v6 v (r.toNat*c.toNat) m' v8' v9':=by
 intro s
 induction s with
 |zero=>
  intro q j v8 v9 m fc hq hj h
  obtain⟨j,rfl⟩:∃i,j=i+1:=⟨j-1,by omega⟩
  have hq':¬((q:Int)<r):=by omega
  simp only[xl]
  unfold x1c x2g
  simp only[x4u,x3y,x4c h.s,xgr,xgq,xhc,rd_f,List.head?_cons,x5n,hq',xho,x4k]
  exact⟨v8,v9,m,rfl,by rw[show r.toNat=q by omega];exact h⟩
 |succ s ih=>
  intro q j v8 v9 m fc hq hj h
  obtain⟨j,rfl⟩:∃i,j=i+1:=⟨j-1,by omega⟩
  have hq':(q:Int)<r:=by omega
  obtain⟨w8,w9,m1,fc1,r1',R1⟩:=l_rw1 call hs r0 r1 c0 c1 hv (xl call hs 0 j) hq' c.toNat 0 NN v8 v9 m (fc+4+1) (by omega) (by rw[x7k];omega) h
  obtain⟨w8',w9',m2,r2,R2⟩:=ih (q+1) j w8 w9 m1 fc1 (by omega) (by omega) R1
  rw[show I ((0:Nat):Int)=I 0 from rfl]at r1'
  simp only[xl]
  unfold x1c x2k
  simp only[x4u,x3y,x4c h.s,xgr,xgq,xhc,rd_f,List.head?_cons,x5n,hq',xhm,x4f]
  rw[r1',r2]
  exact⟨w8',w9',m2,rfl,R2⟩
theorem l_rw2(d:Nat)(hs:FHs){r c:Int}{a:AV}{l:List Nat}(h:Sl f5E a l)(hl:l.length<=1000)(Q:O2->Prop)(hno:∀m e,fE l=e->e≠0->Q (some (.tup [nilS,nilS,I e],m)))(hok:∀v6 m fc,fE l=0->m.get (0,0,1)=some (.row [I r,I c,a] 0 false)->Gr 1 intE 0 67 m v6 (l.map fvl)->Q (x1d (x3q (d+1)) hs 0 (.ptr (0,0,1) 0 0) v6 m fc)) :
 ∀(suf:List Nat) (k j:Nat) (v6:AV) (m:Mem) (fc:Nat),l.drop k=suf->suf.length<j->k<=l.length->fE suf=fE l->m.get (0,0,1)=some (.row [I r,I c,a] 0 false)->Gr 1 intE 0 67 m v6 ((l.take k).map fvl) ->
 Q (xv (x3q (d+1)) hs 0 j (.ptr (0,0,1) 0 0) v6 (I k) m fc):=by
 intro suf
 induction suf with
 |nil=>
  intro k j v6 m fc hd hj hkl hE hm hG
  obtain⟨j,rfl⟩:∃i,j=i+1:=⟨j-1,by simp at hj;omega⟩
  have hk0:=xjm.mp hd
  have hk:¬((k:Int)<(l.length:Int)):=by omega
  rw[xhe hk0]at hG
  simp only[xv]
  unfold x1e
  simp only[x4u,x3y,x4c hm,xgr,xgq,xhc,rd_f,List.head?_cons,h.len u_f5,x5n,hk,xho,x4k]
  exact hok _ _ _ hE.symm hm hG
 |cons e r2 ih=>
  intro k j v6 m fc hd hj hkl hE hm hG
  obtain⟨j,rfl⟩:∃i,j=i+1:=⟨j-1,by simp at hj;omega⟩
  obtain⟨hk,he,hd1⟩:=x8s hd
  have hk':(k:Int)<(l.length:Int):=by omega
  have ix:=h.ix f5L hk
  have ld:∀m,sLd false 1 (.plit ((l.drop k).flatMap f5E)) m=some (F32 e):=λm=>by rw[x6f hk,xhr,he];rfl
  have hw:w64 ((k:Int)+1)=((k+1:Nat):Int):=by rw[x53 (by omega) (by omega)];omega
  obtain⟨x,ex,hx⟩:=s_f2f e
  have ex':sCvt Try.prog x6 x3 (F32 e)=some x:=ex
  have hwh:=w_IsWhole hx d m
  have l0:sBin Try.prog .lss x6 (.tmp 49) (.const (.float .f32 0)) (F32 e) (AV.sc (.float .f32 0))=_:=s_cmp32 rfl e 0
  have g0:sBin Try.prog .gtr x6 (.tmp 56) (.const (.float .f32 1148846080)) (F32 e) (AV.sc (.float .f32 1148846080))=_:=s_cmp32 rfl e 1148846080
  rw[fcs_0]at l0
  rw[fcs_1000]at g0
  rw[fE]at hE
  simp only[xv]
  unfold x1e
  simp only[x4u,x3y,x4c hm,xgr,xgq,xhc,rd_f,List.head?_cons,h.len u_f5,x5n,hk',xhm,x4f,ix,ld,ex',hwh,sNot_B]
  cases c1:(fcs e).whole with
  |false=>
   rw[c1,cond_false]at hE
   simp only[xhh,x4f]
   exact hno m 29 hE.symm (by decide)
  |true=>
   rw[c1,cond_true]at hE
   obtain⟨s,V,hc⟩:=x9x c1
   rw[hc]at l0 g0
   rw[lss_0]at l0
   rw[xec]at g0
   have hout:(fcs e).out=(decide (sg s V<0)||decide ((x5a:Int)<sg s V)):=by rw[hc];rfl
   simp only[xht,x4k,x4u,x3y,x4c hm,xgr,xgq,xhc,rd_f,List.head?_cons,ix,ld,l0]
   cases c3:decide (sg s V<0)
   .rw[c3,Bool.false_or]at hout
    simp only[x7z,sGo_eq,sW_f,xhh,x58,x3y,x4u,x4c hm,xgr,xgq,xhc,rd_f,List.head?_cons,ix,ld,g0,x6g,x6t]
    cases c4:decide ((x5a:Int)<sg s V)
    .rw[c4]at hout
     rw[hout,cond_false]at hE
     have hcv:=s_f32i hc hout
     obtain⟨v',m1,A,G1,n1,fr⟩:=hG.app x7j (by omega) (bytes:=8) (s0:=fc+35) (by unfold x3x;simp;omega) (fvl e)
     rw[show(l.take k).map fvl++[fvl e]=(l.take (k+1)).map fvl by rw[xk5 hk,he,xj0];rfl]at G1
     simp only[x4k,x4u,x3y,x4c hm,xgr,xgq,xhc,rd_f,List.head?_cons,ix,ld,hcv,x9z,el_i5,A,x7h,hw]
     exact ih (k+1) j v' m1 _ hd1 (by simp at hj;omega) hk hE (by rw[fr _ (by simp)];exact hm) G1
    .rw[c4]at hout
     rw[hout,cond_true]at hE
     simp only[x4f]
     exact hno m 2 hE.symm (by decide)
   .rw[c3,xjh]at hout
    rw[hout,cond_true]at hE
    simp only[x7z,sGo_eq,sW_f,xht,x6g,x58,x3y,x6t,x4f]
    exact hno m 2 hE.symm (by decide)
theorem xg1(d:Nat)(r c:Int){a:AV}{l:List Nat}(h:Sl f5E a l)(hl:l.length<=1000) :
 RetF (WT (wtE r c l) (wAc r c (l.map fvl)) (wDn r c (l.map fvl))) (x3q (d+3) [] xo [.agg [I r,I c,a]] mem0):=by
 rw[x2v]
 unfold x1z x1f
 have ho:(AV.agg [I r,I c,a]).cells.all AV.one=true:=by rw[xb7];simp[h.one]
 simp only[mem0,xbd,ho,x58]
 generalize hm1:Mem.new _ _ _=m1
 have hg:m1.get (0,0,1)=some (.row [I r,I c,a] 0 false):=by rw[<-hm1,Mem.get_new_same];rfl
 have hsz:x3u (x3q (d+2)) xi [I r,I c,I l.length] m1=some (I (x4l r c l.length),m1):=xfu d r c l.length m1
 simp only[x4u,x3y,x4c hg,xgr,xgq,xhc,rd_f,List.head?_cons,h.len u_f5,hsz,sNe_I,sGt_I]
 by_cases c1:x4l r c l.length=0
 rotate_left
 .simp only[c1,xho,xhh,x4f]
  have e:wtE r c l=x4l r c l.length:=by unfold wtE;rw[xgh c1]
  rw[<-e]
  rw[<-e]at c1
  exact WT.err c1
 obtain⟨r0,r1,c0,c2,hlen⟩:=sz_0 c1
 have hrc:=x83 (wi_iff.mpr ⟨r0,r1⟩) (wi_iff.mpr ⟨c0,c2⟩)
 have hwm:w64 (r*c)=l.length:=by rw[x53 (by omega) (by omega)];omega
 simp only[c1,xhm,xht,x4k,x4u,x3y,x4c hg,xgr,xgq,xhc,rd_f,List.head?_cons,x8r,hwm,sGt_I]
 by_cases c3:144<l.length
 .simp only[show(144:Int)<(l.length:Int) by omega,xhm,x4f]
  have e:wtE r c l=8:=by unfold wtE;rw[xgi (by simp[c1]),xgh c3]
  rw[e]
  exact WT.err (by decide)
 have hwt:wtE r c l=fE l:=by unfold wtE;rw[xgi (by simp[c1]),xgi c3]
 simp only[show ¬(144:Int)<(l.length:Int) by omega,xho,x4k]
 unfold x2m
 refine l_rw2 (d+1) [] (r:=r) (c:=c) h hl (RetF (WT (wtE r c l) (wAc r c (l.map fvl)) (wDn r c (l.map fvl)))) (λm e he h0=>?_) (λv6 m fc hE hm hG=>?_) l 0 NN nilS m1 _ rfl (by rw[x7k];omega) (xj9 _) rfl hg Gr.nil
 .rw[hwt,he];exact WT.err h0
 unfold x1d x2l
 have hrt:(r*c).toNat=r.toNat*c.toNat:=Int.toNat_mul (by omega) (by omega)
 obtain⟨v8,v9,m',r5,R5⟩:=l_rw0 (x3q (d+2)) [] (v:=l.map fvl) r0 r1 c0 c2 (by rw[xhs];omega) r.toNat 0 NN nilS nilS m (fc+2+1) (by omega) (by rw[x7k];omega) ⟨hm,hG,by rw[xh5];exact Gr.nil,by rw[xh5];exact Gr.nil⟩
 rw[show I ((0:Nat):Int)=I 0 from rfl]at r5
 rw[r5]
 obtain⟨b8,i8,z8⟩:=R5.g8.frz5 (k:=3)
 obtain⟨b9,i9,z9⟩:=R5.g9.frz5 (k:=3)
 have hE0:wtE r c l=0:=by rw[hwt,hE]
 refine RetF.mk (xe6 z8 z9 frz_I) ⟨b8,b9,?_,?_,by rw[hE0]⟩
 .rw[xgi (by simp[hE0])];unfold wAc;rw[hrt];exact i8
 .rw[xgi (by simp[hE0])];unfold wDn;rw[hrt];exact i9
end Go.Ix
