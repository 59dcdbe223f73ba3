import Derived.Test.YtjdlceelbnaneaaWg16
set_option linter.unusedSimpArgs false
set_option linter.unusedVariables false
namespace Go.Ix
open Go.Proofs
attribute [local simp high] rd_5
variable{a:AV}{l:List Mp}
theorem eq_aff(X Y:Operand)(f:Aff):sBin Try.prog .eql x7 X Y (.agg f.c) (.agg f.c)=some (B true):=by
 obtain⟨n,a0,a1,a2,b0,b1,b2⟩:=f
 have hS:Try.prog.underlying x7=some (.struct (Try.prog.fieldsOf x7)):=by kernel_rfl
 have hp:Try.prog.stoodInHeld x7=false:=by kernel_rfl
 have hF:((Try.prog.fieldsOf x7).toList.map λf=>(f.type,f.offset,decide (f.name = "_")))=[(xac,0,false),(xh,1,false),(xh,4,false)]:=by kernel_rfl
 have u3:Try.prog.underlying xh=some (.array 3 xac):=by kernel_rfl
 have p0:x7t Try.prog (part xac #[.int .i64 n,.int .i64 a0,.int .i64 a1,.int .i64 a2,.int .i64 b0,.int .i64 b1,.int .i64 b2] 0)=some (.int .i64 n):=by kernel_rfl
 have p1:x7t Try.prog (part xh #[.int .i64 n,.int .i64 a0,.int .i64 a1,.int .i64 a2,.int .i64 b0,.int .i64 b1,.int .i64 b2] 1)=some (.agg #[.int .i64 a0,.int .i64 a1,.int .i64 a2]):=by kernel_rfl
 have p2:x7t Try.prog (part xh #[.int .i64 n,.int .i64 a0,.int .i64 a1,.int .i64 a2,.int .i64 b0,.int .i64 b1,.int .i64 b2] 4)=some (.agg #[.int .i64 b0,.int .i64 b1,.int .i64 b2]):=by kernel_rfl
 have key:x7t Try.prog (Op.equalIn 10000 x7 (.agg #[.int .i64 n,.int .i64 a0,.int .i64 a1,.int .i64 a2,.int .i64 b0,.int .i64 b1,.int .i64 b2]) (.agg #[.int .i64 n,.int .i64 a0,.int .i64 a1,.int .i64 a2,.int .i64 b0,.int .i64 b1,.int .i64 b2]))=some true:=by
  rw[show(10000:Nat)=9997+1+1+1 from rfl,xj6 _ _ _ _ hS hp]
  generalize (Try.prog.fieldsOf x7).toList=fs at hF
  have hl:=congrArg List.length hF
  simp only[xmg,xkn,xlx]at hl
  match fs,hl with
  |[f0,f1,f2],_=>
   simp only[xkl,xl0,xmt,xka,and_true,decide_eq_false_iff_not]at hF
   obtain⟨⟨t0,o0,n0⟩,⟨t1,o1,n1⟩,t2,o2,n2⟩:=hF
   have q1:x7t Try.prog (Op.equalIn 9999 xh (.agg #[.int .i64 a0,.int .i64 a1,.int .i64 a2]) (.agg #[.int .i64 a0,.int .i64 a1,.int .i64 a2]))=_:=eqArr3 u3 9997 a0 a1 a2 a0 a1 a2
   have q2:x7t Try.prog (Op.equalIn 9999 xh (.agg #[.int .i64 b0,.int .i64 b1,.int .i64 b2]) (.agg #[.int .i64 b0,.int .i64 b1,.int .i64 b2]))=_:=eqArr3 u3 9997 b0 b1 b2 b0 b1 b2
   have q0:x7t Try.prog (Op.equalIn 9999 xac (.int .i64 n) (.int .i64 n))=some (n == n):=xf7 _ _ _ _ _ _ xf8
   simp only[Op.eqFields,n0,n1,n2,ne_eq,not_false_eq_true,xl3,t0,t1,t2,o0,o1,o2,x8t,p0,p1,p2,x8a,q0,q1,q2]
   simp[xab,x8t,p1,p2,q1,q2]
 exact xj8 (x:=X) (y:=Y) (xs:=[.int .i64 n,.int .i64 a0,.int .i64 a1,.int .i64 a2,.int .i64 b0,.int .i64 b1,.int .i64 b2]) (ys:=[.int .i64 n,.int .i64 a0,.int .i64 a1,.int .i64 a2,.int .i64 b0,.int .i64 b1,.int .i64 b2]) (by kernel_rfl) key _ _ rfl rfl
def affZ:Aff:=⟨0,0,0,0,0,0,0⟩
def fitE(l:List Mp):Int:=if(x80 l).2=0 then(if rkM l=3 then 0 else 30)else(x80 l).2
def fitA(l:List Mp):Aff:=if fitE l=0 then fitM l else affZ
theorem rkM_le(l:List Mp):0<=rkM l/\rkM l<=3:=by
 cases l with
 |nil=>simp[rkM]
 |cons f r=>rcases rkM_ok f r with ⟨h,-⟩|⟨_,_,_,h,-⟩|⟨_,_,_,_,h,-⟩<;>omega
theorem w_Fit(d:Nat)(ha:Pts a l)(hl:l.length<=1000)(h13:(x80 l).2=0->l.length<=13)(m:Mem):x7s (x7q (d+6)) x17 [a] m=some (.tup [.agg (fitA l).c,I (fitE l)],m):=by
 refine x87 (by simp[ha.still]) ?_ m
 rw[x68]
 unfold x43 x2p
 have eb:x8g [I 0,I 0,I 0,I 0,I 0,I 0,I 0] []=some (.agg [I 0,I 0,I 0,I 0,I 0,I 0,I 0]):=by simp[x8g,x9c]
 simp[mem0,xb3,xdu d ha hl,eb]
 by_cases c:(x80 l).2=0
 rotate_left
 .have e:fitE l=(x80 l).2:=by unfold fitE;rw[xk9 c]
  have e2:fitA l=affZ:=by unfold fitA;rw[e,xk9 c]
  simp[c,e,e2]
  exact RetF.tup rfl rfl
 obtain⟨-,-,hin⟩:=xc5 c
 have hr:=rkM_le l
 by_cases c3:rkM l=3
 .have e:fitE l=0:=by unfold fitE;rw[xk8 c,xk8 c3]
  have e2:fitA l=fitM l:=by unfold fitA;rw[xk8 e]
  have hf:=w_fit3 (d+2) ha (h13 c) hin (rk_det c3)
  simp only[Aff.c]at hf
  simp[c,xfd (d+3) ha hl hin,c3,hf,e,e2,Aff.c]
  exact RetF.tup rfl rfl
 .have e:fitE l=30:=by unfold fitE;rw[xk8 c,xk9 c3]
  have e2:fitA l=affZ:=by unfold fitA;rw[e,xk9 (by omega)]
  have c4:rkM l<3:=by omega
  simp[c,xfd (d+3) ha hl hin,c4,e,e2]
  exact RetF.tup rfl rfl
theorem xdz{f:Aff}(ha:Pts a l)(h12:(x80 l).2=0->l.length<=12)(hl:l.length<=1000){M:Mem}{fc:Nat}(g3:M.get (0,0,3)=some (.row [I f.den,I f.l0,I f.l1,I f.l2,I f.s0,I f.s1,I f.s2] 0 false))(g7:M.get (0,21,7)=some (.row [I (fitA l).den,I (fitA l).l0,I (fitA l).l1,I (fitA l).l2,I (fitA l).s0,I (fitA l).s1,I (fitA l).s2] 0 false)){w v:Int}(hv:v≠0->w=0)(h0:v=0->w=(wM f 0 (0,-1) l).1/\AffIn f/\x85 l) :
 ∃m',x1x (x7q 30) [] 0 a (.ptr (0,0,3) 0 0) (I (if(x80 l).2=0 then rkM l else 0)) (I (x80 l).2) (.ptr (0,21,7) 0 0) (I (fitE l)) (I w) (I v) (I (x80 l).2) (I v) M fc=some (B true,m'):=by
 have eb:x8g [I 0,I 0,I 0,I 0,I 0,I 0,I 0] []=some (.agg affZ.c):=by simp[x8g,x9c,affZ,Aff.c]
 have ez:∀X Y f,sBin Try.prog .eql x7 X Y (.agg [I (Aff.den f),I f.l0,I f.l1,I f.l2,I f.s0,I f.s1,I f.s2]) (.agg [I f.den,I f.l0,I f.l1,I f.l2,I f.s0,I f.s1,I f.s2])=some (B true):=λX Y f=>eq_aff X Y f
 have rest:∀fc':Nat,∃m',((sNe (I (x80 l).2) (I 0)).bind λt75=>
  x7u t75
  ((sEq (I (x80 l).2) (I (x80 l).2)).bind λt78=>
  sGv t78 true (I (fitE l)) M λp80=>
  sGv t78 true (I (x80 l).2) p80.2 λp81=>
  sGo t78 true (sEq p80.1 p81.1) p81.2 λp82=>
  (x82 t78 p82.1 (B false)).bind λt83=>
  sGv t83 true (I (if(x80 l).2=0 then rkM l else 0)) p82.2 λp85=>
  sGo t83 true (sEq p85.1 (I 0)) p85.2 λp86=>
  (x82 t83 p86.1 (B false)).bind λt87=>
  sGo t87 true (sLd true 7 (.ptr (0,21,7) 0 0) p86.2) p86.2 λp89=>
  sGo t87 true (x8g xb []) p89.2 λp90=>
  sGo t87 true (sBin Try.prog .eql x7 (.tmp 89) (.tmp 90) p89.1 p90.1) p90.2 λp91=>
  (x82 t87 p91.1 (B false)).bind λt92=>
  some (t92,p91.2))
  ((x7s (x7q 30) xz [a] M).bind λp94=>
  (sNe (I (x80 l).2) (I 0)).bind λt96=>
  sGv t96 false (I (if(x80 l).2=0 then rkM l else 0)) p94.2 λp98=>
  sGv t96 false p94.1 p98.2 λp99=>
  sGo t96 false (sNe p98.1 p99.1) p99.2 λp100=>
  (x82 t96 (B true) p100.1).bind λt101=>
  x7u t101
  (some ((B false),p100.2))
  ((sLt p94.1 (I 3)).bind λt103=>
  x7u t103
  ((sEq (I (fitE l)) (I 30)).bind λt105=>
  sGo t105 true (sLd true 7 (.ptr (0,21,7) 0 0) p100.2) p100.2 λp107=>
  sGo t105 true (x8g xb []) p107.2 λp108=>
  sGo t105 true (sBin Try.prog .eql x7 (.tmp 107) (.tmp 108) p107.1 p108.1) p108.2 λp109=>
  (x82 t105 p109.1 (B false)).bind λt110=>
  some (t110,p109.2))
  ((sEq (I (fitE l)) (I 0)).bind λt112=>
  sGo t112 true (sLd true 7 (.ptr (0,21,7) 0 0) p100.2) p100.2 λp114=>
  sGv t112 true a p114.2 λp115=>
  sGp t112 true (x7s (x7q 30) x10 [p115.1] p115.2) p115.2 λp116=>
  sGo t112 true (sBin Try.prog .eql x7 (.tmp 114) (.tmp 116) p114.1 p116.1) p116.2 λp117=>
  (x82 t112 p117.1 (B false)).bind λt118=>
  bif(cAp none (tR (.ptr (0,21,7) 0 0)) (mkM 0 [p115.1])&&true)then
  some (t118,p117.2)else none))))=some (B true,m'):=by
  intro _
  by_cases c:(x80 l).2=0
  rotate_left
  .have e:fitE l=(x80 l).2:=by unfold fitE;rw[xk9 c]
   have e2:fitA l=affZ:=by unfold fitA;rw[e,xk9 c]
   have:=ez (.tmp 89) (.tmp 90) affZ
   simp only[affZ]at this
   rw[e2]at g7
   simp only[affZ]at g7
   simp[c,e,g7,xb3,eb,affZ,Aff.c,this]
  obtain⟨-,-,hin⟩:=xc5 c
  have hr:=rkM_le l
  by_cases c3:rkM l=3
  .have e:fitE l=0:=by unfold fitE;rw[xk8 c,xk8 c3]
   have e2:fitA l=fitM l:=by unfold fitA;rw[xk8 e]
   have hf:=w_rFit 27 ha (by have:=h12 c;omega) hin (rk_det c3)
   have:=ez (.tmp 114) (.tmp 116) (fitM l)
   rw[e2]at g7
   simp only[Aff.c]at hf
   simp[c,e,xhz 29 ha hl hin,c3,g7,hf,this,ha.clean,cAp_n]
  .have e:fitE l=30:=by unfold fitE;rw[xk8 c,xk9 c3]
   have e2:fitA l=affZ:=by unfold fitA;rw[e,xk9 (by omega)]
   have c4:rkM l<3:=by omega
   have:=ez (.tmp 107) (.tmp 108) affZ
   simp only[affZ]at this
   rw[e2]at g7
   simp only[affZ]at g7
   simp[c,e,xhz 29 ha hl hin,c4,g7,xb3,eb,affZ,Aff.c,this]
 unfold x1x
 obtain⟨m',h'⟩:=rest 0
 by_cases cv:v=0
 .obtain⟨hw,hA,hin⟩:=h0 cv
  subst cv
  have hww:=w_rWorst 28 (f:=f) ha hl hin hA
  simp only[Aff.c]at hww
  rw[<-hw]at hww
  refine⟨m',?_⟩
  rw[<-h']
  simp only[sNe_I,sEq_I,xl4,Bool.not_true,x8a,sGv_eq,sGo_eq,sGp_eq,sW_f,sW_t,xll,xdm,cond_f,sPick_B,sLd_ptr,g3,xhd,rd_t,hww,xdj]
  simp[hww]
 .have hw:=hv cv
  subst hw
  refine⟨m',?_⟩
  rw[<-h']
  simp[cv]
theorem law_MatchFits{f:Aff}(ha:Pts a l):∃m',x7q 31 [] x1w [a,.agg f.c] mem0=some (B true,m'):=by
 rw[x64]
 unfold x3z x2l
 simp[mem0,w_awake3,w_some 29 ha,Aff.c]
 cases cs:xbh l
 .simp
 have hl32:=someP_le cs
 have h12:(x80 l).2=0->l.length<=12:=λh=>someP_of cs (xc5 h).1
 obtain⟨M,hM⟩:∃M:Mem,M=(⟨[],1⟩:Mem).new (0,0,3) (.row [I f.den,I f.l0,I f.l1,I f.l2,I f.s0,I f.s1,I f.s2] 0 false):=⟨_,rfl⟩
 obtain⟨M2,hM2⟩:∃M2:Mem,M2=(M.new (0,21,7) (.row [I 0,I 0,I 0,I 0,I 0,I 0,I 0] 0 false)).set (0,21,7) (.row (fitA l).c 0 false):=⟨_,rfl⟩
 have g3:M2.get (0,0,3)=some (.row [I f.den,I f.l0,I f.l1,I f.l2,I f.s0,I f.s1,I f.s2] 0 false):=by rw[hM2,hM];simp
 have g7:M2.get (0,21,7)=some (.row (fitA l).c 0 false):=by rw[hM2];simp
 obtain⟨a1,ha1,hc1⟩:=xhl 29 ha (by omega) M
 obtain⟨a2,ha2,hc2⟩:=xhl 29 ha (by omega) M2
 have hr:=w_RankOf 24 ha1 (by omega)
 have hf:=w_Fit 24 ha1 (by omega) (λh=>by have:=h12 h;omega)
 have hw:=w_Worst 24 (f:=f) ha2 (by omega)
 have hca:=xja 28 f
 simp only[Aff.c]at hf hw hca hM2 g7
 rw[<-hM]
 simp[hc1,hr,hf,xb3]
 rw[<-hM2]
 simp[hM,g3,hc2,hw,ha.clean,xjh 26 ha (show l.length<=1000 by omega),hca]
 unfold x4n x2k
 by_cases c0:chkA f=0
 rotate_left
 .simp[c0]
  exact xdz ha h12 (by omega) g3 g7 (λ_=>rfl) (λh=>absurd h c0)
 have hA:=chkA_in c0
 by_cases c1:(x80 l).2=0
 rotate_left
 .simp[c0,c1]
  have:=xdz (fc:=39+4+7) ha h12 (by omega) g3 g7 (w:=0) (v:=(x80 l).2) (λ_=>rfl) (λh=>absurd h c1)
  simpa[c1]using this
 obtain⟨-,-,hin⟩:=xc5 c1
 by_cases h0:l=[]
 .subst h0
  have:=xdz (fc:=39+4+8) ha h12 (by simp) g3 g7 (w:=0) (v:=10) (λ_=>rfl) (λh=>by omega)
  simp[c0,c1,ha.len x8n]
  simpa[c1]using this
 .have hl0:¬(l.length:Int)=0:=by
   have:=List.length_pos_iff.mpr h0
   omega
  have:=xdz (fc:=39+4+7) ha h12 (by omega) g3 g7 (w:=(wM f 0 (0,-1) l).1) (v:=0) (λh=>absurd rfl h) (λ_=>⟨rfl,hA,hin⟩)
  simp[c0,c1,h0,ha.len x8n,hl0]
  simpa[c1]using this
end Go.Ix
