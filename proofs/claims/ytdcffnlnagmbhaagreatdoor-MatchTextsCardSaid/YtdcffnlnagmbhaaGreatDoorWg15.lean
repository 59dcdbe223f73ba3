import Derived.Test.YtdcffnlnagmbhaaGreatDoorWg11
import Derived.Test.YtdcffnlnagmbhaaGreatDoorWg12
import Derived.Test.YtdcffnlnagmbhaaGreatDoorWg14
import Derived.Test.YtdcffnlnagmbhaaGreatDoorWg10
set_option linter.unusedSimpArgs false
set_option linter.unusedVariables false
set_option maxRecDepth 10000
namespace Go.Ix
open Go.Proofs
theorem xwg{d k:Nat}{s:List UInt8}{l:List Int}(h:xqb d k s=some l):l.length=k:=by
 unfold xqb at h
 split at h
 .split at h
  .rename_i c
   rw[<-x17s h];exact c
  .cases h
 .cases h
def ptOf(l:List Int):Mp:=⟨at0 l 0,at0 l 1,at0 l 2,at0 l 3,at0 l 4⟩
def xqt(s:List UInt8):Mp×Int:=match xqb 16 5 s with
 |none=>(⟨0,0,0,0,0⟩,7)
 |some l=>if ptOK (ptOf l)=true then(ptOf l,0)else(⟨0,0,0,0,0⟩,2)
theorem x11c(d:Nat){s:List UInt8}(hs:s.length<=100000)(m:Mem):xp9 (xpc (d+7)) xz [Tx s] m=some (.tup [.agg (xqt s).1.c,I (xqt s).2],m):=by
 obtain⟨m1,hm1⟩:∃m1:Mem,m1=(⟨[],1⟩:Mem).new (0,0,2) (.row [I 0,I 0,I 0,I 0,I 0] 0 false):=⟨_,rfl⟩
 have g2:m1.get (0,0,2)=some (.row [I 0,I 0,I 0,I 0,I 0] 0 false):=by rw[hm1];simp
 obtain⟨a,l,ha,hl,hc⟩:=w_split d hs 5 m1
 have key:RetF (λv=>v=.tup [.agg (xqt s).1.c,I (xqt s).2]) (xpc (d+7) [] xz [Tx s] mem0):=by
  rw[xkc]
  unfold x6j x52
  simp only[mem0,xug,z_pt,x17n]
  rw[<-hm1]
  have hc':xp9 (xpc (d+6)) xt [Tx s,I 5] m1=some (.tup [a,B (xqb 16 5 s).isSome],m1):=hc
  simp only[hc',xpe,xss,x184,x185,xsr]
  unfold xqt
  cases hr:xqb 16 5 s with
  |none=>
   have hb0:xpi [I 0,I 0,I 0,I 0,I 0] []=some (.agg [I 0,I 0,I 0,I 0,I 0]):=by simp[xpi,xqs]
   simp only[x18p,x175,xq6,hb0,xpe]
   rw[xrm (z:=5) (x:=.agg [I 0,I 0,I 0,I 0,I 0]) g2 rfl (by simp) rfl]
   simp[sLdP,Mem.get_set,xpo,Mp.c]
   exact RetF.mk rfl rfl
  |some q=>
   have:=hl q hr
   subst this
   have h5:=xwg hr
   match q,h5,ha with
   |[x0,x1,x2,x3,x4],_,ha=>
    have i0:sIx 1 a (I 0)=some (.plit [I x0,I x1,I x2,I x3,I x4]):=ha.ix xqh (k:=0) (by simp)
    have i1:sIx 1 a (I 1)=some (.plit [I x1,I x2,I x3,I x4]):=ha.ix xqh (k:=1) (by simp)
    have i2:sIx 1 a (I 2)=some (.plit [I x2,I x3,I x4]):=ha.ix xqh (k:=2) (by simp)
    have i3:sIx 1 a (I 3)=some (.plit [I x3,I x4]):=ha.ix xqh (k:=3) (by simp)
    have i4:sIx 1 a (I 4)=some (.plit [I x4]):=ha.ix xqh (k:=4) (by simp)
    have hb2:xpi xd [(0,1,I x2),(1,1,I x3)]=some (.agg [I x2,I x3]):=build_2 _ _
    have hpt:xpi [I 0,I 0,I 0,I 0,I 0] [(0,1,I x0),(1,1,I x1),(2,2,.agg [I x2,I x3]),(4,1,I x4)]=some (.agg [I x0,I x1,I x2,I x3,I x4]):=by simp[xpi,xqs]
    have hpe:=λm=>x131 (d+3) ⟨x0,x1,x2,x3,x4⟩ m
    simp only[Mp.c]at hpe
    have hpo:ptOf [x0,x1,x2,x3,x4]=⟨x0,x1,x2,x3,x4⟩:=rfl
    have hz:xpi [I 0,I 0,I 0,I 0,I 0] []=some (.agg [I 0,I 0,I 0,I 0,I 0]):=by simp[xpi,xqs]
    simp only[Option.isSome_some,x17e,xq8,i0,i1,i2,i3,i4,xpe,xtv,rd_f,List.head?_cons,hb2,hpt,hpo]
    cases hok:ptOK ⟨x0,x1,x2,x3,x4⟩
    .simp[g2,hpe,hok,hz,sLdP,xpp,disj,tR,Mp.c]
     exact RetF.mk rfl rfl
    .simp[g2,hpe,hok,sLdP,xpp,disj,tR,Mp.c]
     exact RetF.mk rfl rfl
 obtain⟨v,rfl,h⟩:=xtx (l:=[Tx s]) rfl key m
 exact h
theorem x132(d:Nat){s:List UInt8}(hs:s.length<=100000)(m:Mem):xp9 (xpc (d+7)) x1b [Tx s] m=some (.tup [.agg (xqt s).1.c,I (xqt s).2],m):=by
 obtain⟨m1,hm1⟩:∃m1:Mem,m1=(⟨[],1⟩:Mem).new (0,0,2) (.row [I 0,I 0,I 0,I 0,I 0] 0 false):=⟨_,rfl⟩
 have g2:m1.get (0,0,2)=some (.row [I 0,I 0,I 0,I 0,I 0] 0 false):=by rw[hm1];simp
 obtain⟨a,l,ha,hl,hc⟩:=x119 (d+2) hs 5 m1
 have key:RetF (λv=>v=.tup [.agg (xqt s).1.c,I (xqt s).2]) (xpc (d+7) [] x1b [Tx s] mem0):=by
  rw[xke]
  unfold x6l x54
  simp only[mem0,xug,z_pt,x17n]
  rw[<-hm1]
  have hc':xp9 (xpc (d+6)) xu [Tx s,I 5] m1=some (.tup [a,B (xqb 16 5 s).isSome],m1):=hc
  simp only[hc',xpe,xss,x184,x185,xsr]
  unfold xqt
  cases hr:xqb 16 5 s with
  |none=>
   have hb0:xpi [I 0,I 0,I 0,I 0,I 0] []=some (.agg [I 0,I 0,I 0,I 0,I 0]):=by simp[xpi,xqs]
   simp only[x18p,x175,xq6,hb0,xpe]
   rw[xrm (z:=5) (x:=.agg [I 0,I 0,I 0,I 0,I 0]) g2 rfl (by simp) rfl]
   simp[sLdP,Mem.get_set,xpo,Mp.c]
   exact RetF.mk rfl rfl
  |some q=>
   have:=hl q hr
   subst this
   have h5:=xwg hr
   match q,h5,ha with
   |[x0,x1,x2,x3,x4],_,ha=>
    have i0:sIx 1 a (I 0)=some (.plit [I x0,I x1,I x2,I x3,I x4]):=ha.ix xqh (k:=0) (by simp)
    have i1:sIx 1 a (I 1)=some (.plit [I x1,I x2,I x3,I x4]):=ha.ix xqh (k:=1) (by simp)
    have i2:sIx 1 a (I 2)=some (.plit [I x2,I x3,I x4]):=ha.ix xqh (k:=2) (by simp)
    have i3:sIx 1 a (I 3)=some (.plit [I x3,I x4]):=ha.ix xqh (k:=3) (by simp)
    have i4:sIx 1 a (I 4)=some (.plit [I x4]):=ha.ix xqh (k:=4) (by simp)
    have hb2:xpi xd [(0,1,I x2),(1,1,I x3)]=some (.agg [I x2,I x3]):=build_2 _ _
    have hpt:xpi [I 0,I 0,I 0,I 0,I 0] [(0,1,I x0),(1,1,I x1),(2,2,.agg [I x2,I x3]),(4,1,I x4)]=some (.agg [I x0,I x1,I x2,I x3,I x4]):=by simp[xpi,xqs]
    have hpe:=λm=>x11b (d+4) ⟨x0,x1,x2,x3,x4⟩ m
    simp only[Mp.c]at hpe
    have hpo:ptOf [x0,x1,x2,x3,x4]=⟨x0,x1,x2,x3,x4⟩:=rfl
    have hz:xpi [I 0,I 0,I 0,I 0,I 0] []=some (.agg [I 0,I 0,I 0,I 0,I 0]):=by simp[xpi,xqs]
    simp only[Option.isSome_some,x17e,xq8,i0,i1,i2,i3,i4,xpe,xtv,rd_f,List.head?_cons,hb2,hpt,hpo]
    cases hok:ptOK ⟨x0,x1,x2,x3,x4⟩
    .simp[g2,hpe,hok,hz,sLdP,xpp,disj,tR,Mp.c]
     exact RetF.mk rfl rfl
    .simp[g2,hpe,hok,sLdP,xpp,disj,tR,Mp.c]
     exact RetF.mk rfl rfl
 obtain⟨v,rfl,h⟩:=xtx (l:=[Tx s]) rfl key m
 exact h
def okJ:Id->Prop:=λid=>id.2.2=16
theorem dec_words:∀(l:List Int),∀w∈l.map decM,w.length<=21:=λl w hw=>by
 obtain⟨x,-,rfl⟩:=x17v.1 hw
 exact x115 x
theorem xye(l:List Int):(xq0 l).length<=22*l.length:=by
 have:=x116 _ (dec_words l)
 rw[x18a]at this
 exact this
theorem l_join3(d:Nat){x:AV}{l:List Int}(hx:Ints x l)(hb:∀n∈l,I64 n)(hl:l.length<=1000):∀(suf:List Int) (i j:Nat) (t:AV) (m:Mem) (fc:Nat),l.drop i=suf->suf.length<j->Gk 1 strE okJ m t ((l.take i).map decM) ->
 ∃m',x2c (xpc (d+1)) [] 0 j t x (I l.length) (I i) m fc=some (Tx (xq0 l),m'):=by
 intro suf
 induction suf with
 |nil=>
  intro i j t m fc hd hj hG
  obtain⟨j,rfl⟩:∃k,j=k+1:=⟨j-1,by simp at hj;omega⟩
  have hii:=x19j.mp hd
  have hlt:¬((i:Int)<(l.length:Int)):=by omega
  rw[x173 hii]at hG
  obtain⟨y,hy,hf⟩:=hG.frz (k:=4) xty xy2
  have h1:=xye l
  have hjn:=λm=>w_Join d hy (by unfold xq0 at h1;omega) (by rw[x18a];omega) m
  have hth:=x10z (m:=m) (l:=[t,Tx [32]]) (l':=[y,Tx [32]]) (by
   simp only[x188,x1a4]
   rw[show Go.Ix.frz m.get deep t=some y from hf]
   rfl) (by simp only[x17x,List.all_nil,hy.still];rfl) hjn
  simp only[x2c]
  unfold x5d x7z
  simp only[xrl,hlt,x176,xpe,xq8]
  rw[show(AV.sc (.string ⟨#[32]⟩))=Tx [32]from rfl,hth]
  exact⟨_,rfl⟩
 |cons e suf ih=>
  intro i j t m fc hd hj hG
  obtain⟨j,rfl⟩:∃k,j=k+1:=⟨j-1,by simp at hj;omega⟩
  obtain⟨hi,hw,hd1⟩:=xv7 hd
  have hlt:(i:Int)<(l.length:Int):=by omega
  have hix:=hx.ix xqh hi
  rw[hd]at hix
  have hbe:=hb e (by rw[<-hw];exact x187 hi)
  have hit:=λm=>w_Itoa d hbe.1 hbe.2 m
  have w7:w64 ((i:Int)+1)=((i+1:Nat):Int):=by rw[xr9 (by omega) (by omega)];omega
  obtain⟨a',m1,e1,G1,o1,o2,nx1,fr1⟩:=Gk.app (ok:=okJ) (l:=(l.take i).map decM) (bytes:=16) (id0:=(0,fc+8,16)) xty (by omega) rfl (by rw[x18a,x18y];unfold xpt;omega) hG (decM e)
  have el:∀objs,elems objs 1 (.slit [Tx (decM e)] 1 true)=some (strE (decM e),1):=λ_=>rfl
  simp only[x2c]
  unfold x5d
  simp only[xrl,hlt,x179,xpe,xq6,hix,x18h,intE,x18k,x18x,xtv,rd_f,List.head?_cons,hit,xy3,el]
  rw[e1]
  simp only[xsb,w7,xpe]
  refine ih (i+1) j a' m1 _ hd1 (by simp at hj;omega) ?_
  rw[List.take_add_one,x178 hi,hw,x1ab]
  exact G1
theorem w_join3(d:Nat){x:AV}{l:List Int}(hx:Ints x l)(hb:∀n∈l,I64 n)(hl:l.length<=1000)(m:Mem):xp9 (xpc (d+2)) x1h [x] m=some (Tx (xq0 l),m):=by
 refine Ans.call0 (m:=m) ?_ (by simp[hx.still]) rfl
 unfold Ans
 rw[xkk]
 unfold x6r x5e x81
 simp only[hx.len xta,xpe]
 exact l_join3 d hx hb hl l 0 NN nilS _ _ rfl (by rw[xsd];omega) Gk.nil
theorem x133{l:List Int}{i:Nat}{e:Int}(h:l[i]?=some e):xq0 (l.take (i+1))=(if 0<i then xq0 (l.take i)++[32]else xq0 (l.take i))++decM e:=by
 have hi:i<l.length:=(x17i.mp h).1
 unfold xq0
 rw[List.take_add_one,h,x1ab]
 by_cases c:0<i
 .rw[x16u c]
  show xqm [32] ((l.take i).map decM++[decM e])=_
  rw[x10v _ (by
   intro h2
   have:=congrArg List.length h2
   rw[x18a,x18y,x18f]at this
   omega),List.append_assoc]
 .have:i=0:=by omega
  subst this
  rw[x16t c]
  simp[xqm]
theorem l_joined3(d:Nat){x:AV}{l:List Int}(hx:Ints x l)(hb:∀n∈l,I64 n)(hl:l.length<=1000):∀(suf:List Int) (i j:Nat) (t:List UInt8) (m:Mem) (fc:Nat),l.drop i=suf->suf.length<j->t=xq0 (l.take i) ->
 ∃m',x1p (xpc (d+2)) [] 0 j x (Tx t) (I i) m fc=some (Tx (xq0 l),m'):=by
 intro suf
 induction suf with
 |nil=>
  intro i j t m fc hd hj ht
  obtain⟨j,rfl⟩:∃k,j=k+1:=⟨j-1,by simp at hj;omega⟩
  have hii:=x19j.mp hd
  have hlt:¬((i:Int)<(l.length:Int)):=by omega
  rw[x173 hii]at ht
  simp only[x1p]
  unfold x5l x8d
  simp only[hx.len xta,xrl,hlt,x176,xpe,xq8]
  rw[ht]
  exact⟨m,rfl⟩
 |cons e suf ih=>
  intro i j t m fc hd hj ht
  obtain⟨j,rfl⟩:∃k,j=k+1:=⟨j-1,by simp at hj;omega⟩
  obtain⟨hi,hw,hd1⟩:=xv7 hd
  have hlt:(i:Int)<(l.length:Int):=by omega
  have hix:=hx.ix xqh hi
  rw[hd]at hix
  have hbe:=hb e (by rw[<-hw];exact x187 hi)
  have hdc:=λm=>w_Decimal d hbe.1 hbe.2 m
  have w7:w64 ((i:Int)+1)=((i+1:Nat):Int):=by rw[xr9 (by omega) (by omega)];omega
  have hnx:=x133 (l:=l) (i:=i) (e:=e) (by rw[x178 hi,hw])
  have htl:t.length<=22000:=by
   have:=xye (l.take i)
   rw[x18y]at this
   rw[ht];omega
  have hdl:=x115 e
  have two:∀(t2:List UInt8) (fc:Nat),t2.length<=22001->t2++decM e=xq0 (l.take (i+1))->∃m',x3b (xpc (d+2)) [] 0 (x1p (xpc (d+2)) [] 0 j) x (Tx t2) (I i) m fc=some (Tx (xq0 l),m'):=by
   intro t2 fc h2 h3
   unfold x3b x8e
   simp only[hix,x18h,intE,x18k,x18x,xpe,xtv,rd_f,List.head?_cons,hdc]
   rw[x_add _ _ (by omega)]
   simp only[xpe,xsb,w7]
   exact ih (i+1) j _ m _ hd1 (by simp at hj;omega) h3
  simp only[x1p]
  unfold x5l x8f
  simp only[hx.len xta,xrl,hlt,x179,xpe,xq6,xue]
  by_cases c:0<i
  .have c':(0:Int)<(i:Int):=by omega
   simp only[c',x179,xq6]
   rw[show(AV.sc (.string ⟨#[32]⟩))=Tx [32]from rfl,x_add _ _ (by simp;omega)]
   simp only[xpe]
   refine two (t++[32]) _ (by simp;omega) ?_
   rw[hnx,x16u c,ht]
  .have c':¬(0:Int)<(i:Int):=by omega
   simp only[c',x176,xq8]
   refine two t _ (by omega) ?_
   rw[hnx,x16t c,ht]
theorem x11d(d:Nat){x:AV}{l:List Int}(hx:Ints x l)(hb:∀n∈l,I64 n)(hl:l.length<=1000)(m:Mem):xp9 (xpc (d+3)) x1j [x] m=some (Tx (xq0 l),m):=by
 refine Ans.call0 (m:=m) ?_ (by simp[hx.still]) rfl
 unfold Ans
 rw[xkp]
 unfold x6w x5m x8g
 exact l_joined3 d hx hb hl l 0 NN [] _ _ rfl (by rw[xsd];omega) rfl
theorem mkLit_5{id:Id}{a b c d e:Int}{m:Mem}{R:Type}(k:AV->Mem->Option R):xpy xqz [(0,1,I a),(1,1,I b),(2,1,I c),(3,1,I d),(4,1,I e)] 5 1 id m k=k (.slit [I a,I b,I c,I d,I e] 5 true) m:=by
 simp[xpy,xqs,xqa,xve,x1a1,xpo]
theorem x134(k:Nat){a b c d e:Int}(hb:∀n∈[a,b,c,d,e],I64 n)(m:Mem):xp9 (xpc (k+3)) x19 [.agg [I a,I b,I c,I d,I e]] m=some (Tx (xq0 [a,b,c,d,e]),m):=by
 refine Ans.call0 (m:=m) ?_ rfl rfl
 unfold Ans
 rw[xka]
 unfold x6h x50
 have hx:Ints (.slit [I a,I b,I c,I d,I e] 5 true) [a,b,c,d,e]:=Or.inr ⟨true,rfl⟩
 have hj:=λm=>w_join3 k hx hb (by simp) m
 simp[mem0,sIxA,asI,mkLit_5,hj]
theorem x135(k:Nat){a b c d e:Int}(hb:∀n∈[a,b,c,d,e],I64 n)(m:Mem):xp9 (xpc (k+4)) x1d [.agg [I a,I b,I c,I d,I e]] m=some (Tx (xq0 [a,b,c,d,e]),m):=by
 refine Ans.call0 (m:=m) ?_ rfl rfl
 unfold Ans
 rw[xkg]
 unfold x6n x56
 have hx:Ints (.slit [I a,I b,I c,I d,I e] 5 true) [a,b,c,d,e]:=Or.inr ⟨true,rfl⟩
 have hj:=λm=>x11d k hx hb (by simp) m
 simp[mem0,sIxA,asI,mkLit_5,hj]
theorem mkLit_7{id:Id}{a b c d e f g:Int}{m:Mem}{R:Type}(k:AV->Mem->Option R):xpy xqz [(0,1,I a),(1,1,I b),(2,1,I c),(3,1,I d),(4,1,I e),(5,1,I f),(6,1,I g)] 7 1 id m k=k (.slit [I a,I b,I c,I d,I e,I f,I g] 7 true) m:=by
 simp[xpy,xqs,xqa,xve,x1a1,xpo]
theorem x136(k:Nat){a b c d e f g:Int}(hb:∀n∈[a,b,c,d,e,f,g],I64 n)(m:Mem):xp9 (xpc (k+4)) x1e [.agg [I a,I b,I c,I d,I e,I f,I g]] m=some (Tx (xq0 [a,b,c,d,e,f,g]),m):=by
 refine Ans.call0 (m:=m) ?_ rfl rfl
 unfold Ans
 rw[xkh]
 unfold x6o x57
 have hx:Ints (.slit [I a,I b,I c,I d,I e,I f,I g] 7 true) [a,b,c,d,e,f,g]:=Or.inr ⟨true,rfl⟩
 have hj:=λm=>x11d k hx hb (by simp) m
 simp[mem0,sIxA,asI,mkLit_7,hj]
def xun(l:List Int):Aff:=⟨at0 l 0,at0 l 1,at0 l 2,at0 l 3,at0 l 4,at0 l 5,at0 l 6⟩
def affM(s:List UInt8):Aff×Int:=match xqb 16 7 s with
 |none=>(⟨0,0,0,0,0,0,0⟩,7)
 |some l=>if chkA (xun l)=0 then(xun l,0)else(⟨0,0,0,0,0,0,0⟩,chkA (xun l))
theorem zz_aff:xf=[I 0,I 0,I 0,I 0,I 0,I 0,I 0]:=by kernel_rfl
theorem zz_3int:x29=[I 0,I 0,I 0]:=by kernel_rfl
theorem x137(d:Nat){s:List UInt8}(hs:s.length<=100000)(m:Mem):xp9 (xpc (d+7)) x1c [Tx s] m=some (.tup [.agg (affM s).1.c,I (affM s).2],m):=by
 obtain⟨m1,hm1⟩:∃m1:Mem,m1=(⟨[],1⟩:Mem).new (0,0,2) (.row [I 0,I 0,I 0,I 0,I 0,I 0,I 0] 0 false):=⟨_,rfl⟩
 have g2:m1.get (0,0,2)=some (.row [I 0,I 0,I 0,I 0,I 0,I 0,I 0] 0 false):=by rw[hm1];simp
 obtain⟨a,l,ha,hl,hc⟩:=x119 (d+2) hs 7 m1
 have hz:xpi [I 0,I 0,I 0,I 0,I 0,I 0,I 0] []=some (.agg [I 0,I 0,I 0,I 0,I 0,I 0,I 0]):=by simp[xpi,xqs]
 have key:RetF (λv=>v=.tup [.agg (affM s).1.c,I (affM s).2]) (xpc (d+7) [] x1c [Tx s] mem0):=by
  rw[xkf]
  unfold x6m x55
  simp only[mem0,xug,zz_aff,x17n]
  rw[<-hm1]
  have hc':xp9 (xpc (d+6)) xu [Tx s,I 7] m1=some (.tup [a,B (xqb 16 7 s).isSome],m1):=hc
  simp only[hc',xpe,xss,x184,x185,xsr]
  unfold affM
  cases hr:xqb 16 7 s with
  |none=>
   simp only[x18p,x175,xq6,hz,xpe]
   rw[xrm (z:=7) (x:=.agg [I 0,I 0,I 0,I 0,I 0,I 0,I 0]) g2 rfl (by simp) rfl]
   simp[sLdP,Mem.get_set,xpo,Aff.c]
   exact RetF.mk rfl rfl
  |some q=>
   have:=hl q hr
   subst this
   have h7:=xwg hr
   match q,h7,ha with
   |[x0,x1,x2,x3,x4,x5,x6],_,ha=>
    have i0:sIx 1 a (I 0)=some (.plit [I x0,I x1,I x2,I x3,I x4,I x5,I x6]):=ha.ix xqh (k:=0) (by simp)
    have i1:sIx 1 a (I 1)=some (.plit [I x1,I x2,I x3,I x4,I x5,I x6]):=ha.ix xqh (k:=1) (by simp)
    have i2:sIx 1 a (I 2)=some (.plit [I x2,I x3,I x4,I x5,I x6]):=ha.ix xqh (k:=2) (by simp)
    have i3:sIx 1 a (I 3)=some (.plit [I x3,I x4,I x5,I x6]):=ha.ix xqh (k:=3) (by simp)
    have i4:sIx 1 a (I 4)=some (.plit [I x4,I x5,I x6]):=ha.ix xqh (k:=4) (by simp)
    have i5:sIx 1 a (I 5)=some (.plit [I x5,I x6]):=ha.ix xqh (k:=5) (by simp)
    have i6:sIx 1 a (I 6)=some (.plit [I x6]):=ha.ix xqh (k:=6) (by simp)
    have b3:∀x y z:Int,xpi x29 [(0,1,I x),(1,1,I y),(2,1,I z)]=some (.agg [I x,I y,I z]):=λx y z=>by simp[xpi,xqs,zz_3int]
    have hpt:xpi [I 0,I 0,I 0,I 0,I 0,I 0,I 0] [(0,1,I x0),(1,3,.agg [I x1,I x2,I x3]),(4,3,.agg [I x4,I x5,I x6])]=some (.agg [I x0,I x1,I x2,I x3,I x4,I x5,I x6]):=by simp[xpi,xqs]
    have hpe:=λm=>x11a (d+4) ⟨x0,x1,x2,x3,x4,x5,x6⟩ m
    simp only[Aff.c]at hpe
    have hpo:xun [x0,x1,x2,x3,x4,x5,x6]=⟨x0,x1,x2,x3,x4,x5,x6⟩:=rfl
    simp only[Option.isSome_some,x17e,xq8,i0,i1,i2,i3,i4,i5,i6,xpe,xtv,rd_f,List.head?_cons,b3,hpt,hpo]
    by_cases hok:chkA ⟨x0,x1,x2,x3,x4,x5,x6⟩=0
    .simp[g2,hpe,hok,sLdP,xpp,disj,tR,Aff.c]
     exact RetF.mk rfl rfl
    .simp[g2,hpe,hok,hz,sLdP,xpp,disj,tR,Aff.c]
     exact RetF.mk rfl rfl
 obtain⟨v,rfl,h⟩:=xtx (l:=[Tx s]) rfl key m
 exact h
theorem x11e(d:Nat){s:List UInt8}(hs:s.length<=100000)(m:Mem):xp9 (xpc (d+7)) x10 [Tx s] m=some (.tup [.agg (affM s).1.c,I (affM s).2],m):=by
 obtain⟨m1,hm1⟩:∃m1:Mem,m1=(⟨[],1⟩:Mem).new (0,0,2) (.row [I 0,I 0,I 0,I 0,I 0,I 0,I 0] 0 false):=⟨_,rfl⟩
 have g2:m1.get (0,0,2)=some (.row [I 0,I 0,I 0,I 0,I 0,I 0,I 0] 0 false):=by rw[hm1];simp
 obtain⟨a,l,ha,hl,hc⟩:=w_split d hs 7 m1
 have hz:xpi [I 0,I 0,I 0,I 0,I 0,I 0,I 0] []=some (.agg [I 0,I 0,I 0,I 0,I 0,I 0,I 0]):=by simp[xpi,xqs]
 have key:RetF (λv=>v=.tup [.agg (affM s).1.c,I (affM s).2]) (xpc (d+7) [] x10 [Tx s] mem0):=by
  rw[xkd]
  unfold x6k x53
  simp only[mem0,xug,zz_aff,x17n]
  rw[<-hm1]
  have hc':xp9 (xpc (d+6)) xt [Tx s,I 7] m1=some (.tup [a,B (xqb 16 7 s).isSome],m1):=hc
  simp only[hc',xpe,xss,x184,x185,xsr]
  unfold affM
  cases hr:xqb 16 7 s with
  |none=>
   simp only[x18p,x175,xq6,hz,xpe]
   rw[xrm (z:=7) (x:=.agg [I 0,I 0,I 0,I 0,I 0,I 0,I 0]) g2 rfl (by simp) rfl]
   simp[sLdP,Mem.get_set,xpo,Aff.c]
   exact RetF.mk rfl rfl
  |some q=>
   have:=hl q hr
   subst this
   have h7:=xwg hr
   match q,h7,ha with
   |[x0,x1,x2,x3,x4,x5,x6],_,ha=>
    have i0:sIx 1 a (I 0)=some (.plit [I x0,I x1,I x2,I x3,I x4,I x5,I x6]):=ha.ix xqh (k:=0) (by simp)
    obtain⟨fl,rfl⟩:∃fl,a=.slit [I x0,I x1,I x2,I x3,I x4,I x5,I x6] 7 fl:=by
     rcases ha with ⟨-,h⟩|⟨fl,rfl⟩
     .cases h
     .exact⟨fl,rfl⟩
    obtain⟨ii,ie1,ie2⟩:=xy5
    have s1:xpu Tryz.prog xb (.slit [I x0,I x1,I x2,I x3,I x4,I x5,I x6] 7 fl) (some (I 1)) (some (I 4))=some (.slit [I x1,I x2,I x3] 3 false):=by
     simp[xpu,xpn,xta,ie1,ie2,asI]
    have s2:xpu Tryz.prog xb (.slit [I x0,I x1,I x2,I x3,I x4,I x5,I x6] 7 fl) (some (I 4)) (some (I 7))=some (.slit [I x4,I x5,I x6] 3 fl):=by
     simp[xpu,xpn,xta,ie1,ie2,asI]
    have a1:sS2A 3 (.slit [I x1,I x2,I x3] 3 false)=some (.plit [I x1,I x2,I x3]):=rfl
    have a2:sS2A 3 (.slit [I x4,I x5,I x6] 3 fl)=some (.plit [I x4,I x5,I x6]):=rfl
    have r1:rd true 3 [I x1,I x2,I x3]=some (.agg [I x1,I x2,I x3]):=rfl
    have r2:rd true 3 [I x4,I x5,I x6]=some (.agg [I x4,I x5,I x6]):=rfl
    have hpt:xpi [I 0,I 0,I 0,I 0,I 0,I 0,I 0] [(0,1,I x0),(1,3,.agg [I x1,I x2,I x3]),(4,3,.agg [I x4,I x5,I x6])]=some (.agg [I x0,I x1,I x2,I x3,I x4,I x5,I x6]):=by simp[xpi,xqs]
    have hpe:=λm=>x130 (d+4) ⟨x0,x1,x2,x3,x4,x5,x6⟩ m
    simp only[Aff.c]at hpe
    have hpo:xun [x0,x1,x2,x3,x4,x5,x6]=⟨x0,x1,x2,x3,x4,x5,x6⟩:=rfl
    simp only[Option.isSome_some,x17e,xq8,i0,s1,s2,a1,a2,xpe,xtv,rd_f,r1,r2,List.head?_cons,hpt,hpo]
    by_cases hok:chkA ⟨x0,x1,x2,x3,x4,x5,x6⟩=0
    .simp[g2,hpe,hok,sLdP,xpp,disj,tR,Aff.c]
     exact RetF.mk rfl rfl
    .simp[g2,hpe,hok,hz,sLdP,xpp,disj,tR,Aff.c]
     exact RetF.mk rfl rfl
 obtain⟨v,rfl,h⟩:=xtx (l:=[Tx s]) rfl key m
 exact h
end Go.Ix
