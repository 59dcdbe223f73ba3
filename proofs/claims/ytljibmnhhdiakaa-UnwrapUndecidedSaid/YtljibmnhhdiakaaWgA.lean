import Derived.Test.YtljibmnhhdiakaaWArcs
import Derived.Test.YtljibmnhhdiakaaWRepeat
set_option linter.unusedSimpArgs false
set_option linter.unusedVariables false
namespace Go.Ix
open Go.Proofs
abbrev farM:Int:=1152921504606846976
structure Tour where
 len:List Int
 last:List Ar
 bef:List Int
def a00:Ar:=⟨0,0,0,0,0⟩
def x1uc(tu:List Int)(v:Int)(t:Tour)(a:Ar):Tour:=
 let x:=at0 t.len v.toNat+a.cost+at0 tu v.toNat-at0 tu a.to.toNat
 if x<at0 t.len a.to.toNat then⟨t.len.set a.to.toNat x,t.last.set a.to.toNat a,t.bef.set a.to.toNat v⟩else t
def x1y6(l:List Edge)(fl tu:List Int)(v:Int)(t:Tour):Tour:=(adjI l v).foldl (fun t i=>if 0<(arcAt l fl v i).room then x1uc tu v t (arcAt l fl v i)else t) t
def x1wi(len:List Int):Int->Int->List Int->List Bool->Int
 |b,k,x::xs,d::ds=>x1wi len (if d=false/\x<farM/\(b<0\/x<at0 len b.toNat)then k else b) (k+1) xs ds
 |b,_,_,_=>b
def x1wj(l:List Edge)(fl tu:List Int):Nat->Tour->List Bool->Tour
 |0,t,_=>t
 |f+1,t,ds=>let p:=x1wi t.len (-1) 0 t.len ds
  if p<0 then t else x1wj l fl tu f (x1y6 l fl tu p t) (ds.set p.toNat true)
theorem x257{α:Type}{enc:α->List AV}{z:Nat}(hz:∀x,(enc x).length=z):∀(l:List α) (k:Nat) (x:α),k<l.length->(l.set k x).flatMap enc=(l.flatMap enc).take (k*z)++(enc x++(l.flatMap enc).drop (k*z+z))
 |[],k,x,h=>by simp at h
 |y::l,0,x,h=>by
  simp only[List.set_cons_zero,List.flatMap_cons,Nat.zero_mul,List.take_zero,List.nil_append,Nat.zero_add]
  rw[List.drop_append,List.drop_eq_nil_of_le (by rw[hz];omega),hz]
  simp
 |y::l,k+1,x,h=>by
  simp only[List.set_cons_succ,List.flatMap_cons]
  have hy:=hz y
  rw[x257 hz l k x (by simpa using h),Nat.succ_mul,List.take_append,List.drop_append,List.take_of_length_le (show(enc y).length<=k*z+z by rw[hy];omega),
   List.drop_eq_nil_of_le (show(enc y).length<=k*z+z+z by rw[hy];omega),hy,show k*z+z-z=k*z by omega,show k*z+z+z-z=k*z+z by omega]
  simp
theorem x258{α:Type}{enc:α->List AV}{z:Nat}(hz:∀x,(enc x).length=z){l:List α}{k:Nat}{x:α}(hk:k<l.length)(h1:(enc x).all AV.one=true) :
 x1s2 z 0 (k*z) (.agg (enc x)) (some (.row (l.flatMap enc) 0 false))=some (.row ((l.set k x).flatMap enc) 0 false):=by
 have hl:=x1v2 hz l
 have h2:(k+1)*z<=l.length*z:=Nat.mul_le_mul_right z (by omega)
 rw[Nat.succ_mul]at h2
 have h:(0:Nat)=0/\(AV.agg (enc x)).cells.length=z/\k*z+z<=(l.flatMap enc).length/\((AV.agg (enc x)).cells.all AV.one)=true:=⟨rfl,hz x,by omega,h1⟩
 rw[x1u3,decide_eq_true h,cond_true,x257 hz l k x hk]
 simp only[x1rc,x201,hz]
theorem Ar.one(a:Ar):a.c.all AV.one=true:=rfl
theorem Ar.sc(a:Ar):a.c.all isSc=true:=rfl
def LenB(b:Int)(len:List Int):Prop:=∀v,at0 len v=farM\/(-b<=at0 len v/\at0 len v<=b)
structure WInv (u sL:Nat) (S:AV) (n:Nat) (t:Tour) (m:Mem):Prop where
 s:m.get (u,0,2)=some (.row [S] 0 false)
 t4:m.get (u,1,4)=some (.row [nilS,nilS,nilS] 0 false)
 t5:m.get (u,25,5)=some (.row [.sref (u+1,sL,30) 0 0 n 1 true,.sref (u,16,26) 0 0 n 5 true,.sref (u,23,33) 0 0 n 1 true] 0 false)
 len:m.get (u+1,sL,30)=some (.row (t.len.flatMap intE) 0 false)
 last:m.get (u,16,26)=some (.row (t.last.flatMap Ar.c) 0 false)
 bef:m.get (u,23,33)=some (.row (t.bef.flatMap intE) 0 false)
 ll:t.len.length=n
 al:t.last.length=n
 bl:t.bef.length=n
 nx:u+1<m.next
theorem WInv.frame{u sL:Nat}{S:AV}{n:Nat}{t:Tour}{m m':Mem}(h:WInv u sL S n t m)(hm:∀id:Id,id.1<=u+1->id.2.2≠7->id.2.2≠41->m'.get id=m.get id)(hn:m.next<=m'.next):WInv u sL S n t m':=by
 obtain⟨a,b,c,d,e,f,g,i,j,k⟩:=h
 refine⟨?_,?_,?_,?_,?_,?_,g,i,j,by omega⟩<;>rw[hm _ (by simp) (by simp) (by simp)]<;>assumption
theorem ways_step(d:Nat)(hs:FHs){u sL fA:Nat}{S:AV}{n:Nat}{l:List Edge}{fl tu ex:List Int}(hS:FrzS S n l fl tu ex){t:Tour}{v b:Int}{a:Ar}{m:Mem}(hI:WInv u sL S n t m)(hv:m.get (u,fA,7)=some (.row [I v] 0 false))(v0:0<=v)(v1:v<n)(ha0:0<=a.to)(ha1:a.to<n)(hav:a.to≠v)(hc0:-1000<=a.cost)(hc1:a.cost<=1000)(hb:0<=b)(hb2:b<=1000000000000)(hlv:-b<=at0 t.len v.toNat/\at0 t.len v.toNat<=b)(hL:LenB (b+2001000) t.len) :
 ∃m',x6f (x1qp d) hs m.next (.ptr (u,0,2) 0 0) (.ptr (u,25,5) 0 0) (.ptr (u,fA,7) 0 0) (.agg a.c) ⟨m.hp,m.next+1⟩ 0=some m'/\WInv u sL S n (x1uc tu v t a) m'/\m.next<=m'.next /\
  (∀id:Id,id.1<=m.next->id.2.2≠30->id.2.2≠26->id.2.2≠33->id.2.2≠10->m'.get id=m.get id)/\LenB (b+2001000) (x1uc tu v t a).len/\at0 (x1uc tu v t a).len v.toNat=at0 t.len v.toNat:=by
 obtain⟨h1,h2,h3,h4,h5,h6,hll,hal,hbl,hnx⟩:=hI
 obtain⟨ev,F,TU,X,cells,bb,hSe,hev,hF,hTU,hX,hcl,hcs⟩:=hS.sh
 have lv:v.toNat<t.len.length:=by omega
 have la:a.to.toNat<t.len.length:=by omega
 have lv2:v.toNat<tu.length:=by rw[hS.tul];omega
 have la2:a.to.toNat<tu.length:=by rw[hS.tul];omega
 have tb1:=hS.tub v.toNat
 have tb2:=hS.tub a.to.toNat
 have iTv:=hTU.ixI x1rk v0 (show v<tu.length by rw[hS.tul];exact v1)
 have iTa:=hTU.ixI x1rk ha0 (show a.to<tu.length by rw[hS.tul];exact ha1)
 have iLv:sIx 1 (.sref (u+1,sL,30) 0 0 n 1 true) (I v)=some (.ptr (u+1,sL,30) 0 v.toNat):=x1re v0 v1
 have iLa:sIx 1 (.sref (u+1,sL,30) 0 0 n 1 true) (I a.to)=some (.ptr (u+1,sL,30) 0 a.to.toNat):=x1re ha0 ha1
 have iBa:sIx 1 (.sref (u,23,33) 0 0 n 1 true) (I a.to)=some (.ptr (u,23,33) 0 a.to.toNat):=x1re ha0 ha1
 have iAa:sIx 5 (.sref (u,16,26) 0 0 n 5 true) (I a.to)=some (.ptr (u,16,26) 0 (a.to.toNat*5)):=by simp[sIx,asI,ha0,ha1]
 obtain⟨M,hM⟩:∃M,M=((⟨m.hp,m.next+1⟩:Mem).new (m.next,0,10) (.row [I 0,I 0,I 0,I 0,I 0] 0 false)).set (m.next,0,10) (.row a.c 0 false):=⟨_,rfl⟩
 have q:∀id:Id,id≠(m.next,0,10)->M.get id=m.get id:=fun id hid=>by rw[hM,Mem.get_set,if_neg hid,Mem.get_new,if_neg hid];rfl
 have g10:M.get (m.next,0,10)=some (.row [I a.edge,I a.to,I a.sign,I a.room,I a.cost] 0 false):=by rw[hM];simp[Ar.c]
 have hMn:M.next=m.next+1:=by rw[hM];rfl
 have ne:∀(x s t':Nat),x<=u+1->(x,s,t')≠(m.next,0,10):=fun x s t' hx he=>by simp only[Prod.mk.injEq]at he;omega
 have G1:M.get (u,0,2)=some (.row [S] 0 false):=by rw[q _ (ne _ _ _ (by omega))];exact h1
 have G2:M.get (u,1,4)=some (.row [nilS,nilS,nilS] 0 false):=by rw[q _ (ne _ _ _ (by omega))];exact h2
 have G3:M.get (u,25,5)=some (.row [.sref (u+1,sL,30) 0 0 n 1 true,.sref (u,16,26) 0 0 n 5 true,.sref (u,23,33) 0 0 n 1 true] 0 false):=by rw[q _ (ne _ _ _ (by omega))];exact h3
 have G4:M.get (u+1,sL,30)=some (.row (t.len.flatMap intE) 0 false):=by rw[q _ (ne _ _ _ (by omega))];exact h4
 have G5:M.get (u,16,26)=some (.row (t.last.flatMap Ar.c) 0 false):=by rw[q _ (ne _ _ _ (by omega))];exact h5
 have G6:M.get (u,23,33)=some (.row (t.bef.flatMap intE) 0 false):=by rw[q _ (ne _ _ _ (by omega))];exact h6
 have G7:M.get (u,fA,7)=some (.row [I v] 0 false):=by rw[q _ (ne _ _ _ (by omega))];exact hv
 have hLa:=hL a.to.toNat
 obtain⟨x,hx⟩:∃x,x=at0 t.len v.toNat+a.cost+at0 tu v.toNat-at0 tu a.to.toNat:=⟨_,rfl⟩
 have start:∀K,x7a (x1qp d) hs m.next (.ptr (u,0,2) 0 0) (.ptr (u,25,5) 0 0) (.ptr (u,fA,7) 0 0) (.ptr (m.next,0,10) 0 0) M 2=K ->
  x6f (x1qp d) hs m.next (.ptr (u,0,2) 0 0) (.ptr (u,25,5) 0 0) (.ptr (u,fA,7) 0 0) (.agg a.c) ⟨m.hp,m.next+1⟩ 0=K:=by
  intro K hK
  rw[<-hK]
  unfold x6f
  simp only[x1ub,z_arc,x1rl,Mem.get_new,if_true]
  rw[show x1s2 5 0 0 (.agg a.c) (some (.row [I 0,I 0,I 0,I 0,I 0] 0 false))=some (.row a.c 0 false)from by rw[show a.c=[I a.edge,I a.to,I a.sign,I a.room,I a.cost]from rfl,x227];rfl]
  simp only[x1qt]
  rw[<-hM]
 have pre:∀K,x1qr (B (decide (x<at0 t.len a.to.toNat)))
  ((x1s2 1 0 a.to.toNat (I x) (some (.row (t.len.flatMap intE) 0 false))).bind fun o1=>(x1s2 5 0 (a.to.toNat*5) (.agg a.c) (some (.row (t.last.flatMap Ar.c) 0 false))).bind fun o2=>
    (x1s2 1 0 a.to.toNat (I v) (some (.row (t.bef.flatMap intE) 0 false))).bind fun o3=>some (((M.set (u+1,sL,30) o1).set (u,16,26) o2).set (u,23,33) o3)) (some M)=K ->
  x7a (x1qp d) hs m.next (.ptr (u,0,2) 0 0) (.ptr (u,25,5) 0 0) (.ptr (u,fA,7) 0 0) (.ptr (m.next,0,10) 0 0) M 2=K:=by
  intro K hK
  rw[<-hK]
  unfold x7a
  simp(disch:=omega)only[x1rh,x1qt,Nat.zero_add,x1qy,G1,G3,G4,G7,g10,x1r0,Nat.beq_refl,x1qw,List.drop_zero,List.drop_succ_cons,rd_f,iLv,iLa,iBa,iAa,x1s7 lv,x1s7 la,x1sl,x1xz,x1rs,hSe,sNil,x1v3,x1u2,iTv,iTa,x1rg lv2,x1rg la2,x1s6]
  rw[<-hx]
  simp only[x1rl,G4,rd_5,x1qt]
  by_cases hlt:x<at0 t.len a.to.toNat
  .simp only[hlt,decide_true,x1ru]
   have la3:a.to.toNat<t.last.length:=by omega
   have la4:a.to.toNat<t.bef.length:=by omega
   have e1:=x1ss (v:=x) la
   have e2:=x258 (x:=a) Ar.len la3 a.one
   have e3:=x1ss (v:=v) la4
   have g26:(M.set (u+1,sL,30) (.row ((t.len.set a.to.toNat x).flatMap intE) 0 false)).get (u,16,26)=some (.row (t.last.flatMap Ar.c) 0 false):=by rw[Mem.get_set,if_neg (by simp)];exact G5
   have g33:((M.set (u+1,sL,30) (.row ((t.len.set a.to.toNat x).flatMap intE) 0 false)).set (u,16,26) (.row ((t.last.set a.to.toNat a).flatMap Ar.c) 0 false)).get (u,23,33)=some (.row (t.bef.flatMap intE) 0 false):=by rw[Mem.get_set,if_neg (by simp),Mem.get_set,if_neg (by simp)];exact G6
   rw[show[I a.edge,I a.to,I a.sign,I a.room,I a.cost]=a.c from rfl]
   simp only[e1,x1qt,g26,e2,g33,e3]
   simp[x1qs,disj,tR,tS]
  .simp only[hlt,decide_false,x1sz]
 have fin:∀id:Id,id.1<=m.next->id.2.2≠10->M.get id=m.get id:=fun id _ h10=>q id (by rintro rfl;simp at h10)
 by_cases hlt:x<at0 t.len a.to.toNat
 .have hR:x1uc tu v t a=⟨t.len.set a.to.toNat x,t.last.set a.to.toNat a,t.bef.set a.to.toNat v⟩:=by
   unfold x1uc
   simp only[<-hx,hlt,if_true]
  have la3:a.to.toNat<t.last.length:=by omega
  have la4:a.to.toNat<t.bef.length:=by omega
  refine⟨((M.set (u+1,sL,30) (.row ((t.len.set a.to.toNat x).flatMap intE) 0 false)).set (u,16,26) (.row ((t.last.set a.to.toNat a).flatMap Ar.c) 0 false)).set (u,23,33) (.row ((t.bef.set a.to.toNat v).flatMap intE) 0 false),start _ (pre _ ?_),?_,?_,?_,?_,?_⟩
  .rw[decide_eq_true hlt,x1ru,x1ss la,x1qt,x258 Ar.len la3 a.one,x1qt,x1ss la4,x1qt]
  .rw[hR]
   refine⟨?_,?_,?_,?_,?_,?_,by simp[hll],by simp[hal],by simp[hbl],by simp[hMn];omega⟩
   .simp[Mem.get_set,G1]
   .simp[Mem.get_set,G2]
   .simp[Mem.get_set,G3]
   .simp[Mem.get_set]
   .simp[Mem.get_set]
   .simp[Mem.get_set]
  .simp[hMn]
  .intro id h1 h30 h26 h33 h10
   rw[Mem.get_set,if_neg (by rintro rfl;simp at h33),Mem.get_set,if_neg (by rintro rfl;simp at h26),Mem.get_set,if_neg (by rintro rfl;simp at h30)]
   exact fin id h1 h10
  .rw[hR]
   intro w
   simp only
   rw[x1sa la]
   split
   .right;omega
   .exact hL w
  .rw[hR]
   simp only
   rw[x1sa la,if_neg (by omega)]
 .have hR:x1uc tu v t a=t:=by
   unfold x1uc
   simp only[<-hx,hlt,if_false]
  rw[hR]
  refine⟨M,start _ (pre _ ?_),⟨G1,G2,G3,G4,G5,G6,hll,hal,hbl,by omega⟩,by omega,fun id h1 _ _ _ h10=>fin id h1 h10,hL,rfl⟩
  rw[decide_eq_false hlt,x1sz]
def dn(ds:List Bool)(k:Nat):Bool:=ds.getD k true
theorem dn_lt{ds:List Bool}{k:Nat}(h:k<ds.length):dn ds k=ds[k]:=by
 unfold dn;rw[List.getD_eq_getElem?_getD,List.getElem?_eq_getElem h];rfl
theorem dn_set{ds:List Bool}{k j:Nat}(h:k<ds.length):dn (ds.set k true) j=if j=k then true else dn ds j:=by
 unfold dn
 rw[List.getD_eq_getElem?_getD,List.getD_eq_getElem?_getD,List.getElem?_set]
 by_cases e:k=j
 .subst e;simp[h]
 .rw[if_neg e,if_neg (fun x=>e x.symm)]
def cntF:List Bool->Nat
 |[]=>0
 |d::r=>(if d=false then 1 else 0)+cntF r
theorem cntF_le:∀ds:List Bool,cntF ds<=ds.length
 |[]=>Nat.le_refl _
 |d::r=>by have:=cntF_le r;simp only[cntF,List.length_cons];split<;>omega
theorem x206:∀{ds:List Bool} {k:Nat},k<ds.length->dn ds k=false->cntF (ds.set k true)+1=cntF ds
 |[],k,h,_=>by simp at h
 |d::r,0,h,hd=>by
  have:d=false:=hd
  subst this
  simp[cntF];omega
 |d::r,k+1,h,hd=>by
  have:=x206 (ds:=r) (k:=k) (by simpa using h) hd
  simp only[List.set_cons_succ,cntF];omega
theorem x22a(n:Nat):cntF (List.replicate n false)=n:=by
 induction n with
 |zero=>rfl
 |succ n ih=>rw[List.replicate_succ];simp only[cntF,ih,if_true];omega
def PickI(len:List Int)(ds:List Bool)(k:Nat)(b:Int):Prop:=
 (b=-1/\∀i,i<k->dn ds i=false->farM<=at0 len i) \/
 (0<=b/\b.toNat<k/\dn ds b.toNat=false/\at0 len b.toNat<farM/\∀i,i<k->dn ds i=false->at0 len b.toNat<=at0 len i)
theorem x22b{len:List Int}{ds:List Bool}(hl:ds.length=len.length):∀(xs:List Int) (dd:List Bool) (k:Nat) (b:Int),len.drop k=xs->ds.drop k=dd->k<=len.length->PickI len ds k b->PickI len ds len.length (x1wi len b k xs dd)
 |[],dd,k,b,hx,hd,hk,h=>by
  have:=List.drop_eq_nil_iff.mp hx
  have e:k=len.length:=by omega
  rw[<-e]
  cases dd<;>exact h
 |x::xs,dd,k,b,hx,hd,hk,h=>by
  obtain⟨hk1,hxe,hx'⟩:=x1sm hx
  have hk2:k<ds.length:=by omega
  have hdd:dd=dn ds k::ds.drop (k+1):=by rw[<-hd,x1t5 hk2,dn_lt hk2]
  rw[hdd]
  have e1:at0 len k=x:=by rw[x1ri hk1,hxe]
  simp only[x1wi]
  have:=x22b hl xs (ds.drop (k+1)) (k+1) (if dn ds k=false/\x<farM/\(b<0\/x<at0 len b.toNat)then(k:Int)else b) hx' rfl (by omega) (by
   split
   .rename_i c
    obtain⟨c1,c2,c3⟩:=c
    right
    refine⟨by omega,by simp,by simpa using c1,by simpa[e1]using c2,fun i hi hdi=>?_⟩
    simp only[Int.toNat_natCast,e1]
    by_cases e:i=k
    .subst e;omega
    .rcases h with ⟨h1,h2⟩|⟨h1,h2,h3,h4,h5⟩
     .have:=h2 i (by omega) hdi;omega
     .have:=h5 i (by omega) hdi
      rcases c3 with c3|c3<;>omega
   .rename_i c
    rcases h with ⟨h1,h2⟩|⟨h1,h2,h3,h4,h5⟩
    .left
     refine⟨h1,fun i hi hdi=>?_⟩
     by_cases e:i=k
     .subst e
      rw[e1]
      by_cases c2:x<farM
      .exact absurd ⟨hdi,c2,Or.inl (by omega)⟩ c
      .omega
     .exact h2 i (by omega) hdi
    .right
     refine⟨h1,by omega,h3,h4,fun i hi hdi=>?_⟩
     by_cases e:i=k
     .subst e
      rw[e1]
      by_cases c2:x<at0 len b.toNat
      .exact absurd ⟨hdi,by omega,Or.inr c2⟩ c
      .omega
     .exact h5 i (by omega) hdi)
  simpa using this
theorem x1z6{ds:List Bool}{k:Nat}{fz:Bool}(hk:k<ds.length):x1vv false 1 0 k (some (.row (ds.map B) 0 fz))=some (B (dn ds k)):=by
 simp only[x1vv,Nat.beq_refl,cond_true,rd,Bool.false_eq_true,if_false]
 rw[<-List.map_drop,x1t5 hk,dn_lt hk]
 rfl
theorem x284{ds:List Bool}{k:Nat}{v:Bool}(hk:k<ds.length):x1s2 1 0 k (B v) (some (.row (ds.map B) 0 false))=some (.row ((ds.set k v).map B) 0 false):=by
 have h:(0:Nat)=0/\(B v).cells.length=1/\k+1<=(ds.map B).length/\((B v).cells.all AV.one)=true:=⟨rfl,rfl,by simp;omega,rfl⟩
 rw[x1u3,decide_eq_true h,cond_true]
 simp only[x1rc,cells_B]
 congr 2
 rw[List.map_set,List.set_eq_take_append_cons_drop,if_pos (by simpa using hk)]
 simp
abbrev srL(u sL n:Nat):AV:=.sref (u+1,sL,30) 0 0 n 1 true
theorem l_pick(d:Nat)(hs:FHs){u sL fA n:Nat}{S:AV}{t:Tour}{dsA:List Bool}(hdl:dsA.length=n)(hn:n<=200)(rec0:AV->AV->AV->AV->Mem->Nat->Option (AV×Mem)) :
 ∀(xs:List Int) (dd:List Bool) (k j:Nat) (b:Int) (m:Mem) (fc:Nat),t.len.drop k=xs->dsA.drop k=dd->xs.length<j->(b<0\/(0<=b/\b<n))->WInv u sL S n t m->m.get (u,33,41)=some (.row (dsA.map B) 0 false)->m.get (u,fA,7)=some (.row [I b] 0 false) ->
 ∃m' fc',x3i (x1qp d) hs u rec0 j (.ptr (u,0,2) 0 0) (.ptr (u,1,4) 0 0) (.ptr (u,25,5) 0 0) (srI (u,33,41) n) (.ptr (u,fA,7) 0 0) (srL u sL n) (I n) (I k) m fc =
  x17 (x1qp d) hs u rec0 (.ptr (u,0,2) 0 0) (.ptr (u,1,4) 0 0) (.ptr (u,25,5) 0 0) (srI (u,33,41) n) (.ptr (u,fA,7) 0 0) m' fc' /\
  m'.get (u,fA,7)=some (.row [I (x1wi t.len b k xs dd)] 0 false)/\m'.next=m.next/\∀id:Id,id≠(u,fA,7)->m'.get id=m.get id:=by
 intro xs
 induction xs with
 |nil=>
  intro dd k j b m fc hx hd hj hb hI hD hv
  obtain⟨j,rfl⟩:∃i,j=i+1:=⟨j-1,by simp at hj;omega⟩
  have hk:¬((k:Int)<(n:Int)):=by have:=List.drop_eq_nil_iff.mp hx;have:=hI.ll;omega
  refine⟨m,fc+1,?_,by cases dd<;>exact hv,rfl,fun _ _=>rfl⟩
  simp only[x3i]
  unfold x9k
  simp[hk]
 |cons x xs ih=>
  intro dd k j b m fc hx hd hj hb hI hD hv
  obtain⟨j,rfl⟩:∃i,j=i+1:=⟨j-1,by simp at hj;omega⟩
  obtain⟨hk,hxe,hx'⟩:=x1sm hx
  have hkn:k<n:=by have:=hI.ll;omega
  have hk2:k<dsA.length:=by omega
  have hdd:dd=dn dsA k::dsA.drop (k+1):=by rw[<-hd,x1t5 hk2,dn_lt hk2]
  have e1:at0 t.len k=x:=by rw[x1ri hk,hxe]
  have hk':(k:Int)<(n:Int):=by omega
  have i1:sIx 1 (srL u sL n) (I k)=some (.ptr (u+1,sL,30) 0 k):=by simpa using x1re (id:=(u+1,sL,30)) (n:=n) (k:=(k:Int)) (by omega) hk'
  have i2:sIx 1 (srI (u,33,41) n) (I k)=some (.ptr (u,33,41) 0 k):=by simpa using x1re (id:=(u,33,41)) (n:=n) (k:=(k:Int)) (by omega) hk'
  obtain⟨nb,hnb⟩:∃nb,nb=(if dn dsA k=false/\x<farM/\(b<0\/x<at0 t.len b.toNat)then(k:Int)else b):=⟨_,rfl⟩
  have hnb2:nb<0\/(0<=nb/\nb<n):=by rw[hnb];split<;>omega
  rw[hdd]
  simp only[x1wi]
  rw[<-hnb]
  have hbl:¬b<0->b.toNat<t.len.length:=fun h=>by have:=hI.ll;omega
  have i3:¬b<0->sIx 1 (srL u sL n) (I b)=some (.ptr (u+1,sL,30) 0 b.toNat):=fun h=>x1re (by omega) (by omega)
  by_cases c:dn dsA k=false/\x<farM/\(b<0\/x<at0 t.len b.toNat)
  .rw[if_pos c]at hnb
   obtain⟨M,hM⟩:∃M,M=m.set (u,fA,7) (.row [I k] 0 false):=⟨_,rfl⟩
   have q:∀id:Id,id≠(u,fA,7)->M.get id=m.get id:=fun id hid=>by rw[hM,Mem.get_set,if_neg hid]
   have hMn:M.next=m.next:=by rw[hM];rfl
   obtain⟨m',fc',h1,h2,h3,h4⟩:=ih (dsA.drop (k+1)) (k+1) j nb M (fc+1+29+2) hx' rfl (by simp at hj;omega) hnb2 (hI.frame (fun id _ h7 _=>q id (by rintro rfl;simp at h7)) (by rw[hMn];exact Nat.le_refl _)) (by rw[q _ (by simp)];exact hD) (by rw[hM,hnb];simp)
   refine⟨m',fc',?_,by simpa using h2,by rw[h3,hMn],fun id hid=>by rw[h4 id hid,q id hid]⟩
   rw[<-h1]
   obtain⟨c1,c2,c3⟩:=c
   simp only[x3i]
   unfold x9k x9j
   by_cases hb0:b<0
   .simp(disch:=omega) [hk',i1,i2,hI.len,hD,x1s7 hk,x1z6 hk2,e1,c1,c2,hv,hb0,x3h]
    rw[<-hM]
   .have c3':x<at0 t.len b.toNat:=by rcases c3 with c3|c3;exact absurd c3 hb0;exact c3
    simp(disch:=omega) [hk',i1,i2,i3 hb0,hI.len,hI.t5,hD,x1s7 hk,x1s7 (hbl hb0),x1z6 hk2,e1,c1,c2,hv,hb0,c3',x3h]
    rw[<-hM]
  .rw[if_neg c]at hnb
   obtain⟨m',fc',h1,h2,h3,h4⟩:=ih (dsA.drop (k+1)) (k+1) j nb m (fc+1+27+2) hx' rfl (by simp at hj;omega) hnb2 hI hD (by rw[hnb];exact hv)
   refine⟨m',fc',?_,by simpa using h2,h3,h4⟩
   rw[<-h1]
   simp only[x3i]
   unfold x9k x9j
   cases c1:dn dsA k
   rotate_left
   .simp(disch:=omega) [hk',i1,i2,hI.len,hD,x1s7 hk,x1z6 hk2,e1,c1,hv,x3h]
   by_cases c2:x<farM
   rotate_left
   .simp(disch:=omega) [hk',i1,i2,hI.len,hD,x1s7 hk,x1z6 hk2,e1,c1,c2,hv,x3h]
   by_cases hb0:b<0
   .exact absurd ⟨c1,c2,Or.inl hb0⟩ c
   by_cases c3:x<at0 t.len b.toNat
   .exact absurd ⟨c1,c2,Or.inr c3⟩ c
   simp(disch:=omega) [hk',i1,i2,i3 hb0,hI.len,hI.t5,hD,x1s7 hk,x1s7 (hbl hb0),x1z6 hk2,e1,c1,c2,hv,hb0,c3,x3h]
abbrev GB:Int:=2001000
theorem x285(d:Nat)(hs:FHs){u sL n:Nat}{S:AV}{l:List Edge}{fl tu ex:List Int}(hS:FrzS S n l fl tu ex){t:Tour}{ds:List Bool}(hdl:ds.length=n){b p:Int}(hb:0<=b)(hb2:b<=1000000000)(p0:0<=p)(p1:p<n)(hlp:-b<=at0 t.len p.toNat/\at0 t.len p.toNat<=b)(hL:LenB b t.len){fA:Nat}{m:Mem}(hI:WInv u sL S n t m)(hD:m.get (u,33,41)=some (.row (ds.map B) 0 false))(hv:m.get (u,fA,7)=some (.row [I p] 0 false))(rec0:AV->AV->AV->AV->Mem->Nat->Option (AV×Mem))(fc:Nat) :
 ∃m' fc',x17 (x1qp (d+1)) hs u rec0 (.ptr (u,0,2) 0 0) (.ptr (u,1,4) 0 0) (.ptr (u,25,5) 0 0) (srI (u,33,41) n) (.ptr (u,fA,7) 0 0) m fc =
  rec0 (.ptr (u,0,2) 0 0) (.ptr (u,1,4) 0 0) (.ptr (u,25,5) 0 0) (srI (u,33,41) n) m' fc' /\
  WInv u sL S n (x1y6 l fl tu p t) m'/\m'.get (u,33,41)=some (.row ((ds.set p.toNat true).map B) 0 false)/\LenB (b+GB) (x1y6 l fl tu p t).len:=by
 have pl:p.toNat<ds.length:=by omega
 have i2:sIx 1 (srI (u,33,41) n) (I p)=some (.ptr (u,33,41) 0 p.toNat):=x1re p0 p1
 obtain⟨ev,F,TU,X,cells,bb,hSe,hev,hF,hTU,hX,hcl,hcs⟩:=hS.sh
 have hSc:S.cells=[S]:=by rw[hSe];rfl
 have hSo:S.one=true:=by rw[hSe];rfl
 obtain⟨m7,hm7⟩:∃m7,m7=m.set (u,33,41) (.row ((ds.set p.toNat true).map B) 0 false):=⟨_,rfl⟩
 have q7:∀id:Id,id≠(u,33,41)->m7.get id=m.get id:=fun id hid=>by rw[hm7,Mem.get_set,if_neg hid]
 have n7:m7.next=m.next:=by rw[hm7];rfl
 obtain⟨u1,hu1⟩:∃u1,u1=m7.next:=⟨_,rfl⟩
 obtain⟨m8,hm8⟩:∃m8,m8=((⟨m7.hp,m7.next+1⟩:Mem).new (m7.next,0,2) (.row [S] 0 false)).new (m7.next,1,3) (.row [I p] 0 false):=⟨_,rfl⟩
 have q8:∀id:Id,id.1<m7.next->m8.get id=m7.get id:=fun id hid=>by
  rw[hm8,Mem.get_new,if_neg (by rintro rfl;simp at hid),Mem.get_new,if_neg (by rintro rfl;simp at hid)];rfl
 have n8:m8.next=m7.next+1:=by rw[hm8];rfl
 have harcs:x1qp (d+1) hs x6j [S,I p] m7=some (.clo x54 [.ptr (m7.next,0,2) 0 0,.ptr (m7.next,1,3) 0 0],m8):=by
  rw[x10e]
  unfold xdg xhf
  simp only[x1vu,hSc,List.all_cons,List.all_nil,hSo,Bool.and_self,x1qw,cells_I,one_I]
  rw[hm8]
 have hun:=hI.nx
 have hA:Ints cells[p.toNat] (adjI l p):=by
  have:=hcs p.toNat (by omega)
  rwa[Int.toNat_of_nonneg p0]at this
 have ixA:sIx 1 (.slit cells n bb) (I p)=some (.plit (cells.drop p.toNat)):=by simp[sIx,asI,p0,p1]
 have ldA:∀m,sLd false 1 (.plit (cells.drop p.toNat)) m=some cells[p.toNat]:=fun m=>by rw[x1t5 (by omega)];rfl
 obtain⟨Inv,hInv⟩:∃Inv:Tour->Mem->Prop,Inv=fun t' m'=>WInv u sL S n t' m'/\m'.get (u,33,41)=some (.row ((ds.set p.toNat true).map B) 0 false)/\m'.get (u,fA,7)=some (.row [I p] 0 false) /\
  m'.get (m7.next,0,2)=some (.row [S] 0 false)/\m'.get (m7.next,1,3)=some (.row [I p] 0 false)/\LenB (b+GB) t'.len/\at0 t'.len p.toNat=at0 t.len p.toNat:=⟨_,rfl⟩
 have h0:Inv t ⟨m8.hp,m8.next+1⟩:=by
  rw[hInv]
  have g:∀id,(⟨m8.hp,m8.next+1⟩:Mem).get id=m8.get id:=fun _=>rfl
  refine⟨hI.frame (fun id h1 h2 h3=>?_) (by simp only[n8,n7];omega),?_,?_,?_,?_,fun v=>?_,rfl⟩
  .rw[g,q8 _ (by omega),q7 _ (by rintro rfl;simp at h3)]
  .rw[g,q8 _ (by simp only;omega),hm7];simp
  .rw[g,q8 _ (by simp only;omega),q7 _ (by simp)];exact hv
  .rw[g,hm8];simp
  .rw[g,hm8];simp
  .have:=hL v;have hG:GB=2001000:=rfl;omega
 obtain⟨m10,h5,h6⟩:=l_arcs (x1qp d) hs m8.next (u,fc+9,0) (m7.next,0,2) (m7.next,1,3)
  (fun args m=>bif Nat.beq args.length 1&&true then x6f (x1qp (d+1)) hs m.next (.ptr (u,0,2) 0 0) (.ptr (u,25,5) 0 0) (.ptr (u,fA,7) 0 0) (args.getD 0 U) ⟨m.hp,m.next+1⟩ 0 else none) hS hA Inv (x1uc tu p)
  (by
   intro t' m1 m2 hh hg hn
   rw[hInv]at hh ⊢
   obtain⟨a1,a2,a3,a4,a5,a6,a7⟩:=hh
   refine⟨a1.frame (fun id hid _ _=>hg id (by omega)) hn,?_,?_,?_,?_,a6,a7⟩<;>rw[hg _ (by simp only;omega)]<;>assumption)
  (by
   intro t' m1 hh
   rw[hInv]at hh
   exact⟨hh.2.2.2.1,hh.2.2.2.2.1⟩)
  (by simp only;omega) (by simp only;omega)
  (by
   intro t' m1 i hi hr hh hu
   rw[hInv]at hh ⊢
   obtain⟨a1,a2,a3,a4,a5,a6,a7⟩:=hh
   obtain⟨z0,z1,z2,z3,z4⟩:=arcAt_in hS hi
   obtain⟨m2,e1,e2,e3,e4,e5,e6⟩:=ways_step (d+1) hs hS (b:=b) a1 a3 p0 p1 z0 z1 z2 z3 z4 hb (by omega) (by rw[a7];exact hlp) a6
   refine⟨m2,by simpa using e1,⟨e2,?_,?_,?_,?_,e5,by rw[e6,a7]⟩,e3⟩<;>rw[e4 _ (by simp only;omega) (by simp) (by simp) (by simp) (by simp)]<;>assumption)
  (adjI l p) 0 NN t ⟨m8.hp,m8.next+1⟩ 9 rfl (by
   have:(adjI l p).length<=600:=by
    unfold adjI
    rw[List.length_map]
    have:=List.length_filter_le (fun i=>decide ((edgeAt l i).fr=p)||decide ((edgeAt l i).to=p)) (List.range l.length)
    rw[List.length_range]at this
    have:=hS.ll
    omega
   rw[x1r6];omega) h0 (by simp only;omega)
 rw[hInv]at h6
 obtain⟨a1,a2,a3,a4,a5,a6,a7⟩:=h6
 refine⟨m10,fc+9+1,?_,a1,a2,a6⟩
 have harcs1:x1qp (d+1) (((u,fc+9,0),(fun args m=>bif Nat.beq args.length 1&&true then x6f (x1qp (d+1)) hs m.next (.ptr (u,0,2) 0 0) (.ptr (u,25,5) 0 0) (.ptr (u,fA,7) 0 0) (args.getD 0 U) ⟨m.hp,m.next+1⟩ 0 else none))::hs) x54 [.yld (u,fc+9,0),.ptr (m7.next,0,2) 0 0,.ptr (m7.next,1,3) 0 0] m8=some (.tup [],m10):=by
  rw[x10g]
  unfold xdd xhh
  have g1:(⟨m8.hp,m8.next+1⟩:Mem).get (m7.next,0,2)=some (.row [S] 0 false):=by show m8.get _=_;rw[hm8];simp
  have g2:(⟨m8.hp,m8.next+1⟩:Mem).get (m7.next,1,3)=some (.row [I p] 0 false):=by show m8.get _=_;rw[hm8];simp
  simp only[x1qy,g1,g2,x1r0,Nat.beq_refl,x1qw,List.drop_zero,rd_f,x1qt,hSe,sNil,x1v3,List.drop_succ_cons,x1u2,ixA,ldA,hA.len x1r8]
  exact h5
 unfold x17
 simp only[x1qy,hv,x1r0,Nat.beq_refl,x1qw,List.drop_zero,rd_f,x1qt,x1s6,show ¬p<0 from by omega,decide_false,x1sz,i2,x1rl,hD,x284 pl]
 rw[<-hm7]
 have g1:m7.get (u,0,2)=some (.row [S] 0 false):=by rw[q7 _ (by simp)];exact hI.s
 have g2:m7.get (u,fA,7)=some (.row [I p] 0 false):=by rw[q7 _ (by simp)];exact hv
 simp only[x1qy,g1,g2,x1r0,Nat.beq_refl,x1qw,List.drop_zero,rd_f,x1qt,harcs]
 unfold xcv
 simp only[sRng]
 rw[harcs1]
 rfl
structure WOut (u sL n:Nat) (t:Tour) (m:Mem):Prop where
 len:m.get (u+1,sL,30)=some (.row (t.len.flatMap intE) 0 false)
 last:m.get (u,16,26)=some (.row (t.last.flatMap Ar.c) 0 false)
 bef:m.get (u,23,33)=some (.row (t.bef.flatMap intE) 0 false)
 ll:t.len.length=n
 al:t.last.length=n
 bl:t.bef.length=n
 nx:u+1<m.next
theorem l_ways(d:Nat)(hs:FHs){u sL n:Nat}{S:AV}{l:List Edge}{fl tu ex:List Int}(hS:FrzS S n l fl tu ex) :
 ∀(j:Nat) (t:Tour) (ds:List Bool) (m:Mem) (fc:Nat),cntF ds<j->ds.length=n->LenB ((n-cntF ds:Nat)*GB) t.len->WInv u sL S n t m->m.get (u,33,41)=some (.row (ds.map B) 0 false) ->
 ∃m',x26 (x1qp (d+1)) hs u j (.ptr (u,0,2) 0 0) (.ptr (u,1,4) 0 0) (.ptr (u,25,5) 0 0) (srI (u,33,41) n) m fc =
  some (.agg [srL u sL n,.sref (u,16,26) 0 0 n 5 true,.sref (u,23,33) 0 0 n 1 true],m') /\
  WOut u sL n (x1wj l fl tu j t ds) m'/\LenB ((200:Nat)*GB) (x1wj l fl tu j t ds).len:=by
 intro j
 have hG:GB=2001000:=rfl
 induction j with
 |zero=>intro t ds m fc h;omega
 |succ j ih=>
  intro t ds m fc hc hdl hL hI hD
  have hn0:=hS.n0
  obtain⟨M,hM⟩:∃M,M=(m.new (u,fc,7) (.row [I 0] 0 false)).set (u,fc,7) (.row [I (-1)] 0 false):=⟨_,rfl⟩
  have q:∀id:Id,id≠(u,fc,7)->M.get id=m.get id:=fun id hid=>by rw[hM,Mem.get_set,if_neg hid,Mem.get_new,if_neg hid]
  have hMn:M.next=m.next:=by rw[hM];rfl
  have hIM:WInv u sL S n t M:=hI.frame (fun id _ h7 _=>q id (by rintro rfl;simp at h7)) (by rw[hMn];exact Nat.le_refl _)
  have hDM:M.get (u,33,41)=some (.row (ds.map B) 0 false):=by rw[q _ (by simp)];exact hD
  obtain⟨m1,f1,h1,h2,h3,h4⟩:=l_pick (d+1) hs (fA:=fc) hdl hn0 (x26 (x1qp (d+1)) hs u j) t.len ds 0 NN (-1) M (fc+2+4) rfl rfl (by have:=hI.ll;rw[x1r6];omega) (Or.inl (by omega)) hIM hDM (by rw[hM];simp)
  have hI1:WInv u sL S n t m1:=hIM.frame (fun id _ h7 _=>h4 id (by rintro rfl;simp at h7)) (by rw[h3];exact Nat.le_refl _)
  have hD1:m1.get (u,33,41)=some (.row (ds.map B) 0 false):=by rw[h4 _ (by simp)];exact hDM
  have hsp:=x22b (len:=t.len) (ds:=ds) (by rw[hI.ll];exact hdl) t.len ds 0 (-1) rfl rfl (by omega) (Or.inl ⟨rfl,fun i hi=>by omega⟩)
  rw[show((0:Nat):Int)=0 from rfl]at h1 h2 hsp
  obtain⟨p,hp⟩:∃p,p=x1wi t.len (-1) 0 t.len ds:=⟨_,rfl⟩
  rw[<-hp]at h2 hsp
  have start:x26 (x1qp (d+1)) hs u (j+1) (.ptr (u,0,2) 0 0) (.ptr (u,1,4) 0 0) (.ptr (u,25,5) 0 0) (srI (u,33,41) n) m fc=x17 (x1qp (d+1)) hs u (x26 (x1qp (d+1)) hs u j) (.ptr (u,0,2) 0 0) (.ptr (u,1,4) 0 0) (.ptr (u,25,5) 0 0) (srI (u,33,41) n) (.ptr (u,fc,7) 0 0) m1 f1:=by
   rw[<-h1]
   rw[x26]
   unfold xcx xcw
   have hst:x1s2 1 0 0 (I (-1)) (some (.row [I 0] 0 false))=some (.row [I (-1)] 0 false):=rfl
   simp only[x1ub,x1t8,x1rl,Mem.get_new,if_true,hst,x1qt]
   rw[<-hM]
   simp only[x1rh,x1qt,Nat.zero_add,x1qy,hIM.t5,x1r0,Nat.beq_refl,x1qw,List.drop_zero,rd_f]
   rfl
  rw[start]
  simp only[x1wj]
  rw[<-hp]
  have hcle:=cntF_le ds
  by_cases c:p<0
  .rw[if_pos c]
   obtain⟨m2,hm2⟩:∃m2,m2=m1.set (u,1,4) (.row [srL u sL n,.sref (u,16,26) 0 0 n 5 true,.sref (u,23,33) 0 0 n 1 true] 0 false):=⟨_,rfl⟩
   obtain⟨a1,a2,a3,a4,a5,a6,a7,a8,a9,a10⟩:=hI1
   refine⟨m2,?_,⟨?_,?_,?_,a7,a8,a9,by rw[hm2];exact a10⟩,?_⟩
   .unfold x17
    have hst:∀x y z:AV,x.cells=[x]->y.cells=[y]->z.cells=[z]->x.one=true->y.one=true->z.one=true->x1s2 3 0 0 (.agg [x,y,z]) (some (.row [nilS,nilS,nilS] 0 false))=some (.row [x,y,z] 0 false):=by
     intro x y z _ _ _ h1 h2 h3
     rw[x1u3]
     simp[x1rc,h1,h2,h3]
    simp only[x1qy,h2,x1r0,Nat.beq_refl,x1qw,List.drop_zero,rd_f,x1qt,x1s6,c,decide_true,x1ru,a3,rd_3,x1rl,a2]
    rw[hst _ _ _ rfl rfl rfl rfl rfl rfl]
    simp only[x1qt]
    rw[<-hm2]
    have g4:m2.get (u,1,4)=some (.row [srL u sL n,.sref (u,16,26) 0 0 n 5 true,.sref (u,23,33) 0 0 n 1 true] 0 false):=by rw[hm2];simp
    simp only[sLdP,x1qy,g4,x1r0,Nat.beq_refl,x1qw,List.drop_zero,rd_3,x1qt]
   .rw[hm2,Mem.get_set,if_neg (by simp)];exact a4
   .rw[hm2,Mem.get_set,if_neg (by simp)];exact a5
   .rw[hm2,Mem.get_set,if_neg (by simp)];exact a6
   .intro v
    have h:=hL v
    have:((n-cntF ds:Nat):Int)*GB<=(200:Nat)*GB:=Int.mul_le_mul_of_nonneg_right (by omega) (by omega)
    omega
  .rw[if_neg c]
   rcases hsp with ⟨hsp,_⟩|⟨s1,s2,s3,s4,s5⟩
   .omega
   have hpl:=hL p.toNat
   have hpn:p<n:=by rw[hI.ll]at s2;omega
   have hcs:=x206 (ds:=ds) (k:=p.toNat) (by omega) s3
   obtain⟨m2,f2,e1,e2,e3,e4⟩:=x285 d hs hS hdl (b:=(n-cntF ds:Nat)*GB) (Int.mul_nonneg (by omega) (by omega)) (by
    have:((n-cntF ds:Nat):Int)*GB<=200*GB:=Int.mul_le_mul_of_nonneg_right (by omega) (by omega)
    omega) s1 hpn (by rcases hpl with h|h;omega;exact h) hL hI1 hD1 h2 (x26 (x1qp (d+1)) hs u j) f1
   rw[e1]
   exact ih _ _ m2 f2 (by omega) (by simp[hdl]) (by
    have:((n-cntF (ds.set p.toNat true):Nat):Int)*GB=(n-cntF ds:Nat)*GB+GB:=by
     rw[show n-cntF (ds.set p.toNat true)=(n-cntF ds)+1 by omega,Int.natCast_add,Int.add_mul];omega
    rw[this];exact e4) e2 e3
theorem z_tour:x71=[nilS,nilS,nilS]:=by kernel_rfl
theorem zb_bool:xnf=[B false]:=by kernel_rfl
def x1ta(n:Nat)(p:Int):Tour:=⟨(List.replicate n farM).set p.toNat 0,List.replicate n a00,List.replicate n 0⟩
def waysF(n:Nat)(l:List Edge)(fl tu:List Int)(p:Int):Tour:=x1wj l fl tu NN (x1ta n p) (List.replicate n false)
theorem mkSl_bool{R:Type}{n:Nat}{id:Id}{m:Mem}(k:AV->Mem->Option R)(hn:n<=200):x1ry [B false] 1 1 (I n) (I n) id m k=k (srI id n) (m.new id (.row ((List.replicate n false).map B) 0 false)):=by
 simp only[x1ry,asI]
 rw[if_pos ⟨by omega,Int.le_refl _,by omega,by omega⟩]
 have:x1rd [B false] (((n:Int).toNat)*1)=(List.replicate n false).map B:=by
  simp only[x1rd,List.map_replicate,Int.toNat_natCast,Nat.mul_one]
  apply List.ext_getElem
  .simp
  .intro i h1 h2
   simp[Nat.mod_one]
 rw[this]
 simp
theorem mkSl_arc{R:Type}{n:Nat}{id:Id}{m:Mem}(k:AV->Mem->Option R)(hn:n<=200):x1ry [I 0,I 0,I 0,I 0,I 0] 5 40 (I n) (I n) id m k=k (.sref id 0 0 n 5 true) (m.new id (.row ((List.replicate n a00).flatMap Ar.c) 0 false)):=by
 simp only[x1ry,asI]
 rw[if_pos ⟨by omega,Int.le_refl _,by omega,by omega⟩]
 have hz:∀k:Nat,(List.replicate k a00).flatMap Ar.c=List.replicate (k*5) (I 0):=by
  intro k
  induction k with
  |zero=>rfl
  |succ k ih=>rw[List.replicate_succ,List.flatMap_cons,ih,Nat.succ_mul,Nat.add_comm,<-List.replicate_append_replicate];rfl
 have:x1rd [I 0,I 0,I 0,I 0,I 0] (((n:Int).toNat)*5)=(List.replicate n a00).flatMap Ar.c:=by
  rw[hz]
  simp only[x1rd,Int.toNat_natCast]
  apply List.ext_getElem
  .simp
  .intro i h1 h2
   simp only[List.getElem_map,List.getElem_range,List.getElem_replicate]
   have:i % 5<5:=Nat.mod_lt _ (by omega)
   match i % 5,this with
   |0,_=>rfl
   |1,_=>rfl
   |2,_=>rfl
   |3,_=>rfl
   |4,_=>rfl
   |k+5,h=>omega
 rw[this]
 simp
theorem w_ways(d:Nat){n:Nat}{S:AV}{l:List Edge}{fl tu ex:List Int}(hS:FrzS S n l fl tu ex){p:Int}(p0:0<=p)(p1:p<n)(u:Nat) :
 ∃sL m',x1qp (d+4) [] x1s [S,I p] ⟨[],u⟩=some (.agg [srL u sL n,.sref (u,16,26) 0 0 n 5 true,.sref (u,23,33) 0 0 n 1 true],m')/\WOut u sL n (waysF n l fl tu p) m'/\LenB ((200:Nat)*GB) (waysF n l fl tu p).len:=by
 have hn0:=hS.n0
 obtain⟨ev,F,TU,X,cells,bb,hSe,hev,hF,hTU,hX,hcl,hcs⟩:=hS.sh
 have hSc:S.cells=[S]:=by rw[hSe];rfl
 have hSo:S.one=true:=by rw[hSe];rfl
 obtain⟨sL,mR,hR,hRg,hRn⟩:=x255 d (u+1) farM hn0
 obtain⟨m1,hm1⟩:∃m1,m1=((⟨[],u+1⟩:Mem).new (u,0,2) (.row [S] 0 false)).new (u,1,4) (.row [nilS,nilS,nilS] 0 false):=⟨_,rfl⟩
 have n1:m1.next=u+1:=by rw[hm1];rfl
 obtain⟨m2,hC,hCn,hCg⟩:=x1vw (call:=x1qp (d+3)) (f:=x2d) (l:=[.slit [I farM] 1 true,I n]) (m:=m1) (m':=mR) (r:=.sref (u+1,sL,30) 0 0 n 1 true) rfl (by rw[n1];exact hR)
 have g2:m2.get (u,0,2)=some (.row [S] 0 false):=by rw[hCg,if_neg (by simp only[n1];omega),hm1];simp
 have g4:m2.get (u,1,4)=some (.row [nilS,nilS,nilS] 0 false):=by rw[hCg,if_neg (by simp only[n1];omega),hm1];simp
 have gL:m2.get (u+1,sL,30)=some (.row ((List.replicate n farM).flatMap intE) 0 false):=by rw[hCg,if_pos (by simp only[n1];omega)];exact hRg
 have nm2:m2.next=u+2:=by rw[hCn,hRn]
 obtain⟨m3,hm3⟩:∃m3,m3=m2.new (u,16,26) (.row ((List.replicate n a00).flatMap Ar.c) 0 false):=⟨_,rfl⟩
 obtain⟨m4,hm4⟩:∃m4,m4=m3.new (u,23,33) (.row ((List.replicate n (0:Int)).flatMap intE) 0 false):=⟨_,rfl⟩
 obtain⟨m5,hm5⟩:∃m5,m5=(m4.new (u,25,5) (.row [nilS,nilS,nilS] 0 false)).set (u,25,5) (.row [srL u sL n,.sref (u,16,26) 0 0 n 5 true,.sref (u,23,33) 0 0 n 1 true] 0 false):=⟨_,rfl⟩
 obtain⟨m6,hm6⟩:∃m6,m6=m5.new (u,33,41) (.row ((List.replicate n false).map B) 0 false):=⟨_,rfl⟩
 obtain⟨m7,hm7⟩:∃m7,m7=m6.set (u+1,sL,30) (.row (((List.replicate n farM).set p.toNat 0).flatMap intE) 0 false):=⟨_,rfl⟩
 have hI:WInv u sL S n (x1ta n p) m7:=by
  refine⟨?_,?_,?_,?_,?_,?_,by simp[x1ta],by simp[x1ta],by simp[x1ta],by rw[hm7,hm6,hm5,hm4,hm3];simp only[Mem.next_set,Mem.next_new];omega⟩
  .rw[hm7,hm6,hm5,hm4,hm3];simp[Mem.get_set,Mem.get_new,g2]
  .rw[hm7,hm6,hm5,hm4,hm3];simp[Mem.get_set,Mem.get_new,g4]
  .rw[hm7,hm6,hm5];simp[Mem.get_set,Mem.get_new]
  .rw[hm7];simp[x1ta]
  .rw[hm7,hm6,hm5,hm4,hm3];simp[Mem.get_set,Mem.get_new,x1ta]
  .rw[hm7,hm6,hm5,hm4];simp[Mem.get_set,Mem.get_new,x1ta]
 have hD:m7.get (u,33,41)=some (.row ((List.replicate n false).map B) 0 false):=by rw[hm7,hm6];simp[Mem.get_set,Mem.get_new]
 have hcn:=x22a n
 obtain⟨m',h1,h2,h3⟩:=l_ways (d+2) [] hS NN (x1ta n p) (List.replicate n false) m7 40 (by rw[hcn,x1r6];omega) (by simp) (by
  intro v
  rw[hcn,Nat.sub_self]
  unfold x1ta
  simp only
  rw[x1sa (by simp;omega)]
  split
  .right;omega
  .unfold at0
   rw[List.getD_eq_getElem?_getD,List.getElem?_replicate]
   split
   .left;rfl
   .right;simp) hI hD
 refine⟨sL,m',?_,h2,h3⟩
 rw[x108]
 unfold xdf xhb
 have hb:∀x y z:AV,x.cells=[x]->y.cells=[y]->z.cells=[z]->x1qx [nilS,nilS,nilS] [(0,1,x),(1,1,y),(2,1,z)]=some (.agg [x,y,z]):=by
  intro x y z h1 h2 h3
  simp[x1qx,x1rx,h1,h2,h3]
 have hst:∀x y z:AV,x.one=true->y.one=true->z.one=true->x1s2 3 0 0 (.agg [x,y,z]) (some (.row [nilS,nilS,nilS] 0 false))=some (.row [x,y,z] 0 false):=by
  intro x y z h1 h2 h3
  rw[x1u3]
  simp[x1rc,h1,h2,h3]
 have gm1:m1.get (u,0,2)=some (.row [S] 0 false):=by rw[hm1];simp
 simp only[x1vu,hSc,List.all_cons,List.all_nil,hSo,Bool.and_self,x1qw,x1ub,z_tour,x1t8,x1wg]
 rw[<-hm1]
 simp only[x1qy,gm1,x1r0,Nat.beq_refl,x1qw,List.drop_zero,rd_f,x1qt,hSe,sNil,x1v3,x1u2,Nat.zero_add]
 rw[<-hSe,hC]
 have g2':=g2
 have g3:m3.get (u,0,2)=some (.row [S] 0 false):=by rw[hm3];simp[Mem.get_new,g2]
 have g5:m5.get (u,0,2)=some (.row [S] 0 false):=by rw[hm5,hm4];simp[Mem.get_set,Mem.get_new,g3]
 simp only[x1qt,x1qy,g2,x1r0,Nat.beq_refl,x1qw,List.drop_zero,rd_f]
 simp only[hSe,sNil,x1qt,x1v3,x1u2,List.drop_zero,rd_f,z_arc,mkSl_arc _ hn0]
 rw[<-hSe,<-hm3]
 simp only[x1qt,x1qy,g3,x1r0,Nat.beq_refl,x1qw,List.drop_zero,rd_f]
 simp only[hSe,sNil,x1qt,x1v3,x1u2,List.drop_zero,rd_f,x1wh (show(0:Int)<=(n:Int) by omega) (show(n:Int)<=1000000 by omega),Int.toNat_natCast]
 rw[<-hSe,<-hm4,hb _ _ _ rfl rfl rfl]
 simp only[x1qt,x1rl,Mem.get_new,if_true]
 rw[hst _ _ _ rfl rfl rfl]
 simp only[x1qt]
 rw[<-hm5]
 have hTR:tR S=(some [],some []):=by rw[hSe];rfl
 have hTp:∀(id:Id) (a b:Nat),tR (.ptr id a b)=(some [id],some []):=fun _ _ _=>rfl
 have hTl:∀(cs:List AV),tR (.plit cs)=(some [],some []):=fun _=>rfl
 have hbb:(u+1).ble (u+1)=true:=Nat.ble_eq_true_of_le (Nat.le_refl _)
 simp[x1qs,disj,cAp,n1,Nat.blt,hTR,hTp,hTl,hbb]
 simp only[x1qt,x1qy,g5,x1r0,Nat.beq_refl,x1qw,List.drop_zero,rd_f]
 simp only[hSe,sNil,x1qt,x1v3,x1u2,List.drop_zero,rd_f,zb_bool,mkSl_bool _ hn0]
 rw[<-hm6]
 have g55:m6.get (u,25,5)=some (.row [srL u sL n,.sref (u,16,26) 0 0 n 5 true,.sref (u,23,33) 0 0 n 1 true] 0 false):=by rw[hm6,hm5];simp[Mem.get_set,Mem.get_new]
 have g6L:m6.get (u+1,sL,30)=some (.row ((List.replicate n farM).flatMap intE) 0 false):=by rw[hm6,hm5,hm4,hm3];simp[Mem.get_set,Mem.get_new,gL]
 have iLp:sIx 1 (.sref (u+1,sL,30) 0 0 n 1 true) (I p)=some (.ptr (u+1,sL,30) 0 p.toNat):=x1re p0 p1
 have hstL:=x1ss (l:=List.replicate n farM) (k:=p.toNat) (v:=0) (by simp;omega)
 simp only[x1qy,g55,x1r0,Nat.beq_refl,x1qw,List.drop_zero,rd_f,x1qt,iLp,x1rl,g6L,hstL]
 rw[<-hm7]
 exact h1
def okA(us:Nat)(id:Id):Prop:=id.1=us/\(id.2.2=116\/id.2.2=127)
structure SolMem (us n:Nat) (ev:AV) (l:List Edge) (fl tu ex:List Int) (m:Mem):Prop where
 s:m.get (us,21,25)=some (.row [I n,ev,srI (us,7,11) l.length,srI (us,11,15) n,srI (us,15,19) n,srI (us,19,23) n] 0 false)
 f:m.get (us,7,11)=some (.row (fl.flatMap intE) 0 false)
 t:m.get (us,11,15)=some (.row (tu.flatMap intE) 0 false)
 x:m.get (us,15,19)=some (.row (ex.flatMap intE) 0 false)
 a:∃cells,m.get (us,19,23)=some (.row cells 0 false)/\cells.length=n/\∀(v:Nat) (hv:v<cells.length),Gk 1 intE (okA us) m cells[v] (adjI l v)
 fll:fl.length=l.length
 tul:tu.length=n
 exl:ex.length=n
theorem SolMem.frame{us n:Nat}{ev:AV}{l:List Edge}{fl tu ex:List Int}{m m':Mem}(h:SolMem us n ev l fl tu ex m)(hm:∀id:Id,id.1=us->m'.get id=m.get id):SolMem us n ev l fl tu ex m':=by
 obtain⟨a,b,c,d,⟨cells,e1,e2,e3⟩,f,g,i⟩:=h
 refine⟨?_,?_,?_,?_,⟨cells,?_,e2,fun v hv=>(e3 v hv).frame fun id hid=>hm id hid.1⟩,f,g,i⟩<;>rw[hm _ rfl]<;>assumption
structure SolIn (n:Nat) (l:List Edge) (fl tu ex:List Int):Prop where
 n0:n<=200
 ll:l.length<=600
 ed:∀e∈l,EdgeIn n e/\e.fr≠e.to
 flb:∀k,-1000<=at0 fl k/\at0 fl k<=1000
 tub:∀k,-1000000<=at0 tu k/\at0 tu k<=1000000
 exb:∀k,-1000000<=at0 ex k/\at0 ex k<=1000000
theorem x286{objs:Id->Option Ob}{id:Id}{cs:List AV}{v off n z k:Nat}{f x:Bool}(h:objs id=some (.row cs v f))(hl:off+n*z<=cs.length):frz objs (k+1) (.sref id v off n z x)=(((cs.drop off).take (n*z)).mapM (frz objs k)).map fun l=>AV.slit l n false:=by
 simp only[frz,h]
 rw[if_pos ⟨trivial,hl⟩]
theorem x287{objs:Id->Option Ob}{id:Id}{cs:List AV}{v off k:Nat}{f:Bool}(h:objs id=some (.row cs v f)):frz objs (k+1) (.ptr id v off)=((cs.drop off).mapM (frz objs k)).map AV.plit:=by
 simp only[frz,h,if_true]
theorem x207{objs:Id->Option Ob}{id:Id}{l:List Int}{k:Nat}(h:objs id=some (.row (l.flatMap intE) 0 false)):∃a,Ints a l/\frz objs (k+2) (srI id l.length)=some a:=by
 have hl:=x1th l
 refine⟨.slit (l.flatMap intE) l.length false,Sl.lit l false,?_⟩
 have:=x1v4 (objs:=objs) (id:=id) (cs:=l.flatMap intE) (ver:=0) (off:=0) (n:=l.length) (z:=1) (k:=k) (f:=false) (x:=true) h (by omega) (by
  rw[List.drop_zero,List.take_of_length_le (by omega)];exact x1ur x1wf l)
 rw[List.drop_zero,List.take_of_length_le (by omega)]at this
 exact this
theorem mapM_ex{f:AV->Option AV}{P:Nat->AV->Prop}:∀(l:List AV) (k:Nat),(∀(v:Nat) (hv:v<l.length),∃b,f l[v]=some b/\P (k+v) b)->∃l',l.mapM f=some l'/\l'.length=l.length/\∀(v:Nat) (hv:v<l'.length),P (k+v) l'[v]
 |[],k,_=>⟨[],rfl,rfl,fun v hv=>by simp at hv⟩
 |a::l,k,h=>by
  obtain⟨b,h1,h2⟩:=h 0 (by simp)
  obtain⟨l',h3,h4,h5⟩:=mapM_ex (f:=f) (P:=P) l (k+1) fun v hv=>by
   obtain⟨b,e1,e2⟩:=h (v+1) (by simpa using hv)
   exact⟨b,e1,by rw[show k+1+v=k+(v+1) by omega];exact e2⟩
  refine⟨b::l',?_,by simp[h4],fun v hv=>?_⟩
  .rw[List.mapM_cons]
   simp only[List.getElem_cons_zero]at h1
   rw[h1,h3];rfl
  .cases v with
   |zero=>exact h2
   |succ v=>
    have:=h5 v (by simpa using hv)
    rw[show k+1+v=k+(v+1) by omega]at this
    exact this
theorem SolMem.frz{us n:Nat}{ev:AV}{l:List Edge}{fl tu ex:List Int}{m:Mem}(h:SolMem us n ev l fl tu ex m)(hi:SolIn n l fl tu ex)(hev:Sl Edge.c ev l):∃S,FrzS S n l fl tu ex/\Go.Ix.frz m.get deep (.ptr (us,21,25) 0 0)=some S:=by
 obtain⟨hs,hf,ht,hx,⟨cells,ha,hal,hac⟩,h1,h2,h3⟩:=h
 obtain⟨F,hF,fF⟩:=x207 (k:=3) hf
 obtain⟨T,hT,fT⟩:=x207 (k:=3) ht
 obtain⟨X,hX,fX⟩:=x207 (k:=3) hx
 obtain⟨cs,c1,c2,c3⟩:=mapM_ex (f:=Go.Ix.frz m.get 4) (P:=fun v b=>Ints b (adjI l v)) cells 0 fun v hv=>by
  obtain⟨a',g1,g2⟩:=(hac v hv).frz (k:=2) x1rk x1wf
  exact⟨a',g2,by simpa using g1⟩
 have fA:Go.Ix.frz m.get 5 (srI (us,19,23) n)=some (.slit cs n false):=by
  rw[x286 ha (by omega),List.drop_zero,List.take_of_length_le (by omega),c1]
  rfl
 refine⟨.plit [I n,ev,F,T,X,.slit cs n false],⟨⟨ev,F,T,X,cs,false,rfl,hev,hF,hT,hX,by omega,fun v hv=>by have:=c3 v hv;rwa[Nat.zero_add]at this⟩,h1,h2,h3,hi.n0,hi.ll,hi.ed,hi.flb,hi.tub⟩,?_⟩
 rw[h1]at fF
 rw[h2]at fT
 rw[h3]at fX
 have fe:Go.Ix.frz m.get 5 ev=some ev:=x1z2 _ 4 hev.still1
 rw[show deep=5+1 from rfl,x287 hs]
 have fn:Go.Ix.frz m.get 5 (I n)=some (I n):=rfl
 simp only[List.drop_zero,List.mapM_cons,List.mapM_nil,fn,fe,fF,fT,fX,fA]
 rfl
def nearM(len ex:List Int):Int->Int->List Int->Int
 |b,_,[]=>b
 |b,k,x::xs=>nearM len ex (if at0 ex k.toNat<0/\x<farM/\(b<0\/x<at0 len b.toNat)then k else b) (k+1) xs
def NearI(len ex:List Int)(k:Nat)(b:Int):Prop:=
 (b=-1/\∀i,i<k->at0 ex i<0->farM<=at0 len i) \/
 (0<=b/\b.toNat<k/\at0 ex b.toNat<0/\at0 len b.toNat<farM/\∀i,i<k->at0 ex i<0->at0 len b.toNat<=at0 len i)
theorem x259{len ex:List Int}:∀(xs:List Int) (k:Nat) (b:Int),len.drop k=xs->k<=len.length->NearI len ex k b->NearI len ex len.length (nearM len ex b k xs)
 |[],k,b,hx,hk,h=>by
  have:=List.drop_eq_nil_iff.mp hx
  have e:k=len.length:=by omega
  rw[<-e]
  exact h
 |x::xs,k,b,hx,hk,h=>by
  obtain⟨hk1,hxe,hx'⟩:=x1sm hx
  have e1:at0 len k=x:=by rw[x1ri hk1,hxe]
  simp only[nearM,Int.toNat_natCast]
  have:=x259 (len:=len) (ex:=ex) xs (k+1) (if at0 ex k<0/\x<farM/\(b<0\/x<at0 len b.toNat)then(k:Int)else b) hx' (by omega) (by
   split
   .rename_i c
    obtain⟨c1,c2,c3⟩:=c
    right
    refine⟨by omega,by simp,by simpa using c1,by simpa[e1]using c2,fun i hi hdi=>?_⟩
    simp only[Int.toNat_natCast,e1]
    by_cases e:i=k
    .subst e;omega
    .rcases h with ⟨h1,h2⟩|⟨h1,h2,h3,h4,h5⟩
     .have:=h2 i (by omega) hdi;omega
     .have:=h5 i (by omega) hdi
      rcases c3 with c3|c3<;>omega
   .rename_i c
    rcases h with ⟨h1,h2⟩|⟨h1,h2,h3,h4,h5⟩
    .left
     refine⟨h1,fun i hi hdi=>?_⟩
     by_cases e:i=k
     .subst e
      rw[e1]
      by_cases c2:x<farM
      .exact absurd ⟨hdi,c2,Or.inl (by omega)⟩ c
      .omega
     .exact h2 i (by omega) hdi
    .right
     refine⟨h1,by omega,h3,h4,fun i hi hdi=>?_⟩
     by_cases e:i=k
     .subst e
      rw[e1]
      by_cases c2:x<at0 len b.toNat
      .exact absurd ⟨hdi,by omega,Or.inr c2⟩ c
      .omega
     .exact h5 i (by omega) hdi)
  simpa using this
structure TourMem (u sL n:Nat) (t:Tour) (m:Mem):Prop where
 t4:m.get (u,3,4)=some (.row [srL (u+1) sL n,.sref (u+1,16,26) 0 0 n 5 true,.sref (u+1,23,33) 0 0 n 1 true] 0 false)
 len:m.get (u+1+1,sL,30)=some (.row (t.len.flatMap intE) 0 false)
 last:m.get (u+1,16,26)=some (.row (t.last.flatMap Ar.c) 0 false)
 bef:m.get (u+1,23,33)=some (.row (t.bef.flatMap intE) 0 false)
 ll:t.len.length=n
 al:t.last.length=n
 bl:t.bef.length=n
theorem TourMem.frame{u sL n:Nat}{t:Tour}{m m':Mem}(h:TourMem u sL n t m)(hm:∀id:Id,u<=id.1->m'.get id=m.get id):TourMem u sL n t m':=by
 obtain⟨a,b,c,d,e,f,g⟩:=h
 refine⟨?_,?_,?_,?_,e,f,g⟩<;>rw[hm _ (by simp only;omega)]<;>assumption
theorem l_near(d:Nat)(hs:FHs){us u sL n:Nat}{ev:AV}{l:List Edge}{fl tu ex:List Int}{t:Tour}{m:Mem}(hS:SolMem us n ev l fl tu ex m)(hT:TourMem u sL n t m)(hn:n<=200)(fr:Int) :
 ∀(xs:List Int) (k j:Nat) (b:Int) (fc:Nat),t.len.drop k=xs->xs.length<j->(b<0\/(0<=b/\b<n)) ->
 ∃fc',x3g (x1qp d) hs u j (.ptr (us,21,25) 0 0) (I fr) (.ptr (u,3,4) 0 0) (I b) (srL (u+1) sL n) (I n) (I k) m fc =
  x1p (x1qp d) hs u (.ptr (us,21,25) 0 0) (I fr) (.ptr (u,3,4) 0 0) (I (nearM t.len ex b k xs)) m fc':=by
 intro xs
 induction xs with
 |nil=>
  intro k j b fc hx hj hb
  obtain⟨j,rfl⟩:∃i,j=i+1:=⟨j-1,by simp at hj;omega⟩
  have hk:¬((k:Int)<(n:Int)):=by have:=List.drop_eq_nil_iff.mp hx;have:=hT.ll;omega
  refine⟨fc+1,?_⟩
  simp only[x3g]
  unfold x9f
  simp[hk,nearM]
 |cons x xs ih=>
  intro k j b fc hx hj hb
  obtain⟨j,rfl⟩:∃i,j=i+1:=⟨j-1,by simp at hj;omega⟩
  obtain⟨hk,hxe,hx'⟩:=x1sm hx
  have hkn:k<n:=by have:=hT.ll;omega
  have hkx:k<ex.length:=by rw[hS.exl];exact hkn
  have e1:at0 t.len k=x:=by rw[x1ri hk,hxe]
  have hk':(k:Int)<(n:Int):=by omega
  have i1:sIx 1 (srL (u+1) sL n) (I k)=some (.ptr (u+1+1,sL,30) 0 k):=by simpa using x1re (id:=(u+1+1,sL,30)) (n:=n) (k:=(k:Int)) (by omega) hk'
  have i2:sIx 1 (srI (us,15,19) n) (I k)=some (.ptr (us,15,19) 0 k):=by simpa using x1re (id:=(us,15,19)) (n:=n) (k:=(k:Int)) (by omega) hk'
  obtain⟨nb,hnb⟩:∃nb,nb=(if at0 ex (k:Int).toNat<0/\x<farM/\(b<0\/x<at0 t.len b.toNat)then(k:Int)else b):=⟨_,rfl⟩
  have hnb2:nb<0\/(0<=nb/\nb<n):=by rw[hnb];split<;>omega
  simp only[nearM]
  rw[<-hnb]
  rw[Int.toNat_natCast]at hnb
  have hbl:¬b<0->b.toNat<t.len.length:=fun h=>by have:=hT.ll;omega
  have i3:¬b<0->sIx 1 (srL (u+1) sL n) (I b)=some (.ptr (u+1+1,sL,30) 0 b.toNat):=fun h=>x1re (by omega) (by omega)
  by_cases c:at0 ex k<0/\x<farM/\(b<0\/x<at0 t.len b.toNat)
  .rw[if_pos c]at hnb
   obtain⟨fc',h1⟩:=ih (k+1) j nb (fc+1+32+2) hx' (by simp at hj;omega) hnb2
   refine⟨fc',?_⟩
   rw[show((k:Int)+1)=((k+1:Nat):Int)from rfl,<-h1,hnb]
   obtain⟨c1,c2,c3⟩:=c
   simp only[x3g]
   unfold x9f x9e
   by_cases hb0:b<0
   .simp(disch:=omega) [hk',i1,i2,hT.len,hS.s,hS.x,sNil,x1s7 hk,x1s7 hkx,e1,c1,c2,hb0,x3f]
   .have c3':x<at0 t.len b.toNat:=by rcases c3 with c3|c3;exact absurd c3 hb0;exact c3
    simp(disch:=omega) [hk',i1,i2,i3 hb0,hT.len,hT.t4,hS.s,hS.x,sNil,x1s7 hk,x1s7 hkx,x1s7 (hbl hb0),e1,c1,c2,hb0,c3',x3f]
  .rw[if_neg c]at hnb
   obtain⟨fc',h1⟩:=ih (k+1) j nb (fc+1+30+2) hx' (by simp at hj;omega) hnb2
   refine⟨fc',?_⟩
   rw[show((k:Int)+1)=((k+1:Nat):Int)from rfl,<-h1,hnb]
   simp only[x3g]
   unfold x9f x9e
   by_cases c1:at0 ex k<0
   rotate_left
   .simp(disch:=omega) [hk',i1,i2,hT.len,hS.s,hS.x,sNil,x1s7 hk,x1s7 hkx,e1,c1,x3f]
   by_cases c2:x<farM
   rotate_left
   .simp(disch:=omega) [hk',i1,i2,hT.len,hS.s,hS.x,sNil,x1s7 hk,x1s7 hkx,e1,c1,c2,x3f]
   by_cases hb0:b<0
   .exact absurd ⟨c1,c2,Or.inl hb0⟩ c
   by_cases c3:x<at0 t.len b.toNat
   .exact absurd ⟨c1,c2,Or.inr c3⟩ c
   simp(disch:=omega) [hk',i1,i2,i3 hb0,hT.len,hT.t4,hS.s,hS.x,sNil,x1s7 hk,x1s7 hkx,x1s7 (hbl hb0),e1,c1,c2,hb0,c3,x3f]
def minI(x y:Int):Int:=if y<x then y else x
def lastAt(t:Tour)(v:Nat):Ar:=t.last.getD v a00
theorem x25a{t:Tour}{v:Nat}(h:v<t.last.length):lastAt t v=t.last[v]:=by
 unfold lastAt;rw[List.getD_eq_getElem?_getD,List.getElem?_eq_getElem h];rfl
def PathI(n:Nat)(bef:List Int)(fr:Int):Int->List Nat->Prop
 |a,[]=>a=fr
 |a,v::ps=>a≠fr/\a=(v:Int)/\v<n/\PathI n bef fr (at0 bef v) ps
def amtM(t:Tour)(ps:List Nat)(a:Int):Int:=ps.foldl (fun a v=>minI a (lastAt t v).room) a
def flowP(t:Tour)(amt:Int)(ps:List Nat)(fl:List Int):List Int:=ps.foldl (fun fl v=>fl.set (lastAt t v).edge.toNat (at0 fl (lastAt t v).edge.toNat+(lastAt t v).sign*amt)) fl
def turnsP(tu len:List Int)(b:Int)(n:Nat):List Int:=(List.range n).map fun i=>at0 tu i+minI (at0 len i) b
def ArcsIn(E:Nat)(t:Tour)(ps:List Nat):Prop:=∀v∈ps,0<=(lastAt t v).edge/\(lastAt t v).edge<E/\((lastAt t v).sign=1\/(lastAt t v).sign=-1)/\0<=(lastAt t v).room/\(lastAt t v).room<=1000000
theorem rd_arc{l:List Ar}{k:Nat}(hk:k<l.length) :
 rd false 1 ((l.flatMap Ar.c).drop (k*5))=some (I (l[k]).edge)/\rd false 1 ((l.flatMap Ar.c).drop (k*5+2))=some (I (l[k]).sign)/\rd false 1 ((l.flatMap Ar.c).drop (k*5+3))=some (I (l[k]).room):=by
 have h0:(l.flatMap Ar.c).drop (k*5)=(l.drop k).flatMap Ar.c:=x223 Ar.len l k
 have h1:(l.flatMap Ar.c).drop (k*5)=I (l[k]).edge::I (l[k]).to::I (l[k]).sign::I (l[k]).room::I (l[k]).cost::(l.drop (k+1)).flatMap Ar.c:=by
  rw[h0,x1t5 hk,List.flatMap_cons];rfl
 refine⟨?_,?_,?_⟩
 .rw[h1];rfl
 .rw[<-List.drop_drop,h1];rfl
 .rw[<-List.drop_drop,h1];rfl
theorem x1s3{l:List Int}{k:Nat}(hk:k<l.length):rd false 1 ((l.flatMap intE).drop k)=some (I (at0 l k)):=by
 have:=x1s7 (fz:=false) hk
 rwa[x1r0,Nat.beq_refl,x1qw]at this
theorem l_amount(d:Nat)(hs:FHs){us u sL n E:Nat}{t:Tour}{m:Mem}(hT:TourMem u sL n t m)(fr to:Int) :
 ∀(ps:List Nat) (j:Nat) (a at':Int) (fc:Nat),PathI n t.bef fr at' ps->ArcsIn E t ps->ps.length<j ->
 ∃fc',x4w (x1qp d) hs u j (.ptr (us,21,25) 0 0) (I fr) (.ptr (u,3,4) 0 0) (I to) (I a) (I at') m fc =
  x2p (x1qp d) hs u (.ptr (us,21,25) 0 0) (I fr) (.ptr (u,3,4) 0 0) (I to) (I (amtM t ps a)) m fc':=by
 intro ps
 induction ps with
 |nil=>
  intro j a at' fc hp _ hj
  obtain⟨j,rfl⟩:∃i,j=i+1:=⟨j-1,by simp at hj;omega⟩
  have hp:at'=fr:=hp
  refine⟨fc+3,?_⟩
  simp only[x4w]
  unfold xco
  simp[hp,amtM]
 |cons v ps ih=>
  intro j a at' fc hp hA hj
  obtain⟨j,rfl⟩:∃i,j=i+1:=⟨j-1,by simp at hj;omega⟩
  obtain⟨h1,h2,h3,h4⟩:=hp
  have hvl:v<t.last.length:=by rw[hT.al];exact h3
  have hvb:v<t.bef.length:=by rw[hT.bl];exact h3
  have iA:sIx 5 (.sref (u+1,16,26) 0 0 n 5 true) (I v)=some (.ptr (u+1,16,26) 0 (v*5)):=by simp[sIx,asI,h3]
  have iB:sIx 1 (.sref (u+1,23,33) 0 0 n 1 true) (I v)=some (.ptr (u+1,23,33) 0 v):=by simpa using x1re (id:=(u+1,23,33)) (n:=n) (k:=(v:Int)) (by omega) (by omega)
  obtain⟨q0,q2,q3⟩:=rd_arc hvl
  obtain⟨fc',h5⟩:=ih j (minI a (lastAt t v).room) (at0 t.bef v) (fc+18) h4 (fun w hw=>hA w (List.mem_cons_of_mem _ hw)) (by simp at hj;omega)
  refine⟨fc',?_⟩
  have e:amtM t (v::ps) a=amtM t ps (minI a (lastAt t v).room):=rfl
  rw[e,<-h5]
  subst h2
  simp only[x4w]
  unfold xco
  simp only[sNe_I,x1qt,show((v:Int)=fr)=False from eq_false h1,decide_false,Bool.not_false,x1ru,x1rh,Nat.zero_add,x1qy,hT.t4,x1r0,Nat.beq_refl,x1qw,List.drop_zero,List.drop_succ_cons,rd_f,iA,iB,sMin_I,hT.last,hT.bef,q3,x1s3 hvb,x25a hvl]
  rfl
theorem l_flow(d:Nat)(hs:FHs){us u sL n:Nat}{ev:AV}{l:List Edge}{tu ex:List Int}{t:Tour}(fr to amt:Int)(hus:us<u)(ha:0<=amt/\amt<=1000000)(hl:l.length<=600) :
 ∀(ps:List Nat) (j:Nat) (at':Int) (fl:List Int) (b:Int) (m:Mem) (fc:Nat),PathI n t.bef fr at' ps->ArcsIn l.length t ps->ps.length<j->SolMem us n ev l fl tu ex m->TourMem u sL n t m->(∀k,-b<=at0 fl k/\at0 fl k<=b)->0<=b->b+ps.length*1000000<=1000000000000 ->
 ∃m' fc',x4v (x1qp d) hs u j (.ptr (us,21,25) 0 0) (I fr) (.ptr (u,3,4) 0 0) (I to) (I amt) (I at') m fc =
  x3e (x1qp d) hs u (.ptr (us,21,25) 0 0) (I fr) (.ptr (u,3,4) 0 0) (I to) (I amt) m' fc' /\
  SolMem us n ev l (flowP t amt ps fl) tu ex m'/\TourMem u sL n t m'/\m'.next=m.next/\∀id:Id,id≠(us,7,11)->m'.get id=m.get id:=by
 intro ps
 induction ps with
 |nil=>
  intro j at' fl b m fc hp _ hj hS hT hb hb0 hb1
  obtain⟨j,rfl⟩:∃i,j=i+1:=⟨j-1,by simp at hj;omega⟩
  have hp:at'=fr:=hp
  refine⟨m,fc+3,?_,hS,hT,rfl,fun _ _=>rfl⟩
  simp only[x4v]
  unfold xcn
  simp[hp]
 |cons v ps ih=>
  intro j at' fl b m fc hp hA hj hS hT hb hb0 hb1
  obtain⟨j,rfl⟩:∃i,j=i+1:=⟨j-1,by simp at hj;omega⟩
  obtain⟨h1,h2,h3,h4⟩:=hp
  obtain⟨a0,a1,a2,a3,a4⟩:=hA v (List.mem_cons_self ..)
  have hvl:v<t.last.length:=by rw[hT.al];exact h3
  have hvb:v<t.bef.length:=by rw[hT.bl];exact h3
  have iA:sIx 5 (.sref (u+1,16,26) 0 0 n 5 true) (I v)=some (.ptr (u+1,16,26) 0 (v*5)):=by simp[sIx,asI,h3]
  have iB:sIx 1 (.sref (u+1,23,33) 0 0 n 1 true) (I v)=some (.ptr (u+1,23,33) 0 v):=by simpa using x1re (id:=(u+1,23,33)) (n:=n) (k:=(v:Int)) (by omega) (by omega)
  have iF:sIx 1 (srI (us,7,11) l.length) (I (lastAt t v).edge)=some (.ptr (us,7,11) 0 (lastAt t v).edge.toNat):=x1re a0 a1
  have hfl:(lastAt t v).edge.toNat<fl.length:=by rw[hS.fll];omega
  obtain⟨q0,q2,q3⟩:=rd_arc hvl
  rw[<-x25a hvl]at q0 q2 q3
  have hbe:=hb (lastAt t v).edge.toNat
  have hsa:-1000000<=(lastAt t v).sign*amt/\(lastAt t v).sign*amt<=1000000:=by rcases a2 with h|h<;>rw[h]<;>omega
  simp only[List.length_cons]at hb1
  obtain⟨fl',hfl'⟩:∃fl',fl'=fl.set (lastAt t v).edge.toNat (at0 fl (lastAt t v).edge.toNat+(lastAt t v).sign*amt):=⟨_,rfl⟩
  obtain⟨M,hM⟩:∃M,M=m.set (us,7,11) (.row (fl'.flatMap intE) 0 false):=⟨_,rfl⟩
  have q:∀id:Id,id≠(us,7,11)->M.get id=m.get id:=fun id hid=>by rw[hM,Mem.get_set,if_neg hid]
  have hSM:SolMem us n ev l fl' tu ex M:=by
   obtain⟨b1,b2,b3,b4,⟨cells,c1,c2,c3⟩,b5,b6,b7⟩:=hS
   refine⟨?_,by rw[hM];simp,?_,?_,⟨cells,?_,c2,fun w hw=>(c3 w hw).frame fun id hid=>q id (by rintro rfl;rcases hid with ⟨_,h|h⟩<;>simp at h)⟩,by rw[hfl'];simp[b5],b6,b7⟩<;>rw[q _ (by simp)]<;>assumption
  have hTM:TourMem u sL n t M:=hT.frame fun id hid=>q id (by rintro rfl;simp at hid;omega)
  obtain⟨m',fc',h5,h6,h7,h8,h9⟩:=ih j (at0 t.bef v) fl' (b+1000000) M (fc+32) h4 (fun w hw=>hA w (List.mem_cons_of_mem _ hw)) (by simp at hj;omega) hSM hTM (by
   intro k
   rw[hfl',x1sa hfl]
   have:=hb k
   split<;>omega) (by omega) (by omega)
  refine⟨m',fc',?_,?_,h7,by rw[h8,hM];rfl,fun id hid=>by rw[h9 id hid,q id hid]⟩
  rotate_left
  .have e:flowP t amt (v::ps) fl=flowP t amt ps fl':=by rw[hfl'];rfl
   rw[e];exact h6
  rw[<-h5]
  subst h2
  simp only[x4v]
  unfold xcn
  simp only[sNe_I,x1qt,show((v:Int)=fr)=False from eq_false h1,decide_false,Bool.not_false,x1ru,sNil,x1rh,Nat.zero_add,Nat.add_zero,x1qy,hS.s,hT.t4,hT.last,x1r0,Nat.beq_refl,x1qw,List.drop_zero,List.drop_succ_cons,rd_f,iA]
  simp(disch:=omega)only[q0,q2,x1qt,iF,x1qy,hS.f,x1r0,Nat.beq_refl,x1qw,x1s3 hfl,x200,x1sl,x1rs,x1rl]
  rw[x1ss hfl]
  simp only[x1qt]
  rw[<-hfl',<-hM]
  simp only[x1qt,x1qy,hTM.t4,x1r0,Nat.beq_refl,x1qw,List.drop_zero,List.drop_succ_cons,rd_f,iB,hTM.bef,x1s3 hvb]
theorem x208{a b:List Int}{k:Nat}(hk:k<b.length)(ha:k<=a.length):at0 (a.take k++b.drop k) k=at0 b k:=by
 have h1:(a.take k).length=k:=by simp;omega
 rw[x1t5 hk]
 unfold at0
 rw[List.getD_eq_getElem?_getD,List.getElem?_append_right (by omega),h1,Nat.sub_self]
 rw[List.getD_eq_getElem?_getD,List.getElem?_eq_getElem hk]
 rfl
theorem x1z7{a b:List Int}{k:Nat}(hk:k<b.length)(ha:k<a.length):(a.take k++b.drop k).set k a[k]=a.take (k+1)++b.drop (k+1):=by
 have h1:(a.take k).length=k:=by simp;omega
 rw[x1t5 hk,List.set_append_right _ _ (by omega),h1,Nat.sub_self,List.set_cons_zero,List.take_succ_eq_append_getElem ha,List.append_assoc]
 rfl
theorem x1wx(tu len:List Int)(b:Int)(n:Nat):(turnsP tu len b n).length=n:=by simp[turnsP]
theorem x25b{tu len:List Int}{b:Int}{n k:Nat}(h:k<n):(turnsP tu len b n)[k]'(by rw[x1wx];exact h)=at0 tu k+minI (at0 len k) b:=by simp[turnsP]
theorem x209{x b:Int}:minI x b<=b:=by unfold minI;split<;>omega
theorem minI_ge{x b c:Int}(h1:c<=x)(h2:c<=b):c<=minI x b:=by unfold minI;split<;>omega
theorem l_turns(d:Nat)(hs:FHs){us u sL n:Nat}{ev:AV}{l:List Edge}{fl tu ex:List Int}{t:Tour}(hus:us<u)(hn:n<=200)(htl:tu.length=n)(htb:∀k,-1000000<=at0 tu k/\at0 tu k<=1000000)(hL:LenB ((200:Nat)*GB) t.len){to:Int}(to0:0<=to)(to1:to<n)(htf:at0 t.len to.toNat<farM) :
 ∀(s k j:Nat) (m:Mem) (fc:Nat),k+s=n->s<j->SolMem us n ev l fl ((turnsP tu t.len (at0 t.len to.toNat) n).take k++tu.drop k) ex m->TourMem u sL n t m ->
 ∃m',x4u (x1qp d) hs u j (.ptr (us,21,25) 0 0) (.ptr (u,3,4) 0 0) (I to) (srL (u+1) sL n) (I n) (I k) m fc=some (.tup [],m') /\
  SolMem us n ev l fl (turnsP tu t.len (at0 t.len to.toNat) n) ex m'/\m'.next=m.next/\∀id:Id,id≠(us,11,15)->m'.get id=m.get id:=by
 have hG:((200:Nat):Int)*GB=400200000:=by rfl
 rw[hG]at hL
 have hbt:=hL to.toNat
 intro s
 induction s with
 |zero=>
  intro k j m fc hk hj hS hT
  obtain⟨j,rfl⟩:∃i,j=i+1:=⟨j-1,by omega⟩
  have hkn:k=n:=by omega
  subst hkn
  rw[List.take_of_length_le (by rw[x1wx];omega),List.drop_eq_nil_of_le (by omega),List.append_nil]at hS
  refine⟨m,?_,hS,rfl,fun _ _=>rfl⟩
  simp only[x4u]
  unfold xcm
  simp
 |succ s ih=>
  intro k j m fc hk hj hS hT
  obtain⟨j,rfl⟩:∃i,j=i+1:=⟨j-1,by omega⟩
  have hkn:k<n:=by omega
  have hk':(k:Int)<(n:Int):=by omega
  have hlk:k<t.len.length:=by rw[hT.ll];exact hkn
  have hlt:to.toNat<t.len.length:=by rw[hT.ll];omega
  have iL:sIx 1 (srL (u+1) sL n) (I k)=some (.ptr (u+1+1,sL,30) 0 k):=by simpa using x1re (id:=(u+1+1,sL,30)) (n:=n) (k:=(k:Int)) (by omega) hk'
  have iLt:sIx 1 (srL (u+1) sL n) (I to)=some (.ptr (u+1+1,sL,30) 0 to.toNat):=x1re to0 to1
  have iT:sIx 1 (srI (us,11,15) n) (I k)=some (.ptr (us,11,15) 0 k):=by simpa using x1re (id:=(us,11,15)) (n:=n) (k:=(k:Int)) (by omega) hk'
  obtain⟨cur,hcur⟩:∃cur,cur=(turnsP tu t.len (at0 t.len to.toNat) n).take k++tu.drop k:=⟨_,rfl⟩
  rw[<-hcur]at hS
  have hcl:k<cur.length:=by rw[hcur];simp[x1wx];omega
  have hck:at0 cur k=at0 tu k:=by rw[hcur];exact x208 (by omega) (by rw[x1wx];omega)
  have hnext:cur.set k (at0 tu k+minI (at0 t.len k) (at0 t.len to.toNat))=(turnsP tu t.len (at0 t.len to.toNat) n).take (k+1)++tu.drop (k+1):=by
   rw[hcur,<-x25b hkn]
   exact x1z7 (by omega) (by rw[x1wx];exact hkn)
  have b1:=htb k
  have b2:=x209 (x:=at0 t.len k) (b:=at0 t.len to.toNat)
  have b3:-400200000<=minI (at0 t.len k) (at0 t.len to.toNat):=minI_ge (by have:=hL k;omega) (by omega)
  obtain⟨M,hM⟩:∃M,M=m.set (us,11,15) (.row ((cur.set k (at0 tu k+minI (at0 t.len k) (at0 t.len to.toNat))).flatMap intE) 0 false):=⟨_,rfl⟩
  have q:∀id:Id,id≠(us,11,15)->M.get id=m.get id:=fun id hid=>by rw[hM,Mem.get_set,if_neg hid]
  have hSM:SolMem us n ev l fl ((turnsP tu t.len (at0 t.len to.toNat) n).take (k+1)++tu.drop (k+1)) ex M:=by
   obtain⟨a1,a2,a3,a4,⟨cells,c1,c2,c3⟩,a5,a6,a7⟩:=hS
   refine⟨?_,?_,by rw[hM,<-hnext];simp,?_,⟨cells,?_,c2,fun w hw=>(c3 w hw).frame fun id hid=>q id (by rintro rfl;rcases hid with ⟨_,h|h⟩<;>simp at h)⟩,a5,by rw[<-hnext];simp[a6],a7⟩<;>rw[q _ (by simp)]<;>assumption
  have hTM:TourMem u sL n t M:=hT.frame fun id hid=>q id (by rintro rfl;simp at hid;omega)
  obtain⟨m',h1,h2,h3,h4⟩:=ih (k+1) j M (fc+25) (by omega) (by omega) hSM hTM
  refine⟨m',?_,h2,by rw[h3,hM];rfl,fun id hid=>by rw[h4 id hid,q id hid]⟩
  rw[<-h1]
  simp only[x4u]
  unfold xcm
  simp only[x1s6,x1qt,hk',decide_true,x1ru,iL,x1qy,hT.len,x1r0,Nat.beq_refl,x1qw,x1s3 hlk,sNil,x1rh,Nat.zero_add,hS.s,List.drop_zero,List.drop_succ_cons,rd_f,iT,hS.t,x1s3 hcl,hck,hT.t4,iLt,x1s3 hlt,sMin_I]
  have e:(if at0 t.len to.toNat<at0 t.len k then at0 t.len to.toNat else at0 t.len k)=minI (at0 t.len k) (at0 t.len to.toNat):=rfl
  rw[e]
  simp(disch:=omega)only[x1sl,x1rs,x1qt,x1rl,hS.t]
  rw[x1ss hcl]
  simp(disch:=omega)only[x1sl,x1rs,x1qt]
  rw[<-hM]
  rfl
theorem w_push(d:Nat)(hs:FHs){us n:Nat}{ev:AV}{l:List Edge}{fl tu ex:List Int}{m:Mem}(hus:us<m.next)(hS:SolMem us n ev l fl tu ex m)(hi:SolIn n l fl tu ex)(hev:Sl Edge.c ev l){fr:Int}(f0:0<=fr)(f1:fr<n){t:Tour}(ht:t=waysF n l fl tu fr){to:Int}(hto:to=nearM t.len ex (-1) 0 t.len)(to0:0<=to)(to1:to<n)(hne:to≠fr)(htf:at0 t.len to.toNat<farM){ps:List Nat}(hp:PathI n t.bef fr to ps)(hA:ArcsIn l.length t ps)(hpl:ps.length<=1000){amt:Int}(hamt:amt=amtM t ps (minI (at0 ex fr.toNat) (-(at0 ex to.toNat))))(a0:0<=amt)(a1:amt<=1000000) :
 ∃m',x1qp (d+5) hs x5p [.ptr (us,21,25) 0 0,I fr] m=some (.tup [],m') /\
  SolMem us n ev l (flowP t amt ps fl) (turnsP tu t.len (at0 t.len to.toNat) n) ((ex.set fr.toNat (at0 ex fr.toNat-amt)).set to.toNat (at0 ex to.toNat+amt)) m'/\m.next<=m'.next /\
  ∀id:Id,id.1<m.next->id≠(us,7,11)->id≠(us,11,15)->id≠(us,15,19)->m'.get id=m.get id:=by
 obtain⟨S,hF,hfz⟩:=hS.frz hi hev
 obtain⟨u,hu⟩:∃u,u=m.next:=⟨_,rfl⟩
 obtain⟨m0,hm0⟩:∃m0:Mem,m0=⟨m.hp,m.next+1⟩:=⟨_,rfl⟩
 have g0:∀id,m0.get id=m.get id:=fun _=>by rw[hm0];rfl
 have n0:m0.next=u+1:=by rw[hm0,hu]
 have hfz0:frz m0.get deep (.ptr (us,21,25) 0 0)=some S:=by rw[hm0];exact hfz
 obtain⟨sL,mw,hw,hW,hWL⟩:=w_ways d hF f0 f1 (u+1)
 rw[<-ht]at hW hWL
 have r1:x1r1 mw.get 5 (srL (u+1) sL n)=[(u+1+1,sL,30)]:=x1ww (k:=4) hW.len (by rw[x1us,List.all_eq_true];intro x hx;obtain⟨y,_,rfl⟩:=List.mem_map.mp hx;rfl)
 have r2:x1r1 mw.get 5 (.sref (u+1,16,26) 0 0 n 5 true)=[(u+1,16,26)]:=x1ww (k:=4) hW.last (by
  rw[List.all_eq_true];intro x hx
  obtain⟨a,_,hx⟩:=List.mem_flatMap.mp hx
  exact List.all_eq_true.mp a.sc x hx)
 have sci:∀k:List Int,(k.flatMap intE).all isSc=true:=fun k=>by rw[x1us,List.all_eq_true];intro x hx;obtain⟨y,_,rfl⟩:=List.mem_map.mp hx;rfl
 have r3:x1r1 mw.get 5 (.sref (u+1,23,33) 0 0 n 1 true)=[(u+1,23,33)]:=x1ww (k:=4) hW.bef (sci _)
 obtain⟨M,hM,hMn,hMg⟩:=call4 (call:=x1qp (d+4)) (f:=x1s) (l:=[.ptr (us,21,25) 0 0,I fr]) (l':=[S,I fr]) (m:=m0) (m':=mw) (ids:=[(u+1+1,sL,30),(u+1,16,26),(u+1,23,33)])
  (by
   have:frz m0.get deep (I fr)=some (I fr):=rfl
   simp only[List.mapM_cons,List.mapM_nil,hfz0,this];rfl)
  (by rw[n0];exact hw) rfl (by
   show[srL (u+1) sL n,.sref (u+1,16,26) 0 0 n 5 true,.sref (u+1,23,33) 0 0 n 1 true].flatMap (x1r1 mw.get 5)=_
   simp only[List.flatMap_cons,List.flatMap_nil,r1,r2,r3]
   rfl)
  (by
   intro i hi
   simp only[List.mem_cons,List.not_mem_nil,or_false]at hi
   rcases hi with rfl|rfl|rfl
   .exact⟨by simp only[n0];omega,_,_,hW.len,sci _⟩
   .exact⟨by simp only[n0];omega,_,_,hW.last,by
     rw[List.all_eq_true];intro x hx
     obtain⟨a,_,hx⟩:=List.mem_flatMap.mp hx
     exact List.all_eq_true.mp a.sc x hx⟩
   .exact⟨by simp only[n0];omega,_,_,hW.bef,sci _⟩)
 obtain⟨m2,hm2⟩:∃m2,m2=(M.new (u,3,4) (.row [nilS,nilS,nilS] 0 false)).set (u,3,4) (.row [srL (u+1) sL n,.sref (u+1,16,26) 0 0 n 5 true,.sref (u+1,23,33) 0 0 n 1 true] 0 false):=⟨_,rfl⟩
 have q2:∀id:Id,id≠(u,3,4)->m2.get id=M.get id:=fun id hid=>by rw[hm2,Mem.get_set,if_neg hid,Mem.get_new,if_neg hid]
 have qlow:∀id:Id,id.1<u->m2.get id=m.get id:=fun id hid=>by
  rw[q2 _ (by rintro rfl;simp at hid),hMg,if_neg,g0]
  simp only[List.mem_cons,List.not_mem_nil,or_false]
  rintro(rfl|rfl|rfl)<;>simp only at hid<;>omega
 have hT:TourMem u sL n t m2:=by
  refine⟨by rw[hm2];simp,?_,?_,?_,hW.ll,hW.al,hW.bl⟩
  .rw[q2 _ (by simp),hMg,if_pos (by simp)];exact hW.len
  .rw[q2 _ (by simp),hMg,if_pos (by simp)];exact hW.last
  .rw[q2 _ (by simp),hMg,if_pos (by simp)];exact hW.bef
 have hS2:SolMem us n ev l fl tu ex m2:=hS.frame fun id hid=>qlow id (by omega)
 have hm2n:u+2<m2.next:=by rw[hm2];simp only[Mem.next_set,Mem.next_new,hMn];have:=hW.nx;omega
 have hn:=hi.n0
 obtain⟨f3,e3⟩:=l_near (d+4) hs hS2 hT hn fr t.len 0 NN (-1) (6+4) rfl (by rw[hT.ll,x1r6];omega) (Or.inl (by omega))
 rw[show((0:Nat):Int)=0 from rfl,<-hto]at e3
 have ifr:sIx 1 (srI (us,15,19) n) (I fr)=some (.ptr (us,15,19) 0 fr.toNat):=x1re f0 f1
 have ito:sIx 1 (srI (us,15,19) n) (I to)=some (.ptr (us,15,19) 0 to.toNat):=x1re to0 to1
 have lfr:fr.toNat<ex.length:=by rw[hS.exl];omega
 have lto:to.toNat<ex.length:=by rw[hS.exl];omega
 have bf:=hi.exb fr.toNat
 have bt:=hi.exb to.toNat
 obtain⟨f4,e4⟩:=l_amount (d+4) hs (us:=us) hT fr to ps NN (minI (at0 ex fr.toNat) (-(at0 ex to.toNat))) to (f3+17+2) hp hA (by rw[x1r6];omega)
 rw[<-hamt]at e4
 obtain⟨m3,f5,e5,S3,T3,n3,q3⟩:=l_flow (d+4) hs (us:=us) fr to amt (by omega:us<u) ⟨a0,a1⟩ hi.ll ps NN to fl 1000 m2 (f4+2) hp hA (by rw[x1r6];omega) hS2 hT hi.flb (by omega) (by omega)
 have lfr3:fr.toNat<ex.length:=lfr
 obtain⟨m4,hm4⟩:∃m4,m4=m3.set (us,15,19) (.row ((ex.set fr.toNat (at0 ex fr.toNat-amt)).flatMap intE) 0 false):=⟨_,rfl⟩
 obtain⟨m5,hm5⟩:∃m5,m5=m4.set (us,15,19) (.row (((ex.set fr.toNat (at0 ex fr.toNat-amt)).set to.toNat (at0 ex to.toNat+amt)).flatMap intE) 0 false):=⟨_,rfl⟩
 have q5:∀id:Id,id≠(us,15,19)->m5.get id=m3.get id:=fun id hid=>by rw[hm5,Mem.get_set,if_neg hid,hm4,Mem.get_set,if_neg hid]
 have q4:∀id:Id,id≠(us,15,19)->m4.get id=m3.get id:=fun id hid=>by rw[hm4,Mem.get_set,if_neg hid]
 have hS5:SolMem us n ev l (flowP t amt ps fl) ((turnsP tu t.len (at0 t.len to.toNat) n).take 0++tu.drop 0) ((ex.set fr.toNat (at0 ex fr.toNat-amt)).set to.toNat (at0 ex to.toNat+amt)) m5:=by
  obtain⟨b1,b2,b3,b4,⟨cells,c1,c2,c3⟩,b5,b6,b7⟩:=S3
  rw[List.take_zero,List.drop_zero,List.nil_append]
  refine⟨?_,?_,?_,by rw[hm5];simp,⟨cells,?_,c2,fun w hw=>(c3 w hw).frame fun id hid=>q5 id (by rintro rfl;rcases hid with ⟨_,h|h⟩<;>simp at h)⟩,b5,b6,by simp[b7]⟩<;>rw[q5 _ (by simp)]<;>assumption
 have hT5:TourMem u sL n t m5:=T3.frame fun id hid=>q5 id (by rintro rfl;simp at hid;omega)
 obtain⟨m6,h6,S6,n6,q6⟩:=l_turns (d+4) hs (by omega:us<u) hn hS.tul hi.tub hWL to0 to1 htf n 0 NN m5 (f5+26) (by omega) (by rw[x1r6];omega) hS5 hT5
 refine⟨m6,?_,S6,?_,?_⟩
 .rw[x100]
  unfold xer xh4
  have hst:∀x y z:AV,x.cells=[x]->y.cells=[y]->z.cells=[z]->x.one=true->y.one=true->z.one=true->x1s2 3 0 0 (.agg [x,y,z]) (some (.row [nilS,nilS,nilS] 0 false))=some (.row [x,y,z] 0 false):=by
   intro x y z _ _ _ h1 h2 h3
   rw[x1u3]
   simp[x1rc,h1,h2,h3]
  rw[<-hm0]
  simp only[hM,x1qt,x1ub,z_tour,x1rl,Mem.get_new,if_true]
  rw[<-hu,show(0+3:Nat)=3 from rfl,hst _ _ _ rfl rfl rfl rfl rfl rfl]
  simp only[x1qt]
  rw[<-hm2]
  unfold xcq
  have hlen:sLen Try.prog x5 (srL (u+1) sL n)=some (I n):=rfl
  simp only[x1rh,x1qt,Nat.zero_add,x1qy,hT.t4,x1r0,Nat.beq_refl,x1qw,List.drop_zero,rd_f,hlen]
  rw[e3]
  unfold x1p
  simp(disch:=omega)only[sNil,x1qt,x1rh,Nat.zero_add,x1qy,hS2.s,hS2.x,x1r0,Nat.beq_refl,x1qw,List.drop_zero,List.drop_succ_cons,rd_f,ifr,ito,x1s3 lfr,x1s3 lto,sNeg_I,x1rs,Int.zero_sub,sMin_I]
  rw[show(if -(at0 ex to.toNat)<at0 ex fr.toNat then -(at0 ex to.toNat)else at0 ex fr.toNat)=minI (at0 ex fr.toNat) (-(at0 ex to.toNat))from rfl]
  unfold xcp
  rw[e4]
  unfold x2p
  rw[e5]
  unfold x3e
  simp(disch:=omega)only[sNil,x1qt,x1rh,Nat.zero_add,x1qy,S3.s,S3.x,x1r0,Nat.beq_refl,x1qw,List.drop_zero,List.drop_succ_cons,rd_f,ifr,x1s3 lfr,x1xz,x1rs,x1rl]
  rw[x1ss lfr]
  simp only[x1qt]
  rw[<-hm4]
  have gs4:m4.get (us,21,25)=some (.row [I n,ev,srI (us,7,11) l.length,srI (us,11,15) n,srI (us,15,19) n,srI (us,19,23) n] 0 false):=by rw[q4 _ (by simp)];exact S3.s
  have gx4:m4.get (us,15,19)=some (.row ((ex.set fr.toNat (at0 ex fr.toNat-amt)).flatMap intE) 0 false):=by rw[hm4];simp
  have lto4:to.toNat<(ex.set fr.toNat (at0 ex fr.toNat-amt)).length:=by simpa using lto
  have hx4:at0 (ex.set fr.toNat (at0 ex fr.toNat-amt)) to.toNat=at0 ex to.toNat:=by rw[x1sa lfr,if_neg (by omega)]
  simp(disch:=omega)only[sNil,x1qt,x1rh,Nat.zero_add,x1qy,gs4,gx4,x1r0,Nat.beq_refl,x1qw,List.drop_zero,List.drop_succ_cons,rd_f,ito,x1s3 lto4,hx4,x1sl,x1rs,x1rl]
  rw[x1ss lto4]
  simp only[x1qt]
  rw[<-hm5]
  simp only[x1rh,x1qt,Nat.zero_add,x1qy,hT5.t4,x1r0,Nat.beq_refl,x1qw,List.drop_zero,rd_f,hlen]
  exact h6
 .rw[n6,hm5,hm4]
  simp only[Mem.next_set]
  omega
 .intro id h1 h2 h3 h4
  rw[q6 id h3,q5 id h4,q3 id h2,qlow id (by omega)]
def f0M(e:Edge):Int:=if 0<e.jump then e.wt else if e.jump<0 then -e.wt else 0
def exUp(p:List Int)(e:Edge):List Int:=(p.set e.fr.toNat (at0 p e.fr.toNat-f0M e)).set e.to.toNat (at0 p e.to.toNat+f0M e)
def ex0M(n:Nat)(l:List Edge):List Int:=l.foldl exUp (List.replicate n 0)
theorem x22c{l:List Edge}{k i:Nat}(h:i<k):edgeAt (l.take k) i=edgeAt l i:=by
 unfold edgeAt
 simp only[List.getD_eq_getElem?_getD]
 rw[List.getElem?_take_of_lt h]
theorem adjI_succ{l:List Edge}{k:Nat}{e:Edge}(hk:k<l.length)(he:l[k]=e)(v:Int):adjI (l.take (k+1)) v=adjI (l.take k) v++(if e.fr=v\/e.to=v then[(k:Int)]else[]):=by
 unfold adjI
 have h1:(l.take (k+1)).length=k+1:=by simp;omega
 have h2:(l.take k).length=k:=by simp;omega
 rw[h1,h2,List.range_succ,List.filter_append,List.map_append]
 congr 1
 .congr 1
  apply List.filter_congr
  intro i hi
  have:=List.mem_range.mp hi
  rw[x22c (by omega),x22c (by omega)]
 .have h3:edgeAt (l.take (k+1)) k=e:=by rw[x22c (by omega),x1t9 hk,he]
  simp only[List.filter_cons,List.filter_nil,h3,Bool.or_eq_true,decide_eq_true_eq]
  split<;>rfl
def okid(u fc:Nat)(id:Id):Prop:=id.1=u/\(id.2.2=116\/id.2.2=127)/\id.2.1<fc
structure AtI (u fc:Nat) (cells:List AV) (adj:Nat->List Int) (m:Mem):Prop where
 sh:∃ids:Nat->Id,(∀(v:Nat) (hv:v<cells.length),(cells[v]=nilS/\adj v=[])\/(∃ver,cells[v]=.sref (ids v) ver 0 (adj v).length 1 true/\m.get (ids v)=some (.row ((adj v).flatMap intE) ver false)/\okid u fc (ids v)/\adj v≠[])) /\
  ∀v w,v<cells.length->w<cells.length->adj v≠[]->adj w≠[]->v≠w->ids v≠ids w
theorem AtI.frame{u fc fc':Nat}{cells:List AV}{adj:Nat->List Int}{m m':Mem}(h:AtI u fc cells adj m)(hm:∀id,okid u fc id->m'.get id=m.get id)(hfc:fc<=fc'):AtI u fc' cells adj m':=by
 obtain⟨ids,h1,h2⟩:=h.sh
 refine⟨ids,fun v hv=>?_,h2⟩
 rcases h1 v hv with h|⟨ver,a,b,c,d⟩
 .exact Or.inl h
 .exact Or.inr ⟨ver,a,by rw[hm _ c];exact b,⟨c.1,c.2.1,by have:=c.2.2;omega⟩,d⟩
theorem AtI.app{u fc fc':Nat}{cells:List AV}{adj:Nat->List Int}{m:Mem}(h:AtI u fc cells adj m){v:Nat}(hv:v<cells.length)(x:Int){id0:Id}(h1:id0.1=u)(h2:id0.2.2=116\/id0.2.2=127)(h3:fc<=id0.2.1)(h4:id0.2.1<fc')(hr:(adj v).length<=100000) :
 ∃a' m' idA,(∀{R:Type} (k:AV->Mem->Option R),sApp 1 8 id0 (some (intE x,1)) cells[v] m k=k a' m')/\AtI u fc' (cells.set v a') (fun w=>if w=v then adj v++[x]else adj w) m'/\a'.cells=[a']/\a'.one=true/\m'.next=m.next/\(∀j:Id,¬okid u fc' j->m'.get j=m.get j) /\
  tA id0 cells[v]=some [idA]/\(idA.2.2=116\/idA.2.2=127)/\idA.1=u:=by
 obtain⟨ids,e1,e2⟩:=h.sh
 have hro:∀k,k<=100001->x1r4 k 8:=fun k hk=>by unfold x1r4;omega
 have others:∀(w:Nat) (hw:w<cells.length),((cells[w]=nilS/\adj w=[])\/(∃ver,cells[w]=.sref (ids w) ver 0 (adj w).length 1 true/\m.get (ids w)=some (.row ((adj w).flatMap intE) ver false)/\okid u fc (ids w)/\adj w≠[])):=e1
 rcases e1 v hv with ⟨c1,c2⟩|⟨ver,c1,c2,c3,c4⟩
 ·
  refine⟨.sref id0 0 0 1 1 true,m.new id0 (.row (intE x) 0 false),id0,fun k=>?_,⟨fun w=>if w=v then id0 else ids w,fun w hw=>?_,fun w w' hw hw' n1 n2 hne=>?_⟩,rfl,rfl,rfl,fun j hj=>?_,by rw[c1];rfl,h2,h1⟩
  .rw[c1]
   simp only[sApp]
   rw[if_neg (by omega),if_pos (hro 1 (by omega))]
  .simp only[List.length_set]at hw
   by_cases hwv:w=v
   .subst hwv
    right
    refine⟨0,?_,?_,?_,by simp⟩
    .simp[c2]
    .simp[c2]
    .simp only[if_true];exact⟨h1,h2,h4⟩
   .rw[List.getElem_set_ne (fun e=>hwv e.symm)]
    simp only[if_neg hwv]
    rcases others w hw with h|⟨ver,a,b,c,d⟩
    .exact Or.inl h
    .refine Or.inr ⟨ver,a,?_,⟨c.1,c.2.1,by have:=c.2.2;omega⟩,d⟩
     rw[Mem.get_new,if_neg (by rintro e;rw[e]at c;have:=c.2.2;omega)];exact b
  .simp only[List.length_set]at hw hw'
   by_cases hwv:w=v
   .have hwv':w'≠v:=by omega
    simp only[if_pos hwv,if_neg hwv']
    simp only[if_neg hwv']at n2
    rcases others w' hw' with ⟨_,h⟩|⟨_,_,_,c,_⟩
    .exact absurd h n2
    .intro e;rw[<-e]at c;have:=c.2.2;omega
   .by_cases hwv':w'=v
    .simp only[if_neg hwv,if_pos hwv']
     simp only[if_neg hwv]at n1
     rcases others w hw with ⟨_,h⟩|⟨_,_,_,c,_⟩
     .exact absurd h n1
     .intro e;rw[e]at c;have:=c.2.2;omega
    .simp only[if_neg hwv,if_neg hwv']at n1 n2 ⊢
     exact e2 w w' hw hw' n1 n2 hne
  .rw[Mem.get_new,if_neg (by rintro rfl;exact hj ⟨h1,h2,h4⟩)]
 .have hl:=x1th (adj v)
  refine⟨.sref (ids v) (ver+1) 0 ((adj v).length+1) 1 true,m.set (ids v) (.row ((adj v).flatMap intE++intE x) (ver+1) false),ids v,fun k=>?_,⟨ids,fun w hw=>?_,fun w w' hw hw' n1 n2 hne=>?_⟩,rfl,rfl,rfl,fun j hj=>?_,by rw[c1];rfl,c3.2.1,c3.1⟩
  .rw[c1]
   simp only[sApp,c2]
   rw[if_pos ⟨trivial,trivial,by omega,hro _ (by omega)⟩,if_neg (by omega),if_neg (by omega),List.drop_zero,List.take_of_length_le (by omega)]
  .simp only[List.length_set]at hw
   by_cases hwv:w=v
   .subst hwv
    right
    refine⟨ver+1,by simp,by simp,⟨c3.1,c3.2.1,by have:=c3.2.2;omega⟩,by simp⟩
   .rw[List.getElem_set_ne (fun e=>hwv e.symm)]
    simp only[if_neg hwv]
    rcases others w hw with h|⟨ver',a,b,c,d⟩
    .exact Or.inl h
    .refine Or.inr ⟨ver',a,?_,⟨c.1,c.2.1,by have:=c.2.2;omega⟩,d⟩
     rw[Mem.get_set,if_neg (e2 w v hw hv d c4 hwv)];exact b
  .simp only[List.length_set]at hw hw'
   refine e2 w w' hw hw' ?_ ?_ hne
   .by_cases hwv:w=v
    .subst hwv;exact c4
    .simpa[hwv]using n1
   .by_cases hwv:w'=v
    .subst hwv;exact c4
    .simpa[hwv]using n2
  .rw[Mem.get_set,if_neg (by rintro rfl;exact hj ⟨c3.1,c3.2.1,by have:=c3.2.2;omega⟩)]
theorem x1y7{l:List AV}{k:Nat}(hk:k<l.length):rd false 1 (l.drop k)=some l[k]:=by rw[x1t5 hk];rfl
theorem x20a{l:List AV}{k:Nat}{a:AV}(hk:k<l.length)(h1:a.cells=[a])(h2:a.one=true):x1s2 1 0 k a (some (.row l 0 false))=some (.row (l.set k a) 0 false):=by
 have h:(0:Nat)=0/\a.cells.length=1/\k+1<=l.length/\(a.cells.all AV.one)=true:=⟨rfl,by rw[h1];rfl,by omega,by rw[h1];simp[h2]⟩
 rw[x1u3,decide_eq_true h,cond_true]
 simp only[x1rc,h1]
 congr 2
 rw[List.set_eq_take_append_cons_drop,if_pos hk]
 simp
structure NSInv (u fc n:Nat) (ev:AV) (l:List Edge) (k:Nat) (m:Mem):Prop where
 s:m.get (u,21,25)=some (.row [I n,ev,srI (u,7,11) l.length,srI (u,11,15) n,srI (u,15,19) n,srI (u,19,23) n] 0 false)
 f:m.get (u,7,11)=some (.row (((l.map f0M).take k++List.replicate (l.length-k) 0).flatMap intE) 0 false)
 t:m.get (u,11,15)=some (.row ((List.replicate n (0:Int)).flatMap intE) 0 false)
 x:m.get (u,15,19)=some (.row ((ex0M n (l.take k)).flatMap intE) 0 false)
 a:∃cells,m.get (u,19,23)=some (.row cells 0 false)/\cells.length=n/\AtI u fc cells (adjI (l.take k) ·) m
 nx:u<m.next
theorem x22d(n:Nat)(l:List Edge):(ex0M n l).length=n:=by
 unfold ex0M
 have:∀(l:List Edge) (p:List Int),(l.foldl exUp p).length=p.length:=by
  intro l
  induction l with
  |nil=>intro p;rfl
  |cons e r ih=>intro p;rw[List.foldl_cons,ih];simp[exUp]
 rw[this];simp
theorem ex0M_snoc(n:Nat)(l:List Edge)(e:Edge):ex0M n (l++[e])=exUp (ex0M n l) e:=by
 unfold ex0M;rw[List.foldl_append];rfl
theorem f0M_in{n:Nat}{e:Edge}(h:EdgeIn n e):-1000<=f0M e/\f0M e<=1000:=by
 have:=h.w0
 have:=h.w1
 unfold f0M
 split
 .omega
 .split<;>omega
theorem ex0M_in{n:Nat}:∀(l:List Edge),(∀e∈l,EdgeIn n e/\e.fr≠e.to)->∀w,-(1000*(l.length:Int))<=at0 (ex0M n l) w/\at0 (ex0M n l) w<=1000*(l.length:Int):=by
 have:∀(l:List Edge) (p:List Int) (b:Int),p.length=n->(∀e∈l,EdgeIn n e/\e.fr≠e.to)->(∀w,-b<=at0 p w/\at0 p w<=b)->∀w,-(b+1000*(l.length:Int))<=at0 (l.foldl exUp p) w/\at0 (l.foldl exUp p) w<=b+1000*(l.length:Int):=by
  intro l
  induction l with
  |nil=>intro p b _ _ h w;have:=h w;simp;omega
  |cons e r ih=>
   intro p b hp he h w
   obtain⟨h1,h2⟩:=he e (List.mem_cons_self ..)
   have hf:=f0M_in h1
   obtain⟨f0,f1,t0,t1,-⟩:=h1
   have:=ih (exUp p e) (b+1000) (by simp[exUp,hp]) (fun x hx=>he x (List.mem_cons_of_mem _ hx)) (fun w=>by
    unfold exUp
    rw[x1sa (by simp;omega),x1sa (by omega)]
    have a1:=h w
    have a2:=h e.to.toNat
    have a3:=h e.fr.toNat
    split
    .omega
    .split<;>omega) w
   rw[List.foldl_cons]
   simp only[List.length_cons]
   omega
 intro l he w
 have:=this l (List.replicate n 0) 0 (by simp) he (fun w=>by rw[x1z5];omega) w
 unfold ex0M
 omega
theorem ns_tail(d:Nat)(hs:FHs){u n:Nat}{ev:AV}{l:List Edge}(hl:l.length<=600)(hn:n<=200)(hed:∀e∈l,EdgeIn n e/\e.fr≠e.to){k:Nat}(hk:k<l.length){e:Edge}(he:l[k]=e){fE fc:Nat}(rec0:AV->AV->AV->AV->Mem->Nat->Option (AV×Mem)){m:Mem}(hs1:m.get (u,21,25)=some (.row [I n,ev,srI (u,7,11) l.length,srI (u,11,15) n,srI (u,15,19) n,srI (u,19,23) n] 0 false))(hf1:m.get (u,7,11)=some (.row (((l.map f0M).take (k+1)++List.replicate (l.length-(k+1)) 0).flatMap intE) 0 false))(ht1:m.get (u,11,15)=some (.row ((List.replicate n (0:Int)).flatMap intE) 0 false))(hx1:m.get (u,15,19)=some (.row ((ex0M n (l.take k)).flatMap intE) 0 false)){cells:List AV}(ha1:m.get (u,19,23)=some (.row cells 0 false))(hcl:cells.length=n)(hA:AtI u fc cells (adjI (l.take k) ·) m)(hnx:u<m.next)(hE:m.get (u,fE,5)=some (.row [I e.fr,I e.to,I e.jump,I e.wt] 0 false)) :
 ∃m',x4t (x1qp d) hs u rec0 (.ptr (u,21,25) 0 0) (I k) (.ptr (u,fE,5) 0 0) ev (I l.length) (I k) m fc=rec0 (.ptr (u,21,25) 0 0) ev (I l.length) (I ((k+1:Nat):Int)) m' (fc+76)/\NSInv u (fc+76) n ev l (k+1) m'/\m'.next=m.next:=by
 obtain⟨hee,hne⟩:=hed e (he▸List.getElem_mem hk)
 have hf:=f0M_in hee
 obtain⟨f0,f1,t0,t1,j0,j1,w0,w1⟩:=hee
 have hbx:=ex0M_in (n:=n) (l.take k) (fun x hx=>hed x (List.mem_of_mem_take hx))
 have hlk:((l.take k).length:Int)<=600:=by simp;omega
 obtain⟨ex,hex⟩:∃ex,ex=ex0M n (l.take k):=⟨_,rfl⟩
 rw[<-hex]at hbx hx1
 have hexl:ex.length=n:=by rw[hex];exact x22d n _
 obtain⟨fl,hfl⟩:∃fl,fl=(l.map f0M).take (k+1)++List.replicate (l.length-(k+1)) 0:=⟨_,rfl⟩
 rw[<-hfl]at hf1
 have hfll:fl.length=l.length:=by rw[hfl];simp;omega
 have hfk:at0 fl k=f0M e:=by
  rw[hfl]
  have h1:k<((l.map f0M).take (k+1)).length:=by simp;omega
  rw[x252 h1,x1ri h1]
  simp[he]
 have lfr:e.fr.toNat<ex.length:=by omega
 have lto:e.to.toNat<ex.length:=by omega
 have lk:k<fl.length:=by omega
 have cfr:e.fr.toNat<cells.length:=by omega
 have cto:e.to.toNat<cells.length:=by omega
 have ifr:sIx 1 (srI (u,15,19) n) (I e.fr)=some (.ptr (u,15,19) 0 e.fr.toNat):=x1re f0 f1
 have ito:sIx 1 (srI (u,15,19) n) (I e.to)=some (.ptr (u,15,19) 0 e.to.toNat):=x1re t0 t1
 have afr:sIx 1 (srI (u,19,23) n) (I e.fr)=some (.ptr (u,19,23) 0 e.fr.toNat):=x1re f0 f1
 have ato:sIx 1 (srI (u,19,23) n) (I e.to)=some (.ptr (u,19,23) 0 e.to.toNat):=x1re t0 t1
 have ifk:sIx 1 (srI (u,7,11) l.length) (I k)=some (.ptr (u,7,11) 0 k):=by simpa using x1re (id:=(u,7,11)) (n:=l.length) (k:=(k:Int)) (by omega) (by omega)
 have bfr:=hbx e.fr.toNat
 have bto:=hbx e.to.toNat
 obtain⟨ex1,hex1⟩:∃ex1,ex1=ex.set e.fr.toNat (at0 ex e.fr.toNat-f0M e):=⟨_,rfl⟩
 have hx1t:at0 ex1 e.to.toNat=at0 ex e.to.toNat:=by rw[hex1,x1sa lfr,if_neg (by omega)]
 have lto1:e.to.toNat<ex1.length:=by rw[hex1];simpa using lto
 obtain⟨m1,hm1⟩:∃m1,m1=m.set (u,15,19) (.row (ex1.flatMap intE) 0 false):=⟨_,rfl⟩
 obtain⟨m2,hm2⟩:∃m2,m2=m1.set (u,15,19) (.row ((exUp ex e).flatMap intE) 0 false):=⟨_,rfl⟩
 have q1:∀id:Id,id≠(u,15,19)->m1.get id=m.get id:=fun id hid=>by rw[hm1,Mem.get_set,if_neg hid]
 have q2:∀id:Id,id≠(u,15,19)->m2.get id=m.get id:=fun id hid=>by rw[hm2,Mem.get_set,if_neg hid,q1 id hid]
 have hA2:AtI u (fc+58) cells (adjI (l.take k) ·) m2:=hA.frame (fun id hid=>q2 id (by rintro rfl;rcases hid.2.1 with h|h<;>simp at h)) (by omega)
 have adl:∀v,(adjI (l.take k) v).length<=600:=fun v=>by
  unfold adjI
  rw[List.length_map]
  have:=List.length_filter_le (fun i=>decide ((edgeAt (l.take k) i).fr=v)||decide ((edgeAt (l.take k) i).to=v)) (List.range (l.take k).length)
  rw[List.length_range]at this
  simp at this ⊢
  omega
 obtain⟨a1,m4,id1,A1,AI1,c11,c12,n4,q4,tA1,ty1,iu1⟩:=hA2.app cfr (k:Int) (id0:=(u,fc+58,116)) (fc':=fc+69) rfl (Or.inl rfl) (Nat.le_refl _) (by simp only;omega) (by have:=adl (e.fr.toNat:Int);omega)
 have e24:(cells.set e.fr.toNat a1)[e.to.toNat]'(by simpa using cto)=cells[e.to.toNat]:=by rw[List.getElem_set_ne (by omega)]
 obtain⟨a2,m6,id2,A2,AI2,c21,c22,n6,q6,tA2,ty2,iu2⟩:=AI1.app (v:=e.to.toNat) (by simpa using cto) (k:Int) (id0:=(u,fc+69,127)) (fc':=fc+76) rfl (Or.inr rfl) (Nat.le_refl _) (by simp only;omega) (by have h1:=adl (e.fr.toNat:Int);have h2:=adl (e.to.toNat:Int);show(if _ then _ else _:List Int).length<=_;split<;>first|(rw[List.length_append,List.length_singleton];omega)|exact Nat.le_trans h2 (by omega))
 rw[e24]at A2 tA2
 have nok:∀(s t g:Nat),t≠116->t≠127->¬okid u g (u,s,t):=fun s t g h1 h2 h=>by rcases h.2.1 with h|h<;>simp at h<;>omega
 have r6:∀(s t:Nat),t≠116->t≠127->t≠19->m6.get (u,s,t)=m.get (u,s,t):=fun s t h1 h2 h3=>by
  rw[q6 _ (nok s t _ h1 h2),q4 _ (nok s t _ h1 h2),q2 _ (by simp;omega)]
 have r4:∀(s t:Nat),t≠116->t≠127->t≠19->m4.get (u,s,t)=m.get (u,s,t):=fun s t h1 h2 h3=>by
  rw[q4 _ (nok s t _ h1 h2),q2 _ (by simp;omega)]
 obtain⟨m7,hm7⟩:∃m7,m7=m6.set (u,19,23) (.row (cells.set e.fr.toNat a1) 0 false):=⟨_,rfl⟩
 obtain⟨m8,hm8⟩:∃m8,m8=m7.set (u,19,23) (.row ((cells.set e.fr.toNat a1).set e.to.toNat a2) 0 false):=⟨_,rfl⟩
 have q8:∀id:Id,id≠(u,19,23)->m8.get id=m6.get id:=fun id hid=>by rw[hm8,Mem.get_set,if_neg hid,hm7,Mem.get_set,if_neg hid]
 have htk:l.take (k+1)=l.take k++[e]:=by rw[List.take_succ_eq_append_getElem hk,he]
 refine⟨m8,?_,⟨?_,?_,?_,?_,⟨(cells.set e.fr.toNat a1).set e.to.toNat a2,by rw[hm8];simp,by simp[hcl],?_⟩,?_⟩,?_⟩
 .unfold x4t
  simp(disch:=omega)only[sNil,x1qt,x1rh,Nat.zero_add,x1qy,hs1,hE,hx1,hf1,x1r0,Nat.beq_refl,x1qw,List.drop_zero,List.drop_succ_cons,rd_f,ifr,ifk,x1s3 lfr,x1s3 lk,hfk,x1xz,x1rs,x1rl]
  rw[x1ss lfr]
  simp only[x1qt]
  rw[<-hex1,<-hm1]
  have g1s:m1.get (u,21,25)=some (.row [I n,ev,srI (u,7,11) l.length,srI (u,11,15) n,srI (u,15,19) n,srI (u,19,23) n] 0 false):=by rw[q1 _ (by simp)];exact hs1
  have g1e:m1.get (u,fE,5)=some (.row [I e.fr,I e.to,I e.jump,I e.wt] 0 false):=by rw[q1 _ (by simp)];exact hE
  have g1f:m1.get (u,7,11)=some (.row (fl.flatMap intE) 0 false):=by rw[q1 _ (by simp)];exact hf1
  have g1x:m1.get (u,15,19)=some (.row (ex1.flatMap intE) 0 false):=by rw[hm1];simp
  simp(disch:=omega)only[sNil,x1qt,x1rh,Nat.zero_add,x1qy,g1s,g1e,g1x,g1f,x1r0,Nat.beq_refl,x1qw,List.drop_zero,List.drop_succ_cons,rd_f,ito,ifk,x1s3 lto1,x1s3 lk,hfk,hx1t,x1sl,x1rs,x1rl]
  rw[x1ss lto1]
  simp only[x1qt]
  rw[show ex1.set e.to.toNat (at0 ex e.to.toNat+f0M e)=exUp ex e from by rw[hex1];rfl,<-hm2]
  have g2s:m2.get (u,21,25)=some (.row [I n,ev,srI (u,7,11) l.length,srI (u,11,15) n,srI (u,15,19) n,srI (u,19,23) n] 0 false):=by rw[q2 _ (by simp)];exact hs1
  have g2e:m2.get (u,fE,5)=some (.row [I e.fr,I e.to,I e.jump,I e.wt] 0 false):=by rw[q2 _ (by simp)];exact hE
  have g2a:m2.get (u,19,23)=some (.row cells 0 false):=by rw[q2 _ (by simp)];exact ha1
  have g4s:m4.get (u,21,25)=some (.row [I n,ev,srI (u,7,11) l.length,srI (u,11,15) n,srI (u,15,19) n,srI (u,19,23) n] 0 false):=by rw[r4 _ _ (by simp) (by simp) (by simp)];exact hs1
  have g4e:m4.get (u,fE,5)=some (.row [I e.fr,I e.to,I e.jump,I e.wt] 0 false):=by rw[r4 _ _ (by simp) (by simp) (by simp)];exact hE
  have g4a:m4.get (u,19,23)=some (.row cells 0 false):=by rw[r4 _ _ (by simp) (by simp) (by simp)];exact ha1
  have g6a:m6.get (u,19,23)=some (.row cells 0 false):=by rw[r6 _ _ (by simp) (by simp) (by simp)];exact ha1
  have hel:∀M:Mem,elems M.get 1 (.slit [I (k:Int)] 1 true)=some (intE (k:Int),1):=fun _=>rfl
  simp only[sNil,x1qt,x1rh,Nat.zero_add,x1qy,g2s,g2e,g2a,x1r0,Nat.beq_refl,x1qw,List.drop_zero,List.drop_succ_cons,rd_f,afr,x1y7 cfr,x1t8,x1wg,hel,A1]
  simp only[sNil,x1qt,x1rh,Nat.zero_add,x1qy,g4s,g4e,g4a,x1r0,Nat.beq_refl,x1qw,List.drop_zero,List.drop_succ_cons,rd_f,ato,x1y7 cto,x1t8,x1wg,hel,A2]
  simp only[afr,ato,x1qt,x1rl,g6a,x20a cfr c11 c12]
  rw[<-hm7]
  have g7a:m7.get (u,19,23)=some (.row (cells.set e.fr.toNat a1) 0 false):=by rw[hm7];simp
  have cto7:e.to.toNat<(cells.set e.fr.toNat a1).length:=by simpa using cto
  simp only[g7a,x20a cto7 c21 c22,x1qt]
  rw[<-hm8]
  have ne1:∀s t:Nat,t≠116->t≠127->((u,s,t)=id1)=False:=fun s t h1 h2=>eq_false (by rintro h;rw[<-h]at ty1;simp at ty1;omega)
  have ne2:∀s t:Nat,t≠116->t≠127->((u,s,t)=id2)=False:=fun s t h1 h2=>eq_false (by rintro h;rw[<-h]at ty2;simp at ty2;omega)
  have ne3:(id1=(u,fc+68,126))=False:=eq_false (by rintro h;rw[h]at ty1;simp at ty1)
  simp[x1qs,disj,tR,tS,tX,tA1,tA2,ne1,ne2,ne3]
  unfold x25
  simp(disch:=omega) [x1sl,x1rs]
 .rw[q8 _ (by simp),r6 _ _ (by simp) (by simp) (by simp)];exact hs1
 .rw[q8 _ (by simp),r6 _ _ (by simp) (by simp) (by simp),<-hfl];exact hf1
 .rw[q8 _ (by simp),r6 _ _ (by simp) (by simp) (by simp)];exact ht1
 .rw[q8 _ (by simp),q6 _ (nok _ _ _ (by simp) (by simp)),q4 _ (nok _ _ _ (by simp) (by simp)),hm2,htk,ex0M_snoc,<-hex];simp
 .have:AtI u (fc+76) ((cells.set e.fr.toNat a1).set e.to.toNat a2) (fun w=>if w=e.to.toNat then(if e.to.toNat=e.fr.toNat then adjI (l.take k) (e.fr.toNat:Int)++[(k:Int)]else adjI (l.take k) (e.to.toNat:Int))++[(k:Int)]else if w=e.fr.toNat then adjI (l.take k) (e.fr.toNat:Int)++[(k:Int)]else adjI (l.take k) (w:Int)) m8:=by
   refine AtI.frame (fc:=fc+76) ?_ (fun id hid=>q8 id (by rintro rfl;rcases hid.2.1 with h|h<;>simp at h)) (Nat.le_refl _)
   exact AI2
  have hfe:(fun w:Nat=>adjI (l.take (k+1)) (w:Int))=(fun w:Nat=>if w=e.to.toNat then(if e.to.toNat=e.fr.toNat then adjI (l.take k) (e.fr.toNat:Int)++[(k:Int)]else adjI (l.take k) (e.to.toNat:Int))++[(k:Int)]else if w=e.fr.toNat then adjI (l.take k) (e.fr.toNat:Int)++[(k:Int)]else adjI (l.take k) (w:Int)):=by
   funext w
   rw[adjI_succ hk he]
   have hw:(e.fr=(w:Int)\/e.to=(w:Int))↔(w=e.fr.toNat\/w=e.to.toNat):=by omega
   have hn':¬(e.to.toNat=e.fr.toNat):=by omega
   simp only[hw,hn',if_false]
   by_cases h1:w=e.to.toNat
   .simp only[h1,or_true,if_true]
   .by_cases h2:w=e.fr.toNat
    .have hn'':¬(e.fr.toNat=e.to.toNat):=by omega
     simp only[h2,hn'',true_or,if_true,if_false]
    .simp only[h1,h2,or_self,if_false,List.append_nil]
  rw[hfe];exact this
 .rw[hm8,hm7];simp only[Mem.next_set,n6,n4,hm2,hm1];exact hnx
 .rw[hm8,hm7];simp only[Mem.next_set,n6,n4,hm2,hm1]
theorem x25c{k:Nat}{l:List Edge}(hk:k<l.length)(v:Int):((l.map f0M).take k++List.replicate (l.length-k) 0).set k v=(l.map f0M).take k++v::List.replicate (l.length-(k+1)) 0:=by
 have h:((l.map f0M).take k).length=k:=by simp;omega
 rw[List.set_append_right _ _ (by omega),h,Nat.sub_self,show l.length-k=(l.length-(k+1))+1 by omega,List.replicate_succ,List.set_cons_zero]
theorem x22e{k:Nat}{l:List Edge}(hk:k<l.length){e:Edge}(he:l[k]=e):(l.map f0M).take (k+1)++List.replicate (l.length-(k+1)) 0=(l.map f0M).take k++f0M e::List.replicate (l.length-(k+1)) 0:=by
 rw[List.take_succ_eq_append_getElem (by simpa using hk)]
 simp[he]
theorem x288{k:Nat}{l:List Edge}(hk:k<l.length):(l.map f0M).take k++List.replicate (l.length-k) 0=(l.map f0M).take k++(0:Int)::List.replicate (l.length-(k+1)) 0:=by
 rw[show l.length-k=(l.length-(k+1))+1 by omega,List.replicate_succ]
theorem ns_loop(d:Nat)(hs:FHs){u n:Nat}{ev:AV}{l:List Edge}(hev:Sl Edge.c ev l)(hl:l.length<=600)(hn:n<=200)(hed:∀e∈l,EdgeIn n e/\e.fr≠e.to):∀(suf:List Edge) (k j:Nat) (m:Mem) (fc:Nat),l.drop k=suf->suf.length<j->k<=l.length->NSInv u fc n ev l k m ->
 ∃m',x2o (x1qp d) hs u j (.ptr (u,21,25) 0 0) ev (I l.length) (I k) m fc=some (.ptr (u,21,25) 0 0,m')/\(∃fc',NSInv u fc' n ev l l.length m')/\m'.next=m.next:=by
 intro suf
 induction suf with
 |nil=>
  intro k j m fc hd hj hk hi
  obtain⟨j,rfl⟩:∃i,j=i+1:=⟨j-1,by simp at hj;omega⟩
  have hke:k=l.length:=by have:=List.drop_eq_nil_iff.mp hd;omega
  subst hke
  refine⟨m,?_,⟨fc,hi⟩,rfl⟩
  simp only[x2o]
  unfold xcj
  simp[x15]
 |cons e r ih=>
  intro k j m fc hd hj hk hi
  obtain⟨j,rfl⟩:∃i,j=i+1:=⟨j-1,by simp at hj;omega⟩
  obtain⟨hk,hke,hd⟩:=x1sm hd
  have hk':(k:Int)<(l.length:Int):=by omega
  have ix:=hev.ix Edge.len hk
  have ld:=x1vt (m:=m) Edge.len (by omega) hk
  rw[hke]at ld
  have hee:=(hed e (hke▸List.getElem_mem hk)).1
  obtain⟨f0,f1,t0,t1,j0,j1,w0,w1⟩:=hee
  obtain⟨m1,hm1⟩:∃m1:Mem,m1=(m.new (u,fc+1+3,5) (.row [I 0,I 0,I 0,I 0] 0 false)).set (u,fc+1+3,5) (.row e.c 0 false):=⟨_,rfl⟩
  have q1:∀id:Id,id≠(u,fc+1+3,5)->m1.get id=m.get id:=fun id hid=>by rw[hm1,Mem.get_set,if_neg hid,Mem.get_new,if_neg hid]
  have hE:m1.get (u,fc+1+3,5)=some (.row [I e.fr,I e.to,I e.jump,I e.wt] 0 false):=by rw[hm1];simp[Edge.c]
  have hn1:m1.next=m.next:=by rw[hm1];simp
  have main:∀(m2:Mem) (g:Nat),fc<=g->(∀id:Id,id≠(u,7,11)->m2.get id=m1.get id)->m2.next=m1.next->m2.get (u,7,11)=some (.row (((l.map f0M).take (k+1)++List.replicate (l.length-(k+1)) 0).flatMap intE) 0 false) ->
   ∃m',x4t (x1qp d) hs u (x2o (x1qp d) hs u j) (.ptr (u,21,25) 0 0) (I k) (.ptr (u,fc+1+3,5) 0 0) ev (I l.length) (I k) m2 g=some (.ptr (u,21,25) 0 0,m')/\(∃fc',NSInv u fc' n ev l l.length m')/\m'.next=m.next:=by
   intro m2 g hg q2 n2 hf2
   obtain⟨cells,ha,hcl,hA⟩:=hi.a
   obtain⟨m',h1,h2,h3⟩:=ns_tail d hs hl hn hed hk hke (x2o (x1qp d) hs u j) (fE:=fc+1+3) (fc:=g) (m:=m2) (cells:=cells)
    (by rw[q2 _ (by simp),q1 _ (by simp)];exact hi.s) hf2 (by rw[q2 _ (by simp),q1 _ (by simp)];exact hi.t) (by rw[q2 _ (by simp),q1 _ (by simp)];exact hi.x)
    (by rw[q2 _ (by simp),q1 _ (by simp)];exact ha) hcl (hA.frame (fun id hid=>by rw[q2 _ (by rintro rfl;rcases hid.2.1 with h|h<;>simp at h),q1 _ (by rintro rfl;rcases hid.2.1 with h|h<;>simp at h)]) hg)
    (by rw[n2,hn1];exact hi.nx) (by rw[q2 _ (by simp)];exact hE)
   obtain⟨m'',e1,e2,e3⟩:=ih (k+1) j m' (g+76) hd (by simp at hj;omega) (by omega) h2
   exact⟨m'',by rw[h1];exact e1,e2,by rw[e3,h3,n2,hn1]⟩
  have g1s:m1.get (u,21,25)=some (.row [I n,ev,srI (u,7,11) l.length,srI (u,11,15) n,srI (u,15,19) n,srI (u,19,23) n] 0 false):=by rw[q1 _ (by simp)];exact hi.s
  obtain⟨fl,hfl⟩:∃fl,fl=(l.map f0M).take k++List.replicate (l.length-k) 0:=⟨_,rfl⟩
  have g1f:m1.get (u,7,11)=some (.row (fl.flatMap intE) 0 false):=by rw[q1 _ (by simp),hfl];exact hi.f
  have hlk:k<fl.length:=by rw[hfl];simp;omega
  have ifk:sIx 1 (srI (u,7,11) l.length) (I k)=some (.ptr (u,7,11) 0 k):=by simpa using x1re (id:=(u,7,11)) (n:=l.length) (k:=(k:Int)) (by omega) (by omega)
  simp only[x2o]
  unfold xcj x9c
  simp only[x1t7]
  simp(disch:=omega) [hk',ix,ld,Edge.c]
  rw[show(m.new (u,fc+1+3,5) (.row [I 0,I 0,I 0,I 0] 0 false)).set (u,fc+1+3,5) (.row [I e.fr,I e.to,I e.jump,I e.wt] 0 false)=m1 from hm1.symm]
  unfold xci
  by_cases c1:0<e.jump
  .simp(disch:=omega) [hE,c1,sNil,g1s,ifk,g1f,x1ss hlk]
   refine main _ _ ?_ (fun id hid=>?_) ?_ ?_
   .omega
   .rw[Mem.get_set,if_neg hid]
   .simp
   rw[x22e hk hke,<-x25c hk,<-hfl,show f0M e=e.wt by unfold f0M;rw[if_pos c1]]
   simp
  .by_cases c2:e.jump<0
   .simp(disch:=omega) [hE,c1,c2,sNil,g1s,ifk,g1f,x1rs,x1ss hlk]
    refine main _ _ ?_ (fun id hid=>?_) ?_ ?_
    .omega
    .rw[Mem.get_set,if_neg hid]
    .simp
    rw[x22e hk hke,<-x25c hk,<-hfl,show f0M e=-e.wt by unfold f0M;rw[if_neg c1,if_pos c2]]
    simp
   .simp(disch:=omega) [hE,c1,c2]
    refine main _ _ (by omega) (fun id hid=>rfl) rfl ?_
    rw[g1f,hfl,x288 hk,x22e hk hke,show f0M e=0 by unfold f0M;rw[if_neg c1,if_neg c2]]
theorem z_solver:xne=[I 0,nilS,nilS,nilS,nilS,nilS]:=by kernel_rfl
theorem mkSl_sl{R:Type}{n:Nat}{id:Id}{m:Mem}(k:AV->Mem->Option R)(hn:n<=200):x1ry [nilS] 1 24 (I n) (I n) id m k=k (srI id n) (m.new id (.row (List.replicate n nilS) 0 false)):=by
 simp only[x1ry,asI]
 rw[if_pos ⟨by omega,Int.le_refl _,by omega,by omega⟩]
 have:x1rd [nilS] (((n:Int).toNat)*1)=List.replicate n nilS:=by
  simp only[x1rd,Int.toNat_natCast,Nat.mul_one]
  apply List.ext_getElem
  .simp
  .intro i h1 h2
   simp[Nat.mod_one]
 rw[this]
 simp
theorem x289(d:Nat){n:Nat}{ev:AV}{l:List Edge}(hev:Sl Edge.c ev l)(hl:l.length<=600)(hn:n<=200)(hed:∀e∈l,EdgeIn n e/\e.fr≠e.to)(u:Nat) :
 ∃m',x1qp (d+1) [] x5o [.agg [I n,ev]] ⟨[],u⟩=some (.ptr (u,21,25) 0 0,m')/\SolMem u n ev l (l.map f0M) (List.replicate n 0) (ex0M n l) m'/\m'.next=u+1:=by
 have hel:=hev.len x1v5
 have ho:=hev.one
 have hc:=hev.cells
 obtain⟨m1,hm1⟩:∃m1,m1=(⟨[],u+1⟩:Mem).new (u,0,1) (.row [I n,ev] 0 false):=⟨_,rfl⟩
 obtain⟨m2,hm2⟩:∃m2,m2=m1.new (u,7,11) (.row ((List.replicate l.length (0:Int)).flatMap intE) 0 false):=⟨_,rfl⟩
 obtain⟨m3,hm3⟩:∃m3,m3=m2.new (u,11,15) (.row ((List.replicate n (0:Int)).flatMap intE) 0 false):=⟨_,rfl⟩
 obtain⟨m4,hm4⟩:∃m4,m4=m3.new (u,15,19) (.row ((List.replicate n (0:Int)).flatMap intE) 0 false):=⟨_,rfl⟩
 obtain⟨m5,hm5⟩:∃m5,m5=m4.new (u,19,23) (.row (List.replicate n nilS) 0 false):=⟨_,rfl⟩
 obtain⟨m6,hm6⟩:∃m6,m6=m5.new (u,21,25) (.row [I n,ev,srI (u,7,11) l.length,srI (u,11,15) n,srI (u,15,19) n,srI (u,19,23) n] 0 false):=⟨_,rfl⟩
 have h0:NSInv u 28 n ev l 0 m6:=by
  refine⟨?_,?_,?_,?_,⟨List.replicate n nilS,?_,by simp,⟨fun _=>(0,0,0),fun v hv=>Or.inl ⟨by simp,by rw[List.take_zero];rfl⟩,fun v w hv hw n1=>absurd (by rw[List.take_zero];rfl) n1⟩⟩,by rw[hm6,hm5,hm4,hm3,hm2,hm1];simp only[Mem.next_new];omega⟩
  .rw[hm6];simp[Mem.get_new]
  .rw[hm6,hm5,hm4,hm3,hm2];simp[Mem.get_new]
  .rw[hm6,hm5,hm4,hm3];simp[Mem.get_new]
  .rw[hm6,hm5,hm4];simp[Mem.get_new,ex0M]
  .rw[hm6,hm5];simp[Mem.get_new]
 obtain⟨m',h1,⟨fc',hI⟩,h3⟩:=ns_loop d [] hev hl hn hed l 0 NN m6 28 rfl (by rw[x1r6];omega) (by omega) h0
 obtain⟨cells,ha,hcl,hA⟩:=hI.a
 have hat:l.take l.length=l:=List.take_of_length_le (Nat.le_refl _)
 rw[hat]at hA
 refine⟨m',?_,⟨hI.s,?_,hI.t,by have:=hI.x;rwa[hat]at this,⟨cells,ha,hcl,fun v hv=>?_⟩,by simp,by simp,x22d n l⟩,by rw[h3,hm6,hm5,hm4,hm3,hm2,hm1];simp only[Mem.next_new]⟩
 .rw[xzy]
  unfold xeq xh2 xck
  have hb:∀x y z w,x.cells=[x]->y.cells=[y]->z.cells=[z]->w.cells=[w]->x1qx [I 0,nilS,nilS,nilS,nilS,nilS] [(0,2,.agg [I n,ev]),(2,1,x),(3,1,y),(4,1,z),(5,1,w)]=some (.agg [I n,ev,x,y,z,w]):=by
   intro x y z w h1 h2 h3 h4
   simp[x1qx,x1rx,h1,h2,h3,h4]
  have g1:m1.get (u,0,1)=some (.row [I n,ev] 0 false):=by rw[hm1];simp
  have g2:m2.get (u,0,1)=some (.row [I n,ev] 0 false):=by rw[hm2];simp[Mem.get_new,g1]
  have g3:m3.get (u,0,1)=some (.row [I n,ev] 0 false):=by rw[hm3];simp[Mem.get_new,g2]
  have g4:m4.get (u,0,1)=some (.row [I n,ev] 0 false):=by rw[hm4];simp[Mem.get_new,g3]
  have g6:m6.get (u,0,1)=some (.row [I n,ev] 0 false):=by rw[hm6,hm5];simp[Mem.get_new,g4]
  have mkn:∀(id:Id) (m:Mem) (k:AV->Mem->Option (AV×Mem)),x1ry [I 0] 1 8 (I n) (I n) id m k=k (srI id n) (m.new id (.row ((List.replicate n (0:Int)).flatMap intE) 0 false)):=fun id m k=>by rw[x1wh (by omega) (by omega),Int.toNat_natCast]
  have mkl:∀(id:Id) (m:Mem) (k:AV->Mem->Option (AV×Mem)),x1ry [I 0] 1 8 (I l.length) (I l.length) id m k=k (srI id l.length) (m.new id (.row ((List.replicate l.length (0:Int)).flatMap intE) 0 false)):=fun id m k=>by rw[x1wh (by omega) (by omega),Int.toNat_natCast]
  simp only[x1vu,AV.cells,List.all_cons,List.all_nil,ho,show(I (n:Int)).one=true from rfl,Bool.and_self,x1qw,x1t8,x1vx,z_solver]
  rw[<-hm1]
  simp only[x1qy,x1rh,g1,x1r0,Nat.beq_refl,x1qw,List.drop_zero,Nat.zero_add,List.drop_succ_cons,rd_f,rd_2,x1qt,hel,mkl]
  rw[<-hm2]
  simp only[x1qy,x1rh,g2,x1r0,Nat.beq_refl,x1qw,List.drop_zero,Nat.zero_add,List.drop_succ_cons,rd_f,x1qt,mkn]
  rw[<-hm3]
  simp only[x1qy,x1rh,g3,x1r0,Nat.beq_refl,x1qw,List.drop_zero,Nat.zero_add,List.drop_succ_cons,rd_f,x1qt,mkn]
  rw[<-hm4]
  simp only[x1qy,x1rh,g4,x1r0,Nat.beq_refl,x1qw,List.drop_zero,Nat.zero_add,List.drop_succ_cons,rd_f,x1qt,mkSl_sl _ hn]
  rw[<-hm5,hb _ _ _ _ rfl rfl rfl rfl]
  simp only[x1qt,AV.cells,List.all_cons,List.all_nil,ho,show(I (n:Int)).one=true from rfl,show ∀id k,(srI id k).one=true from fun _ _=>rfl,Bool.and_self,x1qw]
  rw[<-hm6]
  simp[x1qs,disj,tR]
  simp only[x1qy,x1rh,g6,x1r0,Nat.beq_refl,x1qw,List.drop_zero,Nat.zero_add,List.drop_succ_cons,rd_f,x1qt,hel]
  exact h1
 .have:=hI.f
  rw[Nat.sub_self,List.replicate_zero,List.append_nil,List.take_of_length_le (by simp)]at this
  exact this
 .obtain⟨ids,e1,e2⟩:=hA.sh
  rcases e1 v hv with ⟨a,b⟩|⟨ver,a,b,c,-⟩
  .exact Or.inl ⟨a,b⟩
  .exact Or.inr ⟨ids v,ver,⟨c.1,c.2.1⟩,a,b⟩
end Go.Ix
