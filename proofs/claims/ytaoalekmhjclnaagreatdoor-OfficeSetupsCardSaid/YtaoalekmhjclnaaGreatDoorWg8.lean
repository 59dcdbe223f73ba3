import Derived.Test.YtaoalekmhjclnaaGreatDoorWg7
set_option linter.unusedSimpArgs false
set_option linter.unusedVariables false
set_option maxRecDepth 10000
namespace Go.Ix
open Go.Proofs
theorem l_cl0(d:Nat)(hs:FHs){sv:AV}{S:List (Pl×Pl)}(h:Sl sdC sv S)(hS:S.length<=1000)(hin:∀s∈S,InS s):∀(n i j:Nat) (m:Mem) (fc:Nat),i+n=S.length->n<j->(∀q,q<i->(List.range q).any (clS S q)=false) ->
 ∃m',x2j (x180 (d+4)) hs 0 j sv sv (I S.length) (I i) m fc=some (I (if clB S=true then 13 else 0),m'):=by
 intro n
 induction n with
 |zero=>
  intro i j m fc hk hj hq
  obtain⟨j,rfl⟩:∃i,j=i+1:=⟨j-1,by omega⟩
  obtain rfl:i=S.length:=by omega
  have e:clB S=false:=by
   unfold clB
   rw[x1v8]
   intro q hq'
   rw[hq q (x1sy.mp hq')]
   simp
  simp only[x2j]
  unfold x9e xdu
  simp only[x18k,x1vv,x1sm,x182,x18b,e]
  exact⟨m,rfl⟩
 |succ n ih=>
  intro i j m fc hk hj hq
  obtain⟨j,rfl⟩:∃i,j=i+1:=⟨j-1,by omega⟩
  have hi:i<S.length:=by omega
  have hi':(i:Int)<(S.length:Int):=by omega
  have ix:=h.ix x1b7 hi
  have ld:=λm=>x1a2 (m:=m) x1b7 (by omega) hi
  obtain⟨t52,h52,e52⟩:=sides_pre h (k:=i) (by omega) (List.ne_nil_of_length_pos (by omega))
  have hlen:(S.take i).length=i:=by simp;omega
  obtain⟨M,s1,g1,n1,f1⟩:=x1ar (u:=0) (s:=fc+1+3) (t:=9) (m:=m) (z:=xz) (cs:=sdC S[i]) (n:=4) (by rw[x1er];rfl) rfl rfl
  simp only[x2j]
  unfold x9e xdz
  have e5:=h52.len x1du
  rw[hlen]at e5
  simp only[x18k,hi',x1si,x182,x18a,ix,ld,x1al,s1,e52,e5]
  refine l_cl1 d hs h hS hin (x2j (x180 (d+4)) hs 0 j) hi h52 (id9:=(0,fc+1+3,9)) ⟨rfl,rfl⟩ (λr=>∃m',r=some (I (if clB S=true then 13 else 0),m')) (λm' hy=>?_) (λm' fc' hn=>?_) i 0 NN M _ (by omega) (by rw[x197];omega) g1 (λq hq=>by omega)
  .have e:clB S=true:=x1ua.mpr ⟨i,x1sy.mpr hi,hy⟩
   rw[x1sc e]
   exact⟨m',rfl⟩
  .refine ih (i+1) j m' fc' (by omega) (by omega) λq hq'=>?_
   by_cases e:q=i
   .subst e;exact hn
   .exact hq q (by omega)
def crnE(l:List Pl):Nat->List Pl->Int
 |_,[]=>0
 |k,p::r=>if isPl p=true then(if(l.take k).any (Pl.same p)=true then 28 else crnE l (k+1) r)else 2
theorem x1hk(l:List Pl)(k:Nat)(p:Pl)(r:List Pl):crnE l k (p::r)=if isPl p=true then(if(l.take k).any (Pl.same p)=true then 28 else crnE l (k+1) r)else 2:=rfl
theorem x1dv(l:List Pl):∀(suf:List Pl) (k:Nat),crnE l k suf=0->∀p∈suf,isPl p=true
 |[],_,_=>λp hp=>by cases hp
 |x::r,k,h=>by
  unfold crnE at h
  split at h
  .rename_i hx
   split at h
   .cases h
   .intro p hp
    rcases x1t6.mp hp with rfl|hp
    .exact hx
    .exact x1dv l r (k+1) h p hp
  .cases h
def x1a1(l:List Pl):Int:=if l.length<3 then 10 else if 20<l.length then 8 else if crnE l 0 l=0 then(if clB (x19l l)=true then 13 else 0)else crnE l 0 l
theorem l_crn(d:Nat)(hs:FHs){a:AV}{l:List Pl}(h:Sl Pl.c a l)(hl:l.length<=1000){id3:Id}(h3:¬(id3.1=0/\id3.2.2=5))(Q:O2->Prop)(hbad:∀(m:Mem),crnE l 0 l≠0->Q (some (I (crnE l 0 l),m)))(hok:∀(m:Mem) (fc:Nat),crnE l 0 l=0->Q (x9f (x180 (d+3)) hs 0 a m fc)) :
 ∀(suf:List Pl) (k j:Nat) (m:Mem) (fc:Nat),l.drop k=suf->suf.length<j->crnE l 0 l=crnE l k suf->m.get id3=some (.map (mpK (l.take k))) ->
 Q (x3y (x180 (d+3)) hs 0 j a (.mp id3) a (I l.length) (I k) m fc):=by
 intro suf
 induction suf with
 |nil=>
  intro k j m fc hd hj he hm
  obtain⟨j,rfl⟩:∃i,j=i+1:=⟨j-1,by simp at hj;omega⟩
  have hk:¬((k:Int)<(l.length:Int)):=by have:=x1t3.mp hd;omega
  simp only[x3y]
  unfold x9g
  simp only[x18k,hk,x1sm,x182,x18b]
  exact hok m _ (by rw[he];rfl)
 |cons p r ih=>
  intro k j m fc hd hj he hm
  obtain⟨j,rfl⟩:∃i,j=i+1:=⟨j-1,by simp at hj;omega⟩
  obtain⟨hk,hp,hd1⟩:=x19i hd
  have hk':(k:Int)<(l.length:Int):=by omega
  have ix:=h.ix Pl.len hk
  have ld:=λm=>x1a2 (m:=m) Pl.len (by omega) hk
  rw[hp]at ld
  obtain⟨M,s1,g1,n1,f1⟩:=x1ar (u:=0) (s:=fc+3) (t:=5) (m:=m) (z:=xa) (cs:=p.c) (n:=3) (by rw[x1eq];rfl) rfl rfl
  have hM:M.get id3=some (.map (mpK (l.take k))):=by rw[f1 id3 h3];exact hm
  have ldM:sLd true 3 (.ptr (0,fc+3,5) 0 0) M=some (.agg p.c):=by rw[x183 g1];rfl
  have hw:w64 ((k:Int)+1)=((k+1:Nat):Int):=by rw[x18i (by omega) (by omega)];omega
  simp only[x3y]
  unfold x9g
  simp only[x18k,hk',x1si,x182,x18a,ix,ld,x1al,s1,ldM,x1kd d p,x1aa]
  rw[x1hk]at he
  by_cases c:isPl p=true
  .rw[x1sc c]at he
   simp only[c,x1so,x1si,x1sr,x18b,ldM,x1hi (d+2) p,x182,look_pl p hM]
   cases c2:(l.take k).any (Pl.same p)
   .rw[c2,x1sd (by simp)]at he
    have htk:l.take k++[p]=l.take (k+1):=by rw[x1u9 hk,hp]
    simp only[x18b,ldM,x1hi (d+2) p,x182,up_pl p hM c2,x18y,hw]
    refine ih (k+1) j _ _ hd1 (by simp at hj;omega) he ?_
    rw[Mem.get_set_same,htk]
   .rw[c2,x1sc rfl]at he
    simp only[x18a]
    have:=hbad M (by rw[he];decide)
    rw[he]at this
    exact this
  .rw[x1sd c]at he
   have:=hbad M (by rw[he];decide)
   rw[he]at this
   simp only[c,x1sp,show(!decide ((2:Int)=0))=true from rfl,x18a,x1sw]
   exact this
theorem x1kh(d:Nat){a:AV}{l:List Pl}(h:Sl Pl.c a l)(m:Mem)(hl:l.length<=9000000000000000000):x17z (x180 (d+5)) x21 [a] m=some (I (x1a1 l),m):=by
 refine x195 (by simp[h.still]) ?_ m
 rw[x100]
 unfold xbp x9h x1a1
 simp only[mem0,h.len x1da,x182,x18k]
 by_cases c:l.length<3
 .simp only[show((l.length:Int)<3) by omega,x1si,x18a,c,x1so]
  exact RetF.st rfl rfl
 simp only[show ¬((l.length:Int)<3) by omega,x1sm,x18b,c,x1sp,x182,x19t]
 by_cases c2:20<l.length
 .simp only[show((20:Int)<(l.length:Int)) by omega,x1si,x18a,c2,x1so]
  exact RetF.st rfl rfl
 simp only[show ¬((20:Int)<(l.length:Int)) by omega,x1sm,x18b,c2,x1sp]
 unfold x1dz xe1
 simp only[h.len x1da,x182]
 refine l_crn (d+1) [] h (by omega) (id3:=(0,0+9,21)) (by simp) (λr=>RetF (λv=>v=I (if crnE l 0 l=0 then(if clB (x19l l)=true then 13 else 0)else crnE l 0 l)) r) (λm hb=>?_) (λm fc hb=>?_) l 0 NN _ _ rfl (by rw[x197];omega) rfl (by simp[mpK])
 .rw[x1sd hb]
  exact RetF.st rfl rfl
 .rw[x1sc hb]
  have hin:=x1dv l l 0 hb
  have hinP:∀p∈l,InP p:=λp hp=>x1ch (hin p hp)
  obtain⟨s,hs1,hs2⟩:=w_sides (d+3) h (by omega) hinP m
  have hS:∀s∈x19l l,InS s:=λs hs=>by
   unfold x19l at hs
   obtain⟨k,hk,rfl⟩:=x1tp.mp hs
   have hk:=x1sy.mp hk
   have hk2:(k+1) % l.length<l.length:=x1u2 _ (by omega)
   refine⟨?_,?_⟩
   .show InP (gP l k)
    rw[x1ab hk];exact hinP _ (x1t0 hk)
   .show InP (gP l ((k+1) % l.length))
    rw[x1ab hk2];exact hinP _ (x1t0 hk2)
  unfold x9f xe0
  simp only[hs2,x182,hs1.len x1du]
  obtain⟨m',r⟩:=l_cl0 d [] hs1 (by rw[x1fy];omega) hS (x19l l).length 0 NN m (fc+3+3) (by omega) (by rw[x197,x1fy];omega) (λq hq=>by omega)
  rw[show I ((0:Nat):Int)=I 0 from rfl]at r
  rw[r]
  exact RetF.st rfl rfl
def insP(S:List (Pl×Pl))(p:Pl):Bool->List (Pl×Pl)->Bool
 |t,[]=>t
 |t,s::r=>if hasP s.1 s.2 p=true then true else insP S p (if rayP s.1 s.2 p=true then !t else t) r
theorem l_inside(d:Nat)(hs:FHs){sv:AV}{S:List (Pl×Pl)}(h:Sl sdC sv S)(hS:S.length<=1000)(hin:∀s∈S,InS s){p:Pl}(hp:InP p){id3:Id}(h3:¬(id3.1=0/\id3.2.2=7)):∀(suf:List (Pl×Pl)) (k j:Nat) (t:Bool) (m:Mem) (fc:Nat),S.drop k=suf->suf.length<j->m.get id3=some (.row [I p.x,I p.y] 0 false) ->
 ∃m',x1f (x180 (d+3)) hs 0 j (.ptr id3 0 0) (B t) sv (I S.length) (I k) m fc=some (B (insP S p t suf),m'):=by
 intro suf
 induction suf with
 |nil=>
  intro k j t m fc hd hj hm
  obtain⟨j,rfl⟩:∃i,j=i+1:=⟨j-1,by simp at hj;omega⟩
  have hk:¬((k:Int)<(S.length:Int)):=by have:=x1t3.mp hd;omega
  simp only[x1f]
  unfold xas xfz
  simp only[x18k,hk,x1sm,x182,x18b,insP]
  exact⟨m,rfl⟩
 |cons s r ih=>
  intro k j t m fc hd hj hm
  obtain⟨j,rfl⟩:∃i,j=i+1:=⟨j-1,by simp at hj;omega⟩
  obtain⟨hk,he,hd1⟩:=x19i hd
  have hk':(k:Int)<(S.length:Int):=by omega
  have ix:=h.ix x1b7 hk
  have ld:=λm=>x1a2 (m:=m) x1b7 (by omega) hk
  rw[he]at ld
  obtain⟨a1,a2⟩:=hin s (he▸x1t0 hk)
  obtain⟨M,s1,g1,n1,f1⟩:=x1ar (u:=0) (s:=fc+1+2) (t:=7) (m:=m) (z:=xz) (cs:=sdC s) (n:=4) (by rw[x1er];rfl) rfl rfl
  have hM:M.get id3=some (.row [I p.x,I p.y] 0 false):=by rw[f1 id3 h3];exact hm
  have g1':M.get (0,fc+1+2,7)=some (.row [I s.1.x,I s.1.y,I s.2.x,I s.2.y] 0 false):=g1
  have e1:=x1by d a1 a2 hp
  have e2:=x1dt (d+1) a1 a2 hp
  simp only[Pl.k,sdC]at e1 e2
  have hw:w64 ((k:Int)+1)=((k+1:Nat):Int):=by rw[x18i (by omega) (by omega)];omega
  have next:∀(t':Bool) (fc:Nat),∃m',x48 (x180 (d+3)) hs 0 (x1f (x180 (d+3)) hs 0 j) (.ptr id3 0 0) (B t') sv (I S.length) (I k) M fc=some (B (insP S p t' r),m'):=λt' fc=>by
   unfold x48
   simp only[x18y,hw,x182]
   exact ih (k+1) j t' M _ hd1 (by simp at hj;omega) hM
  simp only[x1f]
  unfold xas xg4
  simp only[x18k,hk',x1si,x182,x18a,ix,ld,x1al,s1,x183 hM,x183 g1',x1sg,x1sf,rd,x1so,x1sx,x1t7,x1t8,x1t2,x1sn,e1]
  unfold insP
  cases c:hasP s.1 s.2 p
  .simp only[x18b,x1sw,x1sp,x18g,x182,x1sg]
   have x0:∀id ver off,sIxA 2 1 (.ptr id ver off) (I 1)=some (.ptr id ver (off+1)):=λid ver off=>by simp[sIxA,asI]
   simp only[x0,x182,x1sg,x183 hM,x183 g1',x1sf,x1sj,rd,x1sw,x1sp,List.head?_cons,x19t,x1ke]
   unfold xg3 rayP
   by_cases c2:decide (p.y<s.1.y)=decide (p.y<s.2.y)
   .have e3:(decide (p.y<s.1.y) != decide (p.y<s.2.y))=false:=by rw[c2];simp
    have e4:¬(decide (s.1.y > p.y)≠decide (s.2.y > p.y)):=λhn=>hn c2
    rw[e3]
    simp only[x18b]
    unfold xg2
    rw[x1up e4]
    simp only[x1tz,x1sw,x1sp]
    exact next t _
   .have e3:(decide (p.y<s.1.y) != decide (p.y<s.2.y))=true:=by simpa using c2
    have e4:(decide (s.1.y > p.y)≠decide (s.2.y > p.y)):=c2
    rw[e3,x1tg e4]
    simp only[x18a,x1t4]
    unfold xg1 xg0
    simp only[x18g,x0,x182,x1sg,x183 g1',x1sf,x1sj,rd,x1sw,x1sp,List.head?_cons,x18k]
    have fin2:∀(up:Int) (fc':Nat),∃m',x5h (x180 (d+3)) hs 0 (x1f (x180 (d+3)) hs 0 j) (.ptr id3 0 0) (B t) (.ptr (0,fc+1+2,7) 0 0) (I up) sv (I S.length) (I k) M fc'=some (B (insP S p (if decide (x18o s.1 s.2 p=up)=true then !t else t) r),m'):=λup fc'=>by
     unfold x5h
     simp only[x183 hM,x183 g1',x1sg,x1sf,rd,x1so,x1sx,x1t7,x1t8,x1t2,x1sn,x182,e2,x1a9]
     by_cases c3:x18o s.1 s.2 p=up
     .simp only[c3,x1si,x18a,x19y,x182,x1so]
      exact next _ _
     .simp only[c3,x1sm,x18b,x1sw,x1sp]
      exact next _ _
    by_cases c3:s.2.y<s.1.y
    .simp only[c3,x1si,x18a,x1so]
     exact fin2 (-1) _
    .simp only[c3,x1sm,x18b,x1sp]
     exact fin2 1 _
  .simp only[x18a,x1so]
   exact⟨M,rfl⟩
def x1bz(l:List Pl)(p:Pl):Bool:=insP (x19l l) p false (x19l l)
theorem l_gfirst2(call:x17y)(hs:FHs)(u:Nat)(x y:Int)(m:Mem)(fc:Nat):x5g call hs u NN (.slit [I x,I y] 2 true) (I 2) (I 0) m fc=some (I (if x≠0 then x else if y≠0 then y else 0),m):=by
 obtain⟨k,hk⟩:∃k,NN=k+3:=⟨NN-3,by have:=x197;omega⟩
 rw[hk]
 simp only[x5g]
 unfold xfx xfw
 have i0:sIx 1 (.slit [I x,I y] 2 true) (I 0)=some (.plit [I x,I y]):=rfl
 have i1:sIx 1 (.slit [I x,I y] 2 true) (I 1)=some (.plit [I y]):=rfl
 have w1:w64 ((0:Int)+1)=1:=rfl
 have w2:w64 ((1:Int)+1)=2:=rfl
 have k0:((0:Int)<2):=by decide
 have k1:((1:Int)<2):=by decide
 have k2:¬((2:Int)<2):=by decide
 by_cases c:x=0
 .subst c
  by_cases c2:y=0
  .subst c2
   simp only[x18k,k0,k1,k2,x1si,x1sm,x182,x18a,x18b,i0,i1,x1ha,rd_f,x1aa,x1si,x1sr,x18y,w1,w2,List.head?_cons]
   rfl
  .simp only[x18k,k0,k1,x1si,x182,x18a,x18b,i0,i1,x1ha,rd_f,x1aa,c2,x1si,x1sm,x1sr,x1ss,x18y,w1,List.head?_cons]
   simp[c2]
 .simp only[x18k,k0,x1si,x182,x18a,i0,x1ha,rd_f,x1aa,c,x1sm,x1ss,List.head?_cons]
  simp[c]
theorem x1hl{l:List Pl}(h:x1a1 l=0):l.length<=20/\3<=l.length/\crnE l 0 l=0/\clB (x19l l)=false:=by
 unfold x1a1 at h
 split at h
 .cases h
 .split at h
  .cases h
  .split at h
   .rename_i h0
    split at h
    .cases h
    .rename_i h1
     exact⟨by omega,by omega,h0,by simpa using h1⟩
   .rename_i h0
    exact absurd h h0
theorem sidesP_in{l:List Pl}(h:x1a1 l=0):∀s∈x19l l,InS s:=by
 obtain⟨h1,h2,h3,-⟩:=x1hl h
 have hin:=x1dv l l 0 h3
 intro s hs
 unfold x19l at hs
 obtain⟨k,hk,rfl⟩:=x1tp.mp hs
 have hk:=x1sy.mp hk
 have hk2:(k+1) % l.length<l.length:=x1u2 _ (by omega)
 refine⟨?_,?_⟩
 .show InP (gP l k)
  rw[x1ab hk];exact x1ch (hin _ (x1t0 hk))
 .show InP (gP l ((k+1) % l.length))
  rw[x1ab hk2];exact x1ch (hin _ (x1t0 hk2))
theorem x1hm{R:Type}{x y:Int}{id:Id}{m:Mem}{k:AV->Mem->Option R}:x18l x1d [(0,1,I x),(1,1,I y)] 2 1 id m k=k (.slit [I x,I y] 2 true) m:=by
 rw[show x1d=[I 0] by kernel_rfl]
 simp[x18l,x1ao,x19d,x1ux,x18v]
theorem u_errs:Tryz.prog.underlying x5b=some (.slice xv1):=by kernel_rfl
theorem w_gfirst2(d:Nat)(x y:Int)(m:Mem):x17z (x180 (d+1)) x37 [.slit [I x,I y] 2 true] m=some (I (if x≠0 then x else if y≠0 then y else 0),m):=by
 refine x195 rfl ?_ m
 rw[x10s]
 unfold xcf xar xfy
 have hl:sLen Tryz.prog x5b (.slit [I x,I y] 2 true)=some (I 2):=rfl
 simp only[mem0,hl,x182]
 rw[l_gfirst2]
 exact RetF.st rfl rfl
theorem w_inside(d:Nat){sv:AV}{S:List (Pl×Pl)}(h:Sl sdC sv S)(hS:S.length<=1000)(hin:∀s∈S,InS s){p:Pl}(hp:InP p)(m:Mem):x17z (x180 (d+4)) x38 [sv,p.k] m=some (B (insP S p false S),m):=by
 refine x195 (by simp[h.still,Pl.k]) ?_ m
 rw[x10t]
 unfold xcg
 show RetF _ (x5i _ _ _ _ _ _ _)
 unfold x5i xg5
 simp only[Pl.k,mem0,x19f,x19n,x1th,x1tv,x1bo,x1tm,x18m,h.len x1du,x182]
 obtain⟨m',r⟩:=l_inside d [] h hS hin hp (id3:=(0,0,3)) (by simp) S 0 NN false ((⟨[],1⟩:Mem).new (0,0,3) (.row [I p.x,I p.y] 0 false)) 6 rfl (by rw[x197];omega) (Mem.get_new_same _ _ _)
 rw[show I ((0:Nat):Int)=I 0 from rfl]at r
 show RetF _ (x1f (x180 (d+3)) [] 0 NN (AV.ptr (0,0,3) 0 0) (B false) sv (I S.length) (I 0) ((⟨[],1⟩:Mem).new (0,0,3) (.row [I p.x,I p.y] 0 false)) 6)
 rw[r]
 exact RetF.st rfl rfl
theorem w_Inside(d:Nat){a:AV}{l:List Pl}(h:Sl Pl.c a l)(hz:x1a1 l=0){p:Pl}(hp:isPl p=true)(m:Mem):x17z (x180 (d+6)) x34 [a,.agg p.c] m=some (.tup [B (x1bz l p),I 0],m):=by
 obtain⟨h1,h2,h3,-⟩:=x1hl hz
 have hinP:∀q∈l,InP q:=λq hq=>x1ch (x1dv l l 0 h3 q hq)
 refine x195 (by simp[h.still,Pl.c]) ?_ m
 rw[x10m]
 unfold xc9 xad
 obtain⟨M,hM⟩:∃M:Mem,M=((⟨[],1⟩:Mem).new (0,0,3) (.row p.c 0 false)):=⟨_,rfl⟩
 have g:M.get (0,0,3)=some (.row p.c 0 false):=by rw[hM];simp
 have hn:M.next=1:=by rw[hM];rfl
 have ho:p.c.all AV.one=true:=rfl
 simp only[mem0,x19f,x19n,ho,x18m]
 rw[<-hM]
 have ldM:sLd true 3 (.ptr (0,0,3) 0 0) M=some (.agg p.c):=by rw[x183 g];rfl
 obtain⟨s,hs1,hs2⟩:=w_sides (d+4) h (by omega) hinP M
 have hcl:clean a=true:=h.clean
 have e1:=x1kh d h M (by omega)
 rw[hz]at e1
 have e2:=x1kd (d+2) p M
 rw[x1sc hp]at e2
 have e3:=x1hi (d+4) p M
 have e4:=w_inside (d+1) hs1 (by rw[x1fy];omega) (sidesP_in hz) (x1ch hp) M
 have e5:=w_gfirst2 (d+4) 0 0 M
 simp only[e1,x182,ldM,e2,x1hm,e5]
 simp[cAp,tR,mkM,hn,hcl,hs2,ldM,e3,e4]
 exact RetF.tup rfl rfl
def x1am(l:List Pl)(i k:Nat):Bool:=decide (i+2<=k)&&(decide ((k+1) % l.length≠i)&&x1bp (gP l i) (gP l (i+1)) (gP l k) (gP l ((k+1) % l.length)))
def x1c0(l:List Pl)(i:Nat):Bool:=x1dp (gP l i) (gP l ((i+1) % l.length)) (gP l ((i+l.length-1) % l.length))
def rclB(l:List Pl):Bool:=(List.range l.length).any λi=>x1c0 l i||(List.range l.length).any (x1am l i)
theorem x1hn(l:List Pl):∀(suf:List Pl) (k:Nat),l.drop k=suf->crnE l k suf=0->∀(i j:Nat),k<=j->j<l.length->i<j->Pl.same (gP l j) (gP l i)=false
 |[],k,hd,_=>λi j h1 h2 h3=>by have:=x1t3.mp hd;omega
 |x::r,k,hd,h=>by
  obtain⟨hk,hx,hd1⟩:=x19i hd
  rw[x1hk]at h
  split at h
  .split at h
   .cases h
   .rename_i h2
    intro i j g1 g2 g3
    by_cases e:j=k
    .subst e
     have hm:gP l i∈l.take j:=by
      rw[x1ab (by omega)]
      refine List.mem_iff_getElem.mpr ⟨i,by simp;omega,by simp⟩
     rw[x1ab hk,hx]
     cases hs:Pl.same x (gP l i)
     .rfl
     .exact absurd (x1ua.mpr ⟨_,hm,hs⟩) h2
    .exact x1hn l r (k+1) hd1 h i j (by omega) g2 g3
  .cases h
theorem same_ne{p q:Pl}(h:Pl.same p q=false):¬(p.x=q.x/\p.y=q.y):=λe=>by simp[Pl.same,e.1,e.2]at h
theorem gp_ne{l:List Pl}(h:crnE l 0 l=0){i j:Nat}(hi:i<l.length)(hj:j<l.length)(hne:i≠j):¬((gP l i).x=(gP l j).x/\(gP l i).y=(gP l j).y):=by
 rcases x1ta i j with c|c
 .have:=same_ne (x1hn l l 0 rfl h i j (x1ug _) hj c)
  omega
 .exact same_ne (x1hn l l 0 rfl h j i (x1ug _) hi (by omega))
theorem x1db{a n:Nat}(h:a<n):a % n=a:=Nat.mod_eq_of_lt h
theorem clB_eq{l:List Pl}(h3:3<=l.length)(h:crnE l 0 l=0):clB (x19l l)=rclB l:=by
 have hS:=x1fy l
 have gS:∀{i:Nat},i<l.length->(x19l l).getD i (pl0,pl0)=sdAt l i:=λ{i} hi=>by
  have:i<(x19l l).length:=by omega
  rw[x1tq,x1t5 this,Option.getD_some,x1m5]
 have nb:∀k,k+1<l.length->clS (x19l l) (k+1) k=x1c0 l (k+1):=λk hk=>by
  unfold clS x1c0
  rw[gS hk,gS (by omega),x1sc rfl]
  unfold sdAt
  have e1:(k+1) % l.length=k+1:=x1db hk
  have e2:(k+1+l.length-1) % l.length=k:=by rw[show k+1+l.length-1=k+l.length by omega,Nat.add_mod_right,x1db (by omega)]
  simp only[e1,e2]
  have h2:(k+1+1) % l.length<l.length:=x1u2 _ (by omega)
  have h4:(k+1+1) % l.length≠k+1:=by
   rcases x1ta (k+1+1) l.length with c|c
   .rw[x1db c];omega
   .rw[show k+1+1=l.length by omega,Nat.mod_self];omega
  exact x1ka (a:=gP l k) (b:=gP l (k+1)) (c:=gP l ((k+1+1) % l.length)) (gp_ne h (by omega) hk (by omega)) (gp_ne h h2 hk h4)
 have nb0:clS (x19l l) (l.length-1) 0=x1c0 l 0:=by
  unfold clS x1c0
  rw[gS (by omega),gS (by omega),x1sd (by omega),x1sc ⟨rfl,by omega⟩]
  unfold sdAt
  have e1:(l.length-1+1) % l.length=0:=by rw[show l.length-1+1=l.length by omega,Nat.mod_self]
  have e2:(0+l.length-1) % l.length=l.length-1:=by rw[x1sg,x1db (by omega)]
  have e3:(0+1) % l.length=1:=x1db (by omega)
  simp only[e1,e2,e3]
  rw[Bool.or_comm]
  exact x1ka (a:=gP l (l.length-1)) (b:=gP l 0) (c:=gP l 1) (gp_ne h (by omega) (by omega) (by omega)) (gp_ne h (by omega) (by omega) (by omega))
 have far:∀i k,k<i->i<l.length->i≠k+1->¬(k=0/\i+1=l.length)->clS (x19l l) i k=x1am l k i:=λi k h1 h2 h4 h5=>by
  unfold clS x1am
  rw[gS (by omega),gS (by omega),x1sd h4,x1sd (by rw[hS];exact h5),x1m2,meet_symm]
  unfold sdAt
  have e1:(k+1) % l.length=k+1:=x1db (by omega)
  have e2:(i+1) % l.length≠k:=by
   rcases x1ta (i+1) l.length with c|c
   .rw[x1db c];omega
   .rw[show i+1=l.length by omega,Nat.mod_self];omega
  simp only[e1]
  rw[x1tg (show k+2<=i by omega),x1tg e2]
  simp
 unfold clB rclB
 rw[hS,x1vd]
 simp only[x1ua,x1sy,x1tc]
 constructor
 .rintro⟨i,hi,k,hk,hc⟩
  by_cases c1:i=k+1
  .subst c1
   rw[nb k hi]at hc
   exact⟨k+1,hi,.inl hc⟩
  .by_cases c2:k=0/\i+1=l.length
   .obtain⟨rfl,c2⟩:=c2
    obtain rfl:i=l.length-1:=by omega
    rw[nb0]at hc
    exact⟨0,by omega,.inl hc⟩
   .rw[far i k hk hi c1 c2]at hc
    exact⟨k,by omega,.inr ⟨i,hi,hc⟩⟩
 .rintro⟨i,hi,hc|⟨k,hk,hc⟩⟩
  .rcases i with _|i
   .exact⟨l.length-1,by omega,0,by omega,by rw[nb0];exact hc⟩
   .exact⟨i+1,hi,i,by omega,by rw[nb i hi];exact hc⟩
  .have hc0:=hc
   unfold x1am at hc
   simp only[x1sl,x1tt]at hc
   obtain⟨g1,g2,-⟩:=hc
   refine⟨k,hk,i,by omega,?_⟩
   rw[far k i (by omega) hk (by omega) (by
    rintro⟨rfl,e⟩
    rw[e,Nat.mod_self]at g2
    exact g2 rfl)]
   exact hc0
def insR(p:Pl):Bool->List (Pl×Pl)->Bool
 |t,[]=>t
 |t,s::r=>if onP s.1 s.2 p=true then true else insR p (if rayR s.1 s.2 p=true then !t else t) r
theorem ins_eq(S:List (Pl×Pl))(p:Pl):∀(L:List (Pl×Pl)) (t:Bool),insP S p t L=insR p t L
 |[],_=>rfl
 |s::r,t=>by
  unfold insP insR
  rw[x1d8]
  cases c:onP s.1 s.2 p
  .rw[<-x1d8]at c
   rw[ray_eq c,ins_eq S p r]
  .rfl
theorem l_rmeet(d:Nat)(hs:FHs){a:AV}{l:List Pl}(h:Sl Pl.c a l)(hl:l.length<=1000)(hin:∀p∈l,InP p)(rec0:x18e){i:Nat}(hi:i<l.length)(Q:O2->Prop)(hyes:∀m:Mem,(List.range l.length).any (x1am l i)=true->Q (some (I 13,m)))(hno:∀(m:Mem) (fc:Nat),(List.range l.length).any (x1am l i)=false->Q (rec0 a (I l.length) (I (i+1:Nat)) m fc)) :
 ∀(n k j:Nat) (m:Mem) (fc:Nat),(k+n=l.length\/(n=0/\l.length<k))->n<j->i+2<=k->(∀q,q<k->x1am l i q=false) ->
 Q (x2n (x180 (d+3)) hs 0 rec0 j a (I l.length) (I i) (I k) m fc):=by
 intro n
 have hiw:w64 ((i:Int)+1)=((i+1:Nat):Int):=by rw[x18i (by omega) (by omega)];omega
 induction n with
 |zero=>
  intro k j m fc hk hj hk2 hq
  obtain⟨j,rfl⟩:∃i,j=i+1:=⟨j-1,by omega⟩
  have hlt:¬((k:Int)<(l.length:Int)):=by omega
  simp only[x2n]
  unfold xae xfa
  simp only[x18k,hlt,x1sm,x182,x18b,x18y,hiw]
  refine hno m _ ?_
  rw[x1v8]
  intro q hq'
  rw[hq q (by have:=x1sy.mp hq';omega)]
  simp
 |succ n ih=>
  intro k j m fc hk hj hk2 hq
  obtain⟨j,rfl⟩:∃i,j=i+1:=⟨j-1,by omega⟩
  have hk1:k<l.length:=by omega
  have hlt:((k:Int)<(l.length:Int)):=by omega
  have hkm:(k+1) % l.length<l.length:=x1u2 _ (by omega)
  have hw:w64 ((k:Int)+1)=((k+1:Nat):Int):=by rw[x18i (by omega) (by omega)];omega
  have hr:sRem (I ((k+1:Nat):Int)) (I (l.length:Int))=some (I (((k+1) % l.length:Nat):Int)):=by
   rw[x1fk (by omega)]
   congr 2
  have inn:∀{q:Nat},q<l.length->InP (gP l q):=λhq=>by rw[x1ab hq];exact hin _ (x1t0 hq)
  have ixx:∀{q:Nat},q<l.length->sIx 3 a (I (q:Int))=some (.plit ((l.drop q).flatMap Pl.c)):=λhq=>h.ix Pl.len hq
  have ldx:∀{q:Nat},q<l.length->∀m,sLd true 3 (.plit ((l.drop q).flatMap Pl.c)) m=some (.agg (gP l q).c):=λhq m=>by rw[x1ab hq];exact x1a2 Pl.len (by omega) hq
  have go:∀fc,x1am l i k=false->Q (x2n (x180 (d+3)) hs 0 rec0 j a (I l.length) (I i) (I (k+1:Nat)) m fc):=λfc hc=>by
   refine ih (k+1) j m fc (by omega) (by omega) (by omega) λq hq'=>?_
   by_cases e:q=k
   .subst e;exact hc
   .exact hq q (by omega)
  simp only[x2n]
  unfold xae
  simp only[x18k,hlt,x1si,x182,x18a,x18y,hw,hr,x1aa]
  by_cases c:(k+1) % l.length=i
  .have c':(((k+1) % l.length:Nat):Int)=(i:Int):=by omega
   simp only[c',x1si,x1sr,x19z,x192,x19q,sW_t,x199,x182,x18z,x18b]
   exact go _ (by unfold x1am;simp[c])
  .have c':¬(((k+1) % l.length:Nat):Int)=(i:Int):=by omega
   have hmt:=w_meet d (inn hi) (inn (show i+1<l.length by omega)) (inn hk1) (inn hkm) m
   have hma:x1am l i k=x1bp (gP l i) (gP l (i+1)) (gP l k) (gP l ((k+1) % l.length)):=by unfold x1am;simp[c,hk2]
   simp only[c',x1sm,x1ss,x19z,x192,x19q,sW_t,x18m,x182,ixx hi,ldx hi,x18y,hiw,ixx (show i+1<l.length by omega),ldx (show i+1<l.length by omega),ixx hk1,ldx hk1,hw,hr,ixx hkm,ldx hkm,hmt,x18z]
   cases hc:x1bp (gP l i) (gP l (i+1)) (gP l k) (gP l ((k+1) % l.length))
   .simp only[x18b]
    exact go _ (by rw[hma,hc])
   .simp only[x18a]
    exact hyes m (x1ua.mpr ⟨k,x1sy.mpr hk1,by rw[hma,hc]⟩)
theorem l_rcl0(d:Nat)(hs:FHs){a:AV}{l:List Pl}(h:Sl Pl.c a l)(hl:l.length<=1000)(hin:∀p∈l,InP p):∀(n i j:Nat) (m:Mem) (fc:Nat),i+n=l.length->n<j->(∀q,q<i->(x1c0 l q||(List.range l.length).any (x1am l q))=false) ->
 ∃m',x2o (x180 (d+3)) hs 0 j a (I l.length) (I i) m fc=some (I (if rclB l=true then 13 else 0),m'):=by
 intro n
 induction n with
 |zero=>
  intro i j m fc hk hj hq
  obtain⟨j,rfl⟩:∃i,j=i+1:=⟨j-1,by omega⟩
  obtain rfl:i=l.length:=by omega
  have e:rclB l=false:=by
   unfold rclB
   rw[x1v8]
   intro q hq'
   rw[hq q (x1sy.mp hq')]
   simp
  simp only[x2o]
  unfold xaf xf9
  simp only[x18k,x1vv,x1sm,x182,x18b,e]
  exact⟨m,rfl⟩
 |succ n ih=>
  intro i j m fc hk hj hq
  obtain⟨j,rfl⟩:∃i,j=i+1:=⟨j-1,by omega⟩
  have hi:i<l.length:=by omega
  have hi':(i:Int)<(l.length:Int):=by omega
  have hm1:(i+1) % l.length<l.length:=x1u2 _ (by omega)
  have hm2:(i+l.length-1) % l.length<l.length:=x1u2 _ (by omega)
  have hw:w64 ((i:Int)+1)=((i+1:Nat):Int):=by rw[x18i (by omega) (by omega)];omega
  have hw2:w64 ((i:Int)+2)=((i+2:Nat):Int):=by rw[x18i (by omega) (by omega)];omega
  have hw3:w64 ((i:Int)+(l.length:Int))=(i:Int)+(l.length:Int):=x18i (by omega) (by omega)
  have hw4:w64 ((i:Int)+(l.length:Int)-1)=((i+l.length-1:Nat):Int):=by rw[x18i (by omega) (by omega)];omega
  have hr:∀q:Nat,sRem (I (q:Int)) (I (l.length:Int))=some (I ((q % l.length:Nat):Int)):=λq=>by
   rw[x1fk (by omega)]
   congr 2
  have inn:∀{q:Nat},q<l.length->InP (gP l q):=λhq=>by rw[x1ab hq];exact hin _ (x1t0 hq)
  have ixx:∀{q:Nat},q<l.length->sIx 3 a (I (q:Int))=some (.plit ((l.drop q).flatMap Pl.c)):=λhq=>h.ix Pl.len hq
  have ldx:∀{q:Nat},q<l.length->∀m,sLd true 3 (.plit ((l.drop q).flatMap Pl.c)) m=some (.agg (gP l q).c):=λhq m=>by rw[x1ab hq];exact x1a2 Pl.len (by omega) hq
  have hf:=w_fold (d+1) (inn hi) (inn hm1) (inn hm2) m
  simp only[x2o]
  unfold xaf xfb
  simp only[x18k,hi',x1si,x182,x18a,ixx hi,ldx hi,x18y,hw,hr,ixx hm1,ldx hm1,hw3,sSub_I,hw4,ixx hm2,ldx hm2,hf]
  have e:x1dp (gP l i) (gP l ((i+1) % l.length)) (gP l ((i+l.length-1) % l.length))=x1c0 l i:=rfl
  rw[e]
  have yes:(x1c0 l i||(List.range l.length).any (x1am l i))=true->rclB l=true:=λhy=>x1ua.mpr ⟨i,x1sy.mpr hi,hy⟩
  cases hc:x1c0 l i
  .simp only[x18b,hw2,x182]
   refine l_rmeet d hs h hl hin (x2o (x180 (d+3)) hs 0 j) hi (λr=>∃m',r=some (I (if rclB l=true then 13 else 0),m')) (λm' hy=>?_) (λm' fc' hn=>?_) (l.length-(i+2)) (i+2) NN m _ (by omega) (by rw[x197];omega) (x1sn _) (λq hq=>by unfold x1am;rw[x1up (by omega)];rfl)
   .rw[x1sc (yes (by rw[hy,Bool.or_true]))]
    exact⟨m',rfl⟩
   .refine ih (i+1) j m' fc' (by omega) (by omega) λq hq'=>?_
    by_cases e:q=i
    .subst e;rw[hc,hn];rfl
    .exact hq q (by omega)
  .simp only[x18a]
   rw[x1sc (yes (by rw[hc];rfl))]
   exact⟨m,rfl⟩
theorem l_rdup(call:x17y)(hs:FHs)(u:Nat){a:AV}{l:List Pl}(h:Sl Pl.c a l)(hl:l.length<=1000)(rec2:x18e){i:Nat}(hi:i<l.length)(Q:O2->Prop)(hyes:∀m:Mem,(l.take i).any (Pl.same l[i])=true->Q (some (I 28,m)))(hno:∀(m:Mem) (fc:Nat),(l.take i).any (Pl.same l[i])=false->Q (rec2 a (I l.length) (I (i+1:Nat)) m fc)) :
 ∀(n k j:Nat) (m:Mem) (fc:Nat),k+n=i->n<j->(l.take k).any (Pl.same l[i])=false ->
 Q (x46 call hs u rec2 j a (I l.length) (I i) (I k) m fc):=by
 intro n
 have hiw:w64 ((i:Int)+1)=((i+1:Nat):Int):=by rw[x18i (by omega) (by omega)];omega
 induction n with
 |zero=>
  intro k j m fc hk hj hq
  obtain⟨j,rfl⟩:∃i,j=i+1:=⟨j-1,by omega⟩
  obtain rfl:k=i:=by omega
  simp only[x46]
  unfold xah xfc
  simp only[x18k,x1vv,x1sm,x182,x18b,x18y,hiw]
  exact hno m _ hq
 |succ n ih=>
  intro k j m fc hk hj hq
  obtain⟨j,rfl⟩:∃i,j=i+1:=⟨j-1,by omega⟩
  have hk1:k<l.length:=by omega
  have hlt:((k:Int)<(i:Int)):=by omega
  have hw:w64 ((k:Int)+1)=((k+1:Nat):Int):=by rw[x18i (by omega) (by omega)];omega
  have ix1:=h.ix Pl.len hk1
  have ix2:=h.ix Pl.len hi
  have f0:∀q:Nat,sFA 0 (.plit ((l.drop q).flatMap Pl.c))=some (.plit ((l.drop q).flatMap Pl.c)):=λ_=>rfl
  have f1:∀q:Nat,sFA 1 (.plit ((l.drop q).flatMap Pl.c))=some (.plit (((l.drop q).flatMap Pl.c).drop 1)):=λ_=>rfl
  have x0:∀{q:Nat} (hq:q<l.length) (m:Mem),sLd false 1 (.plit ((l.drop q).flatMap Pl.c)) m=some (I l[q].x):=λhq m=>by rw[x19h hq,x1st];rfl
  have x1:∀{q:Nat} (hq:q<l.length) (m:Mem),sLd false 1 (.plit (((l.drop q).flatMap Pl.c).drop 1)) m=some (I l[q].y):=λhq m=>by rw[x19h hq,x1st];rfl
  have htk:(l.take (k+1)).any (Pl.same l[i])=Pl.same l[i] l[k]:=by
   rw[x1u9 hk1,List.any_append,hq]
   simp
  have sm:Pl.same l[i] l[k]=(decide (l[k].x=l[i].x)&&decide (l[k].y=l[i].y)):=by unfold Pl.same;simp[eq_comm]
  have yes:Pl.same l[i] l[k]=true->(l.take i).any (Pl.same l[i])=true:=λhy=>by
   refine x1ua.mpr ⟨l[k],List.mem_iff_getElem.mpr ⟨k,by simp;omega,by simp⟩,hy⟩
  simp only[x46]
  unfold xah
  simp only[x18k,hlt,x1si,x182,x18a,ix1,ix2,f0,x0 hk1,x0 hi,x1a9]
  by_cases c:l[k].x=l[i].x
  .by_cases c2:l[k].y=l[i].y
   .simp only[c,x1si,x19z,x192,sW_t,x18m,x182,ix1,ix2,f1,x1 hk1,x1 hi,x1a9,c2,x18z,x18a]
    exact hyes m (yes (by rw[sm];simp[c,c2]))
   .simp only[c,x1si,x19z,x192,sW_t,x18m,x182,ix1,ix2,f1,x1 hk1,x1 hi,x1a9,c2,x1sm,x18z,x18b,x18y,hw]
    exact ih (k+1) j m _ (by omega) (by omega) (by rw[htk,sm];simp[c2])
  .simp only[c,x1sm,x19z,x192,sW_t,x199,x182,x18z,x18b,x18y,hw]
   exact ih (k+1) j m _ (by omega) (by omega) (by rw[htk,sm];simp[c])
theorem l_rcrn(d:Nat)(hs:FHs){a:AV}{l:List Pl}(h:Sl Pl.c a l)(hl:l.length<=1000)(Q:O2->Prop)(hbad:∀(m:Mem),crnE l 0 l≠0->Q (some (I (crnE l 0 l),m)))(hok:∀(m:Mem) (fc:Nat),crnE l 0 l=0->Q (xag (x180 (d+3)) hs 0 a (I l.length) m fc)) :
 ∀(suf:List Pl) (k j:Nat) (m:Mem) (fc:Nat),l.drop k=suf->suf.length<j->crnE l 0 l=crnE l k suf ->
 Q (x2p (x180 (d+3)) hs 0 j a (I l.length) (I k) m fc):=by
 intro suf
 induction suf with
 |nil=>
  intro k j m fc hd hj he
  obtain⟨j,rfl⟩:∃i,j=i+1:=⟨j-1,by simp at hj;omega⟩
  have hk:¬((k:Int)<(l.length:Int)):=by have:=x1t3.mp hd;omega
  simp only[x2p]
  unfold xai
  simp only[x18k,hk,x1sm,x182,x18b]
  exact hok m _ (by rw[he];rfl)
 |cons p r ih=>
  intro k j m fc hd hj he
  obtain⟨j,rfl⟩:∃i,j=i+1:=⟨j-1,by simp at hj;omega⟩
  obtain⟨hk,hp,hd1⟩:=x19i hd
  have hk':(k:Int)<(l.length:Int):=by omega
  have ix:=h.ix Pl.len hk
  have ld:=λm=>x1a2 (m:=m) Pl.len (by omega) hk
  rw[hp]at ld
  simp only[x2p]
  unfold xai xfd
  simp only[x18k,hk',x1si,x182,x18a,ix,ld,x1kc d p,x19y]
  rw[x1hk]at he
  cases c:isPl p with
  |true=>
   rw[x1sc c]at he
   simp only[x1sr,x18b]
   refine l_rdup (x180 (d+3)) hs 0 h hl (x2p (x180 (d+3)) hs 0 j) hk Q (λm' hy=>?_) (λm' fc' hn=>?_) k 0 NN m _ (by omega) (by rw[x197];omega) (by simp)
   .rw[hp]at hy
    rw[x1sc hy]at he
    have:=hbad m' (by rw[he];decide)
    rw[he]at this
    exact this
   .rw[hp]at hn
    rw[hn,x1sd (by simp)]at he
    exact ih (k+1) j m' fc' hd1 (by simp at hj;omega) he
  |false=>
   rw[x1sd (by simp[c])]at he
   have:=hbad m (by rw[he];decide)
   rw[he]at this
   simp only[x1ss,x18a]
   exact this
theorem x1m6(d:Nat){a:AV}{l:List Pl}(h:Sl Pl.c a l)(m:Mem)(hl:l.length<=9000000000000000000):x17z (x180 (d+4)) x35 [a] m=some (I (x1a1 l),m):=by
 refine x195 (by simp[h.still]) ?_ m
 rw[x10n]
 unfold xca xaj x1a1
 simp only[mem0,h.len x1da,x182,x18k]
 by_cases c:l.length<3
 .simp only[show((l.length:Int)<3) by omega,x1si,x18a,c,x1so]
  exact RetF.st rfl rfl
 simp only[show ¬((l.length:Int)<3) by omega,x1sm,x18b,c,x1sp,x182,x19t]
 by_cases c2:20<l.length
 .simp only[show((20:Int)<(l.length:Int)) by omega,x1si,x18a,c2,x1so]
  exact RetF.st rfl rfl
 simp only[show ¬((20:Int)<(l.length:Int)) by omega,x1sm,x18b,c2,x1sp]
 unfold xfe
 refine l_rcrn d [] h (by omega) (λr=>RetF (λv=>v=I (if crnE l 0 l=0 then(if clB (x19l l)=true then 13 else 0)else crnE l 0 l)) r) (λm hb=>?_) (λm fc hb=>?_) l 0 NN _ _ rfl (by rw[x197];omega) rfl
 .rw[x1sd hb]
  exact RetF.st rfl rfl
 .rw[x1sc hb]
  have hin:=x1dv l l 0 hb
  unfold xag
  obtain⟨m',r⟩:=l_rcl0 d [] h (by omega) (λp hp=>x1ch (hin p hp)) l.length 0 NN m (fc+1) (by omega) (by rw[x197];omega) (λq hq=>by omega)
  rw[show I ((0:Nat):Int)=I 0 from rfl]at r
  rw[r,clB_eq (by omega) hb]
  exact RetF.st rfl rfl
theorem eql_bool(x y:Operand)(a b:Bool):sBin Tryz.prog .eql x15 x y (B a) (B b)=some (B (a == b)):=by cases a<;>cases b<;>kernel_rfl
theorem l_rins(d:Nat)(hs:FHs){a:AV}{l:List Pl}(h:Sl Pl.c a l)(hl:l.length<=1000)(hin:∀p∈l,InP p){p:Pl}(hp:InP p){id3:Id}(h3:id3.1=0/\id3.2.2=3):∀(n k j:Nat) (t:Bool) (m:Mem) (fc:Nat),k+n=l.length->n<j->m.next=1->m.get id3=some (.row p.c 0 false) ->
 ∃m',x2k (x180 (d+2)) hs 0 j a (.ptr id3 0 0) (B t) (I k) m fc=some (B (insR p t ((List.range' k n).map (sdAt l))),m'):=by
 intro n
 induction n with
 |zero=>
  intro k j t m fc hk hj hn hm
  obtain⟨j,rfl⟩:∃i,j=i+1:=⟨j-1,by omega⟩
  have hlt:¬((k:Int)<(l.length:Int)):=by omega
  simp only[x2k]
  unfold x9v xea
  simp only[h.len x1da,x18k,hlt,x1sm,x182,x18b]
  exact⟨m,rfl⟩
 |succ n ih=>
  intro k j t m fc hk hj hn hm
  obtain⟨j,rfl⟩:∃i,j=i+1:=⟨j-1,by omega⟩
  have hk1:k<l.length:=by omega
  have hk':((k:Int)<(l.length:Int)):=by omega
  have hk2:(k+1) % l.length<l.length:=x1u2 _ (by omega)
  have hw:w64 ((k:Int)+1)=((k+1:Nat):Int):=by rw[x18i (by omega) (by omega)];omega
  have hr:sRem (I ((k+1:Nat):Int)) (I (l.length:Int))=some (I (((k+1) % l.length:Nat):Int)):=by
   rw[x1fk (by omega)]
   congr 2
  have inn:∀{q:Nat},q<l.length->InP (gP l q):=λhq=>by rw[x1ab hq];exact hin _ (x1t0 hq)
  have ix1:=h.ix Pl.len hk1
  have ix2:=h.ix Pl.len hk2
  have ld1:∀m,sLd true 3 (.plit ((l.drop k).flatMap Pl.c)) m=some (.agg (gP l k).c):=λm=>by rw[x1ab hk1];exact x1a2 Pl.len (by omega) hk1
  have ld2:∀m,sLd true 3 (.plit ((l.drop ((k+1) % l.length)).flatMap Pl.c)) m=some (.agg (gP l ((k+1) % l.length)).c):=λm=>by rw[x1ab hk2];exact x1a2 Pl.len (by omega) hk2
  obtain⟨M,hM⟩:∃M:Mem,M=((((m.new (0,fc+4+12,7) (.row xa 0 false)).new (0,fc+4+13,8) (.row xa 0 false)).set (0,fc+4+12,7) (.row (gP l k).c 0 false)).set (0,fc+4+13,8) (.row (gP l ((k+1) % l.length)).c 0 false)):=⟨_,rfl⟩
  have g7:M.get (0,fc+4+12,7)=some (.row [I (gP l k).x,I (gP l k).y,I (gP l k).z] 0 false):=by rw[hM];simp[Pl.c]
  have g8:M.get (0,fc+4+13,8)=some (.row [I (gP l ((k+1) % l.length)).x,I (gP l ((k+1) % l.length)).y,I (gP l ((k+1) % l.length)).z] 0 false):=by rw[hM];simp[Pl.c]
  have g3:M.get id3=some (.row [I p.x,I p.y,I p.z] 0 false):=by
   rw[hM,Mem.get_set_ne (by rintro rfl;simp at h3),Mem.get_set_ne (by rintro rfl;simp at h3),Mem.get_new_ne (by rintro rfl;simp at h3),Mem.get_new_ne (by rintro rfl;simp at h3)]
   exact hm
  have hMn:M.next=1:=by rw[hM];exact hn
  have st7:∀{R:Type} (K:Mem->Option R),sSt 3 (.ptr (0,fc+4+12,7) 0 0) (.agg (gP l k).c) ((m.new (0,fc+4+12,7) (.row xa 0 false)).new (0,fc+4+13,8) (.row xa 0 false)) K=K (((m.new (0,fc+4+12,7) (.row xa 0 false)).new (0,fc+4+13,8) (.row xa 0 false)).set (0,fc+4+12,7) (.row (gP l k).c 0 false)):=λK=>by
   have e:((m.new (0,fc+4+12,7) (.row xa 0 false)).new (0,fc+4+13,8) (.row xa 0 false)).get (0,fc+4+12,7)=some (.row [I 0,I 0,I 0] 0 false):=by rw[x1eq];simp
   rw[x1ej (off:=0) (z:=3) (x:=.agg (gP l k).c) (k:=K) e rfl (x1sn _) rfl]
   rfl
  have st8:∀{R:Type} (K:Mem->Option R),sSt 3 (.ptr (0,fc+4+13,8) 0 0) (.agg (gP l ((k+1) % l.length)).c) (((m.new (0,fc+4+12,7) (.row xa 0 false)).new (0,fc+4+13,8) (.row xa 0 false)).set (0,fc+4+12,7) (.row (gP l k).c 0 false)) K=K M:=λK=>by
   have e:(((m.new (0,fc+4+12,7) (.row xa 0 false)).new (0,fc+4+13,8) (.row xa 0 false)).set (0,fc+4+12,7) (.row (gP l k).c 0 false)).get (0,fc+4+13,8)=some (.row [I 0,I 0,I 0] 0 false):=by rw[x1eq];simp
   rw[x1ej (off:=0) (z:=3) (x:=.agg (gP l ((k+1) % l.length)).c) (k:=K) e rfl (x1sn _) rfl,hM]
   rfl
  have eOn:=w_on d (inn hk1) (inn hk2) hp M
  have eCr:=x1ft (d+1) (inn hk1) (inn hk2) hp M
  simp only[Pl.c]at eOn eCr
  have next:∀(t':Bool) (fc:Nat),∃m',x5e (x180 (d+2)) hs 0 (x2k (x180 (d+2)) hs 0 j) a (.ptr id3 0 0) (B t') (I k) M fc=some (B (insR p t' ((List.range' (k+1) n).map (sdAt l))),m'):=λt' fc=>by
   unfold x5e
   simp only[x18y,hw,x182]
   exact ih (k+1) j t' M _ (by omega) (by omega) hMn g3
  rw[List.range'_succ,x1su]
  unfold insR
  have es:sdAt l k=(gP l k,gP l ((k+1) % l.length)):=rfl
  rw[es]
  simp only[x2k]
  unfold x9v xeb
  have hap:(x18c (tR (.plit ((l.drop k).flatMap Pl.c))) (some [],some [(0,fc+4+12,7)])&&(x18c (tR (.plit ((l.drop ((k+1) % l.length)).flatMap Pl.c))) (some [],some [(0,fc+4+12,7)])&&(x18c (tR (.plit ((l.drop k).flatMap Pl.c))) (some [],some [(0,fc+4+13,8)])&&(x18c (tR (.plit ((l.drop ((k+1) % l.length)).flatMap Pl.c))) (some [],some [(0,fc+4+13,8)])&&(x18c (some [],some [(0,fc+4+12,7)]) (some [],some [(0,fc+4+13,8)])&&(x18c (tR (.plit ((l.drop ((k+1) % l.length)).flatMap Pl.c))) (tS (.ptr (0,fc+4+12,7) 0 0))&&true))))))=true:=by
   simp[x18c,tR,tS,disj]
  simp only[h.len x1da,x18k,hk',x1si,x182,x18a,ix1,ld1,x18y,hw,hr,ix2,ld2,x1al,st7,st8,hap,x18m,x183 g7,x183 g8,x183 g3,x1sf,rd,x1so,x1sx,x1t7,x1t8,x1t2,x1sg,x1sn,eOn]
  cases c:onP (gP l k) (gP l ((k+1) % l.length)) p
  .simp only[x18b,x1sw,x1sp,x18g,x182,x1sg,x183 g7,x183 g8,x183 g3,x1sf,x1sj,rd,List.head?_cons,x19t,x1ke]
   unfold rayR
   by_cases c2:decide (p.y<(gP l k).y)=decide (p.y<(gP l ((k+1) % l.length)).y)
   .have e3:(decide (p.y<(gP l k).y) != decide (p.y<(gP l ((k+1) % l.length)).y))=false:=by rw[c2];simp
    have e4:¬(decide ((gP l k).y > p.y)≠decide ((gP l ((k+1) % l.length)).y > p.y)):=λhn=>hn c2
    rw[e3]
    rw[x1up e4]
    simp only[x192,x19q,sW_t,x199,x182,x18z,cAp,tR,mkM,hMn,x1tz,x1sw,x1sp]
    simp
    exact next t _
   .have e3:(decide (p.y<(gP l k).y) != decide (p.y<(gP l ((k+1) % l.length)).y))=true:=by simpa using c2
    have e4:(decide ((gP l k).y > p.y)≠decide ((gP l ((k+1) % l.length)).y > p.y)):=c2
    rw[e3,x1tg e4]
    simp only[x192,x19q,sW_t,x18m,x182,x183 g7,x183 g8,x183 g3,x18g,x1sf,x1sj,rd,x1so,x1sx,x1t7,x1t8,x1t2,x1sg,x1sn,eCr,x19t,x1sw,x1sp,List.head?_cons,eql_bool,x18z,x1t4]
    have e5:(decide (0<crP (gP l k) (gP l ((k+1) % l.length)) p) == decide ((gP l k).y<(gP l ((k+1) % l.length)).y))=decide (decide (crP (gP l k) (gP l ((k+1) % l.length)) p > 0)=decide ((gP l ((k+1) % l.length)).y > (gP l k).y)):=by
     rw[x1vd];simp
    rw[e5]
    cases decide (decide (crP (gP l k) (gP l ((k+1) % l.length)) p > 0)=decide ((gP l ((k+1) % l.length)).y > (gP l k).y))
    .simp[cAp,tR,mkM,hMn]
     exact next t _
    .simp[cAp,tR,mkM,hMn]
     exact next (!t) _
  .simp only[x18a,x1so]
   exact⟨M,rfl⟩
theorem w_rInside(d:Nat){a:AV}{l:List Pl}(h:Sl Pl.c a l)(hz:x1a1 l=0){p:Pl}(hp:isPl p=true)(m:Mem):x17z (x180 (d+3)) x31 [a,.agg p.c] m=some (B (x1bz l p),m):=by
 obtain⟨h1,h2,h3,-⟩:=x1hl hz
 have hinP:∀q∈l,InP q:=λq hq=>x1ch (x1dv l l 0 h3 q hq)
 refine x195 (by simp[h.still,Pl.c]) ?_ m
 rw[x10b]
 unfold xbz x9w xec
 have ho:p.c.all AV.one=true:=rfl
 simp only[mem0,x19f,x19n,ho,x18m]
 obtain⟨m',r⟩:=l_rins d [] h (by omega) hinP (x1ch hp) (id3:=(0,0,3)) ⟨rfl,rfl⟩ l.length 0 NN false ((⟨[],1⟩:Mem).new (0,0,3) (.row p.c 0 false)) (0+3+1) (by omega) (by rw[x197];omega) rfl (Mem.get_new_same _ _ _)
 rw[show I ((0:Nat):Int)=I 0 from rfl]at r
 rw[r]
 have e:insR p false ((List.range' 0 l.length).map (sdAt l))=x1bz l p:=by
  unfold x1bz
  rw[ins_eq]
  unfold x19l
  rw[List.range_eq_range']
 rw[e]
 exact RetF.st rfl rfl
end Go.Ix
