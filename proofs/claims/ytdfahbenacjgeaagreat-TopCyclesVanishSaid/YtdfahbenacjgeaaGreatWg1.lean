import Derived.Test.YtdfahbenacjgeaaGreatWg0
import Derived.Test.YtdfahbenacjgeaaGreatFxSound
import Derived.Laws.StructEq
import Derived.Test.YtdfahbenacjgeaaGreatRows
import Derived.Test.YtdfahbenacjgeaaGreatFxLaw
set_option linter.unusedSimpArgs false
namespace Go.Ix
open Go.Proofs
theorem x1bh{i j:Id}{cs:List AV}{v:Nat}:∀{h:Hp} {b:Bool},hget h i=some (.row cs v b)->∃b',hget (shut1 h j) i=some (.row cs v b'):=by
 intro h b hi
 have:=congrFun (x11x [j] h) i
 rw[show xw8 [j] h=shut1 h j from rfl]at this
 rw[this]
 unfold shut
 split
 .rw[hi];exact⟨_,rfl⟩
 .exact⟨b,hi⟩
theorem x17n{i:Id}{cs:List AV}{v:Nat}:∀(ids:List Id) {h:Hp} {b:Bool},hget h i=some (.row cs v b)->∃b',hget (xw8 ids h) i=some (.row cs v b')
 |[],h,b,hi=>⟨b,hi⟩
 |j::r,h,b,hi=>by
  obtain⟨b',h'⟩:=x1bh (j:=j) hi
  exact x17n r h'
theorem x17o{call:xsj}{f:FuncId}{l l':List AV}{m m':Mem}{r r':AV}(hl:l.mapM (Go.Ix.frz m.get deep)=some l')(h:call [] f l' mem0=some (r,m'))(hr:Go.Ix.frz m'.get deep r=some r') :
 ∃m2:Mem,xsl call f l m=some (r',m2)/\m2.next=m.next/\∀i cs v b,m.get i=some (.row cs v b)->∃b',m2.get i=some (.row cs v b'):=by
 refine⟨⟨xw8 (l.flatMap (xt3 m.get deep)) m.hp,m.next⟩,?_,rfl,λi cs v b hi=>x17n _ hi⟩
 unfold xsl
 rw[hl]
 simp only[h,hr]
 rfl
structure Scene where
 nm:ByteArray
 day:Int
 bl:Int
def Scene.c(s:Scene):List AV:=[T s.nm,I s.day,I s.bl]
theorem Scene.len(s:Scene):s.c.length=3:=rfl
theorem xtt:Tryz.prog.underlying x5=some (.slice x3z):=by kernel_rfl
theorem x1bi:∃i,Tryz.prog.info? x3z=some i/\i.size=3:=by
 have:(Tryz.prog.info? x3z).map (·.size)=some 3:=by kernel_rfl
 rw[x1gi]at this
 exact this
theorem x125:x1o=[T ⟨#[]⟩,I 0,I 0]:=by kernel_rfl
@[simp] theorem cells_T(s:ByteArray):(T s).cells=[T s]:=rfl
@[simp] theorem one_T(s:ByteArray):(T s).one=true:=rfl
theorem x1bj{a:AV}{l:List Scene}(h:Sl Scene.c a l){k:Nat}(hk:k<=l.length)(h0:l≠[]):∃a',Sl Scene.c a' (l.take k)/\xvk Tryz.prog x5 a none (some (I k))=some a':=by
 rcases h with ⟨_,rfl⟩|⟨x,rfl⟩
 .exact absurd rfl h0
 obtain⟨i,hi,hs⟩:=x1bi
 have hl:=xut Scene.len l
 refine⟨.slit ((l.take k).flatMap Scene.c) (l.take k).length (x&&decide ((k:Int)=(l.length:Int))),Sl.lit _ _,?_⟩
 have e1:xtk (.slit (l.flatMap Scene.c) l.length x)=none:=_root_.id rfl
 have e2:asI (I (k:Int))=some (k:Int):=rfl
 have e3:asI (I 0)=some 0:=rfl
 unfold xvk
 simp only[e1,xtt,hi,Option.getD_some,Option.getD_none,e2,e3,hs,Int.sub_zero,x1gb,Int.toNat_zero,x1in,x1g8]
 rw[x1g7 ⟨by omega,by omega,by omega,by omega⟩,x1ia,x1kk hk]
 have ht:∀(l:List Scene) (k:Nat),(l.flatMap Scene.c).take (k*3)=(l.take k).flatMap Scene.c:=by
  intro l
  induction l with
  |nil=>intro k;simp
  |cons x r ih=>
   intro k
   cases k with
   |zero=>simp
   |succ k=>
    rw[x1gy,x1js,x1gy,x1hb,show k*3+3=x.c.length+k*3 by rw[Scene.len];omega,x1lq,ih]
 rw[ht]
def xya(nm:ByteArray):Int->List Scene->Int
 |_,[]=>-1
 |k,x::r=>bif teq x.nm nm then k else xya nm (k+1) r
theorem x17p(nm:ByteArray):∀(l:List Scene) (k:Int),0<=k->decide (0<=xya nm k l)=l.any λy=>teq y.nm nm
 |[],k,_=>by simp[xya]
 |x::r,k,hk=>by
  rw[xya,x1im]
  cases teq x.nm nm with
  |true=>simp[hk]
  |false=>simpa using x17p nm r (k+1) (by omega)
theorem x1bk(d:Nat)(hs:FHs)(x y:Scene)(m:Mem):∃m',xsi (d+1) hs xc [.agg x.c,.plit y.c] m=some (B (teq x.nm y.nm),m'):=by
 rw[xok]
 unfold xfw xcn
 simp[Scene.c,t_eq]
theorem x1bl(d:Nat)(hs:FHs){a:AV}{l:List Scene}{y:Scene}(h:Sl Scene.c a l)(hl:l.length<1000000)(u:Nat):∀(suf:List Scene) (k j:Nat) (m:Mem) (fc:Nat),l.drop k=suf->suf.length<j ->
 ∃m',x6g (xsi (d+1)) hs u j a (.clo xc [.plit y.c]) (I l.length) (I k) m fc=some (I (xya y.nm k suf),m'):=by
 intro suf
 induction suf with
 |nil=>
  intro k j m fc hd hj
  obtain⟨j,rfl⟩:∃i,j=i+1:=⟨j-1,by simp at hj;omega⟩
  have hk:¬((k:Int)<(l.length:Int)):=by have:=x1ha.mp hd;omega
  simp only[x6g]
  unfold xd4
  simp[hk,xl2,xya]
 |cons e r ih=>
  intro k j m fc hd hj
  obtain⟨j,rfl⟩:∃i,j=i+1:=⟨j-1,by simp at hj;omega⟩
  obtain⟨hk,he,hd⟩:=xul hd
  have hk':(k:Int)<(l.length:Int):=by omega
  have ix:=h.ix Scene.len hk
  have ld:=xtz (m:=m) Scene.len (by omega) hk
  rw[he]at ld
  obtain⟨m1,hc⟩:=x1bk d hs e y m
  have hinv:xu2 (xsi (d+1)) hs 2 (.clo xc [.plit y.c]) [.agg e.c] m=some (B (teq e.nm y.nm),m1):=hc
  simp only[x6g]
  unfold xd4
  simp only[xta,hk',x1gm,xt9,xsn,ix,ld,hinv,xya]
  cases ht:teq e.nm y.nm with
  |true=>simp
  |false=>
   obtain⟨m',h'⟩:=ih (k+1) j m1 (fc+11) hd (by simp at hj;omega)
   simp(disch:=omega) [xso]
   exact⟨m',by simpa using h'⟩
theorem x1bm(d:Nat){a:AV}{l:List Scene}{y:Scene}(h:Sl Scene.c a l)(hl:l.length<1000000) :
 ∃m',xsi (d+3) [] x4t [a,.clo xc [.plit y.c]] mem0=some (B (l.any λx=>teq x.nm y.nm),m'):=by
 obtain⟨m',h'⟩:=x1bl d [] (y:=y) h hl 0 l 0 NN ⟨[],1⟩ 4 rfl (by rw[xsu];omega)
 have hi:xsi (d+2) [] x4y [a,.clo xc [.plit y.c]] mem0=some (I (xya y.nm 0 l),m'):=by
  rw[xou]
  unfold xg3 xd5 xl3
  simp[h.len xtt,mem0]
  exact h'
 have hc:=λm:Mem=>call0 (m:=m) (call:=xsi (d+2)) (l:=[a,.clo xc [.plit y.c]]) (by simp only[x1h4,x1hn,h.still,x1hq,x1if];rfl) hi rfl
 rw[xoj]
 unfold xfv xcm
 simp[hc,mem0,<-x17p y.nm l 0 (by omega)]
def xve(l:List Scene):Nat->List Scene->Int×Int
 |_,[]=>(0,0)
 |k,x::r=>
  bif !(nmOK x.nm)then((k:Int),4)
  else bif(l.take k).any (λy=>teq y.nm x.nm)then((k:Int),5)
  else bif !(wi x.day 0 100000)||!(wi x.bl (-100000) 100000)then((k:Int),2)
  else xve l (k+1) r
def xv2(l:List Scene):Int×Int:=bif decide (60<l.length)then(0,8)else xve l 0 l
theorem x1bn(d:Nat)(u:Nat){a:AV}{l:List Scene}(h:Sl Scene.c a l)(hl:l.length<=60):∀(suf:List Scene) (k j:Nat) (m:Mem) (fc:Nat),l.drop k=suf->suf.length<j ->
 ∃m',x3l (xsi (d+3)) [] u j a a (I l.length) (I k) m fc=some (.tup [I (xve l k suf).1,I (xve l k suf).2],m'):=by
 intro suf
 induction suf with
 |nil=>
  intro k j m fc hd hj
  obtain⟨j,rfl⟩:∃i,j=i+1:=⟨j-1,by simp at hj;omega⟩
  have hk:¬((k:Int)<(l.length:Int)):=by have:=x1ha.mp hd;omega
  simp only[x3l]
  unfold xbf
  simp[hk,xji,xve]
 |cons e r ih=>
  intro k j m fc hd hj
  obtain⟨j,rfl⟩:∃i,j=i+1:=⟨j-1,by simp at hj;omega⟩
  obtain⟨hk,he,hd⟩:=xul hd
  have hk':(k:Int)<(l.length:Int):=by omega
  have ix:=h.ix Scene.len hk
  have ld:=xtz (m:=m) Scene.len (by omega) hk
  rw[he]at ld
  obtain⟨a',hpre,hsl⟩:=x1bj h (k:=k) (by omega) (by rintro rfl;simp at hk)
  have next:∀m fc,∃m',x3l (xsi (d+3)) [] u j a a (I l.length) (I ((k:Int)+1)) m fc=some (.tup [I (xve l (k+1) r).1,I (xve l (k+1) r).2],m'):=λm fc=>ih (k+1) j m fc hd (by simp at hj;omega)
  simp only[x3l]
  unfold xbf
  simp only[xta,hk',x1gm,xt9,xsn,ix,ld,xvs,x125,xve]
  simp[Scene.c,w_isName]
  cases hn:nmOK e.nm with
  |false=>simp
  |true=>
   simp[hsl]
   generalize hm1:Mem.set _ _ _=m1
   have hg:m1.get (u,fc+4,5)=some (.row e.c 0 false):=by rw[<-hm1];simp[Scene.c]
   obtain⟨mc,hcc⟩:=x1bm d (y:=e) hpre (by rw[x1ia];omega)
   have hfr:[a',AV.clo xc [.ptr (u,fc+4,5) 0 0]].mapM (Go.Ix.frz m1.get deep)=some [a',.clo xc [.plit e.c]]:=by
    have h1:Go.Ix.frz m1.get deep a'=some a':=xuh _ 4 hpre.still
    have h3:e.c.mapM (Go.Ix.frz m1.get 4)=some e.c:=xy4 λb hb=>xzt _ 3 (by
     simp[Scene.c]at hb;rcases hb with rfl|rfl|rfl<;>rfl)
    have h4:Go.Ix.frz m1.get 5 (.ptr (u,fc+4,5) 0 0)=some (.plit e.c):=by
     simp only[Go.Ix.frz,hg,x1gp,x1g8,h3];rfl
    have h2:Go.Ix.frz m1.get deep (.clo xc [.ptr (u,fc+4,5) 0 0])=some (.clo xc [.plit e.c]):=by
     show([AV.ptr (u,fc+4,5) 0 0].mapM (Go.Ix.frz m1.get 5)).map (AV.clo xc)=_
     simp only[x1gw,x1hd,h4];rfl
    simp only[x1gw,x1hd,h1,h2];rfl
   obtain⟨m2,hs2,_,hrow⟩:=x17o hfr hcc rfl
   obtain⟨b',hg2⟩:=hrow _ _ _ _ hg
   simp only[hs2,xsn]
   cases hany:(l.take k).any λx=>teq x.nm e.nm with
   |true=>simp
   |false=>
    simp[hg2,Scene.c,xy9]
    cases hw:wi e.day 0 100000 with
    |false=>simp
    |true=>
     simp(disch:=omega) [hg2,Scene.c,x148]
     cases hw2:wi e.bl (-100000) 100000 with
     |false=>simp
     |true=>
      obtain⟨m',h'⟩:=next m2 (fc+31)
      simp
      exact⟨m',h'⟩
theorem x1bo(d:Nat){a:AV}{l:List Scene}(h:Sl Scene.c a l)(m:Mem):xsl (xsi (d+4)) x2y [a] m=some (.tup [I (xv2 l).1,I (xv2 l).2],m):=by
 obtain⟨m',h'⟩:∃m',xsi (d+4) [] x2y [a] mem0=some (.tup [I (xv2 l).1,I (xv2 l).2],m'):=by
  rw[xo2]
  unfold xfi xbg xjj xv2
  by_cases hl:60<l.length
  .simp[h.len xtt,hl,show(60:Int)<l.length by omega]
  .obtain⟨m',h'⟩:=x1bn d 0 h (by omega) l 0 NN ⟨[],1⟩ 8 rfl (by rw[xsu];omega)
   simp[h.len xtt,hl,show ¬((60:Int)<l.length) by omega,mem0]
   exact⟨m',h'⟩
 exact call0_tup (by simp[h.still]) h' rfl
theorem ld_nm{m:Mem}{l:List Scene}{k:Nat}(hk:k<l.length):sLd false 1 (.plit ((l.drop k).flatMap Scene.c)) m=some (T l[k].nm):=by
 rw[xtm hk,x1gy]
 rfl
theorem x1bp(call:xsj)(hs:FHs)(u:Nat){a:AV}{l:List Scene}(h:Sl Scene.c a l)(hl:l.length<=60){n:Nat}(hn:n<l.length){e:Scene}(id:Id)(rec0:AV->AV->Mem->Nat->O2)(m:Mem)(hg:m.get id=some (.row e.c 0 false)):∀(suf:List Scene) (k j:Nat) (fc:Nat),(l.take n).drop k=suf->suf.length<j ->
 ∃fc',x67 call hs u rec0 j a (I n) (.ptr id 0 0) (I k) m fc=(bif suf.any (λy=>teq y.nm e.nm)then some (.tup [I n,I 5],m)else xby call hs u rec0 a (I n) (.ptr id 0 0) m fc'):=by
 intro suf
 induction suf with
 |nil=>
  intro k j fc hd hj
  obtain⟨j,rfl⟩:∃i,j=i+1:=⟨j-1,by simp at hj;omega⟩
  have hk:¬((k:Int)<(n:Int)):=by have:=x1ha.mp hd;rw[x1ia]at this;omega
  simp only[x67]
  unfold xbz
  simp[hk]
  exact⟨_,rfl⟩
 |cons x r ih=>
  intro k j fc hd hj
  obtain⟨j,rfl⟩:∃i,j=i+1:=⟨j-1,by simp at hj;omega⟩
  obtain⟨hk,he,hd⟩:=xul hd
  rw[x1ia]at hk
  have hk':(k:Int)<(n:Int):=by omega
  have hk2:k<l.length:=by omega
  rw[x1jt]at he
  have ix:=h.ix Scene.len hk2
  have ld:=ld_nm (m:=m) hk2
  rw[he]at ld
  simp only[x67]
  unfold xbz
  simp only[xta,hk',x1gm,xt9,xsn,ix,xx1,x1g8,ld,x1im]
  simp[hg,Scene.c,t_eq]
  cases ht:teq x.nm e.nm with
  |true=>simp
  |false=>
   obtain⟨fc',h'⟩:=ih (k+1) j (fc+14) hd (by simp at hj;omega)
   simp(disch:=omega) [xso]
   exact⟨fc',by simpa using h'⟩
theorem x1bq(d:Nat)(u:Nat){a:AV}{l:List Scene}(h:Sl Scene.c a l)(hl:l.length<=60):∀(suf:List Scene) (k j:Nat) (m:Mem) (fc:Nat),l.drop k=suf->suf.length<j ->
 ∃m',x1x (xsi (d+1)) [] u j a (I k) m fc=some (.tup [I (xve l k suf).1,I (xve l k suf).2],m'):=by
 intro suf
 induction suf with
 |nil=>
  intro k j m fc hd hj
  obtain⟨j,rfl⟩:∃i,j=i+1:=⟨j-1,by simp at hj;omega⟩
  have hk:¬((k:Int)<(l.length:Int)):=by have:=x1ha.mp hd;omega
  simp only[x1x]
  unfold xc0
  simp[h.len xtt,hk,xjs,xve]
 |cons e r ih=>
  intro k j m fc hd hj
  obtain⟨j,rfl⟩:∃i,j=i+1:=⟨j-1,by simp at hj;omega⟩
  obtain⟨hk,he,hd⟩:=xul hd
  have hk':(k:Int)<(l.length:Int):=by omega
  have ix:=h.ix Scene.len hk
  have ld:=xtz (m:=m) Scene.len (by omega) hk
  rw[he]at ld
  have next:∀m fc,∃m',x1x (xsi (d+1)) [] u j a (I ((k:Int)+1)) m fc=some (.tup [I (xve l (k+1) r).1,I (xve l (k+1) r).2],m'):=λm fc=>ih (k+1) j m fc hd (by simp at hj;omega)
  simp only[x1x]
  unfold xc0 xjv
  simp only[h.len xtt,xta,hk',x1gm,xt9,xsn,ix,ld,xvs,x125,xve]
  simp[Scene.c,w_IsName]
  cases hn:nmOK e.nm with
  |false=>simp
  |true=>
   simp
   generalize hm1:Mem.set _ _ _=m1
   have hg:m1.get (u,fc+4+4,5)=some (.row e.c 0 false):=by rw[<-hm1];simp[Scene.c]
   unfold xju
   obtain⟨fc',hL⟩:=x1bp (xsi (d+1)) [] u h hl hk (u,fc+4+4,5) (x1x (xsi (d+1)) [] u j) m1 hg (l.take k) 0 NN (fc+4+10+1) rfl (by rw[xsu,x1ia];omega)
   rw[show(I ((0:Nat):Int))=I 0 from rfl]at hL
   rw[hL]
   cases hany:(l.take k).any λx=>teq x.nm e.nm with
   |true=>simp
   |false=>
    unfold xby xjt
    simp[hg,Scene.c,xy5]
    cases hw:wi e.day 0 100000 with
    |false=>simp
    |true=>
     simp(disch:=omega) [hg,Scene.c,xy5]
     cases hw2:wi e.bl (-100000) 100000 with
     |false=>simp
     |true=>
      simp
      exact next _ _
theorem x1br(d:Nat){a:AV}{l:List Scene}(h:Sl Scene.c a l)(m:Mem):xsl (xsi (d+2)) x32 [a] m=some (.tup [I (xv2 l).1,I (xv2 l).2],m):=by
 obtain⟨m',h'⟩:∃m',xsi (d+2) [] x32 [a] mem0=some (.tup [I (xv2 l).1,I (xv2 l).2],m'):=by
  rw[xob]
  unfold xfn xc1 xjw xv2
  by_cases hl:60<l.length
  .simp[h.len xtt,hl,show(60:Int)<l.length by omega]
  .obtain⟨m',h'⟩:=x1bq d 0 h (by omega) l 0 NN ⟨[],1⟩ 6 rfl (by rw[xsu];omega)
   simp[h.len xtt,hl,show ¬((60:Int)<l.length) by omega,mem0]
   exact⟨m',h'⟩
 exact call0_tup (by simp[h.still]) h' rfl
end Go.Ix
set_option linter.unusedVariables false
namespace Go.Ix
open Go.Proofs
variable{P:Program}
theorem xxl{α β:Type}(f:α->Sem β):∀s:Sem α,xsx P (s >>= f)=(xsx P s).bind λa=>xsx P (f a):=by
 intro s
 show xsx P (Sem.bind s f)=_
 induction s with
 |pure a=>rfl
 |program k ih=>exact ih P
 |mark x k ih=>exact ih
 |_=>rfl
theorem x126{α:Type}(a:α):xsx P (pure a:Sem α)=some a:=rfl
theorem x149:xsx P program=some P:=rfl
theorem x17q{t:TypeId}{d:TypeDesc}(h:P.underlying t=some d):xsx P (underlying t)=some d:=by
 simp only[underlying,xxl,x149,xsn,h]
 rfl
theorem x1bs(d:Nat)(t:TypeId)(xs ys:Array Value)(ht:P.underlying t=some (.struct (P.fieldsOf t)))(hp:P.stoodInHeld t=false) :
 xsx P (Op.equalIn (d+1) t (.agg xs) (.agg ys))=xsx P (Op.eqFields d xs ys (P.fieldsOf t).toList):=by
 simp only[Op.equalIn,xxl,x17q ht,xsn,x149,hp,x1h3,x1gu]
 rw[<-Array.forIn_toList]
 generalize (P.fieldsOf t).toList=fs
 clear ht
 induction fs with
 |nil=>simp[Op.eqFields,x126]
 |cons f fs ih=>
  simp only[List.forIn_cons,Op.eqFields,xxl]
  split
  .simp only[xxl]
   generalize xsx P (part f.type xs f.offset)=r1
   cases r1 with
   |none=>rfl
   |some a=>
    generalize hb:xsx P (part f.type ys f.offset)=r2
    cases r2 with
    |none=>simp[hb]
    |some b=>
     simp only[hb,xsn]
     generalize xsx P (Op.equalIn d f.type a b)=r3
     cases r3 with
     |none=>rfl
     |some r=>
      cases r
      .rfl
      .exact ih
  .exact ih
theorem x1bt(d:Nat)(t:TypeId)(k k':IntKind)(a b:Int)(h:P.underlying t=some (.int k')):xsx P (Op.equalIn (d+1) t (.int k a) (.int k b))=some (a == b):=by
 simp[Op.equalIn,xxl,x17q h,x126]
theorem x1bu(op:BinOp)(t:TypeId)(x y:Operand)(xs ys:Array Value)(hm:P.eqGuardType P.depth t=false):xsx P (eqGuard op t x y (.agg xs) (.agg ys))=some ():=by
 cases op<;>simp[eqGuard,xxl,x149,x126,hm]
theorem x1bv{t:TypeId}{x y:Operand}{xs ys:List Value}{r:Bool}(hm:P.eqGuardType P.depth t=false)(hr:xsx P (Op.equalIn 10000 t (.agg xs.toArray) (.agg ys.toArray))=some r) :
 ∀kx ky,scs kx=some xs->scs ky=some ys->sBin P .eql t x y (.agg kx) (.agg ky)=some (B r):=by
 intro kx ky h1 h2
 simp only[sBin,xtk,h1,h2,xxl,x1bu _ _ _ _ _ _ hm,xsn]
 have:xsx P (binOp .eql t (.agg xs.toArray) (.agg ys.toArray))=some (.bool r):=by
  show xsx P (do pure (Value.bool (<-Op.equal t (.agg xs.toArray) (.agg ys.toArray))))=_
  simp only[xxl,Op.equal,Op.maxDepth,hr,xsn,x126]
 rw[this];rfl
theorem und_int:Tryz.prog.underlying xtg=some (.int .i64):=by kernel_rfl
theorem x17r(d:Nat)(xs ys:Array Value)(ga gb:Nat->Int):∀fs:List Field,(∀f∈fs,f.name≠"_"/\f.type=xtg/\xsx Tryz.prog (part xtg xs f.offset)=some (.int .i64 (ga f.offset))/\xsx Tryz.prog (part xtg ys f.offset)=some (.int .i64 (gb f.offset))) ->
 xsx Tryz.prog (Op.eqFields (d+1) xs ys fs)=some (fs.all λf=>ga f.offset == gb f.offset)
 |[],_=>rfl
 |f::fs,h=>by
  obtain⟨h1,h2,h3,h4⟩:=h f (x1gf ..)
  have ih:=x17r d xs ys ga gb fs λg hg=>h g (x1ge _ hg)
  simp only[Op.eqFields,h1,ne_eq,not_false_eq_true,x1gp,h2,xxl,h3,h4,xsn,x1bt _ _ _ _ _ _ und_int,x1h4]
  cases ga f.offset == gb f.offset
  .rfl
  .exact ih
theorem eq_ints{t:TypeId}{offs:List Nat}{xs ys:Array Value}{ga gb:Nat->Int}(hS:Tryz.prog.underlying t=some (.struct (Tryz.prog.fieldsOf t)))(hs:Tryz.prog.stoodInHeld t=false)(hF:((Tryz.prog.fieldsOf t).toList.map λf=>(f.type,f.offset,decide (f.name = "_")))=offs.map λo=>(xtg,o,false))(hp:∀o∈offs,xsx Tryz.prog (part xtg xs o)=some (.int .i64 (ga o))/\xsx Tryz.prog (part xtg ys o)=some (.int .i64 (gb o))) :
 xsx Tryz.prog (Op.equalIn 10000 t (.agg xs) (.agg ys))=some (offs.all λo=>ga o == gb o):=by
 rw[show(10000:Nat)=9998+1+1 from rfl,x1bs _ _ _ _ hS hs]
 generalize (Tryz.prog.fieldsOf t).toList=fs at hF
 rw[x17r 9998 xs ys ga gb fs]
 .have:(fs.map λf=>f.offset)=offs:=by
   have:=congrArg (List.map λx:TypeId×Nat×Bool=>x.2.1) hF
   simpa[List.map_map,Function.comp_def]using this
  rw[<-this,List.all_map]
  rfl
 .intro f hf
  have h1:(f.type,f.offset,decide (f.name = "_"))∈offs.map λo=>(xtg,o,false):=by
   rw[<-hF];exact x1kh hf
  obtain⟨o,ho,e⟩:=x1gs.mp h1
  simp only[x1g9]at e
  obtain⟨e1,e2,e3⟩:=e
  subst e2
  exact⟨of_decide_eq_false e3.symm,e1.symm,hp _ ho⟩
structure Pq where
 a:Int
 b:Int
def Pq.c(p:Pq):List AV:=[I p.a,I p.b]
theorem Pq.len(p:Pq):p.c.length=2:=rfl
theorem Pq.still(p:Pq):p.c.all still1=true:=rfl
theorem xu7:Tryz.prog.underlying x6=some (.slice x7):=by kernel_rfl
theorem xv3:xa=[I 0,I 0]:=by kernel_rfl
def Pq.same(p q:Pq):Bool:=decide (p.a=q.a)&&decide (p.b=q.b)
theorem Pq.same_iff{a b:Pq}:a.same b=true↔a=b:=by
 cases a;cases b
 simp[Pq.same]
theorem Pq.same_self(a:Pq):a.same a=true:=Pq.same_iff.2 rfl
theorem part27(w0 w1:Int):∀o∈[0,1],xsx Tryz.prog (part xtg #[.int .i64 w0,.int .i64 w1] o)=some (.int .i64 ([w0,w1].getD o 0)):=by
 intro o ho
 simp only[x1gn,x1ju,or_false]at ho
 rcases ho with rfl|rfl<;>kernel_rfl
theorem x17s(p q:Pq):xsx Tryz.prog (Op.equalIn 10000 x7 (.agg [.int .i64 p.a,.int .i64 p.b].toArray) (.agg [.int .i64 q.a,.int .i64 q.b].toArray))=some (p.same q):=by
 refine(eq_ints (offs:=[0,1]) (ga:=λo=>[p.a,p.b].getD o 0) (gb:=λo=>[q.a,q.b].getD o 0) (by kernel_rfl) (by kernel_rfl) (by kernel_rfl) λo ho=>⟨part27 _ _ o ho,part27 _ _ o ho⟩).trans ?_
 simp[Pq.same,List.getD]
 by_cases h0:p.a=q.a<;>by_cases h1:p.b=q.b<;>simp[h0,h1]
theorem eq_pair7(x y:Operand)(p q:Pq):sBin Tryz.prog .eql x7 x y (.agg p.c) (.agg q.c)=some (B (p.same q)):=
 x1bv (xs:=[.int .i64 p.a,.int .i64 p.b]) (ys:=[.int .i64 q.a,.int .i64 q.b]) (by kernel_rfl) (x17s p q) _ _ rfl rfl
def InB(l:List Scene):Prop:=∀s∈l,(0<=s.day/\s.day<=100000)/\(-100000<=s.bl/\s.bl<=100000)
theorem x17t{l:List Scene}:∀(suf:List Scene) (k:Nat),(xve l k suf).2=0->InB suf
 |[],_,_=>λs h=>by cases h
 |x::r,k,h=>by
  simp only[xve]at h
  cases hn:nmOK x.nm with
  |false=>simp[hn]at h
  |true=>
   cases ha:(l.take k).any λy=>teq y.nm x.nm with
   |true=>simp[hn,ha]at h
   |false=>
    cases hw:wi x.day 0 100000 with
    |false=>simp[hn,ha,hw]at h
    |true=>
     cases hw2:wi x.bl (-100000) 100000 with
     |false=>simp[hn,ha,hw,hw2]at h
     |true=>
      simp[hn,ha,hw,hw2]at h
      have ih:=x17t r (k+1) h
      intro s hs
      rcases x1gn.mp hs with rfl|hs
      .exact⟨wi_t hw,wi_t hw2⟩
      .exact ih s hs
theorem x14a{l:List Scene}(h:(xv2 l).2=0):l.length<=60/\InB l:=by
 unfold xv2 at h
 by_cases hl:60<l.length
 .simp[hl]at h
 .simp[hl]at h
  exact⟨by omega,x17t l 0 h⟩
structure Sp where
 p:Int
 s:Int
def Sp.c(x:Sp):List AV:=[I x.p,I x.s]
theorem Sp.len(x:Sp):x.c.length=2:=rfl
theorem Sp.still(x:Sp):x.c.all still1=true:=rfl
def prAt(P:List Pq)(i:Int):Pq:=P.getD i.toNat ⟨0,0⟩
def frS(P:List Pq)(x:Sp):Int:=if x.s<0 then(prAt P x.p).b else(prAt P x.p).a
def toS(P:List Pq)(x:Sp):Int:=if x.s<0 then(prAt P x.p).a else(prAt P x.p).b
def Wk(P:List Pq):List Sp->Int->Int->Prop
 |[],a,b=>a=b
 |x::r,a,b=>frS P x=a/\Wk P r (toS P x) b
variable{P:List Pq}{F:List Int}
theorem Wk.app:∀{v w:List Sp} {a b c:Int},Wk P v a b->Wk P w b c->Wk P (v++w) a c
 |[],_,_,_,_,h,h2=>by cases h;exact h2
 |x::r,_,_,_,_,h,h2=>⟨h.1,h.2.app h2⟩
theorem Wk.split:∀{v w:List Sp} {a c:Int},Wk P (v++w) a c->∃b,Wk P v a b/\Wk P w b c
 |[],_,a,_,h=>⟨a,rfl,h⟩
 |x::r,_,_,_,h=>by
  obtain⟨b,h1,h2⟩:=Wk.split (v:=r) h.2
  exact⟨b,⟨h.1,h1⟩,h2⟩
def InF(F:List Int)(x:Sp):Prop:=x.p∈F/\(x.s=1\/x.s=-1)
def AllF(F:List Int)(w:List Sp):Prop:=∀x∈w,InF F x
theorem AllF.tail{x:Sp}{r:List Sp}(h:AllF F (x::r)):AllF F r:=λy hy=>h y (x1ge _ hy)
theorem AllF.head{x:Sp}{r:List Sp}(h:AllF F (x::r)):InF F x:=h x (x1gf ..)
theorem AllF.app{v w:List Sp}(h:AllF F v)(h2:AllF F w):AllF F (v++w):=λy hy=>by
 rcases x1h2.mp hy with hy|hy
 .exact h y hy
 .exact h2 y hy
def xyb(x:Sp):Sp:=⟨x.p,-x.s⟩
theorem flip_fr{x:Sp}(h:InF F x):frS P (xyb x)=toS P x:=by
 unfold frS toS xyb
 rcases h.2 with e|e<;>rw[e]<;>simp
theorem flip_to{x:Sp}(h:InF F x):toS P (xyb x)=frS P x:=by
 unfold frS toS xyb
 rcases h.2 with e|e<;>rw[e]<;>simp
theorem flip_in{x:Sp}(h:InF F x):InF F (xyb x):=by
 refine⟨h.1,?_⟩
 unfold xyb
 rcases h.2 with e|e<;>rw[e]<;>simp
theorem Wk.back:∀{w:List Sp} {a b:Int},Wk P w a b->AllF F w->∃v,Wk P v b a/\AllF F v
 |[],_,_,h,_=>⟨[],h.symm,λ_ h=>by cases h⟩
 |x::r,_,_,h,hF=>by
  obtain⟨v,h1,h2⟩:=Wk.back h.2 hF.tail
  refine⟨v++[xyb x],h1.app ⟨flip_fr hF.head,?_⟩,h2.app ?_⟩
  .show toS P (xyb x)=_
   rw[flip_to hF.head];exact h.1
  .intro y hy
   simp at hy
   subst hy
   exact flip_in hF.head
def Cut(P:List Pq)(F:List Int):Prop:=∀i∈F,∃s:Int->Bool,s (prAt P i).a≠s (prAt P i).b/\∀j∈F,j≠i->s (prAt P j).a=s (prAt P j).b
theorem xzx{i:Int}{s:Int->Bool}(h:∀j∈F,j≠i->s (prAt P j).a=s (prAt P j).b):∀{w:List Sp} {a b:Int},Wk P w a b->AllF F w->i∉w.map Sp.p->s a=s b
 |[],_,_,hw,_,_=>by cases hw;rfl
 |x::r,a,b,hw,hF,hi=>by
  simp only[x1gt,x1gn,not_or]at hi
  have h1:=h x.p hF.head.1 (Ne.symm hi.1)
  have h2:=xzx h hw.2 hF.tail hi.2
  rw[<-h2,<-hw.1]
  unfold frS toS
  split<;>simp[h1]
theorem side_ends{i:Int}{s:Int->Bool}(h:s (prAt P i).a≠s (prAt P i).b){x y:Sp}(hx:x.p=i)(hy:y.p=i)(he:s (frS P y)=s (toS P x)):frS P y=toS P x/\toS P y=frS P x:=by
 unfold frS toS at *
 rw[hx,hy]at *
 by_cases c1:x.s<0<;>by_cases c2:y.s<0<;>simp only[c1,c2,x1gp,x1gu]at*<;> first|exact⟨trivial,trivial⟩|exact⟨rfl,rfl⟩|exact absurd he h|exact absurd he (Ne.symm h)
theorem x14b{i:Int}{s:Int->Bool}(h:s (prAt P i).a≠s (prAt P i).b){x:Sp}(hx:x.p=i):s (frS P x)≠s (toS P x):=by
 unfold frS toS
 rw[hx]
 split
 .exact h.symm
 .exact h
theorem x14c(hC:Cut P F){x:Sp}{r:List Sp}{a:Int}(hw:Wk P (x::r) a a)(hF:AllF F (x::r))(hn:x.p∉r.map Sp.p):False:=by
 obtain⟨s,h1,h2⟩:=hC x.p hF.head.1
 have h3:=xzx h2 hw.2 hF.tail hn
 exact x14b h1 rfl (by rw[hw.1,h3])
def NB(P:List Pq):List Sp->Prop
 |[]=>True
 |[_]=>True
 |x::y::r=>toS P y≠frS P x/\NB P (y::r)
theorem NB.tail{x:Sp}{r:List Sp}(h:NB P (x::r)):NB P r:=by
 cases r with
 |nil=>trivial
 |cons y r=>exact h.2
theorem x127(hC:Cut P F):∀{w:List Sp} {a b:Int},Wk P w a b->AllF F w->NB P w->(w.map Sp.p).Nodup
 |[],_,_,_,_,_=>List.nodup_nil
 |x::r,a,b,hw,hF,hn=>by
  have ih:=x127 hC hw.2 hF.tail hn.tail
  rw[x1gt,x1hz]
  refine⟨λhm=>?_,ih⟩
  obtain⟨y,hy,hyp⟩:=x1gs.mp hm
  obtain⟨r1,r2,rfl⟩:=x1l8 hy
  obtain⟨c,w1,w2⟩:=hw.2.split
  obtain⟨s,h1,h2⟩:=hC x.p hF.head.1
  have hi1:x.p∉r1.map Sp.p:=by
   rw[x1hr,x1io]at ih
   intro hmem
   exact ih.2.2 _ hmem y.p (by simp) hyp.symm
  have hF1:AllF F r1:=λz hz=>hF.tail z (x1j1 _ hz)
  have e:=xzx h2 w1 hF1 hi1
  obtain⟨e1,e2⟩:=side_ends h1 (x:=x) (y:=y) rfl hyp (by rw[w2.1,e])
  cases r1 with
  |nil=>exact hn.1 e2
  |cons z r1=>
   refine x14c (r:=r1) (x:=z) (a:=toS P x) hC ?_ hF1 ?_
   .have:c=toS P x:=by rw[<-e1];exact w2.1.symm
    rw[this]at w1
    exact w1
   .rw[x1hr,x1io]at ih
    have:=ih.1
    rw[x1gt,x1hz]at this
    exact this.1
theorem x17u(hC:Cut P F):∀{w v:List Sp} {a b:Int},Wk P w a b->Wk P v a b->AllF F w->AllF F v->(w.map Sp.p).Nodup->(v.map Sp.p).Nodup->w=v
 |[],[],_,_,_,_,_,_,_,_=>rfl
 |[],y::v,_,_,hw,hv,_,hF,_,hn=>by
  cases hw
  rw[x1gt,x1hz]at hn
  exact(x14c hC hv hF hn.1).elim
 |x::r,v,a,b,hw,hv,hF,hG,hn,hm=>by
  rw[x1gt,x1hz]at hn
  obtain⟨s,h1,h2⟩:=hC x.p hF.head.1
  have hr:=xzx h2 hw.2 hF.tail hn.1
  have hab:s a≠s b:=by rw[<-hr,<-hw.1];exact x14b h1 rfl
  have hmem:x.p∈v.map Sp.p:=Classical.byContradiction λhc=>hab (xzx h2 hv hG hc)
  obtain⟨y,hy,hyp⟩:=x1gs.mp hmem
  obtain⟨v1,v2,rfl⟩:=x1l8 hy
  obtain⟨c,w1,w2⟩:=hv.split
  have hm':=hm
  rw[x1hr,x1io]at hm'
  have hi1:x.p∉v1.map Sp.p:=λhmem=>hm'.2.2 _ hmem y.p (by simp) hyp.symm
  have hF1:AllF F v1:=λz hz=>hG z (x1j1 _ hz)
  have e:=xzx h2 w1 hF1 hi1
  have hne:=x14b h1 (x:=x) rfl
  have hfx:frS P y=frS P x/\y.s<0↔frS P y=frS P x/\x.s<0:=by
   constructor
   .rintro⟨q,q2⟩
    refine⟨q,?_⟩
    unfold frS at q
    rw[hyp,x1g7 q2]at q
    by_cases c2:x.s<0
    .exact c2
    .rw[x1g6 c2]at q;exact absurd (by rw[q]) h1
   .rintro⟨q,q2⟩
    refine⟨q,?_⟩
    unfold frS at q
    rw[hyp,x1g7 q2]at q
    by_cases c2:y.s<0
    .exact c2
    .rw[x1g6 c2]at q;exact absurd (by rw[q]) h1
  have hfe:frS P y=frS P x:=by
   have hsy:s (frS P y)=s (frS P x):=by rw[w2.1,hw.1,e]
   unfold frS at hsy hne ⊢
   unfold toS at hne
   rw[hyp]at hsy ⊢
   by_cases c1:x.s<0<;>by_cases c2:y.s<0<;>simp only[c1,c2,x1gp,x1gu]at*<;> first|rfl|exact absurd hsy h1|exact absurd hsy.symm h1
  have hxy:y=x:=by
   have hs:y.s=x.s:=by
    have hy2:=(hG y (x1ld _ (x1gf ..))).2
    have hx2:=hF.head.2
    by_cases c2:y.s<0
    .have:=(hfx.mp ⟨hfe,c2⟩).2;omega
    .have:¬x.s<0:=λq=>c2 (hfx.mpr ⟨hfe,q⟩).2
     omega
   cases x;cases y;simp at hyp hs;rw[hyp,hs]
  subst hxy
  have hca:c=a:=by rw[<-w2.1];exact hw.1
  rw[hca]at w1
  cases v1 with
  |cons z v1=>
   have:=hm'.1
   rw[x1gt,x1hz]at this
   exact(x14c hC w1 hF1 this.1).elim
  |nil=>
   have hm2:=hm'.2.1
   rw[x1gt,x1hz]at hm2
   have:=x17u hC hw.2 w2.2 hF.tail hG.tail hn.2 hm2.2
   rw[this];rfl
theorem x17v(hC:Cut P F){w v:List Sp}{a b:Int}(hw:Wk P w a b)(hv:Wk P v a b)(hF:AllF F w)(hG:AllF F v)(hn:NB P w)(hm:NB P v):w=v:=
 x17u hC hw hv hF hG (x127 hC hw hF hn) (x127 hC hv hG hm)
theorem nb_of:∀{w:List Sp} {a b:Int},Wk P w a b->AllF F w->∃v,Wk P v a b/\AllF F v/\NB P v
 |[],_,_,h,hF=>⟨[],h,hF,trivial⟩
 |x::r,a,b,h,hF=>by
  obtain⟨v,h1,h2,h3⟩:=nb_of h.2 hF.tail
  cases v with
  |nil=>exact⟨[x],⟨h.1,h1⟩,λy hy=>by simp at hy;subst hy;exact hF.head,trivial⟩
  |cons y v=>
   by_cases c:toS P y=frS P x
   .refine⟨v,?_,h2.tail,h3.tail⟩
    have:=h1.2
    rw[c,h.1]at this
    exact this
   .refine⟨x::y::v,⟨h.1,h1⟩,λz hz=>?_,c,h3⟩
    rcases x1gn.mp hz with rfl|hz
    .exact hF.head
    .exact h2 z hz
def xw9(F:List Int):List Sp:=F.flatMap λi=>[⟨i,1⟩,⟨i,-1⟩]
theorem mem_stepsOf{F:List Int}{x:Sp}:x∈xw9 F↔InF F x:=by
 unfold xw9 InF
 rw[x1hj]
 constructor
 .rintro⟨i,hi,hx⟩
  simp only[x1gn,x1ju,or_false]at hx
  rcases hx with rfl|rfl
  .exact⟨hi,Or.inl rfl⟩
  .exact⟨hi,Or.inr rfl⟩
 .rintro⟨h1,h2⟩
  refine⟨x.p,h1,?_⟩
  cases x
  rcases h2 with e|e<;>simp at e<;>subst e<;>simp
def Aw(P:List Pq)(bef:Int):List Sp->Prop
 |[]=>True
 |x::_=>toS P x≠bef
theorem aw_nb{x:Sp}{w:List Sp}(h:Aw P (frS P x) w)(hn:NB P w):NB P (x::w):=by
 cases w with
 |nil=>trivial
 |cons y w=>exact⟨h,hn⟩
theorem nb_aw{x:Sp}{w:List Sp}(h:NB P (x::w)):Aw P (frS P x) w:=by
 cases w with
 |nil=>trivial
 |cons y w=>exact h.1
theorem x14d{l k:List Int}(hn:l.Nodup)(h:∀x∈l,x∈k):l.length<=k.length:=by
 induction l generalizing k with
 |nil=>simp
 |cons x r ih=>
  rw[x1hz]at hn
  have hx:=h x (x1gf ..)
  have:=ih (k:=k.erase x) hn.2 λy hy=>by
   rw[List.mem_erase_of_ne (by rintro rfl;exact hn.1 hy)]
   exact h y (x1ge _ hy)
  rw[List.length_erase_of_mem hx]at this
  have h0:0<k.length:=List.length_pos_of_mem hx
  simp only[x1gq]
  omega
theorem xzy(hC:Cut P F){w:List Sp}{a b:Int}(hw:Wk P w a b)(hF:AllF F w)(hn:NB P w):w.length<=F.length:=by
 have:=x14d (x127 hC hw hF hn) (k:=F) λi hi=>by
  obtain⟨x,hx,rfl⟩:=x1gs.mp hi
  exact(hF x hx).1
 simpa using this
end Go.Ix
set_option maxRecDepth 100000
namespace Go.Proofs.YtdfahbenacjgeaaGreat
open Go.ChangeShapes Go.WideShapes Go.ChangeAt Go.RowKit Go.Ix
theorem Tryz.own:ownKnob Tryz.prog.godebug=none:=by kernel_rfl
theorem Tryz.laidOut:laidOutB Tryz.prog=true:=by kernel_rfl
theorem x110{q:List AV}(h:Sh Tryz.prog xtg q):∃n,q=[I n]:=by
 obtain⟨n,h,-⟩:=Sh.int_inv (t:=xtg) (k:=.i64) (by kernel_rfl) h
 exact⟨n,h⟩
theorem sh_str{q:List AV}(h:Sh Tryz.prog xb q):∃s,q=[T s]:=by
 have ht:Tryz.prog.underlying xb=some .string:=by kernel_rfl
 cases h with
 |string h' s hs=>exact⟨s,rfl⟩
 |int h'=>rw[ht]at h';cases h'
 |nilS h'=>rw[ht]at h';cases h'
 |slice h'=>rw[ht]at h';cases h'
 |bool h'=>rw[ht]at h';cases h'
 |float h'=>rw[ht]at h';cases h'
 |struct h'=>rw[ht]at h';cases h'
 |array h'=>rw[ht]at h';cases h'
theorem sl_sh{α:Type}{enc:α->List AV}{P:Program}{t e:TypeId}{z:AV}(ht:P.underlying t=some (.slice e))(hr:∀r,r.length=P.cellsOf e->Sh P e r->∃x,r=enc x)(f:Sh P t [z]):∃l,Sl enc z l:=by
 rcases Sh.slice_inv ht f with h1|⟨rows,x,h1,h2,h3,h4⟩
 .simp at h1;exact⟨[],Or.inl ⟨h1,rfl⟩⟩
 .obtain⟨l,rfl⟩:=x176 (enc:=enc) λr hm=>hr r (h2 r hm) (h3 r hm)
  simp at h1
  exact⟨l,Or.inr ⟨x,by simpa[List.flatMap]using h1⟩⟩
theorem x128{z:AV}(f:Sh Tryz.prog x4 [z]):∃l,Ints z l:=sl_sh (e:=xtg) (by kernel_rfl) (λ_ _ hr=>x110 hr) f
theorem two_sh{t:TypeId}{fs:Array Field}{r:List AV}(ht:Tryz.prog.underlying t=some (.struct fs))(hf:(fs.toList.map λf=>(f.type,f.offset))=[(xtg,0),(xtg,1)])(hc:Tryz.prog.cellsOf t=2)(h:Sh Tryz.prog t r):∃a b,r=[I a,I b]:=by
 obtain⟨hl,hff⟩:=Sh.struct_inv ht h
 rw[hc]at hl
 have hci:Tryz.prog.cellsOf xtg=1:=by kernel_rfl
 match r,hl with
 |[x,y],_=>
  have:∀p∈fs.toList.map (λf=>(f.type,f.offset)),Sh Tryz.prog p.1 (([x,y].drop p.2).take (Tryz.prog.cellsOf p.1)):=λp hp=>by
   obtain⟨f,hf,rfl⟩:=x1gs.mp hp
   exact hff f hf
  rw[hf]at this
  have a1:=this _ (x1gf ..)
  have a2:=this (xtg,1) (by simp)
  simp only[hci,x1g8,x1js,x1hw,x1gr]at a1 a2
  obtain⟨p,hp⟩:=x110 a1
  obtain⟨q,hq⟩:=x110 a2
  simp at hp hq
  exact⟨p,q,by rw[hp,hq]⟩
theorem xzz{t:TypeId}{l:List (TypeId×Nat)}(h:((Tryz.prog.underlying t).bind λd=>match d with | .struct fs=>some (fs.toList.map λf=>(f.type,f.offset))|_=>none)=some l):∃fs,Tryz.prog.underlying t=some (.struct fs)/\(fs.toList.map λf=>(f.type,f.offset))=l:=by
 cases hu:Tryz.prog.underlying t with
 |none=>rw[hu]at h;cases h
 |some d=>
  rw[hu]at h
  cases d<;>first|exact⟨_,rfl,by simpa using h⟩|cases h
theorem pairs_sh{z:AV}(f:Sh Tryz.prog x6 [z]):∃l,Sl Pq.c z l:=sl_sh (e:=x7) (by kernel_rfl) (λr _ hr=>by
 obtain⟨fs,h1,h2⟩:=xzz (t:=x7) (l:=[(xtg,0),(xtg,1)]) (by kernel_rfl)
 obtain⟨a,b,e⟩:=two_sh h1 h2 (by kernel_rfl) hr
 exact⟨⟨a,b⟩,e⟩) f
theorem steps_sh{z:AV}(f:Sh Tryz.prog xg [z]):∃l,Sl Sp.c z l:=sl_sh (e:=xde) (by kernel_rfl) (λr _ hr=>by
 obtain⟨fs,h1,h2⟩:=xzz (t:=xde) (l:=[(xtg,0),(xtg,1)]) (by kernel_rfl)
 obtain⟨a,b,e⟩:=two_sh h1 h2 (by kernel_rfl) hr
 exact⟨⟨a,b⟩,e⟩) f
theorem scenes_sh{z:AV}(f:Sh Tryz.prog x5 [z]):∃l,Sl Scene.c z l:=sl_sh (e:=x3z) (by kernel_rfl) (λr hl hr=>by
 obtain⟨fs,h1,h2⟩:=xzz (t:=x3z) (l:=[(xb,0),(xtg,1),(xtg,2)]) (by kernel_rfl)
 obtain⟨-,hff⟩:=Sh.struct_inv h1 hr
 have hc:Tryz.prog.cellsOf x3z=3:=by kernel_rfl
 have hci:Tryz.prog.cellsOf xtg=1:=by kernel_rfl
 have hcs:Tryz.prog.cellsOf xb=1:=by kernel_rfl
 rw[hc]at hl
 match r,hl with
 |[x,y,w],_=>
  have:∀p∈fs.toList.map (λf=>(f.type,f.offset)),Sh Tryz.prog p.1 (([x,y,w].drop p.2).take (Tryz.prog.cellsOf p.1)):=λp hp=>by
   obtain⟨f,hf,rfl⟩:=x1gs.mp hp
   exact hff f hf
  rw[h2]at this
  have a0:=this _ (x1gf ..)
  have a1:=this (xtg,1) (by simp)
  have a2:=this (xtg,2) (by simp)
  simp only[hci,hcs,x1g8,x1js,x1hw,x1gr]at a0 a1 a2
  obtain⟨s,hs⟩:=sh_str a0
  obtain⟨p,hp⟩:=x110 a1
  obtain⟨q,hq⟩:=x110 a2
  simp at hs hp hq
  exact⟨⟨s,p,q⟩,by rw[hs,hp,hq];rfl⟩) f
theorem net7_sh{q:List AV}(hq:Sh Tryz.prog x3y q):∃s p l k,q=[s,p]/\Sl Scene.c s l/\Sl Pq.c p k:=by
 obtain⟨fs,h1,h2⟩:=xzz (t:=x3y) (l:=[(x5,0),(x6,1)]) (by kernel_rfl)
 obtain⟨hl,hff⟩:=Sh.struct_inv h1 hq
 have hc:Tryz.prog.cellsOf x3y=2:=by kernel_rfl
 have hc1:Tryz.prog.cellsOf x5=1:=by kernel_rfl
 have hc2:Tryz.prog.cellsOf x6=1:=by kernel_rfl
 rw[hc]at hl
 match q,hl with
 |[x,y],_=>
  have:∀p∈fs.toList.map (λf=>(f.type,f.offset)),Sh Tryz.prog p.1 (([x,y].drop p.2).take (Tryz.prog.cellsOf p.1)):=λp hp=>by
   obtain⟨f,hf,rfl⟩:=x1gs.mp hp
   exact hff f hf
  rw[h2]at this
  have a0:=this _ (x1gf ..)
  have a1:=this (x6,1) (by simp)
  simp only[hc1,hc2,x1g8,x1js,x1hw,x1gr]at a0 a1
  obtain⟨l,hl⟩:=scenes_sh a0
  obtain⟨k,hk⟩:=pairs_sh a1
  exact⟨x,y,l,k,rfl,hl,hk⟩
theorem task7_in{a:AV}(h:ArgSh Tryz.prog x6i a):∃s p ph wt l k f g,a=.agg [s,p,ph,wt]/\Sl Scene.c s l/\Sl Pq.c p k/\Ints ph f/\Ints wt g:=by
 obtain⟨fs,h1,h2⟩:=xzz (t:=x6i) (l:=[(x3y,0),(x4,2),(x4,3)]) (by kernel_rfl)
 obtain⟨q,rfl,hq⟩:=h.struct h1
 obtain⟨hl,hff⟩:=Sh.struct_inv h1 hq
 have hc:Tryz.prog.cellsOf x6i=4:=by kernel_rfl
 have hc1:Tryz.prog.cellsOf x3y=2:=by kernel_rfl
 have hc2:Tryz.prog.cellsOf x4=1:=by kernel_rfl
 rw[hc]at hl
 match q,hl with
 |[x,y,v,w],_=>
  have:∀p∈fs.toList.map (λf=>(f.type,f.offset)),Sh Tryz.prog p.1 (([x,y,v,w].drop p.2).take (Tryz.prog.cellsOf p.1)):=λp hp=>by
   obtain⟨f,hf,rfl⟩:=x1gs.mp hp
   exact hff f hf
  rw[h2]at this
  have a0:=this _ (x1gf ..)
  have a1:=this (x4,2) (by simp)
  have a2:=this (x4,3) (by simp)
  simp only[hc1,hc2,x1g8,x1js,x1hw,x1gr]at a0 a1 a2
  obtain⟨s,p,l,k,e,h3,h4⟩:=net7_sh a0
  obtain⟨f,hf⟩:=x128 a1
  obtain⟨g,hg⟩:=x128 a2
  simp at e
  obtain⟨rfl,rfl⟩:=e
  exact⟨_,_,v,w,l,k,f,g,rfl,h3,h4,hf,hg⟩
end Go.Proofs.YtdfahbenacjgeaaGreat
