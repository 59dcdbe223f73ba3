import Derived.Test.YtpeakdjfagbpcaaGreatW7Name
import Derived.Test.YtpeakdjfagbpcaaGreatFxSound
set_option linter.unusedSimpArgs false
namespace Go.Ix
open Go.Proofs
theorem x28l{i j:Id}{cs:List AV}{v:Nat}:∀{h:Hp} {b:Bool},hget h i=some (.row cs v b)->∃b',hget (shut1 h j) i=some (.row cs v b'):=by
 intro h b hi
 have:=congrFun (x24m [j] h) i
 rw[show x206 [j] h=shut1 h j from rfl]at this
 rw[this]
 unfold shut
 split
 .rw[hi];exact⟨_,rfl⟩
 .exact⟨b,hi⟩
theorem x26t{i:Id}{cs:List AV}{v:Nat}:∀(ids:List Id) {h:Hp} {b:Bool},hget h i=some (.row cs v b)->∃b',hget (x206 ids h) i=some (.row cs v b')
 |[],h,b,hi=>⟨b,hi⟩
 |j::r,h,b,hi=>by
  obtain⟨b',h'⟩:=x28l (j:=j) hi
  exact x26t r h'
theorem x28m{call:x1wy}{f:FuncId}{l l':List AV}{m m':Mem}{r r':AV}(hl:l.mapM (Go.Ix.frz m.get deep)=some l')(h:call [] f l' mem0=some (r,m'))(hr:Go.Ix.frz m'.get deep r=some r') :
 ∃m2:Mem,x1x1 call f l m=some (r',m2)/\m2.next=m.next/\∀i cs v b,m.get i=some (.row cs v b)->∃b',m2.get i=some (.row cs v b'):=by
 refine⟨⟨x206 (l.flatMap (x1x6 m.get deep)) m.hp,m.next⟩,?_,rfl,fun i cs v b hi=>x26t _ hi⟩
 unfold x1x1
 rw[hl]
 simp only[h,hr]
 rfl
structure Scene where
 nm:ByteArray
 day:Int
 bl:Int
def Scene.c(s:Scene):List AV:=[T s.nm,I s.day,I s.bl]
theorem Scene.len(s:Scene):s.c.length=3:=rfl
theorem x1y7:Tryz.prog.underlying x2=some (.slice x3s):=by kernel_rfl
theorem x28n:∃i,Tryz.prog.info? x3s=some i/\i.size=3:=by
 have:(Tryz.prog.info? x3s).map (·.size)=some 3:=by kernel_rfl
 rw[Option.map_eq_some_iff]at this
 exact this
theorem z_scene:xl=[T ⟨#[]⟩,I 0,I 0]:=by kernel_rfl
@[simp] theorem cells_T(s:ByteArray):(T s).cells=[T s]:=rfl
@[simp] theorem one_T(s:ByteArray):(T s).one=true:=rfl
theorem x28o{a:AV}{l:List Scene}(h:Sl Scene.c a l){k:Nat}(hk:k<=l.length)(h0:l≠[]):∃a',Sl Scene.c a' (l.take k)/\x204 Tryz.prog x2 a none (some (I k))=some a':=by
 rcases h with ⟨_,rfl⟩|⟨x,rfl⟩
 .exact absurd rfl h0
 obtain⟨i,hi,hs⟩:=x28n
 have hl:=x1zc Scene.len l
 refine⟨.slit ((l.take k).flatMap Scene.c) (l.take k).length (x&&decide ((k:Int)=(l.length:Int))),Sl.lit _ _,?_⟩
 have e1:x1xh (.slit (l.flatMap Scene.c) l.length x)=none:=_root_.id rfl
 have e2:asI (I (k:Int))=some (k:Int):=rfl
 have e3:asI (I 0)=some 0:=rfl
 unfold x204
 simp only[e1,x1y7,hi,Option.getD_some,Option.getD_none,e2,e3,hs,Int.sub_zero,Int.toNat_natCast,Int.toNat_zero,Nat.zero_mul,List.drop_zero]
 rw[if_pos ⟨by omega,by omega,by omega,by omega⟩,List.length_take,Nat.min_eq_left hk]
 have ht:∀(l:List Scene) (k:Nat),(l.flatMap Scene.c).take (k*3)=(l.take k).flatMap Scene.c:=by
  intro l
  induction l with
  |nil=>intro k;simp
  |cons x r ih=>
   intro k
   cases k with
   |zero=>simp
   |succ k=>
    rw[List.flatMap_cons,List.take_succ_cons,List.flatMap_cons,Nat.succ_mul,show k*3+3=x.c.length+k*3 by rw[Scene.len];omega,List.take_length_add_append,ih]
 rw[ht]
def x20p(nm:ByteArray):Int->List Scene->Int
 |_,[]=>-1
 |k,x::r=>bif teq x.nm nm then k else x20p nm (k+1) r
theorem x26u(nm:ByteArray):∀(l:List Scene) (k:Int),0<=k->decide (0<=x20p nm k l)=l.any fun y=>teq y.nm nm
 |[],k,_=>by simp[x20p]
 |x::r,k,hk=>by
  rw[x20p,List.any_cons]
  cases teq x.nm nm with
  |true=>simp[hk]
  |false=>simpa using x26u nm r (k+1) (by omega)
theorem x28p(d:Nat)(hs:FHs)(x y:Scene)(m:Mem):∃m',x1x3 (d+1) hs xk [.agg x.c,.plit y.c] m=some (B (teq x.nm y.nm),m'):=by
 rw[x12y]
 unfold xbz xdj
 simp[Scene.c,t_eq]
theorem x28q(d:Nat)(hs:FHs){a:AV}{l:List Scene}{y:Scene}(h:Sl Scene.c a l)(hl:l.length<1000000)(u:Nat):∀(suf:List Scene) (k j:Nat) (m:Mem) (fc:Nat),l.drop k=suf->suf.length<j ->
 ∃m',x2l (x1x3 (d+1)) hs u j a (.clo xk [.plit y.c]) (I l.length) (I k) m fc=some (I (x20p y.nm k suf),m'):=by
 intro suf
 induction suf with
 |nil=>
  intro k j m fc hd hj
  obtain⟨j,rfl⟩:∃i,j=i+1:=⟨j-1,by simp at hj;omega⟩
  have hk:¬((k:Int)<(l.length:Int)):=by have:=List.drop_eq_nil_iff.mp hd;omega
  simp only[x2l]
  unfold xal
  simp[hk,x2k,x20p]
 |cons e r ih=>
  intro k j m fc hd hj
  obtain⟨j,rfl⟩:∃i,j=i+1:=⟨j-1,by simp at hj;omega⟩
  obtain⟨hk,he,hd⟩:=x215 hd
  have hk':(k:Int)<(l.length:Int):=by omega
  have ix:=h.ix Scene.len hk
  have ld:=x1zo (m:=m) Scene.len (by omega) hk
  rw[he]at ld
  obtain⟨m1,hc⟩:=x28p d hs e y m
  have hinv:x1xy (x1x3 (d+1)) hs 2 (.clo xk [.plit y.c]) [.agg e.c] m=some (B (teq e.nm y.nm),m1):=hc
  simp only[x2l]
  unfold xal
  simp only[x209,hk',decide_true,x20n,x1xz,ix,ld,hinv,x20p]
  cases ht:teq e.nm y.nm with
  |true=>simp
  |false=>
   obtain⟨m',h'⟩:=ih (k+1) j m1 (fc+11) hd (by simp at hj;omega)
   simp(disch:=omega) [x1y5]
   exact⟨m',by simpa using h'⟩
theorem x28r(d:Nat){a:AV}{l:List Scene}{y:Scene}(h:Sl Scene.c a l)(hl:l.length<1000000) :
 ∃m',x1x3 (d+3) [] x44 [a,.clo xk [.plit y.c]] mem0=some (B (l.any fun x=>teq x.nm y.nm),m'):=by
 obtain⟨m',h'⟩:=x28q d [] (y:=y) h hl 0 l 0 NN ⟨[],1⟩ 4 rfl (by rw[x1z3];omega)
 have hi:x1x3 (d+2) [] x47 [a,.clo xk [.plit y.c]] mem0=some (I (x20p y.nm 0 l),m'):=by
  rw[x130]
  unfold xc1 xdu xam
  simp[h.len x1y7,mem0]
  exact h'
 have hc:=fun m:Mem=>call0 (m:=m) (call:=x1x3 (d+2)) (l:=[a,.clo xk [.plit y.c]]) (by simp only[List.all_cons,List.all_nil,h.still,Bool.true_and,Bool.and_true];rfl) hi rfl
 rw[x12x]
 unfold xby xdi
 simp[hc,mem0,<-x26u y.nm l 0 (by omega)]
def x1yd(l:List Scene):Nat->List Scene->Int×Int
 |_,[]=>(0,0)
 |k,x::r=>
  bif !(nmOK x.nm)then((k:Int),4)
  else bif(l.take k).any (fun y=>teq y.nm x.nm)then((k:Int),5)
  else bif !(wi x.day 0 100000)||!(wi x.bl (-100000) 100000)then((k:Int),2)
  else x1yd l (k+1) r
def x1y8(l:List Scene):Int×Int:=bif decide (60<l.length)then(0,8)else x1yd l 0 l
theorem x28s(d:Nat)(u:Nat){a:AV}{l:List Scene}(h:Sl Scene.c a l)(hl:l.length<=60):∀(suf:List Scene) (k j:Nat) (m:Mem) (fc:Nat),l.drop k=suf->suf.length<j ->
 ∃m',x21 (x1x3 (d+3)) [] u j a a (I l.length) (I k) m fc=some (.tup [I (x1yd l k suf).1,I (x1yd l k suf).2],m'):=by
 intro suf
 induction suf with
 |nil=>
  intro k j m fc hd hj
  obtain⟨j,rfl⟩:∃i,j=i+1:=⟨j-1,by simp at hj;omega⟩
  have hk:¬((k:Int)<(l.length:Int)):=by have:=List.drop_eq_nil_iff.mp hd;omega
  simp only[x21]
  unfold xa2
  simp[hk,x2g,x1yd]
 |cons e r ih=>
  intro k j m fc hd hj
  obtain⟨j,rfl⟩:∃i,j=i+1:=⟨j-1,by simp at hj;omega⟩
  obtain⟨hk,he,hd⟩:=x215 hd
  have hk':(k:Int)<(l.length:Int):=by omega
  have ix:=h.ix Scene.len hk
  have ld:=x1zo (m:=m) Scene.len (by omega) hk
  rw[he]at ld
  obtain⟨a',hpre,hsl⟩:=x28o h (k:=k) (by omega) (by rintro rfl;simp at hk)
  have next:∀m fc,∃m',x21 (x1x3 (d+3)) [] u j a a (I l.length) (I ((k:Int)+1)) m fc=some (.tup [I (x1yd l (k+1) r).1,I (x1yd l (k+1) r).2],m'):=fun m fc=>ih (k+1) j m fc hd (by simp at hj;omega)
  simp only[x21]
  unfold xa2
  simp only[x209,hk',decide_true,x20n,x1xz,ix,ld,x24w,z_scene,x1yd]
  simp[Scene.c,w_isName]
  cases hn:nmOK e.nm with
  |false=>simp
  |true=>
   simp[hsl]
   generalize hm1:Mem.set _ _ _=m1
   have hg:m1.get (u,fc+4,5)=some (.row e.c 0 false):=by rw[<-hm1];simp[Scene.c]
   obtain⟨mc,hcc⟩:=x28r d (y:=e) hpre (by rw[List.length_take];omega)
   have hfr:[a',AV.clo xk [.ptr (u,fc+4,5) 0 0]].mapM (Go.Ix.frz m1.get deep)=some [a',.clo xk [.plit e.c]]:=by
    have h1:Go.Ix.frz m1.get deep a'=some a':=x221 _ 4 hpre.still
    have h3:e.c.mapM (Go.Ix.frz m1.get 4)=some e.c:=x20o fun b hb=>x22s _ 3 (by
     simp[Scene.c]at hb;rcases hb with rfl|rfl|rfl<;>rfl)
    have h4:Go.Ix.frz m1.get 5 (.ptr (u,fc+4,5) 0 0)=some (.plit e.c):=by
     simp only[Go.Ix.frz,hg,if_true,List.drop_zero,h3];rfl
    have h2:Go.Ix.frz m1.get deep (.clo xk [.ptr (u,fc+4,5) 0 0])=some (.clo xk [.plit e.c]):=by
     show([AV.ptr (u,fc+4,5) 0 0].mapM (Go.Ix.frz m1.get 5)).map (AV.clo xk)=_
     simp only[List.mapM_cons,List.mapM_nil,h4];rfl
    simp only[List.mapM_cons,List.mapM_nil,h1,h2];rfl
   obtain⟨m2,hs2,_,hrow⟩:=x28m hfr hcc rfl
   obtain⟨b',hg2⟩:=hrow _ _ _ _ hg
   simp only[hs2,x1xz]
   cases hany:(l.take k).any fun x=>teq x.nm e.nm with
   |true=>simp
   |false=>
    simp[hg2,Scene.c,x22w]
    cases hw:wi e.day 0 100000 with
    |false=>simp
    |true=>
     simp(disch:=omega) [hg2,Scene.c,w_small7]
     cases hw2:wi e.bl (-100000) 100000 with
     |false=>simp
     |true=>
      obtain⟨m',h'⟩:=next m2 (fc+31)
      simp
      exact⟨m',h'⟩
theorem x28t(d:Nat){a:AV}{l:List Scene}(h:Sl Scene.c a l)(m:Mem):x1x1 (x1x3 (d+4)) x2a [a] m=some (.tup [I (x1y8 l).1,I (x1y8 l).2],m):=by
 obtain⟨m',h'⟩:∃m',x1x3 (d+4) [] x2a [a] mem0=some (.tup [I (x1y8 l).1,I (x1y8 l).2],m'):=by
  rw[x12p]
  unfold xbq xcz xa3 x1y8
  by_cases hl:60<l.length
  .simp[h.len x1y7,hl,show(60:Int)<l.length by omega]
  .obtain⟨m',h'⟩:=x28s d 0 h (by omega) l 0 NN ⟨[],1⟩ 8 rfl (by rw[x1z3];omega)
   simp[h.len x1y7,hl,show ¬((60:Int)<l.length) by omega,mem0]
   exact⟨m',h'⟩
 exact call0_tup (by simp[h.still]) h' rfl
theorem ld_nm{m:Mem}{l:List Scene}{k:Nat}(hk:k<l.length):sLd false 1 (.plit ((l.drop k).flatMap Scene.c)) m=some (T l[k].nm):=by
 rw[x1z2 hk,List.flatMap_cons]
 rfl
theorem x28u(call:x1wy)(hs:FHs)(u:Nat){a:AV}{l:List Scene}(h:Sl Scene.c a l)(hl:l.length<=60){n:Nat}(hn:n<l.length){e:Scene}(id:Id)(rec0:AV->AV->Mem->Nat->O2)(m:Mem)(hg:m.get id=some (.row e.c 0 false)):∀(suf:List Scene) (k j:Nat) (fc:Nat),(l.take n).drop k=suf->suf.length<j ->
 ∃fc',x2c call hs u rec0 j a (I n) (.ptr id 0 0) (I k) m fc=(bif suf.any (fun y=>teq y.nm e.nm)then some (.tup [I n,I 5],m)else x1w call hs u rec0 a (I n) (.ptr id 0 0) m fc'):=by
 intro suf
 induction suf with
 |nil=>
  intro k j fc hd hj
  obtain⟨j,rfl⟩:∃i,j=i+1:=⟨j-1,by simp at hj;omega⟩
  have hk:¬((k:Int)<(n:Int)):=by have:=List.drop_eq_nil_iff.mp hd;rw[List.length_take]at this;omega
  simp only[x2c]
  unfold x9o
  simp[hk]
  exact⟨_,rfl⟩
 |cons x r ih=>
  intro k j fc hd hj
  obtain⟨j,rfl⟩:∃i,j=i+1:=⟨j-1,by simp at hj;omega⟩
  obtain⟨hk,he,hd⟩:=x215 hd
  rw[List.length_take]at hk
  have hk':(k:Int)<(n:Int):=by omega
  have hk2:k<l.length:=by omega
  rw[List.getElem_take]at he
  have ix:=h.ix Scene.len hk2
  have ld:=ld_nm (m:=m) hk2
  rw[he]at ld
  simp only[x2c]
  unfold x9o
  simp only[x209,hk',decide_true,x20n,x1xz,ix,sFA_plit,List.drop_zero,ld,List.any_cons]
  simp[hg,Scene.c,t_eq]
  cases ht:teq x.nm e.nm with
  |true=>simp
  |false=>
   obtain⟨fc',h'⟩:=ih (k+1) j (fc+14) hd (by simp at hj;omega)
   simp(disch:=omega) [x1y5]
   exact⟨fc',by simpa using h'⟩
theorem x28v(d:Nat)(u:Nat){a:AV}{l:List Scene}(h:Sl Scene.c a l)(hl:l.length<=60):∀(suf:List Scene) (k j:Nat) (m:Mem) (fc:Nat),l.drop k=suf->suf.length<j ->
 ∃m',x1c (x1x3 (d+1)) [] u j a (I k) m fc=some (.tup [I (x1yd l k suf).1,I (x1yd l k suf).2],m'):=by
 intro suf
 induction suf with
 |nil=>
  intro k j m fc hd hj
  obtain⟨j,rfl⟩:∃i,j=i+1:=⟨j-1,by simp at hj;omega⟩
  have hk:¬((k:Int)<(l.length:Int)):=by have:=List.drop_eq_nil_iff.mp hd;omega
  simp only[x1c]
  unfold x9q
  simp[h.len x1y7,hk,xb,x1yd]
 |cons e r ih=>
  intro k j m fc hd hj
  obtain⟨j,rfl⟩:∃i,j=i+1:=⟨j-1,by simp at hj;omega⟩
  obtain⟨hk,he,hd⟩:=x215 hd
  have hk':(k:Int)<(l.length:Int):=by omega
  have ix:=h.ix Scene.len hk
  have ld:=x1zo (m:=m) Scene.len (by omega) hk
  rw[he]at ld
  have next:∀m fc,∃m',x1c (x1x3 (d+1)) [] u j a (I ((k:Int)+1)) m fc=some (.tup [I (x1yd l (k+1) r).1,I (x1yd l (k+1) r).2],m'):=fun m fc=>ih (k+1) j m fc hd (by simp at hj;omega)
  simp only[x1c]
  unfold x9q x5q
  simp only[h.len x1y7,x209,hk',decide_true,x20n,x1xz,ix,ld,x24w,z_scene,x1yd]
  simp[Scene.c,w_IsName]
  cases hn:nmOK e.nm with
  |false=>simp
  |true=>
   simp
   generalize hm1:Mem.set _ _ _=m1
   have hg:m1.get (u,fc+4+4,5)=some (.row e.c 0 false):=by rw[<-hm1];simp[Scene.c]
   unfold x9p
   obtain⟨fc',hL⟩:=x28u (x1x3 (d+1)) [] u h hl hk (u,fc+4+4,5) (x1c (x1x3 (d+1)) [] u j) m1 hg (l.take k) 0 NN (fc+4+10+1) rfl (by rw[x1z3,List.length_take];omega)
   rw[show(I ((0:Nat):Int))=I 0 from rfl]at hL
   rw[hL]
   cases hany:(l.take k).any fun x=>teq x.nm e.nm with
   |true=>simp
   |false=>
    unfold x1w xv
    simp[hg,Scene.c,x22v]
    cases hw:wi e.day 0 100000 with
    |false=>simp
    |true=>
     simp(disch:=omega) [hg,Scene.c,x22v]
     cases hw2:wi e.bl (-100000) 100000 with
     |false=>simp
     |true=>
      simp
      exact next _ _
theorem x28w(d:Nat){a:AV}{l:List Scene}(h:Sl Scene.c a l)(m:Mem):x1x1 (x1x3 (d+2)) x28 [a] m=some (.tup [I (x1y8 l).1,I (x1y8 l).2],m):=by
 obtain⟨m',h'⟩:∃m',x1x3 (d+2) [] x28 [a] mem0=some (.tup [I (x1y8 l).1,I (x1y8 l).2],m'):=by
  rw[x12h]
  unfold xbf xcd x9r x1y8
  by_cases hl:60<l.length
  .simp[h.len x1y7,hl,show(60:Int)<l.length by omega]
  .obtain⟨m',h'⟩:=x28v d 0 h (by omega) l 0 NN ⟨[],1⟩ 6 rfl (by rw[x1z3];omega)
   simp[h.len x1y7,hl,show ¬((60:Int)<l.length) by omega,mem0]
   exact⟨m',h'⟩
 exact call0_tup (by simp[h.still]) h' rfl
end Go.Ix
