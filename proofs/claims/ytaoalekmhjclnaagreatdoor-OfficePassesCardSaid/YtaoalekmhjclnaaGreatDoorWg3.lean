import Derived.Test.YtaoalekmhjclnaaGreatDoorWg1
set_option linter.unusedSimpArgs false
namespace Go.Ix
open Go.Proofs
theorem x1cf(d:Nat)(a b c:Int)(m:Mem):x15e (x15i (d+1)) xc [I a,I b,I c] m=some (B (wi a b c),m):=by
 refine call0 rfl (m':=⟨[],1⟩) ?_ rfl
 rw[xy4]
 unfold x9g x86 wi
 by_cases h:b<=a<;>by_cases h2:a<=c<;>simp[h,h2,mem0]
theorem x18s(d:Nat)(a:Int)(m:Mem):x15e (x15i (d+2)) xm [I a] m=some (B (wi a 0 1000000),m):=by
 refine call0 rfl (m':=⟨[],1⟩) ?_ rfl
 rw[xya]
 unfold x9l x8d
 simp[mem0,x1cf]
theorem x19k(d:Nat)(a:Int)(m:Mem):x15e (x15i (d+2)) x12 [I a] m=some (B (wi a 0 1000000000),m):=by
 refine call0 rfl (m':=⟨[],1⟩) ?_ rfl
 rw[xy9]
 unfold x9k x8c
 simp[mem0,x1cf]
theorem w_ranged(d:Nat)(b:Bool)(m:Mem):x15e (x15i (d+1)) xv [B b] m=some (I (bif b then 0 else 2),m):=by
 refine call0 rfl (m':=⟨[],1⟩) ?_ rfl
 rw[xy6]
 cases b<;>rfl
theorem x1hz(call:x15d)(hs:FHs)(u:Nat){s:ByteArray}{a:AV}(h:Sl u8E a s.data.toList)(hl:s.size<=1000):∀(suf:List UInt8) (k j:Nat) (m:Mem) (fc:Nat),s.data.toList.drop k=suf->suf.length<j ->
 x1x call hs u j (T s) a (I s.data.toList.length) (I k) m fc=some (B (x18d k suf&&(decide (0<s.size)&&decide (s.size<=12))),m):=by
 intro suf
 have hsz:s.data.toList.length=s.size:=rfl
 have e0:teq s ⟨#[]⟩=decide (s.size=0):=by
  unfold teq
  rw[ByteArray.toList_eq,ByteArray.toList_eq]
  cases hs:s.data.toList with
  |nil=>
   have:s.size=0:=by show s.data.size=0;rw[<-x1pc,hs];rfl
   simp[this]
  |cons x r=>
   have:s.size=r.length+1:=by show s.data.size=_;rw[<-x1pc,hs];rfl
   simp[this]
 have tne (x y:Operand) (a b:ByteArray):sBin Tryz.prog .neq x0 x y (T a) (T b)=some (B (!teq a b)):=by kernel_rfl
 induction suf with
 |nil=>
  intro k j m fc hd hj
  obtain⟨j,rfl⟩:∃i,j=i+1:=⟨j-1,by simp at hj;omega⟩
  have hk:¬((k:Int)<(s.data.toList.length:Int)):=by have:=x1oi.mp hd;omega
  simp only[x1x]
  unfold x8p xbt
  simp only[x171,hk,x1oz,x17t,x162,tne,e0]
  by_cases h0:s.size=0
  .simp[h0,x18d]
  .simp[h0,x18d,show 0<s.size by omega]
   try omega
 |cons e r ih=>
  intro k j m fc hd hj
  obtain⟨j,rfl⟩:∃i,j=i+1:=⟨j-1,by simp at hj;omega⟩
  obtain⟨hk,he,hd⟩:=x16s hd
  have hk':(k:Int)<(s.data.toList.length:Int):=by omega
  have ix:=h.ix u8E_len hk
  have ld:=ld_u8 (m:=m) hk
  have next:∀fc,x1x call hs u j (T s) a (I s.size) (I (w64 ((k:Int)+1))) m fc=some (B (x18d (k+1) r&&(decide (0<s.size)&&decide (s.size<=12))),m):=λfc=>by
   rw[x15x (by omega) (by omega)]
   exact ih (k+1) j m fc hd (by simp at hj;omega)
  rw[he]at ld
  have hk0:decide ((k:Int)=0)=!decide (0<k):=by
   by_cases h:0<k<;>simp[h]<;>omega
  simp only[x1x]
  unfold x8p
  simp only[x171,hk',x1p4,x184,x162,ix,ld,u8_ge,u8_le,u8_eq,sW_t,sW_f]
  simp only[x18d,chOK]
  generalize (e.toNat:Int)=c
  have r1:decide (c<48)=!decide (48<=c):=by by_cases h:48<=c<;>simp[h]<;>omega
  have r2:decide (57<c)=!decide (c<=57):=by by_cases h:c<=57<;>simp[h]<;>omega
  by_cases a1:97<=c<;>by_cases a2:c<=122<;>by_cases b1:65<=c<;>by_cases b2:c<=90<;>by_cases d1:48<=c<;>by_cases d2:c<=57<;>by_cases d0:c=45 <;>
   first
   |(exfalso;omega)
   |(by_cases hp:k=0
     .simp[a1,a2,b1,b2,d1,d2,d0,hp,u8_ge,u8_le,u8_eq,u8_ne,u8_lt,u8_gt,r1,r2]
      try (rw[hp]at next;exact next _)
     .simp[a1,a2,b1,b2,d1,d2,d0,hp,show 0<k by omega,u8_ge,u8_le,u8_eq,u8_ne,u8_lt,u8_gt,r1,r2,next])
theorem x1i0(d:Nat)(s:ByteArray)(m:Mem)(hl:s.size<=1000):x15e (x15i (d+1)) x1g [T s] m=some (B (nmOK s),m):=by
 refine call0 rfl (m':=⟨[],1⟩) ?_ rfl
 rw[xyi]
 have hlen:sLen Tryz.prog x9 (.slit (s.data.toList.flatMap u8E) s.data.toList.length false)=some (I s.data.toList.length):=(Sl.lit (enc:=u8E) s.data.toList false).len u_bytes
 have hsz:s.data.toList.length=s.size:=rfl
 have hL:=λfc=>x1hz (x15i d) [] 0 (Sl.lit (enc:=u8E) s.data.toList false) hl s.data.toList 0 NN ⟨[],1⟩ fc rfl (by rw[x16v];omega)
 unfold x9s x8q xbu nmOK
 simp only[cvt_bytes,hlen,x162,mem0]
 have e:∀a b c:Bool,(c&&(a&&b))=(a&&b&&c):=by decide
 rw[<-e]
 exact hL _
def x193(s:ByteArray)(l:List ByteArray):Int:=bif !nmOK s then 4 else bif l.any (λy=>teq y s)then 5 else 0
theorem l_named(call:x15d)(u:Nat){s:ByteArray}{fv:AV}{l:List ByteArray}(hl:l.length<=1000)(hf:∀(k:Nat) (h:k<l.length) (m:Mem),∃m',x16m call [] 2 fv [I k] m=some (T l[k],m')):∀(suf:List ByteArray) (k j:Nat) (m:Mem) (fc:Nat),l.drop k=suf->suf.length<j ->
 ∃m',x2l call [] u j (T s) fv (I l.length) (I k) m fc=some (I (bif suf.any (λy=>teq y s)then 5 else 0),m'):=by
 intro suf
 induction suf with
 |nil=>
  intro k j m fc hd hj
  obtain⟨j,rfl⟩:∃i,j=i+1:=⟨j-1,by simp at hj;omega⟩
  have hk:¬((k:Int)<(l.length:Int)):=by have:=x1oi.mp hd;omega
  simp only[x2l]
  unfold x87 xau
  simp[hk]
 |cons e r ih=>
  intro k j m fc hd hj
  obtain⟨j,rfl⟩:∃i,j=i+1:=⟨j-1,by simp at hj;omega⟩
  obtain⟨hk,he,hd⟩:=x16s hd
  have hk':(k:Int)<(l.length:Int):=by omega
  obtain⟨m1,h1⟩:=hf k hk m
  rw[he]at h1
  simp only[x2l]
  unfold x87
  simp only[x171,hk',x1p4,x184,x162,h1,t_eq]
  cases ht:teq e s with
  |true=>simp[ht]
  |false=>
   obtain⟨m',h'⟩:=ih (k+1) j m1 (fc+10) hd (by simp at hj;omega)
   refine⟨m',?_⟩
   simp only[x17t,sAdd_I,x162]
   rw[x15x (by omega) (by omega)]
   simp only[List.any_cons,ht,Bool.false_or]
   exact h'
theorem a_named(d:Nat){s:ByteArray}{fv:AV}{l:List ByteArray}(hs:s.size<=1000)(hl:l.length<=1000)(hf:∀(k:Nat) (h:k<l.length) (m:Mem),∃m',x16m (x15i (d+1)) [] 2 fv [I k] m=some (T l[k],m')):∃m',x15i (d+2) [] xh [T s,fv,I l.length] mem0=some (I (x193 s l),m'):=by
 rw[xy5]
 unfold x9h x88 x193
 simp only[x1i0 d s _ hs,x162]
 cases hn:nmOK s with
 |false=>simp
 |true=>
  obtain⟨m',h'⟩:=l_named (x15i (d+1)) 0 (s:=s) hl hf l 0 NN ⟨[],1⟩ 6 rfl (by rw[x16v];omega)
  refine⟨m',?_⟩
  simp only[sNot_B,x162,x1pw,x17t,x17n]
  unfold xav
  exact h'
structure Ps where
 nm:ByteArray
 fr:Int
 to:Int
 va:Int
 da:Int
def Ps.c(x:Ps):List AV:=[T x.nm,I x.fr,I x.to,I x.va,I x.da]
theorem Ps.len(x:Ps):x.c.length=5:=rfl
structure Lk where
 at_:Int
 da:Int
def Lk.c(x:Lk):List AV:=[I x.at_,I x.da]
theorem Lk.len(x:Lk):x.c.length=2:=rfl
def lkBad(l:List Lk)(x:Lk):Int:=bif !wi x.at_ 0 1000000000||!wi x.da 0 1000000 then 2
    else bif(match l.getLast? with|some y=>decide (x.at_<=y.at_)|none=>false)then 9 else 0
theorem x16n:Tryz.prog.underlying x8=some (.slice x22):=by kernel_rfl
theorem x194:Tryz.prog.underlying xz=some (.slice x2r):=by kernel_rfl
theorem z_pass:x10=[T ⟨#[]⟩,I 0,I 0,I 0,I 0]:=by kernel_rfl
theorem z_link:x2h=[I 0,I 0]:=by kernel_rfl
def pw2(l:List Ps)(x:Ps):Int:=
 bif !wi x.fr 0 1000000000||!wi x.to 0 1000000000||!wi x.va 0 1000000||!wi x.da 0 1000000 then 2
 else bif decide (x.to<=x.fr)then 26
 else bif(match l.getLast? with|some y=>decide (x.to<y.to)|none=>false)then 9 else 0
def pwErr(l:List Ps)(x:Ps):Int:=bif decide (x193 x.nm (l.map Ps.nm)≠0)then x193 x.nm (l.map Ps.nm)else pw2 l x
def psErr(l:List Ps):Nat->List Ps->Int×Int
 |_,[]=>(0,0)
 |k,x::r=>bif decide (pwErr (l.take k) x≠0)then((k:Int),pwErr (l.take k) x)else psErr l (k+1) r
def x17g(res:Int×Int)(l:List Ps)(k:Nat)(suf:List Ps):Int×Int:=bif decide ((psErr l k suf).2≠0)then psErr l k suf else res
theorem x1ge{res:Int×Int}{l:List Ps}{k:Nat}:x17g res l k []=res:=rfl
theorem x17h{res:Int×Int}{l r:List Ps}{k:Nat}{e:Ps}{z:Int}(h:pwErr (l.take k) e=z)(hz:z≠0):x17g res l k (e::r)=((k:Int),z):=by
 simp[x17g,psErr,h,hz]
theorem x1bg{res:Int×Int}{l r:List Ps}{k:Nat}{e:Ps}(h:pwErr (l.take k) e=0):x17g res l k (e::r)=x17g res l (k+1) r:=by
 simp[x17g,psErr,h]
def lkErr(l:List Lk):Nat->List Lk->Int×Int
 |_,[]=>(0,0)
 |k,x::r=>bif decide (lkBad (l.take k) x≠0)then((k:Int),lkBad (l.take k) x)else lkErr l (k+1) r
def x173(res:Int×Int)(l:List Lk)(k:Nat)(suf:List Lk):Int×Int:=bif decide ((lkErr l k suf).2≠0)then lkErr l k suf else res
theorem x1gf{res:Int×Int}{l:List Lk}{k:Nat}:x173 res l k []=res:=rfl
theorem x1a9{res:Int×Int}{l r:List Lk}{k:Nat}{e:Lk}{z:Int}(h:lkBad (l.take k) e=z)(hz:z≠0):x173 res l k (e::r)=((k:Int),z):=by
 simp[x173,lkErr,h,hz]
theorem x1bh{res:Int×Int}{l r:List Lk}{k:Nat}{e:Lk}(h:lkBad (l.take k) e=0):x173 res l k (e::r)=x173 res l (k+1) r:=by
 simp[x173,lkErr,h]
def planM(ps:List Ps)(ls:List Lk)(gap sto:Int):Int×Int:=
 bif decide (40<ps.length)then(0,8)
 else x17g (bif decide (20<ls.length)then(0,8)else x173 (0,bif wi gap 0 1000000&&wi sto 0 1000000 then 0 else 2) ls 0 ls) ps 0 ps
theorem x1gg{call:x15d}{f:FuncId}{l l':List AV}{m m':Mem}{r:AV}(hl:l.mapM (Go.Ix.frz m.get deep)=some l')(h:call [] f l' mem0=some (r,m'))(hr:x18f r=true):x176 call f l m=some (r,m):=by
 unfold x176
 rw[hl]
 simp only[h,hr,x1ov]
theorem x195{α:Type}{l:List α}{k:Nat}(h:k<l.length):(l.take (k+1)).getLast?=some l[k]:=by
 rw[List.getLast?_eq_getElem?,x1re,Nat.min_eq_left (by omega),x1rc,x1rf (by omega),x1og h]
theorem inv_nm(d:Nat){pa li:AV}{gap sto:Int}{l:List Ps}(h:Sl Ps.c pa l){k:Nat}(hk:k<l.length)(m:Mem) :
 ∃m',x16m (x15i (d+1)) [] 2 (.clo xf [.plit [pa,li,I gap,I sto]]) [I k] m=some (T l[k].nm,m'):=by
 have ix:=h.ix Ps.len hk
 have e:x16m (x15i (d+1)) [] 2 (.clo xf [.plit [pa,li,I gap,I sto]]) [I k] m=x15i (d+1) [] xf [I k,.plit [pa,li,I gap,I sto]] m:=rfl
 rw[e,xy8]
 unfold x9j x8b
 refine⟨⟨m.hp,m.next+1⟩,?_⟩
 have h0:sFA 0 (.plit [pa,li,I gap,I sto])=some (.plit [pa,li,I gap,I sto]):=rfl
 have h1:∀m,sLd false 1 (.plit [pa,li,I gap,I sto]) m=some pa:=λ_=>rfl
 have h2:sFA 0 (.plit ((l.drop k).flatMap Ps.c))=some (.plit ((l.drop k).flatMap Ps.c)):=rfl
 have h3:∀m,sLd false 1 (.plit ((l.drop k).flatMap Ps.c)) m=some (T l[k].nm):=λm=>by
  rw[x16e hk,x1o5];rfl
 simp only[h0,h1,ix,h2,h3,x162]
theorem frz_ptr0{objs:Id->Option Ob}{id:Id}{cs cs':List AV}{fr:Bool}{k:Nat}(h:objs id=some (.row cs 0 fr))(hs:cs.mapM (Go.Ix.frz objs k)=some cs'):Go.Ix.frz objs (k+1) (.ptr id 0 0)=some (.plit cs'):=by
 have e:Go.Ix.frz objs (k+1) (.ptr id 0 0)=((cs.drop 0).mapM (Go.Ix.frz objs k)).map .plit:=by
  simp only[Go.Ix.frz,h,x1ov]
 rw[e,x1oh,hs]
 rfl
theorem c_named(d:Nat){pa li:AV}{gap sto:Int}{l:List Ps}{kl:List Lk}{id:Id}(h:Sl Ps.c pa l)(h2:Sl Lk.c li kl)(hl:l.length<=1000){x:Ps}(hx:x.nm.size<=1000){k:Nat}(hk:k<=l.length){m:Mem}(hp:m.get id=some (.row [pa,li,I gap,I sto] 0 false)):x176 (x15i (d+3)) xh [T x.nm,.clo xf [.ptr id 0 0],I k] m=some (I (x193 x.nm ((l.take k).map Ps.nm)),m):=by
 have hkl:((l.take k).map Ps.nm).length=k:=by simp;omega
 obtain⟨m',h'⟩:=a_named (d+1) (s:=x.nm) (fv:=.clo xf [.plit [pa,li,I gap,I sto]]) (l:=(l.take k).map Ps.nm) hx (by omega) λi hi m=>by
  have hi':i<l.length:=by omega
  obtain⟨m',e⟩:=inv_nm (d+1) (li:=li) (gap:=gap) (sto:=sto) h hi' m
  refine⟨m',?_⟩
  have e2:((l.take k).map Ps.nm)[i]=l[i].nm:=by simp
  rw[e2]
  exact e
 rw[hkl]at h'
 have h3:x15i (d+3) [] xh [T x.nm,.clo xf [.plit [pa,li,I gap,I sto]],I k] mem0=some (I (x193 x.nm ((l.take k).map Ps.nm)),m'):=h'
 clear h'
 refine x1gg ?_ h3 rfl
 have f1:Go.Ix.frz m.get 4 pa=some pa:=x18p _ 2 h.still
 have f2:Go.Ix.frz m.get 4 li=some li:=x18p _ 2 h2.still
 have f3:[pa,li,I gap,I sto].mapM (Go.Ix.frz m.get 4)=some [pa,li,I gap,I sto]:=by
  simp only[x1p8,x1q6,f1,f2];rfl
 have f4:Go.Ix.frz m.get 5 (.ptr id 0 0)=some (.plit [pa,li,I gap,I sto]):=by
  exact frz_ptr0 hp f3
 have f5:Go.Ix.frz m.get deep (.clo xf [.ptr id 0 0])=some (.clo xf [.plit [pa,li,I gap,I sto]]):=by
  show([AV.ptr id 0 0].mapM (Go.Ix.frz m.get 5)).map (AV.clo xf)=_
  simp only[x1p8,x1q6,f4];rfl
 have f6:Go.Ix.frz m.get deep (T x.nm)=some (T x.nm):=x18p _ 4 rfl
 have f7:Go.Ix.frz m.get deep (I k)=some (I k):=x18p _ 4 rfl
 simp only[x1p8,x1q6,f5,f6,f7];rfl
theorem l_pplan(d u:Nat){pa li:AV}{gap sto:Int}{l:List Ps}{kl:List Lk}(h:Sl Ps.c pa l)(h2:Sl Lk.c li kl)(hl:l.length<=40)(hn:∀x∈l,x.nm.size<=1000){res:Int×Int}(hB:∀m fc,m.get (u,0,1)=some (.row [pa,li,I gap,I sto] 0 false)->∃m',x7l (x15i (d+3)) [] u (.ptr (u,0,1) 0 0) m fc=some (.tup [I res.1,I res.2],m')) :
 ∀(suf:List Ps) (k j:Nat) (m:Mem) (fc:Nat),l.drop k=suf->suf.length<j->m.get (u,0,1)=some (.row [pa,li,I gap,I sto] 0 false) ->
 ∃m',x1o (x15i (d+3)) [] u j (.ptr (u,0,1) 0 0) pa (I l.length) (I k) m fc=some (.tup [I (x17g res l k suf).1,I (x17g res l k suf).2],m'):=by
 intro suf
 induction suf with
 |nil=>
  intro k j m fc hd hj hm
  obtain⟨j,rfl⟩:∃i,j=i+1:=⟨j-1,by simp at hj;omega⟩
  have hk:¬((k:Int)<(l.length:Int)):=by have:=x1oi.mp hd;omega
  obtain⟨m',h'⟩:=hB m (fc+1) hm
  refine⟨m',?_⟩
  simp only[x1o]
  unfold x7m
  simp only[x171,hk,x1oz,x17t,x162,h',x1ge]
 |cons e r ih=>
  intro k j m fc hd hj hm
  obtain⟨j,rfl⟩:∃i,j=i+1:=⟨j-1,by simp at hj;omega⟩
  obtain⟨hk,he,hd⟩:=x16s hd
  have hk':(k:Int)<(l.length:Int):=by omega
  have ix:=h.ix Ps.len hk
  have ld:=x1cc (m:=m) Ps.len (by omega) hk
  rw[he]at ld
  have hxn:e.nm.size<=1000:=hn e (he▸x1od hk)
  have next:∀m fc,m.get (u,0,1)=some (.row [pa,li,I gap,I sto] 0 false)->∃m',x1o (x15i (d+3)) [] u j (.ptr (u,0,1) 0 0) pa (I l.length) (I ((k:Int)+1)) m fc=some (.tup [I (x17g res l (k+1) r).1,I (x17g res l (k+1) r).2],m'):=λm fc hm=>ih (k+1) j m fc hd (by simp at hj;omega) hm
  simp only[x1o]
  unfold x7m
  simp only[x171,hk',x1p4,x184,x162,ix,ld,x19j,z_pass]
  simp[Ps.c]
  have hT1:(T e.nm).one=true:=rfl
  simp only[hT1,x16o,x162]
  generalize hm1:Mem.set _ _ _=m1
  have hg:m1.get (u,fc+4,5)=some (.row e.c 0 false):=by rw[<-hm1,Mem.get_set_same];rfl
  have hg0:m1.get (u,0,1)=some (.row [pa,li,I gap,I sto] 0 false):=by
   rw[<-hm1,Mem.get_set_ne (by simp),Mem.get_new_ne (by simp)];exact hm
  have hnm:=c_named d h h2 (by omega) hxn (k:=k) (by omega) hg0
  have hr0:x18q false 1 0 0 (some (Ob.row [T e.nm,I e.fr,I e.to,I e.va,I e.da] 0 false))=some (T e.nm):=rfl
  simp only[hr0,hnm,x162]
  obtain⟨z,hz⟩:∃z,x193 e.nm ((l.take k).map Ps.nm)=z:=⟨_,rfl⟩
  rw[hz]
  by_cases hq:z=0
  .have hp:pwErr (l.take k) e=pw2 (l.take k) e:=by unfold pwErr;rw[hz,hq];rfl
   subst hq
   simp[hg,Ps.c,x19k,x18s]
   cases hw1:wi e.fr 0 1000000000 with
   |false=>
    rw[x17h (z:=2) (by rw[hp];simp[pw2,hw1]) (by decide)]
    simp
   |true=>
   simp[hg,Ps.c,x19k,x18s]
   cases hw2:wi e.to 0 1000000000 with
   |false=>
    rw[x17h (z:=2) (by rw[hp];simp[pw2,hw2]) (by decide)]
    simp
   |true=>
   simp[hg,Ps.c,x19k,x18s]
   cases hw3:wi e.va 0 1000000 with
   |false=>
    rw[x17h (z:=2) (by rw[hp];simp[pw2,hw3]) (by decide)]
    simp
   |true=>
   simp[hg,Ps.c,x19k,x18s]
   cases hw4:wi e.da 0 1000000 with
   |false=>
    rw[x17h (z:=2) (by rw[hp];simp[pw2,hw4]) (by decide)]
    simp
   |true=>
   simp[hg,Ps.c,x19k,x18s]
   by_cases hb:e.to<=e.fr
   .rw[x17h (z:=26) (by rw[hp];simp[pw2,hw1,hw2,hw3,hw4,hb]) (by decide)]
    simp[hb]
   .rcases k with _|k
    .rw[x1bg (by rw[hp];simp[pw2,hw1,hw2,hw3,hw4,hb])]
     simp[hb]
     obtain⟨m',h'⟩:=next m1 (fc+61) hg0
     exact⟨m',by simpa using h'⟩
    .have hk1:k<l.length:=by omega
     have ix1:=h.ix Ps.len hk1
     have fa1:sFA 2 (.plit ((l.drop k).flatMap Ps.c))=some (.plit (((l.drop k).flatMap Ps.c).drop 2)):=rfl
     have ld1:∀m,sLd false 1 (.plit (((l.drop k).flatMap Ps.c).drop 2)) m=some (I l[k].to):=λm=>by
      rw[x16e hk1,x1o5];rfl
     have hs1:w64 (k:Int)=k:=x15x (by omega) (by omega)
     have hs2:w64 ((k:Int)+1+1)=(k:Int)+1+1:=x15x (by omega) (by omega)
     have hlast:=x195 hk1
     by_cases ho:e.to<l[k].to
     .rw[x17h (z:=9) (by rw[hp];simp[pw2,hw1,hw2,hw3,hw4,hb,hlast,ho]) (by decide)]
      simp[hb,hg0,hg,Ps.c,hs1,ix1,fa1,ld1,ho]
     .rw[x1bg (by rw[hp];simp[pw2,hw1,hw2,hw3,hw4,hb,hlast,ho])]
      simp[hb,hg0,hg,Ps.c,hs1,ix1,fa1,ld1,ho]
      obtain⟨m',h'⟩:=next m1 (fc+61) hg0
      exact⟨m',by rw[hs2];simpa using h'⟩
  .rw[x17h (z:=z) (by unfold pwErr;rw[hz,x1ow hq];rfl) hq]
   simp[hq]
theorem l_plinks(d u:Nat){pa li:AV}{gap sto:Int}{l:List Lk}(h:Sl Lk.c li l)(hl:l.length<=20) :
 ∀(suf:List Lk) (k j:Nat) (m:Mem) (fc:Nat),l.drop k=suf->suf.length<j->m.get (u,0,1)=some (.row [pa,li,I gap,I sto] 0 false) ->
 ∃m',x1n (x15i (d+3)) [] u j (.ptr (u,0,1) 0 0) li (I l.length) (I k) m fc=some (.tup [I (x173 (0,bif wi gap 0 1000000&&wi sto 0 1000000 then 0 else 2) l k suf).1,I (x173 (0,bif wi gap 0 1000000&&wi sto 0 1000000 then 0 else 2) l k suf).2],m'):=by
 intro suf
 induction suf with
 |nil=>
  intro k j m fc hd hj hm
  obtain⟨j,rfl⟩:∃i,j=i+1:=⟨j-1,by simp at hj;omega⟩
  have hk:¬((k:Int)<(l.length:Int)):=by have:=x1oi.mp hd;omega
  simp only[x1n]
  unfold x7k
  simp only[x171,hk,x1oz,x17t,x162,x1gf]
  unfold xa7
  simp[hm,x18s]
  cases hw1:wi gap 0 1000000<;>cases hw2:wi sto 0 1000000<;>simp[x18s,hm,w_ranged,hw1,hw2]
 |cons e r ih=>
  intro k j m fc hd hj hm
  obtain⟨j,rfl⟩:∃i,j=i+1:=⟨j-1,by simp at hj;omega⟩
  obtain⟨hk,he,hd⟩:=x16s hd
  have hk':(k:Int)<(l.length:Int):=by omega
  have ix:=h.ix Lk.len hk
  have ld:=x1cc (m:=m) Lk.len (by omega) hk
  rw[he]at ld
  have next:∀m fc,m.get (u,0,1)=some (.row [pa,li,I gap,I sto] 0 false)->∃m',x1n (x15i (d+3)) [] u j (.ptr (u,0,1) 0 0) li (I l.length) (I ((k:Int)+1)) m fc=some (.tup [I (x173 (0,bif wi gap 0 1000000&&wi sto 0 1000000 then 0 else 2) l (k+1) r).1,I (x173 (0,bif wi gap 0 1000000&&wi sto 0 1000000 then 0 else 2) l (k+1) r).2],m'):=λm fc hm=>ih (k+1) j m fc hd (by simp at hj;omega) hm
  simp only[x1n]
  unfold x7k
  simp only[x171,hk',x1p4,x184,x162,ix,ld,x19j,z_link]
  simp[Lk.c]
  generalize hm1:Mem.set _ _ _=m1
  have hg:m1.get (u,fc+4,8)=some (.row e.c 0 false):=by rw[<-hm1,Mem.get_set_same];rfl
  have hg0:m1.get (u,0,1)=some (.row [pa,li,I gap,I sto] 0 false):=by
   rw[<-hm1,Mem.get_set_ne (by simp),Mem.get_new_ne (by simp)];exact hm
  simp[hg,Lk.c,x19k,x18s]
  cases hw1:wi e.at_ 0 1000000000 with
  |false=>
   rw[x1a9 (z:=2) (by simp[lkBad,hw1]) (by decide)]
   simp
  |true=>
  simp[hg,Lk.c,x19k,x18s]
  cases hw2:wi e.da 0 1000000 with
  |false=>
   rw[x1a9 (z:=2) (by simp[lkBad,hw2]) (by decide)]
   simp
  |true=>
  simp[hg,Lk.c,x19k,x18s]
  rcases k with _|k
  .rw[x1bh (by simp[lkBad,hw1,hw2])]
   simp
   obtain⟨m',h'⟩:=next m1 (fc+35) hg0
   exact⟨m',by simpa using h'⟩
  .have hk1:k<l.length:=by omega
   have ix1:=h.ix Lk.len hk1
   have fa1:sFA 0 (.plit ((l.drop k).flatMap Lk.c))=some (.plit ((l.drop k).flatMap Lk.c)):=rfl
   have ld1:∀m,sLd false 1 (.plit ((l.drop k).flatMap Lk.c)) m=some (I l[k].at_):=λm=>by
    rw[x16e hk1,x1o5];rfl
   have hs1:w64 (k:Int)=k:=x15x (by omega) (by omega)
   have hs2:w64 ((k:Int)+1+1)=(k:Int)+1+1:=x15x (by omega) (by omega)
   have hlast:=x195 hk1
   by_cases ho:e.at_<=l[k].at_
   .rw[x1a9 (z:=9) (by simp[lkBad,hw1,hw2,hlast,ho]) (by decide)]
    simp[hg0,hg,Lk.c,hs1,ix1,fa1,ld1,ho]
   .rw[x1bh (by simp[lkBad,hw1,hw2,hlast,ho])]
    simp[hg0,hg,Lk.c,hs1,ix1,fa1,ld1,ho]
    obtain⟨m',h'⟩:=next m1 (fc+35) hg0
    exact⟨m',by rw[hs2];simpa using h'⟩
theorem x1i1(d:Nat){pa li:AV}{gap sto:Int}{l:List Ps}{kl:List Lk}(h:Sl Ps.c pa l)(h2:Sl Lk.c li kl)(hn:∀x∈l,x.nm.size<=1000) :
 ∃m',x15i (d+4) [] x18 [.agg [pa,li,I gap,I sto]] mem0=some (.tup [I (planM l kl gap sto).1,I (planM l kl gap sto).2],m'):=by
 rw[xxw]
 unfold x98 x7n planM
 simp only[mem0,x17f,x17l,x1oc,x1ox,h.one,h2.one,x17m,x1ou,x1oo,x16o]
 generalize hm0:Mem.new _ _ _=m0
 have hg:m0.get (0,0,1)=some (.row [pa,li,I gap,I sto] 0 false):=by rw[<-hm0,Mem.get_new_same]
 by_cases hl:40<l.length
 .simp[hg,h.len x16n,hl,show(40:Int)<l.length by omega]
 .simp only[sFA_ptr,x1be,hg,x1du,x162,x1ov]
  simp[h.len x16n,hl,show ¬((40:Int)<l.length) by omega]
  unfold xa9
  simp[hg,h.len x16n]
  obtain⟨m',h'⟩:=l_pplan d 0 (sto:=sto) (gap:=gap) h h2 (by omega) hn (res:=bif decide (20<kl.length)then(0,8)else x173 (0,bif wi gap 0 1000000&&wi sto 0 1000000 then 0 else 2) kl 0 kl) (λm fc hm=>by
   unfold x7l
   by_cases hk:20<kl.length
   .simp[hm,h2.len x194,hk,show(20:Int)<kl.length by omega]
   .obtain⟨m',h'⟩:=l_plinks d 0 (pa:=pa) (gap:=gap) (sto:=sto) h2 (by omega) kl 0 NN m (fc+8) rfl (by rw[x16v];omega) hm
    refine⟨m',?_⟩
    simp[hm,h2.len x194,hk,show ¬((20:Int)<kl.length) by omega]
    unfold xa8
    simp[hm,h2.len x194]
    exact h') l 0 NN m0 11 rfl (by rw[x16v];omega) hg
  exact⟨m',h'⟩
theorem x1i2(d:Nat){pa li:AV}{gap sto:Int}{l:List Ps}{kl:List Lk}(h:Sl Ps.c pa l)(h2:Sl Lk.c li kl)(hn:∀x∈l,x.nm.size<=1000)(m:Mem) :
 x15e (x15i (d+4)) x18 [.agg [pa,li,I gap,I sto]] m=some (.tup [I (planM l kl gap sto).1,I (planM l kl gap sto).2],m):=by
 obtain⟨m',h'⟩:=x1i1 d (gap:=gap) (sto:=sto) h h2 hn
 exact call0_tup (by simp[h.still1,h2.still1]) h' rfl
end Go.Ix
