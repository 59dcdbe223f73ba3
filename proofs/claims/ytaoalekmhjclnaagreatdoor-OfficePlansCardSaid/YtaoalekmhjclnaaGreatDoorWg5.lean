import Derived.Test.YtaoalekmhjclnaaGreatDoorWg4
import Derived.Test.YtaoalekmhjclnaaGreatDoorFxSound
set_option linter.unusedSimpArgs false
set_option linter.unusedVariables false
namespace Go.Ix
open Go.Proofs
variable{α:Type}{z:Nat}{enc:α->List AV}{l:List α}{a:AV}
def Gk{α:Type}(z:Nat)(enc:α->List AV)(ok:Id->Prop)(m:Mem)(a:AV)(l:List α):Prop:=
 (a=nilS/\l=[])\/∃id ver,ok id/\a=.sref id ver 0 l.length z true/\m.get id=some (.row (l.flatMap enc) ver false)
theorem Gk.nil{ok:Id->Prop}{m:Mem}:Gk z enc ok m nilS []:=Or.inl ⟨rfl,rfl⟩
theorem Gk.frame{ok:Id->Prop}{m m':Mem}(h:Gk z enc ok m a l)(hm:∀id,ok id->m'.get id=m.get id):Gk z enc ok m' a l:=by
 rcases h with h|⟨id,ver,h0,h1,h2⟩
 .exact Or.inl h
 .exact Or.inr ⟨id,ver,h0,h1,by rw[hm _ h0];exact h2⟩
theorem Gk.app(hz:∀x,(enc x).length=z)(h0:0<z){bytes:Nat}{ok:Id->Prop}{id0:Id}{m:Mem}(ht:ok id0)(hr:x180 (l.length+1) bytes)(h:Gk z enc ok m a l)(x:α) :
 ∃a' m',(∀{R:Type} (k:AV->Mem->Option R),sApp z bytes id0 (some (enc x,1)) a m k=k a' m')/\Gk z enc ok m' a' (l++[x])/\a'.cells=[a']/\a'.one=true/\m'.next=m.next/\∀j:Id,¬ok j->m'.get j=m.get j:=by
 rcases h with ⟨rfl,rfl⟩|⟨id,ver,h1,rfl,hg⟩
 .refine⟨.sref id0 0 0 1 z true,m.new id0 (.row (enc x) 0 false),λk=>?_,Or.inr ⟨id0,0,ht,rfl,by simp⟩,rfl,rfl,rfl,λj hj=>?_⟩
  .simp only[sApp]
   rw[x1qc (by omega),x1qb (by simpa using hr)]
  .rw[Mem.get_new,x1qc (by rintro rfl;exact hj ht)]
 .have hl:=x1a2 hz l
  refine⟨.sref id (ver+1) 0 (l.length+1) z true,m.set id (.row (l.flatMap enc++enc x) (ver+1) false),λk=>?_,Or.inr ⟨id,ver+1,h1,by simp,by simp⟩,rfl,rfl,rfl,λj hj=>?_⟩
  .simp only[sApp,hg]
   rw[x1qb ⟨trivial,trivial,by omega,hr⟩,x1qc (by omega),x1qc (by rw[hl,x1s3];omega),x1qm,x1r6 (by omega)]
  .rw[Mem.get_set,x1qc (by rintro rfl;exact hj h1)]
theorem Gk.one{ok:Id->Prop}{m:Mem}(h:Gk z enc ok m a l):a.cells=[a]/\a.one=true:=by
 rcases h with ⟨rfl,rfl⟩|⟨id,ver,h1,rfl,hg⟩<;>exact⟨rfl,rfl⟩
theorem Gk.frz(hz:∀x,(enc x).length=z)(hs:∀x,(enc x).all still1=true){ok:Id->Prop}{k:Nat}{m:Mem}(h:Gk z enc ok m a l):∃a',Sl enc a' l/\Go.Ix.frz m.get (k+2) a=some a':=by
 rcases h with ⟨rfl,rfl⟩|⟨id,ver,_,rfl,hg⟩
 .exact⟨nilS,Or.inl ⟨rfl,rfl⟩,rfl⟩
 .have hl:=x1a2 hz l
  refine⟨.slit (l.flatMap enc) l.length false,Sl.lit l false,?_⟩
  have:=x1dj (objs:=m.get) (id:=id) (cs:=l.flatMap enc) (ver:=ver) (off:=0) (n:=l.length) (z:=z) (k:=k) (f:=false) (x:=true) hg (by omega) (by
   rw[x1qm,x1r6 (by omega)];exact x1ct hs l)
  rw[x1qm,x1r6 (by omega)]at this
  exact this
end Go.Ix
namespace Go.Ix
variable{α:Type}{z:Nat}{enc:α->List AV}
theorem x1iu(hz:∀x,(enc x).length=z)(x:α):∀(l:List α) (k:Nat),k<l.length->x188 (l.flatMap enc) (k*z) (enc x)=(l.set k x).flatMap enc
 |[],_,h=>by simp at h
 |y::r,0,_=>by
  simp only[x188,x1sc,x1qs,x1sn,x1se,List.set_cons_zero,x1ql]
  rw[hz,<-hz y,List.drop_append_of_le_length (x1qi _),x1su (x1qi _),x1se]
 |y::r,k+1,h=>by
  have ih:=x1iu hz x r k (by simpa using h)
  simp only[x188,List.set_cons_succ,x1ql]at ih ⊢
  rw[x1s3,show k*z+z=(enc y).length+k*z by rw[hz];omega,List.take_length_add_append,x1rl,x1ti,x1s6,<-ih]
  have e:(enc y).length+(k*z+(enc x).length)-(enc y).length=k*z+(enc x).length:=by omega
  rw[e,x1su (by omega),x1se]
open Go.Proofs
structure Ev where
 t:Int
 link:Bool
 data:Int
 ix:Nat
 lo:0<=t
 hi:t<=1000000000
def Ev.c(e:Ev):List AV:=[I e.t,B e.link,I e.data]
theorem Ev.len(e:Ev):e.c.length=3:=rfl
theorem Ev.still(e:Ev):e.c.all still1=true:=rfl
def ev0:Ev:=⟨0,false,0,0,by omega,by omega⟩
def gtE(L:List Ev)(k:Nat):Ev:=L.getD k ev0
theorem x19y{L P Q:List Ev}{x:Ev}{k:Nat}(h:L=P++x::Q)(hk:k=P.length):gtE L k=x:=by
 subst h hk
 simp[gtE]
theorem gt_get{L:List Ev}{k:Nat}(hk:k<L.length):gtE L k=L[k]:=by simp[gtE,hk]
structure Hd (ok:Id->Prop) (a:AV) (N:Nat) (M:Mem) (m:Mem) (L:List Ev):Prop where
 g:Gk 3 Ev.c ok m a L
 n:N<=m.next
 k:∀j:Id,¬ok j->j.1<N->m.get j=M.get j
variable{ok:Id->Prop}{a:AV}{N:Nat}{M:Mem}{m m':Mem}{L:List Ev}
theorem Hd.frame(hok:∀j,ok j->j.1<N)(h:Hd ok a N M m L)(hm:∀j:Id,j.1<N->m'.get j=m.get j)(hn:N<=m'.next):Hd ok a N M m' L:=
 ⟨h.g.frame λj hj=>hm j (hok j hj),hn,λj h1 h2=>by rw[hm j h2];exact h.k j h1 h2⟩
theorem Hd.call(hok:∀j,ok j->j.1<N)(h:Hd ok a N M m L):Hd ok a N M ⟨m.hp,m.next+1⟩ L:=h.frame hok (λ_ _=>rfl) (Nat.le_succ_of_le h.n)
theorem rd_app(cs r:List AV):rd true cs.length (cs++r)=some (.agg cs):=by
 simp[rd]
theorem Hd.ld(h:Hd ok a N M m L){k:Nat}(hk:k<L.length):∃p,sIx 3 a (I k)=some p/\sLd true 3 p m=some (.agg (gtE L k).c):=by
 rcases h.g with ⟨rfl,rfl⟩|⟨id,ver,hok,rfl,hg⟩
 .simp at hk
 .refine⟨.ptr id ver (0+k*3),?_,?_⟩
  .simp[sIx,asI,hk]
  .rw[x19e hg,x1qs,x1g0 Ev.len,x18b hk,x1ql,gt_get hk]
   exact rd_app (L[k].c) _
theorem Hd.st(h:Hd ok a N M m L){k:Nat}(hk:k<L.length):∃p,sIx 3 a (I k)=some p/\∀x:Ev,∃m',(∀{R:Type} (K:Mem->Option R),sSt 3 p (.agg x.c) m K=K m')/\Hd ok a N M m' (L.set k x):=by
 have h1:=h.n
 have h2:=h.k
 rcases h.g with ⟨rfl,rfl⟩|⟨id,ver,hok,rfl,hg⟩
 .simp at hk
 .refine⟨.ptr id ver (0+k*3),?_,λx=>⟨m.set id (.row ((L.set k x).flatMap Ev.c) ver false),λK=>?_,Or.inr ⟨id,ver,hok,by simp,by simp⟩,h1,λj hj hj2=>?_⟩⟩
  .simp[sIx,asI,hk]
  .rw[st_ptr (z:=3) (x:=.agg x.c) (k:=K) hg rfl (by rw[x1a2 Ev.len];omega) rfl,x1qs]
   congr 3
   exact x1iu Ev.len x L k hk
  .rw[Mem.get_set,x1qc (by rintro rfl;exact hj hok)]
   exact h2 j hj hj2
theorem set_mid{P Q:List Ev}{x y:Ev}:(P++x::Q).set P.length y=P++y::Q:=by
 rw[List.set_append_right _ _ (x1qi _),Nat.sub_self]
 rfl
theorem Hd.swap{X Q Y:List Ev}{p s:Ev}(h:Hd ok a N M m (X++p::(Q++s::Y))){i j:Nat}(hi:i=X.length)(hj:j=X.length+1+Q.length) :
 ∃u v,sIx 3 a (I i)=some u/\sIx 3 a (I j)=some v/\sLd true 3 u m=some (.agg p.c)/\sLd true 3 v m=some (.agg s.c) /\
  (∃m',(∀{R:Type} (K:Mem->Option R),(sSt 3 u (.agg s.c) m λm1=>sSt 3 v (.agg p.c) m1 K)=K m')/\Hd ok a N M m' (X++s::(Q++p::Y))) /\
  ∃m',(∀{R:Type} (K:Mem->Option R),(sSt 3 v (.agg p.c) m λm1=>sSt 3 u (.agg s.c) m1 K)=K m')/\Hd ok a N M m' (X++s::(Q++p::Y)):=by
 have e1:gtE (X++p::(Q++s::Y)) i=p:=x19y rfl hi
 have e2:gtE (X++p::(Q++s::Y)) j=s:=x19y (P:=X++p::Q) (Q:=Y) (by simp) (by simp;omega)
 have l1:i<(X++p::(Q++s::Y)).length:=by simp;omega
 have l2:j<(X++p::(Q++s::Y)).length:=by simp;omega
 have w1:∀y z:Ev,((X++z::(Q++s::Y)).set j y)=X++z::(Q++y::Y):=λy z=>by
  have:=set_mid (P:=X++z::Q) (Q:=Y) (x:=s) (y:=y)
  rw[show(X++z::Q).length=j by simp;omega]at this
  simpa using this
 have w2:∀y z:Ev,((X++p::(Q++z::Y)).set i y)=X++y::(Q++z::Y):=λy z=>by
  rw[hi];exact set_mid
 obtain⟨u,u1,u2⟩:=h.ld l1
 obtain⟨v,v1,v2⟩:=h.ld l2
 rw[e1]at u2
 rw[e2]at v2
 refine⟨u,v,u1,v1,u2,v2,?_,?_⟩
 .obtain⟨u',u3,u4⟩:=h.st l1
  obtain rfl:u'=u:=by rw[u1]at u3;cases u3;rfl
  obtain⟨m1,k1,h1⟩:=u4 s
  rw[w2]at h1
  obtain⟨v',v3,v4⟩:=h1.st (k:=j) (by simp;omega)
  obtain rfl:v'=v:=by rw[v1]at v3;cases v3;rfl
  obtain⟨m2,k2,h2⟩:=v4 p
  rw[w1]at h2
  exact⟨m2,λK=>by rw[k1,k2],h2⟩
 .obtain⟨v',v3,v4⟩:=h.st l2
  obtain rfl:v'=v:=by rw[v1]at v3;cases v3;rfl
  obtain⟨m1,k1,h1⟩:=v4 p
  rw[w1]at h1
  obtain⟨u',u3,u4⟩:=h1.st (k:=i) (by simp;omega)
  obtain rfl:u'=u:=by rw[u1]at u3;cases u3;rfl
  obtain⟨m2,k2,h2⟩:=u4 s
  rw[w2]at h2
  exact⟨m2,λK=>by rw[k1,k2],h2⟩
def CmpE(call:x17c)(f:AV):Prop:=∀(hs:FHs) (x y:Ev) (m:Mem),∃m',x18j call hs 2 f [.agg x.c,.agg y.c] m=some (I (x.t-y.t),m')/\m.next<=m'.next/\∀j:Id,j.1<m.next->m'.get j=m.get j
theorem Hd.cmp(hok:∀j,ok j->j.1<N){call:x17c}{f:AV}(hf:CmpE call f)(h:Hd ok a N M m L)(hs:FHs)(x y:Ev):∃m',x18j call hs 2 f [.agg x.c,.agg y.c] m=some (I (x.t-y.t),m')/\Hd ok a N M m' L:=by
 obtain⟨m',h1,h2,h3⟩:=hf hs x y m
 exact⟨m',h1,h.frame hok (λj hj=>h3 j (x1qv hj h.n)) (x1rg h.n h2)⟩
theorem c_cmpE(d:Nat):CmpE (x17h (d+1)) (.clo x15 []):=by
 intro hs x y m
 show ∃m',x17h (d+1) hs x15 ([.agg x.c,.agg y.c]++[]) m=_/\_
 have:=x.lo
 have:=x.hi
 have:=y.lo
 have:=y.hi
 rw[x1tn,x105]
 unfold xaw x96
 simp(disch:=omega)only[x19p,x19v,Ev.c,x1r1,x1rk,x19w,one_B,x1re,x18l,x19x,x17m]
 refine⟨((⟨m.hp,m.next+1⟩:Mem).new (m.next,0,2) (.row [I x.t,B x.link,I x.data] 0 false)).new (m.next,0+1,3) (.row [I y.t,B y.link,I y.data] 0 false),?_,?_,?_⟩
 .have g1:(((⟨m.hp,m.next+1⟩:Mem).new (m.next,0,2) (.row [I x.t,B x.link,I x.data] 0 false)).new (m.next,0+1,3) (.row [I y.t,B y.link,I y.data] 0 false)).get (m.next,0,2)=some (.row [I x.t,B x.link,I x.data] 0 false):=by simp
  have g2:(((⟨m.hp,m.next+1⟩:Mem).new (m.next,0,2) (.row [I x.t,B x.link,I x.data] 0 false)).new (m.next,0+1,3) (.row [I y.t,B y.link,I y.data] 0 false)).get (m.next,0+1,3)=some (.row [I y.t,B y.link,I y.data] 0 false):=by simp
  rw[x19e g1,x19e g2]
  simp(disch:=omega) [rd,x17t]
 .show m.next<=m.next+1
  omega
 .intro j hj
  rw[Mem.get_new,x1qc (by rintro rfl;exact Nat.lt_irrefl _ hj),Mem.get_new,x1qc (by rintro rfl;exact Nat.lt_irrefl _ hj)]
  rfl
theorem x1em{R:Type}{i j:Nat}(h:i+j<=200)(X:Operand)(K:AV->Option R):((sAdd (I i) (I j)).bind λt=>(sCvt Tryz.prog x17r x3 t).bind λa=>(sBin Tryz.prog .shr x3 X (.const (.int .u64 1)) a (AV.sc (.int .u64 1))).bind λb=>(sCvt Tryz.prog x3 x17r b).bind K)=K (I ((i+j) / 2:Nat)):=by
 have t1:(List.range 201).all (λn=>(match sCvt Tryz.prog x17r x3 (I n)with|some (.sc (.int .u64 k))=>decide (k=(n:Int))|_=>false))=true:=by kernel_rfl
 have t2:(List.range 201).all (λn=>(match sBin Tryz.prog .shr x3 X (.const (.int .u64 1)) (.sc (.int .u64 (n:Int))) (AV.sc (.int .u64 1))with|some (.sc (.int .u64 k))=>decide (k=((n / 2:Nat):Int))|_=>false))=true:=by kernel_rfl
 have t3:(List.range 201).all (λn=>(match sCvt Tryz.prog x3 x17r (.sc (.int .u64 (n:Int)))with|some (.sc (.int .i64 k))=>decide (k=(n:Int))|_=>false))=true:=by kernel_rfl
 have u1:=x1qh.mp t1 (i+j) (x1qy.mpr (by omega))
 have u2:=x1qh.mp t2 (i+j) (x1qy.mpr (by omega))
 have u3:=x1qh.mp t3 ((i+j) / 2) (x1qy.mpr (by omega))
 have e1:sCvt Tryz.prog x17r x3 (I (i+j:Nat))=some (.sc (.int .u64 ((i+j:Nat):Int))):=by
  split at u1
  .rename_i k e;rw[e,x1s5 u1]
  .cases u1
 have e2:sBin Tryz.prog .shr x3 X (.const (.int .u64 1)) (.sc (.int .u64 ((i+j:Nat):Int))) (AV.sc (.int .u64 1))=some (.sc (.int .u64 (((i+j) / 2:Nat):Int))):=by
  split at u2
  .rename_i k e;rw[e,x1s5 u2]
  .cases u2
 have e3:sCvt Tryz.prog x3 x17r (.sc (.int .u64 (((i+j) / 2:Nat):Int)))=some (I ((i+j) / 2:Nat)):=by
  split at u3
  .rename_i k e;rw[e,x1s5 u3]
  .cases u3
 rw[x18r,x17t (by omega) (by omega),x17m,show(i:Int)+j=((i+j:Nat):Int) by omega,e1,x17m,e2,x17m,e3,x17m]
end Go.Ix
