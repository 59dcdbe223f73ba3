import Derived.Test.YtacloojepepcfaaGreatDoorWg3
import Derived.Test.YtacloojepepcfaaGreatDoorWg4
import Derived.Test.YtacloojepepcfaaGreatDoorWg10
import Derived.Test.YtacloojepepcfaaGreatDoorFxSound
import Derived.Test.YtacloojepepcfaaGreatDoorWg2
import Derived.Test.YtacloojepepcfaaGreatDoorWg7
import Derived.Test.YtacloojepepcfaaGreatDoorWg0
import Derived.ProofKit
import Derived.Laws.StructEq
set_option linter.unusedSimpArgs false
set_option linter.unusedVariables false
set_option maxRecDepth 10000
namespace Go.Ix
open Go.Proofs
theorem w_Itoa(d:Nat){n:Int}(h0:-9223372036854775808<=n)(h1:n<=9223372036854775807)(m:Mem):xox (xow (d+1)) xw [I n] m=some (Tx (decM n),m):=by
 refine Ans.call0 (m:=m) ?_ rfl rfl
 have h:xow (d+1) [] xw [I n] mem0=(xs1 1 [I n]).map λv=>(v,mem0):=by kernel_rfl
 unfold Ans
 have h2:xs1 1 [I n]=if -9223372036854775808<=n/\n<=9223372036854775807 then some (.sc (.string ⟨(decM n).toArray⟩))else none:=rfl
 rw[h,h2,x17u ⟨h0,h1⟩]
 exact⟨_,rfl⟩
theorem w_Atoi(d:Nat){l:List UInt8}(hl:l.length<=1000000)(m:Mem) :
 (∃v,Lib.atoiAll l=.ok v/\xox (xow (d+1)) x2g [Tx l] m=some (.tup [I v,.sc .nilIface],m))\/((∀v,Lib.atoiAll l≠.ok v)/\∃x:Int,xox (xow (d+1)) x2g [Tx l] m=some (.tup [I x,.un errP],m)):=by
 have h:xow (d+1) [] x2g [Tx l] mem0=(xs1 2 [Tx l]).map λv=>(v,mem0):=by kernel_rfl
 have h2:xs1 2 [Tx l]=match Lib.atoiAll l with
  | .ok v=>some (.tup [.sc (.int .i64 v),.sc .nilIface])
  | .range=>some (.tup [.sc (.int .i64 (Lib.atoiSat l)),.un errP])
  |_=>some (.tup [.sc (.int .i64 0),.un errP]):=by
  have h3:xs1 2 [Tx l]=if(⟨l.toArray⟩:ByteArray).size<=1000000 then(match Lib.atoiAll l with
   | .ok v=>some (.tup [.sc (.int .i64 v),.sc .nilIface])
   | .range=>some (.tup [.sc (.int .i64 (Lib.atoiSat l)),.un errP])
   |_=>some (.tup [.sc (.int .i64 0),.un errP]))else none:=rfl
  rw[h3,x17u (by rw[xtm];exact hl)]
 cases hv:Lib.atoiAll l with
 |ok v=>
  rw[hv]at h2
  rw[h2]at h
  exact .inl ⟨v,rfl,call0_tup rfl h rfl⟩
 |range=>
  rw[hv]at h2
  rw[h2]at h
  exact .inr ⟨(λv h=>by cases h),_,call0_tup rfl h rfl⟩
 |_=>
  rw[hv]at h2
  rw[h2]at h
  exact .inr ⟨(λv h=>by cases h),_,call0_tup rfl h rfl⟩
theorem OkR.run{P:Program}{α:Type}{R:α->Prop}{a:α}(hr:R a):∀{s:Sem α},xp2 P s=some a->OkR P s R
 | .pure b,h=>by
   simp only[xp2,x17w]at h
   exact OkR.pure (by rw[h];exact hr)
 | .program k,h=>OkR.run hr (s:=k P) h
 | .mark _ k,h=>OkR.run hr (s:=k) h
 | .choose ..,h=>by simp[xp2]at h
 | .load ..,h=>by simp[xp2]at h
 | .store ..,h=>by simp[xp2]at h
 | .new ..,h=>by simp[xp2]at h
 | .shape ..,h=>by simp[xp2]at h
 | .freeze ..,h=>by simp[xp2]at h
 | .halt ..,h=>by simp[xp2]at h
theorem err_ne(t:Nat):sBin Tryz.prog .neq xx (.tmp t) (.const .nilIface) (.un errP) (AV.sc .nilIface)=some (B true):=by
 refine sBin_1 (A:=errP) (B:=λv=>v=.nilIface) (v0:=.bool true) ⟨⟨.iface 0 .nilIface,0,.nilIface,rfl⟩,λv h=>h⟩ (Is.sc rfl) rfl ?_
 rintro u v ⟨t,z,rfl⟩ rfl
 exact OkR.run (a:=Value.bool true) (R:=λv=>v=.bool true) rfl (by kernel_rfl)
theorem nil_ne(t:Nat):sBin Tryz.prog .neq xx (.tmp t) (.const .nilIface) (AV.sc .nilIface) (AV.sc .nilIface)=some (B false):=by kernel_rfl
def xqi(d:Nat):List (List UInt8)->Option (List Int)
 |[]=>some []
 |w::r=>match nbrM w d,xqi d r with
  |some n,some l=>some (n::l)
  |_,_=>none
theorem xz4{d:Nat}{w:List UInt8}{n:Int}(hw:nbrM w d=some n):∀{pre:List (List UInt8)} {l:List Int},xqi d pre=some l->xqi d (pre++[w])=some (l++[n])
 |[],l,h=>by
  cases h
  show xqi d [w]=_
  simp[xqi,hw]
 |p::pre,l,h=>by
  unfold xqi at h
  cases hp:nbrM p d with
  |none=>rw[hp]at h;cases h
  |some k=>
   rw[hp]at h
   cases hq:xqi d pre with
   |none=>rw[hq]at h;cases h
   |some q=>
    rw[hq]at h
    cases h
    have:=xz4 hw hq
    show xqi d (p::(pre++[w]))=_
    unfold xqi
    rw[hp,this]
    rfl
theorem xz5{d:Nat}{w:List UInt8}(hw:nbrM w d=none)(post:List (List UInt8)):∀(pre:List (List UInt8)),xqi d (pre++w::post)=none
 |[]=>by
  show xqi d (w::post)=_
  unfold xqi
  rw[hw]
 |p::pre=>by
  show xqi d (p::(pre++w::post))=_
  unfold xqi
  rw[xz5 hw post pre]
  cases nbrM p d<;>rfl
theorem xv1{d:Nat}:∀{ws:List (List UInt8)} {l:List Int},xqi d ws=some l->l.length=ws.length
 |[],l,h=>by cases h;rfl
 |p::ws,l,h=>by
  unfold xqi at h
  cases hp:nbrM p d with
  |none=>rw[hp]at h;cases h
  |some k=>
   rw[hp]at h
   cases hq:xqi d ws with
   |none=>rw[hq]at h;cases h
   |some q=>
    rw[hq]at h
    cases h
    simp[xv1 hq]
theorem xvy(c:UInt8):∀l:List UInt8,(cutM c l).length<=l.length+1
 |[]=>by simp[cutM]
 |x::l=>by
  have ih:=xvy c l
  unfold cutM
  split
  .simp;omega
  .split<;>simp_all<;>omega
theorem xz6(c:UInt8):∀(l:List UInt8) (w:List UInt8),w∈cutM c l->w.length<=l.length
 |[],w,h=>by
  simp[cutM]at h
  rw[h];exact x17z _
 |x::l,w,h=>by
  have ih:=xz6 c l
  unfold cutM at h
  split at h
  .rcases x186.1 h with rfl|h
   .simp
   .have:=ih w h;simp;omega
  .split at h
   .rename_i h2
    exact absurd h2 (cutM_ne c l)
   .rename_i y r h2
    rw[h2]at ih
    rcases x186.1 h with rfl|h
    .have:=ih y (x18a ..);simp;omega
    .have:=ih w (x183 _ h);simp;omega
theorem slit_sl3{cs:List AV}{n:Nat}{x:Bool}{l h:Nat}(h1:l<=h)(h2:h<=n)(hl:cs.length=n):sSl3 Tryz.prog x8 (.slit cs n x) (some (I l)) (I h) (I h)=some (.slit ((cs.drop l).take (h-l)) (h-l) true):=by
 obtain⟨i,e1,e2⟩:=xvv
 simp only[sSl3,xpb,xr3,e1,asI,Option.getD_some,e2]
 rw[x17u ⟨by omega,by omega,by omega,by first|rfl|trivial,by omega⟩,x195,x195,show((h:Int)-l).toNat=h-l by omega,x18g]
theorem slit_slo{cs:List AV}{n:Nat}{x:Bool}{lo:Nat}(h2:lo<=n)(hl:cs.length=n):xpd Tryz.prog x8 (.slit cs n x) (some (I lo)) none=some (.slit (cs.drop lo) (n-lo) x):=by
 obtain⟨i,e1,e2⟩:=xvv
 simp only[xpd,xpb,xr3,e1,asI,Option.getD_some,Option.getD_none,e2]
 rw[x17u ⟨by omega,by omega,x1ab _,by omega⟩,x195,x195,show((n:Int)-lo).toNat=n-lo by omega,x182 (by simp;omega)]
 simp
theorem c_chunks(d:Nat){hh:FHs}{id:Id}{h:List AV->Mem->Option Mem}{L:List Int}{x:Bool}(hl:xrv hh id=some h)(hid:id.2.2=0)(h4:L.length % 4=0)(hL:L.length<=1000000){m0:Mem}(Inv:Nat->Mem->Prop)(hy:∀(k:Nat) (x0 x1 x2 x3:Int) (r:List Int) m,L.drop (4*k)=x0::x1::x2::x3::r->Inv k m->∃m2,h [.slit [I x0,I x1,I x2,I x3] 4 true] m=some m2/\Inv (k+1) m2)(h0:Inv 0 ⟨m0.hp,m0.next+1⟩) :
 ∃m',xow (d+1) hh xo [.yld id,.plit [.slit (L.flatMap intE) L.length x],.plit [I 4]] m0=some (.tup [],m')/\Inv (L.length / 4) m':=by
 rw[xl2]
 unfold x82 x6t
 generalize (⟨m0.hp,m0.next+1⟩:Mem)=m at *
 generalize m0.next=u
 have hfl:(L.flatMap intE).length=L.length:=xrk L
 have loop:∀(n k j:Nat) (m:Mem) (fc:Nat),L.length=4*k+4*n->n<j->Inv k m ->
  ∃m',x2t (xow d) hh u j (.yld id) (.plit [.slit (L.flatMap intE) L.length x]) (.plit [I 4]) (I (4*k:Nat)) m fc=some (.tup [],m')/\Inv (L.length / 4) m':=by
  intro n
  induction n with
  |zero=>
   intro k j m fc hk hj hI
   obtain⟨j,rfl⟩:∃k,j=k+1:=⟨j-1,by omega⟩
   have hlt:¬(((4*k:Nat):Int)<(L.length:Int)):=by omega
   simp only[x2t]
   unfold x6s
   simp only[xws,rd_f,xoy,show sLen Tryz.prog x8 (.slit (L.flatMap intE) L.length x)=some (I L.length)from rfl,xq1,hlt,x185,xpl]
   exact⟨m,rfl,by rw[show L.length / 4=k by omega];exact hI⟩
  |succ n ih=>
   intro k j m fc hk hj hI
   obtain⟨j,rfl⟩:∃k,j=k+1:=⟨j-1,by omega⟩
   have hlt:(((4*k:Nat):Int)<(L.length:Int)):=by omega
   obtain⟨x0,x1,x2,x3,r,hd⟩:∃x0 x1 x2 x3 r,L.drop (4*k)=x0::x1::x2::x3::r:=by
    have:(L.drop (4*k)).length=4*n+4:=by rw[x19i];omega
    revert this
    generalize L.drop (4*k)=q
    intro hq
    match q,hq with
    |x0::x1::x2::x3::r,_=>exact⟨x0,x1,x2,x3,r,rfl⟩
    |[],hq=>simp at hq
    |[_],hq=>simp at hq
    |[_,_],hq=>(simp at hq<;>omega)
    |[_,_,_],hq=>(simp at hq<;>omega)
   obtain⟨m2,k1,k2⟩:=hy k x0 x1 x2 x3 r m hd hI
   have hlv:live m2.get id=true:=by unfold live;rw[hid];rfl
   have hfd:((L.flatMap intE).drop (4*k)).take (4*k+4-4*k)=[I x0,I x1,I x2,I x3]:=by
    have:=xwq xt5 L (4*k)
    rw[x195]at this
    rw[this,hd,show 4*k+4-4*k=4 by omega]
    rfl
   have w1:w64 (((4*k:Nat):Int)+4)=((4*k+4:Nat):Int):=by rw[xq4 (by omega) (by omega)];omega
   have hmn:(if((L.length-4*k:Nat):Int)<4 then((L.length-4*k:Nat):Int)else 4)=4:=by rw[x17t (by omega)]
   simp only[x2t]
   unfold x6s
   simp only[xws,rd_f,xoy,show sLen Tryz.prog x8 (.slit (L.flatMap intE) L.length x)=some (I L.length)from rfl,xq1,hlt,x184,xph,slit_slo (show 4*k<=L.length by omega) hfl,show ∀cs n x,sLen Tryz.prog x8 (.slit cs n x)=some (I n)from λ_ _ _=>rfl,sMin_I,hmn,xqv,w1,slit_sl3 (show 4*k<=4*k+4 by omega) (show 4*k+4<=L.length by omega) hfl,show 4*k+4-4*k=4 by omega]
   rw[show 4*k+4-4*k=4 by omega]at hfd
   rw[hfd,inv_y hl k1,hlv]
   simp only[xoy,xtj,x18k,xpl]
   exact ih (k+1) j m2 _ (by omega) (by omega) k2
 exact loop (L.length / 4) 0 NN m _ (by omega) (by rw[xq7];omega) h0
theorem xz7{call:xou}{f:FuncId}{l l':List AV}{m:Mem}{r:AV}(hl:l.mapM (Go.Ix.frz m.get deep)=some l')(hst:l'.all still=true)(h:∀m,xox call f l' m=some (r,m)) :
 xox call f l m=some (r,⟨xrd (l.flatMap (reach m.get deep)) m.hp,m.next⟩):=by
 have h1:=h mem0
 have hm1:l'.mapM (Go.Ix.frz mem0.get deep)=some l':=xwp _ hst
 unfold xox at h1 ⊢
 rw[hm1]at h1
 rw[hl]
 dsimp only at h1 ⊢
 cases hc:call [] f l' mem0 with
 |none=>rw[hc]at h1;cases h1
 |some p=>
  rw[hc]at h1
  dsimp only at h1 ⊢
  cases hf:Go.Ix.frz p.2.get deep p.1 with
  |none=>rw[hf]at h1;cases h1
  |some r0=>
   rw[hf]at h1
   have:=congrArg Prod.fst (x198 h1)
   dsimp only at this
   subst this
   rfl
theorem xz8{ids:List Id}{j:Id}{m:Mem}(hn:j∉ids):(⟨xrd ids m.hp,m.next⟩:Mem).get j=m.get j:=by
 show hget (xrd ids m.hp) j=_
 rw[congrFun (xwa ids m.hp) j]
 unfold shut
 rw[x17t hn];rfl
theorem x121{ids:List Id}{j:Id}{m:Mem}{cs:List AV}{v:Nat}{b:Bool}(h:m.get j=some (.row cs v b)):∃b',(⟨xrd ids m.hp,m.next⟩:Mem).get j=some (.row cs v b'):=by
 show ∃b',hget (xrd ids m.hp) j=_
 rw[congrFun (xwa ids m.hp) j]
 unfold shut
 have h':hget m.hp j=some (.row cs v b):=h
 split
 .rw[h'];exact⟨true,rfl⟩
 .exact⟨b,h'⟩
theorem x122{m:Mem}{id:Id}{ver off n z v k:Nat}{x b:Bool}{cs:List AV}(hg:m.get id=some (.row cs v b))(hs:cs.all still1=true):Go.Ix.reach m.get (k+2) (.sref id ver off n z x)=[id]:=by
 show(match m.get id with
  |some (.row cs _ _)=>id::((cs.drop off).take (n*z)).flatMap (Go.Ix.reach m.get (k+1))
  |_=>[id])=[id]
 rw[hg]
 show id::((cs.drop off).take (n*z)).flatMap (Go.Ix.reach m.get (k+1))=[id]
 congr 1
 rw[x1a4]
 exact λa ha=>xwo m.get k (x181.mp hs a (x1bq (List.mem_of_mem_take ha)))
theorem Gk.reachK{α:Type}{z:Nat}{enc:α->List AV}(hs:∀x,(enc x).all still1=true){ok:Id->Prop}{m:Mem}{a:AV}{l:List α}(h:Gk z enc ok m a l)(k:Nat):∀i∈Go.Ix.reach m.get (k+2) a,ok i:=by
 rcases h with ⟨rfl,rfl⟩|⟨id,ver,h0,rfl,hg⟩
 .intro i hi;cases hi
 .intro i hi
  rw[x122 hg (xr9 hs l),x18w]at hi
  rw[hi];exact h0
theorem e_awake:((xow 30 [] x1z [] mem0).map (λp=>p.1))=some (B true):=by kernel_rfl
theorem w_awake(m:Mem):xox (xow 30) x1z [] m=some (B true,m):=by
 have h:=e_awake
 rw[x17x]at h
 obtain⟨⟨r,m'⟩,h1,rfl⟩:=h
 exact call0 rfl h1 rfl
theorem at0_app{l:List Int}{x:Int}{k:Nat}:at0 (l++[x]) k=if k<l.length then at0 l k else if k=l.length then x else 0:=by
 unfold at0
 simp only[x18r]
 by_cases h:k<l.length
 .rw[x17u h,x1a2 h]
 .rw[x17t h,x1a3 (by omega)]
  by_cases h2:k=l.length
  .rw[x17u h2,h2];simp
  .rw[x17t h2,x1ao (by simp;omega)];rfl
def OutIn(k:Int)(out:List Int):Prop:=∀i,-(2048*k)<=at0 out i/\at0 out i<=2048*k
theorem OutIn.app{k:Nat}{out:List Int}(h:OutIn k out){x:Int}(h1:-(2048*((k+1:Nat):Int))<=x)(h2:x<=2048*((k+1:Nat):Int)):OutIn ((k+1:Nat):Int) (out++[x]):=by
 intro i
 rw[at0_app]
 have:=h i
 split
 .omega
 .split<;>omega
theorem l_Ints(d:Nat)(hs:FHs){a b:AV}{l k:List Int}(ha:Ints a l)(hb:Ints b k)(he:l.length=k.length)(hl:l.length<=1000000):∀(suf suk:List Int) (i j:Nat) (m:Mem) (fc:Nat),l.drop i=suf->k.drop i=suk->suf.length<j ->
 ∃m',x2m (xow d) hs 0 j a b (I i) m fc=some (B (decide (suf=suk)),m'):=by
 intro suf
 induction suf with
 |nil=>
  intro suk i j m fc hd hk hj
  obtain⟨j,rfl⟩:∃i,j=i+1:=⟨j-1,by simp at hj;omega⟩
  have hd0:=x19a.mp hd
  have hsk:suk=[]:=by rw[<-hk];exact x19a.mpr (by omega)
  have hi:¬((i:Int)<(l.length:Int)):=by omega
  simp only[x2m]
  unfold x5u
  simp[ha.len xr3,hi,x8y,hsk]
 |cons x r ih=>
  intro suk i j m fc hd hk hj
  obtain⟨j,rfl⟩:∃i,j=i+1:=⟨j-1,by simp at hj;omega⟩
  obtain⟨hi,hie,hd⟩:=xrx hd
  have hi2:i<k.length:=by omega
  have hk2:suk=at0 k i::k.drop (i+1):=by rw[<-hk,xu7 hi2,xs9 hi2]
  have hi':(i:Int)<(l.length:Int):=by omega
  have ix:=ha.ix xt5 hi
  have ix2:=hb.ix xt5 hi2
  have e1:at0 l i=x:=by rw[xs9 hi,hie]
  simp only[x2m]
  unfold x5u
  simp(disch:=omega) [ha.len xr3,hi',ix,ix2,ld_int,e1,hk2]
  by_cases c:x=at0 k i
  .obtain⟨m',h'⟩:=ih _ (i+1) j m (fc+16) hd rfl (by simp at hj;omega)
   simp(disch:=omega) [c]
   exact⟨m',h'⟩
  .simp[c]
theorem w_Ints(d:Nat){a b:AV}{l k:List Int}(ha:Ints a l)(hb:Ints b k)(hl:l.length<=1000000)(m:Mem):xox (xow (d+1)) x12 [a,b] m=some (B (decide (l=k)),m):=by
 refine Ans.call0 ?_ (by simp[ha.still,hb.still]) rfl
 unfold Ans
 rw[xki]
 unfold x7g x5v x8z
 by_cases he:l.length=k.length
 .obtain⟨m',h'⟩:=l_Ints d [] ha hb he hl l k 0 NN ⟨[],1⟩ 7 rfl rfl (by rw[xq7];omega)
  simp[mem0,ha.len xr3,hb.len xr3,he]
  exact⟨m',h'⟩
 .have:¬(l=k):=λe=>he (by rw[e])
  have he2:¬((l.length:Int)=(k.length:Int)):=by omega
  simp[mem0,ha.len xr3,hb.len xr3,he2,this]
end Go.Ix
namespace Go.Ix
open Go.Proofs
variable{P:Program}
theorem xt6{α β:Type}(f:α->Sem β):∀s:Sem α,xp2 P (s >>= f)=(xp2 P s).bind λa=>xp2 P (f a):=by
 intro s
 show xp2 P (Sem.bind s f)=_
 induction s with
 |pure a=>rfl
 |program k ih=>exact ih P
 |mark x k ih=>exact ih
 |_=>rfl
theorem xx3{α:Type}(a:α):xp2 P (pure a:Sem α)=some a:=rfl
theorem xz9:xp2 P program=some P:=rfl
theorem x123{t:TypeId}{d:TypeDesc}(h:P.underlying t=some d):xp2 P (underlying t)=some d:=by
 simp only[underlying,xt6,xz9,xoy,h]
 rfl
theorem x14b(d:Nat)(t:TypeId)(xs ys:Array Value)(ht:P.underlying t=some (.struct (P.fieldsOf t)))(hp:P.stoodInHeld t=false) :
 xp2 P (Op.equalIn (d+1) t (.agg xs) (.agg ys))=xp2 P (Op.eqFields d xs ys (P.fieldsOf t).toList):=by
 simp only[Op.equalIn,xt6,x123 ht,xoy,xz9,hp,x18i,x18e]
 rw[<-Array.forIn_toList]
 generalize (P.fieldsOf t).toList=fs
 clear ht
 induction fs with
 |nil=>simp[Op.eqFields,xx3]
 |cons f fs ih=>
  simp only[List.forIn_cons,Op.eqFields,xt6]
  split
  .simp only[xt6]
   generalize xp2 P (part f.type xs f.offset)=r1
   cases r1 with
   |none=>rfl
   |some a=>
    generalize hb:xp2 P (part f.type ys f.offset)=r2
    cases r2 with
    |none=>simp[hb]
    |some b=>
     simp only[hb,xoy]
     generalize xp2 P (Op.equalIn d f.type a b)=r3
     cases r3 with
     |none=>rfl
     |some r=>
      cases r
      .rfl
      .exact ih
  .exact ih
theorem x14c(d:Nat)(t:TypeId)(k k':IntKind)(a b:Int)(h:P.underlying t=some (.int k')):xp2 P (Op.equalIn (d+1) t (.int k a) (.int k b))=some (a == b):=by
 simp[Op.equalIn,xt6,x123 h,xx3]
theorem x14d(op:BinOp)(t:TypeId)(x y:Operand)(xs ys:Array Value)(hm:P.eqGuardType P.depth t=false):xp2 P (eqGuard op t x y (.agg xs) (.agg ys))=some ():=by
 cases op<;>simp[eqGuard,xt6,xz9,xx3,hm]
theorem x14e{t:TypeId}{x y:Operand}{xs ys:List Value}{r:Bool}(hm:P.eqGuardType P.depth t=false)(hr:xp2 P (Op.equalIn 10000 t (.agg xs.toArray) (.agg ys.toArray))=some r)(hx:∃k,scs k=some xs) :
 ∀kx ky,scs kx=some xs->scs ky=some ys->sBin P .neq t x y (.agg kx) (.agg ky)=some (B (!r)):=by
 intro kx ky h1 h2
 refine sBin_0 ?_
 simp only[bin0,xpb,h1,h2,xt6,x14d _ _ _ _ _ _ hm,xoy]
 have:xp2 P (binOp .neq t (.agg xs.toArray) (.agg ys.toArray))=some (.bool (!r)):=by
  show xp2 P (do pure (Value.bool (!(<-Op.equal t (.agg xs.toArray) (.agg ys.toArray)))))=_
  simp only[xt6,Op.equal,Op.maxDepth,hr,xoy,xx3]
 rw[this];rfl
theorem und_int:Tryz.prog.underlying xpa=some (.int .i64):=by kernel_rfl
theorem x124(d:Nat)(xs ys:Array Value)(ga gb:Nat->Int):∀fs:List Field,(∀f∈fs,f.name≠"_"/\f.type=xpa/\xp2 Tryz.prog (part xpa xs f.offset)=some (.int .i64 (ga f.offset))/\xp2 Tryz.prog (part xpa ys f.offset)=some (.int .i64 (gb f.offset))) ->
 xp2 Tryz.prog (Op.eqFields (d+1) xs ys fs)=some (fs.all λf=>ga f.offset == gb f.offset)
 |[],_=>rfl
 |f::fs,h=>by
  obtain⟨h1,h2,h3,h4⟩:=h f (x18a ..)
  have ih:=x124 d xs ys ga gb fs λg hg=>h g (x183 _ hg)
  simp only[Op.eqFields,h1,ne_eq,not_false_eq_true,x18m,h2,xt6,h3,h4,xoy,x14c _ _ _ _ _ _ und_int,x18u]
  cases ga f.offset == gb f.offset
  .rfl
  .exact ih
theorem eq_ints{t:TypeId}{offs:List Nat}{xs ys:Array Value}{ga gb:Nat->Int}(hS:Tryz.prog.underlying t=some (.struct (Tryz.prog.fieldsOf t)))(hs:Tryz.prog.stoodInHeld t=false)(hF:((Tryz.prog.fieldsOf t).toList.map λf=>(f.type,f.offset,decide (f.name = "_")))=offs.map λo=>(xpa,o,false))(hp:∀o∈offs,xp2 Tryz.prog (part xpa xs o)=some (.int .i64 (ga o))/\xp2 Tryz.prog (part xpa ys o)=some (.int .i64 (gb o))) :
 xp2 Tryz.prog (Op.equalIn 10000 t (.agg xs) (.agg ys))=some (offs.all λo=>ga o == gb o):=by
 rw[show(10000:Nat)=9998+1+1 from rfl,x14b _ _ _ _ hS hs]
 generalize (Tryz.prog.fieldsOf t).toList=fs at hF
 rw[x124 9998 xs ys ga gb fs]
 .have:(fs.map λf=>f.offset)=offs:=by
   have:=congrArg (List.map λx:TypeId×Nat×Bool=>x.2.1) hF
   simpa[List.map_map,Function.comp_def]using this
  rw[<-this,List.all_map]
  rfl
 .intro f hf
  have h1:(f.type,f.offset,decide (f.name = "_"))∈offs.map λo=>(xpa,o,false):=by
   rw[<-hF];exact List.mem_map_of_mem hf
  obtain⟨o,ho,e⟩:=x18z.mp h1
  simp only[x17v]at e
  obtain⟨e1,e2,e3⟩:=e
  subst e2
  exact⟨of_decide_eq_false e3.symm,e1.symm,hp _ ho⟩
end Go.Ix
