import Derived.Test.YtbcmiinhjgbkdaaGreatDoorWg5
import Derived.Test.YtbcmiinhjgbkdaaGreatDoorWg6
import Derived.Test.YtbcmiinhjgbkdaaGreatDoorWg12
import Derived.Test.YtbcmiinhjgbkdaaGreatDoorWg9
import Derived.Test.YtbcmiinhjgbkdaaGreatDoorWg2
import Derived.Lib.Bytealg
import Derived.Test.YtbcmiinhjgbkdaaGreatDoorFxSound
set_option linter.unusedSimpArgs false
set_option linter.unusedVariables false
set_option maxRecDepth 10000
namespace Go.Ix
open Go.Proofs
theorem w_Itoa(d:Nat){n:Int}(h0:-9223372036854775808<=n)(h1:n<=9223372036854775807)(m:Mem):x10o (x10p (d+1)) x1a [I n] m=some (Tx (decM n),m):=by
 refine Ans.call0 (m:=m) ?_ rfl rfl
 have h:x10p (d+1) [] x1a [I n] mem0=(x13w 1 [I n]).map λv=>(v,mem0):=by kernel_rfl
 unfold Ans
 have h2:x13w 1 [I n]=if -9223372036854775808<=n/\n<=9223372036854775807 then some (.sc (.string ⟨(decM n).toArray⟩))else none:=rfl
 rw[h,h2,x1m1 ⟨h0,h1⟩]
 exact⟨_,rfl⟩
theorem w_Atoi(d:Nat){l:List UInt8}(hl:l.length<=1000000)(m:Mem) :
 (∃v,Lib.atoiAll l=.ok v/\x10o (x10p (d+1)) x35 [Tx l] m=some (.tup [I v,.sc .nilIface],m))\/((∀v,Lib.atoiAll l≠.ok v)/\∃x:Int,x10o (x10p (d+1)) x35 [Tx l] m=some (.tup [I x,.un errP],m)):=by
 have h:x10p (d+1) [] x35 [Tx l] mem0=(x13w 2 [Tx l]).map λv=>(v,mem0):=by kernel_rfl
 have h2:x13w 2 [Tx l]=match Lib.atoiAll l with
  | .ok v=>some (.tup [.sc (.int .i64 v),.sc .nilIface])
  | .range=>some (.tup [.sc (.int .i64 (Lib.atoiSat l)),.un errP])
  |_=>some (.tup [.sc (.int .i64 0),.un errP]):=by
  have h3:x13w 2 [Tx l]=if(⟨l.toArray⟩:ByteArray).size<=1000000 then(match Lib.atoiAll l with
   | .ok v=>some (.tup [.sc (.int .i64 v),.sc .nilIface])
   | .range=>some (.tup [.sc (.int .i64 (Lib.atoiSat l)),.un errP])
   |_=>some (.tup [.sc (.int .i64 0),.un errP]))else none:=rfl
  rw[h3,x1m1 (by rw[x14i];exact hl)]
 cases hv:Lib.atoiAll l with
 |ok v=>
  rw[hv]at h2
  rw[h2]at h
  exact .inl ⟨v,rfl,call0_tup rfl h rfl⟩
 |range=>
  rw[hv]at h2
  rw[h2]at h
  exact .inr ⟨(λv h=>by cases h),_,call0_tup rfl h rfl⟩
 |_=>
  rw[hv]at h2
  rw[h2]at h
  exact .inr ⟨(λv h=>by cases h),_,call0_tup rfl h rfl⟩
theorem OkR.run{P:Program}{α:Type}{R:α->Prop}{a:α}(hr:R a):∀{s:Sem α},x10w P s=some a->OkR P s R
 | .pure b,h=>by
   simp only[x10w,x1m3]at h
   exact OkR.pure (by rw[h];exact hr)
 | .program k,h=>OkR.run hr (s:=k P) h
 | .mark _ k,h=>OkR.run hr (s:=k) h
 | .choose ..,h=>by simp[x10w]at h
 | .load ..,h=>by simp[x10w]at h
 | .store ..,h=>by simp[x10w]at h
 | .new ..,h=>by simp[x10w]at h
 | .shape ..,h=>by simp[x10w]at h
 | .freeze ..,h=>by simp[x10w]at h
 | .halt ..,h=>by simp[x10w]at h
theorem err_ne(t:Nat):sBin Tryz.prog .neq x10 (.tmp t) (.const .nilIface) (.un errP) (AV.sc .nilIface)=some (B true):=by
 refine sBin_1 (A:=errP) (B:=λv=>v=.nilIface) (v0:=.bool true) ⟨⟨.iface 0 .nilIface,0,.nilIface,rfl⟩,λv h=>h⟩ (Is.sc rfl) rfl ?_
 rintro u v ⟨t,z,rfl⟩ rfl
 exact OkR.run (a:=Value.bool true) (R:=λv=>v=.bool true) rfl (by kernel_rfl)
theorem nil_ne(t:Nat):sBin Tryz.prog .neq x10 (.tmp t) (.const .nilIface) (AV.sc .nilIface) (AV.sc .nilIface)=some (B false):=by kernel_rfl
theorem x173(c:UInt8):∀l:List UInt8,(cutM c l).length<=l.length+1
 |[]=>by simp[cutM]
 |x::l=>by
  have ih:=x173 c l
  unfold cutM
  split
  .simp;omega
  .split<;>simp_all<;>omega
theorem x17x(c:UInt8):∀(l:List UInt8) (w:List UInt8),w∈cutM c l->w.length<=l.length
 |[],w,h=>by
  simp[cutM]at h
  rw[h];exact x1m8 _
 |x::l,w,h=>by
  have ih:=x17x c l
  unfold cutM at h
  split at h
  .rcases x1ma.1 h with rfl|h
   .simp
   .have:=ih w h;simp;omega
  .split at h
   .rename_i h2
    exact absurd h2 (x16e c l)
   .rename_i y r h2
    rw[h2]at ih
    rcases x1ma.1 h with rfl|h
    .have:=ih y (x1mr ..);simp;omega
    .have:=ih w (x1me _ h);simp;omega
theorem x1ba(c:UInt8):∀l:List UInt8,(cutM c l).length=l.count c+1
 |[]=>rfl
 |x::l=>by
  have ih:=x1ba c l
  by_cases h:x=c
  .subst h
   rw[show x::l=[]++x::l from rfl,x16z l (by simp),x1mf,ih]
   simp
  .rw[List.count_cons_of_ne (by simpa using h),<-ih]
   have hu:cutM c (x::l)=(match cutM c l with|[]=>[[x]]|h::t=>(x::h)::t):=by
    rw[cutM,x1m0 h]
    rfl
   rw[hu]
   cases hc:cutM c l with
   |nil=>exact absurd hc (x16e c l)
   |cons a r=>rfl
theorem pr_count(s:ByteArray)(c:Int):x10w Tryz.prog (callFunc x1e #[.string s,.int .u8 c])=some (.value (.int .i64 (Lib.countByte s.data.toList c.toNat.toUInt8))):=by
 have h1:x10w Tryz.prog (callFunc x1e #[.string s,.int .u8 c])=x10w Tryz.prog (do let v <-Extern.BytealgCount.count #[.string s,.int .u8 c];pure (Next.value v)):=by kernel_rfl
 rw[h1]
 have h2:=Lib.count_foldl c.toNat.toUInt8 s.data.toList 0
 rw[<-Lib.foldl_data]at h2
 show some (Next.value (Value.int .i64 (s.foldl (λ(n:Int) x=>if x == c.toNat.toUInt8 then n+1 else n) 0)))=_
 rw[h2,Int.zero_add]
theorem w_CountS(d:Nat)(l:List UInt8)(c:UInt8)(m:Mem):x10o (x10p (d+1)) x1e [Tx l,U8 c.toNat] m=some (I (l.count c),m):=by
 refine Ans.call0 (m:=m) ?_ rfl rfl
 unfold Ans
 have h1:x10p (d+1) [] x1e [Tx l,U8 c.toNat] mem0=(x15o Tryz.prog x1e [Tx l,U8 c.toNat]).map λv=>(v,mem0):=by kernel_rfl
 have h2:ext0 Tryz.prog x1e [Tx l,U8 c.toNat]=some (I (Lib.countByte l c)):=by
  unfold ext0
  show(match x10w Tryz.prog (callFunc x1e #[.string ⟨l.toArray⟩,.int .u8 c.toNat])with
   |some (.value u)=>some (x11l u)
   |_=>none)=_
  rw[pr_count]
  have:((c.toNat:Int)).toNat.toUInt8=c:=by
   rw[x1ox];exact UInt8.ofNat_toNat
  rw[this];rfl
 rw[h1]
 unfold x15o
 rw[h2]
 exact⟨mem0,rfl⟩
theorem w_Count1(d:Nat)(l:List UInt8)(c:UInt8)(m:Mem):x10o (x10p (d+2)) x2k [Tx l,Tx [c]] m=some (I (l.count c),m):=by
 refine Ans.call0 (m:=m) ?_ rfl rfl
 unfold Ans
 rw[xv7]
 unfold xa0 x8g
 have hl1:x114 (Tx [c])=some (I 1):=x120 [c]
 have hx:sIdx Tryz.prog x0 (Tx [c]) (I 0)=some (U8 c.toNat):=x170 (l:=[c]) (k:=0) (by simp)
 simp only[mem0,hl1,x10r,x12y,show decide ((1:Int)=0)=false from rfl,x116,show decide ((1:Int)=1)=true from rfl,x112,hx,w_CountS]
 exact⟨_,rfl⟩
theorem zeros_rep(x:AV)(n:Nat):x122 [x] n=List.replicate n x:=by
 refine List.ext_getElem (by simp[x122]) λi h1 h2=>?_
 simp[x122,Nat.mod_one]
theorem z_strs:xl=[Tx []]:=by kernel_rfl
theorem set_snoc{α:Type}{a:List α}{x y:α}{b:List α}:(a++x::b).take a.length++([y]++(a++x::b).drop (a.length+1))=(a++[y])++b:=by
 rw[<-x1o9,List.take_left,show a.length+1=(a++[x]).length by simp,show a++x::b=(a++[x])++b by simp,List.drop_left]
theorem x19b(l:List (List UInt8)):(l.flatMap strE).length=l.length:=by
 have:=x135 x13p l
 omega
theorem rep_len(n:Nat):(List.replicate n (Tx [])).length=n:=List.length_replicate
theorem x1h6(d:Nat){c:UInt8}{s:List UInt8}(hs:s.length<=100000){id:Id}(u:Nat):∀(n j:Nat) (r:List UInt8) (dn:List (List UInt8)) (m:Mem) (fc:Nat),r.length<n->n<=j->r.length<=s.length->cutM c s=dn++cutM c r ->
 m.get id=some (.row (dn.flatMap strE++List.replicate (cutM c r).length (Tx [])) 0 false) ->
 ∃m',x38 (x10p (d+4)) [] u j (Tx r) (Tx [c]) (I 0) (I ((cutM c s).length-1:Nat)) (.sref id 0 0 (cutM c s).length 1 true) (I dn.length) m fc=some (.sref id 0 0 (cutM c s).length 1 true,m')/\m'.get id=some (.row ((cutM c s).flatMap strE) 0 false):=by
 intro n
 have hcl:=x173 c s
 induction n with
 |zero=>intro j r dn m fc hn;omega
 |succ n ih=>
  intro j r dn m fc hn hj hr hc hg
  obtain⟨j,rfl⟩:∃k,j=k+1:=⟨j-1,by omega⟩
  have hlen:(cutM c s).length=dn.length+(cutM c r).length:=by rw[hc,x1mk]
  have hne:0<(cutM c r).length:=x1nv.mpr (x16e c r)
  have hix:sIx 1 (.sref id 0 0 (cutM c s).length 1 true) (I dn.length)=some (.ptr id 0 dn.length):=by
   simp only[sIx,asI]
   rw[x1m1 ⟨by omega,by omega,trivial⟩]
   simp
  have hlast:(cutM c r).length=1->c∉r:=λh1=>by
   rw[x1ba]at h1
   exact List.count_eq_zero.mp (by omega)
  have stp:∀(x:List UInt8) {R:Type} (K:Mem->Option R),sSt 1 (.ptr id 0 dn.length) (Tx x) m K=K (m.set id (.row ((dn++[x]).flatMap strE++List.replicate ((cutM c r).length-1) (Tx [])) 0 false)):=λx R K=>by
   rw[x124 (z:=1) (x:=Tx x) hg rfl (by rw[x1mk,x19b,rep_len];omega) rfl]
   congr 2
   obtain⟨q,hq⟩:∃q,(cutM c r).length=q+1:=⟨(cutM c r).length-1,by omega⟩
   rw[hq,List.replicate_succ,Nat.add_sub_cancel]
   have:=set_snoc (a:=dn.flatMap strE) (x:=Tx []) (y:=Tx x) (b:=List.replicate q (Tx []))
   rw[x19b]at this
   unfold x11e
   rw[show(Tx x).cells=[Tx x]from rfl,x1q9,this]
   congr 2
   simp[strE]
  have fin:(cutM c r).length=1->∃m',x1x (x10p (d+4)) [] u (Tx r) (.sref id 0 0 (cutM c s).length 1 true) (I dn.length) m fc=some (.sref id 0 0 (cutM c s).length 1 true,m')/\m'.get id=some (.row ((cutM c s).flatMap strE) 0 false):=λh1=>by
   unfold x1x
   have w1:w64 ((dn.length:Int)+1)=((cutM c s).length:Int):=by rw[x11k (by omega) (by omega)];omega
   have hsl:x117 Tryz.prog xh (.sref id 0 0 (cutM c s).length 1 true) none (some (I (cutM c s).length))=some (.sref id 0 0 (cutM c s).length 1 true):=by
    have hi:∃i,Tryz.prog.info? x0=some i/\i.size=1:=by
     have h1:(Tryz.prog.info? x0).map (λi=>i.size)=some 1:=by kernel_rfl
     rw[x1m4]at h1
     exact h1
    obtain⟨ii,ie1,ie2⟩:=hi
    simp[x117,x118,x153,ie1,ie2,asI]
   simp only[hix,x10r,stp,x12k,w1,hsl]
   refine⟨_,rfl,?_⟩
   rw[Mem.get_set,x1m1 rfl,h1,hc,x16y (hlast h1)]
   simp
  simp only[x38]
  unfold xdf
  simp only[x11t,x10r]
  by_cases h1:(cutM c r).length=1
  .have:¬((dn.length:Int)<((cutM c s).length-1:Nat)):=by omega
   simp only[this,x1m9,x116]
   obtain⟨m',e1,e2⟩:=fin h1
   have hst:∀fc',x1x (x10p (d+4)) [] u (Tx r) (.sref id 0 0 (cutM c s).length 1 true) (I dn.length) m fc'=x1x (x10p (d+4)) [] u (Tx r) (.sref id 0 0 (cutM c s).length 1 true) (I dn.length) m fc:=λ_=>rfl
   exact⟨m',by rw[hst,e1],e2⟩
  .have hlt:(dn.length:Int)<((cutM c s).length-1:Nat):=by omega
   have hmem:c∈r:=by
    refine Classical.byContradiction λhn=>h1 ?_
    rw[x16y hn];rfl
   simp only[hlt,x1m6,x112,w_Index1,x10r]
   rcases x1b7 c r with ⟨q1,q2⟩|⟨i,q1,q2,q3,q4⟩
   .exact absurd hmem q2
   .rw[q1]
    have hi:¬((i:Int)<0):=by omega
    have hr2:cutM c r=r.take i::cutM c (r.drop (i+1)):=by
     conv=>lhs;rw[<-x1q7 i r,q4]
     exact x16z _ q3
    have w1:w64 ((i:Int)+0)=(i:Int):=by rw[x11k (by omega) (by omega)];omega
    have w2:w64 ((i:Int)+1)=((i+1:Nat):Int):=by rw[x11k (by omega) (by omega)];omega
    have w3:w64 ((dn.length:Int)+1)=((dn.length+1:Nat):Int):=by rw[x11k (by omega) (by omega)];omega
    have hl1:x114 (Tx [c])=some (I 1):=x120 [c]
    simp only[hi,x1m9,x116,x10r,x12k,w1,x_slh (show i<=r.length by omega),hix,stp,hl1,w2,x_slo (show i+1<=r.length by omega),w3]
    have:=ih j (r.drop (i+1)) (dn++[r.take i]) (m.set id (.row ((dn++[r.take i]).flatMap strE++List.replicate ((cutM c r).length-1) (Tx [])) 0 false)) (fc+28) (by simp;omega) (by omega) (by simp;omega) (by rw[hc,hr2];simp) (by
     rw[Mem.get_set,x1m1 rfl,hr2];simp)
    rw[x1mk,x1q9]at this
    exact this
theorem a_Split(d:Nat){c:UInt8}{s:List UInt8}(hs:s.length<=100000):RetF (λv=>v=.slit ((cutM c s).flatMap strE) (cutM c s).length false) (x10p (d+5) [] x2h [Tx s,Tx [c],I 0,I (-1)] mem0):=by
 rw[xv5]
 unfold x9y x8d
 have hcl:=x173 c s
 have hcc:=x1ba c s
 have hne:=x1nv.mpr (x16e c s)
 have hcm:s.count c<=s.length:=List.count_le_length
 have w1:w64 (((s.count c:Nat):Int)+1)=((cutM c s).length:Int):=by rw[x11k (by omega) (by omega)];omega
 have w2:w64 ((s.length:Int)+1)=((s.length+1:Nat):Int):=by rw[x11k (by omega) (by omega)];omega
 have w3:w64 (((cutM c s).length:Int)-1)=(((cutM c s).length-1:Nat):Int):=by rw[x11k (by omega) (by omega)];omega
 have hmin:sMin (I (cutM c s).length) (I (s.length+1:Nat))=some (I (cutM c s).length):=by
  show some (I (if((s.length+1:Nat):Int)<((cutM c s).length:Int)then _ else _))=_
  rw[x1m0 (by omega)]
 simp only[mem0,x12y,show decide ((-1:Int)=0)=false from rfl,x10r,x116]
 rw[show(AV.sc (.string ⟨#[]⟩))=Tx []from rfl,x_eq]
 simp only[show decide ([c]=([]:List UInt8))=false from by simp,x10r,x116]
 unfold xdg
 simp only[x11t,show decide ((-1:Int)<0)=true from rfl,x10r,x112,w_Count1,x12k,w1]
 unfold x8c
 simp only[x120,x10r,x12k,w2,hmin,x166,w3]
 have hmk:∀(id:Id) {R:Type} (m:Mem) (K:AV->Mem->Option R),x12r xl 1 16 (I (cutM c s).length) (I (cutM c s).length) id m K=K (.sref id 0 0 (cutM c s).length 1 true) (m.new id (.row (List.replicate (cutM c s).length (Tx [])) 0 false)):=λid R m K=>by
  simp only[x12r,asI]
  rw[x1m1 ⟨by omega,by omega,by omega,by omega⟩,z_strs,x1ox,x1o4]
  congr 2
  rw[zeros_rep]
 rw[hmk]
 obtain⟨m',e1,e2⟩:=x1h6 d hs (id:=(0,0+5+7+7,31)) 0 (s.length+1) NN s [] ((⟨[],0+1⟩:Mem).new (0,0+5+7+7,31) (.row (List.replicate (cutM c s).length (Tx [])) 0 false)) (0+5+7+13) (by omega) (by rw[x12a];omega) (x1m8 _) rfl (by rw[Mem.get_new,x1m1 rfl];rfl)
 have e1':x38 (x10p (d+4)) [] 0 NN (Tx s) (Tx [c]) (I 0) (I ((cutM c s).length-1:Nat)) (.sref (0,0+5+7+7,31) 0 0 (cutM c s).length 1 true) (I 0) ((⟨[],0+1⟩:Mem).new (0,0+5+7+7,31) (.row (List.replicate (cutM c s).length (Tx [])) 0 false)) (0+5+7+13)=_:=e1
 rw[e1']
 refine RetF.mk ?_ rfl
 have hfl:=x19b (cutM c s)
 have:=x15m (objs:=m'.get) (id:=(0,0+5+7+7,31)) (cs:=(cutM c s).flatMap strE) (ver:=0) (off:=0) (n:=(cutM c s).length) (z:=1) (k:=4) (f:=false) (x:=true) e2 (by omega) (by
  rw[x1mi,x1mb (by omega)];exact x13c x172 _)
 rw[x1mi,x1mb (by omega)]at this
 exact this
theorem w_Split(d:Nat)(c:UInt8){s:List UInt8}(hs:s.length<=100000)(m:Mem):x10o (x10p (d+6)) x2b [Tx s,Tx [c]] m=some (.slit ((cutM c s).flatMap strE) (cutM c s).length false,m):=by
 refine x16a rfl ?_ m
 rw[xuy]
 unfold x9r x7z
 have h:=λm=>x16a rfl (a_Split d (c:=c) hs) m
 simp only[mem0,h,x10r]
 refine RetF.st ?_ rfl
 simp[still,x13c x172]
def x13q:List (List UInt8)->List (List UInt8)
 |[]=>[]
 |[p]=>if p=[]then[]else[p]
 |p::q::r=>(p++[10])::x13q (q::r)
def x12d(s:List UInt8):List (List UInt8):=x13q (cutM 10 s)
theorem x1ec:x12d []=[]:=rfl
theorem linesM_no{s:List UInt8}(h0:s≠[])(h:(10:UInt8)∉s):x12d s=[s]:=by
 unfold x12d
 rw[x16y h]
 simp[x13q,h0]
theorem x1ed{l:List UInt8}(k:List UInt8)(h:(10:UInt8)∉l):x12d (l++10::k)=(l++[10])::x12d k:=by
 unfold x12d
 rw[x16z k h]
 cases hc:cutM 10 k with
 |nil=>exact absurd hc (x16e 10 k)
 |cons a r=>rfl
theorem x1h7(d:Nat)(l:List UInt8)(c:UInt8)(m:Mem):x10o (x10p (d+3)) x29 [Tx l,U8 c.toNat] m=some (I (Lib.indexByte l c),m):=by
 refine Ans.call0 (m:=m) ?_ rfl rfl
 unfold Ans
 rw[xuw]
 unfold x9p x7x
 simp only[x1ea,x10r]
 exact⟨_,rfl⟩
theorem w_Lines(d:Nat)(s:List UInt8)(m:Mem):∃M,x13f (x10p (d+1)) x1m [Tx s] m=some (.clo xx [.ptr (m.next,0,1) 0 0],M) /\
 M.get (m.next,0,1)=some (.row [Tx s] 0 false)/\M.next=m.next+1/\∀j:Id,j.1<m.next->M.get j=m.get j:=by
 have h1:x10p (d+1) [] x1m [Tx s] ⟨[],m.next⟩=some (.clo xx [.ptr (m.next,0,1) 0 0],(⟨[],m.next+1⟩:Mem).new (m.next,0,1) (.row [Tx s] 0 false)):=by
  rw[xui];rfl
 obtain⟨M,hc,hn,hj⟩:=call1 (m:=m) (l:=[Tx s]) rfl h1
 refine⟨M,hc,?_,hn,λj hlt=>?_⟩
 .rw[hj,x1m1 (x1m8 _)];simp
 .rw[hj,x1m0 (by omega)]
theorem c_lines(d:Nat){hh:FHs}{id:Id}{h:List AV->Mem->Option Mem}{s:List UInt8}(hs:s.length<=100000)(hl:x14a hh id=some h){i2:Id}{m0:Mem}(g2:m0.get i2=some (.row [Tx s] 0 false))(Inv:List (List UInt8)->Mem->Prop)(Fin:Mem->Prop)(hst:∀pre m l,Inv pre m->Inv pre (m.set i2 (.row [Tx l] 0 false)))(hy:∀pre w post m,x12d s=pre++w::post->Inv pre m->∃m2,h [Tx w] m=some m2/\((live m2.get id=true/\Inv (pre++[w]) m2/\m2.get i2=m.get i2)\/(live m2.get id=false/\Fin m2)))(h0:Inv [] ⟨m0.hp,m0.next+1⟩) :
 ∃m',x10p (d+4) hh xx [.yld id,.ptr i2 0 0] m0=some (.tup [],m')/\(Inv (x12d s) m'\/Fin m'):=by
 rw[xuv]
 unfold x9o
 have e2:(⟨m0.hp,m0.next+1⟩:Mem).get i2=some (.row [Tx s] 0 false):=g2
 simp only
 generalize (⟨m0.hp,m0.next+1⟩:Mem)=m at *
 generalize m0.next=u
 have ld:∀{m:Mem} {i:Id} {x:AV},m.get i=some (.row [x] 0 false)->x.one=true->sLd false 1 (.ptr i 0 0) m=some x:=λhg hx=>by
  simp[hg,hx]
 have loop:∀(n j:Nat) (r:List UInt8) (pre:List (List UInt8)) (m:Mem) (fc:Nat),r.length<n->n<=j->r.length<=100000->x12d s=pre++x12d r->m.get i2=some (.row [Tx r] 0 false)->Inv pre m ->
  ∃m',x33 (x10p (d+3)) hh u j (.yld id) (.ptr i2 0 0) m fc=some (.tup [],m')/\(Inv (x12d s) m'\/Fin m'):=by
  intro n
  induction n with
  |zero=>intro j r pre m fc hn;omega
  |succ n ih=>
   intro j r pre m fc hn hj hr hc f2 hI
   obtain⟨j,rfl⟩:∃k,j=k+1:=⟨j-1,by omega⟩
   simp only[x33]
   unfold xce
   simp only[ld f2 rfl,x10r,x120,x12x]
   by_cases hz:r=[]
   .subst hz
    simp only[x1mt,show decide ((0:Int)<((0:Nat):Int))=false from rfl,x116]
    refine⟨m,rfl,.inl ?_⟩
    rw[hc,x1ec,x1n0];exact hI
   have hpos:(0:Int)<(r.length:Int):=by
    have:=x1nv.mpr hz
    omega
   simp only[hpos,x1m6,x112]
   unfold xcd xcc
   have hib:=λm=>x1h7 d r 10 m
   rw[show((10:UInt8).toNat:Int)=10 from rfl]at hib
   simp only[ld f2 rfl,x10r]
   rw[show(AV.sc (.int .u8 10))=U8 10 from rfl]
   simp only[hib,x10r,sGe_I]
   rcases x1b7 10 r with ⟨q1,q2⟩|⟨i,q1,q2,q3,q4⟩
   .rw[q1]
    simp only[show decide ((0:Int)<=-1)=false from rfl,x116,ld f2 rfl,x10r]
    rw[linesM_no hz q2]at hc
    rw[show(AV.sc (.string ⟨#[]⟩))=Tx []from rfl,x124 (z:=1) (x:=Tx []) f2 rfl (by simp) rfl]
    have hset:x11e [Tx r] 0 (Tx []).cells=[Tx []]:=rfl
    rw[hset]
    unfold x45
    obtain⟨m2,k1,k2⟩:=hy pre r [] (m.set i2 (.row [Tx []] 0 false)) hc (hst _ _ _ hI)
    simp only[inv_y hl k1,x10r]
    rcases k2 with ⟨kl,k2,k3⟩|⟨kl,k2⟩
    .rw[kl]
     simp only[x13n,x1mh,x116,x10r]
     rw[Mem.get_set,x1m1 rfl]at k3
     refine ih j [] (pre++[r]) m2 _ (by simp;omega) (by omega) (by simp) (by rw[hc,x1ec];simp) k3 k2
    .rw[kl]
     simp only[x13n,x1md,x112,x10r]
     exact⟨m2,rfl,.inr k2⟩
   .rw[q1]
    have hi:(0:Int)<=(i:Int):=by omega
    have hr2:x12d r=(r.take i++[10])::x12d (r.drop (i+1)):=by
     conv=>lhs;rw[<-x1q7 i r,q4]
     exact x1ed _ q3
    rw[hr2]at hc
    have ht:r.take (i+1)=r.take i++[10]:=by
     rw[List.take_add_one]
     have:r[i]?=some 10:=by
      have h5:=congrArg List.head? q4
      rw[x1px]at h5
      exact h5
     rw[this];rfl
    have w2:w64 ((i:Int)+1)=((i+1:Nat):Int):=by rw[x11k (by omega) (by omega)];omega
    simp only[hi,x1m6,x112,ld f2 rfl,x10r,x12k,w2,x_slh (show i+1<=r.length by omega),x_slo (show i+1<=r.length by omega),ht]
    rw[x124 (z:=1) (x:=Tx (r.drop (i+1))) f2 rfl (by simp) rfl]
    have hset:x11e [Tx r] 0 (Tx (r.drop (i+1))).cells=[Tx (r.drop (i+1))]:=rfl
    rw[hset]
    unfold x45
    obtain⟨m2,k1,k2⟩:=hy pre (r.take i++[10]) _ (m.set i2 (.row [Tx (r.drop (i+1))] 0 false)) hc (hst _ _ _ hI)
    simp only[inv_y hl k1,x10r]
    rcases k2 with ⟨kl,k2,k3⟩|⟨kl,k2⟩
    .rw[kl]
     simp only[x13n,x1mh,x116,x10r]
     rw[Mem.get_set,x1m1 rfl]at k3
     refine ih j (r.drop (i+1)) (pre++[r.take i++[10]]) m2 _ (by simp;omega) (by omega) (by simp;omega) (by rw[hc];simp) k3 k2
    .rw[kl]
     simp only[x13n,x1md,x112,x10r]
     exact⟨m2,rfl,.inr k2⟩
 exact loop (s.length+1) NN s [] m _ (by omega) (by rw[x12a];omega) hs rfl e2 h0
def endL(l:List UInt8):Bool:=decide (l.getLast?=some 10)
theorem w_HasSuf(d:Nat){l:List UInt8}(hl:l.length<=100000)(m:Mem):x10o (x10p (d+1)) x2g [Tx l,Tx [10]] m=some (B (endL l),m):=by
 refine Ans.call0 (m:=m) ?_ rfl rfl
 unfold Ans
 rw[xv4]
 unfold x9x x8b
 have hl1:x114 (Tx [10])=some (I 1):=x120 [10]
 simp only[mem0,x120,hl1,x10r,sGe_I]
 by_cases c:l=[]
 .subst c
  simp only[x1mt,show decide ((1:Int)<=((0:Nat):Int))=false from rfl,x11p,x11y,sW_t,x11i,x10r,x11b]
  exact⟨_,rfl⟩
 .have hp:=x1nv.mpr c
  have h1:(1:Int)<=(l.length:Int):=by omega
  have w1:w64 ((l.length:Int)-1)=((l.length-1:Nat):Int):=by rw[x11k (by omega) (by omega)];omega
  have hlast:(l.drop (l.length-1)=[10])↔l.getLast?=some 10:=by
   rw[List.getLast?_eq_getElem?]
   constructor
   .intro h
    have:=congrArg List.head? h
    rw[x1px]at this
    exact this
   .intro h
    obtain⟨h2,h3⟩:=x1mw.mp h
    rw[x1nu h2,h3,show l.length-1+1=l.length by omega,List.drop_length]
  simp only[h1,x1m6,x11p,x11y,sW_t,x119,x10r,x120,hl1,x166,w1,x_slo (show l.length-1<=l.length by omega),x_eq,x11b]
  have he:decide (l.drop (l.length-1)=[10])=endL l:=decide_eq_decide.mpr hlast
  rw[he]
  exact⟨_,rfl⟩
theorem w_CutSuf(d:Nat){l:List UInt8}(hl:l.length<=100000)(m:Mem):x10o (x10p (d+3)) x23 [Tx l,Tx [10]] m=some (.tup [Tx (if endL l=true then l.dropLast else l),B (endL l)],m):=by
 have h2:∀m,x10o (x10p (d+2)) x2a [Tx l,Tx [10]] m=some (.tup [Tx (if endL l=true then l.dropLast else l),B (endL l)],m):=λm=>by
  refine Ans.call0_tup (m:=m) ?_ rfl rfl
  unfold Ans
  rw[xux]
  unfold x9q x7y
  have hl1:x114 (Tx [10])=some (I 1):=x120 [10]
  have hh:=λm=>w_HasSuf d hl m
  simp only[mem0,hh,x10r,x13n]
  cases he:endL l
  .simp only[x1md,x112,x1mp,x1mg]
   exact⟨_,rfl⟩
  .have hne:l≠[]:=by
    rintro rfl
    cases he
   have hp:=x1nv.mpr hne
   have w1:w64 ((l.length:Int)-1)=((l.length-1:Nat):Int):=by rw[x11k (by omega) (by omega)];omega
   simp only[x1mh,x116,x120,hl1,x10r,x166,w1,x_slh (show l.length-1<=l.length by omega),x1mo,List.dropLast_eq_take]
   exact⟨_,rfl⟩
 refine Ans.call0_tup (m:=m) ?_ rfl rfl
 unfold Ans
 rw[xuj]
 unfold x9a x7c
 simp only[mem0,h2,x10r,x144,x1nd,x1ne]
 exact⟨_,rfl⟩
theorem x1bb:∀(K u k:Nat),u<10 ^ k->1<=k->(digF K u).length<=k
 |0,u,k,_,_=>by simp[digF]
 |K+1,u,k,h,hk=>by
  unfold digF
  split
  .simp;omega
  .rename_i c
   obtain⟨k,rfl⟩:∃q,k=q+1:=⟨k-1,by omega⟩
   have h2:u / 10<10 ^ k:=by rw[Nat.pow_succ]at h;omega
   have hk1:1<=k:=by
    rcases Nat.eq_zero_or_pos k with rfl|h3
    .simp at h;omega
    .exact h3
   have:=x1bb K (u / 10) k h2 hk1
   simp;omega
theorem x19c{n:Int}{d:Nat}(hd:1<=d)(hi:-9223372036854775808<=n/\n<=9223372036854775807)(h:n.natAbs<10 ^ d):nbrM (decM n) d=some n:=by
 rw[x1b3 hi.1 hi.2,x1m1]
 unfold unsg decM
 by_cases c:n<0
 .rw[x1m1 c]
  have:=x1bb 20 n.natAbs d h hd
  simpa using this
 .rw[x1m0 c]
  have:=x1bb 20 n.toNat d (by rw[show n.toNat=n.natAbs by omega];exact h) hd
  split
  .simp;omega
  .exact this
theorem x1bc{call:x10m}{f:FuncId}{l l':List AV}{m:Mem}{r:AV}(hl:l.mapM (Go.Ix.frz m.get deep)=some l')(hst:l'.all still=true)(h:∀m,x10o call f l' m=some (r,m)) :
 x10o call f l m=some (r,⟨x12o (l.flatMap (reach m.get deep)) m.hp,m.next⟩):=by
 have h1:=h mem0
 have hm1:l'.mapM (Go.Ix.frz mem0.get deep)=some l':=x18x _ hst
 unfold x10o at h1 ⊢
 rw[hm1]at h1
 rw[hl]
 dsimp only at h1 ⊢
 cases hc:call [] f l' mem0 with
 |none=>rw[hc]at h1;cases h1
 |some p=>
  rw[hc]at h1
  dsimp only at h1 ⊢
  cases hf:Go.Ix.frz p.2.get deep p.1 with
  |none=>rw[hf]at h1;cases h1
  |some r0=>
   rw[hf]at h1
   have:=congrArg Prod.fst (x1nb h1)
   dsimp only at this
   subst this
   rfl
theorem x1bd{ids:List Id}{j:Id}{m:Mem}(hn:j∉ids):(⟨x12o ids m.hp,m.next⟩:Mem).get j=m.get j:=by
 show hget (x12o ids m.hp) j=_
 rw[congrFun (x17f ids m.hp) j]
 unfold shut
 rw[x1m0 hn];rfl
theorem x1ee{ids:List Id}{j:Id}{m:Mem}{cs:List AV}{v:Nat}{b:Bool}(h:m.get j=some (.row cs v b)):∃b',(⟨x12o ids m.hp,m.next⟩:Mem).get j=some (.row cs v b'):=by
 show ∃b',hget (x12o ids m.hp) j=_
 rw[congrFun (x17f ids m.hp) j]
 unfold shut
 have h':hget m.hp j=some (.row cs v b):=h
 split
 .rw[h'];exact⟨true,rfl⟩
 .exact⟨b,h'⟩
theorem x1ef{m:Mem}{id:Id}{ver off n z v k:Nat}{x b:Bool}{cs:List AV}(hg:m.get id=some (.row cs v b))(hs:cs.all still1=true):Go.Ix.reach m.get (k+2) (.sref id ver off n z x)=[id]:=by
 show(match m.get id with
  |some (.row cs _ _)=>id::((cs.drop off).take (n*z)).flatMap (Go.Ix.reach m.get (k+1))
  |_=>[id])=[id]
 rw[hg]
 show id::((cs.drop off).take (n*z)).flatMap (Go.Ix.reach m.get (k+1))=[id]
 congr 1
 rw[x1on]
 exact λa ha=>x18w m.get k (x1m7.mp hs a (x1ow (x1po ha)))
theorem Gk.reachK{α:Type}{z:Nat}{enc:α->List AV}(hs:∀x,(enc x).all still1=true){ok:Id->Prop}{m:Mem}{a:AV}{l:List α}(h:Gk z enc ok m a l)(k:Nat):∀i∈Go.Ix.reach m.get (k+2) a,ok i:=by
 rcases h with ⟨rfl,rfl⟩|⟨id,ver,h0,rfl,hg⟩
 .intro i hi;cases hi
 .intro i hi
  rw[x1ef hg (x13c hs l),x1o8]at hi
  rw[hi];exact h0
end Go.Ix
