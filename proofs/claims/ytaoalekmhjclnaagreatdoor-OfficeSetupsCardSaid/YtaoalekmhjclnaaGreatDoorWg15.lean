import Derived.Test.YtaoalekmhjclnaaGreatDoorWg0
import Derived.ProofKit
import Derived.Test.YtaoalekmhjclnaaGreatDoorW10PtsR
namespace Go.Ix
theorem e_awake10:((x180 30 [] x2x [] mem0).map (λp=>p.1))=some (B true):=by kernel_rfl
theorem w_awake10(m:Mem):x17z (x180 30) x2x [] m=some (B true,m):=by
 have h:=e_awake10
 rw[x1sk]at h
 obtain⟨⟨r,m'⟩,h1,rfl⟩:=h
 exact call0 rfl h1 rfl
end Go.Ix
set_option linter.unusedSimpArgs false
set_option linter.unusedVariables false
set_option maxRecDepth 10000
namespace Go.Ix
open Go.Proofs
variable{ba pa ea:AV}{bl:List Bd}{pl:List Pn}{el:List Pe}{wv mg:Int}
theorem x1hv(x:ByteArray):∀{bl bl':List Bd} (k:Int),bl'.map Bd.core=bl.map Bd.core->idxB x k bl'=idxB x k bl
 |[],bl',k,h=>by simp at h;subst h;rfl
 |b::r,[],k,h=>by simp at h
 |b::r,b'::r',k,h=>by
  rw[x1su,x1su]at h
  obtain⟨e1,e2⟩:=List.cons.inj h
  have e3:b'.nm=b.nm:=congrArg (·.1) e1
  rw[idxB,idxB,e3,x1hv x (k+1) e2]
theorem x1kp{bl bl':List Bd}(x:ByteArray)(h:bl'.map Bd.core=bl.map Bd.core):ptsE wv mg bl' pl el x=ptsE wv mg bl pl el x:=by
 unfold ptsE
 rw[x1kl h,x1hv x 0 h]
theorem x1mi{b b':Bd}(h:b'.core=b.core):namesP b' pl=namesP b pl:=by
 have e:b'.cs=b.cs:=congrArg (·.2.1) h
 unfold namesP inB
 rw[e]
theorem ptsN_core{bl bl':List Bd}(x:ByteArray)(h:bl'.map Bd.core=bl.map Bd.core):ptsN wv mg bl' pl el x=ptsN wv mg bl pl el x:=by
 unfold ptsN
 rw[x1kp x h,x1hv x 0 h]
 have hg:∀n:Nat,(bl'[n]?).map Bd.core=(bl[n]?).map Bd.core:=λn=>by rw[<-x1ul,h,x1ul]
 have:=hg (idxB x 0 bl).toNat
 split
 .rfl
 .cases h1:bl'[(idxB x 0 bl).toNat]? with
  |none=>
   rw[h1]at this
   cases h2:bl[(idxB x 0 bl).toNat]? with
   |none=>rfl
   |some b=>rw[h2]at this;simp at this
  |some b'=>
   rw[h1]at this
   cases h2:bl[(idxB x 0 bl).toNat]? with
   |none=>rw[h2]at this;simp at this
   |some b=>
    rw[h2]at this
    exact x1mi (x1u0 this)
theorem core_nm{bl bl':List Bd}(h:bl'.map Bd.core=bl.map Bd.core)(hn:∀x∈bl,x.nm.size<=1000/\x.cs.length<=1000):∀x∈bl',x.nm.size<=1000/\x.cs.length<=1000:=λx hx=>by
 have:x.core∈bl.map Bd.core:=h▸x1w6 hx
 obtain⟨y,hy,e⟩:=x1tp.mp this
 have e1:y.nm=x.nm:=congrArg (·.1) e
 have e2:y.cs=x.cs:=congrArg (·.2.1) e
 have:=hn y hy
 rw[e1,e2]at this
 exact this
theorem slM_of(h:slM bl pl el=true):bl.length<=8/\pl.length<=10/\el.length<=12/\(∀x∈bl,x.nm.size<=1000/\x.cs.length<=1000)/\(∀x∈pl,x.nm.size<=1000)/\∀x∈el,x.nm.size<=1000:=by
 unfold slM slBd slPn slPe sl20 at h
 simp only[x1sl,x1tt,x1sq]at h
 obtain⟨h1,h2,h3,h4,h5,h6⟩:=h
 refine⟨h1,h2,h3,λx hx=>?_,λx hx=>?_,λx hx=>?_⟩
 .have:=h4 x hx;omega
 .have:=h5 x hx;omega
 .have:=h6 x hx;omega
theorem law_OfficeSetups(h1:Sl Bd.c ba bl)(h2:Sl Pn.c pa pl)(h3:Sl Pe.c ea el)(wv mg:Int)(x:ByteArray) :
 ∃m',x180 31 [] x4b [.agg [I wv,I mg,ba,pa,ea],T x] mem0=some (B true,m'):=by
 rw[xzm]
 unfold xbb x8f
 have ho:(AV.agg [I wv,I mg,ba,pa,ea]).cells.all AV.one=true:=by rw[x19n];simp[h1.one,h2.one,h3.one]
 simp only[mem0,x19f,ho,x18m]
 generalize hm1:Mem.new _ _ _=m1
 have hg:m1.get (0,0,2)=some (.row [I wv,I mg,ba,pa,ea] 0 false):=by rw[<-hm1,Mem.get_new_same];rfl
 have l5:sLd true 5 (.ptr (0,0,2) 0 0) m1=some (.agg [I wv,I mg,ba,pa,ea]):=by rw[x183 hg];rfl
 have hsl:x17z (x180 30) x1u [.agg [I wv,I mg,ba,pa,ea]] m1=some (B (slM bl pl el),m1):=w_Slight 29 h1 h2 h3 m1
 simp only[w_awake10,x182,x19y,x1sr,x18b,l5,hsl]
 cases c1:slM bl pl el
 .simp only[x1ss,x19z,x192,sW_f,x1sr,x199,x182,x18z,x18m,x18a]
  exact⟨_,rfl⟩
 obtain⟨hb,hp,he,hnb,hnp,hne⟩:=slM_of c1
 by_cases c2:x.size<=20
 rotate_left
 .simp only[x1sr,x19z,x192,sW_f,x1ss,x18m,x182,x1dn,x19t,show((20:Int)<(x.size:Int)) by omega,x1si,x18z,x199,x18a]
  exact⟨_,rfl⟩
 simp only[x1sr,x19z,x192,sW_f,x1ss,x18m,x182,x1dn,x19t,show ¬((20:Int)<(x.size:Int)) by omega,x1sm,x18z,x199,x18b,l5]
 obtain⟨ba1,pa1,ea1,bl1,u1,k1,u2,u3,hc1⟩:=x1ma 29 (wv:=wv) (mg:=mg) h1 h2 h3 (by omega) (by omega) (by omega) (λb hb=>by have:=(hnb b hb).2;omega) m1
 have hn1:=core_nm k1 hnb
 have hl1:bl1.length=bl.length:=by simpa using congrArg List.length k1
 have hck:x17z (x180 30) x11 [.agg [I wv,I mg,ba1,pa1,ea1]] m1=some (I (x1a3 wv mg bl pl el),m1):=by
  rw[<-x1kl k1];exact x1ki 24 u1 u2 u3 (by omega) (by omega) (by omega) hn1 hnp hne m1
 obtain⟨a,ha,hpt⟩:=x1md 22 (wv:=wv) (mg:=mg) u1 u2 u3 (by omega) (by omega) (by omega) hn1 hnp hne x m1
 rw[ptsN_core x k1]at ha
 rw[x1kp x k1]at hpt
 have hrc:x17z (x180 30) x1w [.agg [I wv,I mg,ba,pa,ea]] m1=some (I (x1a3 wv mg bl pl el),m1):=x1m8 24 h1 h2 h3 (by omega) (by omega) (by omega) (λx hx=>(hnb x hx).2) m1
 have x0:∀(a:AV) (e:Int),sExt (.tup [a,I e]) 0=some a:=λ_ _=>rfl
 have x1:∀(a:AV) (e:Int),sExt (.tup [a,I e]) 1=some (I e):=λ_ _=>rfl
 have hbu:x17z (x180 30) x1h [.agg [I wv,I mg,ba,pa,ea],T x] m1=some (I (idxB x 0 bl),m1):=x1mf 29 h1 h2 h3 (by omega) x m1
 simp only[hc1,hck,hpt,x182,l5,x0,x1,hrc,x1aa,x1si,x1sr,x18b]
 unfold xcq
 have fin:∀(e:Int) fc,e≠0->ptsE wv mg bl pl el x=e->∃m',x3j (x180 30) [] 0 (T x) (.ptr (0,0,2) 0 0) a (I (ptsE wv mg bl pl el x)) (I e) m1 fc=some (B true,m'):=λe fc h0 h=>by
  have hN:ptsN wv mg bl pl el x=[]:=by unfold ptsN;rw[x1sc (by rw[h];exact h0)]
  rw[hN]at ha
  have hla:sLen Tryz.prog xc a=some (I 0):=ha.len x1ci
  unfold x3j
  simp only[x1aa,h0,x1sm,x1ss,x182,x18a,x1a9,h,x1si,x19z,x192,sW_t,x18m,hla,x18z]
  exact⟨_,rfl⟩
 by_cases c3:x1a3 wv mg bl pl el=0
 rotate_left
 .have h5:ptsE wv mg bl pl el x=x1a3 wv mg bl pl el:=by unfold ptsE;rw[x1sc c3]
  simp only[x1a9,c3,x1sm,x182,x19z,x192,x19q,sW_t,x199,x18z,x18b]
  exact fin _ _ c3 h5
 simp only[x1a9,c3,x1si,x182,x19z,x192,x19q,sW_t,x18m,l5,hbu,x18k,x18z]
 by_cases c4:idxB x 0 bl<0
 .have h5:ptsE wv mg bl pl el x=6:=by unfold ptsE;rw[x1sd (by simp[c3]),x1sc c4]
  simp only[c4,x1si,x18a]
  exact fin _ _ (by decide) h5
 simp only[c4,x1sm,x18b]
 have h5:ptsE wv mg bl pl el x=0:=by unfold ptsE;rw[x1sd (by simp[c3]),x1sd c4]
 obtain⟨i,hi0,hi⟩:∃i:Nat,idxB x 0 bl=i/\i<bl.length:=by
  rcases idxB_s x bl 0 with h|⟨i,h,hi⟩
  .omega
  .exact⟨i,by omega,hi⟩
 obtain⟨hE,hN⟩:=x1kn c3
 have hz:=hE _ (x1t0 hi)
 have eN:ptsN wv mg bl pl el x=namesP bl[i] pl:=by
  unfold ptsN
  rw[h5,hi0,x1uy,x1t5 hi]
  rfl
 rw[eN]at ha
 obtain⟨sa,hsa,hrp⟩:=x1mh 26 (wv:=wv) (mg:=mg) h1 h2 h3 (by omega) hi hz hN m1
 have hsl:=ixP_len bl[i] pl 0
 obtain⟨na,hna,hnm⟩:=w_names 29 (wv:=wv) (mg:=mg) h1 h2 h3 hsa (by omega) (ixP_in bl[i] pl 0 rfl) m1
 rw[show ixP bl[i] 0 pl=ixP bl[i] ((0:Nat):Int) pl from rfl,x1ko bl[i] pl 0 rfl]at hna
 have hlen:=x1km bl[i] pl
 have htx:=w_Texts 29 ha hna (by omega) m1
 have q1:clean1 ba=true:=by rcases h1 with ⟨rfl,-⟩|⟨y,rfl⟩<;>rfl
 have q2:clean1 pa=true:=by rcases h2 with ⟨rfl,-⟩|⟨y,rfl⟩<;>rfl
 have q3:clean1 ea=true:=by rcases h3 with ⟨rfl,-⟩|⟨y,rfl⟩<;>rfl
 have q4:clean1 sa=true:=by rcases hsa with ⟨rfl,-⟩|⟨y,rfl⟩<;>rfl
 have cp:clean (.agg [I wv,I mg,ba,pa,ea])=true:=by simp[clean,q1,q2,q3]
 unfold x3j
 simp only[x1aa,x1si,x1sr,x182,x18b,x1a9,h5,x19z,x192,x19q,sW_t,x18m,l5,hbu,hi0,hrp,hnm,htx,x18z]
 have hmk:∀z:AV,clean z=true->mkM 0 [.agg [I wv,I mg,ba,pa,ea],z]=2:=λz hz=>by unfold mkM;simp[cp,hz]
 rw[hmk _ rfl,hmk _ rfl,hmk sa (by rcases hsa with ⟨rfl,-⟩|⟨y,rfl⟩<;>rfl)]
 exact⟨_,rfl⟩
end Go.Ix
