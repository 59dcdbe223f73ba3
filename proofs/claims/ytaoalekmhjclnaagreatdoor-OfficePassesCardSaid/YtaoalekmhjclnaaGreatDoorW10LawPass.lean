import Derived.Test.YtaoalekmhjclnaaGreatDoorWg12
import Derived.Test.YtaoalekmhjclnaaGreatDoorWg11
set_option linter.unusedSimpArgs false
set_option linter.unusedVariables false
namespace Go.Ix
open Go.Proofs
theorem x1ic(d:Nat){pa li:AV}{gap sto:Int}{l:List Ps}{kl:List Lk}(h:Sl Ps.c pa l)(h2:Sl Lk.c li kl)(hn:∀x∈l,x.nm.size<=1000)(hz:(planM l kl gap sto).2≠0)(m:Mem) :
 x15e (x15i (d+6)) xu [.agg [pa,li,I gap,I sto]] m=some (.tup [nilS,nilS,I 0,I (planM l kl gap sto).2],m):=by
 obtain⟨m',h'⟩:∃m',x15i (d+6) [] xu [.agg [pa,li,I gap,I sto]] mem0=some (.tup [nilS,nilS,I 0,I (planM l kl gap sto).2],m'):=by
  rw[xjk]
  unfold x48 x3v
  simp only[mem0,x17f,x17l,x1oc,x1ox,h.one,h2.one,x17m,x1ou,x1oo,x16o,x19j,x1bi]
  simp[x1aq d (gap:=gap) (sto:=sto) h h2 hn,h.one,h2.one,hz]
 exact call0_tup (by simp[h.still1,h2.still1]) h' rfl
theorem law_OfficePasses{pa li sa:AV}{l:List Ps}{kl:List Lk}{s:List Int}(hl:l.length<=9223372036854775807)(h:Sl Ps.c pa l)(h2:Sl Lk.c li kl)(gap sto:Int)(h4:Ints sa s) :
 ∃m',x15i 31 [] x2s [.agg [pa,li,I gap,I sto],sa] mem0=some (B true,m'):=by
 rw[xxu]
 unfold x96 x7d
 simp only[mem0,x17f,x17l,x1oc,x1ox,h.one,h2.one,x17m,x1ou,x1oo,x16o]
 generalize hm0:Mem.new _ _ _=m0
 have hg:m0.get (0,0,2)=some (.row [pa,li,I gap,I sto] 0 false):=by rw[<-hm0,Mem.get_new_same]
 have hsh:=w_short 29 (gap:=gap) (sto:=sto) h h2 hl m0
 simp[w_awake10,hg,hsh]
 cases hs:shM l kl with
 |false=>simp
 |true=>
 have hb:(∀x∈l,x.nm.size<=1000)/\l.length<=42/\kl.length<=22:=by
  simp only[shM,x1o1,x1ol,x1o3,x1oy]at hs
  refine⟨λx hx=>?_,by omega,by omega⟩
  have:=hs.1 x hx
  omega
 obtain⟨hn,hl42,hk22⟩:=hb
 simp[h4.len x17v]
 by_cases h20:20<s.length
 .simp[h20,show(20:Int)<s.length by omega]
 simp[h20,show ¬((20:Int)<s.length) by omega,hg]
 obtain⟨p1,q1,c1,c2,hc⟩:=x1i4 29 (gap:=gap) (sto:=sto) h h2 (by omega) (by omega) m0
 have hr:=x1i6 28 (gap:=gap) (sto:=sto) h h2 m0
 by_cases hz:(planM l kl gap sto).2=0
 .have R:=x1dy hz
  obtain⟨ba,la,b1,b2,hbp⟩:=x1ib 24 (gap:=gap) (sto:=sto) c1 c2 hn R m0
  have hlen:=x172 l gap l.length
  have hbl:(bestS l gap).length<=42:=by
   have:=x1ci (l:=l) (gap:=gap) (lab:=x15n l gap l.length) l.length l.length
   unfold bestS
   rw[List.length_reverse];omega
  have k1:=x1i7 28 (sto:=sto) h h2 b1 (by omega) R m0
  have k2:=x1i8 28 (gap:=gap) (sto:=sto) h h2 b2 R m0
  have k3:=w_rBest 28 (gap:=gap) (sto:=sto) h h2 R m0
  obtain⟨ba1,d1,hd⟩:=x1dz 29 b1 (by omega) m0
  obtain⟨la1,d2,hd2⟩:=x1dz 29 b2 (by omega) m0
  obtain⟨sa1,d3,hd3⟩:=x1dz 29 h4 (by omega) m0
  have k4:=x1gj 24 (gap:=gap) (sto:=sto) c1 c2 d1 hn (by omega) m0
  have k5:=x1i3 24 (gap:=gap) (sto:=sto) c1 c2 d2 hn (by omega) m0
  have k6:=x1gj 24 (gap:=gap) (sto:=sto) c1 c2 d3 hn (by omega) m0
  have e2:∀s,x1aa l kl gap sto s=ckM l gap none 0 s:=λs=>by unfold x1aa;rw[hz];rfl
  have e1:labM l kl gap sto (x15n l gap l.length)=x17q l gap (x15n l gap l.length):=by unfold labM;rw[hz];rfl
  have e3:ckM l gap none 0 (bestS l gap)=(at0 (x15n l gap l.length) l.length,0):=back_ok R
  have e4:=labs_fin R
  rw[e3]at k1
  rw[e4]at k2
  rw[e2,e3]at k4
  rw[e1,e4]at k5
  rw[e2]at k6
  simp[hc,hbp,hr,hz,hg,k1,k2,k3,hd,hd2,hd3,k4,k5,k6]
  by_cases y2:(ckM l gap none 0 s).2=0
  .have:=x1ia R (by rw[e4]) y2
   rw[e4]at this
   simp[y2]
   exact this
  .simp[y2]
 .have hbp:=x1ic 24 (gap:=gap) (sto:=sto) c1 c2 hn hz m0
  have hl0:sLen Tryz.prog x4 nilS=some (I 0):=x1bd x17v
  have hw0:w64 ((0:Int)+0)=0:=rfl
  simp[hc,hbp,hr,hz,hg,hl0,hw0]
end Go.Ix
