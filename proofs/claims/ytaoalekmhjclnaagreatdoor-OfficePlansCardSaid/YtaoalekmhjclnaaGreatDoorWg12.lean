import Derived.Test.YtaoalekmhjclnaaGreatDoorWg11
import Derived.Test.YtaoalekmhjclnaaGreatDoorWg4
import Derived.Test.YtaoalekmhjclnaaGreatDoorWg8
import Derived.Test.YtaoalekmhjclnaaGreatDoorWg10
import Derived.Test.YtaoalekmhjclnaaGreatDoorWg9
set_option linter.unusedSimpArgs false
set_option linter.unusedVariables false
namespace Go.Ix
open Go.Proofs
theorem z_int10:x18x=[I 0]:=by kernel_rfl
def GL(u t:Nat)(m:Mem)(a:AV)(l:List Int):Prop:=(∃x,a=.slit [I x] 1 true/\l=[x])\/∃s ver,a=.sref (u,s,t) ver 0 l.length 1 true/\m.get (u,s,t)=some (.row (l.flatMap intE) ver false)
theorem GL.frame{u t:Nat}{m m':Mem}{a:AV}{l:List Int}(h:GL u t m a l)(hm:∀s,m'.get (u,s,t)=m.get (u,s,t)):GL u t m' a l:=by
 rcases h with h|⟨s,ver,h1,h2⟩
 .exact .inl h
 .exact .inr ⟨s,ver,h1,by rw[hm];exact h2⟩
theorem GL.at{u t:Nat}{m:Mem}{a:AV}{l:List Int}(h:GL u t m a l){k:Nat}(hk:k<l.length):∃p,sIx 1 a (I k)=some p/\sLd false 1 p m=some (I (at0 l k)):=by
 rcases h with ⟨x,rfl,rfl⟩|⟨s,ver,rfl,hg⟩
 .have:k=0:=by simpa using hk
  subst this
  exact⟨_,rfl,rfl⟩
 .refine⟨.ptr (u,s,t) ver k,by simp[sIx,asI,hk],?_⟩
  rw[x1g2,hg]
  simp only[x1bo,Nat.beq_refl,cond_true,rd,x1rc,x1qz]
  rw[x1dn,<-List.map_drop,x18b (by omega),x1cb (by omega)]
  rfl
theorem GL.len{u t:Nat}{m:Mem}{a:AV}{l:List Int}(h:GL u t m a l):sLen Tryz.prog x6 a=some (I l.length):=by
 rcases h with ⟨x,rfl,rfl⟩|⟨s,ver,rfl,hg⟩<;>rfl
theorem GL.app{u t s0 bytes:Nat}{m:Mem}{a:AV}{l:List Int}(hr:x180 (l.length+1) bytes)(h:GL u t m a l)(x:Int) :
 ∃a' m',(∀{R:Type} (k:AV->Mem->Option R),sApp 1 bytes (u,s0,t) (some (intE x,1)) a m k=k a' m')/\GL u t m' a' (l++[x])/\m'.next=m.next/\∀j:Id,j.2.2≠t->m'.get j=m.get j:=by
 rcases h with ⟨y,rfl,rfl⟩|⟨s,ver,rfl,hg⟩
 .refine⟨.sref (u,s0,t) 0 0 2 1 true,m.new (u,s0,t) (.row [I y,I x] 0 false),λk=>?_,.inr ⟨s0,0,rfl,by rw[Mem.get_new_same];rfl⟩,rfl,λj hj=>?_⟩
  .simp only[sApp]
   rw[x1qb (by simp),x1qc (by omega),x1qb (by simpa using hr)]
   rfl
  .rw[Mem.get_new,x1qc (by rintro rfl;exact hj rfl)]
 .have hl:=x1a2 x19q l
  refine⟨.sref (u,s,t) (ver+1) 0 (l.length+1) 1 true,m.set (u,s,t) (.row (l.flatMap intE++intE x) (ver+1) false),λk=>?_,.inr ⟨s,ver+1,by simp,by simp⟩,rfl,λj hj=>?_⟩
  .simp only[sApp,hg]
   rw[x1qb ⟨trivial,trivial,by omega,hr⟩,x1qc (by omega),x1qc (by rw[hl];omega),x1qm,x1r6 (by omega)]
  .rw[Mem.get_set,x1qc (by rintro rfl;exact hj rfl)]
end Go.Ix
namespace Go.Ix
open Go.Proofs
variable{l:List Ps}{kl:List Lk}{gap sto:Int}
theorem x1ge:xl=[I 0,B false,I 0]:=by kernel_rfl
theorem x1iz{R:Type}{x y:Int}{b:Bool}{id:Id}{m:Mem}{k:AV->Mem->Option R}:x17w xl [(0,3,.agg [I x,B b,I y])] 1 3 id m k=k (.slit [I x,B b,I y] 1 true) m:=by
 rw[x1ge]
 simp[x17w,x19u,x18n,List.range_succ,x188]
theorem x1j0{x y:Int}{b:Bool}:x17p xl [(0,1,I x),(1,1,B b),(2,1,I y)]=some (.agg [I x,B b,I y]):=by
 rw[x1ge]
 simp[x17p,x19u,x188]
def okB:Id->Prop:=λid=>id.1=0/\(id.2.2=57\/id.2.2=73)
theorem gk_ld{ok:Id->Prop}{m:Mem}{a:AV}{L:List Ev}(h:Gk 3 Ev.c ok m a L){k:Nat}(hk:k<L.length):∃p,sIx 3 a (I k)=some p/\sLd true 3 p m=some (.agg (L[k]).c):=by
 have H:Hd ok a 0 m m L:=⟨h,x1sd _,λ_ _ _=>rfl⟩
 have:=H.ld hk
 rw[gt_get hk]at this
 exact this
theorem l_bp(call:x17c)(hs:FHs){pa li sa:AV}{s:List Int}(h:Sl Ps.c pa l)(h3:Ints sa s)(R:RPlan l kl gap sto)(hb:∀i∈s,0<=i/\i<l.length)(hs20:s.length<=1000){id:Id}(hid:¬okB id) :
 ∀(suf:List Int) (k j:Nat) (v:AV) (acc:List Ev) (m:Mem) (fc:Nat),s.drop k=suf->suf.length<j->acc.length=k->m.get id=some (.row [pa,li,I gap,I sto] 0 false)->Gk 3 Ev.c okB m v acc ->
 ∃v' m' fc',x2p call hs 0 j (.ptr id 0 0) v sa (I s.length) (I k) m fc=x8h call hs 0 (.ptr id 0 0) v' m' fc'/\Gk 3 Ev.c okB m' v' (acc++pasE l k suf)/\m'.next=m.next/\∀j,¬okB j->m'.get j=m.get j:=by
 intro suf
 induction suf with
 |nil=>
  intro k j v acc m fc hd hj hacc hm hG
  obtain⟨j,rfl⟩:∃i,j=i+1:=⟨j-1,by simp at hj;omega⟩
  have hk:¬((k:Int)<(s.length:Int)):=by have:=x1qx.mp hd;omega
  refine⟨v,m,fc+1,?_,by simpa[pasE]using hG,rfl,λ_ _=>rfl⟩
  simp only[x2p]
  unfold x8i
  simp only[x17x,hk,x1qj,x17m,x182]
 |cons e r ih=>
  intro k j v acc m fc hd hj hacc hm hG
  obtain⟨j,rfl⟩:∃i,j=i+1:=⟨j-1,by simp at hj;omega⟩
  obtain⟨hk,he,hd1⟩:=x18t hd
  have hk':(k:Int)<(s.length:Int):=by omega
  have ix:=h3.ix x19q hk
  have ld:∀m,sLd false 1 (.plit ((s.drop k).flatMap intE)) m=some (I e):=λm=>by
   rw[x18b hk,x1ql,he];rfl
  have hbe:=hb e (he▸x1ra hk)
  have hto:=R.to hbe
  obtain⟨i,rfl⟩:∃i:Nat,e=i:=⟨e.toNat,by omega⟩
  have hi:i<l.length:=by omega
  rw[x1a8 hi]at hto
  have ixi:=h.ix Ps.len hi
  have fa2:sFA 2 (.plit ((l.drop i).flatMap Ps.c))=some (.plit (((l.drop i).flatMap Ps.c).drop 2)):=rfl
  have fa4:sFA 4 (.plit ((l.drop i).flatMap Ps.c))=some (.plit (((l.drop i).flatMap Ps.c).drop 4)):=rfl
  have ld2:∀m,sLd false 1 (.plit (((l.drop i).flatMap Ps.c).drop 2)) m=some (I l[i].to):=λm=>by
   rw[x18b hi,x1ql];rfl
  have ld4:∀m,sLd false 1 (.plit (((l.drop i).flatMap Ps.c).drop 4)) m=some (I l[i].da):=λm=>by
   rw[x18b hi,x1ql];rfl
  obtain⟨v',m1,A,G1,-,-,n1,f1⟩:=hG.app Ev.len (by omega) (bytes:=24) (id0:=(0,fc+19,57)) ⟨rfl,.inl rfl⟩ (by unfold x180;omega) (mkE l[i].to false l[i].da k)
  rw[mkE_c hto.1]at A
  have hm1:m1.get id=some (.row [pa,li,I gap,I sto] 0 false):=by rw[f1 id hid];exact hm
  obtain⟨v2,m2,fc2,r2,G2,n2,f2⟩:=ih (k+1) j v' _ m1 (fc+23) hd1 (by simp at hj;omega) (by simp;omega) hm1 G1
  refine⟨v2,m2,fc2,?_,?_,by omega,λq hq=>by rw[f2 q hq,f1 q hq]⟩
  rotate_left
  .rw[pasE,x1a8 hi]
   simpa using G2
  .rw[<-r2]
   have hel:∀(M:Mem) (x y:Int) (b:Bool),elems M.get 3 (.slit [I x,B b,I y] 1 true)=some ([I x,B b,I y],1):=λ_ _ _ _=>rfl
   simp only[x2p]
   unfold x8i
   simp only[x17x,hk',x1qk,x17m,x184,ix,ld,x19x,x19e hm,x1qs,rd_f,x1qm,List.head?_cons,ixi,fa2,ld2,fa4,ld4,x1j0,x1iz,hel,A,x18r]
   rw[x17t (by omega) (by omega),show(k:Int)+1=((k+1:Nat):Int) by omega]
theorem l_bl(call:x17c)(hs:FHs){li t2:AV}(h2:Sl Lk.c li kl)(R:RPlan l kl gap sto)(n0:Nat)(hn0:n0<=1000) :
 ∀(suf:List Lk) (k j:Nat) (v:AV) (acc:List Ev) (m:Mem) (fc:Nat),kl.drop k=suf->suf.length<j->acc.length=n0+k->Gk 3 Ev.c okB m v acc ->
 ∃v' m' fc',x2o call hs 0 j t2 v li (I kl.length) (I k) m fc=x8f call hs 0 t2 v' m' fc'/\Gk 3 Ev.c okB m' v' (acc++lnkE (n0+k) suf)/\m'.next=m.next/\∀j,¬okB j->¬(j.1=0/\j.2.2=14)->m'.get j=m.get j:=by
 intro suf
 have hk20:=R.klen
 induction suf with
 |nil=>
  intro k j v acc m fc hd hj hacc hG
  obtain⟨j,rfl⟩:∃i,j=i+1:=⟨j-1,by simp at hj;omega⟩
  have hk:¬((k:Int)<(kl.length:Int)):=by have:=x1qx.mp hd;omega
  refine⟨v,m,fc+1,?_,by simpa[lnkE]using hG,rfl,λ_ _ _=>rfl⟩
  simp only[x2o]
  unfold x8g
  simp only[x17x,hk,x1qj,x17m,x182]
 |cons e r ih=>
  intro k j v acc m fc hd hj hacc hG
  obtain⟨j,rfl⟩:∃i,j=i+1:=⟨j-1,by simp at hj;omega⟩
  obtain⟨hk,he,hd⟩:=x18t hd
  have hk':(k:Int)<(kl.length:Int):=by omega
  have ix:=h2.ix Lk.len hk
  have ld:=λm=>x1ei (m:=m) Lk.len (by omega) hk
  rw[he]at ld
  have hto:=R.lat (he▸x1ra hk:e∈kl)
  obtain⟨M,hM⟩:∃M:Mem,M=(m.new (0,fc+3,14) (.row xo 0 false)).set (0,fc+3,14) (.row e.c 0 false):=⟨_,rfl⟩
  have g0:(m.new (0,fc+3,14) (.row xo 0 false)).get (0,fc+3,14)=some (.row [I 0,I 0] 0 false):=by rw[Mem.get_new_same,z_link]
  have gM:M.get (0,fc+3,14)=some (.row [I e.at_,I e.da] 0 false):=by rw[hM,Mem.get_set_same];rfl
  have fM:∀j:Id,¬(j.1=0/\j.2.2=14)->M.get j=m.get j:=λj hj=>by
   rw[hM,Mem.get_set,x1qc (by rintro rfl;exact hj ⟨rfl,rfl⟩),Mem.get_new,x1qc (by rintro rfl;exact hj ⟨rfl,rfl⟩)]
  have nM:M.next=m.next:=by rw[hM];rfl
  have G0:Gk 3 Ev.c okB M v acc:=hG.frame λj hj=>fM j (by rintro⟨-,h2⟩;rcases hj.2 with h3|h3<;>omega)
  obtain⟨v',m1,A,G1,-,-,n1,f1⟩:=G0.app Ev.len (by omega) (bytes:=24) (id0:=(0,fc+12,73)) ⟨rfl,.inr rfl⟩ (by unfold x180;omega) (mkE e.at_ true e.da (n0+k))
  rw[mkE_c hto.1]at A
  obtain⟨v2,m2,fc2,r2,G2,n2,f2⟩:=ih (k+1) j v' _ m1 (fc+16) hd (by simp at hj;omega) (by simp;omega) G1
  refine⟨v2,m2,fc2,?_,?_,by omega,λq hq hq2=>by rw[f2 q hq hq2,f1 q hq,fM q hq2]⟩
  rotate_left
  .rw[lnkE]
   simpa[x1rl]using G2
  .rw[<-r2]
   have hel:∀(M:Mem) (x y:Int) (b:Bool),elems M.get 3 (.slit [I x,B b,I y] 1 true)=some ([I x,B b,I y],1):=λ_ _ _ _=>rfl
   simp only[x2o]
   unfold x8g
   have hst:∀{R:Type} (K:Mem->Option R),sSt 2 (.ptr (0,fc+3,14) 0 0) (.agg e.c) (m.new (0,fc+3,14) (.row xo 0 false)) K=K M:=λK=>by
    rw[st_ptr (off:=0) (z:=2) (x:=.agg e.c) (k:=K) g0 rfl (x1qi _) rfl,hM]
    rfl
   simp only[x17x,hk',x1qk,x17m,x184,ix,ld,x1b7,hst,x19x,x19e gM,x1qs,rd_f,x1qm,x1ri,List.head?_cons,x1j0,x1iz,hel,A,x18r]
   rw[x17t (by omega) (by omega),show(k:Int)+1=((k+1:Nat):Int) by omega]
theorem l_brun(call:x17c)(hs:FHs){pa li a:AV}{id:Id}(hid:id.1=0/\id.2.2=2){L:List Ev}(hL:L.length<=100)(hda:∀e∈L,0<=e.data/\e.data<=1000000)(hsto:0<=sto/\sto<=1000000)(Q:O2->Prop)(hok:∀(v:AV) (m:Mem) (o:List Int),runE sto 0 L=some o->Gk 1 intE (λid=>id.1=0/\id.2.2=94) m v o->Q (some (.tup [v,I 0],m)))(hno:∀m:Mem,runE sto 0 L=none->Q (some (.tup [nilS,I 16],m))) :
 ∀(suf:List Ev) (k j:Nat) (v:AV) (acc:List Int) (s:Int) (m:Mem) (fc:Nat),L.drop k=suf->suf.length<j->acc.length<=k->0<=s->s<=sto->runE sto 0 L=(runE sto s suf).map (acc++·)->m.get id=some (.row [pa,li,I gap,I sto] 0 false)->Gk 3 Ev.c okB m a L->Gk 1 intE (λid=>id.1=0/\id.2.2=94) m v acc ->
 Q (x2n call hs 0 j (.ptr id 0 0) v (I s) a (I L.length) (I k) m fc):=by
 intro suf
 induction suf with
 |nil=>
  intro k j v acc s m fc hd hj hacc h0 h1 hr hm hG hv
  obtain⟨j,rfl⟩:∃i,j=i+1:=⟨j-1,by simp at hj;omega⟩
  have hk:¬((k:Int)<(L.length:Int)):=by have:=x1qx.mp hd;omega
  simp only[x2n]
  unfold x8d xbn
  simp only[x17x,hk,x1qj,x17m,x182]
  exact hok v m acc (by simpa[runE]using hr) hv
 |cons e r ih=>
  intro k j v acc s m fc hd hj hacc h0 h1 hr hm hG hv
  obtain⟨j,rfl⟩:∃i,j=i+1:=⟨j-1,by simp at hj;omega⟩
  obtain⟨hk,he,hd⟩:=x18t hd
  have hk':(k:Int)<(L.length:Int):=by omega
  obtain⟨p,i1,d1⟩:=gk_ld hG hk
  rw[he]at d1
  have hde:=hda e (he▸x1ra hk)
  obtain⟨M,hM⟩:∃M:Mem,M=(m.new (0,fc+1+2,18) (.row xl 0 false)).set (0,fc+1+2,18) (.row e.c 0 false):=⟨_,rfl⟩
  have g0:(m.new (0,fc+1+2,18) (.row xl 0 false)).get (0,fc+1+2,18)=some (.row [I 0,B false,I 0] 0 false):=by rw[Mem.get_new_same,x1ge]
  have gM:M.get (0,fc+1+2,18)=some (.row [I e.t,B e.link,I e.data] 0 false):=by rw[hM,Mem.get_set_same];rfl
  have fM:∀j:Id,¬(j.1=0/\j.2.2=18)->M.get j=m.get j:=λj hj=>by
   rw[hM,Mem.get_set,x1qc (by rintro rfl;exact hj ⟨rfl,rfl⟩),Mem.get_new,x1qc (by rintro rfl;exact hj ⟨rfl,rfl⟩)]
  have hMid:M.get id=some (.row [pa,li,I gap,I sto] 0 false):=by rw[fM id (by omega)];exact hm
  have G0:Gk 3 Ev.c okB M a L:=hG.frame λj hj=>fM j (by rintro⟨-,h2⟩;rcases hj.2 with h3|h3<;>omega)
  have V0:Gk 1 intE (λid=>id.1=0/\id.2.2=94) M v acc:=hv.frame λj hj=>fM j (by omega)
  have hst:∀{R:Type} (K:Mem->Option R),sSt 3 (.ptr (0,fc+1+2,18) 0 0) (.agg e.c) (m.new (0,fc+1+2,18) (.row xl 0 false)) K=K M:=λK=>by
   rw[st_ptr (off:=0) (z:=3) (x:=.agg e.c) (k:=K) g0 rfl (x1qi _) rfl,hM]
   rfl
  simp only[x2n]
  unfold x8d xbo
  simp only[x17x,hk',x1qk,x17m,x184,i1,d1,x1b7,hst,x19x,x19e gM,x1qs,rd_f,x1qm,x1ri,List.head?_cons]
  have hw1:w64 ((k:Int)+1)=((k+1:Nat):Int):=by rw[x17t (by omega) (by omega)];omega
  cases hl:e.link with
  |true=>
   have hnx:(if e.data<s then e.data else s)=s-nxE s e.data:=by
    unfold nxE
    split<;>split<;>omega
   have hn0:0<=nxE s e.data/\nxE s e.data<=s:=by
    unfold nxE
    split<;>omega
   have hw:w64 (s-(s-nxE s e.data))=nxE s e.data:=by rw[x17t (by omega) (by omega)];omega
   have hlit:∀{R:Type} (x:Int) (id:Id) (m:Mem) (q:AV->Mem->Option R),x17w x18x [(0,1,I x)] 1 1 id m q=q (.slit [I x] 1 true) m:=λx id m q=>by rw[z_int10];exact x1ek rfl rfl rfl
   have hel:∀(M:Mem) (x:Int),elems M.get 1 (.slit [I x] 1 true)=some (intE x,1):=λ_ _=>rfl
   obtain⟨v',m1,A,G1,-,-,n1,f1⟩:=V0.app x19q (by omega) (bytes:=8) (id0:=(0,fc+1+16,94)) ⟨rfl,rfl⟩ (by unfold x180;omega) (nxE s e.data)
   simp only[x184,sMin_I,hnx,x17m,x197,hw,hlit,hel,A]
   unfold x4c
   simp only[x18r,hw1,x17m]
   refine ih (k+1) j v' _ _ m1 _ hd (by simp at hj;omega) (by simp;omega) hn0.1 (by omega) ?_ (by rw[f1 id (by omega)];exact hMid) (G0.frame λj hj=>f1 j (by rintro⟨-,h2⟩;rcases hj.2 with h3|h3<;>omega)) G1
   rw[hr,runE,x1qb hl]
   cases runE sto (nxE s e.data) r<;>simp
  |false=>
   have hw:w64 (s+e.data)=s+e.data:=x17t (by omega) (by omega)
   have hl':¬e.link=true:=by simp[hl]
   simp only[x182,x17m,x18r,hw,x19e hMid,rd_f,x1ri,x1qm,List.head?_cons,x1ag]
   by_cases c:sto<s+e.data
   .simp only[c,x1qk,x184]
    refine hno M ?_
    rw[hr,runE,x1qc hl',x1qb (by omega)]
    rfl
   .simp only[c,x1qj,x182]
    unfold x4c
    simp only[x18r,hw1,x17m]
    refine ih (k+1) j v acc _ M _ hd (by simp at hj;omega) (by omega) (by omega) (by omega) ?_ hMid G0 V0
    rw[hr,runE,x1qc hl',x1qc (by omega)]
def x1a9(l:List Ps)(kl:List Lk)(sto:Int)(s:List Int):Option (List Int):=runE sto 0 (mgE (pasE l 0 s) (lnkE s.length kl))
theorem w_Backlog(d:Nat){pa li sa:AV}{s:List Int}(h:Sl Ps.c pa l)(h2:Sl Lk.c li kl)(h3:Ints sa s)(hn:∀x∈l,x.nm.size<=1000)(hsl:s.length<=19)(hz:(planM l kl gap sto).2=0)(hs:(ckM l gap none 0 s).2=0)(m:Mem) :
 ∃v z,x17e (x17h (d+11)) xv [.agg [pa,li,I gap,I sto],sa] m=some (.tup [v,I z],m)/\((∃o,x1a9 l kl sto s=some o/\Ints v o/\z=0)\/x1a9 l kl sto s=none/\v=nilS/\z=16):=by
 have R:=x1en hz
 have hl40:=R.len
 have hk20:=R.klen
 have g2:∀{x:Ps},x∈l->0<=x.to/\x.to<=1000000000:=λhx=>(R.at hx).2.1
 have g3:∀{x:Ps},x∈l->0<=x.va/\x.va<=1000000:=λhx=>(R.at hx).2.2.1
 have key:RetF (λa=>∃v z,a=.tup [v,I z]/\((∃o,x1a9 l kl sto s=some o/\Ints v o/\z=0)\/x1a9 l kl sto s=none/\v=nilS/\z=16)) (x17h (d+11) [] xv [.agg [pa,li,I gap,I sto],sa] mem0):=by
  rw[xb8]
  unfold x39 x2q
  simp only[mem0,x19p,x19v,x1r1,x1rk,h.one,h2.one,x19w,x1re,x1rf,x18l,x1b7,x1dp]
  have hp:=x1dq (d+5) (gap:=gap) (sto:=sto) h h2 hn
  have hck:=x1g9 (d+8) (gap:=gap) (sto:=sto) h h2 h3 (by omega) (by omega) R.gap0 (λx hx=>g2 hx) (λx hx=>g3 hx)
  simp[hp,hz,h.one,h2.one,hck,hs]
  generalize hm1:Mem.set _ _ _=m1
  have hg1:m1.get (0,0,2)=some (.row [pa,li,I gap,I sto] 0 false):=by rw[<-hm1,Mem.get_set_ne (by simp),Mem.get_new_ne (by simp),Mem.get_new_same]
  have hn1:m1.next=1:=by rw[<-hm1];rfl
  unfold xbq
  simp only[h3.len x19h,x17m]
  have hb:=ck_ok hs
  obtain⟨v1,m2,fc2,r2,G2,n2,f2⟩:=l_bp (x17h (d+10)) [] (gap:=gap) (sto:=sto) (pa:=pa) (li:=li) (sa:=sa) h h3 R (λi hi=>⟨(hb.1 i hi).1,(hb.1 i hi).2.1⟩) (by omega) (id:=(0,0,2)) (by rintro⟨-,h5|h5⟩<;>simp at h5) s 0 NN nilS [] m1 27 rfl (by rw[x18k];omega) rfl hg1 Gk.nil
  rw[show I ((0:Nat):Int)=I 0 from rfl]at r2
  rw[r2]
  have hg2:m2.get (0,0,2)=some (.row [pa,li,I gap,I sto] 0 false):=by rw[f2 _ (by rintro⟨-,h5|h5⟩<;>simp at h5)];exact hg1
  unfold x8h
  simp only[x19x,x17m,x19e hg2,rd_f,x1ri,x1qm,List.head?_cons,x1qs,h2.len x190]
  obtain⟨v2,m3,fc3,r3,G3,n3,f3⟩:=l_bl (x17h (d+10)) [] (gap:=gap) (sto:=sto) (l:=l) (t2:=.ptr (0,0,2) 0 0) h2 R s.length (by omega) kl 0 NN v1 _ m2 (fc2+4) rfl (by rw[x18k];omega) (by simp[x1ep]) G2
  rw[show I ((0:Nat):Int)=I 0 from rfl]at r3
  rw[r3]
  have hg3:m3.get (0,0,2)=some (.row [pa,li,I gap,I sto] 0 false):=by rw[f3 _ (by rintro⟨-,h5|h5⟩<;>simp at h5) (by simp)];exact hg2
  simp only[x1se,x1sa]at G3
  unfold x8f
  have hlen:(pasE l 0 s++lnkE s.length kl).length=s.length+kl.length:=by rw[x1qu,x1ep,x1gb]
  obtain⟨D,m4,r4,H4,pD,qD⟩:=c_sortE d (ok:=okB) (N:=1) (M:=m3) (m:=m3) (a:=v2) (λj hj=>by rw[hj.1];exact Nat.zero_lt_one) (f:=.clo x15 []) c_cmpE [] (A:=pasE l 0 s++lnkE s.length kl) (by omega) (x1rx.mpr ⟨pasE_ix s 0,lnkE_ix kl s.length,λp hp k hk=>pl_ix s p hp k hk⟩) ⟨G3,by omega,λ_ _ _=>rfl⟩
  simp only[r4,x17m]
  have hD:=sorted_mg R hs pD qD
  have hg4:m4.get (0,0,2)=some (.row [pa,li,I gap,I sto] 0 false):=by rw[H4.k _ (by rintro⟨-,h5|h5⟩<;>simp at h5) Nat.zero_lt_one];exact hg3
  have hDl:D.length=s.length+kl.length:=by rw[qD.length_eq,hlen]
  unfold xbp
  simp only[H4.len,x17m]
  refine l_brun (x17h (d+10)) [] (gap:=gap) (sto:=sto) (pa:=pa) (li:=li) (a:=v2) (id:=(0,0,2)) ⟨rfl,rfl⟩ (L:=D) (by omega) (λe he=>ev_da R (λi hi=>⟨(hb.1 i hi).1,(hb.1 i hi).2.1⟩) (qD.mem_iff.mp he)) R.sto0 _ (λv m o h5 h6=>?_) (λm h5=>?_) D 0 NN nilS [] 0 m4 _ rfl (by rw[x18k];omega) (x1qi _) (x1sm _) R.sto0.1 (by simp) hg4 H4.g Gk.nil
  .obtain⟨v',k1,k2⟩:=h6.frz (k:=3) x19q x1g3
   exact RetF.mk (x1ix k2 frz_I) ⟨v',0,rfl,.inl ⟨o,by unfold x1a9;rw[<-hD];exact h5,k1,rfl⟩⟩
  .exact RetF.tup rfl ⟨nilS,16,rfl,.inr ⟨by unfold x1a9;rw[<-hD];exact h5,rfl,rfl⟩⟩
 obtain⟨a,⟨v,z,rfl,hv⟩,hc⟩:=callF (by simp[h.still1,h2.still1,h3.still]) key m
 exact⟨v,z,hc,hv⟩
end Go.Ix
