import Derived.Test.YtibmppgmjbpdmaaGreatDoorWg2
import Derived.Test.YtibmppgmjbpdmaaGreatDoorWg11
set_option maxRecDepth 100000
namespace Go.Proofs.YtibmppgmjbpdmaaGreatDoor
open Go.ChangeShapes Go.WideShapes Go.ChangeAt Go.RowKit Go.Ix
theorem sl_shE{α:Type}{enc:α->List AV}{P:Program}{t e:TypeId}{z:AV}(ht:P.underlying t=some (.slice e))(hr:∀r,r.length=P.cellsOf e->Sh P e r->∃x,r=enc x)(f:Sh P t [z]):∃l,Sl enc z l/\l.length<=maxLen:=by
 rcases Sh.slice_inv ht f with h1|⟨rows,x,h1,h2,h3,h4⟩
 .simp at h1;exact⟨[],Or.inl ⟨h1,rfl⟩,x1qx _⟩
 .obtain⟨l,rfl⟩:=x1gs (enc:=enc) λr hm=>hr r (h2 r hm) (h3 r hm)
  simp at h1
  exact⟨l,Or.inr ⟨x,by simpa[List.flatMap]using h1⟩,by simpa using h4⟩
theorem ent_sh{r:List AV}(hl:r.length=Tryz.prog.cellsOf xb)(hr:Sh Tryz.prog xb r):∃x:Ent,r=x.c:=by
 obtain⟨fs,h1,h2⟩:=fs_of (t:=xb) (l:=[(x0,0),(x0,1)]) (by kernel_rfl)
 obtain⟨-,hff⟩:=Sh.struct_inv h1 hr
 have hc:Tryz.prog.cellsOf xb=2:=by kernel_rfl
 have hcs:Tryz.prog.cellsOf x0=1:=by kernel_rfl
 rw[hc]at hl
 match r,hl with
 |[x,y],_=>
  have:∀p∈fs.toList.map (λf=>(f.type,f.offset)),Sh Tryz.prog p.1 (([x,y].drop p.2).take (Tryz.prog.cellsOf p.1)):=λp hp=>by
   obtain⟨f,hf,rfl⟩:=x1q8.mp hp
   exact hff f hf
  rw[h2]at this
  have a0:=this _ (x1pp ..)
  have a1:=this (x0,1) (by simp)
  simp only[hcs,x1po,x1r2,x1sr,List.drop_succ_cons]at a0 a1
  obtain⟨s,hs⟩:=sh_str a0
  obtain⟨t,ht⟩:=sh_str a1
  simp at hs ht
  exact⟨⟨s.data.toList,t.data.toList⟩,by rw[hs,ht,Tx_of s,Tx_of t];rfl⟩
theorem log_in{a:AV}(h:ArgSh Tryz.prog x5 a):∃l,Sl Ent.c a l/\l.length<=9223372036854775807:=
 sl_shE (e:=xb) (by kernel_rfl) (λr hl hr=>ent_sh hl hr) (h.slice (t:=x5) (e:=xb) (by kernel_rfl))
theorem byte_in{a:AV}(h:ArgSh Tryz.prog x1 a):∃b:UInt8,a=U8 b.toNat:=by
 obtain⟨n,h,hw⟩:=h.int (t:=x1) (k:=.u8) (by kernel_rfl)
 have e1:IntKind.u8.min=0:=by kernel_rfl
 have e2:IntKind.u8.max=255:=by kernel_rfl
 have hw:(decide (IntKind.u8.min<=n)&&decide (n<=IntKind.u8.max))=true:=hw
 rw[e1,e2,x1p4,x1qf,x1qf]at hw
 refine⟨UInt8.ofNat n.toNat,?_⟩
 rw[h]
 have:(UInt8.ofNat n.toNat).toNat=n.toNat:=UInt8.toNat_ofNat_of_lt' (by show n.toNat<256;omega)
 rw[this]
 congr 3
 omega
end Go.Proofs.YtibmppgmjbpdmaaGreatDoor
set_option linter.unusedSimpArgs false
namespace Go.Ix
open Go.Proofs
structure Ps where
 nm:ByteArray
 fr:Int
 to:Int
 va:Int
 da:Int
def Ps.c(x:Ps):List AV:=[T x.nm,I x.fr,I x.to,I x.va,I x.da]
theorem Ps.len(x:Ps):x.c.length=5:=rfl
structure Lk where
 at_:Int
 da:Int
def Lk.c(x:Lk):List AV:=[I x.at_,I x.da]
theorem Lk.len(x:Lk):x.c.length=2:=rfl
def lkBad(l:List Lk)(x:Lk):Int:=bif !wi x.at_ 0 1000000000||!wi x.da 0 1000000 then 2
    else bif(match l.getLast? with|some y=>decide (x.at_<=y.at_)|none=>false)then 9 else 0
def pw2(l:List Ps)(x:Ps):Int:=
 bif !wi x.fr 0 1000000000||!wi x.to 0 1000000000||!wi x.va 0 1000000||!wi x.da 0 1000000 then 2
 else bif decide (x.to<=x.fr)then 26
 else bif(match l.getLast? with|some y=>decide (x.to<y.to)|none=>false)then 9 else 0
def pwErr(l:List Ps)(x:Ps):Int:=bif decide (namedM x.nm (l.map Ps.nm)≠0)then namedM x.nm (l.map Ps.nm)else pw2 l x
def psErr(l:List Ps):Nat->List Ps->Int×Int
 |_,[]=>(0,0)
 |k,x::r=>bif decide (pwErr (l.take k) x≠0)then((k:Int),pwErr (l.take k) x)else psErr l (k+1) r
def psFin(res:Int×Int)(l:List Ps)(k:Nat)(suf:List Ps):Int×Int:=bif decide ((psErr l k suf).2≠0)then psErr l k suf else res
def lkErr(l:List Lk):Nat->List Lk->Int×Int
 |_,[]=>(0,0)
 |k,x::r=>bif decide (lkBad (l.take k) x≠0)then((k:Int),lkBad (l.take k) x)else lkErr l (k+1) r
def lkFin(res:Int×Int)(l:List Lk)(k:Nat)(suf:List Lk):Int×Int:=bif decide ((lkErr l k suf).2≠0)then lkErr l k suf else res
def planM(ps:List Ps)(ls:List Lk)(gap sto:Int):Int×Int:=
 bif decide (40<ps.length)then(0,8)
 else psFin (bif decide (20<ls.length)then(0,8)else lkFin (0,bif wi gap 0 1000000&&wi sto 0 1000000 then 0 else 2) ls 0 ls) ps 0 ps
structure RPlan (l:List Ps) (kl:List Lk) (gap sto:Int):Prop where
 ok:(planM l kl gap sto).2=0
 len:l.length<=40
 klen:kl.length<=20
 gap0:0<=gap/\gap<=1000000
 sto0:0<=sto/\sto<=1000000
 ps:∀(k:Nat) (h:k<l.length),pwErr (l.take k) l[k]=0
 ls:∀(k:Nat) (h:k<kl.length),lkBad (kl.take k) kl[k]=0
theorem pw_ok{l:List Ps}{x:Ps}(h:pwErr l x=0):(0<=x.fr/\x.fr<=1000000000)/\(0<=x.to/\x.to<=1000000000)/\(0<=x.va/\x.va<=1000000)/\(0<=x.da/\x.da<=1000000)/\x.fr<x.to/\∀y,l.getLast?=some y->y.to<=x.to:=by
 unfold pwErr at h
 by_cases hq:namedM x.nm (l.map Ps.nm)=0
 .rw[hq]at h
  simp only[ne_eq,not_true,x1pc,x15t,pw2]at h
  cases h1:wi x.fr 0 1000000000<;>cases h2:wi x.to 0 1000000000<;>cases h3:wi x.va 0 1000000<;>cases h4:wi x.da 0 1000000<;>simp[h1,h2,h3,h4]at h
  by_cases hb:x.to<=x.fr
  .simp[hb]at h
  .simp only[hb,x1pc,x15t]at h
   simp only[wi,x1p4,x1qf]at h1 h2 h3 h4
   refine⟨by omega,by omega,by omega,by omega,by omega,λy hy=>?_⟩
   rw[hy]at h
   by_cases hz:x.to<y.to
   .simp[hz]at h
   .omega
 .simp[hq]at h
theorem RPlan.at{l:List Ps}{kl:List Lk}{gap sto:Int}(R:RPlan l kl gap sto){x:Ps}(hx:x∈l):(0<=x.fr/\x.fr<=1000000000)/\(0<=x.to/\x.to<=1000000000)/\(0<=x.va/\x.va<=1000000)/\(0<=x.da/\x.da<=1000000)/\x.fr<x.to:=by
 obtain⟨k,hk,rfl⟩:=List.getElem_of_mem hx
 have:=pw_ok (R.ps k hk)
 exact⟨this.1,this.2.1,this.2.2.1,this.2.2.2.1,this.2.2.2.2.1⟩
end Go.Ix
