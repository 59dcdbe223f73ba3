import Derived.Test.YtaoalekmhjclnaaGreatDoorWg2
import Derived.Test.YtaoalekmhjclnaaGreatDoorW10Plan
import Derived.Test.YtaoalekmhjclnaaGreatDoorWg0
import Derived.Test.YtaoalekmhjclnaaGreatDoorWg1
set_option maxRecDepth 100000
namespace Go.Proofs.YtaoalekmhjclnaaGreatDoor
open Go.ChangeShapes Go.WideShapes Go.ChangeAt Go.RowKit Go.Ix
theorem sl_shL{α:Type}{enc:α->List AV}{P:Program}{t e:TypeId}{z:AV}(ht:P.underlying t=some (.slice e))(hr:∀r,r.length=P.cellsOf e->Sh P e r->∃x,r=enc x)(f:Sh P t [z]):∃l,Sl enc z l/\l.length<=maxLen:=by
 rcases Sh.slice_inv ht f with h1|⟨rows,x,h1,h2,h3,h4⟩
 .simp at h1;exact⟨[],Or.inl ⟨h1,rfl⟩,x1sd _⟩
 .obtain⟨l,rfl⟩:=x1g4 (enc:=enc) λr hm=>hr r (h2 r hm) (h3 r hm)
  simp at h1
  exact⟨l,Or.inr ⟨x,by simpa[List.flatMap]using h1⟩,by simpa using h4⟩
theorem pass_sh{r:List AV}(hl:r.length=Tryz.prog.cellsOf x25)(hr:Sh Tryz.prog x25 r):∃x:Ps,r=x.c:=by
 obtain⟨fs,h1,h2⟩:=fs_of (t:=x25) (l:=[(x0,0),(x17r,1),(x17r,2),(x17r,3),(x17r,4)]) (by kernel_rfl)
 obtain⟨-,hff⟩:=Sh.struct_inv h1 hr
 have hc:Tryz.prog.cellsOf x25=5:=by kernel_rfl
 have hci:Tryz.prog.cellsOf x17r=1:=by kernel_rfl
 have hcs:Tryz.prog.cellsOf x0=1:=by kernel_rfl
 rw[hc]at hl
 match r,hl with
 |[x,y,z,w,v],_=>
  have:∀p∈fs.toList.map (λf=>(f.type,f.offset)),Sh Tryz.prog p.1 (([x,y,z,w,v].drop p.2).take (Tryz.prog.cellsOf p.1)):=λp hp=>by
   obtain⟨f,hf,rfl⟩:=x1rr.mp hp
   exact hff f hf
  rw[h2]at this
  have a0:=this _ (x1r3 ..)
  have a1:=this (x17r,1) (by simp)
  have a2:=this (x17r,2) (by simp)
  have a3:=this (x17r,3) (by simp)
  have a4:=this (x17r,4) (by simp)
  simp only[hci,hcs,x1qm,x1u0,x1sn,x1ri]at a0 a1 a2 a3 a4
  obtain⟨s,hs⟩:=sh_str a0
  obtain⟨p1,e1⟩:=x1b8 a1
  obtain⟨p2,e2⟩:=x1b8 a2
  obtain⟨p3,e3⟩:=x1b8 a3
  obtain⟨p4,e4⟩:=x1b8 a4
  simp at hs e1 e2 e3 e4
  exact⟨⟨s,p1,p2,p3,p4⟩,by rw[hs,e1,e2,e3,e4];rfl⟩
theorem link_sh{r:List AV}(hl:r.length=Tryz.prog.cellsOf x37)(hr:Sh Tryz.prog x37 r):∃x:Lk,r=x.c:=by
 obtain⟨fs,h1,h2⟩:=fs_of (t:=x37) (l:=[(x17r,0),(x17r,1)]) (by kernel_rfl)
 obtain⟨a,b,e⟩:=two_sh h1 h2 (by kernel_rfl) hr
 exact⟨⟨a,b⟩,e⟩
theorem plan_in{a:AV}(h:ArgSh Tryz.prog x36 a):∃pa li gap sto l kl,a=.agg [pa,li,I gap,I sto]/\Sl Ps.c pa l/\Sl Lk.c li kl/\l.length<=9223372036854775807:=by
 obtain⟨fs,h1,h2⟩:=fs_of (t:=x36) (l:=[(xf,0),(xg,1),(x17r,2),(x17r,3)]) (by kernel_rfl)
 obtain⟨q,rfl,hq⟩:=h.struct h1
 obtain⟨hl,hff⟩:=Sh.struct_inv h1 hq
 have hc:Tryz.prog.cellsOf x36=4:=by kernel_rfl
 have hc1:Tryz.prog.cellsOf xf=1:=by kernel_rfl
 have hc2:Tryz.prog.cellsOf xg=1:=by kernel_rfl
 have hci:Tryz.prog.cellsOf x17r=1:=by kernel_rfl
 rw[hc]at hl
 match q,hl with
 |[x,y,v,w],_=>
  have:∀p∈fs.toList.map (λf=>(f.type,f.offset)),Sh Tryz.prog p.1 (([x,y,v,w].drop p.2).take (Tryz.prog.cellsOf p.1)):=λp hp=>by
   obtain⟨f,hf,rfl⟩:=x1rr.mp hp
   exact hff f hf
  rw[h2]at this
  have a0:=this _ (x1r3 ..)
  have a1:=this (xg,1) (by simp)
  have a2:=this (x17r,2) (by simp)
  have a3:=this (x17r,3) (by simp)
  simp only[hc1,hc2,hci,x1qm,x1u0,x1sn,x1ri]at a0 a1 a2 a3
  obtain⟨l,g1,g2⟩:=sl_shL (e:=x25) (by kernel_rfl) (λr hl hr=>pass_sh hl hr) a0
  obtain⟨kl,g3⟩:=sl_sh (e:=x37) (by kernel_rfl) (λr hl hr=>link_sh hl hr) a1
  obtain⟨gap,e1⟩:=x1b8 a2
  obtain⟨sto,e2⟩:=x1b8 a3
  simp at e1 e2
  subst e1 e2
  exact⟨x,y,gap,sto,l,kl,rfl,g1,g3,g2⟩
end Go.Proofs.YtaoalekmhjclnaaGreatDoor
set_option linter.unusedSimpArgs false
set_option linter.unusedVariables false
namespace Go.Ix
variable{α:Type}{R:α->α->Prop}
theorem x1cu(ht:∀{a b c},R a b->R b c->R a c){A B:List α}(hA:A.Pairwise R)(hB:B.Pairwise R)(h:A=[]\/B=[]\/∃(A' B':List α) (x y:α),A=A'++[x]/\B=y::B'/\R x y):∀u∈A,∀v∈B,R u v:=by
 intro u hu v hv
 rcases h with rfl|rfl|⟨A',B',x,y,rfl,rfl,h⟩
 .cases hu
 .cases hv
 .have h1:u=x\/R u x:=by
   rcases x1rh.mp hu with hu|hu
   .exact .inr ((x1rx.mp hA).2.2 u hu x (by simp))
   .simp at hu;exact .inl hu
  have h2:v=y\/R y v:=by
   rcases x1qp.mp hv with hv|hv
   .exact .inl hv
   .exact .inr ((x1qo.mp hB).1 v hv)
  rcases h1 with rfl|h1<;>rcases h2 with rfl|h2
  .exact h
  .exact ht h h2
  .exact ht h1 h
  .exact ht (ht h1 h) h2
def Over(lt:α->α->Bool)(R:α->α->Prop)(A B:List α):Prop:=∀x∈A,∀y∈B,(lt y x=true->R y x)/\(lt y x=false->R x y)
theorem Over.sub{lt:α->α->Bool}{A B A' B':List α}(h:Over lt R A B)(ha:∀x∈A',x∈A)(hb:∀y∈B',y∈B):Over lt R A' B':=λx hx y hy=>h x (ha x hx) y (hb y hy)
theorem x1ce(A:List α)(k:Nat)(h:k<=A.length):∃A1 A2,A=A1++A2/\A1.length=k:=⟨A.take k,A.drop k,(List.take_append_drop k A).symm,by simp;omega⟩
theorem x1dm(A:List α)(h:A≠[]):∃A' x,A=A'++[x]:=⟨A.dropLast,A.getLast h,(List.dropLast_concat_getLast h).symm⟩
end Go.Ix
namespace Go.Ix
variable{R:Type}{m:Mem}
theorem x1dn:∀l:List Int,l.flatMap intE=l.map I
 |[]=>rfl
 |x::l=>by rw[x1ql,x1dn l];rfl
theorem x1kd(l:List Int):(l.flatMap intE).length=l.length:=by rw[x1dn];simp
@[simp high] theorem ldRow_int{l:List Int}{k:Nat}{fz:Bool}(hk:k<l.length):x1bo false 1 0 k (some (.row (l.flatMap intE) 0 fz))=some (I (at0 l k)):=by
  simp only[x1bo,Nat.beq_refl,cond_true,rd,x1rc,x1qz]
  rw[x1dn,<-List.map_drop,x18b hk,x1cb hk]
  rfl
@[simp high] theorem stRow_int{l:List Int}{k:Nat}{v:Int}(hk:k<l.length):stRow 1 0 k (I v) (some (.row (l.flatMap intE) 0 false))=some (.row ((l.set k v).flatMap intE) 0 false):=by
  have h:(0:Nat)=0/\(I v).cells.length=1/\k+1<=(l.flatMap intE).length/\((I v).cells.all AV.one)=true:=⟨rfl,rfl,by rw[x1kd];omega,rfl⟩
  rw[x1g1,x1ro h,cond_true]
  simp only[x1dn,x188,cells_I]
  congr 2
  rw[List.map_set,List.set_eq_take_append_cons_drop,x1qb (by simpa using hk)]
  simp
end Go.Ix
namespace Go.Ix
open Go.Proofs
variable{α:Type}{z:Nat}{enc:α->List AV}{l:List α}{a:AV}
def Gq{α:Type}(z:Nat)(enc:α->List AV)(u:Nat)(T:List Nat)(m:Mem)(a:AV)(l:List α):Prop:=
 (a=nilS/\l=[])\/∃s t ver,t∈T/\a=.sref (u,s,t) ver 0 l.length z true/\m.get (u,s,t)=some (.row (l.flatMap enc) ver false)
theorem Gq.nil{u:Nat}{T:List Nat}{m:Mem}:Gq z enc u T m nilS []:=Or.inl ⟨rfl,rfl⟩
theorem Gq.frame{u:Nat}{T:List Nat}{m m':Mem}(h:Gq z enc u T m a l)(hm:∀s t,t∈T->m'.get (u,s,t)=m.get (u,s,t)):Gq z enc u T m' a l:=by
 rcases h with h|⟨s,t,ver,h0,h1,h2⟩
 .exact Or.inl h
 .exact Or.inr ⟨s,t,ver,h0,h1,by rw[hm _ _ h0];exact h2⟩
theorem Gq.app(hz:∀x,(enc x).length=z)(h0:0<z){u t0 s0 bytes:Nat}{T:List Nat}{m:Mem}(ht:t0∈T)(hr:x180 (l.length+1) bytes)(h:Gq z enc u T m a l)(x:α) :
 ∃a' m',(∀{R:Type} (k:AV->Mem->Option R),sApp z bytes (u,s0,t0) (some (enc x,1)) a m k=k a' m')/\Gq z enc u T m' a' (l++[x])/\m'.next=m.next/\∀j:Id,j.2.2∉T->m'.get j=m.get j:=by
 rcases h with ⟨rfl,rfl⟩|⟨s,t,ver,h1,rfl,hg⟩
 .refine⟨.sref (u,s0,t0) 0 0 1 z true,m.new (u,s0,t0) (.row (enc x) 0 false),λk=>?_,Or.inr ⟨s0,t0,0,ht,rfl,by simp⟩,rfl,λj hj=>?_⟩
  .simp only[sApp]
   rw[x1qc (by omega),x1qb (by simpa using hr)]
  .rw[Mem.get_new,x1qc (by rintro rfl;exact hj ht)]
 .have hl:=x1a2 hz l
  refine⟨.sref (u,s,t) (ver+1) 0 (l.length+1) z true,m.set (u,s,t) (.row (l.flatMap enc++enc x) (ver+1) false),λk=>?_,Or.inr ⟨s,t,ver+1,h1,by simp,by simp⟩,rfl,λj hj=>?_⟩
  .simp only[sApp,hg]
   rw[x1qb ⟨trivial,trivial,by omega,hr⟩,x1qc (by omega),x1qc (by rw[hl,x1s3];omega),x1qm,x1r6 (by omega)]
  .rw[Mem.get_set,x1qc (by rintro rfl;exact hj h1)]
theorem Gq.frz(hz:∀x,(enc x).length=z)(hs:∀x,(enc x).all still1=true){u:Nat}{T:List Nat}{m:Mem}(h:Gq z enc u T m a l):∃a',Sl enc a' l/\Go.Ix.frz m.get deep a=some a':=by
 rcases h with ⟨rfl,rfl⟩|⟨s,t,ver,_,rfl,hg⟩
 .exact⟨nilS,Or.inl ⟨rfl,rfl⟩,rfl⟩
 .have hl:=x1a2 hz l
  refine⟨.slit (l.flatMap enc) l.length false,Sl.lit l false,?_⟩
  have:=x1dj (objs:=m.get) (id:=(u,s,t)) (cs:=l.flatMap enc) (ver:=ver) (off:=0) (n:=l.length) (z:=z) (k:=4) (f:=false) (x:=true) hg (by omega) (by
   rw[x1qm,x1r6 (by omega)];exact x1ct hs l)
  rw[x1qm,x1r6 (by omega)]at this
  exact this
theorem Gq.len{u:Nat}{T:List Nat}{m:Mem}{t e:TypeId}(ht:Tryz.prog.underlying t=some (.slice e))(h:Gq z enc u T m a l):sLen Tryz.prog t a=some (I l.length):=by
 rcases h with ⟨rfl,rfl⟩|⟨s,t,ver,_,rfl,hg⟩
 .exact x1di ht
 .rfl
end Go.Ix
