import Derived.Test.YtaoalekmhjclnaaGreatDoorWg3
import Derived.Test.YtaoalekmhjclnaaGreatDoorWg10
set_option maxRecDepth 100000
namespace Go.Proofs.YtaoalekmhjclnaaGreatDoor
open Go.ChangeShapes Go.WideShapes Go.ChangeAt Go.RowKit Go.Ix
theorem cs_i:Tryz.prog.cellsOf x18n=1:=by kernel_rfl
theorem cs_t:Tryz.prog.cellsOf x5=1:=by kernel_rfl
theorem cs_pl:Tryz.prog.cellsOf x17=3:=by kernel_rfl
theorem fld{t:TypeId}{fs:Array Go.Field}{l:List (TypeId×Nat)}{r:List AV}(h2:fs.toList.map (λf=>(f.type,f.offset))=l)(hff:∀f∈fs.toList,Sh Tryz.prog f.type ((r.drop f.offset).take (Tryz.prog.cellsOf f.type))):∀p∈l,Sh Tryz.prog p.1 ((r.drop p.2).take (Tryz.prog.cellsOf p.1)):=by
 subst h2
 intro p hp
 obtain⟨f,hf,rfl⟩:=x1tp.mp hp
 exact hff f hf
theorem x1kj{r:List AV}(hl:r.length=Tryz.prog.cellsOf x17)(hr:Sh Tryz.prog x17 r):∃x:Pl,r=x.c:=by
 obtain⟨fs,h1,h2⟩:=fs_of (t:=x17) (l:=[(x18n,0),(x18n,1),(x18n,2)]) (by kernel_rfl)
 obtain⟨-,hff⟩:=Sh.struct_inv h1 hr
 rw[cs_pl]at hl
 match r,hl with
 |[x,y,z],_=>
  have:=fld (t:=x18n) h2 hff
  have a0:=this (x18n,0) (by simp)
  have a1:=this (x18n,1) (by simp)
  have a2:=this (x18n,2) (by simp)
  simp only[cs_i,x1sf,x1t8,x1t2,x1sj]at a0 a1 a2
  obtain⟨p0,e0⟩:=x1d7 a0
  obtain⟨p1,e1⟩:=x1d7 a1
  obtain⟨p2,e2⟩:=x1d7 a2
  simp at e0 e1 e2
  exact⟨⟨p0,p1,p2⟩,by rw[e0,e1,e2];rfl⟩
theorem x1m7{r:List AV}(hl:r.length=Tryz.prog.cellsOf x2u)(hr:Sh Tryz.prog x2u r):∃x:Bd,r=x.c:=by
 obtain⟨fs,h1,h2⟩:=fs_of (t:=x2u) (l:=[(x5,0),(xk,1),(x18n,2)]) (by kernel_rfl)
 obtain⟨-,hff⟩:=Sh.struct_inv h1 hr
 have hc:Tryz.prog.cellsOf x2u=3:=by kernel_rfl
 have hc1:Tryz.prog.cellsOf xk=1:=by kernel_rfl
 rw[hc]at hl
 match r,hl with
 |[x,y,z],_=>
  have:=fld (t:=x18n) h2 hff
  have a0:=this (x5,0) (by simp)
  have a1:=this (xk,1) (by simp)
  have a2:=this (x18n,2) (by simp)
  simp only[cs_i,cs_t,hc1,x1sf,x1t8,x1t2,x1sj]at a0 a1 a2
  obtain⟨s,e0⟩:=x1fo a0
  obtain⟨l,g1⟩:=sl_sh (e:=x17) (by kernel_rfl) (λr hl hr=>x1kj hl hr) a1
  obtain⟨p2,e2⟩:=x1d7 a2
  simp at e0 e2
  exact⟨⟨s,y,l,p2,g1⟩,by rw[e0,e2];rfl⟩
theorem point_sh{r:List AV}(hl:r.length=Tryz.prog.cellsOf x2v)(hr:Sh Tryz.prog x2v r):∃x:Pn,r=x.c:=by
 obtain⟨fs,h1,h2⟩:=fs_of (t:=x2v) (l:=[(x5,0),(x17,1)]) (by kernel_rfl)
 obtain⟨-,hff⟩:=Sh.struct_inv h1 hr
 have hc:Tryz.prog.cellsOf x2v=4:=by kernel_rfl
 rw[hc]at hl
 match r,hl with
 |[x,y,z,w],_=>
  have:=fld (t:=x18n) h2 hff
  have a0:=this (x5,0) (by simp)
  have a1:=this (x17,1) (by simp)
  simp only[cs_t,cs_pl,x1sf,x1t8,x1t2,x1sj]at a0 a1
  obtain⟨s,e0⟩:=x1fo a0
  obtain⟨p,e1⟩:=x1kj (by rw[cs_pl];rfl) a1
  simp[Pl.c]at e0 e1
  exact⟨⟨s,p⟩,by rw[e0,e1.1,e1.2.1,e1.2.2];rfl⟩
theorem person_sh{r:List AV}(hl:r.length=Tryz.prog.cellsOf x2w)(hr:Sh Tryz.prog x2w r):∃x:Pe,r=x.c:=by
 obtain⟨fs,h1,h2⟩:=fs_of (t:=x2w) (l:=[(x5,0),(x18n,1)]) (by kernel_rfl)
 obtain⟨-,hff⟩:=Sh.struct_inv h1 hr
 have hc:Tryz.prog.cellsOf x2w=2:=by kernel_rfl
 rw[hc]at hl
 match r,hl with
 |[x,y],_=>
  have:=fld (t:=x18n) h2 hff
  have a0:=this (x5,0) (by simp)
  have a1:=this (x18n,1) (by simp)
  simp only[cs_t,cs_i,x1sf,x1t8,x1t2,x1sj]at a0 a1
  obtain⟨s,e0⟩:=x1fo a0
  obtain⟨p,e1⟩:=x1d7 a1
  simp at e0 e1
  exact⟨⟨s,p⟩,by rw[e0,e1];rfl⟩
theorem text_in{a:AV}(h:ArgSh Tryz.prog x5 a):∃s,a=T s:=by
 have ht:Tryz.prog.underlying x5=some .string:=by kernel_rfl
 unfold ArgSh at h
 rw[ht]at h
 obtain⟨s,hs⟩:=x1fo h
 exact⟨s,by simpa using hs⟩
theorem setup_in{a:AV}(h:ArgSh Tryz.prog x4a a):∃wv mg ba pa ea bl pl el,a=.agg [I wv,I mg,ba,pa,ea]/\Sl Bd.c ba bl/\Sl Pn.c pa pl/\Sl Pe.c ea el:=by
 obtain⟨fs,h1,h2⟩:=fs_of (t:=x4a) (l:=[(x18n,0),(x18n,1),(xj,2),(xu,3),(xt,4)]) (by kernel_rfl)
 obtain⟨q,rfl,hq⟩:=h.struct h1
 obtain⟨hl,hff⟩:=Sh.struct_inv h1 hq
 have hc:Tryz.prog.cellsOf x4a=5:=by kernel_rfl
 have hc1:Tryz.prog.cellsOf xj=1:=by kernel_rfl
 have hc2:Tryz.prog.cellsOf xu=1:=by kernel_rfl
 have hc3:Tryz.prog.cellsOf xt=1:=by kernel_rfl
 rw[hc]at hl
 match q,hl with
 |[x,y,v,w,z],_=>
  have:=fld (t:=x18n) h2 hff
  have a0:=this (x18n,0) (by simp)
  have a1:=this (x18n,1) (by simp)
  have a2:=this (xj,2) (by simp)
  have a3:=this (xu,3) (by simp)
  have a4:=this (xt,4) (by simp)
  simp only[cs_i,hc1,hc2,hc3,x1sf,x1t8,x1t2,x1sj]at a0 a1 a2 a3 a4
  obtain⟨n0,e0⟩:=x1d7 a0
  obtain⟨n1,e1⟩:=x1d7 a1
  obtain⟨bl,g1⟩:=sl_sh (e:=x2u) (by kernel_rfl) (λr hl hr=>x1m7 hl hr) a2
  obtain⟨pl,g2⟩:=sl_sh (e:=x2v) (by kernel_rfl) (λr hl hr=>point_sh hl hr) a3
  obtain⟨el,g3⟩:=sl_sh (e:=x2w) (by kernel_rfl) (λr hl hr=>person_sh hl hr) a4
  simp at e0 e1
  subst e0 e1
  exact⟨n0,n1,v,w,z,bl,pl,el,rfl,g1,g2,g3⟩
end Go.Proofs.YtaoalekmhjclnaaGreatDoor
set_option linter.unusedSimpArgs false
set_option linter.unusedVariables false
set_option maxRecDepth 10000
namespace Go.Ix
open Go.Proofs
variable{ba pa ea:AV}{bl:List Bd}{pl:List Pn}{el:List Pe}{wv mg:Int}
theorem x1es{R:Type}{s:ByteArray}{id:Id}{m:Mem}{k:AV->Mem->Option R}:x18l xh [(0,1,T s)] 1 1 id m k=k (.slit [T s] 1 true) m:=by
 rw[z_str]
 exact x1k3 rfl rfl rfl
theorem x1et(M:Mem)(s:ByteArray):elems M.get 1 (.slit [T s] 1 true)=some (tE s,1):=rfl
theorem x1ht{x:ByteArray}{ns:List ByteArray}:x19o x ns=if nmOK x=true then(if(ns.any λy=>teq y x)=true then 5 else 0)else 4:=by
 unfold x19o
 cases nmOK x
 .rfl
 .cases(ns.any λy=>teq y x)<;>rfl
theorem l_rse(d:Nat)(h:Sl Pe.c ea el)(hl:el.length<=1000):∀(suf:List Pe) (k j:Nat) (v:AV) (m:Mem) (fc:Nat),el.drop k=suf->suf.length<j->Gr 1 tE 0 52 m v ((el.take k).map Pe.nm)->m.get (0,0,1)=some (.row [I wv,I mg,ba,pa,ea] 0 false) ->
 ∃m',x41 (x180 (d+1)) [] 0 j (.ptr (0,0,1) 0 0) v (I k) m fc=some (I (errL peE Pe.nm ((el.take k).map Pe.nm) suf),m'):=by
 intro suf
 induction suf with
 |nil=>
  intro k j v m fc hd hj hG hm
  obtain⟨j,rfl⟩:∃i,j=i+1:=⟨j-1,by simp at hj;omega⟩
  have hk:¬((k:Int)<(el.length:Int)):=by have:=x1t3.mp hd;omega
  simp only[x41]
  unfold x9t xe8
  simp only[x18g,x182,x183 hm,x1sg,x1sf,x1sj,rd_f,List.head?_cons,h.len x1ba,x18k,hk,x1sm,x18b,errL]
  exact⟨m,rfl⟩
 |cons e r ih=>
  intro k j v m fc hd hj hG hm
  obtain⟨j,rfl⟩:∃i,j=i+1:=⟨j-1,by simp at hj;omega⟩
  obtain⟨hk,he,hd1⟩:=x19i hd
  have hk':(k:Int)<(el.length:Int):=by omega
  have ix:=h.ix Pe.len hk
  have f0:sFA 0 (.plit ((el.drop k).flatMap Pe.c))=some (.plit ((el.drop k).flatMap Pe.c)):=rfl
  have f1:sFA 1 (.plit ((el.drop k).flatMap Pe.c))=some (.plit (((el.drop k).flatMap Pe.c).drop 1)):=rfl
  have x0:∀m,sLd false 1 (.plit ((el.drop k).flatMap Pe.c)) m=some (T e.nm):=λm=>by rw[x19h hk,x1st,he];rfl
  have x1:∀m,sLd false 1 (.plit (((el.drop k).flatMap Pe.c).drop 1)) m=some (I e.role):=λm=>by rw[x19h hk,x1st,he];rfl
  have hw:w64 ((k:Int)+1)=((k+1:Nat):Int):=by rw[x18i (by omega) (by omega)];omega
  have htk1:(el.take (k+1)).map Pe.nm=(el.take k).map Pe.nm++[e.nm]:=by rw[x1u9 hk,he,x1uc];rfl
  have hht:=x1hq d (x:=e.nm) hG (by simp;omega)
  simp only[x41]
  unfold x9t
  simp only[x18g,x182,x183 hm,x1sg,x1sf,x1sj,rd_f,List.head?_cons,h.len x1ba,x18k,hk',x1si,x18a,ix,f0,x0,x1hc,x19y,errL]
  rw[show peE ((el.take k).map Pe.nm) e=orE (x19o e.nm ((el.take k).map Pe.nm)) (rgE (wi e.role 1 3))from rfl,x1ht]
  by_cases c1:nmOK e.nm=true
  .simp only[c1,x1sr,x18b,x18g,x182,x183 hm,x1sg,x1sf,x1sj,rd_f,List.head?_cons,ix,f0,x0,hht,x1so]
   cases c2:(((el.take k).map Pe.nm).any λy=>teq y e.nm)
   .simp only[x18b,x18g,x182,x183 hm,x1sg,x1sf,x1sj,rd_f,List.head?_cons,ix,f1,x1,x1em,x19y]
    cases c3:wi e.role 1 3
    .simp only[x1ss,x18a]
     exact⟨m,by simp[orE,rgE,c2]⟩
    .obtain⟨v',m1,A,G1,n1,fr⟩:=hG.app x1b8 (by omega) (bytes:=16) (s0:=fc+37) (by unfold x18q;simp;omega) e.nm
     rw[<-htk1]at G1
     obtain⟨m2,r2⟩:=ih (k+1) j v' m1 (fc+42) hd1 (by simp at hj;omega) G1 (by rw[fr _ (by simp)];exact hm)
     simp only[x1sr,x18b,x18g,x182,x183 hm,x1sg,x1sf,x1sj,rd_f,List.head?_cons,ix,f0,x0,x1es,x1et,A,x18y,hw,r2]
     rw[htk1]
     exact⟨m2,by simp[orE,rgE,c2]⟩
   .simp only[x18a]
    exact⟨m,by simp[orE,c2]⟩
  .have c1':nmOK e.nm=false:=by simpa using c1
   simp only[c1',x1ss,x18a]
   exact⟨m,by simp[orE]⟩
theorem l_rsp(d:Nat)(h:Sl Pn.c pa pl)(hl:pl.length<=1000):∀(suf:List Pn) (k j:Nat) (v:AV) (m:Mem) (fc:Nat),pl.drop k=suf->suf.length<j->Gr 1 tE 0 38 m v ((pl.take k).map Pn.nm)->m.get (0,0,1)=some (.row [I wv,I mg,ba,pa,ea] 0 false) ->
 ∃m',x40 (x180 (d+3)) [] 0 j (.ptr (0,0,1) 0 0) v (I k) m fc=some (I (errL pnE Pn.nm ((pl.take k).map Pn.nm) suf),m'):=by
 intro suf
 induction suf with
 |nil=>
  intro k j v m fc hd hj hG hm
  obtain⟨j,rfl⟩:∃i,j=i+1:=⟨j-1,by simp at hj;omega⟩
  have hk:¬((k:Int)<(pl.length:Int)):=by have:=x1t3.mp hd;omega
  simp only[x40]
  unfold x9r xe6
  simp only[x18g,x182,x183 hm,x1sg,x1sf,x1sj,rd_f,List.head?_cons,h.len x1as,x18k,hk,x1sm,x18b,errL]
  exact⟨m,rfl⟩
 |cons e r ih=>
  intro k j v m fc hd hj hG hm
  obtain⟨j,rfl⟩:∃i,j=i+1:=⟨j-1,by simp at hj;omega⟩
  obtain⟨hk,he,hd1⟩:=x19i hd
  have hk':(k:Int)<(pl.length:Int):=by omega
  have ix:=h.ix Pn.len hk
  have ld:=λm=>x1a2 (m:=m) Pn.len (by omega) hk
  rw[he]at ld
  obtain⟨M,s1,g1,nn1,f1⟩:=x1ar (u:=0) (s:=fc+10) (t:=5) (m:=m) (z:=x13) (cs:=e.c) (n:=4) (by kernel_rfl) rfl rfl
  have hM:M.get (0,0,1)=some (.row [I wv,I mg,ba,pa,ea] 0 false):=by rw[f1 _ (by simp)];exact hm
  have g1':M.get (0,fc+10,5)=some (.row [T e.nm,I e.at_.x,I e.at_.y,I e.at_.z] 0 false):=g1
  have hG':Gr 1 tE 0 38 M v ((pl.take k).map Pn.nm):=hG.frame λs=>f1 _ (by simp)
  have hw:w64 ((k:Int)+1)=((k+1:Nat):Int):=by rw[x18i (by omega) (by omega)];omega
  have htk1:(pl.take (k+1)).map Pn.nm=(pl.take k).map Pn.nm++[e.nm]:=by rw[x1u9 hk,he,x1uc];rfl
  have hht:=x1hq (d+2) (x:=e.nm) hG' (by simp;omega)
  have l3:sLd true 3 (.ptr (0,fc+10,5) 0 1) M=some (.agg e.at_.c):=by rw[x183 g1'];rfl
  have hpl:=x1kc d e.at_ M
  simp only[x40]
  unfold x9r
  simp only[x18g,x182,x183 hm,x1sg,x1sf,x1sj,rd_f,List.head?_cons,h.len x1as,x18k,hk',x1si,x18a,ix,ld,x1al,s1,x183 g1',x1hc,x19y,errL]
  rw[show pnE ((pl.take k).map Pn.nm) e=orE (x19o e.nm ((pl.take k).map Pn.nm)) (rgE (isPl e.at_))from rfl,x1ht]
  have l3':rd true 3 [I e.at_.x,I e.at_.y,I e.at_.z]=some (.agg e.at_.c):=rfl
  by_cases c1:nmOK e.nm=true
  .simp only[c1,x1sr,x18b,x18g,x182,x183 g1',x1sg,x1sf,x1sj,rd_f,List.head?_cons,hht,x1so]
   cases c2:(((pl.take k).map Pn.nm).any λy=>teq y e.nm)
   .simp only[x18b,x18g,x182,x1sg,l3,l3',x183 g1',x1sj,x1sf,hpl,x19y]
    cases c3:isPl e.at_
    .simp only[x1ss,x18a]
     exact⟨M,by simp[orE,rgE,c2]⟩
    .obtain⟨v',m1,A,G1,n1,fr⟩:=hG'.app x1b8 (by omega) (bytes:=16) (s0:=fc+28) (by unfold x18q;simp;omega) e.nm
     rw[<-htk1]at G1
     obtain⟨m2,r2⟩:=ih (k+1) j v' m1 (fc+33) hd1 (by simp at hj;omega) G1 (by rw[fr _ (by simp)];exact hM)
     simp only[x1sr,x18b,x18g,x182,x183 g1',x1sg,x1sf,x1sj,rd_f,List.head?_cons,x1es,x1et,A,x18y,hw,r2]
     rw[htk1]
     exact⟨m2,by simp[orE,rgE,c2]⟩
   .simp only[x18a]
    exact⟨M,by simp[orE,c2]⟩
  .have c1':nmOK e.nm=false:=by simpa using c1
   simp only[c1',x1ss,x18a]
   exact⟨M,by simp[orE]⟩
theorem l_rsb(d:Nat)(h:Sl Bd.c ba bl)(hl:bl.length<=1000)(hn:∀x∈bl,x.cs.length<=1000):∀(suf:List Bd) (k j:Nat) (v:AV) (m:Mem) (fc:Nat),bl.drop k=suf->suf.length<j->Gr 1 tE 0 45 m v ((bl.take k).map Bd.nm)->m.get (0,0,1)=some (.row [I wv,I mg,ba,pa,ea] 0 false) ->
 ∃m',x3z (x180 (d+4)) [] 0 j (.ptr (0,0,1) 0 0) v (I k) m fc=some (I (errL bdE Bd.nm ((bl.take k).map Bd.nm) suf),m'):=by
 intro suf
 induction suf with
 |nil=>
  intro k j v m fc hd hj hG hm
  obtain⟨j,rfl⟩:∃i,j=i+1:=⟨j-1,by simp at hj;omega⟩
  have hk:¬((k:Int)<(bl.length:Int)):=by have:=x1t3.mp hd;omega
  simp only[x3z]
  unfold x9p xe4
  simp only[x18g,x182,x183 hm,x1sg,x1sf,x1sj,rd_f,List.head?_cons,h.len x1b9,x18k,hk,x1sm,x18b,errL]
  exact⟨m,rfl⟩
 |cons e r ih=>
  intro k j v m fc hd hj hG hm
  obtain⟨j,rfl⟩:∃i,j=i+1:=⟨j-1,by simp at hj;omega⟩
  obtain⟨hk,he,hd1⟩:=x19i hd
  have hk':(k:Int)<(bl.length:Int):=by omega
  have ix:=h.ix Bd.len hk
  have ld:=λm=>x1a2 (m:=m) Bd.len (by omega) hk
  rw[he]at ld
  obtain⟨M,s1,g1,nn1,f1⟩:=x1ar (u:=0) (s:=fc+10) (t:=5) (m:=m) (z:=x2g) (cs:=e.c) (n:=3) (by kernel_rfl) rfl e.one
  have hM:M.get (0,0,1)=some (.row [I wv,I mg,ba,pa,ea] 0 false):=by rw[f1 _ (by simp)];exact hm
  have g1':M.get (0,fc+10,5)=some (.row [T e.nm,e.ca,I e.th] 0 false):=g1
  have hG':Gr 1 tE 0 45 M v ((bl.take k).map Bd.nm):=hG.frame λs=>f1 _ (by simp)
  have hw:w64 ((k:Int)+1)=((k+1:Nat):Int):=by rw[x18i (by omega) (by omega)];omega
  have htk1:(bl.take (k+1)).map Bd.nm=(bl.take k).map Bd.nm++[e.nm]:=by rw[x1u9 hk,he,x1uc];rfl
  have hht:=x1hq (d+3) (x:=e.nm) hG' (by simp;omega)
  have hcs:=hn e (he▸x1t0 hk)
  have hpo:=x1m6 d e.ok M (by omega)
  simp only[x3z]
  unfold x9p
  simp only[x18g,x182,x183 hm,x1sg,x1sf,x1sj,rd_f,List.head?_cons,h.len x1b9,x18k,hk',x1si,x18a,ix,ld,x1al,s1,x183 g1',x1hc,x19y,errL]
  rw[show bdE ((bl.take k).map Bd.nm) e=orE (x19o e.nm ((bl.take k).map Bd.nm)) (orE (x1a1 e.cs) (rgE (wi e.th 0 1000000)))from rfl,x1ht]
  by_cases c1:nmOK e.nm=true
  .simp only[c1,x1sr,x18b,x18g,x182,x183 g1',x1sg,x1sf,x1sj,rd_f,List.head?_cons,hht,x1so]
   cases c2:(((bl.take k).map Bd.nm).any λy=>teq y e.nm)
   .simp only[x18b,x18g,x182,x1sg,x183 g1',x1sf,x1sj,rd_f,List.head?_cons,hpo,x1aa]
    by_cases c4:x1a1 e.cs=0
    .simp only[c4,x1si,x1sr,x18b,x18g,x182,x1sg,x183 g1',x1sf,x1sj,rd_f,List.head?_cons,x1em,x19y]
     cases c3:wi e.th 0 1000000
     .simp only[x1ss,x18a]
      exact⟨M,by simp[orE,rgE,c2]⟩
     .obtain⟨v',m1,A,G1,n1,fr⟩:=hG'.app x1b8 (by omega) (bytes:=16) (s0:=fc+34) (by unfold x18q;simp;omega) e.nm
      rw[<-htk1]at G1
      obtain⟨m2,r2⟩:=ih (k+1) j v' m1 (fc+39) hd1 (by simp at hj;omega) G1 (by rw[fr _ (by simp)];exact hM)
      simp only[x1sr,x18b,x18g,x182,x183 g1',x1sg,x1sf,x1sj,rd_f,List.head?_cons,x1es,x1et,A,x18y,hw,r2]
      rw[htk1]
      exact⟨m2,by simp[orE,rgE,c2]⟩
    .simp only[c4,x1sm,x1ss,x18a]
     exact⟨M,by simp[orE,c2,c4]⟩
   .simp only[x18a]
    exact⟨M,by simp[orE,c2]⟩
  .have c1':nmOK e.nm=false:=by simpa using c1
   simp only[c1',x1ss,x18a]
   exact⟨M,by simp[orE]⟩
theorem w_rsetupB(d:Nat)(h1:Sl Bd.c ba bl)(h2:Sl Pn.c pa pl)(h3:Sl Pe.c ea el)(hl:bl.length<=1000)(hn:∀x∈bl,x.cs.length<=1000)(m:Mem):x17z (x180 (d+5)) x2y [.agg [I wv,I mg,ba,pa,ea]] m=some (I (if 6<bl.length then 8 else errL bdE Bd.nm [] bl),m):=by
 refine x195 (by simp[h1.still1,h2.still1,h3.still1]) ?_ m
 rw[x108]
 unfold xbw x9q
 have ho:[I wv,I mg,ba,pa,ea].all AV.one=true:=by simp[h1.one,h2.one,h3.one]
 simp only[mem0,x19f,x19n,ho,x18m]
 generalize hm1:Mem.new _ _ _=m1
 have hg:m1.get (0,0,1)=some (.row [I wv,I mg,ba,pa,ea] 0 false):=by rw[<-hm1,Mem.get_new_same]
 simp only[x18g,x182,x183 hg,x1sg,x1sf,x1sj,rd_f,List.head?_cons,h1.len x1b9,x19t]
 by_cases c1:6<bl.length
 .simp only[show((6:Int)<(bl.length:Int)) by omega,x1si,x18a,c1,x1so]
  exact RetF.st rfl rfl
 simp only[show ¬((6:Int)<(bl.length:Int)) by omega,x1sm,x18b,c1,x1sp]
 unfold xe5
 obtain⟨m',r⟩:=l_rsb d (wv:=wv) (mg:=mg) (pa:=pa) (ea:=ea) h1 hl hn bl 0 NN nilS m1 (0+7+1) rfl (by rw[x197];omega) (Or.inl ⟨rfl,by simp⟩) hg
 rw[show I ((0:Nat):Int)=I 0 from rfl]at r
 rw[r]
 exact RetF.st rfl rfl
theorem w_rsetupP(d:Nat)(h1:Sl Bd.c ba bl)(h2:Sl Pn.c pa pl)(h3:Sl Pe.c ea el)(hl:pl.length<=1000)(m:Mem):x17z (x180 (d+4)) x2z [.agg [I wv,I mg,ba,pa,ea]] m=some (I (if 8<pl.length then 8 else errL pnE Pn.nm [] pl),m):=by
 refine x195 (by simp[h1.still1,h2.still1,h3.still1]) ?_ m
 rw[x109]
 unfold xbx x9s
 have ho:[I wv,I mg,ba,pa,ea].all AV.one=true:=by simp[h1.one,h2.one,h3.one]
 simp only[mem0,x19f,x19n,ho,x18m]
 generalize hm1:Mem.new _ _ _=m1
 have hg:m1.get (0,0,1)=some (.row [I wv,I mg,ba,pa,ea] 0 false):=by rw[<-hm1,Mem.get_new_same]
 simp only[x18g,x182,x183 hg,x1sg,x1sf,x1sj,rd_f,List.head?_cons,h2.len x1as,x19t]
 by_cases c1:8<pl.length
 .simp only[show((8:Int)<(pl.length:Int)) by omega,x1si,x18a,c1,x1so]
  exact RetF.st rfl rfl
 simp only[show ¬((8:Int)<(pl.length:Int)) by omega,x1sm,x18b,c1,x1sp]
 unfold xe7
 obtain⟨m',r⟩:=l_rsp d (wv:=wv) (mg:=mg) (ba:=ba) (ea:=ea) h2 hl pl 0 NN nilS m1 (0+7+1) rfl (by rw[x197];omega) (Or.inl ⟨rfl,by simp⟩) hg
 rw[show I ((0:Nat):Int)=I 0 from rfl]at r
 rw[r]
 exact RetF.st rfl rfl
theorem w_rsetupE(d:Nat)(h1:Sl Bd.c ba bl)(h2:Sl Pn.c pa pl)(h3:Sl Pe.c ea el)(hl:el.length<=1000)(m:Mem):x17z (x180 (d+2)) x30 [.agg [I wv,I mg,ba,pa,ea]] m=some (I (if el.length=0 then 10 else if 10<el.length then 8 else errL peE Pe.nm [] el),m):=by
 refine x195 (by simp[h1.still1,h2.still1,h3.still1]) ?_ m
 rw[x10a]
 unfold xby x9u
 have ho:[I wv,I mg,ba,pa,ea].all AV.one=true:=by simp[h1.one,h2.one,h3.one]
 simp only[mem0,x19f,x19n,ho,x18m]
 generalize hm1:Mem.new _ _ _=m1
 have hg:m1.get (0,0,1)=some (.row [I wv,I mg,ba,pa,ea] 0 false):=by rw[<-hm1,Mem.get_new_same]
 simp only[x18g,x182,x183 hg,x1sg,x1sf,x1sj,rd_f,List.head?_cons,h3.len x1ba,x1a9]
 by_cases c0:el.length=0
 .simp only[show((el.length:Int)=0) by omega,x1si,x18a,c0,x1so]
  exact RetF.st rfl rfl
 simp only[show ¬((el.length:Int)=0) by omega,x1sm,x18b,c0,x1sp,x18g,x182,x183 hg,x1sg,x1sf,x1sj,rd_f,List.head?_cons,h3.len x1ba,x19t]
 by_cases c1:10<el.length
 .simp only[show((10:Int)<(el.length:Int)) by omega,x1si,x18a,c1,x1so]
  exact RetF.st rfl rfl
 simp only[show ¬((10:Int)<(el.length:Int)) by omega,x1sm,x18b,c1,x1sp]
 unfold xe9
 obtain⟨m',r⟩:=l_rse d (wv:=wv) (mg:=mg) (ba:=ba) (pa:=pa) h3 hl el 0 NN nilS m1 (0+11+1) rfl (by rw[x197];omega) (Or.inl ⟨rfl,by simp⟩) hg
 rw[show I ((0:Nat):Int)=I 0 from rfl]at r
 rw[r]
 exact RetF.st rfl rfl
theorem x1m8(d:Nat)(h1:Sl Bd.c ba bl)(h2:Sl Pn.c pa pl)(h3:Sl Pe.c ea el)(hb:bl.length<=1000)(hp:pl.length<=1000)(he:el.length<=1000)(hn:∀x∈bl,x.cs.length<=1000)(m:Mem) :
 x17z (x180 (d+6)) x1w [.agg [I wv,I mg,ba,pa,ea]] m=some (I (x1a3 wv mg bl pl el),m):=by
 refine x195 (by simp[h1.still1,h2.still1,h3.still1]) ?_ m
 rw[xzr]
 unfold xbg x8v
 have ho:[I wv,I mg,ba,pa,ea].all AV.one=true:=by simp[h1.one,h2.one,h3.one]
 simp only[mem0,x19f,x19n,ho,x18m]
 generalize hm1:Mem.new _ _ _=m1
 have hg:m1.get (0,0,1)=some (.row [I wv,I mg,ba,pa,ea] 0 false):=by rw[<-hm1,Mem.get_new_same]
 have l5:sLd true 5 (.ptr (0,0,1) 0 0) m1=some (.agg [I wv,I mg,ba,pa,ea]):=by rw[x183 hg];rfl
 have l5r:rd true 5 [I wv,I mg,ba,pa,ea]=some (.agg [I wv,I mg,ba,pa,ea]):=rfl
 unfold x1a3
 simp only[x18g,x182,x183 hg,x1sg,x1sf,x1sj,rd_f,List.head?_cons,x1em,x19y]
 cases x1:wi wv 1 10000
 .simp only[x1ss,x192,x19q,sW_f,x1sr,x199,x182,x18z,x18m,x18a,x1tz,x1sw,x1sp]
  exact RetF.st rfl rfl
 cases x2:wi mg 0 2048
 .simp only[x1sr,x192,x19q,sW_f,x1ss,x18m,x182,x18g,x183 hg,x1sg,x1sf,x1sj,rd_f,List.head?_cons,x1em,x2,x19y,x18z,x199,x18a,Bool.and_false,x1sw,x1sp]
  exact RetF.st rfl rfl
 simp only[x1sr,x192,x19q,sW_f,x1ss,x18m,x182,x18g,x183 hg,x1sg,x1sf,x1sj,rd_f,List.head?_cons,x1em,x2,x19y,x18z,x199,x18b,x1tm,x1so,l5,l5r,w_rsetupB d h1 h2 h3 hb hn,x1aa]
 by_cases c1:6<bl.length
 .simp only[c1,x1so,show(!decide ((8:Int)=0))=true from rfl,x18a]
  exact RetF.st rfl rfl
 simp only[c1,x1sp]
 by_cases c2:errL bdE Bd.nm [] bl=0
 .simp only[c2,x1si,x1sr,x18b,l5,l5r,x182,w_rsetupP (d+1) h1 h2 h3 hp,x1aa]
  by_cases c3:8<pl.length
  .simp only[c3,x1so,show(!decide ((8:Int)=0))=true from rfl,x18a]
   exact RetF.st rfl rfl
  simp only[c3,x1sp]
  by_cases c4:errL pnE Pn.nm [] pl=0
  .simp only[c4,x1si,x1sr,x18b,l5,l5r,x182,w_rsetupE (d+3) h1 h2 h3 he]
   exact RetF.st rfl rfl
  .simp only[c4,x1sm,x1ss,x18a]
   exact RetF.st rfl (by simp[orE,c4])
 .simp only[c2,x1sm,x1ss,x18a]
  exact RetF.st rfl (by simp[orE,c2])
end Go.Ix
