import Derived.Test.YtljibmnhhdiakaaWBase3
set_option linter.unusedSimpArgs false
set_option linter.unusedVariables false
namespace Go.Ix
open Go.Proofs
theorem rd_5(a b c d e:AV)(cs:List AV):rd true 5 (a::b::c::d::e::cs)=some (.agg [a,b,c,d,e]):=by rw[rd_t];simp only[List.length_cons];rw[decide_eq_true (by omega)];rfl
theorem x227(ver:Nat)(a b c d e a' b' c' d' e':AV):x1s2 5 ver 0 (.agg [a',b',c',d',e']) (some (.row [a,b,c,d,e] ver false))=bif[a',b',c',d',e'].all AV.one then some (.row [a',b',c',d',e'] ver false)else none:=by
 rw[x1u3]
 simp[x1rc]
theorem z_arc:x7b=[I 0,I 0,I 0,I 0,I 0]:=by kernel_rfl
theorem x253(a b c d e:Int):x1qx [I 0,I 0,I 0,I 0,I 0] [(0,1,I a),(1,1,I b),(2,1,I c),(3,1,I d),(4,1,I e)]=some (.agg [I a,I b,I c,I d,I e]):=by
 simp[x1qx,x1rx]
structure Ar where
 edge:Int
 to:Int
 sign:Int
 room:Int
 cost:Int
def Ar.c(a:Ar):List AV:=[I a.edge,I a.to,I a.sign,I a.room,I a.cost]
theorem Ar.len(a:Ar):a.c.length=5:=rfl
def e00:Edge:=⟨0,0,0,0⟩
def edgeAt(l:List Edge)(i:Nat):Edge:=l.getD i e00
theorem x1t9{l:List Edge}{i:Nat}(h:i<l.length):edgeAt l i=l[i]:=by
 unfold edgeAt;rw[List.getD_eq_getElem?_getD,List.getElem?_eq_getElem h];rfl
def arcAt(l:List Edge)(fl:List Int)(v:Int)(i:Int):Ar:=
 let e:=edgeAt l i.toNat
 if e.to=v then⟨i,e.fr,-1,e.wt+at0 fl i.toNat,e.jump⟩else⟨i,e.to,1,e.wt-at0 fl i.toNat,-e.jump⟩
def adjI(l:List Edge)(v:Int):List Int:=((List.range l.length).filter fun i=>decide ((edgeAt l i).fr=v)||decide ((edgeAt l i).to=v)).map Int.ofNat
theorem x228{l:List Edge}{v i:Int}(h:i∈adjI l v):0<=i/\i<l.length/\((edgeAt l i.toNat).fr=v\/(edgeAt l i.toNat).to=v):=by
 unfold adjI at h
 simp only[List.mem_map,List.mem_filter,List.mem_range,Bool.or_eq_true,decide_eq_true_eq]at h
 obtain⟨k,⟨h1,h2⟩,rfl⟩:=h
 exact⟨Int.natCast_nonneg k,by simp only[Int.ofNat_eq_natCast];omega,by simpa using h2⟩
structure FrzS (S:AV) (n:Nat) (l:List Edge) (fl tu ex:List Int):Prop where
 sh:∃ev F TU X cells b,S=.plit [I n,ev,F,TU,X,.slit cells n b]/\Sl Edge.c ev l/\Ints F fl/\Ints TU tu/\Ints X ex/\cells.length=n/\∀(v:Nat) (hv:v<cells.length),Ints cells[v] (adjI l v)
 fll:fl.length=l.length
 tul:tu.length=n
 exl:ex.length=n
 n0:n<=200
 ll:l.length<=600
 ed:∀e∈l,EdgeIn n e/\e.fr≠e.to
 flb:∀k,-1000<=at0 fl k/\at0 fl k<=1000
 tub:∀k,-1000000<=at0 tu k/\at0 tu k<=1000000
theorem arcAt_in{S:AV}{n:Nat}{l:List Edge}{fl tu ex:List Int}(h:FrzS S n l fl tu ex){v i:Int}(hi:i∈adjI l v):0<=(arcAt l fl v i).to/\(arcAt l fl v i).to<n/\(arcAt l fl v i).to≠v/\-1000<=(arcAt l fl v i).cost/\(arcAt l fl v i).cost<=1000:=by
 obtain⟨i0,i1,i2⟩:=x228 hi
 have hl:i.toNat<l.length:=by omega
 rw[x1t9 hl]at i2
 obtain⟨he,hne⟩:=h.ed _ (List.getElem_mem hl)
 obtain⟨f0,f1,t0,t1,j0,j1,w0,w1⟩:=he
 unfold arcAt
 rw[x1t9 hl]
 simp only
 split
 .exact⟨f0,f1,by simp only;omega,j0,j1⟩
 .exact⟨t0,t1,by assumption,by simp only;omega,by simp only;omega⟩
theorem l_arcs(call:x1qo)(hs:FHs)(u2:Nat)(id i1 i2:Id)(h:List AV->Mem->Option Mem){S:AV}{n:Nat}{l:List Edge}{fl tu ex:List Int}(hS:FrzS S n l fl tu ex){v:Int}{A:AV}(hA:Ints A (adjI l v)){τ:Type}(Inv:τ->Mem->Prop)(step:τ->Ar->τ)(hst:∀t m m',Inv t m->(∀id:Id,id.1<u2->m'.get id=m.get id)->m.next<=m'.next->Inv t m')(hrd:∀t m,Inv t m->m.get i1=some (.row [S] 0 false)/\m.get i2=some (.row [I v] 0 false))(hi1:i1.1<u2)(hi2:i2.1<u2)(hstep:∀t m i,i∈adjI l v->0<(arcAt l fl v i).room->Inv t m->u2<m.next->∃m',h [.agg (arcAt l fl v i).c] m=some m'/\Inv (step t (arcAt l fl v i)) m'/\m.next<=m'.next) :
 ∀(suf:List Int) (k j:Nat) (t:τ) (m:Mem) (fc:Nat),(adjI l v).drop k=suf->suf.length<j->Inv t m->u2<m.next ->
 ∃m',x2a call ((id,h)::hs) u2 j (.yld id) (.ptr i1 0 0) (.ptr i2 0 0) A (I (adjI l v).length) (I k) m fc=some (.tup [],m')/\Inv (suf.foldl (fun t i=>if 0<(arcAt l fl v i).room then step t (arcAt l fl v i)else t) t) m':=by
 have hlen:(adjI l v).length<=600:=by
  unfold adjI
  rw[List.length_map]
  have:=List.length_filter_le (fun i=>decide ((edgeAt l i).fr=v)||decide ((edgeAt l i).to=v)) (List.range l.length)
  rw[List.length_range]at this
  have:=hS.ll
  omega
 intro suf
 induction suf with
 |nil=>
  intro k j t m fc hd hj hI hu
  obtain⟨j,rfl⟩:∃i,j=i+1:=⟨j-1,by simp at hj;omega⟩
  have hk:¬((k:Int)<((adjI l v).length:Int)):=by have:=List.drop_eq_nil_iff.mp hd;omega
  refine⟨m,?_,hI⟩
  simp only[x2a]
  unfold xda
  simp[hk]
 |cons i r ih=>
  intro k j t m fc hd hj hI hu
  obtain⟨j,rfl⟩:∃i,j=i+1:=⟨j-1,by simp at hj;omega⟩
  obtain⟨hk,hke,hd⟩:=x1sm hd
  have hk':(k:Int)<((adjI l v).length:Int):=by omega
  have hmem:i∈adjI l v:=hke▸List.getElem_mem hk
  obtain⟨i0,i1',i2'⟩:=x228 hmem
  have hil:i.toNat<l.length:=by omega
  obtain⟨ev,F,TU,X,cells,b,hSe,hev,hF,hTU,hX,hcl,hcs⟩:=hS.sh
  obtain⟨hee,hne⟩:=hS.ed _ (List.getElem_mem hil)
  obtain⟨e,he⟩:∃e,e=l[i.toNat]:=⟨_,rfl⟩
  rw[<-he]at hee hne
  obtain⟨f0,f1,t0,t1,j0,j1,w0,w1⟩:=hee
  have hfb:=hS.flb i.toNat
  have g1:=(hrd t m hI).1
  have g2:=(hrd t m hI).2
  have ixA:=hA.ix x1rk hk
  have eA:at0 (adjI l v) k=i:=by rw[x1ri hk,hke]
  have ixe:sIx 4 ev (I i)=some (.plit ((l.drop i.toNat).flatMap Edge.c)):=hev.ixI Edge.len i0 (by omega)
  have lde:=fun m=>x1vt (m:=m) Edge.len (by omega) hil
  rw[<-he]at lde
  have ixf:=hF.ixI x1rk i0 (show i<fl.length by rw[hS.fll];omega)
  have hfl:i.toNat<fl.length:=by rw[hS.fll];exact hil
  obtain⟨M1,hM1⟩:∃M1,M1=(m.new (u2,fc+1+12,6) (.row [I 0,I 0,I 0,I 0] 0 false)).set (u2,fc+1+12,6) (.row e.c 0 false):=⟨_,rfl⟩
  have q1:∀id:Id,id≠(u2,fc+1+12,6)->M1.get id=m.get id:=fun id hid=>by rw[hM1,Mem.get_set,if_neg hid,Mem.get_new,if_neg hid]
  have g61:M1.get (u2,fc+1+12,6)=some (.row [I e.fr,I e.to,I e.jump,I e.wt] 0 false):=by rw[hM1];simp[Edge.c]
  have g11:M1.get i1=some (.row [S] 0 false):=by rw[q1 _ (by rintro rfl;simp at hi1)];exact g1
  have g21:M1.get i2=some (.row [I v] 0 false):=by rw[q1 _ (by rintro rfl;simp at hi2)];exact g2
  obtain⟨a1,ha1⟩:∃a1:Ar,a1=⟨i,e.to,1,e.wt-at0 fl i.toNat,-e.jump⟩:=⟨_,rfl⟩
  obtain⟨M2,hM2⟩:∃M2,M2=(M1.new (u2,fc+1+31,7) (.row [I 0,I 0,I 0,I 0,I 0] 0 false)).set (u2,fc+1+31,7) (.row a1.c 0 false):=⟨_,rfl⟩
  have q2:∀id:Id,id≠(u2,fc+1+31,7)->M2.get id=M1.get id:=fun id hid=>by rw[hM2,Mem.get_set,if_neg hid,Mem.get_new,if_neg hid]
  have g62:M2.get (u2,fc+1+12,6)=some (.row [I e.fr,I e.to,I e.jump,I e.wt] 0 false):=by rw[q2 _ (by simp)];exact g61
  have g72:M2.get (u2,fc+1+31,7)=some (.row [I a1.edge,I a1.to,I a1.sign,I a1.room,I a1.cost] 0 false):=by rw[hM2];simp[Ar.c]
  have g12:M2.get i1=some (.row [S] 0 false):=by rw[q2 _ (by rintro rfl;simp at hi1)];exact g11
  have g22:M2.get i2=some (.row [I v] 0 false):=by rw[q2 _ (by rintro rfl;simp at hi2)];exact g21
  have start:∀K,x7i call ((id,h)::hs) u2 (x2a call ((id,h)::hs) u2 j) (.yld id) (.ptr i1 0 0) (.ptr i2 0 0) (I i) (.ptr (u2,fc+1+12,6) 0 0) (.ptr (u2,fc+1+31,7) 0 0) A (I (adjI l v).length) (I k) M2 (fc+1+33)=K ->
   x2a call ((id,h)::hs) u2 (j+1) (.yld id) (.ptr i1 0 0) (.ptr i2 0 0) A (I (adjI l v).length) (I k) m fc=K:=by
   intro K hK
   rw[<-hK]
   simp only[x2a]
   unfold xda x9o
   simp only[x1s6,x1qt,hk',decide_true,x1ru,ixA,x1rg hk,eA,x1qy,g1,x1r0,Nat.beq_refl,x1qw,List.drop_zero,rd_f,hSe,sNil,x1v3,List.drop_succ_cons,x1u2,ixe,lde,x1ub,x1t7,x1rl,Mem.get_new,if_true]
   rw[show x1s2 4 0 0 (.agg e.c) (some (.row [I 0,I 0,I 0,I 0] 0 false))=some (.row e.c 0 false)from by rw[show e.c=[I e.fr,I e.to,I e.jump,I e.wt]from rfl,x203];rfl]
   simp only[x1qt]
   rw[<-hM1]
   simp(disch:=omega)only[x1rh,x1qt,Nat.zero_add,x1qy,g61,g11,x1r0,Nat.beq_refl,x1qw,List.drop_zero,List.drop_succ_cons,rd_f,hSe,sNil,x1v3,x1u2,ixf,x1rg hfl,x1xz,x1rs,sNeg_I,z_arc,x253,x1ub,x1rl,Mem.get_new,if_true,x227,List.all_cons,List.all_nil,one_I,Bool.and_self,Int.zero_sub]
   rw[show[I i,I e.to,I 1,I (e.wt-at0 fl i.toNat),I (-e.jump)]=a1.c from by rw[ha1];rfl,<-hM2]
   simp[x1qs,disj,tR,show ¬(i1=(u2,fc+1+31,7))from by rintro rfl;simp at hi1]
  obtain⟨a,ha⟩:∃a:Ar,a=arcAt l fl v i:=⟨_,rfl⟩
  have hae:a=if e.to=v then⟨i,e.fr,-1,e.wt+at0 fl i.toNat,e.jump⟩else a1:=by
   rw[ha,ha1]
   unfold arcAt
   rw[x1t9 hil,<-he]
  rw[List.foldl_cons,<-ha]
  have hI2:Inv t M2:=hst t M1 M2 (hst t m M1 hI (fun id hid=>q1 id (by rintro rfl;simp at hid)) (by rw[hM1];exact Nat.le_refl _)) (fun id hid=>q2 id (by rintro rfl;simp at hid)) (by rw[hM2];exact Nat.le_refl _)
  have hn2:M2.next=m.next:=by rw[hM2,hM1];rfl
  have main:∀(M3:Mem) (fc3:Nat),M3.get (u2,fc+1+31,7)=some (.row a.c 0 false)->Inv t M3->u2<M3.next ->
   ∃m',x7h call ((id,h)::hs) u2 (x2a call ((id,h)::hs) u2 j) (.yld id) (.ptr i1 0 0) (.ptr i2 0 0) (.ptr (u2,fc+1+31,7) 0 0) A (I (adjI l v).length) (I k) M3 fc3=some (.tup [],m')/\Inv (r.foldl (fun t i=>if 0<(arcAt l fl v i).room then step t (arcAt l fl v i)else t) (if 0<a.room then step t a else t)) m':=by
   intro M3 fc3 g7 hI3 hu3
   unfold x7h
   have g7':M3.get (u2,fc+1+31,7)=some (.row [I a.edge,I a.to,I a.sign,I a.room,I a.cost] 0 false):=g7
   by_cases hr:0<a.room
   .obtain⟨m4,h4,I4,n4⟩:=hstep t M3 i hmem (ha▸hr) hI3 hu3
    rw[<-ha]at h4 I4
    obtain⟨m',h5,h6⟩:=ih (k+1) j (step t a) m4 (fc3+9+2) hd (by simp at hj;omega) I4 (by omega)
    refine⟨m',?_,by rw[if_pos hr];exact h6⟩
    have hinv:x1sj call ((id,h)::hs) 2 (.yld id) [.agg [I a.edge,I a.to,I a.sign,I a.room,I a.cost]] M3=some (B true,m4):=by
     simp only[x1sj,x1wt,if_true]
     rw[show[AV.agg [I a.edge,I a.to,I a.sign,I a.room,I a.cost]]=[.agg a.c]from rfl,h4]
     rfl
    simp(disch:=omega) [g7',hr,rd_5,hinv,x1r]
    exact h5
   .obtain⟨m',h5,h6⟩:=ih (k+1) j t M3 (fc3+9+2) hd (by simp at hj;omega) hI3 hu3
    refine⟨m',?_,by rw[if_neg hr];exact h6⟩
    simp(disch:=omega) [g7',hr,x1r]
    exact h5
  by_cases ht:e.to=v
  .rw[if_pos ht]at hae
   obtain⟨M3,hM3⟩:∃M3,M3=M2.set (u2,fc+1+31,7) (.row a.c 0 false):=⟨_,rfl⟩
   have q3:∀id:Id,id≠(u2,fc+1+31,7)->M3.get id=M2.get id:=fun id hid=>by rw[hM3,Mem.get_set,if_neg hid]
   obtain⟨m',h5,h6⟩:=main M3 (fc+1+33+21) (by rw[hM3];simp) (hst t M2 M3 hI2 (fun id hid=>q3 id (by rintro rfl;simp at hid)) (by rw[hM3];exact Nat.le_refl _)) (by rw[hM3];simp only[Mem.next_set];omega)
   refine⟨m',start _ ?_,h6⟩
   rw[<-h5]
   unfold x7i
   simp(disch:=omega)only[x1rh,x1qt,Nat.zero_add,x1qy,g62,g22,g12,x1r0,Nat.beq_refl,x1qw,List.drop_zero,List.drop_succ_cons,rd_f,sEq_I,ht,decide_true,x1ru,hSe,sNil,x1v3,x1u2,ixf,x1rg hfl,x1sl,x1rs,z_arc,x253,x1rl,g72,x227,List.all_cons,List.all_nil,one_I,Bool.and_self]
   rw[show[I i,I e.fr,I (-1),I (e.wt+at0 fl i.toNat),I e.jump]=a.c from by rw[hae];rfl,<-hM3]
  .rw[if_neg ht]at hae
   obtain⟨m',h5,h6⟩:=main M2 (fc+1+33+4) (by rw[hae];exact g72) hI2 (by omega)
   refine⟨m',start _ ?_,h6⟩
   rw[<-h5]
   unfold x7i
   simp(disch:=omega)only[x1rh,x1qt,Nat.zero_add,x1qy,g62,g22,g12,x1r0,Nat.beq_refl,x1qw,List.drop_zero,List.drop_succ_cons,rd_f,sEq_I,ht,decide_false,x1sz]
end Go.Ix
