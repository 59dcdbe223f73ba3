import Derived.Test.YtaoalekmhjclnaaGreatDoorW10Pts
set_option linter.unusedSimpArgs false
set_option linter.unusedVariables false
set_option maxRecDepth 10000
namespace Go.Ix
open Go.Proofs
variable{ba pa ea:AV}{bl:List Bd}{pl:List Pn}{el:List Pe}{wv mg:Int}
theorem x1me(call:x17y)(hs:FHs)(u:Nat){x:ByteArray}(h:Sl Bd.c ba bl)(hl:bl.length<=1000){id:Id}:∀(suf:List Bd) (k j:Nat) (m:Mem) (fc:Nat),bl.drop k=suf->suf.length<j->m.get id=some (.row [I wv,I mg,ba,pa,ea] 0 false) ->
 x3r call hs u j (T x) (.ptr id 0 0) (I k) m fc=some (I (idxB x k suf),m):=by
 intro suf
 induction suf with
 |nil=>
  intro k j m fc hd hj hm
  obtain⟨j,rfl⟩:∃i,j=i+1:=⟨j-1,by simp at hj;omega⟩
  have hk:¬((k:Int)<(bl.length:Int)):=by have:=x1t3.mp hd;omega
  simp only[x3r]
  unfold x8w xd6
  simp only[x18g,x182,x183 hm,x1sg,x1sf,x1sj,rd_f,List.head?_cons,h.len x1b9,x18k,hk,x1sm,x18b,idxB]
 |cons e r ih=>
  intro k j m fc hd hj hm
  obtain⟨j,rfl⟩:∃i,j=i+1:=⟨j-1,by simp at hj;omega⟩
  obtain⟨hk,he,hd1⟩:=x19i hd
  have hk':(k:Int)<(bl.length:Int):=by omega
  have ix:=h.ix Bd.len hk
  have f0:sFA 0 (.plit ((bl.drop k).flatMap Bd.c))=some (.plit ((bl.drop k).flatMap Bd.c)):=rfl
  have x0:∀m,sLd false 1 (.plit ((bl.drop k).flatMap Bd.c)) m=some (T e.nm):=λm=>by rw[x19h hk,x1st,he];rfl
  have hw:w64 ((k:Int)+1)=((k+1:Nat):Int):=by rw[x18i (by omega) (by omega)];omega
  have r1:=ih (k+1) j m (fc+16) hd1 (by simp at hj;omega) hm
  simp only[x3r]
  unfold x8w
  simp only[x18g,x182,x183 hm,x1sg,x1sf,x1sj,rd_f,List.head?_cons,h.len x1b9,x18k,hk',x1si,x18a,ix,f0,x0,t_eq,idxB]
  cases teq e.nm x with
  |true=>simp only[x18a,cond_true]
  |false=>simp only[x18b,cond_false,x18y,hw,x182,r1];rw[show((k:Int)+1)=((k+1:Nat):Int) by omega]
theorem x1mf(d:Nat)(h1:Sl Bd.c ba bl)(h2:Sl Pn.c pa pl)(h3:Sl Pe.c ea el)(hb:bl.length<=1000)(x:ByteArray)(m:Mem):x17z (x180 (d+1)) x1h [.agg [I wv,I mg,ba,pa,ea],T x] m=some (I (idxB x 0 bl),m):=by
 refine x195 (by simp[h1.still1,h2.still1,h3.still1,still]) ?_ m
 rw[xzs]
 unfold xbh x8x xd7
 have ho:(AV.agg [I wv,I mg,ba,pa,ea]).cells.all AV.one=true:=by rw[x19n];simp[h1.one,h2.one,h3.one]
 simp only[mem0,x19f,ho,x18m]
 generalize hm1:Mem.new _ _ _=m1
 have hg:m1.get (0,0,2)=some (.row [I wv,I mg,ba,pa,ea] 0 false):=by rw[<-hm1,Mem.get_new_same];rfl
 have r:=x1me (x180 d) [] 0 (x:=x) h1 hb bl 0 NN m1 (0+2+1) rfl (by rw[x197];omega) hg
 rw[show I ((0:Nat):Int)=I 0 from rfl]at r
 exact r▸RetF.st rfl rfl
def ixP(b:Bd):Int->List Pn->List Int
 |_,[]=>[]
 |k,p::r=>bif inB b p then k::ixP b (k+1) r else ixP b (k+1) r
theorem ixP_len(b:Bd):∀(l:List Pn) (k:Int),(ixP b k l).length<=l.length
 |[],_=>x1sn _
 |p::r,k=>by
  have:=ixP_len b r (k+1)
  rw[ixP]
  cases inB b p<;>simp<;>omega
theorem mkLit_int{R:Type}{x:Int}{id:Id}{m:Mem}{k:AV->Mem->Option R}:x18l x1a0 [(0,1,I x)] 1 1 id m k=k (.slit [I x] 1 true) m:=by
 rw[show x1a0=[I 0] by kernel_rfl]
 rfl
theorem el_i(M:Mem)(x:Int):elems M.get 1 (.slit [I x] 1 true)=some (intE x,1):=rfl
theorem x1mg(d:Nat)(hs:FHs)(h1:Sl Bd.c ba bl)(h2:Sl Pn.c pa pl)(hp:pl.length<=1000){i:Nat}(hi:i<bl.length)(hz:x1a1 bl[i].cs=0)(hpl:∀p∈pl,isPl p.at_=true) :
 ∀(suf:List Pn) (k j:Nat) (v:AV) (acc:List Int) (m:Mem) (fc:Nat),pl.drop k=suf->suf.length<j->acc.length<=k->Gr 1 intE 0 30 m v acc->m.get (0,0,2)=some (.row [I wv,I mg,ba,pa,ea] 0 false) ->
 ∃v' m',x3u (x180 (d+3)) hs 0 j (I i) (.ptr (0,0,2) 0 0) v (I k) m fc=some (v',m')/\Gr 1 intE 0 30 m' v' (acc++ixP bl[i] k suf):=by
 intro suf
 induction suf with
 |nil=>
  intro k j v acc m fc hd hj ha hG hm
  obtain⟨j,rfl⟩:∃i,j=i+1:=⟨j-1,by simp at hj;omega⟩
  have hk:¬((k:Int)<(pl.length:Int)):=by have:=x1t3.mp hd;omega
  simp only[x3u]
  unfold x93 xdc
  simp only[x18g,x182,x183 hm,x1sg,x1sf,x1sj,rd_f,List.head?_cons,h2.len x1as,x18k,hk,x1sm,x18b,ixP]
  exact⟨v,m,rfl,by rw[x1v0];exact hG⟩
 |cons e r ih=>
  intro k j v acc m fc hd hj ha hG hm
  obtain⟨j,rfl⟩:∃i,j=i+1:=⟨j-1,by simp at hj;omega⟩
  obtain⟨hk,he,hd1⟩:=x19i hd
  have hk':(k:Int)<(pl.length:Int):=by omega
  have ix:=h2.ix Pn.len hk
  have ixb:=h1.ix Bd.len hi
  have b1:sFA 1 (.plit ((bl.drop i).flatMap Bd.c))=some (.plit (((bl.drop i).flatMap Bd.c).drop 1)):=rfl
  have b2:∀m,sLd false 1 (.plit (((bl.drop i).flatMap Bd.c).drop 1)) m=some bl[i].ca:=λm=>by rw[x19h hi,x1st];rfl
  have p1:sFA 1 (.plit ((pl.drop k).flatMap Pn.c))=some (.plit (((pl.drop k).flatMap Pn.c).drop 1)):=rfl
  have p2:∀m,sLd true 3 (.plit (((pl.drop k).flatMap Pn.c).drop 1)) m=some (.agg e.at_.c):=λm=>by rw[x19h hk,x1st,he];rfl
  have hw:w64 ((k:Int)+1)=((k+1:Nat):Int):=by rw[x18i (by omega) (by omega)];omega
  have hin:=w_rInside d (bl[i].ok) hz (p:=e.at_) (hpl e (he▸x1t0 hk)) m
  simp only[x3u]
  unfold x93 xdd
  simp only[x18g,x182,x183 hm,x1sg,x1sf,x1sj,rd_f,List.head?_cons,h2.len x1as,x18k,hk',x1si,x18a,ix,ixb,b1,b2,p1,p2,hin,ixP,x92]
  have hke:((k:Int)+1)=((k+1:Nat):Int):=by omega
  cases c:inB bl[i] e
  .have c':x1bz bl[i].cs e.at_=false:=c
   simp only[c',x18b,x18y,hw,x182,cond_false]
   obtain⟨v',m',r1,G1⟩:=ih (k+1) j v acc m (fc+5+13+3) hd1 (by simp at hj;omega) (by omega) hG hm
   exact⟨v',m',r1,by rw[hke];exact G1⟩
  .have c':x1bz bl[i].cs e.at_=true:=c
   obtain⟨v1,m1,A,G1,n1,fr⟩:=hG.app x1ek (by omega) (bytes:=8) (s0:=fc+5+16) (by unfold x18q;omega) (k:Int)
   simp only[c',x18a,mkLit_int,el_i,A,x18y,hw,x182,cond_true]
   obtain⟨v',m',r1,G2⟩:=ih (k+1) j v1 (acc++[(k:Int)]) m1 (fc+5+18+3) hd1 (by simp at hj;omega) (by simp;omega) G1 (by rw[fr _ (by simp)];exact hm)
   exact⟨v',m',r1,by rw[hke];rw[x1vf]at G2;exact G2⟩
theorem Gr.frzS{α:Type}{z:Nat}{enc:α->List AV}(hz:∀x,(enc x).length=z)(hs:∀x,(enc x).all still1=true){u t k:Nat}{m:Mem}{a:AV}{l:List α}(h:Gr z enc u t m a l):∃a',Sl enc a' l/\Go.Ix.frz m.get (k+2) a=some a':=by
 have g:Gk z enc (λ_=>True) m a l:=by
  rcases h with h|⟨s,ver,h1,h2⟩
  .exact .inl h
  .exact .inr ⟨(u,s,t),ver,trivial,h1,h2⟩
 exact g.frz hz hs
theorem x1mh(d:Nat)(h1:Sl Bd.c ba bl)(h2:Sl Pn.c pa pl)(h3:Sl Pe.c ea el)(hp:pl.length<=1000){i:Nat}(hi:i<bl.length)(hz:x1a1 bl[i].cs=0)(hpl:∀p∈pl,isPl p.at_=true)(m:Mem) :
 ∃a,Ints a (ixP bl[i] 0 pl)/\x17z (x180 (d+4)) x1z [.agg [I wv,I mg,ba,pa,ea],I i] m=some (a,m):=by
 have key:RetF (λa=>Ints a (ixP bl[i] 0 pl)) (x180 (d+4) [] x1z [.agg [I wv,I mg,ba,pa,ea],I i] mem0):=by
  rw[xzv]
  unfold xbk x94 xde
  have ho:(AV.agg [I wv,I mg,ba,pa,ea]).cells.all AV.one=true:=by rw[x19n];simp[h1.one,h2.one,h3.one]
  simp only[mem0,x19f,ho,x18m]
  generalize hm1:Mem.new _ _ _=m1
  have hg:m1.get (0,0,2)=some (.row [I wv,I mg,ba,pa,ea] 0 false):=by rw[<-hm1,Mem.get_new_same];rfl
  obtain⟨v,m',r,G⟩:=x1mg d [] h1 h2 hp hi hz hpl pl 0 NN nilS [] m1 (0+3+1) rfl (by rw[x197];omega) (x1ug _) Gr.nil hg
  obtain⟨v',z1,z2⟩:=G.frzS (k:=4) x1ek x1ly
  rw[show I ((0:Nat):Int)=I 0 from rfl]at r
  rw[r]
  exact RetF.mk z2 z1
 obtain⟨a,ha,hc⟩:=x1ds (by simp[h1.still1,h2.still1,h3.still1,still]) key m
 exact⟨a,ha,hc⟩
def x1cj(pl:List Pn):List Int->List ByteArray
 |[]=>[]
 |i::r=>(match pl[i.toNat]? with|some p=>p.nm|none=>⟨#[]⟩)::x1cj pl r
theorem x1ko(b:Bd):∀(suf:List Pn) (k:Nat),pl.drop k=suf->x1cj pl (ixP b k suf)=namesP b suf
 |[],k,_=>rfl
 |p::r,k,hd=>by
  obtain⟨hk,he,hd1⟩:=x19i hd
  have ih:=x1ko b r (k+1) hd1
  rw[ixP,show((k:Int)+1)=((k+1:Nat):Int) by omega]
  unfold namesP at ih ⊢
  cases c:inB b p with
  |true=>
   rw[cond_true,x1cj,ih,x1uy,x1t5 hk,he,List.filter_cons_of_pos c]
   rfl
  |false=>rw[cond_false,ih,List.filter_cons_of_neg (by simp[c])]
theorem ixP_in(b:Bd):∀(suf:List Pn) (k:Nat),pl.drop k=suf->∀i∈ixP b k suf,0<=i/\i<pl.length
 |[],k,_,i,h=>by simp[ixP]at h
 |p::r,k,hd,i,h=>by
  obtain⟨hk,he,hd1⟩:=x19i hd
  have ih:=ixP_in b r (k+1) hd1 i
  rw[ixP,show((k:Int)+1)=((k+1:Nat):Int) by omega]at h
  cases c:inB b p with
  |true=>
   rw[c,cond_true]at h
   rcases x1t6.mp h with rfl|h
   .omega
   .exact ih h
  |false=>rw[c,cond_false]at h;exact ih h
theorem l_names(call:x17y)(hs:FHs){sa:AV}{s:List Int}(h2:Sl Pn.c pa pl)(h4:Ints sa s)(hs1:s.length<=1000)(hin:∀i∈s,0<=i/\i<pl.length) :
 ∀(suf:List Int) (k j:Nat) (v:AV) (acc:List ByteArray) (m:Mem) (fc:Nat),s.drop k=suf->suf.length<j->acc.length<=k->Gr 1 tE 0 24 m v acc->m.get (0,0,2)=some (.row [I wv,I mg,ba,pa,ea] 0 false) ->
 ∃v' m',x3t call hs 0 j sa (.ptr (0,0,2) 0 0) v (I k) m fc=some (v',m')/\Gr 1 tE 0 24 m' v' (acc++x1cj pl suf):=by
 intro suf
 induction suf with
 |nil=>
  intro k j v acc m fc hd hj ha hG hm
  obtain⟨j,rfl⟩:∃i,j=i+1:=⟨j-1,by simp at hj;omega⟩
  have hk:¬((k:Int)<(s.length:Int)):=by have:=x1t3.mp hd;omega
  simp only[x3t]
  unfold x90 xda
  simp only[x182,h4.len u_ints,x18k,hk,x1sm,x18b,x1cj]
  exact⟨v,m,rfl,by rw[x1v0];exact hG⟩
 |cons e r ih=>
  intro k j v acc m fc hd hj ha hG hm
  obtain⟨j,rfl⟩:∃i,j=i+1:=⟨j-1,by simp at hj;omega⟩
  obtain⟨hk,he,hd1⟩:=x19i hd
  have hk':(k:Int)<(s.length:Int):=by omega
  have ix:=h4.ix x1ek hk
  have ld:∀m,sLd false 1 (.plit ((s.drop k).flatMap intE)) m=some (I e):=λm=>by rw[x19h hk,x1st,he];rfl
  obtain⟨n,rfl,hn⟩:∃n:Nat,e=n/\n<pl.length:=by
   have:=hin e (he▸x1t0 hk)
   exact⟨e.toNat,by omega,by omega⟩
  have ixp:=h2.ix Pn.len hn
  have p1:sFA 0 (.plit ((pl.drop n).flatMap Pn.c))=some (.plit ((pl.drop n).flatMap Pn.c)):=rfl
  have p2:∀m,sLd false 1 (.plit ((pl.drop n).flatMap Pn.c)) m=some (T pl[n].nm):=λm=>by rw[x19h hn,x1st];rfl
  have hw:w64 ((k:Int)+1)=((k+1:Nat):Int):=by rw[x18i (by omega) (by omega)];omega
  obtain⟨v1,m1,A,G1,n1,fr⟩:=hG.app x1b8 (by omega) (bytes:=16) (s0:=fc+15) (by unfold x18q;omega) pl[n].nm
  obtain⟨v',m',r1,G2⟩:=ih (k+1) j v1 (acc++[pl[n].nm]) m1 (fc+20) hd1 (by simp at hj;omega) (by simp;omega) G1 (by rw[fr _ (by simp)];exact hm)
  simp only[x3t]
  unfold x90
  simp only[x18g,x182,x183 hm,x1sg,x1sf,x1sj,rd_f,List.head?_cons,h4.len u_ints,x18k,hk',x1si,x18a,ix,ld,ixp,p1,p2,x1es,x1et,A,x18y,hw,r1]
  refine⟨v',m',rfl,?_⟩
  rw[x1cj,x1uy,x1t5 hn]
  rw[x1vf]at G2
  exact G2
theorem w_names(d:Nat){sa:AV}{s:List Int}(h1:Sl Bd.c ba bl)(h2:Sl Pn.c pa pl)(h3:Sl Pe.c ea el)(h4:Ints sa s)(hs1:s.length<=1000)(hin:∀i∈s,0<=i/\i<pl.length)(m:Mem) :
 ∃a,Sl tE a (x1cj pl s)/\x17z (x180 (d+1)) x1y [.agg [I wv,I mg,ba,pa,ea],sa] m=some (a,m):=by
 have key:RetF (λa=>Sl tE a (x1cj pl s)) (x180 (d+1) [] x1y [.agg [I wv,I mg,ba,pa,ea],sa] mem0):=by
  rw[xzu]
  unfold xbj x91 xdb
  have ho:(AV.agg [I wv,I mg,ba,pa,ea]).cells.all AV.one=true:=by rw[x19n];simp[h1.one,h2.one,h3.one]
  simp only[mem0,x19f,ho,x18m]
  generalize hm1:Mem.new _ _ _=m1
  have hg:m1.get (0,0,2)=some (.row [I wv,I mg,ba,pa,ea] 0 false):=by rw[<-hm1,Mem.get_new_same];rfl
  obtain⟨v,m',r,G⟩:=l_names (x180 d) [] h2 h4 hs1 hin s 0 NN nilS [] m1 (0+3+1) rfl (by rw[x197];omega) (x1ug _) Gr.nil hg
  obtain⟨v',z1,z2⟩:=G.frzS (k:=4) x1b8 x1hp
  rw[show I ((0:Nat):Int)=I 0 from rfl]at r
  rw[r]
  exact RetF.mk z2 z1
 have hst0:still (.agg [I wv,I mg,ba,pa,ea])=true:=by simp[h1.still1,h2.still1,h3.still1,still]
 obtain⟨a,ha,hc⟩:=x1ds (by simp only[x1th,x1tv,hst0,h4.still,x1tm]) key m
 exact⟨a,ha,hc⟩
theorem t_ne10(x y:Operand)(a b:ByteArray):sBin Tryz.prog .neq x5 x y (T a) (T b)=some (B (!teq a b)):=by kernel_rfl
theorem teq_self(a:ByteArray):teq a a=true:=by unfold teq;simp
theorem l_Texts(call:x17y)(hs:FHs)(u:Nat){a b:AV}{l:List ByteArray}(h:Sl tE a l)(h2:Sl tE b l)(hl:l.length<=1000):∀(suf:List ByteArray) (k j:Nat) (m:Mem) (fc:Nat),l.drop k=suf->suf.length<j ->
 x3s call hs u j a b (I k) m fc=some (B true,m):=by
 intro suf
 induction suf with
 |nil=>
  intro k j m fc hd hj
  obtain⟨j,rfl⟩:∃i,j=i+1:=⟨j-1,by simp at hj;omega⟩
  have hk:¬((k:Int)<(l.length:Int)):=by have:=x1t3.mp hd;omega
  simp only[x3s]
  unfold x8y xd8
  simp only[x182,h.len x1ci,x18k,hk,x1sm,x18b]
 |cons e r ih=>
  intro k j m fc hd hj
  obtain⟨j,rfl⟩:∃i,j=i+1:=⟨j-1,by simp at hj;omega⟩
  obtain⟨hk,he,hd1⟩:=x19i hd
  have hk':(k:Int)<(l.length:Int):=by omega
  have ix:=h.ix x1b8 hk
  have ix2:=h2.ix x1b8 hk
  have ld:∀m,sLd false 1 (.plit ((l.drop k).flatMap tE)) m=some (T e):=λm=>by rw[x19h hk,x1st,he];rfl
  have hw:w64 ((k:Int)+1)=((k+1:Nat):Int):=by rw[x18i (by omega) (by omega)];omega
  simp only[x3s]
  unfold x8y
  simp only[x182,h.len x1ci,x18k,hk',x1si,x18a,ix,ix2,ld,t_ne10,teq_self,x1sr,x18b,x18y,hw]
  exact ih (k+1) j m _ hd1 (by simp at hj;omega)
theorem w_Texts(d:Nat){a b:AV}{l:List ByteArray}(h:Sl tE a l)(h2:Sl tE b l)(hl:l.length<=1000)(m:Mem):x17z (x180 (d+1)) x1x [a,b] m=some (B true,m):=by
 refine x195 (by simp[h.still,h2.still]) ?_ m
 rw[xzt]
 unfold xbi x8z xd9
 have r:=l_Texts (x180 d) [] 0 h h2 hl l 0 NN ⟨[],1⟩ (0+6+1) rfl (by rw[x197];omega)
 rw[show I ((0:Nat):Int)=I 0 from rfl]at r
 simp only[mem0,h.len x1ci,h2.len x1ci,x182,x1aa,x1si,x1sr,x18b]
 exact r▸RetF.st rfl rfl
def sl20(x:ByteArray):Bool:=decide (x.size<=20)
def slPe(el:List Pe):Bool:=el.all λe=>sl20 e.nm
def slPn(pl:List Pn):Bool:=pl.all λe=>sl20 e.nm
def slBd(bl:List Bd):Bool:=bl.all λe=>sl20 e.nm&&decide (e.cs.length<=22)
def slM(bl:List Bd)(pl:List Pn)(el:List Pe):Bool:=decide (bl.length<=8)&&(decide (pl.length<=10)&&(decide (el.length<=12)&&(slBd bl&&(slPn pl&&slPe el))))
theorem sl_gt(x:ByteArray):decide ((20:Int)<(x.size:Int))=!sl20 x:=by
 unfold sl20
 by_cases h:x.size<=20
 .simp[h,show ¬(20:Int)<(x.size:Int) by omega]
 .simp[h,show(20:Int)<(x.size:Int) by omega]
section
variable(call:x17y)(hs:FHs)(u:Nat){id:Id}
theorem l_sl0(h:Sl Pe.c ea el)(hl:el.length<=1000):∀(suf:List Pe) (k j:Nat) (m:Mem) (fc:Nat),el.drop k=suf->suf.length<j->m.get id=some (.row [I wv,I mg,ba,pa,ea] 0 false) ->
 x3l call hs u j (.ptr id 0 0) (I k) m fc=some (B (slPe suf),m):=by
 intro suf
 induction suf with
 |nil=>
  intro k j m fc hd hj hm
  obtain⟨j,rfl⟩:∃i,j=i+1:=⟨j-1,by simp at hj;omega⟩
  have hk:¬((k:Int)<(el.length:Int)):=by have:=x1t3.mp hd;omega
  simp only[x3l]
  unfold x8h xcs
  simp only[x18g,x182,x183 hm,x1sg,x1sf,x1sj,rd_f,List.head?_cons,h.len x1ba,x18k,hk,x1sm,x18b]
  rfl
 |cons e r ih=>
  intro k j m fc hd hj hm
  obtain⟨j,rfl⟩:∃i,j=i+1:=⟨j-1,by simp at hj;omega⟩
  obtain⟨hk,he,hd1⟩:=x19i hd
  have hk':(k:Int)<(el.length:Int):=by omega
  have ix:=h.ix Pe.len hk
  have f0:sFA 0 (.plit ((el.drop k).flatMap Pe.c))=some (.plit ((el.drop k).flatMap Pe.c)):=rfl
  have x0:∀m,sLd false 1 (.plit ((el.drop k).flatMap Pe.c)) m=some (T e.nm):=λm=>by rw[x19h hk,x1st,he];rfl
  have hw:w64 ((k:Int)+1)=((k+1:Nat):Int):=by rw[x18i (by omega) (by omega)];omega
  have r1:=ih (k+1) j m (fc+16) hd1 (by simp at hj;omega) hm
  have es:slPe (e::r)=(sl20 e.nm&&slPe r):=rfl
  simp only[x3l]
  unfold x8h
  simp only[x18g,x182,x183 hm,x1sg,x1sf,x1sj,rd_f,List.head?_cons,h.len x1ba,x18k,hk',x1si,x18a,ix,f0,x0,x1dn,x19t,sl_gt,es]
  cases sl20 e.nm
  .simp only[x1ss,x18a,x1tz]
  .simp only[x1sr,x18b,x18y,hw,x182,r1,x1t4]
theorem l_sl1(h:Sl Pn.c pa pl)(hl:pl.length<=1000)(h3:Sl Pe.c ea el)(hl3:el.length<=1000):∀(suf:List Pn) (k j:Nat) (m:Mem) (fc:Nat),pl.drop k=suf->suf.length<j->m.get id=some (.row [I wv,I mg,ba,pa,ea] 0 false) ->
 x3m call hs u j (.ptr id 0 0) (I k) m fc=some (B (slPn suf&&slPe el),m):=by
 intro suf
 induction suf with
 |nil=>
  intro k j m fc hd hj hm
  obtain⟨j,rfl⟩:∃i,j=i+1:=⟨j-1,by simp at hj;omega⟩
  have hk:¬((k:Int)<(pl.length:Int)):=by have:=x1t3.mp hd;omega
  have r:=l_sl0 call hs u (wv:=wv) (mg:=mg) (ba:=ba) (pa:=pa) (id:=id) h3 hl3 el 0 NN m (fc+5+1) rfl (by rw[x197];omega) hm
  rw[show I ((0:Nat):Int)=I 0 from rfl]at r
  simp only[x3m]
  unfold x8i xct
  simp only[x18g,x182,x183 hm,x1sg,x1sf,x1sj,rd_f,List.head?_cons,h.len x1as,x18k,hk,x1sm,x18b,r]
  rfl
 |cons e r ih=>
  intro k j m fc hd hj hm
  obtain⟨j,rfl⟩:∃i,j=i+1:=⟨j-1,by simp at hj;omega⟩
  obtain⟨hk,he,hd1⟩:=x19i hd
  have hk':(k:Int)<(pl.length:Int):=by omega
  have ix:=h.ix Pn.len hk
  have f0:sFA 0 (.plit ((pl.drop k).flatMap Pn.c))=some (.plit ((pl.drop k).flatMap Pn.c)):=rfl
  have x0:∀m,sLd false 1 (.plit ((pl.drop k).flatMap Pn.c)) m=some (T e.nm):=λm=>by rw[x19h hk,x1st,he];rfl
  have hw:w64 ((k:Int)+1)=((k+1:Nat):Int):=by rw[x18i (by omega) (by omega)];omega
  have r1:=ih (k+1) j m (fc+16) hd1 (by simp at hj;omega) hm
  have es:slPn (e::r)=(sl20 e.nm&&slPn r):=rfl
  simp only[x3m]
  unfold x8i
  simp only[x18g,x182,x183 hm,x1sg,x1sf,x1sj,rd_f,List.head?_cons,h.len x1as,x18k,hk',x1si,x18a,ix,f0,x0,x1dn,x19t,sl_gt,es]
  cases sl20 e.nm
  .simp only[x1ss,x18a,x1tz]
  .simp only[x1sr,x18b,x18y,hw,x182,r1,x1t4]
theorem u_plc:Tryz.prog.underlying xk=some (.slice x17):=by kernel_rfl
theorem l_sl2(h1:Sl Bd.c ba bl)(hl1:bl.length<=1000)(h:Sl Pn.c pa pl)(hl:pl.length<=1000)(h3:Sl Pe.c ea el)(hl3:el.length<=1000):∀(suf:List Bd) (k j:Nat) (m:Mem) (fc:Nat),bl.drop k=suf->suf.length<j->m.get id=some (.row [I wv,I mg,ba,pa,ea] 0 false) ->
 x3n call hs u j (.ptr id 0 0) (I k) m fc=some (B (slBd suf&&(slPn pl&&slPe el)),m):=by
 intro suf
 induction suf with
 |nil=>
  intro k j m fc hd hj hm
  obtain⟨j,rfl⟩:∃i,j=i+1:=⟨j-1,by simp at hj;omega⟩
  have hk:¬((k:Int)<(bl.length:Int)):=by have:=x1t3.mp hd;omega
  have r:=l_sl1 call hs u (wv:=wv) (mg:=mg) (ba:=ba) (id:=id) h hl h3 hl3 pl 0 NN m (fc+5+1) rfl (by rw[x197];omega) hm
  rw[show I ((0:Nat):Int)=I 0 from rfl]at r
  simp only[x3n]
  unfold x8j xcu
  simp only[x18g,x182,x183 hm,x1sg,x1sf,x1sj,rd_f,List.head?_cons,h1.len x1b9,x18k,hk,x1sm,x18b,r]
  rfl
 |cons e r ih=>
  intro k j m fc hd hj hm
  obtain⟨j,rfl⟩:∃i,j=i+1:=⟨j-1,by simp at hj;omega⟩
  obtain⟨hk,he,hd1⟩:=x19i hd
  have hk':(k:Int)<(bl.length:Int):=by omega
  have ix:=h1.ix Bd.len hk
  have f0:sFA 0 (.plit ((bl.drop k).flatMap Bd.c))=some (.plit ((bl.drop k).flatMap Bd.c)):=rfl
  have x0:∀m,sLd false 1 (.plit ((bl.drop k).flatMap Bd.c)) m=some (T e.nm):=λm=>by rw[x19h hk,x1st,he];rfl
  have f1:sFA 1 (.plit ((bl.drop k).flatMap Bd.c))=some (.plit (((bl.drop k).flatMap Bd.c).drop 1)):=rfl
  have x1:∀m,sLd false 1 (.plit (((bl.drop k).flatMap Bd.c).drop 1)) m=some e.ca:=λm=>by rw[x19h hk,x1st,he];rfl
  have hlc:sLen Tryz.prog xk e.ca=some (I e.cs.length):=e.ok.len u_plc
  have hw:w64 ((k:Int)+1)=((k+1:Nat):Int):=by rw[x18i (by omega) (by omega)];omega
  have r1:=ih (k+1) j m (fc+26) hd1 (by simp at hj;omega) hm
  have es:slBd (e::r)=((sl20 e.nm&&decide (e.cs.length<=22))&&slBd r):=rfl
  simp only[x3n]
  unfold x8j
  simp only[x18g,x182,x183 hm,x1sg,x1sf,x1sj,rd_f,List.head?_cons,h1.len x1b9,x18k,hk',x1si,x18a,ix,f0,x0,x1dn,x19t,sl_gt,es]
  cases sl20 e.nm
  .simp only[x1ss,x19z,x192,sW_f,x1sr,x199,x182,x18z,x18m,x18a,x1tz]
  .simp only[x1sr,x19z,x192,sW_f,x1ss,x18m,x182,x18g,x183 hm,x1sg,x1sf,x1sj,rd_f,List.head?_cons,ix,f1,x1,hlc,x19t,x18z,x199,x1t4]
   by_cases c:e.cs.length<=22
   .simp only[show ¬((22:Int)<(e.cs.length:Int)) by omega,c,x1sm,x1si,x18b,x18y,hw,x182,r1,x1t4]
   .simp only[show((22:Int)<(e.cs.length:Int)) by omega,c,x1sm,x1si,x18a,x1tz]
end
theorem w_Slight(d:Nat)(h1:Sl Bd.c ba bl)(h2:Sl Pn.c pa pl)(h3:Sl Pe.c ea el)(m:Mem):x17z (x180 (d+1)) x1u [.agg [I wv,I mg,ba,pa,ea]] m=some (B (slM bl pl el),m):=by
 refine x195 (by simp[h1.still1,h2.still1,h3.still1]) ?_ m
 rw[xzn]
 unfold xbc x8k
 have ho:(AV.agg [I wv,I mg,ba,pa,ea]).cells.all AV.one=true:=by rw[x19n];simp[h1.one,h2.one,h3.one]
 simp only[mem0,x19f,ho,x18m]
 generalize hm1:Mem.new _ _ _=m1
 have hg:m1.get (0,0,1)=some (.row [I wv,I mg,ba,pa,ea] 0 false):=by rw[<-hm1,Mem.get_new_same];rfl
 unfold slM
 simp only[x18g,x182,x183 hg,x1sg,x1sf,x1sj,rd_f,List.head?_cons,h1.len x1b9,x19t]
 by_cases c1:bl.length<=8
 rotate_left
 .simp only[show((8:Int)<(bl.length:Int)) by omega,c1,x1si,x1sm,x192,sW_f,x1sr,x199,x18m,x182,x18z,x18a,x1tz]
  exact RetF.st rfl rfl
 by_cases c2:pl.length<=10
 rotate_left
 .simp only[show ¬((8:Int)<(bl.length:Int)) by omega,c1,x1si,x1sm,x192,sW_f,x1sr,x1ss,x199,x18m,x182,x18z,x18a,x1tz,x1t4,x18g,x183 hg,x1sg,x1sf,x1sj,rd_f,List.head?_cons,h2.len x1as,x19t,show((10:Int)<(pl.length:Int)) by omega,c2]
  exact RetF.st rfl rfl
 by_cases c3:el.length<=12
 rotate_left
 .simp only[show ¬((8:Int)<(bl.length:Int)) by omega,c1,x1si,x1sm,x192,sW_f,x1sr,x1ss,x199,x18m,x182,x18z,x18a,x1tz,x1t4,x18g,x183 hg,x1sg,x1sf,x1sj,rd_f,List.head?_cons,h2.len x1as,h3.len x1ba,x19t,show ¬((10:Int)<(pl.length:Int)) by omega,c2,show((12:Int)<(el.length:Int)) by omega,c3]
  exact RetF.st rfl rfl
 have r:=l_sl2 (x180 d) [] 0 (id:=(0,0,1)) (wv:=wv) (mg:=mg) h1 (by omega) h2 (by omega) h3 (by omega) bl 0 NN m1 (0+18+1) rfl (by rw[x197];omega) hg
 rw[show I ((0:Nat):Int)=I 0 from rfl]at r
 unfold xcv
 simp only[show ¬((8:Int)<(bl.length:Int)) by omega,c1,x1si,x1sm,x192,sW_f,x1sr,x1ss,x199,x18m,x182,x18z,x18b,x1tz,x1t4,x18g,x183 hg,x1sg,x1sf,x1sj,rd_f,List.head?_cons,h2.len x1as,h3.len x1ba,x19t,show ¬((10:Int)<(pl.length:Int)) by omega,c2,show ¬((12:Int)<(el.length:Int)) by omega,c3]
 rw[x1sg]at r
 rw[r]
 exact RetF.st rfl rfl
end Go.Ix
