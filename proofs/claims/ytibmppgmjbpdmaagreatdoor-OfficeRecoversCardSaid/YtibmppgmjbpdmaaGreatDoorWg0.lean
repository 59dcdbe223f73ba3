import Derived.Test.YtibmppgmjbpdmaaGreatDoorFxTop
import Derived.Test.YtibmppgmjbpdmaaGreatDoorFxTell
import Derived.Test.YtibmppgmjbpdmaaGreatDoorFxShelf
import Derived.Lib.SmallJoins
import Derived.Shelf.Strings.Builder1
import Derived.Shelf.RegionOpenPlain
import Derived.WalkKit
set_option linter.unusedSimpArgs false
set_option linter.unusedVariables false
namespace Go.Ix
open Go Go.Proofs
theorem x1dk{w w':World}(h:Go.RowKit.Below w.heap.size w w'):Ext (λ_=>True) w w':=
 ⟨h.size,λb hb=>by simp only[World.shape?];rw[h.block b hb],λb _ hb=>h.block b hb,h.os,h.output⟩
theorem x1bz{P:Program}{E:Env}{w:World}{st:St}{f:FuncId}{vs:Array Value}{r:AV}(hb:x161 P f)(hS:Sim E w st)(hc:Calls P f vs w λe w'=>∃u,e=.returned u/\Ext (λ_=>True) w w'/\V E.F w' E.η E.ζ.1 r u):x161 P f/\x16f P E w st f vs r st:=by
 refine⟨hb,λcs=>?_⟩
 obtain⟨e,w',fr,⟨u,rfl,hx,hV⟩,h1,h2,h3⟩:=hc cs
 obtain⟨g1,g2⟩:=hS.outside (F':=E.F) hx (λ_ h=>h) (λ_ h=>.inl h)
 exact⟨E,w',u,.inl ⟨hb,fr,h1,h2,h3⟩,hV,g1,g2,x1p6 _,λid ver h=>.inl ⟨ver,h⟩⟩
theorem x1dl{E:Env}{w:World}{a:AV}{vs:Array Value}(h:ArgsV E w [a] vs):∃v,vs=#[v]/\E.V w a v:=by
 obtain⟨h1,h2⟩:=h
 have h1':vs.size=1:=h1
 refine⟨vs[0],?_,h2 0 a vs[0] rfl (x1pg (by omega))⟩
 refine Array.ext (by simp[h1']) λi a b=>?_
 have:i=0:=by omega
 subst this
 rfl
theorem argsV_two{E:Env}{w:World}{a b:AV}{vs:Array Value}(h:ArgsV E w [a,b] vs):∃u v,vs=#[u,v]/\E.V w a u/\E.V w b v:=by
 obtain⟨h1,h2⟩:=h
 have h1':vs.size=2:=h1
 refine⟨vs[0],vs[1],?_,h2 0 a vs[0] rfl (x1pg (by omega)),h2 1 b vs[1] rfl (x1pg (by omega))⟩
 refine Array.ext (by simp[h1']) λi a b=>?_
 have:i=0\/i=1:=by omega
 rcases this with rfl|rfl<;>rfl
theorem ext_grow(w:World)(k:Nat)(os:Array Obj):Ext (λ_=>True) w (Go.Sort.grow (w.drewN k) os):=by
 have hb:∀b,b<w.heap.size->(Go.Sort.grow (w.drewN k) os).heap[b]?=w.heap[b]?:=λb hb=>by
  simp only[Go.Sort.grow,World.drewN]
  rw[x1rr hb]
 exact⟨by simp[Go.Sort.grow,World.drewN],λb h=>by simp only[World.shape?];rw[hb b h],λb _ h=>hb b h,rfl,rfl⟩
theorem x1dm:∀(k n:Nat),1<=k->n<10 ^ k->digF k n=Lib.decDigits n
 |0,n,h,_=>by omega
 |k+1,n,_,h=>by
  rw[Lib.decDigits]
  unfold digF
  by_cases h1:n<10
  .rw[x1p0 h1,dif_pos h1]
  .rw[x1oz h1,dif_neg h1]
   rw[x1dm k (n / 10) (by
    rcases k with _|k
    .simp at h;omega
    .omega) (by rw[Nat.pow_succ]at h;omega)]
theorem decM_itoa(n:Int)(h0:-9223372036854775808<=n)(h1:n<=9223372036854775807):decM n=Lib.itoa n:=by
 unfold decM Lib.itoa
 split
 .rw[x1dm 20 _ (by omega) (by omega)]
 .rw[x1dm 20 _ (by omega) (by omega)]
theorem x1is{E:Env}{w:World}{st:St}{args:List AV}{vs:Array Value}{r:AV}(hk:x18h Tryz.prog w)(hS:Sim E w st)(hA:ArgsV E w args vs)(hr:x18s 1 args=some r):x161 Tryz.prog xv/\x16f Tryz.prog E w st xv vs r st:=by
 obtain⟨hk1,hk2⟩:=hk
 unfold x18s at hr
 split at hr
 .rename_i n _
  split at hr
  .rename_i hn
   cases hr
   obtain⟨v,rfl,hv⟩:=x1dl hA
   have:=V_sc hv
   subst this
   refine x1bz (x19r (by kernel_rfl)) hS (Calls.mono (Tryz.strconv_Itoa n hn.1 hn.2 w (hk1 (by kernel_rfl))) λe w' ⟨he,k,os,hw⟩=>⟨_,he,?_,?_⟩)
   .rw[hw];exact ext_grow _ _ _
   .rw[decM_itoa n hn.1 hn.2];exact .sc _
  .cases hr
 .rename_i h
  cases h
 .cases hr
set_option maxHeartbeats 1000000 in
theorem x1it{E:Env}{w:World}{st:St}{args:List AV}{vs:Array Value}{r:AV}(hk:x18h Tryz.prog w)(hS:Sim E w st)(hA:ArgsV E w args vs)(hr:x18s 2 args=some r):x161 Tryz.prog xdl/\x16f Tryz.prog E w st xdl vs r st:=by
 obtain⟨hk1,hk2⟩:=hk
 unfold x18s at hr
 split at hr
 .rename_i h
  cases h
 .rename_i s _
  split at hr
  .rename_i hs
   obtain⟨v,rfl,hv⟩:=x1dl hA
   have:=V_sc hv
   subst this
   have hk3:=hk2 (by kernel_rfl)
   have two:∀(w':World) (a b:AV) (u v:Value),V E.F w' E.η E.ζ.1 a u->V E.F w' E.η E.ζ.1 b v->V E.F w' E.η E.ζ.1 (.tup [a,b]) (.tuple #[u,v]):=λw' a b u v h1 h2=>.tup _ _ rfl λi x y hx hy=>by
    match i,hx,hy with
    |0,hx,hy=>cases hx;cases hy;exact h1
    |1,hx,hy=>cases hx;cases hy;exact h2
    |i+2,hx,hy=>simp at hx
   cases hv:Lib.atoiAll s.data.toList with
   |ok v=>
    rw[hv]at hr
    cases hr
    refine x1bz (x19r (by kernel_rfl)) hS (Calls.mono (Tryz.strconv_Atoi_ok s (by omega) v hv w) λe w' ⟨he,hw⟩=>⟨_,he,?_,two _ _ _ _ _ (.sc _) (.sc _)⟩)
    rcases hw with rfl|⟨t,rfl⟩
    .exact Ext.refl _ _
    .exact x1dk (Go.Joins.below_bytesWorld _ _ _ _ (x1p6 _))
   |range=>
    rw[hv]at hr
    cases hr
    obtain⟨_,x,hx,tp,p,rfl⟩:=hk3
    refine x1bz (x19r (by kernel_rfl)) hS (Calls.mono (Tryz.strconv_Atoi_range_var s (by omega) hv tp p w hx) λe w' ⟨N,he,_,_,hw⟩=>⟨_,he,x1dk hw,two _ _ _ _ _ (.sc _) (.un _ _ ⟨_,_,rfl⟩ ?_)⟩)
    exact⟨rfl,rfl,λb h=>by cases h⟩
   |_=>
    rw[hv]at hr
    cases hr
    obtain⟨⟨x,hx,tp,p,rfl⟩,_⟩:=hk3
    refine x1bz (x19r (by kernel_rfl)) hS (Calls.mono (Tryz.strconv_Atoi_bad_var s (by omega) (hv.trans (by kernel_rfl)) tp p w hx) λe w' ⟨N,he,_,_,hw⟩=>⟨_,he,x1dk hw,two _ _ _ _ _ (.sc _) (.un _ _ ⟨_,_,rfl⟩ ?_)⟩)
    exact⟨rfl,rfl,λb h=>by cases h⟩
  .cases hr
 .cases hr
open Go Go.Proofs Go.Shelf Go.RowKit
def Own1(w:World)(v v':Value):Prop:=∀g,v'.ownBlock=some g->v.ownBlock=some g\/w.heap.size<=g
theorem x1b0{w w':World}{b:Nat}(h:w'.heap[b]?=w.heap[b]?):w'.shape? b=w.shape? b:=by simp[World.shape?,h]
theorem app_own{P:Program}{w:World}(t u ty e:TypeId)(i:TypeInfo)(ht:P.underlying t=some (.slice e))(hu:P.underlying u=some .string)(hi:P.info? e=some i)(hz:i.zero=some (.int .u8 0))(hsize:i.size=1)(hby:i.bytes=1)(v:Value)(n:Nat)(xs:List Value)(hown:w.ownsRow 0 e 1 v n xs)(s:ByteArray)(hb:n+s.size<=1099511627776){v':Value}{w':World}(hr:(Builtin.append_ #[t,u] ty #[v,.string s]).run P w=.ok v' w')(hg:w.grownBy w' v.ownBlock)(hnil:v'=.slice none 0 0↔v=.slice none 0 0/\s.size=0) :
 (∀k,k<w.heap.size->w'.shape? k=w.shape? k)/\Own1 w v v':=by
 have hxl:xs.length=n:=by simpa using hown.1
 rcases hown.2 with ⟨rfl,rfl⟩|⟨g,cap,cur,rfl,hbg,hgb,hnc,hcm,hcs,htake⟩
 .refine⟨λk hk=>x1b0 (hg.block k hk (by simp[Value.ownBlock])),?_⟩
  by_cases hm:s.size=0
  .have:=hnil.2 ⟨rfl,hm⟩
   subst this
   intro g h;simp[Value.ownBlock]at h
  .have h2:=Go.run_append_nil_string (P:=P) w t u ty e i (.int .u8 0) ht hu hi hz s (by omega) (by omega) (by rw[hby];omega)
   rw[h2]at hr
   injection hr with h3 h4
   subst h3
   intro g h
   simp only[Value.ownBlock,x1p2]at h
   exact .inr (by omega)
 .by_cases hroom:n+s.size<=cap
  .have hcs':cur.size=cap:=by simpa using hcs
   have h2:=Lib.run_append_room_string (P:=P) w t u ty e i ht hu hi hsize g n cap cur hgb s hroom (by omega)
   rw[h2]at hr
   injection hr with h3 h4
   subst h3 h4
   refine⟨λk hk=>?_,λg' h=>.inl h⟩
   by_cases hkg:k=g
   .subst hkg
    have h5:=setRow_heap w k cur (cur.toList.take n++Lib.strCells s++cur.toList.drop (n+s.size)).toArray e (0,0) hgb
    simp only[World.shape?,h5,hgb]
    simp only[List.size_toArray,x1pn,x1q6,x1s0,x1qk,Lib.strCells_length]
    congr 2;omega
   .exact x1b0 (setRow_other w g k _ hkg)
  .have hbx:Builtin.nextslicecap (n+s.size) cap*i.bytes<=281474976710656:=by
    rw[hby];exact Go.growslice_fits (by omega) (by omega)
   have holds:∀j u,xs[j]?=some u->w.cell? ((⟨g,0,none⟩:Addr).add j)=some u:=hown.cells (g:=g) rfl
   have h2:=Lib.run_append_grow_string (P:=P) w t u ty e i (.int .u8 0) ht hu hi hz ⟨g,0,none⟩ n cap xs (by rw[hsize];simpa using hxl) holds s (by omega) (by omega) hbx
   rw[h2]at hr
   injection hr with h3 h4
   subst h3 h4
   refine⟨λk hk=>x1b0 (Lib.alloc_old w.drew _ k hk),λg' h=>?_⟩
   simp only[Value.ownBlock,x1p2]at h
   exact .inr (by omega)
theorem wpl_app{P:Program}{w:World}{ops:Array Oper}{rest:List Oper}{o:Oper}{a:Act}{Q:Exit->Act->World->Prop}(hgd:o.guard=none)(sl x:Operand)(t u:TypeId)(ho:o.op=.call {callee:=.builtin .append,args:=#[sl,x],argTypes:=#[t,u]})(e:TypeId)(i:TypeInfo)(ht:P.underlying t=some (.slice e))(hu:P.underlying u=some .string)(hi:P.info? e=some i)(hz:i.zero=some (.int .u8 0))(hsize:i.size=1)(hby:i.bytes=1)(v:Value)(n:Nat)(xs:List Value)(hs:a.eval sl=v)(hown:w.ownsRow 0 e 1 v n xs)(s:ByteArray)(hx:a.eval x=.string s)(hb:n+s.size<=1099511627776)(h:∀v' w',w'.ownsRow 0 e 1 v' (n+s.size) (xs++Lib.strCells s)->w.grownBy w' v.ownBlock->(v'=.slice none 0 0↔v=.slice none 0 0/\s.size=0)->(∀k,k<w.heap.size->w'.shape? k=w.shape? k)->Own1 w v v'->wpList P ops Q rest (a.put o.dst v') w'):wpList P ops Q (o::rest) a w:=by
 refine wpList_plain hgd λK hK=>?_
 obtain⟨v',w',hr,h2,h3,h4⟩:=Lib.run_append_own_string (P:=P) w 0 t u o.type e i ht hu hi hz hsize hby v n xs hown s (by unfold maxLen;omega) (by omega) (x1qx _)
 obtain⟨h5,h6⟩:=app_own t u o.type e i ht hu hi hz hsize hby v n xs hown s hb hr h3 h4
 unfold Oper.wp execOp
 simp only[ho,resolve,invoke,builtin,Sem.run_bind,Sem.run_pure,Result.andThen_ok,List.map_toArray,x1pi,x1pt,hs,hx,hr]
 exact hK _ _ (h v' w' h2 h3 h4 h5 h6)
structure But1 (b:Nat) (w w':World):Prop where
 size:w'.heap.size=w.heap.size
 same:∀k,k≠b->w'.heap[k]?=w.heap[k]?
 shape:∀k,w'.shape? k=w.shape? k
 os:w'.os=w.os
 out:w'.output=w.output
theorem But1.refl(b:Nat)(w:World):But1 b w w:=⟨rfl,λ_ _=>rfl,λ_=>rfl,rfl,rfl⟩
theorem But1.set(w:World)(b i:Nat)(u:Value){cs:Array Value}{T:TypeId}(hb:w.heap[b]?=some (.cells cs T (0,0))):But1 b w (w.setCell ⟨b,i,none⟩ u):=by
 have hne:∀k,k≠b->(w.setCell ⟨b,i,none⟩ u).heap[k]?=w.heap[k]?:=λk hk=>Below.heap_setCell _ _ _ _ hk
 refine⟨by simp,hne,λk=>?_,rfl,rfl⟩
 by_cases hk:k=b
 .subst hk
  have:=Go.heap_setCell_same w k i cs T u hb
  simp[World.shape?,this,hb]
 .exact x1b0 (hne k hk)
variable{P:Program}{ρ:Ren}
theorem bld_check(L:Lays.n240 P ρ)(X:Builder.X72 P ρ)(b:Nat)(w:World)(p v:Value)(hbk:w.heap[b]?=some (.cells #[p,v] (ρ.t 72) (0,0)))(hp:p=.pointer none\/p=.pointer (some ⟨b,0,none⟩)) :
 Calls P (ρ.f 240) #[.pointer (some ⟨b,0,none⟩)] w λe w'=>e=.returned (.tuple #[])/\w'.heap[b]?=some (.cells #[.pointer (some ⟨b,0,none⟩),v] (ρ.t 72) (0,0))/\But1 b w w':=by
 have c0:w.cell? ⟨b,0,none⟩=some p:=by rw[Lib.cell_of_heap hbk];rfl
 rcases hp with rfl|rfl
 .refine(Any.Builder_copyCheck_fresh L X b w c0 (by simp[World.shape?,hbk]) (Lib.frozen_of_heap hbk 0)).mono ?_
  rintro e w' ⟨rfl,rfl⟩
  exact⟨rfl,by rw[Go.heap_setCell_same w b 0 _ _ _ hbk];rfl,.set w b 0 _ hbk⟩
 .refine(Any.Builder_copyCheck_used L X b w c0).mono ?_
  rintro e w' ⟨rfl,rfl⟩
  exact⟨rfl,hbk,.refl _ _⟩
end Go.Ix
namespace Go.Ix
open Go Go.Proofs Go.Shelf Go.RowKit
variable{P:Program}{ρ:Ren}
theorem byte_str(l:List UInt8)(s:ByteArray):Lib.byteCells l++Lib.strCells s=Lib.byteCells (l++s.data.toList):=by
 simp[Lib.byteCells,Lib.strCells]
def BldW(w w':World)(T e:TypeId)(b:Nat)(v:Value)(l:List UInt8):Prop:=
 ∃v',w'.heap[b]?=some (.cells #[.pointer (some ⟨b,0,none⟩),v'] T (0,0))/\Bow w' e v' l/\v'.ownBlock≠some b/\Own1 w v v'/\(∀g,v'.ownBlock=some g->g<w'.heap.size) /\
  w.heap.size<=w'.heap.size/\(∀k,k<w.heap.size->w'.shape? k=w.shape? k)/\(∀k,k<w.heap.size->k≠b->v.ownBlock≠some k->w'.heap[k]?=w.heap[k]?)/\w'.os=w.os/\w'.output=w.output
set_option maxHeartbeats 2000000 in
set_option maxRecDepth 100000 in
theorem bld_write(L:Lays.n166 P ρ)(X:Builder.Extra P ρ)(b:Nat)(p v:Value)(l:List UInt8)(s:ByteArray)(w:World)(hbk:w.heap[b]?=some (.cells #[p,v] (ρ.t 72) (0,0)))(hp:p=.pointer none\/p=.pointer (some ⟨b,0,none⟩))(hown:Bow w (ρ.t 5) v l)(hlen:l.length+s.size<=1099511627776) :
 Calls P (ρ.f 166) #[.pointer (some ⟨b,0,none⟩),.string s] w λe w'=>e=.returned (.tuple #[.int .i64 s.size,.nilIface])/\BldW w w' (ρ.t 72) (ρ.t 5) b v (l++s.data.toList):=by
 obtain⟨i0,hi,hz0,hz1,hz2⟩:=info_parts X.infoByte
 have mixed:=L.mixed
 have t72:=L.t72;have a72:=L.a72;have z72:=L.z72;have v72:=L.v72;have u72:=Go.run_underlying L.t72
 have t70:=L.t70;have a70:=L.a70;have z70:=L.z70;have v70:=L.v70;have u70:=Go.run_underlying L.t70
 have t37:=L.t37;have a37:=L.a37;have z37:=L.z37;have v37:=L.v37;have u37:=Go.run_underlying L.t37
 have t3:=L.t3;have a3:=L.a3;have z3:=L.z3;have v3:=L.v3;have u3:=Go.run_underlying L.t3
 have t9:=L.t9;have a9:=L.a9;have z9:=L.z9;have v9:=L.v9;have u9:=Go.run_underlying L.t9
 have t4:=L.t4;have a4:=L.a4;have z4:=L.z4;have v4:=L.v4;have u4:=Go.run_underlying L.t4
 have t164:=L.t164;have a164:=L.a164;have z164:=L.z164;have v164:=L.v164;have u164:=Go.run_underlying L.t164
 have t5:=X.t5;have a5:=X.a5;have z5:=X.z5;have v5:=X.v5;have u5:=Go.run_underlying X.t5
 have e240:∀args w,(callFunc (ρ.f 240) args).run P w=.ok (.enter (ρ.f 240) args) w:=enters_of L.f240 (by kernel_rfl) rfl
 have hne:v.ownBlock≠some b:=Lib.ownBlock_ne hown.1 hbk X.neB5
 have hlt:b<w.heap.size:=by
  rcases x1pq b w.heap.size with h'|h'
  .exact h'
  .simp[x1qw h']at hbk
 go_enter L.f166,Body.n166_ntmps ρ
 go_wp2_with (go_at_fn (ρ.f 240);refine(bld_check {L with} X.toX72 b _ p v hbk hp).mono ?_)
 rintro e w1 ⟨rfl,hb1,hd1⟩
 have hown1:Bow w1 (ρ.t 5) v l:=hown.keep λg hg=>hd1.same g λe=>hne (by rw[hg,e])
 have c0:w1.cell? ⟨b,0,none⟩=some (.pointer (some ⟨b,0,none⟩)):=by rw[Lib.cell_of_heap hb1];rfl
 have c1:w1.cell? ⟨b,1,none⟩=some v:=by rw[Lib.cell_of_heap hb1];rfl
 go_wp2_with (at_builtin;refine wpl_app rfl _ _ (ρ.t 37) (ρ.t 9) rfl (ρ.t 5) i0 L.t37 L.t9 hi hz0 hz1 hz2 _ _ _ rfl hown1.1 s rfl hlen ?_)
 intro v' w2 hown' hgrow hnil hshape hown2
 have hb2:w2.heap[b]?=some (.cells #[.pointer (some ⟨b,0,none⟩),v] (ρ.t 72) (0,0)):=by
  rw[hgrow.block b (by rw[hd1.size];exact hlt) (λe=>hne e.symm)]
  exact hb1
 have d0:w2.cell? ⟨b,0,none⟩=some (.pointer (some ⟨b,0,none⟩)):=by rw[Lib.cell_of_heap hb2];rfl
 have d1:w2.cell? ⟨b,1,none⟩=some v:=by rw[Lib.cell_of_heap hb2];rfl
 have f1:w2.frozen? ⟨b,1,none⟩=false:=Lib.frozen_of_heap hb2 1
 have hlt':=hown'.lt
 have hne':v'.ownBlock≠some b:=Lib.ownBlock_ne hown' hb2 X.neB5
 have hbow:Bow w2 (ρ.t 5) v' (l++s.data.toList):=by
  refine⟨?_,λh0=>?_⟩
  .rw[<-byte_str,x1pn]
   exact hown'
  .have h1:l=[]:=by
    cases l with
    |nil=>rfl
    |cons _ _=>cases h0
   exact hnil.2 ⟨hown.2 h1,by
    have h2:=congrArg List.length h0
    simp at h2
    simp[ByteArray.size,h2.2]⟩
 obtain⟨ao,n',cap,rfl⟩:∃ao n' cap,v'=.slice ao n' cap:=by
  rcases hown'.2 with ⟨hv,_⟩|⟨g,cap,cur,hv,_⟩
  .exact⟨_,_,_,hv⟩
  .exact⟨_,_,_,hv⟩
 go_wp2
 go_ret2
 have hset:=But1.set w2 b 1 (.slice ao n' cap) hb2
 refine⟨rfl,.slice ao n' cap,?_,?_,hne',?_,?_,?_,?_,?_,?_,?_⟩
 .rw[Go.heap_setCell_same w2 b 1 _ _ _ hb2];rfl
 .exact hbow.keep λg hg=>hset.same g λe=>hne' (by rw[hg,e])
 .intro g hg
  rcases hown2 g hg with h|h
  .exact .inl h
  .exact .inr (by rw[<-hd1.size];exact h)
 .intro g hg
  rw[hset.size]
  exact(hlt' g hg).2
 .rw[hset.size,<-hd1.size];exact hgrow.size
 .intro k hk
  rw[hset.shape,hshape k (by rw[hd1.size];exact hk),hd1.shape]
 .intro k hk h1 h2
  rw[hset.same k h1,hgrow.block k (by rw[hd1.size];exact hk) (λe=>h2 e.symm),hd1.same k h1]
 .rw[hset.os,hgrow.os,hd1.os]
 .rw[hset.out,hgrow.output,hd1.out]
def BldS(w w':World)(v:Value):Prop:=
 w.heap.size<=w'.heap.size/\(∀k,k<w.heap.size->w'.shape? k=w.shape? k)/\(∀k,k<w.heap.size->v.ownBlock≠some k->w'.heap[k]?=w.heap[k]?)/\w'.os=w.os/\w'.output=w.output
set_option maxHeartbeats 2000000 in
set_option maxRecDepth 100000 in
theorem bld_text0(L:Lays.n169 P ρ)(X:Builder.Extra P ρ)(b:Nat)(p:Value)(w:World)(hbk:w.heap[b]?=some (.cells #[p,.slice none 0 0] (ρ.t 72) (0,0))) :
 Calls P (ρ.f 169) #[.pointer (some ⟨b,0,none⟩)] w λe w'=>e=.returned (.string ⟨#[]⟩)/\BldS w w' (.slice none 0 0):=by
 have hUS:=Any.unsafeString_none L X
 have c1:w.drew.cell? ⟨b,1,none⟩=some (.slice none 0 0):=by
  have:w.drew.heap[b]?=some (.cells #[p,.slice none 0 0] (ρ.t 72) (0,0)):=hbk
  rw[Lib.cell_of_heap this];rfl
 have hSD:(Builtin.unsafeSliceData_ #[(ρ.t 37)] (ρ.t 127) #[.slice none 0 0]).run P w.drew=.ok (.pointer none) w.drew:=rfl
 have mixed:=L.mixed
 have t72:=L.t72;have a72:=L.a72;have z72:=L.z72;have v72:=L.v72;have u72:=Go.run_underlying L.t72
 have t70:=L.t70;have a70:=L.a70;have z70:=L.z70;have v70:=L.v70;have u70:=Go.run_underlying L.t70
 have t37:=L.t37;have a37:=L.a37;have z37:=L.z37;have v37:=L.v37;have u37:=Go.run_underlying L.t37
 have t127:=L.t127;have a127:=L.a127;have z127:=L.z127;have v127:=L.v127;have u127:=Go.run_underlying L.t127
 have t3:=L.t3;have a3:=L.a3;have z3:=L.z3;have v3:=L.v3;have u3:=Go.run_underlying L.t3
 have t9:=L.t9;have a9:=L.a9;have z9:=L.z9;have v9:=L.v9;have u9:=Go.run_underlying L.t9
 have t5:=X.t5;have a5:=X.a5;have z5:=X.z5;have v5:=X.v5;have u5:=Go.run_underlying X.t5
 go_enter L.f169,Body.n169_ntmps ρ
 go_wp2
 go_region_o
 all_goals(go_wp2;go_ret;exact⟨rfl,x1p6 _,λ_ _=>rfl,λ_ _ _=>rfl,rfl,rfl⟩)
theorem frz_but(w:World)(g n:Nat){cur:Array Value}{T:TypeId}(hg:w.heap[g]?=some (.cells cur T (0,0))) :
 (w.freeze ⟨g,0,none⟩ n).heap.size=w.heap.size/\(∀k,k≠g->(w.freeze ⟨g,0,none⟩ n).heap[k]?=w.heap[k]?)/\(∀k,(w.freeze ⟨g,0,none⟩ n).shape? k=w.shape? k)/\(w.freeze ⟨g,0,none⟩ n).os=w.os/\(w.freeze ⟨g,0,none⟩ n).output=w.output:=by
 by_cases hn:n=0
 .have:w.freeze ⟨g,0,none⟩ n=w:=by simp[World.freeze,hn]
  rw[this]
  exact⟨rfl,λ_ _=>rfl,λ_=>rfl,rfl,rfl⟩
 have hne:∀k,k≠g->(w.freeze ⟨g,0,none⟩ n).heap[k]?=w.heap[k]?:=λk hk=>by
  simp[World.freeze,hn,x1rc,Ne.symm hk]
 refine⟨by simp[World.freeze,hn],hne,λk=>?_,by simp[World.freeze,hn],by simp[World.freeze,hn]⟩
 by_cases hk:k=g
 .subst hk
  simp[World.shape?,World.freeze,hn,x1rc,hg]
 .exact x1b0 (hne k hk)
set_option maxHeartbeats 2000000 in
set_option maxRecDepth 100000 in
theorem bld_text1(L:Lays.n169 P ρ)(X:Builder.Extra P ρ)(b:Nat)(p v:Value)(l:List UInt8)(w:World)(hbk:w.heap[b]?=some (.cells #[p,v] (ρ.t 72) (0,0)))(hown:w.ownsRow 0 (ρ.t 5) 1 v l.length (Lib.byteCells l))(h0:l≠[]) :
 Calls P (ρ.f 169) #[.pointer (some ⟨b,0,none⟩)] w λe w'=>e=.returned (.string ⟨l.toArray⟩)/\BldS w w' v:=by
 have hl0:l.length≠0:=by simpa using h0
 obtain⟨g,cap,cur,rfl,hbg,hg,hnc,hcm,hcs,htake⟩:∃g cap cur,v=.slice (some ⟨g,0,none⟩) l.length cap/\0<=g/\w.heap[g]?=some (.cells cur (ρ.t 5) (0,0))/\l.length<=cap/\cap<=maxLen/\cur.size=cap*1/\cur.toList.take (l.length*1)=Lib.byteCells l:=by
  rcases hown.2 with ⟨_,hz⟩|⟨g,cap,cur,hv,r⟩
  .exact absurd hz hl0
  .exact⟨g,cap,cur,hv,r⟩
 have c1:w.drew.cell? ⟨b,1,none⟩=some (.slice (some ⟨g,0,none⟩) l.length cap):=by
  have:w.drew.heap[b]?=some (.cells #[p,.slice (some ⟨g,0,none⟩) l.length cap] (ρ.t 72) (0,0)):=hbk
  rw[Lib.cell_of_heap this];rfl
 have hSD:(Builtin.unsafeSliceData_ #[(ρ.t 37)] (ρ.t 127) #[.slice (some ⟨g,0,none⟩) l.length cap]).run P w.drew=.ok (.pointer (some ⟨g,0,none⟩)) w.drew:=
  Lib.run_unsafeSliceData_row _ _ _ _ _ _ (by omega)
 have hUS:(Builtin.unsafeString_ #[(ρ.t 127),(ρ.t 3)] (ρ.t 9) #[.pointer (some ⟨g,0,none⟩),.int .i64 l.length]).run P w.drew=.ok (.string ⟨l.toArray⟩) (w.drew.freeze ⟨g,0,none⟩ l.length):=by
  refine Lib.run_unsafeString_row w.drew (ρ.t 127) (ρ.t 3) (ρ.t 9) (ρ.t 5) L.t127 X.cellsByte g cur.size (by have hg':w.drew.heap[g]?=some (.cells cur (ρ.t 5) (0,0)):=hg;simp[World.shape?,hg']) l h0 (by omega) (by unfold maxLen at hcm;omega) ?_
  intro j x hx
  have:=hown.cells (g:=g) rfl j (.int .u8 x.toNat) (by simp[Lib.byteCells,hx])
  exact this
 have mixed:=L.mixed
 have t72:=L.t72;have a72:=L.a72;have z72:=L.z72;have v72:=L.v72;have u72:=Go.run_underlying L.t72
 have t70:=L.t70;have a70:=L.a70;have z70:=L.z70;have v70:=L.v70;have u70:=Go.run_underlying L.t70
 have t37:=L.t37;have a37:=L.a37;have z37:=L.z37;have v37:=L.v37;have u37:=Go.run_underlying L.t37
 have t127:=L.t127;have a127:=L.a127;have z127:=L.z127;have v127:=L.v127;have u127:=Go.run_underlying L.t127
 have t3:=L.t3;have a3:=L.a3;have z3:=L.z3;have v3:=L.v3;have u3:=Go.run_underlying L.t3
 have t9:=L.t9;have a9:=L.a9;have z9:=L.z9;have v9:=L.v9;have u9:=Go.run_underlying L.t9
 have t5:=X.t5;have a5:=X.a5;have z5:=X.z5;have v5:=X.v5;have u5:=Go.run_underlying X.t5
 have hfin:BldS w (w.drew.freeze ⟨g,0,none⟩ l.length) (.slice (some ⟨g,0,none⟩) l.length cap):=by
  obtain⟨f1,f2,f3,f4,f5⟩:=frz_but w.drew g l.length hg
  refine⟨Nat.le_of_eq f1.symm,λk _=>f3 k,λk _ hk=>f2 k λe=>hk (by rw[e];rfl),f4,f5⟩
 go_enter L.f169,Body.n169_ntmps ρ
 go_wp2
 go_region_o
 all_goals(go_wp2;go_ret;exact⟨rfl,hfin⟩)
open Go Go.Proofs
theorem x1gi{w:World}{e:TypeId}{v:Value}{n:Nat}{xs:List Value}(h:w.ownsRow 0 e 1 v n xs){g:Nat}(hg:v.ownBlock=some g):∃cur,w.heap[g]?=some (.cells cur e (0,0)):=by
 rcases h.2 with ⟨rfl,_⟩|⟨g',cap,cur,rfl,_,h3,_⟩
 .simp[Value.ownBlock]at hg
 .simp only[Value.ownBlock,x1p2]at hg
  subst hg
  exact⟨cur,h3⟩
theorem ptr_blk{E:Env}{w:World}{id:Id}{u:Value}{blk base len:Nat}(hV:E.V w (.ptr id 0 0) u)(h:E.η id 0=some (blk,base,len)):u=.pointer (some ⟨blk,base,none⟩):=by
 unfold Env.V at hV
 cases hV with
 |ptr _ _ _ blk' base' len' hη=>
  rw[h]at hη
  cases hη
  rfl
theorem x1iu{P:Program}{E:Env}{w:World}{st:St}{f:FuncId}{args:List AV}{vs:Array Value}{t e:TypeId}{p:AV×Id×Ob}(hb:x161 P f)(hS:Sim E w st)(hA:ArgsV E w args vs)(h:x189 t e st.objs args=some p)(hc:∀(b:Nat) (q v:Value) (l:List UInt8) (s:ByteArray) (w:World),w.heap[b]?=some (.cells #[q,v] t (0,0))->(q=.pointer none\/q=.pointer (some ⟨b,0,none⟩))->Bow w e v l->l.length+s.size<=1099511627776 ->
 Calls P f #[.pointer (some ⟨b,0,none⟩),.string s] w λx w'=>x=.returned (.tuple #[.int .i64 s.size,.nilIface])/\BldW w w' t e b v (l++s.data.toList)) :
 x161 P f/\x16f P E w st f vs p.1 {st with objs:=updo st.objs p.2.1 (some p.2.2)}:=by
 refine⟨hb,?_⟩
 unfold x189 at h
 split at h
 rotate_left
 .cases h
 rename_i id s
 split at h
 rotate_left
 .cases h
 rename_i t' e' l hob
 split at h
 rotate_left
 .cases h
 rename_i hcd
 obtain⟨rfl,rfl,hbig⟩:=hcd
 cases h
 obtain⟨u1,u2,rfl,hV1,hV2⟩:=argsV_two hA
 have e2:=V_sc hV2
 subst e2
 obtain⟨blk,q,v,k1,k2,k3,k4,k5,k6,k7,k8⟩:=hS.obj id _ hob
 have e1:=ptr_blk hV1 k1
 subst e1
 intro cs'
 obtain⟨x,w',fr,⟨rfl,v',g1,g2,g3,g4,g5,g6,g7,g8,g9,g10⟩,h1,h2,h3⟩:=hc blk q v l s w k3 k4 k5 hbig cs'
 have hlt:blk<w.heap.size:=(hS.own _ _ k7).2.2
 let E':Env:={E with O:=λb=>if v'.ownBlock=some b then some id else E.O b}
 have hsame:∀b,b<w.heap.size->E.O b≠some id->w'.heap[b]?=w.heap[b]?:=λb hb ho=>
  g8 b hb (λe=>ho (by rw[e];exact k7)) (λe=>ho (k8 b e))
 have hls:Lsh w w':=λb r hr=>by
  have hb:=x18e hr
  refine⟨r,?_,rfl⟩
  rw[g8 b hb (λe=>by rw[e,k3]at hr;cases hr) (λe=>by
   obtain⟨cur,hcur⟩:=x1gi k5.1 e
   rw[hcur]at hr;cases hr)]
  exact hr
 obtain⟨hS',hL'⟩:=hS.turn (E':=E') (w':=w') (id:=id) (o:=.bld t' e' (l++s.data.toList)) hls (hS.dom _ _ _ k1) (λ_ _ _ h=>h) (λ_ _ _=>rfl) rfl rfl rfl
  (λb hb=>by
   show(if _ then _ else _)=_
   split
   .rename_i ho
    rcases g4 b ho with g|g
    .exact(k8 b g).symm
    .omega
   .rfl)
  (λb i hb hO=>by
   replace hO:(if v'.ownBlock=some b then some id else E.O b)=some i:=hO
   split at hO
   .rename_i ho;cases hO;exact⟨rfl,g5 b ho⟩
   .have:=(hS.own b i hO).2.2;omega)
  g6 g7 hsame ⟨blk,_,v',k1,k2,g1,.inr rfl,g2,g3,by
   show(if _ then _ else _)=_
   rw[x1oz g3];exact k7,λg hg=>by
   show(if _ then _ else _)=_
   rw[x1p0 hg]⟩ g9 g10
 refine⟨E',w',_,.inl ⟨hb,fr,h1,h2,h3⟩,?_,hS',hL',x1p6 _,λid ver h=>.inl ⟨ver,h⟩⟩
 refine .tup _ _ rfl λi a v ha hv=>?_
 match i with
 |0=>simp at ha hv;subst ha hv;exact .sc _
 |1=>simp at ha hv;subst ha hv;exact .sc _
 |i+2=>simp at ha
theorem x1iv{P:Program}{E:Env}{w:World}{st:St}{f:FuncId}{args:List AV}{vs:Array Value}{t e:TypeId}{r:AV}(hb:x161 P f)(hS:Sim E w st)(hA:ArgsV E w args vs)(h:x188 t e st.objs args=some r)(hc:∀(b:Nat) (q v:Value) (l:List UInt8) (w:World),w.heap[b]?=some (.cells #[q,v] t (0,0))->Bow w e v l ->
 Calls P f #[.pointer (some ⟨b,0,none⟩)] w λx w'=>x=.returned (.string ⟨l.toArray⟩)/\BldS w w' v) :
 x161 P f/\x16f P E w st f vs r {st with objs:=λ_=>none}:=by
 refine⟨hb,?_⟩
 unfold x188 at h
 split at h
 rotate_left
 .cases h
 rename_i id
 split at h
 rotate_left
 .cases h
 rename_i t' e' l hob
 split at h
 rotate_left
 .cases h
 rename_i hcd
 obtain⟨rfl,rfl,hbig⟩:=hcd
 cases h
 obtain⟨u1,rfl,hV1⟩:=x1dl hA
 obtain⟨blk,q,v,k1,k2,k3,k4,k5,k6,k7,k8⟩:=hS.obj id _ hob
 have e1:=ptr_blk hV1 k1
 subst e1
 intro cs'
 obtain⟨x,w',fr,⟨rfl,g1,g2,g3,g4,g5⟩,h1,h2,h3⟩:=hc blk q v l w k3 k5 cs'
 have hls:Lsh w w':=λb r hr=>by
  have hb:=x18e hr
  refine⟨r,?_,rfl⟩
  rw[g3 b hb (λe=>by
   obtain⟨cur,hcur⟩:=x1gi k5.1 e
   rw[hcur]at hr;cases hr)]
  exact hr
 have hx:Ext E.G w w':=⟨g1,g2,λb g hb=>g3 b hb λe=>by
  have:=hS.own b id (k8 b e)
  rcases g with g|g
  .exact this.1 g
  .exact this.2.1 g,g4,g5⟩
 have hL:Later E w E w':=⟨λ_ _ _ h=>h,λ_ h=>h,λ_ h=>.inl h,λ_ _ h=>.inl h,λ_ h=>h,λ_ h=>.inl h,rfl,hx,hls,λ_ _ _ _ _ _ _=>rfl⟩
 refine⟨E,w',_,.inl ⟨hb,fr,h1,h2,h3⟩,.sc _,⟨λ_ _ h=>(by cases h),hS.dom,λb i h=>?_,λb h=>x1pl (hS.fin b h) g1,hL.gl hS⟩,hL,x1p6 _,λid ver h=>.inl ⟨ver,h⟩⟩
 obtain⟨m1,m2,m3⟩:=hS.own b i h
 exact⟨m1,m2,x1pl m3 g1⟩
theorem bld_text{P:Program}{ρ:Go.Shelf.Ren}(L:Lays.n169 P ρ)(X:Builder.Extra P ρ)(b:Nat)(p v:Value)(l:List UInt8)(w:World)(hbk:w.heap[b]?=some (.cells #[p,v] (ρ.t 72) (0,0)))(hown:Bow w (ρ.t 5) v l) :
 Calls P (ρ.f 169) #[.pointer (some ⟨b,0,none⟩)] w λe w'=>e=.returned (.string ⟨l.toArray⟩)/\BldS w w' v:=by
 by_cases h0:l=[]
 .have:=hown.2 h0
  subst this h0
  exact bld_text0 L X b p w hbk
 .exact bld_text1 L X b p v l w hbk hown.1 h0
end Go.Ix
