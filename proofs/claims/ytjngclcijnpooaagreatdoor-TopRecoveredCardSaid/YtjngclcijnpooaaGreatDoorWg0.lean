import Derived.Test.YtjngclcijnpooaaGreatDoorFxShelf
import Derived.Lib.SmallJoins
import Derived.Shelf.Strings.Builder1
import Derived.Shelf.RegionOpenPlain
import Derived.WalkKit
import Derived.Laws.Strings
import Derived.Test.YtjngclcijnpooaaGreatDoorRows
import Derived.Test.YtjngclcijnpooaaGreatDoorFxLaw
import Derived.Test.YtjngclcijnpooaaGreatDoorCards
import Derived.Test.YtjngclcijnpooaaGreatDoorTie
import Derived.Stop.LaidErr
import Derived.LaidMore
import Derived.Lay
import Derived.SevenTiedAt
import Derived.Stop.Joined
import Derived.Lib.AtoiAll
import Derived.Lib.Bytealg
import Derived.Laws.StructEq
import Derived.ProofKit
set_option maxRecDepth 10000
set_option linter.all false
open Go.Proofs.Tryz
namespace Go.Ix
open Go Go.Proofs
def fa{w d:World}(h:Go.RowKit.Below w.heap.size w d):Ext (λ_=>True) w d:=
 ⟨h.size,λb a=>by simp only[World.shape?];rw[h.block b a],λb _ a=>h.block b a,h.os,h.output⟩
def MP{P:Program}{E:Env}{w:World}{st:St}{f:FuncId}{d:Array Value}{r:AV}(g:jG P f)(i:Sim E w st)(j:Calls P f d w λe a=>∃u,e=.returned u/\Ext (λ_=>True) w a/\V E.F a E.η E.ζ.1 r u):jG P f/\mV P E w st f d r st:=by refine⟨g,λl=>?_⟩;obtain⟨e,a,fr,⟨u,rfl,m,n⟩,o,p,t⟩:=j l;obtain⟨x,y⟩:=i.outside (F':=E.F) m (λ_ h=>h) (λ_ h=>.inl h);exact⟨E,a,u,.inl ⟨g,fr,o,p,t⟩,n,x,y,bS _,λid b h=>.inl ⟨b,h⟩⟩
def gy{E:Env}{w:World}{a:AV}{d:Array Value}(h:ArgsV E w [a] d):∃v,d=#[v]/\E.V w a v:=by
 obtain⟨e,f⟩:=h;have h1':d.size=1:=e;refine⟨d[0],?_,f 0 a d[0] rfl (iP (by omega))⟩;refine Array.ext (by simp[h1']) λi a b=>?_
 have:i=0:=(by omega);subst this;rfl
def yd7{E:Env}{w:World}{a b:AV}{d:Array Value}(h:ArgsV E w [a,b] d):∃u v,d=#[u,v]/\E.V w a u/\E.V w b v:=by
 obtain⟨f,e⟩:=h;have h1':d.size=2:=f;refine⟨d[0],d[1],?_,e 0 a d[0] rfl (iP (by omega)),e 1 b d[1] rfl (iP (by omega))⟩;refine Array.ext (by simp[h1']) λi a b=>?_
 have:i=0\/i=1:=(by omega);rcases this with rfl|rfl<;>rfl
def x6b(w:World)(k:Nat)(d:Array Obj):Ext (λ_=>True) w (Go.Sort.grow (w.drewN k) d):=by
 have a:∀b,b<w.heap.size->(Go.Sort.grow (w.drewN k) d).heap[b]?=w.heap[b]?:=λb a=>by simp only[Go.Sort.grow,World.drewN];rw[YF a]
 exact⟨by simp[Go.Sort.grow,World.drewN],λb h=>by simp only[World.shape?];rw[a b h],λb _ h=>a b h,rfl,rfl⟩
def fk:∀(k n:Nat),1<=k->n<10 ^ k->gC k n=Lib.decDigits n
 |0,n,h,_=>by omega
 |k+1,n,_,h=>by
  rw[Lib.decDigits];unfold gC;by_cases a:n<10
  .rw[aF a,dif_pos a]
  .rw[aB a,dif_neg a]
   rw[fk k (n / 10) (by
    rcases k with _|k
    .simp at h;omega
    .omega) (by rw[Nat.pow_succ]at h;omega)]
def x7j(n:Int)(a:-9223372036854775808<=n)(b:n<=9223372036854775807):jC n=Lib.itoa n:=by
 unfold jC Lib.itoa;split
 .rw[fk 20 _ (by omega) (by omega)]
 .rw[fk 20 _ (by omega) (by omega)]
def x4j{E:Env}{w:World}{st:St}{a:List AV}{g:Array Value}{r:AV}(i:xT prog w)(j:Sim E w st)(l:ArgsV E w a g)(b:sB 1 a=some r):jG prog C5/\mV prog E w st C5 g r st:=by
 obtain⟨f,p⟩:=i;unfold sB at b;split at b
 .rename_i n _;split at b
  .rename_i d;cases b;obtain⟨v,rfl,t⟩:=gy l;have:=lH t;subst this;refine MP (G0 (by kernel_rfl)) j (Calls.mono (Tryz.strconv_Itoa n d.1 d.2 w (f (by kernel_rfl))) λe u ⟨m,k,x,o⟩=>⟨_,m,?_,?_⟩)
   .rw[o];exact x6b _ _ _
   .rw[x7j n d.1 d.2];exact .sc _
  .cases b
 .rename_i h;cases h
 .cases b
set_option maxHeartbeats 1000000 in
theorem yd3{E:Env}{w:World}{st:St}{args:List AV}{vs:Array Value}{r:AV}(hk:xT prog w)(hS:Sim E w st)(hA:ArgsV E w args vs)(hr:sB 2 args=some r):jG prog P1/\mV prog E w st P1 vs r st:=by
 obtain⟨hk1,hk2⟩:=hk;unfold sB at hr;split at hr
 .rename_i h;cases h
 .rename_i s _;split at hr
  .rename_i Z;obtain⟨v,rfl,hv⟩:=gy hA;have:=lH hv;subst this;have hk3:=hk2 (by kernel_rfl);have two:∀(w':World) (a b:AV) (u v:Value),V E.F w' E.η E.ζ.1 a u->V E.F w' E.η E.ζ.1 b v->V E.F w' E.η E.ζ.1 (.tup [a,b]) (.tuple #[u,v]):=λw' a b u v h1 h2=>.tup _ _ rfl λi x y hx hy=>by
    match i,hx,hy with
    |0,hx,hy=>cases hx;cases hy;exact h1
    |1,hx,hy=>cases hx;cases hy;exact h2
    |i+2,hx,hy=>simp at hx
   cases hv:Lib.atoiAll s.data.toList with
   |ok v=>
    rw[hv]at hr;cases hr;refine MP (G0 (by kernel_rfl)) hS (Calls.mono (Tryz.strconv_Atoi_ok s (by omega) v hv w) λe w' ⟨he,hw⟩=>⟨_,he,?_,two _ _ _ _ _ (.sc _) (.sc _)⟩);rcases hw with rfl|⟨t,rfl⟩
    .exact Ext.refl _ _
    .exact fa (Go.Joins.below_bytesWorld _ _ _ _ (bS _))
   |range=>rw[hv]at hr;cases hr;obtain⟨_,x,hx,tp,p,rfl⟩:=hk3;refine MP (G0 (by kernel_rfl)) hS (Calls.mono (Tryz.strconv_Atoi_range_var s (by omega) hv tp p w hx) λe w' ⟨N,he,_,_,hw⟩=>⟨_,he,fa hw,two _ _ _ _ _ (.sc _) (.un _ _ ⟨_,_,rfl⟩ ?_)⟩);exact⟨rfl,rfl,λb h=>by cases h⟩
   |_=>rw[hv]at hr;cases hr;obtain⟨⟨x,hx,tp,p,rfl⟩,_⟩:=hk3;refine MP (G0 (by kernel_rfl)) hS (Calls.mono (Tryz.strconv_Atoi_bad_var s (by omega) (hv.trans (by kernel_rfl)) tp p w hx) λe w' ⟨N,he,_,_,hw⟩=>⟨_,he,fa hw,two _ _ _ _ _ (.sc _) (.un _ _ ⟨_,_,rfl⟩ ?_)⟩);exact⟨rfl,rfl,λb h=>by cases h⟩
  .cases hr
 .cases hr
open Go Go.Proofs Go.Shelf Go.RowKit
def iw(w:World)(v a:Value):Prop:=∀g,a.ownBlock=some g->v.ownBlock=some g\/w.heap.size<=g
def CL{w a:World}{b:Nat}(h:a.heap[b]?=w.heap[b]?):a.shape? b=w.shape? b:=by simp[World.shape?,h]
def yeb{P:Program}{w:World}(t u ty e:TypeId)(i:TypeInfo)(E:P.underlying t=some (.slice e))(F:P.underlying u=some .string)(H:P.info? e=some i)(Q:i.zero=some (.int .u8 0))(a:i.size=1)(r:i.bytes=1)(v:Value)(n:Nat)(C:List Value)(b:w.ownsRow 0 e 1 v n C)(s:ByteArray)(hb:n+s.size<=1099511627776){J:Value}{K:World}(p:(Builtin.append_ #[t,u] ty #[v,.string s]).run P w=.ok J K)(R:w.grownBy K v.ownBlock)(x:J=.slice none 0 0↔v=.slice none 0 0/\s.size=0) :
    (∀k,k<w.heap.size->K.shape? k=w.shape? k)/\iw w v J:=by
 have L:C.length=n:=(by simpa using b.1);rcases b.2 with ⟨rfl,rfl⟩|⟨g,d,f,rfl,Y,m,Z,hcm,M,O⟩
 .refine⟨λk D=>CL (R.block k D (by simp[Value.ownBlock])),?_⟩;by_cases hm:s.size=0
  .have:=x.2 ⟨rfl,hm⟩;subst this;intro g h;simp[Value.ownBlock]at h
  .have y:=Go.run_append_nil_string (P:=P) w t u ty e i (.int .u8 0) E F H Q s (by omega) (by omega) (by rw[r];omega);rw[y]at p;injection p with h3 h4;subst h3;intro g h;simp only[Value.ownBlock,bY]at h;exact .inr (by omega)
 .by_cases o:n+s.size<=d
  .have hcs':f.size=d:=(by simpa using M);have y:=Lib.run_append_room_string (P:=P) w t u ty e i E F H a g n d f m s o (by omega);rw[y]at p;injection p with h3 h4;subst h3 h4;refine⟨λk D=>?_,λW h=>.inl h⟩;by_cases A:k=g
   .subst A;have X:=setRow_heap w k f (f.toList.take n++Lib.strCells s++f.toList.drop (n+s.size)).toArray e (0,0) m;simp only[World.shape?,X,m];simp only[List.size_toArray,eT,lV,HR,qN,Lib.strCells_length];congr 2;omega
   .exact CL (setRow_other w g k _ A)
  .have N:Builtin.nextslicecap (n+s.size) d*i.bytes<=281474976710656:=(by rw[r];exact Go.growslice_fits (by omega) (by omega));have l:∀j u,C[j]?=some u->w.cell? ((⟨g,0,none⟩:Addr).add j)=some u:=b.cells (g:=g) rfl;have y:=Lib.run_append_grow_string (P:=P) w t u ty e i (.int .u8 0) E F H Q ⟨g,0,none⟩ n d C (by rw[a];simpa using L) l s (by omega) (by omega) N;rw[y]at p;injection p with h3 h4;subst h3 h4;refine⟨λk D=>CL (Lib.alloc_old w.drew _ k D),λW h=>?_⟩;simp only[Value.ownBlock,bY]at h;exact .inr (by omega)
def xnz{P:Program}{w:World}{l:Array Oper}{d:List Oper}{o:Oper}{a:Act}{Q:Exit->Act->World->Prop}(r:o.guard=none)(y x:Operand)(t u:TypeId)(L:o.op=.call {callee:=.builtin .append,args:=#[y,x],argTypes:=#[t,u]})(e:TypeId)(i:TypeInfo)(A:P.underlying t=some (.slice e))(C:P.underlying u=some .string)(D:P.info? e=some i)(E:i.zero=some (.int .u8 0))(b:i.size=1)(m:i.bytes=1)(v:Value)(n:Nat)(p:List Value)(Z:a.eval y=v)(f:w.ownsRow 0 e 1 v n p)(s:ByteArray)(M:a.eval x=.string s)(N:n+s.size<=1099511627776)(h:∀g j,j.ownsRow 0 e 1 g (n+s.size) (p++Lib.strCells s)->w.grownBy j v.ownBlock->(g=.slice none 0 0↔v=.slice none 0 0/\s.size=0)->(∀k,k<w.heap.size->j.shape? k=w.shape? k)->iw w v g->wpList P l Q d (a.put o.dst g) j):wpList P l Q (o::d) a w:=by
 refine wpList_plain r λK O=>?_
 obtain⟨g,j,F,R,H,J⟩:=Lib.run_append_own_string (P:=P) w 0 t u o.type e i A C D E b m v n p f s (by unfold maxLen;omega) (by omega) (xJ _);obtain⟨W,X⟩:=yeb t u o.type e i A C D E b m v n p f s N F H J;unfold Oper.wp execOp;simp only[L,resolve,invoke,builtin,Sem.run_bind,Sem.run_pure,Result.andThen_ok,List.map_toArray,eN,kT,Z,M,F];exact O _ _ (h g j R H J W X)
structure But1 (b:Nat) (w w':World):Prop where
 size:w'.heap.size=w.heap.size
 same:∀k,k≠b->w'.heap[k]?=w.heap[k]?
 shape:∀k,w'.shape? k=w.shape? k
 os:w'.os=w.os
 out:w'.output=w.output
def But1.refl(b:Nat)(w:World):But1 b w w:=⟨rfl,λ_ _=>rfl,λ_=>rfl,rfl,rfl⟩
def But1.set(w:World)(b i:Nat)(u:Value){cs:Array Value}{T:TypeId}(e:w.heap[b]?=some (.cells cs T (0,0))):But1 b w (w.setCell ⟨b,i,none⟩ u):=by
 have a:∀k,k≠b->(w.setCell ⟨b,i,none⟩ u).heap[k]?=w.heap[k]?:=λk d=>Below.heap_setCell _ _ _ _ d
 refine⟨by simp,a,λk=>?_,rfl,rfl⟩;by_cases d:k=b
 .subst d;have:=Go.heap_setCell_same w k i cs T u e;simp[World.shape?,this,e]
 .exact CL (a k d)
variable{P:Program}{ρ:Ren}
def ydr(L:Lays.n240 P ρ)(X:Builder.X72 P ρ)(b:Nat)(w:World)(p v:Value)(a:w.heap[b]?=some (.cells #[p,v] (ρ.t 72) (0,0)))(h:p=.pointer none\/p=.pointer (some ⟨b,0,none⟩)) :
    Calls P (ρ.f 240) #[.pointer (some ⟨b,0,none⟩)] w λe d=>e=.returned (.tuple #[])/\d.heap[b]?=some (.cells #[.pointer (some ⟨b,0,none⟩),v] (ρ.t 72) (0,0))/\But1 b w d:=by
 have g:w.cell? ⟨b,0,none⟩=some p:=(by rw[Lib.cell_of_heap a];rfl);rcases h with rfl|rfl
 .refine(Any.Builder_copyCheck_fresh L X b w g (by simp[World.shape?,a]) (Lib.frozen_of_heap a 0)).mono ?_;rintro e d ⟨rfl,rfl⟩;exact⟨rfl,by rw[Go.heap_setCell_same w b 0 _ _ _ a];rfl,.set w b 0 _ a⟩
 .refine(Any.Builder_copyCheck_used L X b w g).mono ?_;rintro e d ⟨rfl,rfl⟩;exact⟨rfl,a,.refl _ _⟩
open Go Go.Proofs Go.Shelf Go.RowKit
def ydc(l:List UInt8)(s:ByteArray):Lib.byteCells l++Lib.strCells s=Lib.byteCells (l++s.data.toList):=by simp[Lib.byteCells,Lib.strCells]
def xlv(w a:World)(T e:TypeId)(b:Nat)(v:Value)(l:List UInt8):Prop:=
 ∃d,a.heap[b]?=some (.cells #[.pointer (some ⟨b,0,none⟩),d] T (0,0))/\Bow a e d l/\d.ownBlock≠some b/\iw w v d/\(∀g,d.ownBlock=some g->g<a.heap.size) /\
  w.heap.size<=a.heap.size/\(∀k,k<w.heap.size->a.shape? k=w.shape? k)/\(∀k,k<w.heap.size->k≠b->v.ownBlock≠some k->a.heap[k]?=w.heap[k]?)/\a.os=w.os/\a.output=w.output
set_option maxHeartbeats 2000000 in
set_option maxRecDepth 100000 in
theorem ydn(L:Lays.n166 P ρ)(X:Builder.Extra P ρ)(b:Nat)(p v:Value)(l:List UInt8)(s:ByteArray)(w:World)(hbk:w.heap[b]?=some (.cells #[p,v] (ρ.t 72) (0,0)))(hp:p=.pointer none\/p=.pointer (some ⟨b,0,none⟩))(hown:Bow w (ρ.t 5) v l)(hlen:l.length+s.size<=1099511627776) :
 Calls P (ρ.f 166) #[.pointer (some ⟨b,0,none⟩),.string s] w λe w'=>e=.returned (.tuple #[.int .i64 s.size,.nilIface])/\xlv w w' (ρ.t 72) (ρ.t 5) b v (l++s.data.toList):=by
 obtain⟨i0,hi,hz0,hz1,hz2⟩:=info_parts X.infoByte;have mixed:=L.mixed;have t72:=L.t72;have a72:=L.a72;have z72:=L.z72;have v72:=L.v72;have u72:=Go.run_underlying L.t72;have t70:=L.t70;have a70:=L.a70;have z70:=L.z70;have v70:=L.v70;have u70:=Go.run_underlying L.t70;have t37:=L.t37;have a37:=L.a37;have z37:=L.z37;have v37:=L.v37;have u37:=Go.run_underlying L.t37;have t3:=L.t3;have a3:=L.a3;have z3:=L.z3;have v3:=L.v3;have u3:=Go.run_underlying L.t3;have t9:=L.t9;have a9:=L.a9;have z9:=L.z9;have v9:=L.v9;have u9:=Go.run_underlying L.t9;have t4:=L.t4;have a4:=L.a4;have z4:=L.z4;have v4:=L.v4;have u4:=Go.run_underlying L.t4;have t164:=L.t164;have a164:=L.a164;have z164:=L.z164;have v164:=L.v164;have u164:=Go.run_underlying L.t164;have t5:=X.t5;have a5:=X.a5;have z5:=X.z5;have v5:=X.v5;have u5:=Go.run_underlying X.t5;have e240:∀args w,(callFunc (ρ.f 240) args).run P w=.ok (.enter (ρ.f 240) args) w:=enters_of L.f240 (by kernel_rfl) rfl;have hne:v.ownBlock≠some b:=Lib.ownBlock_ne hown.1 hbk X.neB5;have hlt:b<w.heap.size:=by
  rcases kS b w.heap.size with h'|h'
  .exact h'
  .simp[u6 h']at hbk
 go_enter L.f166,Body.n166_ntmps ρ
 go_wp2_with (go_at_fn (ρ.f 240);refine(ydr {L with} X.toX72 b _ p v hbk hp).mono ?_)
 rintro e w1 ⟨rfl,hb1,hd1⟩;have hown1:Bow w1 (ρ.t 5) v l:=hown.keep λg hg=>hd1.same g λe=>hne (by rw[hg,e])
 have c0:w1.cell? ⟨b,0,none⟩=some (.pointer (some ⟨b,0,none⟩)):=(by rw[Lib.cell_of_heap hb1];rfl);have c1:w1.cell? ⟨b,1,none⟩=some v:=(by rw[Lib.cell_of_heap hb1];rfl);go_wp2_with (at_builtin;refine xnz rfl _ _ (ρ.t 37) (ρ.t 9) rfl (ρ.t 5) i0 L.t37 L.t9 hi hz0 hz1 hz2 _ _ _ rfl hown1.1 s rfl hlen ?_)
 intro v' w2 hown' hgrow hnil hshape hown2;have hb2:w2.heap[b]?=some (.cells #[.pointer (some ⟨b,0,none⟩),v] (ρ.t 72) (0,0)):=(by rw[hgrow.block b (by rw[hd1.size];exact hlt) (λe=>hne e.symm)];exact hb1);have d0:w2.cell? ⟨b,0,none⟩=some (.pointer (some ⟨b,0,none⟩)):=(by rw[Lib.cell_of_heap hb2];rfl);have d1:w2.cell? ⟨b,1,none⟩=some v:=(by rw[Lib.cell_of_heap hb2];rfl);have f1:w2.frozen? ⟨b,1,none⟩=false:=Lib.frozen_of_heap hb2 1;have hlt':=hown'.lt;have hne':v'.ownBlock≠some b:=Lib.ownBlock_ne hown' hb2 X.neB5;have hbow:Bow w2 (ρ.t 5) v' (l++s.data.toList):=by
  refine⟨?_,λh0=>?_⟩
  .rw[<-ydc,eT];exact hown'
  .have h1:l=[]:=by
    cases l with
    |nil=>rfl
    |cons _ _=>cases h0
   exact hnil.2 ⟨hown.2 h1,by
    have h2:=congrArg List.length h0
    simp at h2
    simp[h2.2]⟩
 obtain⟨ao,n',cap,rfl⟩:∃ao n' cap,v'=.slice ao n' cap:=by
  rcases hown'.2 with ⟨hv,_⟩|⟨g,cap,cur,hv,_⟩
  .exact⟨_,_,_,hv⟩
  .exact⟨_,_,_,hv⟩
 go_wp2
 go_ret2
 have hset:=But1.set w2 b 1 (.slice ao n' cap) hb2;refine⟨rfl,.slice ao n' cap,?_,?_,hne',?_,?_,?_,?_,?_,?_,?_⟩
 .rw[Go.heap_setCell_same w2 b 1 _ _ _ hb2];rfl
 .exact hbow.keep λg hg=>hset.same g λe=>hne' (by rw[hg,e])
 .intro g hg;rcases hown2 g hg with h|h
  .exact .inl h
  .exact .inr (by rw[<-hd1.size];exact h)
 .intro g hg;rw[hset.size];exact(hlt' g hg).2
 .rw[hset.size,<-hd1.size];exact hgrow.size
 .intro k hk;rw[hset.shape,hshape k (by rw[hd1.size];exact hk),hd1.shape]
 .intro k hk h1 h2;rw[hset.same k h1,hgrow.block k (by rw[hd1.size];exact hk) (λe=>h2 e.symm),hd1.same k h1]
 .rw[hset.os,hgrow.os,hd1.os]
 .rw[hset.out,hgrow.output,hd1.out]
def IC(w a:World)(v:Value):Prop:=
 w.heap.size<=a.heap.size/\(∀k,k<w.heap.size->a.shape? k=w.shape? k)/\(∀k,k<w.heap.size->v.ownBlock≠some k->a.heap[k]?=w.heap[k]?)/\a.os=w.os/\a.output=w.output
set_option maxHeartbeats 2000000 in
set_option maxRecDepth 100000 in
theorem ydp(L:Lays.n169 P ρ)(X:Builder.Extra P ρ)(b:Nat)(p:Value)(w:World)(hbk:w.heap[b]?=some (.cells #[p,.slice none 0 0] (ρ.t 72) (0,0))) :
 Calls P (ρ.f 169) #[.pointer (some ⟨b,0,none⟩)] w λe w'=>e=.returned (.string ⟨#[]⟩)/\IC w w' (.slice none 0 0):=by
 have hUS:=Any.unsafeString_none L X;have c1:w.drew.cell? ⟨b,1,none⟩=some (.slice none 0 0):=(by have:w.drew.heap[b]?=some (.cells #[p,.slice none 0 0] (ρ.t 72) (0,0)):=hbk;rw[Lib.cell_of_heap this];rfl);have hSD:(Builtin.unsafeSliceData_ #[(ρ.t 37)] (ρ.t 127) #[.slice none 0 0]).run P w.drew=.ok (.pointer none) w.drew:=rfl;have mixed:=L.mixed;have t72:=L.t72;have a72:=L.a72;have z72:=L.z72;have v72:=L.v72;have u72:=Go.run_underlying L.t72;have t70:=L.t70;have a70:=L.a70;have z70:=L.z70;have v70:=L.v70;have u70:=Go.run_underlying L.t70;have t37:=L.t37;have a37:=L.a37;have z37:=L.z37;have v37:=L.v37;have u37:=Go.run_underlying L.t37;have t127:=L.t127;have a127:=L.a127;have z127:=L.z127;have v127:=L.v127;have u127:=Go.run_underlying L.t127;have t3:=L.t3;have a3:=L.a3;have z3:=L.z3;have v3:=L.v3;have u3:=Go.run_underlying L.t3;have t9:=L.t9;have a9:=L.a9;have z9:=L.z9;have v9:=L.v9;have u9:=Go.run_underlying L.t9;have t5:=X.t5;have a5:=X.a5;have z5:=X.z5;have v5:=X.v5;have u5:=Go.run_underlying X.t5;go_enter L.f169,Body.n169_ntmps ρ
 go_wp2
 go_region_o
 all_goals(go_wp2;go_ret;exact⟨rfl,bS _,λ_ _=>rfl,λ_ _ _=>rfl,rfl,rfl⟩)
def x5p(w:World)(g n:Nat){e:Array Value}{T:TypeId}(f:w.heap[g]?=some (.cells e T (0,0))) :
    (w.freeze ⟨g,0,none⟩ n).heap.size=w.heap.size/\(∀k,k≠g->(w.freeze ⟨g,0,none⟩ n).heap[k]?=w.heap[k]?)/\(∀k,(w.freeze ⟨g,0,none⟩ n).shape? k=w.shape? k)/\(w.freeze ⟨g,0,none⟩ n).os=w.os/\(w.freeze ⟨g,0,none⟩ n).output=w.output:=by
 by_cases a:n=0
 .have:w.freeze ⟨g,0,none⟩ n=w:=(by simp[World.freeze,a]);rw[this];exact⟨rfl,λ_ _=>rfl,λ_=>rfl,rfl,rfl⟩
 have b:∀k,k≠g->(w.freeze ⟨g,0,none⟩ n).heap[k]?=w.heap[k]?:=λk d=>by simp[World.freeze,a,JL,Ne.symm d]
 refine⟨by simp[World.freeze,a],b,λk=>?_,by simp[World.freeze,a],by simp[World.freeze,a]⟩;by_cases d:k=g
 .subst d;simp[World.shape?,World.freeze,a,JL,f]
 .exact CL (b k d)
set_option maxHeartbeats 2000000 in
set_option maxRecDepth 100000 in
theorem ydo(L:Lays.n169 P ρ)(X:Builder.Extra P ρ)(b:Nat)(p v:Value)(l:List UInt8)(w:World)(hbk:w.heap[b]?=some (.cells #[p,v] (ρ.t 72) (0,0)))(hown:w.ownsRow 0 (ρ.t 5) 1 v l.length (Lib.byteCells l))(h0:l≠[]) :
 Calls P (ρ.f 169) #[.pointer (some ⟨b,0,none⟩)] w λe w'=>e=.returned (.string ⟨l.toArray⟩)/\IC w w' v:=by
 have hl0:l.length≠0:=(by simpa using h0);obtain⟨g,cap,cur,rfl,hbg,hg,hnc,hcm,hcs,htake⟩:∃g cap cur,v=.slice (some ⟨g,0,none⟩) l.length cap/\0<=g/\w.heap[g]?=some (.cells cur (ρ.t 5) (0,0))/\l.length<=cap/\cap<=maxLen/\cur.size=cap*1/\cur.toList.take (l.length*1)=Lib.byteCells l:=by
  rcases hown.2 with ⟨_,hz⟩|⟨g,cap,cur,hv,r⟩
  .exact absurd hz hl0
  .exact⟨g,cap,cur,hv,r⟩
 have c1:w.drew.cell? ⟨b,1,none⟩=some (.slice (some ⟨g,0,none⟩) l.length cap):=(by have:w.drew.heap[b]?=some (.cells #[p,.slice (some ⟨g,0,none⟩) l.length cap] (ρ.t 72) (0,0)):=hbk;rw[Lib.cell_of_heap this];rfl);have hSD:(Builtin.unsafeSliceData_ #[(ρ.t 37)] (ρ.t 127) #[.slice (some ⟨g,0,none⟩) l.length cap]).run P w.drew=.ok (.pointer (some ⟨g,0,none⟩)) w.drew:=
  Lib.run_unsafeSliceData_row _ _ _ _ _ _ (by omega)
 have hUS:(Builtin.unsafeString_ #[(ρ.t 127),(ρ.t 3)] (ρ.t 9) #[.pointer (some ⟨g,0,none⟩),.int .i64 l.length]).run P w.drew=.ok (.string ⟨l.toArray⟩) (w.drew.freeze ⟨g,0,none⟩ l.length):=(by refine Lib.run_unsafeString_row w.drew (ρ.t 127) (ρ.t 3) (ρ.t 9) (ρ.t 5) L.t127 X.cellsByte g cur.size (by have hg':w.drew.heap[g]?=some (.cells cur (ρ.t 5) (0,0)):=hg;simp[World.shape?,hg']) l h0 (by omega) (by unfold maxLen at hcm;omega) ?_;intro j x hx;have:=hown.cells (g:=g) rfl j (.int .u8 x.toNat) (by simp[Lib.byteCells,hx]);exact this);have mixed:=L.mixed;have t72:=L.t72;have a72:=L.a72;have z72:=L.z72;have v72:=L.v72;have u72:=Go.run_underlying L.t72;have t70:=L.t70;have a70:=L.a70;have z70:=L.z70;have v70:=L.v70;have u70:=Go.run_underlying L.t70;have t37:=L.t37;have a37:=L.a37;have z37:=L.z37;have v37:=L.v37;have u37:=Go.run_underlying L.t37;have t127:=L.t127;have a127:=L.a127;have z127:=L.z127;have v127:=L.v127;have u127:=Go.run_underlying L.t127;have t3:=L.t3;have a3:=L.a3;have z3:=L.z3;have v3:=L.v3;have u3:=Go.run_underlying L.t3;have t9:=L.t9;have a9:=L.a9;have z9:=L.z9;have v9:=L.v9;have u9:=Go.run_underlying L.t9;have t5:=X.t5;have a5:=X.a5;have z5:=X.z5;have v5:=X.v5;have u5:=Go.run_underlying X.t5;have hfin:IC w (w.drew.freeze ⟨g,0,none⟩ l.length) (.slice (some ⟨g,0,none⟩) l.length cap):=(by obtain⟨f1,f2,f3,f4,f5⟩:=x5p w.drew g l.length hg;refine⟨Nat.le_of_eq f1.symm,λk _=>f3 k,λk _ hk=>f2 k λe=>hk (by rw[e];rfl),f4,f5⟩);go_enter L.f169,Body.n169_ntmps ρ
 go_wp2
 go_region_o
 all_goals(go_wp2;go_ret;exact⟨rfl,hfin⟩)
open Go Go.Proofs
def xe0{w:World}{e:TypeId}{v:Value}{n:Nat}{d:List Value}(h:w.ownsRow 0 e 1 v n d){g:Nat}(b:v.ownBlock=some g):∃a,w.heap[g]?=some (.cells a e (0,0)):=by
 rcases h.2 with ⟨rfl,_⟩|⟨j,f,a,rfl,_,i,_⟩
 .simp[Value.ownBlock]at b
 .simp only[Value.ownBlock,bY]at b;subst b;exact⟨a,i⟩
def xem{E:Env}{w:World}{id:Id}{u:Value}{b a len:Nat}(e:E.V w (.ptr id 0 0) u)(h:E.η id 0=some (b,a,len)):u=.pointer (some ⟨b,a,none⟩):=by
 unfold Env.V at e;cases e with
 |ptr _ _ _ f d g i=>rw[h]at i;cases i;rfl
def xnx{P:Program}{E:Env}{w:World}{st:St}{f:FuncId}{d:List AV}{vs:Array Value}{t e:TypeId}{p:AV×Id×Ob}(j:jG P f)(J:Sim E w st)(hA:ArgsV E w d vs)(h:vR t e st.aD d=some p)(hc:∀(b:Nat) (q v:Value) (l:List UInt8) (s:ByteArray) (w:World),w.heap[b]?=some (.cells #[q,v] t (0,0))->(q=.pointer none\/q=.pointer (some ⟨b,0,none⟩))->Bow w e v l->l.length+s.size<=1099511627776 ->
 Calls P f #[.pointer (some ⟨b,0,none⟩),.string s] w λx m=>x=.returned (.tuple #[.int .i64 s.size,.nilIface])/\xlv w m t e b v (l++s.data.toList)) :
    jG P f/\mV P E w st f vs p.1 {st with aD:=bT st.aD p.2.1 (some p.2.2)}:=by
 refine⟨j,?_⟩
 unfold vR at h
 split at h
 rotate_left
 .cases h
 rename_i id s
 split at h
 rotate_left
 .cases h
 rename_i t' e' l M
 split at h
 rotate_left
 .cases h
 rename_i N
 obtain⟨rfl,rfl,D⟩:=N
 cases h
 obtain⟨u1,u2,rfl,W,X⟩:=yd7 hA
 have e2:=lH X
 subst e2
 obtain⟨F,q,v,Y,k2,k3,k4,k5,k6,k7,k8⟩:=J.obj id _ M
 have e1:=xem W Y
 subst e1
 intro Q
 obtain⟨x,m,fr,⟨rfl,Z,g1,g2,g3,g4,g5,g6,g7,g8,g9,g10⟩,h1,h2,h3⟩:=hc F q v l s w k3 k4 k5 D Q
 let E':Env:={E with O:=λb=>if Z.ownBlock=some b then some id else E.O b}
 have n:∀b,b<w.heap.size->E.O b≠some id->m.heap[b]?=w.heap[b]?:=λb j u=>
  g8 b j (λe=>u (by rw[e];exact k7)) (λe=>u (k8 b e))
 have R:Lsh w m:=λb r y=>by
  have j:=wR y
  refine⟨r,?_,rfl⟩
  rw[g8 b j (λe=>by rw[e,k3]at y;cases y) (λe=>by
   obtain⟨cur,H⟩:=xe0 k5.1 e
   rw[H]at y;cases y)]
  exact y
 obtain⟨hS',hL'⟩:=J.turn (E':=E') (w':=m) (id:=id) (o:=.bld t' e' (l++s.data.toList)) R (J.dom _ _ _ Y) (λ_ _ _ h=>h) (λ_ _ _=>rfl) rfl rfl rfl
  (λb j=>by
   show(if _ then _ else _)=_
   split
   .rename_i u
    rcases g4 b u with g|g
    .exact(k8 b g).symm
    .omega
   .rfl)
  (λb i j A=>by
   replace A:(if Z.ownBlock=some b then some id else E.O b)=some i:=A
   split at A
   .rename_i u;cases A;exact⟨rfl,g5 b u⟩
   .have:=(J.own b i A).2.2;omega)
  g6 g7 n ⟨F,_,Z,Y,k2,g1,.inr rfl,g2,g3,by
   show(if _ then _ else _)=_
   rw[aB g3];exact k7,λg hg=>by
   show(if _ then _ else _)=_
   rw[aF hg]⟩ g9 g10
 refine⟨E',m,_,.inl ⟨j,fr,h1,h2,h3⟩,?_,hS',hL',bS _,λid L h=>.inl ⟨L,h⟩⟩
 refine .tup _ _ rfl λi a v C K=>?_
 match i with
 |0=>simp at C K;subst C K;exact .sc _
 |1=>simp at C K;subst C K;exact .sc _
 |i+2=>simp at C
def xqn{P:Program}{E:Env}{w:World}{st:St}{f:FuncId}{a:List AV}{J:Array Value}{t e:TypeId}{r:AV}(d:jG P f)(j:Sim E w st)(O:ArgsV E w a J)(h:vS t e st.aD a=some r)(Q:∀(b:Nat) (q v:Value) (l:List UInt8) (w:World),w.heap[b]?=some (.cells #[q,v] t (0,0))->Bow w e v l ->
 Calls P f #[.pointer (some ⟨b,0,none⟩)] w λx m=>x=.returned (.string ⟨l.toArray⟩)/\IC w m v) :
    jG P f/\mV P E w st f J r {st with aD:=λ_=>none}:=by
 refine⟨d,?_⟩
 unfold vS at h
 split at h
 rotate_left
 .cases h
 rename_i id
 split at h
 rotate_left
 .cases h
 rename_i t' e' l u
 split at h
 rotate_left
 .cases h
 rename_i y
 obtain⟨rfl,rfl,L⟩:=y
 cases h
 obtain⟨u1,rfl,D⟩:=gy O
 obtain⟨F,q,v,X,k2,Y,k4,M,k6,k7,Z⟩:=j.obj id _ u
 have R:=xem D X
 subst R
 intro A
 obtain⟨x,m,fr,⟨rfl,H,g2,N,g4,g5⟩,h1,h2,h3⟩:=Q F q v l w Y M A
 have C:Lsh w m:=λb r o=>by
  have d:=wR o
  refine⟨r,?_,rfl⟩
  rw[N b d (λe=>by
   obtain⟨cur,n⟩:=xe0 M.1 e
   rw[n]at o;cases o)]
  exact o
 have W:Ext E.G w m:=⟨H,g2,λb g d=>N b d λe=>by
  have:=j.own b id (Z b e)
  rcases g with g|g
  .exact this.1 g
  .exact this.2.1 g,g4,g5⟩
 have K:Later E w E m:=⟨λ_ _ _ h=>h,λ_ h=>h,λ_ h=>.inl h,λ_ _ h=>.inl h,λ_ h=>h,λ_ h=>.inl h,rfl,W,C,λ_ _ _ _ _ _ _=>rfl⟩
 refine⟨E,m,_,.inl ⟨d,fr,h1,h2,h3⟩,.sc _,⟨λ_ _ h=>(by cases h),j.dom,λb i h=>?_,λb h=>eZ (j.fin b h) H,K.gl j⟩,K,bS _,λid p h=>.inl ⟨p,h⟩⟩
 obtain⟨m1,m2,m3⟩:=j.own b i h
 exact⟨m1,m2,eZ m3 H⟩
def ydq{P:Program}{ρ:Go.Shelf.Ren}(L:Lays.n169 P ρ)(X:Builder.Extra P ρ)(b:Nat)(p v:Value)(l:List UInt8)(w:World)(d:w.heap[b]?=some (.cells #[p,v] (ρ.t 72) (0,0)))(a:Bow w (ρ.t 5) v l) :
    Calls P (ρ.f 169) #[.pointer (some ⟨b,0,none⟩)] w λe h=>e=.returned (.string ⟨l.toArray⟩)/\IC w h v:=by
 by_cases g:l=[]
 .have:=a.2 g;subst this g;exact ydp L X b p w d
 .exact ydo L X b p v l w d a.1 g
def xqk{E:Env}{w:World}{st:St}{a:List AV}{d:Array Value}{p:AV×Id×Ob}(e:Sim E w st)(f:ArgsV E w a d)(h:vR mF eI st.aD a=some p) :
    jG prog DQ/\mV prog E w st DQ d p.1 {st with aD:=bT st.aD p.2.1 (some p.2.2)}:=
 xnx (G0 (by kernel_rfl)) e f h λb q v l s w g i j m=>ydn (P:=prog) (ρ:=Tryz.GK) Tryz.laysB166 Tryz.Builder_Extra_B b q v l s w g i j m
def xql{E:Env}{w:World}{st:St}{a:List AV}{d:Array Value}{r:AV}(e:Sim E w st)(f:ArgsV E w a d)(h:vS mF eI st.aD a=some r) :
    jG prog DR/\mV prog E w st DR d r {st with aD:=λ_=>none}:=
 xqn (G0 (by kernel_rfl)) e f h λb q v l w g i=>ydq (P:=prog) (ρ:=Tryz.GK) Tryz.laysB169 Tryz.Builder_Extra_B b q v l w g i
def xqr{k t e:Nat}{a:List AV}{st:St}(b:Nat.beq k 3=false)(d:Nat.ble 16 k=true)(f:Nat.beq (k % 2) 0=false)(g:k / 2000=t)(h:k / 2 % 1000=e) :
    vQ k a st=(vR t e st.aD a).map λp=>(p.1,{st with aD:=bT st.aD p.2.1 (some p.2.2)}):=by
 subst g h;unfold vQ;simp only[b,d,f,cond_true,cond_false]
def xqs{k t e:Nat}{a:List AV}{st:St}(b:Nat.beq k 3=false)(d:Nat.ble 16 k=true)(f:Nat.beq (k % 2) 0=true)(g:k / 2000=t)(h:k / 2 % 1000=e) :
    vQ k a st=(vS t e st.aD a).map λv=>(v,{st with aD:=λ_=>none}):=by
 subst g h;unfold vQ;simp only[b,d,f,cond_true,cond_false]
def told_ok:H8 prog pol:=by
 intro E w st f i vs r l m j b d a;rcases xy6 f m with ⟨rfl,e⟩|⟨rfl,e⟩|⟨rfl,e⟩|⟨rfl,e⟩
 .rw[e]at a;unfold vQ at a;simp only[show Nat.beq 1 3=false from by rfl,show Nat.ble 16 1=false from by rfl,show Nat.ble 4 1=false from by rfl,cond_false,cM,bK]at a;obtain⟨r0,a,rfl,rfl⟩:=a;exact x4j j b d a
 .rw[e]at a;unfold vQ at a;simp only[show Nat.beq 2 3=false from by rfl,show Nat.ble 16 2=false from by rfl,show Nat.ble 4 2=false from by rfl,cond_false,cM,bK]at a;obtain⟨r0,a,rfl,rfl⟩:=a;exact yd3 j b d a
 .rw[e,xqs (t:=mF) (e:=eI) rfl rfl rfl rfl rfl,cM]at a;obtain⟨r0,g,h⟩:=a;cases h;exact xql b d g
 .rw[e,xqr (t:=mF) (e:=eI) rfl rfl rfl rfl rfl,cM]at a;obtain⟨p,g,h⟩:=a;cases h;exact xqk b d g
end Go.Ix
namespace Go.Ix
open Go.Proofs
variable{R:Type}{P:Program}{m:Mem}
@[simp] theorem dS(x y:Int):bM (I x) (I y)=some (I (cJ (x+y))):=_root_.id rfl
@[simp] theorem mZ(x y:Int):eV (I x) (I y)=some (I (cJ (x-y))):=_root_.id rfl
@[simp] theorem LD(x y:Int):nA (I x) (I y)=some (I (cJ (x*y))):=_root_.id rfl
@[simp] theorem bV(x y:Int):cA (I x) (I y)=some (B (decide (x<y))):=_root_.id rfl
@[simp] theorem LE(x y:Int):jI (I x) (I y)=some (B (decide (x<=y))):=_root_.id rfl
@[simp] theorem fT(x y:Int):eP (I x) (I y)=some (B (decide (y<x))):=_root_.id rfl
@[simp] theorem sG(x y:Int):jU (I x) (I y)=some (B (decide (y<=x))):=_root_.id rfl
@[simp] theorem iD(x y:Int):eK (I x) (I y)=some (B (decide (x=y))):=_root_.id rfl
@[simp] theorem fS(x y:Int):eA (I x) (I y)=some (B (!decide (x=y))):=_root_.id rfl
@[simp] theorem xdl(x:Int):rB (I x)=some (I (cJ (0-x))):=_root_.id rfl
@[simp] theorem eG(b:Bool):dN (B b)=some (B (!b)):=_root_.id rfl
@[simp] theorem yfp(x y:Int):B2 (I x) (I y)=some (I (if y<x then y else x)):=_root_.id rfl
@[simp] theorem yfq(x y:Int):CQ (I x) (I y)=some (I (if y > x then y else x)):=_root_.id rfl
def aa{x y:Int}(h:y≠0):vU (I x) (I y)=some (I (x.tmod y)):=by simp[vU,h]
@[simp] theorem cS(c:Bool)(a b:AV):bX (B c) a b=some (bif c then a else b):=_root_.id rfl
@[simp] theorem aS(a b:Option R):aK (B true) a b=a:=_root_.id rfl
@[simp] theorem aT(a b:Option R):aK (B false) a b=b:=_root_.id rfl
@[simp] theorem iC(b:Bool):sW (B b) true=b:=by cases b<;>rfl
@[simp] theorem dQ(b:Bool):sW (B b) false=!b:=by cases b<;>rfl
@[simp] theorem sW_U(w:Bool):sW U w=false:=_root_.id rfl
@[simp] theorem lY(l:List AV)(i:Nat):cN (.tup l) i=l[i]?:=_root_.id rfl
@[simp] theorem ge(x:Int):(I x).cells=[I x]:=_root_.id rfl
@[simp] theorem yga(x:Bool):(B x).cells=[B x]:=_root_.id rfl
@[simp] theorem nH(l:List AV):(AV.agg l).cells=l:=_root_.id rfl
@[simp] theorem yf7(l:List AV)(n:Nat)(x:Bool):(AV.aN l n x).cells=[.aN l n x]:=_root_.id rfl
@[simp] theorem yf6(id:Id)(a b n z:Nat)(f:Bool):(AV.sref id a b n z f).cells=[.sref id a b n z f]:=_root_.id rfl
@[simp] theorem yf8:(nilS).cells=[nilS]:=_root_.id rfl
@[simp] theorem vZ(x:Int):(I x).one=true:=_root_.id rfl
@[simp] theorem yfw(x:Bool):(B x).one=true:=_root_.id rfl
@[simp] theorem yfs(l:List AV)(n:Nat)(x:Bool):(AV.aN l n x).one=true:=_root_.id rfl
@[simp] theorem yfr(id:Id)(a b n z:Nat)(f:Bool):(AV.sref id a b n z f).one=true:=_root_.id rfl
@[simp] theorem yft:(nilS).one=true:=_root_.id rfl
@[simp] theorem yfu(f:FuncId)(l:List AV):(AV.clo f l).one=true:=_root_.id rfl
def aP:AV->Bool
 | .sc _ | .aN .. | .aH _ | .un _=>true
 |_=>false
def bD:AV->Bool
 | .sc _ | .aN .. | .aH _ | .un _=>true
 | .agg l=>l.all aP
 | .clo _ l=>l.all aP
 |_=>false
@[simp] theorem yfn(v:Value):aP (.sc v)=true:=_root_.id rfl
@[simp] theorem yfm(l:List AV)(n:Nat)(x:Bool):aP (.aN l n x)=true:=_root_.id rfl
@[simp] theorem yfk(v:Value):bD (.sc v)=true:=_root_.id rfl
@[simp] theorem yfj(l:List AV)(n:Nat)(x:Bool):bD (.aN l n x)=true:=_root_.id rfl
@[simp] theorem yF(l:List AV):bD (.agg l)=l.all aP:=_root_.id rfl
@[simp] theorem yfl(f:FuncId)(l:List AV):bD (.clo f l)=l.all aP:=_root_.id rfl
def uZ{a:AV}(b:Id->Option Ob)(k:Nat)(h:aP a=true):frz b (k+1) a=some a:=by cases a<;>simp_all [frz,aP]
def sP{f:AV->Option AV}:∀{l:List AV},(∀a∈l,f a=some a)->l.mapM f=some l
 |[],_=>rfl
 |a::l,h=>by rw[eO,h a (eS ..),sP λb d=>h b (dU _ d)];rfl
def kA{a:AV}(d:Id->Option Ob)(k:Nat)(h:bD a=true):frz d (k+2) a=some a:=by
 cases a with
 |agg l=>
  simp only[bD,dG]at h;have:l.mapM (frz d (k+1))=some l:=sP λb e=>uZ d k (h b e)
  show(l.mapM (frz d (k+1))).map AV.agg=_;rw[this];rfl
 |clo f l=>
  simp only[bD,dG]at h;have:l.mapM (frz d (k+1))=some l:=sP λb e=>uZ d k (h b e)
  show(l.mapM (frz d (k+1))).map (AV.clo f)=_;rw[this];rfl
 |_=>first|(exact uZ d (k+1) rfl)|(simp[bD]at h)
def vV{a:AV}(b:Id->Option Ob)(k:Nat)(h:aP a=true):reach b (k+1) a=[]:=by cases a<;>simp_all [reach,aP]
def xtk{a:AV}(d:Id->Option Ob)(k:Nat)(h:bD a=true):reach d (k+2) a=[]:=by
 cases a with
 |agg l=>simp only[bD,dG]at h;show l.flatMap (reach d (k+1))=[];rw[Y2];exact λb e=>vV d k (h b e)
 |clo f l=>simp only[bD,dG]at h;show l.flatMap (reach d (k+1))=[];rw[Y2];exact λb e=>vV d k (h b e)
 |_=>first|(exact vV d (k+1) rfl)|(simp[bD]at h)
def zN{l:List AV}(b:Id->Option Ob)(h:l.all bD=true):l.mapM (frz b bR)=some l:=
 sP λa d=>kA b 4 (dG.mp h a d)
def CY{l:List AV}(b:Id->Option Ob)(h:l.all bD=true):l.flatMap (reach b bR)=[]:=by rw[Y2];exact λa d=>xtk b 4 (dG.mp h a d)
def eR{call:aJ}{f:FuncId}{l:List AV}{m m':Mem}{r:AV}(a:l.all bD=true)(h:call [] f l mem0=some (r,m'))(b:bD r=true):aI call f l m=some (r,m):=by unfold aI;rw[zN _ a];simp only[h];rw[show frz m'.get bR r=some r from kA _ 4 b,CY _ a];rfl
def gj{call:aJ}{f:FuncId}{l:List AV}{m a:Mem}{r:AV}(b:l.all bD=true)(h:call [] f l mem0=some (r,a))(d:rF r=true):fC call f l m=some (r,m):=by unfold fC;rw[zN _ b];simp only[h,aF d]
def rT{b:aJ}{f:FuncId}{l:List AV}{m d:Mem}{r:List AV}(e:l.all bD=true)(h:b [] f l mem0=some (.tup r,d))(g:r.all bD=true):aI b f l m=some (.tup r,m):=by
 unfold aI;rw[zN _ e];simp only[h];have:frz d.get bR (.tup r)=some (.tup r):=by
  have j:r.mapM (frz d.get 5)=some r:=sP λa i=>kA _ 3 (dG.mp g a i)
  show(r.mapM (frz d.get 5)).map AV.tup=_;rw[j];rfl
 rw[this,CY _ e];rfl
def Ans(a:aJ)(f:FuncId)(l:List AV)(r:AV):Prop:=∃b,a [] f l mem0=some (r,b)
def Ans.eR{call:aJ}{f:FuncId}{l:List AV}{m:Mem}{r:AV}(h:Ans call f l r)(a:l.all bD=true)(b:bD r=true):aI call f l m=some (r,m):=
 let⟨_,h⟩:=h;Go.Ix.eR a h b
def Ans.rT{a:aJ}{f:FuncId}{l:List AV}{m:Mem}{r:List AV}(h:Ans a f l (.tup r))(b:l.all bD=true)(d:r.all bD=true):aI a f l m=some (.tup r,m):=
 let⟨_,h⟩:=h;Go.Ix.rT b h d
def Sl{α:Type}(b:α->List AV)(a:AV)(l:List α):Prop:=(a=nilS/\l=[])\/∃x,a=.aN (l.flatMap b) l.length x
variable{α:Type}{enc:α->List AV}{z:Nat}{a:AV}{l:List α}
def fN(a:∀x,(enc x).length=z):∀l:List α,(l.flatMap enc).length=l.length*z
 |[]=>by simp
 |x::l=>by simp only[dK,eT,a,fN a l,dW,lU];omega
def wV(a:∀x,(enc x).length=z):∀(l:List α) (k:Nat),(l.flatMap enc).drop (k*z)=(l.drop k).flatMap enc
 |l,0=>by simp
 |[],k+1=>by simp
 |x::l,k+1=>by rw[dK,lU,n9,mE (by rw[a];omega),iX,a,xk5,wV a l k,dR]
def gV{l:List α}{k:Nat}(h:k<l.length):l.drop k=l[k]::l.drop (k+1):=Y3 h
def gB{l r:List α}{x:α}{k:Nat}(h:l.drop k=x::r):∃a:k<l.length,l[k]=x/\l.drop (k+1)=r:=by
 have a:k<l.length:=by
  rcases kS k l.length with h'|h'
  .exact h'
  .rw[mE h']at h;cases h
 rw[gV a]at h;injection h with he hd;exact⟨a,he,hd⟩
def Sl.aP(h:Sl enc a l):aP a=true:=by rcases h with ⟨rfl,_⟩|⟨x,rfl⟩<;>rfl
def Sl.bD(h:Sl enc a l):bD a=true:=by rcases h with ⟨rfl,_⟩|⟨x,rfl⟩<;>rfl
def Sl.clean(h:Sl enc a l):clean a=true:=by rcases h with ⟨rfl,_⟩|⟨x,rfl⟩<;>rfl
def Sl.fO(h:Sl enc a l):fO a=true:=by rcases h with ⟨rfl,_⟩|⟨x,rfl⟩<;>rfl
def Sl.cells(h:Sl enc a l):a.cells=[a]:=by rcases h with ⟨rfl,_⟩|⟨x,rfl⟩<;>rfl
def Sl.one(h:Sl enc a l):a.one=true:=by rcases h with ⟨rfl,_⟩|⟨x,rfl⟩<;>rfl
def Sl.tX(h:Sl enc a l):tX a=some []:=by rcases h with ⟨rfl,_⟩|⟨x,rfl⟩<;>rfl
def Sl.lit(l:List α)(x:Bool):Sl enc (.aN (l.flatMap enc) l.length x) l:=Or.inr ⟨x,rfl⟩
def Sl.elems(d:∀x,(enc x).length=z)(h:Sl enc a l)(b:Id->Option Ob):elems b z a=some (l.flatMap enc,l.length):=by
 rcases h with ⟨rfl,rfl⟩|⟨x,rfl⟩
 .rfl
 .have e:=fN d l;simp[Ix.elems,e,dT]
def U7{t e:TypeId}(a:P.underlying t=some (.slice e)):aM P t nilS=some (I 0):=by have:bJ P (Builtin.len_ #[t] 0 #[Value.slice none 0 0])=some (.int .i64 0):=(by simp[Builtin.len_,underlying,program,Bind.bind,Sem.bind,bJ,Pure.pure,a,goInt]);show(bJ P (Builtin.len_ #[t] 0 #[Value.slice none 0 0])).map fJ=_;rw[this];rfl
def Sl.len{t e:TypeId}(b:P.underlying t=some (.slice e))(h:Sl enc a l):aM P t a=some (I l.length):=by
 rcases h with ⟨rfl,rfl⟩|⟨x,rfl⟩
 .exact U7 b
 .rfl
def Sl.ix(d:∀x,(enc x).length=z)(h:Sl enc a l){k:Nat}(b:k<l.length):aV z a (I k)=some (.aH ((l.drop k).flatMap enc)):=by
 rcases h with ⟨rfl,rfl⟩|⟨x,rfl⟩
 .simp at b
 .have:(0:Int)<=(k:Int)/\(k:Int)<(l.length:Int):=(by omega);simp[aV,dF,wV d,b]
def iH{m:Mem}(d:∀x,(enc x).length=z)(g:0<z){k:Nat}(e:k<l.length):aA true z (.aH ((l.drop k).flatMap enc)) m=some (.agg (enc l[k])):=by
 have b:=d l[k];rw[gV e,dK];simp only[aA];have a:(enc l[k]++(l.drop (k+1)).flatMap enc).isEmpty=false:=by
  cases f:enc l[k]with
  |nil=>rw[f]at b;simp at b;omega
  |cons=>rfl
 rw[a];simp only[fQ,cU,rd];rw[aF trivial,aF (by rw[eT];omega),je (by omega),dT (by omega)]
@[simp] theorem cW(a:Nat)(id:Id)(b o:Nat):aE a (.ptr id b o)=some (.ptr id b (o+a)):=_root_.id rfl
@[simp] theorem xdp(a:Nat)(b:List AV):aE a (.aH b)=some (.aH (b.drop a)):=_root_.id rfl
@[simp] theorem yfz{m:Mem}(x:AV)(a:List AV):aA false 1 (.aH (x::a)) m=some x:=_root_.id rfl
def aQ{m:Mem}{id:Id}{g:Bool}{z a b:Nat}{d:List AV}{e:Bool}(h:m.get id=some (.row d b e)):aA g z (.ptr id b a) m=rd g z (d.drop a):=by simp[aA,h]
@[simp] theorem B3(g:Bool)(z:Nat)(x:AV)(a:List AV)(m:Mem):aA g z (.aH (x::a)) m=rd g z (x::a):=_root_.id rfl
def iB{m:Mem}{id:Id}{z off a:Nat}{b:List AV}{x:AV}{k:Mem->Option R}(h:m.get id=some (.row b a false))(d:x.cells.length=z)(e:off+z<=b.length)(f:x.cells.all AV.one=true) :
    bA z (.ptr id a off) x m k=k (m.set id (.row (cH b off x.cells) a false)):=by
 simp only[bA,h];rw[aF ⟨trivial,d,e,f⟩]
def Mem.uY(m:Mem)(i:Id)(o:Ob):(m.set i o).get i=some o:=by rw[Mem.bG,aF rfl]
def Mem.lF(m:Mem)(i:Id)(o:Ob):(m.new i o).get i=some o:=by rw[Mem.dI,aF rfl]
def Mem.oE{m:Mem}{i j:Id}{o:Ob}(h:j≠i):(m.set i o).get j=m.get j:=by rw[Mem.bG,aB h]
def Mem.zL{m:Mem}{i j:Id}{o:Ob}(h:j≠i):(m.new i o).get j=m.get j:=by rw[Mem.dI,aB h]
@[simp] theorem Mem.next_set(m:Mem)(i:Id)(o:Ob):(m.set i o).next=m.next:=_root_.id rfl
@[simp] theorem Mem.next_new(m:Mem)(i:Id)(o:Ob):(m.new i o).next=m.next:=_root_.id rfl
def ydu{α β:Type}{x y:Option α}{f:α->Option β}(h:x=y):x.bind f=y.bind f:=by rw[h]
def x7s{α:Type}{x y:Bool}{a b:α}(h:x=y):cond x a b=cond y a b:=by rw[h]
def xsu{x y:AV}{a b:Option R}(h:x=y):aK x a b=aK y a b:=by rw[h]
attribute [congr] ydu x7s xsu
theorem aC{α β:Type}(a:α)(f:α->Option β):(some a).bind f=f a:=_root_.id rfl
theorem bC{α:Type}(a b:α):cond true a b=a:=_root_.id rfl
theorem cT{α:Type}(a b:α):cond false a b=b:=_root_.id rfl
attribute [simp high] aC bC cT
attribute [simp ↓ high] aS aT aC bC cT
@[simp ↓] theorem lQ(a:List AV)(id:Id)(m:Mem)(k:AV->Mem->Option R):dH a id m k=k (.ptr id 0 0) (m.new id (.row a 0 false)):=_root_.id rfl
def pL(z b a:Nat)(x:AV):Option Ob->Option Ob
 |some (.row d v false)=>bif decide (v=b/\x.cells.length=z/\a+z<=d.length/\(x.cells.all AV.one)=true)then some (.row (cH d a x.cells) v false)else none
 |_=>none
def rA(z:Nat)(id:Id)(a b:Nat)(x:AV)(m:Mem)(k:Mem->Option R):bA z (.ptr id a b) x m k=(pL z a b x (m.get id)).bind λo=>k (m.set id o):=by
 cases h:m.get id with
 |none=>simp only[bA,h];rfl
 |some o=>
  cases o with
  |map j=>simp only[bA,h];rfl
  |lp d=>simp only[bA,h];rfl
  |bld t e l=>simp only[bA,h];rfl
  |row i v f=>
   cases f with
   |true=>simp only[bA,h];rfl
   |false=>
    simp only[bA,h,pL];by_cases g:v=a/\x.cells.length=z/\b+z<=i.length/\(x.cells.all AV.one)=true
    .rw[aF g,eX g];rfl
    .rw[aB g,fU g];rfl
@[simp ↓] theorem fA(c:AV)(w:Bool)(x:AV)(m:Mem)(k:AV×Mem->Option R):bI c w x m k=(bif sW c w then some (x,m)else some (U,m)).bind k:=_root_.id rfl
@[simp ↓] theorem dO(c:AV)(w:Bool)(x:Option AV)(m:Mem)(k:AV×Mem->Option R):aL c w x m k=(bif sW c w then x.bind λv=>some (v,m)else some (U,m)).bind k:=_root_.id rfl
@[simp ↓] theorem fI(c:AV)(w:Bool)(x:Option (AV×Mem))(m:Mem)(k:AV×Mem->Option R):fB c w x m k=(bif sW c w then x.bind λp=>some (p.1,p.2)else some (U,m)).bind k:=_root_.id rfl
theorem CD(z b a:Nat)(x:AV)(d:List AV)(v:Nat):pL z b a x (some (.row d v false))=bif decide (v=b/\x.cells.length=z/\a+z<=d.length/\(x.cells.all AV.one)=true)then some (.row (cH d a x.cells) v false)else none:=_root_.id rfl
def iE(x:AV)(id:Id)(m:Mem)(k:AV->Mem->Option R):cX x id m k=bif x.cells.all AV.one then k (.ptr id 0 0) (m.new id (.row x.cells 0 false))else none:=by
 unfold cX;split
 .rename_i e;rw[e];rfl
 .rename_i e;rw[xlu]at e;rw[e];rfl
def sR(g:Bool)(z a b:Nat):Option Ob->Option AV
 |some (.row d v _)=>bif Nat.beq v a then rd g z (d.drop b)else none
 |_=>none
def jJ(g:Bool)(z:Nat)(id:Id)(a b:Nat)(m:Mem):aA g z (.ptr id a b) m=sR g z a b (m.get id):=by
 cases h:m.get id with
 |none=>simp only[aA,h];rfl
 |some o=>
  cases o with
  |map j=>simp only[aA,h];rfl
  |lp d=>simp only[aA,h];rfl
  |bld t e l=>simp only[aA,h];rfl
  |row n v f=>
   simp only[aA,h,sR];by_cases i:v=a
   .subst i;simp
   .rw[aB i,show Nat.beq v a=false from by rw[kV];intro x;exact i (gD x)];rfl
theorem V0(g:Bool)(z a b:Nat)(d:List AV)(v:Nat)(f:Bool):sR g z a b (some (.row d v f))=bif Nat.beq v a then rd g z (d.drop b)else none:=_root_.id rfl
def N8(z:Nat)(a:List AV):rd true z a=bif decide (z<=a.length)then some (.agg (a.take z))else none:=by unfold rd;by_cases h:z<=a.length<;>simp[h]
theorem dE(z:Nat)(a:AV)(b:List AV):rd false z (a::b)=some a:=_root_.id rfl
def xto(a:AV)(b:List AV):rd true 1 (a::b)=some (.agg [a]):=by rw[N8,dW,eX (by omega)];rfl
def xtn(a b:AV)(d:List AV):rd true 2 (a::b::d)=some (.agg [a,b]):=by rw[N8];simp only[dW];rw[eX (by omega)];rfl
def xtm(a b c:AV)(d:List AV):rd true 3 (a::b::c::d)=some (.agg [a,b,c]):=by rw[N8];simp only[dW];rw[eX (by omega)];rfl
def xtl(a b c d:AV)(e:List AV):rd true 4 (a::b::c::d::e)=some (.agg [a,b,c,d]):=by rw[N8];simp only[dW];rw[eX (by omega)];rfl
def xrd(e:Nat)(a b c d f g h i:AV):pL 4 e 0 (.agg [f,g,h,i]) (some (.row [a,b,c,d] e false))=bif[f,g,h,i].all AV.one then some (.row [f,g,h,i] e false)else none:=by rw[CD];simp[cH]
theorem xrf(b:List AV)(a:Nat)(d:List AV):cH b a d=b.take a++(d++b.drop (a+d.length)):=_root_.id rfl
attribute [simp high] xto xtn xtm xtl xrd
attribute [simp] jJ V0 CD N8 dE xrf Mem.bG Mem.dI bU
attribute [simp ↓] rA iE
def intE(x:Int):List AV:=[I x]
theorem fL(x:Int):(intE x).length=1:=_root_.id rfl
def Sl.ixI(b:∀x,(enc x).length=z)(h:Sl enc a l){k:Int}(d:0<=k)(e:k<l.length):aV z a (I k)=some (.aH ((l.drop k.toNat).flatMap enc)):=by have:=h.ix b (k:=k.toNat) (by omega);rwa[J9 d]at this
def at0(l:List Int)(k:Nat):Int:=l.getD k 0
def fH{l:List Int}{k:Nat}(h:k<l.length):at0 l k=l[k]:=by unfold at0;rw[fP,gE h];rfl
def oB{m:Mem}{l:List Int}{k:Nat}(a:k<l.length):aA false 1 (.aH ((l.drop k).flatMap intE)) m=some (I (at0 l k)):=by rw[gV a,dK,fH a];rfl
def ce(l:List AV):cY 0 l=bif l.all clean then 2 else 0:=by unfold cY;cases h:l.all clean<;>simp
def x1r(l:List AV):cY 1 l=bif l.all clean then 2 else 0:=by unfold cY;cases h:l.all clean<;>simp
@[simp] theorem yfy(l:List AV):cY 3 l=1:=_root_.id rfl
@[simp] theorem yfx(l:List AV):cY 4 l=1:=_root_.id rfl
@[simp] theorem yf2(v:Value):clean (.sc v)=true:=_root_.id rfl
@[simp] theorem yf3(l:List AV):clean (.agg l)=l.all fO:=_root_.id rfl
@[simp] theorem yf1(l:List AV)(n:Nat)(x:Bool):clean (.aN l n x)=true:=_root_.id rfl
@[simp] theorem yf5(v:Value):fO (.sc v)=true:=_root_.id rfl
@[simp] theorem yf4(l:List AV)(n:Nat)(x:Bool):fO (.aN l n x)=true:=_root_.id rfl
@[simp] theorem ygc:Nat.ble 1 2=true:=_root_.id rfl
@[simp] theorem ygd:Nat.ble 1 1=true:=_root_.id rfl
@[simp] theorem ydb(a:AV):dJ none (tR a) 2=true:=by unfold tR;split<;>rfl
@[simp] theorem ygb(a:AV):dJ none (tR a) 1=true:=by unfold tR;split<;>rfl
attribute [simp] ce x1r
def H7{a:aJ}{f:FuncId}{l:List AV}{m b:Mem}{r d:AV}(e:l.all bD=true)(h:a [] f l mem0=some (r,b))(g:frz b.get bR r=some d):aI a f l m=some (d,m):=by unfold aI;rw[zN _ e];simp only[h,g];rw[CY _ e];rfl
def rP{aD:Id->Option Ob}{id:Id}{cs:List AV}{ver off n z k:Nat}{f x:Bool}(h:aD id=some (.row cs ver f))(b:off+n*z<=cs.length)(Z:((cs.drop off).take (n*z)).all aP=true) :
    frz aD (k+2) (.sref id ver off n z x)=some (.aN ((cs.drop off).take (n*z)) n false):=by
 have e:((cs.drop off).take (n*z)).mapM (frz aD (k+1))=some ((cs.drop off).take (n*z)):=sP λa d=>uZ aD k (dG.mp Z a d)
 simp only[frz,h];rw[aF ⟨trivial,b⟩];show((((cs.drop off).take (n*z)).mapM (frz aD (k+1))).map λl=>AV.aN l n false)=_;rw[e];rfl
def NP{size a:Nat}{id:Id}{b:List AV}{q:Nat}{m:Mem}{k:AV->Mem->Option R}(h:cF q a) :
    cK size a id (some (b,q)) (.aN [] 0 true) m k=bif decide (q=0)then k (.aN [] 0 true) m else k (.sref id 0 0 q size true) (m.new id (.row b 0 false)):=by
 simp only[cK,xI,bW,List.take_nil,iX];rw[aF (xJ _)];by_cases d:q=0
 .rw[aF d,eX d];rfl
 .rw[aB d,aF h,fU d];rfl
def xf0{z:List AV}{size:Nat}{id:Id}{m:Mem}{k:AV->Mem->Option R}:cV z [] 0 size id m k=k (.aN [] 0 true) m:=by simp[cV,iM,eQ]
def pC(a:∀x,(enc x).all aP=true):∀l:List α,(l.flatMap enc).all aP=true
 |[]=>rfl
 |x::l=>by rw[dK,OE,a,pC a l];rfl
theorem wP(x:Int):(intE x).all aP=true:=rfl
attribute [simp ↓] xf0
def xfz{z:AV}{x:AV}{id:Id}{m:Mem}{k:AV->Mem->Option R}(a:x.cells=[x])(b:x.one=true)(d:fO x=true):cV [z] [(0,1,x)] 1 1 id m k=k (.aN [x] 1 true) m:=by simp[cV,iM,eQ,a,b,d,rU]
@[simp ↓] theorem ci{z:AV}{x:Int}{id:Id}{m:Mem}{k:AV->Mem->Option R}:cV [z] [(0,1,I x)] 1 1 id m k=k (.aN [I x] 1 true) m:=xfz rfl rfl rfl
def Gr{α:Type}(z:Nat)(d:α->List AV)(u t:Nat)(m:Mem)(a:AV)(l:List α):Prop:=
 (a=nilS/\l=[])\/∃s b,a=.sref (u,s,t) b 0 l.length z true/\m.get (u,s,t)=some (.row (l.flatMap d) b false)
def Gr.nil{u t:Nat}{m:Mem}:Gr z enc u t m nilS []:=Or.inl ⟨rfl,rfl⟩
def Gr.frame{u t:Nat}{m m':Mem}(h:Gr z enc u t m a l)(b:∀s,m'.get (u,s,t)=m.get (u,s,t)):Gr z enc u t m' a l:=by
 rcases h with h|⟨s,ver,h1,h2⟩
 .exact Or.inl h
 .exact Or.inr ⟨s,ver,h1,by rw[b];exact h2⟩
def Gr.app(i:∀x,(enc x).length=z)(p:0<z){u t s0 bytes:Nat}{m:Mem}(f:cF (l.length+1) bytes)(h:Gr z enc u t m a l)(x:α) :
    ∃g d,(∀{R:Type} (k:AV->Mem->Option R),cK z bytes (u,s0,t) (some (enc x,1)) a m k=k g d)/\Gr z enc u t d g (l++[x])/\d.next=m.next/\∀j:Id,j.2.2≠t->d.get j=m.get j:=by
 rcases h with ⟨rfl,rfl⟩|⟨s,b,rfl,o⟩
 .refine⟨.sref (u,s0,t) 0 0 1 z true,m.new (u,s0,t) (.row (enc x) 0 false),λk=>?_,Or.inr ⟨s0,0,rfl,by simp⟩,rfl,λj e=>?_⟩
  .simp only[cK];rw[aB (by omega),aF (by simpa using f)]
  .rw[Mem.dI,aB (by rintro rfl;exact e rfl)]
 .have n:=fN i l;refine⟨.sref (u,s,t) (b+1) 0 (l.length+1) z true,m.set (u,s,t) (.row (l.flatMap enc++enc x) (b+1) false),λk=>?_,Or.inr ⟨s,b+1,by simp,by simp⟩,rfl,λj e=>?_⟩
  .simp only[cK,o];rw[aF ⟨trivial,trivial,by omega,f⟩,aB (by omega),aB (by rw[n,lU];omega),bF,dT (by omega)]
  .rw[Mem.bG,aB (by rintro rfl;exact e rfl)]
def Gr.frz(e:∀x,(enc x).length=z)(Z:∀x,(enc x).all aP=true){u t:Nat}{m:Mem}(h:Gr z enc u t m a l):∃d,Sl enc d l/\frz m.get bR a=some d:=by
 rcases h with ⟨rfl,rfl⟩|⟨s,b,rfl,g⟩
 .exact⟨nilS,Or.inl ⟨rfl,rfl⟩,rfl⟩
 .have i:=fN e l;refine⟨.aN (l.flatMap enc) l.length false,Sl.lit l false,?_⟩
  have:=rP (aD:=m.get) (id:=(u,s,t)) (cs:=l.flatMap enc) (ver:=b) (off:=0) (n:=l.length) (z:=z) (k:=4) (f:=false) (x:=true) g (by omega) (by
   rw[bF,dT (by omega)];exact pC Z l)
  rw[bF,dT (by omega)]at this;exact this
def x5k{b:Id->Option Ob}{l:List AV}(h:l.all bD=true):Go.Ix.frz b bR (.tup l)=some (.tup l):=by
 have e:l.mapM (Go.Ix.frz b 5)=some l:=sP λa d=>kA _ 3 (dG.mp h a d)
 show(l.mapM (Go.Ix.frz b 5)).map AV.tup=_;rw[e];rfl
theorem dB:NN=18446744073709551616:=rfl
def xdr{d:BinOp}{t:TypeId}{x y:Operand}{a b r:AV}(h:xE P d t x y a b=some r):bP P d t x y a b=some r:=by unfold bP;rw[h]
def xst{s d:TypeId}{a r:AV}(h:MZ P s d a=some r):lO P s d a=some r:=by unfold lO;rw[h]
structure Edge where
 fr:Int
 to:Int
 jump:Int
 wt:Int
def Edge.c(e:Edge):List AV:=[I e.fr,I e.to,I e.jump,I e.wt]
theorem Edge.len(e:Edge):e.c.length=4:=rfl
def wi(a b c:Int):Bool:=decide (b<=a/\a<=c)
def y6{a b c:Int}(h:wi a b c=true):b<=a/\a<=c:=wA h
def wi_iff{a b c:Int}:wi a b c=true↔b<=a/\a<=c:=fm
def jH:prog.underlying fE=some (.slice dP):=by kernel_rfl
def nQ:gI=[I 0]:=by kernel_rfl
def L2(d:Nat)(a b c:Int)(m:Mem):aI (aG (d+1)) uQ [I a,I b,I c] m=some (B (wi a b c),m):=by refine eR rfl (m':=⟨[],1⟩) ?_ rfl;rw[x8p];unfold ks hJ PS wi;by_cases h:b<=a<;>by_cases e:a<=c<;>simp[h,e,mem0]
def xbg(d:Nat)(a b:Int)(m:Mem)(h:-9223372036854775807<=b/\b<=9223372036854775807):aI (aG (d+2)) P3 [I a,I b] m=some (B (wi a (-b) b),m):=by refine eR rfl (m':=⟨[],1⟩) ?_ rfl;rw[x8r];unfold kw aU PW;simp(disch:=omega) [mem0,L2,bU]
def xn3(d:Nat)(a:Int)(m:Mem)(b:-9223372036854775808<a)(e:a<=9223372036854775807):aI (aG (d+1)) P4 [I a] m=some (I (a.natAbs:Int),m):=by refine eR rfl (m':=⟨[],1⟩) ?_ rfl;rw[x8s];unfold kx bQ PX;simp(disch:=omega) [mem0,bU];split<;>omega
abbrev T(s:ByteArray):AV:=.sc (.string s)
abbrev U8(c:Int):AV:=.sc (.int .u8 c)
def mH(b:UInt8):List AV:=[U8 b.toNat]
theorem KO(b:UInt8):(mH b).length=1:=rfl
def BZ(x y:Operand)(a b:Int):bP prog .geq eI x y (U8 a) (U8 b)=some (B (decide (b<=a))):=by kernel_rfl
def ZH(x y:Operand)(a b:Int):bP prog .leq eI x y (U8 a) (U8 b)=some (B (decide (a<=b))):=by kernel_rfl
def xqc(x y:Operand)(a b:Int):bP prog .gtr eI x y (U8 a) (U8 b)=some (B (decide (b<a))):=by kernel_rfl
def xqb(x y:Operand)(a b:Int):bP prog .lss eI x y (U8 a) (U8 b)=some (B (decide (a<b))):=by kernel_rfl
def xqd(x y:Operand)(a b:Int):bP prog .eql eI x y (U8 a) (U8 b)=some (B (decide (a=b))):=by kernel_rfl
def xqa(x y:Operand)(a b:Int):bP prog .neq eI x y (U8 a) (U8 b)=some (B (!decide (a=b))):=by kernel_rfl
def gY(a b:ByteArray):Bool:=a.toList == b.toList
def yE(x y:Operand)(a b:ByteArray):bP prog .eql bN x y (T a) (T b)=some (B (gY a b)):=by kernel_rfl
@[simp] theorem ad(s:ByteArray):eD (T s)=some (I s.size):=rfl
def KN:prog.underlying qQ=some (.slice eI):=by kernel_rfl
def xp7:prog.underlying eI=some (.int .u8):=by kernel_rfl
def ZF:prog.underlying bN=some .string:=by kernel_rfl
def fq(s:ByteArray):lO prog bN qQ (T s)=some (.aN (s.data.toList.flatMap mH) s.data.toList.length false):=by
 have e:(s.data.toList.map λb=>U8 b.toNat)=s.data.toList.flatMap mH:=by
  induction s.data.toList with
  |nil=>rfl
  |cons b l a=>rw[eN,dK,a];rfl
 refine xst ?_;simp only[MZ,dL,NI,KN,xp7,ZF];rw[e,fN (z:=1) KO s.data.toList,oN]
def x43{s:ByteArray}{k:Nat}(h:k<s.data.toList.length):kZ prog bN (T s) (I k)=some (U8 (s.data.toList[k]).toNat):=by have:bJ prog (Instr.index bN (.string s) (.int .i64 k))=some (.int .u8 (s.data.toList[k]).toNat):=(by have a:s[k]?=some s.data.toList[k]:=(by have b:k<s.size:=(by simpa using h);rw[getElem?_pos s k b];rfl);simp only[Instr.index,asIntOf,underlying,program,Bind.bind,Sem.bind,bJ,Pure.pure,ZF];rw[aF (by omega),jF,a];rfl);have e:kZ prog bN (T s) (I k)=(bJ prog (Instr.index bN (.string s) (.int .i64 k))).map fJ:=(by simp only[kZ,dL]);rw[e,this];rfl
def NF(p:Bool)(c:Int):Bool:=(decide (97<=c)&&decide (c<=122))||(decide (65<=c)&&decide (c<=90))||(p&&(decide (c=45)||(decide (48<=c)&&decide (c<=57))))
def pQ:Nat->List UInt8->Bool
 |_,[]=>true
 |k,c::r=>NF (decide (0<k)) c.toNat&&pQ (k+1) r
def nmOK(s:ByteArray):Bool:=decide (0<s.size)&&decide (s.size<=12)&&pQ 0 s.data.toList
def ct{m:Mem}{l:List UInt8}{k:Nat}(a:k<l.length):aA false 1 (.aH ((l.drop k).flatMap mH)) m=some (U8 l[k].toNat):=by rw[gV a,dK];rfl
def x3a(d:aJ)(Z:FHs)(u:Nat){a:AV}{l:List UInt8}(h:Sl mH a l)(E:l.length<=12):∀(b:List UInt8) (k j:Nat) (m:Mem) (Y:Nat),l.drop k=b->b.length<j ->
    I4 d Z u j a (I l.length) (I k) m Y=some (B (pQ k b),m):=by
 intro b;induction b with
 |nil=>intro k j m Y f g;obtain⟨j,rfl⟩:=dD g;have i:¬((k:Int)<(l.length:Int)):=(by have:=gF.mp f;omega);simp only[I4];unfold QC ut;simp[i,pQ]
 |cons e r D=>
  intro k j m Y f g;obtain⟨j,rfl⟩:=dD g;obtain⟨i,o,f⟩:=gB f;have hk':(k:Int)<(l.length:Int):=(by omega);have ix:=h.ix KO i;have ld:=ct (m:=m) i;have next:∀Y,I4 d Z u j a (I l.length) (I (cJ ((k:Int)+1))) m Y=some (B (pQ (k+1) r),m):=λY=>by rw[bU];exact D (k+1) j m Y f (by simp at g;omega)
  rw[o]at ld;simp only[I4];unfold QC uq ur QD QE;simp only[bV,hk',bB,aS,aC,ix,ld,BZ];simp only[pQ,NF];generalize (e.toNat:Int)=c;by_cases p:97<=c<;>by_cases t:c<=122<;>by_cases w:65<=c<;>by_cases x:c<=90<;>by_cases y:48<=c<;>by_cases A:c<=57<;>by_cases C:c=45 <;>
   first
   |(exfalso;omega)
   |(by_cases n:0<k<;>simp[p,t,w,x,y,A,C,n,BZ,ZH,xqd,next])
def xof(d:Nat)(s:ByteArray)(m:Mem):aI (aG (d+1)) DU [T s] m=some (B (nmOK s),m):=by
 refine eR rfl (m':=⟨[],1⟩) ?_ rfl;rw[x8v];have f:gY s ⟨#[]⟩=decide (s.size=0):=by
  unfold gY;rw[ByteArray.toList_eq,ByteArray.toList_eq];cases Z:s.data.toList with
  |nil=>have:s.size=0:=(by show s.data.size=0;rw[<-qN,Z];rfl);simp[this]
  |cons x r=>have:s.size=r.length+1:=(by show s.data.size=_;rw[<-qN,Z];rfl);simp[this]
 have g:s.data.toList.length=s.size:=rfl;unfold lg bQ QB nmOK;simp only[yE,f,aC];by_cases b:s.size=0
 .simp[b,mem0]
 .by_cases a:s.size<=12
  .have h:=x3a (aG d) [] 0 (Sl.lit (enc:=mH) s.data.toList false) (by omega) s.data.toList 0 NN ⟨[],1⟩ (Y:=12) rfl (by rw[dB];omega);have e:aM prog qQ (.aN (s.data.toList.flatMap mH) s.data.toList.length false)=some (I s.data.toList.length):=(Sl.lit (enc:=mH) s.data.toList false).len KN;unfold um;simp only[fq];simp[b,a,show ¬((12:Int)<s.size) by omega,show 0<s.size by omega,mem0];exact h
  .simp[b,a,show(12:Int)<s.size by omega,mem0]
abbrev Ints(a:AV)(l:List Int):Prop:=Sl intE a l
def exI(t:List Int)(e:Edge):Int:=at0 t e.to.toNat-at0 t e.fr.toNat+e.jump
def TurnsIn(t:List Int):Prop:=∀x∈t,-1000000<=x/\x<=1000000
def TurnsIn.get{t:List Int}(h:TurnsIn t)(k:Nat):-1000000<=at0 t k/\at0 t k<=1000000:=by
 unfold at0;rw[fP];cases a:t[k]? with
 |none=>simp
 |some x=>simpa using h x (mT a)
structure EdgeIn (n:Nat) (e:Edge):Prop where
 f0:0<=e.fr
 f1:e.fr<n
 t0:0<=e.to
 t1:e.to<n
 j0:-1000<=e.jump
 j1:e.jump<=1000
 w0:0<=e.wt
 w1:e.wt<=1000
def X6(a:aJ)(f:AV)(p:Int->Bool):Prop:=∀(Z:FHs) (x:Int) (m:Mem),∃n,fD a Z 2 f [I x] m=some (B (p x),⟨m.hp,n⟩)
def G9(p:Int->Bool):Int->List Int->Int
 |_,[]=>-1
 |k,x::r=>bif p x then k else G9 p (k+1) r
def xik{p:Int->Bool}:∀{l:List Int} {k:Int},0<=k->(decide (0<=G9 p k l))=l.any p
 |[],k,_=>rfl
 |x::r,k,h=>by
  unfold G9;cases c:p x
  .simp only[cond_false,Y4,c,IB];exact xik (by omega)
  .simp[c,h]
def x3z(d:Nat)(Z:FHs){a f:AV}{l:List Int}{p:Int->Bool}(h:Ints a l)(F:l.length<1000000)(t:X6 (aG d) f p)(u:Nat):∀(b:List Int) (k j:Nat) (m:Mem) (Y:Nat),l.drop k=b->b.length<j ->
    ∃n,vJ (aG d) Z u j a f (I l.length) (I k) m Y=some (I (G9 p k b),⟨m.hp,n⟩):=by
 intro b;induction b with
 |nil=>intro k j m Y e g;obtain⟨j,rfl⟩:=dD g;have i:¬((k:Int)<(l.length:Int)):=(by have:=gF.mp e;omega);simp only[vJ];unfold BD;simp[i,RX,G9];exact⟨m.next,rfl⟩
 |cons x r E=>
  intro k j m Y e g;obtain⟨j,rfl⟩:=dD g;obtain⟨i,o,e⟩:=gB e;have hk':(k:Int)<(l.length:Int):=(by omega);have ix:=h.ix fL i;have w:at0 l k=x:=(by rw[fH i,o]);obtain⟨y,A⟩:=t Z x m;obtain⟨C,D⟩:=E (k+1) j ⟨m.hp,y⟩ (Y+11) e (by simp at g;omega);simp only[vJ];unfold BD;simp(disch:=omega) [hk',ix,oB,w,A,G9];cases c:p x
  .simp(disch:=omega);exact⟨C,D⟩
  .simp
def xpf(d:Nat)(Z:FHs){a f:AV}{l:List Int}{p:Int->Bool}(h:Ints a l)(b:l.length<1000000)(e:X6 (aG d) f p)(m:Mem):∃n,aG (d+1) Z C9 [a,f] m=some (I (G9 p 0 l),⟨m.hp,n⟩):=by obtain⟨n,g⟩:=x3z d Z h b e m.next l 0 NN ⟨m.hp,m.next+1⟩ 4 rfl (by rw[dB];omega);refine⟨n,?_⟩;rw[xjo];unfold OT aU IM RW;simp[h.len jH];exact g
def xpu(d:Nat)(Z:FHs){a f:AV}{l:List Int}{p:Int->Bool}(h:Ints a l)(b:l.length<1000000)(e:X6 (aG d) f p)(m:Mem):∃n,aG (d+2) Z D1 [a,f] m=some (B (l.any p),⟨m.hp,n⟩):=by obtain⟨n,g⟩:=xpf d Z h b e ⟨m.hp,m.next+1⟩;refine⟨n,?_⟩;rw[x9t];unfold nv aU SL;simp only[g,X7,sG,xik (ON 0)]
def xbx(d:Nat){a f:AV}{l:List Int}{p:Int->Bool}(h:Ints a l)(b:l.length<1000000)(e:X6 (aG d) f p)(Z:bD f=true)(m:Mem):aI (aG (d+2)) D1 [a,f] m=some (B (l.any p),m):=by obtain⟨n,g⟩:=xpu d [] h b e mem0;exact eR (by simp[h.bD,Z]) g rfl
end Go.Ix
namespace Go.Proofs.YtjngclcijnpooaaGreatDoor
open Go.ChangeShapes Go.WideShapes Go.ChangeAt Go.RowKit Go.Ix
def Tryz.own:ownKnob prog.godebug=none:=by kernel_rfl
def Tryz.laidOut:laidOutB prog=true:=by kernel_rfl
def A8{q:List AV}(h:Sh prog dP q):∃n,q=[I n]:=by obtain⟨n,h,-⟩:=Sh.int_inv (t:=dP) (k:=.i64) (by kernel_rfl) h;exact⟨n,h⟩
def CM{q:List AV}(h:Sh prog bN q):∃s,q=[T s]:=by
 have b:prog.underlying bN=some .string:=(by kernel_rfl);cases h with
 |string a s Z=>exact⟨s,rfl⟩
 |int a=>rw[b]at a;cases a
 |nilS a=>rw[b]at a;cases a
 |slice a=>rw[b]at a;cases a
 |bool a=>rw[b]at a;cases a
 |float a=>rw[b]at a;cases a
 |struct a=>rw[b]at a;cases a
 |array a=>rw[b]at a;cases a
def int_in{a:AV}(h:ArgSh prog dP a):∃n,a=I n:=by obtain⟨n,h,-⟩:=h.int (t:=dP) (k:=.i64) (by kernel_rfl);exact⟨n,h⟩
def V7{t:TypeId}{l:List (TypeId×Nat)}(h:((prog.underlying t).bind λd=>match d with | .struct a=>some (a.toList.map λf=>(f.type,f.offset))|_=>none)=some l):∃a,prog.underlying t=some (.struct a)/\(a.toList.map λf=>(f.type,f.offset))=l:=by
 cases b:prog.underlying t with
 |none=>rw[b]at h;cases h
 |some d=>rw[b]at h;cases d<;>first|exact⟨_,rfl,by simpa using h⟩|cases h
end Go.Proofs.YtjngclcijnpooaaGreatDoor
namespace Go.Proofs.YtjngclcijnpooaaGreatDoor
open Go.ChangeShapes Go.WideShapes Go.ChangeAt Go.RowKit Go.Ix
def laid10:List (String×DataW Unit):=[("math/bits.deBruijn32tab",Rows.laid_math_bits_deBruijn32tab),("math/bits.deBruijn64tab",Rows.laid_math_bits_deBruijn64tab),("internal/strconv.uint64pow10",Rows.laid_internal_strconv_uint64pow10),("unicode/utf8.acceptRanges",Rows.laid_unicode_utf8_acceptRanges),("strconv.ErrRange",Rows.laid_strconv_ErrRange),("strconv.ErrSyntax",Rows.laid_strconv_ErrSyntax),("unicode/utf8.first",Rows.laid_unicode_utf8_first)]
def xd3(u:TypeId)(h:prog.typeName? 3 u=some "*errors.errorString"):u=311:=
 typeName_ptr_named (nm:="errors.errorString") (by rw[show "*"++"errors.errorString" = "*errors.errorString" by decide];kernel_rfl) (by kernel_rfl) (by decide) u (by rw[show "*"++"errors.errorString" = "*errors.errorString" by decide];exact h)
def ZB{P:Program}{W d:World}{n:String}{e:Array Value}(i:Ext (λb=>b<W.heap.size) W d)(h:W.var? P n=some e):d.var? P n=some e:=by
 unfold World.var? at h ⊢;cases f:P.globalNamed n with
 |none=>simp[f]at h
 |some g=>
  simp only[f,X7]at h ⊢;have a:g<W.heap.size:=by
   rcases kS g W.heap.size with h'|h'
   .exact h'
   .simp[u6 h']at h
  rw[i.same g a a];exact h
def known_laid{W:World}(h:laidMetH prog laid10 W):∀a,Ext (λb=>b<W.heap.size) W a->xT prog a:=by
 rw[MakeChecks.laidMetH_plain _ _ _ (by kernel_rfl)]at h;intro a d;have j:Lib.TabIs prog W "internal/strconv.uint64pow10" .u64 Lib.pow10Tab:=
  Lib.tabIs_of_head (g:=1) (t:=263) (e:=242) (n:=20) (by kernel_rfl) (by kernel_rfl) (by kernel_rfl) (by kernel_rfl) (by kernel_rfl) (by kernel_rfl) (rest:=[("unicode/utf8.acceptRanges",Rows.laid_unicode_utf8_acceptRanges),("strconv.ErrRange",Rows.laid_strconv_ErrRange),("strconv.ErrSyntax",Rows.laid_strconv_ErrSyntax),("unicode/utf8.first",Rows.laid_unicode_utf8_first)]) h.tail.tail
 obtain⟨l,m,f,-⟩:=laid_sentinel (g:=5) (ti:=127) (tp:=311) (te:=313) (ts:=9) h.tail.tail.tail.tail (by kernel_rfl) (by kernel_rfl) Tryz.underlying127 xd3 Tryz.underlying311 Tryz.underlying313 rfl rfl Tryz.underlying9 (by kernel_rfl) (by kernel_rfl);obtain⟨o,p,i,-⟩:=laid_sentinel (g:=4) (ti:=127) (tp:=311) (te:=313) (ts:=9) h.tail.tail.tail.tail.tail (by kernel_rfl) (by kernel_rfl) Tryz.underlying127 xd3 Tryz.underlying311 Tryz.underlying313 rfl rfl Tryz.underlying9 (by kernel_rfl) (by kernel_rfl);exact⟨λ_=>ZB d j,λ_=>⟨⟨_,ZB d i,_,_,rfl⟩,_,ZB d f,_,_,rfl⟩⟩
def x2x(a:Os):(World.holding prog a ⟨#[],#[],[]⟩).layFits prog laid10 []=true:=by kernel_rfl
def x2w(a:Os):(World.holding prog a ⟨#[],#[],[]⟩).layIfaces prog laid10 (World.laidAll prog a laid10)=true:=by kernel_rfl
def laid_met(b:Os)(a:Array Value):laidMetH prog laid10 ((World.laidAll prog b laid10).forCall (λ_ _=>0) ⟨#[],a,[]⟩).memory:=by rw[MakeChecks.laidMetH_plain _ _ _ (by kernel_rfl)];exact laidMet_laidAll _ (x2x b) (x2w b)
def mapsRowed10:mapsRowed prog=true:=by kernel_rfl
def looks10:true=prog.looks []:=by kernel_rfl
end Go.Proofs.YtjngclcijnpooaaGreatDoor
namespace Go.Ix
def isDig(c:UInt8):Bool:=decide (48<=c.toNat)&&decide (c.toNat<=57)
def valD(b:Nat)(l:List UInt8):Nat:=l.foldl (λa c=>10*a+(c.toNat-48)) b
def nC(l:List UInt8)(d:Nat):Option Int:=
 let r:=if l.head?=some 45 then l.tail else l
 if r=[]\/d<r.length\/(r.head?=some 48/\1<l.length)\/r.all isDig=false then none else some (if l.head?=some 45 then -(valD 0 r:Int)else valD 0 r)
def ZI{a b:UInt8}(h:a.toNat=b.toNat):a=b:=UInt8.toNat_inj.1 h
def CA{u:Nat}(h:u<10):(UInt8.ofNat (48+u)).toNat=48+u:=by rw[UInt8.toNat_ofNat'];omega
def xhe{u:Nat}(h:u<10):isDig (UInt8.ofNat (48+u))=true:=by unfold isDig;rw[CA h];simp;omega
def GP{c:UInt8}(h:isDig c=true):48<=c.toNat/\c.toNat<=57:=by unfold isDig at h;simpa using h
def xb3(a:Nat)(l k:List UInt8):valD a (l++k)=valD (valD a l) k:=by unfold valD;rw[jn]
theorem KJ(a:Nat)(c:UInt8):valD a [c]=10*a+(c.toNat-48):=rfl
def ZC:∀(l:List UInt8) (a:Nat),a<=valD a l
 |[],a=>bS _
 |c::r,a=>by have:=ZC r (10*a+(c.toNat-48));show a<=valD (10*a+(c.toNat-48)) r;omega
def xb2:∀(l:List UInt8) (a:Nat),l.all isDig=true->valD a l<(a+1)*10 ^ l.length
 |[],a,_=>by simp[valD]
 |c::r,a,h=>by rw[dY,cR]at h;have d:=GP h.1;have e:=xb2 r (10*a+(c.toNat-48)) h.2;show valD (10*a+(c.toNat-48)) r<_;rw[dW,Nat.pow_succ];have b:(10*a+(c.toNat-48)+1)*10 ^ r.length<=(a+1)*10*10 ^ r.length:=oO _ (by omega);rw[Nat.mul_assoc,Nat.mul_comm 10 (10 ^ r.length)]at b;omega
structure Digs (l:List UInt8) (u:Nat):Prop where
 all:l.all isDig=true
 val:valD 0 l=u
 ne:l≠[]
 hd:l.head?=some 48->l=[48]
def W7:∀(k u:Nat),1<=k->u<10 ^ k->Digs (gC k u) u
 |0,u,h,_=>absurd h (by decide)
 |k+1,u,_,h=>by
  unfold gC;by_cases c:u<10
  .rw[aF c];refine⟨by rw[dY,xhe c];rfl,?_,by simp,?_⟩
   .rw[KJ,CA c];omega
   .intro e;simp only[List.head?_cons,bY]at e;rw[e]
  .rw[aB c];have f:1<=k:=by
    rcases k with _|k
    .simp at h;omega
    .omega
   have a:=W7 k (u / 10) f (by rw[Nat.pow_succ]at h;omega);have b:u % 10<10:=xK _ (by omega);refine⟨by rw[OE,a.all,dY,xhe b];rfl,?_,by simp,?_⟩
   .rw[xb3,a.val,KJ,CA b];omega
   .intro e;rw[List.head?_append]at e;obtain⟨x,r,d⟩:∃x r,gC k (u / 10)=x::r:=by
     cases l:gC k (u / 10)with
     |nil=>exact absurd l a.ne
     |cons x r=>exact⟨x,r,rfl⟩
    rw[d]at e;have g:x=48:=(by simpa using e);have i:=a.hd (by rw[d,g];rfl);have j:=a.val;rw[i]at j;have:valD 0 [48]=0:=rfl;omega
def x7i:∀(l:List UInt8) (k:Nat),Digs l (valD 0 l)->l.length<=k->gC k (valD 0 l)=l:=by
 intro l;induction hn:l.length generalizing l with
 |zero=>intro k h _;exact absurd (rV.1 hn) h.ne
 |succ n u=>
  intro k h w;obtain⟨k,rfl⟩:∃j,k=j+1:=⟨k-1,by omega⟩;obtain⟨r,c,rfl⟩:∃r c,l=r++[c]:=⟨l.dropLast,l.getLast h.ne,(jo h.ne).symm⟩;have d:=h.all;rw[OE,cR]at d;have y:=GP (by simpa using d.2);have f:r.length=n:=(by simpa using hn);by_cases i:r=[]
  .subst i;rw[iX,KJ];unfold gC;rw[aF (by omega)];congr 1;exact ZI (by rw[CA (by omega)];omega)
  .obtain⟨x,a,rfl⟩:∃x a,r=x::a:=by
    cases r with
    |nil=>exact absurd rfl i
    |cons x a=>exact⟨x,a,rfl⟩
   have b:x≠48:=λe=>by have:=h.hd (by rw[e];rfl);simp at this
   have m:=GP (c:=x) (by
    have:=d.1
    rw[dY,cR]at this
    exact this.1)
   have o:49<=x.toNat:=by
    rcases kS x.toNat 49 with h1|h1
    .exact absurd (ZI (by show x.toNat=48;omega)) b
    .exact h1
   have p:1<=valD 0 (x::a):=by have:=ZC a (10*0+(x.toNat-48));show 1<=valD (10*0+(x.toNat-48)) a;omega
   have t:Digs (x::a) (valD 0 (x::a)):=⟨d.1,rfl,by simp,λe=>by
    simp only[List.head?_cons,bY]at e
    exact absurd e b⟩
   have g:=u (x::a) f k t (by omega);rw[xb3,KJ];generalize valD 0 (x::a)=v at p g;unfold gC;rw[aB (by omega),show(10*v+(c.toNat-48)) / 10=v from by omega,show(10*v+(c.toNat-48)) % 10=c.toNat-48 from by omega,g];congr 2;exact ZI (by rw[CA (by omega)];omega)
def x05{l:List UInt8}{d:Nat}{n:Int}(A:d<=18)(h:nC l d=some n):jC n=l/\-1000000000000000000<n/\n<1000000000000000000:=by
 unfold nC at h;dsimp only at h;generalize a:(if l.head?=some 45 then l.tail else l)=r at h;by_cases f:r=[]\/d<r.length\/(r.head?=some 48/\1<l.length)\/r.all isDig=false
 .rw[aF f]at h;cases h
 .rw[aB f]at h;simp only[not_or,Bool.not_eq_false]at f;obtain⟨g,D,y,o⟩:=f;have u:=xb2 r 0 o;have C:10 ^ r.length<=10 ^ 18:=Nat.pow_le_pow_right (by omega) (by omega);have i:∀b:r.head?=some 48,r=[48]/\l.head?≠some 45:=by
   intro b;have j:¬1<l.length:=λp=>y ⟨b,p⟩
   by_cases c:l.head?=some 45
   .rw[aF c]at a;cases l with
    |nil=>cases c
    |cons x t=>simp only[List.tail_cons]at a;simp only[dW]at j;have:t=[]:=rV.1 (by omega);rw[<-a,this]at g;exact absurd rfl g
   .rw[aB c]at a;subst a;refine⟨?_,c⟩;cases l with
    |nil=>cases b
    |cons x t=>simp only[dW]at j;have:t=[]:=rV.1 (by omega);subst this;simp only[List.head?_cons,bY]at b;rw[b]
  have w:Digs r (valD 0 r):=⟨o,rfl,g,λb=>(i b).1⟩;have e:=x7i r 20 w (by omega);by_cases c:l.head?=some 45
  .rw[aF c]at h a;cases h;have m:0<valD 0 r:=by
    rcases Nat.eq_zero_or_pos (valD 0 r)with h0|h0
    .exfalso;rw[h0]at e;have:r=[48]:=(by rw[<-e];rfl);exact(i (by rw[this];rfl)).2 c
    .exact h0
   refine⟨?_,by omega,by omega⟩;unfold jC;rw[aF (by omega),show(-(valD 0 r:Int)).natAbs=valD 0 r from by omega,e];cases l with
   |nil=>cases c
   |cons x t=>simp only[List.head?_cons,bY]at c;rw[c,<-a];rfl
  .rw[aB c]at h a;cases h;refine⟨?_,by omega,by omega⟩;unfold jC;rw[aB (by omega),show((valD 0 r:Int)).toNat=valD 0 r from by omega,e,a]
def x0o{c:UInt8}(h:isDig c=true):c≠45:=by rintro rfl;exact absurd h (by decide)
def oU(l:List UInt8):List UInt8:=if l.head?=some 45 then l.tail else l
def xfm{n:Int}(l:-9223372036854775808<=n)(m:n<=9223372036854775807)(d:Nat):nC (jC n) d=if(oU (jC n)).length<=d then some n else none:=by
 unfold jC;by_cases c:n<0
 .rw[aF c];have a:=W7 20 n.natAbs (by omega) (by omega);have g:oU (45::gC 20 n.natAbs)=gC 20 n.natAbs:=(by unfold oU;rw[aF (show(45::gC 20 n.natAbs).head?=some 45 from rfl)];rfl);rw[g];unfold nC;dsimp only
  rw[aF (show(45::gC 20 n.natAbs).head?=some 45 from rfl),List.tail_cons];have i:¬((gC 20 n.natAbs).head?=some 48/\1<(45::gC 20 n.natAbs).length):=(by rintro⟨e,-⟩;have b:=a.val;rw[a.hd e]at b;have:valD 0 [48]=0:=rfl;omega);by_cases f:(gC 20 n.natAbs).length<=d
  .rw[aF f,aB (by
    rintro(h|h|h|h)
    .exact a.ne h
    .omega
    .exact i h
    .rw[a.all]at h;cases h),aF (show(45::gC 20 n.natAbs).head?=some 45 from rfl),a.val]
   congr 1;omega
  .rw[aB f,aF (.inr (.inl (by omega)))]
 .rw[aB c];have a:=W7 20 n.toNat (by omega) (by omega);have j:¬(gC 20 n.toNat).head?=some 45:=by
   cases e:gC 20 n.toNat with
   |nil=>simp
   |cons x r=>have b:=a.all;rw[e,dY,cR]at b;simp only[List.head?_cons,bY];exact x0o b.1
  have g:oU (gC 20 n.toNat)=gC 20 n.toNat:=(by unfold oU;rw[aB j]);rw[g];unfold nC;dsimp only
  rw[aB j];have i:¬((gC 20 n.toNat).head?=some 48/\1<(gC 20 n.toNat).length):=(by rintro⟨e,b⟩;rw[a.hd e]at b;simp at b);by_cases f:(gC 20 n.toNat).length<=d
  .rw[aF f,aB (by
    rintro(h|h|h|h)
    .exact a.ne h
    .omega
    .exact i h
    .rw[a.all]at h;cases h),aB j,a.val]
   congr 1;omega
  .rw[aB f,aF (.inr (.inl (by omega)))]
def bm:∀(l:List UInt8) (a:Nat),l.all isDig=true->valD a l<18446744073709551616->Lib.parseUint10 a l=.ok (valD a l)
 |[],a,_,_=>rfl
 |c::r,a,h,d=>by rw[dY,cR]at h;have b:=GP h.1;have hv':valD (10*a+(c.toNat-48)) r<18446744073709551616:=d;have f:=ZC r (10*a+(c.toNat-48));have e:=bm r (a*10+(c.toNat-48)) h.2 (by rw[Nat.mul_comm a 10];exact hv');unfold Lib.parseUint10;rw[aF b,aB (by omega),aB (by omega),e,Nat.mul_comm a 10];rfl
def yd4{n:Int}(g:-9223372036854775808<=n)(h:n<=9223372036854775807):Lib.atoiAll (jC n)=.ok n:=by
 unfold jC;by_cases c:n<0
 .rw[aF c];have a:=W7 20 n.natAbs (by omega) (by omega);have d:Lib.parseMag (gC 20 n.natAbs)=.ok n.natAbs:=(by unfold Lib.parseMag;rw[aB a.ne,bm _ 0 a.all (by rw[a.val];omega),a.val]);unfold Lib.atoiAll;dsimp only
  rw[aF (Or.inr (show(45:UInt8).toNat=45 from rfl)),d];dsimp only
  rw[aB (by
   rintro⟨b,-⟩
   exact b rfl),aB (by
   rintro⟨-,b⟩
   omega),aF (show(45:UInt8).toNat=45 from rfl)]
  congr 1;omega
 .rw[aB c];have a:=W7 20 n.toNat (by omega) (by omega);have d:Lib.parseMag (gC 20 n.toNat)=.ok n.toNat:=(by unfold Lib.parseMag;rw[aB a.ne,bm _ 0 a.all (by rw[a.val];omega),a.val]);cases b:gC 20 n.toNat with
  |nil=>exact absurd b a.ne
  |cons x r=>
   have e:=a.all;rw[b,dY,cR]at e;have i:=GP e.1;rw[b]at d;unfold Lib.atoiAll;dsimp only
   rw[aB (by omega),d];dsimp only
   rw[aB (by
    rintro⟨-,f⟩
    omega),aB (by
    rintro⟨f,-⟩
    omega),aB (by omega)]
   congr 1;omega
def L9(w:List UInt8)(d:Nat):Option Int:=
 match Lib.atoiAll w with
 | .ok n=>if jC n=w/\(oU w).length<=d then some n else none
 |_=>none
def xkh{w:List UInt8}{n:Int}(h:Lib.atoiAll w=.ok n):-9223372036854775808<=n/\n<=9223372036854775807:=by
 unfold Lib.atoiAll at h;split at h
 .cases h
 .dsimp only at h;split at h
  .cases h
  .cases h
  .rename_i u _;split at h
   .cases h
   .split at h
    .cases h
    .injection h with h;rename_i a b;split at h<;>omega
def xqi(w:List UInt8){d:Nat}(j:d<=18):L9 w d=nC w d:=by
 unfold L9;cases h:nC w d with
 |some n=>
  obtain⟨e,f,i⟩:=x05 j h;have b:=yd4 (n:=n) (by omega) (by omega);rw[e]at b;rw[b];have a:=xfm (n:=n) (by omega) (by omega) d;rw[e,h]at a;dsimp only
  by_cases c:(oU w).length<=d
  .rw[aF ⟨e,c⟩]
  .rw[aB c]at a;cases a
 |none=>
  split
  .rename_i n f;obtain⟨i,b⟩:=xkh f;rw[aB];rintro⟨a,m⟩;have g:=xfm i b d;rw[a,h,aF m]at g;cases g
  .rfl
def cL(c:UInt8):List UInt8->List (List UInt8)
 |[]=>[[]]
 |x::r=>if x=c then[]::cL c r else match cL c r with
  |[]=>[[x]]
  |h::t=>(x::h)::t
def GY(c:UInt8):∀l,cL c l≠[]
 |[]=>by simp[cL]
 |x::r=>by
  unfold cL;split
  .simp
  .split<;>simp
def GX{c:UInt8}:∀{l:List UInt8},c∉l->cL c l=[l]
 |[],_=>rfl
 |x::r,h=>by unfold cL;rw[aB (λe=>h (by rw[e];exact eS)),GX λe=>h (dU _ e)]
def HA{c:UInt8}:∀{l:List UInt8} (k:List UInt8),c∉l->cL c (l++c::k)=l::cL c k
 |[],k,_=>by show cL c (c::k)=_;rw[cL,aF rfl]
 |x::r,k,h=>by rw[iO];rw[cL];rw[aB (λe=>h (by rw[e];exact eS)),HA k λe=>h (dU _ e)]
open Go.Proofs
def nZ{σ R:Type}{N:Nat}(X:Nat->Nat->σ->Mem->Nat->R)(a:Nat->σ->Mem->Prop)(Q:R->Prop)(b:∀n k s m Y,k<N->a k s m->(∀f g d,a (k+1) f g->Q (X n (k+1) f g d))->Q (X (n+1) k s m Y))(e:∀n s m Y,a N s m->Q (X (n+1) N s m Y)):∀n k s m Y,k<=N->N<n+k->a k s m->Q (X n k s m Y):=by
 intro n;induction n with
 |zero=>intro k s m Y l o;omega
 |succ n p=>
  intro k s m Y l o j;rcases kS k N with h|h
  .exact b n k s m Y h j λf g d i=>p (k+1) f g d h (by omega) i
  .have:k=N:=(by omega);subst this;exact e n s m Y j
def RetF(T:AV->Prop)(r:O2):Prop:=∃a b d,r=some (a,b)/\frz b.get bR a=some d/\T d
def RetF.st{T:AV->Prop}{a:AV}{m:Mem}(h:bD a=true)(b:T a):RetF T (some (a,m)):=⟨a,m,a,rfl,kA _ 4 h,b⟩
def RetF.tup{T:AV->Prop}{l:List AV}{m:Mem}(h:l.all bD=true)(a:T (.tup l)):RetF T (some (.tup l,m)):=⟨_,m,_,rfl,x5k h,a⟩
def RetF.mk{T:AV->Prop}{a a':AV}{m:Mem}(h:frz m.get bR a=some a')(b:T a'):RetF T (some (a,m)):=⟨a,m,a',rfl,h,b⟩
def rS{T:AV->Prop}{b:aJ}{f:FuncId}{l:List AV}(d:l.all bD=true)(h:RetF T (b [] f l mem0))(m:Mem):∃a,T a/\aI b f l m=some (a,m):=by obtain⟨a,n,e,g,i,j⟩:=h;exact⟨e,j,H7 d g i⟩
def eY{v:AV}{b:aJ}{f:FuncId}{l:List AV}(d:l.all bD=true)(h:RetF (λa=>a=v) (b [] f l mem0))(m:Mem):aI b f l m=some (v,m):=by obtain⟨a,e,g⟩:=rS d h m;rw[g,e]
def x5j{d:Id->Option Ob}{a b e f:AV}(g:frz d 5 a=some e)(h:frz d 5 b=some f):frz d bR (.tup [a,b])=some (.tup [e,f]):=by show([a,b].mapM (frz d 5)).map AV.tup=_;simp only[eO,gS,g,h];rfl
def xh6{d:Id->Option Ob}{a b c e f g:AV}(h:frz d 5 a=some e)(i:frz d 5 b=some f)(j:frz d 5 c=some g):frz d bR (.tup [a,b,c])=some (.tup [e,f,g]):=by show([a,b,c].mapM (frz d 5)).map AV.tup=_;simp only[eO,gS,h,i,j];rfl
theorem xib{a:Id->Option Ob}{k:Nat}{x:Int}:frz a (k+1) (I x)=some (I x):=rfl
def Gr.frzk{α:Type}{z:Nat}{b:α->List AV}{l:List α}{a:AV}(g:∀x,(b x).length=z)(Z:∀x,(b x).all aP=true){u t k:Nat}{m:Mem}(h:Gr z b u t m a l):∃e,Sl b e l/\Go.Ix.frz m.get (k+2) a=some e:=by
 rcases h with ⟨rfl,rfl⟩|⟨s,d,rfl,i⟩
 .exact⟨nilS,Or.inl ⟨rfl,rfl⟩,rfl⟩
 .have j:=fN g l;refine⟨.aN (l.flatMap b) l.length false,Sl.lit l false,?_⟩
  have:=rP (aD:=m.get) (id:=(u,s,t)) (cs:=l.flatMap b) (ver:=d) (off:=0) (n:=l.length) (z:=z) (k:=k) (f:=false) (x:=true) i (by omega) (by
   rw[bF,dT (by omega)];exact pC Z l)
  rw[bF,dT (by omega)]at this;exact this
def Gr.len{α:Type}{z:Nat}{enc:α->List AV}{l:List α}{a:AV}{u t:Nat}{m:Mem}{y e:TypeId}(b:prog.underlying y=some (.slice e))(h:Gr z enc u t m a l):aM prog y a=some (I l.length):=by
 rcases h with ⟨rfl,rfl⟩|⟨s,d,rfl,f⟩
 .exact U7 b
 .rfl
def xgp{α:Type}{enc:α->List AV}{m:Mem}{l:List α}{k:Nat}(d:k<l.length)(j:Nat){v:AV}(a:((enc l[k]).drop j).head?=some v):aA false 1 (.aH (((l.drop k).flatMap enc).drop j)) m=some v:=by
 rw[gV d,dK];have e:j<(enc l[k]).length:=by
  rcases kS j (enc l[k]).length with h|h
  .exact h
  .rw[mE h]at a;cases a
 rw[ye7 (by omega)];cases b:(enc l[k]).drop j with
 |nil=>rw[b]at a;cases a
 |cons x r=>rw[b]at a;simp at a;subst a;rfl
abbrev Tx(l:List UInt8):AV:=T ⟨l.toArray⟩
def xqx(x y:Operand){a b:ByteArray}(h:a.size+b.size<=9223372036854775807):bP prog .add bN x y (T a) (T b)=some (T (a++b)):=by have e:bJ prog (do eqGuard .add bN x y (.string a) (.string b);binOp .add bN (.string a) (.string b))=some (.string (a++b)):=(by show bJ prog (Op.stringOp .add a b)=_;unfold Op.stringOp;have d:IntKind.i64.max=9223372036854775807:=(by kernel_rfl);simp only[];rw[aB (by rw[d];omega)];rfl);refine xdr ?_;unfold xE;simp only[dL];rw[e];rfl
def xqw(x y:Operand)(a b:ByteArray):bP prog .neq bN x y (T a) (T b)=some (B (!(gY a b))):=by kernel_rfl
def xc8{x:Int}{n:Nat}{a:BoundsCode}(b:0<=x)(d:x<=n):Instr.sliceBound (.int .i64 x) n a=Pure.pure x.toNat:=by show(if 0<=x/\x<=n then _ else _)=_;rw[aF ⟨b,d⟩]
def xc7{s:ByteArray}{lo hi:Option Value}{l h:Nat}(b:(match hi with|some v=>Instr.sliceBound v s.size .sliceAlen|none=>Pure.pure s.size)=(Pure.pure h:Sem Nat))(a:(match lo with|some v=>Instr.sliceBound v h .sliceB|none=>Pure.pure 0)=(Pure.pure l:Sem Nat)) :
    bJ prog (Instr.sliceAt bN (.string s) lo hi none)=some (.string (s.extract l h)):=by
 have e:Instr.sliceBounds false s.size s.size lo hi none=(Pure.pure (l,h,s.size):Sem (Nat×Nat×Nat)):=by
  unfold Instr.sliceBounds;cases hi with
  |none=>
   cases lo with
   |none=>simp only[Bind.bind,Sem.bind,Pure.pure,Sem.pure.injEq]at b a ⊢;subst b a;rfl
   |some v=>simp only[Bind.bind,Sem.bind,Pure.pure,Sem.pure.injEq]at b a ⊢;subst b;simp only[xH,fQ,cU,a];rfl
  |some u=>
   cases lo with
   |none=>simp only[Bind.bind,Sem.bind,Pure.pure]at b a ⊢;simp only[fQ,cU,b];injection a with a;subst a;rfl
   |some v=>simp only[Bind.bind,Sem.bind,Pure.pure]at b a ⊢;simp only[fQ,cU,b,xH];show(Instr.sliceBound v h BoundsCode.sliceB).bind (λl=>Sem.pure (l,h,s.size))=_;rw[a];rfl
 simp only[Instr.sliceAt,Instr.slice,underlying,program,Bind.bind,Sem.bind,bJ,Pure.pure,ZF,e,xH,fQ,cU]
def xro{s:ByteArray}{a:Nat}(b:a<=s.size):dZ prog bN (T s) (some (I a)) none=some (T (s.extract a s.size)):=by have e:=xc7 (s:=s) (lo:=some (.int .i64 a)) (hi:=none) (l:=a) (h:=s.size) rfl (xc8 (by omega) (by omega));show(bJ prog (Instr.sliceAt bN (.string s) (some (.int .i64 a)) none none)).map fJ=_;rw[e];rfl
def xrn{s:ByteArray}{a:Nat}(b:a<=s.size):dZ prog bN (T s) none (some (I a))=some (T (s.extract 0 a)):=by have e:=xc7 (s:=s) (lo:=none) (hi:=some (.int .i64 a)) (l:=0) (h:=a) (xc8 (by omega) (by omega)) rfl;show(bJ prog (Instr.sliceAt bN (.string s) none (some (.int .i64 a)) none)).map fJ=_;rw[e];rfl
def ycx(n:Int):lO prog eI dP (U8 n)=some (I (IntKind.i64.wrap n)):=by kernel_rfl
theorem x2u(s:ByteArray):eD (T s)=some (I s.size):=rfl
def tZ(l:List UInt8):(⟨l.toArray⟩:ByteArray).size=l.length:=by show l.toArray.size=_;simp
def xku(s:ByteArray):T s=Tx s.data.toList:=by cases s;rfl
def xkv(l:List UInt8)(a b:Nat):(⟨l.toArray⟩:ByteArray).extract a b=⟨((l.drop a).take (b-a)).toArray⟩:=by apply ByteArray.ext;rw[ByteArray.data_extract];apply xal.1;simp[List.take_drop]
def yey(l k:List UInt8):(⟨l.toArray⟩:ByteArray)++⟨k.toArray⟩=⟨(l++k).toArray⟩:=by apply ByteArray.ext;rw[ByteArray.data_append];simp
def yB(x y:Operand){l k:List UInt8}(h:l.length+k.length<=9223372036854775807):bP prog .add bN x y (Tx l) (Tx k)=some (Tx (l++k)):=by rw[xqx x y (by rw[tZ,tZ];exact h),yey]
def hZ(l:List UInt8):eD (Tx l)=some (I l.length):=by rw[x2u,tZ]
def BT{l:List UInt8}{lo:Nat}(a:lo<=l.length):dZ prog bN (Tx l) (some (I lo)) none=some (Tx (l.drop lo)):=by rw[xro (by rw[tZ];exact a),xkv,tZ,dT (by simp)]
def y5{l:List UInt8}{hi:Nat}(a:hi<=l.length):dZ prog bN (Tx l) none (some (I hi))=some (Tx (l.take hi)):=by rw[xrn (by rw[tZ];exact a),xkv,bF,Nat.sub_zero]
def YV{l:List UInt8}{k:Nat}(h:k<l.length):kZ prog bN (Tx l) (I k)=some (U8 (l[k]).toNat):=by rw[x43 (s:=⟨l.toArray⟩) (by simpa using h)]
def xcq(l k:List UInt8):gY ⟨l.toArray⟩ ⟨k.toArray⟩=decide (l=k):=by unfold gY;rw[ByteArray.toList_eq,ByteArray.toList_eq,PE];simp
def oT(x y:Operand)(l k:List UInt8):bP prog .eql bN x y (Tx l) (Tx k)=some (B (decide (l=k))):=by rw[yE,xcq]
def BU(x y:Operand)(l k:List UInt8):bP prog .neq bN x y (Tx l) (Tx k)=some (B (!(decide (l=k)))):=by rw[xqw,xcq]
end Go.Ix
namespace Go.Ix
variable{R:Type}{m:Mem}
def V4:∀l:List Int,l.flatMap intE=l.map I
 |[]=>rfl
 |x::l=>by rw[dK,V4 l];rfl
def F5(l:List Int):(l.flatMap intE).length=l.length:=by rw[V4];simp
abbrev srI(id:Id)(n:Nat):AV:=.sref id 0 0 n 1 true
@[simp high] theorem yf0{l:List Int}{k:Nat}{b:Bool}(a:k<l.length):sR false 1 0 k (some (.row (l.flatMap intE) 0 b))=some (I (at0 l k)):=by simp only[sR,I0,cond_true,rd,fQ,cU];rw[V4,<-List.map_drop,gV a,fH a];rfl
@[simp high] theorem yfo{l:List Int}{k:Nat}{v:Int}(a:k<l.length):pL 1 0 k (I v) (some (.row (l.flatMap intE) 0 false))=some (.row ((l.set k v).flatMap intE) 0 false):=by have h:(0:Nat)=0/\(I v).cells.length=1/\k+1<=(l.flatMap intE).length/\((I v).cells.all AV.one)=true:=⟨rfl,rfl,by rw[F5];omega,rfl⟩;rw[CD,eX h,cond_true];simp only[V4,cH,ge];congr 2;rw[List.map_set,jf,aF (by simpa using a)];simp
def xkj{l:List Int}{k j:Nat}{v:Int}(a:k<l.length):at0 (l.set k v) j=if j=k then v else at0 l j:=by
 unfold at0;rw[fP,fP,HT];by_cases h:k=j
 .subst h;simp[a]
 .rw[aB h,aB (λe=>h e.symm)]
end Go.Ix
namespace Go.Ix
open Go.Proofs
variable{α:Type}{z:Nat}{enc:α->List AV}{l:List α}{a:AV}
def Gq{α:Type}(z:Nat)(d:α->List AV)(u:Nat)(T:List Nat)(m:Mem)(a:AV)(l:List α):Prop:=
 (a=nilS/\l=[])\/∃s t b,t∈T/\a=.sref (u,s,t) b 0 l.length z true/\m.get (u,s,t)=some (.row (l.flatMap d) b false)
def Gq.nil{u:Nat}{T:List Nat}{m:Mem}:Gq z enc u T m nilS []:=Or.inl ⟨rfl,rfl⟩
def Gq.frame{u:Nat}{T:List Nat}{m m':Mem}(h:Gq z enc u T m a l)(b:∀s t,t∈T->m'.get (u,s,t)=m.get (u,s,t)):Gq z enc u T m' a l:=by
 rcases h with h|⟨s,t,ver,h0,h1,h2⟩
 .exact Or.inl h
 .exact Or.inr ⟨s,t,ver,h0,h1,by rw[b _ _ h0];exact h2⟩
def Gq.app(p:∀x,(enc x).length=z)(y:0<z){u d s0 bytes:Nat}{T:List Nat}{m:Mem}(g:d∈T)(i:cF (l.length+1) bytes)(h:Gq z enc u T m a l)(x:α) :
    ∃n e,(∀{R:Type} (k:AV->Mem->Option R),cK z bytes (u,s0,d) (some (enc x,1)) a m k=k n e)/\Gq z enc u T e n (l++[x])/\e.next=m.next/\∀j:Id,j.2.2∉T->e.get j=m.get j:=by
 rcases h with ⟨rfl,rfl⟩|⟨s,t,b,o,rfl,w⟩
 .refine⟨.sref (u,s0,d) 0 0 1 z true,m.new (u,s0,d) (.row (enc x) 0 false),λk=>?_,Or.inr ⟨s0,d,0,g,rfl,by simp⟩,rfl,λj f=>?_⟩
  .simp only[cK];rw[aB (by omega),aF (by simpa using i)]
  .rw[Mem.dI,aB (by rintro rfl;exact f g)]
 .have r:=fN p l;refine⟨.sref (u,s,t) (b+1) 0 (l.length+1) z true,m.set (u,s,t) (.row (l.flatMap enc++enc x) (b+1) false),λk=>?_,Or.inr ⟨s,t,b+1,o,by simp,by simp⟩,rfl,λj f=>?_⟩
  .simp only[cK,w];rw[aF ⟨trivial,trivial,by omega,i⟩,aB (by omega),aB (by rw[r,lU];omega),bF,dT (by omega)]
  .rw[Mem.bG,aB (by rintro rfl;exact f o)]
def Gq.frz(e:∀x,(enc x).length=z)(Z:∀x,(enc x).all aP=true){u:Nat}{T:List Nat}{m:Mem}(h:Gq z enc u T m a l):∃d,Sl enc d l/\Go.Ix.frz m.get bR a=some d:=by
 rcases h with ⟨rfl,rfl⟩|⟨s,t,b,_,rfl,g⟩
 .exact⟨nilS,Or.inl ⟨rfl,rfl⟩,rfl⟩
 .have i:=fN e l;refine⟨.aN (l.flatMap enc) l.length false,Sl.lit l false,?_⟩
  have:=rP (aD:=m.get) (id:=(u,s,t)) (cs:=l.flatMap enc) (ver:=b) (off:=0) (n:=l.length) (z:=z) (k:=4) (f:=false) (x:=true) g (by omega) (by
   rw[bF,dT (by omega)];exact pC Z l)
  rw[bF,dT (by omega)]at this;exact this
def Gq.len{u:Nat}{T:List Nat}{m:Mem}{t e:TypeId}(b:prog.underlying t=some (.slice e))(h:Gq z enc u T m a l):aM prog t a=some (I l.length):=by
 rcases h with ⟨rfl,rfl⟩|⟨s,t,d,_,rfl,f⟩
 .exact U7 b
 .rfl
end Go.Ix
namespace Go.Ix
open Go.Proofs
def dC(l:List UInt8):List AV:=[Tx l]
theorem nT(l:List UInt8):(dC l).length=1:=rfl
theorem xq7(l:List UInt8):(dC l).all aP=true:=rfl
def xca:prog.underlying iQ=some (.slice bN):=by kernel_rfl
def xny{n:Int}(e:-9223372036854775808<=n)(f:n<=9223372036854775807):IntKind.i64.wrap n=n:=by unfold IntKind.wrap;have a:((2:Int) ^ IntKind.i64.bits)=18446744073709551616:=(by kernel_rfl);have b:((2:Int) ^ (IntKind.i64.bits-1))=9223372036854775808:=(by kernel_rfl);have d:IntKind.i64.signed=true:=(by kernel_rfl);simp only[a,b,d,gW,mP];split<;>omega
def xyy(s:ByteArray)(c:Int):bJ prog (callFunc zC #[.string s,.int .u8 c])=some (.value (.int .i64 (firstIdx s c.toNat.toUInt8))):=by
 have a:bJ prog (callFunc zC #[.string s,.int .u8 c])=bJ prog (do let v <-Extern.BytealgIndexByte.indexByte #[.string s,.int .u8 c];pure (Next.value v)):=(by kernel_rfl);rw[a]
 show bJ prog (((match (List.range s.size).find? λi=>s[i]! == c.toNat.toUInt8 with
  |some i=>(pure (goInt i):Sem Value)
  |none=>pure (goInt (-1)))) >>= λv=>(pure (Next.value v):Sem Next))=_
 unfold firstIdx;cases(List.range s.size).find? λi=>s[i]! == c.toNat.toUInt8<;>rfl
def xph(d:Nat)(l:List UInt8)(c:UInt8)(m:Mem):aI (aG (d+1)) zC [Tx l,U8 c.toNat] m=some (I (Lib.indexByte l c),m):=by
 refine Ans.eR (m:=m) ?_ rfl rfl;unfold Ans;have a:aG (d+1) [] zC [Tx l,U8 c.toNat] mem0=(B4 prog zC [Tx l,U8 c.toNat]).map λv=>(v,mem0):=by kernel_rfl
 have b:V9 prog zC [Tx l,U8 c.toNat]=some (I (firstIdx ⟨l.toArray⟩ c)):=by
  unfold V9
  show(match bJ prog (callFunc zC #[.string ⟨l.toArray⟩,.int .u8 c.toNat])with
   |some (.value u)=>some (fJ u)
   |_=>none)=_
  rw[xyy];have:((c.toNat:Int)).toNat.toUInt8=c:=(by rw[jF];exact UInt8.ofNat_toNat);rw[this];rfl
 rw[a];unfold B4;rw[b,Lib.firstIdx_eq];exact⟨mem0,rfl⟩
def ZA(d:Nat)(l:List UInt8)(c:UInt8)(m:Mem):aI (aG (d+2)) E7 [Tx l,U8 c.toNat] m=some (I (Lib.indexByte l c),m):=by refine Ans.eR (m:=m) ?_ rfl rfl;unfold Ans;rw[yb9];unfold se aU XC;simp only[xph,aC];exact⟨_,rfl⟩
def V5(c:UInt8):∀l:List UInt8,(Lib.indexByte l c=-1/\c∉l)\/∃i:Nat,Lib.indexByte l c=i/\i<l.length/\c∉l.take i/\l.drop i=c::l.drop (i+1)
 |[]=>.inl ⟨rfl,by simp⟩
 |b::l=>by
  unfold Lib.indexByte;by_cases h:b=c
  .subst h;exact .inr ⟨0,by simp,by simp,by simp,rfl⟩
  .have f:(b == c)=false:=(by simpa using h);rw[f];rcases V5 c l with ⟨d,e⟩|⟨i,d,e,g,j⟩
   .refine .inl ⟨by rw[d];simp,?_⟩;rw[dV];rintro(a|a)
    .exact h a.symm
    .exact e a
   .refine .inr ⟨i+1,?_,by simp;omega,?_,by simpa using j⟩
    .rw[d];have:((i:Int) == -1)=false:=(by rw[beq_eq_false_iff_ne];omega);simp[this]
    .rw[jR,dV];rintro(a|a)
     .exact h a.symm
     .exact g a
def xbw(d:Nat)(l:List UInt8)(c:UInt8)(m:Mem):aI (aG (d+4)) C3 [Tx l,Tx [c]] m=some (I (Lib.indexByte l c),m):=by
 have f:∀m,aI (aG (d+3)) E8 [Tx l,Tx [c]] m=some (I (Lib.indexByte l c),m):=by
  intro m;refine Ans.eR (m:=m) ?_ rfl rfl;unfold Ans;rw[xjv];unfold OZ aU JE;have a:kZ prog bN (Tx [c]) (I 0)=some (U8 c.toNat):=YV (k:=0) (l:=[c]) (by simp);have b:eD (Tx [c])=some (I 1):=hZ [c];simp only[mem0,b,aC,iD,fA,dO,show decide ((1:Int)=0)=false from rfl,dQ,cC,bC,oT,cS,cT];by_cases e:[c]=l
  .subst e;have:Lib.indexByte [c] c=0:=(by simp[Lib.indexByte]);rw[this];simp only[bB,aS];exact⟨_,rfl⟩
  .simp only[e,bO,aT,a,aC,ZA];exact⟨_,rfl⟩
 refine Ans.eR (m:=m) ?_ rfl rfl;unfold Ans;rw[x8j];unfold ki aU PL;simp only[f,aC];exact⟨_,rfl⟩
def xqv(l:List UInt8):decide (l.take 1=[45])=decide (l.head?=some 45):=by
 cases l with
 |nil=>rfl
 |cons x t=>simp
def xpj(d:Nat)(l:List UInt8)(m:Mem):aI (aG (d+1)) E9 [Tx l,Tx [45]] m=some (B (decide (l.head?=some 45)),m):=by
 refine Ans.eR (m:=m) ?_ rfl rfl;unfold Ans;rw[xjw];unfold PA aU JF;have a:eD (Tx [45])=some (I 1):=hZ [45];simp only[mem0,a,hZ,aC,sG,fA,dO,iC];by_cases c:(1:Int)<=l.length
 .have Z:dZ prog bN (Tx l) none (some (I 1))=some (Tx (l.take 1)):=y5 (hi:=1) (by omega);simp only[c,bB,bC,aC,a,Z,oT,cS,xqv];exact⟨_,rfl⟩
 .have:l=[]:=rV.1 (by omega);subst this;simp only[c,bO,cT,aC,cS];exact⟨_,rfl⟩
def xoz(d:Nat)(l:List UInt8)(m:Mem):aI (aG (d+3)) DM [Tx l,Tx [45]] m=some (Tx (oU l),m):=by
 have e:∀m,aI (aG (d+2)) FR [Tx l,Tx [45]] m=some (Tx (oU l),m):=by
  intro m;refine Ans.eR (m:=m) ?_ rfl rfl;unfold Ans;rw[yb8];unfold sd aU XB;have a:eD (Tx [45])=some (I 1):=hZ [45];simp only[xpj,aC,a];unfold oU;by_cases c:l.head?=some 45
  .have b:1<=l.length:=by
    cases l with
    |nil=>simp at c
    |cons x t=>simp
   have Z:dZ prog bN (Tx l) (some (I 1)) none=some (Tx (l.drop 1)):=BT (lo:=1) b;rw[List.drop_one]at Z;simp only[c,bB,aS,Z,aC,cI];exact⟨_,rfl⟩
  .simp only[c,bO,aT,cU];exact⟨_,rfl⟩
 refine Ans.eR (m:=m) ?_ rfl rfl;unfold Ans;rw[x8e];unfold ke aU PJ;simp only[e,aC];exact⟨_,rfl⟩
def xhi{a:aJ}{id:Id}{h:List AV->Mem->Option Mem}{Z:FHs}{b:Nat}{l:List AV}{m d:Mem}(g:oF Z id=some h)(e:h l m=some d):fD a Z b (.yld id) l m=some (B (jW d.get id),d):=by
 show(match oF Z id with
  |some h=>(h l m).map λ(f:Mem)=>(B (jW f.get id),f)
  |none=>none)=_
 rw[g];simp only
 rw[e];rfl
end Go.Ix
set_option exponentiation.threshold 3000
namespace Go.Ix
open Ieee
def sv(m:Nat)(e:Int):Nat:=m*2 ^ (e+1074).toNat
def sg(s:Bool)(n:Nat):Int:=if s then -(n:Int)else(n:Int)
end Go.Ix
namespace Go.Ix
open Ieee
variable{P:Program}
def OkR(P:Program){α:Type}(s:Sem α)(R:α->Prop):Prop:=pM P s/\∀v,lS P s v->R v
def OkR.pure{α:Type}{a:α}{R:α->Prop}(h:R a):OkR P (.pure a) R:=⟨trivial,λ_ e=>e▸h⟩
def OkR.bind{α β:Type}{Q:α->Prop}{R:β->Prop}{f:α->Sem β}(b:∀v,Q v->OkR P (f v) R):∀{s:Sem α},OkR P s Q->OkR P (s.bind f) R
 | .pure a,h=>b a (h.2 a rfl)
 | .program k,h=>OkR.bind (s:=k P) b h
 | .mark _ k,h=>OkR.bind (s:=k) b h
 | .choose q k,h=>by
  unfold OkR at h;unfold Sem.bind OkR;simp only[pM,lS]at h ⊢;by_cases c:q.forced=true
  .simp only[aF c]at h ⊢;exact OkR.bind (s:=k 0) b h
  .simp only[aB c]at h ⊢;exact⟨λt=>(OkR.bind (s:=k (q.cut t)) b ⟨h.1 t,λv d=>h.2 v ⟨t,d⟩⟩).1,λv ⟨t,d⟩=>(OkR.bind (s:=k (q.cut t)) b ⟨h.1 t,λv d=>h.2 v ⟨t,d⟩⟩).2 v d⟩
 | .load ..,h=>h.1.elim
 | .store ..,h=>h.1.elim
 | .new ..,h=>h.1.elim
 | .shape ..,h=>h.1.elim
 | .freeze ..,h=>h.1.elim
 | .frozen ..,h=>h.1.elim
 | .getObj ..,h=>h.1.elim
 | .setObj ..,h=>h.1.elim
 | .sys ..,h=>h.1.elim
 | .halt ..,h=>h.1.elim
def OkR.choose{α:Type}{q:Question}{k:Nat->Sem α}{R:α->Prop}(a:q.forced=false)(h:∀t,OkR P (k (q.cut t)) R):OkR P (.choose q k) R:=by unfold OkR;simp only[pM,lS,a,fQ,cU];exact⟨λt=>(h t).1,λv ⟨t,b⟩=>(h t).2 v b⟩
def GH{α:Type}:∀{s:Sem α},pM P s->∃v,lS P s v
 | .pure a,_=>⟨a,rfl⟩
 | .program k,h=>GH (s:=k P) h
 | .mark _ k,h=>GH (s:=k) h
 | .choose q k,h=>by
  simp only[pM,lS]at h ⊢;by_cases c:q.forced=true
  .simp only[aF c]at h ⊢;exact GH h
  .simp only[aB c]at h ⊢;obtain⟨v,b⟩:=GH (h 0);exact⟨v,0,b⟩
 | .load ..,h=>h.elim
 | .store ..,h=>h.elim
 | .new ..,h=>h.elim
 | .shape ..,h=>h.elim
 | .freeze ..,h=>h.elim
 | .frozen ..,h=>h.elim
 | .getObj ..,h=>h.elim
 | .setObj ..,h=>h.elim
 | .sys ..,h=>h.elim
 | .halt ..,h=>h.elim
def bg{α:Type}:∀{s:Sem α} {v:α},bJ P s=some v->lS P s v
 | .pure a,v,h=>by cases h;rfl
 | .program k,v,h=>bg (s:=k P) h
 | .mark _ k,v,h=>bg (s:=k) h
 | .choose ..,v,h=>by cases h
 | .load ..,v,h=>by cases h
 | .store ..,v,h=>by cases h
 | .new ..,v,h=>by cases h
 | .shape ..,v,h=>by cases h
 | .freeze ..,v,h=>by cases h
 | .frozen ..,v,h=>by cases h
 | .getObj ..,v,h=>by cases h
 | .setObj ..,v,h=>by cases h
 | .sys ..,v,h=>by cases h
 | .halt ..,v,h=>by cases h
def NE(a:AV):Prop:=∃v,H4 a v
def Is(R:Value->Prop)(a:AV):Prop:=NE a/\∀v,H4 a v->R v
def xje{a:AV}{v:Value}(h:dL a=some v):H4 a v:=by cases a<;>first|exact h|cases h
def xqh{a:AV}(h:dL a=none)(b:NE a):∃p,a=.un p:=by obtain⟨u,d⟩:=b;cases a<;>first|exact⟨_,rfl⟩|exact nomatch h.symm.trans d
def conc_sc{v u:Value}:H4 (.sc v) u↔u=v:=by
 constructor
 .intro h;cases h;rfl
 .intro h;rw[h];rfl
def Is.sc{R:Value->Prop}{v:Value}(h:R v):Is R (.sc v):=⟨⟨v,rfl⟩,λu b=>by rw[conc_sc.mp b];exact h⟩
def Is.mono{R Q:Value->Prop}{a:AV}(h:Is R a)(b:∀v,R v->Q v):Is Q a:=⟨h.1,λv d=>b v (h.2 v d)⟩
def x79{q:Value->Prop}{a:Value}(d:∃v,q v)(h:∀v,q v->v=a):HD q=some (.sc a):=by unfold HD;have c:∃a,∀v,q v->v=a:=⟨a,h⟩;rw[dif_pos c];have e:=Classical.choose_spec c;obtain⟨v,b⟩:=d;have f:=e v b;have g:=h v b;rw[<-f,g]
section
variable{l:List AV}{s:List Value->Sem Value}{R:Value->Prop}
def yeh(d:∃a,lT l a)(h:∀a,lT l a->OkR P (s a) R):∃v a,lT l a/\lS P (s a) v:=by obtain⟨a,b⟩:=d;obtain⟨v,e⟩:=GH (h a b).1;exact⟨v,a,b,e⟩
def yei{d:Value}(e:∃a,lT l a)(h:∀a,lT l a->OkR P (s a) (·=d)):tH P l s=some (.sc d):=by unfold tH;rw[aF ⟨e,λa b=>(h a b).1⟩];exact x79 (yeh e h) (λv ⟨a,b,f⟩=>(h a b).2 v f)
def xzl{o:Option AV}{b:Value}(d:fJ b=.sc b)(e:∀r,o=some r->∃a z,lT l a/\lS P (s a) z/\r=fJ z)(f:∃a,lT l a)(h:∀a,lT l a->OkR P (s a) (·=b)):(match o with|some r=>some r|none=>tH P l s)=some (.sc b):=by
 cases o with
 |none=>exact yei f h
 |some r=>obtain⟨a,z,i,j,m⟩:=e r rfl;have g:=(h a i).2 z j;rw[m,g,d]
end
def ydv{g:BinOp}{t:TypeId}{x y:Operand}{a b:AV}(j:NE a)(m:NE b):∀r,xE P g t x y a b=some r->∃i z,lT [a,b] i/\lS P (NL g t x y i) z/\r=fJ z:=by
 intro r h;unfold xE at h;cases e:dL a with
 |none=>
  obtain⟨p,rfl⟩:=xqh e j;cases f:dL b with
  |none=>simp[e,f]at h
  |some v=>
   simp only[e,f]at h;split at h
   .rename_i d n;cases d
   .split at h
    .rename_i d;cases d
    .rename_i d;cases d
    .cases h
   .split at h
    .rename_i d;cases d
    .cases h
   .cases h
 |some u=>
  cases f:dL b with
  |none=>simp[e,f]at h
  |some v=>simp only[e,f,cM]at h;obtain⟨z,l,rfl⟩:=h;exact⟨[u,v],z,⟨xje e,xje f,trivial⟩,bg l,rfl⟩
def cs2{a b:AV}(d:NE a)(e:NE b):∃f,lT [a,b] f:=by obtain⟨u,g⟩:=d;obtain⟨v,h⟩:=e;exact⟨[u,v],g,h,trivial⟩
def x7m{a b:AV}{Q:List Value->Prop}(h:∀u v,H4 a u->H4 b v->Q [u,v]):∀e,lT [a,b] e->Q e
 |[],d=>d.elim
 |[_],d=>d.2.elim
 |[u,v],d=>h u v d.1 d.2.1
 |_::_::_::_,d=>d.2.2.elim
section
variable{op:BinOp}{t:TypeId}{x y:Operand}{a b:AV}{R A B:Value->Prop}{v0:Value}
def xsv(d:Is A a)(e:Is B b)(f:fJ v0=.sc v0)(h:∀u v,A u->B v->OkR P (NL op t x y [u,v]) (·=v0)):bP P op t x y a b=some (.sc v0):=
 xzl f (ydv d.1 e.1) (cs2 d.1 e.1) (x7m λu v g f=>h u v (d.2 u g) (e.2 v f))
end
section
variable{b:Builtin}{f:FuncId}{ts:Array TypeId}{t s d:TypeId}{a c:AV}{R A C:Value->Prop}{v0:Value}{uo:UnOp}
end
end Go.Ix
namespace Go.Ix
open Go.Proofs
variable{α:Type}{z:Nat}{enc:α->List AV}{l:List α}{a:AV}
def Gk{α:Type}(z:Nat)(d:α->List AV)(ok:Id->Prop)(m:Mem)(a:AV)(l:List α):Prop:=
 (a=nilS/\l=[])\/∃id b,ok id/\a=.sref id b 0 l.length z true/\m.get id=some (.row (l.flatMap d) b false)
def Gk.nil{ok:Id->Prop}{m:Mem}:Gk z enc ok m nilS []:=Or.inl ⟨rfl,rfl⟩
def Gk.frame{ok:Id->Prop}{m m':Mem}(h:Gk z enc ok m a l)(b:∀id,ok id->m'.get id=m.get id):Gk z enc ok m' a l:=by
 rcases h with h|⟨id,ver,h0,h1,h2⟩
 .exact Or.inl h
 .exact Or.inr ⟨id,ver,h0,h1,by rw[b _ h0];exact h2⟩
def Gk.app(o:∀x,(enc x).length=z)(t:0<z){bytes:Nat}{ok:Id->Prop}{id0:Id}{m:Mem}(g:ok id0)(i:cF (l.length+1) bytes)(h:Gk z enc ok m a l)(x:α) :
    ∃d e,(∀{R:Type} (k:AV->Mem->Option R),cK z bytes id0 (some (enc x,1)) a m k=k d e)/\Gk z enc ok e d (l++[x])/\d.cells=[d]/\d.one=true/\e.next=m.next/\∀j:Id,¬ok j->e.get j=m.get j:=by
 rcases h with ⟨rfl,rfl⟩|⟨id,b,n,rfl,r⟩
 .refine⟨.sref id0 0 0 1 z true,m.new id0 (.row (enc x) 0 false),λk=>?_,Or.inr ⟨id0,0,g,rfl,by simp⟩,rfl,rfl,rfl,λj f=>?_⟩
  .simp only[cK];rw[aB (by omega),aF (by simpa using i)]
  .rw[Mem.dI,aB (by rintro rfl;exact f g)]
 .have p:=fN o l;refine⟨.sref id (b+1) 0 (l.length+1) z true,m.set id (.row (l.flatMap enc++enc x) (b+1) false),λk=>?_,Or.inr ⟨id,b+1,n,by simp,by simp⟩,rfl,rfl,rfl,λj f=>?_⟩
  .simp only[cK,r];rw[aF ⟨trivial,trivial,by omega,i⟩,aB (by omega),aB (by rw[p,lU];omega),bF,dT (by omega)]
  .rw[Mem.bG,aB (by rintro rfl;exact f n)]
def Gk.one{ok:Id->Prop}{m:Mem}(h:Gk z enc ok m a l):a.cells=[a]/\a.one=true:=by rcases h with ⟨rfl,rfl⟩|⟨id,b,d,rfl,e⟩<;>exact⟨rfl,rfl⟩
def Gk.frz(e:∀x,(enc x).length=z)(Z:∀x,(enc x).all aP=true){ok:Id->Prop}{k:Nat}{m:Mem}(h:Gk z enc ok m a l):∃d,Sl enc d l/\Go.Ix.frz m.get (k+2) a=some d:=by
 rcases h with ⟨rfl,rfl⟩|⟨id,b,_,rfl,g⟩
 .exact⟨nilS,Or.inl ⟨rfl,rfl⟩,rfl⟩
 .have i:=fN e l;refine⟨.aN (l.flatMap enc) l.length false,Sl.lit l false,?_⟩
  have:=rP (aD:=m.get) (id:=id) (cs:=l.flatMap enc) (ver:=b) (off:=0) (n:=l.length) (z:=z) (k:=k) (f:=false) (x:=true) g (by omega) (by
   rw[bF,dT (by omega)];exact pC Z l)
  rw[bF,dT (by omega)]at this;exact this
def gm{a:aJ}{f:FuncId}{l:List AV}{m b:Mem}{r:AV}(d:l.all clean=true)(h:a [] f l ⟨[],m.next⟩=some (r,b)) :
    ∃M:Mem,sH a f l m=some (r,M)/\M.next=b.next/\∀i:Id,M.get i=if m.next<=i.1 then b.get i else m.get i:=by
 refine⟨⟨(b.hp.filter λe=>Nat.ble m.next e.1)++(m.hp.filter λe=>Nat.blt e.1 m.next),b.next⟩,?_,rfl,λi=>congrFun (xg6 b.hp m.hp m.next) i⟩;unfold sH;rw[aF d,h]
def dr:∃i,prog.info? dP=some i/\i.size=1:=by have h:(prog.info? dP).map (λi=>i.size)=some 1:=(by kernel_rfl);obtain⟨i,a,b⟩:=cM.mp h;exact⟨i,a,b⟩
def xrm{id:Id}{b d n:Nat}{a:Bool}{e:Int}(f:0<=e)(g:e<=n)(h:a=true:=by rfl):dZ prog fE (.sref id b d n 1 a) none (some (I e))=some (.sref id b d e.toNat 1 a):=by obtain⟨i,j,l⟩:=dr;simp only[dZ,dL,jH,j,dF,Option.getD_some,Option.getD_none];rw[aF ⟨by omega,f,g,l.symm,.inl h⟩];simp
def xc6{id:Id}{d e n:Nat}{a:Bool}{b:Int}(f:0<=b)(j:b<=n):dZ prog fE (.sref id d e n 1 a) (some (I b)) none=some (.sref id d (e+b.toNat) (n-b.toNat) 1 a):=by obtain⟨i,g,h⟩:=dr;simp only[dZ,dL,jH,g,dF,Option.getD_some,Option.getD_none];rw[aF ⟨f,by omega,by omega,h.symm,.inr trivial⟩,oN,show((n:Int)-b).toNat=n-b.toNat by omega]
structure Ar where
 edge:Int
 to:Int
 sign:Int
 room:Int
 cost:Int
def Ar.c(a:Ar):List AV:=[I a.edge,I a.to,I a.sign,I a.room,I a.cost]
theorem Ar.len(a:Ar):a.c.length=5:=rfl
def e00:Edge:=⟨0,0,0,0⟩
def edgeAt(l:List Edge)(i:Nat):Edge:=l.getD i e00
def MY{l:List Edge}{i:Nat}(h:i<l.length):edgeAt l i=l[i]:=by unfold edgeAt;rw[fP,gE h];rfl
def adjI(l:List Edge)(v:Int):List Int:=((List.range l.length).filter λi=>decide ((edgeAt l i).fr=v)||decide ((edgeAt l i).to=v)).map Int.ofNat
structure FrzS (S:AV) (n:Nat) (l:List Edge) (fl tu ex:List Int):Prop where
 sh:∃ev F TU X cells b,S=.aH [I n,ev,F,TU,X,.aN cells n b]/\Sl Edge.c ev l/\Ints F fl/\Ints TU tu/\Ints X ex/\cells.length=n/\∀(v:Nat) (hv:v<cells.length),Ints cells[v] (adjI l v)
 fll:fl.length=l.length
 tul:tu.length=n
 exl:ex.length=n
 n0:n<=200
 ll:l.length<=600
 ed:∀e∈l,EdgeIn n e/\e.fr≠e.to
 flb:∀k,-1000<=at0 fl k/\at0 fl k<=1000
 tub:∀k,-1000000<=at0 tu k/\at0 tu k<=1000000
def NH{b:aJ}{f:FuncId}{l o:List AV}{m a:Mem}{r:AV}{ids:List Id}(p:l.mapM (frz m.get bR)=some o)(h:b [] f o ⟨[],m.next⟩=some (r,a))(t:N7 r=true)(d:reach a.get bR r=ids)(e:∀i∈ids,m.next<=i.1/\∃g v,a.get i=some (.row g v false)/\g.all pZ=true):∃M:Mem,uI b f l m=some (r,M)/\M.next=a.next/\∀i,M.get i=if i∈ids then a.get i else m.get i:=by
 refine⟨⟨V2 a.hp (reach a.get bR r) m.hp,a.next⟩,?_,rfl,?_⟩
 .unfold uI;rw[p];simp only[h];rw[aF];rw[t,gW,d,dG];intro i j;obtain⟨u,g,v,n,w⟩:=e i j;rw[n];simp[u,w]
 .intro i;rw[d];exact dd a.hp ids m.hp (λi j=>by obtain⟨_,g,v,n,_⟩:=e i j;exact⟨_,n⟩) i
def xeb{b:Id->Option Ob}{k:Nat}:∀{l:List AV},l.all pZ=true->l.flatMap (reach b k)=[]
 |[],_=>rfl
 |a::l,h=>by
  rw[dY,cR]at h;rw[dK,xeb h.2,hW];cases a with
  |sc v=>cases k<;>rfl
  |_=>simp[pZ]at h
def ax{a:Id->Option Ob}{k:Nat}{id:Id}{b d n z:Nat}{f:Bool}{e:List AV}{v:Nat}(h:a id=some (.row e v false))(Z:e.all pZ=true):reach a (k+1) (.sref id b d n z f)=[id]:=by simp only[reach,h];rw[xeb];rw[dG]at Z ⊢;exact λx g=>Z x (NY (tK g))
structure Tour where
 len:List Int
 last:List Ar
 bef:List Int
theorem Ar.one(a:Ar):a.c.all AV.one=true:=rfl
theorem Ar.sc(a:Ar):a.c.all pZ=true:=rfl
structure WInv (u sL:Nat) (S:AV) (n:Nat) (t:Tour) (m:Mem):Prop where
 s:m.get (u,0,2)=some (.row [S] 0 false)
 t4:m.get (u,1,4)=some (.row [nilS,nilS,nilS] 0 false)
 t5:m.get (u,25,5)=some (.row [.sref (u+1,sL,30) 0 0 n 1 true,.sref (u,16,26) 0 0 n 5 true,.sref (u,23,33) 0 0 n 1 true] 0 false)
 len:m.get (u+1,sL,30)=some (.row (t.len.flatMap intE) 0 false)
 last:m.get (u,16,26)=some (.row (t.last.flatMap Ar.c) 0 false)
 bef:m.get (u,23,33)=some (.row (t.bef.flatMap intE) 0 false)
 ll:t.len.length=n
 al:t.last.length=n
 bl:t.bef.length=n
 nx:u+1<m.next
def WInv.frame{u l:Nat}{S:AV}{n:Nat}{t:Tour}{m m':Mem}(h:WInv u l S n t m)(o:∀id:Id,id.1<=u+1->id.2.2≠7->id.2.2≠41->m'.get id=m.get id)(p:m.next<=m'.next):WInv u l S n t m':=by obtain⟨a,b,c,d,e,f,g,i,j,k⟩:=h;refine⟨?_,?_,?_,?_,?_,?_,g,i,j,by omega⟩<;>rw[o _ (by simp) (by simp) (by simp)]<;>assumption
def dn(a:List Bool)(k:Nat):Bool:=a.getD k true
def x7g{a:List Bool}{k:Nat}(h:k<a.length):dn a k=a[k]:=by unfold dn;rw[fP,gE h];rfl
def x7f{a:List Bool}{k j:Nat}(h:k<a.length):dn (a.set k true) j=if j=k then true else dn a j:=by
 unfold dn;rw[fP,fP,HT];by_cases e:k=j
 .subst e;simp[h]
 .rw[aB e,aB (λx=>e x.symm)]
def zT:List Bool->Nat
 |[]=>0
 |d::r=>(if d=false then 1 else 0)+zT r
def xjh:∀{ds:List Bool} {k:Nat},k<ds.length->dn ds k=false->zT (ds.set k true)+1=zT ds
 |[],k,h,_=>by simp at h
 |d::r,0,h,a=>by have:d=false:=a;subst this;simp[zT];omega
 |d::r,k+1,h,a=>by have:=xjh (ds:=r) (k:=k) (by simpa using h) a;simp only[jg,zT];omega
def x7t(n:Nat):zT (List.replicate n false)=n:=by
 induction n with
 |zero=>rfl
 |succ n a=>rw[xk8];simp only[zT,a,cI];omega
abbrev srL(u a n:Nat):AV:=.sref (u+1,a,30) 0 0 n 1 true
def okA(a:Nat)(id:Id):Prop:=id.1=a/\(id.2.2=116\/id.2.2=127)
structure SolMem (us n:Nat) (ev:AV) (l:List Edge) (fl tu ex:List Int) (m:Mem):Prop where
 s:m.get (us,21,25)=some (.row [I n,ev,srI (us,7,11) l.length,srI (us,11,15) n,srI (us,15,19) n,srI (us,19,23) n] 0 false)
 f:m.get (us,7,11)=some (.row (fl.flatMap intE) 0 false)
 t:m.get (us,11,15)=some (.row (tu.flatMap intE) 0 false)
 x:m.get (us,15,19)=some (.row (ex.flatMap intE) 0 false)
 a:∃cells,m.get (us,19,23)=some (.row cells 0 false)/\cells.length=n/\∀(v:Nat) (hv:v<cells.length),Gk 1 intE (okA us) m cells[v] (adjI l v)
 fll:fl.length=l.length
 tul:tu.length=n
 exl:ex.length=n
def SolMem.frame{e n:Nat}{ev:AV}{l:List Edge}{o p r:List Int}{m m':Mem}(h:SolMem e n ev l o p r m)(t:∀id:Id,id.1=e->m'.get id=m.get id):SolMem e n ev l o p r m':=by obtain⟨a,b,c,d,⟨cells,y,w,x⟩,f,g,i⟩:=h;refine⟨?_,?_,?_,?_,⟨cells,?_,w,λv u=>(x v u).frame λid j=>t id j.1⟩,f,g,i⟩<;>rw[t _ rfl]<;>assumption
structure SolIn (n:Nat) (l:List Edge) (fl tu ex:List Int):Prop where
 n0:n<=200
 ll:l.length<=600
 ed:∀e∈l,EdgeIn n e/\e.fr≠e.to
 flb:∀k,-1000<=at0 fl k/\at0 fl k<=1000
 tub:∀k,-1000000<=at0 tu k/\at0 tu k<=1000000
 exb:∀k,-1000000<=at0 ex k/\at0 ex k<=1000000
def x5m{a:Id->Option Ob}{id:Id}{d:List AV}{v b n z k:Nat}{f x:Bool}(h:a id=some (.row d v f))(e:b+n*z<=d.length):frz a (k+1) (.sref id v b n z x)=(((d.drop b).take (n*z)).mapM (frz a k)).map λl=>AV.aN l n false:=by simp only[frz,h];rw[aF ⟨trivial,e⟩]
def x5o{a:Id->Option Ob}{id:Id}{d:List AV}{v b k:Nat}{f:Bool}(h:a id=some (.row d v f)):frz a (k+1) (.ptr id v b)=((d.drop b).mapM (frz a k)).map AV.aH:=by simp only[frz,h,cI]
def ej{b:Id->Option Ob}{id:Id}{l:List Int}{k:Nat}(h:b id=some (.row (l.flatMap intE) 0 false)):∃a,Ints a l/\frz b (k+2) (srI id l.length)=some a:=by
 have d:=F5 l;refine⟨.aN (l.flatMap intE) l.length false,Sl.lit l false,?_⟩
 have:=rP (aD:=b) (id:=id) (cs:=l.flatMap intE) (ver:=0) (off:=0) (n:=l.length) (z:=1) (k:=k) (f:=false) (x:=true) h (by omega) (by
  rw[bF,dT (by omega)];exact pC wP l)
 rw[bF,dT (by omega)]at this;exact this
def xf8{f:AV->Option AV}{P:Nat->AV->Prop}:∀(l:List AV) (k:Nat),(∀(v:Nat) (d:v<l.length),∃b,f l[v]=some b/\P (k+v) b)->∃e,l.mapM f=some e/\e.length=l.length/\∀(v:Nat) (d:v<e.length),P (k+v) e[v]
 |[],k,_=>⟨[],rfl,rfl,λv d=>by simp at d⟩
 |a::l,k,h=>by
  obtain⟨b,g,i⟩:=h 0 (by simp);obtain⟨e,j,m,n⟩:=xf8 (f:=f) (P:=P) l (k+1) λv d=>by obtain⟨b,o,p⟩:=h (v+1) (by simpa using d);exact⟨b,o,by rw[show k+1+v=k+(v+1) by omega];exact p⟩
  refine⟨b::e,?_,by simp[m],λv d=>?_⟩
  .rw[eO];simp only[List.getElem_cons_zero]at g;rw[g,j];rfl
  .cases v with
   |zero=>exact i
   |succ v=>have:=n v (by simpa using d);rw[show k+1+v=k+(v+1) by omega]at this;exact this
def SolMem.frz{e n:Nat}{ev:AV}{l:List Edge}{g i j:List Int}{m:Mem}(h:SolMem e n ev l g i j m)(a:SolIn n l g i j)(d:Sl Edge.c ev l):∃S,FrzS S n l g i j/\Go.Ix.frz m.get bR (.ptr (e,21,25) 0 0)=some S:=by
 obtain⟨Z,E,H,J,⟨cells,K,L,p⟩,t,u,w⟩:=h;obtain⟨F,M,x⟩:=ej (k:=3) E;obtain⟨T,N,y⟩:=ej (k:=3) H;obtain⟨X,O,A⟩:=ej (k:=3) J;obtain⟨r,Q,c2,R⟩:=xf8 (f:=Go.Ix.frz m.get 4) (P:=λv b=>Ints b (adjI l v)) cells 0 λv o=>by obtain⟨W,g1,g2⟩:=(p v o).frz (k:=2) fL wP;exact⟨W,g2,by simpa using g1⟩
 have C:Go.Ix.frz m.get 5 (srI (e,19,23) n)=some (.aN r n false):=(by rw[x5m K (by omega),bF,dT (by omega),Q];rfl);refine⟨.aH [I n,ev,F,T,X,.aN r n false],⟨⟨ev,F,T,X,r,false,rfl,d,M,N,O,by omega,λv o=>by have:=R v o;rwa[bW]at this⟩,t,u,w,a.n0,a.ll,a.ed,a.flb,a.tub⟩,?_⟩;rw[t]at x;rw[u]at y;rw[w]at A;have D:Go.Ix.frz m.get 5 ev=some ev:=uZ _ 4 d.aP;rw[show bR=5+1 from rfl,x5o Z];have fn:Go.Ix.frz m.get 5 (I n)=some (I n):=rfl;simp only[bF,eO,gS,fn,D,x,y,A,C];rfl
structure TourMem (u sL n:Nat) (t:Tour) (m:Mem):Prop where
 t4:m.get (u,3,4)=some (.row [srL (u+1) sL n,.sref (u+1,16,26) 0 0 n 5 true,.sref (u+1,23,33) 0 0 n 1 true] 0 false)
 len:m.get (u+1+1,sL,30)=some (.row (t.len.flatMap intE) 0 false)
 last:m.get (u+1,16,26)=some (.row (t.last.flatMap Ar.c) 0 false)
 bef:m.get (u+1,23,33)=some (.row (t.bef.flatMap intE) 0 false)
 ll:t.len.length=n
 al:t.last.length=n
 bl:t.bef.length=n
def TourMem.frame{u i n:Nat}{t:Tour}{m m':Mem}(h:TourMem u i n t m)(j:∀id:Id,u<=id.1->m'.get id=m.get id):TourMem u i n t m':=by obtain⟨a,b,c,d,e,f,g⟩:=h;refine⟨?_,?_,?_,?_,e,f,g⟩<;>rw[j _ (by simp only;omega)]<;>assumption
def okid(u Y:Nat)(id:Id):Prop:=id.1=u/\(id.2.2=116\/id.2.2=127)/\id.2.1<Y
structure AtI (u fc:Nat) (cells:List AV) (adj:Nat->List Int) (m:Mem):Prop where
 sh:∃ids:Nat->Id,(∀(v:Nat) (hv:v<cells.length),(cells[v]=nilS/\adj v=[])\/(∃ver,cells[v]=.sref (ids v) ver 0 (adj v).length 1 true/\m.get (ids v)=some (.row ((adj v).flatMap intE) ver false)/\okid u fc (ids v)/\adj v≠[])) /\
  ∀v w,v<cells.length->w<cells.length->adj v≠[]->adj w≠[]->v≠w->ids v≠ids w
def AtI.frame{u Y e:Nat}{cells:List AV}{f:Nat->List Int}{m m':Mem}(h:AtI u Y cells f m)(i:∀id,okid u Y id->m'.get id=m.get id)(j:Y<=e):AtI u e cells f m':=by
 obtain⟨g,n,o⟩:=h.sh;refine⟨g,λv l=>?_,o⟩;rcases n v l with h|⟨ver,a,b,c,d⟩
 .exact Or.inl h
 .exact Or.inr ⟨ver,a,by rw[i _ c];exact b,⟨c.1,c.2.1,by have:=c.2.2;omega⟩,d⟩
def AtI.app{u Y A:Nat}{cells:List AV}{i:Nat->List Int}{m:Mem}(h:AtI u Y cells i m){v:Nat}(X:v<cells.length)(x:Int){id0:Id}(N:id0.1=u)(O:id0.2.2=116\/id0.2.2=127)(h3:Y<=id0.2.1)(Z:id0.2.1<A)(hr:(i v).length<=100000) :
    ∃H L idA,(∀{R:Type} (k:AV->Mem->Option R),cK 1 8 id0 (some (intE x,1)) cells[v] m k=k H L)/\AtI u A (cells.set v H) (λw=>if w=v then i v++[x]else i w) L/\H.cells=[H]/\H.one=true/\L.next=m.next/\(∀j:Id,¬okid u A j->L.get j=m.get j) /\
     tA id0 cells[v]=some [idA]/\(idA.2.2=116\/idA.2.2=127)/\idA.1=u:=by
 obtain⟨o,e1,Q⟩:=h.sh;have J:∀k,k<=100001->cF k 8:=λk hk=>by unfold cF;omega
 have g:∀(w:Nat) (r:w<cells.length),((cells[w]=nilS/\i w=[])\/(∃n,cells[w]=.sref (o w) n 0 (i w).length 1 true/\m.get (o w)=some (.row ((i w).flatMap intE) n false)/\okid u Y (o w)/\i w≠[])):=e1;rcases e1 v X with ⟨K,M⟩|⟨n,K,M,y,W⟩
 ·
  refine⟨.sref id0 0 0 1 1 true,m.new id0 (.row (intE x) 0 false),id0,λk=>?_,⟨λw=>if w=v then id0 else o w,λw r=>?_,λw C r t E F D=>?_⟩,rfl,rfl,rfl,λj P=>?_,by rw[K];rfl,O,N⟩
  .rw[K];simp only[cK];rw[aB (by omega),aF (J 1 (by omega))]
  .simp only[nO]at r;by_cases f:w=v
   .subst f;right;refine⟨0,?_,?_,?_,by simp⟩
    .simp[M]
    .simp[M]
    .simp only[cI];exact⟨N,O,Z⟩
   .rw[OB (λe=>f e.symm)];simp only[aB f];rcases g w r with h|⟨n,a,b,c,d⟩
    .exact Or.inl h
    .refine Or.inr ⟨n,a,?_,⟨c.1,c.2.1,by have:=c.2.2;omega⟩,d⟩;rw[Mem.dI,aB (by rintro e;rw[e]at c;have:=c.2.2;omega)];exact b
  .simp only[nO]at r t;by_cases f:w=v
   .have p:C≠v:=(by omega);simp only[aF f,aB p];simp only[aB p]at F;rcases g C t with ⟨_,h⟩|⟨_,_,_,c,_⟩
    .exact absurd h F
    .intro e;rw[<-e]at c;have:=c.2.2;omega
   .by_cases p:C=v
    .simp only[aB f,aF p];simp only[aB f]at E;rcases g w r with ⟨_,h⟩|⟨_,_,_,c,_⟩
     .exact absurd h E
     .intro e;rw[e]at c;have:=c.2.2;omega
    .simp only[aB f,aB p]at E F ⊢;exact Q w C r t E F D
  .rw[Mem.dI,aB (by rintro rfl;exact P ⟨N,O,Z⟩)]
 .have hl:=F5 (i v);refine⟨.sref (o v) (n+1) 0 ((i v).length+1) 1 true,m.set (o v) (.row ((i v).flatMap intE++intE x) (n+1) false),o v,λk=>?_,⟨o,λw r=>?_,λw C r t E F D=>?_⟩,rfl,rfl,rfl,λj P=>?_,by rw[K];rfl,y.2.1,y.1⟩
  .rw[K];simp only[cK,M];rw[aF ⟨trivial,trivial,by omega,J _ (by omega)⟩,aB (by omega),aB (by omega),bF,dT (by omega)]
  .simp only[nO]at r;by_cases f:w=v
   .subst f;right;refine⟨n+1,by simp,by simp,⟨y.1,y.2.1,by have:=y.2.2;omega⟩,by simp⟩
   .rw[OB (λe=>f e.symm)];simp only[aB f];rcases g w r with h|⟨ver',a,b,c,d⟩
    .exact Or.inl h
    .refine Or.inr ⟨ver',a,?_,⟨c.1,c.2.1,by have:=c.2.2;omega⟩,d⟩;rw[Mem.bG,aB (Q w v r X d W f)];exact b
  .simp only[nO]at r t;refine Q w C r t ?_ ?_ D
   .by_cases f:w=v
    .subst f;exact W
    .simpa[f]using E
   .by_cases f:C=v
    .subst f;exact W
    .simpa[f]using F
  .rw[Mem.bG,aB (by rintro rfl;exact P ⟨y.1,y.2.1,by have:=y.2.2;omega⟩)]
theorem Edge.bD(e:Edge):e.c.all aP=true:=rfl
def xii(p:List Int)(e:Edge)(f:Int):List Int:=(p.set e.to.toNat (at0 p e.to.toNat+f)).set e.fr.toNat (at0 p e.fr.toNat-f)
def NodeIn(p:List Int)(b:Int):Prop:=∀k,-b<=at0 p k/\at0 p k<=b
def NodeIn.up{p:List Int}{b:Int}(h:NodeIn p b){e:Edge}(d:EdgeIn p.length e){f:Int}(g:-1000<=f)(i:f<=1000):NodeIn (xii p e f) (b+1000):=by
 obtain⟨m,n,o,r,-⟩:=d;intro k;have a:=h k;have j:=h e.to.toNat;have l:=h e.fr.toNat;unfold xii;rw[xkj (by simp;omega),xkj (by omega)];split
 .omega
 .split<;>omega
def mI:Nat->(Nat->Int)->Int
 |0,_=>0
 |n+1,g=>mI n g+g n
def xq6{n:Nat}{g h:Nat->Int}(H:∀k,k<n->g k=h k):mI n g=mI n h:=by
 induction n with
 |zero=>rfl
 |succ n a=>simp only[mI];rw[a λk b=>H k (by omega),H n (by omega)]
def ZO{n:Nat}{g:Nat->Int}(H:∀k,k<n->g k=0):mI n g=0:=by
 induction n with
 |zero=>rfl
 |succ n a=>simp only[mI];rw[a λk b=>H k (by omega),H n (by omega)];rfl
def xcx{n:Nat}{g h:Nat->Int}:mI n (λk=>g k+h k)=mI n g+mI n h:=by
 induction n with
 |zero=>rfl
 |succ n a=>simp only[mI];rw[a];omega
def xq5{n:Nat}{g:Nat->Int}(H:∀k,k<n->0<=g k):0<=mI n g:=by
 induction n with
 |zero=>simp[mI]
 |succ n a=>simp only[mI];have:=a λk b=>H k (by omega);have:=H n (by omega);omega
def xcw{n v:Nat}(h:v<n)(c:Int)(p:Nat->Int):mI n (λk=>if v=k then p k*c else 0)=p v*c:=by
 induction n with
 |zero=>omega
 |succ n a=>
  simp only[mI];by_cases e:v=n
  .subst e;rw[ZO (λk b=>aB (by omega)),aF rfl];omega
  .rw[a (by omega),aB e];omega
def sZ(p:Nat->Int)(e:Edge):Int:=p e.to.toNat-p e.fr.toNat+e.jump
def HB(p:Nat->Int):List Edge->Int
 |[]=>0
 |e::r=>e.wt*((sZ p e).natAbs:Int)+HB p r
def y7:List (Edge×Int)->Int
 |[]=>0
 |x::r=>x.2*x.1.jump+y7 r
def netF(v:Nat):List (Edge×Int)->Int
 |[]=>0
 |x::r=>(if x.1.to.toNat=v then x.2 else 0)-(if x.1.fr.toNat=v then x.2 else 0)+netF v r
def G6(p:Nat->Int):List (Edge×Int)->Int
 |[]=>0
 |x::r=>x.1.wt*((sZ p x.1).natAbs:Int)-x.2*sZ p x.1+G6 p r
def Cap(z:List (Edge×Int)):Prop:=∀x∈z,-x.1.wt<=x.2/\x.2<=x.1.wt
def Ends(n:Nat)(z:List (Edge×Int)):Prop:=∀x∈z,x.1.fr.toNat<n/\x.1.to.toNat<n
def CS(p:Nat->Int)(z:List (Edge×Int)):Prop:=∀x∈z,(x.2<x.1.wt->sZ p x.1<=0)/\(-x.1.wt<x.2->0<=sZ p x.1)
structure Feas (n:Nat) (z:List (Edge×Int)):Prop where
 cap:Cap z
 cons:∀v,v<n->netF v z=0
 ends:Ends n z
def xcu(n:Nat)(p:Nat->Int):∀z:List (Edge×Int),Ends n z->mI n (λv=>p v*netF v z)=y7 z*0+(z.foldr (λx s=>x.2*(p x.1.to.toNat-p x.1.fr.toNat)+s) 0)
 |[],_=>by simp only[netF,Int.mul_zero,List.foldr_nil,y7];rw[ZO (λ_ _=>rfl)];rfl
 |x::r,h=>by have b:=xcu n p r (λy a=>h y (dU _ a));obtain⟨d,f⟩:=h x (eS ..);have e:∀v,p v*netF v (x::r)=(if x.1.to.toNat=v then p v*x.2 else 0)+((if x.1.fr.toNat=v then p v*(-x.2)else 0)+p v*netF v r):=(by intro v;simp only[netF];split<;>split<;>grind);rw[xq6 (λk _=>e k),xcx,xcx,xcw d,xcw f,b];simp only[xli];grind
def xja(p:Nat->Int):∀z:List (Edge×Int),HB p (z.map Prod.fst)=G6 p z+y7 z+z.foldr (λx s=>x.2*(p x.1.to.toNat-p x.1.fr.toNat)+s) 0
 |[]=>rfl
 |x::r=>by have a:=xja p r;simp only[eN,HB,G6,y7,xli,a,sZ];grind
def x7p{n:Nat}{z:List (Edge×Int)}(h:Feas n z)(p:Nat->Int):HB p (z.map Prod.fst)=G6 p z+y7 z:=by have d:=xja p z;have b:=xcu n p z h.ends;rw[ZO (λk a=>by rw[h.cons k a];simp)]at b;omega
def x5d{w f e:Int}(b:-w<=f)(a:f<=w):0<=w*(e.natAbs:Int)-f*e:=by
 rcases Int.le_total 0 e with h|h
 .rw[Int.natAbs_of_nonneg h];have:=yfa a h;omega
 .rw[show(e.natAbs:Int)=-e by omega];have:=yfa (show -f<=w by omega) (show 0<=-e by omega);grind
def xh4(p:Nat->Int):∀{z:List (Edge×Int)},Cap z->0<=G6 p z
 |[],_=>by simp[G6]
 |x::r,h=>by
  have d:=xh4 p (z:=r) λy b=>h y (dU _ b)
  have a:=h x (eS ..);have f:=x5d (e:=sZ p x.1) a.1 a.2;simp only[G6];omega
def weak{n:Nat}{z:List (Edge×Int)}(h:Feas n z)(p:Nat->Int):y7 z<=HB p (z.map Prod.fst):=by have:=x7p h p;have:=xh4 p h.cap;omega
def Arc(z:List (Edge×Int))(u v:Nat)(c:Int):Prop:=∃x∈z,(x.2<x.1.wt/\u=x.1.fr.toNat/\v=x.1.to.toNat/\c=-x.1.jump)\/(-x.1.wt<x.2/\u=x.1.to.toNat/\v=x.1.fr.toNat/\c=x.1.jump)
inductive Way (z:List (Edge×Int)) (u:Nat):Nat->Int->Prop
 |nil:Way z u u 0
 |cons {v w:Nat} {c d:Int}:Way z u v c->Arc z v w d->Way z u w (c+d)
def cs_iff{p:Nat->Int}{z:List (Edge×Int)}:CS p z↔∀u v c,Arc z u v c->p v-p u<=c:=by
 constructor
 .rintro h u v c ⟨x,b,⟨a,rfl,rfl,rfl⟩|⟨a,rfl,rfl,rfl⟩⟩
  .have:=(h x b).1 a;unfold sZ at this;omega
  .have:=(h x b).2 a;unfold sZ at this;omega
 .intro h x b;refine⟨λa=>?_,λa=>?_⟩
  .have:=h _ _ _ ⟨x,b,Or.inl ⟨a,rfl,rfl,rfl⟩⟩;unfold sZ;omega
  .have:=h _ _ _ ⟨x,b,Or.inr ⟨a,rfl,rfl,rfl⟩⟩;unfold sZ;omega
def Way.le{p:Nat->Int}{z:List (Edge×Int)}(h:CS p z){u v:Nat}{c:Int}(a:Way z u v c):p v-p u<=c:=by
 induction a with
 |nil=>omega
 |cons _ b d=>have:=cs_iff.mp h _ _ _ b;omega
def Arc.lt{n:Nat}{z:List (Edge×Int)}(h:Ends n z){u v:Nat}{c:Int}(b:Arc z u v c):u<n/\v<n:=by
 obtain⟨x,a,⟨d,rfl,rfl,rfl⟩|⟨d,rfl,rfl,rfl⟩⟩:=b
 .exact h x a
 .exact⟨(h x a).2,(h x a).1⟩
def Way.lt{n:Nat}{z:List (Edge×Int)}(h:Ends n z){u v:Nat}{c:Int}(a:u<n)(b:Way z u v c):v<n:=by
 cases b with
 |nil=>exact a
 |cons _ d=>exact(d.lt h).2
def xfi:∀(a:List Nat) (b:List Bool),a.Nodup->(∀w∈a,w<b.length/\dn b w=false)->a.length<=zT b
 |[],_,_,_=>xJ _
 |w::a,b,h,f=>by
  obtain⟨g,i⟩:=l8.mp h;obtain⟨e,j⟩:=f w (eS ..)
  have:=xfi a (b.set w true) i (λx d=>by
   obtain⟨l,m⟩:=f x (dU _ d)
   exact⟨by simpa using l,by rw[x7f e,aB (by rintro rfl;exact g d)];exact m⟩)
  have:=xjh e j;simp only[dW];omega
def x0r{n:Nat}{a:List Nat}(h:a.Nodup)(b:∀w∈a,w<n):a.length<=n:=by have:=xfi a (List.replicate n false) h (λw d=>⟨by simpa using b w d,by rw[x7g (by simpa using b w d)];simp⟩);rwa[x7t]at this
structure FlowOK (n:Nat) (l:List Edge) (fl tu ex:List Int):Prop where
 nn:n<=200
 ll:l.length<=600
 ed:∀e∈l,EdgeIn n e/\e.fr≠e.to
 fll:fl.length=l.length
 tul:tu.length=n
 exl:ex.length=n
 cap:∀k,k<l.length->-(edgeAt l k).wt<=at0 fl k/\at0 fl k<=(edgeAt l k).wt
 cs:∀k,k<l.length->(at0 fl k<(edgeAt l k).wt->exI tu (edgeAt l k)<=0)/\(-(edgeAt l k).wt<at0 fl k->0<=exI tu (edgeAt l k))
 net:∀v,v<n->at0 ex v=netF v (l.zip fl)
def x6z{n:Nat}{l:List Edge}(a:∀e∈l,EdgeIn n e/\e.fr≠e.to){k:Nat}(b:k<l.length):EdgeIn n (edgeAt l k)/\(edgeAt l k).fr≠(edgeAt l k).to:=by rw[MY b];exact a _ (eU b)
def ind(p:Prop)[Decidable p]:Int:=if p then 1 else 0
def x17{l:List Edge}{a:List Int}(e:a.length=l.length){x:Edge×Int}:x∈l.zip a↔∃k,k<l.length/\x=(edgeAt l k,at0 a k):=by
 constructor
 .intro h;obtain⟨k,b,rfl⟩:=HO.mp h;have d:k<l.length:=(by simp at b;omega);refine⟨k,d,?_⟩;rw[List.getElem_zip,MY d,fH (by omega)]
 .rintro⟨k,b,rfl⟩;rw[MY b,fH (by omega)];have:k<(l.zip a).length:=(by simp;omega);rw[<-List.getElem_zip (h:=this)];exact eU this
structure Slim (J:Int) (n:Nat) (l:List Edge):Prop where
 j0:0<=J
 j1:J<=20
 nn:n<=12
 ll:l.length<=17
 ed:∀e∈l,EdgeIn n e/\e.fr≠e.to
 jw:∀e∈l,-J<=e.jump/\e.jump<=J/\e.wt<=20
def B8(n:Nat)(a:List Int):Int:=mI n (λv=>if 0<at0 a v then at0 a v else 0)
def xy5(n:Nat)(a:List Int):0<=B8 n a:=xq5 λk _=>by split<;>omega
def xfk(v:Nat):∀z:List (Edge×Int),(∀x∈z,-20<=x.2/\x.2<=20)->-(40*(z.length:Int))<=netF v z/\netF v z<=40*(z.length:Int)
 |[],_=>by simp[netF]
 |x::r,h=>by have b:=xfk v r (λy a=>h y (dU _ a));have d:=h x (eS ..);simp only[netF,dW];split<;>split<;>omega
def FlowOK.exb{J:Int}{n:Nat}{l:List Edge}{b f a:List Int}(h:FlowOK n l b f a)(e:Slim J n l)(v:Nat):-680<=at0 a v/\at0 a v<=680:=by
 by_cases i:v<n
 .rw[h.net v i]
  have:=xfk v (l.zip b) (λx g=>by
   obtain⟨k,d,rfl⟩:=(x17 h.fll).mp g
   have j:=h.cap k d
   have m:=e.jw (edgeAt l k) (by rw[MY d];exact eU d)
   simp only
   omega)
  have o:=e.ll;have:(l.zip b).length<=17:=(by rw[List.length_zip];omega);omega
 .have:at0 a v=0:=(by unfold at0;rw[fP,HU (by rw[h.exl];omega)];rfl);omega
def FlowOK.flb{n:Nat}{l:List Edge}{a d e:List Int}(h:FlowOK n l a d e)(k:Nat):-1000<=at0 a k/\at0 a k<=1000:=by
 by_cases b:k<l.length
 .have:=h.cap k b;obtain⟨⟨_,_,_,_,_,_,f,g⟩,_⟩:=x6z h.ed b;omega
 .have:at0 a k=0:=(by unfold at0;rw[fP,HU (by rw[h.fll];omega)];rfl);omega
def PBound(J P:Int)(n:Nat)(a:List Int):Prop:=0<=P/\P<=(J*12)*(1000-B8 n a)
def PBound.le{J P:Int}{n:Nat}{a:List Int}(h:PBound J P n a)(b:0<=J):P<=J*12000:=by have d:=xy5 n a;have f:(J*12)*(1000-B8 n a)<=(J*12)*1000:=yfb (by omega) (by omega);have:=h.2;have e:J*12*1000=J*12000:=(by rw[Int.mul_assoc];rfl);omega
def PBound.push{J P d b:Int}{n:Nat}{e a:List Int}(h:PBound J P n e)(g:0<=J)(i:P<=d)(j:d<=P+J*12)(l:B8 n a+b=B8 n e)(m:0<b):PBound J d n a:=by refine⟨by have:=h.1;omega,?_⟩;have f:(J*12)*(1000-B8 n e+1)<=(J*12)*(1000-B8 n a):=yfb (by omega) (by omega);rw[Int.mul_add,Int.mul_one]at f;have:=h.2;omega
def xrl{b:List AV}{n:Nat}{x:Bool}{a:Int}(d:0<=a)(e:a<=n)(h:b.length=n):dZ prog fE (.aN b n x) (some (I a)) none=some (.aN (b.drop a.toNat) (n-a.toNat) x):=by obtain⟨i,f,g⟩:=dr;simp only[dZ,dL,jH,f,dF,Option.getD_some,Option.getD_none,g];rw[aF ⟨d,e,ON _,by omega⟩,oN,oN,show((n:Int)-a).toNat=n-a.toNat by omega,dT (by simp;omega)];simp
def QRep(w:Nat)(m:Mem)(a:AV)(q:List Int):Prop:=
 a=.aN (q.flatMap intE) q.length true\/∃id d b e,w<=id.1/\a=.sref id d b q.length 1 true/\m.get id=some (.row e d false)/\e.drop b=q.flatMap intE/\b+q.length=e.length
def QRep.frame{w:Nat}{m m':Mem}{a:AV}{q:List Int}(h:QRep w m a q)(b:∀id:Id,w<=id.1->m'.get id=m.get id):QRep w m' a q:=by
 rcases h with h|⟨id,ver,off,cs,h1,h2,h3,h4⟩
 .exact Or.inl h
 .exact Or.inr ⟨id,ver,off,cs,h1,h2,by rw[b id h1];exact h3,h4⟩
def QRep.one{w:Nat}{m:Mem}{a:AV}{q:List Int}(h:QRep w m a q):a.cells=[a]/\a.one=true:=by rcases h with rfl|⟨id,ver,off,cs,h1,rfl,h3,h4⟩<;>exact⟨rfl,rfl⟩
def QRep.len{w:Nat}{m:Mem}{a:AV}{q:List Int}(h:QRep w m a q):aM prog fE a=some (I q.length):=by rcases h with rfl|⟨id,ver,off,cs,h1,rfl,h3,h4⟩<;>rfl
def QRep.head{w:Nat}{m:Mem}{a:AV}{x:Int}{q:List Int}(h:QRep w m a (x::q)):∃p,aV 1 a (I 0)=some p/\aA false 1 p m=some (I x):=by
 rcases h with rfl|⟨id,ver,off,cs,h1,rfl,h3,h4,h5⟩
 .refine⟨.aH ((x::q).flatMap intE),?_,rfl⟩;have:=(Sl.lit (x::q) true (enc:=intE)).ixI fL (k:=0) (by omega) (by simp);simpa using this
 .refine⟨.ptr id ver off,by simp[aV,dF],?_⟩;rw[jJ,h3];simp only[sR,I0,cond_true];rw[h4];rfl
def QRep.tail{w:Nat}{m:Mem}{a:AV}{x:Int}{q:List Int}(h:QRep w m a (x::q)):∃b,dZ prog fE a (some (I 1)) none=some b/\QRep w m b q:=by
 rcases h with rfl|⟨id,ver,off,cs,h1,rfl,h3,h4,h5⟩
 .refine⟨.aN (q.flatMap intE) q.length true,?_,Or.inl rfl⟩;rw[xrl (by omega) (by rw[dW];omega) (F5 _)];rfl
 .refine⟨.sref id ver (off+1) q.length 1 true,?_,Or.inr ⟨id,ver,off+1,cs,h1,rfl,h3,?_,by simp at h5;omega⟩⟩
  .rw[xc6 (by omega) (by rw[dW];omega)];rfl
  .rw[<-xlk,h4];rfl
def QRep.app{w:Nat}{m:Mem}{a:AV}{q:List Int}(h:QRep w m a q)(n:q.length<=100000){id0:Id}(g:w<=id0.1)(x:Int) :
    ∃e d,(∀{R:Type} (k:AV->Mem->Option R),cK 1 8 id0 (some (intE x,1)) a m k=k e d)/\QRep w d e (q++[x])/\d.next=m.next/\∀id:Id,id.1<w->d.get id=m.get id:=by
 have b:∀k,k<=100001->cF k 8:=λk o=>by unfold cF;omega
 have f:=F5 q;rcases h with rfl|⟨id,ver,off,cs,h1,rfl,h3,h4,h5⟩
 .refine⟨.sref id0 0 0 (q.length+1) 1 true,m.new id0 (.row (q.flatMap intE++intE x) 0 false),λk=>?_,Or.inr ⟨id0,0,0,q.flatMap intE++intE x,g,by simp,by simp,by simp,by simp[f,intE]⟩,rfl,λj i=>?_⟩
  .simp only[cK];rw[aF (by omega),aB (by omega),aF (b _ (by omega)),oN,dT (by omega)]
  .rw[Mem.dI,aB (by rintro rfl;omega)]
 .refine⟨.sref id (ver+1) 0 (q.length+1) 1 true,m.set id (.row (q.flatMap intE++intE x) (ver+1) false),λk=>?_,Or.inr ⟨id,ver+1,0,q.flatMap intE++intE x,h1,by simp,by simp,by simp,by simp[f,intE]⟩,rfl,λj i=>?_⟩
  .simp only[cK,h3];rw[aF ⟨trivial,trivial,by omega,b _ (by omega)⟩,aB (by omega),aB (by omega),h4,dT (by omega)]
  .rw[Mem.bG,aB (by rintro rfl;omega)]
def QRep.tA{w:Nat}{m:Mem}{a:AV}{q:List Int}(h:QRep w m a q){b:Id}(d:w<=b.1):∃id,Go.Ix.tA b a=some [id]/\w<=id.1:=by
 rcases h with rfl|⟨id,ver,off,cs,h1,rfl,h3,h4,h5⟩
 .exact⟨b,rfl,d⟩
 .exact⟨id,rfl,h1⟩
def x0z(l:List Edge)(a:Int):List Int:=l.flatMap λe=>if 0<e.wt then(if e.fr=a then[e.to]else if e.to=a then[e.fr]else[])else[]
def okjd(u Y:Nat)(id:Id):Prop:=id.1=u/\(id.2.2=35\/id.2.2=44)/\id.2.1<Y
structure AtJ (u fc:Nat) (cells:List AV) (adj:Nat->List Int) (m:Mem):Prop where
 sh:∃ids:Nat->Id,(∀(v:Nat) (hv:v<cells.length),(cells[v]=nilS/\adj v=[])\/(∃ver,cells[v]=.sref (ids v) ver 0 (adj v).length 1 true/\m.get (ids v)=some (.row ((adj v).flatMap intE) ver false)/\okjd u fc (ids v)/\adj v≠[])) /\
  ∀v w,v<cells.length->w<cells.length->adj v≠[]->adj w≠[]->v≠w->ids v≠ids w
def AtJ.frame{u Y e:Nat}{cells:List AV}{f:Nat->List Int}{m m':Mem}(h:AtJ u Y cells f m)(i:∀id,okjd u Y id->m'.get id=m.get id)(j:Y<=e):AtJ u e cells f m':=by
 obtain⟨g,n,o⟩:=h.sh;refine⟨g,λv l=>?_,o⟩;rcases n v l with h|⟨ver,a,b,c,d⟩
 .exact Or.inl h
 .exact Or.inr ⟨ver,a,by rw[i _ c];exact b,⟨c.1,c.2.1,by have:=c.2.2;omega⟩,d⟩
def AtJ.app{u Y A:Nat}{cells:List AV}{i:Nat->List Int}{m:Mem}(h:AtJ u Y cells i m){v:Nat}(X:v<cells.length)(x:Int){id0:Id}(N:id0.1=u)(O:id0.2.2=35\/id0.2.2=44)(h3:Y<=id0.2.1)(Z:id0.2.1<A)(hr:(i v).length<=100000) :
    ∃H L idA,(∀{R:Type} (k:AV->Mem->Option R),cK 1 8 id0 (some (intE x,1)) cells[v] m k=k H L)/\AtJ u A (cells.set v H) (λw=>if w=v then i v++[x]else i w) L/\H.cells=[H]/\H.one=true/\L.next=m.next/\(∀j:Id,¬okjd u A j->L.get j=m.get j) /\
     tA id0 cells[v]=some [idA]/\(idA.2.2=35\/idA.2.2=44)/\idA.1=u:=by
 obtain⟨o,e1,Q⟩:=h.sh;have J:∀k,k<=100001->cF k 8:=λk hk=>by unfold cF;omega
 have g:∀(w:Nat) (r:w<cells.length),((cells[w]=nilS/\i w=[])\/(∃n,cells[w]=.sref (o w) n 0 (i w).length 1 true/\m.get (o w)=some (.row ((i w).flatMap intE) n false)/\okjd u Y (o w)/\i w≠[])):=e1;rcases e1 v X with ⟨K,M⟩|⟨n,K,M,y,W⟩
 ·
  refine⟨.sref id0 0 0 1 1 true,m.new id0 (.row (intE x) 0 false),id0,λk=>?_,⟨λw=>if w=v then id0 else o w,λw r=>?_,λw C r t E F D=>?_⟩,rfl,rfl,rfl,λj P=>?_,by rw[K];rfl,O,N⟩
  .rw[K];simp only[cK];rw[aB (by omega),aF (J 1 (by omega))]
  .simp only[nO]at r;by_cases f:w=v
   .subst f;right;refine⟨0,?_,?_,?_,by simp⟩
    .simp[M]
    .simp[M]
    .simp only[cI];exact⟨N,O,Z⟩
   .rw[OB (λe=>f e.symm)];simp only[aB f];rcases g w r with h|⟨n,a,b,c,d⟩
    .exact Or.inl h
    .refine Or.inr ⟨n,a,?_,⟨c.1,c.2.1,by have:=c.2.2;omega⟩,d⟩;rw[Mem.dI,aB (by rintro e;rw[e]at c;have:=c.2.2;omega)];exact b
  .simp only[nO]at r t;by_cases f:w=v
   .have p:C≠v:=(by omega);simp only[aF f,aB p];simp only[aB p]at F;rcases g C t with ⟨_,h⟩|⟨_,_,_,c,_⟩
    .exact absurd h F
    .intro e;rw[<-e]at c;have:=c.2.2;omega
   .by_cases p:C=v
    .simp only[aB f,aF p];simp only[aB f]at E;rcases g w r with ⟨_,h⟩|⟨_,_,_,c,_⟩
     .exact absurd h E
     .intro e;rw[e]at c;have:=c.2.2;omega
    .simp only[aB f,aB p]at E F ⊢;exact Q w C r t E F D
  .rw[Mem.dI,aB (by rintro rfl;exact P ⟨N,O,Z⟩)]
 .have hl:=F5 (i v);refine⟨.sref (o v) (n+1) 0 ((i v).length+1) 1 true,m.set (o v) (.row ((i v).flatMap intE++intE x) (n+1) false),o v,λk=>?_,⟨o,λw r=>?_,λw C r t E F D=>?_⟩,rfl,rfl,rfl,λj P=>?_,by rw[K];rfl,y.2.1,y.1⟩
  .rw[K];simp only[cK,M];rw[aF ⟨trivial,trivial,by omega,J _ (by omega)⟩,aB (by omega),aB (by omega),bF,dT (by omega)]
  .simp only[nO]at r;by_cases f:w=v
   .subst f;right;refine⟨n+1,by simp,by simp,⟨y.1,y.2.1,by have:=y.2.2;omega⟩,by simp⟩
   .rw[OB (λe=>f e.symm)];simp only[aB f];rcases g w r with h|⟨ver',a,b,c,d⟩
    .exact Or.inl h
    .refine Or.inr ⟨ver',a,?_,⟨c.1,c.2.1,by have:=c.2.2;omega⟩,d⟩;rw[Mem.bG,aB (Q w v r X d W f)];exact b
  .simp only[nO]at r t;refine Q w C r t ?_ ?_ D
   .by_cases f:w=v
    .subst f;exact W
    .simpa[f]using E
   .by_cases f:C=v
    .subst f;exact W
    .simpa[f]using F
  .rw[Mem.bG,aB (by rintro rfl;exact P ⟨y.1,y.2.1,by have:=y.2.2;omega⟩)]
def Gk.lenP{ok:Id->Prop}{m:Mem}{a:AV}{l:List Int}(h:Gk 1 intE ok m a l):aM prog fE a=some (I l.length):=by
 rcases h with ⟨rfl,rfl⟩|⟨id,b,d,rfl,e⟩
 .exact U7 jH
 .rfl
def PartC(n:Nat)(l:List Edge)(m:Mem):Prop:=m.get (0,6,3)=some (.row [srI (0,5,9) n] 0 false)/\∃cells,m.get (0,5,9)=some (.row cells 0 false)/\cells.length=n/\∀(v:Nat) (a:v<cells.length),Gk 1 intE (λid=>id.1=0) m cells[v] (x0z l v)
def PartC.frame{n:Nat}{l:List Edge}{m m':Mem}(h:PartC n l m)(a:∀id:Id,id.1<1->m'.get id=m.get id):PartC n l m':=by obtain⟨e,cells,f,g,i⟩:=h;exact⟨by rw[a _ (by simp)];exact e,cells,by rw[a _ (by simp)];exact f,g,λv b=>(i v b).frame λid d=>a id (by omega)⟩
def YZ(d:Nat){n:Int}(a:-9223372036854775808<=n)(b:n<=9223372036854775807)(m:Mem):aI (aG (d+1)) C5 [I n] m=some (Tx (jC n),m):=by
 refine Ans.eR (m:=m) ?_ rfl rfl;have h:aG (d+1) [] C5 [I n] mem0=(sB 1 [I n]).map λv=>(v,mem0):=by kernel_rfl
 unfold Ans;have e:sB 1 [I n]=if -9223372036854775808<=n/\n<=9223372036854775807 then some (.sc (.string ⟨(jC n).toArray⟩))else none:=rfl
 rw[h,e,aF ⟨a,b⟩];exact⟨_,rfl⟩
def xp0(d:Nat){l:List UInt8}(e:l.length<=1000000)(m:Mem) :
    (∃v,Lib.atoiAll l=.ok v/\aI (aG (d+1)) P1 [Tx l] m=some (.tup [I v,.sc .nilIface],m))\/((∀v,Lib.atoiAll l≠.ok v)/\∃x:Int,aI (aG (d+1)) P1 [Tx l] m=some (.tup [I x,.un wX],m)):=by
 have h:aG (d+1) [] P1 [Tx l] mem0=(sB 2 [Tx l]).map λv=>(v,mem0):=by kernel_rfl
 have a:sB 2 [Tx l]=match Lib.atoiAll l with
  | .ok v=>some (.tup [.sc (.int .i64 v),.sc .nilIface])
  | .range=>some (.tup [.sc (.int .i64 (Lib.atoiSat l)),.un wX])
  |_=>some (.tup [.sc (.int .i64 0),.un wX]):=by
  have f:sB 2 [Tx l]=if(⟨l.toArray⟩:ByteArray).size<=1000000 then(match Lib.atoiAll l with
   | .ok v=>some (.tup [.sc (.int .i64 v),.sc .nilIface])
   | .range=>some (.tup [.sc (.int .i64 (Lib.atoiSat l)),.un wX])
   |_=>some (.tup [.sc (.int .i64 0),.un wX]))else none:=rfl
  rw[f,aF (by rw[tZ];exact e)]
 cases b:Lib.atoiAll l with
 |ok v=>rw[b]at a;rw[a]at h;exact .inl ⟨v,rfl,rT rfl h rfl⟩
 |range=>rw[b]at a;rw[a]at h;exact .inr ⟨(λv h=>by cases h),_,rT rfl h rfl⟩
 |_=>rw[b]at a;rw[a]at h;exact .inr ⟨(λv h=>by cases h),_,rT rfl h rfl⟩
def OkR.run{P:Program}{α:Type}{R:α->Prop}{a:α}(d:R a):∀{s:Sem α},bJ P s=some a->OkR P s R
 | .pure b,h=>by simp only[bJ,bY]at h;exact OkR.pure (by rw[h];exact d)
 | .program k,h=>OkR.run d (s:=k P) h
 | .mark _ k,h=>OkR.run d (s:=k) h
 | .choose ..,h=>by simp[bJ]at h
 | .load ..,h=>by simp[bJ]at h
 | .store ..,h=>by simp[bJ]at h
 | .new ..,h=>by simp[bJ]at h
 | .shape ..,h=>by simp[bJ]at h
 | .freeze ..,h=>by simp[bJ]at h
 | .halt ..,h=>by simp[bJ]at h
def iF(d:Nat):List (List UInt8)->Option (List Int)
 |[]=>some []
 |w::r=>match nC w d,iF d r with
  |some n,some l=>some (n::l)
  |_,_=>none
def GZ(c:UInt8):∀l:List UInt8,(cL c l).length<=l.length+1
 |[]=>by simp[cL]
 |x::l=>by
  have a:=GZ c l;unfold cL;split
  .simp;omega
  .split<;>simp_all<;>omega
def xi8(c:UInt8):∀(l:List UInt8) (w:List UInt8),w∈cL c l->w.length<=l.length
 |[],w,h=>by simp[cL]at h;rw[h];exact bS _
 |x::l,w,h=>by
  have a:=xi8 c l;unfold cL at h;split at h
  .rcases dV.1 h with rfl|h
   .simp
   .have:=a w h;simp;omega
  .split at h
   .rename_i b;exact absurd b (GY c l)
   .rename_i y r b;rw[b]at a;rcases dV.1 h with rfl|h
    .have:=a y (eS ..);simp;omega
    .have:=a w (dU _ h);simp;omega
def fu(c:UInt8):∀l:List UInt8,(cL c l).length=l.count c+1
 |[]=>rfl
 |x::l=>by
  have b:=fu c l;by_cases h:x=c
  .subst h;rw[show x::l=[]++x::l from rfl,HA l (by simp),dW,b];simp
  .rw[List.count_cons_of_ne (by simpa using h),<-b];have d:cL c (x::l)=(match cL c l with|[]=>[[x]]|h::t=>(x::h)::t):=(by rw[cL,aB h];first|done|rfl);rw[d];cases e:cL c l with
   |nil=>exact absurd e (GY c l)
   |cons a r=>rfl
def xy2(s:ByteArray)(c:Int):bJ prog (callFunc zD #[.string s,.int .u8 c])=some (.value (.int .i64 (Lib.countByte s.data.toList c.toNat.toUInt8))):=by have b:bJ prog (callFunc zD #[.string s,.int .u8 c])=bJ prog (do let v <-Extern.BytealgCount.count #[.string s,.int .u8 c];pure (Next.value v)):=(by kernel_rfl);rw[b];have a:=Lib.count_foldl c.toNat.toUInt8 s.data.toList 0;rw[<-Lib.foldl_data]at a;show some (Next.value (Value.int .i64 (s.foldl (λ(n:Int) x=>if x == c.toNat.toUInt8 then n+1 else n) 0)))=_;rw[a,jv]
def xpq(d:Nat)(l:List UInt8)(c:UInt8)(m:Mem):aI (aG (d+1)) zD [Tx l,U8 c.toNat] m=some (I (l.count c),m):=by
 refine Ans.eR (m:=m) ?_ rfl rfl;unfold Ans;have a:aG (d+1) [] zD [Tx l,U8 c.toNat] mem0=(B4 prog zD [Tx l,U8 c.toNat]).map λv=>(v,mem0):=by kernel_rfl
 have b:V9 prog zD [Tx l,U8 c.toNat]=some (I (Lib.countByte l c)):=by
  unfold V9
  show(match bJ prog (callFunc zD #[.string ⟨l.toArray⟩,.int .u8 c.toNat])with
   |some (.value u)=>some (fJ u)
   |_=>none)=_
  rw[xy2];have:((c.toNat:Int)).toNat.toUInt8=c:=(by rw[jF];exact UInt8.ofNat_toNat);rw[this];rfl
 rw[a];unfold B4;rw[b];exact⟨mem0,rfl⟩
def xpr(d:Nat)(l:List UInt8)(c:UInt8)(m:Mem):aI (aG (d+2)) DP [Tx l,Tx [c]] m=some (I (l.count c),m):=by refine Ans.eR (m:=m) ?_ rfl rfl;unfold Ans;rw[x8n];unfold kp aU PQ;have a:eD (Tx [c])=some (I 1):=hZ [c];have b:kZ prog bN (Tx [c]) (I 0)=some (U8 c.toNat):=YV (l:=[c]) (k:=0) (by simp);simp only[mem0,a,aC,iD,show decide ((1:Int)=0)=false from rfl,aT,b,xpq];exact⟨_,rfl⟩
def xmy(x:AV)(n:Nat):eQ [x] n=List.replicate n x:=by
 refine HW (by simp[eQ]) λi a b=>?_
 simp[eQ,Nat.mod_one]
def xm9:pG=[Tx []]:=by kernel_rfl
def xr1{α:Type}{a:List α}{x y:α}{b:List α}:(a++x::b).take a.length++([y]++(a++x::b).drop (a.length+1))=(a++[y])++b:=by rw[<-kU,List.take_left,show a.length+1=(a++[x]).length by simp,show a++x::b=(a++[x])++b by simp,List.drop_left]
def KR(l:List (List UInt8)):(l.flatMap dC).length=l.length:=by have:=fN nT l;omega
def xtb(n:Nat):(List.replicate n (Tx [])).length=n:=List.length_replicate
def x3f(d:Nat){c:UInt8}{s:List UInt8}(Z:s.length<=100000){id:Id}(u:Nat):∀(n j:Nat) (r:List UInt8) (dn:List (List UInt8)) (m:Mem) (Y:Nat),r.length<n->n<=j->r.length<=s.length->cL c s=dn++cL c r ->
    m.get id=some (.row (dn.flatMap dC++List.replicate (cL c r).length (Tx [])) 0 false) ->
    ∃f,Y6 (aG (d+4)) [] u j (Tx r) (Tx [c]) (I 0) (I ((cL c s).length-1:Nat)) (.sref id 0 0 (cL c s).length 1 true) (I dn.length) m Y=some (.sref id 0 0 (cL c s).length 1 true,f)/\f.get id=some (.row ((cL c s).flatMap dC) 0 false):=by
 intro n;have W:=GZ c s;induction n with
 |zero=>intro j r dn m Y t;omega
 |succ n ih=>
  intro j r dn m Y t hj hr A Q;obtain⟨j,rfl⟩:∃k,j=k+1:=⟨j-1,by omega⟩;have M:(cL c s).length=dn.length+(cL c r).length:=(by rw[A,eT]);have X:0<(cL c r).length:=HQ.mpr (GY c r);have h:aV 1 (.sref id 0 0 (cL c s).length 1 true) (I dn.length)=some (.ptr id 0 dn.length):=(by simp only[aV,dF];rw[aF ⟨by omega,by omega,trivial⟩];simp);have g:(cL c r).length=1->c∉r:=λe=>by rw[fu]at e;exact List.count_eq_zero.mp (by omega)
  have l:∀(x:List UInt8) {R:Type} (K:Mem->Option R),bA 1 (.ptr id 0 dn.length) (Tx x) m K=K (m.set id (.row ((dn++[x]).flatMap dC++List.replicate ((cL c r).length-1) (Tx [])) 0 false)):=λx R K=>by rw[iB (z:=1) (x:=Tx x) Q rfl (by rw[eT,KR,xtb];omega) rfl];congr 2;obtain⟨q,hq⟩:∃q,(cL c r).length=q+1:=⟨(cL c r).length-1,by omega⟩;rw[hq,xk8,xk5];have:=xr1 (a:=dn.flatMap dC) (x:=Tx []) (y:=Tx x) (b:=List.replicate q (Tx []));rw[KR]at this;unfold cH;rw[show(Tx x).cells=[Tx x]from rfl,jl,this];congr 2;simp[dC]
  have fin:(cL c r).length=1->∃f,K4 (aG (d+4)) [] u (Tx r) (.sref id 0 0 (cL c s).length 1 true) (I dn.length) m Y=some (.sref id 0 0 (cL c s).length 1 true,f)/\f.get id=some (.row ((cL c s).flatMap dC) 0 false):=λe=>by unfold K4;have C:cJ ((dn.length:Int)+1)=((cL c s).length:Int):=(by rw[bU];omega);have D:dZ prog iQ (.sref id 0 0 (cL c s).length 1 true) none (some (I (cL c s).length))=some (.sref id 0 0 (cL c s).length 1 true):=(by have N:∃i,prog.info? bN=some i/\i.size=1:=(by have e:(prog.info? bN).map (λi=>i.size)=some 1:=(by kernel_rfl);rw[cM]at e;exact e);obtain⟨ii,J,L⟩:=N;simp[dZ,dL,xca,J,L,dF]);simp only[h,aC,l,dS,C,D];refine⟨_,rfl,?_⟩;rw[Mem.bG,aF rfl,e,A,GX (g e)];simp
  simp only[Y6];unfold uc;simp only[bV,aC];by_cases e:(cL c r).length=1
  .have:¬((dn.length:Int)<((cL c s).length-1:Nat)):=(by omega);simp only[this,bO,aT];obtain⟨f,e1,e2⟩:=fin e;have E:∀w,K4 (aG (d+4)) [] u (Tx r) (.sref id 0 0 (cL c s).length 1 true) (I dn.length) m w=K4 (aG (d+4)) [] u (Tx r) (.sref id 0 0 (cL c s).length 1 true) (I dn.length) m Y:=λ_=>rfl
   exact⟨f,by rw[E,e1],e2⟩
  .have F:(dn.length:Int)<((cL c s).length-1:Nat):=(by omega);have o:c∈r:=by
    refine Classical.byContradiction λt=>e ?_
    rw[GX t];rfl
   simp only[F,bB,aS,xbw,aC];rcases V5 c r with ⟨O,P⟩|⟨i,O,P,q3,q4⟩
   .exact absurd o P
   .rw[O];have N:¬((i:Int)<0):=(by omega);have p:cL c r=r.take i::cL c (r.drop (i+1)):=by
     conv=>lhs;rw[<-vH i r,q4]
     exact HA _ q3
    have C:cJ ((i:Int)+0)=(i:Int):=(by rw[bU];omega);have w2:=gJ i (by omega);have w3:cJ ((dn.length:Int)+1)=((dn.length+1:Nat):Int):=(by rw[bU];omega);have H:eD (Tx [c])=some (I 1):=hZ [c];simp only[aC,dS,C,y5 (show i<=r.length by omega),h,l,H,w2,BT (show i+1<=r.length by omega),w3]
    have:=ih j (r.drop (i+1)) (dn++[r.take i]) (m.set id (.row ((dn++[r.take i]).flatMap dC++List.replicate ((cL c r).length-1) (Tx [])) 0 false)) (Y+28) (by simp;omega) (by omega) (by simp;omega) (by rw[A,p];simp) (by
     rw[Mem.bG,aF rfl,p];simp)
    rw[eT,jl]at this;exact this
def yer(d:Nat){c:UInt8}{s:List UInt8}(Z:s.length<=100000):RetF (λv=>v=.aN ((cL c s).flatMap dC) (cL c s).length false) (aG (d+5) [] DL [Tx s,Tx [c],I 0,I (-1)] mem0):=by
 rw[x8d];unfold kc zR PH;have e:=GZ c s;have g:=fu c s;have h:=HQ.mpr (GY c s);have i:s.count c<=s.length:=List.count_le_length;have j:cJ (((s.count c:Nat):Int)+1)=((cL c s).length:Int):=(by rw[bU];omega);have l:cJ ((s.length:Int)+1)=((s.length+1:Nat):Int):=(by rw[bU];omega);have o:cJ (((cL c s).length:Int)-1)=(((cL c s).length-1:Nat):Int):=(by rw[bU];omega);have a:B2 (I (cL c s).length) (I (s.length+1:Nat))=some (I (cL c s).length):=(by show some (I (if((s.length+1:Nat):Int)<((cL c s).length:Int)then _ else _))=_;rw[aB (by omega)]);simp only[mem0,iD,show decide ((-1:Int)=0)=false from rfl,aC,aT];rw[show(AV.sc (.string ⟨#[]⟩))=Tx []from rfl,oT];simp only[show decide ([c]=([]:List UInt8))=false from by simp,aC,aT];unfold ub;simp only[bV,show decide ((-1:Int)<0)=true from rfl,aC,aS,xpr,dS,j];unfold PI;simp only[hZ,aC,dS,l,a,mZ,o];have b:∀(id:Id) {R:Type} (m:Mem) (K:AV->Mem->Option R),sF pG 1 16 (I (cL c s).length) (I (cL c s).length) id m K=K (.sref id 0 0 (cL c s).length 1 true) (m.new id (.row (List.replicate (cL c s).length (Tx [])) 0 false)):=λid R m K=>by simp only[sF,dF];rw[aF ⟨by omega,by omega,by omega,by omega⟩,xm9,jF,oN];congr 2;rw[xmy]
 rw[b];obtain⟨t,p,u⟩:=x3f d Z (id:=(0,0+5+7+7,31)) 0 (s.length+1) NN s [] ((⟨[],0+1⟩:Mem).new (0,0+5+7+7,31) (.row (List.replicate (cL c s).length (Tx [])) 0 false)) (0+5+7+13) (by omega) (by rw[dB];omega) (bS _) rfl (by rw[Mem.dI,aF rfl];rfl);have e1':Y6 (aG (d+4)) [] 0 NN (Tx s) (Tx [c]) (I 0) (I ((cL c s).length-1:Nat)) (.sref (0,0+5+7+7,31) 0 0 (cL c s).length 1 true) (I 0) ((⟨[],0+1⟩:Mem).new (0,0+5+7+7,31) (.row (List.replicate (cL c s).length (Tx [])) 0 false)) (0+5+7+13)=_:=p;rw[e1'];refine RetF.mk ?_ rfl;have r:=KR (cL c s)
 have:=rP (aD:=t.get) (id:=(0,0+5+7+7,31)) (cs:=(cL c s).flatMap dC) (ver:=0) (off:=0) (n:=(cL c s).length) (z:=1) (k:=4) (f:=false) (x:=true) u (by omega) (by
  rw[bF,dT (by omega)];exact pC xq7 _)
 rw[bF,dT (by omega)]at this;exact this
def xo0(d:Nat)(c:UInt8){s:List UInt8}(Z:s.length<=100000)(m:Mem):aI (aG (d+6)) O7 [Tx s,Tx [c]] m=some (.aN ((cL c s).flatMap dC) (cL c s).length false,m):=by
 refine eY rfl ?_ m;rw[x8f];unfold kf aU PK;have h:=λm=>eY rfl (yer d (c:=c) Z) m
 simp only[mem0,h,aC];refine RetF.st ?_ rfl;simp[bD]
def wL:List (List UInt8)->List (List UInt8)
 |[]=>[]
 |[p]=>if p=[]then[]else[p]
 |p::q::r=>(p++[10])::wL (q::r)
def iU(s:List UInt8):List (List UInt8):=wL (cL 10 s)
theorem xgh:iU []=[]:=rfl
def xgg{s:List UInt8}(a:s≠[])(h:(10:UInt8)∉s):iU s=[s]:=by unfold iU;rw[GX h];simp[wL,a]
def xgi{l:List UInt8}(k:List UInt8)(h:(10:UInt8)∉l):iU (l++10::k)=(l++[10])::iU k:=by
 unfold iU;rw[HA k h];cases b:cL 10 k with
 |nil=>exact absurd b (GY 10 k)
 |cons a r=>rfl
def xpg(d:Nat)(l:List UInt8)(c:UInt8)(m:Mem):aI (aG (d+3)) DN [Tx l,U8 c.toNat] m=some (I (Lib.indexByte l c),m):=by refine Ans.eR (m:=m) ?_ rfl rfl;unfold Ans;rw[x8i];unfold kh aU PM;simp only[ZA,aC];exact⟨_,rfl⟩
def xpa(d:Nat)(s:List UInt8)(m:Mem):∃M,sH (aG (d+1)) O8 [Tx s] m=some (.clo yT [.ptr (m.next,0,1) 0 0],M) /\
    M.get (m.next,0,1)=some (.row [Tx s] 0 false)/\M.next=m.next+1/\∀j:Id,j.1<m.next->M.get j=m.get j:=by
 have e:aG (d+1) [] O8 [Tx s] ⟨[],m.next⟩=some (.clo yT [.ptr (m.next,0,1) 0 0],(⟨[],m.next+1⟩:Mem).new (m.next,0,1) (.row [Tx s] 0 false)):=(by rw[x8h];rfl);obtain⟨M,f,g,a⟩:=gm (m:=m) (l:=[Tx s]) rfl e;refine⟨M,f,?_,g,λj b=>?_⟩
 .rw[a,aF (bS _)];simp
 .rw[a,aB (by omega)]
def ycw(d:Nat){hh:FHs}{id:Id}{h:List AV->Mem->Option Mem}{s:List UInt8}(Z:s.length<=100000)(O:oF hh id=some h){i2:Id}{m0:Mem}(g2:m0.get i2=some (.row [Tx s] 0 false))(b:List (List UInt8)->Mem->Prop)(g:Mem->Prop)(A:∀a m l,b a m->b a (m.set i2 (.row [Tx l] 0 false)))(P:∀a w C m,iU s=a++w::C->b a m->∃e,h [Tx w] m=some e/\((jW e.get id=true/\b (a++[w]) e/\e.get i2=m.get i2)\/(jW e.get id=false/\g e)))(h0:b [] ⟨m0.hp,m0.next+1⟩) :
    ∃o,aG (d+4) hh yT [.yld id,.ptr i2 0 0] m0=some (.tup [],o)/\(b (iU s) o\/g o):=by
 rw[x8g];unfold kg;have e2:(⟨m0.hp,m0.next+1⟩:Mem).get i2=some (.row [Tx s] 0 false):=g2;simp only
 generalize (⟨m0.hp,m0.next+1⟩:Mem)=m at *
 generalize m0.next=u;have ld:∀{m:Mem} {i:Id} {x:AV},m.get i=some (.row [x] 0 false)->x.one=true->aA false 1 (.ptr i 0 0) m=some x:=λhg hx=>by simp[hg]
 have D:∀(n j:Nat) (r:List UInt8) (a:List (List UInt8)) (m:Mem) (Y:Nat),r.length<n->n<=j->r.length<=100000->iU s=a++iU r->m.get i2=some (.row [Tx r] 0 false)->b a m ->
  ∃o,Y7 (aG (d+3)) hh u j (.yld id) (.ptr i2 0 0) m Y=some (.tup [],o)/\(b (iU s) o\/g o):=by
  intro n;induction n with
  |zero=>intro j r a m Y hn;omega
  |succ n X=>
   intro j r a m Y hn hj hr p y J;obtain⟨j,rfl⟩:∃k,j=k+1:=⟨j-1,by omega⟩;simp only[Y7];unfold ud;simp only[ld y rfl,aC,hZ,fT];by_cases N:r=[]
   .subst N;simp only[jA,show decide ((0:Int)<((0:Nat):Int))=false from rfl,aT];refine⟨m,rfl,.inl ?_⟩;rw[p,xgh,hW];exact J
   have E:(0:Int)<(r.length:Int):=(by have:=HQ.mpr N;omega);simp only[E,bB,aS];unfold ue uf;have F:=λm=>xpg d r 10 m
   rw[show((10:UInt8).toNat:Int)=10 from rfl]at F;simp only[ld y rfl,aC];rw[show(AV.sc (.int .u8 10))=U8 10 from rfl];simp only[F,aC,sG];rcases V5 10 r with ⟨M,R⟩|⟨i,M,R,q3,W⟩
   .rw[M];simp only[show decide ((0:Int)<=-1)=false from rfl,aT,ld y rfl,aC];rw[xgg N R]at p;rw[show(AV.sc (.string ⟨#[]⟩))=Tx []from rfl,iB (z:=1) (x:=Tx []) y rfl (by simp) rfl];have hset:cH [Tx r] 0 (Tx []).cells=[Tx []]:=rfl;rw[hset];unfold IE;obtain⟨e,L,f⟩:=P a r [] (m.set i2 (.row [Tx []] 0 false)) p (A _ _ _ J);simp only[xhi O L,aC];rcases f with ⟨t,f,H⟩|⟨t,f⟩
    .rw[t];simp only[eG,cE,aT,aC];rw[Mem.bG,aF rfl]at H;refine X j [] (a++[r]) e _ (by simp;omega) (by omega) (by simp) (by rw[p,xgh];simp) H f
    .rw[t];simp only[eG,cC,aS,aC];exact⟨e,rfl,.inr f⟩
   .rw[M];have hi:(0:Int)<=(i:Int):=(by omega);have K:iU r=(r.take i++[10])::iU (r.drop (i+1)):=by
     conv=>lhs;rw[<-vH i r,W]
     exact xgi _ q3
    rw[K]at p;have ht:r.take (i+1)=r.take i++[10]:=(by rw[List.take_add_one];have:r[i]?=some 10:=(by have Q:=congrArg List.head? W;rw[HS]at Q;exact Q);rw[this];rfl);have w2:=gJ i (by omega);simp only[hi,bB,aS,ld y rfl,aC,dS,w2,y5 (show i+1<=r.length by omega),BT (show i+1<=r.length by omega),ht];rw[iB (z:=1) (x:=Tx (r.drop (i+1))) y rfl (by simp) rfl];have hset:cH [Tx r] 0 (Tx (r.drop (i+1))).cells=[Tx (r.drop (i+1))]:=rfl;rw[hset];unfold IE;obtain⟨e,L,f⟩:=P a (r.take i++[10]) _ (m.set i2 (.row [Tx (r.drop (i+1))] 0 false)) p (A _ _ _ J);simp only[xhi O L,aC];rcases f with ⟨t,f,H⟩|⟨t,f⟩
    .rw[t];simp only[eG,cE,aT,aC];rw[Mem.bG,aF rfl]at H;refine X j (r.drop (i+1)) (a++[r.take i++[10]]) e _ (by simp;omega) (by omega) (by simp;omega) (by rw[p];simp) H f
    .rw[t];simp only[eG,cC,aS,aC];exact⟨e,rfl,.inr f⟩
 exact D (s.length+1) NN s [] m _ (by omega) (by rw[dB];omega) Z rfl e2 h0
def nG(l:List UInt8):Bool:=decide (l.getLast?=some 10)
def xpi(d:Nat){l:List UInt8}(n:l.length<=100000)(m:Mem):aI (aG (d+1)) FT [Tx l,Tx [10]] m=some (B (nG l),m):=by
 refine Ans.eR (m:=m) ?_ rfl rfl;unfold Ans;rw[yca];unfold si aU XD;have b:eD (Tx [10])=some (I 1):=hZ [10];simp only[mem0,hZ,b,aC,sG];by_cases c:l=[]
 .subst c;simp only[jA,show decide ((1:Int)<=((0:Nat):Int))=false from rfl,fA,dO,iC,cT,aC,cS];exact⟨_,rfl⟩
 .have o:=HQ.mpr c;have e:(1:Int)<=(l.length:Int):=(by omega);have f:cJ ((l.length:Int)-1)=((l.length-1:Nat):Int):=(by rw[bU];omega);have a:(l.drop (l.length-1)=[10])↔l.getLast?=some 10:=by
   rw[List.getLast?_eq_getElem?];constructor
   .intro h;have:=congrArg List.head? h;rw[HS]at this;exact this
   .intro h;obtain⟨i,j⟩:=lI.mp h;rw[Y3 i,j,show l.length-1+1=l.length by omega,List.drop_length]
  simp only[e,bB,fA,dO,iC,bC,aC,hZ,b,mZ,f,BT (show l.length-1<=l.length by omega),oT,cS];have g:decide (l.drop (l.length-1)=[10])=nG l:=decide_eq_decide.mpr a;rw[g];exact⟨_,rfl⟩
def xpp(d:Nat){l:List UInt8}(e:l.length<=100000)(m:Mem):aI (aG (d+3)) DO [Tx l,Tx [10]] m=some (.tup [Tx (if nG l=true then l.dropLast else l),B (nG l)],m):=by
 have f:∀m,aI (aG (d+2)) FU [Tx l,Tx [10]] m=some (.tup [Tx (if nG l=true then l.dropLast else l),B (nG l)],m):=λm=>by
  refine Ans.rT (m:=m) ?_ rfl rfl;unfold Ans;rw[ycb];unfold sj aU XF;have a:eD (Tx [10])=some (I 1):=hZ [10];have g:=λm=>xpi d e m
  simp only[mem0,g,aC,eG];cases i:nG l
  .simp only[cC,aS,fQ,cU];exact⟨_,rfl⟩
  .have b:l≠[]:=(by rintro rfl;cases i);have j:=HQ.mpr b;have h:cJ ((l.length:Int)-1)=((l.length-1:Nat):Int):=(by rw[bU];omega);simp only[cE,aT,hZ,a,aC,mZ,h,y5 (show l.length-1<=l.length by omega),cI,List.dropLast_eq_take];exact⟨_,rfl⟩
 refine Ans.rT (m:=m) ?_ rfl rfl;unfold Ans;rw[x8l];unfold km aU PP;simp only[mem0,f,aC,lY,kG,kH];exact⟨_,rfl⟩
def tU(d:Nat)(a b c:Int)(m:Mem):aI (aG (d+1)) rI [I a,I b,I c] m=some (B (wi a b c),m):=by refine eR rfl (m':=⟨[],1⟩) ?_ rfl;rw[yal];unfold pg hJ TX wi;by_cases h:b<=a<;>by_cases e:a<=c<;>simp[h,e,mem0]
def KF(d:Nat)(b:Bool)(m:Mem):aI (aG (d+1)) pS [B b] m=some (I (bif b then 0 else 2),m):=by refine eR rfl (m':=⟨[],1⟩) ?_ rfl;rw[yaq];cases b<;>rfl
def x29(f:aJ)(Z:FHs)(u:Nat){s:ByteArray}{a:AV}(h:Sl mH a s.data.toList)(P:s.size<=1000):∀(d:List UInt8) (k j:Nat) (m:Mem) (Y:Nat),s.data.toList.drop k=d->d.length<j ->
    J2 f Z u j (T s) a (I s.data.toList.length) (I k) m Y=some (B (pQ k d&&(decide (0<s.size)&&decide (s.size<=12))),m):=by
 intro d;have H:s.data.toList.length=s.size:=rfl;have J:gY s ⟨#[]⟩=decide (s.size=0):=by
  unfold gY;rw[ByteArray.toList_eq,ByteArray.toList_eq];cases Z:s.data.toList with
  |nil=>have:s.size=0:=(by show s.data.size=0;rw[<-qN,Z];rfl);simp[this]
  |cons x r=>have:s.size=r.length+1:=(by show s.data.size=_;rw[<-qN,Z];rfl);simp[this]
 have o (x y:Operand) (a b:ByteArray):bP prog .neq bN x y (T a) (T b)=some (B (!gY a b)):=(by kernel_rfl);induction d with
 |nil=>
  intro k j m Y g i;obtain⟨j,rfl⟩:=dD i;have l:¬((k:Int)<(s.data.toList.length:Int)):=(by have:=gF.mp g;omega);simp only[J2];unfold UO yc;simp only[bV,l,bO,aT,aC,o,J];by_cases p:s.size=0
  .simp[p,pQ]
  .simp[p,pQ,show 0<s.size by omega];try omega
 |cons e r O=>
  intro k j m Y g i;obtain⟨j,rfl⟩:=dD i;obtain⟨l,N,g⟩:=gB g;have hk':(k:Int)<(s.data.toList.length:Int):=(by omega);have ix:=h.ix KO l;have ld:=ct (m:=m) l;have next:∀Y,J2 f Z u j (T s) a (I s.size) (I (cJ ((k:Int)+1))) m Y=some (B (pQ (k+1) r&&(decide (0<s.size)&&decide (s.size<=12))),m):=λY=>by rw[bU];exact O (k+1) j m Y g (by simp at i;omega)
  rw[N]at ld;have K:decide ((k:Int)=0)=!decide (0<k):=(by by_cases h:0<k<;>simp[h]<;>omega);simp only[J2];unfold UO;simp only[bV,hk',bB,aS,aC,ix,ld,BZ];simp only[pQ,NF];generalize (e.toNat:Int)=c;have L:decide (c<48)=!decide (48<=c):=(by by_cases h:48<=c<;>simp[h]<;>omega);have M:decide (57<c)=!decide (c<=57):=(by by_cases h:c<=57<;>simp[h]<;>omega);by_cases t:97<=c<;>by_cases w:c<=122<;>by_cases A:65<=c<;>by_cases C:c<=90<;>by_cases D:48<=c<;>by_cases E:c<=57<;>by_cases F:c=45 <;>
   first
   |(exfalso;omega)
   |(by_cases n:k=0
     .simp[t,w,A,C,D,E,F,n,BZ,ZH]
      try (rw[n]at next;exact next _)
     .simp[t,w,A,C,D,E,F,n,show 0<k by omega,BZ,ZH,xqa,xqb,xqc,L,M,next])
def xbp(d:Nat)(s:ByteArray)(m:Mem)(g:s.size<=1000):aI (aG (d+1)) wE [T s] m=some (B (nmOK s),m):=by
 refine eR rfl (m':=⟨[],1⟩) ?_ rfl;rw[yay];have f:aM prog qQ (.aN (s.data.toList.flatMap mH) s.data.toList.length false)=some (I s.data.toList.length):=(Sl.lit (enc:=mH) s.data.toList false).len KN;have h:s.data.toList.length=s.size:=rfl;have i:=λY=>x29 (aG d) [] 0 (Sl.lit (enc:=mH) s.data.toList false) g s.data.toList 0 NN ⟨[],1⟩ Y rfl (by rw[dB];omega)
 unfold qa bQ UN yb nmOK;simp only[fq,f,aC,mem0];have e:∀a b c:Bool,(c&&(a&&b))=(a&&b&&c):=(by decide);rw[<-e];exact i _
def jL(s:ByteArray)(l:List ByteArray):Int:=bif !nmOK s then 4 else bif l.any (λy=>gY y s)then 5 else 0
def x26(b:aJ)(u:Nat){s:ByteArray}{n:AV}{l:List ByteArray}(D:l.length<=1000)(t:∀(k:Nat) (h:k<l.length) (m:Mem),∃d,fD b [] 2 n [I k] m=some (T l[k],d)):∀(a:List ByteArray) (k j:Nat) (m:Mem) (Y:Nat),l.drop k=a->a.length<j ->
    ∃d,AK b [] u j (T s) n (I l.length) (I k) m Y=some (I (bif a.any (λy=>gY y s)then 5 else 0),d):=by
 intro a;induction a with
 |nil=>intro k j m Y f g;obtain⟨j,rfl⟩:=dD g;have i:¬((k:Int)<(l.length:Int)):=(by have:=gF.mp f;omega);simp only[AK];unfold UK ya;simp[i]
 |cons e r C=>
  intro k j m Y f g;obtain⟨j,rfl⟩:=dD g;obtain⟨i,w,f⟩:=gB f;have hk':(k:Int)<(l.length:Int):=(by omega);obtain⟨x,o⟩:=t k i m;rw[w]at o;simp only[AK];unfold UK;simp only[bV,hk',bB,aS,aC,o,yE];cases p:gY e s with
  |true=>simp[p]
  |false=>obtain⟨d,A⟩:=C (k+1) j x (Y+10) f (by simp at g;omega);refine⟨d,?_⟩;simp only[aT,dS,aC];rw[bU];simp only[Y4,p,IB];exact A
def xks(d:Nat){s:ByteArray}{fv:AV}{l:List ByteArray}(Z:s.size<=1000)(b:l.length<=1000)(e:∀(k:Nat) (h:k<l.length) (m:Mem),∃a,fD (aG (d+1)) [] 2 fv [I k] m=some (T l[k],a)):∃a,aG (d+2) [] rK [T s,fv,I l.length] mem0=some (I (jL s l),a):=by
 rw[yav];unfold px hJ UJ jL;simp only[xbp d s _ Z,aC];cases g:nmOK s with
 |false=>simp
 |true=>obtain⟨a,f⟩:=x26 (aG (d+1)) 0 (s:=s) b e l 0 NN ⟨[],1⟩ 6 rfl (by rw[dB];omega);refine⟨a,?_⟩;simp only[eG,aC,cE,aT,cT];unfold xz;exact f
end Go.Ix
namespace Go.Ix
open Go.Proofs
variable{P:Program}
def lR{α β:Type}(f:α->Sem β):∀s:Sem α,bJ P (s >>= f)=(bJ P s).bind λa=>bJ P (f a):=by
 intro s;show bJ P (Sem.bind s f)=_;induction s with
 |pure a=>rfl
 |program k b=>exact b P
 |mark x k b=>exact b
 |_=>rfl
theorem sK{α:Type}(a:α):bJ P (pure a:Sem α)=some a:=rfl
theorem bi:bJ P program=some P:=rfl
def DC{t:TypeId}{d:TypeDesc}(h:P.underlying t=some d):bJ P (underlying t)=some d:=by simp only[underlying,lR,bi,aC,h];rfl
def bj(d:Nat)(t:TypeId)(e g:Array Value)(h:P.underlying t=some (.struct (P.fieldsOf t)))(l:P.stoodInHeld t=false) :
    bJ P (Op.equalIn (d+1) t (.agg e) (.agg g))=bJ P (Op.eqFields d e g (P.fieldsOf t).toList):=by
 simp only[Op.equalIn,lR,DC h,aC,bi,l,fQ,cU];rw[<-Array.forIn_toList];generalize (P.fieldsOf t).toList=i;clear h;induction i with
 |nil=>simp[Op.eqFields,sK]
 |cons f i j=>
  simp only[List.forIn_cons,Op.eqFields,lR];split
  .simp only[lR];generalize bJ P (part f.type e f.offset)=r1;cases r1 with
   |none=>rfl
   |some a=>
    generalize m:bJ P (part f.type g f.offset)=r2;cases r2 with
    |none=>simp
    |some b=>
     simp only[aC];generalize bJ P (Op.equalIn d f.type a b)=r3;cases r3 with
     |none=>rfl
     |some r=>
      cases r
      .rfl
      .exact j
  .exact j
def DD(d:Nat)(t:TypeId)(k e:IntKind)(a b:Int)(h:P.underlying t=some (.int e)):bJ P (Op.equalIn (d+1) t (.int k a) (.int k b))=some (a == b):=by simp[Op.equalIn,lR,DC h,sK]
def xy1(a:BinOp)(t:TypeId)(x y:Operand)(b d:Array Value)(e:P.eqGuardType P.depth t=false):bJ P (eqGuard a t x y (.agg b) (.agg d))=some ():=by cases a<;>simp[eqGuard,lR,bi,sK,e]
def CU{t:TypeId}{x y:Operand}{xs ys:List Value}{r:Bool}(d:P.eqGuardType P.depth t=false)(e:bJ P (Op.equalIn 10000 t (.agg xs.toArray) (.agg ys.toArray))=some r)(h:∃k,vT k=some xs) :
    ∀a b,vT a=some xs->vT b=some ys->bP P .neq t x y (.agg a) (.agg b)=some (B (!r)):=by
 intro a b f g;refine xdr ?_;simp only[xE,dL,f,g,lR,xy1 _ _ _ _ _ _ d,aC];have:bJ P (binOp .neq t (.agg xs.toArray) (.agg ys.toArray))=some (.bool (!r)):=(by show bJ P (do pure (Value.bool (!(<-Op.equal t (.agg xs.toArray) (.agg ys.toArray)))))=_;simp only[lR,Op.equal,Op.maxDepth,e,aC,sK]);rw[this];rfl
def BW:prog.underlying dP=some (.int .i64):=by kernel_rfl
def xit(d:Nat)(i j:Array Value)(b e:Nat->Int):∀a:List Field,(∀f∈a,f.name≠"_"/\f.type=dP/\bJ prog (part dP i f.offset)=some (.int .i64 (b f.offset))/\bJ prog (part dP j f.offset)=some (.int .i64 (e f.offset))) ->
    bJ prog (Op.eqFields (d+1) i j a)=some (a.all λf=>b f.offset == e f.offset)
 |[],_=>rfl
 |f::a,h=>by
  obtain⟨n,o,p,r⟩:=h f (eS ..);have m:=xit d i j b e a λg l=>h g (dU _ l)
  simp only[Op.eqFields,n,ne_eq,not_false_eq_true,cI,o,lR,p,r,aC,DD _ _ _ _ _ _ BW,dY];cases b f.offset == e f.offset
  .rfl
  .exact m
def fe{t:TypeId}{offs:List Nat}{a b:Array Value}{ga gb:Nat->Int}(h:prog.underlying t=some (.struct (prog.fieldsOf t)))(Z:prog.stoodInHeld t=false)(d:((prog.fieldsOf t).toList.map λf=>(f.type,f.offset,decide (f.name = "_")))=offs.map λo=>(dP,o,false))(i:∀o∈offs,bJ prog (part dP a o)=some (.int .i64 (ga o))/\bJ prog (part dP b o)=some (.int .i64 (gb o))) :
    bJ prog (Op.equalIn 10000 t (.agg a) (.agg b))=some (offs.all λo=>ga o == gb o):=by
 rw[show(10000:Nat)=9998+1+1 from rfl,bj _ _ _ _ h Z];generalize (prog.fieldsOf t).toList=g at d;rw[xit 9998 a b ga gb g]
 .have:(g.map λf=>f.offset)=offs:=(by have:=congrArg (List.map λx:TypeId×Nat×Bool=>x.2.1) d;simpa[List.map_map,Function.comp_def]using this);rw[<-this,List.all_map];rfl
 .intro f j;have l:(f.type,f.offset,decide (f.name = "_"))∈offs.map λo=>(dP,o,false):=by rw[<-d];exact ji j
  obtain⟨o,m,e⟩:=fR.mp l;simp only[bK]at e;obtain⟨n,p,r⟩:=e;subst p;exact⟨of_decide_eq_false r.symm,n.symm,i _ m⟩
structure Ent where
 by_:List UInt8
 tx:List UInt8
def Ent.c(x:Ent):List AV:=[Tx x.by_,Tx x.tx]
theorem Ent.len(x:Ent):x.c.length=2:=rfl
theorem Ent.stl(x:Ent):x.c.all aP=true:=rfl
def lM:prog.underlying gX=some (.slice lL):=by kernel_rfl
def K9:oR=[Tx [],Tx []]:=by kernel_rfl
def iv(x:Ent):Prop:=x.by_.length<=60005/\x.tx.length<=60005
def ZX(n:Nat)(l:List UInt8):Nat:=l.foldl (λn b=>(257*n+b.toNat+1) % 998244353) n
def qD(x:Ent):List UInt8:=x.by_++[10]++x.tx++[10]
def iS(n:Nat)(x:Ent):Nat:=ZX n (qD x)
def xr6{n:Nat}(h:n<998244353):∀l:List UInt8,ZX n l<998244353:=λl=>by
 induction l generalizing n with
 |nil=>exact h
 |cons b l a=>exact a (xK _ (by omega))
def A9{n:Nat}(h:n<998244353)(x:Ent):iS n x<998244353:=xr6 h _
def yc8(b:UInt8):lO prog eI dP (U8 b.toNat)=some (I b.toNat):=by have:=b.toNat_lt;rw[ycx,xny (by omega) (by omega)]
def xr4{n:Nat}(h:n<998244353)(b:UInt8):cJ (cJ (cJ (257*(n:Int))+(b.toNat:Int))+1)=((257*n+b.toNat+1:Nat):Int):=by have:=b.toNat_lt;rw[bU (n:=257*(n:Int)) (by omega) (by omega),bU (n:=257*(n:Int)+(b.toNat:Int)) (by omega) (by omega),bU];omega
def xr5(k:Nat):(((k:Nat):Int)).tmod 998244353=((k % 998244353:Nat):Int):=by rw[Int.tmod_eq_emod_of_nonneg (by omega)];omega
def xgr(a:aJ)(Z:FHs)(u:Nat){l:List UInt8}(i:l.length<=1000000):∀(b:List UInt8) (k j n:Nat) (m:Mem) (Y:Nat),l.drop k=b->b.length<j->n<998244353 ->
    AH a Z u j (I n) (.aN (l.flatMap mH) l.length false) (I l.length) (I k) m Y=some (I (ZX n b),m)
 |[],k,j,n,m,Y,d,g,h=>by obtain⟨j,rfl⟩:=dD g;have f:¬((k:Int)<(l.length:Int)):=(by have:=gF.mp d;omega);simp only[AH];unfold UB xv;simp only[bV,f,bO,aC,aT];rfl
 |e::r,k,j,n,m,Y,d,g,h=>by obtain⟨j,rfl⟩:=dD g;obtain⟨f,w,d⟩:=gB d;have hk':(k:Int)<(l.length:Int):=(by omega);have ix:=(Sl.lit (enc:=mH) l false).ix KO f;have ld:=ct (m:=m) f;rw[w]at ld;have o:=gJ k (by omega);have p:(998244353:Int)≠0:=(by decide);have t:=xgr a Z u i r (k+1) j ((257*n+e.toNat+1) % 998244353) m (Y+14) d (by simp at g;omega) (xK _ (by omega));simp only[AH];unfold UB;simp only[bV,hk',bB,aS,aC,ix,ld,LD,yc8,dS,xr4 h,aa p,xr5,o];exact t
theorem x6t(x:Ent):x.c.all AV.one=true:=rfl
def xbi(d:Nat){n:Nat}(f:n<998244353){x:Ent}(h:iv x)(m:Mem):aI (aG (d+1)) S0 [I n,.agg x.c] m=some (I (iS n x),m):=by
 refine Ans.eR (m:=m) ?_ rfl rfl;unfold Ans;rw[yan];unfold pj aU UA;dsimp only
 simp only[mem0,iE,nH,x6t,bC];obtain⟨a,b⟩:∃a:Mem,a=(⟨[],0+1⟩:Mem).new (0,0,3) (.row x.c 0 false):=⟨_,rfl⟩;have g:a.get (0,0,3)=some (.row x.c 0 false):=(by rw[b];simp);rw[<-b];have i:aA false 1 (.ptr (0,0,3) 0 0) a=some (Tx x.by_):=(by rw[aQ g];rfl);have j:aA false 1 (.ptr (0,0,3) 0 1) a=some (Tx x.tx):=(by rw[aQ g];rfl);unfold xu;obtain⟨p,r⟩:=h;rw[show(AV.sc (.string ⟨#[10]⟩))=Tx [10]from rfl];simp only[cW,bW,nK,aC,i,j];rw[yB _ _ (by simp;omega)];simp only[aC];rw[yB _ _ (by simp;omega)];simp only[aC];rw[yB _ _ (by simp;omega)];have l:(qD x).length<=1000000:=(by unfold qD;simp;omega);have o:lO prog bN qQ (Tx (qD x))=some (.aN ((qD x).flatMap mH) (qD x).length false):=(by have:=fq (⟨(qD x).toArray⟩:ByteArray);simpa using this);have e:aM prog qQ (.aN ((qD x).flatMap mH) (qD x).length false)=some (I (qD x).length):=(Sl.lit (enc:=mH) (qD x) false).len KN;rw[show x.by_++[10]++x.tx++[10]=qD x from rfl];simp only[aC,o,e];exact⟨a,xgr (aG d) [] 0 l (qD x) 0 NN n a _ rfl (by rw[dB];omega) f⟩
def xdd(n:Nat)(L:List Ent):Nat:=L.foldl iS n
def cu{m:Mem}{L:List Ent}{k:Nat}(a:k<L.length):aA true 2 (.aH ((L.drop k).flatMap Ent.c)) m=some (.agg L[k].c):=iH Ent.len (by omega) a
end Go.Ix
namespace Go.Proofs.YtjngclcijnpooaaGreatDoor
open Go.ChangeShapes Go.WideShapes Go.ChangeAt Go.RowKit Go.Ix
def CG{α:Type}{a:α->List AV}{P:Program}{t e:TypeId}{z:AV}(d:P.underlying t=some (.slice e))(g:∀r,r.length=P.cellsOf e->Sh P e r->∃x,r=a x)(f:Sh P t [z]):∃l,Sl a z l/\l.length<=maxLen:=by
 rcases Sh.slice_inv d f with h1|⟨rows,x,h1,h2,h3,h4⟩
 .simp at h1;exact⟨[],Or.inl ⟨h1,rfl⟩,xJ _⟩
 .obtain⟨l,rfl⟩:=xd1 (enc:=a) λr b=>g r (h2 r b) (h3 r b)
  simp at h1;exact⟨l,Or.inr ⟨x,by simpa[List.flatMap]using h1⟩,by simpa using h4⟩
def x6s{r:List AV}(d:r.length=prog.cellsOf lL)(i:Sh prog lL r):∃x:Ent,r=x.c:=by
 obtain⟨n,o,u⟩:=V7 (t:=lL) (l:=[(bN,0),(bN,1)]) (by kernel_rfl);obtain⟨-,b⟩:=Sh.M9 o i;have m:prog.cellsOf lL=2:=(by kernel_rfl);have a:prog.cellsOf bN=1:=(by kernel_rfl);rw[m]at d;match r,d with
 |[x,y],_=>
  have:∀p∈n.toList.map (λf=>(f.type,f.offset)),Sh prog p.1 (([x,y].drop p.2).take (prog.cellsOf p.1)):=λp j=>by obtain⟨f,w,rfl⟩:=fR.mp j;exact b f w
  rw[u]at this;have e:=this _ (eS ..);have g:=this (bN,1) (by simp);simp only[a,bF,jR,kF,dR]at e g;obtain⟨s,Z⟩:=CM e;obtain⟨t,h⟩:=CM g;simp at Z h;exact⟨⟨s.data.toList,t.data.toList⟩,by rw[Z,h,xku s,xku t];rfl⟩
def log_in{a:AV}(h:ArgSh prog gX a):∃l,Sl Ent.c a l/\l.length<=9223372036854775807:=
 CG (e:=lL) (by kernel_rfl) (λr b d=>x6s b d) (h.slice (t:=gX) (e:=lL) (by kernel_rfl))
end Go.Proofs.YtjngclcijnpooaaGreatDoor
namespace Go.Ix
structure Pl where
 x:Int
 y:Int
 z:Int
deriving DecidableEq
def ND(a b c:Pl):Int:=(b.x-a.x)*(c.y-a.y)-(b.y-a.y)*(c.x-a.x)
def trP(n:Int):Int:=if n > 0 then 1 else if n<0 then -1 else 0
def pK(a b p:Pl):Int:=trP (ND a b p)
def xi1(a b p:Pl):Int:=(a.x-p.x)*(b.x-p.x)+(a.y-p.y)*(b.y-p.y)
def mB(a b p:Pl):Bool:=decide (pK a b p=0)&&decide (xi1 a b p<=0)
def cj(a b c d:Pl):Bool:=mB a b c||mB a b d||mB c d a||mB c d b||(decide (pK a b c≠pK a b d)&&decide (pK c d a≠pK c d b))
def xeg(a b p:Pl):Bool:=decide (decide (a.y > p.y)≠decide (b.y > p.y))&&decide (pK a b p=if b.y<a.y then -1 else 1)
open Go.Proofs
def LI{v:AV}{b:aJ}{f:FuncId}{l:List AV}(h:((b [] f l mem0).bind λp=>Go.Ix.frz p.2.get bR p.1)=some v):RetF (λa=>a=v) (b [] f l mem0):=by rw[pE]at h;obtain⟨⟨a,d⟩,e,g⟩:=h;exact⟨a,d,v,e,g,rfl⟩
def Pl.c(p:Pl):List AV:=[I p.x,I p.y,I p.z]
theorem Pl.len(p:Pl):p.c.length=3:=rfl
theorem Pl.bD(p:Pl):p.c.all aP=true:=rfl
def Pl.k(p:Pl):AV:=.agg [I p.x,I p.y]
def fF(s:Pl×Pl):List AV:=[I s.1.x,I s.1.y,I s.2.x,I s.2.y]
theorem sD(s:Pl×Pl):(fF s).length=4:=rfl
theorem xr7(s:Pl×Pl):(fF s).all aP=true:=rfl
def kB(p:Pl):Prop:=(-100000000<=p.x/\p.x<=100000000)/\(-100000000<=p.y/\p.y<=100000000)
def MD{u v:Int}(d:-200000000<=u/\u<=200000000)(e:-200000000<=v/\v<=200000000):-40000000000000000<=u*v/\u*v<=40000000000000000:=by have a:u.natAbs<=200000000:=(by omega);have b:v.natAbs<=200000000:=(by omega);have f:(u*v).natAbs<=200000000*200000000:=(by rw[xll];exact X8 a b);omega
def xbm(d:Nat)(a b c e:Int)(m:Mem):aI (aG (d+1)) GA [.agg [I a,I b],.agg [I c,I e]] m=some (.agg [I (cJ (a-c)),I (cJ (b-e))],m):=eY rfl (LI (by kernel_rfl)) m
def xok(d:Nat)(a b c e:Int)(m:Mem):aI (aG (d+1)) xfu [.agg [I a,I b],.agg [I c,I e]] m=some (I (cJ (cJ (a*e)-cJ (b*c))),m):=eY rfl (LI (by kernel_rfl)) m
def xoj(d:Nat)(a b c e:Int)(m:Mem):aI (aG (d+1)) xft [.agg [I a,I b],.agg [I c,I e]] m=some (I (cJ (cJ (a*c)+cJ (b*e))),m):=eY rfl (LI (by kernel_rfl)) m
def xbs(d:Nat)(p:Pl)(m:Mem):aI (aG (d+1)) MB [.agg p.c] m=some (p.k,m):=eY rfl (LI (by kernel_rfl)) m
def L3(d:Nat){a b p:Pl}(i:kB a)(j:kB b)(l:kB p)(m:Mem):aI (aG (d+2)) uU [.agg (fF (a,b)),p.k] m=some (I (pK a b p),m):=by
 obtain⟨J,K⟩:=i;obtain⟨L,N⟩:=j;obtain⟨O,P⟩:=l;have n:cJ (b.x-a.x)=b.x-a.x:=bU;have o:cJ (b.y-a.y)=b.y-a.y:=bU;have r:cJ (p.x-a.x)=p.x-a.x:=bU;have t:cJ (p.y-a.y)=p.y-a.y:=bU;have F:=MD (u:=b.x-a.x) (v:=p.y-a.y) (by omega) (by omega);have H:=MD (u:=b.y-a.y) (v:=p.x-a.x) (by omega) (by omega);have w:cJ ((b.x-a.x)*(p.y-a.y))=(b.x-a.x)*(p.y-a.y):=bU;have A:cJ ((b.y-a.y)*(p.x-a.x))=(b.y-a.y)*(p.x-a.x):=bU;have C:cJ ((b.x-a.x)*(p.y-a.y)-(b.y-a.y)*(p.x-a.x))=ND a b p:=(by rw[bU];rfl);refine eY rfl ?_ m;rw[ycf];unfold sp aU XJ;obtain⟨M,e⟩:∃M:Mem,M=((⟨[],1⟩:Mem).new (0,0,2) (.row (fF (a,b)) 0 false)).new (0,0+1,3) (.row [I p.x,I p.y] 0 false):=⟨_,rfl⟩;have g:M.get (0,0,2)=some (.row [I a.x,I a.y,I b.x,I b.y] 0 false):=(by rw[e];simp[fF]);have D:M.get (0,1,3)=some (.row [I p.x,I p.y] 0 false):=(by rw[e];simp);have E:M.next=1:=(by rw[e];rfl);simp only[mem0,iE,nH,Pl.k,fF,dY,nP,vZ,iL,bC];rw[show(((⟨[],1⟩:Mem).new (0,0,2) (.row [I a.x,I a.y,I b.x,I b.y] 0 false)).new (0,0+1,3) (.row [I p.x,I p.y] 0 false))=M from e.symm];simp only[cW,aC,aQ g,bW,bF,dR,rd,cI,dW,jA,jR,kF,bS];simp[g,D,xbm,n,o,r,t,xok,w,A,C,dJ,tR,cY,E,pK,trP,show Nat.blt 0 1=true from rfl];by_cases f:0<ND a b p
 .simp[f];exact RetF.st rfl rfl
 .by_cases h:ND a b p<0
  .simp[f,h];exact RetF.st rfl rfl
  .simp[f,h];exact RetF.st rfl rfl
def vN(d:Nat){a b p:Pl}(f:kB a)(g:kB b)(h:kB p)(m:Mem):aI (aG (d+3)) pV [.agg (fF (a,b)),p.k] m=some (B (mB a b p),m):=by
 have i:=L3 d f g h;obtain⟨H,J⟩:=f;obtain⟨K,L⟩:=g;obtain⟨N,O⟩:=h;have o:cJ (a.x-p.x)=a.x-p.x:=bU;have r:cJ (a.y-p.y)=a.y-p.y:=bU;have t:cJ (b.x-p.x)=b.x-p.x:=bU;have w:cJ (b.y-p.y)=b.y-p.y:=bU;have E:=MD (u:=a.x-p.x) (v:=b.x-p.x) (by omega) (by omega);have F:=MD (u:=a.y-p.y) (v:=b.y-p.y) (by omega) (by omega);have A:cJ ((a.x-p.x)*(b.x-p.x))=(a.x-p.x)*(b.x-p.x):=bU;have C:cJ ((a.y-p.y)*(b.y-p.y))=(a.y-p.y)*(b.y-p.y):=bU;have D:cJ ((a.x-p.x)*(b.x-p.x)+(a.y-p.y)*(b.y-p.y))=xi1 a b p:=(by rw[bU];rfl);refine eY rfl ?_ m;rw[ych];unfold sr aU XM;obtain⟨M,e⟩:∃M:Mem,M=((⟨[],1⟩:Mem).new (0,0,2) (.row (fF (a,b)) 0 false)).new (0,0+1,3) (.row [I p.x,I p.y] 0 false):=⟨_,rfl⟩;have j:M.get (0,0,2)=some (.row [I a.x,I a.y,I b.x,I b.y] 0 false):=(by rw[e];simp[fF]);have l:M.get (0,1,3)=some (.row [I p.x,I p.y] 0 false):=(by rw[e];simp);have n:M.next=1:=(by rw[e];rfl);simp only[Pl.k,fF]at i;simp only[mem0,iE,nH,Pl.k,fF,dY,nP,vZ,iL,bC];rw[show(((⟨[],1⟩:Mem).new (0,0,2) (.row [I a.x,I a.y,I b.x,I b.y] 0 false)).new (0,0+1,3) (.row [I p.x,I p.y] 0 false))=M from e.symm];simp only[cW,aC,aQ j,aQ l,bW,bF,rd,cI,dW,jA,jR,kF,bS,i,iD];unfold mB;by_cases c:pK a b p=0
 .simp[c,aQ j,aQ l,rd,xbm,o,r,t,w,xoj,A,C,D,dJ,tR,cY,n,show Nat.blt 0 1=true from rfl];exact RetF.st rfl rfl
 .simp[c,dJ,tR,cY,n,show Nat.blt 0 1=true from rfl];exact RetF.st rfl rfl
def xoc(d:Nat){a b p q:Pl}(f:kB a)(g:kB b)(h:kB p)(i:kB q)(m:Mem):aI (aG (d+4)) FX [.agg (fF (a,b)),.agg (fF (p,q))] m=some (B (cj a b p q),m):=by
 have C:=L3 (d+1) f g h;have D:=L3 (d+1) f g i;have F:=L3 (d+1) h i f;have H:=L3 (d+1) h i g;have e:=vN d f g h;have j:=vN d f g i;have r:=vN d h i f;have u:=vN d h i g;refine eY rfl ?_ m;rw[ycg];unfold sq aU XL;obtain⟨M,w⟩:∃M:Mem,M=((⟨[],1⟩:Mem).new (0,0,2) (.row [I a.x,I a.y,I b.x,I b.y] 0 false)).new (0,0+1,3) (.row [I p.x,I p.y,I q.x,I q.y] 0 false):=⟨_,rfl⟩;have l:M.get (0,0,2)=some (.row [I a.x,I a.y,I b.x,I b.y] 0 false):=(by rw[w];simp);have n:M.get (0,1,3)=some (.row [I p.x,I p.y,I q.x,I q.y] 0 false):=(by rw[w];simp);have J:M.next=1:=(by rw[w];rfl);simp only[Pl.k,fF]at C D F H e j r u;simp only[mem0,iE,nH,fF,dY,nP,vZ,iL,bC];rw[show(((⟨[],1⟩:Mem).new (0,0,2) (.row [I a.x,I a.y,I b.x,I b.y] 0 false)).new (0,0+1,3) (.row [I p.x,I p.y,I q.x,I q.y] 0 false))=M from w.symm];simp only[cW,aC,aQ l,aQ n,bW,bF,rd,cI,dW,jA,jR,kF,bS];unfold cj;cases o:mB a b p
 .cases t:mB a b q
  .cases A:mB p q a
   .cases E:mB p q b
    .by_cases c:pK a b p=pK a b q
     .simp[o,t,A,E,e,aQ l,aQ n,rd,j,r,u,C,D,c,dJ,tR,cY,J,show Nat.blt 0 1=true from rfl];exact RetF.st rfl rfl
     .simp[o,t,A,E,e,aQ l,aQ n,rd,j,r,u,C,D,F,H,c,dJ,tR,cY,J,show Nat.blt 0 1=true from rfl];exact RetF.st rfl rfl
    .simp[o,t,A,E,e,aQ l,aQ n,rd,j,r,u];exact RetF.st rfl rfl
   .simp[o,t,A,e,aQ l,aQ n,rd,j,r];exact RetF.st rfl rfl
  .simp[o,t,e,aQ l,aQ n,rd,j];exact RetF.st rfl rfl
 .simp[o,e];exact RetF.st rfl rfl
def M3(a b p:Pl)(d e f:Nat):Mem:=(((⟨[],1⟩:Mem).new (0,0,d) (.row a.c 0 false)).new (0,0+1,e) (.row b.c 0 false)).new (0,0+2,f) (.row p.c 0 false)
def isPl(p:Pl):Bool:=(decide (-100000000<=p.x)&&decide (p.x<=100000000))&&(decide (-100000000<=p.y)&&decide (p.y<=100000000))&&(decide (-100000000<=p.z)&&decide (p.z<=100000000))
def GO{p:Pl}(h:isPl p=true):kB p:=by unfold isPl at h;simp only[cR,mP]at h;exact⟨h.1.1,h.1.2⟩
def xoh(d:Nat)(a b c:Int)(m:Mem):aI (aG (d+1)) FW [I a,I b,I c] m=some (B (decide (b<=a)&&decide (a<=c)),m):=by
 refine eY rfl ?_ m;rw[ycd];unfold sm hJ XG;by_cases h:b<=a
 .simp[mem0,h];exact RetF.st rfl rfl
 .simp[mem0,h];exact RetF.st rfl rfl
def x3g(d:Nat)(Z:FHs)(u:Nat)(i n:Int){a:AV}{l:List Int}(h:Sl intE a l)(A:l.length<=1000):∀(b:List Int) (k j:Nat) (m:Mem) (Y:Nat),l.drop k=b->b.length<j ->
    AY (aG (d+1)) Z u j (I i) (I n) a (I l.length) (I k) m Y=some (B (b.all λx=>decide (i<=x)&&decide (x<=n)),m):=by
 intro b;induction b with
 |nil=>intro k j m Y o f;obtain⟨j,rfl⟩:=dD f;have g:¬((k:Int)<(l.length:Int)):=(by have:=gF.mp o;omega);simp only[AY];unfold XR Z';simp[g]
 |cons e r y=>
  intro k j m Y o f;obtain⟨j,rfl⟩:=dD f;obtain⟨g,w,p⟩:=gB o;have hk':(k:Int)<(l.length:Int):=(by omega);have ix:=h.ix fL g;have ld:∀m,aA false 1 (.aH ((l.drop k).flatMap intE)) m=some (I e):=λm=>by rw[gV g,dK,w];rfl
  have t:=gJ k (by omega);simp only[AY];unfold XR;simp only[bV,hk',bB,aC,aS,ix,ld,xoh,eG];rw[dY];cases C:(decide (i<=e)&&decide (e<=n))
  .simp
  .simp only[cE,aT,dS,t,aC,gW];exact y (k+1) j m _ p (by simp at f;omega)
def xbu(d:Nat)(p:Pl)(m:Mem):aI (aG (d+3)) U0 [.agg p.c] m=some (I (if isPl p=true then 0 else 2),m):=by
 refine eY rfl ?_ m;rw[yck];unfold sw bQ XP;obtain⟨M,h⟩:∃M:Mem,M=((⟨[],1⟩:Mem).new (0,0,1) (.row [I p.x,I p.y,I p.z] 0 false)):=⟨_,rfl⟩;have g:M.get (0,0,1)=some (.row [I p.x,I p.y,I p.z] 0 false):=(by rw[h];simp);simp only[mem0,iE,nH,Pl.c,dY,nP,vZ,iL,bC];rw[<-h];have i:gI=[I 0]:=(by kernel_rfl);have a:∀{R:Type} (x y z:Int) (id:Id) (m:Mem) (q:AV->Mem->Option R),cV gI [(0,1,I x),(1,1,I y),(2,1,I z)] 3 1 id m q=q (.aN [I x,I y,I z] 3 true) m:=λx y z id m q=>by rw[i];simp[cV,iM,eQ,rU,cH]
 have b:∀m:Mem,aI (aG (d+2)) GB [I (-100000000),I 100000000,.aN [I p.x,I p.y,I p.z] 3 true] m=some (B ([p.x,p.y,p.z].all λx=>decide (-100000000<=x)&&decide (x<=100000000)),m):=λm=>by refine eY rfl ?_ m;rw[ycl];unfold sx hJ XQ Y';have f:Sl intE (.aN [I p.x,I p.y,I p.z] 3 true) [p.x,p.y,p.z]:=Or.inr ⟨true,rfl⟩;have:=x3g d [] 0 (-100000000) 100000000 f (by simp) [p.x,p.y,p.z] 0 NN ⟨[],1⟩ (0+1+3) rfl (by rw[dB];simp);simp only[mem0,f.len jH,aC];rw[show I ((0:Nat):Int)=I 0 from rfl]at this;rw[this];exact RetF.st rfl rfl
 simp only[cW,aQ g,bF,dR,bW,rd,aC,List.head?_cons,a,b,eG,fQ,cU];have e:([p.x,p.y,p.z].all λx=>decide (-100000000<=x)&&decide (x<=100000000))=isPl p:=(by unfold isPl;simp[Bool.and_assoc]);rw[e];cases isPl p
 .simp;exact RetF.st rfl rfl
 .simp;exact RetF.st rfl rfl
end Go.Ix
