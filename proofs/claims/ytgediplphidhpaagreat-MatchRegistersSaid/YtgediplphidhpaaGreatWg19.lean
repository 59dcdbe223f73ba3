import Derived.Shelf.Sort.Plain
import Derived.Ground.Names2Prog
import Derived.Test.YtgediplphidhpaaGreatFxTop
import Derived.Sort.Grow
import Derived.Sort.Row
import Derived.Test.YtgediplphidhpaaGreatFxTell
namespace Go.Proofs
open Go.Shelf Go.Sort Go.RowKit
def Tryz.lays189_ren:Go.Shelf.Ren:=⟨fun|189=>87|125=>111|257=>110|128=>130|129=>120|294=>121|295=>122|296=>123|297=>124|298=>125|299=>126|216=>127|300=>128|301=>129|328=>136|329=>137|330=>138|331=>139|332=>140|215=>116|343=>145|n=>n,fun|28=>78|3=>3|46=>190|0=>0|51=>119|53=>169|4=>4|183=>203|182=>202|131=>208|5=>5|9=>9|218=>216|222=>220|228=>224|229=>137|n=>n,fun|n=>n⟩
theorem Tryz.lays189:Go.Proofs.Lays.n189 Tryz.prog Tryz.lays189_ren:={
 mixed:=by kernel_rfl
 f125:=Tryz.func111.trans (congrArg some (by kernel_rfl))
 f128:=Tryz.func130.trans (congrArg some (by kernel_rfl))
 f129:=Tryz.func120.trans (congrArg some (by kernel_rfl))
 f189:=Tryz.func87.trans (congrArg some (by kernel_rfl))
 f215:=Tryz.func116.trans (congrArg some (by kernel_rfl))
 f216:=Tryz.func127.trans (congrArg some (by kernel_rfl))
 f257:=Tryz.func110.trans (congrArg some (by kernel_rfl))
 f294:=Tryz.func121.trans (congrArg some (by kernel_rfl))
 f295:=Tryz.func122.trans (congrArg some (by kernel_rfl))
 f296:=Tryz.func123.trans (congrArg some (by kernel_rfl))
 f297:=Tryz.func124.trans (congrArg some (by kernel_rfl))
 f298:=Tryz.func125.trans (congrArg some (by kernel_rfl))
 f299:=Tryz.func126.trans (congrArg some (by kernel_rfl))
 f300:=Tryz.func128.trans (congrArg some (by kernel_rfl))
 f301:=Tryz.func129.trans (congrArg some (by kernel_rfl))
 f328:=Tryz.func136.trans (congrArg some (by kernel_rfl))
 f329:=Tryz.func137.trans (congrArg some (by kernel_rfl))
 f330:=Tryz.func138.trans (congrArg some (by kernel_rfl))
 f331:=Tryz.func139.trans (congrArg some (by kernel_rfl))
 f332:=Tryz.func140.trans (congrArg some (by kernel_rfl))
 f343:=Tryz.func145.trans (congrArg some (by kernel_rfl))
 t0:=Tryz.underlying0
 a0:=Tryz.isAgg0
 z0:=Tryz.sizeOf0
 v0:=Tryz.zeroValue0
 t3:=Tryz.underlying3
 a3:=Tryz.isAgg3
 z3:=Tryz.sizeOf3
 v3:=Tryz.zeroValue3
 t4:=Tryz.underlying4
 a4:=Tryz.isAgg4
 z4:=Tryz.sizeOf4
 v4:=Tryz.zeroValue4
 t5:=Tryz.underlying5
 a5:=Tryz.isAgg5
 z5:=Tryz.sizeOf5
 v5:=Tryz.zeroValue5
 t9:=Tryz.underlying9
 a9:=Tryz.isAgg9
 z9:=Tryz.sizeOf9
 v9:=Tryz.zeroValue9
 t28:=Tryz.underlying78
 a28:=Tryz.isAgg78
 z28:=Tryz.sizeOf78
 v28:=Tryz.zeroValue78
 t46:=Tryz.underlying190
 a46:=Tryz.isAgg190
 z46:=Tryz.sizeOf190
 v46:=Tryz.zeroValue190
 t51:=Tryz.underlying119
 a51:=Tryz.isAgg119
 z51:=Tryz.sizeOf119
 v51:=Tryz.zeroValue119
 t53:=Tryz.underlying169
 a53:=Tryz.isAgg169
 z53:=Tryz.sizeOf169
 v53:=Tryz.zeroValue169
 t131:=Tryz.underlying208
 a131:=Tryz.isAgg208
 z131:=Tryz.sizeOf208
 v131:=Tryz.zeroValue208
 t182:=Tryz.underlying202
 a182:=Tryz.isAgg202
 z182:=Tryz.sizeOf202
 v182:=Tryz.zeroValue202
 t183:=Tryz.underlying203
 a183:=Tryz.isAgg203
 z183:=Tryz.sizeOf203
 v183:=Tryz.zeroValue203
 t218:=Tryz.underlying216
 a218:=Tryz.isAgg216
 z218:=Tryz.sizeOf216
 v218:=Tryz.zeroValue216
 t222:=Tryz.underlying220
 a222:=Tryz.isAgg220
 z222:=Tryz.sizeOf220
 v222:=Tryz.zeroValue220
 t228:=Tryz.underlying224
 a228:=Tryz.isAgg224
 z228:=Tryz.sizeOf224
 v228:=Tryz.zeroValue224
 t229:=Tryz.underlying137
 a229:=Tryz.isAgg137
 z229:=Tryz.sizeOf137
 v229:=Tryz.zeroValue137}
theorem Tryz.slices_Sort_int(blk off cap:Nat)(zs:List Int)(w:World)(hH:Holds (Value.int .i64) w blk off zs.toArray)(hblk:blk<w.heap.size)(hsz:zs.length<4611686018427387904) :
 Calls Tryz.prog 87 #[.slice (some ⟨blk,off,none⟩) zs.length cap] w λe w'=>
  e=.returned (.tuple #[])/\∃n os,w'=grow (putRow (Value.int .i64) (Sort.ahead w n) blk off (zs.mergeSort λx y=>decide (x<=y)).toArray) os:=Any.slices_Sort_int Tryz.lays189 blk off cap zs w hH hblk hsz
end Go.Proofs
set_option linter.unusedSimpArgs false
set_option linter.unusedVariables false
namespace Go.Ix
open Go Go.Proofs
theorem x149:∀{cs:List AV} {l:List Int},xs4 cs=some l->cs=l.map λx=>.sc (.int .i64 x)
 |[],l,h=>by simp[xs4]at h;subst h;rfl
 |a::cs,l,h=>by
  unfold xs4 at h
  split at h
  .cases ‹_::_=[]›
  .rename_i n r e
   cases e
   simp only[x194]at h
   obtain⟨l',h1,rfl⟩:=h
   rw[x149 h1];rfl
  .cases h
theorem argsV_1{E:Env}{w:World}{a:AV}{vs:Array Value}(h:ArgsV E w [a] vs):∃v,vs=#[v]/\E.V w a v:=by
 obtain⟨h1,h2⟩:=h
 have h1':vs.size=1:=h1
 refine⟨vs[0],?_,h2 0 a vs[0] rfl (x19i (by omega))⟩
 refine Array.ext (by simp[h1']) λi a b=>?_
 have:i=0:=by omega
 subst this
 rfl
theorem x16d{cs vs:List AV}{off:Nat}(h:off+vs.length<=cs.length):(xon cs off vs).length=cs.length:=by
 unfold xon
 simp
 omega
theorem x16e{cs vs:List AV}{off i:Nat}{a:AV}(h:off+vs.length<=cs.length)(ha:(xon cs off vs)[i]?=some a):(off<=i/\i<off+vs.length/\vs[i-off]?=some a)\/(¬(off<=i/\i<off+vs.length)/\cs[i]?=some a):=by
 unfold xon at ha
 by_cases h1:i<off
 .rw[x1b2 (by simp;omega),x1as,if_pos h1]at ha
  exact .inr ⟨by omega,ha⟩
 .rw[x1b3 (by simp;omega)]at ha
  have e:(cs.take off).length=off:=by simp;omega
  rw[e]at ha
  by_cases h2:i-off<vs.length
  .rw[x1b2 h2]at ha
   exact .inl ⟨by omega,by omega,ha⟩
  .rw[x1b3 (by omega),x1am]at ha
   rw[show off+vs.length+(i-off-vs.length)=i from by omega]at ha
   exact .inr ⟨by omega,ha⟩
theorem x16f{w:World}{blk off:Nat}{d:Array Int}{n:Nat}{os:Array Obj}{arr:Array Value}{t:TypeId}(hb:w.heap[blk]?=some (.cells arr t (0,0))){b:Nat}(hlt:b<w.heap.size) :
 (Go.Sort.grow (Go.Sort.putRow (Value.int .i64) (Go.Sort.ahead w n) blk off d) os).heap[b]?=if b=blk then some (.cells (Go.Sort.putCells (Value.int .i64) off d arr) t (0,0))else w.heap[b]?:=by
 unfold Go.Sort.grow Go.Sort.putRow Go.Sort.mapBlock
 simp only[Go.Sort.heap_ahead]
 rw[x1c0 (by simpa using hlt),x1cg]
 by_cases h:blk=b
 .subst h
  rw[if_pos rfl,if_pos rfl,hb]
  rfl
 .rw[if_neg h,if_neg (Ne.symm h)]
theorem x16g{P:Program}{E:Env}{w:World}{st:St}{f:FuncId}{args:List AV}{vs:Array Value}{p:Id×Ob}(hb:xpv P f)(hS:Sim E w st)(hA:ArgsV E w args vs)(h:xu4 args st.objs=some p)(hc:∀(blk off cap:Nat) (zs:List Int) (w:World),Go.Sort.Holds (Value.int .i64) w blk off zs.toArray->blk<w.heap.size->zs.length<4611686018427387904 ->
 Calls P f #[.slice (some ⟨blk,off,none⟩) zs.length cap] w λe w'=>e=.returned (.tuple #[])/\∃n os,w'=Go.Sort.grow (Go.Sort.putRow (Value.int .i64) (Go.Sort.ahead w n) blk off (zs.mergeSort λx y=>decide (x<=y)).toArray) os) :
 xrl P E w st f vs (.tup []) {st with objs:=updo st.objs p.1 (some p.2)}:=by
 unfold xu4 at h
 split at h
 rotate_left
 .cases h
 rename_i id ver off n z x
 split at h
 rotate_left
 .cases h
 rename_i cs v hob
 split at h
 rotate_left
 .cases h
 rename_i hcd
 obtain⟨rfl,rfl,hn,hle,hbig⟩:=hcd
 simp only[x194]at h
 obtain⟨l,hl,rfl⟩:=h
 obtain⟨u,rfl,hV⟩:=argsV_1 hA
 obtain⟨blk,base,arr,t,e1,e2,e3,e4,e5,e6⟩:=hS.obj id _ hob
 have hlm:=x149 hl
 have hll:l.length=n:=by
  have:=congrArg List.length hlm
  simp at this
  omega
 have hlt:blk<w.heap.size:=xs5 e3
 unfold Env.V at hV
 cases hV with
 |sref _ _ _ _ _ _ blk' base' len' a cap hη ha hlen hnc hx hs=>
  rw[e1]at hη
  injection hη with hη
  injection hη with g1 g2
  injection g2 with g2 g3
  subst g1 g2 g3
  rcases ha with rfl|h0
  rotate_left
  .omega
  have hat:∀j (hj:j<l.length),arr[base+off+j]?=some (.int .i64 l[j]):=λj hj=>by
   have h1:cs[off+j]?=some (.sc (.int .i64 l[j])):=by
    have h2:=congrArg (λq=>q[j]?) hlm
    simp only[x1as,x1am,x1be]at h2
    rw[if_pos (by omega),x19g hj]at h2
    exact h2
   obtain⟨v,hv,hV,-⟩:=e5 _ _ h1
   have:=V_sc hV
   rw[<-this,<-x1ag]at *
   exact hv
  have hH:Go.Sort.Holds (Value.int .i64) w blk (base+off) l.toArray:=λj hj=>by
   have hj':j<l.length:=by simpa using hj
   refine⟨?_,?_⟩
   .rw[xu6 e3,hat j hj']
    simp[hj']
   .simp[World.frozen?,e3]
  intro cs'
  have hcl:=hc blk (base+off) cap l w hH hlt (by omega)
  rw[hll]at hcl
  obtain⟨e,w',fr,⟨rfl,k,os,hw⟩,h1,h2,h3⟩:=hcl cs'
  have hsort:(l.mergeSort λx y=>decide (x<=y)).length=n:=by rw[List.length_mergeSort,hll]
  have hg:∀b,b<w.heap.size->w'.heap[b]?=if b=blk then some (.cells (Go.Sort.putCells (Value.int .i64) (base+off) (l.mergeSort λx y=>decide (x<=y)).toArray arr) t (0,0))else w.heap[b]?:=λb hb=>by
   rw[hw];exact x16f e3 hb
  have hsz:w.heap.size<=w'.heap.size:=by
   rw[hw]
   simp[Go.Sort.grow]
  have hos:w'.os=w.os:=by rw[hw];rfl
  have hout:w'.output=w.output:=by rw[hw];rfl
  have hblk:=(hg blk hlt).trans (if_pos rfl)
  have harr:(Go.Sort.putCells (Value.int .i64) (base+off) (l.mergeSort λx y=>decide (x<=y)).toArray arr).size=arr.size:=by simp[Go.Sort.putCells]
  have hsh:∀b,b<w.heap.size->w'.shape? b=w.shape? b:=λb hb=>by
   by_cases hbb:b=blk
   .subst hbb
    rw[xpn hblk,xpn e3,harr]
   .simp only[World.shape?]
    rw[hg b hb,if_neg hbb]
  have hO:E.O blk=some id:=by simpa using e6
  have hsame:∀b,b<w.heap.size->E.O b≠some id->w'.heap[b]?=w.heap[b]?:=λb hb ho=>by
   rw[hg b hb,if_neg (by rintro rfl;exact ho hO)]
  have hx':Ext E.G w w':=⟨hsz,hsh,λb g hb=>hsame b hb λho=>by
   have:=hS.own b id ho
   rcases g with g|g
   .exact this.1 g
   .exact this.2.1 g,hos,hout⟩
  have hVV:∀{a v},E.V w a v->E.V w' a v:=λh=>V.mono (λb hb=>hb) (hx'.weaken λ_ _ g=>.inl g) h (λ_ _ _ e=>e) (λ_ _ e=>e)
  have hsl:(List.map (λx=>AV.sc (.int .i64 x)) (l.mergeSort λx y=>decide (x<=y))).length=n:=by rw[x1ab,hsort]
  have hspl:=x16d (cs:=cs) (off:=off) (vs:=List.map (λx=>AV.sc (.int .i64 x)) (l.mergeSort λx y=>decide (x<=y))) (by rw[hsl];exact hle)
  have hobn:ObOK E w' id (.row (xon cs off (List.map (λx=>AV.sc (.int .i64 x)) (l.mergeSort λx y=>decide (x<=y)))) v false):=by
   refine⟨blk,base,_,t,by rw[hspl];exact e1,e2,hblk,by rw[hspl,harr];exact e4,λi a ha=>?_,e6⟩
   rcases x16e (cs:=cs) (off:=off) (by rw[hsl];exact hle) ha with ⟨i1,i2,i3⟩|⟨i1,i2⟩
   .rw[hsl]at i2
    rw[x1be]at i3
    simp only[x194]at i3
    obtain⟨q,i3,rfl⟩:=i3
    refine⟨.int .i64 q,?_,.sc _,rfl⟩
    unfold Go.Sort.putCells
    rw[Array.getElem?_mapIdx,x19i (by omega:base+i<arr.size),Option.map_some,if_pos ⟨by omega,by simp only[x1da];omega⟩]
    rw[show base+i-(base+off)=i-off from by omega]
    have hi:i-off<(l.mergeSort λx y=>decide (x<=y)).length:=by omega
    rw[x19g hi]at i3
    injection i3 with i3
    rw[<-i3,getElem!_pos _ _ (by simpa using hi)]
    simp
   .obtain⟨v,hv,hV,ho⟩:=e5 i a i2
    refine⟨v,?_,hVV hV,ho⟩
    have hil:i<cs.length:=(x19u.mp i2).1
    rw[hsl]at i1
    unfold Go.Sort.putCells
    rw[Array.getElem?_mapIdx,hv,Option.map_some,if_neg (by simp only[x1da];omega)]
  have hls:Lsh w w':=λb r hr=>by
   have hbl:=xs5 hr
   have hne:b≠blk:=by
    rintro rfl
    rw[e3]at hr;cases hr
   exact⟨r,by rw[hg b hbl,if_neg hne];exact hr,rfl⟩
  obtain⟨q1,q2⟩:=hS.turn (E':=E) hls (hS.dom _ _ _ e1) (λ_ _ _ h=>h) (λ_ _ _=>rfl) rfl rfl rfl (λ_ _=>rfl) (λb i hb hO=>by
   have:=(hS.own b i hO).2.2
   omega) hsz hsh hsame hobn hos hout
  exact⟨E,w',_,.inl ⟨hb,fr,h1,h2,h3⟩,.tup _ _ rfl (λi a v ha=>by simp at ha),q1,q2,x196 _,λid ver h=>.inl ⟨ver,h⟩⟩
theorem told_ok:xtc Tryz.prog pol:=by
 intro E w st f args vs r st' hp hk hS hA hr
 unfold tellB at hr
 obtain⟨rfl,e⟩:=pol_told f hp
 rw[e]at hr
 simp only[show Nat.beq 3 3=true from by rfl,cond_true,x194,x192]at hr
 obtain⟨p,hr,rfl,rfl⟩:=hr
 have hb:xpv Tryz.prog 87:=x12i (by kernel_rfl)
 exact⟨hb,x16g hb hS hA hr λblk off cap zs w h1 h2 h3=>Tryz.slices_Sort_int blk off cap zs w h1 h2 h3⟩
theorem calls_of_E{d:Nat}{f:FuncId}{args:List AV}{vs:Array Value}{w:World}{x:Value}{m':Mem}(h:xnt d [] f args mem0=some (.sc x,m'))(hl:vs.size=args.length)(hV:∀(i:Nat) (a:AV) (v:Value),args[i]?=some a->vs[i]?=some v->V (λb=>b<w.heap.size) w eta0 [] a v)(hb:xwr Tryz.prog f=true:=by kernel_rfl) :
 Calls Tryz.prog f vs w λe w'=>e=.returned x/\Ext (λ_=>True) w w':=x15h told_ok h hl (λw' _=>known_no w') hV hb
end Go.Ix
