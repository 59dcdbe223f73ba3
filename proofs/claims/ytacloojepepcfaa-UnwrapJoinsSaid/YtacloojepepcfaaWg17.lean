import Derived.Test.YtacloojepepcfaaFxTop
import Derived.Test.YtacloojepepcfaaWg4
import Derived.Test.YtacloojepepcfaaProg
import Derived.WalkKit
import Derived.Laws.IdiomRangeMap
import Derived.Test.YtacloojepepcfaaFxTell
set_option linter.unusedSimpArgs false
set_option linter.unusedVariables false
namespace Go.Ix
open Go Go.Proofs
theorem gives_of{P:Program}{E:Env}{w:World}{st:St}{f:FuncId}{vs:Array Value}{r:AV}(hb:x9g P f)(hS:Sim E w st)(hc:Calls P f vs w λe w'=>∃u,e=.returned u/\Ext (λ_=>True) w w'/\V E.F w' E.η E.ζ.1 r u):x9g P f/\xam P E w st f vs r st:=by
 refine⟨hb,λcs=>?_⟩
 obtain⟨e,w',fr,⟨u,rfl,hx,hV⟩,h1,h2,h3⟩:=hc cs
 obtain⟨g1,g2⟩:=hS.outside (F':=E.F) hx (λ_ h=>h) (λ_ h=>.inl h)
 exact⟨E,w',u,.inl ⟨hb,fr,h1,h2,h3⟩,hV,g1,g2,xn3 _,λid ver h=>.inl ⟨ver,h⟩⟩
theorem argsV_one{E:Env}{w:World}{a:AV}{vs:Array Value}(h:ArgsV E w [a] vs):∃v,vs=#[v]/\E.V w a v:=by
 obtain⟨h1,h2⟩:=h
 have h1':vs.size=1:=h1
 refine⟨vs[0],?_,h2 0 a vs[0] rfl (xna (by omega))⟩
 refine Array.ext (by simp[h1']) λi a b=>?_
 have:i=0:=by omega
 subst this
 rfl
def kcOf(x:MapEntry):Int×Int:=(valOf x.key,valOf x.val)
def x90(es:List MapEntry)(seen:Array Nat):List MapEntry:=es.filter λx=>seen.contains x.born
def x96(es:List MapEntry)(seen:Array Nat):Int×Int×Int:=((x90 es seen).map kcOf).foldl x81 (0,0,0)
theorem xlx(es:List MapEntry):x90 es #[]=[]:=by
 unfold x90
 rw[List.filter_eq_nil_iff]
 intro x _
 simp
theorem seenL_all(es:Array MapEntry)(seen:Array Nat)(h:(leftOf es seen).size=0):x90 es.toList seen=es.toList:=by
 unfold x90
 rw[xq3]
 exact all_seen es seen h
theorem xjt(seen:Array Nat)(b:Nat):∀es:List MapEntry,b∉es.map (·.born)->x90 es (seen.push b)=x90 es seen
 |[],_=>rfl
 |x::l,h=>by
  have hx:(x.born == b)=false:=by
   cases hc:x.born == b with
   |false=>rfl
   |true=>exact absurd (xnh.2 (Or.inl (beq_iff_eq.1 hc).symm)) h
  have ih:=xjt seen b l λe=>h (xnh.2 (Or.inr e))
  unfold x90 at ih ⊢
  simp only[xqm,contains_push,hx,Bool.or_false]
  simp only[contains_push]at ih
  rw[ih]
theorem xju(seen:Array Nat)(e:MapEntry)(hs:seen.contains e.born=false):∀es:List MapEntry,(es.map (·.born)).Nodup->e∈es->(x90 es (seen.push e.born)).Perm (x90 es seen++[e])
 |x::l,hn,he=>by
  have hn':x.born∉l.map (·.born)/\(l.map (·.born)).Nodup:=xpe.1 hn
  rcases xnh.1 he with rfl|h
  .have e1:=xjt seen e.born l hn'.1
   have e2:x90 (e::l) (seen.push e.born)=e::x90 l (seen.push e.born):=by
    unfold x90
    rw[List.filter_cons_of_pos (by rw[contains_push];simp)]
   have e3:x90 (e::l) seen=x90 l seen:=by
    unfold x90
    rw[List.filter_cons_of_neg (by rw[hs];simp)]
   rw[e2,e3,e1]
   exact(List.perm_append_comm (l₁:=[e]) (l₂:=x90 l seen))
  .have hx:(x.born == e.born)=false:=by
    cases hc:x.born == e.born with
    |false=>rfl
    |true=>exact absurd (by rw[beq_iff_eq.1 hc];exact xnf.2 ⟨e,h,rfl⟩) hn'.1
   have ih:=xju seen e hs l hn'.2 h
   have e2:∀sn:Array Nat,x90 (x::l) sn=if sn.contains x.born then x::x90 l sn else x90 l sn:=λsn=>by
    unfold x90
    rw[xqm]
   rw[e2,e2,contains_push,hx,Bool.or_false]
   cases seen.contains x.born
   .exact ih
   .exact ih.cons x
theorem xly(seen:Array Nat)(e:MapEntry)(hs:seen.contains e.born=false){es:List MapEntry}(hn:(es.map (·.born)).Nodup)(he:e∈es):x96 es (seen.push e.born)=x81 (x96 es seen) (kcOf e):=by
 unfold x96
 rw[xlh ((xju seen e hs es hn he).map kcOf),xqf,List.foldl_append]
 rfl
theorem sum_le(l:List (Int×Int))(h:∀x∈l,0<=x.2/\x.2<=4294967296):0<=(l.map (·.2)).sum/\(l.map (·.2)).sum<=4294967296*l.length:=by
 induction l with
 |nil=>simp
 |cons x l ih=>
  have h1:=h x xnd
  have h2:=ih λy hy=>h y (xn6 _ hy)
  rw[xn5,xq7,xnp]
  push_cast
  omega
theorem xjv:∀(l:List (Int×Int)) (s:Int×Int×Int),(∀x∈l,0<=x.2)->0<=s.2.1->s.2.1<=s.2.2->0<=(l.foldl x81 s).2.1/\(l.foldl x81 s).2.1<=(l.foldl x81 s).2.2
 |[],s,_,h1,h2=>⟨h1,h2⟩
 |x::l,s,h,h1,h2=>by
  have hx:=h x xnd
  refine xjv l _ (λy hy=>h y (xn6 _ hy)) ?_ ?_
  .unfold x81;split<;>dsimp only<;>omega
  .unfold x81;split<;>dsimp only<;>omega
theorem xlz(seen:Array Nat){es:List MapEntry}(h:∀x∈es,0<=(kcOf x).2/\(kcOf x).2<=4294967296):0<=(x96 es seen).2.1/\(x96 es seen).2.1<=(x96 es seen).2.2:=by
 unfold x96
 refine xjv _ _ (λy hy=>?_) (xp8 _) (xp8 _)
 obtain⟨x,hx,rfl⟩:=xnf.1 hy
 exact(h x (xnr.1 hx).1).1
theorem xjw(seen:Array Nat){es:List MapEntry}(h:∀x∈es,0<=(kcOf x).2/\(kcOf x).2<=4294967296)(hl:es.length<=1048576):0<=(x96 es seen).2.2/\(x96 es seen).2.2<=4503599627370496:=by
 unfold x96
 rw[xgi]
 have h1:=sum_le ((x90 es seen).map kcOf) (λy hy=>by
  obtain⟨x,hx,rfl⟩:=xnf.1 hy
  exact h x (xnr.1 hx).1)
 have h2:((x90 es seen).map kcOf).length<=1048576:=by
  rw[xo6]
  exact xnz (List.length_filter_le _ _) hl
 dsimp only
 omega
set_option maxRecDepth 1000000 in
theorem xm0(bm:Nat)(es:Array MapEntry)(clock:Nat)(w:World)(hb:w.heap[bm]?=some (.map es clock))(hbn:∀x∈es.toList,x.born<clock)(hnd:(es.toList.map (·.born)).Nodup)(hv:∀x∈es.toList,∃n c,x.key=.int .i64 n/\x.val=.int .i64 c/\0<=c/\c<=4294967296)(hl:es.toList.length<=1048576) :
 Calls Try.prog 25 #[.map (some bm)] w λe w'=>e=.returned (.tuple #[.int .i64 ((es.toList.map kcOf).foldl x81 (0,0,0)).1,.int .i64 (((es.toList.map kcOf).foldl x81 (0,0,0)).2.2-((es.toList.map kcOf).foldl x81 (0,0,0)).2.1)]) /\
  ∃(w1:World) (seen:Array Nat),w1.Alike w/\w'=w1.alloc (.mapIter (some bm) clock seen clock):=by
 have hk:∀x∈es.toList,0<=(kcOf x).2/\(kcOf x).2<=4294967296:=λx hx=>by
  obtain⟨n,c,-,h2,h3,h4⟩:=hv x hx
  unfold kcOf valOf
  rw[h2]
  exact⟨h3,h4⟩
 have hrg:=run_range_map (P:=Try.prog) w 68 3 3 bm es clock Try.underlying68 hb
 go_enter Try.func25,Try.ntmps25
 go_wp2
 go_loopw [4,5,6] (λs4 s5 s6 w'=>∃(w1:World) (seen:Array Nat),w1.Alike w/\w'=w1.alloc (.mapIter (some bm) clock seen clock)/\s4=.int .i64 (x96 es.toList seen).1/\s5=.int .i64 (x96 es.toList seen).2.1/\s6=.int .i64 (x96 es.toList seen).2.2) (λ_ _ _ w'=>(leftOf es (w'.iterSeen w.heap.size)).size)
 case atStart=>exact⟨w,#[],⟨rfl,rfl,rfl⟩,rfl,by unfold x96;rw[xlx];exact⟨rfl,rfl,rfl⟩⟩
 case round=>
  obtain⟨w1,seen,hal,rfl,rfl,rfl,rfl⟩:=hrel
  have hsz:w1.heap.size=w.heap.size:=by rw[hal.1]
  have hb1:w1.heap[bm]?=some (.map es clock):=by rw[hal.1];exact hb
  have law:=run_next_map (P:=Try.prog) w1 0 bm clock clock seen es clock hb1 hbn (xn3 _)
  rw[hsz]at law
  rcases law with ⟨h0,hrun⟩|⟨e,he,w2,hal2,hrun⟩
  .have hnx:∀ty,(Instr.next (.pointer (some ⟨w.heap.size,0,none⟩)) false ty).run Try.prog (w1.alloc (.mapIter (some bm) clock seen clock))=_:=λ_=>hrun
   have hin:=xjw seen hk hl
   have e1:x96 es.toList seen=(es.toList.map kcOf).foldl x81 (0,0,0):=by unfold x96;rw[seenL_all es seen h0]
   go_wp2
   go_ret2
   rw[<-e1]
   have hmo:=xlz seen hk
   have hw:RowKit.wrap64 ((x96 es.toList seen).2.2-(x96 es.toList seen).2.1)=(x96 es.toList seen).2.2-(x96 es.toList seen).2.1:=by unfold RowKit.wrap64;omega
   rw[hw]
   exact⟨rfl,w1,seen,hal,rfl⟩
  .obtain⟨n,c,hkey,hval,hc0,hc1⟩:=hv e (mem_left he).1
   rw[hkey,hval]at hrun
   have hnx:∀ty,(Instr.next (.pointer (some ⟨w.heap.size,0,none⟩)) false ty).run Try.prog (w1.alloc (.mapIter (some bm) clock seen clock))=_:=λ_=>hrun
   have hsz2:w2.heap.size=w.heap.size:=by rw[hal2.1,hal.1]
   have hb2:w2.heap[bm]?=some (.map es clock):=by rw[hal2.1];exact hb1
   have hen:=run_entry_map (P:=Try.prog) w2 bm clock seen es clock e hb2 (mem_left he).1 hnd
   rw[hsz2,hkey,hval]at hen
   have hin:=xjw seen hk hl
   have hpu:=xly seen e (mem_left he).2 hnd (mem_left he).1
   have hkc:kcOf e=(n,c):=by unfold kcOf;rw[hkey,hval];rfl
   rw[hkc]at hpu
   have hsm:(leftOf es (seen.push e.born)).size<(leftOf es seen).size:=left_shrinks es seen e he
   generalize hS:x96 es.toList seen=S at *
   obtain⟨b,m,a⟩:=S
   dsimp only at hin hpu ⊢
   go_wp2
   all_goals
    refine⟨⟨w2,seen.push e.born,⟨hal2.1.trans hal.1,hal2.2.1.trans hal.2.1,hal2.2.2.trans hal.2.2⟩,rfl,?_⟩,?_⟩
    .rw[hpu]
     first
      |(rw[xb7 (by omega)];exact⟨congrArg (Value.int .i64) (by dsimp only<;>omega),congrArg (Value.int .i64) (by dsimp only<;>omega),congrArg (Value.int .i64) (by dsimp only<;>omega)⟩)
      |(rw[xa1 (by omega)];exact⟨congrArg (Value.int .i64) (by dsimp only<;>omega),congrArg (Value.int .i64) (by dsimp only<;>omega),congrArg (Value.int .i64) (by dsimp only<;>omega)⟩)
      |trace_state
    .rw[<-hsz2,World.iterSeen_alloc,hsz2,<-hsz,World.iterSeen_alloc]
     exact hsm
theorem xjx:∀{es:List (Value×AV)} {l:List (Int×Int)},xc7 es=some l->es=l.map λx=>(.int .i64 x.1,.sc (.int .i64 x.2))
 |[],l,h=>by simp[xc7]at h;subst h;rfl
 |a::cs,l,h=>by
  unfold xc7 at h
  split at h
  .cases ‹_::_=[]›
  .rename_i n c r e
   cases e
   simp only[xmz]at h
   obtain⟨l',h1,rfl⟩:=h
   rw[xjx h1];rfl
  .cases h
theorem xm1{E:Env}{w:World}{st:St}{args:List AV}{vs:Array Value}{r:AV}(hS:Sim E w st)(hA:ArgsV E w args vs)(h:tell4 st.objs args=some r):x9g Try.prog 25/\xam Try.prog E w st 25 vs r st:=by
 unfold tell4 at h
 split at h
 rotate_left
 .cases h
 rename_i id
 split at h
 rotate_left
 .cases h
 rename_i es hob
 split at h
 rotate_left
 .cases h
 rename_i l hl
 split at h
 rotate_left
 .cases h
 rename_i hcd
 cases h
 obtain⟨u,rfl,hV⟩:=argsV_one hA
 obtain⟨blk,ents,clock,e1,e2,e3,⟨e4,e5,e6⟩,e7,e8⟩:=hS.obj id _ hob
 obtain⟨blk',hη,rfl⟩:=V_mp hV
 rw[e1]at hη
 cases hη
 have hes:=xjx hl
 have hll:es.length=l.length:=by rw[hes,xo6]
 have hat:ents.toList.map kcOf=l/\∀x∈ents.toList,∃n c,x.key=.int .i64 n/\x.val=.int .i64 c/\(n,c)∈l:=by
  have key:∀i (hi:i<l.length),∃m,ents[i]?=some m/\m.key=.int .i64 l[i].1/\m.val=.int .i64 l[i].2:=λi hi=>by
   have h1:es[i]?=some (.int .i64 l[i].1,.sc (.int .i64 l[i].2)):=by rw[hes,xox,xnj hi];rfl
   have hlt:i<ents.size:=by omega
   obtain⟨k1,k2⟩:=e7 i _ ents[i] h1 (xna hlt)
   exact⟨_,xna hlt,k1,V_sc k2⟩
  constructor
  .refine xqo (by simp;omega) λi h1 h2=>?_
   obtain⟨m,k1,k2,k3⟩:=key i h2
   have hlt:i<ents.size:=by omega
   rw[xna hlt]at k1
   cases k1
   rw[List.getElem_map,Array.getElem_toList]
   unfold kcOf
   rw[k2,k3]
   rfl
  .intro x hx
   obtain⟨i,hi,rfl⟩:=List.mem_iff_getElem.1 hx
   have hi':i<l.length:=by simp at hi;omega
   obtain⟨m,k1,k2,k3⟩:=key i hi'
   have hlt:i<ents.size:=by omega
   rw[xna hlt]at k1
   cases k1
   exact⟨_,_,k2,k3,List.getElem_mem hi'⟩
 have hall:=xn1.mp hcd.1
 have hw:=xm0 blk ents clock w e3 e5 e6 (λx hx=>by
  obtain⟨n,c,k1,k2,k3⟩:=hat.2 x hx
  have:=xon (hall _ k3)
  exact⟨n,c,k1,k2,this.1,this.2⟩) (by simp;omega)
 rw[hat.1]at hw
 refine gives_of (xix (by kernel_rfl)) hS (hw.mono λe w' ⟨he,w1,seen,hal,hww⟩=>⟨_,he,?_,?_⟩)
 .have hb:∀b,b<w.heap.size->w'.heap[b]?=w.heap[b]?:=λb hb=>by
   rw[hww,heap_alloc_old w1 _ (by rw[hal.1];exact hb),hal.1]
  exact⟨by rw[hww];show _<=(w1.heap.push _).size;rw[hal.1];simp,λb h=>by simp only[World.shape?];rw[hb b h],λb _ h=>hb b h,by rw[hww];exact hal.2.1,by rw[hww];exact hal.2.2⟩
 .refine .tup _ _ rfl λi x y hx hy=>?_
  match i,hx,hy with
  |0,hx,hy=>cases hx;cases hy;exact .sc _
  |1,hx,hy=>cases hx;cases hy;exact .sc _
  |i+2,hx,hy=>simp at hx
theorem told_ok:xce Try.prog pol:=by
 intro E w st f args vs r st' hp hk hS hA hr
 unfold tellB at hr
 obtain⟨rfl,e⟩:=pol_told f hp
 rw[e]at hr
 simp only[show Nat.beq 4 3=false from by rfl,show Nat.ble 4 4=true from by rfl,cond_false,cond_true,xmz,xmx]at hr
 obtain⟨r0,hr,rfl,rfl⟩:=hr
 unfold tellR at hr
 simp only[show Nat.beq 4 4=true from by rfl,cond_true]at hr
 exact xm1 hS hA hr
theorem calls_of_E{d:Nat}{f:FuncId}{args:List AV}{vs:Array Value}{w:World}{x:Value}{m':Mem}(h:x7v d [] f args mem0=some (.sc x,m'))(hl:vs.size=args.length)(hV:∀(i:Nat) (a:AV) (v:Value),args[i]?=some a->vs[i]?=some v->V (λb=>b<w.heap.size) w eta0 [] a v)(hb:xes Try.prog f=true:=by kernel_rfl) :
 Calls Try.prog f vs w λe w'=>e=.returned x/\Ext (λ_=>True) w w':=xl6 told_ok h hl (λw' _=>known_no w') hV hb
end Go.Ix
