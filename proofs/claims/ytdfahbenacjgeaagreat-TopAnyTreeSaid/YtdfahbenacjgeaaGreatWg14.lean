import Derived.Test.YtdfahbenacjgeaaGreatWg13
set_option linter.unusedSimpArgs false
set_option linter.unusedVariables false
namespace Go.Ix
open Go.Proofs
theorem Gk.lenP{ok:Id->Prop}{m:Mem}{a:AV}{l:List Int}(h:Gk 1 intE ok m a l):sLen Tryz.prog x2 a=some (I l.length):=by
 rcases h with ⟨rfl,rfl⟩|⟨id,ver,h0,rfl,hg⟩
 .exact xqq xke
 .rfl
def PartC(n:Nat)(l:List Edge)(m:Mem):Prop:=m.get (0,6,3)=some (.row [srI (0,5,9) n] 0 false)/\∃cells,m.get (0,5,9)=some (.row cells 0 false)/\cells.length=n/\∀(v:Nat) (hv:v<cells.length),Gk 1 intE (λid=>id.1=0) m cells[v] (nearU l v)
theorem PartC.frame{n:Nat}{l:List Edge}{m m':Mem}(h:PartC n l m)(hm:∀id:Id,id.1<1->m'.get id=m.get id):PartC n l m':=by
 obtain⟨h1,cells,h2,h3,h4⟩:=h
 exact⟨by rw[hm _ (by simp)];exact h1,cells,by rw[hm _ (by simp)];exact h2,h3,λv hv=>(h4 v hv).frame λid hid=>hm id (by omega)⟩
theorem um_map:Tryz.prog.underlying x4o=some (.map xkv xkv):=by kernel_rfl
theorem um_int:Tryz.prog.underlying xkv=some (.int .i64):=by kernel_rfl
theorem zv_int:xpm Tryz.prog xkv=some (I 0):=by kernel_rfl
def mpE(E:List (Int×Int)):List (Value×AV):=E.map λx=>(.int .i64 x.1,I x.2)
def lkp:List (Int×Int)->Int->Option Int
 |[],_=>none
 |x::r,p=>if p=x.1 then some x.2 else lkp r p
theorem lkp_app(E:List (Int×Int))(p v q:Int)(h:lkp E p=none):lkp (E++[(p,v)]) q=if q=p then some v else lkp E q:=by
 induction E with
 |nil=>simp[lkp]
 |cons x r ih=>
  simp only[lkp,x141]at h ⊢
  by_cases c:p=x.1
  .rw[x12c c]at h;cases h
  .rw[x12b c]at h
   rw[ih h]
   by_cases e:q=x.1
   .rw[x12c e,x12b (by omega),x12c e]
   .rw[x12b e,x12b e]
theorem plain_mp(E:List (Int×Int))(p:Int):xmr (.int .i64) (.int .i64 p) (mpE E)=true:=by
 unfold xmr mpE
 simp only[x13o,List.map_map,List.all_map]
 rw[x12h]
 exact⟨rfl,by rw[x12k];intro x _;rfl⟩
theorem xxn(p q:Int):xln (.int .i64 p) (.int .i64 q)=decide (p=q):=by
 unfold xln
 rfl
theorem find_mp(E:List (Int×Int))(p:Int):findKey (.int .i64 p) (mpE E)=(lkp E p).map I:=by
 induction E with
 |nil=>rfl
 |cons x r ih=>
  unfold mpE at ih ⊢
  simp only[x12p,findKey,lkp,xxn]
  by_cases c:p=x.1
  .simp[c]
  .simp only[c,x13k,x138,x12w];exact ih
theorem set_mp(E:List (Int×Int))(p v:Int)(h:lkp E p=none):setKey (.int .i64 p) (I v) (mpE E)=mpE (E++[(p,v)]):=by
 induction E with
 |nil=>rfl
 |cons x r ih=>
  simp only[lkp]at h
  unfold mpE at ih ⊢
  simp only[x12p,x141,setKey,xxn]
  by_cases c:p=x.1
  .rw[x12c c]at h;cases h
  .rw[x12b c]at h
   simp only[c,x13k,x138,x12w,ih h]
theorem xxo(E:List (Int×Int))(p:Int):xne Tryz.prog xkv (.int .i64) (.int .i64 p) (mpE E)=true:=by
 unfold xne
 rw[plain_mp E p,x14i]
theorem look_ok(id:Id)(E:List (Int×Int))(p:Int)(m:Mem)(h:m.get id=some (.map (mpE E))):xof Tryz.prog x4o (.mp id) (I p) true m=some (.tup [I ((lkp E p).getD 0),B (lkp E p).isSome]):=by
 unfold xof
 simp only[um_map,um_int,zv_int,xks,xo7,h]
 rw[x12c (xxo E p),find_mp]
 cases lkp E p<;>rfl
theorem up_ok{R:Type}(id:Id)(E:List (Int×Int))(p v:Int)(m:Mem)(k:Mem->Option R)(h:m.get id=some (.map (mpE E)))(hn:lkp E p=none):xog Tryz.prog x4o (.mp id) (I p) (I v) m k=k (m.set id (.map (mpE (E++[(p,v)])))):=by
 unfold xog
 simp only[um_map,um_int,xks,h]
 rw[x12c (xxo E p),set_mp E p v hn]
inductive Reach (nb:Nat->List Int) (r:Nat):Nat->Prop
 |refl:Reach nb r r
 |step {a b:Nat}:Reach nb r a->(b:Int)∈nb a->Reach nb r b
end Go.Ix
