import Derived.Test.YtjngclcijnpooaaGreatDoorIxD
import Derived.ProofKit
import Derived.OpenShut
set_option linter.all false
namespace Go.Ix
variable{P:Program}{H:Type}{enc:TypeId×Value->H}{w:World}{base:Nat}{spare:Nat->Bool}{held:Bool}
inductive Sh (P:Program):TypeId->List AV->Prop
 |bool {t:TypeId} (h:P.underlying t=some .bool) (b:Bool):Sh P t [.sc (.bool b)]
 |int {t:TypeId} {k:IntKind} (h:P.underlying t=some (.int k)) (n:Int) (wf:(Lit.int k n).wf=true):Sh P t [.sc (.int k n)]
 |float {t:TypeId} {k:FloatKind} (h:P.underlying t=some (.float k)) (b:Nat) (wf:(Lit.float k b).wf=true):Sh P t [.sc (.float k b)]
 |string {t:TypeId} (h:P.underlying t=some .string) (s:ByteArray) (hs:s.size<=maxLen):Sh P t [.sc (.string s)]
 |nilS {t e:TypeId} (h:P.underlying t=some (.slice e)):Sh P t [.sc (.slice none 0 0)]
 |slice {t e:TypeId} (h:P.underlying t=some (.slice e)) (rows:List (List AV)) (x:Bool) (hz:∀r∈rows,r.length=P.cellsOf e) (hr:∀r∈rows,Sh P e r) (hl:rows.length<=maxLen):Sh P t [.aN rows.flatten rows.length x]
 |struct {t:TypeId} {fs:Array Field} (h:P.underlying t=some (.struct fs)) (cs:List AV) (hl:cs.length=P.cellsOf t) (hf:∀f∈fs.toList,Sh P f.type ((cs.drop f.offset).take (P.cellsOf f.type))):Sh P t cs
 |array {t e:TypeId} {n:Nat} (h:P.underlying t=some (.array n e)) (cs:List AV) (hl:cs.length=P.cellsOf t) (hf:∀i,i<n->Sh P e ((cs.drop (i*P.cellsOf e)).take (P.cellsOf e))):Sh P t cs
def xK(P:Program):Nat->List Field->Option Nat
 |a,[]=>some a
 |a,f::b=>bif Nat.beq f.offset a then xK P (a+P.cellsOf f.type) b else none
def y7(P:Program):Nat->TypeId->Bool
 |0,_=>false
 |k+1,t=>match P.underlying t with
  |some .bool|some (.int _)|some (.float _)|some .string=>true
  |some (.slice e)=>y7 P k e&&Nat.blt 0 (P.cellsOf e)
  |some (.struct a)=>a.toList.all (λf=>y7 P k f.type)&&(match xK P 0 a.toList with|some n=>Nat.beq n (P.cellsOf t)|none=>false)
  |some (.array n e)=>y7 P k e&&Nat.beq (n*P.cellsOf e) (P.cellsOf t)
  |_=>false
structure Cells (P:Program) (w:World) (t:TypeId) (as:List AV) (cs:List Value):Prop where
 len:as.length=cs.length
 sh:Sh P t as
 v:∀(i:Nat) (a:AV) (v:Value),as[i]?=some a->cs[i]?=some v->V (λb=>b<w.heap.size) w eta0 [] a v/\v.oneCell'=true
def Cells.one{t:TypeId}{v:Value}(h:Sh P t [.sc v])(e:v.oneCell'=true):Cells P w t [.sc v] [v]:=
 ⟨rfl,h,λi a u b d=>by
  cases i with
  |zero=>simp at b d;subst b;subst d;exact⟨.sc _,e⟩
  |succ i=>simp at b⟩
def xgf{cs:List Value}:∀{l:List Field} {d n:Nat},xK P d l=some n->n<=cs.length->d<=n ->
    (∀f∈l,∃t,Cells P w f.type t ((cs.drop f.offset).take (P.cellsOf f.type))) ->
    ∃t:List AV,t.length=n-d/\(∀f∈l,d<=f.offset/\Sh P f.type ((t.drop (f.offset-d)).take (P.cellsOf f.type))) /\
     ∀(i:Nat) (a:AV) (v:Value),t[i]?=some a->cs[d+i]?=some v->V (λb=>b<w.heap.size) w eta0 [] a v/\v.oneCell'=true
 |[],d,n,j,C,M,_=>by simp only[xK,bN]at j;subst j;exact⟨[],(by simp),(λf E=>(by cases E)),(λi a v o=>(by simp at o))⟩
 |f::l,d,n,j,C,M,D=>by
  simp only[xK]at j;cases p:Nat.beq f.offset d with
  |false=>rw[p]at j;cases j
  |true=>
   rw[p,cond_true]at j;have m:=fE p;obtain⟨e,x⟩:=D f (eP ..);have u:d+P.cellsOf f.type<=n:=by
    have:∀{l:List Field} {d n:Nat},xK P d l=some n->d<=n:=by
     intro l;induction l with
     |nil=>intro d n h;simp only[xK,bN]at h;omega
     |cons g R N=>
      intro d n h;simp only[xK]at h;cases p:Nat.beq g.offset d with
      |false=>rw[p]at h;cases h
      |true=>rw[p,cond_true]at h;have:=N h;omega
    exact this j
   obtain⟨y,O,H,J⟩:=xgf j C u λg r=>D g (eE _ r)
   have F:e.length=P.cellsOf f.type:=(by rw[x.len,oH,MD,m];omega);refine⟨e++y,by simp;omega,λg r=>?_,λi a v o A=>?_⟩
   .rcases dW.mp r with rfl|r
    .refine⟨by omega,?_⟩;rw[show g.offset-d=0 by omega,bC,LY (by omega),dM (by omega)];exact x.sh
    .obtain⟨Q,K⟩:=H g r;refine⟨by omega,?_⟩;rw[H1,lV (by omega),iW,show g.offset-d-e.length=g.offset-(d+P.cellsOf f.type) by omega];exact K
   .by_cases L:i<e.length
    .rw[zU L]at o;refine x.v i a v o ?_;rw[List.getElem?_take_of_lt (by omega),wZ,m];exact A
    .rw[V9 (by omega)]at o;refine J (i-e.length) a v o ?_;rw[show d+P.cellsOf f.type+(i-e.length)=d+i by omega];exact A
def xgg{e:TypeId}{cs:List Value}:∀{n off:Nat},off+n*P.cellsOf e<=cs.length ->
    (∀i,i<n->∃g,Cells P w e g ((cs.drop (off+i*P.cellsOf e)).take (P.cellsOf e))) ->
    ∃g:List AV,g.length=n*P.cellsOf e/\(∀i,i<n->Sh P e ((g.drop (i*P.cellsOf e)).take (P.cellsOf e))) /\
     ∀(i:Nat) (a:AV) (v:Value),g[i]?=some a->cs[off+i]?=some v->V (λb=>b<w.heap.size) w eta0 [] a v/\v.oneCell'=true
 |0,off,_,_=>⟨[],(by simp),(λi h=>(by omega)),(λi a v f=>(by simp at f))⟩
 |n+1,off,y,o=>by
  have u:(n+1)*P.cellsOf e=n*P.cellsOf e+P.cellsOf e:=lT ..;obtain⟨d,j⟩:=o 0 (by omega);rw[wW,uZ]at j;obtain⟨l,x,r,t⟩:=xgg (e:=e) (cs:=cs) (n:=n) (off:=off+P.cellsOf e) (by omega) λi h=>by have:=o (i+1) (by omega);rw[lT]at this;rw[show off+P.cellsOf e+i*P.cellsOf e=off+(i*P.cellsOf e+P.cellsOf e) by omega];exact this
  have p:d.length=P.cellsOf e:=(by rw[j.len,oH,MD];omega);refine⟨d++l,by simp;omega,λi h=>?_,λi a v f m=>?_⟩
  .cases i with
   |zero=>rw[wW,bC,LY (by omega),dM (by omega)];exact j.sh
   |succ i=>rw[H1,lV (by rw[lT];omega),iW,show(i+1)*P.cellsOf e-d.length=i*P.cellsOf e by rw[lT];omega];exact r i (by omega)
  .by_cases h:i<d.length
   .rw[zU h]at f;refine j.v i a v f ?_;rw[List.getElem?_take_of_lt (by omega),wZ];exact m
   .rw[V9 (by omega)]at f;refine t (i-d.length) a v f ?_;rw[show off+P.cellsOf e+(i-d.length)=off+i by omega];exact m
def cell?_spot{a:Addr}{v:Value}(h:w.cell? a=some v):a.spot=none:=by
 unfold World.cell? at h;split at h
 .cases Z:a.spot with
  |none=>rfl
  |some s=>rw[Z]at h;simp at h
 .cases h
def xge{e:TypeId}{a:Addr}(H:0<P.cellsOf e):∀{n k:Nat},(∀i,i<n->∃m o,w.cells? base (a.add ((k+i)*P.cellsOf e)) (P.cellsOf e)=some m/\Cells P w e o m) ->
    ∃d:List (List AV),d.length=n/\(∀r∈d,r.length=P.cellsOf e/\Sh P e r) /\
     ∀(i:Nat) (b:AV),d.flatten[i]?=some b->∃u,w.cell? ⟨a.block,a.off+(k*P.cellsOf e+i),none⟩=some u/\V (λb=>b<w.heap.size) w eta0 [] b u/\u.oneCell'=true
 |0,k,_=>⟨[],rfl,(λr p=>(by cases p)),(λi b g=>(by simp at g))⟩
 |n+1,k,h=>by
  obtain⟨m,o,J,y⟩:=h 0 (by omega);obtain⟨d,K,L,M⟩:=xge (n:=n) (k:=k+1) H λi D=>by have:=h (i+1) (by omega);rw[show k+(i+1)=k+1+i by omega]at this;exact this
  obtain⟨_,N,l⟩:=World.cells?_some J;have x:o.length=P.cellsOf e:=(by rw[y.len,N]);refine⟨o::d,by simp[K],λr p=>?_,λi b g=>?_⟩
  .rcases dW.mp p with rfl|p
   .exact⟨x,y.sh⟩
   .exact L r p
  .rw[List.flatten_cons]at g;by_cases D:i<o.length
   .rw[zU D]at g;have j:=l i (by omega);have t:i<m.length:=(by omega);rw[eJ t]at j;obtain⟨A,C⟩:=y.v i b m[i] g (eJ t);refine⟨m[i],?_,A,C⟩;rw[<-j];have f:=cell?_spot j;have:((a.add ((k+0)*P.cellsOf e)).add i)=⟨a.block,a.off+(k*P.cellsOf e+i),none⟩:=by
     revert f;rw[uZ];unfold Addr.add;split<;>split
     .intro f;rename_i E F;cases a;simp at f ⊢;exact⟨by omega,f⟩
     .intro _;rename_i E F;simp<;>omega
     .intro _;rename_i E F;simp<;>omega
     .intro _;simp<;>omega
    rw[this]
   .rw[V9 (by omega)]at g;obtain⟨u,A,C⟩:=M _ _ g;refine⟨u,?_,C⟩;rw[show k*P.cellsOf e+i=(k+1)*P.cellsOf e+(i-o.length) by rw[lT];omega];exact A
def LC:∀(k:Nat) {t:TypeId} {j:Nat} {cs:List Value} {x:DataW H×List MemPlace},y7 P k t=true->DataW.trod enc P w base spare held j t cs=some x->∃D,Cells P w t D cs
 |0,t,j,cs,x,l,_=>by simp[y7]at l
 |k+1,t,j,cs,x,l,h=>by
  simp only[y7]at l;cases j with
  |zero=>simp[DataW.trod]at h
  |succ j=>
  split at l
  .rename_i e;unfold DataW.trod at h;rw[e]at h;split at h<;>simp_all;exact⟨_,.one (.bool e _) rfl⟩
  .rename_i kd e;unfold DataW.trod at h;rw[e]at h;split at h<;>simp_all;obtain⟨⟨rfl,hw⟩,_⟩:=h;exact⟨_,.one (.int e _ hw) rfl⟩
  .rename_i kd e;unfold DataW.trod at h;rw[e]at h;split at h<;>simp_all;obtain⟨⟨rfl,hw⟩,_⟩:=h;exact⟨_,.one (.float e _ hw) rfl⟩
  .rename_i e;unfold DataW.trod at h;rw[e]at h;split at h<;>simp_all;exact⟨_,.one (.string e _ h.1) rfl⟩
  .rename_i C e;rw[cI]at l;have hz:0<P.cellsOf C:=rK l.2;rcases DataW.trod_slice e h with ⟨rfl,_⟩|⟨a,len,Q,elems,rest,n,_,rfl,rfl,p,hl,hm,hlen,R,_⟩
   .exact⟨_,.one (.nilS e) rfl⟩
   .obtain⟨d,W,M,N⟩:=xge (P:=P) (w:=w) (base:=base) (a:=a) (n:=len) (k:=0) hz λi g=>by have o:=R i g;have E:i<elems.length:=(by omega);rw[eJ E,oF]at o;obtain⟨O,h5,h6⟩:=o;obtain⟨D,h7⟩:=LC k l.1 h6;rw[bR];exact⟨O,D,h5,h7⟩
    refine⟨[.aN d.flatten d.length (decide (Q=len))],rfl,.slice e d _ (λr Y=>(M r Y).1) (λr Y=>(M r Y).2) (by omega),λi b v p L=>?_⟩;cases i with
    |succ i=>simp at p
    |zero=>
     simp at p L;subst p;subst L;refine⟨?_,rfl⟩;have h3':∀i,i<d.flatten.length->∃u,w.cell? ⟨a.block,a.off+i,none⟩=some u/\(∀b,d.flatten[i]?=some b->V (λb=>b<w.heap.size) w eta0 [] b u)/\u.oneCell'=true:=(by intro i g;obtain⟨u,X,q2,q3⟩:=N i _ (eJ g);rw[wW,bR]at X;exact⟨u,X,λb p=>by rw[eJ g]at p;cases p;exact q2,q3⟩);rw[<-W];have F:d.flatten≠[]->a.spot=none:=by
      intro y;have hr0:0<len:=by
       cases d with
       |nil=>simp at y
       |cons r rs=>simp at W;omega
      have o:=R 0 hr0;have E:0<elems.length:=(by omega);rw[eJ E,oF]at o;obtain⟨O,h5,_⟩:=o;obtain⟨_,hl',K⟩:=World.cells?_some h5;have h0:=K 0 hz;rw[eJ (by omega)]at h0;have:=cell?_spot h0;simpa[Addr.add]using this
     refine .aN _ _ _ a Q (λi=>if h:i<d.flatten.length then Classical.choose (h3' i h)else undef) (λi g=>?_) (λi b p=>?_) (λy=>⟨?_,F y⟩) (by omega) (λhx=>by have:=sA hx;omega) (λi g=>?_)
     .rw[dif_pos g];exact(Classical.choose_spec (h3' i g)).1
     .have g:i<d.flatten.length:=(lC.1 p).1;rw[dif_pos g];exact(Classical.choose_spec (h3' i g)).2.1 b p
     .have g:0<d.flatten.length:=xia.mpr y;obtain⟨u,X,_⟩:=h3' 0 g;exact dc (a:=⟨a.block,a.off+0,none⟩) X
     .rw[dif_pos g];exact(Classical.choose_spec (h3' i g)).2.2
  .rename_i fs e;rw[cI,dJ]at l;obtain⟨xs,n,hn,_,hl,hxl,hf⟩:=DataW.trod_struct e h;have J:=l.2;split at J
   .rename_i m hm;have hm':=fE J;obtain⟨D,W,M,N⟩:=xgf (P:=P) (w:=w) (cs:=cs) hm (by omega) (FP _) λf A=>by obtain⟨i,g,hif⟩:=xib A;have hi':i<fs.size:=(by simpa using g);have o:=hf i f (by rw[iZ hi'];congr 1);rw[eJ (by omega)]at o;exact LC k (l.1 f A) o
    refine⟨D,by omega,.struct e D (by omega) λf A=>?_,λi a v Z L=>N i a v Z (by rw[bR];exact L)⟩;have:=(M f A).2;rwa[Nat.sub_zero]at this
   .cases J
  .rename_i n C e;rw[cI]at l;obtain⟨xs,m,hm,_,hl,hxl,hf⟩:=DataW.trod_array e h;have hm':=fE l.2;obtain⟨D,W,M,N⟩:=xgg (P:=P) (w:=w) (e:=C) (cs:=cs) (n:=n) (off:=0) (by omega) λi g=>by have o:=hf i g;rw[eJ (by omega)]at o;rw[bR];exact LC k l.1 o
   exact⟨D,by omega,.array e D (by omega) M,λi a v Z L=>N i a v Z (by rw[bR];exact L)⟩
  .cases l
def ArgSh(P:Program)(t:TypeId)(a:AV):Prop:=
 match P.underlying t with
 |some (.struct _)|some (.array _ _)=>∃b,a=.agg b/\Sh P t b
 |_=>Sh P t [a]
def arg_open{k:Nat}{t:TypeId}{v:Value}{d:DataW H}{A:List MemPlace}{r:Reach}{D:Nat}(E:y7 P k t=true)(l:Value.okWide P w r D t v)(h:DataW.Trod enc P w base spare held t v d A) :
    ∃a,ArgSh P t a/\V (λb=>b<w.heap.size) w eta0 [] a v:=by
 obtain⟨y,h⟩:=h;obtain⟨g,x,Z,o⟩:=LC k E h;have agg:∀f:Array Value,v=.agg f->∃a,(∃g,a=.agg g/\Sh P t g)/\V (λb=>b<w.heap.size) w eta0 [] a v:=(by rintro f rfl;refine⟨.agg g,⟨g,rfl,Z⟩,.agg g f ?_ λi a u F p=>(o i a u F (by simpa[Value.cells]using p)).1⟩;rw[x];simp[Value.cells]);unfold Value.okWide at l;unfold ArgSh;split at l
 .rename_i N j;obtain⟨f,rfl,_⟩:=l;simp only[j];exact agg f rfl
 .rename_i n C j;obtain⟨f,rfl,_⟩:=l;simp only[j];exact agg f rfl
 .rename_i J K;have one:v.cells=#[v]->∃a,Sh P t [a]/\V (λb=>b<w.heap.size) w eta0 [] a v:=by
   intro e;rw[e]at x o;match g,x,Z,o with
   |[a],_,Z,o=>exact⟨a,Z,(o 0 a v rfl rfl).1⟩
  have m:v.cells=#[v]:=by
   cases v with
   |agg f=>
    exfalso;cases p:P.underlying t with
    |none=>simp[Cell.okWide,Cell.ok,p]at l
    |some d=>cases d<;>simp[Cell.okWide,Cell.ok,p]at l
   |_=>rfl
  obtain⟨a,L,M⟩:=one m;refine⟨a,?_,M⟩;split
  .rename_i e;exact absurd e (J _)
  .rename_i e;exact absurd e (K _ _)
  .exact L
def Sh.int_inv{t:TypeId}{k:IntKind}{d:List AV}(b:P.underlying t=some (.int k))(h:Sh P t d):∃n,d=[.sc (.int k n)]/\(Lit.int k n).wf=true:=by
 cases h with
 |int a n e=>rw[b]at a;cases a;exact⟨n,rfl,e⟩
 |nilS a=>rw[b]at a;cases a
 |slice a=>rw[b]at a;cases a
 |bool a=>rw[b]at a;cases a
 |float a=>rw[b]at a;cases a
 |string a=>rw[b]at a;cases a
 |struct a=>rw[b]at a;cases a
 |array a=>rw[b]at a;cases a
def Sh.slice_inv{t e:TypeId}{f:List AV}(d:P.underlying t=some (.slice e))(h:Sh P t f) :
    f=[.sc (.slice none 0 0)]\/∃(a:List (List AV)) (x:Bool),f=[.aN a.flatten a.length x]/\(∀r∈a,r.length=P.cellsOf e)/\(∀r∈a,Sh P e r)/\a.length<=maxLen:=by
 cases h with
 |nilS b=>exact Or.inl rfl
 |slice b a x g i j=>rw[d]at b;cases b;exact Or.inr ⟨a,x,rfl,g,i,j⟩
 |bool b=>rw[d]at b;cases b
 |int b=>rw[d]at b;cases b
 |float b=>rw[d]at b;cases b
 |string b=>rw[d]at b;cases b
 |struct b=>rw[d]at b;cases b
 |array b=>rw[d]at b;cases b
def Sh.s9{t:TypeId}{e:Array Field}{d:List AV}(b:P.underlying t=some (.struct e))(h:Sh P t d) :
    d.length=P.cellsOf t/\∀f∈e.toList,Sh P f.type ((d.drop f.offset).take (P.cellsOf f.type)):=by
 cases h with
 |struct a j g i=>rw[b]at a;cases a;exact⟨g,i⟩
 |nilS a=>rw[b]at a;cases a
 |slice a=>rw[b]at a;cases a
 |bool a=>rw[b]at a;cases a
 |int a=>rw[b]at a;cases a
 |float a=>rw[b]at a;cases a
 |string a=>rw[b]at a;cases a
 |array a=>rw[b]at a;cases a
def xbh{α:Type}{enc:α->List AV}:∀{rows:List (List AV)},(∀r∈rows,∃x,r=enc x)->∃l:List α,rows=l.map enc
 |[],_=>⟨[],rfl⟩
 |r::b,h=>by
  obtain⟨x,rfl⟩:=h _ (eP ..);obtain⟨l,rfl⟩:=xbh (rows:=b) λr a=>h r (eE _ a)
  exact⟨x::l,rfl⟩
def ArgSh.int{t:TypeId}{k:IntKind}{a:AV}(b:P.underlying t=some (.int k))(h:ArgSh P t a):∃n,a=.sc (.int k n)/\(Lit.int k n).wf=true:=by unfold ArgSh at h;rw[b]at h;obtain⟨n,d,e⟩:=Sh.int_inv b h;exact⟨n,by simpa using d,e⟩
def ArgSh.slice{t e:TypeId}{a:AV}(b:P.underlying t=some (.slice e))(h:ArgSh P t a):Sh P t [a]:=by unfold ArgSh at h;rw[b]at h;exact h
def ArgSh.struct{t:TypeId}{b:Array Field}{a:AV}(d:P.underlying t=some (.struct b))(h:ArgSh P t a):∃l,a=.agg l/\Sh P t l:=by unfold ArgSh at h;rw[d]at h;exact h
def ArgSh.array{t e:TypeId}{n:Nat}{a:AV}(b:P.underlying t=some (.array n e))(h:ArgSh P t a):∃l,a=.agg l/\Sh P t l:=by unfold ArgSh at h;rw[b]at h;exact h
end Go.Ix
