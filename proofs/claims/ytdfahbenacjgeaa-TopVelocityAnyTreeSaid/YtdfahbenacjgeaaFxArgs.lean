import Derived.Test.YtdfahbenacjgeaaIxD
import Derived.ProofKit
import Derived.OpenShut
namespace Go.Ix
variable{P:Program}{H:Type}{enc:TypeId×Value->H}{w:World}{base:Nat}{spare:Nat->Bool}{held:Bool}
inductive Sh (P:Program):TypeId->List AV->Prop
 |bool {t:TypeId} (h:P.underlying t=some .bool) (b:Bool):Sh P t [.sc (.bool b)]
 |int {t:TypeId} {k:IntKind} (h:P.underlying t=some (.int k)) (n:Int) (wf:(Lit.int k n).wf=true):Sh P t [.sc (.int k n)]
 |float {t:TypeId} {k:FloatKind} (h:P.underlying t=some (.float k)) (b:Nat) (wf:(Lit.float k b).wf=true):Sh P t [.sc (.float k b)]
 |string {t:TypeId} (h:P.underlying t=some .string) (s:ByteArray) (hs:s.size<=maxLen):Sh P t [.sc (.string s)]
 |nilS {t e:TypeId} (h:P.underlying t=some (.slice e)):Sh P t [.sc (.slice none 0 0)]
 |slice {t e:TypeId} (h:P.underlying t=some (.slice e)) (rows:List (List AV)) (x:Bool) (hz:∀r∈rows,r.length=P.cellsOf e) (hr:∀r∈rows,Sh P e r) (hl:rows.length<=maxLen):Sh P t [.slit rows.flatten rows.length x]
 |struct {t:TypeId} {fs:Array Field} (h:P.underlying t=some (.struct fs)) (cs:List AV) (hl:cs.length=P.cellsOf t) (hf:∀f∈fs.toList,Sh P f.type ((cs.drop f.offset).take (P.cellsOf f.type))):Sh P t cs
 |array {t e:TypeId} {n:Nat} (h:P.underlying t=some (.array n e)) (cs:List AV) (hl:cs.length=P.cellsOf t) (hf:∀i,i<n->Sh P e ((cs.drop (i*P.cellsOf e)).take (P.cellsOf e))):Sh P t cs
def zZ(P:Program):Nat->List Field->Option Nat
 |off,[]=>some off
 |off,f::fs=>bif Nat.beq f.offset off then zZ P (off+P.cellsOf f.type) fs else none
def s8(P:Program):Nat->TypeId->Bool
 |0,_=>false
 |k+1,t=>match P.underlying t with
  |some .bool|some (.int _)|some (.float _)|some .string=>true
  |some (.slice e)=>s8 P k e&&Nat.blt 0 (P.cellsOf e)
  |some (.struct fs)=>fs.toList.all (λf=>s8 P k f.type)&&(match zZ P 0 fs.toList with|some n=>Nat.beq n (P.cellsOf t)|none=>false)
  |some (.array n e)=>s8 P k e&&Nat.beq (n*P.cellsOf e) (P.cellsOf t)
  |_=>false
structure Cells (P:Program) (w:World) (t:TypeId) (as:List AV) (cs:List Value):Prop where
 len:as.length=cs.length
 sh:Sh P t as
 v:∀(i:Nat) (a:AV) (v:Value),as[i]?=some a->cs[i]?=some v->V (λb=>b<w.heap.size) w eta0 [] a v/\v.oneCell'=true
theorem Cells.one{t:TypeId}{v:Value}(h:Sh P t [.sc v])(ho:v.oneCell'=true):Cells P w t [.sc v] [v]:=
 ⟨rfl,h,λi a u ha hu=>by
  cases i with
  |zero=>simp at ha hu;subst ha;subst hu;exact⟨.sc _,ho⟩
  |succ i=>simp at ha⟩
theorem x5z{cs:List Value}:∀{fs:List Field} {off n:Nat},zZ P off fs=some n->n<=cs.length->off<=n ->
 (∀f∈fs,∃as,Cells P w f.type as ((cs.drop f.offset).take (P.cellsOf f.type))) ->
 ∃as:List AV,as.length=n-off/\(∀f∈fs,off<=f.offset/\Sh P f.type ((as.drop (f.offset-off)).take (P.cellsOf f.type))) /\
  ∀(i:Nat) (a:AV) (v:Value),as[i]?=some a->cs[off+i]?=some v->V (λb=>b<w.heap.size) w eta0 [] a v/\v.oneCell'=true
 |[],off,n,ht,hn,ho,_=>by simp only[zZ,xc4]at ht;subst ht;exact⟨[],(by simp),(λf hf=>(by cases hf)),(λi a v ha=>(by simp at ha))⟩
 |f::fs,off,n,ht,hn,ho,hc=>by
  simp only[zZ]at ht;cases hb:Nat.beq f.offset off with
  |false=>rw[hb]at ht;cases ht
  |true=>
   rw[hb,cond_true]at ht;have hoff:=xcb hb;obtain⟨as1,h1⟩:=hc f (xcf ..);have hle:off+P.cellsOf f.type<=n:=by
    have:∀{fs:List Field} {off n:Nat},zZ P off fs=some n->off<=n:=by
     intro fs;induction fs with
     |nil=>intro off n h;simp only[zZ,xc4]at h;omega
     |cons g gs ih=>
      intro off n h;simp only[zZ]at h;cases hb:Nat.beq g.offset off with
      |false=>rw[hb]at h;cases h
      |true=>rw[hb,cond_true]at h;have:=ih h;omega
    exact this ht
   obtain⟨as2,h2,h3,h4⟩:=x5z ht hn hle λg hg=>hc g (xc9 _ hg)
   have hl1:as1.length=P.cellsOf f.type:=(by rw[h1.len,xey,List.length_drop,hoff];omega);refine⟨as1++as2,by simp;omega,λg hg=>?_,λi a v ha hv=>?_⟩
   .rcases xce.mp hg with rfl|hg
    .refine⟨by omega,?_⟩;rw[show g.offset-off=0 by omega,xcd,xg9 (by omega),xca (by omega)];exact h1.sh
    .obtain⟨q1,q2⟩:=h3 g hg;refine⟨by omega,?_⟩;rw[xfq,xdg (by omega),xej,show g.offset-off-as1.length=g.offset-(off+P.cellsOf f.type) by omega];exact q2
   .by_cases hi:i<as1.length
    .rw[xed hi]at ha;refine h1.v i a v ha ?_;rw[List.getElem?_take_of_lt (by omega),xdq,hoff];exact hv
    .rw[xee (by omega)]at ha;refine h4 (i-as1.length) a v ha ?_;rw[show off+P.cellsOf f.type+(i-as1.length)=off+i by omega];exact hv
theorem x60{e:TypeId}{cs:List Value}:∀{n off:Nat},off+n*P.cellsOf e<=cs.length ->
 (∀i,i<n->∃as,Cells P w e as ((cs.drop (off+i*P.cellsOf e)).take (P.cellsOf e))) ->
 ∃as:List AV,as.length=n*P.cellsOf e/\(∀i,i<n->Sh P e ((as.drop (i*P.cellsOf e)).take (P.cellsOf e))) /\
  ∀(i:Nat) (a:AV) (v:Value),as[i]?=some a->cs[off+i]?=some v->V (λb=>b<w.heap.size) w eta0 [] a v/\v.oneCell'=true
 |0,off,_,_=>⟨[],(by simp),(λi hi=>(by omega)),(λi a v ha=>(by simp at ha))⟩
 |n+1,off,hl,hc=>by
  have hm:(n+1)*P.cellsOf e=n*P.cellsOf e+P.cellsOf e:=xd6 ..;obtain⟨as1,h1⟩:=hc 0 (by omega);rw[xdu,xe9]at h1;obtain⟨as2,h2,h3,h4⟩:=x60 (e:=e) (cs:=cs) (n:=n) (off:=off+P.cellsOf e) (by omega) λi hi=>by have:=hc (i+1) (by omega);rw[xd6]at this;rw[show off+P.cellsOf e+i*P.cellsOf e=off+(i*P.cellsOf e+P.cellsOf e) by omega];exact this
  have hl1:as1.length=P.cellsOf e:=(by rw[h1.len,xey,List.length_drop];omega);refine⟨as1++as2,by simp;omega,λi hi=>?_,λi a v ha hv=>?_⟩
  .cases i with
   |zero=>rw[xdu,xcd,xg9 (by omega),xca (by omega)];exact h1.sh
   |succ i=>rw[xfq,xdg (by rw[xd6];omega),xej,show(i+1)*P.cellsOf e-as1.length=i*P.cellsOf e by rw[xd6];omega];exact h3 i (by omega)
  .by_cases hi:i<as1.length
   .rw[xed hi]at ha;refine h1.v i a v ha ?_;rw[List.getElem?_take_of_lt (by omega),xdq];exact hv
   .rw[xee (by omega)]at ha;refine h4 (i-as1.length) a v ha ?_;rw[show off+P.cellsOf e+(i-as1.length)=off+i by omega];exact hv
theorem cell?_spot{a:Addr}{v:Value}(h:w.cell? a=some v):a.spot=none:=by
 unfold World.cell? at h;split at h
 .cases hs:a.spot with
  |none=>rfl
  |some s=>rw[hs]at h;simp at h
 .cases h
theorem x61{e:TypeId}{a:Addr}(hz:0<P.cellsOf e):∀{n k:Nat},(∀i,i<n->∃cs as,w.cells? base (a.add ((k+i)*P.cellsOf e)) (P.cellsOf e)=some cs/\Cells P w e as cs) ->
 ∃rows:List (List AV),rows.length=n/\(∀r∈rows,r.length=P.cellsOf e/\Sh P e r) /\
  ∀(i:Nat) (b:AV),rows.flatten[i]?=some b->∃u,w.cell? ⟨a.block,a.off+(k*P.cellsOf e+i),none⟩=some u/\V (λb=>b<w.heap.size) w eta0 [] b u/\u.oneCell'=true
 |0,k,_=>⟨[],rfl,(λr hr=>(by cases hr)),(λi b hb=>(by simp at hb))⟩
 |n+1,k,h=>by
  obtain⟨cs,as,h1,h2⟩:=h 0 (by omega);obtain⟨rows,h3,h4,h5⟩:=x61 (n:=n) (k:=k+1) hz λi hi=>by have:=h (i+1) (by omega);rw[show k+(i+1)=k+1+i by omega]at this;exact this
  obtain⟨_,hl,hcell⟩:=World.cells?_some h1;have hla:as.length=P.cellsOf e:=(by rw[h2.len,hl]);refine⟨as::rows,by simp[h3],λr hr=>?_,λi b hb=>?_⟩
  .rcases xce.mp hr with rfl|hr
   .exact⟨hla,h2.sh⟩
   .exact h4 r hr
  .rw[List.flatten_cons]at hb;by_cases hi:i<as.length
   .rw[xed hi]at hb;have hci:=hcell i (by omega);have hlt:i<cs.length:=(by omega);rw[xci hlt]at hci;obtain⟨q1,q2⟩:=h2.v i b cs[i] hb (xci hlt);refine⟨cs[i],?_,q1,q2⟩;rw[<-hci];have hsp:=cell?_spot hci;have:((a.add ((k+0)*P.cellsOf e)).add i)=⟨a.block,a.off+(k*P.cellsOf e+i),none⟩:=by
     revert hsp;rw[xe9];unfold Addr.add;split<;>split
     .intro hsp;rename_i e1 e2;cases a;simp at hsp ⊢;exact⟨by omega,hsp⟩
     .intro _;rename_i e1 e2;simp<;>omega
     .intro _;rename_i e1 e2;simp<;>omega
     .intro _;simp<;>omega
    rw[this]
   .rw[xee (by omega)]at hb;obtain⟨u,q1,q2⟩:=h5 _ _ hb;refine⟨u,?_,q2⟩;rw[show k*P.cellsOf e+i=(k+1)*P.cellsOf e+(i-as.length) by rw[xd6];omega];exact q1
theorem I6:∀(k:Nat) {t:TypeId} {fuel:Nat} {cs:List Value} {x:DataW H×List MemPlace},s8 P k t=true->DataW.trod enc P w base spare held fuel t cs=some x->∃as,Cells P w t as cs
 |0,t,fuel,cs,x,hp,_=>by simp[s8]at hp
 |k+1,t,fuel,cs,x,hp,h=>by
  simp only[s8]at hp;cases fuel with
  |zero=>simp[DataW.trod]at h
  |succ fuel=>
  split at hp
  .rename_i e;unfold DataW.trod at h;rw[e]at h;split at h<;>simp_all;exact⟨_,.one (.bool e _) rfl⟩
  .rename_i kd e;unfold DataW.trod at h;rw[e]at h;split at h<;>simp_all;obtain⟨⟨rfl,hw⟩,_⟩:=h;exact⟨_,.one (.int e _ hw) rfl⟩
  .rename_i kd e;unfold DataW.trod at h;rw[e]at h;split at h<;>simp_all;obtain⟨⟨rfl,hw⟩,_⟩:=h;exact⟨_,.one (.float e _ hw) rfl⟩
  .rename_i e;unfold DataW.trod at h;rw[e]at h;split at h<;>simp_all;exact⟨_,.one (.string e _ h.1) rfl⟩
  .rename_i el e;rw[xc6]at hp;have hz:0<P.cellsOf el:=xdh hp.2;rcases DataW.trod_slice e h with ⟨rfl,_⟩|⟨a,len,cap,elems,rest,n,_,rfl,rfl,hb,hl,hm,hlen,hel,_⟩
   .exact⟨_,.one (.nilS e) rfl⟩
   .obtain⟨rows,h1,h2,h3⟩:=x61 (P:=P) (w:=w) (base:=base) (a:=a) (n:=len) (k:=0) hz λi hi=>by have h4:=hel i hi;have hli:i<elems.length:=(by omega);rw[xci hli,xdb]at h4;obtain⟨cs',h5,h6⟩:=h4;obtain⟨as,h7⟩:=I6 k hp.1 h6;rw[xd5];exact⟨cs',as,h5,h7⟩
    refine⟨[.slit rows.flatten rows.length (decide (cap=len))],rfl,.slice e rows _ (λr hr=>(h2 r hr).1) (λr hr=>(h2 r hr).2) (by omega),λi b v hb hv=>?_⟩;cases i with
    |succ i=>simp at hb
    |zero=>
     simp at hb hv;subst hb;subst hv;refine⟨?_,rfl⟩;have h3':∀i,i<rows.flatten.length->∃u,w.cell? ⟨a.block,a.off+i,none⟩=some u/\(∀b,rows.flatten[i]?=some b->V (λb=>b<w.heap.size) w eta0 [] b u)/\u.oneCell'=true:=(by intro i hi;obtain⟨u,q1,q2,q3⟩:=h3 i _ (xci hi);rw[xdu,xd5]at q1;exact⟨u,q1,λb hb=>by rw[xci hi]at hb;cases hb;exact q2,q3⟩);rw[<-h1];have hspot:rows.flatten≠[]->a.spot=none:=by
      intro hne;have hr0:0<len:=by
       cases rows with
       |nil=>simp at hne
       |cons r rs=>simp at h1;omega
      have h4:=hel 0 hr0;have hli:0<elems.length:=(by omega);rw[xci hli,xdb]at h4;obtain⟨cs',h5,_⟩:=h4;obtain⟨_,hl',hcell⟩:=World.cells?_some h5;have h0:=hcell 0 hz;rw[xci (by omega)]at h0;have:=cell?_spot h0;simpa[Addr.add]using this
     refine .slit _ _ _ a cap (λi=>if h:i<rows.flatten.length then Classical.choose (h3' i h)else undef) (λi hi=>?_) (λi b hb=>?_) (λhne=>⟨?_,hspot hne⟩) (by omega) (λhx=>by have:=xdz hx;omega) (λi hi=>?_)
     .rw[dif_pos hi];exact(Classical.choose_spec (h3' i hi)).1
     .have hi:i<rows.flatten.length:=(xcw.1 hb).1;rw[dif_pos hi];exact(Classical.choose_spec (h3' i hi)).2.1 b hb
     .have hi:0<rows.flatten.length:=xga.mpr hne;obtain⟨u,q1,_⟩:=h3' 0 hi;exact N2 (a:=⟨a.block,a.off+0,none⟩) q1
     .rw[dif_pos hi];exact(Classical.choose_spec (h3' i hi)).2.2
  .rename_i fs e;rw[xc6,xc8]at hp;obtain⟨xs,n,hn,_,hl,hxl,hf⟩:=DataW.trod_struct e h;have hp2:=hp.2;split at hp2
   .rename_i m hm;have hm':=xcb hp2;obtain⟨as,h1,h2,h3⟩:=x5z (P:=P) (w:=w) (cs:=cs) hm (by omega) (xf7 _) λf hfm=>by obtain⟨i,hi,hif⟩:=List.getElem_of_mem hfm;have hi':i<fs.size:=(by simpa using hi);have h4:=hf i f (by rw[xcl hi'];congr 1);rw[xci (by omega)]at h4;exact I6 k (hp.1 f hfm) h4
    refine⟨as,by omega,.struct e as (by omega) λf hfm=>?_,λi a v ha hv=>h3 i a v ha (by rw[xd5];exact hv)⟩;have:=(h2 f hfm).2;rwa[Nat.sub_zero]at this
   .cases hp2
  .rename_i n el e;rw[xc6]at hp;obtain⟨xs,m,hm,_,hl,hxl,hf⟩:=DataW.trod_array e h;have hm':=xcb hp.2;obtain⟨as,h1,h2,h3⟩:=x60 (P:=P) (w:=w) (e:=el) (cs:=cs) (n:=n) (off:=0) (by omega) λi hi=>by have h4:=hf i hi;rw[xci (by omega)]at h4;rw[xd5];exact I6 k hp.1 h4
   exact⟨as,by omega,.array e as (by omega) h2,λi a v ha hv=>h3 i a v ha (by rw[xd5];exact hv)⟩
  .cases hp
def ArgSh(P:Program)(t:TypeId)(a:AV):Prop:=
 match P.underlying t with
 |some (.struct _)|some (.array _ _)=>∃as,a=.agg as/\Sh P t as
 |_=>Sh P t [a]
theorem arg_open{k:Nat}{t:TypeId}{v:Value}{d:DataW H}{ps:List MemPlace}{r:Reach}{b0:Nat}(hp:s8 P k t=true)(hv:Value.okWide P w r b0 t v)(h:DataW.Trod enc P w base spare held t v d ps) :
 ∃a,ArgSh P t a/\V (λb=>b<w.heap.size) w eta0 [] a v:=by
 obtain⟨fuel,h⟩:=h;obtain⟨as,hl,hs,hV⟩:=I6 k hp h;have agg:∀cs:Array Value,v=.agg cs->∃a,(∃as,a=.agg as/\Sh P t as)/\V (λb=>b<w.heap.size) w eta0 [] a v:=(by rintro cs rfl;refine⟨.agg as,⟨as,rfl,hs⟩,.agg as cs ?_ λi a u ha hu=>(hV i a u ha (by simpa[Value.cells]using hu)).1⟩;rw[hl];simp[Value.cells]);unfold Value.okWide at hv;unfold ArgSh;split at hv
 .rename_i fs heq;obtain⟨cs,rfl,_⟩:=hv;simp only[heq];exact agg cs rfl
 .rename_i n el heq;obtain⟨cs,rfl,_⟩:=hv;simp only[heq];exact agg cs rfl
 .rename_i n1 n2;have one:v.cells=#[v]->∃a,Sh P t [a]/\V (λb=>b<w.heap.size) w eta0 [] a v:=by
   intro e;rw[e]at hl hV;match as,hl,hs,hV with
   |[a],_,hs,hV=>exact⟨a,hs,(hV 0 a v rfl rfl).1⟩
  have hone:v.cells=#[v]:=by
   cases v with
   |agg cs=>
    exfalso;cases hu:P.underlying t with
    |none=>simp[Cell.okWide,Cell.ok,hu]at hv
    |some d=>cases d<;>simp[Cell.okWide,Cell.ok,hu]at hv
   |_=>rfl
  obtain⟨a,h1,h2⟩:=one hone;refine⟨a,?_,h2⟩;split
  .rename_i e;exact absurd e (n1 _)
  .rename_i e;exact absurd e (n2 _ _)
  .exact h1
theorem Sh.int_inv{t:TypeId}{k:IntKind}{as:List AV}(ht:P.underlying t=some (.int k))(h:Sh P t as):∃n,as=[.sc (.int k n)]/\(Lit.int k n).wf=true:=by
 cases h with
 |int h' n wf=>rw[ht]at h';cases h';exact⟨n,rfl,wf⟩
 |nilS h'=>rw[ht]at h';cases h'
 |slice h'=>rw[ht]at h';cases h'
 |bool h'=>rw[ht]at h';cases h'
 |float h'=>rw[ht]at h';cases h'
 |string h'=>rw[ht]at h';cases h'
 |struct h'=>rw[ht]at h';cases h'
 |array h'=>rw[ht]at h';cases h'
theorem Sh.slice_inv{t e:TypeId}{as:List AV}(ht:P.underlying t=some (.slice e))(h:Sh P t as) :
 as=[.sc (.slice none 0 0)]\/∃(rows:List (List AV)) (x:Bool),as=[.slit rows.flatten rows.length x]/\(∀r∈rows,r.length=P.cellsOf e)/\(∀r∈rows,Sh P e r)/\rows.length<=maxLen:=by
 cases h with
 |nilS h'=>exact Or.inl rfl
 |slice h' rows x hz hr hl=>rw[ht]at h';cases h';exact Or.inr ⟨rows,x,rfl,hz,hr,hl⟩
 |bool h'=>rw[ht]at h';cases h'
 |int h'=>rw[ht]at h';cases h'
 |float h'=>rw[ht]at h';cases h'
 |string h'=>rw[ht]at h';cases h'
 |struct h'=>rw[ht]at h';cases h'
 |array h'=>rw[ht]at h';cases h'
theorem Sh.struct_inv{t:TypeId}{fs:Array Field}{as:List AV}(ht:P.underlying t=some (.struct fs))(h:Sh P t as) :
 as.length=P.cellsOf t/\∀f∈fs.toList,Sh P f.type ((as.drop f.offset).take (P.cellsOf f.type)):=by
 cases h with
 |struct h' cs hl hf=>rw[ht]at h';cases h';exact⟨hl,hf⟩
 |nilS h'=>rw[ht]at h';cases h'
 |slice h'=>rw[ht]at h';cases h'
 |bool h'=>rw[ht]at h';cases h'
 |int h'=>rw[ht]at h';cases h'
 |float h'=>rw[ht]at h';cases h'
 |string h'=>rw[ht]at h';cases h'
 |array h'=>rw[ht]at h';cases h'
theorem x62{α:Type}{enc:α->List AV}:∀{rows:List (List AV)},(∀r∈rows,∃x,r=enc x)->∃l:List α,rows=l.map enc
 |[],_=>⟨[],rfl⟩
 |r::rs,h=>by
  obtain⟨x,rfl⟩:=h _ (xcf ..);obtain⟨l,rfl⟩:=x62 (rows:=rs) λr hr=>h r (xc9 _ hr)
  exact⟨x::l,rfl⟩
theorem ArgSh.int{t:TypeId}{k:IntKind}{a:AV}(ht:P.underlying t=some (.int k))(h:ArgSh P t a):∃n,a=.sc (.int k n)/\(Lit.int k n).wf=true:=by unfold ArgSh at h;rw[ht]at h;obtain⟨n,h1,h2⟩:=Sh.int_inv ht h;exact⟨n,by simpa using h1,h2⟩
theorem ArgSh.slice{t e:TypeId}{a:AV}(ht:P.underlying t=some (.slice e))(h:ArgSh P t a):Sh P t [a]:=by unfold ArgSh at h;rw[ht]at h;exact h
theorem ArgSh.struct{t:TypeId}{fs:Array Field}{a:AV}(ht:P.underlying t=some (.struct fs))(h:ArgSh P t a):∃l,a=.agg l/\Sh P t l:=by unfold ArgSh at h;rw[ht]at h;exact h
theorem ArgSh.array{t e:TypeId}{n:Nat}{a:AV}(ht:P.underlying t=some (.array n e))(h:ArgSh P t a):∃l,a=.agg l/\Sh P t l:=by unfold ArgSh at h;rw[ht]at h;exact h
end Go.Ix
