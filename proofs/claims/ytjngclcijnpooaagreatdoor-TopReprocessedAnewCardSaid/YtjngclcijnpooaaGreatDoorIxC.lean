import Derived.Test.YtjngclcijnpooaaGreatDoorIxB
import Derived.Laws.BytesString
import Derived.Lib.LaidTab
import Derived.Lib.ItoaNum
import Derived.AtR
import Derived.RangeFuncLeaves
set_option linter.all false
namespace Go.Ix
section
variable{P:Program}{E:Env}{w:World}{st:St}{id0:Id}{sl:Nat->AV}{ρ:Operand->Value}{o:Oper}{v:AV}{objs':Id->Option Ob}
def xvf{t:TypeId}{r:Option Operand}(p:Sim E w st)(l:id0.1<st.next)(u:∀j,E.η id0 j=none)(n:o.op=.makeMap t r)(h:aO P id0 o sl st.aC=some (v,objs')):Ok P E w st id0 (execOp ρ o) v objs':=by
 cases r with
 |some r=>simp[aO,n]at h
 |none=>
  simp only[aO,n,bN,bF]at h;obtain⟨rfl,rfl⟩:=h;let w':World:={w with heap:=w.heap.push (.map #[] 0)}
  let E':Env:={E with η:=λi v=>if i=id0/\v=0 then some (w.heap.size,0,0)else E.η i v,O:=λb=>if b=w.heap.size then some id0 else E.O b}
  have a:∀b,b<w.heap.size->w'.heap[b]?=w.heap[b]?:=λb d=>by show(w.heap.push _)[b]?=_;rw[J1 d,iZ d]
  have F:∀i v x,E.η i v=some x->E'.η i v=some x:=λi v x h=>by
   show(if _ then _ else _)=_;split
   .rename_i e;rw[e.1,u]at h;cases h
   .exact h
  obtain⟨H,J⟩:=p.turn (E':=E') (w':=w') (id:=id0) (o:=.map []) (.of_same a) l F
   (λi v f=>by show(if _ then _ else _)=_;rw[aB (λe=>f e.1)]) rfl rfl rfl
   (λb d=>by show(if _ then _ else _)=_;rw[aB (by omega)])
   (λb i d g=>by
    replace g:(if b=w.heap.size then some id0 else E.O b)=some i:=g
    split at g
    .rename_i e;cases g;exact⟨rfl,by show _<(w.heap.push _).size;simp;omega⟩
    .have:=(p.own b i g).2.2;omega)
   (by show _<=(w.heap.push _).size;simp) (λb d=>by simp[World.shape?,a b d]) (λb d _=>a b d)
   ⟨w.heap.size,#[],0,by show(if _ then _ else _)=_;rw[aF ⟨rfl,rfl⟩],λA C=>by
    show(if _ then _ else _)=_
    rw[aB (by rintro⟨_,e⟩;omega)];exact u A,by show(w.heap.push _)[_]?=_;simp,⟨rfl,by simp,by simp⟩,λi e m D=>by simp at D,by show(if _ then _ else _)=_;rw[aF rfl]⟩
  refine⟨_,.map (some w.heap.size),E',w',by simp[execOp,n,Instr.makeMap];rfl,.inl rfl,.mp id0 w.heap.size (by show(if _ then _ else _)=_;rw[aF ⟨rfl,rfl⟩]),H,J,λi j f=>?_⟩;by_cases y:i=id0
  .exact .inr (.inl y)
  .left;intro e;apply f;show(if _ then _ else _)=_;rw[aB (λh=>y h.1)];exact e
def x8i{s t:ByteArray}(h:(s == t)=true):s=t:=by cases s;cases t;have h':ByteArray.beq _ _=true:=h;unfold ByteArray.beq at h';simp at h';rw[h']
def x8h(s:ByteArray):(s == s)=true:=by show ByteArray.beq s s=true;unfold ByteArray.beq;simp
def IV{r:Nat}{a:Array MapEntry}{c:Nat}(h:w.heap[r]?=some (.map a c)):(getObj r).run P w=.ok (.map a c) w:=by simp[getObj,Sem.run,h]
def xvu{a:Value}{p:List AV}{x:Operand}{s d:TypeId}(C:Sim E w st)(D:ρ x=a)(F:o.op=.convert s d x)(h:LG P s d a=some p):Ok P E w st id0 (execOp ρ o) (.aN p p.length false) st.aC:=by
 unfold LG at h;split at h
 .rename_i t;split at h
  .rename_i O e Z H;split at h
   .rename_i J;cases h;let g:Array Value:=t.data.map λb=>.int .u8 b.toNat
    let f:=Question.cut (.appendCap t.size 0 e) (w.tape w.drawn (.appendCap t.size 0 e))
    have j:t.size<=f:=(by simp[f,Question.cut]);let arr':Array Value:=g++Array.replicate (f-t.size) (.int .u8 0)
    let m:Nat×Nat:=(arr'.size,arr'.size+1)
    let w':World:={w with drawn:=w.drawn+1,heap:=w.heap.push (.cells arr' e m)}
    have r:(choose (.appendCap t.size 0 e)).run P w=.ok f {w with drawn:=w.drawn+1}:=(by simp[Question.forced,f]);have u:(markStringish ⟨w.heap.size,0,none⟩).run P {w with drawn:=w.drawn+1,heap:=w.heap.push (.cells arr' e (0,0))}=.ok () w':=by
     have Z:World.shape? {w with drawn:=w.drawn+1,heap:=w.heap.push (.cells arr' e (0,0))} w.heap.size=some (e,arr'.size):=(by simp[World.shape?]);simp only[markStringish,shape,freeze,Sem.run_bind];simp only[Sem.run,Z,Result.andThen_ok];unfold World.freeze;rw[aB (by decide)];simp only[Result.ok.injEq,World.mk.injEq,true_and,and_true,w',m];apply VU;intro i;rw[xi,Array.getElem?_push,Array.getElem?_push];by_cases n:i=w.heap.size
     .subst n;simp
     .rw[aB n,aB (λh=>n h.symm),aB n]
    have l:(execOp ρ o).run P w=.ok (.value (.slice (some ⟨w.heap.size,0,none⟩) t.size f)) w':=(by simp only[execOp,F,D,convert,Sem.run_bind,eC Z,eC H,eC J,Result.andThen_ok,Conv.stringToBytes,r,newRow,run_newObj,Sem.run_pure];rw[u];rfl);obtain⟨M,N⟩:=C.lit (w':=w') (arr:=arr') (t:=e) (fz:=m) rfl;have K:(t.data.toList.map λb=>AV.sc (.int .u8 b.toNat)).length=t.size:=(by rw[lU];rfl);refine⟨_,_,_,_,l,.inl rfl,?_,M,N,λ_ _ h=>.inl h⟩;rw[K];refine LitAt.aN ⟨λk a y=>?_,λ_=>⟨.inr rfl,rfl⟩⟩ j (λh=>by cases h);rw[FV,cE]at y;obtain⟨b,A,rfl⟩:=y;have R:k<t.data.size:=(by have:=(lC.1 A).1;simpa using this);refine⟨.int .u8 b.toNat,?_,.sc _,rfl⟩;have hb':t.data[k]?=some b:=(by simpa using A);have L:t.size=t.data.size:=rfl;simp[World.cell?,w',arr',g,xj,hb'];intro Q;omega
   .cases h
  .cases h
 .cases h
def y':∀{d:List AV} {l:List UInt8},AS d=some l->∃b:List Int,d=b.map (λn=>.sc (.int .u8 n))/\l=b.map λn=>UInt8.ofNat n.toNat
 |[],l,h=>by simp[AS]at h;subst h;exact⟨[],rfl,rfl⟩
 |a::d,l,h=>by
  unfold AS at h;split at h
  .rename_i e;cases e
  .rename_i n r e;cases e;simp only[cE]at h;obtain⟨g,f,rfl⟩:=h;obtain⟨b,rfl,rfl⟩:=y' f;exact⟨n::b,rfl,rfl⟩
  .cases h
def xfd:∀(a:List Int) (s:ByteArray),a.foldl (λr n=>r.push (UInt8.ofNat n.toNat)) s=⟨s.data++(a.map λn=>UInt8.ofNat n.toNat).toArray⟩
 |[],s=>by cases s;simp
 |n::a,s=>by rw[ez,xfd a];cases s;simp[ByteArray.push]
def xu5{x:Operand}{s d:TypeId}{t:ByteArray}(H:Sim E w st)(f:∀x:Operand,E.V w (ev sl x) (ρ x))(J:o.op=.convert s d x)(h:qG P st.aC s d (ev sl x)=some t):Ok P E w st id0 (execOp ρ o) (.sc (.string t)) st.aC:=by
 unfold qG at h;split at h
 .rename_i C Z K;split at h
  .rename_i L;split at h
   .rename_i cs n g;simp only[cE]at h;obtain⟨l,p,rfl⟩:=h;obtain⟨b,rfl,rfl⟩:=y' p;obtain⟨X,Y,h3⟩:=EW (P:=P) H (f x) g;obtain⟨D,j,F⟩:=h3 n w (bO _) rfl;rw[<-X,el]at F;have A:D=(b.map (Value.int .u8)).toArray:=by
     refine Array.ext (by simp[F.1]) λi N O=>?_
     have Q:i<b.length:=(by simpa using O);obtain⟨v,M,e2,-⟩:=F.2 i (.sc (.int .u8 b[i])) (by simp[Q]);have R:=kZ e2;subst R;rw[iZ N]at M;simpa using pR M
    subst A;obtain⟨a,m,c,e⟩:=x14 (f x) g;refine .quiet (u:=.string ⟨(b.map λn:Int=>UInt8.ofNat n.toNat).toArray⟩) H ?_ (.sc _) rfl;have p:(Builtin.lenOf (ρ x)).run P w=.ok m w:=(by rw[e];rfl);rw[Y w]at p;have r:n=m:=(by cases p;rfl);subst r;cases a with
    |none=>rw[e]at j;have W:(b.map (Value.int .u8)).toArray=#[]:=(by have:(Builtin.firstCells 1 n (.slice none n c)).run P w=.ok #[] w:=rfl;rw[this]at j;injection j with y;exact y.symm);have:b=[]:=(by simpa using W);subst this;simp[execOp,J,e,run_convert_bytes_string w s d C none n c Z L K,Conv.bytesToString];rfl
    |some a=>rw[e]at j;have y:(loadCells a n).run P w=.ok (b.map (Value.int .u8)).toArray w:=(by simpa[Builtin.firstCells]using j);have:=run_bytesToString w a n c b y;rw[xfd]at this;simp[execOp,J,e,run_convert_bytes_string w s d C (some a) n c Z L K,this]
   .cases h
  .cases h
 .cases h
def xvs{s d:TypeId}{x:Operand}(i:Sim E w st)(b:∀x:Operand,E.V w (ev sl x) (ρ x))(g:o.op=.convert s d x)(h:aO P id0 o sl st.aC=some (v,objs')):Ok P E w st id0 (execOp ρ o) v objs':=by
 simp only[aO,g]at h;split at h
 .rename_i t l;cases h;exact xu5 i b g l
 simp only[cE,bF]at h;obtain⟨r,j,rfl,rfl⟩:=h;unfold mM at j;split at j;rotate_left
 .have:=Ok.abs (id0:=id0) (us:=[ρ x]) i j rfl (xcf (b x));simpa[execOp,g,xf1]using this
 rename_i y f;cases j;unfold KU at f;split at f
 .rename_i a m;have e:=lG (b x) m;split at f
  .rename_i A n;cases f;exact xvu i e g n
  .simp only[cE]at f;obtain⟨u,p,rfl⟩:=f;have:=Ok.pure (w:=w) (id0:=id0) i p;simpa[execOp,g,e]using this
 .cases f
def xzf{d:TypeDesc}{k:Value}{i:List (Value×AV)}(h:uD d k i=true){k':Value}{a:AV}(g:(k',a)∈i):Instr.sameNow d k k'=some (gO k k')/\(gO k k'=true->k'=k):=by
 unfold uD at h;cases d with
 |int m=>
  simp only[dP,cI,dJ,fF]at h;have b:=h.1;have f:=h.2 k' ⟨(k',a),g,rfl⟩;cases k with
  |int o n=>
   cases k' with
   |int j p=>simp only[beq_iff_eq]at b f;subst b;subst f;simp[Instr.sameNow,gO];intro e;exact e.symm
   |_=>simp at f
  |_=>simp at b
 |string=>
  simp only[dP,cI,dJ,fF]at h;have b:=h.1;have f:=h.2 k' ⟨(k',a),g,rfl⟩;cases k with
  |string s=>
   cases k' with
   |string l=>exact⟨rfl,λe=>by rw[x8i e]⟩
   |_=>simp at f
  |_=>simp at b
 |bool=>
  simp only[dP,cI,dJ,fF]at h;have b:=h.1;have f:=h.2 k' ⟨(k',a),g,rfl⟩;cases k with
  |bool s=>
   cases k' with
   |bool l=>simp[Instr.sameNow,gO];intro e;exact e.symm
   |_=>simp at f
  |_=>simp at b
 |_=>simp at h
def xuq{d:TypeDesc}{k:Value}{p:Value×AV}{a:List (Value×AV)}(h:uD d k (p::a)=true):uD d k a=true:=by cases d<;>simp only[uD,fY,dP,cI,fH]at h ⊢<;>exact⟨h.1,h.2.2⟩
def xfi{d:TypeDesc}{k:Value}:∀(f:List (Value×AV)) (b:List MapEntry) (i:Nat),uD d k f=true->b.length=f.length->(∀(j:Nat) (e:Value×AV) (m:MapEntry),f[j]?=some e->b[j]?=some m->m.key=e.1) ->
    (Instr.findNow d k b i=some none/\findKey k f=none/\∀x,setKey k x f=f++[(k,x)]) \/
    ∃j m a,b[j]?=some m/\f[j]?=some (k,a)/\m.key=k/\Instr.findNow d k b i=some (some (i+j,m.val))/\findKey k f=some a/\∀x,setKey k x f=f.set j (k,x)
 |[],b,i,_,l,_=>by have:b=[]:=(by simpa using l);subst this;exact .inl ⟨rfl,rfl,λ_=>rfl⟩
 |(h,a)::f,b,i,t,l,u=>by
  cases b with
  |nil=>simp at l
  |cons m b=>
   have g:m.key=h:=u 0 (h,a) m rfl rfl;obtain⟨n,C⟩:=xzf t (k':=h) (a:=a) (by simp);cases Z:gO k h with
   |true=>right;have e:=C Z;subst e;exact⟨0,m,a,rfl,rfl,g,by simp[Instr.findNow,g,n,Z],by simp[findKey,Z],λx=>by simp[setKey,Z]⟩
   |false=>
    have A:=xfi f b (i+1) (xuq t) (by simpa using l) (λj e m w y=>u (j+1) e m w y);rcases A with ⟨o,p,r⟩|⟨j,D,E,o,p,r,F,H,J⟩
    .left;exact⟨by simp[Instr.findNow,g,n,Z,o],by simp[findKey,Z,p],λx=>by simp[setKey,Z,r]⟩
    .right;refine⟨j+1,D,E,o,p,r,?_,by simp[findKey,Z,H],λx=>by simp[setKey,Z,J]⟩;simp[Instr.findNow,g,n,Z,F];omega
def xo6{b:Bool}{a:TypeId}{d:TypeDesc}{k:Value}{f:List (Value×AV)}(g:P.underlying a=some d)(e:uD d k f=true):(Instr.checkKey b 10000 a k).run P w=.ok () w:=by show(Instr.checkKey b (9999+1) a k).run P w=.ok () w;unfold Instr.checkKey;unfold uD at e;simp only[Sem.run_bind,eC g,Result.andThen_ok];cases d<;>simp at e<;>cases k<;>first|rfl|(simp at e)
def YA:∀{a b:List Value},xP a b=true->b=a
 |[],[],_=>rfl
 | .int k a::r,.int d b::e,h=>by simp only[xP,cI,beq_iff_eq]at h;obtain⟨⟨rfl,rfl⟩,h⟩:=h;rw[YA h]
def YB{n:Nat}:∀{a:List Value},xP a a=true->(a.zip a).all (λ(x,y)=>Instr.sameBits n x y)=true
 |[],_=>rfl
 | .int k a::r,h=>by simp only[xP,cI]at h;simp[Instr.sameBits,YB h.2]
structure KeyFacts (P:Program) (kt:TypeId) (k:Value) (es:List (Value×AV)):Prop where
 check:∀(b:Bool) (w:World),(Instr.checkKey b 10000 kt k).run P w=.ok () w
 bits:Instr.sameBits 10000 k k=true
 find:∀(w:World) (ents:List MapEntry),ents.length=es.length->(∀(j:Nat) (e:Value×AV) (m:MapEntry),es[j]?=some e->ents[j]?=some m->m.key=e.1) ->
  ((Instr.findKey kt k ents).run P w=.ok none w/\findKey k es=none/\∀x,setKey k x es=es++[(k,x)]) \/
  ∃j m a,ents[j]?=some m/\es[j]?=some (k,a)/\m.key=k/\(Instr.findKey kt k ents).run P w=.ok (some (j,m.val)) w/\findKey k es=some a/\∀x,setKey k x es=es.set j (k,x)
def bx{n:TypeId}{k:Value}{w:World}:∀(d:List (Value×AV)) (b:List MapEntry) (i:Nat),(∀e∈d,(∀w,(Op.equal n k e.1).run P w=.ok (gO k e.1) w)/\(gO k e.1=true->e.1=k))->b.length=d.length->(∀(j:Nat) (e:Value×AV) (m:MapEntry),d[j]?=some e->b[j]?=some m->m.key=e.1) ->
    ((Instr.findAsking n k b i).run P w=.ok none w/\findKey k d=none/\∀x,setKey k x d=d++[(k,x)]) \/
    ∃j m a,b[j]?=some m/\d[j]?=some (k,a)/\m.key=k/\(Instr.findAsking n k b i).run P w=.ok (some (i+j,m.val)) w/\findKey k d=some a/\∀x,setKey k x d=d.set j (k,x)
 |[],b,i,_,h,_=>by have:b=[]:=(by simpa using h);subst this;exact .inl ⟨rfl,rfl,λ_=>rfl⟩
 |(l,a)::d,b,i,y,h,A=>by
  cases b with
  |nil=>simp at h
  |cons m b=>
   have f:m.key=l:=A 0 (l,a) m rfl rfl;obtain⟨g,u⟩:=y (l,a) (by simp);simp only at g u;cases Z:gO k l with
   |true=>right;have e:=u Z;subst e;rw[Z]at g;exact⟨0,m,a,rfl,rfl,f,by simp[Instr.findAsking,f,g],by simp[findKey,Z],λx=>by simp[setKey,Z]⟩
   |false=>
    rw[Z]at g;have D:=bx (w:=w) d b (i+1) (λe o=>y e (eE _ o)) (by simpa using h) (λj e m o C=>A (j+1) e m o C);rcases D with ⟨p,r,t⟩|⟨j,E,F,p,r,t,H,J,K⟩
    .left;exact⟨by simp[Instr.findAsking,f,g,p],by simp[findKey,Z,r],λx=>by simp[setKey,Z,t]⟩
    .right;refine⟨j+1,E,F,p,r,t,?_,by simp[findKey,Z,J],λx=>by simp[setKey,Z,K]⟩;simp[Instr.findAsking,f,g,H];omega
def xdz{o:TypeId}{d:TypeDesc}{k:Value}{l:List (Value×AV)}(n:P.underlying o=some d)(h:sJ P o d k l=true):KeyFacts P o k l:=by
 unfold sJ at h;rw[lD]at h;rcases h with hp|hp
 .refine⟨λb w=>xo6 n hp,?_,λw f y D=>?_⟩
  .unfold uD at hp;cases d<;>simp at hp<;>cases k<;>simp_all [Instr.sameBits,x8h]
  .rcases xfi l f 0 hp y D with ⟨Q,R,W⟩|⟨j,m,a,Q,R,W,g4,g5,g6⟩
   .exact .inl ⟨by simp[Instr.findKey,eC n,Q],R,W⟩
   .exact .inr ⟨j,m,a,Q,R,W,by simp only[Instr.findKey,Sem.run_bind,eC n,Result.andThen_ok,g4,Sem.run_pure,bR],g5,g6⟩
 .unfold IJ at hp;split at hp
  .rename_i fs g;simp only[cI,dJ]at hp;obtain⟨⟨t,M,N⟩,O⟩:=hp;have E:∀(b:Bool) (w:World),(Instr.checkKey b 10000 o (.agg g)).run P w=.ok () w:=λb w=>by
    cases b with
    |true=>obtain⟨u,n⟩:=LU.1 M;exact vS n w
    |false=>obtain⟨u,n⟩:=LU.1 N;exact vS n w
   have r:∀e∈l,(∃c,e.1=.agg c)/\(∀w,(Op.equal o (.agg g) e.1).run P w=.ok (gO (.agg g) e.1) w)/\(gO (.agg g) e.1=true->e.1=.agg g):=λe p=>by
    have:=O e p;split at this
    .rename_i c b A K;have F:b=gO (.agg g) e.1:=(by simpa using this);subst F;refine⟨⟨c,A⟩,λw=>vS K w,λZ=>?_⟩;rw[A]at Z ⊢;simp only[gO]at Z;have:=YA Z;rw[show c=g from xja.1 this]
    .cases this
   refine⟨E,?_,λw f y D=>?_⟩
   .simp only[gO]at t;show Instr.sameBits (9999+1) (.agg g) (.agg g)=true;unfold Instr.sameBits;simp only[beq_self_eq_true,iG];exact YB t
   .have H:∀{α:Type} (x:Sem (Option (Nat×Value))) ,(∀e,l[0]?=some e->(Instr.findKey o (.agg g) f).run P w=(Instr.findAsking o (.agg g) f).run P w):=λ{_} _ e p=>by
     cases l with
     |nil=>cases p
     |cons C l=>
      cases f with
      |nil=>simp at y
      |cons J f=>obtain⟨c,A⟩:=(r C (by simp)).1;have:J.key=.agg c:=(D 0 C J rfl rfl).trans A;simp[Instr.findKey,eC n,Instr.findNow,Instr.sameNow,this]
    cases i:l with
    |nil=>subst i;have:f=[]:=(by simpa using y);subst this;exact .inl ⟨by simp[Instr.findKey,eC n,Instr.findNow],rfl,λ_=>rfl⟩
    |cons C X=>have L:=H (α:=Unit) (Pure.pure none) C (by rw[i];rfl);rw[<-i,L];have:=bx (w:=w) l f 0 (λe p=>(r e p).2) y D;simpa only[bR]using this
  .rename_i n0 Y g;simp only[cI,dJ]at hp;obtain⟨⟨t,M,N⟩,O⟩:=hp;have E:∀(b:Bool) (w:World),(Instr.checkKey b 10000 o (.agg g)).run P w=.ok () w:=λb w=>by
    cases b with
    |true=>obtain⟨u,n⟩:=LU.1 M;exact vS n w
    |false=>obtain⟨u,n⟩:=LU.1 N;exact vS n w
   have r:∀e∈l,(∃c,e.1=.agg c)/\(∀w,(Op.equal o (.agg g) e.1).run P w=.ok (gO (.agg g) e.1) w)/\(gO (.agg g) e.1=true->e.1=.agg g):=λe p=>by
    have:=O e p;split at this
    .rename_i c b A K;have F:b=gO (.agg g) e.1:=(by simpa using this);subst F;refine⟨⟨c,A⟩,λw=>vS K w,λZ=>?_⟩;rw[A]at Z ⊢;simp only[gO]at Z;have:=YA Z;rw[show c=g from xja.1 this]
    .cases this
   refine⟨E,?_,λw f y D=>?_⟩
   .simp only[gO]at t;show Instr.sameBits (9999+1) (.agg g) (.agg g)=true;unfold Instr.sameBits;simp only[beq_self_eq_true,iG];exact YB t
   .have H:∀{α:Type} (x:Sem (Option (Nat×Value))) ,(∀e,l[0]?=some e->(Instr.findKey o (.agg g) f).run P w=(Instr.findAsking o (.agg g) f).run P w):=λ{_} _ e p=>by
     cases l with
     |nil=>cases p
     |cons C l=>
      cases f with
      |nil=>simp at y
      |cons J f=>obtain⟨c,A⟩:=(r C (by simp)).1;have:J.key=.agg c:=(D 0 C J rfl rfl).trans A;simp[Instr.findKey,eC n,Instr.findNow,Instr.sameNow,this]
    cases i:l with
    |nil=>subst i;have:f=[]:=(by simpa using y);subst this;exact .inl ⟨by simp[Instr.findKey,eC n,Instr.findNow],rfl,λ_=>rfl⟩
    |cons C X=>have L:=H (α:=Unit) (Pure.pure none) C (by rw[i];rfl);rw[<-i,L];have:=bx (w:=w) l f 0 (λe p=>(r e p).2) y D;simpa only[bR]using this
  .cases hp
def xvi{t:TypeId}{x ix:Operand}{C:Bool}(hS:Sim E w st)(O:∀x:Operand,E.V w (ev sl x) (ρ x))(Q:o.op=.lookup t x ix C)(h:aO P id0 o sl st.aC=some (v,objs')):Ok P E w st id0 (execOp ρ o) v objs':=by
 simp only[aO,Q]at h;split at h
 .rename_i kt et k W hk;have Y:=lG (O ix) hk;split at h
  .rename_i d zv hd n;obtain⟨z,X,rfl⟩:∃z,(∀w,(zeroValue et).run P w=.ok z w)/\zv=fJ z:=by
    unfold J3 at n;split at n
    .rename_i i hi;split at n
     .rename_i z X;cases n;exact⟨z,λw=>by simp[zeroValue,L8 hi,X],rfl⟩
     .cases n
    .cases n
   split at h
   .rename_i es g;split at h
    .rename_i hp;simp only[bN,bF]at h;obtain⟨y,rfl⟩:=h;obtain⟨f,A,hl,L,M⟩:∃f:Array MapEntry,(ρ x=.map none/\f=#[]\/∃r c,ρ x=.map (some r)/\w.heap[r]?=some (.map f c))/\f.toList.length=es.length /\
      (∀(j:Nat) (e:Value×AV) (m:MapEntry),es[j]?=some e->f.toList[j]?=some m->m.key=e.1)/\(∀(j:Nat) (e:Value×AV) (m:MapEntry),es[j]?=some e->f.toList[j]?=some m->E.V w e.2 m.val):=by
      have K:=O x;unfold sG at g;split at g
      .rename_i id A;rw[A]at K;obtain⟨blk,hη,e⟩:=LR K;split at g
       .rename_i es' hob;cases g;obtain⟨blk',f,N,h1,_,h3,h4,h5,_⟩:=hS.obj _ _ hob;rw[hη]at h1;cases h1;exact⟨f,.inr ⟨blk,N,e,h3⟩,by simpa using h4.1,λj e m J Z=>(h5 j e m J (by simpa using Z)).1,λj e m J Z=>(h5 j e m J (by simpa using Z)).2⟩
       .cases g
      .rename_i A;rw[A]at K;cases g;exact⟨#[],.inl ⟨kZ K,rfl⟩,rfl,λj e m J=>by simp at J,λj e m J=>by simp at J⟩
      .cases g
     have hF:=xdz hd hp;have F:=λb=>hF.check b w
     have H:∀(r:Option (Nat×Value)) (u:Value) (p:Bool) (R:AV),(Instr.findKey kt k f.toList).run P w=.ok r w->(r=none/\u=z/\p=false\/∃i,r=some (i,u)/\p=true)->E.V w R u ->
      v=(if C then .tup [R,.sc (.bool p)]else R)->Ok P E w st id0 (execOp ρ o) v st.aC:=by
      intro r u p R l hr K ev;refine .quiet (u:=if C then .tuple #[u,.bool p]else u) hS ?_ ?_ rfl
      .rcases A with ⟨A,rfl⟩|⟨r,c,A,hh⟩<;>rcases hr with ⟨rfl,rfl,rfl⟩|⟨i,rfl,rfl⟩
       .simp only[execOp,Q,Instr.lookup,Sem.run_bind,eC W,Result.andThen_ok,A,Sem.run_pure,Y,F,l,X]
       .simp only[execOp,Q,Instr.lookup,Sem.run_bind,eC W,Result.andThen_ok,A,Sem.run_pure,Y,F,l]
       .simp only[execOp,Q,Instr.lookup,Sem.run_bind,eC W,Result.andThen_ok,A,IV hh,Sem.run_pure,Y,F,l,X]
       .simp only[execOp,Q,Instr.lookup,Sem.run_bind,eC W,Result.andThen_ok,A,IV hh,Sem.run_pure,Y,F,l]
      .rw[ev];cases C with
       |false=>exact K
       |true=>
        refine .tup _ _ (by simp) λi a v D y=>?_
        match i,D,y with
        |0,D,y=>simp at D y;subst D;subst y;exact K
        |1,D,y=>simp at D y;subst D;subst y;exact .sc _
        |(i+2),D,y=>simp at D
     rcases hF.find w f.toList hl L with ⟨g1,g2,_⟩|⟨j,m,a,g1,g2,g3,g4,g5,_⟩
     .exact H none z false (fJ z) g1 (.inl ⟨rfl,rfl,rfl⟩) (FJ z) (by rw[<-y,g2];rfl)
     .exact H (some (j,m.val)) m.val true a g4 (.inr ⟨_,rfl,rfl⟩) (M j _ m g2 g1) (by rw[<-y,g5];rfl)
    .cases h
   .cases h
  .cases h
 .cases h
def x77{e:Array MapEntry}{d:Nat}{k u:Value}(g:∀x∈e.toList,x.born<d)(i:(e.toList.map (·.born)).Nodup) :
    (∀x∈(e.push {key:=k,val:=u,born:=d}).toList,x.born<d+1)/\((e.push {key:=k,val:=u,born:=d}).toList.map (·.born)).Nodup:=by
 refine⟨λx f=>?_,?_⟩
 .simp only[Array.toList_push,iF,pS]at f;rcases f with f|rfl
  .exact Nat.lt_succ_of_lt (g x f)
  .exact mH _
 .simp only[Array.toList_push,nU,fY,lB];refine zS.2 ⟨i,by simp,λa j b h=>?_⟩;simp only[pS]at h;subst h;obtain⟨x,f,rfl⟩:=fF.1 j;exact Nat.ne_of_lt (g x f)
def x78{a:Array MapEntry}{b j:Nat}{k u:Value}(d:∀x∈a.toList,x.born<b)(f:(a.toList.map (·.born)).Nodup) :
    (∀x∈(a.modify j λe=>{e with key:=k,val:=u}).toList,x.born<b)/\((a.modify j λe=>{e with key:=k,val:=u}).toList.map (·.born)).Nodup:=by
 have e:(a.modify j λe=>{e with key:=k,val:=u}).toList.map (·.born)=a.toList.map (·.born):=by
  apply List.ext_getElem?;intro i;simp only[FV,VR,xi];split
  .cases a[i]?<;>rfl
  .rfl
 refine⟨λx g=>?_,by rw[e];exact f⟩;have hx':x.born∈(a.modify j λe=>{e with key:=k,val:=u}).toList.map (·.born):=fF.2 ⟨x,g,rfl⟩;rw[e]at hx';obtain⟨y,h,l⟩:=fF.1 hx';rw[<-l];exact d y h
def xcg{t:TypeId}{x ix y:Operand}(M:Sim E w st)(H:∀x:Operand,E.V w (ev sl x) (ρ x))(ho:o.op=.mapUpdate t x ix y)(h:aO P id0 o sl st.aC=some (v,objs')):Ok P E w st id0 (execOp ρ o) v objs':=by
 simp only[aO,ho]at h;split at h
 .rename_i kt et k id hu hk hx;have ek:=lG (H ix) hk;split at h
  .rename_i d L hd hob;split at h
   .rename_i hp;simp only[bN,bF]at h;obtain⟨rfl,rfl⟩:=h;have hV:=H x;rw[hx]at hV;obtain⟨n,hη,e⟩:=LR hV;obtain⟨blk',A,D,h1,h2,N,⟨h4,Y,Z⟩,h5,h6⟩:=M.obj _ _ hob;rw[hη]at h1;cases h1;have hb:n<w.heap.size:=(M.own _ _ h6).2.2;have hF:=xdz hd hp;have R:=hF.check false w;have fin:∀(l:Array MapEntry) (f:Nat),(execOp ρ o).run P w=.ok .skip {w with heap:=w.heap.setIfInBounds n (.map l f)}->Szd l f (setKey k (Ix.ev sl y) L).length ->
     (∀(i:Nat) (e:Value×AV) (m:MapEntry),(setKey k (Ix.ev sl y) L)[i]?=some e->l[i]?=some m->m.key=e.1/\E.V w e.2 m.val)->Ok P E w st id0 (execOp ρ o) (.sc undef) (bH st.aC id (some (.map (setKey k (Ix.ev sl y) L)))):=by
     intro l f Q hsz F;let w':World:={w with heap:=w.heap.setIfInBounds n (.map l f)}
     have p:∀b,b≠n->w'.heap[b]?=w.heap[b]?:=λb K=>by show(w.heap.setIfInBounds n _)[b]?=_;rw[tG (Ne.symm K)]
     have J:w'.heap[n]?=some (.map l f):=(by show(w.heap.setIfInBounds n _)[n]?=_;simp[hb]);have W:∀b,w'.shape? b=w.shape? b:=λb=>by
      by_cases hbb:b=n
      .subst hbb;simp[World.shape?,J,N]
      .simp[World.shape?,p b hbb]
     have X:Ext E.G w w':=⟨by show _<=(w.heap.setIfInBounds n _).size;simp,λb _=>W b,λb g _=>p b λe=>by
      subst e
      have:=M.own b id h6
      rcases g with g|g
      .exact this.1 g
      .exact this.2.1 g,rfl,rfl⟩
     obtain⟨O,g2⟩:=M.turn (E':=E) (w':=w') (id:=id) (o:=.map (setKey k (Ix.ev sl y) L)) (.of_one N (by intro r e;cases e) p) (M.dom _ _ _ hη) (λ_ _ _ h=>h) (λ_ _ _=>rfl) rfl rfl rfl (λ_ _=>rfl) (λb i hb' hO=>by have:=(M.own b i hO).2.2;omega)
      (by show _<=(w.heap.setIfInBounds n _).size;simp) (λb _=>W b) (λb _ K=>p b λe=>by subst e;exact K h6)
      ⟨n,l,f,hη,h2,J,hsz,λi e m u C=>⟨(F i e m u C).1,V.mono (λ_ h=>h) (X.kA λ_ _ g=>.inl g) (F i e m u C).2 (λ_ _ _ h=>h) (λ_ _ h=>h)⟩,h6⟩
     exact⟨.skip,undef,E,w',Q,.inr ⟨rfl,rfl⟩,.sc _,O,g2,λ_ _ h=>.inl h⟩
    rcases hF.find w A.toList (by simpa using h4) (λj e m u C=>(h5 j e m u (by simpa using C)).1)with ⟨O,g2,g3⟩|⟨j,m,a,O,g2,g3,g4,g5,g6⟩
    .refine fin (A.push {key:=k,val:=ρ y,born:=D}) (D+1) ?_ ⟨by rw[g3];simp[h4],x77 Y Z⟩ λi e' m' u C=>?_
     .simp[execOp,ho,Instr.mapUpdate,eC hu,e,IV N,ek,R,O,setObj,Sem.run,N]
     .rw[g3]at u;by_cases hi:i<L.length
      .rw[zU hi]at u;rw[J1 (by omega)]at C;exact h5 i e' m' u (by rw[iZ (by omega)];exact C)
      .have hi2:i=L.length:=(by have:=(lC.1 u).1;simp at this;omega);subst hi2;rw[V9 (bO _)]at u;rw[<-h4]at C;simp at u C;subst u;subst C;exact⟨rfl,H y⟩
    .refine fin (A.modify j λe=>{e with key:=k,val:=ρ y}) D ?_ ⟨by rw[g6];simp[h4],x78 Y Z⟩ λi e' m' u C=>?_
     .have hsb:Instr.sameBits 10000 k k=true:=hF.bits;have hj:A[j]?=some m:=(by simpa using O);have hkk:(Instr.keyThatStays k k).run P w=.ok k w:=(by simp[Instr.keyThatStays,hsb]);simp only[execOp,ho,Instr.mapUpdate,Sem.run_bind,eC hu,Result.andThen_ok,e,IV N,ek,R,g4,Sem.run_pure,hj,Option.map_some,Option.getD_some,g3,hkk];simp[setObj,Sem.run,N]
     .rw[g6]at u;rw[xi]at C;by_cases hi:j=i
      .subst hi;have hlt:j<L.length:=(lC.1 g2).1;rw[List.getElem?_set_self hlt]at u;have hj:A[j]?=some m:=(by simpa using O);simp[hj]at C;cases u;subst C;exact⟨rfl,H y⟩
      .rw[List.getElem?_set_ne hi]at u;rw[aB hi]at C;exact h5 i e' m' u C
   .cases h
  .cases h
 .cases h
def xvl{t:TypeId}{x ix y:Operand}(d:Sim E w st)(a:∀x:Operand,E.V w (ev sl x) (ρ x))(b:o.op=.insert t x ix y)(h:aO P id0 o sl st.aC=some (v,objs')):Ok P E w st id0 (execOp ρ o) v objs':=by have e:aO P id0 {o with op:=.mapUpdate t x ix y} sl st.aC=aO P id0 o sl st.aC:=(by simp only[aO,b]);have f:execOp ρ {o with op:=.mapUpdate t x ix y}=execOp ρ o:=(by simp only[execOp,b]);rw[<-e]at h;rw[<-f];exact xcg d a rfl h
def xvt{c:Call}(N:Sim E w st)(W:∀x:Operand,E.V w (ev sl x) (ρ x))(ho:o.op=.call c)(hc:c.callee=.builtin .clear)(h:aO P id0 o sl st.aC=some (v,objs')):Ok P E w st id0 (execOp ρ o) v objs':=by
 simp only[aO,ho,hc,gK,KE]at h;split at h
 .rename_i t s O d;obtain⟨p,hp,rfl⟩:∃p,c.args=#[p]/\ev sl p=s:=by
   match hl:c.args,d with
   |⟨[p]⟩,d=>simp at d;exact⟨p,rfl,d⟩
  have X:c.argTypes=#[t]:=by
   match hl:c.argTypes,O with
   |⟨[p]⟩,O=>simp at O;rw[O]
  have y:execOp ρ o=(do Pure.pure (.value (<-Builtin.clear_ #[t] o.type #[ρ p]))):=(by rw[wO ho hc,hp,X];simp[builtin]);split at h
  .rename_i C J;split at h
   .rename_i i z hi hz;split at h
    .rename_i g;obtain⟨D,Z,rfl,hz3⟩:=d6 hz;simp only[lU,pV]at g;have Q:=W p;split at h
     .rename_i n cp l;cases h;rw[l]at Q;have e:=kZ Q;refine .quiet (u:=.tuple #[]) N ?_ (.tup _ _ rfl (by simp)) rfl;rw[y];simp[Builtin.clear_,eC J,e]
     .rename_i id ver m n z' f l;split at h
      .rename_i cs vv K;split at h
       .rename_i r;obtain⟨rfl,rfl,hle⟩:=r;cases h;rw[l]at Q;obtain⟨blk,M,len,a,cap,hη,e,R,hlen,hn,hxx,tt,sz,hsh,hsz⟩:=mG Q;by_cases hn0:n=0
        .subst hn0;refine .quiet (u:=.tuple #[]) N ?_ (.tup _ _ rfl (by simp)) ?_
         .rw[y];simp[Builtin.clear_,eC J,e]
         .funext j;unfold bH;split
          .rename_i hj;subst hj;rw[K];simp[cS,eN]
          .rfl
        .have A:a=⟨blk,M+m,none⟩:=by
          rcases R with R|R
          .exact R
          .omega
         obtain⟨H,hz4⟩:=HG (F:=E.F) (w:=w) (η:=E.η) (ζ:=E.ζ.1) D.cells (n*i.size) (λhh=>by
          rw[g];rcases Nat.eq_zero_or_pos i.size with h0|h0
          .rw[h0]at hh;simp at hh
          .exact h0) hz3
         obtain⟨w',hr,hS',hL⟩:=HX (P:=P) (vs:=((Array.range (n*i.size)).map (D.cells[· % D.cells.size]!)).toList) (as:=eN (D.cells.toList.map .sc) (n*i.size)) (off:=m) N (N.dom _ _ _ hη) K hη (by simpa using H.1) (by rw[<-H.1];simpa using hle)
          (λk b hb=>let⟨u,h1,h2⟩:=H.2 k b hb;⟨u,by rw[VR];exact h1,h2⟩) (λu J=>hz4 u J)
         have Y:Builtin.zeroCells D.cells n=(Array.range (n*i.size)).map (D.cells[· % D.cells.size]!):=(by simp[Builtin.zeroCells,g]);refine⟨.value (.tuple #[]),.tuple #[],E,w',?_,.inl rfl,.tup _ _ rfl (by simp),hS',hL,λ_ _ h=>.inl h⟩;rw[y];obtain⟨n,rfl⟩:∃k,n=k+1:=⟨n-1,by omega⟩;have L:=hr;rw[<-Y]at L;simp[Builtin.clear_,eC J,e,A,Z,L]
       .cases h
      .cases h
     .cases h
    .cases h
   .cases h
  .cases h
 .cases h
def xu0(j:Sim E w st)(e:∀x:Operand,E.V w (ev sl x) (ρ x))(n:id0.1<st.next)(u:∀A,E.η id0 A=none)(h:aO P id0 o sl st.aC=some (v,objs')):Ok P E w st id0 (execOp ρ o) v objs':=by
 cases g:o.op with
 |move x=>exact xvd j e g h
 |assign x=>exact xvz j e g h
 |pick c a b=>exact xva j e g h
 |alloc t=>exact xv1 j n u g h
 |box t x=>exact xvx j e n u g h
 |build t C=>exact xvw j e g h
 |buildSlice t l C=>exact xvv j e n u g h
 |load t a=>exact xvj j e g h
 |store t a x=>exact xu7 j e g h
 |nilCheck x=>exact xvb j e g h
 |binOp D t x y F=>exact xvy j e g h
 |unOp D t x=>exact xu4 j e g h
 |convert s d x=>exact xvs j e g h
 |makeFunc f a b=>exact xvh j e g h
 |makeMap t r=>exact xvf j n u g h
 |makeSlice t l c=>exact xve j e n u g h
 |slice t x H J K=>exact xu9 j e g h
 |fieldAddr t x f=>exact xvo j e g h
 |sliceToArrayPointer t x=>exact xu6 j e g h
 |field t x f=>exact xvp j e g h
 |indexAddr t x i=>exact xvm j e g h
 |index t x i=>exact xvn j e g h
 |lookup t x i b=>exact xvi j e g h
 |mapUpdate t m k x=>exact xcg j e g h
 |insert t m k x=>exact xvl j e g h
 |makeInterface t x=>exact xvg j e g h
 |extract x i=>exact xvq j e g h
 |call c=>
  cases p:c.callee with
  |builtin b=>
   cases b with
   |append=>exact xv0 j e n u g p h
   |copy=>exact xvr j e g p h
   |len=>exact xvk j e g p h
   |cap=>exact M9 (.inl rfl) j e g p h
   |max=>exact M9 (.inr (.inl rfl)) j e g p h
   |min=>exact M9 (.inr (.inr (.inl rfl))) j e g p h
   |real=>exact M9 (.inr (.inr (.inr (.inl rfl)))) j e g p h
   |imag=>exact M9 (.inr (.inr (.inr (.inr (.inl rfl))))) j e g p h
   |complex=>exact M9 (.inr (.inr (.inr (.inr (.inr rfl))))) j e g p h
   |clear=>exact xvt j e g p h
   |_=>simp[aO,g,p,gK]at h
  |_=>simp[aO,g,p]at h
 |_=>simp[aO,g]at h
end
def KM{E:Env}{w:World}{st:St}(hS:Sim E w st){F':Nat->Prop}(Y:∀b,E.F b->F' b):∀(k:Nat) (a r:AV) (u:Value),frz st.aC k a=some r->E.V w a u ->
    (∀id∈reach st.aC k a,∀b,E.O b=some id->F' b)->V F' w eta0 [] r u
 |0,a,r,u,h,_,_=>by simp[frz]at h
 |k+1,a,r,u,h,M,hO=>by
  have H:∀{d m:List AV} {y:Array Value},d.mapM (frz st.aC k)=some m->y.size=d.length->(∀(i:Nat) (a:AV),d[i]?=some a->∃v,y[i]?=some v/\E.V w a v) ->
   (∀id∈d.flatMap (reach st.aC k),∀b,E.O b=some id->F' b)->y.size=m.length/\∀(i:Nat) (a:AV) (v:Value),m[i]?=some a->y[i]?=some v->V F' w eta0 [] a v:=by
   intro d m y hm W D J;obtain⟨K,L⟩:=yL hm;refine⟨by omega,λi a v Z hv=>?_⟩;have P:i<d.length:=(by rw[<-K];exact(lC.1 Z).1);obtain⟨b,N,Q⟩:=L i d[i] (by simp[P]);rw[Z]at N;cases N;obtain⟨v',hv',R⟩:=D i d[i] (by simp[P]);rw[hv]at hv';cases hv';exact KM hS Y k _ _ _ Q R λid hid=>J id (mK.2 ⟨_,fG P,hid⟩)
  have cells:∀{id:Id} {d m:List AV} {A off n:Nat} {fr:Bool} {C e len:Nat},st.aC id=some (.row d A fr)->E.η id A=some (C,e,len)->((d.drop off).take n).mapM (frz st.aC k)=some m ->
   (∀j∈id::((d.drop off).take n).flatMap (reach st.aC k),∀b,E.O b=some j->F' b)->LitAt F' w ⟨C,e+off,none⟩ m:=by
   intro id d m A off n fr C e len o hη hm J;obtain⟨_,_,arr,t,h3,h4,h5,X⟩:=xU hS o hη;obtain⟨K,L⟩:=yL hm;refine⟨λi b N=>?_,λ_=>⟨?_,rfl⟩⟩
   .have P:i<((d.drop off).take n).length:=(by rw[<-K];exact(lC.1 N).1);obtain⟨b',hb',Q⟩:=L i _ (eJ P);rw[N]at hb';cases hb';have hcs:d[off+i]?=some ((d.drop off).take n)[i]:=by
     rw[<-wZ];have:=eJ P;rw[H0]at this;split at this
     .exact this
     .cases this
    obtain⟨v,hv,R,ho⟩:=h5 _ _ hcs;refine⟨v,?_,?_,ho⟩
    .rw[BP h3];show arr[e+off+i]?=_;rw[oG];exact hv
    .exact KM hS Y k _ _ _ Q R λj hj=>J j (eE _ (mK.2 ⟨_,fG P,hj⟩))
   .cases fr with
    |true=>simp at X;exact Y _ X
    |false=>simp at X;exact J id (by simp) _ X
  cases a with
  |sc x=>simp[frz]at h;subst h;rw[kZ M];exact .sc _
  |agg d=>simp only[frz,cE]at h;obtain⟨m,g,rfl⟩:=h;obtain⟨y,rfl,W,D⟩:=LT M;obtain⟨g1,g2⟩:=H g W D (by simpa[reach]using hO);exact .agg m y g1 g2
  |tup d=>simp only[frz,cE]at h;obtain⟨m,g,rfl⟩:=h;obtain⟨y,rfl,W,D⟩:=dr M;obtain⟨g1,g2⟩:=H g W D (by simpa[reach]using hO);exact .tup m y g1 g2
  |aN d n x=>
   simp[frz]at h;subst h;have:V F' w E.η E.ζ.1 (.aN d n x) u:=V.mono Y (Ext.refl _ _) M (λ_ _ _ h=>h) (λ_ _ h=>h);cases this with
   |aN d n x a cap f K L h3 h4 h5 X=>exact .aN d n x a cap f K L h3 h4 h5 X
  |aE d=>
   simp[frz]at h;subst h;have:V F' w E.η E.ζ.1 (.aE d) u:=V.mono Y (Ext.refl _ _) M (λ_ _ _ h=>h) (λ_ _ h=>h);cases this with
   |aE d a f K L h3 h4=>exact .aE d a f K L h3 h4
  |sref id A off n z x=>
   simp only[frz]at h;split at h
   .rename_i d vv fr o;split at h
    .rename_i D;obtain⟨rfl,hle⟩:=D;simp only[cE]at h;obtain⟨m,g,rfl⟩:=h;obtain⟨C,e,len,a,cap,hη,rfl,Z,hlen,hn,_⟩:=mG M;have hL:=cells (off:=off) (n:=n*z) o hη g (by simpa[reach,o]using hO);rcases Z with rfl|Z
     .exact hL.aN hn (λh=>by cases h)
     .have h0:n=0:=(by omega);have:m=[]:=(by have:=(yL g).1;simp[h0]at this;exact this);subst this;exact LitAt.aN ⟨λi b N=>by simp at N,λh=>absurd rfl h⟩ hn (λh=>by cases h)
    .cases h
   .cases h
  |ptr id A off=>
   simp only[frz]at h;split at h
   .rename_i d vv fr o;split at h
    .rename_i D;subst D;simp only[cE]at h;obtain⟨m,g,rfl⟩:=h;obtain⟨C,e,len,hη,rfl⟩:=tD M;have hL:=cells (off:=off) (n:=(d.drop off).length) o hη (by rwa[el]) (by rw[el];simpa[reach,o]using hO);exact hL.aE
    .cases h
   .cases h
  |clo f d=>simp only[frz,cE]at h;obtain⟨m,g,rfl⟩:=h;obtain⟨y,rfl,W,D⟩:=G0 M;obtain⟨g1,g2⟩:=H g W D (by simpa[reach]using hO);exact .clo f m y g1 g2
  |yld l=>simp[frz]at h
  |mp id=>simp[frz]at h
  |un p=>
   simp[frz]at h;subst h;cases M with
   |un _ _ K L=>exact .un _ _ K L
def Sim.outside{E:Env}{w M:World}{st:St}{F':Nat->Prop}(j:Sim E w st)(n:Ext (λ_=>True) w M)(W:∀b,E.F b->F' b)(J:∀b,F' b->E.F b\/(w.heap.size<=b/\b<M.heap.size)) :
    Sim {E with F:=F' } M st/\Later E w {E with F:=F' } M:=by
 have P:Later E w {E with F:=F' } M:=
  ⟨λ_ _ _ h=>h,W,λb h=>(J b h).imp id λh=>.inl h.1,λ_ _ h=>.inl h,λ_ h=>h,λ_ h=>.inl h,rfl,n.kA λ_ _ _=>trivial,.of_same λb K=>n.same b trivial K,λ_ _ _ _ _ _ _=>rfl⟩
 refine⟨⟨λi o ho=>?_,j.dom,λb i h=>?_,λb h=>?_,P.gl j⟩,P⟩
 .have hold:=j.obj i o ho;cases o with
  |row cs ver fr=>
   obtain⟨f,N,Q,t,x,y,u,C,D,H⟩:=hold;have K:f<w.heap.size:=tQ (mL u);refine⟨f,N,Q,t,x,y,by rw[n.same _ trivial K];exact u,C,λk a ha=>?_,?_⟩
   .obtain⟨v,hv,hV,R⟩:=D k a ha;exact⟨v,hv,hV.later P,R⟩
   .cases fr with
    |true=>simp at H ⊢;exact W _ H
    |false=>simpa using H
  |bld t e l=>obtain⟨f,p,v,x,y,u,C,D,H,Z,h8⟩:=hold;exact⟨f,p,v,x,y,by rw[n.same _ trivial (j.own _ _ Z).2.2];exact u,C,D.keep λg hg=>n.same _ trivial (j.own _ _ (h8 g hg)).2.2,H,Z,h8⟩
  |lp d=>obtain⟨f,r,x,y,u,C,D⟩:=hold;have K:f<w.heap.size:=(j.own _ _ C).2.2;exact⟨f,r,x,y,by rw[n.same _ trivial K];exact u,C,D⟩
  |map es=>obtain⟨f,O,L,x,y,u,C,D,H⟩:=hold;have K:f<w.heap.size:=(j.own _ _ H).2.2;exact⟨f,O,L,x,y,by rw[n.same _ trivial K];exact u,C,λk e m X Y=>⟨(D k e m X Y).1,(D k e m X Y).2.later P⟩,H⟩
 .obtain⟨x,y,u⟩:=j.own b i h;refine⟨λA=>?_,y,fN u n.size⟩;rcases J b A with A|A
  .exact x A
  .omega
 .rcases h with h|h
  .rcases J b h with A|A
   .exact fN (j.fin b (.inl A)) n.size
   .exact A.2
  .exact fN (j.fin b (.inr h)) n.size
def sM(a:Id->Option Ob)(id:Id):Bool:=
 match a id with
 |some (.row _ _ _)=>true
 |_=>false
def xnx(E:Env)(st:St)(a:List Id):Nat->Prop:=λb=>E.F b\/∃id,E.O b=some id/\id∈a/\sM st.aC id=true
def rT(E:Env)(st:St)(a:List Id):Nat->Option Id:=λb=>
 match E.O b with
 |some id=>if id∈a/\sM st.aC id=true then none else some id
 |none=>none
def L2(E:Env)(st:St)(a:List Id):Env:={E with F:=xnx E st a,O:=rT E st a}
def xas{E:Env}{st:St}{a:List Id}{b:Nat}{i:Id}(h:rT E st a b=some i):E.O b=some i/\¬(i∈a/\sM st.aC i=true):=by
 unfold rT at h;cases d:E.O b with
 |none=>simp[d]at h
 |some j=>
  simp only[d]at h;split at h
  .cases h
  .rename_i e;cases h;exact⟨rfl,e⟩
def Sim.shut{E:Env}{w:World}{st:St}(K:Sim E w st)(n:List Id):Sim (L2 E st n) w {st with aC:=shut n st.aC}/\Later E w (L2 E st n) w:=by
 have Q:Later E w (L2 E st n) w:=by
  refine⟨λ_ _ _ h=>h,λ_ h=>.inl h,λb h=>?_,λb i h=>.inl (xas h).1,λ_ h=>h,λ_ h=>.inl h,rfl,Ext.refl _ _,Lsh.refl _,λ_ _ _ _ _ _ _=>rfl⟩;rcases h with h|⟨id,h,_⟩
  .exact .inl h
  .exact .inr (.inr (by rw[h];simp))
 refine⟨⟨λi o L=>?_,K.dom,λb i h=>?_,λb h=>?_,Q.gl K⟩,Q⟩
 .simp only[Ix.shut]at L;have keep:∀o,st.aC i=some o->¬(i∈n/\sM st.aC i=true)->ObOK (L2 E st n) w i o:=by
   intro o L D;have hold:=K.obj i o L;cases o with
   |row cs ver fr=>
    obtain⟨j,y,M,t,x,A,H,J,C,u⟩:=hold;refine⟨j,y,M,t,x,A,H,J,λk a X=>?_,?_⟩
    .obtain⟨v,hv,hV,N⟩:=C k a X;exact⟨v,hv,hV.later Q,N⟩
    .cases fr with
     |true=>simp at u ⊢;exact .inl u
     |false=>simp at u ⊢;show rT E st n j=some i;unfold rT;simp only[u];rw[aB D]
   |bld t e l=>
    obtain⟨j,p,v,x,A,H,J,C,u,h7,h8⟩:=hold;have hO:∀b,E.O b=some i->rT E st n b=some i:=λb hb=>by unfold rT;simp only[hb];rw[aB D]
    exact⟨j,p,v,x,A,H,J,C,u,hO _ h7,λg hg=>hO _ (h8 g hg)⟩
   |lp d=>obtain⟨j,r,x,A,H,J,C⟩:=hold;refine⟨j,r,x,A,H,?_,C⟩;show rT E st n j=some i;unfold rT;simp only[J];rw[aB D]
   |map es=>obtain⟨j,R,P,x,A,H,J,C,u⟩:=hold;refine⟨j,R,P,x,A,H,J,λk e m he W=>⟨(C k e m he W).1,(C k e m he W).2.later Q⟩,?_⟩;show rT E st n j=some i;unfold rT;simp only[u];rw[aB D]
  split at L
  .rename_i hi;split at L
   .rename_i cs v f F;cases L;obtain⟨j,y,M,t,x,A,H,J,C,u⟩:=K.obj i _ F;refine⟨j,y,M,t,x,A,H,J,λk a X=>?_,?_⟩
    .obtain⟨v,hv,hV,N⟩:=C k a X;exact⟨v,hv,hV.later Q,N⟩
    .simp only[cM];cases f with
     |true=>simp at u;exact .inl u
     |false=>simp at u;exact .inr ⟨i,u,hi,by simp[sM,F]⟩
   .rename_i hn;refine keep o L λY=>?_
    have:=Y.2;unfold sM at this;split at this
    .rename_i cs v f e;exact hn cs v f e
    .cases this
  .rename_i hi;exact keep o L λY=>hi Y.1
 .obtain⟨x,A⟩:=xas h;obtain⟨g1,g2,g3⟩:=K.own b i x;refine⟨λZ=>?_,g2,g3⟩;rcases Z with Z|⟨id,e,W,F⟩
  .exact g1 Z
  .rw[x]at e;cases e;exact A ⟨W,F⟩
 .rcases h with (h|⟨id,h,_⟩)|h
  .exact K.fin b (.inl h)
  .exact(K.own b id h).2.2
  .exact K.fin b (.inr h)
def xbq{e:Id->Option Ob}:∀(k:Nat) (a r:AV),frz e k a=some r->∀id∈reach e k a,sM e id=true
 |0,a,r,h,id,d=>by simp[frz]at h
 |k+1,a,r,h,id,d=>by
  have j:∀{m o:List AV},m.mapM (frz e k)=some o->∀id∈m.flatMap (reach e k),sM e id=true:=(by intro m o y id d;obtain⟨b,A,d⟩:=mK.1 d;obtain⟨i,C⟩:=FR.1 A;obtain⟨D,_,p⟩:=(yL y).2 i b C;exact xbq k b D p id d);cases a with
  |agg m=>simp only[frz,cE]at h;obtain⟨o,g,_⟩:=h;exact j g id (by simpa[reach]using d)
  |tup m=>simp only[frz,cE]at h;obtain⟨o,g,_⟩:=h;exact j g id (by simpa[reach]using d)
  |clo f m=>simp only[frz,cE]at h;obtain⟨o,g,_⟩:=h;exact j g id (by simpa[reach]using d)
  |sref t u w n z x=>
   simp only[frz]at h;split at h
   .rename_i m v f l;split at h
    .simp only[cE]at h;obtain⟨o,g,_⟩:=h;simp only[reach,l]at d;rcases dW.1 d with rfl|d
     .simp[sM,l]
     .exact j g id d
    .cases h
   .cases h
  |ptr t u w=>
   simp only[frz]at h;split at h
   .rename_i m v f l;split at h
    .simp only[cE]at h;obtain⟨o,g,_⟩:=h;simp only[reach,l]at d;rcases dW.1 d with rfl|d
     .simp[sM,l]
     .exact j g id d
    .cases h
   .cases h
  |_=>simp[reach]at d
structure After (E:Env) (w:World) (st:St) (E':Env) (w':World) (st':St):Prop where
 sim:Sim E' w' st'
 later:Later E w E' w'
 next:st.next<=st'.next
 dom:∀id ver,E'.η id ver≠none->(∃v0,E.η id v0≠none)\/st.next<=id.1
def After.refl{E:Env}{w:World}{st:St}(b:Sim E w st):After E w st E w st:=⟨b,.refl _ _,bO _,λ_ a h=>.inl ⟨a,h⟩⟩
def After.trans{E f g:Env}{w i j:World}{st st1 a:St}(h:After E w st f i st1)(b:After f i st1 g j a):After E w st g j a:=
 ⟨b.sim,h.later.trans b.later,iQ h.next b.next,λid d l=>by
  rcases b.dom id d l with ⟨m,e⟩|e
  .exact h.dom id m e
  .exact .inr (iQ h.next e)⟩
structure Past (E:Env) (w:World) (E':Env) (w':World):Prop where
 η:∀id ver x,E.η id ver=some x->E'.η id ver=some x
 F:∀b,E.F b->E'.F b
 ζ:E'.ζ=E.ζ
 ext:Ext E.F w w'
def Past.refl(E:Env)(w:World):Past E w E w:=⟨λ_ _ _ h=>h,λ_ h=>h,rfl,Ext.refl _ _⟩
def Past.trans{E b d:Env}{w f i:World}(h:Past E w b f)(a:Past b f d i):Past E w d i:=
 ⟨λ_ _ _ e=>a.η _ _ _ (h.η _ _ _ e),λ_ e=>a.F _ (h.F _ e),a.ζ.trans h.ζ,h.ext.trans a.ext λ_ _ g=>h.F _ g⟩
def Later.past{E a:Env}{w b:World}(h:Later E w a b):Past E w a b:=⟨h.η,h.F,h.ζ,h.ext.kA λ_ _ g=>.inl g⟩
def Env.V.past{E b:Env}{w d:World}{a:AV}{v:Value}(h:E.V w a v)(l:Past E w b d):b.V d a v:=Ix.V.mono l.F l.ext h l.η (λ_ _ e=>by rw[l.ζ];exact e)
def ArgsV(E:Env)(w:World)(b:List AV)(d:Array Value):Prop:=d.size=b.length/\∀(i:Nat) (a:AV) (v:Value),b[i]?=some a->d[i]?=some v->E.V w a v
def ArgsV.past{E d:Env}{w e:World}{b:List AV}{f:Array Value}(h:ArgsV E w b f)(l:Past E w d e):ArgsV d e b f:=⟨h.1,λi a v g j=>(h.2 i a v g j).past l⟩
def Held(E:Env)(w:World)(a:Nat)(o:Obj):Prop:=E.X a/\¬E.F a/\w.heap[a]?=some o
def Held.later{E e:Env}{w f:World}{st:St}{a:Nat}{o:Obj}(h:Held E w a o)(g:Sim E w st)(l:Later E w e f):Held e f a o:=by
 obtain⟨b,m,n⟩:=h;have d:a<w.heap.size:=g.fin a (.inr b);refine⟨l.X _ b,λj=>?_,by rw[l.ext.same a (.inr b) d];exact n⟩;rcases l.newF a j with h4|h4|h4
 .exact m h4
 .omega
 .cases i:E.O a with
  |none=>exact h4 i
  |some id=>exact(g.own a id i).2.1 b
def Rec(E:Env)(w:World)(id:Id)(a:Nat)(r:Loop):Prop:=if id.2.2=0 then Held E w a (.loop r)else ∃b,w.heap[a]?=some (.loop b)/\lN b=r
def Rec.lt{E:Env}{w:World}{st:St}{id:Id}{a:Nat}{r:Loop}(b:Sim E w st)(h:Rec E w id a r):a<w.heap.size:=by
 unfold Rec at h;split at h
 .exact b.fin _ (.inr h.1)
 .obtain⟨e,d,_⟩:=h;exact D6 d
def Rec.later{E d:Env}{w e:World}{st:St}{id:Id}{a:Nat}{r:Loop}(h:Rec E w id a r)(f:Sim E w st)(l:Later E w d e):Rec d e id a r:=by
 unfold Rec at h ⊢;split at h
 .rename_i b;rw[aF b];exact h.later f l
 .rename_i b;rw[aB b];obtain⟨o,g,i⟩:=h;obtain⟨j,m,n⟩:=l.lsh _ _ g;exact⟨j,m,n.trans i⟩
def xed(v:Value):Prop:=∃a b,v=.iface a b
def xD(P:Program)(w:World):Prop:=
 (P.funcs.any (·.name == "strconv.Itoa")=true->Lib.TabIs P w "internal/strconv.uint64pow10" .u64 Lib.pow10Tab) /\
 (P.funcs.any (·.name == "strconv.Atoi")=true->(∃v,w.var? P "strconv.ErrSyntax" = some #[v]/\xed v)/\∃v,w.var? P "strconv.ErrRange" = some #[v]/\xed v)
def F9(P:Program)(E:Env):Prop:=∀w,E.ζ.2 w->xD P w
def HsOK(P:Program):Hs->Env->World->Prop
 |[],E,_=>F9 P E
 |(id,h)::d,E,w=>HsOK P d E w/\∃a r,E.η id 0=some (a,0,0)/\Rec E w id a r/\r.state=.ready/\r.pending=none/\(∀p∈d,∀i,E.η p.1 0=some (i,0,0)->i≠a) /\
  ∀(n:Env) (e:World) (st:St) (g:List AV) (o:Array Value) (m:St),Past E w n e->Sim n e st->HsOK P d n e->Rec n e id a r->ArgsV n e g o->h g st=some m ->
   ∃f j b l,(Instr.yield a o).run P e=.ok (.round a f j b l) e /\
    ∀(fr:Frame) (t:List Frame),∃x u,Steps P (lone (Frame.round a f j b l .normal) (fr::t) e) (lone (fr.finish (.bool (mD m.aC id))) t u)/\After n e st x u m
def xeq{P:Program}{E:Env}{w:World}:∀{Z:Hs},HsOK P Z E w->∀p∈Z,∃a,E.η p.1 0=some (a,0,0)
 |[],_=>λp b=>by simp at b
 |_::_,⟨d,a,r,e,_⟩=>λp b=>by
  rcases dW.1 b with rfl|b
  .exact⟨a,e⟩
  .exact xeq d p b
def HsOK.z{P:Program}{E:Env}{w:World}:∀{Z:Hs},HsOK P Z E w->F9 P E
 |[],h=>h
 |_::_,⟨h,_⟩=>h.z
def HsOK.later{P:Program}{E g:Env}{w i:World}{st:St}(j:Sim E w st)(l:Later E w g i):∀{Z:Hs},HsOK P Z E w->HsOK P Z g i
 |[],h=>λw o=>h w (by rw[<-l.ζ];exact o)
 |_::_,⟨n,f,r,A,C,D,F,H,J⟩=>⟨n.later j l,f,r,l.η _ _ _ A,C.later j l,D,F,λp d m t=>by
   obtain⟨K,b⟩:=xeq n p d
   have:=l.η _ _ _ b
   rw[t]at this;cases this
   exact H p d _ b,λu x st a y e d=>J u x st a y e (l.past.trans d)⟩
def kG(P:Program)(f:FuncId):Prop:=∃fn,P.funcs[f]?=some fn/\fn.body.isNone=false/\fn.name≠"runtime.NumGoroutine"
def pj(P:Program)(f:FuncId)(d:Array Value)(w:World)(e:List Frame)(b:World)(u:Value):Prop:=
 (kG P f/\∃a,Steps P (lone (Frame.enter P f d .normal) e w) (lone a e b)/\a.fn=f/\a.leaving P b (.returned u))\/(¬kG P f/\(callFunc f d).run P w=.ok (.value u) b)
def kH(P:Program)(b:Hs->FuncId->List AV->St->Option (AV×St)):Prop:=
 ∀(Z:Hs) (f:FuncId) (a:List AV) (st:St) (r:AV) (d:St),b Z f a st=some (r,d)->∀(E:Env) (w:World) (g:Array Value),Sim E w st->ArgsV E w a g->HsOK P Z E w ->
  (kG P f\/a.all o7=true)/\∀i:List Frame,∃h e u,pj P f g w i e u/\h.V e r u/\After E w st h e d
def zN(F:Nat->Prop)(K:World->Prop)(w:World):Env:={η:=eta0,F:=F,O:=λ_=>none,X:=λb=>b<w.heap.size,ζ:=([],K)}
def FF{F:Nat->Prop}{K:World->Prop}{w:World}(d:∀b,F b->b<w.heap.size)(n:Nat)(e:∀a,Ext F w a->K a):Sim (zN F K w) w {aC:=λ_=>none,next:=n}:=
 ⟨λ_ _ h=>(by cases h),λ_ _ _ h=>(by cases h),λ_ _ h=>(by cases h),λb h=>h.elim (d b) id,e⟩
def FG{P:Program}{F:Nat->Prop}{K:World->Prop}{w:World}(a:∀w,K w->xD P w):HsOK P [] (zN F K w) w:=a
def FH{F:Nat->Prop}{K:World->Prop}{w a:World}{e:Env}(h:Later (zN F K w) w e a):Ext (λ_=>True) w a:=⟨h.ext.size,h.ext.shape,λb _ d=>h.ext.same b (.inr d) d,h.ext.os,h.ext.out⟩
def ObOK.eta{E:Env}{w:World}{id:Id}{o:Ob}(h:ObOK E w id o):∃a,E.η id a≠none:=by
 cases o with
 |row n a fr=>obtain⟨b,i,m,t,f,_⟩:=h;exact⟨a,by rw[f];simp⟩
 |map u=>obtain⟨b,j,g,f,_⟩:=h;exact⟨0,by rw[f];simp⟩
 |bld t e l=>obtain⟨b,p,v,f,_⟩:=h;exact⟨0,by rw[f];simp⟩
 |lp d=>obtain⟨b,r,f,_⟩:=h;exact⟨0,by rw[f];simp⟩
def Sim.old{E:Env}{w:World}{st:St}(b:Sim E w st){id:Id}{o:Ob}(h:st.aC id=some o):id.1<st.next:=by
 obtain⟨a,e⟩:=(b.obj id o h).eta;cases d:E.η id a with
 |none=>exact absurd d e
 |some x=>exact b.dom _ _ _ d
def xup{F l:Nat->Prop}{w m:World}{η η':Eta}{ζ ζ':List Nat}{r:AV}{u:Value}(e:qS r=true)(h:V F w η ζ r u):V l m η' ζ' r u:=by
 have sc:∀{a:AV} {v:Value},(match a with | .sc _=>true|_=>false)=true->V F w η ζ a v->V l m η' ζ' a v:=(by intro a v b d;cases d<;>simp at b;exact .sc _);cases h with
 |sc _=>exact .sc _
 |agg f g j h=>exact .agg f g j λi a v b d=>sc (dJ.1 e a (mJ b)) (h i a v b d)
 |tup f g j h=>exact .tup f g j λi a v b d=>sc (dJ.1 e a (mJ b)) (h i a v b d)
 |_=>simp[qS]at e
def x3c{F:Nat->Prop}{w:World}{η:Eta}{ζ:List Nat}{a:AV}{u:Value}(h:V F w η ζ a u)(d:clean a=true):V F w eta0 [] a u:=by
 cases h with
 |agg b g j h=>exact .agg b g j λi a v t y=>cy (h i a v t y) (dJ.1 d a (mJ t))
 |sc _=>exact .sc _
 |tup b g j h=>simp[clean,eM]at d
 |aN b n x a l f e m o r A C=>exact .aN b n x a l f e m o r A C
 |aE b a f e m o r=>exact .aE b a f e m o r
 |clo f b g j h=>exact cy (.clo f b g j h) d
 |sref _ _ _ _ _ _ _ _ _ _ _ _ _ _ _ _ _=>simp[clean,eM]at d
 |ptr _ _ _ _ _ _ _=>simp[clean,eM]at d
 |yld _ _ _=>simp[clean,eM]at d
 |mp _ _ _=>simp[clean,eM]at d
 |un p _ h e=>exact .un p _ h e
def ArgsV.append{E:Env}{w:World}{as f:List AV}{us g:Array Value}(h:ArgsV E w as us)(j:ArgsV E w f g):ArgsV E w (as++f) (us++g):=by
 refine⟨by simp[h.1,j.1],λi a v d b=>?_⟩;rw[MG]at d;rw[xj,h.1]at b;split at d
 .rename_i e;rw[aF e]at b;exact h.2 i a v d b
 .rename_i e;rw[aB e]at b;exact j.2 _ a v d b
def bo{E:Env}{w:World}{st:St}(t:Sim E w st){e:Nat->Prop}(u:∀b,E.F b->e b){k:Nat}{d f:List AV}{g:Array Value}(h:d.mapM (frz st.aC k)=some f)(n:ArgsV E w d g)(x:∀id∈d.flatMap (reach st.aC k),∀b,E.O b=some id->e b):g.size=f.length/\∀(i:Nat) (a:AV) (v:Value),f[i]?=some a->g[i]?=some v->V e w eta0 [] a v:=by obtain⟨p,A⟩:=yL h;refine⟨by rw[n.1,p],λi a v o y=>?_⟩;have l:i<d.length:=(by rw[<-p];exact(lC.1 o).1);obtain⟨b,r,m⟩:=A i d[i] (by simp[l]);rw[o]at r;cases r;exact KM t u k _ _ _ m (n.2 i d[i] v (by simp[l]) y) λid j=>x id (mK.2 ⟨_,fG l,j⟩)
section
variable{P:Program}{call:Hs->FuncId->List AV->St->Option (AV×St)}{Z:Hs}{E:Env}{w:World}{st st':St}{f:FuncId}{args:List AV}{vs:Array Value}{r:AV}
def oJ(P:Program)(E:Env)(w:World)(st:St)(f:FuncId)(e:Array Value)(r:AV)(a:St):Prop:=
 ∀g:List Frame,∃d b u,pj P f e w g b u/\d.V b r u/\After E w st d b a
def xw0(R:F9 P E)(W:kH P call)(A:Sim E w st)(X:ArgsV E w args vs){l:List AV}{r0:AV}{j:St}(Q:args.mapM (frz st.aC bI)=some l)(m:call [] f l pL=some (r0,j))(Y:frz j.aC bI r0=some r) :
    oJ P E w st f vs r {st with aC:=shut (args.flatMap (reach st.aC bI)) st.aC}:=by
 let e:=args.flatMap (reach st.aC bI)
 obtain⟨x,J⟩:=A.shut e;have n:∀id∈e,sM st.aC id=true:=(by intro id d;obtain⟨a,ha,d⟩:=mK.1 d;obtain⟨i,hi⟩:=FR.1 ha;obtain⟨r',_,K⟩:=(yL Q).2 i a hi;exact xbq _ _ _ K id d);have D:∀b,(L2 E st e).F b->b<w.heap.size:=λb h=>x.fin b (.inl h)
 obtain⟨-,g2⟩:=W [] f l pL r0 j m (zN (L2 E st e).F E.ζ.2 w) w vs (FF D 0 λy h=>A.gl y (h.kA λ_ _ g=>.inl g)) (bo A (λb h=>.inl h) Q X λid d b t=>.inr ⟨id,t,d,n id d⟩) (FG R);intro Z;obtain⟨p,y,u,s1,s4,o⟩:=g2 Z;have hx:=FH o.later;have H:∀b,p.O b≠none->w.heap.size<=b/\b<y.heap.size:=λb t=>by
  cases N:p.O b with
  |none=>exact absurd N t
  |some id=>
   have h1:=(o.sim.own b id N).2.2;rcases o.later.newO b id N with h2|h2
   .cases h2
   .exact⟨h2,h1⟩
 obtain⟨L,M⟩:=x.outside (F':=λb=>p.F b\/p.O b≠none) hx (λb h=>.inl (o.later.F b h)) (λb h=>by
  rcases h with h|h
  .rcases o.later.newF b h with h2|h2|h2
   .exact .inl h2
   .exact .inr ⟨h2,o.sim.fin b (.inl h)⟩
   .exact absurd rfl h2
  .exact .inr (H b h))
 refine⟨_,y,u,s1,?_,L,J.trans M,bO _,λid C h=>.inl ⟨C,h⟩⟩;have:=KM (F':=λb=>p.F b\/p.O b≠none) o.sim (λb h=>.inl h) bI r0 r u Y s4 (λid _ b t=>.inr (by rw[t];simp));exact dw this
def xwx(o:F9 P E)(p:kH P call)(d:Sim E w st)(t:ArgsV E w args vs){l:List AV}{e:St}(x:args.mapM (frz st.aC bI)=some l)(a:call [] f l pL=some (r,e))(y:qS r=true):oJ P E w st f vs r st:=by obtain⟨-,D⟩:=p [] f l pL r e a (zN (λb=>b<w.heap.size) E.ζ.2 w) w vs (FF (λ_ h=>h) 0 λi h=>d.gl i (h.kA λb _ g=>d.fin b (.inl g))) (bo d (λb h=>d.fin b (.inl h)) x t λid _ b A=>(d.own b id A).2.2) (FG o);intro C;obtain⟨L,i,u,H,J,K⟩:=D C;obtain⟨m,n⟩:=d.outside (F':=E.F) (FH K.later) (λ_ h=>h) (λ_ h=>.inl h);exact⟨_,i,u,H,xup y J,m,n,bO _,λid j h=>.inl ⟨j,h⟩⟩
def xhl{C:Env}{w':World}{stc:St}{F':Nat->Prop}(L:Sim E w st)(hx:Ext (λ_=>True) w w')(hSc:Sim C w' stc)(D:∀id W,C.η id W≠none->st.next<=id.1)(hnext:st.next<=stc.next)(hOc:∀b id,C.O b=some id->w.heap.size<=b)(hF:∀b,E.F b->F' b)(hF':∀b,F' b->E.F b\/(w.heap.size<=b/\b<w'.heap.size))(keep:Id->Bool)(hk:∀id o,stc.aC id=some o->keep id=true->∀P:Env,P.F=F'->(∀i v x,C.η i v=some x->keep i=true->P.η i v=some x)->ObOK C w' id o ->
 (∀cs v fr,o=.row cs v fr->∀a∈cs,∀u,C.V w' a u->P.V w' a u)/\(∀es,o=.map es->∀p∈es,∀u,C.V w' p.2 u->P.V w' p.2 u)/\(∀cs v,o=.row cs v true->∀b,C.F b->F' b)) (hFc:∀b,F' b->∀id,C.O b=some id->False) :
    ∃P:Env,After E w st P w' {aC:=λi=>if keep i=true/\(stc.aC i).isSome then stc.aC i else st.aC i,next:=stc.next}/\P.F=F'/\P.ζ=E.ζ/\(∀i v x,C.η i v=some x->keep i=true->P.η i v=some x)/\(∀i v x,E.η i v=some x->P.η i v=some x):=by
 let P:Env:={η:=λi v=>match E.η i v with|some x=>some x|none=>if keep i then C.η i v else none,F:=F',O:=λb=>if b<w.heap.size then E.O b else(match C.O b with|some id=>if keep id then some id else none|none=>none),X:=E.X,ζ:=E.ζ}
 have hη:∀i v x,E.η i v=some x->P.η i v=some x:=λi v x h=>by show(match E.η i v with|some x=>_|none=>_)=_;rw[h]
 have hηc:∀i v x,C.η i v=some x->keep i=true->P.η i v=some x:=λi v x h hi=>by
  show(match E.η i v with|some x=>_|none=>_)=_
  cases he:E.η i v with
  |some y=>
   have A:=L.dom _ _ _ he
   have H:=D i v (by rw[h];simp)
   omega
  |none=>simp[hi,h]
 have hη0:∀i v,st.next<=i.1->E.η i v=none:=λi v h=>by
  cases he:E.η i v with
  |some y=>have:=L.dom _ _ _ he;omega
  |none=>rfl
 have hL:Later E w P w':=⟨hη,hF,λb h=>(hF' b h).imp id λh=>.inl h.1,λb i h=>by
  replace h:(if b<w.heap.size then E.O b else(match C.O b with|some id=>if keep id then some id else none|none=>none))=some i:=h
  split at h
  .exact .inl h
  .exact .inr (by omega),λ_ h=>h,λ_ h=>.inl h,rfl,hx.kA λ_ _ _=>trivial,.of_same λb N=>hx.same b trivial N,λi W x e _ _ v=>by
   show(match E.η i v with|some x=>some x|none=>if keep i then C.η i v else none)=E.η i v
   cases hv:E.η i v with
   |some y=>rfl
   |none=>
    simp only
    split
    .cases hc:C.η i v with
     |none=>rfl
     |some y=>have A:=D i v (by rw[hc];simp);have H:=L.dom _ _ _ e;omega
    .rfl⟩
 refine⟨P,⟨⟨λi o ho=>?_,λi v x h=>?_,λb i h=>?_,λb h=>?_,hL.gl L⟩,hL,hnext,λi v h=>?_⟩,rfl,rfl,hηc,hη⟩
 .simp only at ho
  split at ho
  .rename_i M
   have hold:=hSc.obj i o ho
   obtain⟨k1,k2,k3⟩:=hk i o ho M.1 P rfl hηc hold
   cases o with
   |row cs W fr=>
    obtain⟨f,base,arr,t,A,H,J,Q,R,K⟩:=hold
    have Y:=D i W (by rw[A];simp)
    refine⟨f,base,arr,t,hηc _ _ _ A M.1,λj n=>?_,J,Q,λk a ha=>?_,?_⟩
    .show(match E.η i j with|some x=>_|none=>_)=_
     rw[hη0 i j Y];simp[H j n]
    .obtain⟨v,hv,hV,ho1⟩:=R k a ha
     exact⟨v,hv,k1 cs W fr rfl a (mJ ha) v hV,ho1⟩
    .cases fr with
     |true=>simp at K ⊢;exact k3 cs W rfl _ K
     |false=>
      simp at K ⊢
      show(if f<w.heap.size then E.O f else(match C.O f with|some id=>_|none=>_))=_
      rw[aB (by have:=hOc _ _ K;omega),K]
      simp[M.1]
   |bld t e l=>
    obtain⟨f,p,v,A,H,J,Q,R,K,h7,h8⟩:=hold
    have Y:=D i 0 (by rw[A];simp)
    have hO:∀b,C.O b=some i->(if b<w.heap.size then E.O b else(match C.O b with|some id=>if keep id then some id else none|none=>none))=some i:=λb N=>by
     rw[aB (by have:=hOc _ _ N;omega),N]
     simp[M.1]
    refine⟨f,p,v,hηc _ _ _ A M.1,λj n=>?_,J,Q,R,K,hO _ h7,λg hg=>hO _ (h8 g hg)⟩
    show(match E.η i j with|some x=>_|none=>_)=_
    rw[hη0 i j Y];simp[H j n]
   |lp d=>
    obtain⟨f,r,A,H,J,Q,R⟩:=hold
    have Y:=D i 0 (by rw[A];simp)
    refine⟨f,r,hηc _ _ _ A M.1,λj n=>?_,J,?_,R⟩
    .show(match E.η i j with|some x=>_|none=>_)=_
     rw[hη0 i j Y];simp[H j n]
    .show(if f<w.heap.size then E.O f else(match C.O f with|some id=>_|none=>_))=_
     rw[aB (by have:=hOc _ _ Q;omega),Q]
     simp[M.1]
   |map es=>
    obtain⟨f,ents,Z,A,H,J,Q,R,K⟩:=hold
    have Y:=D i 0 (by rw[A];simp)
    refine⟨f,ents,Z,hηc _ _ _ A M.1,λj n=>?_,J,Q,λk e m he hm=>⟨(R k e m he hm).1,k2 es rfl e (mJ he) _ (R k e m he hm).2⟩,?_⟩
    .show(match E.η i j with|some x=>_|none=>_)=_
     rw[hη0 i j Y];simp[H j n]
    .show(if f<w.heap.size then E.O f else(match C.O f with|some id=>_|none=>_))=_
     rw[aB (by have:=hOc _ _ K;omega),K]
     simp[M.1]
  .have hold:=L.obj i o ho
   have hni:∀j,i.1<st.next->E.η i j=none->P.η i j=none:=λj hi h=>by
    show(match E.η i j with|some x=>_|none=>_)=_
    rw[h]
    simp only
    split
    .cases hc:C.η i j with
     |none=>rfl
     |some y=>have:=D i j (by rw[hc];simp);omega
    .rfl
   cases o with
   |row cs W fr=>
    obtain⟨f,base,arr,t,A,H,J,Q,R,K⟩:=hold
    have N:f<w.heap.size:=tQ (mL J)
    refine⟨f,base,arr,t,hη _ _ _ A,λj n=>hni j (L.dom _ _ _ A) (H j n),by rw[hx.same _ trivial N];exact J,Q,λk a ha=>?_,?_⟩
    .obtain⟨v,hv,hV,ho1⟩:=R k a ha
     exact⟨v,hv,hV.later hL,ho1⟩
    .cases fr with
     |true=>simp at K ⊢;exact hF _ K
     |false=>
      simp at K ⊢
      show(if f<w.heap.size then E.O f else _)=_
      rw[aF N];exact K
   |bld t e l=>
    obtain⟨f,p,v,A,H,J,Q,R,K,h7,h8⟩:=hold
    have hO:∀b,E.O b=some i->(if b<w.heap.size then E.O b else(match C.O b with|some id=>if keep id then some id else none|none=>none))=some i:=λb N=>by
     rw[aF (L.own _ _ N).2.2];exact N
    exact⟨f,p,v,hη _ _ _ A,λj n=>hni j (L.dom _ _ _ A) (H j n),by rw[hx.same _ trivial (L.own _ _ h7).2.2];exact J,Q,R.keep λg hg=>hx.same _ trivial (L.own _ _ (h8 g hg)).2.2,K,hO _ h7,λg hg=>hO _ (h8 g hg)⟩
   |lp d=>
    obtain⟨f,r,A,H,J,Q,R⟩:=hold
    have N:f<w.heap.size:=(L.own _ _ Q).2.2
    refine⟨f,r,hη _ _ _ A,λj n=>hni j (L.dom _ _ _ A) (H j n),by rw[hx.same _ trivial N];exact J,?_,R⟩
    show(if f<w.heap.size then E.O f else _)=_
    rw[aF N];exact Q
   |map es=>
    obtain⟨f,ents,Z,A,H,J,Q,R,K⟩:=hold
    have N:f<w.heap.size:=(L.own _ _ K).2.2
    refine⟨f,ents,Z,hη _ _ _ A,λj n=>hni j (L.dom _ _ _ A) (H j n),by rw[hx.same _ trivial N];exact J,Q,λk e m he hm=>⟨(R k e m he hm).1,(R k e m he hm).2.later hL⟩,?_⟩
    show(if f<w.heap.size then E.O f else _)=_
    rw[aF N];exact K
 .replace h:(match E.η i v with|some x=>some x|none=>if keep i then C.η i v else none)=some x:=h
  split at h
  .rename_i y hy;exact fN (L.dom _ _ _ hy) hnext
  .split at h
   .exact hSc.dom _ _ _ h
   .cases h
 .replace h:(if b<w.heap.size then E.O b else(match C.O b with|some id=>if keep id then some id else none|none=>none))=some i:=h
  split at h
  .rename_i N
   obtain⟨A,H,J⟩:=L.own b i h
   refine⟨λhf=>?_,H,fN J hx.size⟩
   rcases hF' b hf with hf|hf
   .exact A hf
   .omega
  .rename_i N
   split at h
   .rename_i id hid
    obtain⟨A,H,J⟩:=hSc.own b id hid
    refine⟨λhf=>hFc b hf id hid,λhf=>?_,J⟩
    have:=L.fin b (.inr hf);omega
   .cases h
 .rcases h with h|h
  .rcases hF' b h with hf|hf
   .exact fN (L.fin b (.inl hf)) hx.size
   .exact hf.2
  .exact fN (L.fin b (.inr h)) hx.size
 .by_cases he:E.η i v=none
  .right
   replace h:(match E.η i v with|some x=>some x|none=>if keep i then C.η i v else none)≠none:=h
   rw[he]at h
   simp only at h
   split at h
   .exact D i v h
   .exact absurd rfl h
  .exact .inl ⟨v,he⟩
def dz{F d:Nat->Prop}{w:World}{η η':Eta}{ζ:List Nat}{a:AV}{v:Value}(h:V F w η [] a v)(e:∀b,F b->d b)(f:∀i x y,η i x=some y->η' i x=some y):V d w η' ζ a v:=
 V.mono e (Ext.refl _ _) h f (λ_ _ h=>by simp at h)
def xwz(Y:F9 P E)(Z:kH P call)(A:Sim E w st)(L:ArgsV E w args vs){d:St}(hl:args.all clean=true)(l:call [] f args {aC:=λ_=>none,next:=st.next}=some (r,d)) :
    oJ P E w st f vs r {aC:=λi=>if st.next<=i.1 then d.aC i else st.aC i,next:=d.next}:=by
 obtain⟨-,g2⟩:=Z [] f args _ r d l (zN E.F E.ζ.2 w) w vs (FF (λb h=>A.fin b (.inl h)) st.next A.gl) ⟨L.1,λi a v M D=>x3c (L.2 i a v M D) (dJ.1 hl a (mJ M))⟩ (FG Y);intro R;obtain⟨W,w',u,s1,J,g⟩:=g2 R;have H:W.ζ.1=[]:=by rw[g.later.ζ];rfl
 obtain⟨N,X,t,h3,h4,h5⟩:=xhl (F':=W.F) A (FH g.later) g.sim (λid m h=>by
  rcases g.dom id m h with ⟨v0,j⟩|j
  .exact absurd rfl j
  .exact j) g.next (λb id h=>by
  rcases g.later.newO b id h with h'|h'
  .cases h'
  .exact h') (λb h=>g.later.F b h) (λb h=>by
  rcases g.later.newF b h with t|t|t
  .exact .inl t
  .exact .inr ⟨t,g.sim.fin b (.inl h)⟩
  .exact absurd rfl t) (λ_=>true) (λi o C _ N O Q _=>⟨λR v fr _ a _ u n=>by
   unfold Env.V at n ⊢
   rw[H]at n
   rw[O]
   exact dz n (λ_ h=>h) λi x y h=>Q i x y h rfl,λes _ p _ u n=>by
   unfold Env.V at n ⊢
   rw[H]at n
   rw[O]
   exact dz n (λ_ h=>h) λi x y h=>Q i x y h rfl,λ_ _ _ _ h=>h⟩) (λb hf id C=>(g.sim.own b id C).1 hf)
 have e:(λi=>if(λ_=>true) i=true/\(d.aC i).isSome=true then d.aC i else st.aC i)=λi:Id=>if st.next<=i.1 then d.aC i else st.aC i:=by
  funext i;cases C:d.aC i with
  |none=>
   simp only[wV,fH,and_false,cT];split
   .rename_i hi;cases K:st.aC i with
    |none=>rfl
    |some o=>have:=A.old K;omega
   .rfl
  |some o=>
   have j:st.next<=i.1:=by
    obtain⟨m,D⟩:=(g.sim.obj i o C).eta;rcases g.dom i m D with ⟨v0,j⟩|j
    .exact absurd rfl j
    .exact j
   simp[j]
 rw[e]at X;refine⟨N,w',u,s1,?_,X⟩;unfold Env.V at J ⊢;rw[H]at J;rw[t];exact dz J (λ_ h=>h) λi x y h=>h4 i x y h rfl
def xwy(b:kH P call)(d:Sim E w st)(e:ArgsV E w args vs)(g:HsOK P Z E w)(a:call Z f args st=some (r,st')):oJ P E w st f vs r st':=
 (b Z f args st r st' a E w vs d e g).2
def F7(E:Env)(p:Id->Bool):Env:={E with O:=λb=>match E.O b with|some id=>if p id=true then none else some id|none=>none,X:=λb=>E.X b\/∃id,E.O b=some id/\p id=true}
def zM(E a:Env)(p:Id->Bool):Env:={a with O:=λb=>match a.O b with|some i=>some i|none=>match E.O b with|some id=>if p id=true then some id else none|none=>none,X:=λb=>a.X b/\¬∃id,E.O b=some id/\p id=true}
def LN{p:Id->Bool}{b:Nat}{id:Id}:(F7 E p).O b=some id↔E.O b=some id/\p id=false:=by
 show(match E.O b with|some id=>if p id=true then none else some id|none=>none)=some id↔_;cases h:E.O b with
 |none=>simp
 |some i=>
  simp only
  cases f:p i with
  |true=>simp only[cM];constructor<;>intro a;cases a;obtain⟨e,d⟩:=a;cases e;rw[f]at d;cases d
  |false=>simp only[fH,cT,bN];exact⟨λe=>⟨e,by rw[<-e];exact f⟩,λe=>e.1⟩
def x8q{p:Id->Bool}{i:Id}{o:Ob}(H:p i=false)(h:ObOK E w i o):ObOK (F7 E p) w i o:=by
 have A:∀b,E.O b=some i->(F7 E p).O b=some i:=λb J=>LN.2 ⟨J,H⟩
 cases o with
 |row P N fr=>
  obtain⟨a,C,F,t,f,j,m,n,u,x⟩:=h;refine⟨a,C,F,t,f,j,m,n,u,?_⟩;cases fr with
  |true=>exact x
  |false=>simp at x ⊢;exact A _ x
 |bld t e l=>obtain⟨a,q,v,f,j,m,n,u,x,L,M⟩:=h;exact⟨a,q,v,f,j,m,n,u,x,A _ L,λg K=>A _ (M g K)⟩
 |lp d=>obtain⟨a,r,f,j,m,n,u⟩:=h;exact⟨a,r,f,j,m,A _ n,u⟩
 |map Q=>obtain⟨a,D,y,f,j,m,n,u,x⟩:=h;exact⟨a,D,y,f,j,m,n,u,A _ x⟩
def x8p{p:Id->Bool}(a:Sim E w st):Sim (F7 E p) w {st with aC:=λid=>if p id=true then none else st.aC id}:=by
 refine⟨λi o e=>?_,a.dom,λb i h=>?_,λb h=>?_,a.gl⟩
 .simp only at e;split at e
  .cases e
  .rename_i g;exact x8q (by simpa using g) (a.obj i o e)
 .obtain⟨f,j⟩:=LN.1 h;obtain⟨l,m,n⟩:=a.own b i f;refine⟨l,λd=>?_,n⟩;rcases d with d|⟨id,d,hp⟩
  .exact m d
  .rw[f]at d;cases d;rw[j]at hp;cases hp
 .rcases h with h|h|⟨id,h,_⟩
  .exact a.fin b (.inl h)
  .exact a.fin b (.inr h)
  .exact(a.own b id h).2.2
def x8r{y:Env}{w':World}{stc:St}{p:Id->Bool}(hS:Sim E w st)(h:After (F7 E p) w {st with aC:=λid=>if p id=true then none else st.aC id} y w' stc) :
    After E w st (zM E y p) w' {stc with aC:=λid=>if p id=true then st.aC id else stc.aC id}:=by
 have D:=h.later;have hOE:∀b id,y.O b=some id->(zM E y p).O b=some id:=λb id e=>by show(match y.O b with|some i=>some i|none=>_)=some id;rw[e]
 have hF0:∀b id,E.O b=some id->p id=true->¬y.F b:=λb id M N hf=>by
  have:=hS.own b id M;rcases D.newF b hf with g|g|g
  .exact this.1 g
  .omega
  .apply g;show(match E.O b with|some id=>if p id=true then none else some id|none=>none)=none;rw[M];simp[N]
 have hO0:∀b id,E.O b=some id->p id=true->y.O b=none:=λb id M N=>by
  cases e:y.O b with
  |none=>rfl
  |some j=>
   rcases D.newO b j e with g|g
   .obtain⟨g1,g2⟩:=LN.1 g;rw[M]at g1;cases g1;rw[N]at g2;cases g2
   .have:=(hS.own b id M).2.2;omega
 have Q:∀b id,E.O b=some id->p id=true->(zM E y p).O b=some id:=λb id M N=>by show(match y.O b with|some i=>some i|none=>match E.O b with|some id=>if p id=true then some id else none|none=>none)=some id;rw[hO0 b id M N,M];simp[N]
 have hOI:∀b id,(zM E y p).O b=some id->y.O b=some id\/(E.O b=some id/\p id=true):=λb id e=>by
  replace e:(match y.O b with|some i=>some i|none=>match E.O b with|some id=>if p id=true then some id else none|none=>none)=some id:=e
  cases e1:y.O b with
  |some j=>rw[e1]at e;exact .inl e
  |none=>
   rw[e1]at e;cases e2:E.O b with
   |none=>rw[e2]at e;cases e
   |some j=>
    rw[e2]at e;simp only at e;split at e
    .rename_i N;cases e;exact .inr ⟨rfl,N⟩
    .cases e
 have hGX:∀b,E.G b->(F7 E p).G b:=λb g=>g.imp id .inl
 have hL:Later E w (zM E y p) w':=by
  refine⟨D.η,D.F,λb e=>?_,λb i e=>?_,λb e=>⟨D.X b (.inl e),?_⟩,λb e=>?_,D.ζ,D.ext.kA λb _ g=>hGX b g,D.lsh,λid A x e P g=>D.lock id A x e P (hGX _ g)⟩
  .rcases D.newF b e with g|g|g
   .exact .inl g
   .exact .inr (.inl g)
   .refine .inr (.inr λe0=>g ?_);show(match E.O b with|some id=>if p id=true then none else some id|none=>none)=none;rw[e0]
  .rcases hOI b i e with g|g
   .rcases D.newO b i g with g2|g2
    .exact .inl (LN.1 g2).1
    .exact .inr g2
   .exact .inl g.1
  .rintro⟨id,u,_⟩;exact(hS.own b id u).2.1 e
  .rcases D.newX b e.1 with (g|g)|g
   .exact .inl g
   .exact absurd g e.2
   .exact .inr g
 refine⟨⟨λi o M=>?_,h.sim.dom,λb i e=>?_,λb e=>?_,hL.gl hS⟩,hL,h.next,h.dom⟩
 .simp only at M;split at M
  .rename_i hi;have hold:=hS.obj i o M;have keep:∀b,E.O b=some i->w'.heap[b]?=w.heap[b]?:=λb hb=>D.ext.same b (.inr (.inr ⟨i,hb,hi⟩)) (hS.own b i hb).2.2
   have Z:∀A x,E.η i A=some x->(∀v,A<v->E.η i v=none)->(E.F x.1\/E.O x.1=some i)->∀v,y.η i v=E.η i v:=λA x e P g=>
    D.lock i A x e P (by
     rcases g with g|g
     .exact .inl g
     .exact .inr (.inr ⟨i,g,hi⟩))
   have hη':∀v x,E.η i v=some x->(zM E y p).η i v=some x:=λv x e=>D.η _ _ _ e
   cases o with
   |row cs A fr=>
    obtain⟨f,R,arr,t,u,C,K,H,J,n⟩:=hold
    have P:=Z A _ u C (by
     cases fr with
     |true=>simp at n;exact .inl n
     |false=>simp at n;exact .inr n)
    have hb:w'.heap[f]?=w.heap[f]?:=by
     cases fr with
     |true=>simp at n;exact D.ext.same f (.inl n) (hS.fin f (.inl n))
     |false=>simp at n;exact keep f n
    refine⟨f,R,arr,t,hη' _ _ u,λv Y=>(P v).trans (C v Y),by rw[hb];exact K,H,λk a ha=>?_,?_⟩
    .obtain⟨v,Y,hV,ho1⟩:=J k a ha;exact⟨v,Y,hV.later hL,ho1⟩
    .cases fr with
     |true=>simp at n ⊢;exact D.F _ n
     |false=>simp at n ⊢;exact Q _ _ n hi
   |bld t e l=>obtain⟨f,q,v,u,C,K,H,J,n,h7,h8⟩:=hold;have P:=Z 0 _ u C (.inr h7);exact⟨f,q,v,hη' _ _ u,λv Y=>(P v).trans (C v Y),by rw[keep _ h7];exact K,H,J.keep λg hg=>keep _ (h8 g hg),n,Q _ _ h7 hi,λg hg=>Q _ _ (h8 g hg) hi⟩
   |lp d=>obtain⟨f,r,u,C,K,H,J⟩:=hold;have P:=Z 0 _ u C (.inr H);exact⟨f,r,hη' _ _ u,λv Y=>(P v).trans (C v Y),by rw[keep _ H];exact K,Q _ _ H hi,J⟩
   |map es=>obtain⟨f,W,L,u,C,K,H,J,n⟩:=hold;have P:=Z 0 _ u C (.inr n);exact⟨f,W,L,hη' _ _ u,λv Y=>(P v).trans (C v Y),by rw[keep _ n];exact K,H,λk e m he hm=>⟨(J k e m he hm).1,(J k e m he hm).2.later hL⟩,Q _ _ n hi⟩
  .rename_i hi;have hold:=h.sim.obj i o M;have hO:∀b,y.O b=some i->(zM E y p).O b=some i:=λb hb=>hOE b i hb
   cases o with
   |row cs A fr=>
    obtain⟨f,R,arr,t,u,C,K,H,J,n⟩:=hold;refine⟨f,R,arr,t,u,C,K,H,J,?_⟩;cases fr with
    |true=>exact n
    |false=>simp at n ⊢;exact hO _ n
   |bld t e l=>obtain⟨f,q,v,u,C,K,H,J,n,h7,h8⟩:=hold;exact⟨f,q,v,u,C,K,H,J,n,hO _ h7,λg hg=>hO _ (h8 g hg)⟩
   |lp d=>obtain⟨f,r,u,C,K,H,J⟩:=hold;exact⟨f,r,u,C,K,hO _ H,J⟩
   |map es=>obtain⟨f,W,L,u,C,K,H,J,n⟩:=hold;exact⟨f,W,L,u,C,K,H,J,hO _ n⟩
 .rcases hOI b i e with g|⟨g,N⟩
  .obtain⟨g1,g2,g3⟩:=h.sim.own b i g;exact⟨g1,λhx=>g2 hx.1,g3⟩
  .exact⟨hF0 b i g N,λhx=>hx.2 ⟨i,g,N⟩,fN (hS.own b i g).2.2 D.ext.size⟩
 .rcases e with e|e
  .exact h.sim.fin b (.inl e)
  .exact h.sim.fin b (.inr e.1)
def xwv(e:F9 P E)(g:kH P call)(d:Sim E w st)(h:ArgsV E w args vs){u Y:Nat}{a:St}(b:call [] f args (wK u Y st)=some (r,a)):oJ P E w st f vs r (LM u Y st a):=by obtain⟨-,j⟩:=g [] f args _ r a b (F7 E (sN u Y)) w vs (x8p d) h e;intro i;obtain⟨l,m,v,n,o,p⟩:=j i;exact⟨zM E l (sN u Y),m,v,n,o,x8r d p⟩
def xch:AV->Bool
 | .sc _ | .sref ..=>true
 |_=>false
def xpe{F P:Nat->Prop}{w:World}{η η':Eta}{ζ ζ':List Nat}{r:AV}{u:Value}{f:Id->Option Ob}(t:L9 r=true)(h:V F w η ζ r u)(A:∀i∈reach f bI r,∀x y,η i x=some y->η' i x=some y):V P w η' ζ' r u:=by
 have one:∀{a:AV} {v:Value} (k:Nat),xch a=true->V F w η ζ a v->(∀i∈reach f (k+1) a,∀x y,η i x=some y->η' i x=some y)->V P w η' ζ' a v:=by
  intro a v k e p Q;cases p with
  |sc _=>exact .sc _
  |sref id g l n z b m d len a o D E H J K L=>refine .sref id g l n z b m d len a o (Q id ?_ _ _ D) E H J K L;simp only[reach];split<;>simp
  |_=>simp[xch]at e
 cases h with
 |sc _=>exact .sc _
 |agg M N O h=>exact .agg M N O λi a v e p=>one 4 (by
  have:=dJ.1 t a (mJ e);cases a<;>simp at this<;>rfl) (h i a v e p) (λj C=>A j (by simp only[bI,reach];exact mK.2 ⟨a,mJ e,C⟩))
 |tup M N O h=>exact .tup M N O λi a v e p=>one 4 (by
  have:=dJ.1 t a (mJ e);cases a<;>simp at this<;>rfl) (h i a v e p) (λj C=>A j (by simp only[bI,reach];exact mK.2 ⟨a,mJ e,C⟩))
 |sref id g l n z b m d len a o R E H J K L=>exact one 5 rfl (.sref id g l n z b m d len a o R E H J K L) A
 |_=>simp[L9]at t
def xww(O:F9 P E)(Q:kH P call)(n:Sim E w st)(R:ArgsV E w args vs){l:List AV}{d:St}(W:args.mapM (frz st.aC bI)=some l)(p:call [] f l {aC:=λ_=>none,next:=st.next}=some (r,d))(Y:L9 r=true)(L:∀i∈reach d.aC bI r,∃m v,d.aC i=some (.row m v false)/\m.all pH=true) :
    oJ P E w st f vs r {aC:=λi=>if i∈reach d.aC bI r then d.aC i else st.aC i,next:=d.next}:=by
 obtain⟨-,g2⟩:=Q [] f l _ r d p (zN (λb=>b<w.heap.size) E.ζ.2 w) w vs (FF (λ_ h=>h) st.next λD h=>n.gl D (h.kA λb _ g=>n.fin b (.inl g))) (bo n (λb h=>n.fin b (.inl h)) W R λid _ b Z=>(n.own b id Z).2.2) (FG O);intro m;obtain⟨Ec,D,u,s1,s4,A⟩:=g2 m
 obtain⟨M,h1,h2,h3,h4,h5⟩:=xhl (F':=E.F) n (FH A.later) A.sim (λid H h=>by
  rcases A.dom id H h with ⟨v0,K⟩|K
  .exact absurd rfl K
  .exact K) A.next (λb id h=>by
  rcases A.later.newO b id h with h'|h'
  .cases h'
  .exact h') (λb h=>h) (λb h=>.inl h) (λi=>decide (i∈reach d.aC bI r)) (λi o J t M hF hη _=>by
   obtain⟨m,v,j,C⟩:=L i (by simpa using t)
   rw[J]at j;cases j
   refine⟨λm v fr e a ha u N=>?_,λes e=>(by cases e),λm v e=>(by cases e)⟩
   cases e
   have:=dJ.1 C a ha
   cases a<;>simp[pH]at this
   unfold Env.V at N ⊢
   rw[kZ N];exact .sc _) (λb hf id J=>(A.sim.own b id J).2.1 (A.later.X b (n.fin b (.inl hf))))
 refine⟨M,D,u,s1,?_,?_⟩
 .exact xpe Y s4 λi t x y h=>h4 i x y h (by simpa using t)
 .have:(λi=>if decide (i∈reach d.aC bI r)=true/\(d.aC i).isSome=true then d.aC i else st.aC i)=λi=>if i∈reach d.aC bI r then d.aC i else st.aC i:=by
   funext i;by_cases t:i∈reach d.aC bI r
   .obtain⟨m,v,j,_⟩:=L i t;simp[t,j]
   .simp[t]
  rwa[this]at h1
end
section
variable{P:Program}{call:Hs->FuncId->List AV->St->Option (AV×St)}{Z:Hs}{E:Env}{w:World}{st st':St}
def IW{f:FuncId}{a:Array Value}(h:kG P f):(callFunc f a).run P w=.ok (.enter f a) w:=by obtain⟨fn,d,b,g⟩:=h;have h2':fn.body≠none:=(by intro e;simp[e]at b);simp[callFunc,d,h2',g]
def MT(P:Program)(E:Env)(w:World)(st:St)(e:Nat)(f:FuncId)(b:Array Value)(a d:Code)(j:Bool)(g:St):Prop:=
 ∀(fr:Frame) (h:List Frame),∃l i,Steps P (lone (Frame.round e f b a d .normal) (fr::h) w) (lone (fr.finish (.bool j)) h i)/\After E w st l i g
def xer{id:Id}{h:List AV->St->Option St}:∀{Z:Hs},HsOK P Z E w->oC Z id=some h->∀{b:List AV} {l:Array Value},Sim E w st->ArgsV E w b l->h b st=some st' ->
    ∃g f d a e,E.η id 0=some (g,0,0)/\(Instr.yield g l).run P w=.ok (.round g f d a e) w/\MT P E w st g f d a e (mD st'.aC id) st'
 |[],_,h,_,_,_,_,_=>by simp[oC]at h
 |(i,F)::m,⟨n,g,r,A,C,H,J,K,D⟩,j,b,l,o,p,t=>by
  simp only[oC]at j;split at j
  .rename_i u;cases j;subst u;obtain⟨f,d,a,e,x,y⟩:=D E w st b l st' (.refl _ _) o n C p t;exact⟨g,f,d,a,e,A,x,y⟩
  .exact xer n j o p t
def xef(K:kH P call)(H:Sim E w st)(J:HsOK P Z E w){L:Nat}{fv:AV}{o:List AV}{r:AV}{fvv:Value}{C:Array Value}(hf:E.V w fv fvv)(W:ArgsV E w o C)(h:gJ call Z L fv o st=some (r,st')) :
    ∃d,(Deferred.ofValue fvv C).run P w=.ok d w /\
     ((∃f t,(invoke d.target d.args).run P w=.ok (.enter f t) w/\kG P f/\oJ P E w st f t r st') \/
      (∃p f m b n M,(invoke d.target d.args).run P w=.ok (.round p f m b n) w/\r=.sc (.bool M)/\MT P E w st p f m b n M st') \/
      (∃u D A,(invoke d.target d.args).run P w=.ok (.value u) A/\D.V A r u/\After E w st D A st')):=by
 cases fv with
 |clo f R=>
  obtain⟨y,rfl,hl,Y⟩:=G0 hf
  have hA':ArgsV E w (o++R) (C++y):=W.append ⟨hl,λi a v ha hv=>by
   obtain⟨v',O,hV⟩:=Y i a ha
   rw[hv]at O;cases O;exact hV⟩
  have fin:oJ P E w st f (C++y) r st'->∃d,(Deferred.ofValue (.func (.func f) #[] y) C).run P w=.ok d w /\
   ((∃f t,(invoke d.target d.args).run P w=.ok (.enter f t) w/\kG P f/\oJ P E w st f t r st') \/
    (∃p f m b n M,(invoke d.target d.args).run P w=.ok (.round p f m b n) w/\r=.sc (.bool M)/\MT P E w st p f m b n M st') \/
    (∃u D A,(invoke d.target d.args).run P w=.ok (.value u) A/\D.V A r u/\After E w st D A st')):=λg=>by
   refine⟨{target:=.fn (.func f) y,args:=#[]++C},by simp[Deferred.ofValue],?_⟩;by_cases Q:kG P f
   .exact .inl ⟨f,C++y,by simp[invoke,IW Q],Q,g⟩
   .obtain⟨D,A,u,W,h4,h5⟩:=g [];rcases W with ⟨hb',-⟩|⟨-,hx⟩
    .exact absurd hb' Q
    .exact .inr (.inr ⟨u,D,A,by simpa[invoke]using hx,h4,h5⟩)
  apply fin;simp only[gJ]at h;split at h
  .split at h
   .rename_i l x;split at h
    .rename_i r0 F j;simp only[cE,bF]at h;obtain⟨r',hr',rfl,rfl⟩:=h;exact xw0 J.z K H hA' x j hr'
    .cases h
   .cases h
  .split at h
   .rename_i l x;split at h
    .rename_i r0 F j;split at h
     .rename_i N;simp only[bN,bF]at h;obtain⟨rfl,rfl⟩:=h;exact xwx J.z K H hA' x j N
     .cases h
    .cases h
   .cases h
  .split at h
   .rename_i l x;split at h
    .rename_i r0 F j;split at h
     .rename_i N;simp only[bN,bF]at h;obtain⟨rfl,rfl⟩:=h;simp only[cI]at N;refine xww J.z K H hA' x j N.1 λi hi=>?_
      have:=dJ.1 N.2 i hi;simp only[cI]at this;replace this:=this.2
      split at this
      .rename_i cs v e;exact⟨cs,v,e,this⟩
      .cases this
     .cases h
    .cases h
   .cases h
  .split at h
   .rename_i X;split at h
    .rename_i r0 F j;simp only[bN,bF]at h;obtain⟨rfl,rfl⟩:=h;exact xwz J.z K H hA' X j
    .cases h
   .cases h
  .exact xwy K H hA' J h
 |yld id=>
  obtain⟨p,Q,rfl⟩:=xhp hf;simp only[gJ]at h;split at h
  .rename_i g hg;simp only[cE,bF]at h;obtain⟨st1,hh,rfl,rfl⟩:=h;obtain⟨blk',f,m,b,n,g1,g2,g3⟩:=xer J hg H W hh;rw[Q]at g1;cases g1;exact⟨{target:=.fn (.yield p) #[],args:=#[]++C},by simp[Deferred.ofValue],.inr (.inl ⟨p,f,m,b,n,_,by simpa[invoke]using g2,rfl,g3⟩)⟩
  .cases h
 |_=>simp[gJ]at h
end
section
variable{P:Program}{call:Hs->FuncId->List AV->St->Option (AV×St)}{Z:Hs}{E:Env}{w:World}{st st':St}
def xz9(M:kH P call)(N:Sim E w st)(O:HsOK P Z E w){X Y o:Nat}{Q:AV}{b:List AV}{r:AV}{p:Value}{t:Array Value}(R:E.V w Q p)(F:ArgsV E w b t)(h:kW call X Y Z o Q b st=some (r,st')) :
    ∃d,(Deferred.ofValue p t).run P w=.ok d w /\
     ((∃f x,(invoke d.target d.args).run P w=.ok (.enter f x) w/\kG P f/\oJ P E w st f x r st') \/
      (∃y f j e l W,(invoke d.target d.args).run P w=.ok (.round y f j e l) w/\r=.sc (.bool W)/\MT P E w st y f j e l W st') \/
      (∃u H A,(invoke d.target d.args).run P w=.ok (.value u) A/\H.V A r u/\After E w st H A st')):=by
 unfold kW at h;split at h
 .split at h
  .rename_i f C;obtain⟨n,rfl,hl,J⟩:=G0 R
   have hA':ArgsV E w (b++C) (t++n):=F.append ⟨hl,λi a v ha hv=>by
    obtain⟨v',D,hV⟩:=J i a ha
    rw[hv]at D;cases D;exact hV⟩
   split at h
   .rename_i r0 stc m;simp only[bN,bF]at h;obtain⟨rfl,rfl⟩:=h;have g:=xwv O.z M N hA' m;refine⟨{target:=.fn (.func f) n,args:=#[]++t},by simp[Deferred.ofValue],?_⟩;by_cases L:kG P f
    .exact .inl ⟨f,t++n,by simp[invoke,IW L],L,g⟩
    .obtain⟨H,A,u,F,h4,h5⟩:=g [];rcases F with ⟨K,-⟩|⟨-,hx⟩
     .exact absurd K L
     .exact .inr (.inr ⟨u,H,A,by simpa[invoke]using hx,h4,h5⟩)
   .cases h
  .cases h
 .exact xef M N O R F h
end
structure Tm (E:Env) (w:World) (nt:Nat) (sl:Nat->AV) (tmps:Array Value):Prop where
 size:tmps.size=nt
 val:∀t,E.V w (sl t) (tmps.getD t undef)
def Tm.past{E b:Env}{w d:World}{e:Nat}{f:Nat->AV}{a:Array Value}(h:Tm E w e f a)(l:Past E w b d):Tm b d e f a:=⟨h.size,λt=>(h.val t).past l⟩
def Tm.ev{E:Env}{w:World}{d:Nat}{b:Nat->AV}{a:Act}(h:Tm E w d b a.tmps):∀x:Operand,E.V w (ev b x) (a.eval x)
 | .tmp t=>h.val t
 | .const v=>FJ v
 | .global g=>.sc _
 | .func f=>.clo f [] #[] rfl λi a v e=>by simp at e
def Tm.put{E:Env}{w:World}{i:Nat}{j:Nat->AV}{a:Act}{c:Ctx}{b:Option Tmp}{v:AV}{u:Value}{s g:S}(h:Tm E w i j a.tmps)(l:c.nt=i)(Z:s.sl=j)(m:E.V w v u)(f:Ix.put c b v s=some g) :
    Tm E w i g.sl (a.put b u).tmps/\g.st=s.st/\g.fc=s.fc:=by
 subst l Z;cases b with
 |none=>simp[Ix.put]at f;subst f;exact⟨h,rfl,rfl⟩
 |some d=>
  simp only[Ix.put]at f;split at f
  .rename_i n;cases f;refine⟨⟨by simp[Act.put,h.size],λt=>?_⟩,rfl,rfl⟩;simp only[Act.put,tM];split
   .rename_i e;subst e;rw[pW,HF (by rw[h.size];exact n)];exact m
   .rename_i e;have:=h.val t;rw[pW]at this ⊢;rwa[tG (Ne.symm e)]
  .cases f
def x9d{F:Nat->Prop}{w:World}{η:Eta}{ζ:List Nat}{a:AV}{v:Value}(h:V F w η ζ a v):(∃b,a=.sc (.bool b)/\v=.bool b)\/((∀b,a≠.sc (.bool b))/\∀b,v≠.bool b):=by
 cases h with
 |sc v=>
  cases v with
  |bool b=>exact .inl ⟨b,rfl,rfl⟩
  |_=>refine .inr ⟨?_,?_⟩<;>intro b e<;>cases e
 |un _ _ _ d=>exact .inr ⟨λb e=>(by cases e),d.2.2⟩
 |_=>refine .inr ⟨?_,?_⟩<;>intro b e<;>cases e
def xkl{E:Env}{w:World}{r:Nat}{m:Nat->AV}{a:Array Value}{f:Array Oper}{o:Oper}(h:Tm E w r m a):Region.wanted o (yielded f a)=mZ f o m:=by
 unfold Region.wanted mZ;cases o.guard with
 |none=>rfl
 |some g=>
  obtain⟨j,i⟩:=g;simp only[yielded];cases u:(f[j]?).bind (·.dst)with
  |none=>simp
  |some t=>
   have n:=h.val t;simp only[V5];rw[pW]at n;rcases x9d n with ⟨b,l,d⟩|⟨l,d⟩
   .rw[l];cases p:a[t]? with
    |none=>rw[p]at d;cases d
    |some x=>rw[p]at d;simp only[Option.getD_some]at d;subst d;cases b<;>cases i<;>rfl
   .split
    .rename_i b e;rw[e]at d;exact absurd rfl (d b)
    .split
     .rename_i b e;exact absurd e (l b)
     .rfl
structure Moved (E:Env) (w:World) (st:St) (u:Nat) (K:Nat->Prop) (E':Env) (w':World) (st':St):Prop where
 sim:Sim E' w' st'
 later:Later E w E' w'
 next:st.next<=st'.next
 dom:∀id ver,E'.η id ver≠none->(∃v0,E.η id v0≠none)\/st.next<=id.1\/(id.1=u/\K id.2.1)
def Used(E:Env)(u:Nat)(D:Nat->Prop):Prop:=∀(id:Id) (a:Nat),E.η id a≠none->id.1=u->D id.2.1
def After.moved{E d:Env}{w e:World}{st a:St}{u:Nat}{K:Nat->Prop}(h:After E w st d e a):Moved E w st u K d e a:=
 ⟨h.sim,h.later,h.next,λid b f=>(h.dom id b f).imp_right .inl⟩
def Moved.refl{E:Env}{w:World}{st:St}{u:Nat}{K:Nat->Prop}(a:Sim E w st):Moved E w st u K E w st:=(After.refl a).moved
def Moved.trans{E j l:Env}{w m o:World}{st st1 a:St}{u:Nat}{K K' e:Nat->Prop}(h:Moved E w st u K j m st1)(d:Moved j m st1 u K' l o a)(p:∀n,K n->e n)(f:∀n,K' n->e n):Moved E w st u e l o a:=
 ⟨d.sim,h.later.trans d.later,iQ h.next d.next,λid i r=>by
  rcases d.dom id i r with ⟨t,b⟩|b|⟨b,x⟩
  .rcases h.dom id t b with g|g|⟨g,g'⟩
   .exact .inl g
   .exact .inr (.inl g)
   .exact .inr (.inr ⟨g,p _ g'⟩)
  .exact .inr (.inl (iQ h.next b))
  .exact .inr (.inr ⟨b,f _ x⟩)⟩
def Moved.used{E d:Env}{w i:World}{st a:St}{u:Nat}{K D e:Nat->Prop}(h:Moved E w st u K d i a)(r:u<st.next)(j:Used E u D)(f:∀n,D n\/K n->e n):Used d u e:=by
 intro id b l m;rcases h.dom id b l with ⟨o,g⟩|g|⟨_,p⟩
 .exact f _ (.inl (j id o g m))
 .omega
 .exact f _ (.inr p)
section
variable{P:Program}{pol:Pol}{call:Hs->FuncId->List AV->St->Option (AV×St)}{c:Ctx}{ops:Array Oper}{E:Env}{w:World}{s s':S}{a:Act}{b:Frame}{k:List Item}{cs:List Frame}
def u5{i:Nat}{d:List Nat}{o:Oper}(e:ops[i]?=some o)(f:Region.wanted o (yielded ops a.tmps)=true)(g:∀c,o.op≠.defer c) :
    stepG P true {frame:=b.atR a (.inRegion ops (i::d)::k),callers:=cs,status:=.running,dying:=none} w =
     stepG.apply P true (b.atR a (.inRegion ops (i::d)::k)) cs none (execOp a.eval o) w:=by
 rw[stepGR_op e f,Oper.semAt_eq _ _ _ g]
def E6{i:Nat}{d:List Nat}{o:Oper}(e:ops[i]?=some o)(v:Value):(b.atR a (.inRegion ops (i::d)::k)).finish v=b.atR (a.put o.dst v) (.inRegion ops d::k):=by rw[Frame.finish_atR,e];rfl
def Led(P:Program)(c:Ctx)(K:Nat->Prop)(E:Env)(w:World)(s:S)(a:Act)(m:List Frame->Machine)(f:S)(fin:Act->List Item)(b:Frame):Prop:=
 ∀g,∃d h e,Steps P (m g) (lone (b.atR d (fin d)) g e)/\d.defers=a.defers/\Tm h e c.nt f.sl d.tmps/\Moved E w s.st c.u K h e f.st
def xaf(hc:kH P call){i:Nat}{rest:List Nat}(hS:Sim E w s.st)(L:Tm E w c.nt s.sl a.tmps)(hH:HsOK P c.hs E w)(hu:c.u<s.st.next)(hf:Used E c.u (·≠s.fc+i))(h:jH P pol call c ops i s=some s') :
    (Led P c (·=s.fc+i) E w s a (λn=>lone (b.atR a (.inRegion ops (i::rest)::k)) n w) s' (λ_=>.inRegion ops rest::k) b)/\s'.fc=s.fc:=by
 unfold jH at h;cases K:ops[i]? with
 |none=>simp only[K,bN]at h;subst h;refine⟨λn=>⟨a,E,w,.one ?_,rfl,L,.refl hS⟩,rfl⟩;have:=stepR_op_skip (P:=P) (b:=b) (a:=a) (k:=k) (cs:=n) (w:=w) (ops:=ops) (i:=i) (rest:=rest) (by simp[K]);simpa only[K,Option.bind_none,Act.put]using this
 |some o=>
  simp only[K]at h;rw[<-xkl L]at h;split at h
  .rename_i hw;split at h
   .rename_i fv m ats O;split at h
    .rename_i v C hinv
     have hA:ArgsV E w (m.toList.map (ev s.sl)) (m.map a.eval):=⟨by simp,λj x y Y Z=>by
      simp only[FV,Array.getElem?_map,cE,VR]at Y Z
      obtain⟨z,hz,rfl⟩:=Y
      obtain⟨z',hz',rfl⟩:=Z
      rw[hz]at hz';cases hz'
      exact L.ev z⟩
     obtain⟨d,hd,hh⟩:=xz9 hc hS hH (L.ev fv) hA hinv;have N:∀c,o.op≠.defer c:=(by rw[O];intro c e;cases e);have R:∀r,(invoke d.target d.args).run P w=r->(execOp a.eval o).run P w=r:=(by intro r hr;simp[execOp,O,resolve,hd,hr]);rcases hh with ⟨f,vs',hi,hb,hg⟩|⟨blk,f,tmps,assign,body,bb,hi,rfl,hg⟩|⟨u,D,A,hi,s4,F⟩
     .have J:∀n,∃D A u,Steps P (lone (b.atR a (.inRegion ops (i::rest)::k)) n w) (lone (b.atR (a.put o.dst u) (.inRegion ops rest::k)) n A)/\D.V A v u/\After E w s.st D A C:=by
       intro n;obtain⟨D,A,u,hA',s4,F⟩:=hg (b.atR a (.inRegion ops (i::rest)::k)::n);obtain⟨M,Q,s2,s3⟩:∃M,Steps P (lone (Frame.enter P f vs' .normal) (b.atR a (.inRegion ops (i::rest)::k)::n) w) (lone M (b.atR a (.inRegion ops (i::rest)::k)::n) A)/\M.fn=f/\M.leaving P A (.returned u):=by
        rcases hA' with ⟨-,h⟩|⟨hn,-⟩
        .exact h
        .exact absurd hb hn
       refine⟨D,A,u,.head (step_lone_go ?_) (Steps.trans Q (.one ?_)),s4,F⟩
       .rw[u5 K hw N];simp[stepG.apply,R _ hi,Frame.atR]
       .rw[<-E6 K];exact step_leave_returned s3
      obtain⟨_,_,_,_,X,W⟩:=J [];have l:s'.st=C/\s'.fc=s.fc:=(by have:=(L.past W.later.past).put (s:={s with st:=C}) rfl rfl X h;exact⟨this.2.1,this.2.2⟩);refine⟨λn=>?_,l.2⟩;obtain⟨D,A,u,Q,s4,F⟩:=J n;exact⟨_,D,A,Q,by cases o.dst<;>rfl,((L.past F.later.past).put (s:={s with st:=C}) rfl rfl s4 h).1,by rw[l.1];exact F.moved⟩
     .have J:∀n,∃D A,Steps P (lone (b.atR a (.inRegion ops (i::rest)::k)) n w) (lone (b.atR (a.put o.dst (.bool bb)) (.inRegion ops rest::k)) n A)/\After E w s.st D A C:=(by intro n;obtain⟨D,A,Q,F⟩:=hg (b.atR a (.inRegion ops (i::rest)::k)) n;rw[E6 K]at Q;refine⟨D,A,.head (step_lone_go ?_) Q,F⟩;rw[u5 K hw N];simp[stepG.apply,R _ hi,Frame.atR]);obtain⟨_,_,_,W⟩:=J [];have l:s'.st=C/\s'.fc=s.fc:=(by have:=(L.past W.later.past).put (s:={s with st:=C}) rfl rfl (.sc (.bool bb)) h;exact⟨this.2.1,this.2.2⟩);refine⟨λn=>?_,l.2⟩;obtain⟨D,A,Q,F⟩:=J n;exact⟨_,D,A,Q,by cases o.dst<;>rfl,((L.past F.later.past).put (s:={s with st:=C}) rfl rfl (.sc (.bool bb)) h).1,by rw[l.1];exact F.moved⟩
     .have l:=(L.past F.later.past).put (s:={s with st:=C}) rfl rfl s4 h;refine⟨λn=>⟨_,D,A,.one (step_lone_go ?_),by cases o.dst<;>rfl,l.1,by rw[l.2.1];exact F.moved⟩,l.2.2⟩;rw[u5 K hw N,<-E6 K];simp[stepG.apply,R _ hi]
    .cases h
   .rename_i rv name m ats O;split at h
    .rename_i g x H;split at h
     .rename_i v C hinv;obtain⟨t,u0,p,hrv,hp,rfl,rfl⟩:∃t u0 p,ev s.sl rv=.sc (.iface t u0)/\bT P (method (P.types.size+Made.depth) t u0 name)=some p/\p.1=g/\fJ p.2=x:=by
       unfold pG at H;split at H
       .rename_i t u0 hrv;simp only[cE,bF]at H;obtain⟨p,h1,h2,h3⟩:=H;exact⟨t,u0,p,hrv,h1,h2,h3⟩
       .cases H
      have hA:ArgsV E w (fJ p.2::m.toList.map (ev s.sl)) (#[p.2]++m.map a.eval):=by
       refine ArgsV.append (as:=[fJ p.2]) (us:=#[p.2]) ⟨rfl,λj x y Y Z=>?_⟩ ⟨by simp,λj x y Y Z=>?_⟩
       .match j,Y,Z with
        |0,Y,Z=>simp at Y Z;subst Y Z;exact FJ _
        |j+1,Y,Z=>simp at Y
       .simp only[FV,Array.getElem?_map,cE,VR]at Y Z;obtain⟨z,hz,rfl⟩:=Y;obtain⟨z',hz',rfl⟩:=Z;rw[hz]at hz';cases hz';exact L.ev z
      have X:=L.ev rv;rw[hrv]at X;have hev:=kZ X;obtain⟨d,hd,hh⟩:=xef hc hS hH (fv:=.clo p.1 []) (fvv:=.func (.func p.1) #[] #[]) (.clo p.1 [] #[] rfl λi a v ha=>by simp at ha) hA hinv;have hd':d={target:=.fn (.func p.1) #[],args:=#[p.2]++m.map a.eval}:=(by simp[Deferred.ofValue]at hd;rw[<-hd]);have N:∀c,o.op≠.defer c:=(by rw[O];intro c e;cases e);have hm:=vS hp w;have R:∀r,(invoke d.target d.args).run P w=r->(execOp a.eval o).run P w=r:=(by intro r hr;rw[hd']at hr;rw[<-hr];have e0:(#[Value.iface t u0]++m.map a.eval)[0]?=some (.iface t u0):=(by simp[xj]);have e1:(#[Value.iface t u0]++m.map a.eval).extract 1 (#[Value.iface t u0]++m.map a.eval).size=m.map a.eval:=(by generalize m.map a.eval=zs;apply xk;rw[Array.toList_extract];simp[List.extract];exact dM (by simp));have e2:∀m:Array Value,(callMethod (.iface t u0) name m).run P w=(callFunc p.1 (#[p.2]++m)).run P w:=(by intro m;simp only[callMethod,Sem.run_bind];show((method (P.types.size+Made.depth) t u0 name).run P w).andThen _=_;rw[hm];rfl);simp only[execOp,O,resolve,hev,Sem.run_bind,Sem.run_pure,Result.andThen_ok,invoke,e0,e1,e2,Array.append_empty]);rcases hh with ⟨f,vs',hi,hb,hg⟩|⟨blk,f,tmps,assign,body,bb,hi,rfl,hg⟩|⟨u,D,A,hi,s4,F⟩
      .have J:∀n,∃D A u,Steps P (lone (b.atR a (.inRegion ops (i::rest)::k)) n w) (lone (b.atR (a.put o.dst u) (.inRegion ops rest::k)) n A)/\D.V A v u/\After E w s.st D A C:=by
        intro n;obtain⟨D,A,u,hA',s4,F⟩:=hg (b.atR a (.inRegion ops (i::rest)::k)::n);obtain⟨M,Q,s2,s3⟩:∃M,Steps P (lone (Frame.enter P f vs' .normal) (b.atR a (.inRegion ops (i::rest)::k)::n) w) (lone M (b.atR a (.inRegion ops (i::rest)::k)::n) A)/\M.fn=f/\M.leaving P A (.returned u):=by
         rcases hA' with ⟨-,h⟩|⟨hn,-⟩
         .exact h
         .exact absurd hb hn
        refine⟨D,A,u,.head (step_lone_go ?_) (Steps.trans Q (.one ?_)),s4,F⟩
        .rw[u5 K hw N];simp[stepG.apply,R _ hi,Frame.atR]
        .rw[<-E6 K];exact step_leave_returned s3
       obtain⟨_,_,_,_,X,W⟩:=J [];have l:s'.st=C/\s'.fc=s.fc:=(by have:=(L.past W.later.past).put (s:={s with st:=C}) rfl rfl X h;exact⟨this.2.1,this.2.2⟩);refine⟨λn=>?_,l.2⟩;obtain⟨D,A,u,Q,s4,F⟩:=J n;exact⟨_,D,A,Q,by cases o.dst<;>rfl,((L.past F.later.past).put (s:={s with st:=C}) rfl rfl s4 h).1,by rw[l.1];exact F.moved⟩
      .have J:∀n,∃D A,Steps P (lone (b.atR a (.inRegion ops (i::rest)::k)) n w) (lone (b.atR (a.put o.dst (.bool bb)) (.inRegion ops rest::k)) n A)/\After E w s.st D A C:=(by intro n;obtain⟨D,A,Q,F⟩:=hg (b.atR a (.inRegion ops (i::rest)::k)) n;rw[E6 K]at Q;refine⟨D,A,.head (step_lone_go ?_) Q,F⟩;rw[u5 K hw N];simp[stepG.apply,R _ hi,Frame.atR]);obtain⟨_,_,_,W⟩:=J [];have l:s'.st=C/\s'.fc=s.fc:=(by have:=(L.past W.later.past).put (s:={s with st:=C}) rfl rfl (.sc (.bool bb)) h;exact⟨this.2.1,this.2.2⟩);refine⟨λn=>?_,l.2⟩;obtain⟨D,A,Q,F⟩:=J n;exact⟨_,D,A,Q,by cases o.dst<;>rfl,((L.past F.later.past).put (s:={s with st:=C}) rfl rfl (.sc (.bool bb)) h).1,by rw[l.1];exact F.moved⟩
      .have l:=(L.past F.later.past).put (s:={s with st:=C}) rfl rfl s4 h;refine⟨λn=>⟨_,D,A,.one (step_lone_go ?_),by cases o.dst<;>rfl,l.1,by rw[l.2.1];exact F.moved⟩,l.2.2⟩;rw[u5 K hw N,<-E6 K];simp[stepG.apply,R _ hi]
     .cases h
    .cases h
   .split at h
    .rename_i v objs' O;have N:∀c,o.op≠.defer c:=by intro c e;simp[aO,e]at O
     obtain⟨nx,u,D,A,h1,h2,h3,h4,h5,h6⟩:=xu0 hS L.ev (by exact hu) (λver=>by
      cases he:E.η (c.u,s.fc+i,o.dst.getD 0) ver with
      |none=>rfl
      |some x=>exact absurd rfl (hf _ ver (by rw[he];simp) rfl)) O
     have l:=(L.past h5.past).put (s:={s with st:={s.st with aC:=objs' }}) rfl rfl h3 h;refine⟨λn=>⟨a.put o.dst u,D,A,.one (step_lone_go ?_),by cases o.dst<;>rfl,l.1,?_⟩,l.2.2⟩
     .rw[u5 K hw N,<-E6 K];rcases h2 with rfl|⟨rfl,rfl⟩<;>simp[stepG.apply,h1]
     .rw[l.2.1];refine⟨h4,h5,bO _,λid ver hn=>?_⟩;rcases h6 id ver hn with g|g|g
      .exact .inl ⟨ver,g⟩
      .subst g;exact .inr (.inr ⟨rfl,rfl⟩)
      .exact .inl g
    .cases h
  .rename_i hw;have l:=L.put (s:=s) rfl rfl (.sc undef) h;refine⟨λn=>⟨a.put o.dst undef,E,w,.one ?_,by cases o.dst<;>rfl,l.1,by rw[l.2.1];exact .refl hS⟩,l.2.2⟩;have:=stepR_op_skip (P:=P) (b:=b) (a:=a) (k:=k) (cs:=n) (w:=w) (ops:=ops) (i:=i) (rest:=rest) (by simp only[K,Option.map_some,Option.getD_some];simpa using hw);simpa only[K,V5]using this
end
section
variable{P:Program}{E:Env}{w w':World}{st:St}
def Sim.next{a:St}(b:Sim E w st)(d:a.aC=st.aC)(e:st.next<=a.next):Sim E w a:=
 ⟨λi o h=>b.obj i o (by rw[<-d];exact h),λi v x h=>fN (b.dom i v x h) e,b.own,b.fin,b.gl⟩
def Sim.aside{A:Env}(K:Sim E w st)(C:Ext (λb=>E.F b\/E.O b≠none) w w')(Q:∀i v x,E.η i v=some x->A.η i v=some x)(hd:∀i v x,A.η i v=some x->i.1<st.next)(hn:∀i o,st.aC i=some o->∀v,A.η i v=E.η i v)(R:A.F=E.F)(P:A.O=E.O)(hζ:A.ζ=E.ζ)(hX:∀b,A.X b->E.X b\/(w.heap.size<=b/\b<w'.heap.size)):Sim A w' st:=by
 have hV:∀{a v},E.V w a v->A.V w' a v:=λh=>V.mono (λb u=>by rw[R];exact u) (C.kA λ_ _ g=>.inl g) h Q (λ_ _ e=>by rw[hζ];exact e)
 refine⟨λi o W=>?_,hd,λb i h=>?_,λb h=>?_,K.gl2 (λb h=>by rw[R];exact h) hζ (C.kA λ_ _ g=>.inl g)⟩
 .have hold:=K.obj i o W;cases o with
  |row cs ver fr=>
   obtain⟨f,Y,arr,t,D,H,y,J,L,n⟩:=hold;have u:f<w.heap.size:=tQ (mL y);refine⟨f,Y,arr,t,Q _ _ _ D,λM j=>by rw[hn i _ W];exact H M j,?_,J,λk a ha=>?_,?_⟩
   .rw[C.same f ?_ u];exact y;cases fr with
    |true=>simp at n;exact .inl n
    |false=>simp at n;exact .inr (by rw[n];simp)
   .obtain⟨v,hv,hVV,ho1⟩:=L k a ha;exact⟨v,hv,hV hVV,ho1⟩
   .rw[R,P];exact n
  |bld t e l=>
   obtain⟨f,p,v,D,H,y,J,L,n,h7,h8⟩:=hold;have Z:∀b,E.O b=some i->w'.heap[b]?=w.heap[b]?:=λb u=>C.same b (.inr (by rw[u];simp)) (K.own _ _ u).2.2
   exact⟨f,p,v,Q _ _ _ D,λM j=>by rw[hn i _ W];exact H M j,by rw[Z _ h7];exact y,J,L.keep λg hg=>Z _ (h8 g hg),n,by rw[P];exact h7,λg hg=>by rw[P];exact h8 g hg⟩
  |lp d=>obtain⟨f,r,D,H,y,J,L⟩:=hold;have u:f<w.heap.size:=(K.own _ _ J).2.2;exact⟨f,r,Q _ _ _ D,λM j=>by rw[hn i _ W];exact H M j,by rw[C.same f (.inr (by rw[J];simp)) u];exact y,by rw[P];exact J,L⟩
  |map es=>obtain⟨f,ents,N,D,H,y,J,L,n⟩:=hold;have u:f<w.heap.size:=(K.own _ _ n).2.2;exact⟨f,ents,N,Q _ _ _ D,λM j=>by rw[hn i _ W];exact H M j,by rw[C.same f (.inr (by rw[n];simp)) u];exact y,J,λk e m he hm=>⟨(L k e m he hm).1,hV (L k e m he hm).2⟩,by rw[P];exact n⟩
 .rw[P]at h;obtain⟨D,H,y⟩:=K.own b i h;refine⟨by rw[R];exact D,λhx'=>?_,fN y C.size⟩;rcases hX b hx' with g|g
  .exact H g
  .omega
 .rcases h with h|h
  .rw[R]at h;exact fN (K.fin b (.inl h)) C.size
  .rcases hX b h with g|g
   .exact fN (K.fin b (.inr g)) C.size
   .exact g.2
def hold(E:Env)(a:Nat)(nm:Option Id):Env:=
 {E with X:=λb=>E.X b\/b=a,η:=λi v=>if nm=some i/\v=0 then some (a,0,0)else E.η i v}
def Sim.hold{o:Obj}{nm:Option Id}(l:Sim E w st)(m:w'.heap=w.heap.push o)(n:∀id,nm=some id->id.1<st.next/\∀d,E.η id d=none)(p:w'.os=w.os:=by first|assumption|rfl)(j:w'.output=w.output:=by first|assumption|rfl) :
    Sim (hold E w.heap.size nm) w' st/\Later E w (Ix.hold E w.heap.size nm) w'/\Held (Ix.hold E w.heap.size nm) w' w.heap.size o:=by
 have a:∀b,b<w.heap.size->w'.heap[b]?=w.heap[b]?:=λb g=>by rw[m,J1 g,iZ g]
 have f:∀G,Ext G w w':=λG=>⟨by rw[m];simp,λb g=>by simp[World.shape?,a b g],λb _ g=>a b g,p,j⟩
 have r:∀i v x,E.η i v=some x->(Ix.hold E w.heap.size nm).η i v=some x:=λi v x h=>by
  show(if _ then _ else _)=_;split
  .rename_i e;rw[(n i e.1).2]at h;cases h
  .exact h
 refine⟨l.aside (f _) r (λi v x h=>?_) (λi t u v=>?_) rfl rfl rfl (λb h=>?_),⟨r,λ_ h=>h,λ_ h=>.inl h,λ_ _ h=>.inl h,λ_ h=>.inl h,λb h=>?_,rfl,f _,.of_same a,λi d x e _ _ v=>?_⟩,.inr rfl,λh=>?_,by rw[m];simp⟩
 .replace h:(if nm=some i/\v=0 then some (w.heap.size,0,0)else E.η i v)=some x:=h
  split at h
  .rename_i e;exact(n i e.1).1
  .exact l.dom _ _ _ h
 .show(if _ then _ else _)=_;split
  .rename_i e;obtain⟨d,y⟩:=(l.obj i t u).eta;exact absurd ((n i e.1).2 d) y
  .rfl
 .rcases h with h|h
  .exact .inl h
  .exact .inr ⟨by omega,by rw[m];simp;omega⟩
 .rcases h with h|h
  .exact .inl h
  .exact .inr (by omega)
 .show(if _ then _ else _)=_;split
  .rename_i h;rw[(n i h.1).2]at e;cases e
  .rfl
 .have:=l.fin _ (.inl h);omega
def World.set_ext{a:Nat}{o g:Obj}(l:w.heap[a]?=some o)(h:w'.heap=w.heap.setIfInBounds a g)(m:∀c t f,o≠.cells c t f)(n:∀c t f,g≠.cells c t f){G:Nat->Prop}(p:¬G a)(i:w'.os=w.os:=by first|assumption|rfl)(d:w'.output=w.output:=by first|assumption|rfl):Ext G w w':=by
 refine⟨by rw[h];simp,λb j=>?_,λb j _=>?_,i,d⟩
 .unfold World.shape?;rw[h];by_cases e:a=b
  .subst e;rw[HF j,l];cases o<;>cases g<;>first|rfl|exact absurd rfl (m _ _ _)|exact absurd rfl (n _ _ _)
  .rw[tG e]
 .rw[h,tG (λe=>p (by rw[e];exact j))]
def Held.set{a:Nat}{o i:Obj}(d:Sim E w st)(A:Held E w a o)(j:w'.heap=w.heap.setIfInBounds a i)(C:∀c t f,o≠.cells c t f)(D:∀c t f,i≠.cells c t f)(H:w'.os=w.os:=by first|assumption|rfl)(r:w'.output=w.output:=by first|assumption|rfl) :
    Sim E w' st/\Past E w E w'/\Held E w' a i/\∀e,e≠a->w'.heap[e]?=w.heap[e]?:=by
 obtain⟨p,y,K⟩:=A;have J:E.O a=none:=by
  cases L:E.O a with
  |none=>rfl
  |some id=>exact absurd p (d.own _ _ L).2.1
 have u:Ext (λb=>E.F b\/E.O b≠none) w w':=World.set_ext K j C D (by rintro(h|h);exact y h;exact h J);have m:a<w.heap.size:=d.fin _ (.inr p);refine⟨d.aside u (λ_ _ _ h=>h) d.dom (λ_ _ _ _=>rfl) rfl rfl rfl (λ_ h=>.inl h),⟨λ_ _ _ h=>h,λ_ h=>h,rfl,u.kA λ_ _ g=>.inl g⟩,⟨p,y,by rw[j,HF m]⟩,λe l=>by rw[j,tG (Ne.symm l)]⟩
def Rec.set{id:Id}{a:Nat}{r:Loop}(h:Rec E w id a r)(b:w'.heap[a]?=w.heap[a]?):Rec E w' id a r:=by
 unfold Rec at h ⊢;split at h
 .rename_i d;rw[aF d];exact⟨h.1,h.2.1,by rw[b];exact h.2.2⟩
 .rename_i d;rw[aB d,b];exact h
def WY{a:Id->Option Ob}{id:Id}{o:Ob}(h:a id=some o):bH a id (some o)=a:=by
 funext i;unfold bH;split
 .rename_i e;rw[e,h]
 .rfl
def Sim.lset{id:Id}{a:Nat}{r l:Loop}{d d':Option Out}(m:Sim E w st)(K:st.aC id=some (.lp d))(u:E.η id 0=some (a,0,0))(L:w.heap[a]?=some (.loop r))(x:w'.heap=w.heap.setIfInBounds a (.loop l))(M:eg d' l)(N:w'.os=w.os:=by first|assumption|rfl)(D:w'.output=w.output:=by first|assumption|rfl) :
    Sim E w' {st with aC:=bH st.aC id (some (.lp d'))}/\Past E w E w'/\w'.heap[a]?=some (.loop l)/\(∀j,j≠a->w'.heap[j]?=w.heap[j]?)/\¬E.G a:=by
 obtain⟨R,W,J,Q,X,C,Y⟩:=m.obj id _ K;rw[u]at J;cases J;have g:=m.own _ _ C;have n:∀j,j≠a->w'.heap[j]?=w.heap[j]?:=λj y=>by rw[x,tG (Ne.symm y)]
 have p:w'.heap[a]?=some (.loop l):=(by rw[x,HF g.2.2]);have P:¬E.G a:=(by rintro(h|h);exact g.1 h;exact g.2.1 h);have A:Ext E.F w w':=World.set_ext L x (by intro c t f e;cases e) (by intro c t f e;cases e) g.1
 refine⟨(m.turn0 (E':=E) (w':=w') (id:=id) (o:=.lp d') (m.dom _ _ _ u) (λ_ _ _ h=>h) (λ_ _ _=>rfl) rfl rfl rfl (λ_ _=>rfl) (λb i H O=>by have:=(m.own b i O).2.2;omega) A.size A.shape
  (λb _ H=>n b λe=>by subst e;exact H C) ⟨a,l,u,Q,p,C,M⟩).1,⟨λ_ _ _ h=>h,λ_ h=>h,rfl,A⟩,p,n,P⟩
def Sim.lnew{id:Id}{r:Loop}(t:Sim E w st)(n:id.1<st.next)(u:∀p,E.η id p=none)(m:w'.heap=w.heap.push (.loop r))(C:r.state=.ready)(D:r.pending=none)(F:w'.os=w.os:=by first|assumption|rfl)(y:w'.output=w.output:=by first|assumption|rfl) :
    ∃d,Sim d w' {st with aC:=bH st.aC id (some (.lp none))}/\Later E w d w'/\d.η id 0=some (w.heap.size,0,0)/\(∀i v,i≠id->d.η i v=E.η i v)/\w'.heap[w.heap.size]?=some (.loop r):=by
 have a:∀b,b<w.heap.size->w'.heap[b]?=w.heap[b]?:=λb g=>by rw[m,J1 g,iZ g]
 have l:w'.heap[w.heap.size]?=some (.loop r):=(by rw[m];simp);let d:Env:={E with η:=λi v=>if i=id/\v=0 then some (w.heap.size,0,0)else E.η i v,O:=λb=>if b=w.heap.size then some id else E.O b}
 have K:∀i v x,E.η i v=some x->d.η i v=some x:=λi v x h=>by
  show(if _ then _ else _)=_;split
  .rename_i e;rw[e.1,u]at h;cases h
  .exact h
 have f:∀i v,i≠id->d.η i v=E.η i v:=λi v f=>by show(if _ then _ else _)=_;rw[aB (λe=>f e.1)]
 have A:d.η id 0=some (w.heap.size,0,0):=(by show(if _ then _ else _)=_;rw[aF ⟨rfl,rfl⟩]);obtain⟨L,M⟩:=t.turn (E':=d) (w':=w') (id:=id) (o:=.lp none) (.of_same a) n K f rfl rfl rfl
  (λb g=>by show(if _ then _ else _)=_;rw[aB (by omega)])
  (λb i g j=>by
   replace j:(if b=w.heap.size then some id else E.O b)=some i:=j
   split at j
   .rename_i e;cases j;exact⟨rfl,by rw[m];simp;omega⟩
   .have:=(t.own b i j).2.2;omega)
  (by rw[m];simp) (λb g=>by simp[World.shape?,a b g]) (λb g _=>a b g)
  ⟨w.heap.size,r,A,λH J=>by
   show(if _ then _ else _)=_
   rw[aB (by rintro⟨_,e⟩;omega)];exact u H,l,by show(if _ then _ else _)=_;rw[aF rfl],by rw[C];simp,D⟩
 exact⟨d,L,M,A,f,l⟩
def HsOK.set{b:Nat}(l:Past E w E w')(d:∀j,j≠b->w'.heap[j]?=w.heap[j]?):∀{Z:Hs},HsOK P Z E w->(∀p∈Z,∀a,E.η p.1 0=some (a,0,0)->a≠b)->HsOK P Z E w'
 |[],h,_=>h
 |_::_,⟨C,a,r,m,D,F,H,J,K⟩,o=>⟨C.set l d λp t=>o p (eE _ t),a,r,m,D.set (d _ (o _ (eP) _ m)),F,H,J,λu y st e A g i=>K u y st e A g (l.trans i)⟩
def xT{l:Nat}{r:Loop}(h:w.heap[l]?=some (.loop r)):(Instr.getLoop l).run P w=.ok r w:=by simp[Instr.getLoop,getObj,Sem.run,h,Bind.bind,Sem.bind,Pure.pure]
def xbg{l:Nat}{r:Loop}(h:w.heap[l]?=some (.loop r))(a:r.state=.ready) :
    (Instr.beginRound l).run P w=.ok () {w with heap:=w.heap.setIfInBounds l (.loop {r with state:=.busy})}:=by
 simp only[Instr.beginRound,Sem.run_bind,xT h,Result.andThen_ok,a];simp[setObj,Sem.run,h,Pure.pure]
def xo3{l:Nat}{r:Loop}(h:w.heap[l]?=some (.loop r)) :
    (Instr.endRound l none).run P w=.ok (.bool true) {w with heap:=w.heap.setIfInBounds l (.loop {r with state:=.ready,pending:=none})}:=by
 simp only[Instr.endRound,Sem.run_bind,xT h,Result.andThen_ok];simp[setObj,Sem.run,h,Pure.pure]
def xo5{l:Nat}{r:Loop}(h:w.heap[l]?=some (.loop r))(a:r.state=.ready)(b:r.pending=none) :
    (Instr.endLoop l).run P w=.ok none {w with heap:=w.heap.setIfInBounds l (.loop {r with state:=.exhausted})}:=by
 simp only[Instr.endLoop,Sem.run_bind,xT h,Result.andThen_ok,a];simp[setObj,Sem.run,h,Bind.bind,Sem.bind,Pure.pure,b]
def YK{l:Nat}{r:Loop}(h:w.heap[l]?=some (.loop r))(j:Option Code) :
    (Instr.endRound l j).run P w=.ok (.bool j.isNone) {w with heap:=w.heap.setIfInBounds l (.loop {r with state:=if j.isNone then .ready else .done,pending:=j})}:=by
 simp only[Instr.endRound,Sem.run_bind,xT h,Result.andThen_ok];simp[setObj,Sem.run,h,Pure.pure]
def xo4{l:Nat}{r:Loop}(h:w.heap[l]?=some (.loop r))(a:r.state≠.busy) :
    (Instr.endLoop l).run P w=.ok r.pending {w with heap:=w.heap.setIfInBounds l (.loop {r with state:=.exhausted})}:=by
 have b:(r.state == .busy)=false:=(by cases d:r.state<;>first|rfl|exact absurd d a);simp only[Instr.endLoop,Sem.run_bind,xT h,Result.andThen_ok,b];simp[setObj,Sem.run,h,Bind.bind,Sem.bind,Pure.pure]
def xoz{r:Nat}(h:w.heap[r]?=some (.deferred (some []))) :
    (Instr.takeDeferred r).run P w=.ok [] {w with heap:=w.heap.setIfInBounds r (.deferred none)}:=by
 simp[Instr.takeDeferred,getObj,setObj,Sem.run,h,Bind.bind,Sem.bind,Pure.pure]
def xba{l:Nat}{r:Loop}{d:Array Value}(h:w.heap[l]?=some (.loop r))(e:d.size=r.params.size) :
    (Instr.yield l d).run P w=.ok (.round l r.fn ((r.params.zip d).foldl (λb (t,a)=>b.setIfInBounds t a) r.tmps) r.assign r.body) w:=by
 simp only[Instr.yield,Sem.run_bind,xT h,Result.andThen_ok];simp[e]
end
def Marks(a:Nat)(E:Env)(w:World):List Deferred->Prop
 |[]=>True
 |d::b=>Marks a E w b/\∃r,d.target=.collected r/\a<=r/\Held E w r (.deferred (some []))/\∀e∈b,e.target≠.collected r
def Marks.later{a:Nat}{E b:Env}{w d:World}{st:St}(e:Sim E w st)(l:Later E w b d):∀{f:List Deferred},Marks a E w f->Marks a b d f
 |[],_=>trivial
 |_::_,⟨g,r,h,i,j,m⟩=>⟨g.later e l,r,h,i,j.later e l,m⟩
structure Pre (P:Program) (c:Ctx) (lim:Nat) (b:Frame) (E:Env) (w:World) (s:S) (a:Act):Prop where
 sim:Sim E w s.st
 tm:Tm E w c.nt s.sl a.tmps
 hs:HsOK P c.hs E w
 u:c.u<s.st.next
 used:Used E c.u (· < s.fc)
 kind:b.kind=.normal
 round:∀l,b.roundOf=some l->∃r,w.heap[l]?=some (.loop r)
 marks:Marks lim E w a.defers
structure Post (P:Program) (c:Ctx) (lim:Nat) (b:Frame) (E:Env) (w:World) (s:S) (E':Env) (w':World) (s':S) (a':Act):Prop where
 pre:Pre P c lim b E' w' s' a'
 moved:Moved E w s.st c.u (s.fc<=·) E' w' s'.st
 fc:s.fc<=s'.fc
section
variable{P:Program}{c:Ctx}{lim:Nat}{b:Frame}{E E':Env}{w w':World}{s s':S}{a a':Act}
def Post.refl(h:Pre P c lim b E w s a):Post P c lim b E w s E w s a:=⟨h,.refl h.sim,bO _⟩
def Post.trans{d:Env}{e:World}{f:S}{i:Act}(h:Post P c lim b E w s d e f i)(a:Post P c lim b d e f E' w' s' a'):Post P c lim b E w s E' w' s' a':=
 ⟨a.pre,h.moved.trans a.moved (λ_ h=>h) (λ_ g=>iQ h.fc g),iQ h.fc a.fc⟩
def Pre.on(h:Pre P c lim b E w s a){K:Nat->Prop}(d:Moved E w s.st c.u K E' w' s'.st)(g:∀n,K n->s.fc<=n/\n<s'.fc)(f:s.fc<=s'.fc)(i:Tm E' w' c.nt s'.sl a'.tmps)(j:a'.defers=a.defers):Post P c lim b E w s E' w' s' a':=
 ⟨⟨d.sim,i,h.hs.later h.sim d.later,fN h.u d.next,d.used h.u h.used (by intro n e;rcases e with e|e;exact fN e f;exact(g n e).2),h.kind,
   λl m=>let⟨r,hr⟩:=h.round l m;let⟨r',hr',_⟩:=d.later.lsh l r hr;⟨r',hr'⟩,by rw[j];exact h.marks.later h.sim d.later⟩,
  d.trans (.refl d.sim) (λn e=>(g n e).1) (K':=λ_=>False) (λ_ h=>h.elim),f⟩
def Arr(P:Program)(m:Machine)(b:Frame)(k:List Item)(d:List Frame)(e:Act)(f:World):Out->Prop
 | .normal=>Steps P m (lone (b.atR e k) d f)
 | .exit id=>∃a,exitTo id a=exitTo id k/\Steps P m (lone (b.atR e (.code (.exit id)::a)) d f)
 | .ret=>∃a,Steps P m (lone (b.atR e (.code .ret::a)) d f)
def Arr.head{m f:Machine}{k:List Item}{g:List Frame}{o:Out}(h:Steps P m f)(a:Arr P f b k g a' w' o):Arr P m b k g a' w' o:=by
 cases o with
 |normal=>exact Steps.trans h a
 |exit id=>obtain⟨d,i,e⟩:=a;exact⟨d,i,Steps.trans h e⟩
 |ret=>obtain⟨d,e⟩:=a;exact⟨d,Steps.trans h e⟩
def tF(P:Program)(c:Ctx)(d:Code)(s:S)(o:Out)(l:S):Prop:=
 ∀(b:Frame) (a:Act) (E:Env) (w:World) (e:Nat) (k:List Item) (g:List Frame) (f:Item),(f=.code d\/∃h,d=.loop h/\f=.inLoop h)->e<=w.heap.size->Pre P c e b E w s a ->
  ∃i m j,Post P c e b E w s m j l i/\Arr P (lone (b.atR a (f::k)) g w) b k g i j o
def FO(P:Program)(pol:Pol):Prop:=∀b,kH P b->∀(c:Ctx) (a:Array Oper) (s e:S) (E:Env) (w:World) (d:Array Value),Sim E w s.st->Tm E w c.nt s.sl d->HsOK P c.hs E w->c.u<s.st.next->Used E c.u (· < s.fc) ->
 iT P pol b c a (List.range a.size) s=some e->yM P a e.sl=false->F0 P pol c s.fc s.st.next a e.sl=true ->
  ∀t,(Region.schedule (P.follows .mixedOrders) a t).Nodup/\(∀i∈Region.schedule (P.follows .mixedOrders) a t,i<a.size)/\iT P pol b c a (Region.schedule (P.follows .mixedOrders) a t) s=some e
variable{pol:Pol}{call:Hs->FuncId->List AV->St->Option (AV×St)}{ops:Array Oper}{k:List Item}{cs:List Frame}
def JH{b:S}{a:Option Tmp}{v:AV}(h:Ix.put c a v b=some s'):s'.fc=b.fc:=by
 cases a with
 |none=>simp[Ix.put]at h;rw[<-h]
 |some d=>
  simp only[Ix.put]at h;split at h
  .cases h;rfl
  .cases h
def ai{i:Nat}(h:jH P pol call c ops i s=some s'):s'.fc=s.fc:=by
 unfold jH at h;split at h
 .cases h;rfl
 .split at h
  .split at h
   .split at h
    .exact(JH h).trans rfl
    .cases h
   .split at h
    .split at h
     .exact(JH h).trans rfl
     .cases h
    .cases h
   .split at h
    .exact(JH h).trans rfl
    .cases h
  .exact JH h
def xbc(A:kH P call):∀(L:List Nat) {s:S} {E:Env} {w:World} {a:Act},L.Nodup->Sim E w s.st->Tm E w c.nt s.sl a.tmps->HsOK P c.hs E w->c.u<s.st.next->Used E c.u (λn=>∀i∈L,n≠s.fc+i)->iT P pol call c ops L s=some s' ->
    (∃r C t,Steps P (lone (b.atR a (.inRegion ops L::k)) cs w) (lone (b.atR r (.inRegion ops []::k)) cs t)/\r.defers=a.defers/\Tm C t c.nt s'.sl r.tmps/\Moved E w s.st c.u (λn=>∃i∈L,n=s.fc+i) C t s'.st)/\s'.fc=s.fc
 |[],s,E,w,a,_,o,x,_,_,_,h=>by simp[iT]at h;subst h;exact⟨⟨a,E,w,.refl _ _,rfl,x,.refl o⟩,rfl⟩
 |i::L,s,E,w,a,K,o,x,D,y,F,h=>by
  simp only[iT]at h;split at h
  .rename_i J g;have f:=ai g;obtain⟨M,E1,w1,N,O,Q,l⟩:=(xaf (b:=b) (k:=k) (rest:=L) A o x D y (λid p d H=>F id p d H i (eP)) g).1 cs;have hN':=zR.1 K
   obtain⟨⟨R,W,X,Y,Z,k3,k4⟩,k5⟩:=xbc A L (s:=J) (a:=M) hN'.2 l.sim Q (D.later o l.later) (fN y l.next) (l.used y F (by
    intro n d j m
    rw[f]
    rcases d with d|d
    .exact d j (eE _ m)
    .rw[d];intro e;exact hN'.1 ((by omega:i=j)▸m))) h
   refine⟨⟨R,W,X,Steps.trans N Y,Z.trans O,k3,l.trans k4 (λn d=>⟨i,eP,d⟩) (λn ⟨j,m,d⟩=>⟨j,eE _ m,by rw[d,f]⟩)⟩,k5.trans f⟩
  .cases h
def xpd(N:kH P call)(R:FO P pol){id:Nat}{d:Bool}(h:rC P pol call c ops d s=some s'):tF P c (.region id ops d) s .normal s':=by
 intro b a E w F k r W H _ f;obtain rfl:W=.code (.region id ops d):=H.elim (λh=>h) λ⟨_,e,_⟩=>(by cases e);unfold rC at h;split at h
 .rename_i m g;split at h
  .cases h
  .rename_i X;cases h;have fin:∀(L:List Nat) (j:World),(j.heap=w.heap/\j.os=w.os/\j.output=w.output)->L.Nodup->(∀i∈L,i<ops.size)->iT P pol call c ops L s=some m->step P (lone (b.atR a (.code (.region id ops d)::k)) r w)=.next (lone (b.atR a (.inRegion ops L::k)) r j) ->
    ∃A D C,Post P c F b E w s D C {m with fc:=s.fc+ops.size} A/\Arr P (lone (b.atR a (.code (.region id ops d)::k)) r w) b k r A C .normal:=by
    intro L j ⟨x,Y,Q⟩ Z hL hr o;have p:Later E w E j:=.of_heap x;have y:Moved E w s.st c.u (λ_=>False) E j s.st:=⟨f.sim.of_heap x,p,bO _,λid l h=>.inl ⟨l,h⟩⟩;obtain⟨⟨A,D,C,g1,g2,g3,g4⟩,g5⟩:=xbc (b:=b) (k:=k) (cs:=r) N L Z y.sim (f.tm.past p.past) (f.hs.later f.sim p) f.u (λid l O t i _=>by have:=f.used id l O t;omega) hr;refine⟨A,D,C,f.on (K:=λn=>∃i∈L,n=s.fc+i) (y.trans g4 (λ_ h=>h.elim) (λ_ h=>h)) (λn ⟨i,t,O⟩=>?_) (Nat.le_add_right _ _) g3 g2,Steps.head o (Steps.trans g1 (.one stepR_region_end))⟩;have:=hL i t;simp only
    omega
   cases d with
   |false=>exact fin (List.range ops.size) w ⟨rfl,rfl,rfl⟩ eu (λi t=>iR.1 t) g stepR_region
   |true=>have hd':yM P ops m.sl=false/\F0 P pol c s.fc s.st.next ops m.sl=true:=(by cases J:yM P ops m.sl<;>cases M:F0 P pol c s.fc s.st.next ops m.sl<;>simp[J,M]at X ⊢);obtain⟨J,M,h3⟩:=R call N c ops s m E w a.tmps f.sim f.tm f.hs f.u f.used g hd'.1 hd'.2 (w.tape w.drawn (.order b.fn id));exact fin _ {w with drawn:=w.drawn+1} ⟨rfl,rfl,rfl⟩ J M h3 stepR_region_draw
 .cases h
theorem x1s{x:Code}{id:Nat}:exitTo id (.code x::k)=exitTo id k:=rfl
theorem x1q{x:Code}{id:Nat}:exitTo id (.inLoop x::k)=exitTo id k:=rfl
def x1r{id a:Nat}:exitTo id (.inBlock a::k)=if a=id then some k else exitTo id k:=by simp[exitTo]
def Arr.kA{m:Machine}{k a:List Item}{o:Out}(h:Arr P m b k cs a' w' o)(d:o≠.normal)(e:∀id,o=.exit id->exitTo id k=exitTo id a):Arr P m b a cs a' w' o:=by
 cases o with
 |normal=>exact absurd rfl d
 |exit id=>obtain⟨f,g,i⟩:=h;exact⟨f,g.trans (e id rfl),i⟩
 |ret=>exact h
def Post.size{a:Nat}(h:Post P c a b E w s E' w' s' a')(d:a<=w.heap.size):a<=w'.heap.size:=iQ d h.moved.later.ext.size
variable{low:Ctx->Code->S->Option (Out×S)}
def xhv(P:Program)(g:Ctx->Code->S->Option (Out×S))(e:Hs->FuncId->List AV->St->Option (AV×St)):Prop:=
 ∀(pol:Pol) (f:Operand) (a:Array Tmp) (b d:Code) (c:Ctx) (s h:S) (o:Out),gF P pol g e c (.rangeFunc f a b d) s=some (o,h)->tF P c (.rangeFunc f a b d) s o h
def uU(H:kH P call)(J:FO P pol)(g:∀c r s o j,low c r s=some (o,j)->tF P c r s o j)(K:xhv P low call) :
    ∀(r:Code) {c:Ctx} {s j:S} {o:Out},gF P pol low call c r s=some (o,j)->tF P c r s o j
 | .skip,c,s,j,o,h=>by intro b a E w d k n D i _ p;obtain rfl:D=.code .skip:=i.elim (λh=>h) λ⟨_,e,_⟩=>(by cases e);simp[gF]at h;obtain⟨rfl,rfl⟩:=h;exact⟨a,E,w,.refl p,Steps.one stepR_skip⟩
 | .region id ops draw,c,s,j,o,h=>by simp only[gF,cE,bF]at h;obtain⟨X,L,rfl,rfl⟩:=h;exact xpd H J L
 | .seq x y,c,s,j,o,h=>by
   intro b a E w d k n D i F p;obtain rfl:D=.code (.seq x y):=i.elim (λh=>h) λ⟨_,e,_⟩=>(by cases e);simp only[gF]at h;split at h
   .rename_i X L;obtain⟨u,A,C,l,m⟩:=uU H J g K x L b a E w d (.code y::k) n _ (.inl rfl) F p;obtain⟨Y,Z,w2,N,g4⟩:=uU H J g K y h b u A C d k n _ (.inl rfl) (l.size F) l.pre;exact⟨Y,Z,w2,l.trans N,.head (Steps.head stepR_seq m) g4⟩
   .rename_i O;have M:o≠.normal:=(by rintro rfl;exact O j h);obtain⟨u,A,C,l,m⟩:=uU H J g K x h b a E w d (.code y::k) n _ (.inl rfl) F p;exact⟨u,A,C,l,.head (.one stepR_seq) (m.kA M λ_ _=>x1s)⟩
 | .cond q x y,c,s,j,o,h=>by
   intro b a E w d k n D i F p;obtain rfl:D=.code (.cond q x y):=i.elim (λh=>h) λ⟨_,e,_⟩=>(by cases e);have W:=p.tm.ev (a:=a) q;simp only[gF]at h;split at h
   .rename_i e;rw[e]at W;obtain⟨u,A,C,l,m⟩:=uU H J g K x h b a E w d k n _ (.inl rfl) F p;exact⟨u,A,C,l,.head (.one (stepR_cond (t:=true) (kZ W))) m⟩
   .rename_i e;rw[e]at W;obtain⟨u,A,C,l,m⟩:=uU H J g K y h b a E w d k n _ (.inl rfl) F p;exact⟨u,A,C,l,.head (.one (stepR_cond (t:=false) (kZ W))) m⟩
   .cases h
 | .block id x,c,s,j,o,h=>by
   intro b a E w d k n D i F p;obtain rfl:D=.code (.block id x):=i.elim (λh=>h) λ⟨_,e,_⟩=>(by cases e);simp only[gF]at h;split at h
   .rename_i Q X L;obtain⟨u,A,C,l,k1,m,N⟩:=uU H J g K x L b a E w d (.inBlock id::k) n _ (.inl rfl) F p;rw[x1r]at m;split at h
    .rename_i e;cases h;rw[aF e.symm]at m;exact⟨u,A,C,l,Steps.head stepR_block (Steps.trans N (.one (stepR_exit m)))⟩
    .rename_i e;cases h;rw[aB (Ne.symm e)]at m;exact⟨u,A,C,l,k1,m,Steps.head stepR_block N⟩
   .rename_i O;obtain⟨u,A,C,l,m⟩:=uU H J g K x h b a E w d (.inBlock id::k) n _ (.inl rfl) F p;refine⟨u,A,C,l,.head (.one stepR_block) ?_⟩;cases o with
    |normal=>exact Steps.trans m (.one stepR_inBlock)
    |exit Q=>exact absurd h (O Q j)
    |ret=>exact m
 | .loop x,c,s,j,o,h=>by
   intro b a E w d k n D i F p;have R:step P (lone (b.atR a (D::k)) n w)=.next (lone (b.atR a (.code x::.inLoop x::k)) n w):=by
    rcases i with rfl|⟨b0,e,rfl⟩
    .exact stepR_loop
    .cases e;exact stepR_inLoop
   simp only[gF]at h;split at h
   .rename_i X L;obtain⟨u,A,C,l,m⟩:=uU H J g K x L b a E w d (.inLoop x::k) n _ (.inl rfl) F p;obtain⟨Y,Z,w2,N,g4⟩:=g _ _ _ _ _ h b u A C d k n (.inLoop x) (.inr ⟨x,rfl,rfl⟩) (l.size F) l.pre;exact⟨Y,Z,w2,l.trans N,.head (Steps.head R m) g4⟩
   .rename_i O;have M:o≠.normal:=(by rintro rfl;exact O j h);obtain⟨u,A,C,l,m⟩:=uU H J g K x h b a E w d (.inLoop x::k) n _ (.inl rfl) F p;exact⟨u,A,C,l,.head (.one R) (m.kA M λ_ _=>x1q)⟩
 | .exit id,c,s,j,o,h=>by intro b a E w d k n D i _ p;obtain rfl:D=.code (.exit id):=i.elim (λh=>h) λ⟨_,e,_⟩=>(by cases e);simp[gF]at h;obtain⟨rfl,rfl⟩:=h;exact⟨a,E,w,.refl p,k,rfl,.refl _ _⟩
 | .ret,c,s,j,o,h=>by intro b a E w d k n D i _ p;obtain rfl:D=.code .ret:=i.elim (λh=>h) λ⟨_,e,_⟩=>(by cases e);simp[gF]at h;obtain⟨rfl,rfl⟩:=h;exact⟨a,E,w,.refl p,k,.refl _ _⟩
 | .rangeFunc f ps x y,c,s,j,o,h=>K pol f ps x y c s j o h
 | .scope _,c,s,j,o,h=>by simp[gF]at h
 | .goto _,c,s,j,o,h=>by simp[gF]at h
 | .label _,c,s,j,o,h=>by simp[gF]at h
 | .refuse _,c,s,j,o,h=>by simp[gF]at h
end
section
variable{P:Program}{E:Env}{w:World}{st:St}
def xdb{g:Nat}:∀(a:List Deferred) {w:World} {fr:Frame} {cs:List Frame},fr.mode=.returning->fr.defers=a->Marks g E w a->Sim E w st ->
    ∃h,Steps P (lone fr cs w) (lone {fr with defers:=[]} cs h)/\Sim E h st/\Past E w E h/\h.heap.size=w.heap.size/\∀b,b<g->h.heap[b]?=w.heap[b]?
 |[],w,fr,cs,_,l,_,u=>by refine⟨w,?_,u,.refl _ _,rfl,λ_ _=>rfl⟩;have:({fr with defers:=[]}:Frame)=fr:=(by cases fr;simp at l;subst l;rfl);rw[this];exact .refl _ _
 |d::a,w,fr,cs,A,l,⟨X,r,Y,h3,C,Z⟩,u=>by
  have F:=xoz (P:=P) C.2.2;have i:=step_collected (cs:=cs) (by rw[A];simp) l Y F;obtain⟨H,J,g3,x⟩:=C.set u (w':={w with heap:=w.heap.setIfInBounds r (.deferred none)}) rfl (by intro c t f e;cases e) (by intro c t f e;cases e);have o:∀{a:List Deferred},(∀m∈a,m.target≠.collected r)->Marks g E w a->Marks g E {w with heap:=w.heap.setIfInBounds r (.deferred none)} a:=by
   intro a;induction a with
   |nil=>exact λ_ _=>trivial
   |cons d0 a ih=>intro j o;obtain⟨K,r0,y,L,p,M⟩:=o;refine⟨ih (λm n=>j m (eE _ n)) K,r0,y,L,⟨p.1,p.2.1,?_⟩,M⟩;rw[x r0 (by rintro rfl;exact j d0 (eP) y)];exact p.2.2
  obtain⟨h,N,O,Q,R,W⟩:=xdb a (fr:={fr with defers:=[]++a}) (cs:=cs) A rfl (o Z X) H;refine⟨h,Steps.head i N,O,J.trans Q,by rw[R];simp,λb D=>?_⟩;rw[W b D];exact x b (by omega)
def rv(b:Array Value):ResultVar->Sem Value
 | .tmp t=>pure (b.getD t undef)
 | .cell a t=>do loadVar t (<-asAddr (b.getD a undef))
def YN{X:Nat}{s:S}{d:Array Value}(J:Sim E w s.st)(H:Tm E w X s.sl d):∀(p:List ResultVar) {l:List AV},qP P p s=some l ->
    ∃m:List Value,(p.mapM (rv d)).run P w=.ok m w/\m.length=l.length/\∀(i:Nat) (a:AV) (v:Value),l[i]?=some a->m[i]?=some v->E.V w a v
 |[],l,h=>by simp[qP]at h;subst h;exact⟨[],rfl,rfl,λi a v f=>by simp at f⟩
 | .tmp t::p,l,h=>by
   simp only[qP]at h;split at h
   .rename_i Y n;cases h;obtain⟨m,A,C,N⟩:=YN J H p n;refine⟨d.getD t undef::m,?_,by simp[C],λi a v f j=>?_⟩
    .rw[eI];simp only[rv,Sem.run_bind,Sem.run_pure,Result.andThen_ok,A]
    .cases i with
     |zero=>simp at f j;subst f j;have:=H.val t;rwa[pW]at this
     |succ i=>exact N i a v (by simpa using f) (by simpa using j)
   .cases h
 | .cell x t::p,l,h=>by
   simp only[qP]at h;split at h
   .rename_i g z id Z K L hx;split at h
    .rename_i cs vv fr M;split at h
     .rename_i y;split at h
      .rename_i r Y hr n;cases h;subst y;obtain⟨m,A,C,N⟩:=YN J H p n;have W:=H.val x;rw[hx]at W;obtain⟨O,D,len,hη,e⟩:=tD W;obtain⟨_,_,arr,tt,k3,k4,k5,_⟩:=xU J M hη
       obtain⟨u,hu,Q⟩:=YR (P:=P) (F:=E.F) (w:=w) (η:=E.η) (ζ:=E.ζ.1) (b:=O) (o:=D+K) L hr (λi b R=>by
        rw[wZ]at R
        obtain⟨v,A,C,_⟩:=k5 _ _ R
        exact⟨v,by rw[BP k3,oG];exact A,C⟩)
       refine⟨u::m,?_,by simp[C],λi a v f j=>?_⟩
       .rw[eI];simp only[rv,Sem.run_bind,e,asAddr,Sem.run_pure,Result.andThen_ok,hu,A]
       .cases i with
        |zero=>simp at f j;subst f j;exact Q
        |succ i=>exact N i a v (by simpa using f) (by simpa using j)
      .cases h
     .cases h
    .cases h
   .cases h
def Q':∀{l:List AV} {b:List Value},iL l=some b->b.length=l.length/\∀(i:Nat) (a:AV),l[i]?=some a->∃v,b[i]?=some v/\dO a=some v
 |[],b,h=>by simp[iL]at h;subst h;exact⟨rfl,λi a d=>by simp at d⟩
 |x::r,b,h=>by
  simp only[iL]at h;split at h
  .rename_i v m e f;cases h;obtain⟨g,j⟩:=Q' f;refine⟨by simp[g],λi a d=>?_⟩;cases i with
   |zero=>simp at d;subst d;exact⟨v,rfl,e⟩
   |succ i=>simpa using j i a (by simpa using d)
  .cases h
def x8s{a:List AV}{b:Array Value}{d:List Value}(e:ArgsV E w a b)(h:iL a=some d):b=d.toArray:=by
 obtain⟨n,o⟩:=Q' h;refine Array.ext (by simp[e.1,n]) λi f l=>?_
 have g:i<a.length:=(by rw[<-e.1];exact f);obtain⟨v,j,p⟩:=o i a[i] (eJ g);have m:=e.2 i a[i] b[i] (eJ g) (iZ f);have:=lG m p;rw[this];have h2':i<d.length:=(by simpa using l);rw[eJ h2']at j;simpa using(pR j).symm
def G1(P:Program)(pol:Pol):Prop:=∀(E:Env) (w:World) (st:St) (f:FuncId) (a:List AV) (d:Array Value) (r:AV) (b:St),pol f iP≠0->xD P w->Sim E w st->ArgsV E w a d->AX (pol f iP) a st=some (r,b) ->
 kG P f/\oJ P E w st f d r b
def xg3{pol:Pol}(ht:G1 P pol){D:Ctx->Code->S->Option (Out×S)}(hcode:∀c W s o s',D c W s=some (o,s')->tF P c W s o s'):kH P (sK P pol D):=by
 intro Z f A st r st' h E w y hS L hH;unfold sK at h;split at h
 .rename_i hp;obtain⟨g1,g2⟩:=ht E w st f A y r st' hp (hH.z w (hS.gl w (Ext.refl _ _))) hS L h;exact⟨.inl g1,g2⟩
 split at h
 .rename_i fn M;split at h
  .rename_i body j;split at h
   .rename_i hcond;obtain⟨hname,hlen⟩:=hcond;have hb0:kG P f:=⟨fn,M,by simp[j],hname⟩;refine⟨.inl hb0,λR=>?_⟩;split at h
    .cases h
    .rename_i o s' hne J;let b:Frame:={ (default:Frame)with fn:=f,kind:=.normal,roundOf:=none}
     let a:Act:={tmps:=y++Array.replicate (fn.ntmps-y.size) undef,defers:=[]}
     have N:Frame.enter P f y .normal=b.atR a [.code body]:=(by simp[Frame.enter,Frame.atR,M,j,a,b]);have hpre:Pre P {f:=f,u:=st.next,nt:=fn.ntmps,hs:=Z} w.heap.size b E w {sl:=nJ A,st:={st with next:=st.next+1},fc:=0} a:=by
      refine⟨hS.next rfl (uY _),⟨by simp[a,L.1];omega,λt=>?_⟩,hH,mH _,λid H hn hi=>?_,rfl,λl hl=>by simp[b]at hl,trivial⟩
      .rw[pW];show E.V w (A.getD t (.sc undef)) _;simp only[a];rw[fU];by_cases ht:t<A.length
       .rw[VT (by rw[L.1];exact ht),eJ ht,iZ (by rw[L.1];exact ht)];exact L.2 t _ _ (eJ ht) (iZ (by rw[L.1];exact ht))
       .rw[FW (by omega),xje (by rw[L.1];omega),xjd];split<;>exact .sc undef
      .simp only at hi;cases he:E.η id H with
       |none=>exact absurd he hn
       |some x=>have:=hS.dom _ _ _ he;omega
     obtain⟨a',E',w',d,Y⟩:=hcode _ _ _ _ _ J b a E w w.heap.size [] R _ (.inl rfl) (bO _) hpre;have hret:∃T,Steps P (lone (Frame.enter P f y .normal) R w) (lone {b.atR a' T with mode:=.returning} R w'):=by
      rw[N];cases o with
      |normal=>exact⟨[],Steps.trans Y (.one (stepR_end rfl))⟩
      |exit id=>exact(hne id rfl).elim
      |ret=>obtain⟨k1,hk⟩:=Y;exact⟨.code .ret::k1,Steps.trans hk (.one (stepR_ret rfl))⟩
     obtain⟨T,Q⟩:=hret;obtain⟨p,q1,q2,q3,q4,q5⟩:=xdb (P:=P) a'.defers (fr:={b.atR a' T with mode:=.returning}) (cs:=R) rfl rfl d.pre.marks d.pre.sim;have hT:=d.pre.tm.past q3;have key:∀l,qP P fn.results.toList s'=some l->∃C:List Value,C.length=l.length/\(∀(i:Nat) (a:AV) (v:Value),l[i]?=some a->C[i]?=some v->E'.V p a v)/\(results fn a'.tmps).run P p=.ok (if h:C.length=1 then C[0]else .tuple C.toArray) p:=(by intro l hl;obtain⟨C,h1,h2,h3⟩:=YN (P:=P) q2 hT _ hl;refine⟨C,h2,h3,?_⟩;have hrv:results fn a'.tmps=(do let y <-fn.results.mapM (rv a'.tmps);pure (if h:y.size=1 then y[0]else .tuple y)):=(by unfold results;congr 1);rw[hrv,x9y];simp only[Sem.run_bind,Sem.run_map,h1,Result.andThen_ok,Sem.run_pure,List.size_toArray,List.getElem_toArray]);have O:After E w st E' p s'.st:=by
      refine⟨q2,?_,iQ (uY _) d.moved.next,λid H hn=>?_⟩
      .have l:=d.moved.later;refine⟨l.η,l.F,l.newF,l.newO,l.X,l.newX,l.ζ,⟨by rw[q4];exact l.ext.size,λb hb=>?_,λb hg hb=>?_,q3.ext.os.trans l.ext.os,q3.ext.out.trans l.ext.out⟩,λb r e=>let⟨x,ex,m⟩:=l.lsh b r e;⟨x,by rw[q5 b (D6 e)];exact ex,m⟩,l.lock⟩
       .rw[<-l.ext.shape b hb];unfold World.shape?;rw[q5 b hb]
       .rw[q5 b hb];exact l.ext.same b hg hb
      .rcases d.moved.dom id H hn with g|g|⟨g,_⟩
       .exact .inl g
       .exact .inr (by simp only at g;omega)
       .exact .inr (by simp only at g;omega)
     have fin:∀u,(results fn a'.tmps).run P p=.ok u p->E'.V p r u->st'=s'.st->∃E' w' u,pj P f y w R w' u/\E'.V w' r u/\After E w st E' w' st':=(by intro u hu hV hst;subst hst;exact⟨E',p,u,.inl ⟨hb0,_,Steps.trans Q q1,rfl,⟨rfl,rfl,rfl,fn,M,hu⟩⟩,hV,O⟩);split at h
     .rename_i v K;cases h;obtain⟨C,k1,k2,k3⟩:=key _ K;match C,k1,k2,k3 with
      |[u],_,k2,k3=>exact fin u k3 (k2 0 _ _ rfl rfl) rfl
     .rename_i l hn K;cases h;obtain⟨C,k1,k2,k3⟩:=key _ K;have hn1:C.length≠1:=(by intro e;obtain⟨x,hx⟩:=List.length_eq_one_iff.1 (show l.length=1 by omega);exact hn x hx);rw[dif_neg hn1]at k3;exact fin _ k3 (.tup _ _ (by simpa using k1) λi a v ha hv=>k2 i a v ha (by simpa using hv)) rfl
     .cases h
    .cases h
   .cases h
  .rename_i j;simp only[cE,bF]at h;obtain⟨r0,hr,rfl,rfl⟩:=h;have hnb:¬kG P f:=(by rintro⟨fn',h1,h2,-⟩;rw[M]at h1;cases h1;simp[j]at h2);unfold w7 at hr;split at hr
   .rename_i r1 h0;cases hr;unfold U3 at h0;split at h0
    .rename_i C hus;split at h0
     .rename_i u hu;cases h0;have hv:=x8s L hus;refine⟨.inr (P' hus),λR=>⟨E,w,u,.inr ⟨hnb,?_⟩,FJ u,After.refl hS⟩⟩;rw[hv];exact vS hu w
     .cases h0
    .cases h0
   .obtain⟨⟨vs0,hvs0⟩,h2⟩:=xhm hr;obtain⟨hA1,hA2⟩:=L;obtain⟨u,n,J,hV⟩:=h2 E.F w E.η E.ζ.1 y.toList (by simp[hA1]) (λi a u ha hu=>hA2 i a u ha (by simpa using hu));refine⟨.inr (xf4 hvs0),λR=>⟨E,{w with drawn:=n},u,.inr ⟨hnb,?_⟩,hV _ _ _ _,⟨Sim.of_heap (w:=w) rfl hS,.of_heap rfl,bO _,λid H h=>.inl ⟨H,h⟩⟩⟩⟩;have hrun':(callFunc f y >>= xfj).run P w=.ok u {w with drawn:=n}:=(by have e:y.toList.toArray=y:=Array.toArray_toList;rw[<-e];exact J);rw[Sem.run_bind]at hrun';cases h1:(callFunc f y).run P w with
    |halt h w1=>rw[h1]at hrun';cases hrun'
    |ok nx w1=>
     rw[h1]at hrun';cases nx with
     |value u'=>have h3:(Sem.pure u':Sem Value).run P w1=.ok u {w with drawn:=n}:=hrun';simp only[Sem.run,Result.ok.injEq]at h3;obtain⟨rfl,rfl⟩:=h3;rfl
     |_=>have h3:(Sem.halt (.stuck ""):Sem Value).run P w1=.ok u {w with drawn:=n}:=hrun';cases h3
 .cases h
end
section
variable{P:Program}{E:Env}{w:World}
def D5{st:St}(d:Sim E w st):∀{Z:Hs},HsOK P Z E w->∀p∈Z,∃a,E.η p.1 0=some (a,0,0)/\a<w.heap.size
 |[],_=>λp b=>by simp at b
 |_::_,⟨e,a,r,f,g,_⟩=>λp b=>by
  rcases dW.1 b with rfl|b
  .exact⟨a,f,g.lt d⟩
  .exact D5 d e p b
def dk{j:Nat}:∀(d:List Tmp) (f:List AV) (g:List Value) {l:Nat->AV} {b:Array Value},Tm E w j l b->f.length=d.length->g.length=d.length->(∀(i:Nat) (a:AV) (v:Value),f[i]?=some a->g[i]?=some v->E.V w a v)->(∀p∈d,p<j) ->
    Tm E w j (mF d f l) ((d.zip g).foldl (λb (t,a)=>b.setIfInBounds t a) b)
 |[],_,_,_,_,h,_,_,_,_=>by simpa[mF]using h
 |p::d,a::f,u::g,l,b,h,m,n,o,r=>by
  simp only[mF,List.zip_cons_cons,ez];refine dk d f g ?_ (by simpa using m) (by simpa using n) (λi a v x y=>o (i+1) a v (by simpa using x) (by simpa using y)) (λq A=>r q (eE _ A));refine⟨by simp[h.size],λt=>?_⟩;simp only[tM];split
  .rename_i e;subst e;rw[pW,HF (by rw[h.size];exact r _ (eP))];exact o 0 a u rfl rfl
  .rename_i e;have:=h.val t;rw[pW]at this ⊢;rwa[tG (Ne.symm e)]
 |_::_,[],_,_,_,_,m,_,_,_=>by simp at m
 |_::_,_::_,[],_,_,_,_,n,_,_=>by simp at n
def Marks.set{a b:Nat}{w':World}{r0:Loop}(h:w.heap[b]?=some (.loop r0))(d:∀g,g≠b->w'.heap[g]?=w.heap[g]?):∀{i:List Deferred},Marks a E w i->Marks a E w' i
 |[],_=>trivial
 |_::_,⟨j,r,l,m,e,o⟩=>⟨j.set h d,r,l,m,⟨e.1,e.2.1,by
   rw[d r (by rintro rfl;have:=e.2.2;rw[h]at this;cases this)];exact e.2.2⟩,o⟩
def Later.around{H o w:Env}{y m A C p:World}{d:Nat}(a:Later H y o m)(f:Later o A w C)(J:Past o m o A)(D:Past w C w p)(K:A.heap.size=m.heap.size)(P:∀l,l≠d->A.heap[l]?=m.heap[l]?)(Q:∀l,l≠d->p.heap[l]?=C.heap[l]?)(j:p.heap[d]?=y.heap[d]?\/(¬H.G d/\∃M E,y.heap[d]?=some (.loop M)/\p.heap[d]?=some (.loop E)/\lN E=lN M)):Later H y w p:=by
 refine⟨λi v x h=>f.η _ _ _ (a.η _ _ _ h),λb h=>f.F b (a.F b h),λb h=>?_,λb i h=>?_,λb h=>f.X b (a.X b h),λb h=>?_,f.ζ.trans a.ζ,⟨iQ a.ext.size (by have:=f.ext.size;have:=D.ext.size;omega),λb h=>?_,λb L h=>?_,D.ext.os.trans (f.ext.os.trans (J.ext.os.trans a.ext.os)),D.ext.out.trans (f.ext.out.trans (J.ext.out.trans a.ext.out))⟩,λb r e=>?_,λi t x e R g v=>?_⟩
 .rcases f.newF b h with g|g|g
  .exact a.newF b g
  .exact .inr (.inl (by have:=a.ext.size;omega))
  .cases W:o.O b with
   |none=>exact absurd W g
   |some i=>rcases a.newO b i W with g'|g'
            .exact .inr (.inr (by rw[g'];simp))
            .exact .inr (.inl g')
 .rcases f.newO b i h with g|g
  .exact a.newO b i g
  .exact .inr (by have:=a.ext.size;omega)
 .rcases f.newX b h with g|g
  .exact a.newX b g
  .exact .inr (by have:=a.ext.size;omega)
 .have u:b<m.heap.size:=fN h a.ext.size;have Z:b<C.heap.size:=fN (K▸u) f.ext.size;rw[D.ext.shape b Z,f.ext.shape b (K▸u),J.ext.shape b u,a.ext.shape b h]
 .by_cases e:b=d
  .subst e;rcases j with j|⟨j,_⟩
   .exact j
   .exact absurd L j
  .have u:b<m.heap.size:=fN h a.ext.size;rw[Q b e,f.ext.same b (L.imp (a.F b) (a.X b)) (K▸u),P b e,a.ext.same b L h]
 .by_cases N:b=d
  .subst N;rcases j with j|⟨_,M,E,n,h5,hn⟩
   .exact⟨r,by rw[j];exact e,rfl⟩
   .rw[e]at n;cases n;exact⟨E,h5,hn⟩
  .obtain⟨r2,e2,m2⟩:=a.lsh b r e;obtain⟨r4,e4,m4⟩:=f.lsh b r2 (by rw[P b N];exact e2);exact⟨r4,by rw[Q b N];exact e4,m4.trans m2⟩
 .have n:=a.lock i t x e R g;rw[<-n v];exact f.lock i t x (by rw[n];exact e) (λv Y=>by rw[n];exact R v Y) (g.imp (a.F _) (a.X _)) v
variable{low:Ctx->Code->S->Option (Out×S)}
def aw(e:Ctx->Code->S->Option (Out×S))(c:Ctx)(a:Array Tmp)(b f:Code)(g:Nat->AV):List AV->St->Option St:=λd st=>
 if d.length=a.size/\a.all (· < c.nt)then
  let c':={c with u:=st.next}
  let h:S:={sl:=mF a.toList d g,st:={st with next:=st.next+1},fc:=0}
  match e c' b h with
  |some (.normal,i)=>match e c' f i with
   |some (.normal,j)=>some j.st
   |_=>none
  |_=>none
 else none
def xo8(J:∀c K s o s',low c K s=some (o,s')->tF P c K s o s'){c:Ctx}{d:Nat}{r:Loop}{E0:Env}{w0:World}{sl:Nat->AV}(hT0:Tm E0 w0 c.nt sl r.tmps)(hr:r.state=.ready)(Q:r.pending=none)(hd:∀p∈c.hs,∃C,E0.η p.1 0=some (C,0,0)/\C≠d){H:Env}{m:World}{st W:St}{n:List AV}{R:Array Value}(A:Past E0 w0 H m)(hS:Sim H m st)(hH:HsOK P c.hs H m)(hh:Held H m d (.loop r))(hA:ArgsV H m n R)(h:aw low c r.params r.assign r.body sl n st=some W) :
    ∃f j w L,(Instr.yield d R).run P m=.ok (.round d f j w L) m /\
     ∀(fr:Frame) (X:List Frame),∃E' w',Steps P (lone (Frame.round d f j w L .normal) (fr::X) m) (lone (fr.finish (.bool true)) X w')/\After H m st E' w' W:=by
 unfold aw at h;split at h
 .rename_i hc;obtain⟨F,hall⟩:=hc;simp only at h;split at h
  .rename_i s1 h1;split at h
   .rename_i s2 h2;cases h;refine⟨_,_,_,_,xba hh.2.2 (by rw[hA.1,F]),λfr X=>?_⟩;let c':Ctx:={c with u:=st.next}
    let b:Frame:={ (default:Frame)with fn:=r.fn,kind:=.normal,roundOf:=some d}
    let a:Act:={tmps:=(r.params.zip R).foldl (λj (t,a)=>j.setIfInBounds t a) r.tmps,defers:=[]}
    have hb0:Frame.round d r.fn ((r.params.zip R).foldl (λj (t,a)=>j.setIfInBounds t a) r.tmps) r.assign r.body .normal=b.atR a [.code r.assign,.beginRound,.code r.body]:=(by simp[Frame.round,Frame.atR,b,a]);have M:Pre P c' m.heap.size b H m {sl:=mF r.params.toList n sl,st:={st with next:=st.next+1},fc:=0} a:=by
     refine⟨hS.next rfl (uY _),?_,hH,mH _,λid N hn hi=>?_,rfl,λl Y=>?_,trivial⟩
     .have:=dk r.params.toList n R.toList (hT0.past A) (by simpa using F) (by simpa[F]using hA.1) (λi a v ha hv=>hA.2 i a v ha (by simpa using hv)) (λp Q=>by
       have:=xl.1 hall p (by simpa using Q)
       simpa using this)
      show Tm H m c.nt _ ((r.params.zip R).foldl _ r.tmps);rwa[<-xjf,Array.toList_zip]
     .simp only[c']at hi;cases he:H.η id N with
      |none=>exact absurd he hn
      |some x=>have:=hS.dom _ _ _ he;omega
     .simp[b]at Y;subst Y;exact⟨r,hh.2.2⟩
    obtain⟨a2,E2,w2,y,q2⟩:=J _ _ _ _ _ h1 b a H m m.heap.size [.beginRound,.code r.body] (fr::X) _ (.inl rfl) (bO _) M;have O:=hh.later M.sim y.moved.later;have hd2:∀p∈c.hs,∀D,E2.η p.1 0=some (D,0,0)->D≠d:=(by intro p Q D hb';obtain⟨C,e0,hne⟩:=hd p Q;have:=y.moved.later.η _ _ _ (A.η _ _ _ e0);rw[hb']at this;cases this;exact hne);obtain⟨g1,g2,g3,g4⟩:=O.set y.pre.sim (w':={w2 with heap:=w2.heap.setIfInBounds d (.loop {r with state:=.busy})}) rfl (by intro c t f e;cases e) (by intro c t f e;cases e);have E:Pre P c' m.heap.size b E2 {w2 with heap:=w2.heap.setIfInBounds d (.loop {r with state:=.busy})} s1 a2:=
     ⟨g1,y.pre.tm.past g2,y.pre.hs.set g2 g4 hd2,y.pre.u,y.pre.used,rfl,λl Y=>by simp[b]at Y;subst Y;exact⟨_,g3.2.2⟩,y.pre.marks.set O.2.2 g4⟩
    obtain⟨a4,E4,w4,q3,q4⟩:=J _ _ _ _ _ h2 b a2 E2 _ m.heap.size [] (fr::X) _ (.inl rfl) (by simpa using y.moved.later.ext.size) E;have Z:=g3.later E.sim q3.moved.later;obtain⟨k1,k2,k3,k4⟩:=Z.set q3.pre.sim (w':={w4 with heap:=w4.heap.setIfInBounds d (.loop { {r with state:=.busy}with state:=.ready,pending:=none})}) rfl (by intro c t f e;cases e) (by intro c t f e;cases e);have er:({ {r with state:=.busy}with state:=.ready,pending:=none}:Loop)=r:=(by cases r;simp at hr Q;subst hr Q;rfl);rw[hb0];refine⟨E4,_,Steps.trans q2 (Steps.head (stepR_beginRound rfl (xbg O.2.2 hr)) (Steps.trans q4 (.one (stepR_round_end rfl rfl (xo3 Z.2.2))))),k1,?_,?_,?_⟩
    .refine Later.around y.moved.later q3.moved.later g2 k2 (by simp) g4 k4 (.inl ?_);rw[k3.2.2,er,hh.2.2]
    .have e1:=y.moved.next;have e2:=q3.moved.next;simp only at e1;omega
    .intro id N hn;rcases q3.moved.dom id N hn with ⟨v0,h0⟩|h0|⟨h0,_⟩
     .rcases y.moved.dom id v0 h0 with g|g|⟨g,_⟩
      .exact .inl g
      .exact .inr (by simp only at g;omega)
      .exact .inr (by simp only at g;omega)
     .have e1:=y.moved.next;simp only at e1;exact .inr (by omega)
     .exact .inr (by simp only at h0;omega)
   .cases h
  .cases h
 .cases h
def xv4{r a:Loop}(h:lN a=lN r)(b:r.state=.ready)(d:r.pending=none)(f:a.state≠.done)(e:a.pending=none):a=r:=by cases r;cases a;simp only at b d f e;subst b d e;simp only[lN,Loop.mk.injEq]at h ⊢;obtain⟨i,-,g⟩:=h;refine⟨?_,trivial,g⟩;rename_i s _ _ _ _ _ _;cases s<;>simp_all
def xv5{r a:Loop}(h:lN a=lN {r with state:=.busy})(b:r.pending=none)(d:a.pending=none):a={r with state:=.busy}:=by cases r;cases a;simp only at b d;subst b d;simp only[lN,Loop.mk.injEq]at h ⊢;obtain⟨f,-,e⟩:=h;refine⟨?_,trivial,e⟩;rename_i s _ _ _ _ _ _;cases s<;>simp_all
def xcr{r:Loop}(a:r.state=.ready)(b:r.pending=none):lN r=r:=by cases r;simp only at a b;subst a b;rfl
def xo9(hlow:∀c code s o s',low c code s=some (o,s')->tF P c code s o s'){c:Ctx}{d:Nat}{r:Loop}{id:Id}(hid:Nat.beq id.2.2 0=false){E0:Env}{w0:World}{sl:Nat->AV}(hη0:E0.η id 0=some (d,0,0))(hT0:Tm E0 w0 c.nt sl r.tmps)(hr:r.state=.ready)(hp:r.pending=none)(hd:∀p∈c.hs,∃K,E0.η p.1 0=some (K,0,0)/\K≠d){R:Env}{y:World}{st C:St}{E:List AV}{vs:Array Value}(D:Past E0 w0 R y)(hS:Sim R y st)(hH:HsOK P c.hs R y)(hh:∃L,y.heap[d]?=some (.loop L)/\lN L=r)(hA:ArgsV R y E vs)(h:mP low c id r.params r.assign r.body sl E st=some C) :
    ∃f e H body,(Instr.yield d vs).run P y=.ok (.round d f e H body) y /\
     ∀(fr:Frame) (W:List Frame),∃E' w',Steps P (lone (Frame.round d f e H body .normal) (fr::W) y) (lone (fr.finish (.bool (mD C.aC id))) W w')/\After R y st E' w' C:=by
 obtain⟨L,hb1,hn1⟩:=hh;have hn1':lN L=lN r:=hn1.trans (xcr hr hp).symm;have hst:L.fn=r.fn/\L.tmps=r.tmps/\L.params=r.params/\L.assign=r.assign/\L.body=r.body:=(by subst hn1;exact⟨rfl,rfl,rfl,rfl,rfl⟩);obtain⟨f1,f2,f3,f4,f5⟩:=hst;unfold mP at h;split at h
 .rename_i hc;obtain⟨O,hall⟩:=hc;split at h
  .rename_i s1 h1;split at h
   .rename_i N;split at h
    .rename_i o s2 h2;split at h
     .rename_i J;refine⟨_,_,_,_,xba hb1 (by rw[hA.1,O,f3]),λfr W=>?_⟩;rw[f1,f2,f3,f4,f5];let c':Ctx:={c with u:=st.next}
      let b:Frame:={ (default:Frame)with fn:=r.fn,kind:=.normal,roundOf:=some d}
      let a:Act:={tmps:=(r.params.zip vs).foldl (λe (t,a)=>e.setIfInBounds t a) r.tmps,defers:=[]}
      have hb0:Frame.round d r.fn ((r.params.zip vs).foldl (λe (t,a)=>e.setIfInBounds t a) r.tmps) r.assign r.body .normal=b.atR a [.code r.assign,.beginRound,.code r.body]:=(by simp[Frame.round,Frame.atR,b,a]);have hpre:Pre P c' y.heap.size b R y {sl:=mF r.params.toList E sl,st:={st with next:=st.next+1},fc:=0} a:=by
       refine⟨hS.next rfl (uY _),?_,hH,mH _,λid ver hn hi=>?_,rfl,λl hl=>?_,trivial⟩
       .have:=dk r.params.toList E vs.toList (hT0.past D) (by simpa using O) (by simpa[O]using hA.1) (λi a v ha hv=>hA.2 i a v ha (by simpa using hv)) (λp hp=>by
         have:=xl.1 hall p (by simpa using hp)
         simpa using this)
        show Tm R y c.nt _ ((r.params.zip vs).foldl _ r.tmps);rwa[<-xjf,Array.toList_zip]
       .simp only[c']at hi;cases he:R.η id ver with
        |none=>exact absurd he hn
        |some x=>have:=hS.dom _ _ _ he;omega
       .simp[b]at hl;subst hl;exact⟨L,hb1⟩
      obtain⟨a2,E2,w2,A,q2⟩:=hlow _ _ _ _ _ h1 b a R y y.heap.size [.beginRound,.code r.body] (fr::W) _ (.inl rfl) (bO _) hpre;have hη2:E2.η id 0=some (d,0,0):=A.moved.later.η _ _ _ (D.η _ _ _ hη0);obtain⟨ra,hra,hna⟩:=A.moved.later.lsh _ _ hb1;obtain⟨_,rb,Z,_,e3,_,e5⟩:=A.pre.sim.obj id _ N;rw[hη2]at Z;cases Z;rw[hra]at e3;cases e3;have hra2:ra=r:=xv4 (hna.trans hn1') hr hp e5.1 e5.2;subst hra2;have hd2:∀p∈c.hs,∀M,E2.η p.1 0=some (M,0,0)->M≠d:=(by intro p hp M hb';obtain⟨K,e0,hne⟩:=hd p hp;have:=A.moved.later.η _ _ _ (D.η _ _ _ e0);rw[hb']at this;cases this;exact hne);obtain⟨g1,g2,g3,g4,g5⟩:=A.pre.sim.lset (w':={w2 with heap:=w2.heap.setIfInBounds d (.loop {ra with state:=.busy})}) (d':=none) N hη2 hra rfl ⟨by simp,hp⟩;rw[WY N]at g1;have hpre2:Pre P c' y.heap.size b E2 {w2 with heap:=w2.heap.setIfInBounds d (.loop {ra with state:=.busy})} s1 a2:=
       ⟨g1,A.pre.tm.past g2,A.pre.hs.set g2 g4 hd2,A.pre.u,A.pre.used,rfl,λl hl=>by simp[b]at hl;subst hl;exact⟨_,g3⟩,A.pre.marks.set hra g4⟩
      obtain⟨a4,E4,w4,q3,q4⟩:=hlow _ _ _ _ _ h2 b a2 E2 _ y.heap.size [] (fr::W) _ (.inl rfl) (by simpa using A.moved.later.ext.size) hpre2;have hη4:E4.η id 0=some (d,0,0):=q3.moved.later.η _ _ _ hη2;obtain⟨rc,Q,hnc⟩:=q3.moved.later.lsh _ _ g3;obtain⟨_,rd',Z,_,e3,_,e5⟩:=q3.pre.sim.obj id _ J;rw[hη4]at Z;cases Z;rw[Q]at e3;cases e3;have hrc2:rc={ra with state:=.busy}:=xv5 hnc hp e5.2;subst hrc2;have fin:∀(j:Option Code) (d':Option Out) (m:Machine),eg d' {ra with state:=if j.isNone then .ready else .done,pending:=j}->C={s2.st with aC:=bH s2.st.aC id (some (.lp d'))}->mD C.aC id=j.isNone ->
       Steps P m (lone (fr.finish (.bool j.isNone)) W {w4 with heap:=w4.heap.setIfInBounds d (.loop {ra with state:=if j.isNone then .ready else .done,pending:=j})}) ->
       ∃E' w',Steps P m (lone (fr.finish (.bool (mD C.aC id))) W w')/\After R y st E' w' C:=by
       intro j d' m hlp hst' hlv Y;obtain⟨k1,k2,k3,k4,k5⟩:=q3.pre.sim.lset (w':={w4 with heap:=w4.heap.setIfInBounds d (.loop {ra with state:=if j.isNone then .ready else .done,pending:=j})}) (d':=d') J hη4 Q rfl hlp;rw[hlv];refine⟨E4,_,Y,by rw[hst'];exact k1,?_,?_,?_⟩
       .refine Later.around A.moved.later q3.moved.later g2 k2 (by simp) g4 k4 (.inr ⟨?_,L,_,hb1,k3,?_⟩)
        .intro hG;refine g5 ?_;rcases hG with hG|hG
         .exact .inl (A.moved.later.F _ hG)
         .exact .inr (A.moved.later.X _ hG)
        .rw[hn1'];unfold lN;rw[hr];cases j<;>rfl
       .have Z:=A.moved.next;have e2:=q3.moved.next;rw[hst'];simp only at Z ⊢;omega
       .intro id ver hn;rcases q3.moved.dom id ver hn with ⟨v0,h0⟩|h0|⟨h0,_⟩
        .rcases A.moved.dom id v0 h0 with g|g|⟨g,_⟩
         .exact .inl g
         .exact .inr (by simp only at g;omega)
         .exact .inr (by simp only at g;omega)
        .have Z:=A.moved.next;simp only at Z;exact .inr (by omega)
        .exact .inr (by simp only at h0;omega)
      have n:=stepR_beginRound (P:=P) (b:=b) (a:=a2) (k:=[.code ra.body]) (cs:=fr::W) (w:=w2) rfl (xbg hra hr);rw[hb0];cases o with
      |normal=>simp only[bN]at h;subst h;refine fin none none _ ⟨by simp,rfl⟩ (by rw[WY J]) (by unfold mD;rw[hid,J];rfl) ?_;exact Steps.trans q2 (Steps.head n (Steps.trans q4 (.one (stepR_round_end rfl rfl (YK Q none)))))
      |exit i=>simp only[bN]at h;subst h;obtain⟨kk,hk,hs4⟩:=q4;refine fin (some (.exit i)) (some (.exit i)) _ ⟨by simp,rfl⟩ rfl (by unfold mD;rw[hid];simp[bH]) ?_;exact Steps.trans q2 (Steps.head n (Steps.trans hs4 (.one (stepR_round_exit rfl rfl hk (YK Q (some (.exit i)))))))
      |ret=>simp only[bN]at h;subst h;obtain⟨kk,hs4⟩:=q4;refine fin (some .ret) (some .ret) _ ⟨by simp,rfl⟩ rfl (by unfold mD;rw[hid];simp[bH]) ?_;exact Steps.trans q2 (Steps.head n (Steps.trans hs4 (.one (stepR_round_ret rfl rfl (YK Q (some .ret))))))
     .cases h
    .cases h
   .cases h
  .cases h
 .cases h
end
section
variable{P:Program}{low:Ctx->Code->S->Option (Out×S)}{call:Hs->FuncId->List AV->St->Option (AV×St)}
def Later.set{E p:Env}{w a w4:World}{d:Nat}(l:Later E w p a)(u:w.heap.size<=d)(Z:w4.heap.size=a.heap.size)(i:∀o,o≠d->w4.heap[o]?=a.heap[o]?)(j:w4.os=a.os:=by first|assumption|rfl)(g:w4.output=a.output:=by first|assumption|rfl):Later E w p w4:=by
 refine⟨l.η,l.F,l.newF,l.newO,l.X,l.newX,l.ζ,⟨by rw[Z];exact l.ext.size,λb h=>?_,λb t h=>?_,j.trans l.ext.os,g.trans l.ext.out⟩,λb r e=>let⟨r',e',m⟩:=l.lsh b r e;⟨r',by rw[i b (by have:=D6 e;omega)];exact e',m⟩,l.lock⟩
 .rw[<-l.ext.shape b h];unfold World.shape?;rw[i b (by omega)]
 .rw[i b (by omega)];exact l.ext.same b t h
def xdc{a:Nat}{E:Env}{w:World}{d:Deferred}{r:Nat}{b:List Deferred}(f:d.target=.collected r)(g:a<=r)(h:Held E w r (.deferred (some [])))(i:Marks a E w b)(e:∀j∈b,j.target≠.collected r):Marks a E w (d::b):=
 ⟨i,r,f,g,h,e⟩
def ZQ{b:Nat}{E:Env}{w:World}{st:St}(f:Sim E w st):∀{g:List Deferred},Marks b E w g->∀d∈g,d.target≠.collected w.heap.size
 |[],_=>λd a=>by simp at a
 |_::_,⟨h,r,i,_,j,_⟩=>λd a=>by
  rcases dW.1 a with rfl|a
  .rw[i];intro e;cases e;exact absurd (f.fin _ (.inr j.1)) (Nat.lt_irrefl _)
  .exact ZQ f h d a
def KJ{E:Env}{a:Nat}{i:Id}{v:Nat}:(hold E a none).η i v=E.η i v:=by simp[hold]
def xes{E:Env}{a:Nat}{id:Id}:(hold E a (some id)).η id 0=some (a,0,0):=by simp[hold]
def xet{E:Env}{a:Nat}{id i:Id}{v:Nat}(h:i≠id):(hold E a (some id)).η i v=E.η i v:=by simp[hold,Ne.symm h]
def x9q(f:Nat)(E:Env)(w:World)(s:S)(a:Act)(id:Id)(r:Loop->Prop)(l:Nat)(d:List Deferred)(b:Env)(e:World):Prop:=
 Sim b e s.st/\Later E w b e/\b.η id 0=some (l,0,0)/\(∀i v,i≠id->b.η i v=E.η i v)/\w.heap.size<=l/\Marks f b e (d++a.defers)/\∃rec,r rec/\Held b e l (.loop rec)
def x11{c:Ctx}{j:Nat}{b:Frame}{E:Env}{w:World}{s:S}{a:Act}{ps:Array Tmp}{assign body:Code}(g:Pre P c j b E w s a)(H:j<=w.heap.size){id:Id}(u:id.1<s.st.next)(C:∀m,E.η id m=none) :
    ∃l h f J,(Instr.enterLoop b.fn a.tmps ps assign body b.roundOf).run P w=.ok (l,h) f /\
     x9q j E w s a id (λr=>r.state=.ready/\r.pending=none/\r.tmps=a.tmps/\r.params=ps/\r.assign=assign/\r.body=body) l h J f:=by
 cases L:b.roundOf with
 |none=>
  let d:Loop:={state:=.ready,pending:=none,fn:=b.fn,tmps:=a.tmps,params:=ps,assign,body,defers:=w.heap.size}
  let p:World:={w with heap:=w.heap.push (.deferred (some []))}
  let f:World:={p with heap:=p.heap.push (.loop d)}
  obtain⟨D,F,K⟩:=g.sim.hold (w':=p) (o:=.deferred (some [])) (nm:=none) rfl (λ_ e=>by cases e)
  obtain⟨x,t,y⟩:=D.hold (w':=f) (o:=.loop d) (nm:=some id) rfl (λi e=>by
   cases e
   exact⟨u,λm=>by rw[KJ];exact C m⟩)
  refine⟨p.heap.size,[{target:=.collected w.heap.size,args:=#[]}],f,_,?_,x,F.trans t,?_,λi v n=>?_,by simp[p],?_,d,⟨rfl,rfl,rfl,rfl,rfl,rfl⟩,y⟩
  .simp[Instr.enterLoop,p,f,d]
  .exact xes
  .rw[xet n,KJ]
  .exact xdc rfl H (K.later D t) (g.marks.later g.sim (F.trans t)) (ZQ g.sim g.marks)
 |some M=>
  obtain⟨r0,A⟩:=g.round M L;let d:Loop:={state:=.ready,pending:=none,fn:=b.fn,tmps:=a.tmps,params:=ps,assign,body,defers:=r0.defers}
  let f:World:={w with heap:=w.heap.push (.loop d)}
  obtain⟨x,t,y⟩:=g.sim.hold (w':=f) (o:=.loop d) (nm:=some id) rfl (λi e=>by cases e;exact⟨u,C⟩);refine⟨w.heap.size,[],f,_,?_,x,t,?_,λi v n=>?_,bO _,g.marks.later g.sim t,d,⟨rfl,rfl,rfl,rfl,rfl,rfl⟩,y⟩
  .simp[Instr.enterLoop,xT A,f,d]
  .exact xes
  .rw[xet n]
def x12{c:Ctx}{m:Nat}{b:Frame}{E:Env}{w:World}{s:S}{a:Act}{ps:Array Tmp}{assign body:Code}(g:Pre P c m b E w s a)(L:m<=w.heap.size){id:Id}(u:id.1<s.st.next)(H:∀n,E.η id n=none) :
    ∃l j f h rec,(Instr.enterLoop b.fn a.tmps ps assign body b.roundOf).run P w=.ok (l,j) f/\Sim h f {s.st with aC:=bH s.st.aC id (some (.lp none))}/\Later E w h f/\h.η id 0=some (l,0,0)/\(∀i v,i≠id->h.η i v=E.η i v) /\
     w.heap.size<=l/\Marks m h f (j++a.defers)/\f.heap[l]?=some (.loop rec)/\rec.state=.ready/\rec.pending=none/\rec.tmps=a.tmps/\rec.params=ps/\rec.assign=assign/\rec.body=body:=by
 cases N:b.roundOf with
 |none=>
  let d:Loop:={state:=.ready,pending:=none,fn:=b.fn,tmps:=a.tmps,params:=ps,assign,body,defers:=w.heap.size}
  let p:World:={w with heap:=w.heap.push (.deferred (some []))}
  let f:World:={p with heap:=p.heap.push (.loop d)}
  obtain⟨J,K,M⟩:=g.sim.hold (w':=p) (o:=.deferred (some [])) (nm:=none) rfl (λ_ e=>by cases e);obtain⟨h,y,t,A,C,D⟩:=J.lnew (w':=f) (r:=d) u (λn=>by rw[KJ];exact H n) rfl rfl rfl;refine⟨p.heap.size,[{target:=.collected w.heap.size,args:=#[]}],f,h,d,?_,y,K.trans t,A,λi v x=>?_,by simp[p],?_,D,rfl,rfl,rfl,rfl,rfl,rfl⟩
  .simp[Instr.enterLoop,p,f,d]
  .rw[C i v x,KJ]
  .exact xdc rfl L (M.later J t) (g.marks.later g.sim (K.trans t)) (ZQ g.sim g.marks)
 |some O=>
  obtain⟨r0,F⟩:=g.round O N;let d:Loop:={state:=.ready,pending:=none,fn:=b.fn,tmps:=a.tmps,params:=ps,assign,body,defers:=r0.defers}
  let f:World:={w with heap:=w.heap.push (.loop d)}
  obtain⟨h,y,t,A,C,D⟩:=g.sim.lnew (w':=f) (r:=d) u H rfl rfl rfl;refine⟨w.heap.size,[],f,h,d,?_,y,t,A,C,bO _,g.marks.later g.sim t,D,rfl,rfl,rfl,rfl,rfl,rfl⟩;simp[Instr.enterLoop,xT F,f,d]
def xbu(hc:kH P call)(hlow:∀c L s o s',low c L s=some (o,s')->tF P c L s o s'){f:Operand}{W:Array Tmp}{j m:Code}{c:Ctx}{s:S}{g:FuncId}{D:List AV}{r:AV}{A:St}{o:Out}{d:Option Out}(hfv:ev s.sl f=.clo g D)(X:call (((c.u,s.fc,1),mP low c (c.u,s.fc,1) W j m s.sl)::c.hs) g (.yld (c.u,s.fc,1)::D) {s.st with aC:=bH s.st.aC (c.u,s.fc,1) (some (.lp none))}=some (r,A))(Y:A.aC (c.u,s.fc,1)=some (.lp d))(hd:d=none/\o=.normal\/d=some o):tF P c (.rangeFunc f W j m) s o {s with st:=A,fc:=s.fc+1}:=by
 intro b a E w lim k cs it hit hl n;obtain rfl:it=.code (.rangeFunc f W j m):=hit.elim (λh=>h) λ⟨_,e,_⟩=>(by cases e);have hV:=n.tm.ev (a:=a) f;rw[hfv]at hV;have hfr:∀t,E.η (c.u,s.fc,1) t=none:=λt=>by
  cases he:E.η (c.u,s.fc,1) t with
  |none=>rfl
  |some x=>have:=n.used _ t (by rw[he];simp) rfl;simp at this
 obtain⟨l,y,N,E2,rec,he,k1,O,k3,k4,k5,k6,k7,r1,r2,r3,r4,r5,r6⟩:=x12 (ps:=W) (assign:=j) (body:=m) n hl (id:=(c.u,s.fc,1)) n.u hfr;obtain⟨H,hev,hcl,hcv⟩:=G0 (hV.later O);have M:=n.hs.later n.sim O;have hns:=xcr r1 r2;have hHs:HsOK P (((c.u,s.fc,1),mP low c (c.u,s.fc,1) W j m s.sl)::c.hs) E2 N:=by
  refine⟨M,l,rec,k3,by unfold Rec;rw[aB (by simp)];exact⟨rec,k7,hns⟩,r1,r2,λp F blk' Z=>?_,λE1 w1 st args vs A h1 h2 h3 h4 h5 h6=>?_⟩
  .obtain⟨b0,e0,hlt⟩:=D5 n.sim n.hs p F;have:=O.η _ _ _ e0;rw[Z]at this;cases this;omega
  .have h4':∃r1,w1.heap[l]?=some (.loop r1)/\lN r1=rec:=(by unfold Rec at h4;rwa[aB (by simp)]at h4);refine xo9 (E0:=E2) (w0:=N) (sl:=s.sl) hlow rfl k3 (by rw[r3];exact n.tm.past O.past) r1 r2 (λp F=>?_) h1 h2 h3 h4' h5 (by rw[r4,r5,r6];exact h6);obtain⟨b0,e0,hlt⟩:=D5 n.sim n.hs p F;exact⟨b0,O.η _ _ _ e0,by omega⟩
 have hA:ArgsV E2 N (.yld (c.u,s.fc,1)::D) (#[.func (.yield l) #[] #[]]++H):=by
  refine⟨by simp[hcl];omega,λi a v ha hv=>?_⟩;cases i with
  |zero=>rw[VT (by simp)]at hv;simp at ha hv;subst ha hv;exact .yld _ l k3
  |succ i=>simp at ha;obtain⟨v',hv',hVV⟩:=hcv i a ha;rw[xje (by simp)]at hv;simp[hv']at hv;subst hv;exact hVV
 obtain⟨hfn0,hgo⟩:=hc _ g _ _ r A X E2 N _ k1 hA hHs;have hfn:kG P g:=by
  rcases hfn0 with h|h
  .exact h
  .simp[o7,dO]at h
 obtain⟨E3,Q,u,hAr,s4,C⟩:=hgo (b.atR {a with defers:=y++a.defers} (.inRangeFunc l::k)::cs);obtain⟨fr',s1,s2,s3⟩:=hAr.elim (λh=>h.2) λh=>absurd hfn h.1
 have hres:(resolve a.eval (rangeCall f l) 0).run P N=.ok {target:=.fn (.func g) H,args:=#[.func (.yield l) #[] #[]]} N:=by
  have hcc:∀v:Value,a.eval (.const v)=v:=λ_=>rfl
  simp[resolve,hev,Deferred.ofValue,hcc]
 have hinv:(invoke (.fn (.func g) H) #[.func (.yield l) #[] #[]]).run P N=.ok (.enter g (#[.func (.yield l) #[] #[]]++H)) N:=(by simp only[invoke];exact IW hfn);have hη3:=C.later.η _ _ _ k3;obtain⟨R,J,hnb⟩:=C.later.lsh _ _ k7;obtain⟨_,rc,e1,_,e3,_,e5⟩:=C.sim.obj _ _ Y;rw[hη3]at e1;cases e1;rw[J]at e3;cases e3;have hbusy:R.state≠.busy:=by intro e;have:=congrArg Loop.state hnb;unfold lN at this;simp[e,r1]at this
 obtain⟨g1,g2,g3,g4,g5⟩:=C.sim.lset (w':={Q with heap:=Q.heap.setIfInBounds l (.loop {R with state:=.exhausted})}) (d':=d) Y hη3 J rfl (by
  cases d with
  |none=>exact⟨by simp,e5.2⟩
  |some o=>exact⟨by simp,e5.2⟩)
 rw[WY Y]at g1;have hjump:R.pending=ZZ o:=by
  rcases hd with ⟨rfl,rfl⟩|rfl
  .exact e5.2
  .exact e5.2
 have hL:=(O.trans C.later).set (w4:={Q with heap:=Q.heap.setIfInBounds l (.loop {R with state:=.exhausted})}) k5 (by simp) g4;have hM:Moved E w s.st c.u (s.fc<=·) E3 {Q with heap:=Q.heap.setIfInBounds l (.loop {R with state:=.exhausted})} A:=by
  refine⟨g1,hL,C.next,λid t hn=>?_⟩;rcases C.dom id t hn with ⟨v0,K⟩|K
  .by_cases e:id=(c.u,s.fc,1)
   .exact .inr (.inr ⟨by rw[e],by rw[e];exact bO _⟩)
   .rw[k4 id v0 e]at K;exact .inl ⟨v0,K⟩
  .exact .inr (.inl K)
 have hto:Steps P (lone (b.atR a (.code (.rangeFunc f W j m)::k)) cs w) (lone (b.atR {a with defers:=y++a.defers} (((ZZ o).map Item.code).toList++k)) cs {Q with heap:=Q.heap.setIfInBounds l (.loop {R with state:=.exhausted})}):=(by refine Steps.head (stepR_rangeFunc he hres hinv) (Steps.trans s1 (Steps.head (step_leave_returned s3) (Steps.head ?_ (.refl _ _))));rw[finish_atR_inRangeFunc];have:=stepR_endRangeFunc (P:=P) (b:=b) (a:={a with defers:=y++a.defers}) (k:=k) (cs:=cs) (xo4 J hbusy);rw[<-hjump];exact this);refine⟨{a with defers:=y++a.defers},E3,_,⟨⟨g1,n.tm.past hL.past,?_,fN n.u C.next,?_,n.kind,λlr hlr=>?_,?_⟩,hM,uY _⟩,?_⟩
 .refine(M.later k1 C.later).set g2 g4 λp F blk' Z=>?_
  obtain⟨b0,e0,hlt⟩:=D5 n.sim n.hs p F;have:=C.later.η _ _ _ (O.η _ _ _ e0);rw[Z]at this;cases this;omega
 .intro id t hn hi;show id.2.1<s.fc+1;rcases C.dom id t hn with ⟨v0,K⟩|K
  .by_cases e:id=(c.u,s.fc,1)
   .rw[e];exact mH _
   .rw[k4 id v0 e]at K;have:=n.used id v0 K hi;omega
  .have:=n.u;simp only at K;omega
 .obtain⟨r0,hr0⟩:=n.round lr hlr;have hlt:=D6 hr0;obtain⟨ra,q1,_⟩:=O.lsh _ _ hr0;obtain⟨R,q2,_⟩:=C.later.lsh _ _ q1;exact⟨R,by rw[g4 lr (by omega)];exact q2⟩
 .exact((k6.later k1 C.later)).set J g4
 .cases o with
  |normal=>exact hto
  |exit i=>exact⟨k,rfl,hto⟩
  |ret=>exact⟨k,hto⟩
def xpu(hc:kH P call)(A:∀c K s o s',low c K s=some (o,s')->tF P c K s o s'):xhv P low call:=by
 intro pol f ps d y c s s' o h b a E w lim k cs it hit hl j;obtain rfl:it=.code (.rangeFunc f ps d y):=hit.elim (λh=>h) λ⟨_,e,_⟩=>(by cases e);simp only[gF]at h;split at h
 .rename_i g caps R;split at h
  .split at h
   .rename_i r H m;split at h
    .rename_i W;cases h;exact xbu hc A R m W (.inl ⟨rfl,rfl⟩) b a E w lim k cs _ (.inl rfl) hl j
    .rename_i o' W;cases h;exact xbu hc A R m W (.inr rfl) b a E w lim k cs _ (.inl rfl) hl j
    .cases h
   .cases h
  split at h
  .rename_i r H m;cases h;have hV:=j.tm.ev (a:=a) f;rw[R]at hV;have hfr:∀n,E.η (c.u,s.fc,0) n=none:=λn=>by
    cases he:E.η (c.u,s.fc,0) n with
    |none=>rfl
    |some x=>have:=j.used _ n (by rw[he];simp) rfl;simp at this
   obtain⟨l,D,M,E2,he,k1,N,k3,k4,k5,k6,rec,⟨r1,r2,r3,r4,r5,r6⟩,k7⟩:=x11 (ps:=ps) (assign:=d) (body:=y) j hl (id:=(c.u,s.fc,0)) j.u hfr;obtain⟨J,hev,hcl,hcv⟩:=G0 (hV.later N);have L:=j.hs.later j.sim N;have hHs:HsOK P (((c.u,s.fc,0),aw low c ps d y s.sl)::c.hs) E2 M:=by
    refine⟨L,l,rec,k3,by unfold Rec;rw[aF rfl];exact k7,r1,r2,λp C blk' Q=>?_,λE1 w1 st args vs H h1 h2 h3 h4 h5 h6=>?_⟩
    .obtain⟨b0,e0,X⟩:=D5 j.sim j.hs p C;have:=N.η _ _ _ e0;rw[Q]at this;cases this;omega
    .have h4':Held E1 w1 l (.loop rec):=(by unfold Rec at h4;rwa[aF rfl]at h4);refine xo8 (E0:=E2) (w0:=M) (sl:=s.sl) A (by rw[r3];exact j.tm.past N.past) r1 r2 (λp C=>?_) h1 h2 h3 h4' h5 (by rw[r4,r5,r6];exact h6);obtain⟨b0,e0,X⟩:=D5 j.sim j.hs p C;exact⟨b0,N.η _ _ _ e0,by omega⟩
   have hA:ArgsV E2 M (.yld (c.u,s.fc,0)::caps) (#[.func (.yield l) #[] #[]]++J):=by
    refine⟨by simp[hcl];omega,λi a v ha Y=>?_⟩;cases i with
    |zero=>rw[VT (by simp)]at Y;simp at ha Y;subst ha Y;exact .yld _ l k3
    |succ i=>simp at ha;obtain⟨v',hv',hVV⟩:=hcv i a ha;rw[xje (by simp)]at Y;simp[hv']at Y;subst Y;exact hVV
   obtain⟨hfn0,hgo⟩:=hc _ g _ s.st r H m E2 M _ k1 hA hHs;have hfn:kG P g:=by
    rcases hfn0 with h|h
    .exact h
    .simp[o7,dO]at h
   obtain⟨E3,Z,u,hAr,s4,F⟩:=hgo (b.atR {a with defers:=D++a.defers} (.inRangeFunc l::k)::cs);obtain⟨fr',s1,s2,s3⟩:=hAr.elim (λh=>h.2) λh=>absurd hfn h.1
   have hres:(resolve a.eval (rangeCall f l) 0).run P M=.ok {target:=.fn (.func g) J,args:=#[.func (.yield l) #[] #[]]} M:=by
    have hcc:∀v:Value,a.eval (.const v)=v:=λ_=>rfl
    simp[resolve,hev,Deferred.ofValue,hcc]
   have hinv:(invoke (.fn (.func g) J) #[.func (.yield l) #[] #[]]).run P M=.ok (.enter g (#[.func (.yield l) #[] #[]]++J)) M:=(by simp only[invoke];exact IW hfn);have k7':=k7.later k1 F.later;obtain⟨g1,g2,g3,g4⟩:=k7'.set F.sim (w':={Z with heap:=Z.heap.setIfInBounds l (.loop {rec with state:=.exhausted})}) rfl (by intro c t f e;cases e) (by intro c t f e;cases e);have hL:=(N.trans F.later).set (w4:={Z with heap:=Z.heap.setIfInBounds l (.loop {rec with state:=.exhausted})}) k5 (by simp) g4;have hM:Moved E w s.st c.u (s.fc<=·) E3 {Z with heap:=Z.heap.setIfInBounds l (.loop {rec with state:=.exhausted})} H:=by
    refine⟨g1,hL,F.next,λid n hn=>?_⟩;rcases F.dom id n hn with ⟨v0,O⟩|O
    .by_cases e:id=(c.u,s.fc,0)
     .exact .inr (.inr ⟨by rw[e],by rw[e];exact bO _⟩)
     .rw[k4 id v0 e]at O;exact .inl ⟨v0,O⟩
    .exact .inr (.inl O)
   refine⟨{a with defers:=D++a.defers},E3,_,⟨⟨g1,j.tm.past hL.past,?_,fN j.u F.next,?_,j.kind,λlr hlr=>?_,?_⟩,hM,uY _⟩,?_⟩
   .refine(L.later k1 F.later).set g2 g4 λp C blk' Q=>?_
    obtain⟨b0,e0,X⟩:=D5 j.sim j.hs p C;have:=F.later.η _ _ _ (N.η _ _ _ e0);rw[Q]at this;cases this;omega
   .intro id n hn hi;show id.2.1<s.fc+1;rcases F.dom id n hn with ⟨v0,O⟩|O
    .by_cases e:id=(c.u,s.fc,0)
     .rw[e];exact mH _
     .rw[k4 id v0 e]at O;have:=j.used id v0 O hi;omega
    .have:=j.u;omega
   .obtain⟨r0,hr0⟩:=j.round lr hlr;have X:=D6 hr0;obtain⟨ra,q1,_⟩:=N.lsh _ _ hr0;obtain⟨rb,q2,_⟩:=F.later.lsh _ _ q1;exact⟨rb,by rw[g4 lr (by omega)];exact q2⟩
   .exact((k6.later k1 F.later)).set k7'.2.2 g4
   .refine Steps.head (stepR_rangeFunc he hres hinv) (Steps.trans s1 (Steps.head (step_leave_returned s3) (Steps.head ?_ (.refl _ _))));rw[finish_atR_inRangeFunc];have:=stepR_endRangeFunc (P:=P) (b:=b) (a:={a with defers:=D++a.defers}) (k:=k) (cs:=cs) (xo5 k7'.2.2 r1 r2);simpa using this
  .cases h
 .cases h
def xd8{pol:Pol}(e:G1 P pol)(f:FO P pol):∀(n:Nat) (c:Ctx) (a:Code) (s:S) (o:Out) (d:S),ix P pol n c a s=some (o,d)->tF P c a s o d
 |0,_,_,_,_,_,h=>by simp[ix]at h
 |n+1,c,a,s,o,d,h=>by have b:=xd8 (pol:=pol) e f n;have g:kH P (sK P pol (ix P pol n)):=xg3 e b;exact uU g f b (xpu g b) a h
def xzv{pol:Pol}(a:G1 P pol)(b:FO P pol)(n:Nat):kH P (gH P pol n):=xg3 a (xd8 a b n)
end
end Go.Ix
