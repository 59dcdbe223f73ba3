import Derived.Test.YtjngclcijnpooaaGreatDoorIxA
import Derived.Laws.AppendOwn
import Derived.Lib.UnsafeStr
import Derived.WalkSpells
import Derived.Laws.Pointers
import Derived.IntWalk
set_option linter.all false
namespace Go.Ix
abbrev Eta:=Id->Nat->Option (Nat×Nat×Nat)
def eta0:Eta:=λ_ _=>none
inductive V (F:Nat->Prop) (w:World):Eta->List Nat->AV->Value->Prop where
 |sc {η:Eta} {ζ:List Nat} (v:Value):V F w η ζ (.sc v) v
 |agg {η:Eta} {ζ:List Nat} (cs:List AV) (vs:Array Value) (hl:vs.size=cs.length)
  (h:∀(i:Nat) (a:AV) (v:Value),cs[i]?=some a->vs[i]?=some v->V F w η ζ a v):V F w η ζ (.agg cs) (.agg vs)
 |tup {η:Eta} {ζ:List Nat} (cs:List AV) (vs:Array Value) (hl:vs.size=cs.length)
  (h:∀(i:Nat) (a:AV) (v:Value),cs[i]?=some a->vs[i]?=some v->V F w η ζ a v):V F w η ζ (.tup cs) (.tuple vs)
 |aN {η:Eta} {ζ:List Nat} (cs:List AV) (n:Nat) (x:Bool) (a:Addr) (cap:Nat) (f:Nat->Value)
  (hc:∀i,i<cs.length->w.cell? ⟨a.block,a.off+i,none⟩=some (f i))
  (h:∀(i:Nat) (b:AV),cs[i]?=some b->V F w eta0 [] b (f i))
  (hF:cs≠[]->F a.block/\a.spot=none) (hn:n<=cap) (hx:x=true->cap=n) (ho:∀i,i<cs.length->(f i).oneCell'=true):V F w η ζ (.aN cs n x) (.slice (some a) n cap)
 |aE {η:Eta} {ζ:List Nat} (cs:List AV) (a:Addr) (f:Nat->Value)
  (hc:∀i,i<cs.length->w.cell? ⟨a.block,a.off+i,none⟩=some (f i))
  (h:∀(i:Nat) (b:AV),cs[i]?=some b->V F w eta0 [] b (f i))
  (hF:cs≠[]->F a.block/\a.spot=none) (ho:∀i,i<cs.length->(f i).oneCell'=true):V F w η ζ (.aE cs) (.pointer (some a))
 |sref {η:Eta} {ζ:List Nat} (id:Id) (ver off n z:Nat) (x:Bool) (blk base len:Nat) (a:Addr) (cap:Nat)
  (hη:η id ver=some (blk,base,len)) (ha:a=⟨blk,base+off,none⟩\/cap=0) (hlen:off+n*z<=len) (hn:n<=cap)
  (hx:(x=true->len<=off+cap*z)/\(x=false->cap=n)) (hs:∃t sz,w.shape? blk=some (t,sz)/\base+off+cap*z<=sz) :
  V F w η ζ (.sref id ver off n z x) (.slice (some a) n cap)
 |ptr {η:Eta} {ζ:List Nat} (id:Id) (ver off:Nat) (blk base len:Nat) (hη:η id ver=some (blk,base,len)) :
  V F w η ζ (.ptr id ver off) (.pointer (some ⟨blk,base+off,none⟩))
 |clo {η:Eta} {ζ:List Nat} (f:FuncId) (cs:List AV) (vs:Array Value) (hl:vs.size=cs.length)
  (h:∀(i:Nat) (a:AV) (v:Value),cs[i]?=some a->vs[i]?=some v->V F w η ζ a v):V F w η ζ (.clo f cs) (.func (.func f) #[] vs)
 |yld {η:Eta} {ζ:List Nat} (id:Id) (blk:Nat) (h:η id 0=some (blk,0,0)):V F w η ζ (.yld id) (.func (.yield blk) #[] #[])
 |mp {η:Eta} {ζ:List Nat} (id:Id) (blk:Nat) (h:η id 0=some (blk,0,0)):V F w η ζ (.mp id) (.map (some blk))
 |un {η:Eta} {ζ:List Nat} (p:Value->Prop) (v:Value) (h:p v) (h1:one1 v):V F w η ζ (.un p) v
structure Ext (G:Nat->Prop) (w w':World):Prop where
 size:w.heap.size<=w'.heap.size
 shape:∀b,b<w.heap.size->w'.shape? b=w.shape? b
 same:∀b,G b->b<w.heap.size->w'.heap[b]?=w.heap[b]?
 os:w'.os=w.os
 out:w'.output=w.output
def Ext.refl(G:Nat->Prop)(w:World):Ext G w w:=⟨bO _,λ_ _=>rfl,λ_ _ _=>rfl,rfl,rfl⟩
def Ext.trans{G G':Nat->Prop}{w w1 w2:World}(h:Ext G w w1)(h':Ext G' w1 w2)(hG:∀b,b<w.heap.size->G b->G' b):Ext G w w2 where
 size:=iQ h.size h'.size
 shape b hb:=(h'.shape b (fN hb h.size)).trans (h.shape b hb)
 same b g hb:=(h'.same b (hG b hb g) (fN hb h.size)).trans (h.same b g hb)
 os:=h'.os.trans h.os
 out:=h'.out.trans h.out
def Ext.kA{G G':Nat->Prop}{w w':World}(h:Ext G w w')(hG:∀b,b<w.heap.size->G' b->G b):Ext G' w w' where
 size:=h.size
 shape:=h.shape
 same b g hb:=h.same b (hG b hb g) hb
 os:=h.os
 out:=h.out
def dc{w:World}{a:Addr}{v:Value}(h:w.cell? a=some v):a.block<w.heap.size:=by
 unfold World.cell? at h;rcases kS a.block w.heap.size with h'|h'
 .exact h'
 .simp[J2 h']at h
def db{w b:World}{a:Addr}(h:b.heap[a.block]?=w.heap[a.block]?):b.cell? a=w.cell? a:=by unfold World.cell?;rw[h]
def tQ{w:World}{b:Nat}{x:TypeId×Nat}(h:w.shape? b=some x):b<w.heap.size:=by
 unfold World.shape? at h;rcases kS b w.heap.size with h'|h'
 .exact h'
 .simp[J2 h']at h
def V.mono{F F':Nat->Prop}{w w':World}(hF:∀b,F b->F' b)(N:Ext F w w'){η:Eta}{ζ:List Nat}{a:AV}{v:Value}(h:V F w η ζ a v) :
    ∀{η':Eta} {ζ':List Nat},(∀id j x,η id j=some x->η' id j=some x)->(∀(l x:Nat),ζ[l]?=some x->ζ'[l]?=some x)->V F' w' η' ζ' a v:=by
 induction h with
 |sc v=>intro _ _ _ _;exact .sc v
 |agg u K L _ y=>intro _ _ d o;exact .agg u K L λi a v A E=>y i a v A E d o
 |tup u K L _ y=>intro _ _ d o;exact .tup u K L λi a v A E=>y i a v A E d o
 |aN u n x a C f R _ e W X Y y=>intro _ _ d o;refine .aN u n x a C f (λi H=>?_) (λi b O=>y i b O (λ_ _ _ h=>h) (λ_ _ h=>h)) (λm=>⟨hF _ (e m).1,(e m).2⟩) W X Y;have:=R i H;rw[<-this];exact db (N.same _ (e (by intro P;simp[P]at H)).1 (dc this))
 |aE u a f R _ e Y y=>intro _ _ d o;refine .aE u a f (λi H=>?_) (λi b O=>y i b O (λ_ _ _ h=>h) (λ_ _ h=>h)) (λm=>⟨hF _ (e m).1,(e m).2⟩) Y;have:=R i H;rw[<-this];exact db (N.same _ (e (by intro P;simp[P]at H)).1 (dc this))
 |sref id j D n z x g r len a C hη A M W X Z=>intro _ _ d o;obtain⟨t,sz,J,Q⟩:=Z;exact .sref id j D n z x g r len a C (d _ _ _ hη) A M W X ⟨t,sz,by rw[N.shape _ (tQ J)];exact J,Q⟩
 |ptr id j D g r len hη=>intro _ _ d o;exact .ptr id j D g r len (d _ _ _ hη)
 |clo f u K L _ y=>intro _ _ d o;exact .clo f u K L λi a v A E=>y i a v A E d o
 |yld l g h=>intro _ _ d o;exact .yld l g (d _ _ _ h)
 |mp id g h=>intro _ _ d o;exact .mp id g (d _ _ _ h)
 |un p v h d=>intro _ _ _ _;exact .un p v h d
structure Env where
 η:Eta
 F:Nat->Prop
 O:Nat->Option Id
 X:Nat->Prop
 ζ:List Nat×(World->Prop)
def Env.V(E:Env)(w:World):AV->Value->Prop:=Ix.V E.F w E.η E.ζ.1
def Env.G(E:Env)(b:Nat):Prop:=E.F b\/E.X b
def lN(r:Loop):Loop:={r with state:=match r.state with | .done=>.ready|s=>s,pending:=none}
def Lsh(w d:World):Prop:=∀(b:Nat) (r:Loop),w.heap[b]?=some (.loop r)->∃a:Loop,d.heap[b]?=some (.loop a)/\lN a=lN r
def ZZ:Out->Option Code
 | .normal=>none
 | .exit i=>some (.exit i)
 | .ret=>some .ret
def eg:Option Out->Loop->Prop
 |none,r=>r.state≠.done/\r.pending=none
 |some o,r=>r.state≠.ready/\r.pending=ZZ o
def Lsh.refl(w:World):Lsh w w:=λ_ r h=>⟨r,h,rfl⟩
def Lsh.trans{w a d:World}(h:Lsh w a)(f:Lsh a d):Lsh w d:=λb r e=>by obtain⟨g,i,j⟩:=h b r e;obtain⟨l,m,n⟩:=f b g i;exact⟨l,m,n.trans j⟩
def D6{w:World}{b:Nat}{o:Obj}(h:w.heap[b]?=some o):b<w.heap.size:=(VS.1 h).1
def Lsh.of_same{w a:World}(h:∀b,b<w.heap.size->a.heap[b]?=w.heap[b]?):Lsh w a:=λb r e=>⟨r,by rw[h b (D6 e)];exact e,rfl⟩
def Lsh.of_heap{w a:World}(h:a.heap=w.heap):Lsh w a:=.of_same λb _=>by rw[h]
def Lsh.of_one{w d:World}{a:Nat}{o:Obj}(f:w.heap[a]?=some o)(g:∀r,o≠.loop r)(h:∀b,b≠a->d.heap[b]?=w.heap[b]?):Lsh w d:=λb r e=>by refine⟨r,?_,rfl⟩;rw[h b (λx=>by subst x;rw[f]at e;exact g r (pR e))];exact e
def Szd(a:Array MapEntry)(b n:Nat):Prop:=a.size=n/\(∀x∈a.toList,x.born<b)/\(a.toList.map (·.born)).Nodup
def Bow(w:World)(e:TypeId)(v:Value)(l:List UInt8):Prop:=w.ownsRow 0 e 1 v l.length (Lib.byteCells l)/\(l=[]->v=.slice none 0 0)
def Bow.keep{w b:World}{e:TypeId}{v:Value}{l:List UInt8}(h:Bow w e v l)(d:∀g,v.ownBlock=some g->b.heap[g]?=w.heap[g]?):Bow b e v l:=by
 obtain⟨⟨f,a⟩,i⟩:=h;refine⟨⟨f,?_⟩,i⟩;rcases a with a|⟨g,cap,cur,e1,e2,e3,e4⟩
 .exact .inl a
 .exact .inr ⟨g,cap,cur,e1,e2,by rw[d g (by rw[e1];rfl)];exact e3,e4⟩
def ObOK(E:Env)(w:World)(id:Id):Ob->Prop
 | .lp d=>∃b r,E.η id 0=some (b,0,0)/\(∀f,0<f->E.η id f=none)/\w.heap[b]?=some (.loop r)/\E.O b=some id/\eg d r
 | .row x u fr=>∃b h o t,E.η id u=some (b,h,x.length)/\(∀f,u<f->E.η id f=none)/\w.heap[b]?=some (.cells o t (0,0)) /\
  h+x.length<=o.size/\(∀i a,x[i]?=some a->∃v,o[h+i]?=some v/\E.V w a v/\v.oneCell'=true)/\(if fr then E.F b else E.O b=some id)
 | .map y=>∃b j n,E.η id 0=some (b,0,0)/\(∀f,0<f->E.η id f=none)/\w.heap[b]?=some (.map j n)/\Szd j n y.length /\
  (∀(i:Nat) (e:Value×AV) (m:MapEntry),y[i]?=some e->j[i]?=some m->m.key=e.1/\E.V w e.2 m.val)/\E.O b=some id
 | .bld t e l=>∃b p v,E.η id 0=some (b,0,2)/\(∀f,0<f->E.η id f=none)/\w.heap[b]?=some (.cells #[p,v] t (0,0))/\(p=.pointer none\/p=.pointer (some ⟨b,0,none⟩))/\Bow w e v l /\
  v.ownBlock≠some b/\E.O b=some id/\∀g,v.ownBlock=some g->E.O g=some id
structure Sim (E:Env) (w:World) (st:St):Prop where
 obj:∀id o,st.aC id=some o->ObOK E w id o
 dom:∀id ver x,E.η id ver=some x->id.1<st.next
 own:∀b id,E.O b=some id->¬E.F b/\¬E.X b/\b<w.heap.size
 fin:∀b,E.G b->b<w.heap.size
 gl:∀w',Ext E.F w w'->E.ζ.2 w'
structure Later (E:Env) (w:World) (E':Env) (w':World):Prop where
 η:∀id ver x,E.η id ver=some x->E'.η id ver=some x
 F:∀b,E.F b->E'.F b
 newF:∀b,E'.F b->E.F b\/w.heap.size<=b\/E.O b≠none
 newO:∀b id,E'.O b=some id->E.O b=some id\/w.heap.size<=b
 X:∀b,E.X b->E'.X b
 newX:∀b,E'.X b->E.X b\/w.heap.size<=b
 ζ:E'.ζ=E.ζ
 ext:Ext E.G w w'
 lsh:Lsh w w'
 lock:∀id ver x,E.η id ver=some x->(∀v,ver<v->E.η id v=none)->E.G x.1->∀v,E'.η id v=E.η id v
def Later.refl(E:Env)(w:World):Later E w E w:=
 ⟨λ_ _ _ h=>h,λ_ h=>h,λ_ h=>.inl h,λ_ _ h=>.inl h,λ_ h=>h,λ_ h=>.inl h,rfl,Ext.refl _ _,Lsh.refl _,λ_ _ _ _ _ _ _=>rfl⟩
def Later.trans{E E1 E2:Env}{w w1 w2:World}(h:Later E w E1 w1)(h':Later E1 w1 E2 w2):Later E w E2 w2 where
 η id ver x e:=h'.η _ _ _ (h.η _ _ _ e)
 F b e:=h'.F b (h.F b e)
 newF b e:=by
  rcases h'.newF b e with h1|h1|h1
  .exact h.newF b h1
  .exact .inr (.inl (iQ h.ext.size h1))
  .cases ho:E1.O b with
   |none=>exact absurd ho h1
   |some id=>rcases h.newO b id ho with h2|h2
             .exact .inr (.inr (by rw[h2];simp))
             .exact .inr (.inl h2)
 newO b id e:=by
  rcases h'.newO b id e with h1|h1
  .exact h.newO b id h1
  .exact .inr (iQ h.ext.size h1)
 X b e:=h'.X b (h.X b e)
 newX b e:=by
  rcases h'.newX b e with h1|h1
  .exact h.newX b h1
  .exact .inr (iQ h.ext.size h1)
 ζ:=h'.ζ.trans h.ζ
 ext:=h.ext.trans h'.ext λb _ g=>by
  rcases g with g|g
  .exact .inl (h.F b g)
  .exact .inr (h.X b g)
 lsh:=h.lsh.trans h'.lsh
 lock id ver x e ht g v:=by
  have h1:=h.lock id ver x e ht g
  rw[<-h1 v]
  refine h'.lock id ver x (by rw[h1];exact e) (λv hv=>by rw[h1];exact ht v hv) ?_ v
  rcases g with g|g
  .exact .inl (h.F _ g)
  .exact .inr (h.X _ g)
def Sim.gl2{E a:Env}{w e:World}{st:St}(f:Sim E w st)(i:∀b,E.F b->a.F b)(j:a.ζ=E.ζ)(l:Ext E.F w e):∀d,Ext a.F e d->a.ζ.2 d:=λd h=>by rw[j];exact f.gl d (l.trans h λb _ g=>i b g)
def Later.gl{E d:Env}{w e:World}{st:St}(l:Later E w d e)(f:Sim E w st):∀a,Ext d.F e a->d.ζ.2 a:=λa h=>by rw[l.ζ];exact f.gl a ((l.ext.kA λ_ _ g=>.inl g).trans h λb _ g=>l.F b g)
def Env.V.later{E b:Env}{w d:World}{a:AV}{v:Value}(h:E.V w a v)(l:Later E w b d):b.V d a v:=
 Ix.V.mono l.F (l.ext.kA λ_ _ g=>.inl g) h l.η (λ_ _ e=>by rw[l.ζ];exact e)
def FJ{F:Nat->Prop}{w:World}{η:Eta}{ζ:List Nat}(v:Value):V F w η ζ (fJ v) v:=by
 cases v with
 |agg f=>
  refine .agg _ _ (by simp) λi a v b e=>?_
  simp at b;obtain⟨u,d,rfl⟩:=b;rw[e]at d;cases d;exact .sc _
 |tuple f=>
  refine .tup _ _ (by simp) λi a v b e=>?_
  simp at b;obtain⟨u,d,rfl⟩:=b;rw[e]at d;cases d;exact .sc _
 |_=>exact .sc _
def dv{F:Nat->Prop}{w:World}{η:Eta}{ζ:List Nat}{l:List Value}{i:Nat}{a:AV}(h:(l.map AV.sc)[i]?=some a):∃v,l[i]?=some v/\V F w η ζ a v:=by simp at h;obtain⟨u,b,rfl⟩:=h;exact⟨u,b,.sc _⟩
def xau:∀{b:List AV} {l:List Value},L3 b=some l->b=l.map .sc
 |[],_,h=>by simp[L3]at h;subst h;rfl
 |a::b,l,h=>by
  cases a with
  |sc v=>
   simp only[L3]at h;split at h
   .rename_i e d;cases h;rw[xau d];rfl
   .cases h
  |_=>simp[L3]at h
def lG{F:Nat->Prop}{w:World}{η:Eta}{ζ:List Nat}{a:AV}{v u:Value}(h:V F w η ζ a v)(b:dO a=some u):v=u:=by
 cases h with
 |sc v=>simp[dO]at b;exact b
 |agg n d j h=>
  simp only[dO]at b;split at b
  .rename_i l Z;cases b;have e:=xau Z;subst e;congr 1;apply VU;intro i;by_cases g:i<l.length
   .have p:i<d.size:=(by rw[j];simpa using g);have m:d[i]?=some d[i]:=(by rw[iZ]);have r:∀(a:AV) (v:Value),a=.sc l[i]->V F w η ζ a v->v=l[i]:=(by intro a v e o;subst e;cases o;rfl);have:=r _ _ rfl (h i (.sc l[i]) d[i] (by simp[g]) m);rw[m,this];simp[g]
   .have:¬i<d.size:=(by rw[j];simpa using g);rw[J2 (by omega)];simp;omega
  .cases b
 |clo f n d j h=>
  cases n with
  |nil=>simp[dO]at b;have:d=#[]:=(by simpa using j);rw[this];exact b
  |cons _ _=>simp[dO]at b
 |_=>simp[dO]at b
def R'{F:Nat->Prop}{w:World}{η:Eta}{ζ:List Nat}:∀{l:List AV} {vs us:List Value},l.length=vs.length->(∀(i:Nat) (a:AV) (v:Value),l[i]?=some a->vs[i]?=some v->V F w η ζ a v)->iL l=some us->vs=us
 |[],vs,us,d,_,b=>by
  simp[iL]at b;cases vs with
  |nil=>exact b.symm
  |cons _ _=>simp at d
 |a::l,vs,us,d,h,b=>by
  cases vs with
  |nil=>simp at d
  |cons v vs=>
   simp only[iL]at b;split at b
   .rename_i u j m e;cases b;have n:=lG (h 0 a v rfl rfl) m;have o:=R' (l:=l) (vs:=vs) (by simpa using d) (λi a v f g=>h (i+1) a v f g) e;rw[n,o]
   .cases b
def vS{P:Program}{α:Type}:∀{s:Sem α} {a:α},bT P s=some a->∀w,s.run P w=.ok a w:=by
 intro s;induction s with
 |pure b=>intro a h w;simp[bT]at h;subst h;rfl
 |program k d=>intro a h w;simp only[bT]at h;simpa[Sem.run]using d P h w
 |mark m k d=>intro a h w;simp only[bT]at h;simpa[Sem.run]using d h w
 |_=>intro a h;simp[bT]at h
def du{F:Nat->Prop}{w:World}{η:Eta}{ζ:List Nat}{a:AV}{v:Value}(h:V F w η ζ a v)(d:a.one=true):v.oneCell'=true:=by
 cases h with
 |un p v h b=>exact b.2.1
 |_=>simp_all [AV.one,Value.oneCell']
def xob{P:Program}{α:Type}:∀{s:Sem α},oU P s->∀w:World,∃v n,s.run P w=.ok v {w with drawn:=n}/\kV P s v:=by
 intro s;induction s with
 |pure a=>intro _ w;exact⟨a,w.drawn,rfl,rfl⟩
 |program k d=>intro h w;exact d P h w
 |mark m k d=>intro h w;exact d h w
 |choose q k d=>
  intro h w;simp only[oU]at h;by_cases b:q.forced=true
  .rw[aF b]at h;obtain⟨v,n,e,f⟩:=d 0 h w;exact⟨v,n,by simpa[Sem.run,b]using e,by simpa[kV,b]using f⟩
  .rw[aB b]at h;obtain⟨v,n,e,f⟩:=d _ (h (w.tape w.drawn q)) {w with drawn:=w.drawn+1};refine⟨v,n,by simpa[Sem.run,b]using e,?_⟩;simp only[kV,b];exact⟨_,f⟩
 |_=>intro h;exact absurd h (by simp[oU])
def xf5{F:Nat->Prop}{w:World}{η:Eta}{ζ:List Nat}:∀{l:List AV} {f d:List Value},kQ l f->l.length=d.length->(∀(i:Nat) (a:AV) (u:Value),l[i]?=some a->d[i]?=some u->V F w η ζ a u)->kQ l d
 |[],_,[],_,_,_=>trivial
 |[],_,_::_,_,b,_=>by simp at b
 |_::_,_,[],_,b,_=>by simp at b
 |a::l,[],_::_,h,_,_=>h.elim
 |a::l,v::f,u::d,h,b,j=>by
  refine⟨?_,xf5 h.2 (by simpa using b) λi a u m n=>j (i+1) a u m n⟩;have g:=j 0 a u rfl rfl;have o:=h.1;cases a with
  |un p=>cases g with|un _ _ r _=>exact r
  |_=>have e:dO _=some v:=o;rw[lG g e];exact e
def xf4:∀{l:List AV} {b:List Value},kQ l b->l.all o7=true
 |[],[],_=>rfl
 |[],_::_,h=>h.elim
 |_::_,[],h=>h.elim
 |a::l,v::b,h=>by
  rw[dP,xf4 h.2,xF];have d:=h.1;cases a with
  |un p=>rfl
  |_=>have e:dO _=some v:=d;simp only[o7];rw[e];rfl
def P':∀{l:List AV} {d:List Value},iL l=some d->l.all o7=true
 |[],_,_=>rfl
 |a::l,d,h=>by
  simp only[iL]at h;split at h
  .rename_i u e f b;rw[dP,P' b,xF];cases a with
   |un p=>rfl
   |_=>simp only[o7];rw[f];rfl
  .cases h
def x3i{F:Nat->Prop}{w:World}{η:Eta}{ζ:List Nat}{q:Value->Prop}{u:Value}{r:AV}(a:FC q=some r)(h:q u):V F w η ζ r u:=by
 unfold FC at a;split at a
 .rename_i b;cases a;rw[<-Classical.choose_spec b u h];exact .sc u
 .split at a
  .rename_i d;cases a;exact .un q u h (d u h)
  .cases a
def xhm{P:Program}{l:List AV}{s:List Value->Sem Value}{v:AV}(h:tB P l s=some v):(∃f,kQ l f)/\∀(F:Nat->Prop) (w:World) (η:Eta) (ζ:List Nat) (b:List Value),l.length=b.length->(∀(i:Nat) (a:AV) (u:Value),l[i]?=some a->b[i]?=some u->V F w η ζ a u) ->
    ∃u n,(s b).run P w=.ok u {w with drawn:=n}/\∀(g:Nat->Prop) (j:World) (η':Eta) (ζ':List Nat),V g j η' ζ' v u:=by
 unfold tB at h;split at h
 .rename_i p;obtain⟨⟨f,e⟩,r⟩:=p;refine⟨⟨f,e⟩,λF w η ζ b m o=>?_⟩;have d:=xf5 e m o;obtain⟨u,n,t,x⟩:=xob (r b d) w;exact⟨u,n,t,λ_ _ _ _=>x3i h ⟨b,d,x⟩⟩
 .cases h
def dx{F:Nat->Prop}{w:World}{η:Eta}{ζ:List Nat}{a:AV}{v:Value}(h:V F w η ζ a v):v.cells.size=a.cells.length/\∀(i:Nat) (b:AV),a.cells[i]?=some b->∃u,v.cells[i]?=some u/\V F w η ζ b u:=by
 have one:∀{a:AV} {v:Value},V F w η ζ a v->v.cells=#[v]->a.cells=[a]->v.cells.size=a.cells.length/\∀(i:Nat) (b:AV),a.cells[i]?=some b->∃u,v.cells[i]?=some u/\V F w η ζ b u:=by
  intro a v h N O;rw[N,O];refine⟨rfl,λi b g=>?_⟩;cases i with
  |zero=>simp at g;subst g;exact⟨v,rfl,h⟩
  |succ i=>simp at g
 cases h with
 |sc v=>refine⟨by simp[AV.cells],λi b g=>?_⟩;simp only[AV.cells]at g;obtain⟨u,P,Q⟩:=dv (F:=F) (w:=w) (η:=η) (ζ:=ζ) g;exact⟨u,by simpa using P,Q⟩
 |agg cs j y h=>refine⟨y,λi b g=>?_⟩;have L:i<j.size:=(by rw[y];exact(lC.1 g).1);exact⟨j[i],by simp[Value.cells,L],h i b j[i] g (by simp[L])⟩
 |tup cs j y h=>exact one (.tup cs j y h) rfl rfl
 |aN cs n x a m f C h D E H J=>exact one (.aN cs n x a m f C h D E H J) rfl rfl
 |aE cs a f C h D J=>exact one (.aE cs a f C h D J) rfl rfl
 |sref id o r n z x d e len a m K R A E H Z=>exact one (.sref id o r n z x d e len a m K R A E H Z) rfl rfl
 |ptr id o r d e len K=>exact one (.ptr id o r d e len K) rfl rfl
 |clo f cs j y h=>exact one (.clo f cs j y h) rfl rfl
 |yld l d h=>exact one (.yld l d h) rfl rfl
 |mp id d h=>exact one (.mp id d h) rfl rfl
 |un p v h M=>exact one (.un p v h M) M.1 rfl
def zP{b o n:Nat}:(Addr.mk b o none).add n=⟨b,o+n,none⟩:=by
 unfold Addr.add;split
 .rename_i h;subst h;rfl
 .rfl
def xbe{P:Program}{w:World}{b o:Nat}{f:Nat->Value}:∀(n i:Nat) (a:Array Value),(∀j,j<n->w.cell? ⟨b,o+(i+j),none⟩=some (f (i+j))) ->
    (loadCellsFrom ⟨b,o,none⟩ i n a).run P w=.ok (a++(Array.ofFn (n:=n) λk=>f (i+k))) w
 |0,i,a,_=>by simp[loadCellsFrom]
 |n+1,i,a,h=>by
  have d:=h 0 (by omega);simp only[uZ]at d;simp only[loadCellsFrom,Sem.run_bind,zP,run_load,d,Result.andThen_ok]
  rw[xbe n (i+1) (a.push (f i)) (λj e=>by
   have:=h (j+1) (by omega)
   rw[show i+1+j=i+(j+1)from by omega];exact this)]
  congr 1;apply xk;simp[List.ofFn_succ,oG,ef 1]
def xbf{P:Program}{w:World}{b o:Nat}{f:Nat->Value}{n:Nat}(h:∀j,j<n->w.cell? ⟨b,o+j,none⟩=some (f j)) :
    (loadCells ⟨b,o,none⟩ n).run P w=.ok (Array.ofFn (n:=n) λk=>f k) w:=by
 have:=xbe (P:=P) (w:=w) (b:=b) (o:=o) (f:=f) n 0 #[] (λj a=>by simpa using h j a);simpa[loadCells]using this
def eC{P:Program}{w:World}{t:TypeId}{d:TypeDesc}(h:P.underlying t=some d):(underlying t).run P w=.ok d w:=by simp[underlying,h]
def L8{P:Program}{w:World}{t:TypeId}{i:TypeInfo}(h:P.info? t=some i):(typeInfo t).run P w=.ok i w:=by simp[typeInfo,h]
def kL{P:Program}{w:World}{t:TypeId}{i:TypeInfo}(h:P.info? t=some i):(sizeOf t).run P w=.ok i.size w:=by simp[sizeOf,L8 h]
def II{P:Program}{t:TypeId}{g:Bool}{z:Nat}(h:ty P t=some (g,z)):(∀w,(isAgg t).run P w=.ok g w)/\∀w,(sizeOf t).run P w=.ok z w:=by
 unfold ty at h;split at h;all_goals first
  |(rename_i d i a b
    simp only[bN,bF]at h
    obtain⟨rfl,rfl⟩:=h
    refine⟨λw=>?_,λw=>kL b⟩
    simp only[isAgg,Sem.run_bind,eC a,Result.andThen_ok]
    rfl)
  |(rename_i d i e f a b
    simp only[bN,bF]at h
    obtain⟨rfl,rfl⟩:=h
    refine⟨λw=>?_,λw=>kL b⟩
    simp only[isAgg,Sem.run_bind,eC a,Result.andThen_ok]
    cases d<;>first|rfl|exact absurd rfl (e _)|exact absurd rfl (f _ _))
  |cases h
def YR{P:Program}{F:Nat->Prop}{w:World}{η:Eta}{ζ:List Nat}{t:TypeId}{g:Bool}{z:Nat}(J:ty P t=some (g,z)){p:List AV}{b o:Nat}{r:AV}(l:rd g z p=some r)(E:∀(i:Nat) (a:AV),p[i]?=some a->∃v,w.cell? ⟨b,o+i,none⟩=some v/\V F w η ζ a v) :
    ∃v,(loadVar t ⟨b,o,none⟩).run P w=.ok v w/\V F w η ζ r v:=by
 obtain⟨x,L⟩:=II J;unfold rd at l;cases g with
 |false=>simp only[fH,cT]at l;have:p[0]?=some r:=(by rw[<-List.head?_eq_getElem?];exact l);obtain⟨v,d,D⟩:=E 0 r this;refine⟨v,?_,D⟩;simp only[uZ]at d;simp[loadVar,x,d]
 |true=>
  simp only[cM]at l;split at l
  .rename_i K;cases l;have A:∀j:Nat,∃v:Value,j<z->w.cell? ⟨b,o+j,none⟩=some v/\∀a,p[j]?=some a->V F w η ζ a v:=by
    intro j;by_cases y:j<z
    .obtain⟨v,d,D⟩:=E j p[j] (by simp[show j<p.length from by omega]);exact⟨v,λ_=>⟨d,λa x=>by rw[eJ (by omega)]at x;cases x;exact D⟩⟩
    .exact⟨undef,λh=>absurd h y⟩
   obtain⟨f,H⟩:=Classical.axiomOfChoice A;refine⟨.agg (Array.ofFn (n:=z) λk=>f k),?_,.agg _ _ (by simp;omega) λi a v m d=>?_⟩
   .simp only[loadVar,Sem.run_bind,x,L,Result.andThen_ok,cM,xbf (f:=f) (λj y=>(H j y).1),Sem.run_pure]
   .have C:i<z:=by
     rcases kS i z with h|h
     .exact h
     .rw[J2 (by simp;omega)]at d;cases d
    have e:f i=v:=(by rw[iZ (by simpa using C)]at d;simpa using d);rw[<-e];refine(H i C).2 a ?_;rw[H0]at m;rw[aF C]at m;exact m
  .cases l
def BP{w:World}{b j:Nat}{a:Array Value}{t:TypeId}{d:Nat×Nat}(h:w.heap[b]?=some (.cells a t d)):w.cell? ⟨b,j,none⟩=a[j]?:=by simp[World.cell?,h]
def xo0{P:Program}{w:World}{b o:Nat}{a:Array Value}{t:TypeId}{v:Value}(h:w.heap[b]?=some (.cells a t (0,0)))(g:o<a.size)(j:v.oneCell'=true) :
    ∃d,(store ⟨b,o,none⟩ v).run P w=.ok () d/\d.heap=w.heap.setIfInBounds b (.cells (a.setIfInBounds o v) t (0,0))/\d.os=w.os/\d.output=w.output:=by
 refine⟨w.setCell ⟨b,o,none⟩ v,?_,?_,rfl,rfl⟩
 .rw[run_store P w _ v _ j];have:w.cell? ⟨b,o,none⟩=some a[o]:=(by rw[BP h];simp[g]);simp[this,World.frozen?,h]
 .have e:b<w.heap.size:=by
   rcases kS b w.heap.size with h'|h'
   .exact h'
   .simp[J2 h']at h
  have l:w.heap[b]=.cells a t (0,0):=(by rw[iZ e]at h;exact pR h);apply VU;intro i;simp only[World.setCell,xi,xjc];by_cases f:b=i
  .subst f;simp[e,l]
  .simp[f]
def YG{P:Program}{b o:Nat}{t:TypeId}:∀(f:List Value) (i:Nat) (w:World) (a:Array Value),w.heap[b]?=some (.cells a t (0,0))->o+i+f.length<=a.size->(∀v∈f,v.oneCell'=true) ->
    ∃n d,(storeCells ⟨b,o,none⟩ f i).run P w=.ok () n/\n.heap=w.heap.setIfInBounds b (.cells d t (0,0))/\d.size=a.size /\
     (∀j,d[j]?=if o+i<=j/\j<o+i+f.length then f[j-(o+i)]? else a[j]?)/\n.os=w.os/\n.output=w.output
 |[],i,w,a,h,_,_=>by
  refine⟨w,a,rfl,?_,rfl,λj=>?_,rfl,rfl⟩
  .apply VU;intro k;rw[xjc];split
   .rename_i e;subst e;have p:b<w.heap.size:=by
     rcases kS b w.heap.size with h'|h'
     .exact h'
     .simp[J2 h']at h
    rw[aF p];exact h
   .rfl
  .rw[aB (by simp only[gY];omega)]
 |v::f,i,w,a,h,Q,H=>by
  simp only[dN]at Q;obtain⟨K,L,g,r,x⟩:=xo0 (P:=P) (o:=o+i) h (by omega) (H v (by simp));have p:b<w.heap.size:=by
   rcases kS b w.heap.size with h'|h'
   .exact h'
   .simp[J2 h']at h
  obtain⟨M,l,N,y,A,C,D,E⟩:=YG (P:=P) (b:=b) (o:=o) (t:=t) f (i+1) K (a.setIfInBounds (o+i) v) (by rw[g];simp[p]) (by rw[xjb];omega) (λu J=>H u (by simp[J]));refine⟨M,l,?_,?_,by rw[A];simp,λj=>?_,D.trans r,E.trans x⟩
  .simp only[storeCells,Sem.run_bind,zP,L,Result.andThen_ok,N]
  .rw[y,g];apply VU;intro k;simp only[xjc,xjb];by_cases F:b=k
   .simp[F]
   .simp[F]
  .rw[C j];simp only[dN];by_cases O:j=o+i
   .subst O;rw[aB (by omega),aF (by omega)];simp[show o+i<a.size from by omega]
   .by_cases m:o+(i+1)<=j/\j<o+(i+1)+f.length
    .rw[aF m,aF (by omega)];rw[show j-(o+i)=(j-(o+(i+1)))+1 from by omega];rfl
    .rw[aB m,aB (by omega),tG (by omega)]
def mL{w:World}{b:Nat}{a:Array Value}{t:TypeId}{d:Nat×Nat}(h:w.heap[b]?=some (.cells a t d)):w.shape? b=some (t,a.size):=by simp[World.shape?,h]
def Sim.turn0{E E':Env}{w w':World}{st:St}{id:Id}{o:Ob}(A:Sim E w st)(hid:id.1<st.next)(hη:∀i v x,E.η i v=some x->E'.η i v=some x)(H:∀i v,i≠id->E'.η i v=E.η i v)(R:E'.F=E.F)(hX:E'.X=E.X)(hζ:E'.ζ=E.ζ)(Y:∀b,b<w.heap.size->E'.O b=E.O b)(hO':∀b i,w.heap.size<=b->E'.O b=some i->i=id/\b<w'.heap.size)(hsz:w.heap.size<=w'.heap.size)(hsh:∀b,b<w.heap.size->w'.shape? b=w.shape? b)(n:∀b,b<w.heap.size->E.O b≠some id->w'.heap[b]?=w.heap[b]?)(hob:ObOK E' w' id o)(hos:w'.os=w.os:=by first|assumption|rfl)(hout:w'.output=w.output:=by first|assumption|rfl)(hlk:(∀v,E'.η id v=E.η id v)\/(∀v,E.η id v=none)\/∃cs J,st.aC id=some (.row cs J false):=by first|exact .inl λ_=>rfl|exact .inr (.inl (by assumption))|exact .inr (.inr ⟨_,_,by assumption⟩)) :
    Sim E' w' {st with aC:=bH st.aC id (some o)}/\(Lsh w w'->Later E w E' w'):=by
 have hx:Ext E.G w w':=⟨hsz,hsh,λb g f=>n b f λho=>by
  have:=A.own b id ho
  rcases g with g|g
  .exact this.1 g
  .exact this.2.1 g,hos,hout⟩
 have hl:Lsh w w'->Later E w E' w':=λhls=>by
  refine⟨hη,λb h=>by rw[R];exact h,λb h=>.inl (by rw[<-R];exact h),λb i h=>?_,λb h=>by rw[hX];exact h,λb h=>.inl (by rw[<-hX];exact h),hζ,hx,hls,λi J x e ht g v=>?_⟩
  .rcases kS b w.heap.size with f|f
   .rw[Y b f]at h;exact .inl h
   .exact .inr f
  .by_cases hi:i=id
   .subst hi;rcases hlk with h|h|⟨cs,ver',h⟩
    .exact h v
    .rw[h]at e;cases e
    .exfalso;obtain⟨j,W,arr,t,K,N,P,L,Q,C⟩:=A.obj i _ h;have:J=ver':=by
      rcases Nat.lt_trichotomy J ver' with hv|hv|hv
      .rw[ht _ hv]at K;cases K
      .exact hv
      .rw[N _ hv]at e;cases e
     subst this;rw[K]at e;cases e;simp only[fH,cT]at C;have:=A.own _ _ C;rcases g with g|g
     .exact this.1 g
     .exact this.2.1 g
   .exact H i v hi
 have hVV:∀{a v},E.V w a v->E'.V w' a v:=λh=>V.mono (λb f=>by rw[R];exact f) (hx.kA λ_ _ g=>.inl g) h hη (λ_ _ e=>by rw[hζ];exact e)
 refine⟨⟨?_,?_,?_,?_,A.gl2 (λb h=>by rw[R];exact h) hζ (hx.kA λ_ _ g=>.inl g)⟩,hl⟩
 .intro i o' M;simp only[bH]at M;split at M
  .rename_i e;subst e;cases M;exact hob
  .rename_i u;have hold:=A.obj i o' M;cases o' with
   |row cs J fr=>
    obtain⟨j,W,arr,t,K,N,P,L,Q,C⟩:=hold;have f:j<w.heap.size:=tQ (mL P);have y:E.O j≠some id:=by
     intro e;cases fr with
     |true=>exact(A.own _ _ e).1 C
     |false=>simp at C;rw[C]at e;exact u (pR e)
    refine⟨j,W,arr,t,hη _ _ _ K,λv' D=>by rw[H _ _ u];exact N v' D,by rw[n _ f y];exact P,L,λk a ha=>?_,?_⟩
    .obtain⟨v,hv,hV,ho1⟩:=Q k a ha;exact⟨v,hv,hVV hV,ho1⟩
    .cases fr with
     |true=>simp at C ⊢;rw[R];exact C
     |false=>simp at C ⊢;rw[Y _ f];exact C
   |bld t e l=>
    obtain⟨j,p,v,K,N,P,L,Q,C,h7,h8⟩:=hold;have Z:∀b,E.O b=some i->w'.heap[b]?=w.heap[b]?:=λb f=>n _ (A.own _ _ f).2.2 (by rw[f];intro e;exact u (pR e))
    exact⟨j,p,v,hη _ _ _ K,λv' D=>by rw[H _ _ u];exact N v' D,by rw[Z _ h7];exact P,L,Q.keep λg hg=>Z _ (h8 g hg),C,by rw[Y _ (A.own _ _ h7).2.2];exact h7,λg hg=>by rw[Y _ (A.own _ _ (h8 g hg)).2.2];exact h8 g hg⟩
   |lp d=>obtain⟨j,r,K,N,P,L,Q⟩:=hold;have f:j<w.heap.size:=(A.own _ _ L).2.2;have y:E.O j≠some id:=(by rw[L];intro e;exact u (pR e));exact⟨j,r,hη _ _ _ K,λv' D=>by rw[H _ _ u];exact N v' D,by rw[n _ f y];exact P,by rw[Y _ f];exact L,Q⟩
   |map es=>obtain⟨j,ents,clock,K,N,P,L,Q,C⟩:=hold;have f:j<w.heap.size:=(A.own _ _ C).2.2;have y:E.O j≠some id:=(by rw[C];intro e;exact u (pR e));exact⟨j,ents,clock,hη _ _ _ K,λv' D=>by rw[H _ _ u];exact N v' D,by rw[n _ f y];exact P,L,λk e m he hm=>⟨(Q k e m he hm).1,hVV (Q k e m he hm).2⟩,by rw[Y _ f];exact C⟩
 .intro i v x hx;by_cases hi:i=id
  .subst hi;exact hid
  .rw[H _ _ hi]at hx;exact A.dom _ _ _ hx
 .intro b i f;rcases kS b w.heap.size with h|h
  .rw[Y b h]at f;have:=A.own b i f;rw[R,hX];exact⟨this.1,this.2.1,by omega⟩
  .have:=hO' b i h f;refine⟨λhf=>?_,λhf=>?_,this.2⟩
   .have:=A.fin b (.inl (by rw[<-R];exact hf));omega
   .have:=A.fin b (.inr (by rw[<-hX];exact hf));omega
 .intro b f;have:E.G b:=by
   rcases f with f|f
   .exact .inl (by rw[<-R];exact f)
   .exact .inr (by rw[<-hX];exact f)
  have:=A.fin b this;omega
def Sim.turn{E E':Env}{w w':World}{st:St}{id:Id}{o:Ob}(u:Sim E w st)(e:Lsh w w')(f:id.1<st.next)(y:∀i v x,E.η i v=some x->E'.η i v=some x)(g:∀i v,i≠id->E'.η i v=E.η i v)(A:E'.F=E.F)(C:E'.X=E.X)(D:E'.ζ=E.ζ)(H:∀b,b<w.heap.size->E'.O b=E.O b)(j:∀b i,w.heap.size<=b->E'.O b=some i->i=id/\b<w'.heap.size)(l:w.heap.size<=w'.heap.size)(m:∀b,b<w.heap.size->w'.shape? b=w.shape? b)(a:∀b,b<w.heap.size->E.O b≠some id->w'.heap[b]?=w.heap[b]?)(n:ObOK E' w' id o)(p:w'.os=w.os:=by first|assumption|rfl)(d:w'.output=w.output:=by first|assumption|rfl)(r:(∀v,E'.η id v=E.η id v)\/(∀v,E.η id v=none)\/∃J t,st.aC id=some (.row J t false):=by first|exact .inl λ_=>rfl|exact .inr (.inl (by assumption))|exact .inr (.inr ⟨_,_,by assumption⟩)) :
    Sim E' w' {st with aC:=bH st.aC id (some o)}/\Later E w E' w':=
 let h:=u.turn0 f y g A C D H j l m a n p d r
 ⟨h.1,h.2 e⟩
def V.of_heap{F:Nat->Prop}{w e:World}{η:Eta}{ζ:List Nat}{a:AV}{v:Value}(f:e.heap=w.heap)(h:V F w η ζ a v)(g:e.os=w.os:=by first|assumption|rfl)(d:e.output=w.output:=by first|assumption|rfl):V F e η ζ a v:=
 V.mono (λ_ h=>h) ⟨by rw[f];exact bO _,λb _=>by simp[World.shape?,f],λb _ _=>by rw[f],g,d⟩ h (λ_ _ _ h=>h) (λ_ _ h=>h)
def ObOK.of_heap{E:Env}{w J:World}{id:Id}{o:Ob}(i:J.heap=w.heap)(h:ObOK E w id o)(C:J.os=w.os:=by first|assumption|rfl)(f:J.output=w.output:=by first|assumption|rfl):ObOK E J id o:=by
 cases o with
 |row R Q fr=>obtain⟨b,D,K,t,j,n,u,x,A,F⟩:=h;exact⟨b,D,K,t,j,n,by rw[i];exact u,x,λk a N=>let⟨v,hv,hV,ho⟩:=A k a N;⟨v,hv,V.of_heap i hV C f,ho⟩,F⟩
 |bld t e l=>obtain⟨b,p,v,j,n,u,x,A,F,O,P⟩:=h;exact⟨b,p,v,j,n,by rw[i];exact u,x,A.keep λg _=>by rw[i],F,O,P⟩
 |lp d=>obtain⟨b,r,j,n,u,x⟩:=h;exact⟨b,r,j,n,by rw[i];exact u,x⟩
 |map W=>obtain⟨b,H,y,j,n,u,x,A,F⟩:=h;exact⟨b,H,y,j,n,by rw[i];exact u,x,λk e m L M=>⟨(A k e m L M).1,V.of_heap i (A k e m L M).2 C f⟩,F⟩
def Sim.of_heap{E:Env}{w g:World}{st:St}(d:g.heap=w.heap)(e:Sim E w st)(f:g.os=w.os:=by first|assumption|rfl)(a:g.output=w.output:=by first|assumption|rfl):Sim E g st:=
 ⟨λi o h=>(e.obj i o h).of_heap d f a,e.dom,λb i h=>by rw[d];exact e.own b i h,λb h=>by rw[d];exact e.fin b h,e.gl2 (λ_ h=>h) rfl ⟨by rw[d];exact bO _,λb _=>by simp[World.shape?,d],λb _ _=>by rw[d],f,a⟩⟩
def Later.of_heap{E:Env}{w d:World}(e:d.heap=w.heap)(f:d.os=w.os:=by first|assumption|rfl)(a:d.output=w.output:=by first|assumption|rfl):Later E w E d:=
 ⟨λ_ _ _ h=>h,λ_ h=>h,λ_ h=>.inl h,λ_ _ h=>.inl h,λ_ h=>h,λ_ h=>.inl h,rfl,⟨by rw[e];exact bO _,λb _=>by simp[World.shape?,e],λb _ _=>by rw[e],f,a⟩,.of_heap e,λ_ _ _ _ _ _ _=>rfl⟩
def Sim.fresh{E:Env}{w w':World}{st:St}{id:Id}{n:List AV}{l:Array Value}{t:TypeId}(H:Sim E w st)(A:id.1<st.next)(J:∀D,E.η id D=none)(p:w'.heap=w.heap.push (.cells l t (0,0)))(K:n.length<=l.size)(M:∀(i:Nat) (a:AV),n[i]?=some a->∃v,l[i]?=some v/\E.V w a v/\v.oneCell'=true)(C:w'.os=w.os:=by first|assumption|rfl)(r:w'.output=w.output:=by first|assumption|rfl) :
    ∃j,Sim j w' {st with aC:=bH st.aC id (some (.row n 0 false))}/\Later E w j w'/\j.η id 0=some (w.heap.size,0,n.length)/\(∀i v,i≠id->j.η i v=E.η i v)/\j.ζ=E.ζ:=by
 have d:∀b,b<w.heap.size->w'.heap[b]?=w.heap[b]?:=λb f=>by rw[p,J1 f,iZ f]
 let j:Env:={E with η:=λi v=>if i=id/\v=0 then some (w.heap.size,0,n.length)else E.η i v,O:=λb=>if b=w.heap.size then some id else E.O b}
 have L:∀i v x,E.η i v=some x->j.η i v=some x:=λi v x h=>by
  show(if _ then _ else _)=_;split
  .rename_i e;rw[e.1,J]at h;cases h
  .exact h
 have y:Ext E.G w w':=⟨by rw[p];simp,λb f=>by simp[World.shape?,d b f],λb _ f=>d b f,C,r⟩;have W:∀{a v},E.V w a v->j.V w' a v:=λh=>V.mono (λ_ h=>h) (y.kA λ_ _ g=>.inl g) h L (λ_ _ h=>h)
 obtain⟨X,Y⟩:=H.turn (E':=j) (w':=w') (id:=id) (o:=.row n 0 false) (.of_same d) A L
  (λi v m=>by show(if _ then _ else _)=_;rw[aB (λe=>m e.1)]) rfl rfl rfl
  (λb f=>by show(if _ then _ else _)=_;rw[aB (by omega)])
  (λb i f u=>by
   replace u:(if b=w.heap.size then some id else E.O b)=some i:=u
   split at u
   .rename_i e;cases u;exact⟨rfl,by rw[p];simp;omega⟩
   .have:=(H.own b i u).2.2;omega)
  (by rw[p];simp) (λb f=>by simp[World.shape?,d b f]) (λb f _=>d b f)
  (by
   refine⟨w.heap.size,0,l,t,by show(if _ then _ else _)=_;rw[aF ⟨rfl,rfl⟩],λP Q=>?_,by rw[p];simp,by omega,λi a R=>?_,?_⟩
   .show(if _ then _ else _)=_
    rw[aB (by rintro⟨_,e⟩;omega)];exact J P
   .obtain⟨v,Z,F,ho⟩:=M i a R
    exact⟨v,by simpa using Z,W F,ho⟩
   .simp only[fH,cT];show(if _ then _ else _)=_;rw[aF rfl])
 exact⟨j,X,Y,by show(if _ then _ else _)=_;rw[aF ⟨rfl,rfl⟩],λi v m=>by show(if _ then _ else _)=_;rw[aB (λe=>m e.1)],rfl⟩
section
variable{F:Nat->Prop}{w:World}{η:Eta}{ζ:List Nat}{u:Value}
def kZ{v:Value}(h:V F w η ζ (.sc v) u):u=v:=by cases h;rfl
def LT{d:List AV}(h:V F w η ζ (.agg d) u):∃b:Array Value,u=.agg b/\b.size=d.length/\∀(i:Nat) (a:AV),d[i]?=some a->∃v,b[i]?=some v/\V F w η ζ a v:=by
 cases h with
 |agg _ b g h=>refine⟨b,rfl,g,λi a e=>?_⟩;have f:i<b.size:=(by rw[g];exact(lC.1 e).1);exact⟨b[i],by simp[f],h i a b[i] e (by simp[f])⟩
def dr{d:List AV}(h:V F w η ζ (.tup d) u):∃b:Array Value,u=.tuple b/\b.size=d.length/\∀(i:Nat) (a:AV),d[i]?=some a->∃v,b[i]?=some v/\V F w η ζ a v:=by
 cases h with
 |tup _ b g h=>refine⟨b,rfl,g,λi a e=>?_⟩;have f:i<b.size:=(by rw[g];exact(lC.1 e).1);exact⟨b[i],by simp[f],h i a b[i] e (by simp[f])⟩
def G0{f:FuncId}{d:List AV}(h:V F w η ζ (.clo f d) u):∃b:Array Value,u=.func (.func f) #[] b/\b.size=d.length/\∀(i:Nat) (a:AV),d[i]?=some a->∃v,b[i]?=some v/\V F w η ζ a v:=by
 cases h with
 |clo _ _ b j h=>refine⟨b,rfl,j,λi a e=>?_⟩;have g:i<b.size:=(by rw[j];exact(lC.1 e).1);exact⟨b[i],by simp[g],h i a b[i] e (by simp[g])⟩
def LitAt(F:Nat->Prop)(w:World)(a:Addr)(d:List AV):Prop:=
 (∀(i:Nat) (b:AV),d[i]?=some b->∃v,w.cell? ⟨a.block,a.off+i,none⟩=some v/\V F w eta0 [] b v/\v.oneCell'=true)/\(d≠[]->F a.block/\a.spot=none)
def LitAt.fn{a:Addr}{d:List AV}(h:LitAt F w a d):∃f:Nat->Value,(∀i,i<d.length->w.cell? ⟨a.block,a.off+i,none⟩=some (f i))/\(∀(i:Nat) (b:AV),d[i]?=some b->V F w eta0 [] b (f i))/\∀i,i<d.length->(f i).oneCell'=true:=by
 have m:∀j:Nat,∃v:Value,∀b,d[j]?=some b->w.cell? ⟨a.block,a.off+j,none⟩=some v/\V F w eta0 [] b v/\v.oneCell'=true:=by
  intro j;cases p:d[j]? with
  |none=>exact⟨undef,λb e=>by cases e⟩
  |some b=>obtain⟨v,o⟩:=h.1 j b p;exact⟨v,λr g=>by cases g;exact o⟩
 obtain⟨f,n⟩:=Classical.axiomOfChoice m;exact⟨f,λi l=>(n i d[i] (by simp[l])).1,λi b e=>(n i b e).2.1,λi l=>(n i d[i] (by simp[l])).2.2⟩
def LitAt.drop{a:Addr}{f:List AV}(h:LitAt F w a f)(n:Nat):LitAt F w (a.add n) (f.drop n):=by
 by_cases j:n=0
 .subst j;simpa[Addr.add]using h
 .have e:a.add n={a with off:=a.off+n,spot:=none}:=(by simp[Addr.add,j]);rw[e];refine⟨λi b g=>?_,λd=>⟨(h.2 (by intro l;simp[l]at d)).1,rfl⟩⟩;rw[wZ]at g;obtain⟨v,m⟩:=h.1 _ _ g;exact⟨v,by simpa[oG]using m⟩
def LitAt.take{a:Addr}{f:List AV}(h:LitAt F w a f)(n:Nat):LitAt F w a (f.take n):=by
 refine⟨λi b d=>?_,λe=>h.2 (by intro g;simp[g]at e)⟩;rw[H0]at d;split at d
 .exact h.1 i b d
 .cases d
def LitAt.aN{a:Addr}{d:List AV}(h:LitAt F w a d){n b:Nat}{x:Bool}(e:n<=b)(g:x=true->b=n):V F w η ζ (.aN d n x) (.slice (some a) n b):=by obtain⟨f,i,j,m⟩:=h.fn;exact .aN d n x a b f i j h.2 e g m
def LitAt.aE{a:Addr}{b:List AV}(h:LitAt F w a b):V F w η ζ (.aE b) (.pointer (some a)):=by obtain⟨f,d,e,g⟩:=h.fn;exact .aE b a f d e h.2 g
def uW{g:List AV}{n:Nat}{x:Bool}(h:V F w η ζ (.aN g n x) u):∃a d,u=.slice (some a) n d/\LitAt F w a g/\n<=d/\(x=true->d=n):=by
 cases h with
 |aN _ _ _ a d f j h l m o p=>exact⟨a,d,rfl,⟨λi b e=>⟨f i,j i (lC.1 e).1,h i b e,p i (lC.1 e).1⟩,l⟩,m,o⟩
def LQ{e:List AV}(h:V F w η ζ (.aE e) u):∃a,u=.pointer (some a)/\LitAt F w a e:=by
 cases h with
 |aE _ a f g h j l=>exact⟨a,rfl,⟨λi b d=>⟨f i,g i (lC.1 d).1,h i b d,l i (lC.1 d).1⟩,j⟩⟩
def tD{id:Id}{d e:Nat}(h:V F w η ζ (.ptr id d e) u):∃b a len,η id d=some (b,a,len)/\u=.pointer (some ⟨b,a+e,none⟩):=by
 cases h with
 |ptr _ _ _ b a len f=>exact⟨b,a,len,f,rfl⟩
def xhp{l:Id}(h:V F w η ζ (.yld l) u):∃a,η l 0=some (a,0,0)/\u=.func (.yield a) #[] #[]:=by
 cases h with
 |yld _ a h=>exact⟨a,h,rfl⟩
def LR{id:Id}(h:V F w η ζ (.mp id) u):∃a,η id 0=some (a,0,0)/\u=.map (some a):=by
 cases h with
 |mp _ a h=>exact⟨a,h,rfl⟩
def mG{id:Id}{g e n z:Nat}{x:Bool}(h:V F w η ζ (.sref id g e n z x) u):∃f b len a d,η id g=some (f,b,len)/\u=.slice (some a) n d/\(a=⟨f,b+e,none⟩\/d=0)/\e+n*z<=len/\n<=d /\
    ((x=true->len<=e+d*z)/\(x=false->d=n))/\∃t j,w.shape? f=some (t,j)/\b+e+d*z<=j:=by
 cases h with
 |sref _ _ _ _ _ _ f b len a d l m i o p Z=>exact⟨f,b,len,a,d,l,rfl,m,i,o,p,Z⟩
end
def xU{E:Env}{w:World}{st:St}(m:Sim E w st){id:Id}{g:List AV}{f:Nat}{fr:Bool}{e b len:Nat}(h:st.aC id=some (.row g f fr))(n:E.η id f=some (e,b,len)) :
    len=g.length/\(∀j,f<j->E.η id j=none)/\∃d t,w.heap[e]?=some (.cells d t (0,0))/\b+g.length<=d.size /\
     (∀i a,g[i]?=some a->∃v,d[b+i]?=some v/\E.V w a v/\v.oneCell'=true)/\(if fr then E.F e else E.O e=some id):=by
 obtain⟨y,A,d,t,l,o,p,r,u,x⟩:=m.obj id _ h;rw[n]at l;cases l;exact⟨rfl,o,d,t,p,r,u,x⟩
def Ok(P:Program)(E:Env)(w:World)(st:St)(f:Id)(s:Sem Next)(v:AV)(a:Id->Option Ob):Prop:=
 ∃g u d e,s.run P w=.ok g e/\(g=.value u\/(g=.skip/\u=undef))/\d.V e v u/\Sim d e {st with aC:=a}/\Later E w d e /\
  ∀id b,d.η id b≠none->E.η id b≠none\/id=f\/∃h,E.η id h≠none
section
variable{P:Program}{E:Env}{w:World}{st:St}{id0:Id}{sl:Nat->AV}{ρ:Operand->Value}{o:Oper}{v:AV}{objs':Id->Option Ob}
def Ok.quiet{s:Sem Next}{u:Value}(a:Sim E w st)(b:s.run P w=.ok (.value u) w)(d:E.V w v u)(e:objs'=st.aC):Ok P E w st id0 s v objs':=by subst e;exact⟨_,u,E,w,b,.inl rfl,d,a,.refl _ _,λ_ _ h=>.inl h⟩
def Ok.pure{s:Sem Value}{u:Value}(a:Sim E w st)(b:bT P s=some u):Ok P E w st id0 (do pure (.value (<-s))) (fJ u) st.aC:=
 Ok.quiet a (by simp[vS b]) (FJ u) rfl
def pO{F:Nat->Prop}{η:Eta}{ζ:List Nat}{a:AV}{u:Value}{n:Int}(h:V F w η ζ a u)(b:dL a=some n):∃k,u=.int k n:=by
 cases h with
 |sc v=>cases u<;>simp[dL]at b;rename_i k m;subst b;exact⟨k,rfl⟩
 |_=>simp[dL]at b
def xvd{x:Operand}(d:Sim E w st)(a:∀x:Operand,E.V w (ev sl x) (ρ x))(b:o.op=.move x)(h:aO P id0 o sl st.aC=some (v,objs')):Ok P E w st id0 (execOp ρ o) v objs':=by simp only[aO,b,bN,bF]at h;obtain⟨rfl,rfl⟩:=h;exact .quiet d (by simp[execOp,b]) (a x) rfl
def xvz{x:Operand}(d:Sim E w st)(a:∀x:Operand,E.V w (ev sl x) (ρ x))(b:o.op=.assign x)(h:aO P id0 o sl st.aC=some (v,objs')):Ok P E w st id0 (execOp ρ o) v objs':=by simp only[aO,b,bN,bF]at h;obtain⟨rfl,rfl⟩:=h;exact .quiet d (by simp[execOp,b]) (a x) rfl
def xva{c x y:Operand}(f:Sim E w st)(a:∀x:Operand,E.V w (ev sl x) (ρ x))(b:o.op=.pick c x y)(h:aO P id0 o sl st.aC=some (v,objs')):Ok P E w st id0 (execOp ρ o) v objs':=by
 simp only[aO,b]at h;split at h
 .rename_i t g;simp only[bN,bF]at h;obtain⟨rfl,rfl⟩:=h;have d:=a c;rw[g]at d;have e:=kZ d;refine .quiet (u:=if t then ρ x else ρ y) f ?_ ?_ rfl
  .simp[execOp,b,asBool,e]
  .cases t
   .exact a y
   .exact a x
 .cases h
def Ok.abs{l:List AV}{us:List Value}{s:List Value->Sem Value}{v:AV}(b:Sim E w st)(h:tB P l s=some v)(d:l.length=us.length)(e:∀(i:Nat) (a:AV) (u:Value),l[i]?=some a->us[i]?=some u->E.V w a u):Ok P E w st id0 (do Pure.pure (.value (<-s us))) v st.aC:=by obtain⟨-,f⟩:=xhm h;obtain⟨u,n,g,j⟩:=f _ _ _ _ us d e;exact⟨.value u,u,E,{w with drawn:=n},by simp[g],.inl rfl,j _ _ _ _,Sim.of_heap (w:=w) rfl b,.of_heap rfl,λ_ _ h=>.inl h⟩
def xcf{a:AV}{u:Value}(h:E.V w a u):∀(i:Nat) (b:AV) (v:Value),[a][i]?=some b->[u][i]?=some v->E.V w b v
 |0,_,_,d,e=>by simp at d e;subst d e;exact h
 |i+1,_,_,d,_=>by simp at d
def xmo{a b:AV}{u v:Value}(h:E.V w a u)(k:E.V w b v):∀(i:Nat) (c:AV) (z:Value),[a,b][i]?=some c->[u,v][i]?=some z->E.V w c z
 |0,_,_,d,e=>by simp at d e;subst d e;exact h
 |1,_,_,d,e=>by simp at d e;subst d e;exact k
 |i+2,_,_,d,_=>by simp at d
def xu4{j:UnOp}{t:TypeId}{x:Operand}(i:Sim E w st)(b:∀x:Operand,E.V w (ev sl x) (ρ x))(g:o.op=.unOp j t x)(h:aO P id0 o sl st.aC=some (v,objs')):Ok P E w st id0 (execOp ρ o) v objs':=by
 simp only[aO,g,cE,bF]at h;obtain⟨r,f,rfl,rfl⟩:=h;unfold BL at f;split at f
 .rename_i n d;cases f;unfold zx at d;split at d
  .rename_i a l;have e:=lG (b x) l;simp only[cE]at d;obtain⟨u,m,rfl⟩:=d;have:=Ok.pure (w:=w) (id0:=id0) i m;simpa[execOp,g,e]using this
  .cases d
 .have:=Ok.abs (id0:=id0) (us:=[ρ x]) i f rfl (xcf (b x));simpa[execOp,g,zw]using this
def xvq{x:Operand}{i:Nat}(j:Sim E w st)(b:∀x:Operand,E.V w (ev sl x) (ρ x))(f:o.op=.extract x i)(h:aO P id0 o sl st.aC=some (v,objs')):Ok P E w st id0 (execOp ρ o) v objs':=by
 simp only[aO,f]at h;split at h
 .rename_i r l;simp only[cE,bF]at h;obtain⟨a,m,rfl,rfl⟩:=h;have g:=b x;rw[l]at g;obtain⟨t,n,y,p⟩:=dr g;obtain⟨u,d,e⟩:=p i a m;exact .quiet (u:=u) j (by simp[execOp,f,n,Instr.extract,d]) e rfl
 .cases h
def xvy{K:BinOp}{t W:TypeId}{x y:Operand}(A:Sim E w st)(d:∀x:Operand,E.V w (ev sl x) (ρ x))(m:o.op=.binOp K t x y W)(h:aO P id0 o sl st.aC=some (v,objs')):Ok P E w st id0 (execOp ρ o) v objs':=by
 simp only[aO,m,cE,bF]at h;obtain⟨r,J,rfl,rfl⟩:=h;unfold bY at J;split at J;rotate_left
 .have:=Ok.abs (id0:=id0) (us:=[ρ x,ρ y]) A J rfl (xmo (d x) (d y));simpa[execOp,m,LJ]using this
 rename_i r' g;cases J;unfold zL at g;split at g
 .rename_i a b X Y;have Z:=lG (d x) X;have p:=lG (d y) Y;simp only[cE]at g;obtain⟨u,j,rfl⟩:=g;have:=Ok.pure (w:=w) (id0:=id0) A j;simpa[execOp,m,Z,p]using this
 .rename_i H L;have p:=lG (d y) L;have D:∀(a:Addr) (n f:Nat) (C:TypeId),ρ x=.slice (some a) n f->P.underlying t=some (.slice C)->((K=.eql/\r=.sc (.bool false))\/(K=.neq/\r=.sc (.bool true)))->Ok P E w st id0 (execOp ρ o) r st.aC:=by
   intro a n f C H j M;rcases M with ⟨rfl,rfl⟩|⟨rfl,rfl⟩
   .refine .quiet (u:=.bool false) A ?_ (.sc _) rfl;simp[execOp,m,H,p,eqGuard,Lib.run_eql_slice_nil w t C (some a) n f 0 0 j]
   .refine .quiet (u:=.bool true) A ?_ (.sc _) rfl;simp[execOp,m,H,p,eqGuard,run_neq_slice_nil_any w t C (some a) n f 0 0 j]
  split at g
  .rename_i C cs n b j i;have l:=d x;rw[i]at l;obtain⟨a,f,e,_⟩:=uW l;refine D a _ f C e j ?_<;>(split at g<;>simp_all)
  .rename_i C id N O n z b j i;have l:=d x;rw[i]at l;obtain⟨Q,F,len,a,f,_,e,_⟩:=mG l;refine D a _ f C e j ?_<;>(split at g<;>simp_all)
  .cases g
 .rename_i H L;have p:=lG (d y) L;split at g
  .rename_i C id N O j i;have l:=d x;rw[i]at l;obtain⟨Q,F,len,-,e⟩:=tD l;have R:P.underlying t=some (.pointer (P.pointee t)):=(by unfold Program.pointee;rw[j]);split at g
   .cases g;refine .quiet (u:=.bool false) A ?_ (.sc _) rfl;simp[execOp,m,e,p,eqGuard,run_eql_pointer_nil w t _ R]
   .cases g;refine .quiet (u:=.bool true) A ?_ (.sc _) rfl;simp[execOp,m,e,p,eqGuard,run_neq_pointer_nil w t _ R]
   .cases g
  .cases g
 .cases g
def d6{t:TypeId}{b:List AV}(h:zeroCells P t=some b):∃z:Value,(∀w,(zeroValue t).run P w=.ok z w)/\b=z.cells.toList.map .sc/\∀c∈z.cells.toList,c.oneCell'=true:=by
 unfold zeroCells at h;split at h
 .rename_i i d;split at h
  .rename_i z e;split at h
   .rename_i a;cases h;refine⟨z,λw=>?_,rfl,dJ.1 a⟩;simp[zeroValue,L8 d,e]
   .cases h
  .cases h
 .cases h
def xn7{l:List Value}(d:∀c∈l,c.oneCell'=true):∀(i:Nat) (a:AV),(l.map AV.sc)[i]?=some a->∃v,l.toArray[i]?=some v/\E.V w a v/\v.oneCell'=true:=by intro i a e;obtain⟨u,b,f⟩:=dv (F:=E.F) (w:=w) (η:=E.η) (ζ:=E.ζ.1) e;exact⟨u,by simpa using b,f,d u (mJ b)⟩
def CA{s:Sem Next}{t:TypeId}{arr:Array Value}{cs:List AV}(o:Sim E w st)(h:id0.1<st.next)(p:∀f,E.η id0 f=none){w1:World}(b:w1.heap=w.heap){u:Value}(r:s.run P w=.ok (.value u) {w1 with heap:=w1.heap.push (.cells arr t (0,0))})(d:cs.length<=arr.size)(x:∀(i:Nat) (a:AV),cs[i]?=some a->∃v,arr[i]?=some v/\E.V w a v/\v.oneCell'=true)(y:∀(e:Env) (j:World),e.η id0 0=some (w.heap.size,0,cs.length)->j.shape? w.heap.size=some (t,arr.size)->e.V j v u)(A:objs'=bH st.aC id0 (some (.row cs 0 false)))(m:w1.os=w.os:=by first|assumption|rfl)(l:w1.output=w.output:=by first|assumption|rfl):Ok P E w st id0 s v objs':=by
 subst A;obtain⟨e,C,D,F,H,J⟩:=o.fresh (w':={w1 with heap:=w1.heap.push (.cells arr t (0,0))}) (t:=t) h p (by simp[b]) d x;refine⟨_,u,e,_,r,.inl rfl,y e _ F (by simp[World.shape?,b]),C,D,λi f g=>?_⟩;by_cases n:i=id0
 .exact .inr (.inl n)
 .rw[H _ _ n]at g;exact .inl g
def x8b{t:TypeId}{a:List AV}{e:TypeId}(h:LI P t a=some e):a=[.sc (.pointer none),.sc (.slice none 0 0)]:=by
 unfold LI at h;split at h
 .rfl
 .cases h
def xvc{s:Sem Next}{t e:TypeId}{arr:Array Value}(n:Sim E w st)(m:id0.1<st.next)(p:∀l,E.η id0 l=none)(y:arr=#[.pointer none,.slice none 0 0])(A:s.run P w=.ok (.value (.pointer (some ⟨w.heap.size,0,none⟩))) {w with heap:=w.heap.push (.cells arr t (0,0))}) :
    Ok P E w st id0 s (.ptr id0 0 0) (bH st.aC id0 (some (.bld t e []))):=by
 subst y;let w':World:={w with heap:=w.heap.push (.cells #[.pointer none,.slice none 0 0] t (0,0))}
 let E':Env:={E with η:=λi v=>if i=id0/\v=0 then some (w.heap.size,0,2)else E.η i v,O:=λb=>if b=w.heap.size then some id0 else E.O b}
 have a:∀b,b<w.heap.size->w'.heap[b]?=w.heap[b]?:=λb d=>by show(w.heap.push _)[b]?=_;rw[J1 d,iZ d]
 have J:∀i v x,E.η i v=some x->E'.η i v=some x:=λi v x h=>by
  show(if _ then _ else _)=_;split
  .rename_i e;rw[e.1,p]at h;cases h
  .exact h
 have r:E'.η id0 0=some (w.heap.size,0,2):=(by show(if _ then _ else _)=_;rw[aF ⟨rfl,rfl⟩]);obtain⟨K,L⟩:=n.turn (E':=E') (w':=w') (id:=id0) (o:=.bld t e []) (.of_same a) m J
  (λi v f=>by show(if _ then _ else _)=_;rw[aB (λe=>f e.1)]) rfl rfl rfl
  (λb d=>by show(if _ then _ else _)=_;rw[aB (by omega)])
  (λb i d j=>by
   replace j:(if b=w.heap.size then some id0 else E.O b)=some i:=j
   split at j
   .rename_i e;cases j;exact⟨rfl,by show _<(w.heap.push _).size;simp;omega⟩
   .have:=(n.own b i j).2.2;omega)
  (by show _<=(w.heap.push _).size;simp) (λb d=>by simp[World.shape?,a b d]) (λb d _=>a b d)
  ⟨w.heap.size,.pointer none,.slice none 0 0,r,λC D=>by
   show(if _ then _ else _)=_
   rw[aB (by rintro⟨_,e⟩;omega)];exact p C,by show(w.heap.push _)[_]?=_;simp,.inl rfl,⟨World.ownsRow_nil _ _ _ _,λ_=>rfl⟩,by simp[Value.ownBlock],by show(if _ then _ else _)=_;rw[aF rfl],λg H=>by cases H⟩
 refine⟨_,.pointer (some ⟨w.heap.size,0,none⟩),E',w',A,.inl rfl,?_,K,L,λi l f=>?_⟩
 .exact V.ptr (F:=E'.F) (w:=w') (η:=E'.η) (ζ:=E'.ζ.1) id0 0 0 w.heap.size 0 _ r
 .by_cases u:i=id0
  .exact .inr (.inl u)
  .left;intro e;apply f;show(if _ then _ else _)=_;rw[aB (λh=>u h.1)];exact e
def xv1{t:TypeId}(x:Sim E w st)(f:id0.1<st.next)(y:∀m,E.η id0 m=none)(j:o.op=.alloc t)(h:aO P id0 o sl st.aC=some (v,objs')):Ok P E w st id0 (execOp ρ o) v objs':=by
 simp only[aO,j]at h;split at h
 .rename_i H J;obtain⟨z,g,rfl,r⟩:=d6 J;split at h
  .rename_i e n;simp only[bN,bF]at h;obtain⟨rfl,rfl⟩:=h;have d:=x8b n;have p:z.cells=#[.pointer none,.slice none 0 0]:=by
    apply xk;match K:z.cells.toList,d with
    |[a,b],d=>simp at d;rw[d.1,d.2]
   refine xvc x f y (t:=t) (e:=e) (arr:=z.cells) p ?_;simp[execOp,j,Instr.alloc,g,newVar,newRow]
  simp only[bN,bF]at h;obtain⟨rfl,rfl⟩:=h;refine CA (t:=t) (arr:=z.cells) (cs:=z.cells.toList.map .sc) x f y (w1:=w) rfl (u:=.pointer (some ⟨w.heap.size,0,none⟩)) ?_ (by simp) (λi a A=>?_) (λl C D L=>?_) rfl
  .simp[execOp,j,Instr.alloc,g,newVar,newRow]
  .have:=xn7 (E:=E) (w:=w) r i a A;simpa using this
  .have:=V.ptr (F:=l.F) (w:=C) (η:=l.η) (ζ:=l.ζ.1) id0 0 0 w.heap.size 0 _ D;exact this
 .cases h
def xvx{t:TypeId}{x:Operand}(n:Sim E w st)(d:∀x:Operand,E.V w (ev sl x) (ρ x))(e:id0.1<st.next)(p:∀g,E.η id0 g=none)(j:o.op=.box t x)(h:aO P id0 o sl st.aC=some (v,objs')):Ok P E w st id0 (execOp ρ o) v objs':=by
 simp only[aO,j]at h;split at h
 .rename_i b;simp only[bN,bF]at h;obtain⟨rfl,rfl⟩:=h;obtain⟨H,A⟩:=dx (d x);refine CA (t:=t) (arr:=(ρ x).cells) (cs:=(ev sl x).cells) n e p (w1:=w) rfl (u:=.pointer (some ⟨w.heap.size,0,none⟩)) ?_ (by omega) (λi a l=>?_) (λf r y D=>?_) rfl
  .simp[execOp,j,Instr.box,newVar,newRow]
  .obtain⟨u,C,m⟩:=A i a l;exact⟨u,C,m,du m (dJ.1 b a (mJ l))⟩
  .have:=V.ptr (F:=f.F) (w:=r) (η:=f.η) (ζ:=f.ζ.1) id0 0 0 w.heap.size 0 _ y;exact this
 .cases h
def xvj{t:TypeId}{x:Operand}(y:Sim E w st)(j:∀x:Operand,E.V w (ev sl x) (ρ x))(C:o.op=.load t x)(h:aO P id0 o sl st.aC=some (v,objs')):Ok P E w st id0 (execOp ρ o) v objs':=by
 simp only[aO,C]at h;split at h
 .rename_i g z R;split at h
  .rename_i X D;split at h
   .cases h
   .rename_i H;simp only[cE,bF]at h;obtain⟨r,L,rfl,rfl⟩:=h;have m:=j x;rw[D]at m;obtain⟨a,e,W⟩:=LQ m;have d:=(W.2 (by intro Y;simp[Y]at H)).2;obtain⟨u,M,f⟩:=YR (P:=P) (F:=E.F) (w:=w) (η:=eta0) (ζ:=[]) (b:=a.block) (o:=a.off) R L (λi b p=>let⟨v,O,Q,_⟩:=W.1 i b p;⟨v,O,Q⟩);have A:a=⟨a.block,a.off,none⟩:=(by cases a;simp at d;simp[d]);refine .quiet (u:=u) y ?_ (V.mono (λ_ h=>h) (Ext.refl _ _) f (λ_ _ _ h=>by cases h) (λ_ _ h=>by simp at h)) rfl;rw[A]at e;simp[execOp,C,Instr.loadAt,e,Instr.sureAddr,M]
  .rename_i id Z J D;split at h
   .rename_i X vv fr K;split at h
    .rename_i l;simp only[cE,bF]at h;obtain⟨r,L,rfl,rfl⟩:=h;subst l;have m:=j x;rw[D]at m;obtain⟨N,n,len,hη,e⟩:=tD m;obtain⟨_,_,arr,tt,h3,h4,h5,_⟩:=xU y K hη
     obtain⟨u,M,f⟩:=YR (P:=P) (F:=E.F) (w:=w) (η:=E.η) (ζ:=E.ζ.1) (b:=N) (o:=n+J) R L (λi b p=>by
      rw[wZ]at p
      obtain⟨v,O,Q,_⟩:=h5 _ _ p
      exact⟨v,by rw[BP h3,oG];exact O,Q⟩)
     exact .quiet (u:=u) y (by simp[execOp,C,Instr.loadAt,e,Instr.sureAddr,M]) f rfl
    .cases h
   .cases h
  .cases h
 .cases h
def IP{b d:List AV}{a:Nat}(h:a+d.length<=b.length):(cS b a d).length=b.length:=by simp[cS];omega
def xaj{b d:List AV}{a:Nat}(h:a+d.length<=b.length)(j:Nat):(cS b a d)[j]?=if a<=j/\j<a+d.length then d[j-a]? else b[j]?:=by
 unfold cS;rw[MG];have g:(b.take a).length=a:=(by simp;omega);rw[g];split
 .rename_i e;rw[aB (by omega),H0,aF e]
 .rename_i e;rw[MG];split
  .rename_i f;rw[aF (by omega)]
  .rename_i f;rw[aB (by omega),wZ];congr 1;omega
def HX{id:Id}{Q:List AV}{u:Nat}{j d len off:Nat}{vs:List Value}{as:List AV}(L:Sim E w st)(R:id.1<st.next)(W:st.aC id=some (.row Q u false))(hη:E.η id u=some (j,d,len))(hl:vs.length=as.length)(hoff:off+as.length<=Q.length)(hV:∀(i:Nat) (a:AV),as[i]?=some a->∃v,vs[i]?=some v/\E.V w a v)(h1:∀v∈vs,v.oneCell'=true) :
    ∃m,(storeCells ⟨j,d+off,none⟩ vs).run P w=.ok () m/\Sim E m {st with aC:=bH st.aC id (some (.row (cS Q off as) u false))}/\Later E w E m:=by
 obtain⟨rfl,A,X,t,M,h4,h5,N⟩:=xU L W hη;simp only[fH,cT]at N;have hb:j<w.heap.size:=tQ (mL M);obtain⟨m,p,hr,Y,Z,hc,hos,J⟩:=YG (P:=P) (b:=j) (o:=d+off) (t:=t) vs 0 w X M (by omega) h1;have f:∀b,b≠j->m.heap[b]?=w.heap[b]?:=λb x=>by rw[Y,tG (Ne.symm x)]
 have n:m.heap[j]?=some (.cells p t (0,0)):=(by rw[Y];simp[hb]);have l:∀b,m.shape? b=w.shape? b:=λb=>by
  by_cases K:b=j
  .subst K;rw[mL n,mL M,Z]
  .simp[World.shape?,f b K]
 have hsz:m.heap.size=w.heap.size:=by rw[Y];simp
 have F:Ext E.G w m:=⟨by omega,λb _=>l b,λb g _=>f b λe=>by
  subst e
  have:=L.own b id N
  rcases g with g|g
  .exact this.1 g
  .exact this.2.1 g,hos,J⟩
 have H:∀{a v},E.V w a v->E.V m a v:=λh=>V.mono (λ_ h=>h) (F.kA λ_ _ g=>.inl g) h (λ_ _ _ h=>h) (λ_ _ h=>h)
 refine⟨m,hr,?_⟩;exact L.turn (E':=E) (.of_one M (by intro r e;cases e) f) R (λ_ _ _ h=>h) (λ_ _ _=>rfl) rfl rfl rfl (λ_ _=>rfl) (λb i hb' hO=>by have:=(L.own b i hO).2.2;omega) (by omega) (λb _=>l b)
  (λb _ x=>f b λe=>by subst e;exact x N)
  ⟨j,d,p,t,by rw[IP (by omega)];exact hη,A,n,by rw[IP (by omega)];omega,λi a D=>by
   rw[xaj (by omega)]at D
   have y:=hc (d+i)
   simp only[uZ]at y
   by_cases hi:off<=i/\i<off+as.length
   .rw[aF hi]at D
    obtain⟨v,O,C⟩:=hV _ _ D
    refine⟨v,?_,H C,h1 v (mJ O)⟩
    rw[y,aF (by omega),show d+i-(d+off)=i-off from by omega];exact O
   .rw[aB hi]at D
    obtain⟨v,O,C,ho'⟩:=h5 _ _ D
    refine⟨v,?_,H C,ho'⟩
    rw[y,aB (by omega)];exact O,by simpa using N⟩
def xu7{t:TypeId}{x y:Operand}(D:Sim E w st)(d:∀x:Operand,E.V w (ev sl x) (ρ x))(F:o.op=.store t x y)(h:aO P id0 o sl st.aC=some (v,objs')):Ok P E w st id0 (execOp ρ o) v objs':=by
 simp only[aO,F]at h;split at h
 .rename_i g z R;split at h
  .rename_i id W f X;split at h
   .rename_i cs vv n;split at h
    .rename_i b;obtain⟨rfl,J,K,l⟩:=b;simp only[bN,bF]at h;obtain⟨rfl,rfl⟩:=h;have H:=d x;rw[X]at H;obtain⟨Z,L,len,M,e⟩:=tD H;obtain⟨hl,N⟩:=dx (d y);obtain⟨w',hr,r,hL⟩:=HX (P:=P) (vs:=(ρ y).cells.toList) (as:=(ev sl y).cells) (off:=f) D (D.dom _ _ _ M) n M (by simpa using hl) (by omega)
      (λi a O=>let⟨u,m,C⟩:=N i a O;⟨u,by simpa using m,C⟩)
      (λu Q=>by
       obtain⟨i,A⟩:=FR.1 Q
       have j:i<(ev sl y).cells.length:=by have:=(lC.1 A).1;simp at this;omega
       obtain⟨u',m,C⟩:=N i (ev sl y).cells[i] (by simp[j])
       have:u'=u:=by simp at A;rw[A]at m;exact(pR m).symm
       subst this
       exact du C (dJ.1 l _ (fG j)))
     refine⟨.skip,undef,E,w',?_,.inr ⟨rfl,rfl⟩,.sc _,r,hL,λ_ _ h=>.inl h⟩;have Y:=(II R).2 w;have p:(ρ y).cells.size=z:=(by omega);simp[execOp,F,Instr.storeAt,e,Instr.sureAddr,storeVar,Y,p,hr]
    .cases h
   .cases h
  .cases h
 .cases h
end
section
variable{P:Program}{E:Env}{w:World}{st:St}{id0:Id}{sl:Nat->AV}{ρ:Operand->Value}{o:Oper}{v:AV}{objs':Id->Option Ob}
def xb7{F:Nat->Prop}{η:Eta}{ζ:List Nat}{t:TypeId}{g:Bool}{z b:Nat}(x:ty P t=some (g,z)){h:List AV}{j:Array Value}{r:AV}(e:rd g z (h.drop b)=some r)(A:j.size=h.length)(o:∀(i:Nat) (a:AV),h[i]?=some a->∃v,j[i]?=some v/\V F w η ζ a v):∃u,(part t j b).run P w=.ok u w/\V F w η ζ r u:=by
 obtain⟨p,y⟩:=II x;unfold rd at e;cases g with
 |false=>simp only[fH,cT]at e;have:h[b]?=some r:=(by rw[ey]at e;exact e);obtain⟨u,m,n⟩:=o b r this;exact⟨u,by simp[part,p,m],n⟩
 |true=>
  simp only[cM]at e;split at e
  .rename_i l;cases e;refine⟨.agg (j.extract b (b+z)),by simp[part,p,y],.agg _ _ (by simp at l ⊢;omega) λi a v d f=>?_⟩;rw[Array.getElem?_extract]at f;split at f
   .rw[H0]at d;split at d
    .rw[wZ]at d;obtain⟨u,m,n⟩:=o _ _ d;rw[m]at f;cases f;exact n
    .cases d
   .cases f
  .cases e
def xvp{t:TypeId}{x:Operand}{f:Nat}(m:Sim E w st)(a:∀x:Operand,E.V w (ev sl x) (ρ x))(j:o.op=.field t x f)(h:aO P id0 o sl st.aC=some (v,objs')):Ok P E w st id0 (execOp ρ o) v objs':=by
 simp only[aO,j]at h;split at h
 .rename_i F n;split at h
  .rename_i H b;split at h
   .rename_i g z J p y;simp only[cE,bF]at h;obtain⟨r,A,rfl,rfl⟩:=h;have l:=a x;rw[y]at l;obtain⟨K,e,C,D⟩:=LT l;obtain⟨u,d,i⟩:=xb7 (w:=w) p A C D;exact .quiet (u:=u) m (by simp[execOp,j,Instr.field,eC n,b,e,asAgg,d]) i rfl
   .cases h
  .cases h
 .cases h
def xvn{t:TypeId}{x ix:Operand}(p:Sim E w st)(a:∀x:Operand,E.V w (ev sl x) (ρ x))(d:o.op=.index t x ix)(h:aO P id0 o sl st.aC=some (v,objs')):Ok P E w st id0 (execOp ρ o) v objs':=by
 simp only[aO,d]at h;split at h
 .rename_i L f;split at h
  .rename_i k n C i A;split at h
   .rename_i g z y;split at h
    .rename_i D;simp only[cE,bF]at h;obtain⟨r,j,rfl,rfl⟩:=h;have b:=a x;rw[f]at b;obtain⟨N,e,H,J⟩:=LT b;obtain⟨u,l,m⟩:=xb7 (w:=w) y j H J;obtain⟨O,K⟩:=pO (a ix) i;exact .quiet (u:=u) p (by simp[execOp,d,Instr.index,eC A,e,K,asIntOf,D,(II y).2,l]) m rfl
    .cases h
   .cases h
  .cases h
 .rename_i M f;split at h
  .rename_i k i;simp only[cE,bF]at h;obtain⟨r,j,rfl,rfl⟩:=h;have b:=a x;rw[f]at b;have e:=kZ b;have F:=lG (a ix) i;have:=Ok.pure (w:=w) (id0:=id0) p j;simpa[execOp,d,e,F]using this
  .cases h
 .cases h
def dt{η:Eta}{ζ:List Nat}{F:Nat->Prop}{id:Id}{b d k e a len:Nat}(f:η id b=some (e,a,len)):V F w η ζ (.ptr id b (d+k)) (.pointer (some ((Addr.mk e (a+d) none).add k))):=by rw[zP,oG];exact .ptr id b (d+k) e a len f
def xvo{t:TypeId}{x:Operand}{f:Nat}(m:Sim E w st)(b:∀x:Operand,E.V w (ev sl x) (ρ x))(j:o.op=.fieldAddr t x f)(h:aO P id0 o sl st.aC=some (v,objs')):Ok P E w st id0 (execOp ρ o) v objs':=by
 simp only[aO,j]at h;split at h
 .rename_i K n;split at h
  .rename_i p d;split at h
   .rename_i i y;split at h
    .cases h
    .rename_i A;have r:∀a,(fieldPlace a p).run P w=.ok (a.add p.offset) w:=λa=>by simp[fieldPlace,kL y,A]
     split at h
     .rename_i id C D l;simp only[bN,bF]at h;obtain⟨rfl,rfl⟩:=h;have g:=b x;rw[l]at g;obtain⟨F,u,len,H,e⟩:=tD g;exact .quiet m (by simp[execOp,j,Instr.fieldAt,eC n,d,e,Instr.sureAddr,r]) (dt H) rfl
     .rename_i L l;simp only[bN,bF]at h;obtain⟨rfl,rfl⟩:=h;have g:=b x;rw[l]at g;obtain⟨a,e,J⟩:=LQ g;exact .quiet m (by simp[execOp,j,Instr.fieldAt,eC n,d,e,Instr.sureAddr,r]) (J.drop _).aE rfl
     .cases h
   .cases h
  .cases h
 .cases h
def xu6{t:TypeId}{x:Operand}(y:Sim E w st)(f:∀x:Operand,E.V w (ev sl x) (ρ x))(m:o.op=.sliceToArrayPointer t x)(h:aO P id0 o sl st.aC=some (v,objs')):Ok P E w st id0 (execOp ρ o) v objs':=by
 simp only[aO,m]at h;split at h
 .rename_i n C D;split at h
  .rename_i L q b p;split at h
   .rename_i H;simp only[bN,bF]at h;obtain⟨rfl,rfl⟩:=h;have i:=f x;rw[p]at i;obtain⟨a,u,e,J,_⟩:=uW i;have hb':¬q<n:=(by omega);exact .quiet y (by simp[execOp,m,Instr.arrayAt,eC D,e,hb']) J.aE rfl
   .cases h
  .rename_i id r g q z b p;split at h
   .rename_i H;simp only[bN,bF]at h;obtain⟨rfl,rfl⟩:=h;have i:=f x;rw[p]at i;obtain⟨j,d,len,a,u,K,e,l,F,M,_⟩:=mG i;have A:a=⟨j,d+g,none⟩:=by
     rcases l with l|l
     .exact l
     .omega
    subst A;have hb':¬q<n:=(by omega);exact .quiet y (by simp[execOp,m,Instr.arrayAt,eC D,e,hb']) (.ptr id r g j d len K) rfl
   .cases h
  .cases h
 .cases h
def xvm{t:TypeId}{x ix:Operand}(D:Sim E w st)(d:∀x:Operand,E.V w (ev sl x) (ρ x))(m:o.op=.indexAddr t x ix)(h:aO P id0 o sl st.aC=some (v,objs')):Ok P E w st id0 (execOp ρ o) v objs':=by
 simp only[aO,m]at h;split at h
 .rename_i k R;obtain⟨X,F⟩:=pO (d ix) R;split at h
  .rename_i C p;split at h
   .rename_i i r;split at h
    .rename_i W n b j;split at h
     .rename_i l;simp only[bN,bF]at h;obtain⟨rfl,rfl⟩:=h;have f:=d x;rw[j]at f;obtain⟨a,K,e,L,_⟩:=uW f;exact .quiet D (by simp[execOp,m,Instr.indexAt,eC p,e,F,asIntOf,l,kL r]) (L.drop _).aE rfl
     .cases h
    .rename_i id J u n z b j;split at h
     .rename_i l;obtain⟨M,N,rfl⟩:=l;simp only[bN,bF]at h;obtain⟨rfl,rfl⟩:=h;have f:=d x;rw[j]at f;obtain⟨y,g,len,a,K,O,e,H,Q,Y,_⟩:=mG f;have A:a=⟨y,g+u,none⟩:=by
       rcases H with H|H
       .exact H
       .omega
      subst A;exact .quiet D (by simp[execOp,m,Instr.indexAt,eC p,e,F,asIntOf,M,N,kL r]) (dt O) rfl
     .cases h
    .cases h
   .cases h
  .rename_i n C p;split at h
   .rename_i i r;split at h
    .rename_i id J u j;split at h
     .rename_i l;simp only[bN,bF]at h;obtain⟨rfl,rfl⟩:=h;have f:=d x;rw[j]at f;obtain⟨y,g,len,O,e⟩:=tD f;exact .quiet D (by simp[execOp,m,Instr.indexAt,Instr.sureAddr,eC p,e,F,asIntOf,l,kL r]) (dt O) rfl
     .cases h
    .rename_i W j;split at h
     .rename_i l;simp only[bN,bF]at h;obtain⟨rfl,rfl⟩:=h;have f:=d x;rw[j]at f;obtain⟨a,e,L⟩:=LQ f;exact .quiet D (by simp[execOp,m,Instr.indexAt,Instr.sureAddr,eC p,e,F,asIntOf,l,kL r]) (L.drop _).aE rfl
     .cases h
    .cases h
   .cases h
  .cases h
 .cases h
def xvb{x:Operand}(i:Sim E w st)(n:∀x:Operand,E.V w (ev sl x) (ρ x))(g:o.op=.nilCheck x)(h:aO P id0 o sl st.aC=some (v,objs')):Ok P E w st id0 (execOp ρ o) v objs':=by
 simp only[aO,g]at h;have b:=n x;split at h
 .rename_i u d;rw[d]at b;have e:=kZ b;split at h;all_goals first
   |(cases h;done)
   |(simp only[bN,bF]at h
     obtain⟨rfl,rfl⟩:=h
     refine .quiet (u:=u) i ?_ (.sc _) rfl
     simp only[execOp,g,e]
     cases u with
     |pointer a=>cases a<;>simp_all
     |nilIface=>simp_all
     |nilFunc=>simp_all
     |func _ _ _=>simp_all
     |_=>simp)
 .rename_i id p r d;simp only[bN,bF]at h;obtain⟨rfl,rfl⟩:=h;rw[d]at b;obtain⟨j,m,len,y,e⟩:=tD b;exact .quiet i (by simp[execOp,g,e]) (.ptr id p r j m len y) rfl
 .rename_i t d;simp only[bN,bF]at h;obtain⟨rfl,rfl⟩:=h;rw[d]at b;obtain⟨a,e,A⟩:=LQ b;exact .quiet i (by simp[execOp,g,e]) A.aE rfl
 .rename_i f t d;simp only[bN,bF]at h;obtain⟨rfl,rfl⟩:=h;rw[d]at b;obtain⟨C,e,_⟩:=G0 b;refine .quiet (u:=ρ x) i ?_ b rfl;simp[execOp,g,e]
 .rename_i l d;simp only[bN,bF]at h;obtain⟨rfl,rfl⟩:=h;rw[d]at b;obtain⟨j,_,e⟩:=xhp b;refine .quiet (u:=ρ x) i ?_ b rfl;simp[execOp,g,e]
 .cases h
def xvh{fn:Fn}{first b:Array Operand}(m:Sim E w st)(d:∀x:Operand,E.V w (ev sl x) (ρ x))(e:o.op=.makeFunc fn first b)(h:aO P id0 o sl st.aC=some (v,objs')):Ok P E w st id0 (execOp ρ o) v objs':=by
 cases fn with
 |func f=>
  simp only[aO,e]at h;split at h
  .rename_i n;simp only[bN,bF]at h;obtain⟨rfl,rfl⟩:=h;have p:first=#[]:=(by simpa using n);refine .quiet (u:=.func (.func f) #[] (b.map ρ)) m (by simp[execOp,e,Instr.makeFunc,p]) (.clo _ _ _ (by simp) λi a v g j=>?_) rfl;simp at g j;obtain⟨x,r,rfl⟩:=g;obtain⟨y,l,rfl⟩:=j;rw[r]at l;cases l;exact d x
  .cases h
 |_=>simp[aO,e]at h
end
section
variable{P:Program}{E:Env}{w:World}{st:St}{id0:Id}{sl:Nat->AV}{ρ:Operand->Value}{o:Oper}{v:AV}{objs':Id->Option Ob}
def Side(F:Nat->Prop)(w:World)(η:Eta)(ζ:List Nat)(b:List AV)(d:Array Value):Prop:=
 d.size=b.length/\∀(i:Nat) (a:AV),b[i]?=some a->∃v,d[i]?=some v/\V F w η ζ a v
def xfe(a:Nat):∀(l:List Value) (n:Nat) (cells:Array Value),a+n+l.length<=cells.size ->
    ((l.zipIdx n).foldl (λd (p:Value×Nat)=>d.setIfInBounds (a+p.2) p.1) cells).size=cells.size /\
    ∀k,((l.zipIdx n).foldl (λd (p:Value×Nat)=>d.setIfInBounds (a+p.2) p.1) cells)[k]?=if a+n<=k/\k<a+n+l.length then l[k-(a+n)]? else cells[k]?
 |[],n,cells,_=>by refine⟨rfl,λk=>?_⟩;rw[aB (by simp only[gY];omega)];rfl
 |c::l,n,cells,h=>by
  simp only[dN]at h;obtain⟨e,f⟩:=xfe a l (n+1) (cells.setIfInBounds (a+n) c) (by rw[xjb];omega);refine⟨?_,λk=>?_⟩
  .simp only[List.zipIdx_cons,ez];rw[e];simp
  .simp only[List.zipIdx_cons,ez,dN];rw[f k];by_cases g:k=a+n
   .subst g;rw[aB (by omega),aF (by omega)];simp[show a+n<cells.size from by omega]
   .by_cases b:a+(n+1)<=k/\k<a+(n+1)+l.length
    .rw[aF b,aF (by omega),show k-(a+n)=(k-(a+(n+1)))+1 from by omega];rfl
    .rw[aB b,aB (by omega),tG (by omega)]
def KQ{F:Nat->Prop}{η:Eta}{ζ:List Nat}{place place':Nat->Option (Nat×Nat)}(N:∀i,place' i=place i):∀(o:List (Nat×AV)) (g:List (Nat×Value)) (f:List AV) (vs:Array Value) (r:List AV),
    Side F w η ζ f vs->g.length=o.length->(∀(k:Nat) (p:Nat×AV) (q:Nat×Value),o[k]?=some p->g[k]?=some q->q.1=p.1/\V F w η ζ p.2 q.2)->rH place f o=some r ->
    ∃l,Instr.fill place' vs g=some l/\Side F w η ζ r l
 |[],g,f,vs,r,A,C,_,h=>by simp[rH]at h;subst h;have:g=[]:=(by simpa using C);subst this;exact⟨vs,rfl,A⟩
 |(i,a)::o,g,f,vs,r,A,C,P,h=>by
  cases g with
  |nil=>simp at C
  |cons q g=>
   obtain⟨X,u⟩:=q;obtain⟨e,Y⟩:=P 0 (i,a) (X,u) rfl rfl;simp only at e;subst e;simp only[rH]at h;split at h
   .rename_i d size E;split at h
    .rename_i R;obtain⟨J,K⟩:=R;obtain⟨L,y⟩:=dx Y;simp only at L y J K;have W:=A.1;have m:d+a.cells.length<=f.length:=(by omega);have n:(u.cells.zipIdx.foldl (λf (c,j)=>f.setIfInBounds (d+j) c) vs)=((u.cells.toList.zipIdx 0).foldl (λf (p:Value×Nat)=>f.setIfInBounds (d+p.2) p.1) vs):=(by rw[<-xjf,Array.toList_zipIdx]);obtain⟨Z,g2⟩:=xfe d u.cells.toList 0 vs (by rw[pV];omega);obtain⟨l,h1,h2⟩:=KQ N o g (cS f d a.cells) (r:=r) (vs:=(u.cells.toList.zipIdx 0).foldl (λf (p:Value×Nat)=>f.setIfInBounds (d+p.2) p.1) vs)
      ⟨by rw[Z,IP m];exact A.1,λk b t=>by
       rw[xaj m]at t
       rw[g2 k]
       simp only[uZ,pV]
       by_cases O:d<=k/\k<d+a.cells.length
       .rw[aF O]at t
        rw[aF (by omega)]
        obtain⟨x,hx,M⟩:=y _ _ t
        exact⟨x,by simpa using hx,M⟩
       .rw[aB O]at t
        rw[aB (by omega)]
        exact A.2 k b t⟩ (by simpa using C) (λk p q D Q=>P (k+1) p q D Q) h (F:=F) (η:=η) (ζ:=ζ)
     refine⟨l,?_,h2⟩;have H:u.cells.size=size:=(by omega);simp only[Instr.fill,N,E];rw[aB (by simp[H];omega),n];exact h1
    .cases h
   .cases h
def xbd{α β:Type}{f:α->Sem β}:∀(l:List α) (r:List β),(∀(i:Nat) (a:α),l[i]?=some a->∃b,r[i]?=some b/\(f a).run P w=.ok b w)->r.length=l.length->(l.mapM f).run P w=.ok r w
 |[],r,_,d=>by have:r=[]:=(by simpa using d);subst this;simp
 |a::l,r,h,d=>by
  cases r with
  |nil=>simp at d
  |cons b r=>
   obtain⟨o,g,m⟩:=h 0 a rfl;simp at g;subst g
   have:=xbd l r (λi a j=>by
    obtain⟨c,n,e⟩:=h (i+1) a j
    exact⟨c,n,e⟩) (by simpa using d)
   simp[eI,m,this]
def xo1{α β:Type}{f:α->Sem β}(d:Array α)(r:List β)(h:∀(i:Nat) (a:α),d.toList[i]?=some a->∃b,r[i]?=some b/\(f a).run P w=.ok b w)(e:r.length=d.size):(d.mapM f).run P w=.ok r.toArray w:=by rw[x9y];simp[xbd d.toList r h (by simpa using e)]
def yL{α β:Type}{f:α->Option β}:∀{l:List α} {r:List β},l.mapM f=some r->r.length=l.length/\∀(i:Nat) (a:α),l[i]?=some a->∃b,r[i]?=some b/\f a=some b
 |[],r,h=>by simp at h;subst h;exact⟨rfl,λi a d=>by simp at d⟩
 |a::l,r,h=>by
  simp only[eI]at h;cases e:f a with
  |none=>simp[e]at h
  |some b=>
   cases g:l.mapM f with
   |none=>simp[e,g]at h
   |some o=>
    simp[e,g]at h;subst h;obtain⟨m,n⟩:=yL g;refine⟨by simp[m],λi j d=>?_⟩;cases i with
    |zero=>simp at d;subst d;exact⟨b,rfl,e⟩
    |succ i=>simpa using n i j (by simpa using d)
def xb6{parts:Array (Nat×Operand)}(b:∀x:Operand,E.V w (ev sl x) (ρ x)):(parts.map λ(i,x)=>(i,ρ x)).toList.length=(parts.toList.map λ(i,x)=>(i,ev sl x)).length /\
    ∀(k:Nat) (p:Nat×AV) (q:Nat×Value),(parts.toList.map λ(i,x)=>(i,ev sl x))[k]?=some p->(parts.map λ(i,x)=>(i,ρ x)).toList[k]?=some q->q.1=p.1/\V E.F w E.η E.ζ.1 p.2 q.2:=by
 refine⟨by simp,λk p q d e=>?_⟩;simp at d e;obtain⟨i,x,f,rfl⟩:=d;obtain⟨g,h,a,rfl⟩:=e;rw[f]at a;cases a;exact⟨rfl,b x⟩
def xr{F:Nat->Prop}{η:Eta}{ζ:List Nat}(z:Value):Side F w η ζ (z.cells.toList.map .sc) z.cells:=
 ⟨by simp,λi a b=>by
  obtain⟨u,d,e⟩:=dv (F:=F) (w:=w) (η:=η) (ζ:=ζ) b
  exact⟨u,by simpa using d,e⟩⟩
def Side.agg{F:Nat->Prop}{η:Eta}{ζ:List Nat}{b:List AV}{d:Array Value}(h:Side F w η ζ b d):V F w η ζ (.agg b) (.agg d):=
 .agg b d h.1 λi a v f e=>by
  obtain⟨u,g,j⟩:=h.2 i a f;rw[g]at e;cases e;exact j
def xvw{t:TypeId}{a:Array (Nat×Operand)}(W:Sim E w st)(y:∀x:Operand,E.V w (ev sl x) (ρ x))(A:o.op=.build t a)(h:aO P id0 o sl st.aC=some (v,objs')):Ok P E w st id0 (execOp ρ o) v objs':=by
 simp only[aO,A]at h;obtain⟨j,l⟩:=xb6 (E:=E) (w:=w) (parts:=a) y;split at h
 .rename_i X z D F;split at h
  .rename_i J H;simp only[cE,bF]at h;obtain⟨r,K,rfl,rfl⟩:=h;obtain⟨L,e,rfl,M⟩:=d6 F;obtain⟨N,O⟩:=yL H;have d:(X.mapM λf=>do Pure.pure (f.offset,<-sizeOf f.type):Sem (Array (Nat×Nat))).run P w=.ok J.toArray w:=
    xo1 X J (λi f Y=>by
     obtain⟨b,hb,m⟩:=O i f Y
     refine⟨b,hb,?_⟩
     simp only[cE]at m
     obtain⟨inf,p,rfl⟩:=m
     simp[kL p]) (by simpa using N)
   obtain⟨g,Q,R⟩:=KQ (w:=w) (place:=(J[·]?)) (place':=(J.toArray[·]?)) (λi=>by simp) _ _ _ _ _ (xr L) j l K;refine .quiet (u:=.agg g) W ?_ R.agg rfl;simp only[execOp,A,Instr.build,Sem.run_bind,e,Result.andThen_ok,eC D];rw[d];simp only[Result.andThen_ok,Q,Sem.run_pure]
  .cases h
 .rename_i n C z D F;split at h
  .rename_i i Z;simp only[cE,bF]at h;obtain⟨r,K,rfl,rfl⟩:=h;obtain⟨L,e,rfl,M⟩:=d6 F;obtain⟨g,Q,R⟩:=KQ (w:=w) (place':=λk=>some (k*i.size,i.size)) (λi=>rfl) _ _ _ _ _ (xr L) j l K;refine .quiet (u:=.agg g) W ?_ R.agg rfl;simp only[execOp,A,Instr.build,Sem.run_bind,e,Result.andThen_ok,eC D,kL Z,Q,Sem.run_pure]
  .cases h
 .cases h
end
section
variable{P:Program}{E:Env}{w:World}{st:St}{id0:Id}{sl:Nat->AV}{ρ:Operand->Value}{o:Oper}{v:AV}{objs':Id->Option Ob}
def cy{F:Nat->Prop}{η:Eta}{ζ:List Nat}{a:AV}{u:Value}(h:V F w η ζ a u)(r:eM a=true):V F w eta0 [] a u:=by
 cases h with
 |sc=>exact .sc _
 |aN b n x a d f e g j l m o=>exact .aN b n x a d f e g j l m o
 |aE b a f e g j l=>exact .aE b a f e g j l
 |un p _ h e=>exact .un p _ h e
 |clo f b C D h=>
  refine .clo f b C D λi a v t y=>?_
  have A:=h i a v t y;have:=dJ.1 (by simpa[eM]using r) a (mJ t);cases A with
  |sc v=>exact .sc v
  |aN b n x a d f e g j l m o=>exact .aN b n x a d f e g j l m o
  |_=>simp at this
 |_=>simp[eM]at r
def Sim.lit{w':World}{arr:Array Value}{t:TypeId}(u:Sim E w st){fz:Nat×Nat}(N:w'.heap=w.heap.push (.cells arr t fz))(R:w'.os=w.os:=by first|assumption|rfl)(K:w'.output=w.output:=by first|assumption|rfl) :
    let P:Env:={E with F:=λb=>E.F b\/b=w.heap.size}
    Sim P w' st/\Later E w P w':=by
 intro P;have f:∀b,b<w.heap.size->w'.heap[b]?=w.heap[b]?:=λb n=>by rw[N,J1 n,iZ n]
 have Q:Later E w P w':=by
  refine⟨λ_ _ _ h=>h,λb h=>.inl h,λb h=>?_,λb i h=>.inl h,λ_ h=>h,λ_ h=>.inl h,rfl,⟨by rw[N];simp,λb n=>by simp[World.shape?,f b n],λb _ n=>f b n,R,K⟩,.of_same f,λ_ _ _ _ _ _ _=>rfl⟩;rcases h with h|h
  .exact .inl h
  .exact .inr (.inl (by omega))
 refine⟨⟨λi o ho=>?_,u.dom,λb i h=>?_,λb h=>?_,Q.gl u⟩,Q⟩
 .have hold:=u.obj i o ho;cases o with
  |row cs ver fr=>
   obtain⟨j,L,arr,t,D,H,x,y,A,C⟩:=hold;have n:j<w.heap.size:=tQ (mL x);refine⟨j,L,arr,t,D,H,by rw[f _ n];exact x,y,λk a ha=>?_,?_⟩
   .obtain⟨v,hv,hV,W⟩:=A k a ha;exact⟨v,hv,hV.later Q,W⟩
   .cases fr with
    |true=>simp at C ⊢;exact .inl C
    |false=>simpa using C
  |bld t e l=>obtain⟨j,p,v,D,H,x,y,A,C,h7,h8⟩:=hold;exact⟨j,p,v,D,H,by rw[f _ (u.own _ _ h7).2.2];exact x,y,A.keep λg hg=>f _ (u.own _ _ (h8 g hg)).2.2,C,h7,h8⟩
  |lp d=>obtain⟨j,r,D,H,x,y,A⟩:=hold;have n:j<w.heap.size:=(u.own _ _ y).2.2;exact⟨j,r,D,H,by rw[f _ n];exact x,y,A⟩
  |map es=>obtain⟨j,M,J,D,H,x,y,A,C⟩:=hold;have n:j<w.heap.size:=(u.own _ _ C).2.2;exact⟨j,M,J,D,H,by rw[f _ n];exact x,y,λk e m X Z=>⟨(A k e m X Z).1,(A k e m X Z).2.later Q⟩,C⟩
 .have:=u.own b i h;refine⟨λO=>?_,this.2.1,by rw[N];simp;omega⟩;rcases O with O|O
  .exact this.1 O
  .omega
 .rw[N];simp only[Array.size_push];rcases h with (h|h)|h
  .have:=u.fin b (.inl h);omega
  .omega
  .have:=u.fin b (.inr h);omega
def HG{F:Nat->Prop}{η:Eta}{ζ:List Nat}(z:Array Value)(n:Nat)(f:0<n->0<z.size)(j:∀c∈z.toList,c.oneCell'=true) :
    Side F w η ζ (eN (z.toList.map .sc) n) ((Array.range n).map (z[· % z.size]!))/\∀c∈((Array.range n).map (z[· % z.size]!)).toList,c.oneCell'=true:=by
 refine⟨⟨by simp[eN],λi a g=>?_⟩,λc h=>?_⟩
 .simp only[eN,FV,cE]at g;obtain⟨k,e,rfl⟩:=g;have b:i<n:=(by have:=(lC.1 e).1;simpa using this);rw[List.getElem?_range b]at e
  .cases e;have d:i % z.size<z.size:=G7 _ (f (by omega));refine⟨z[i % z.size]!,by simp[b],?_⟩;have:(z.toList.map AV.sc).getD (i % (z.toList.map AV.sc).length) (.sc undef)=.sc z[i % z.size]!:=(by simp[fU,d]);rw[this];exact .sc _
 .simp at h;obtain⟨i,b,rfl⟩:=h;have d:i % z.size<z.size:=G7 _ (f (by omega));rw[getElem!_pos z _ d];exact j _ (by simp)
def xvv{t:TypeId}{len:Nat}{b:Array (Nat×Operand)}(hS:Sim E w st)(M:∀x:Operand,E.V w (ev sl x) (ρ x))(N:id0.1<st.next)(hf:∀Q,E.η id0 Q=none)(ho:o.op=.buildSlice t len b)(h:aO P id0 o sl st.aC=some (v,objs')):Ok P E w st id0 (execOp ρ o) v objs':=by
 simp only[aO,ho]at h;obtain⟨X,Y⟩:=xb6 (E:=E) (w:=w) (parts:=b) M;split at h
 .rename_i C y;split at h
  .rename_i i z hi hz;split at h
   .rename_i hc;obtain⟨hc1,D⟩:=hc;obtain⟨Z,hz1,rfl,hz3⟩:=d6 hz;simp only[lU,pV]at D;split at h
    .rename_i f A;obtain⟨hzs,_⟩:=HG (F:=E.F) (w:=w) (η:=E.η) (ζ:=E.ζ.1) Z.cells (len*i.size) (λh=>by rw[D];exact Nat.pos_of_ne_zero (by rintro J;simp[J]at h)) hz3;obtain⟨d,m,K⟩:=KQ (w:=w) (place':=λk=>some (k*i.size,i.size)) (λi=>rfl) _ _ _ _ _ hzs X Y A;have j:(execOp ρ o).run P w=.ok (.value (.slice (some ⟨w.heap.size,0,none⟩) len len)) {w with heap:=w.heap.push (.cells d C (0,0))}:=by
      simp only[execOp,ho,Instr.buildSlice,Sem.run_bind,eC y,kL hi,Result.andThen_ok];rw[aB (by omega)];by_cases J:len*i.size=0
      .simp only[J,cM,Sem.run_bind,Sem.run_pure,Result.andThen_ok]at m ⊢;have e:(Array.range 0).map (λx=>(Z.cells)[x % Z.cells.size]!)=(Array.range 0).map (λx=>(#[]:Array Value)[x % (#[]:Array Value).size]!):=(by simp);rw[e]at m;simp only[m,newRow,run_newObj,Sem.run_bind,Sem.run_pure,Result.andThen_ok]
      .simp only[J,cT,hz1,m,newRow,run_newObj,Sem.run_bind,Sem.run_pure,Result.andThen_ok]
     have l:f.all AV.one=true:=by
      cases hh:f.all AV.one with
      |true=>rfl
      |false=>simp[hh]at h
     simp only[l,cN,fH,cT]at h;have g:∀(i:Nat) (a:AV),f[i]?=some a->∃v,d[i]?=some v/\E.V w a v/\v.oneCell'=true:=λk a n=>by obtain⟨u,y,L⟩:=K.2 k a n;exact⟨u,y,L,du L (dJ.1 l a (mJ n))⟩
     split at h
     .rename_i R;simp only[bN,bF]at h;obtain⟨rfl,rfl⟩:=h;obtain⟨h3,h4⟩:=hS.lit (w':={w with heap:=w.heap.push (.cells d C (0,0))}) (arr:=d) (t:=C) rfl;refine⟨_,_,_,_,j,.inl rfl,LitAt.aN ⟨λk a n=>?_,λ_=>⟨.inr rfl,rfl⟩⟩ (bO _) (λ_=>rfl),h3,h4,λ_ _ h=>.inl h⟩;obtain⟨u,y,L,ho1⟩:=g k a n;refine⟨u,?_,cy (Env.V.later L h4) (dJ.1 R a (mJ n)),ho1⟩;simp[World.cell?,y]
     .simp only[bN,bF]at h;obtain⟨rfl,rfl⟩:=h;have hlen:f.length=len*i.size:=by
       have:d.size=f.length:=K.1;have W:∀(H:List (Nat×AV)) (f r:List AV),rH (λk=>some (k*i.size,i.size)) f H=some r->r.length=f.length:=by
        intro H;induction H with
        |nil=>intro f r h;simp[rH]at h;rw[h]
        |cons p H ih=>
         intro f r h;obtain⟨k,a⟩:=p;simp only[rH]at h;split at h
         .rename_i hcc;rw[ih _ _ h,IP (by omega)]
         .cases h
       rw[W _ _ _ A];simp[eN]
      refine CA (t:=C) (arr:=d) (cs:=f) hS N hf (w1:=w) rfl j (by rw[K.1];exact bO _) g (λE' w' m O=>?_) rfl;refine .sref id0 0 0 len i.size true w.heap.size 0 f.length ⟨w.heap.size,0,none⟩ len m (.inl rfl) (by omega) (bO _) ⟨λ_=>by omega,λh=>by cases h⟩ ⟨C,d.size,O,by rw[K.1];omega⟩
    .cases h
   .cases h
  .cases h
 .cases h
def xve{t:TypeId}{x y:Operand}(O:Sim E w st)(d:∀x:Operand,E.V w (ev sl x) (ρ x))(p:id0.1<st.next)(Q:∀A,E.η id0 A=none)(L:o.op=.makeSlice t x y)(h:aO P id0 o sl st.aC=some (v,objs')):Ok P E w st id0 (execOp ρ o) v objs':=by
 simp only[aO,L]at h;split at h
 .rename_i C m;split at h
  .rename_i i z l c M X Y Z;split at h
   .rename_i D;obtain⟨c1,c2,c3,c4,N⟩:=D;simp only[bN,bF]at h;obtain⟨rfl,rfl⟩:=h;obtain⟨b,H,rfl,J⟩:=d6 X;simp only[lU,pV]at N;obtain⟨k1,e1⟩:=pO (d x) Y;obtain⟨k2,e2⟩:=pO (d y) Z;have wl:IntKind.i64.wrap l=l:=IntWalk.i64_in _ (by omega);have wc:IntKind.i64.wrap c=c:=IntWalk.i64_in _ (by omega);obtain⟨j,K⟩:=HG (F:=E.F) (w:=w) (η:=E.η) (ζ:=E.ζ.1) b.cells (c.toNat*i.size) (λh=>by rw[N];exact Nat.pos_of_ne_zero (by rintro n;simp[n]at h)) J;have f:(execOp ρ o).run P w=.ok (.value (.slice (some ⟨w.heap.size,0,none⟩) l.toNat c.toNat)) {w with heap:=w.heap.push (.cells ((Array.range (c.toNat*i.size)).map (b.cells[· % b.cells.size]!)) C (0,0))}:=by
     have t1:¬(c<0):=(by omega);have t2:¬((i.bytes:Int)*c > 2 ^ 48):=(by omega);have t3:¬(l<0):=(by omega);have t4:¬(l > c):=(by omega);simp only[execOp,L,Instr.makeSlice,Sem.run_bind,eC m,L8 M,kL M,Result.andThen_ok,e1,e2,asInt,asIntOf,Sem.run_pure,wl,wc,t1,t2,t3,t4,bP,pm,fH,cT,run_askRoom];by_cases n:c.toNat*i.size=0
     .have e:(Array.range 0).map (λx=>(b.cells)[x % b.cells.size]!)=(Array.range 0).map (λx=>(#[]:Array Value)[x % (#[]:Array Value).size]!):=(by simp);simp only[n,cM,e,newRow,run_newObj,Sem.run_bind,Sem.run_pure,Result.andThen_ok]
     .simp only[n,cT,H,newRow,run_newObj,Sem.run_bind,Sem.run_pure,Result.andThen_ok]
    refine CA (t:=C) (arr:=(Array.range (c.toNat*i.size)).map (b.cells[· % b.cells.size]!)) (cs:=eN (b.cells.toList.map .sc) (c.toNat*i.size)) O p Q (w1:=w) rfl f (by rw[j.1];exact bO _) (λk a R=>by
     obtain⟨u,m,hV⟩:=j.2 k a R
     exact⟨u,m,hV,K u (by simpa using xh m)⟩) (λE' w' W r=>?_) rfl
    have g:(eN (b.cells.toList.map .sc) (c.toNat*i.size)).length=c.toNat*i.size:=(by simp[eN]);have hle:l.toNat*i.size<=c.toNat*i.size:=nT i.size (by omega);refine .sref id0 0 0 l.toNat i.size true w.heap.size 0 _ ⟨w.heap.size,0,none⟩ c.toNat W (.inl rfl) (by rw[g];omega) (by omega) ⟨λ_=>by rw[g];omega,λh=>by cases h⟩ ⟨C,_,r,by simp⟩
   .cases h
  .cases h
 .cases h
end
section
variable{P:Program}{E:Env}{w:World}{st:St}{id0:Id}{sl:Nat->AV}{ρ:Operand->Value}{o:Oper}{v:AV}{objs':Id->Option Ob}
def ZB(b:∀x:Operand,E.V w (ev sl x) (ρ x)){x:Option Operand}{l:List Value}(h:iL (x.toList.map (ev sl))=some l):l[0]?=x.map ρ:=by
 cases x with
 |none=>simp[iL]at h;subst h;rfl
 |some x=>
  simp only[Option.toList_some,fY,lB,iL]at h;split at h
  .rename_i u e d a;simp at a;subst a;cases h;simp[lG (b x) d]
  .cases h
def xS{x:Value}{k:IntKind}{i:Int}{y:Nat}{c:BoundsCode}(a:x=.int k i)(b:0<=i)(d:i<=y):(Instr.sliceBound x y c).run P w=.ok i.toNat w:=by subst a;simp[Instr.sliceBound,asIntOf,b,d]
def YH(a:∀x:Operand,E.V w (ev sl x) (ρ x)){isSlice:Bool}{n cap:Nat}{d g:Option Operand}{l h:Int}(b:dL (match d with|some x=>ev sl x|none=>.sc (.int .i64 0))=some l)(f:dL (match g with|some x=>ev sl x|none=>.sc (.int .i64 n))=some h)(j:0<=l)(A:l<=h)(C:h<=n)(D:n<=cap) :
    (Instr.sliceBounds isSlice n cap (d.map ρ) (g.map ρ) none).run P w=.ok (l.toNat,h.toNat,cap) w:=by
 have o:∀c:BoundsCode,(match g.map ρ,(none:Option Value)with
  |some v,some _=>Instr.sliceBound v cap .slice3B
  |some v,none=>Instr.sliceBound v cap c
  |none,none=>Pure.pure n
  |none,some _=>stuck "Slice: max without high" : Sem Nat).run P w=.ok h.toNat w:=by
  intro c
  cases g with
  |none=>simp only[dL,bN]at f;subst f;simp
  |some x=>
   obtain⟨k,e⟩:=pO (a x) f
   simpa using xS (P:=P) (w:=w) (c:=c) e (by omega) (by omega)
 have p:∀c:BoundsCode,(match d.map ρ with
  |some v=>Instr.sliceBound v h.toNat c
  |none=>Pure.pure 0:Sem Nat).run P w=.ok l.toNat w:=by
  intro c
  cases d with
  |none=>simp only[dL,bN]at b;subst b;simp
  |some x=>
   obtain⟨k,e⟩:=pO (a x) b
   simpa using xS (P:=P) (w:=w) (c:=c) e (by omega) (by omega)
 cases g with
 |none=>
  simp only[dL,bN]at f;subst f;cases d with
  |none=>simp only[dL,bN]at b;subst b;simp[Instr.sliceBounds]
  |some y=>obtain⟨t,i⟩:=pO (a y) b;have:=xS (P:=P) (w:=w) (c:=.sliceB) i j (y:=n) (by omega);simp[Instr.sliceBounds,this]
 |some x=>
  obtain⟨k,e⟩:=pO (a x) f;have m:=λc=>xS (P:=P) (w:=w) (c:=c) e (by omega) (y:=cap) (by omega)
  cases d with
  |none=>simp only[dL,bN]at b;subst b;simp[Instr.sliceBounds,m]
  |some y=>obtain⟨t,i⟩:=pO (a y) b;have r:=xS (P:=P) (w:=w) (c:=.sliceB) i j (y:=h.toNat) (by omega);simp[Instr.sliceBounds,m,r]
def xbb{isSlice:Bool}{n cap:Nat}{b:Option Operand}{d f:Operand}{l h m:Int}(a:∀x:Operand,E.V w (ev sl x) (ρ x))(g:dL (match b with|some x=>ev sl x|none=>.sc (.int .i64 0))=some l)(o:dL (ev sl d)=some h)(p:dL (ev sl f)=some m)(r:0<=l)(D:l<=h)(F:h<=m)(H:m<=cap) :
    (Instr.sliceBounds isSlice n cap (b.map ρ) (some (ρ d)) (some (ρ f))).run P w=.ok (l.toNat,h.toNat,m.toNat) w:=by
 obtain⟨k,e⟩:=pO (a d) o;obtain⟨J,A⟩:=pO (a f) p;have i:=λc=>xS (P:=P) (w:=w) (c:=c) e (by omega) (y:=m.toNat) (by omega)
 have j:=λc=>xS (P:=P) (w:=w) (c:=c) A (by omega) (y:=cap) (by omega)
 cases b with
 |none=>simp only[dL,bN]at g;subst g;simp[Instr.sliceBounds,i,j]
 |some y=>
  obtain⟨K,C⟩:=pO (a y) g;have t:=λc=>xS (P:=P) (w:=w) (c:=c) C r (y:=h.toNat) (by omega)
  simp[Instr.sliceBounds,i,j,t]
def xu8{t:TypeId}{x hi mx:Operand}{lo:Option Operand}(O:Sim E w st)(d:∀x:Operand,E.V w (ev sl x) (ρ x))(L:o.op=.slice t x lo (some hi) (some mx))(h:aO P id0 o sl st.aC=some (v,objs')):Ok P E w st id0 (execOp ρ o) v objs':=by
 simp only[aO,L]at h;split at h
 .rename_i u M;split at h
  .rename_i ls hv mv Q R W;simp only[cE,bF]at h;obtain⟨r,hr,rfl,rfl⟩:=h;rw[ZB d Q,<-lG (d hi) R,<-lG (d mx) W]at hr;have e:=lG (d x) M;have:=Ok.pure (w:=w) (id0:=id0) O hr;simpa[execOp,L,e]using this
  .cases h
 .split at h
  .rename_i C M;split at h
   .rename_i i l hv m y hl hh hm;split at h
    .rename_i cs n b X;split at h
     .rename_i Y;obtain⟨c1,c2,c3,rfl,c4⟩:=Y;simp only[bN,bF]at h;obtain⟨rfl,rfl⟩:=h;have J:=d x;rw[X]at J;obtain⟨a,g,e,hL,hn,hxx⟩:=uW J;have p:=xbb (P:=P) (w:=w) (ρ:=ρ) d (isSlice:=true) (n:=n) (cap:=g) hl hh hm c1 c2 (MR _) (by omega);refine .quiet (u:=.slice (if m.toNat=l.toNat then some a else(some a).map (·.add (l.toNat*i.size))) (m.toNat-l.toNat) (m.toNat-l.toNat)) O ?_ ?_ rfl
      .simp[execOp,L,Instr.sliceAt,Instr.slice,eC M,e,p,kL y]
      .have Z:(m-l).toNat=m.toNat-l.toNat:=(by omega);rw[Z];split
       .rename_i D;have h0:m.toNat-l.toNat=0:=(by omega);rw[h0,wW,jM]at *
        exact LitAt.aN ⟨λi b p=>by simp at p,λh=>absurd rfl h⟩ (by omega) (λ_=>rfl)
       .exact LitAt.aN ((hL.drop _).take _) (by omega) (λ_=>rfl)
     .cases h
    .rename_i id F H n z b X;split at h
     .rename_i Y;obtain⟨c1,c2,c3,rfl,rfl⟩:=Y;simp only[bN,bF]at h;obtain⟨rfl,rfl⟩:=h;have J:=d x;rw[X]at J;obtain⟨j,f,len,a,g,hη,e,N,hlen,hn,hxx,tt,sz,K,hsz⟩:=mG J;have p:=xbb (P:=P) (w:=w) (ρ:=ρ) d (isSlice:=true) (n:=n) (cap:=g) hl hh hm c1 c2 (MR _) (by omega);refine .quiet (u:=.slice (if m.toNat=l.toNat then some a else(some a).map (·.add (l.toNat*i.size))) (m.toNat-l.toNat) (m.toNat-l.toNat)) O ?_ ?_ rfl
      .simp[execOp,L,Instr.sliceAt,Instr.slice,eC M,e,p,kL y]
      .have Z:(m-l).toNat=m.toNat-l.toNat:=(by omega);rw[Z];have m1:l.toNat*i.size+(m.toNat-l.toNat)*i.size=m.toNat*i.size:=(by rw[<-wX];congr 1;omega);have m3:m.toNat*i.size<=n*i.size:=nT _ (by omega);have m4:m.toNat*i.size<=g*i.size:=nT _ (by omega);split
       .rename_i D;exact .sref id F _ _ i.size false j f len a _ hη (.inr (by omega)) (by omega) (by omega) ⟨λh=>(by cases h),λ_=>rfl⟩ ⟨tt,sz,K,by omega⟩
       .rename_i D;have A:a=⟨j,f+H,none⟩:=by
         rcases N with N|N
         .exact N
         .omega
        refine .sref id F _ _ i.size false j f len _ _ hη (.inl ?_) (by omega) (by omega) ⟨λh=>(by cases h),λ_=>rfl⟩ ⟨tt,sz,K,by omega⟩;rw[A];show(Addr.mk j (f+H) none).add _=_;rw[zP,oG]
     .cases h
    .cases h
   .cases h
  .cases h
def xvg{t:TypeId}{x:Operand}(d:Sim E w st)(a:∀x:Operand,E.V w (ev sl x) (ρ x))(b:o.op=.makeInterface t x)(h:aO P id0 o sl st.aC=some (v,objs')):Ok P E w st id0 (execOp ρ o) v objs':=by
 simp only[aO,b]at h;split at h
 .rename_i u f;simp only[cE,bF]at h;obtain⟨r,g,rfl,rfl⟩:=h;have e:=lG (a x) f;have:=Ok.pure (w:=w) (id0:=id0) d g;simpa[execOp,b,e]using this
 .cases h
def xu9{t:TypeId}{x:Operand}{lo hi mx:Option Operand}(M:Sim E w st)(g:∀x:Operand,E.V w (ev sl x) (ρ x))(J:o.op=.slice t x lo hi mx)(h:aO P id0 o sl st.aC=some (v,objs')):Ok P E w st id0 (execOp ρ o) v objs':=by
 cases mx with
 |some m=>
  cases hi with
  |none=>simp[aO,J]at h
  |some hi=>exact xu8 M g J h
 |none=>
  simp only[aO,J]at h;split at h
  .rename_i u N;split at h
   .rename_i ls Z hls hhs;simp only[cE,bF]at h;obtain⟨r,hr,rfl,rfl⟩:=h;rw[ZB g hls,ZB g hhs]at hr;have e:=lG (g x) N;have:=Ok.pure (w:=w) (id0:=id0) M hr;simpa[execOp,J,e]using this
   .cases h
  .split at h
   .rename_i C N;split at h
    .rename_i i l F hl;split at h
     .rename_i cs n b R;split at h
      .rename_i j W;split at h
       .rename_i X;obtain⟨c1,c2,c3,c4⟩:=X;simp only[bN,bF]at h;obtain⟨rfl,rfl⟩:=h;have H:=g x;rw[R]at H;obtain⟨a,d,e,hL,hn,D⟩:=uW H;have K:=YH (P:=P) (w:=w) (ρ:=ρ) g (isSlice:=true) (n:=n) (cap:=d) hl W c1 c2 c3 hn;refine .quiet (u:=.slice (if d=l.toNat then some a else(some a).map (·.add (l.toNat*i.size))) (j.toNat-l.toNat) (d-l.toNat)) M ?_ ?_ rfl
        .simp[execOp,J,Instr.sliceAt,Instr.slice,eC N,e,K,kL F]
        .have en:(j-l).toNat=j.toNat-l.toNat:=(by omega);rw[en];have hx2:(b&&decide (j=(n:Int)))=true->d-l.toNat=j.toNat-l.toNat:=(by intro Y;simp only[cI,mR]at Y;have:=D Y.1;omega);split
         .rename_i hcl;have h0:j.toNat-l.toNat=0:=(by omega);rw[h0,wW,jM]at *
          exact LitAt.aN ⟨λi b K=>by simp at K,λh=>absurd rfl h⟩ (by omega) (λh=>by have:=hx2 h;omega)
         .exact LitAt.aN ((hL.drop _).take _) (by omega) hx2
       .cases h
      .cases h
     .rename_i id L y n z b R;split at h
      .rename_i j W;split at h
       .rename_i X;obtain⟨c1,c2,c3,rfl,O⟩:=X;simp only[bN,bF]at h;obtain⟨rfl,rfl⟩:=h;have H:=g x;rw[R]at H;obtain⟨p,f,len,a,d,Q,e,ha,hlen,hn,D,tt,sz,hsh,hsz⟩:=mG H;have hxy:b=false->d-l.toNat=j.toNat-l.toNat:=λh=>by
         have h1:=D.2 h;rcases O with O|O
         .rw[h]at O;cases O
         .omega
        have K:=YH (P:=P) (w:=w) (ρ:=ρ) g (isSlice:=true) (n:=n) (cap:=d) hl W c1 c2 c3 hn;refine .quiet (u:=.slice (if d=l.toNat then some a else(some a).map (·.add (l.toNat*i.size))) (j.toNat-l.toNat) (d-l.toNat)) M ?_ ?_ rfl
        .simp[execOp,J,Instr.sliceAt,Instr.slice,eC N,e,K,kL F]
        .have en:(j-l).toNat=j.toNat-l.toNat:=(by omega);rw[en];have m1:l.toNat*i.size+(j.toNat-l.toNat)*i.size=j.toNat*i.size:=(by rw[<-wX];congr 1;omega);have m2:l.toNat*i.size+(d-l.toNat)*i.size=d*i.size:=(by rw[<-wX];congr 1;omega);have m3:j.toNat*i.size<=n*i.size:=nT _ (by omega);split
         .rename_i hcl;exact .sref id L _ _ i.size b p f len a _ Q (.inr (by omega)) (by omega) (by omega) ⟨λh=>by have:=D.1 h;omega,hxy⟩ ⟨tt,sz,hsh,by omega⟩
         .rename_i hcl;have A:a=⟨p,f+y,none⟩:=by
           rcases ha with ha|ha
           .exact ha
           .omega
          refine .sref id L _ _ i.size b p f len _ _ Q (.inl ?_) (by omega) (by omega) ⟨λh=>by have:=D.1 h;omega,hxy⟩ ⟨tt,sz,hsh,by omega⟩;rw[A];show(Addr.mk p (f+y) none).add _=_;rw[zP,oG]
       .cases h
      .cases h
     .cases h
    .cases h
   .rename_i n C N;split at h
    .rename_i i l j F hl W;split at h
     .rename_i id L y R;split at h
      .rename_i cs vv fr hob;split at h
       .rename_i X;obtain⟨c1,c2,c3,rfl,O⟩:=X;simp only[bN,bF]at h;obtain⟨rfl,rfl⟩:=h;have H:=g x;rw[R]at H;obtain⟨p,f,len,Q,e⟩:=tD H;obtain⟨rfl,_,arr,tt,h3,h4,_⟩:=xU M hob Q;have K:=YH (P:=P) (w:=w) (ρ:=ρ) g (isSlice:=false) (n:=n) (cap:=n) hl W c1 c2 (by omega) (bO _);refine .quiet (u:=.slice (some (if n=l.toNat then⟨p,f+y,none⟩else(Addr.mk p (f+y) none).add (l.toNat*i.size))) (j.toNat-l.toNat) (n-l.toNat)) M ?_ ?_ rfl
        .simp[execOp,J,Instr.sliceAt,eC N,e,Instr.sureAddr,K,kL F]
        .have en:(j-l).toNat=j.toNat-l.toNat:=(by omega);rw[en];have m1:l.toNat*i.size+(j.toNat-l.toNat)*i.size=j.toNat*i.size:=(by rw[<-wX];congr 1;omega);have m2:l.toNat*i.size+(n-l.toNat)*i.size=n*i.size:=(by rw[<-wX];congr 1;omega);have m3:j.toNat*i.size<=n*i.size:=nT _ (by omega);split
         .exact .sref id _ _ _ i.size false p f cs.length _ _ Q (.inr (by omega)) (by omega) (by omega) ⟨λh=>(by cases h),λ_=>by omega⟩ ⟨tt,arr.size,mL h3,by omega⟩
         .refine .sref id _ _ _ i.size false p f cs.length _ _ Q (.inl ?_) (by omega) (by omega) ⟨λh=>(by cases h),λ_=>by omega⟩ ⟨tt,arr.size,mL h3,by omega⟩;rw[zP,oG]
       .cases h
      .cases h
     .cases h
    .cases h
   .cases h
def xhg(d:∀x:Operand,E.V w (ev sl x) (ρ x)){b:Array Operand}{l:List Value}(h:iL (b.toList.map (ev sl))=some l):b.map ρ=l.toArray:=by
 have:=R' (F:=E.F) (w:=w) (η:=E.η) (ζ:=E.ζ.1) (l:=b.toList.map (ev sl)) (vs:=b.toList.map ρ) (us:=l) (by simp) (λi a v e f=>by
  simp at e f
  obtain⟨x,j,rfl⟩:=e
  obtain⟨y,g,rfl⟩:=f
  rw[j]at g;cases g
  exact d x) h
 apply xk;rw[Array.toList_map,this]
def wO{c:Call}{b:Builtin}(a:o.op=.call c)(d:c.callee=.builtin b):execOp ρ o=builtin b c.argTypes o.type (c.args.map fun | .const _=>true|_=>false) (c.args.map ρ):=by simp only[execOp,a,resolve,d,invoke,pure_bind];rfl
def xvk{c:Call}(y:Sim E w st)(i:∀x:Operand,E.V w (ev sl x) (ρ x))(A:o.op=.call c)(D:c.callee=.builtin .len)(h:aO P id0 o sl st.aC=some (v,objs')):Ok P E w st id0 (execOp ρ o) v objs':=by
 simp only[aO,A,D,gK]at h;split at h
 .rename_i Y n b d;split at h
  .rename_i C j;split at h
   .rename_i F;simp only[bN,bF]at h;obtain⟨rfl,rfl⟩:=h;obtain⟨x,f,g⟩:∃x,c.args=#[x]/\ev sl x=.aN Y n b:=(by have H:c.args.size=1:=(by have:=congrArg List.length d;simpa using this);obtain⟨x,m⟩:=HE.1 H;exact⟨x,m,by rw[m]at d;simpa using d⟩);have l:=i x;rw[g]at l;obtain⟨a,Q,e,_⟩:=uW l;refine .quiet (u:=.int .i64 n) y ?_ (.sc _) rfl;rw[wO A D];obtain⟨t,J⟩:=HE.1 F;rw[J]at j ⊢;have hu':P.underlying t=some (.slice C):=j;simp[builtin,Builtin.len_,f,eC hu',e,goInt]
   .cases h
  .cases h
 .rename_i id L M n z b d;split at h
  .rename_i C j;split at h
   .rename_i F;simp only[bN,bF]at h;obtain⟨rfl,rfl⟩:=h;obtain⟨x,f,g⟩:∃x,c.args=#[x]/\ev sl x=.sref id L M n z b:=(by have H:c.args.size=1:=(by have:=congrArg List.length d;simpa using this);obtain⟨x,m⟩:=HE.1 H;exact⟨x,m,by rw[m]at d;simpa using d⟩);have l:=i x;rw[g]at l;obtain⟨_,_,_,a,Q,_,e,_⟩:=mG l;refine .quiet (u:=.int .i64 n) y ?_ (.sc _) rfl;rw[wO A D];obtain⟨t,J⟩:=HE.1 F;rw[J]at j ⊢;have hu':P.underlying t=some (.slice C):=j;simp[builtin,Builtin.len_,f,eC hu',e,goInt]
   .cases h
  .cases h
 .rename_i id d;split at h
  .rename_i Z N;split at h
   .rename_i kt et j;split at h
    .rename_i F;simp only[bN,bF]at h;obtain⟨rfl,rfl⟩:=h;obtain⟨x,f,g⟩:∃x,c.args=#[x]/\ev sl x=.mp id:=(by have H:c.args.size=1:=(by have:=congrArg List.length d;simpa using this);obtain⟨x,m⟩:=HE.1 H;exact⟨x,m,by rw[m]at d;simpa using d⟩);have l:=i x;rw[g]at l;obtain⟨R,hη,e⟩:=LR l;obtain⟨W,K,p,X,_,g3,⟨g4,_⟩,_,_⟩:=y.obj _ _ N;rw[hη]at X;cases X;refine .quiet (u:=.int .i64 Z.length) y ?_ (.sc _) rfl;rw[wO A D];obtain⟨t,J⟩:=HE.1 F;rw[J]at j ⊢;have hu':P.underlying t=some (.map kt et):=j;have hg:(getObj R).run P w=.ok (.map K p) w:=(by simp[getObj,Sem.run,g3]);simp[builtin,Builtin.len_,f,eC hu',e,goInt,hg,g4]
    .cases h
   .cases h
  .cases h
 .split at h
  .rename_i vs O;simp only[cE,bF]at h;obtain⟨r,hr,rfl,rfl⟩:=h;have e:=xhg i O;have:=Ok.pure (w:=w) (id0:=id0) y hr;rw[wO A D,e];exact this
  .cases h
def M9{c:Call}{b:Builtin}(C:b=.cap\/b=.max\/b=.min\/b=.real\/b=.imag\/b=.complex)(p:Sim E w st)(d:∀x:Operand,E.V w (ev sl x) (ρ x))(l:o.op=.call c)(m:c.callee=.builtin b)(h:aO P id0 o sl st.aC=some (v,objs')):Ok P E w st id0 (execOp ρ o) v objs':=by
 rcases C with rfl|rfl|rfl|rfl|rfl|rfl;all_goals
  simp only[aO,l,m,gK,cE,bF]at h;obtain⟨r,j,rfl,rfl⟩:=h;unfold mN at j;split at j
  .rename_i F f;cases j;unfold bi0 at f;split at f
   .rename_i H n;simp only[cE]at f;obtain⟨u,g,rfl⟩:=f;have e:=xhg d n;have:=Ok.pure (w:=w) (id0:=id0) p g;rw[wO l m,e];exact this
   .cases f
  .have:=Ok.abs (id0:=id0) (us:=c.args.toList.map ρ) p j (by simp) (λi a u t g=>by
    simp only[FV,cE]at t g
    obtain⟨x,D,rfl⟩:=t
    obtain⟨y,A,rfl⟩:=g
    rw[D]at A;cases A
    exact d x)
   rw[wO l m,show c.args.map ρ=(c.args.toList.map ρ).toArray by rw[<-Array.toList_map]];exact this
end
section
variable{P:Program}{E:Env}{w:World}{st:St}{id0:Id}{sl:Nat->AV}{ρ:Operand->Value}{o:Oper}{v:AV}{objs':Id->Option Ob}
def Row1(E:Env)(w:World)(b:List AV)(d:Array Value):Prop:=
 d.size=b.length/\∀(i:Nat) (a:AV),b[i]?=some a->∃v,d[i]?=some v/\E.V w a v/\v.oneCell'=true
def Row1.one{a:List AV}{b:Array Value}(h:Row1 E w a b):∀v∈b.toList,v.oneCell'=true:=by intro v g;obtain⟨i,e⟩:=FR.1 g;have d:i<a.length:=(by rw[<-h.1];have:=(lC.1 e).1;simpa using this);obtain⟨u,f,_,j⟩:=h.2 i a[i] (by simp[d]);have:b[i]?=some v:=(by simpa using e);rw[this]at f;cases f;exact j
def Row1.append{g b:List AV}{j d:Array Value}(h:Row1 E w g j)(l:Row1 E w b d):Row1 E w (g++b) (j++d):=by
 refine⟨by simp[h.1,l.1],λi a e=>?_⟩;rw[MG]at e;rw[xj,h.1];split at e
 .rename_i f;rw[aF f];exact h.2 i a e
 .rename_i f;rw[aB f];exact l.2 _ a e
def ZR{a:Addr}{n:Nat}{cs:List AV}(h:cs.length=n)(t:∀(i:Nat) (b:AV),cs[i]?=some b->∃v,w.cell? ⟨a.block,a.off+i,none⟩=some v/\E.V w b v/\v.oneCell'=true)(Z:0<n->a.spot=none){l:World}(u:l.heap=w.heap):∃e,(loadCells a n).run P l=.ok e l/\Row1 E w cs e:=by
 by_cases C:n=0
 .subst C;have:cs=[]:=(by simpa using h);subst this;exact⟨#[],rfl,rfl,λi b d=>by simp at d⟩
 .have g:=Z (by omega);have A:a=⟨a.block,a.off,none⟩:=(by cases a;simp at g;simp[g]);have o:∀j:Nat,∃v:Value,∀b,cs[j]?=some b->w.cell? ⟨a.block,a.off+j,none⟩=some v/\E.V w b v/\v.oneCell'=true:=by
   intro j;cases p:cs[j]? with
   |none=>exact⟨undef,λb d=>by cases d⟩
   |some b=>obtain⟨v,y⟩:=t j b p;exact⟨v,λD m=>by cases m;exact y⟩
  obtain⟨f,r⟩:=Classical.axiomOfChoice o;refine⟨Array.ofFn (n:=n) λk=>f k,?_,by simp[h],λi b d=>?_⟩
  .rw[A]
   exact xbf (λj p=>by
    have:=(r j cs[j] (by simp[show j<cs.length from by omega])).1
    rw[<-this]
    exact db (by rw[u]))
  .have x:i<n:=(by rw[<-h];exact(lC.1 d).1);exact⟨f i,by simp[x],(r i b d).2⟩
def dw{F:Nat->Prop}{η:Eta}{ζ:List Nat}{a:AV}{u:Value}(h:V F w eta0 [] a u):V F w η ζ a u:=
 V.mono (λ_ h=>h) (Ext.refl _ _) h (λ_ _ _ h=>by cases h) (λ_ _ h=>by simp at h)
def EW(hS:Sim E w st){x:AV}{u:Value}(K:E.V w x u){z m:Nat}{j:List AV}(h:elems st.aC z x=some (j,m)) :
    j.length=m*z/\(∀X,(Builtin.lenOf u).run P X=.ok m X)/\∀(k:Nat) (t:World),k<=m->t.heap=w.heap->∃f,(Builtin.firstCells z k u).run P t=.ok f t/\Row1 E w (j.take (k*z)) f:=by
 unfold elems at h;split at h
 .simp only[bN,bF]at h;obtain⟨rfl,rfl⟩:=h;have e:=kZ K;subst e;exact⟨by simp,λ_=>rfl,λk t H _=>⟨#[],rfl,by simp,λi b d=>by simp at d⟩⟩
 .rename_i C n b;split at h
  .rename_i D;simp only[bN,bF]at h;obtain⟨rfl,rfl⟩:=h;obtain⟨a,O,e,Y,_⟩:=uW K;subst e;refine⟨by simp;omega,λ_=>rfl,λk t H L=>?_⟩;have N:k*z<=n*z:=nT z H
   obtain⟨f,p,r⟩:=ZR (P:=P) (E:=E) (w:=w) (a:=a) (n:=k*z) (cs:=(C.take (n*z)).take (k*z)) (by simp;omega) (λi b d=>by
    rw[ei]at d
    rw[H0]at d
    split at d
    .obtain⟨v,p,r,Q⟩:=Y.1 i b d
     exact⟨v,p,dw r,Q⟩
    .cases d) (λy=>(Y.2 (by intro h;simp[h]at D;omega)).2) L
   exact⟨f,by simpa[Builtin.firstCells]using p,r⟩
  .cases h
 .rename_i id ver l n o b;split at h
  .rename_i C vv fr M;split at h
   .rename_i hc;obtain⟨rfl,rfl,D⟩:=hc;simp only[bN,bF]at h;obtain⟨rfl,rfl⟩:=h;obtain⟨R,g,len,a,O,hη,e,J,Z,hn,_⟩:=mG K;subst e;obtain⟨rfl,_,f,tt,Q,h4,h5,_⟩:=xU hS M hη;refine⟨by simp;omega,λ_=>rfl,λk t H L=>?_⟩;have N:k*o<=n*o:=nT o H;by_cases y:k*o=0
    .exact⟨#[],by simp[Builtin.firstCells,y,loadCells,loadCellsFrom],by simp[y],λi b d=>by simp[y]at d⟩
    .have A:a=⟨R,g+l,none⟩:=by
      rcases J with J|J
      .exact J
      .have:k=0:=(by omega);simp[this]at y
     obtain⟨F,p,r⟩:=ZR (P:=P) (E:=E) (w:=w) (a:=a) (n:=k*o) (cs:=((C.drop l).take (n*o)).take (k*o)) (by simp;omega) (λi b d=>by
      rw[ei,H0]at d
      split at d
      .rw[wZ]at d
       obtain⟨v,p,r,W⟩:=h5 _ b d
       refine⟨v,?_,r,W⟩
       rw[A,BP Q]
       show f[g+l+i]?=_
       rw[oG];exact p
      .cases d) (λ_=>by rw[A]) L
     exact⟨F,by simpa[Builtin.firstCells]using p,r⟩
   .cases h
  .cases h
 .cases h
def xew(N:Nat):∀(r c:Nat),Builtin.growBy N r c<=max c (N+(N+768) / 4)
 |0,c=>by simp[Builtin.growBy];omega
 |r+1,c=>by
  unfold Builtin.growBy;split
  .omega
  .rename_i h;have:=xew N r (c+(c+768) / 4);omega
def xwb(N c:Nat)(h:c<N):Builtin.nextslicecap N c<=2*N+1000:=by
 unfold Builtin.nextslicecap;split
 .omega
 .split
  .omega
  .have:=xew N 4 c;omega
def nQ(e:TypeId)(size:Nat)(h:Bool)(f:Option Addr)(aM d n:Nat)(x:Value)(app:Sem (Array Value)):Sem Value:=
 if aM+n<=d then do
  let new <-app
  if let some a:=f then storeCells (a.add (aM*size)) new.toList
  pure (.slice f (aM+n) d)
 else do
  if((aM+n:Nat):Int) > IntKind.i64.max/\(h\/(<-typeInfo e).bytes=0)then runtimePanic (.error "growslice: len out of range")
  if Builtin.nextslicecap (aM+n) d*(<-typeInfo e).bytes > 2 ^ 48 then(if h then runtimePanic (.error "growslice: len out of range")else do
   if !(<-Builtin.mayShare size aM n f x)then mark .noRoom
   unsupported (.resourceLimit "append: a slice or a string whose bytes no memory bears"))
  let b <-choose (.appendCap (aM+n) d e)
  askRoom (b*(<-typeInfo e).bytes)
  let old <-Builtin.firstCells size aM (.slice f aM d)
  let new <-app
  let g:=Builtin.zeroCells (<-zeroValue e).cells (b-(aM+n))
  pure (.slice (some (<-newRow e (old++new++g))) (aM+n) b)
def x8u{t g e ty:TypeId}{d:TypeDesc}{i:TypeInfo}{a:Option Addr}{aM b m:Nat}{x:Value}(h:P.underlying t=some (.slice e))(f:P.underlying g=some d)(j:∀k,d≠.int k)(l:P.info? e=some i)(n:(Builtin.lenOf x).run P w=.ok m w) :
    (Builtin.append_ #[t,g] ty #[.slice a aM b,x]).run P w=(nQ e i.size false a aM b m x (Builtin.firstCells i.size m x)).run P w:=by
 have hd':(match d with | .int _=>true|_=>false)=false:=(by cases d<;>first|rfl|exact absurd rfl (j _));unfold Builtin.append_ nQ;simp only[List.getElem?_toArray,jU,jV,Sem.run_bind,eC h,Result.andThen_ok,kL l,eC f,Sem.run_pure,fH,cT,n,cF,cM,false_or];split<;>rfl
end
section
variable{P:Program}{E:Env}{w:World}{st:St}{id0:Id}{sl:Nat->AV}{ρ:Operand->Value}{o:Oper}{v:AV}{objs':Id->Option Ob}
def x8t{t f e ty:TypeId}{k g:IntKind}{i:TypeInfo}{a:Option Addr}{aM b:Nat}{n:Int}(j:P.underlying t=some (.slice e))(d:P.underlying f=some (.int k))(h:P.info? e=some i)(p:0<=n)(r:n<=2 ^ 40)(u:n*i.bytes<=2 ^ 47) :
    (Builtin.append_ #[t,f] ty #[.slice a aM b,.int g n]).run P w =
     (nQ e i.size true a aM b n.toNat (.int g n) (if n.toNat*i.size=0 then Pure.pure #[]else do Pure.pure (Builtin.zeroCells (<-zeroValue e).cells n.toNat))).run P w:=by
 have l:IntKind.i64.wrap n=n:=IntWalk.i64_in _ (by omega);have m:¬(n<0):=(by omega);have o:¬(n*(i.bytes:Int) > 2 ^ 48):=(by omega);unfold Builtin.append_ nQ;simp only[List.getElem?_toArray,jU,jV,Sem.run_bind,eC j,Result.andThen_ok,kL h,eC d,Sem.run_pure,cM,asInt,asIntOf,l,m,o,cT,L8 h,cN,fH,true_or,and_true];split<;>rfl
def xjg(P:Program)(E:Env)(w:World)(app:Sem (Array Value))(b:List AV):Prop:=
 ∀d:World,d.heap=w.heap->∃a,app.run P d=.ok a d/\Row1 E w b a
def dp{e:TypeId}{size:Nat}{g:Bool}{b:Option Addr}{aM d m:Nat}{x:Value}{app:Sem (Array Value)}{f:Array Value}(h:aM+m<=d)(i:app.run P w=.ok f w) :
    (nQ e size g b aM d m x app).run P w =
     (do
      if let some a:=b then storeCells (a.add (aM*size)) f.toList
      Pure.pure (Value.slice b (aM+m) d):Sem Value).run P w:=by
 unfold nQ;rw[aF h];simp only[Sem.run_bind,i,Result.andThen_ok];all_goals(cases b<;>rfl)
def xhj{e:TypeId}{zs:Bool}{base:Option Addr}{aM sCap m:Nat}{x:Value}{app:Sem (Array Value)}{d old:List AV}{i:TypeInfo}{p:Value}(K:P.info? e=some i)(L:∀w,(zeroValue e).run P w=.ok p w)(r:p.cells.size=i.size)(h:sCap<aM+m)(M:cH (aM+m) i.bytes)(N:xjg P E w app d)(O:∀w1:World,w1.heap=w.heap->∃arr,(Builtin.firstCells i.size aM (.slice base aM sCap)).run P w1=.ok arr w1/\Row1 E w old arr) :
    ∃(w1:World) (b:Nat) (arr:Array Value),w1.heap=w.heap/\(nQ e i.size zs base aM sCap m x app).run P w=.ok (.slice (some ⟨w.heap.size,0,none⟩) (aM+m) b) {w1 with heap:=w1.heap.push (.cells arr e (0,0))} /\
     aM+m<=b/\arr.size=old.length+d.length+(b-(aM+m))*i.size/\(∀(k:Nat) (a:AV),(old++d)[k]?=some a->∃v,arr[k]?=some v/\E.V w a v/\v.oneCell'=true)/\w1.os=w.os/\w1.output=w.output:=by
 let w1:World:={w with drawn:=w.drawn+1}
 obtain⟨W,X⟩:=M;have f:∃b,aM+m<=b/\(choose (.appendCap (aM+m) sCap e)).run P w=.ok b w1:=(by refine⟨Question.cut (.appendCap (aM+m) sCap e) (w.tape w.drawn (.appendCap (aM+m) sCap e)),by simp[Question.cut],?_⟩;simp[Question.forced,w1]);obtain⟨b,C,D⟩:=f;obtain⟨j,F,l⟩:=O w1 rfl;obtain⟨n,H,o⟩:=N w1 rfl;have g:¬(((aM+m:Nat):Int) > IntKind.i64.max):=(by have:IntKind.i64.max=9223372036854775807:=(by rfl);rw[this];omega);have y:Builtin.nextslicecap (aM+m) sCap*i.bytes<=2 ^ 48:=(by have R:=xwb (aM+m) sCap h;have:=nT i.bytes R;omega);have A:¬(Builtin.nextslicecap (aM+m) sCap*i.bytes > 2 ^ 48):=(by omega);refine⟨w1,b,j++n++Builtin.zeroCells p.cells (b-(aM+m)),rfl,?_,C,?_,λk a Q=>?_,rfl,rfl⟩
 .unfold nQ;rw[aB (by omega)];simp only[Sem.run_bind,L8 K,Result.andThen_ok,g,false_and,cT,A,Sem.run_pure,D,run_askRoom,F,H,L,newRow,run_newObj];rfl
 .simp only[Array.size_append,l.1,o.1,Builtin.zeroCells,Array.size_map,Array.size_range,r]
 .obtain⟨v,J,Y⟩:=(l.append o).2 k a Q;refine⟨v,?_,Y⟩;rw[VT]
  .exact J
  .have:=(VS.1 J).1;exact this
def Sim.bump{E':Env}{w':World}{id:Id}{cs:List AV}{m o A len nb nbase:Nat}{new:List AV}{arr:Array Value}{t:TypeId}(C:Sim E w st)(N:id.1<st.next)(P:st.aC id=some (.row cs m false))(Q:E.η id m=some (o,A,len))(d:E'={E with η:=λj v=>if j=id/\v=m+1 then some (nb,nbase,new.length)else E.η j v,O:=λb=>if b=nb then some id else E.O b})(n:(nb=o/\w'.heap.size=w.heap.size)\/(nb=w.heap.size/\w'.heap.size=w.heap.size+1))(f:∀b,b<w.heap.size->b≠nb->w'.heap[b]?=w.heap[b]?)(D:∀b,b<w.heap.size->w'.shape? b=w.shape? b)(H:w'.heap[nb]?=some (.cells arr t (0,0)))(J:nbase+new.length<=arr.size)(hc:∀(k:Nat) (a:AV),new[k]?=some a->∃v,arr[nbase+k]?=some v/\E.V w a v/\v.oneCell'=true)(R:w'.os=w.os:=by first|assumption|rfl)(K:w'.output=w.output:=by first|assumption|rfl) :
    Sim E' w' {st with aC:=bH st.aC id (some (.row new (m+1) false))}/\Later E w E' w':=by
 obtain⟨rfl,l,arr0,t0,h3,h4,h5,M⟩:=xU C P Q;simp only[fH,cT]at M;have X:o<w.heap.size:=tQ (mL h3);have Y:∀i v x,E.η i v=some x->E'.η i v=some x:=λi v x h=>by
  rw[d];show(if _ then _ else _)=_;split
  .rename_i e;rw[e.1,e.2,l _ (mH _)]at h;cases h
  .exact h
 have hG:∀b,E.G b->b≠nb:=λb g e=>by
  subst e;rcases n with ⟨rfl,_⟩|⟨rfl,_⟩
  .have:=C.own _ _ M;rcases g with g|g
   .exact this.1 g
   .exact this.2.1 g
  .have:=C.fin _ g;omega
 have L:Ext E.G w w':=⟨by omega,D,λb g p=>f b p (hG b g),R,K⟩;have Z:E'.F=E.F:=(by rw[d]);have hζ:E'.ζ=E.ζ:=(by rw[d]);have hV:∀{a v},E.V w a v->E'.V w' a v:=λh=>V.mono (λ_ h=>by rw[Z];exact h) (L.kA λ_ _ g=>.inl g) h Y (λ_ _ h=>by rw[hζ];exact h)
 refine C.turn (E':=E') (λb r e=>⟨r,by
  have p:=D6 e
  rw[f b p λx=>?_]
  .exact e
  .subst x
   rcases n with ⟨rfl,_⟩|⟨rfl,_⟩
   .rw[h3]at e;cases e
   .omega,rfl⟩) N Y (λi v u=>by rw[d];show(if _ then _ else _)=_;rw[aB (λe=>u e.1)]) Z (by rw[d]) hζ
  (λb p=>by
   rw[d]
   show(if _ then _ else _)=_
   split
   .rename_i e;subst e
    rcases n with ⟨rfl,_⟩|⟨rfl,_⟩
    .exact M.symm
    .omega
   .rfl)
  (λb i p y=>by
   rw[d]at y
   replace y:(if b=nb then some id else E.O b)=some i:=y
   split at y
   .rename_i e;cases y;exact⟨rfl,by omega⟩
   .have:=(C.own b i y).2.2;omega)
  (by omega) D (λb p u=>f b p λe=>by
   subst e
   rcases n with ⟨rfl,_⟩|⟨rfl,_⟩
   .exact u M
   .omega)
  ⟨nb,nbase,arr,t,by rw[d];show(if _ then _ else _)=_;rw[aF ⟨rfl,rfl⟩],λv' hv'=>by
   rw[d]
   show(if _ then _ else _)=_
   rw[aB (by rintro⟨_,e⟩;omega)]
   exact l _ (by omega),H,J,λk a ha=>by
   obtain⟨v,hv,W,ho⟩:=hc k a ha
   exact⟨v,hv,hV W,ho⟩,by
   simp only[fH,cT]
   rw[d]
   show(if _ then _ else _)=_
   rw[aF rfl]⟩
end
section
variable{P:Program}{E:Env}{w:World}{st:St}{id0:Id}{sl:Nat->AV}{ρ:Operand->Value}{o:Oper}{v:AV}{objs':Id->Option Ob}
def Z'{e:TypeId}{zs:Bool}{s:AV}{us:Value}{g:Option Addr}{aM f m:Nat}{x:Value}{app:Sem (Array Value)}{src:List AV}{i:TypeInfo}{zv:Value}(hS:Sim E w st)(hid:id0.1<st.next)(hf:∀M,E.η id0 M=none)(hi:P.info? e=some i)(hz:∀w,(zeroValue e).run P w=.ok zv w)(hzs:zv.cells.size=i.size)(hpos:0<i.size)(ha:xjg P E w app src)(O:src.length=m*i.size)(X:us=.slice g aM f)(h:(match s with
        | .sc (.slice none 0 0)=>if m=0 then some (s,st.aC)else if cH m i.bytes then some (AV.sref id0 0 0 m i.size true,bH st.aC id0 (some (.row src 0 false)))else none
        | .aN p n true=>if n*i.size<=p.length then(if m=0 then some (s,st.aC)else if cH (n+m) i.bytes then some (.sref id0 0 0 (n+m) i.size true,bH st.aC id0 (some (.row (p.take (n*i.size)++src) 0 false)))else none)else none
        | .sref id M d n z true=>match st.aC id with
          |some (.row p v false)=>if v=M/\z=i.size/\d+n*z<=p.length/\cH (n+m) i.bytes then
           if m=0 then some (s,st.aC)
           else if d+(n+m)*z<=p.length then some (.sref id M d (n+m) z true,bH st.aC id (some (.row (cS p (d+n*z) src) v false)))
           else some (.sref id (M+1) 0 (n+m) z true,bH st.aC id (some (.row ((p.drop d).take (n*z)++src) (v+1) false)))
           else none
          |_=>none
        | .sref id M d n z false=>match st.aC id with
          |some (.row p v _)=>if v=M/\z=i.size/\d+n*z<=p.length/\cH (n+m) i.bytes then
           if m=0 then some (s,st.aC)
           else some (.sref id0 0 0 (n+m) i.size true,bH st.aC id0 (some (.row ((p.drop d).take (n*z)++src) 0 false)))
           else none
          |_=>none
        |_=>none:Option (AV×(Id->Option Ob)))=some (v,objs')) (hV:E.V w s us) :
    Ok P E w st id0 (do Pure.pure (.value (<-nQ e i.size zs g aM f m x app))) v objs':=by
 obtain⟨Q,ha0,R⟩:=ha w rfl
 have fits:∀{w':World},aM+m<=f->(nQ e i.size zs g aM f m x app).run P w=.ok (.slice g (aM+m) f) w'->(do Pure.pure (Next.value (<-nQ e i.size zs g aM f m x app)):Sem Next).run P w=.ok (.value (.slice g (aM+m) f)) w':=by
  intro w' _ h;simp[h]
 have zero:m=0->v=s->objs'=st.aC->aM<=f->Ok P E w st id0 (do Pure.pure (.value (<-nQ e i.size zs g aM f m x app))) v objs':=by
  intro Y e1 e2 hle
  subst e1
  have hemp:Q.toList=[]:=by
   have h1:=R.1
   rw[O,Y]at h1
   have h2:Q.size=0:=by simpa using h1
   have:Q=#[]:=Array.size_eq_zero_iff.1 h2
   simp[this]
  refine .quiet (u:=us) hS ?_ hV e2
  rw[fits (w':=w) (by omega)]
  .rw[X,Y];rfl
  .rw[dp (by omega) ha0,hemp]
   cases g<;>simp[storeCells]
 have fresh:∀(old:List AV),old.length=aM*i.size->f<aM+m->cH (aM+m) i.bytes->(∀K:World,K.heap=w.heap->∃l,(Builtin.firstCells i.size aM (.slice g aM f)).run P K=.ok l K/\Row1 E w old l) ->
  v=.sref id0 0 0 (aM+m) i.size true->objs'=bH st.aC id0 (some (.row (old++src) 0 false))->Ok P E w st id0 (do Pure.pure (.value (<-nQ e i.size zs g aM f m x app))) v objs':=by
  intro old hold hcap hr hofc e1 e2
  obtain⟨K,D,l,F,hrun,hc1,hsz,N,hos1,hout1⟩:=xhj (P:=P) (base:=g) (sCap:=f) (x:=x) (zs:=zs) hi hz hzs hcap hr ha hofc
  subst e1
  refine CA (t:=e) (arr:=l) (cs:=old++src) hS hid hf (w1:=K) F (u:=.slice (some ⟨w.heap.size,0,none⟩) (aM+m) D) (by simp[hrun]) (by rw[hsz];simp) N (λE' w' h1 h2=>?_) e2
  have hl:(old++src).length=(aM+m)*i.size:=by simp[hold,O,wX]
  have hm:(aM+m)*i.size+(D-(aM+m))*i.size=D*i.size:=by rw[<-wX];congr 1;omega
  refine .sref id0 0 0 (aM+m) i.size true w.heap.size 0 _ ⟨w.heap.size,0,none⟩ D h1 (.inl rfl) (by rw[hl];omega) hc1 ⟨λ_=>?_,λh=>by cases h⟩ ⟨e,l.size,h2,?_⟩
  .rw[hl]
   have:=nT i.size hc1
   omega
  .rw[hsz,hold,O,<-wX];omega
 split at h
 .have e':=kZ hV
  rw[X]at e'
  cases e'
  split at h
  .rename_i Y
   simp only[bN,bF]at h
   exact zero Y h.1.symm h.2.symm (bO _)
  .rename_i Y
   split at h
   .rename_i hr
    simp only[bN,bF]at h
    refine fresh [] (by simp) (by omega) (by simpa using hr) (λK _=>⟨#[],rfl,rfl,λi b L=>by simp at L⟩) (by simpa using h.1.symm) (by simpa using h.2.symm)
   .cases h
 .rename_i p n
  obtain⟨a,D,e',hL,hn,hx⟩:=uW hV
  rw[X]at e'
  cases e'
  have hcn:=hx rfl
  split at h
  .rename_i hle
   split at h
   .rename_i Y
    simp only[bN,bF]at h
    exact zero Y h.1.symm h.2.symm hn
   .rename_i Y
    split at h
    .rename_i hr
     simp only[bN,bF]at h
     refine fresh (p.take (aM*i.size)) (by simp;omega) (by omega) hr (λK F=>?_) h.1.symm h.2.symm
     obtain⟨l,h1,h2⟩:=ZR (P:=P) (E:=E) (w:=w) (a:=a) (n:=aM*i.size) (cs:=p.take (aM*i.size)) (by simp;omega) (λk b L=>by
      obtain⟨v,h1,h2,h3⟩:=(hL.take _).1 k b L
      exact⟨v,h1,dw h2,h3⟩) (λY=>(hL.2 (by intro h;simp[h]at hle;omega)).2) F
     exact⟨l,by simpa[Builtin.firstCells]using h1,h2⟩
    .cases h
  .cases h
 .rename_i id M d n z
  obtain⟨H,bs,len,a,D,hη,e',W,hlen,hn,hx,tt,sz,hsh,hsz⟩:=mG hV
  rw[X]at e'
  cases e'
  split at h
  .rename_i p vv hob
   split at h
   .rename_i hc
    obtain⟨rfl,rfl,hle,hr⟩:=hc
    obtain⟨rfl,hlast,l,t0,h3,h4,h5,h6⟩:=xU hS hob hη
    simp only[fH,cT]at h6
    have hx':=hx.1 rfl
    split at h
    .rename_i Y
     simp only[bN,bF]at h
     exact zero Y h.1.symm h.2.symm hn
    .rename_i Y
     have hmul:(aM+m)*i.size=aM*i.size+m*i.size:=wX _ _ _
     have hmp:0<m*i.size:=Nat.mul_pos (by omega) hpos
     by_cases J:aM+m<=f
     .have A:a=⟨H,bs+d,none⟩:=by
       rcases W with W|W
       .exact W
       .omega
      have hfm:=nT i.size J
      have hshape:=mL h3
      rw[hsh]at hshape
      have hszz:sz=l.size:=by cases hshape;rfl
      split at h
      .rename_i hin
       simp only[bN,bF]at h
       obtain⟨rfl,rfl⟩:=h
       obtain⟨w',hst,hS',hL'⟩:=HX (P:=P) (vs:=Q.toList) (as:=src) (off:=d+aM*i.size) hS (hS.dom _ _ _ hη) hob hη (by simpa using R.1) (by omega)
        (λk b L=>let⟨u,h1,h2,_⟩:=R.2 k b L;⟨u,by simpa using h1,h2⟩) R.one
       refine⟨_,_,E,w',fits J ?_,.inl rfl,?_,hS',hL',λ_ _ h=>.inl h⟩
       .rw[dp J ha0]
        simp[A,zP,<-oG]at hst ⊢
        simp[hst]
       .rw[A]
        have hsh':w'.shape? H=some (tt,sz):=by rw[hL'.ext.shape _ (tQ hsh)];exact hsh
        exact .sref id _ d _ i.size true H bs p.length _ f hη (.inl rfl) (by omega) J ⟨λ_=>hx',λh=>by cases h⟩ ⟨tt,sz,hsh',hsz⟩
      .rename_i hin
       simp only[bN,bF]at h
       obtain⟨rfl,rfl⟩:=h
       obtain⟨w',C,hst,hh,hs',hc',hos,hout⟩:=YG (P:=P) (b:=H) (o:=bs+d+aM*i.size) (t:=t0) Q.toList 0 w l h3 (by have:=R.1;rw[pV];omega) R.one
       have hblk:H<w.heap.size:=tQ hsh
       have hnl:((p.drop d).take (aM*i.size)++src).length=(aM+m)*i.size:=by simp;omega
       have y:w'.heap[H]?=some (.cells C t0 (0,0)):=by rw[hh];simp[hblk]
       have r:∀b,b≠H->w'.heap[b]?=w.heap[b]?:=λb Z=>by rw[hh,tG (Ne.symm Z)]
       have hshw:∀b,b<w.heap.size->w'.shape? b=w.shape? b:=λb _=>by
        by_cases hbb:b=H
        .subst hbb;rw[mL y,mL h3,hs']
        .simp[World.shape?,r b hbb]
       obtain⟨hS',hL'⟩:=hS.bump (E':=_) (w':=w') (nb:=H) (nbase:=bs+d) (new:=(p.drop d).take (aM*i.size)++src) (arr:=C) (t:=t0) (hS.dom _ _ _ hη) hob hη rfl (.inl ⟨rfl,by rw[hh];simp⟩) (λb _ Z=>r b Z) hshw y
        (by rw[hnl,hs'];omega) (λk b L=>by
         have hck:=hc' (bs+d+k)
         simp only[uZ]at hck
         have hz0:=R.1
         rw[MG]at L
         have htl:((p.drop d).take (aM*i.size)).length=aM*i.size:=by simp;omega
         rw[htl]at L
         split at L
         .rename_i hk
          rw[H0,aF hk,wZ]at L
          obtain⟨v,hv,hV',ho'⟩:=h5 _ _ L
          refine⟨v,?_,hV',ho'⟩
          rw[hck,aB (by omega),oG];exact hv
         .rename_i hk
          obtain⟨v,hv,hV',ho'⟩:=R.2 _ _ L
          have hkl:k-aM*i.size<src.length:=(lC.1 L).1
          refine⟨v,?_,hV',ho'⟩
          rw[hck,aF (by rw[pV];omega),show bs+d+k-(bs+d+aM*i.size)=k-aM*i.size from by omega]
          simpa using hv)
       refine⟨_,_,_,w',fits J ?_,.inl rfl,?_,hS',hL',λj ver' Z=>?_⟩
       .rw[dp J ha0]
        simp[A,zP]at hst ⊢
        simp[hst]
       .rw[A]
        refine .sref id _ 0 _ i.size true H (bs+d) _ _ f (by show(if _ then _ else _)=_;rw[aF ⟨rfl,rfl⟩]) (.inl rfl) (by rw[hnl];omega) J ⟨λ_=>by rw[hnl];omega,λh=>by cases h⟩ ⟨t0,C.size,mL y,by rw[hs'];omega⟩
       .by_cases hj:j=id
        .subst hj;exact .inr (.inr ⟨_,by rw[hη];simp⟩)
        .left
         intro e
         apply Z
         show(if _ then _ else _)=_
         rw[aB (λh=>hj h.1)];exact e
     .have hnin:¬(d+(aM+m)*i.size<=p.length):=by
       intro hin
       have h1:(aM+m)*i.size<=f*i.size:=by omega
       have:=Nat.le_of_mul_le_mul_right h1 hpos
       omega
      rw[aB hnin]at h
      simp only[bN,bF]at h
      obtain⟨rfl,rfl⟩:=h
      have hofc:∀K:World,K.heap=w.heap->∃l,(Builtin.firstCells i.size aM (.slice (some a) aM f)).run P K=.ok l K/\Row1 E w ((p.drop d).take (aM*i.size)) l:=by
       have hel:elems st.aC i.size (.sref id vv d aM i.size true)=some ((p.drop d).take (aM*i.size),aM):=by
        simp[elems,hob,hle]
       obtain⟨_,_,h7⟩:=EW (P:=P) hS hV hel
       intro K F
       obtain⟨l,h8,h9⟩:=h7 aM K (bO _) F
       rw[X]at h8
       refine⟨l,h8,?_⟩
       rw[ei,Nat.min_self]at h9
       exact h9
      obtain⟨K,D,C,F,hrun,hc1,hsz',N,hos1,hout1⟩:=xhj (P:=P) (base:=some a) (sCap:=f) (x:=x) (zs:=zs) hi hz hzs (by omega) hr ha hofc
      have hnl:((p.drop d).take (aM*i.size)++src).length=(aM+m)*i.size:=by simp;omega
      have hol:((p.drop d).take (aM*i.size)).length=aM*i.size:=by simp;omega
      let w':World:={K with heap:=K.heap.push (.cells C e (0,0))}
      have r:∀b,b<w.heap.size->w'.heap[b]?=w.heap[b]?:=λb L=>by
       show(K.heap.push _)[b]?=_
       rw[F,J1 L,iZ L]
      have y:w'.heap[w.heap.size]?=some (.cells C e (0,0)):=by show(K.heap.push _)[_]?=_;rw[F];simp
      obtain⟨hS',hL'⟩:=hS.bump (E':=_) (w':=w') (nb:=w.heap.size) (nbase:=0) (new:=(p.drop d).take (aM*i.size)++src) (arr:=C) (t:=e) (hS.dom _ _ _ hη) hob hη rfl (.inr ⟨rfl,by show(K.heap.push _).size=_;rw[F];simp⟩) (λb L _=>r b L) (λb L=>by simp[World.shape?,r b L]) y
       (by rw[hnl,hsz',hol,O];omega) (λk b L=>by simpa using N k b L)
      have hm:(aM+m)*i.size+(D-(aM+m))*i.size=D*i.size:=by rw[<-wX];congr 1;omega
      refine⟨_,.slice (some ⟨w.heap.size,0,none⟩) (aM+m) D,_,w',by simp[hrun,w'],.inl rfl,?_,hS',hL',λj ver' Z=>?_⟩
      .refine .sref id _ 0 _ i.size true w.heap.size 0 _ _ D (by show(if _ then _ else _)=_;rw[aF ⟨rfl,rfl⟩]) (.inl rfl) (by rw[hnl];omega) hc1 ⟨λ_=>by rw[hnl];omega,λh=>by cases h⟩ ⟨e,C.size,mL y,by rw[hsz',hol,O];omega⟩
      .by_cases hj:j=id
       .subst hj;exact .inr (.inr ⟨_,by rw[hη];simp⟩)
       .left
        intro e
        apply Z
        show(if _ then _ else _)=_
        rw[aB (λh=>hj h.1)];exact e
   .cases h
  .cases h
 .rename_i id M d n z
  obtain⟨H,bs,len,a,D,hη,e',W,hlen,hn,hx,tt,sz,hsh,hsz⟩:=mG hV
  rw[X]at e'
  cases e'
  have hcap:=hx.2 rfl
  split at h
  .rename_i p vv fr hob
   split at h
   .rename_i hc
    obtain⟨rfl,rfl,hle,hr⟩:=hc
    split at h
    .rename_i Y
     simp only[bN,bF]at h
     exact zero Y h.1.symm h.2.symm hn
    .rename_i Y
     simp only[bN,bF]at h
     refine fresh ((p.drop d).take (aM*i.size)) (by simp;omega) (by omega) hr (λK F=>?_) h.1.symm h.2.symm
     have hel:elems st.aC i.size (.sref id vv d aM i.size false)=some ((p.drop d).take (aM*i.size),aM):=by
      simp[elems,hob,hle]
     obtain⟨_,_,h7⟩:=EW (P:=P) hS hV hel
     obtain⟨l,h8,h9⟩:=h7 aM K (bO _) F
     rw[X]at h8
     refine⟨l,h8,?_⟩
     rw[ei,Nat.min_self]at h9
     exact h9
   .cases h
  .cases h
 .cases h
end
section
variable{P:Program}{E:Env}{w:World}{st:St}{id0:Id}{sl:Nat->AV}{ρ:Operand->Value}{o:Oper}{v:AV}{objs':Id->Option Ob}
def x14{F:Nat->Prop}{η:Eta}{ζ:List Nat}{b:Id->Option Ob}{z m:Nat}{d:List AV}{x:AV}{u:Value}(f:V F w η ζ x u)(h:elems b z x=some (d,m)):∃a n c,u=.slice a n c:=by
 unfold elems at h;split at h
 .have:=kZ f;exact⟨_,_,_,this⟩
 .obtain⟨a,g,e,_⟩:=uW f;exact⟨_,_,_,e⟩
 .obtain⟨_,_,_,a,g,_,e,_⟩:=mG f;exact⟨_,_,_,e⟩
 .cases h
def D'{a:Array Operand}{s x:AV}(h:a.toList.map (ev sl)=[s,x]):∃p q,a=#[p,q]/\ev sl p=s/\ev sl q=x:=by
 obtain⟨l⟩:=a;match l,h with
 |[p,q],h=>simp at h;exact⟨p,q,rfl,h.1,h.2⟩
def xmn{a:Array TypeId}{t b:TypeId}(h:a.toList=[t,b]):a=#[t,b]:=by obtain⟨l⟩:=a;simp at h;subst h;rfl
def xv0{c:Call}(hS:Sim E w st)(A:∀x:Operand,E.V w (ev sl x) (ρ x))(N:id0.1<st.next)(hf:∀r,E.η id0 r=none)(ho:o.op=.call c)(hc:c.callee=.builtin .append)(h:aO P id0 o sl st.aC=some (v,objs')):Ok P E w st id0 (execOp ρ o) v objs':=by
 simp only[aO,ho,hc,gK,wH]at h;split at h
 .rename_i t t' s x ht R;obtain⟨p,q,hpq,rfl,rfl⟩:=D' R;have htt:=xmn ht;split at h
  .rename_i e d hu W;split at h
   .rename_i i zc hi hzc;split at h
    .rename_i hcc;obtain⟨D,K⟩:=hcc;obtain⟨zv,M,rfl,hz3⟩:=d6 hzc;simp only[lU,pV]at D
     have L:∀{src:List AV} {m:Nat},(match ev sl p with
      | .sc (.slice none 0 0)=>if m=0 then some (ev sl p,st.aC)else if cH m i.bytes then some (AV.sref id0 0 0 m i.size true,bH st.aC id0 (some (.row src 0 false)))else none
      | .aN C n true=>if n*i.size<=C.length then(if m=0 then some (ev sl p,st.aC)else if cH (n+m) i.bytes then some (.sref id0 0 0 (n+m) i.size true,bH st.aC id0 (some (.row (C.take (n*i.size)++src) 0 false)))else none)else none
      | .sref id r l n z true=>match st.aC id with
        |some (.row C v false)=>if v=r/\z=i.size/\l+n*z<=C.length/\cH (n+m) i.bytes then
         if m=0 then some (ev sl p,st.aC)
         else if l+(n+m)*z<=C.length then some (.sref id r l (n+m) z true,bH st.aC id (some (.row (cS C (l+n*z) src) v false)))
         else some (.sref id (r+1) 0 (n+m) z true,bH st.aC id (some (.row ((C.drop l).take (n*z)++src) (v+1) false)))
         else none
        |_=>none
      | .sref id r l n z false=>match st.aC id with
        |some (.row C v _)=>if v=r/\z=i.size/\l+n*z<=C.length/\cH (n+m) i.bytes then
         if m=0 then some (ev sl p,st.aC)
         else some (.sref id0 0 0 (n+m) i.size true,bH st.aC id0 (some (.row ((C.drop l).take (n*z)++src) 0 false)))
         else none
        |_=>none
      |_=>none:Option (AV×(Id->Option Ob)))=some (v,objs')->∃g aM j,ρ p=.slice g aM j:=by
      intro src m h
      have J:=A p
      split at h
      .rename_i y;rw[y]at J;exact⟨_,_,_,kZ J⟩
      .rename_i y;rw[y]at J;obtain⟨a,X,e,_⟩:=uW J;exact⟨_,_,_,e⟩
      .rename_i y;rw[y]at J;obtain⟨_,_,_,a,X,_,e,_⟩:=mG J;exact⟨_,_,_,e⟩
      .rename_i y;rw[y]at J;obtain⟨_,_,_,a,X,_,e,_⟩:=mG J;exact⟨_,_,_,e⟩
      .cases h
     have hex:execOp ρ o=(do Pure.pure (.value (<-Builtin.append_ #[t,t'] o.type #[ρ p,ρ q]))):=(by rw[wO ho hc,htt,hpq];simp[builtin]);have fin:∀{zs:Bool} {g:Option Addr} {aM j m:Nat} {x:Value} {app:Sem (Array Value)},(Builtin.append_ #[t,t'] o.type #[ρ p,ρ q]).run P w=(nQ e i.size zs g aM j m x app).run P w ->
      Ok P E w st id0 (do Pure.pure (.value (<-nQ e i.size zs g aM j m x app))) v objs'->Ok P E w st id0 (execOp ρ o) v objs':=by
      intro zs g aM j m x app heq hok;obtain⟨nx,u,E',w',h1,h2⟩:=hok;refine⟨nx,u,E',w',?_,h2⟩;rw[hex];simp only[Sem.run_bind,heq]at h1 ⊢;exact h1
     split at h
     .rename_i src m f;obtain⟨g,aM,j,y⟩:=L h;split at f
      .rename_i k;split at f
       .rename_i n hn;split at f
        .rename_i Q;obtain⟨b1,b2,b3⟩:=Q;simp only[bN,bF]at f;obtain⟨rfl,rfl⟩:=f;obtain⟨k',hq⟩:=pO (A q) hn;refine fin (by rw[y,hq];exact x8t hu W hi b1 b2 b3) (Z' (s:=ev sl p) (us:=ρ p) (src:=eN (zv.cells.toList.map .sc) (n.toNat*i.size)) hS N hf hi M D K (λw1 O=>?_) (by simp[eN]) y h (A p));obtain⟨Y,hz4⟩:=HG (F:=E.F) (w:=w) (η:=E.η) (ζ:=E.ζ.1) zv.cells (n.toNat*i.size) (λ_=>by omega) hz3;by_cases h0:n.toNat*i.size=0
         .rw[aF h0];refine⟨#[],rfl,by simp[eN,h0],λk b Q=>by simp[eN,h0]at Q⟩
         .rw[aB h0];refine⟨(Array.range (n.toNat*i.size)).map (zv.cells[· % zv.cells.size]!),?_,Y.1,λk b Q=>?_⟩
          .simp only[Sem.run_bind,M,Result.andThen_ok,Sem.run_pure,Builtin.zeroCells,D]
          .obtain⟨u,Z,hu2⟩:=Y.2 k b Q;exact⟨u,Z,hu2,hz4 u (by simpa using xh Z)⟩
        .cases f
       .cases f
      .rename_i hd;obtain⟨hl,hlen,H⟩:=EW (P:=P) hS (A q) f;refine fin (by rw[y];exact x8u hu W (λk hk=>hd k hk) hi (hlen w)) (Z' (s:=ev sl p) (us:=ρ p) (src:=src) hS N hf hi M D K (λw1 O=>?_) hl y h (A p));obtain⟨arr,h1,h2⟩:=H m w1 (bO _) O;exact⟨arr,h1,by rwa[<-hl,el]at h2⟩
     .cases h
    .cases h
   .cases h
  .cases h
 .cases h
def xvr{c:Call}(C:Sim E w st)(D:∀x:Operand,E.V w (ev sl x) (ρ x))(ho:o.op=.call c)(hc:c.callee=.builtin .copy)(h:aO P id0 o sl st.aC=some (v,objs')):Ok P E w st id0 (execOp ρ o) v objs':=by
 simp only[aO,ho,hc,gK,yQ]at h;split at h
 .rename_i t tr s x ht F;obtain⟨p,q,hpq,rfl,rfl⟩:=D' F;split at h
  .rename_i e hu;split at h
   .rename_i i hi;split at h
    .rename_i H m J;obtain⟨hl,r,d⟩:=EW (P:=P) C (D q) J;have M:c.argTypes[0]?=some t:=(by rw[<-VR,ht];rfl);have N:execOp ρ o=(do Pure.pure (.value (<-Builtin.copy_ c.argTypes o.type #[ρ p,ρ q]))):=(by rw[wO ho hc,hpq];simp[builtin]);have X:=D p;split at h
     .rename_i id ver K n z b Z;rw[Z]at X;obtain⟨blk,bs,len,a,cap,hη,ep,f,hlen',hn,hx,_⟩:=mG X;split at h
      .rename_i cs vv L;split at h
       .rename_i hcc;obtain⟨rfl,rfl,hle⟩:=hcc;simp only[bN,bF]at h;obtain⟨rfl,rfl⟩:=h;have hk:Nat.min m n<=m:=Nat.min_le_left _ _;have O:Nat.min m n<=n:=Nat.min_le_right _ _;obtain⟨k,y⟩:∃k,Nat.min m n=k:=⟨_,rfl⟩;rw[y]at hk O ⊢;obtain⟨g,W,A⟩:=d k w hk rfl;have hks:(H.take (k*i.size)).length=k*i.size:=(by have:=nT i.size hk;simp;omega);have hkn':=nT i.size O;obtain⟨w',hst,hS',hL'⟩:=HX (P:=P) (vs:=g.toList) (as:=H.take (k*i.size)) (off:=K) C (C.dom _ _ _ hη) L hη (by simpa using A.1) (by omega)
         (λj b hb=>let⟨u,W,A,_⟩:=A.2 j b hb;⟨u,by simpa using W,A⟩) A.one
        have l:∀Y:World,(storeCells a g.toList).run P w=.ok () Y->(execOp ρ o).run P w=.ok (.value (.int .i64 k)) Y:=(by intro Y hw2;rw[N];simp[Builtin.copy_,M,eC hu,ep,r,kL hi,y,W,goInt,hw2]);rcases f with f|f
        .refine⟨_,.int .i64 k,E,w',l w' (by rw[f];exact hst),.inl rfl,.sc _,hS',hL',λ_ _ h=>.inl h⟩
        .have Q:k=0:=(by omega);have R:g.toList=[]:=(by have:=A.1;rw[hks,Q,wW]at this;have:g=#[]:=Array.size_eq_zero_iff.1 this;simp[this]);refine .quiet (u:=.int .i64 k) C (l w (by rw[R];rfl)) (.sc _) ?_;funext j;simp only[bH];split
         .rename_i hj;rw[hj,L,Q];simp[cS]
         .rfl
       .cases h
      .cases h
     .rename_i Z;rw[Z]at X;have ep:=kZ X;simp only[bN,bF]at h;obtain⟨rfl,rfl⟩:=h;obtain⟨g,W,_⟩:=d 0 w (FP _) rfl;refine .quiet (u:=.int .i64 0) C ?_ (.sc _) rfl;rw[N];simp[Builtin.copy_,M,eC hu,ep,r,kL hi,W,goInt]
     .cases h
    .cases h
   .cases h
  .cases h
 .cases h
end
end Go.Ix
